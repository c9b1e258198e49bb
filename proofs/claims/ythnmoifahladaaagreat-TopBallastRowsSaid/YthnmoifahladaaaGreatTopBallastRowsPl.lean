/- The plain law: the Lean function of the law returns true for every input, and what it needs. No conditions. -/
import Derived.Test.YthnmoifahladaaaGreatTopBallastRowsPk
set_option linter.unusedVariables false
set_option linter.unusedSimpArgs false
namespace Go.Den
open Go.Ab
theorem ah6 {f:Nat->Nat} {k v:Nat} (hk:k<=1000):∀ d x,x+d=k->(∀ j,j < x->f j≠v)->∃ r,aF (fun N g=>df N (LN f k) (v:Int) g (x:Int)) r/\((r = -1/\∀ j,j < k->f j≠v)\/∃ j:Nat,r=j/\j < k/\f j=v)
 | 0,x,hx,h=>⟨-1,aF.succ (fun N g=>df.eq_2 ..) (aF.bd (dnl (m:=x) (n:=k) (by omega) (gF _ _)) (aF.one (Gv.pure _))),.inl ⟨rfl,fun j hj=>h j (by omega)⟩⟩
 | d+1,x,hx,h=>by
  have yf:x < k:=by omega
  by_cases e:f x=v
  ·refine ⟨x,aF.succ (fun N g=>df.eq_2 ..) (aF.aR (dlt (n:=k) yf (gF _ _)) (aF.if (inl yf (gF _ _)) (aF.aR ?_ (aF.one (Gv.pure _))))),.inr ⟨x,rfl,yf,e⟩⟩
   rw [ag,xu _ _ yf,e];simp
  ·obtain ⟨r,h1,h2⟩:=ah6 (f:=f) (v:=v) hk d (x+1) (by omega) fun j hj=>by
    by_cases q:j=x
    ·rw [q];exact e
    ·exact h j (by omega)
   refine ⟨r,aF.succ (fun N g=>df.eq_2 ..) (aF.aR (dlt (n:=k) yf (gF _ _)) (aF.if (inl yf (gF _ _)) (aF.bd ?_ ?_))),h2⟩
   ·rw [ag,xu _ _ yf];simp;omega
   ·rw [aH (show x < 9223372036854775807 by omega)];exact h1
theorem V9 {f:Nat->Nat} {k v:Nat} (hk:k<=1000):∃ r,Gv (fun N=>fE N (LN f k) (v:Int)) r/\((r = -1/\∀ j,j < k->f j≠v)\/∃ j:Nat,r=j/\j < k/\f j=v):=by
 obtain ⟨r,h1,h2⟩:=ah6 (f:=f) (v:=v) hk k 0 (by omega) fun j hj=>absurd hj (fj _)
 exact ⟨r,h1.diag,h2⟩
theorem ah7 {f:Nat->Rat} {k s:Nat} (hk:k<=1000) (hs:s<=MS) (hf:∀ j,j < k->RB (f j) s):∀ d x,x+d=k->(∀ j,j < x->f j=0) ->
  ∃ r,aF (fun N g=>dg N (LQ f k) g (x:Int)) r/\((r = -1/\∀ j,j < k->f j=0)\/∃ j:Nat,r=j/\j < k/\f j≠0)
 | 0,x,hx,h=>⟨-1,aF.succ (fun N g=>dg.eq_2 ..) (aF.bd (dnl (m:=x) (n:=k) (by omega) (ct _ _)) (aF.one (Gv.pure _))),.inl ⟨rfl,fun j hj=>h j (by omega)⟩⟩
 | d+1,x,hx,h=>by
  have yf:x < k:=by omega
  have hz:Gv (fun N=>nG N (bL (f x))) (!decide (f x=0)):=Gv.bind (((hf x yf).q hs).zero (by decide)) (Gv.pure _)
  by_cases e:f x=0
  ·obtain ⟨r,h1,h2⟩:=ah7 hk hs hf d (x+1) (by omega) fun j hj=>by
    by_cases q:j=x
    ·rw [q];exact e
    ·exact h j (by omega)
   refine ⟨r,aF.succ (fun N g=>dg.eq_2 ..) (aF.aR (dlt (n:=k) yf (ct _ _)) (aF.if (inl yf (ct _ _)) ?_)),h2⟩
   simp only [ag,lO _ _ yf,aH (show x < 9223372036854775807 by omega)]
   exact aF.bind hz (aF.bd (by simp [e]) h1)
  ·refine ⟨x,aF.succ (fun N g=>dg.eq_2 ..) (aF.aR (dlt (n:=k) yf (ct _ _)) (aF.if (inl yf (ct _ _)) ?_)),.inr ⟨x,rfl,yf,e⟩⟩
   simp only [ag,lO _ _ yf]
   exact aF.bind hz (aF.aR (by simp [e]) (aF.one (Gv.pure _)))
theorem anO {f:Nat->Rat} {k s:Nat} (hk:k<=1000) (hs:s<=MS) (hf:∀ j,j < k->RB (f j) s) :
  ∃ r,Gv (fun N=>lM N (LQ f k)) r/\((r = -1/\∀ j,j < k->f j=0)\/∃ j:Nat,r=j/\j < k/\f j≠0):=by
 obtain ⟨r,h1,h2⟩:=ah7 hk hs hf k 0 (by omega) fun j hj=>absurd hj (fj _)
 exact ⟨r,h1.diag,h2⟩
def sk (c j:Nat):Nat:=if j < c then j else j+1
section
variable {α:Type}
theorem ab7 (f:Nat->α) {k c:Nat} (hc:c<=k):(ub (I9 f (k+1)) c (c+1)).take ((c - 0)+((I9 f (k+1)).length - (c+1)))=I9 (fun j=>f (sk c j)) k:=by
 refine List.ext_getElem? fun j=>?_
 have e1:((I9 f (k+1)).take c).length=c:=by rw [rl,uN];omega
 have e3:∀ {n i:Nat} (g:Nat->α),(I9 g n)[i]?=if i < n then some (g i) else none:=fun {n i} g=>by
  unfold I9
  by_cases h:i < n<;>simp [h]
 rw [sR,uN,e3]
 unfold ub
 by_cases h:j < c
 ·rw [if_pos (by omega),if_pos (by omega),qA,jj (by omega),sR,if_pos h,e3,if_pos (by omega)]
  unfold sk;rw [if_pos h]
 ·by_cases h2:j < k
  ·have e2:((I9 f (k+1)).drop (c+1)).length=k - c:=by rw [xP,uN];omega
   rw [if_pos (by omega),if_pos h2,qA,kU (by omega),e1,jj (by omega),rm,e3,if_pos (by omega)]
   unfold sk;rw [if_neg h,show c+1+(j - c)=j+1 by omega]
  ·rw [if_neg (by omega),if_neg h2]
theorem ab8 (f:Nat->α) {k c:Nat} (hc:c<=k):(ub (I9 f (k+1)) c (c+1)).length=k+1:=by
 rw [<- Ol ⟨by omega,by rw [uN];omega⟩,uN]
end
theorem akB (f:Nat->Nat) {k c:Nat} (hc:c<=k) (hk:k<=1000):Gv (fun N=>kZ N (c:Int) (aE ((c:Int)+1)) (LN f (k+1))) (LN (fun j=>f (sk c j)) k,LN (fun j=>f (sk c j)) k):=by
 rw [aH (by omega)]
 have e:=ab8 (fun i=>((f i:Nat):Int)) hc
 have e2:=ab7 (fun i=>((f i:Nat):Int)) hc
 refine Gv.if (by rw [gF];omega) (Gv.bd (by simp;omega) ?_)
 simp only [ag]
 refine Gv.if (by rw [gF];omega) (Gv.if (by omega) (Gv.if (by rw [gF];omega) (Gv.if (by omega) (Gv.if (by rw [gF];omega) (Gv.if (by rw [gF];omega) (Gv.if ?_ (Gv.if ?_ ((Gv.pure _).eq ?_))))))))
 ·rw [gF];unfold LN;rw [e];omega
 ·rw [gF];unfold LN;rw [e];omega
 ·unfold LN;rw [e2]
theorem akC (f:Nat->Rat) {k c:Nat} (hc:c<=k) (hk:k<=1000):Gv (fun N=>oz N (c:Int) (aE ((c:Int)+1)) (LQ f (k+1))) (LQ (fun j=>f (sk c j)) k,LQ (fun j=>f (sk c j)) k):=by
 rw [aH (by omega)]
 have e:=ab8 (fun i=>bL (f i)) hc
 have e2:=ab7 (fun i=>bL (f i)) hc
 refine Gv.if (by rw [ct];omega) (Gv.bd (by simp;omega) ?_)
 simp only [ag]
 refine Gv.if (by rw [ct];omega) (Gv.if (by omega) (Gv.if (by rw [ct];omega) (Gv.if (by omega) (Gv.if (by rw [ct];omega) (Gv.if (by rw [ct];omega) (Gv.if ?_ (Gv.if ?_ ((Gv.pure _).eq ?_))))))))
 ·rw [ct];unfold LQ;rw [e];omega
 ·rw [ct];unfold LQ;rw [e];omega
 ·unfold LQ;rw [e2]
def bZ.del (D:bZ) (c:Nat):bZ where
 jK:=D.jK
 fr:=fun j=>D.fr (sk c j)
 a:=fun i j=>D.a i (sk c j)
 b:=D.b
 g:=fun _=>0
 v:=0
def RS (ok:Bool) (n m k h:Nat) (D:bZ):Bool×ow×List Int×List Int×List (List aa)×List aa :=
 (ok,⟨n,m,LN D.jK m,LN D.fr k,LA D.a m k,LQ D.b m,LQ D.g k,bL D.v,h⟩,LN D.jK m,LN D.fr k,LA D.a m k,LQ D.b m)
section
variable {n m k h c s:Nat} {D:bZ}
theorem anP (z:Int) (h1:-1000<=z) (h2:z<=1000):Gv (fun N=>fo N z) (bL (z:Rat)):=vJ (by omega) (by omega)
theorem Ao:Gv (fun N=>fo N 0) (bL 0):=vJ (z:=0) (by decide) (by decide)
theorem ah8 (hk:k<=1000) {v1 v3:Bool} {v2 v4:List Int}:∀ (d x:Nat) (L:List aa),x+d=k->L.length=k->(∀ j,j < x->L.getD j aa.d=bL 0) ->
  aF (fun N g=>fg N (n:Int) (m:Int) (LN D.jK m) (LQ D.b m) v1 v2 v3 v4 (h:Int) (LN (fun j=>D.fr (sk c j)) k,LN (fun j=>D.fr (sk c j)) k) (LA (fun i j=>D.a i (sk c j)) m k) g L (x:Int)) (RS true n m k h (D.del c))
 | 0,x,L,hx,hl,h0=>by
  refine aF.succ (fun N g=>fg.eq_2 ..) (aF.bd (dnl (m:=x) (n:=k) (by omega) (by rw [po,gF])) (aF.bind Ao (aF.one ((Gv.pure _).eq ?_))))
  rw [show L=LQ (fun _=>0) k from Rg aa.d hl fun j hj=>h0 j (by omega)]
  rfl
 | d+1,x,L,hx,hl,h0=>by
  have yf:x < k:=by omega
  refine aF.succ (fun N g=>fg.eq_2 ..) (aF.aR (dlt (n:=k) yf (by rw [po,gF])) (aF.bind Ao (aF.if (inl yf hl) ?_)))
  rw [aH (show x < 9223372036854775807 by omega)]
  refine ah8 hk d (x+1) _ (by omega) (by rw [List.length_set];exact hl) fun j hj=>?_
  rw [ag]
  by_cases e:x=j
  ·subst e;exact nc _ _ _ _ (by omega)
  ·rw [kn _ _ _ e];exact h0 j (by omega)
theorem ah9 (hm:m<=1000) (hk:k<=1000) (hc:c<=k) {g0:List aa} {v1 v3:Bool} {v2 v4:List Int}:∀ (d x:Nat) (G:Nat->List aa),x+d=m->(∀ r,r < m->G r=if r < x then LQ (fun j=>D.a r (sk c j)) k else LQ (D.a r) (k+1)) ->
  aF (fun N g=>fh N (n:Int) (m:Int) (LN D.jK m) (LA D.a m (k+1)) (LQ D.b m) g0 v1 v2 v3 v4 (h:Int) (c:Int) (LN (fun j=>D.fr (sk c j)) k,LN (fun j=>D.fr (sk c j)) k) g (I9 G m) (x:Int)) (RS true n m k h (D.del c))
 | 0,x,G,hx,hG=>by
  refine aF.succ (fun N g=>fh.eq_2 ..) (aF.bd (dnl (m:=x) (n:=m) (by omega) (oj _ _ _)) ?_)
  simp only [gF]
  refine aF.if (by omega) ?_
  rw [show I9 G m=LA (fun i j=>D.a i (sk c j)) m k from vK fun r hr=>by rw [hG r hr,if_pos (by omega)]]
  have:=(ah8 hk (n:=n) (m:=m) (h:=h) (c:=c) (D:=D) (v1:=v1) (v2:=v2) (v3:=v3) (v4:=v4) k 0 (List.replicate k aa.d) (by omega) po fun j hj=>absurd hj (fj _)).diag
  exact aF.one this
 | d+1,x,G,hx,hG=>by
  have yx:x < m:=by omega
  have e:G x=LQ (D.a x) (k+1):=by rw [hG x yx,if_neg (by omega)]
  refine aF.succ (fun N g=>fh.eq_2 ..) (aF.aR (dlt (n:=m) yx (oj _ _ _)) (aF.if (by rw [uN];exact yx) (aF.if (inl yx (uN _ _)) ?_)))
  simp only [ag,Ox _ _ yx,e]
  refine aF.bind (akC (D.a x) hc hk) ?_
  rw [aH (show x < 9223372036854775807 by omega),Oy]
  refine ah9 hm hk hc d (x+1) _ (by omega) fun r hr=>?_
  by_cases q:r=x
  ·rw [if_pos q,if_pos (by omega),q]
  ·rw [if_neg q,hG r hr]
   by_cases q2:r < x
   ·rw [if_pos q2,if_pos (by omega)]
   ·rw [if_neg q2,if_neg (by omega)]
theorem aia (hm:m<=1000) (hk:k<=999) (hw:D.WF m (k+1)) (hc:c < k+1) (hh:D.fr c=h) :
  Gv (fun N=>j3 N (n:Int) (m:Int) (LN D.jK m) (LN D.fr (k+1)) (LA D.a m (k+1)) (LQ D.b m) (LQ D.g (k+1)) (bL D.v).fN.fG (bL D.v).fN.fL (bL D.v).fD.fG (bL D.v).fD.fL (h:Int)) (RS true n m k h (D.del c)):=by
 obtain ⟨r,h1,h2⟩:=V9 (f:=D.fr) (k:=k+1) (v:=h) (by omega)
 rcases h2 with ⟨_,h2⟩ | ⟨j,rfl,hj,h2⟩
 ·exact absurd hh (h2 c hc)
 ·obtain rfl:j=c:=hw.fi j c hj hc (h2.trans hh.symm)
  refine Gv.bind h1 (Gv.bind (akB D.fr (by omega) (by omega)) ?_)
  have:=(ah9 hm (show k<=1000 by omega) (show j<=k by omega) (n:=n) (h:=h) (D:=D) (g0:=LQ D.g (k+1)) (v1:=(bL D.v).fN.fG) (v2:=(bL D.v).fN.fL) (v3:=(bL D.v).fD.fG) (v4:=(bL D.v).fD.fL) m 0 (fun r=>LQ (D.a r) (k+1)) (by omega) fun r _=>by rw [if_neg (fj _)]).diag
  exact this
structure Kt (n m:Nat) (C:Nat->Nat->Rat) (B:Nat->Rat) (D:bZ) (c:Nat):Prop where
 wf:D.WF m (2 * n+1)
 fea:D.X6 m
 eqv:(∃ z,bZ.KJ m (2 * n+1) (bZ.fst n m C B z) D)
 lt:c < 2 * n+1
 fr:D.fr c=2 * n+m
variable {C:Nat->Nat->Rat} {B:Nat->Rat}
theorem aib {e5:Nat} (h5:m<=e5\/2 * n+1<=e5) (hm:m<=1000) (hn:2 * n<=998) {z:Rat} (Sn:(bZ.fst n m C B z).N9 m (2 * n+1) s) (h1:1<=s) (hs:5 * (5 ^ e5 * s)<=MS) (hw:D.WF m (2 * n+1)) (hf:D.X6 m) (he:bZ.KJ m (2 * n+1) (bZ.fst n m C B z) D)
  (hb0:∀ i,i < m->D.jK i=2 * n+m->D.b i=0/\∃ j,j < 2 * n+1/\D.a i j≠0) :
  ∃ D' c,Kt n m C B D' c/\Gv (fun N=>iu N (n:Int) (m:Int) (LN D.jK m) (LN D.fr (2 * n+1)) (LA D.a m (2 * n+1)) (LQ D.b m) (LQ D.g (2 * n+1)) (bL D.v).fN.fG (bL D.v).fN.fL (bL D.v).fD.fG (bL D.v).fD.fL ((2 * n+m:Nat):Int)) (RS true n m (2 * n) (2 * n+m) (D'.del c)):=by
 have hr:=bZ.Yb h5 hw (bZ.Rc n m C B z) he Sn h1
 have YE:1<=5 ^ e5 * s:=eF h1 (Nat.le_mul_of_pos_left _ (Nat.pow_pos (by decide)))
 obtain ⟨r,q1,q2⟩:=V9 (f:=D.jK) (k:=m) (v:=2 * n+m) hm
 rcases q2 with ⟨rfl,q2⟩ | ⟨i,rfl,hi,q2⟩
 ·obtain ⟨c,hc,hfr⟩:=bZ.GS hw (u:=2 * n+m) (by omega) fun ⟨i,hi,e⟩=>q2 i hi e
  exact ⟨D,c,⟨hw,hf,⟨z,he⟩,hc,hfr⟩,Gv.bind q1 (Gv.bd (by decide) (aia hm (by omega) hw hc hfr))⟩
 ·obtain ⟨hb,j0,hj0,ha0⟩:=hb0 i hi q2
  obtain ⟨r,q3,q4⟩:=anO (f:=D.a i) (k:=2 * n+1) (by omega) (show 5 ^ e5 * s<=MS by omega) fun j hj=>hr.a i j hi hj
  rcases q4 with ⟨_,q4⟩ | ⟨j,rfl,hj,q4⟩
  ·exact absurd (q4 j0 hj0) ha0
  ·refine ⟨D.lD i j,j,⟨hw.lD hi hj,bZ.ahZ hf hb,⟨z,he.trans (.lD hi hj q4)⟩,hj,by simp only [bZ.lD,if_true];exact q2⟩,Gv.bind q1 (Gv.aR (by simp) ?_)⟩
   simp only [ag,Dn _ _ hi]
   refine Gv.if (by rw [oj];exact hi) (Gv.if (inl hi (oj _ _ _)) (Gv.bind q3 (Gv.bind (Ri hm (by omega) hi hj hs YE hr q4) ?_)))
   simp only [RT,gF,oj,ct]
   exact Gv.if trivial (Gv.if trivial (Gv.if trivial (Gv.if trivial (Gv.if trivial (aia hm (by omega) (hw.lD hi hj) hj (by simp only [bZ.lD,if_true];exact q2))))))
def apW (B:Nat->Rat) (x:Nat) (low:Int):Prop:=(low = -1/\∀ r,r < x->0<=B r)\/∃ l:Nat,low=l/\l < x/\B l < 0/\∀ r,r < x->B l<=B r
structure Oz (n m:Nat) (C:Nat->Nat->Rat) (B:Nat->Rat) (D:bZ):Prop where
 wf:D.WF m (2 * n+1)
 eqv:bZ.KJ m (2 * n+1) (bZ.fst n m C B (-1)) D
 g:∀ j,j < 2 * n+1->D.g j<=0
 v:D.v < 0
theorem ab9 (z:Rat) (hz:RB z s) (hr:(bZ.fst n m C B 0).N9 m (2 * n+1) s):(bZ.fst n m C B z).N9 m (2 * n+1) s:=by
 refine ⟨hr.a,hr.b,fun j hj=>?_,hr.v⟩
 have:=hr.g j hj
 simp only [bZ.fst] at this ⊢
 split
 ·rw [if_pos (by assumption)] at this;exact this
 ·exact hz
theorem aic {e5:Nat} (h5:m<=e5\/2 * n+1<=e5) (hm:m<=1000) (hn:2 * n<=998) (hr:(bZ.fst n m C B 0).N9 m (2 * n+1) s) (h1:1<=s) (hs:5 * (5 ^ e5 * s)<=MS):∀ (d x:Nat) (low:Int),x+d=m->apW B x low ->
  ∃ r,aF (fun N g=>bG N (n:Int) (m:Int) (bL 0).fN.fG (bL 0).fN.fL (bL 0).fD.fG (bL 0).fD.fL ((2 * n+m:Nat):Int) (LN (bZ.fst n m C B 0).jK m) (LN (bZ.fst n m C B 0).fr (2 * n+1))
    (LA (bZ.fst n m C B 0).a m (2 * n+1)) (LQ B m) (LQ (bZ.fst n m C B 0).g (2 * n+1)) g low (x:Int)) r /\
   ((∃ D,Oz n m C B D/\r=RS false n m (2 * n+1) (2 * n+m) D)\/∃ D c,Kt n m C B D c/\r=RS true n m (2 * n) (2 * n+m) (D.del c))
 | 0,x,low,hx,hI=>by
  have yx:x=m:=by omega
  subst yx
  have step:∀ {r},(∃ N0:Nat,True)->aF (fun N g=>bG N (n:Int) (x:Int) (bL 0).fN.fG (bL 0).fN.fL (bL 0).fD.fG (bL 0).fD.fL ((2 * n+x:Nat):Int) (LN (bZ.fst n x C B 0).jK x) (LN (bZ.fst n x C B 0).fr (2 * n+1))
    (LA (bZ.fst n x C B 0).a x (2 * n+1)) (LQ B x) (LQ (bZ.fst n x C B 0).g (2 * n+1)) (g+1) low (x:Int)) r->aF (fun N g=>bG N (n:Int) (x:Int) (bL 0).fN.fG (bL 0).fN.fL (bL 0).fD.fG (bL 0).fD.fL ((2 * n+x:Nat):Int) (LN (bZ.fst n x C B 0).jK x) (LN (bZ.fst n x C B 0).fr (2 * n+1))
    (LA (bZ.fst n x C B 0).a x (2 * n+1)) (LQ B x) (LQ (bZ.fst n x C B 0).g (2 * n+1)) g low (x:Int)) r:=fun _ h=>aF.succ (fun _ _=>rfl) h
  rcases hI with ⟨rfl,hB⟩ | ⟨l,rfl,hl,I8,zC⟩
  ·obtain ⟨D,c,q1,q2⟩:=aib (D:=bZ.fst n x C B 0) h5 hm hn hr h1 hs (bZ.Rc n x C B 0) hB (.refl _ _ _) fun i hi e=>by
    simp only [bZ.fst] at e;omega
   refine ⟨_,step ⟨0,trivial⟩ ?_,.inr ⟨D,c,q1,rfl⟩⟩
   simp only [bG]
   exact aF.bd (dnl (m:=x) (n:=x) (aN _) (ct _ _)) (aF.bd (by decide) (aF.one q2))
  ·have hw:=bZ.Rc n x C B (-1)
   have hr1:=ab9 (-1) (bZ.RB1.neg.le h1) hr
   have ea:(bZ.fst n x C B (-1)).a l (2 * n)=1:=by simp only [bZ.fst];rw [if_neg (by omega),if_neg (by omega)]
   have h0:(bZ.fst n x C B (-1)).a l (2 * n)≠0:=by rw [ea];decide
   have hs5:s<=5 ^ e5 * s:=Nat.le_mul_of_pos_left _ (Nat.pow_pos (by decide))
   have asF:=Ri (n:=n) (h:=2 * n+x) hm (show 2 * n+1<=1000 by omega) hl (show 2 * n < 2 * n+1 by omega) (show 5 * s<=MS by omega) h1 hr1 h0
   obtain ⟨D,r,q1,q2,q3,q4,q5⟩:=ah5 (n:=n) (h:=2 * n+x) h5 hm (show 2 * n+1<=1000 by omega) hw hr1 h1 hs (hw.lD hl (show 2 * n < 2 * n+1 by omega)) (bZ.adF n x C B hl I8 zC) (.lD hl (by omega) h0)
   have anw:=bZ.akz q1 q3 q2 (by
    rcases q4 with ⟨_,h⟩ | ⟨j,_,h,h'⟩
    ·exact .inl h
    ·exact .inr ⟨j,h,h'⟩)
   have hrD:=bZ.Yb h5 q1 hw q3 hr1 h1
   have eg:(LQ (bZ.fst n x C B 0).g (2 * n+1)).set (2 * n) (bL ((-1:Int):Rat))=LQ (bZ.fst n x C B (-1)).g (2 * n+1):=by
    rw [Ja]
    refine wR fun j hj=>?_
    simp only [bZ.fst]
    by_cases e:j=2 * n
    ·rw [if_pos e,if_neg (by omega)];rfl
    ·rw [if_neg e,if_pos (by omega),if_pos (by omega)]
   have apX:aE (((2 * n+1:Nat):Int) - 1)=((2 * n:Nat):Int):=by rw [aX (by omega) (by omega)];omega
   have main:∀ {r'},Gv (fun N=>(g7 N (bL D.v)).bind fun eI=>cond (!eI) (some (RS false n x (2 * n+1) (2 * n+x) D)) (iu N (n:Int) (x:Int) (LN D.jK x) (LN D.fr (2 * n+1)) (LA D.a x (2 * n+1)) (LQ D.b x) (LQ D.g (2 * n+1)) (bL D.v).fN.fG (bL D.v).fN.fL (bL D.v).fD.fG (bL D.v).fD.fL ((2 * n+x:Nat):Int))) r' ->
     aF (fun N g=>bG N (n:Int) (x:Int) (bL 0).fN.fG (bL 0).fN.fL (bL 0).fD.fG (bL 0).fD.fL ((2 * n+x:Nat):Int) (LN (bZ.fst n x C B 0).jK x) (LN (bZ.fst n x C B 0).fr (2 * n+1))
      (LA (bZ.fst n x C B 0).a x (2 * n+1)) (LQ B x) (LQ (bZ.fst n x C B 0).g (2 * n+1)) g ((l:Nat):Int) (x:Int)) r':=fun h=>by
    refine step ⟨0,trivial⟩ ?_
    simp only [bG,gF,apX,ag]
    refine aF.bd (dnl (m:=x) (n:=x) (aN _) (ct _ _)) (aF.aR (by simp) (aF.bind (anP (-1) (by decide) (by decide)) (aF.if (inl (show 2 * n < 2 * n+1 by omega) (ct _ _)) ?_)))
    rw [eg]
    refine aF.bind asF ?_
    simp only [RT,gF,oj,ct]
    refine aF.if trivial (aF.if trivial (aF.if trivial (aF.if trivial (aF.if trivial (aF.bind (q5.diag) ?_)))))
    simp only [RT,gF,oj,ct]
    exact aF.if trivial (aF.if trivial (aF.if trivial (aF.if trivial (aF.if trivial (aF.one h)))))
   by_cases hz:D.v=0
   ·have hh0:D.ext x (2 * n+1) bZ.zO (2 * n+x)=0:=by have:=bZ.Rf q1 q3;grind
    obtain ⟨D',c,p1,p2⟩:=aib h5 hm hn hr1 h1 hs q1 q2 q3 fun i hi e=>⟨by
     rw [<- e,bZ.Am q1 hi,bZ.ye] at hh0;exact hh0,bZ.aas q1 q3 hi e⟩
    exact ⟨_,main (Gv.bind ((hrD.v.q (by omega)).zero (by decide)) (Gv.bd (by simp [hz]) p2)),.inr ⟨D',c,p1,rfl⟩⟩
   ·refine ⟨_,main (Gv.bind ((hrD.v.q (by omega)).zero (by decide)) (Gv.aR (by simp [hz]) (Gv.pure _))),.inl ⟨D,⟨q1,q3,anw,?_⟩,rfl⟩⟩
    have e1:=bZ.Rf q1 q3
    have e2:=bZ.Mx q1 q2 (2 * n+x) (by omega)
    grind
 | d+1,x,low,hx,hI=>by
  have yx:x < m:=by omega
  have hs5:s<=5 ^ e5 * s:=Nat.le_mul_of_pos_left _ (Nat.pow_pos (by decide))
  have hB:∀ r,r < m->RB (B r) s:=hr.b
  have hbx:=(hB x yx).q (show s<=MS by omega)
  have RZ:0<=low->low < ((m:Nat):Int):=fun h0=>by
   rcases hI with ⟨e,_⟩ | ⟨b,e,hb,_⟩<;>omega
  have nx:∀ akD:Int,apW B (x+1) akD->(∃ cmp:Int,(B x < 0->∀ l:Nat,low=l->cmp=uP (B x - B l))/\(¬ (B x < 0/\0<=low)->cmp=0)/\(cond (cond (decide (uP (B x) < 0)) (cond (decide (low < 0)) true (decide (cmp < 0))) false) (x:Int) low)=akD) ->
    ∃ r,aF (fun N g=>bG N (n:Int) (m:Int) (bL 0).fN.fG (bL 0).fN.fL (bL 0).fD.fG (bL 0).fD.fL ((2 * n+m:Nat):Int) (LN (bZ.fst n m C B 0).jK m) (LN (bZ.fst n m C B 0).fr (2 * n+1))
      (LA (bZ.fst n m C B 0).a m (2 * n+1)) (LQ B m) (LQ (bZ.fst n m C B 0).g (2 * n+1)) g low (x:Int)) r /\
     ((∃ D,Oz n m C B D/\r=RS false n m (2 * n+1) (2 * n+m) D)\/∃ D c,Kt n m C B D c/\r=RS true n m (2 * n) (2 * n+m) (D.del c)):=fun akD g1 ⟨cmp,g2,g3,g4⟩=>by
   obtain ⟨r,g5,g6⟩:=aic h5 hm hn hr h1 hs d (x+1) akD (by omega) g1
   refine ⟨r,aF.succ (fun _ _=>rfl) ?_,g6⟩
   have asG:Gv (fun N=>cond ((decide (uP (B x) < 0)) && ((decide (uP (B x) < 0)) && (!(decide (low < 0))))) (mn N (bL (B x)) ((LQ B m).getD low.toNat aa.d)) (some 0)) cmp:=by
    by_cases q:B x < 0/\0<=low
    ·obtain ⟨q1,q2⟩:=q
     obtain ⟨l,rfl⟩:∃ l:Nat,low=l:=⟨low.toNat,by omega⟩
     have hlm:l < m:=by have:=RZ q2;omega
     rw [g2 q1 l rfl]
     refine Gv.aR (by simp [oC,q1]) ?_
     rw [ag,lO _ _ hlm]
     exact hbx.cmp ((hB l hlm).q (show s<=MS by omega)) (Wy (by decide))
    ·rw [g3 q]
     refine Gv.bd ?_ (Gv.pure 0)
     by_cases q1:B x < 0
     ·have:low < 0:=Int.not_le.1 fun q2=>q ⟨q1,q2⟩
      simp [this]
     ·simp [oC,q1]
   have:aF (fun N g=>bG N (n:Int) (m:Int) (bL 0).fN.fG (bL 0).fN.fL (bL 0).fD.fG (bL 0).fD.fL ((2 * n+m:Nat):Int) (LN (bZ.fst n m C B 0).jK m) (LN (bZ.fst n m C B 0).fr (2 * n+1))
      (LA (bZ.fst n m C B 0).a m (2 * n+1)) (LQ B m) (LQ (bZ.fst n m C B 0).g (2 * n+1)) (g+1) low (x:Int)) r:=by
    simp only [bG]
    refine aF.aR (dlt (n:=m) yx (ct _ _)) (aF.if (inl yx (ct _ _)) ?_)
    simp only [ag,lO _ _ yx,jZ,aH (show x < 9223372036854775807 by omega)]
    refine aF.bind (hbx.uP (by decide)) (aF.if (fun _=>inl yx (ct _ _)) (aF.if (fun q=>?_) (aF.bind asG ?_)))
    ·simp at q
     rw [ct];exact ⟨by omega,RZ (by omega)⟩
    ·revert g4
     cases (cond (decide (uP (B x) < 0)) (cond (decide (low < 0)) true (decide (cmp < 0))) false) with
     | true=>intro g4;refine aF.aR rfl ?_;simp only [cond_true] at g4;rw [g4];exact g5
     | false=>intro g4;refine aF.bd rfl ?_;simp only [cond_false] at g4;rw [g4];exact g5
   exact this
  by_cases hp:B x < 0
  ·have e1:decide (uP (B x) < 0)=true:=decide_eq_true (oC.2 hp)
   rcases hI with ⟨rfl,hb⟩ | ⟨l,rfl,hl,hg,zC⟩
   ·refine nx x (.inr ⟨x,rfl,by omega,hp,fun r Jk=>?_⟩) ⟨0,fun _ l e=>by omega,fun _=>rfl,by rw [e1];rfl⟩
    by_cases e:r=x
    ·rw [e];exact Rat.le_refl
    ·have:=hb r (by omega);grind
   ·have e2:decide (((l:Nat):Int) < 0)=false:=by simp
    by_cases iQ:B x < B l
    ·refine nx x (.inr ⟨x,rfl,by omega,hp,fun r Jk=>?_⟩) ⟨uP (B x - B l),fun _ l' e=>by rw [show l'=l by omega],fun q=>absurd ⟨hp,by omega⟩ q,by rw [e1,e2,decide_eq_true (oC.2 (show B x - B l < 0 by grind))];rfl⟩
     by_cases e:r=x
     ·rw [e];exact Rat.le_refl
     ·have:=zC r (by omega);grind
    ·refine nx l (.inr ⟨l,rfl,by omega,hg,fun r Jk=>?_⟩) ⟨uP (B x - B l),fun _ l' e=>by rw [show l'=l by omega],fun q=>absurd ⟨hp,by omega⟩ q,by rw [e1,e2,decide_eq_false fun q=>by have:=oC.1 q;grind];rfl⟩
     by_cases e:r=x
     ·rw [e];grind
     ·exact zC r (by omega)
  ·have e1:decide (uP (B x) < 0)=false:=decide_eq_false fun q=>hp (oC.1 q)
   refine nx low ?_ ⟨0,fun q=>absurd q hp,fun _=>rfl,by rw [e1];rfl⟩
   rcases hI with ⟨e,hb⟩ | ⟨l,e,hl,hg,zC⟩
   ·refine .inl ⟨e,fun r h1=>?_⟩
    by_cases e2:r=x
    ·rw [e2];exact Rat.not_lt.1 hp
    ·exact hb r (by omega)
   ·refine .inr ⟨l,e,by omega,hg,fun r h1=>?_⟩
    by_cases e2:r=x
    ·rw [e2];grind
    ·exact zC r (by omega)
theorem adH {e5:Nat} (h5:m<=e5\/2 * n+1<=e5) (hm:m<=1000) (hn:2 * n<=998) (hr:(bZ.fst n m C B 0).N9 m (2 * n+1) s) (h1:1<=s) (hs:5 * (5 ^ e5 * s)<=MS) :
  ∃ r,Gv (fun N=>pB N (n:Int) (m:Int) (bL 0).fN.fG (bL 0).fN.fL (bL 0).fD.fG (bL 0).fD.fL ((2 * n+m:Nat):Int) (LN (bZ.fst n m C B 0).jK m) (LN (bZ.fst n m C B 0).fr (2 * n+1))
    (LA (bZ.fst n m C B 0).a m (2 * n+1)) (LQ B m) (LQ (bZ.fst n m C B 0).g (2 * n+1))) r /\
   ((∃ D,Oz n m C B D/\r=RS false n m (2 * n+1) (2 * n+m) D)\/∃ D c,Kt n m C B D c/\r=RS true n m (2 * n) (2 * n+m) (D.del c)):=by
 obtain ⟨r,h2,h3⟩:=aic h5 hm hn hr h1 hs m 0 (-1) (by omega) (.inl ⟨rfl,fun j hj=>absurd hj (fj _)⟩)
 exact ⟨r,h2.diag,h3⟩
end
end Go.Den
namespace Go.Den
open Go.Ab
structure aat (r:aV):Prop where
 len:r.dd.length<=20
 co:∀ j,IR (r.dd.getD j aa.d) 100
 bo:IR r.jT 100
structure Ch (l:List aV):Prop where
 len:l.length<=60
 row:∀ i,aat (l.getD i aV.d)
theorem ird {n:Nat}:IR aa.d n:=⟨⟨U.nil,Nat.zero_le _⟩,⟨U.nil,Nat.zero_le _⟩⟩
theorem aat.d:aat aV.d:=⟨by decide,fun j=>by
 have:(aV.d.dd.getD j aa.d)=aa.d:=by cases j<;>rfl
 rw [this];exact ird,ird⟩
theorem aid {l:List aV} {i:Nat} (h:l.length<=i):l.getD i aV.d=aV.d:=by
 simp [List.getD,List.getElem?_eq_none_iff.2 h]
def Ap (l:List aV) (n:Int) (i:Nat):Prop:=(((l.getD i aV.d).dd.length:Nat):Int) > n
instance (l:List aV) (n:Int) (i:Nat):Decidable (Ap l n i):=by unfold Ap;infer_instance
def wc (l:List aV) (n:Int):Nat->Nat->Bool
 | 0,_=>false
 | k+1,i=>if Ap l n i then true else wc l n k (i+1)
def nU (n:Int) (l:List aV):Int:=if n < 0\/n > 12 then 2 else if l.length > 40 then 8 else cond (wc l n l.length 0) 11 0
theorem HI {l:List aV} {n:Int}:∀ k i,wc l n k i=false->∀ j,i<=j->j < i+k->¬ Ap l n j
 | 0,_,_,j,h1,h2=>by omega
 | k+1,i,h,j,h1,h2=>by
  rw [wc] at h
  split at h
  ·cases h
  ·by_cases hji:j=i
   ·rw [hji];assumption
   ·exact HI k (i+1) h j (by omega) (by omega)
theorem TH {l:List aV} {n:Int} (hl:l.length<=1000):∀ k i,i+k=l.length->∃ r,aF (fun N fuel=>de N l n fuel (i:Int)) r/\decide (r>=0)=wc l n k i
 | 0,i,hi=>⟨-1,.step 0 fun N g _ _=>by
  have:i=l.length:=by omega
  subst this
  rw [de,dw];rfl,rfl⟩
 | k+1,i,hi=>by
  have m5:i < l.length:=by omega
  obtain ⟨r,h1,h2⟩:=TH (n:=n) hl k (i+1) (by omega)
  have hp:Gv (fun N=>sU N (l.getD i aV.d) n) (decide (Ap l n i)):=Gv.pure _
  rw [wc]
  by_cases h:Ap l n i
  ·rw [if_pos h]
   refine ⟨(i:Int),aF.succ (fun N g=>de.eq_2 ..) (aF.aR (dec_lt m5) (aF.if (oX m5) (aF.bind hp (aF.aR (decide_eq_true h) (aF.one (Gv.pure _)))))),decide_eq_true (by omega)⟩
  ·rw [if_neg h]
   refine ⟨r,aF.succ (fun N g=>de.eq_2 ..) (aF.aR (dec_lt m5) (aF.if (oX m5) (aF.bind hp (aF.bd (decide_eq_false h) ?_)))),h2⟩
   rw [aH (by omega)];exact h1
theorem yg (n:Int) (l:List aV):Gv (fun N=>nZ N n l) (nU n l):=by
 unfold nZ nU
 have e:cond (decide (n < 0)) true (decide (n > 12))=decide (n < 0\/n > 12):=by
  by_cases h:n < 0
  ·rw [decide_eq_true h,decide_eq_true (Or.inl h)];rfl
  ·rw [decide_eq_false h,cond_false];exact decide_eq_decide.2 ⟨Or.inr,fun h2=>h2.resolve_left h⟩
 rw [e]
 by_cases h:n < 0\/n > 12
 ·rw [if_pos h];exact Gv.aR (decide_eq_true h) (Gv.pure _)
 ·rw [if_neg h]
  refine Gv.bd (decide_eq_false h) ?_
  by_cases h2:l.length > 40
  ·rw [if_pos h2];exact Gv.aR (decide_eq_true (by omega)) (Gv.pure _)
  ·rw [if_neg h2]
   obtain ⟨r,h3,h4⟩:=TH (l:=l) (n:=n) (by omega) l.length 0 (by omega)
   refine Gv.bd (decide_eq_false (by omega)) (Gv.bind (r:=decide (r>=0)) (Gv.bind h3.diag (Gv.pure _)) ?_)
   rw [h4]
   cases wc l n l.length 0 with
   | true=>exact Gv.aR rfl (Gv.pure _)
   | false=>exact Gv.bd rfl (Gv.pure _)
structure aau (n:Nat) (l:List aV):Prop where
 anR:n<=12
 len:l.length<=40
 co:∀ i,i < l.length->(l.getD i aV.d).dd.length<=n
theorem Wa {n:Int} {l:List aV} (h:nU n l=0):0<=n/\aau n.toNat l:=by
 unfold nU at h
 split at h
 ·cases h
 ·split at h
  ·cases h
  ·cases e:wc l n l.length 0 with
   | true=>rw [e] at h;cases h
   | false =>
    refine ⟨by omega,by omega,by omega,fun i hi=>?_⟩
    have:=HI _ _ e i (Nat.zero_le _) (by omega)
    unfold Ap at this
    omega
def dF (c x:List aa):Nat->Nat->Rat->Rat
 | 0,_,a=>a
 | k+1,i,a=>dF c x k (i+1) (a+qv (c.getD i aa.d) * qv (x.getD i aa.d))
def aie (c x:List aa):Rat:=dF c x c.length 0 0
structure LB (l:List aa) (n:Nat):Prop where
 len:l.length<=60
 ir:∀ i,IR (l.getD i aa.d) n
theorem LB.rq {l:List aa} {n:Nat} (h:LB l n) (hn:1<=n) (i:Nat):RQ (l.getD i aa.d) (qv (l.getD i aa.d)) n:=⟨h.ir i,rfl,hn⟩
section
variable {c x:List aa}
theorem aif (hc:LB c 100) (hx:LB x 8000000) (hle:c.length<=x.length):∀ (k i m:Nat) (a:Rat),i+k=c.length->RB a m->1<=m->m+k * 8000101<=10000000000->aF (fun N fuel=>q9 N c x fuel (bL a) (i:Int)) (bL (dF c x k i a))
 | 0,i,m,a,hi,_,_,_=>.step 0 fun N g _ _=>by
  have:i=c.length:=by omega
  subst this
  rw [q9,dw];rfl
 | k+1,i,m,a,hi,ha,h1,hm=>by
  have m5:i < c.length:=by omega
  have hlen:=hc.len
  have r1:=hc.rq (by decide) i
  have r2:=hx.rq (by decide) i
  refine aF.succ (fun N g=>q9.eq_2 ..) (aF.aR (dec_lt m5) (aF.if (oX m5) (aF.if (oX (by omega)) ?_)))
  rw [ag,aH (by omega)]
  refine aF.bind (r1.mul r2 (by decide)) (aF.bind ((ha.rq h1).add ((r1.rb.mul r2.rb).rq (by decide)) (by simp only [SM];omega)) ?_)
  exact aif hc hx hle k (i+1) (m+8000101) _ (by omega) ((ha.add (r1.rb.mul r2.rb)).le (by omega)) (by omega) (by omega)
theorem anS (hc:LB c 100) (hx:LB x 8000000) (hle:c.length<=x.length):Gv (fun N=>On N c x) (bL (aie c x)):=by
 have:=hc.len
 exact Gv.bind (r:=bL 0) (vJ (z:=0) (by decide) (by decide)) (aif hc hx hle c.length 0 1 0 (by omega) RB.zero (by decide) (by omega)).diag
theorem alS (hc:LB c 100) (hx:LB x 8000000):∀ (k i m:Nat) (a:Rat),RB a m->RB (dF c x k i a) (m+k * 8000101)
 | 0,_,_,_,h=>h.le (by omega)
 | k+1,i,m,a,h=>by
  rw [dF]
  exact (alS hc hx k (i+1) (m+8000101) _ ((h.add ((hc.rq (by decide) i).rb.mul (hx.rq (by decide) i).rb)).le (by omega))).le (by omega)
theorem anT (hc:LB c 100) (hx:LB x 8000000):RB (aie c x) 480006061:=by
 have:=hc.len
 exact (alS hc hx c.length 0 1 0 RB.zero).le (by omega)
end
theorem aat.lb {r:aV} (h:aat r):LB r.dd 100:=⟨by have:=h.len;omega,fun i=>(h.co i).le (by decide)⟩
theorem aat.brq {r:aV} (h:aat r):RQ r.jT (qv r.jT) 100:=⟨h.bo,rfl,by decide⟩
def Dp (l:List aV) (x:List aa) (i:Nat):Prop:=0 < aie (l.getD i aV.d).dd x - qv (l.getD i aV.d).jT
instance (l:List aV) (x:List aa) (i:Nat):Decidable (Dp l x i):=by unfold Dp;infer_instance
def Be (l:List aV) (x:List aa):Nat->Nat->Bool
 | 0,_=>false
 | k+1,i=>if Dp l x i then true else Be l x k (i+1)
section
variable {l:List aV} {x:List aa}
theorem aih (hl:Ch l) (hx:LB x 8000000) (ok:∀ i,i < l.length->(l.getD i aV.d).dd.length<=x.length):∀ k i,i+k=l.length->∃ r,aF (fun N fuel=>cl N l x fuel (i:Int)) r/\decide (r>=0)=Be l x k i
 | 0,i,hi=>⟨-1,.step 0 fun N g _ _=>by
  have:i=l.length:=by omega
  subst this
  rw [cl,dw];rfl,rfl⟩
 | k+1,i,hi=>by
  have m5:i < l.length:=by omega
  have hlen:=hl.len
  obtain ⟨r,h1,h2⟩:=aih hl hx ok k (i+1) (by omega)
  have hb:=hl.row i
  have hp:Gv (fun N=>sZ N (l.getD i aV.d) x) (decide (Dp l x i)):=by
   refine (anS hb.lb hx (ok i m5)).bind ((((anT hb.lb hx).rq (by decide)).cmp hb.brq (by decide)).bind ((Gv.pure _).eq ?_))
   rw [X3];rfl
  rw [Be]
  by_cases h:Dp l x i
  ·rw [if_pos h]
   refine ⟨(i:Int),aF.succ (fun N g=>cl.eq_2 ..) (aF.aR (dec_lt m5) (aF.if (oX m5) (aF.bind hp (aF.aR (decide_eq_true h) (aF.one (Gv.pure _)))))),decide_eq_true (by omega)⟩
  ·rw [if_neg h]
   refine ⟨r,aF.succ (fun N g=>cl.eq_2 ..) (aF.aR (dec_lt m5) (aF.if (oX m5) (aF.bind hp (aF.bd (decide_eq_false h) ?_)))),h2⟩
   rw [aH (by omega)];exact h1
theorem Wb (hl:Ch l) (hx:LB x 8000000) (ok:∀ i,i < l.length->(l.getD i aV.d).dd.length<=x.length):Gv (fun N=>vY N l x) (!Be l x l.length 0):=by
 obtain ⟨r,h3,h4⟩:=aih hl hx ok l.length 0 (by omega)
 refine Gv.bind (r:=decide (r>=0)) (Gv.bind h3.diag (Gv.pure _)) ?_
 rw [h4];exact Gv.pure _
def GU (l:List aV) (x:List aa):Int:=if nU x.length l≠0 then nU x.length l else cond (Be l x l.length 0) 24 0
theorem So (hl:Ch l) (hx:LB x 8000000):Gv (fun N=>uz N l x) (GU l x):=by
 refine (yg _ _).bind ?_
 unfold GU
 by_cases h:nU x.length l≠0
 ·rw [if_pos h];exact Gv.aR (by simpa using h) (Gv.pure _)
 ·rw [if_neg h]
  have h0:=Wa (Decidable.not_not.1 h)
  refine Gv.bd (by simpa using h) ((Wb hl hx (fun i hi=>by have:=h0.2.co i hi;omega)).bind ?_)
  cases Be l x l.length 0 with
  | true=>exact Gv.aR rfl (Gv.pure _)
  | false=>exact Gv.bd rfl (Gv.pure _)
end
end Go.Den
namespace Go.Den
open Go.Ab
def yv (y:List aa) (i:Nat):Rat:=qv (y.getD i aa.d)
def cf (l:List aV) (i j:Nat):Rat:=qv ((l.getD i aV.d).dd.getD j aa.d)
def bv (l:List aV) (i:Nat):Rat:=qv (l.getD i aV.d).jT
def cS (l:List aV) (y:List aa) (j:Nat):Nat->Rat
 | 0=>0
 | i+1=>cS l y j i+yv y i * cf l i j
def bS (l:List aV) (y:List aa):Nat->Rat
 | 0=>0
 | i+1=>bS l y i+yv y i * bv l i
theorem akE:qv aa.d=0:=by decide +kernel
theorem alT {l:List aV} {i j:Nat} (h:(l.getD i aV.d).dd.length<=j):cf l i j=0:=by
 unfold cf;rw [Cg h,akE]
def lf (n:Nat) (f:Nat->Rat):List aa:=(List.range n).map fun j=>bL (f j)
theorem My {n:Nat} {f:Nat->Rat}:(lf n f).length=n:=by simp [lf]
theorem aca {n:Nat} {f:Nat->Rat} {j:Nat} (h:j < n):(lf n f).getD j aa.d=bL (f j):=by simp [lf,List.getD,h]
theorem Rk {n:Nat} {f g:Nat->Rat} (h:∀ j,j < n->f j=g j):lf n f=lf n g:=by
 unfold lf
 exact List.map_congr_left fun j hj=>by rw [h j (zP.1 hj)]
theorem anU {n:Nat} {f:Nat->Rat} {j:Nat} {v:Rat}:(lf n f).set j (bL v)=lf n (fun t=>if t=j then v else f t):=by
 apply List.ext_getElem
 ·simp [lf]
 ·intro t h1 h2
  simp only [lf,List.getElem_set,List.getElem_map,List.getElem_range]
  by_cases h:j=t
  ·rw [if_pos h,if_pos h.symm]
  ·rw [if_neg h,if_neg (fun e=>h e.symm)]
theorem akF {n:Nat} {f:Nat->Rat}:lf n f ++ [bL (f n)]=lf (n+1) f:=by
 unfold lf;rw [List.range_succ,List.map_append];rfl
section
variable {l:List aV} {y:List aa}
theorem aii (hl:Ch l) (i j:Nat):RQ ((l.getD i aV.d).dd.getD j aa.d) (cf l i j) 100:=⟨(hl.row i).co j,rfl,by decide⟩
theorem Rl (hy:LB y 8000000) (i:Nat):RQ (y.getD i aa.d) (yv y i) 8000000:=hy.rq (by decide) i
theorem aij (hl:Ch l) (hy:LB y 8000000) (j:Nat):∀ i,RB (cS l y j i) (1+8000101 * i)
 | 0=>RB.zero
 | i+1=>((aij hl hy j i).add ((Rl hy i).rb.mul (aii hl i j).rb)).le (by omega)
theorem aik (hl:Ch l) (hy:LB y 8000000):∀ i,RB (bS l y i) (1+8000101 * i)
 | 0=>RB.zero
 | i+1=>((aik hl hy i).add ((Rl hy i).rb.mul (hl.row i).brq.rb)).le (by omega)
theorem Ye {n:Nat} (hn:n<=1000) {R:List aa×aa×Bool} (hR:Gv (fun N=>fQ N l y N (lf n fun _=>0) (bL 0) 0) R):∀ k j,j+k=n->aF (fun N fuel=>jN N n l y fuel (lf j (fun _=>0) ++ List.replicate k aa.d) (j:Int)) R
 | 0,j,hj=>by
  have hj:j=n:=by omega
  subst hj
  refine aF.succ (fun N g=>jN.eq_2 ..) (aF.bd ?_ (aF.one (Gv.bind (r:=bL 0) (vJ (z:=0) (by decide) (by decide)) ?_)))
  ·rw [po,ag];exact dw
  ·simpa using hR
 | k+1,j,hj=>by
  have hl1:(lf j (fun _=>0) ++ List.replicate (k+1) aa.d).length=n:=by simp [My];omega
  refine aF.succ (fun N g=>jN.eq_2 ..) (aF.aR ?_ (aF.bind (r:=bL 0) (vJ (z:=0) (by decide) (by decide)) (aF.if (oX (by omega)) ?_)))
  ·rw [po,ag];exact dec_lt (by omega)
  ·rw [ag,aH (by omega)]
   have e:(lf j (fun _=>0) ++ List.replicate (k+1) aa.d).set j (bL 0)=lf (j+1) (fun _=>0) ++ List.replicate k aa.d:=by
    rw [List.set_append_right _ _ (by rw [My];exact aN _),My,Nat.sub_self,List.replicate_succ,List.set_cons_zero,<- akF,qA];rfl
   rw [e]
   exact Ye hn hR k (j+1) (by omega)
theorem ail (hl:Ch l) (hy:LB y 8000000) {n i:Nat} (Ww:i < l.length) (hiy:i < y.length) (hco:(l.getD i aV.d).dd.length<=n) (hn:n<=12) (B:Rat) (hB:RB B 480006061):∀ k j,j+k=(l.getD i aV.d).dd.length->∃ N0,∀ N fuel,N0<=N->N0<=fuel->∀ K:List aa->aa->Int->Option (List aa×aa×Bool),
  jM N l y (bL B) (i:Int) K fuel (lf n fun t=>if t < j then cS l y t (i+1) else cS l y t i) (j:Int)=K (lf n fun t=>cS l y t (i+1)) (bL (B+yv y i * bv l i)) ((i+1:Nat):Int)
 | 0,j,hj=>by
  have hj:j=(l.getD i aV.d).dd.length:=by omega
  subst hj
  have hlen:=hl.len
  obtain ⟨N1,h1⟩:=(Rl hy i).mul (hl.row i).brq (by decide)
  obtain ⟨N2,h2⟩:=(hB.rq (by decide)).add (((Rl hy i).rb.mul (hl.row i).brq.rb).rq (by decide)) (by decide)
  refine ⟨N1+N2+1,fun N fuel hN hf K=>?_⟩
  obtain ⟨g,rfl⟩:∃ g,fuel=g+1:=⟨fuel - 1,by omega⟩
  have YG:=h1 N (by omega)
  have h2':=h2 N (by omega)
  dsimp only at YG h2'
  rw [jM,ag,dw,cond_false,if_pos (oX hiy)]
  have e1:fq N (⟨((y.getD i aa.d).fN),((y.getD i aa.d).fD)⟩:aa) (⟨(((l.getD i aV.d).jT).fN),(((l.getD i aV.d).jT).fD)⟩:aa)=some (bL (yv y i * qv (l.getD i aV.d).jT)):=YG
  rw [e1,a9,h2',a9,aH (by omega)]
  congr 1
  refine Rk fun t _=>?_
  split
  ·rfl
  ·rw [cS,alT (by omega)];grind
 | k+1,j,hj=>by
  have hlen:=hl.len
  have hjl:j < (l.getD i aV.d).dd.length:=by omega
  obtain ⟨N1,h1⟩:=(Rl hy i).mul (aii hl i j) (by decide)
  have hs:RB (cS l y j i) 480006061:=(aij hl hy j i).le (by omega)
  obtain ⟨N2,h2⟩:=(hs.rq (by decide)).add (((Rl hy i).rb.mul (aii hl i j).rb).rq (by decide)) (by decide)
  obtain ⟨N3,h3⟩:=ail hl hy Ww hiy hco hn B hB k (j+1) (by omega)
  refine ⟨N1+N2+N3+1,fun N fuel hN hf K=>?_⟩
  obtain ⟨g,rfl⟩:∃ g,fuel=g+1:=⟨fuel - 1,by omega⟩
  have YG:=h1 N (by omega)
  have h2':=h2 N (by omega)
  dsimp only at YG h2'
  have e0:(lf n fun t=>if t < j then cS l y t (i+1) else cS l y t i).getD j aa.d=bL (cS l y j i):=by rw [aca (by omega),if_neg (by omega)]
  rw [jM,ag,dec_lt hjl,cond_true,if_pos (oX hjl),if_pos (oX (by rw [My];omega)),if_pos (oX hiy),ag,e0]
  have e1:fq N (⟨((y.getD i aa.d).fN),((y.getD i aa.d).fD)⟩:aa) (⟨((((l.getD i aV.d).dd).getD j aa.d).fN),((((l.getD i aV.d).dd).getD j aa.d).fD)⟩:aa)=some (bL (yv y i * cf l i j)):=YG
  have e2:g8 N (⟨(bL (cS l y j i)).fN,(bL (cS l y j i)).fD⟩:aa) (bL (yv y i * cf l i j))=some (bL (cS l y j i+yv y i * cf l i j)):=h2'
  rw [e1,a9,e2,a9,aH (by omega),anU]
  have e3:(lf n fun t=>if t=j then cS l y j i+yv y i * cf l i j else if t < j then cS l y t (i+1) else cS l y t i)=lf n fun t=>if t < j+1 then cS l y t (i+1) else cS l y t i:=by
   refine Rk fun t _=>?_
   by_cases h:t=j
   ·subst h;rw [if_pos rfl,if_pos (by omega),cS]
   ·rw [if_neg h]
    by_cases h2:t < j
    ·rw [if_pos h2,if_pos (by omega)]
    ·rw [if_neg h2,if_neg (by omega)]
  rw [e3]
  exact h3 N g (by omega) (by omega) K
def Dq (y:List aa):Nat->Nat->Bool
 | 0,_=>false
 | k+1,i=>if yv y i < 0 then true else Dq y k (i+1)
theorem acb (hl:Ch l) (hy:LB y 8000000) {n:Nat} (ok:aau n l) (hyl:y.length=l.length):∀ k i,i+k=l.length->∃ r,aF (fun N fuel=>fQ N l y fuel (lf n fun t=>cS l y t i) (bL (bS l y i)) (i:Int)) r /\
  ((Dq y k i=true/\r.2.2=false)\/(Dq y k i=false/\r=(lf n fun t=>cS l y t l.length,bL (bS l y l.length),true)))
 | 0,i,hi=>by
  have hi:i=l.length:=by omega
  subst hi
  exact ⟨_,aF.succ (fun N g=>fQ.eq_2 ..) (aF.bd dw (aF.one (Gv.pure _))),.inr ⟨rfl,rfl⟩⟩
 | k+1,i,hi=>by
  have m5:i < l.length:=by omega
  have hlen:=hl.len
  have hsg:=(Rl hy i).uP (by decide)
  rw [Dq]
  by_cases h:yv y i < 0
  ·rw [if_pos h]
   refine ⟨([],bL (bS l y i),false),aF.succ (fun N g=>fQ.eq_2 ..) (aF.aR (dec_lt m5) (aF.if (oX m5) (aF.if (oX (by omega)) (aF.bind (r:=uP (yv y i)) hsg ?_)))),.inl ⟨rfl,rfl⟩⟩
   rw [M8];exact aF.aR (decide_eq_true h) (aF.one (Gv.pure _))
  ·rw [if_neg h]
   obtain ⟨r,h1,h2⟩:=acb hl hy ok hyl k (i+1) (by omega)
   refine ⟨r,aF.succ (fun N g=>fQ.eq_2 ..) (aF.aR (dec_lt m5) (aF.if (oX m5) (aF.if (oX (by omega)) (aF.bind (r:=uP (yv y i)) hsg ?_)))),h2⟩
   rw [M8]
   refine aF.bd (decide_eq_false h) ?_
   have hB:RB (bS l y i) 480006061:=(aik hl hy i).le (by omega)
   obtain ⟨N0,h3⟩:=ail hl hy m5 (by omega) (ok.co i m5) ok.anR (bS l y i) hB _ 0 (Nat.zero_add _)
   obtain ⟨N1,h1⟩:=h1
   refine ⟨N0+N1,fun N fuel hN hf=>?_⟩
   have:=h3 N N (by omega) (by omega) (fQ N l y fuel)
   have e:(lf n fun t=>if t < 0 then cS l y t (i+1) else cS l y t i)=lf n fun t=>cS l y t i:=Rk fun t _=>by rw [if_neg (by omega)]
   rw [e] at this
   exact this.trans (h1 N fuel (by omega) (by omega))
theorem Yf (hl:Ch l) (hy:LB y 8000000) {n:Nat} (ok:aau n l) (hyl:y.length=l.length):∃ r,Gv (fun N=>xZ N n l y) r /\
  ((Dq y l.length 0=true/\r.2.2=false)\/(Dq y l.length 0=false/\r=(lf n fun t=>cS l y t l.length,bL (bS l y l.length),true))):=by
 have hn:=ok.anR
 obtain ⟨r,h1,h2⟩:=acb hl hy ok hyl l.length 0 (by omega)
 refine ⟨r,Gv.if ⟨by omega,by omega,by omega⟩ ?_,h2⟩
 have:=(Ye (n:=n) (by omega) h1.diag n 0 (by omega)).diag
 rw [ag]
 exact this
end
end Go.Den
namespace Go.Den
open Go.Ab
section
variable {l:List aV} {y:List aa} {n:Nat}
def M9 (f:Nat->Rat):Nat->Nat->Bool
 | 0,_=>false
 | k+1,i=>if f i=0 then M9 f k (i+1) else true
theorem alU {f:Nat->Rat} (hn:n<=1000) (hf:∀ j,RB (f j) 480006061):∀ k i,i+k=n->∃ r,aF (fun N fuel=>cm N (lf n f) fuel (i:Int)) r/\decide (r>=0)=M9 f k i
 | 0,i,hi=>by
  have e:decide ((i:Int) < (((lf n f).length:Nat):Int))=false:=by rw [My];exact decide_eq_false (by omega)
  exact ⟨-1,aF.succ (fun N g=>cm.eq_2 ..) (aF.bd e (aF.one (Gv.pure _))),rfl⟩
 | k+1,i,hi=>by
  have m5:i < (lf n f).length:=by rw [My];omega
  obtain ⟨r,h1,h2⟩:=alU hn hf k (i+1) (by omega)
  have hp:Gv (fun N=>kB N ((lf n f).getD i aa.d)) (!decide (f i=0)):=by
   rw [aca (by omega)]
   exact (((hf i).rq (by decide)).zero (by decide)).bind (Gv.pure _)
  rw [M9]
  by_cases h:f i=0
  ·rw [if_pos h]
   refine ⟨r,aF.succ (fun N g=>cm.eq_2 ..) (aF.aR (dec_lt m5) (aF.if (oX m5) (aF.bind hp (aF.bd (by rw [decide_eq_true h];rfl) ?_)))),h2⟩
   rw [aH (by omega)];exact h1
  ·rw [if_neg h]
   exact ⟨(i:Int),aF.succ (fun N g=>cm.eq_2 ..) (aF.aR (dec_lt m5) (aF.if (oX m5) (aF.bind hp (aF.aR (by rw [decide_eq_false h];rfl) (aF.one (Gv.pure _)))))),decide_eq_true (by omega)⟩
theorem apY {f:Nat->Rat} (hn:n<=1000) (hf:∀ j,RB (f j) 480006061):Gv (fun N=>jV N (lf n f)) (M9 f n 0):=by
 obtain ⟨r,h1,h2⟩:=alU hn hf n 0 (by omega)
 refine Gv.bind h1.diag ?_
 rw [h2];exact Gv.pure _
theorem asJ (hl:Ch l) (hy:LB y 8000000):RB (bS l y l.length) 480006061:=(aik hl hy _).le (by have:=hl.len;omega)
theorem asK (hl:Ch l) (hy:LB y 8000000) (j:Nat):RB (cS l y j l.length) 480006061:=(aij hl hy j _).le (by have:=hl.len;omega)
def contra (l:List aV) (y:List aa) (n:Nat):Bool:=!Dq y y.length 0 && decide (bS l y l.length < 0) && !M9 (fun j=>cS l y j l.length) n 0
def Jb (n:Int) (l:List aV) (y:List aa):Int:=if nU n l≠0 then nU n l else if y.length≠l.length then 11 else cond (contra l y n.toNat) 0 24
theorem Eg (hl:Ch l) (hy:LB y 8000000) (n:Int):Gv (fun N=>jG N n l y) (Jb n l y):=by
 refine (yg _ _).bind ?_
 unfold Jb
 by_cases h:nU n l≠0
 ·rw [if_pos h];exact Gv.aR (by simpa using h) (Gv.pure _)
 ·rw [if_neg h]
  refine Gv.bd (by simpa using h) ?_
  by_cases h1:y.length≠l.length
  ·rw [if_pos h1];exact Gv.aR (by simp;omega) (Gv.pure _)
  ·rw [if_neg h1]
   have h1:y.length=l.length:=Decidable.not_not.1 h1
   obtain ⟨n0,ok⟩:=Wa (Decidable.not_not.1 h)
   have hn:=ok.anR
   obtain ⟨m,rfl⟩:∃ m:Nat,n=m:=⟨n.toNat,by omega⟩
   rw [ag] at ok hn ⊢
   refine Gv.bd (by simp;omega) ?_
   obtain ⟨r,g1,g2⟩:=Yf hl hy ok h1
   refine g1.bind ?_
   unfold contra
   rw [h1]
   rcases g2 with ⟨g2,g3⟩ | ⟨g2,rfl⟩
   ·rw [g2,g3]
    exact Gv.bind (Gv.bd rfl (Gv.pure 0)) (Gv.bind (Gv.bd rfl (Gv.pure false)) (Gv.aR rfl (Gv.pure _)))
   ·rw [g2]
    refine Gv.bind (Gv.aR rfl (((asJ hl hy).rq (by decide)).uP (by decide))) ?_
    rw [aal]
    by_cases hb:0<=bS l y l.length
    ·rw [decide_eq_true hb,decide_eq_false (show ¬ bS l y l.length < 0 by grind)]
     exact Gv.bind (Gv.bd rfl (Gv.pure false)) (Gv.aR rfl (Gv.pure _))
    ·rw [decide_eq_false hb,decide_eq_true (show bS l y l.length < 0 by grind)]
     refine Gv.bind (Gv.aR rfl (apY (by omega) (asK hl hy))) ?_
     cases M9 (fun j=>cS l y j l.length) m 0 with
     | true=>exact Gv.aR rfl (Gv.pure _)
     | false=>exact Gv.bd rfl (Gv.pure _)
end
end Go.Den
namespace Go.Den
open Go.Ab
structure Ku (l:List aV):Prop where
 co:∀ i j,RQ ((l.getD i aV.d).dd.getD j aa.d) (cf l i j) 100
 bo:∀ i,RQ (l.getD i aV.d).jT (bv l i) 100
theorem Ci {α:Type} (f:Nat->α) (n:Nat):I9 f n ++ [f n]=I9 f (n+1):=by
 unfold I9;rw [List.range_succ,List.map_append];rfl
section
variable {n:Nat} {l:List aV}
abbrev D0 (n:Nat) (l:List aV):bZ:=bZ.fst n l.length (cf l) (bv l) 0
def TB (n:Nat) (l:List aV):ow :=
 ⟨n,((l.length:Nat):Int),LN (D0 n l).jK l.length,LN (D0 n l).fr (2 * n+1),LA (D0 n l).a l.length (2 * n+1),LQ (bv l) l.length,LQ (D0 n l).g (2 * n+1),bL 0,((2 * n+l.length:Nat):Int)⟩
theorem w2n (hn:n<=12):aE (2 * (n:Int))=((2 * n:Nat):Int):=by rw [aX (by omega) (by omega)];omega
theorem aim (hn:n<=12) {t t2:List Int} {t3:List (List aa)} {t4:List aa} (hl:l.length<=40) (h1:t=LN (fun j=>j) (2 * n)) (h2:t2=LN (D0 n l).jK l.length) (h3:t3=LA (D0 n l).a l.length (2 * n+1)) (h4:t4=LQ (bv l) l.length) :
  ∀ (d x:Nat) (L:List aa),x+d=2 * n+1->L.length=2 * n+1->(∀ j,j < x->L.getD j aa.d=bL 0) ->
  aF (fun N g=>nw N (n:Int) l (bL 0) t t2 t3 t4 g L (x:Int)) (TB n l)
 | 0,x,L,hx,hL,h0=>by
  refine aF.succ (fun N g=>nw.eq_2 ..) (aF.bd (dnl (m:=x) (n:=2 * n+1) (by omega) (by rw [po,w2n hn,aH (by omega)];rfl)) (aF.one ((Gv.pure _).eq ?_)))
  have e1:aE (((2 * n:Nat):Int)+((l.length:Nat):Int))=((2 * n+l.length:Nat):Int):=by rw [aX (by omega) (by omega)];omega
  have e2:L=LQ (D0 n l).g (2 * n+1):=Rg aa.d hL fun j hj=>by
   rw [h0 j (by omega)];simp only [bZ.fst];split<;>rfl
  have e3:t ++ [((2 * n+l.length:Nat):Int)]=LN (D0 n l).fr (2 * n+1):=by
   have h:=Ci (fun j=>(((D0 n l).fr j:Nat):Int)) (2 * n)
   have h5:(D0 n l).fr (2 * n)=2 * n+l.length:=by simp only [bZ.fst];rw [if_neg (by omega)]
   rw [h5] at h
   unfold LN
   rw [<- h,h1];unfold LN
   congr 1
   exact vK fun j hj=>by simp only [bZ.fst];rw [if_pos hj]
  rw [w2n hn,e1,e3,h2,h3,h4,e2];rfl
 | d+1,x,L,hx,hL,h0=>by
  have yf:x < 2 * n+1:=by omega
  refine aF.succ (fun N g=>nw.eq_2 ..) (aF.aR (dlt (n:=2 * n+1) yf (by rw [po,w2n hn,aH (by omega)];rfl)) (aF.bind Ao (aF.if (inl yf hL) ?_)))
  rw [aH (show x < 9223372036854775807 by omega)]
  refine aim hn hl h1 h2 h3 h4 d (x+1) _ (by omega) (by rw [List.length_set];exact hL) fun j hj=>?_
  rw [ag]
  by_cases e:x=j
  ·subst e;exact nc _ _ _ _ (by omega)
  ·rw [kn _ _ _ e];exact h0 j (by omega)
theorem ain (hn:n<=12) (hl:Ku l) (hll:l.length<=40) {i:Nat} (hi:i < l.length) (hco:(l.getD i aV.d).dd.length<=n) {t t2:List Int} {t3:List (List aa)} {t4:List aa} (h3:t3.length=i) (h4:t4.length=i) {rn:aa}:∀ (d x:Nat) (L:List aa),x+d=n->L.length=2 * n+1 ->
  (∀ j,j < x->L.getD j aa.d=bL (-(cf l i j))/\L.getD (n+j) aa.d=bL (cf l i j)) ->
  Ev fun N g=>∀ K,iI N (n:Int) l rn t t2 t3 t4 (i:Int) K g L (x:Int)=K (t2 ++ [((2 * n+i:Nat):Int)]) (t3 ++ [LQ ((D0 n l).a i) (2 * n+1)]) (t4 ++ [bL (bv l i)]) ((i+1:Nat):Int)
 | 0,x,L,hx,hL,h0=>by
  have RZ:=(hl.bo i).low (by decide)
  refine Ev.succ (((vJ (z:=1) (by decide) (by decide)).ev.and RZ.ev).mono fun N g ⟨q1,q2⟩ K=>?_)
  have e1:aE (((2 * n:Nat):Int)+(i:Int))=((2 * n+i:Nat):Int):=by rw [aX (by omega) (by omega)];omega
  have hb:j9 N ⟨((l.getD i aV.d).jT).fN,((l.getD i aV.d).jT).fD⟩=some (bL (bv l i)):=q2
  have eL:L.set (2 * n) (bL ((1:Int):Rat))=LQ ((D0 n l).a i) (2 * n+1):=by
   refine Rg aa.d (by rw [List.length_set];exact hL) fun j hj=>?_
   simp only [bZ.fst]
   by_cases e:2 * n=j
   ·rw [<- e,nc _ _ _ _ (by omega),if_neg (by omega),if_neg (by omega)];rfl
   ·rw [kn _ _ _ e]
    by_cases h:j < n
    ·rw [if_pos h];exact (h0 j (by omega)).1
    ·rw [if_neg h,if_pos (by omega)]
     have:=(h0 (j - n) (by omega)).2
     rwa [show n+(j - n)=j by omega] at this
  rw [iI,show decide ((x:Int) < (n:Int))=false from decide_eq_false (by omega),cond_false,q1,a9,w2n hn,ag,ag,if_pos (inl (show 2 * n < 2 * n+1 by omega) hL),if_pos (by omega),hb,a9,if_pos (by omega),e1,eL,aH (by omega)]
 | d+1,x,L,hx,hL,h0=>by
  have hxn:x < n:=by omega
  have e1:aE ((n:Int)+(x:Int))=((n+x:Nat):Int):=by rw [aX (by omega) (by omega)];omega
  have hC:RB (cf l i x) 100:=(hl.co i x).rb
  have I8:Gv (fun N=>gq N (bL (cf l i x))) (bL (-(cf l i x))):=by
   have:=tZ (hC.q (show 100<=MS by decide)).ir (by decide) (Wy (by decide));rwa [tF] at this
  have ih:=ain hn hl hll hi hco h3 h4 (t:=t) (t2:=t2) (rn:=rn) d (x+1) ((L.set x (bL (-(cf l i x)))).set (n+x) (bL (cf l i x))) (by omega) (by rw [List.length_set,List.length_set];exact hL) fun j hj=>by
   by_cases e:j=x
   ·subst e
    refine ⟨?_,nc _ _ _ _ (by rw [List.length_set];omega)⟩
    rw [kn _ _ _ (by omega),nc _ _ _ _ (by omega)]
   ·rw [kn _ _ _ (show n+x≠j by omega),kn _ _ _ (show x≠j by omega),kn _ _ _ (show n+x≠n+j by omega),kn _ _ _ (show x≠n+j by omega)]
    exact h0 j (by omega)
  have fin:∀ N g K,gq N (bL (cf l i x))=some (bL (-(cf l i x)))->(iI N (n:Int) l rn t t2 t3 t4 (i:Int) K g ((L.set x (bL (-(cf l i x)))).set (n+x) (bL (cf l i x))) ((x+1:Nat):Int)=K (t2 ++ [((2 * n+i:Nat):Int)]) (t3 ++ [LQ ((D0 n l).a i) (2 * n+1)]) (t4 ++ [bL (bv l i)]) ((i+1:Nat):Int)) ->
    ry N (n:Int) l rn t t2 t3 t4 (i:Int) L (x:Int) (iI N (n:Int) l rn t t2 t3 t4 (i:Int) K g) K (bL (cf l i x))=K (t2 ++ [((2 * n+i:Nat):Int)]) (t3 ++ [LQ ((D0 n l).a i) (2 * n+1)]) (t4 ++ [bL (bv l i)]) ((i+1:Nat):Int):=fun N g K q1 q2=>by
   unfold ry
   rw [q1,a9,e1,ag,ag,if_pos (inl (show x < 2 * n+1 by omega) hL),if_pos (inl (show n+x < 2 * n+1 by omega) hL),aH (by omega)]
   exact q2
  by_cases hc:x < (l.getD i aV.d).dd.length
  ·have RZ:=(hl.co i x).low (by decide)
   refine Ev.succ (((Ao.ev.and I8.ev).and (RZ.ev.and ih)).mono fun N g ⟨⟨q1,q2⟩,q3,q4⟩ K=>?_)
   have q3':j9 N ⟨(((l.getD i aV.d).dd).getD x aa.d).fN,(((l.getD i aV.d).dd).getD x aa.d).fD⟩=some (bL (cf l i x)):=q3
   rw [iI,show decide ((x:Int) < (n:Int))=true from decide_eq_true (by omega),cond_true,q1,a9,ag,ag,dec_lt hc,cond_true,if_pos (oX hc),q3',a9]
   exact fin N g K q2 (q4 K)
  ·have hz:cf l i x=0:=alT (by omega)
   refine Ev.succ (((Ao.ev.and I8.ev).and ih).mono fun N g ⟨⟨q1,q2⟩,q4⟩ K=>?_)
   rw [iI,show decide ((x:Int) < (n:Int))=true from decide_eq_true (by omega),cond_true,q1,a9,ag,decide_eq_false (by omega),cond_false,<- hz]
   exact fin N g K q2 (q4 K)
theorem aio (hn:n<=12) (hl:Ku l) (hll:l.length<=40) (hco:∀ i,i < l.length->(l.getD i aV.d).dd.length<=n):∀ d x,x+d=l.length ->
  aF (fun N g=>lJ N (n:Int) l (bL 0) (LN (fun j=>j) (2 * n)) g (LN (D0 n l).jK x) (LA (D0 n l).a x (2 * n+1)) (LQ (bv l) x) (x:Int)) (TB n l)
 | 0,x,hx=>by
  have hx:x=l.length:=by omega
  subst hx
  refine aF.succ (fun N g=>lJ.eq_2 ..) (aF.bd dw ?_)
  have ew:aE (aE (2 * (n:Int))+1)=((2 * n+1:Nat):Int):=by rw [w2n hn,aH (by omega)]
  rw [ew,ag]
  refine aF.if (by omega) (aF.one ?_)
  exact (aim hn hll rfl rfl rfl rfl (2 * n+1) 0 (List.replicate (2 * n+1) aa.d) (by omega) po fun j hj=>absurd hj (fj _)).diag
 | d+1,x,hx=>by
  have wa:x < l.length:=by omega
  have ew:aE (aE (2 * (n:Int))+1)=((2 * n+1:Nat):Int):=by rw [w2n hn,aH (by omega)]
  obtain ⟨N1,h1⟩:=(ain hn hl hll wa (hco x wa) (t:=LN (fun j=>j) (2 * n)) (t2:=LN (D0 n l).jK x) (oj (D0 n l).a x (2 * n+1)) (ct (bv l) x) (rn:=bL 0) n 0 (List.replicate (2 * n+1) aa.d) (by omega) po fun j hj=>absurd hj (fj _))
  obtain ⟨N2,h2⟩:=aio hn hl hll hco d (x+1) (by omega)
  refine aF.succ (fun N g=>lJ.eq_2 ..) (aF.aR (dec_lt wa) (aF.if (oX wa) (aF.if (by rw [gF];omega) ?_)))
  rw [ew,ag]
  refine aF.if (by omega) ⟨N1+N2,fun N g hN hg=>?_⟩
  have e1:=Ci (fun i=>(((D0 n l).jK i:Nat):Int)) x
  have e2:=Ci (fun i=>LQ ((D0 n l).a i) (2 * n+1)) x
  have e3:=Ci (fun i=>bL (bv l i)) x
  have YG:=h1 N N (by omega) (by omega) (lJ N (n:Int) l (bL 0) (LN (fun j=>j) (2 * n)) g)
  refine YG.trans ?_
  have h2':=h2 N g (by omega) (by omega)
  unfold LN LA LQ at h2' ⊢
  unfold LQ at e2
  rw [<- e1,<- e2,<- e3] at h2'
  exact h2'
theorem aip (hn:n<=12) (hl:Ku l) (hll:l.length<=40) (hco:∀ i,i < l.length->(l.getD i aV.d).dd.length<=n):∀ d x,x+d=2 * n ->
  aF (fun N g=>ny N (n:Int) l (bL 0) g (LN (fun j=>j) x) (x:Int)) (TB n l)
 | 0,x,hx=>by
  have hx:x=2 * n:=by omega
  subst hx
  refine aF.succ (fun N g=>ny.eq_2 ..) (aF.bd (by rw [w2n hn];exact decide_eq_false (by omega)) (aF.if (by rw [gF];omega) (aF.one ?_)))
  exact (aio hn hl hll hco l.length 0 (by omega)).diag
 | d+1,x,hx=>by
  refine aF.succ (fun N g=>ny.eq_2 ..) (aF.aR (by rw [w2n hn];exact decide_eq_true (by omega)) (aF.if (by rw [gF];omega) ?_))
  have e1:=Ci (fun i=>((i:Nat):Int)) x
  have ih:=aip hn hl hll hco d (x+1) (by omega)
  rw [aH (by omega)]
  unfold LN at ih ⊢
  rw [<- e1] at ih
  exact ih
theorem aiq (hn:n<=12) (hl:Ku l) (hll:l.length<=40) (hco:∀ i,i < l.length->(l.getD i aV.d).dd.length<=n):Gv (fun N=>GA N (n:Int) l) (TB n l) :=
 Ao.bind (aip hn hl hll hco (2 * n) 0 (by omega)).diag
theorem aav (hl:Ku l):(D0 n l).N9 l.length (2 * n+1) 100:=by
 have hC:∀ i j,RB (cf l i j) 100:=fun i j=>(hl.co i j).rb
 refine ⟨fun i j _ _=>?_,fun i _=>(hl.bo i).rb,fun j _=>?_,RB.zero.le (by decide)⟩
 ·simp only [bZ.fst]
  split
  ·exact (hC i j).neg
  ·split
   ·exact hC i _
   ·exact bZ.RB1.le (by decide)
 ·simp only [bZ.fst];split<;>exact RB.zero.le (by decide)
end
section
variable {n m k h s:Nat} {D:bZ}
theorem acd (hm:m<=1000) (hn:n<=400) (hk:k<=1000) (hs:s<=MS) (hw:D.WF m k) (hg:∀ j,j < k->RB (D.g j) s):∀ (d x:Nat) (L:List aa),x+d=m->L.length=m->(∀ i,i < x->L.getD i aa.d=bL (-(D.gc k (2 * n+i)))) ->
  aF (fun N g=>b9 N (n:Int) (m:Int) (bL D.v).fN.fG (bL D.v).fN.fL (bL D.v).fD.fG (bL D.v).fD.fL (h:Int) (LN D.jK m) (LN D.fr k) (LA D.a m k) (LQ D.b m) (LQ D.g k) g L (x:Int)) (LQ (fun i=>-(D.gc k (2 * n+i))) m)
 | 0,x,L,hx,hL,h0=>aF.succ (fun N g=>b9.eq_2 ..) (aF.bd (dnl (m:=x) (n:=m) (by omega) (by rw [po];rfl)) (aF.one ((Gv.pure _).eq (Rg aa.d hL fun i hi=>h0 i (by omega)))))
 | d+1,x,L,hx,hL,h0=>by
  have yx:x < m:=by omega
  have ew:aE (aE (2 * (n:Int))+(x:Int))=((2 * n+x:Nat):Int):=by
   rw [show aE (2 * (n:Int))=((2 * n:Nat):Int) by rw [aX (by omega) (by omega)];omega,aX (by omega) (by omega)];omega
  obtain ⟨r,q1,q2⟩:=V9 (f:=D.fr) (k:=k) (v:=2 * n+x) hk
  have nx:∀ (y:aa),y=bL (-(D.gc k (2 * n+x)))->∀ L2:List aa,L2=L.set x y->aF (fun N g=>b9 N (n:Int) (m:Int) (bL D.v).fN.fG (bL D.v).fN.fL (bL D.v).fD.fG (bL D.v).fD.fL (h:Int) (LN D.jK m) (LN D.fr k) (LA D.a m k) (LQ D.b m) (LQ D.g k) g L2 ((x+1:Nat):Int)) (LQ (fun i=>-(D.gc k (2 * n+i))) m):=fun y hy L2 e2=>by
   subst e2
   refine acd hm hn hk hs hw hg d (x+1) _ (by omega) (by rw [List.length_set];exact hL) fun i hi=>?_
   by_cases e:x=i
   ·subst e;rw [nc _ _ _ _ (by omega)];exact hy
   ·rw [kn _ _ _ e];exact h0 i (by omega)
  refine aF.succ (fun N g=>b9.eq_2 ..) (aF.aR (dlt (n:=m) yx (by rw [po];rfl)) (aF.bind Ao (aF.if (inl yx hL) ?_)))
  rw [ew]
  refine aF.bind q1 ?_
  simp only [gA,ag,aH (show x < 9223372036854775807 by omega)]
  rcases q2 with ⟨rfl,q2⟩ | ⟨j,rfl,hj,q2⟩
  ·exact aF.bd (by decide) (nx _ (by rw [bZ.V7 q2];rfl) _ rfl)
  ·have hgj:=hg j hj
   refine aF.aR (by simp) (aF.if (inl hj (ct _ _)) ?_)
   simp only [lO _ _ hj,ag,List.set_set]
   refine aF.bind (r:=bL (-(D.g j))) (by have:=tZ (hgj.q hs).ir (by decide) (Wy (by decide));rwa [tF] at this) (aF.if (inl yx (by rw [List.length_set];exact hL)) ?_)
   exact nx _ (by rw [<- q2,bZ.ahX hw hj]) _ rfl
theorem akH (hm:m<=1000) (hn:n<=400) (hk:k<=1000) (hs:s<=MS) (hw:D.WF m k) (hg:∀ j,j < k->RB (D.g j) s) :
  Gv (fun N=>k7 N (n:Int) (m:Int) (bL D.v).fN.fG (bL D.v).fN.fL (bL D.v).fD.fG (bL D.v).fD.fL (h:Int) (LN D.jK m) (LN D.fr k) (LA D.a m k) (LQ D.b m) (LQ D.g k)) (LQ (fun i=>-(D.gc k (2 * n+i))) m) :=
 Gv.if (by omega) (acd hm hn hk hs hw hg m 0 (List.replicate m aa.d) (by omega) po fun i hi=>absurd hi (fj _)).diag
def KK (D:bZ) (m u:Nat):Rat:=match D.rix m u with
 | some i=>D.b i
 | none=>0
theorem ace (D:bZ) (m k u:Nat):KK D m u=D.ext m k bZ.zO u:=by
 unfold KK bZ.ext
 cases D.rix m u with
 | none=>rfl
 | some i=>simp only [bZ.ye]
theorem alW (hm:m<=1000) (hw:∀ i i',i < m->i' < m->D.jK i=D.jK i'->i=i') (u:Nat) :
  Gv (fun N=>qT N (u:Int) (n:Int) (m:Int) (bL D.v).fN.fG (bL D.v).fN.fL (bL D.v).fD.fG (bL D.v).fD.fL (h:Int) (LN D.jK m) (LN D.fr k) (LA D.a m k) (LQ D.b m) (LQ D.g k)) (bL (KK D m u)):=by
 obtain ⟨r,q1,q2⟩:=V9 (f:=D.jK) (k:=m) (v:=u) hm
 refine Gv.bind q1 ?_
 rcases q2 with ⟨rfl,q2⟩ | ⟨i,rfl,hi,q2⟩
 ·refine Gv.bd (by decide) (Ao.bind ((Gv.pure _).eq ?_))
  unfold KK;rw [bZ.Kq q2]
 ·refine Gv.aR (by simp) (Gv.if (inl hi (ct _ _)) ((Gv.pure _).eq ?_))
  simp only [ag,lO _ _ hi]
  unfold KK;rw [<- q2,bZ.Ou hw hi]
theorem Yg (hm:m<=1000) (hn:n<=400) (hs:2 * s+1<=MS) (hw:∀ i i',i < m->i' < m->D.jK i=D.jK i'->i=i') (hp:∀ u,RB (KK D m u) s):∀ (d x:Nat) (L:List aa),x+d=n->L.length=n->(∀ i,i < x->L.getD i aa.d=bL (KK D m i - KK D m (n+i))) ->
  aF (fun N g=>fB N (n:Int) (m:Int) (bL D.v).fN.fG (bL D.v).fN.fL (bL D.v).fD.fG (bL D.v).fD.fL (h:Int) (LN D.jK m) (LN D.fr k) (LA D.a m k) (LQ D.b m) (LQ D.g k) g L (x:Int)) (LQ (fun i=>KK D m i - KK D m (n+i)) n)
 | 0,x,L,hx,hL,h0=>aF.succ (fun N g=>fB.eq_2 ..) (aF.bd (dnl (m:=x) (n:=n) (by omega) (by rw [po];rfl)) (aF.one ((Gv.pure _).eq (Rg aa.d hL fun i hi=>h0 i (by omega)))))
 | d+1,x,L,hx,hL,h0=>by
  have hxn:x < n:=by omega
  have ew:aE ((n:Int)+(x:Int))=((n+x:Nat):Int):=by rw [aX (by omega) (by omega)];omega
  have r1:=(hp x).q (show s<=MS by omega)
  have r2:=(hp (n+x)).q (show s<=MS by omega)
  refine aF.succ (fun N g=>fB.eq_2 ..) (aF.aR (dlt (n:=n) hxn (by rw [po];rfl)) (aF.bind (alW hm hw x) ?_))
  rw [ew]
  refine aF.bind (alW hm hw (n+x)) (aF.bind (r1.sub r2 (Wy (by decide))) (aF.if (inl hxn hL) ?_))
  rw [aH (show x < 9223372036854775807 by omega),ag]
  refine Yg hm hn hs hw hp d (x+1) _ (by omega) (by rw [List.length_set];exact hL) fun i hi=>?_
  by_cases e:x=i
  ·subst e;exact nc _ _ _ _ (by omega)
  ·rw [kn _ _ _ e];exact h0 i (by omega)
theorem air (hm:m<=1000) (hn:n<=400) (hs:2 * s+1<=MS) (hw:∀ i i',i < m->i' < m->D.jK i=D.jK i'->i=i') (hp:∀ u,RB (KK D m u) s) :
  Gv (fun N=>qD N (n:Int) (m:Int) (bL D.v).fN.fG (bL D.v).fN.fL (bL D.v).fD.fG (bL D.v).fD.fL (h:Int) (LN D.jK m) (LN D.fr k) (LA D.a m k) (LQ D.b m) (LQ D.g k)) (LQ (fun i=>KK D m i - KK D m (n+i)) n) :=
 Gv.if (by omega) (Yg hm hn hs hw hp n 0 (List.replicate n aa.d) (by omega) po fun i hi=>absurd hi (fj _)).diag
end
end Go.Den
namespace Go.Den
open Go.Ab
section
variable {n:Nat} {l:List aV}
structure acf (q:Nat) (n:Nat) (l:List aV) (y:Nat->Rat):Prop where
 nn:∀ i,i < l.length->0<=y i
 col:∀ j,j < n->cZ l.length (fun i=>y i * cf l i j)=0
 neg:cZ l.length (fun i=>y i * bv l i) < 0
 rb:∀ i,i < l.length->RB (y i) q
structure apZ (q:Nat) (n:Nat) (l:List aV) (x:Nat->Rat):Prop where
 ok:∀ i,i < l.length->bZ.Ef n (cf l) x i<=bv l i
 rb:∀ j,j < n->RB (x j) q
variable {e5:Nat}
abbrev ZZ (e5:Nat):Nat:=5 ^ e5 * 100
theorem ZZ1 (e5:Nat):100<=ZZ e5:=Nat.le_mul_of_pos_left _ (Nat.pow_pos (by decide))
theorem Wc {D:bZ} (hl:Ku l) (h5:l.length<=e5\/2 * n+1<=e5) (h:Oz n l.length (cf l) (bv l) D):acf (ZZ e5) n l (fun i=>-(D.gc (2 * n+1) (2 * n+i)))/\∀ j,j < 2 * n+1->RB (D.g j) (ZZ e5):=by
 obtain ⟨q1,q2,q3⟩:=bZ.apV h.wf h.eqv h.g
 have hr:=bZ.Yb h5 h.wf (bZ.Rc n l.length (cf l) (bv l) (-1)) h.eqv (ab9 (-1) (bZ.RB1.neg.le (by decide)) (aav hl)) (by decide:1<=100)
 have hp:=ZZ1 e5
 refine ⟨⟨fun i _=>by have:=q1 (2 * n+i);grind,q2,by rw [q3];exact h.v,fun i _=>?_⟩,fun j hj=>hr.g j hj⟩
 by_cases e:∃ j,j < 2 * n+1/\D.fr j=2 * n+i
 ·obtain ⟨j,hj,e⟩:=e
  rw [<- e,bZ.ahX h.wf hj];exact (hr.g j hj).neg
 ·rw [bZ.V7 fun j hj q=>e ⟨j,hj,q⟩];exact RB.zero.neg.le (eF (by decide) hp)
theorem Sp {D:bZ} {c:Nat} (hl:Ku l) (h5:l.length<=e5\/2 * n+1<=e5) (h:Kt n l.length (cf l) (bv l) D c):apZ (2 * ZZ e5+1) n l (fun j=>KK D l.length j - KK D l.length (n+j))/\∀ u,RB (KK D l.length u) (ZZ e5):=by
 obtain ⟨z,he⟩:=h.eqv
 -- the goal does not matter
 have hr:∀ i,i < l.length->RB (D.b i) (ZZ e5):=fun i hi=>by
  have e0:bZ.KJ l.length (2 * n+1) (bZ.fst n l.length (cf l) (bv l) 0) { D with g:=fun j=>if D.fr j=2 * n+l.length then 0 else 0,v:=0 }:=⟨fun x=>by
   rw [<- bZ.Yc n l.length (cf l) (bv l) z D x he];exact Iff.rfl,fun x _=>by
   rw [bZ.ahY];unfold bZ.gv
   rw [bH (g:=fun _=>0) fun j _=>by simp,nf];grind⟩
  have hw:bZ.WF { D with g:=fun j=>if D.fr j=2 * n+l.length then 0 else 0,v:=0 } l.length (2 * n+1):=⟨h.wf.bi,h.wf.fi,h.wf.bf,h.wf.bl,h.wf.fl,h.wf.al⟩
  exact ((bZ.Yb h5 hw (bZ.Rc n l.length (cf l) (bv l) 0) e0 (aav hl) (by decide:1<=100)).b i hi)
 have hp:∀ u,RB (KK D l.length u) (ZZ e5):=fun u=>by
  by_cases e:∃ i,i < l.length/\D.jK i=u
  ·obtain ⟨i,hi,e⟩:=e
   unfold KK;rw [<- e,bZ.Ou h.wf.bi hi];exact hr i hi
  ·unfold KK;rw [bZ.Kq fun i hi q=>e ⟨i,hi,q⟩];exact RB.zero.le (eF (by decide) (ZZ1 e5))
 refine ⟨⟨fun i hi=>?_,fun j _=>((hp j).sub (hp (n+j))).le (by omega)⟩,hp⟩
 have hs:=(bZ.Yc n l.length (cf l) (bv l) z D _ he).1 (bZ.yd h.wf bZ.zO)
 have hs:=(bZ.Ow n l.length (cf l) (bv l) 0 _).1 hs i hi
 have h0:D.ext l.length (2 * n+1) bZ.zO (2 * n+l.length)=0:=by rw [<- h.fr,bZ.Bd h.wf h.lt];rfl
 have hnn:=bZ.Mx h.wf h.fea (2 * n+i) (by omega)
 rw [h0] at hs
 have e:(fun j=>KK D l.length j - KK D l.length (n+j))=fun j=>D.ext l.length (2 * n+1) bZ.zO j - D.ext l.length (2 * n+1) bZ.zO (n+j):=by
  funext j;rw [ace D _ (2 * n+1),ace D _ (2 * n+1)]
 rw [e]
 grind
theorem We (D:bZ) (c m u:Nat):KK (D.del c) m u=KK D m u:=by
 have e:∀ m,bZ.rix (D.del c) m u=bZ.rix D m u:=fun m=>by
  induction m with
  | zero=>rfl
  | succ m ih=>rw [bZ.rix,bZ.rix,ih];rfl
 unfold KK;rw [e];rfl
theorem Yh (hn:n<=12) (hl:Ku l) (hll:l.length<=40) (h5:l.length<=e5\/2 * n+1<=e5) (hs:5 * ZZ e5<=MS) (hc:nU n l=0) :
  (∃ y,acf (ZZ e5) n l y/\Gv (fun N=>uw N (n:Int) l) ([],LQ y l.length,29))\/∃ x,apZ (2 * ZZ e5+1) n l x/\Gv (fun N=>uw N (n:Int) l) (LQ x n,[],0):=by
 obtain ⟨_,ok⟩:=Wa hc
 rw [ag] at ok
 have hb:=aiq (n:=n) hn hl hll ok.co
 obtain ⟨r,q1,q2⟩:=adH (n:=n) (m:=l.length) (C:=cf l) (B:=bv l) (s:=100) (e5:=e5) h5 (by omega) (by omega) (aav hl) (by decide) hs
 have Et:(nU (n:Int) l != 0)=false:=by rw [hc];rfl
 rcases q2 with ⟨D,q2,rfl⟩ | ⟨D,c,q2,rfl⟩
 ·obtain ⟨g1,g2⟩:=Wc hl h5 q2
  refine .inl ⟨_,g1,(yg _ _).bind (Gv.bd Et (hb.bind (q1.bind ?_)))⟩
  simp only [RS,TB,gF,oj,ct]
  refine Gv.if trivial (Gv.if trivial (Gv.if trivial (Gv.aR rfl ((akH (by omega) (by omega) (by omega) (by omega:ZZ e5<=MS) q2.wf g2).bind (Gv.pure _)))))
 ·obtain ⟨g1,g2⟩:=Sp hl h5 q2
  refine .inr ⟨_,g1,(yg _ _).bind (Gv.bd Et (hb.bind (q1.bind ?_)))⟩
  simp only [RS,TB,gF,oj,ct]
  have hp:=ZZ1 e5
  have:=air (n:=n) (k:=2 * n) (h:=2 * n+l.length) (D:=D.del c) (m:=l.length) (by omega) (by omega) (s:=ZZ e5) (by omega) q2.wf.bi (fun u=>by rw [We];exact g2 u)
  have e:LQ (fun j=>KK (D.del c) l.length j - KK (D.del c) l.length (n+j)) n=LQ (fun j=>KK D l.length j - KK D l.length (n+j)) n:=wR fun j _=>by rw [We,We]
  rw [e] at this
  exact Gv.if trivial (Gv.if trivial (Gv.if trivial (Gv.bd rfl (this.bind (Gv.pure _)))))
end
end Go.Den
namespace Go.Den
open Go.Ab
def Kv (s:ByteArray) (m:Nat):Bool :=
 cond (!(cond (cond (decide (kG s m>=97)) (decide (kG s m<=122)) false) true (cond (decide (kG s m>=65)) (decide (kG s m<=90)) false))) (cond ((m:Int) == 0) true (!(cond (cond (decide (kG s m>=48)) (decide (kG s m<=57)) false) true (kG s m == 45)))) false
def Bf (s:ByteArray):Bool :=
 cond (cond (iP s ByteArray.empty) true (decide (((s.size:Nat):Int) > 12))) false (scan (fun m=>cond (Kv s m) (some false) none) true s.size 0)
theorem Na (s:ByteArray):iP s ByteArray.empty=decide (((s.size:Nat):Int) < 1):=by
 rw [Bool.eq_iff_iff,Mv,decide_eq_true_eq]
 constructor
 ·rintro rfl;decide
 ·intro h
  have:s.size=0:=by omega
  cases s with | mk d => 
  have:d.size=0:=this
  simp [Array.size_eq_zero_iff.1 this];rfl
theorem Rm (s:ByteArray) (m:Nat):Kv s m=cond (!(cond (cond (decide (kG s m>=97)) (decide (kG s m<=122)) false) true (cond (decide (kG s m>=65)) (decide (kG s m<=90)) false))) (cond ((m:Int) == 0) true (cond (kG s m != 45) (cond (decide (kG s m < 48)) true (decide (kG s m > 57))) false)) false:=by
 unfold Kv
 generalize kG s m=b
 rw [Bool.eq_iff_iff]
 simp [Bool.cond_eq_ite]
 omega
theorem adJ (s:ByteArray) (m:Nat) (h:m < s.size):(rT s).getD m 0=kG s m:=by
 have:=Pn s m (by rw [<- HZ];exact h)
 simpa [cU] using this
end Go.Den
namespace Go.Den
open Go.Ab
theorem adK {N:Nat} (hN:12 < N) (s:ByteArray):vo N s=some (Bf s):=by
 unfold vo Bf bK
 rw [Na,a9]
 have e0:(cond (decide (((s.size:Nat):Int) < 1)) true (decide (((s.size:Nat):Int) > 12)))=!(cond (decide (((s.size:Nat):Int)>=1)) (decide (((s.size:Nat):Int)<=12)) false):=by
  rw [Bool.eq_iff_iff];simp [Bool.cond_eq_ite]
 rw [e0]
 cases h:(cond (decide (((s.size:Nat):Int)>=1)) (decide (((s.size:Nat):Int)<=12)) false)
 ·rfl
 ·have hs:s.size<=12:=by
   simp [Bool.cond_eq_ite] at h;omega
  refine tC (L:=fun fuel=>lX N s fuel) _ _ (by omega) (fun fuel m hm=>?_) (fun fuel=>?_)
  ·have hl:m < (rT s).length:=by rw [<- HZ];exact hm
   simp only [lX,zB,dec_lt hm,cond_true,if_pos (oX hl),aH (show m < 9223372036854775807 by omega),ag,adJ s m hm]
   rw [<- Rm]
   cases Kv s m<;>rfl
  ·simp only [lX,zB,dw,cond_false]
theorem adL {N:Nat} (hN:12 < N) (s:ByteArray):yM N s=some (Bf s):=by
 unfold yM Bf
 rw [Na]
 cases h:cond (decide (((s.size:Nat):Int) < 1)) true (decide (((s.size:Nat):Int) > 12))
 ·have hs:s.size<=12:=by
   cases h2:decide (((s.size:Nat):Int) < 1)<;>rw [h2] at h<;>simp at h;omega
  refine tC (L:=fun fuel=>lZ N s fuel) _ _ (by omega) (fun fuel m hm=>?_) (fun fuel=>?_)
  ·simp only [lZ,zA,dec_lt hm,cond_true,if_pos (oX hm),aH (show m < 9223372036854775807 by omega),ag]
   rw [<- Rm]
   cases Kv s m<;>rfl
  ·simp only [lZ,zA,dw,cond_false]
 ·rfl
end Go.Den
namespace Go.Den
open Go.Ab
def xK (z:Int):Prop:=-9223372036854775808<=z/\z<=9223372036854775807
theorem xw {z:Int} (h:xK z):Gv (fun N=>pH N z) (bL (z:Rat)):=(Te h.1 h.2).bind (apK.bind ((Gv.pure _).eq rfl))
theorem RB.one:RB 1 1:=RB.int (z:=1) (ZB.small (by decide)) (by decide)
theorem dE {z:Int} (h:xK z):RB (z:Rat) 4:=RB.int (ZB.word h.1 h.2) (by decide)
theorem ais {z:Int} (h:xK z):Gv (fun N=>yG N z) (Bk z):=alQ h.1 h.2
theorem TI {z:Int} (h:xK z):Gv (fun N=>oG N (Bk z)) (bL (z:Rat)):=(ZB.word h.1 h.2).zi.whole (by decide) (by decide)
theorem yy {α:Type} (l:List α) (i:Nat) (d:α) (h:i < l.length):l.drop i=l.getD i d :: l.drop (i+1):=by
 rw [List.drop_eq_getElem_cons h];simp [h]
theorem Cj {α:Type} (l:List α) (i:Nat) (d:α) (h:i < l.length):l.take (i+1)=l.take i ++ [l.getD i d]:=by
 rw [List.take_succ_eq_append_getElem h];simp [h]
end Go.Den
namespace Go.Den
open Go.Ab
theorem TJ (x z:ByteArray) (y:Bool):∀ l:List (ByteArray×Bool),ld iP (CH iP l x y) z=cond (iP x z) (some y) (ld iP l z)
 | []=>rfl
 | p :: r=>by
  have ih:=TJ x z y r
  simp only [CH,ld]
  cases hx:iP p.1 x with
  | true =>
   have:=Mv.1 hx
   simp only [cond_true,ld,this]
   cases iP x z<;>rfl
  | false =>
   simp only [cond_false,ld,ih]
   cases hz:iP p.1 z with
   | true =>
    have gH:iP x z=false:=by
     cases h2:iP x z with
     | false=>rfl
     | true =>
      rw [Mv.1 h2,hz] at hx
      cases hx
    rw [gH];rfl
   | false=>rfl
def dup (nm:Nat->ByteArray) (m:Nat) (s:ByteArray):Bool:=(List.range m).any fun j=>iP (nm j) s
theorem ait (nm:Nat->ByteArray) (m:Nat) (s:ByteArray):dup nm (m+1) s=(dup nm m s || iP (nm m) s):=by
 unfold dup
 rw [List.range_succ,List.any_append];simp
theorem Rn {p:Nat->Bool}:∀ (n m:Nat),scan (fun k=>cond (p k) (some true) none) false n m=(List.range' m n).any p
 | 0,m=>rfl
 | n+1,m=>by
  rw [List.range'_succ,List.any_cons,scan]
  cases p m with
  | true=>rfl
  | false=>exact Rn n (m+1)
theorem aiu (nm:Nat->ByteArray) (m:Nat) (s:ByteArray):scan (fun k=>cond (iP (nm k) s) (some true) none) false m 0=dup nm m s:=by
 rw [Rn (p:=fun k=>iP (nm k) s),dup,List.range_eq_range']
def vL (nm:Nat->ByteArray) (code:Nat->Int) (m:Nat):Option Int :=
 cond (!Bf (nm m)) (some 4) (cond (dup nm m (nm m)) (some 5) (cond (code m != 0) (some (code m)) none))
theorem Yi {L:Nat->List (ByteArray×Bool)->Int->Option Int} (nm:Nat->ByteArray) (code:Nat->Int) {n:Nat}
  (DT:∀ fuel names m,m < n->L (fuel+1) names (m:Int)=cond (!Bf (nm m)) (some 4) (cond ((ld iP names (nm m)).getD false) (some 5) (cond (code m != 0) (some (code m)) (L fuel (CH iP names (nm m) true) ((m+1:Nat):Int)))))
  (F3:∀ fuel names,L (fuel+1) names (n:Int)=some 0):∀ k m names fuel,m+k=n->k < fuel->(∀ s,(ld iP names s).getD false=dup nm m s)->L fuel names (m:Int)=some (scan (vL nm code) 0 k m)
 | 0,m,names,fuel,h,hf,_=>by
  obtain ⟨g,rfl⟩:∃ g,fuel=g+1:=⟨fuel - 1,by omega⟩
  have:m=n:=by omega
  subst this;exact F3 g names
 | k+1,m,names,fuel,h,hf,hd=>by
  obtain ⟨g,rfl⟩:∃ g,fuel=g+1:=⟨fuel - 1,by omega⟩
  rw [DT g names m (by omega),hd,scan]
  unfold vL
  cases Bf (nm m) with
  | false=>rfl
  | true =>
   simp only [Bool.not_true,cond_false]
   cases dup nm m (nm m) with
   | true=>rfl
   | false =>
    simp only [cond_false]
    cases code m != 0 with
    | true=>rfl
    | false =>
     simp only [cond_false]
     refine Yi nm code DT F3 k (m+1) _ g (by omega) (by omega) fun s=>?_
     rw [TJ,ait,<- hd s]
     cases iP (nm m) s<;>simp
def kS (n low high:Int):Bool:=cond (decide (n>=low)) (decide (n<=high)) false
theorem nX {n l h:Int}:kS n l h=true↔l<=n/\n<=h:=by
 unfold kS
 by_cases h1:n>=l
 ·rw [decide_eq_true h1,cond_true,decide_eq_true_eq];omega
 ·rw [decide_eq_false h1,cond_false];simp;omega
theorem mJ (N:Nat) (n l h:Int):bK N n l h=some (kS n l h):=rfl
theorem yz (N:Nat) (n l h:Int):dp N n l h=some (kS n l h):=rfl
def tf (x y:Int):Bool:=kS x (-1000000) 1000000 && kS y (-1000000) 1000000
def Dr (m:fy):Bool:=tf m.zD m.D4 && kS m.wU 0 1000000000
def Jc (t:cL):Bool:=tf t.zD t.D4 && kS t.cu 0 12 && kS t.wU 0 1000000000
def Kw (p:cQ) (m:Nat):fy:=p.pZ.getD m fy.d
def eD (p:cQ) (m:Nat):cL:=p.dh.getD m cL.d
def qe (p:cQ) (m:Nat):Int:=cond (Jc (eD p m)) 0 2
def vM (p:cQ):Int:=cond (decide (((p.dh.length:Nat):Int) > 6)) 8 (scan (vL (fun m=>(eD p m).jo) (qe p)) 0 p.dh.length 0)
def Ro (p:cQ):Bool:=kS p.oE 1 1000000 && kS p.sD 1 1000000 && kS p.er 900 1100
def jg (p:cQ):Int :=
 cond (!Ro p) 2 (cond (decide (((p.pZ.length:Nat):Int) > 20)) 8 (scan (fun m=>cond (Dr (Kw p m)) none (some 2)) (vM p) p.pZ.length 0))
theorem Yj (N:Nat) (x y:Int):kc N x y=some (tf x y):=by
 unfold kc tf
 simp only [mJ,a9]
 cases kS x (-1000000) 1000000<;>rfl
theorem akI {N:Nat} {p:cQ} {m:Nat} (hm:m < p.dh.length):mq N (m:Int) p=some (qe p m):=by
 unfold mq qe Jc
 simp only [if_pos (oX hm),ag,Yj,mJ,a9]
 change (cond (!(!tf (eD p m).zD (eD p m).D4)) (some (kS (eD p m).cu 0 12)) (some false)).bind _=_
 change _=some (cond (tf (eD p m).zD (eD p m).D4 && kS (eD p m).cu 0 12 && kS (eD p m).wU 0 1000000000) 0 2)
 have e:p.dh.getD m cL.d=eD p m:=rfl
 rw [e]
 cases tf (eD p m).zD (eD p m).D4<;>cases kS (eD p m).cu 0 12<;>cases kS (eD p m).wU 0 1000000000<;>rfl
theorem Yk {N:Nat} (hN:40 < N) (p:cQ):qU N ((p.dh.length:Nat):Int) 6 p=some (vM p):=by
 unfold qU vM
 cases hb:decide (((p.dh.length:Nat):Int) > 6) with
 | true=>rfl
 | false =>
  have hb:p.dh.length<=6:=by simp at hb;omega
  rw [cond_false,cond_false]
  have:=Yi (n:=p.dh.length) (L:=fun fuel names x=>ij N ((p.dh.length:Nat):Int) p fuel names x) (fun m=>(eD p m).jo) (qe p) (fun fuel names m hm=>?_) (fun fuel names=>?_) p.dh.length 0 [] N (by omega) (by omega) (fun s=>rfl)
  ·exact this
  ·simp only [ij,pC,dec_lt hm,cond_true,if_pos (oX hm),ag,a9,adK (show 12 < N by omega),akI hm,aH (show m < 9223372036854775807 by omega)]
   rfl
  ·simp only [ij,dw,cond_false]
theorem rL {N:Nat} (hN:40 < N) (p:cQ):ke N p=some (jg p):=by
 unfold ke jg Ro
 simp only [mJ,a9]
 have key:p.pZ.length<=20->fk N p N 0=some (scan (fun m=>cond (Dr (Kw p m)) none (some 2)) (vM p) p.pZ.length 0):=by
  intro hl
  refine tC (L:=fun fuel=>fk N p fuel) _ _ (by omega) (fun fuel m hm=>?_) (fun fuel=>?_)
  ·simp only [fk,dec_lt hm,cond_true,if_pos (oX hm),ag,Yj,mJ,a9,aH (show m < 9223372036854775807 by omega)]
   have e:p.pZ.getD m fy.d=Kw p m:=rfl
   rw [e]
   unfold Dr
   cases tf (Kw p m).zD (Kw p m).D4<;>cases kS (Kw p m).wU 0 1000000000<;>rfl
  ·simp only [fk,dw,cond_false,Yk hN,a9]
 cases hb:decide (((p.pZ.length:Nat):Int) > 20) with
 | true=>cases kS p.oE 1 1000000<;>cases kS p.sD 1 1000000<;>cases kS p.er 900 1100<;>rfl
 | false =>
  rw [key (by simp at hb;omega)]
  cases kS p.oE 1 1000000<;>cases kS p.sD 1 1000000<;>cases kS p.er 900 1100<;>rfl
theorem adM {N:Nat} (hN:40 < N) {p:cQ} (hl:p.dh.length<=6):cD N p N 0=some (scan (vL (fun m=>(eD p m).jo) (qe p)) 0 p.dh.length 0):=by
 refine tC (L:=fun fuel=>cD N p fuel) _ _ (by omega) (fun fuel m hm=>?_) (fun fuel=>?_)
 ·simp only [cD,dec_lt hm,cond_true,if_pos (oX hm),ag,adL (show 12 < N by omega),a9]
  have e:p.dh.getD m cL.d=eD p m:=rfl
  rw [e]
  unfold vL
  cases Bf (eD p m).jo with
  | false=>rfl
  | true =>
   simp only [Bool.not_true,cond_false]
   have h3:ec N p (m:Int) (cD N p fuel) N 0=scan (fun k=>cond (iP (eD p k).jo (eD p m).jo) (some (some 5)) none) (cond (qe p m != 0) (some (qe p m)) (cD N p fuel ((m+1:Nat):Int))) m 0:=by
    refine XF (L:=fun f2=>ec N p (m:Int) (cD N p fuel) f2) _ _ (by omega) (fun f2 k hk=>?_) (fun f2=>?_)
    ·simp only [ec,dec_lt hk,cond_true,if_pos (oX (show k < p.dh.length by omega)),ag,aH (show k < 9223372036854775807 by omega)]
     change cond (iP (eD p k).jo (eD p m).jo) _ _=_
     cases iP (eD p k).jo (eD p m).jo<;>rfl
    ·simp only [ec,dw,cond_false,ag,yz,a9,aH (show m < 9223372036854775807 by omega)]
     rw [e]
     unfold qe Jc tf
     cases kS (eD p m).zD (-1000000) 1000000<;>cases kS (eD p m).D4 (-1000000) 1000000<;>cases kS (eD p m).cu 0 12<;>cases kS (eD p m).wU 0 1000000000<;>rfl
   rw [h3,Tw (p:=fun k=>iP (eD p k).jo (eD p m).jo),aiu]
   cases dup (fun m=>(eD p m).jo) m (eD p m).jo with
   | true=>rfl
   | false =>
    simp only [cond_false]
    cases qe p m != 0<;>rfl
 ·simp only [cD,dw,cond_false]
theorem aaw {N:Nat} (hN:40 < N) (p:cQ):my N p=some (jg p):=by
 unfold my jg Ro
 simp only [yz,a9]
 have key:p.pZ.length<=20->ee N p N 0=some (scan (fun m=>cond (Dr (Kw p m)) none (some 2)) (vM p) p.pZ.length 0):=by
  intro hl
  refine tC (L:=fun fuel=>ee N p fuel) _ _ (by omega) (fun fuel m hm=>?_) (fun fuel=>?_)
  ·simp only [ee,dec_lt hm,cond_true,if_pos (oX hm),ag,yz,a9,aH (show m < 9223372036854775807 by omega)]
   have e:p.pZ.getD m fy.d=Kw p m:=rfl
   rw [e]
   unfold Dr tf
   cases kS (Kw p m).zD (-1000000) 1000000<;>cases kS (Kw p m).D4 (-1000000) 1000000<;>cases kS (Kw p m).wU 0 1000000000<;>rfl
  ·simp only [ee,dw,cond_false]
   unfold vM
   cases hb:decide (((p.dh.length:Nat):Int) > 6) with
   | true=>rfl
   | false=>rw [cond_false,cond_false,adM hN (by simp at hb;omega)]
 cases hb:decide (((p.pZ.length:Nat):Int) > 20) with
 | true=>cases kS p.oE 1 1000000<;>cases kS p.sD 1 1000000<;>cases kS p.er 900 1100<;>rfl
 | false =>
  rw [key (by simp at hb;omega)]
  cases kS p.oE 1 1000000<;>cases kS p.sD 1 1000000<;>cases kS p.er 900 1100<;>rfl
structure aiv (m:fy):Prop where
 x1:-1000000<=m.zD
 x2:m.zD<=1000000
 y1:-1000000<=m.D4
 y2:m.D4<=1000000
 m1:0<=m.wU
 m2:m.wU<=1000000000
structure aax (t:cL):Prop where
 x1:-1000000<=t.zD
 x2:t.zD<=1000000
 y1:-1000000<=t.D4
 y2:t.D4<=1000000
 s1:0<=t.cu
 s2:t.cu<=12
 m1:0<=t.wU
 m2:t.wU<=1000000000
structure cO (p:cQ):Prop where
 l1:1<=p.oE
 l2:p.oE<=1000000
 b1:1<=p.sD
 b2:p.sD<=1000000
 d1:900<=p.er
 d2:p.er<=1100
 nm:p.pZ.length<=20
 nt:p.dh.length<=6
 ms:∀ m∈p.pZ,aiv m
 ts:∀ t∈p.dh,aax t
theorem aay {m:fy}:Dr m=true↔aiv m:=by
 unfold Dr tf
 simp only [a7,nX]
 exact ⟨fun ⟨⟨⟨a,b⟩,c,d⟩,e,f⟩=>⟨a,b,c,d,e,f⟩,fun ⟨a,b,c,d,e,f⟩=>⟨⟨⟨a,b⟩,c,d⟩,e,f⟩⟩
theorem aaz {t:cL}:Jc t=true↔aax t:=by
 unfold Jc tf
 simp only [a7,nX]
 exact ⟨fun ⟨⟨⟨⟨a,b⟩,c,d⟩,e,f⟩,g,h⟩=>⟨a,b,c,d,e,f,g,h⟩,fun ⟨a,b,c,d,e,f,g,h⟩=>⟨⟨⟨⟨a,b⟩,c,d⟩,e,f⟩,g,h⟩⟩
theorem Jd {f:Nat->Option Int} {z:Int} (hf:∀ i,f i≠some 0):∀ (k m:Nat),scan f z k m=0->(∀ i,m<=i->i < m+k->f i=none)/\z=0:=by
 intro k m h
 rcases XE (f:=f) (z:=z) k m with ⟨i,r,_,_,h3,_,h5⟩ | ⟨h1,h2⟩
 ·rw [h5] at h;subst h;exact absurd h3 (hf i)
 ·exact ⟨h1,h2.symm.trans h⟩
theorem Ds {p:cQ} (h:jg p=0):cO p:=by
 unfold jg at h
 cases hs:Ro p with
 | false=>rw [hs] at h;simp at h
 | true =>
  rw [hs] at h
  simp only [Bool.not_true,cond_false] at h
  cases hm:decide (((p.pZ.length:Nat):Int) > 20) with
  | true=>rw [hm] at h;simp at h
  | false =>
   rw [hm,cond_false] at h
   obtain ⟨h1,h2⟩:=Jd (fun i=>by cases Dr (Kw p i)<;>simp) _ _ h
   unfold vM at h2
   cases ht:decide (((p.dh.length:Nat):Int) > 6) with
   | true=>rw [ht] at h2;simp at h2
   | false =>
    rw [ht,cond_false] at h2
    obtain ⟨h3,-⟩:=Jd (fun i=>by
     unfold vL
     cases Bf (eD p i).jo<;>simp
     cases dup (fun m=>(eD p m).jo) i (eD p i).jo<;>simp
     unfold qe;cases Jc (eD p i)<;>simp) _ _ h2
    simp only [decide_eq_false_iff_not] at hm ht
    unfold Ro at hs
    simp only [a7,nX] at hs
    refine ⟨hs.1.1.1,hs.1.1.2,hs.1.2.1,hs.1.2.2,hs.2.1,hs.2.2,by omega,by omega,fun m hm=>?_,fun t ht=>?_⟩
    ·obtain ⟨i,hi,rfl⟩:=List.getElem_of_mem hm
     have:=h1 i (Nat.zero_le _) (by omega)
     have e:Kw p i=p.pZ[i]:=by simp [Kw,hi]
     rw [e] at this
     refine aay.1 ?_
     cases hq:Dr p.pZ[i] with
     | true=>rfl
     | false=>rw [hq] at this;simp at this
    ·obtain ⟨i,hi,rfl⟩:=List.getElem_of_mem ht
     have:=h3 i (Nat.zero_le _) (by omega)
     have e:eD p i=p.dh[i]:=by simp [eD,hi]
     refine aaz.1 ?_
     unfold vL at this
     cases hq:Jc p.dh[i] with
     | true=>rfl
     | false =>
      exfalso
      have e2:qe p i=2:=by unfold qe;rw [e,hq];rfl
      rw [e2] at this
      revert this
      cases Bf (eD p i).jo<;>cases dup (fun m=>(eD p m).jo) i (eD p i).jo<;>simp
end Go.Den
namespace Go.Den
open Go.Ab
def pr:List Int->Rat
 | []=>1
 | a :: l=>(a:Rat) * pr l
theorem pk:∀ {l:List Int},(∀ z∈l,xK z)->RB (pr l) (4 * l.length+1)
 | [],_=>RB.one
 | a :: l,h=>((dE (h a (by simp))).mul (pk (l:=l) fun z hz=>h z (by simp [hz]))).le (by simp;omega)
theorem Wf {G:Nat->Nat->aa->Int->Option aa} {l:List Int} (hG:∀ N g x i,G N (g+1) x i=cond (decide (i < ((l.length:Nat):Int))) (if 0<=i/\i < ((l.length:Nat):Int) then (yG N (l.getD i.toNat 0)).bind fun a=>(oG N a).bind fun b=>(fq N x b).bind fun r=>G N g r (aE (i+1)) else none) (some x))
  (hl:l.length<=20) (hw:∀ z∈l,xK z):∀ (k i m:Nat) (q:Rat),i+k=l.length->RB q m->1<=m->m+4 * k<=1000->aF (fun N fuel=>G N fuel (bL q) (i:Int)) (bL (q * pr (l.drop i)))
 | 0,i,m,q,hi,_,_,_=>.step 0 fun N g _ _=>by
  have:i=l.length:=by omega
  subst this
  rw [hG,dw,List.drop_length,pr,Rat.mul_one];rfl
 | k+1,i,m,q,hi,hq,h1,hm=>by
  have m5:i < l.length:=by omega
  have hz:=hw _ (lC l i 0 m5)
  refine aF.succ (fun N g=>hG N g (bL q) (i:Int)) (aF.aR (dec_lt m5) (aF.if (oX m5) ?_))
  rw [ag,aH (by omega)]
  refine aF.bind (ais hz) (aF.bind (TI hz) (aF.bind ((hq.rq h1).mul ((dE hz).rq (by decide)) (by simp only [SM];omega)) ?_))
  refine (Wf hG hl hw k (i+1) (m+4) _ (by omega) (hq.mul (dE hz)) (by omega) (by omega)).eq ?_
  rw [yy l i 0 m5,pr,Rat.mul_assoc]
theorem tG {l:List Int} (hl:l.length<=20) (hw:∀ z∈l,xK z):Gv (fun N=>lY N l) (bL (pr l)):=by
 have h1:xK 1:=⟨by decide,by decide⟩
 have e:bL (pr l)=bL (1 * pr (l.drop 0)):=by rw [List.drop_zero,Rat.one_mul]
 rw [e]
 refine Gv.bind (ais h1) (Gv.bind (TI h1) ?_)
 first
  | exact (Wf (G:=fun N fuel x i=>mw N l fuel x.fN.fG x.fN.fL x.fD.fG x.fD.fL i) (fun _ _ _ _=>rfl) hl hw l.length 0 1 1 (by omega) RB.one (by decide) (by omega)).diag
  | exact (Wf (G:=fun N fuel x i=>mw N l fuel x i) (fun _ _ _ _=>rfl) hl hw l.length 0 1 1 (by omega) RB.one (by decide) (by omega)).diag
theorem Nb {l:List Int} (hl:l.length<=20) (hw:∀ z∈l,xK z):∀ (k i m:Nat) (q:Rat),i+k=l.length->RB q m->1<=m->m+4 * k<=1000 ->
  aF (fun N fuel=>jc N l fuel (bL q) (i:Int)) (bL (q * pr (l.drop i)))
 | 0,i,m,q,hi,_,_,_=>.step 0 fun N g _ _=>by
  have:i=l.length:=by omega
  subst this
  rw [jc,dw,List.drop_length,pr,Rat.mul_one];rfl
 | k+1,i,m,q,hi,hq,h1,hm=>by
  have m5:i < l.length:=by omega
  have hz:=hw _ (lC l i 0 m5)
  refine aF.succ (fun N g=>jc.eq_2 ..) (aF.aR (dec_lt m5) (aF.if (oX m5) ?_))
  rw [ag,aH (by omega)]
  refine aF.bind (xw hz) (aF.bind ((hq.rq h1).Hp ((dE hz).rq (by decide)) (by simp only [LM];omega)) ?_)
  refine (Nb hl hw k (i+1) (m+4) _ (by omega) (hq.mul (dE hz)) (by omega) (by omega)).eq ?_
  rw [yy l i 0 m5,pr,Rat.mul_assoc]
theorem ua {l:List Int} (hl:l.length<=20) (hw:∀ z∈l,xK z):Gv (fun N=>kz N l) (bL (pr l)):=by
 have h1:xK 1:=⟨by decide,by decide⟩
 refine Gv.bind (xw h1) ?_
 refine ((Nb hl hw l.length 0 1 1 (by omega) RB.one (by decide) (by omega)).diag).eq ?_
 rw [List.drop_zero,Rat.one_mul]
theorem Yl {x y:aa} {p q:Rat} {m n:Nat} (hx:RQ x p m) (hy:RQ y q n) (h0:q≠0) (hs:SM (2 * (m+n)+2)):Gv (fun N=>pD N x y) (bL (p / q)) :=
 Gv.bind (hx.div hy h0 hs) (Gv.pure _)
def cW (l:List Int):ab:=⟨l.getD 0 0,l.getD 1 0,l.getD 2 0,l.getD 3 0,l.getD 4 0,l.getD 5 0⟩
def gR (p:cQ) (l:List Int):Int :=
 cond (((l.length:Nat):Int) != ((p.dh.length:Nat):Int)) 11 (scan (fun m=>cond (kS (l.getD m 0) 0 (eD p m).cu) none (some 2)) 0 l.length 0)
theorem adN {l:List Int} {i t:Nat} (hi:i < l.length):jP i t (l.getD i 0) ((l.take i).getD t 0)=(l.take (i+1)).getD t 0:=by
 unfold jP
 simp only [ep,sR]
 split
 ·rename_i h;subst h;rw [if_pos (by omega)]
 ·by_cases h2:t < i
  ·rw [if_pos h2,if_pos (by omega)]
  ·rw [if_neg h2,if_neg (by omega)]
theorem HJ {N:Nat} {p:cQ} {l:List Int} (hl:l.length=p.dh.length) (ht:p.dh.length<=6):∀ (k i fuel:Nat),i+k=l.length->k < fuel ->
  ∃ s,ik N p l fuel (cW (l.take i)) (i:Int)=some (s,scan (fun m=>cond (kS (l.getD m 0) 0 (eD p m).cu) none (some 2)) 0 k i) /\
   (scan (fun m=>cond (kS (l.getD m 0) 0 (eD p m).cu) none (some (2:Int))) 0 k i=0->s=cW l)
 | 0,i,fuel,h,hf=>by
  obtain ⟨g,rfl⟩:∃ g,fuel=g+1:=⟨fuel - 1,by omega⟩
  have:i=l.length:=by omega
  subst this
  refine ⟨cW l,?_,fun _=>rfl⟩
  rw [ik,dw,cond_false,List.take_length];rfl
 | k+1,i,fuel,h,hf=>by
  obtain ⟨g,rfl⟩:∃ g,fuel=g+1:=⟨fuel - 1,by omega⟩
  have hi:i < l.length:=by omega
  rw [ik,dec_lt hi,cond_true,if_pos (oX hi),if_pos (oX (by omega)),ag,mJ,a9,scan]
  have e:p.dh.getD i cL.d=eD p i:=rfl
  rw [e]
  cases kS (l.getD i 0) 0 (eD p i).cu with
  | false=>exact ⟨_,rfl,fun h=>by cases h⟩
  | true =>
   obtain ⟨s,h1,h2⟩:=HJ hl ht k (i+1) g (by omega) (by omega)
   refine ⟨s,?_,h2⟩
   refine Eq.trans ?_ h1
   rw [aH (by omega)]
   simp only [Bool.not_true,cond_false]
   rw [if_pos ⟨by omega,by omega⟩]
   have e2:(⟨jP i 0 (l.getD i 0) (cW (l.take i)).e0,jP i 1 (l.getD i 0) (cW (l.take i)).e1,jP i 2 (l.getD i 0) (cW (l.take i)).e2,jP i 3 (l.getD i 0) (cW (l.take i)).e3,jP i 4 (l.getD i 0) (cW (l.take i)).e4,jP i 5 (l.getD i 0) (cW (l.take i)).e5⟩:ab)=cW (l.take (i+1)):=by
    simp only [cW,adN hi]
   rw [e2]
theorem Bg {N:Nat} (hN:40 < N) {p:cQ} {l:List Int} (ht:p.dh.length<=6):∃ s,oH N p l=some (s,gR p l)/\(gR p l=0->s=cW l):=by
 unfold oH gR
 cases hb:(((l.length:Nat):Int) != ((p.dh.length:Nat):Int)) with
 | true=>exact ⟨_,rfl,fun h=>by cases h⟩
 | false =>
  have hb:l.length=p.dh.length:=by simp at hb;omega
  exact HJ hb ht l.length 0 N (by omega) (by omega)
theorem Ym {N:Nat} (hN:40 < N) {p:cQ} {l:List Int} (ht:p.dh.length<=6):oJ N p l=some (gR p l):=by
 unfold oJ gR
 cases hb:(((l.length:Nat):Int) != ((p.dh.length:Nat):Int)) with
 | true=>rfl
 | false =>
  have hb:l.length=p.dh.length:=by simp at hb;omega
  refine tC (L:=fun fuel=>gi N p l fuel) _ _ (by omega) (fun fuel m hm=>?_) (fun fuel=>?_)
  ·simp only [gi,dec_lt hm,cond_true,if_pos (oX hm),if_pos (oX (show m < p.dh.length by omega)),ag,yz,a9,aH (show m < 9223372036854775807 by omega)]
   have e:p.dh.getD m cL.d=eD p m:=rfl
   rw [e]
   cases kS (l.getD m 0) 0 (eD p m).cu<;>rfl
  ·simp only [gi,dw,cond_false]
structure eX (p:cQ) (l:List Int):Prop where
 len:l.length=p.dh.length
 lo:∀ i,i < l.length->0<=l.getD i 0
 hi:∀ i,i < l.length->l.getD i 0<=(eD p i).cu
theorem Rp {p:cQ} {l:List Int} (h:gR p l=0):eX p l:=by
 unfold gR at h
 cases hb:(((l.length:Nat):Int) != ((p.dh.length:Nat):Int)) with
 | true=>rw [hb] at h;cases h
 | false =>
  rw [hb,cond_false] at h
  obtain ⟨h1,-⟩:=Jd (fun i=>by cases kS (l.getD i 0) 0 (eD p i).cu<;>simp) _ _ h
  have key:∀ i,i < l.length->0<=l.getD i 0/\l.getD i 0<=(eD p i).cu:=fun i hi=>by
   have:=h1 i (Nat.zero_le _) (by omega)
   refine nX.1 ?_
   cases hr:kS (l.getD i 0) 0 (eD p i).cu with
   | true=>rfl
   | false=>rw [hr] at this;cases this
  exact ⟨by simp at hb;omega,fun i hi=>(key i hi).1,fun i hi=>(key i hi).2⟩
structure Dt (m:fy):Prop where
 x1:-1000000<=m.zD
 x2:m.zD<=1000000
 y1:-1000000<=m.D4
 y2:m.D4<=1000000
 m1:0<=m.wU
 m2:m.wU<=12000000000
def fM (m:fy):Int:=m.wU
def fX (m:fy):Int:=m.wU * m.zD
def fY (m:fy):Int:=m.wU * m.D4
def fA (m:fy):Int:=m.wU * (m.zD.natAbs:Int)
def sI (f:fy->Int) (L:List fy):Int:=(L.map f).sum
theorem Ck (f:fy->Int) (A B:List fy):sI f (A ++ B)=sI f A+sI f B:=by simp [sI,List.sum_append]
theorem Wg (f:fy->Int) (m:fy):sI f [m]=f m:=by simp [sI]
theorem Dt.bM {m:fy} (h:Dt m):(fM m).natAbs<=12000000000:=by have:=h.m1;have:=h.m2;unfold fM;omega
theorem Dt.bX {m:fy} (h:Dt m):(fX m).natAbs<=12000000000000000:=by
 have:=h.m1;have:=h.m2;have:=h.x1;have:=h.x2
 unfold fX;rw [Int.natAbs_mul]
 exact Nat.mul_le_mul (show _<=12000000000 by omega) (show _<=1000000 by omega)
theorem Dt.bY {m:fy} (h:Dt m):(fY m).natAbs<=12000000000000000:=by
 have:=h.m1;have:=h.m2;have:=h.y1;have:=h.y2
 unfold fY;rw [Int.natAbs_mul]
 exact Nat.mul_le_mul (show _<=12000000000 by omega) (show _<=1000000 by omega)
theorem Dt.bA {m:fy} (h:Dt m):(fA m).natAbs<=12000000000000000:=by
 have:=h.m1;have:=h.m2;have:=h.x1;have:=h.x2
 unfold fA;rw [Int.natAbs_mul]
 exact Nat.mul_le_mul (show _<=12000000000 by omega) (show _<=1000000 by omega)
theorem aiw {f:fy->Int} {B:Nat}:∀ {L:List fy},(∀ m∈L,(f m).natAbs<=B)->(sI f L).natAbs<=L.length * B
 | [],_=>by simp [sI]
 | a :: L,h=>by
  have h1:=h a (by simp)
  have h2:=aiw (L:=L) fun m hm=>h m (by simp [hm])
  have e:sI f (a :: L)=f a+sI f L:=by simp [sI]
  rw [e,px,Nat.succ_mul]
  omega
structure iL (L:List fy):Prop where
 len:L.length<=26
 ok:∀ m∈L,Dt m
theorem iL.M {L:List fy} (h:iL L):(sI fM L).natAbs<=312000000000:=by
 have h1:=aiw fun m hm=>(h.ok m hm).bM
 have h2:=dN 12000000000 h.len
 omega
theorem iL.X {L:List fy} (h:iL L):(sI fX L).natAbs<=312000000000000000:=by
 have h1:=aiw fun m hm=>(h.ok m hm).bX
 have h2:=dN 12000000000000000 h.len
 omega
theorem iL.Y {L:List fy} (h:iL L):(sI fY L).natAbs<=312000000000000000:=by
 have h1:=aiw fun m hm=>(h.ok m hm).bY
 have h2:=dN 12000000000000000 h.len
 omega
theorem iL.A {L:List fy} (h:iL L):(sI fA L).natAbs<=312000000000000000:=by
 have h1:=aiw fun m hm=>(h.ok m hm).bA
 have h2:=dN 12000000000000000 h.len
 omega
theorem iL.sub {L K:List fy} (h:iL L) (hs:∀ m∈K,m∈L) (hl:K.length<=L.length):iL K:=⟨eF hl h.len,fun m hm=>h.ok m (hs m hm)⟩
theorem iL.take {L:List fy} (h:iL L) (i:Nat):iL (L.take i):=h.sub (fun _ hm=>List.mem_of_mem_take hm) (by simp;omega)
def Du (L:List fy):eH:=⟨sI fM L,sI fX L,sI fY L,sI fA L⟩
theorem Yn {N:Nat} {A:List fy} {m:fy} (h:iL (A ++ [m])):qV N m.zD m.D4 m.wU (Du A)=some (Du (A ++ [m])):=by
 have hm:=h.ok m (by simp)
 have b1:=h.M
 have b2:=h.X
 have b3:=h.Y
 have b4:=h.A
 have c2:=hm.bX
 have c3:=hm.bY
 have c4:=hm.bA
 have q1:=hm.x1
 have q2:=hm.x2
 unfold qV Du
 rw [Ck,Wg] at b1 b2 b3 b4
 simp only [Ck,Wg]
 have ea:(if aE (0 - m.zD) > m.zD then aE (0 - m.zD) else m.zD)=(m.zD.natAbs:Int):=by
  rw [aX (by omega) (by omega)]
  split<;>omega
 rw [ea]
 change some (⟨aE (sI fM A+fM m),aE (sI fX A+aE (fX m)),aE (sI fY A+aE (fY m)),aE (sI fA A+aE (fA m))⟩:eH)=_
 rw [aX (n:=fX m) (by omega) (by omega),aX (n:=fY m) (by omega) (by omega),aX (n:=fA m) (by omega) (by omega),aX (by omega) (by omega),aX (by omega) (by omega),aX (by omega) (by omega),aX (by omega) (by omega)]
def uO (p:cQ) (l:List Int) (i:Nat):fy:=⟨(eD p i).zD,(eD p i).D4,l.getD i 0 * (eD p i).wU⟩
def jh (p:cQ) (l:List Int):List fy:=(List.range l.length).map (uO p l)
def dx (p:cQ) (l:List Int):List fy:=p.pZ ++ jh p l
theorem we {p:cQ} (hp:cO p) {i:Nat} (hi:i < p.dh.length):aax (eD p i):=hp.ts _ (lC _ _ _ hi)
structure Ga (p:cQ) (l:List Int):Prop where
 len:l.length=p.dh.length
 lo:∀ i,i < l.length->0<=l.getD i 0
 hi:∀ i,i < l.length->l.getD i 0<=12
theorem eX.l {p:cQ} (hp:cO p) {l:List Int} (hs:eX p l):Ga p l:=⟨hs.len,hs.lo,fun i hi=>by
 have:=(we hp (i:=i) (by have:=hs.len;omega)).s2
 have:=hs.hi i hi
 omega⟩
theorem Gb {p:cQ} (hp:cO p) {l:List Int} (hs:Ga p l) {i:Nat} (hi:i < l.length):0<=l.getD i 0 * (eD p i).wU/\l.getD i 0 * (eD p i).wU<=12000000000:=by
 have ht:=we hp (i:=i) (by have:=hs.len;omega)
 have h1:=hs.lo i hi
 have h2:=hs.hi i hi
 have h4:=ht.m1
 have h5:=ht.m2
 refine ⟨Int.mul_nonneg h1 h4,?_⟩
 have:=Int.mul_le_mul (show l.getD i 0<=12 by omega) h5 h4 (by decide)
 omega
theorem aaA {p:cQ} (hp:cO p) {l:List Int} (hs:eX p l) {i:Nat} (hi:i < l.length):0<=l.getD i 0 * (eD p i).wU/\l.getD i 0 * (eD p i).wU<=12000000000:=Gb hp (hs.l hp) hi
theorem Cl {p:cQ} (hp:cO p) {l:List Int} (hs:Ga p l):iL (dx p l):=by
 have h1:=hp.nm
 have h2:=hp.nt
 have h3:=hs.len
 refine ⟨by simp [dx,jh];omega,fun m hm=>?_⟩
 rcases List.mem_append.1 hm with hm | hm
 ·have:=hp.ms m hm
  exact ⟨this.x1,this.x2,this.y1,this.y2,this.m1,by have:=this.m2;omega⟩
 ·obtain ⟨i,hi,rfl⟩:=List.mem_map.1 hm
  have hi:i < l.length:=by simpa using hi
  have ht:=we hp (i:=i) (by omega)
  have hb:=Gb hp hs hi
  exact ⟨ht.x1,ht.x2,ht.y1,ht.y2,hb.1,hb.2⟩
theorem Rq {p:cQ} (hp:cO p) {l:List Int} (hs:eX p l):iL (dx p l):=Cl hp (hs.l hp)
theorem Bh {p:cQ} {l:List Int} {i:Nat} (hi:i < l.length):(jh p l).take (i+1)=(jh p l).take i ++ [uO p l i]:=by
 rw [Cj _ i fy.d (by simp [jh];omega)]
 simp [jh,hi]
theorem OA (l:List Int) {i:Nat} (hi:i < 6):om [(cW l).e0,(cW l).e1,(cW l).e2,(cW l).e3,(cW l).e4,(cW l).e5] i=l.getD i 0:=by
 match i,hi with
 | 0,_=>rfl
 | 1,_=>rfl
 | 2,_=>rfl
 | 3,_=>rfl
 | 4,_=>rfl
 | 5,_=>rfl
theorem Yo {N:Nat} {p:cQ} (hp:cO p) {l:List Int} (hs:eX p l):∀ (k i fuel:Nat),i+k=l.length->k < fuel ->
  nJ N p (cW l) fuel (Du (p.pZ ++ (jh p l).take i)) (i:Int)=some (Du (dx p l))
 | 0,i,fuel,h,hf=>by
  obtain ⟨g,rfl⟩:∃ g,fuel=g+1:=⟨fuel - 1,by omega⟩
  have:i=l.length:=by omega
  subst this
  rw [nJ,hs.len,dw,cond_false,jv (by simp [jh,hs.len])];rfl
 | k+1,i,fuel,h,hf=>by
  obtain ⟨g,rfl⟩:∃ g,fuel=g+1:=⟨fuel - 1,by omega⟩
  have hi:i < l.length:=by omega
  have hlen:=hs.len
  have h6:=hp.nt
  have hb:=aaA hp hs hi
  rw [nJ,dec_lt (by omega),cond_true,if_pos (oX (by omega)),if_pos ⟨by omega,by omega⟩,ag,OA l (by omega)]
  have e:p.dh.getD i cL.d=eD p i:=rfl
  rw [e,aX (n:=l.getD i 0 * (eD p i).wU) (by omega) (by omega)]
  have st:=Yn (N:=N) (A:=p.pZ ++ (jh p l).take i) (m:=uO p l i) (by
   rw [qA,<- Bh hi]
   refine (Rq hp hs).sub (fun m hm=>?_) ?_
   ·rcases List.mem_append.1 hm with hm | hm
    ·exact List.mem_append_left _ hm
    ·exact List.mem_append_right _ (List.mem_of_mem_take hm)
   ·simp [dx];omega)
  change (qV N (uO p l i).zD (uO p l i).D4 (uO p l i).wU (Du (p.pZ ++ (jh p l).take i))).bind _=_
  rw [st,a9,qA,<- Bh hi,aH (by omega)]
  exact Yo hp hs k (i+1) g (by omega) (by omega)
theorem Yp {N:Nat} (hN:40 < N) {p:cQ} (hp:cO p) {l:List Int} (hs:eX p l):∀ (k i fuel:Nat),i+k=p.pZ.length->k < fuel ->
  nL N p (cW l) fuel (Du (p.pZ.take i)) (i:Int)=some (Du (dx p l))
 | 0,i,fuel,h,hf=>by
  obtain ⟨g,rfl⟩:∃ g,fuel=g+1:=⟨fuel - 1,by omega⟩
  have:i=p.pZ.length:=by omega
  subst this
  have h6:=hp.nt
  have hlen:=hs.len
  have:=Yo (N:=N) hp hs l.length 0 N (by omega) (by omega)
  rw [List.take_zero,List.append_nil] at this
  rw [nL,dw,cond_false,List.take_length]
  exact this
 | k+1,i,fuel,h,hf=>by
  obtain ⟨g,rfl⟩:∃ g,fuel=g+1:=⟨fuel - 1,by omega⟩
  have hi:i < p.pZ.length:=by omega
  have h6:=hp.nm
  rw [nL,dec_lt hi,cond_true,if_pos (oX hi),ag]
  have st:=Yn (N:=N) (A:=p.pZ.take i) (m:=p.pZ.getD i fy.d) (by
   rw [<- Cj _ _ _ hi]
   refine (Rq hp hs).sub (fun m hm=>List.mem_append_left _ (List.mem_of_mem_take hm)) ?_
   simp [dx];omega)
  rw [st,a9,<- Cj _ _ _ hi,aH (by omega)]
  exact Yp hN hp hs k (i+1) g (by omega) (by omega)
theorem Yq {N:Nat} (hN:40 < N) {p:cQ} (hp:cO p) {l:List Int} (hs:eX p l):BH N p (cW l)=some (Du (dx p l)) :=
 Yp hN hp hs p.pZ.length 0 N (by omega) (by have:=hp.nm;omega)
end Go.Den
namespace Go.Den
open Go.Ab
def dQ (p:cQ) (L:List fy):Rat:=pr [1000000000,sI fM L] / pr [p.er,p.oE,p.sD]
def tQ (p:cQ) (L:List fy):Rat:=pr [12000000000,sI fX L] / pr [p.er,p.sD,p.oE,p.oE,p.oE]
def hQ (p:cQ) (L:List fy):Rat:=pr [12000000000,sI fY L] / pr [p.er,p.oE,p.sD,p.sD,p.sD]
def gQ (p:cQ) (L:List fy):Rat:=pr [sI fA L] / pr [2] - pr [sI fM L,p.oE] / pr [8]
def Wh (p:cQ) (L:List fy):uY:=⟨bL (dQ p L),bL (tQ p L),bL (hQ p L),bL (gQ p L)⟩
theorem Cm:∀ {l:List Int},(∀ z∈l,z≠0)->pr l≠0
 | [],_=>by simp [pr]
 | a :: l,h=>by
  have h1:=h a (by simp)
  have h2:=Cm (l:=l) fun z hz=>h z (by simp [hz])
  intro e
  rcases Rat.mul_eq_zero.1 (show (a:Rat) * pr l=0 from e) with h3 | h3
  ·exact h1 (by exact_mod_cast h3)
  ·exact h2 h3
section
variable {p:cQ} {L:List fy}
theorem cO.cs (hp:cO p):xK p.oE/\xK p.sD/\xK p.er/\p.oE≠0/\p.sD≠0/\p.er≠0:=by
 have:=hp.l1;have:=hp.l2;have:=hp.b1;have:=hp.b2;have:=hp.d1;have:=hp.d2
 refine ⟨⟨?_,?_⟩,⟨?_,?_⟩,⟨?_,?_⟩,?_,?_,?_⟩<;>omega
theorem iL.cs (h:iL L):xK (sI fM L)/\xK (sI fX L)/\xK (sI fY L)/\xK (sI fA L):=by
 have:=h.M;have:=h.X;have:=h.Y;have:=h.A
 refine ⟨⟨?_,?_⟩,⟨?_,?_⟩,⟨?_,?_⟩,⟨?_,?_⟩⟩<;>omega
theorem Dv {z:Int} (h:z.natAbs<=9000000000000000000):xK z:=⟨by omega,by omega⟩
theorem Yr {P:Int->Prop} {a b c:Int} (ha:P a) (hb:P b) (hc:P c):∀ z∈[a,b,c],P z:=by simp_all
theorem zt {P:Int->Prop} {a b:Int} (ha:P a) (hb:P b):∀ z∈[a,b],P z:=by simp_all
theorem Je {P:Int->Prop} {a:Int} (ha:P a):∀ z∈[a],P z:=by simp_all
theorem Mz {P:Int->Prop} {a b c d e:Int} (ha:P a) (hb:P b) (hc:P c) (hd:P d) (he:P e):∀ z∈[a,b,c,d,e],P z:=by simp_all
theorem asN (hp:cO p) (hL:iL L):RB (dQ p L) 30:=by
 obtain ⟨l1,l2,l3,n1,n2,n3⟩:=hp.cs
 exact ((pk (zt (Dv (by decide)) hL.cs.1)).div (pk (Yr l3 l1 l2)) (Cm (Yr n3 n1 n2))).le (by simp)
theorem asO (hp:cO p) (hL:iL L):RB (tQ p L) 30:=by
 obtain ⟨l1,l2,l3,n1,n2,n3⟩:=hp.cs
 exact ((pk (zt (Dv (by decide)) hL.cs.2.1)).div (pk (Mz l3 l2 l1 l1 l1)) (Cm (Mz n3 n2 n1 n1 n1))).le (by simp)
theorem asP (hp:cO p) (hL:iL L):RB (hQ p L) 30:=by
 obtain ⟨l1,l2,l3,n1,n2,n3⟩:=hp.cs
 exact ((pk (zt (Dv (by decide)) hL.cs.2.2.1)).div (pk (Mz l3 l1 l2 l2 l2)) (Cm (Mz n3 n1 n2 n2 n2))).le (by simp)
theorem anV (hp:cO p) (hL:iL L):RB (gQ p L) 30:=by
 obtain ⟨l1,l2,l3,n1,n2,n3⟩:=hp.cs
 exact (((pk (Je hL.cs.2.2.2)).div (pk (Je (Dv (by decide)))) (Cm (Je (by decide)))).sub
  ((pk (zt hL.cs.1 l1)).div (pk (Je (Dv (by decide)))) (Cm (Je (by decide))))).le (by simp)
theorem aaB {a b:List Int} (ha:∀ z∈a,xK z) (hb:∀ z∈b,xK z) (h0:∀ z∈b,z≠0) (hl:a.length<=20) (hm:b.length<=20):Gv (fun N=>pD N (bL (pr a)) (bL (pr b))) (bL (pr a / pr b)) :=
 Yl ((pk ha).rq (by omega)) ((pk hb).rq (by omega)) (Cm h0) (by simp only [SM];omega)
end
theorem Sq (p:cQ) (l:List Int):(jh p l).length=l.length:=by simp [jh]
theorem TK {N:Nat} {p:cQ} (hp:cO p) {l:List Int} (hs:Ga p l):∀ (k i fuel:Nat),i+k=l.length->k < fuel ->
  jD N p l fuel (p.pZ ++ (jh p l).take i) (i:Int)=some (dx p l)
 | 0,i,fuel,h,hf=>by
  obtain ⟨g,rfl⟩:∃ g,fuel=g+1:=⟨fuel - 1,by omega⟩
  have:i=l.length:=by omega
  subst this
  rw [jD,dw,cond_false,jv (by simp [jh])];rfl
 | k+1,i,fuel,h,hf=>by
  obtain ⟨g,rfl⟩:∃ g,fuel=g+1:=⟨fuel - 1,by omega⟩
  have hi:i < l.length:=by omega
  have hlen:=hs.len
  have h6:=hp.nt
  have h7:=hp.nm
  have hb:=Gb hp hs hi
  have hln:(p.pZ ++ (jh p l).take i).length<=26:=by rw [gI,rl,Sq];omega
  rw [jD,dec_lt hi,cond_true,if_pos (oX (show i < p.dh.length by omega)),if_pos (oX hi),ag,if_pos (by omega)]
  have e:p.dh.getD i cL.d=eD p i:=rfl
  rw [e,aX (n:=l.getD i 0 * (eD p i).wU) (by omega) (by omega)]
  change jD N p l g (p.pZ ++ (jh p l).take i ++ [uO p l i]) _=_
  rw [qA,<- Bh hi,aH (by omega)]
  exact TK hp hs k (i+1) g (by omega) (by omega)
theorem aaC {N:Nat} (hN:40 < N) {p:cQ} (hp:cO p) {l:List Int} (hs:Ga p l):wy N p l=some (dx p l):=by
 have h6:=hp.nt
 have h7:=hp.nm
 have hlen:=hs.len
 unfold wy
 rw [if_pos (by omega),List.nil_append]
 have:=TK (N:=N) hp hs l.length 0 N (by omega) (by omega)
 rw [List.take_zero,List.append_nil] at this
 exact this
theorem size_eq {N:Nat} {n:Int} (h1:-1000000<=n) (h2:n<=1000000):yP N n=some (n.natAbs:Int):=by
 unfold yP
 by_cases h:n < 0
 ·rw [decide_eq_true h,cond_true,aX (by omega) (by omega)];congr 1;omega
 ·rw [decide_eq_false h,cond_false];congr 1;omega
theorem pr1 (a:Int):pr [a]=(a:Rat):=by simp [pr]
theorem pr2 (a b:Int):pr [a,b]=((a * b:Int):Rat):=by simp [pr]
theorem acg (f:fy->Int) {L:List fy} {i:Nat} (hi:i < L.length):((sI f (L.take i):Int):Rat)+((f (L.getD i fy.d):Int):Rat)=((sI f (L.take (i+1)):Int):Rat):=by
 rw [Cj _ _ fy.d hi,Ck,Wg,Rat.intCast_add]
section
variable {p:cQ} {L:List fy}
theorem TL (hp:cO p) (hL:iL L):∀ (k i:Nat),i+k=L.length ->
  aF (fun N fuel=>kQ N p L fuel (bL (sI fM (L.take i):Int)) (bL (sI fX (L.take i):Int)) (bL (sI fY (L.take i):Int)) (bL (sI fA (L.take i):Int)) (i:Int)) (Wh p L)
 | 0,i,hi=>by
  have:i=L.length:=by omega
  subst this
  obtain ⟨l1,l2,l3,n1,n2,n3⟩:=hp.cs
  obtain ⟨c1,c2,c3,c4⟩:=hL.cs
  have k1:xK 1000000000:=Dv (by decide)
  have k2:xK 12:=Dv (by decide)
  have k3:xK 2:=Dv (by decide)
  have k4:xK 8:=Dv (by decide)
  have e12:((12:Int):Rat) * ((1000000000:Int):Rat)=((12000000000:Int):Rat):=by rw [<- Rat.intCast_mul];rfl
  rw [List.take_length]
  refine aF.succ (fun N g=>kQ.eq_2 ..) (aF.bd dw (aF.one ?_))
  have b1:=dE k1
  have b2:=dE (z:=12000000000) (Dv (by decide))
  refine Gv.bind (xw k1) (Gv.bind (xw k2) (Gv.bind (((dE k2).rq (by decide)).Hp (b1.rq (by decide)) (by decide)) ?_))
  rw [e12]
  refine Gv.bind ((b1.rq (by decide)).Hp ((dE c1).rq (by decide)) (by decide)) (Gv.bind (ua (by simp) (Yr l3 l1 l2)) ?_)
  have q3:=pk (Yr l3 l1 l2)
  have q4:=pk (Mz l3 l2 l1 l1 l1)
  have q5:=pk (Mz l3 l1 l2 l2 l2)
  refine Gv.bind (((b1.mul (dE c1)).rq (by decide)).ahP (q3.rq (by simp)) (Cm (Yr n3 n1 n2)) (by simp [LM])) ?_
  refine Gv.bind ((b2.rq (by decide)).Hp ((dE c2).rq (by decide)) (by decide)) (Gv.bind (ua (by simp) (Mz l3 l2 l1 l1 l1)) ?_)
  refine Gv.bind (((b2.mul (dE c2)).rq (by decide)).ahP (q4.rq (by simp)) (Cm (Mz n3 n2 n1 n1 n1)) (by simp [LM])) ?_
  refine Gv.bind ((b2.rq (by decide)).Hp ((dE c3).rq (by decide)) (by decide)) (Gv.bind (ua (by simp) (Mz l3 l1 l2 l2 l2)) ?_)
  refine Gv.bind (((b2.mul (dE c3)).rq (by decide)).ahP (q5.rq (by simp)) (Cm (Mz n3 n1 n2 n2 n2)) (by simp [LM])) ?_
  have z2:((2:Int):Rat)≠0:=by decide
  have z8:((8:Int):Rat)≠0:=by decide
  refine Gv.bind (xw k3) (Gv.bind (((dE c4).rq (by decide)).ahP ((dE k3).rq (by decide)) z2 (by decide)) ?_)
  refine Gv.bind (xw l1) (Gv.bind (((dE c1).rq (by decide)).Hp ((dE l1).rq (by decide)) (by decide)) ?_)
  refine Gv.bind (xw k4) (Gv.bind ((((dE c1).mul (dE l1)).rq (by decide)).ahP ((dE k4).rq (by decide)) z8 (by decide)) ?_)
  refine Gv.bind ((((dE c4).div (dE k3) z2).rq (by decide)).anF ((((dE c1).mul (dE l1)).div (dE k4) z8).rq (by decide)) (by decide)) ((Gv.pure _).eq ?_)
  unfold Wh dQ tQ hQ gQ
  rw [pr2,pr2,pr2,pr2,pr1,pr1,pr1,Rat.intCast_mul,Rat.intCast_mul,Rat.intCast_mul,Rat.intCast_mul]
 | k+1,i,hi=>by
  have m5:i < L.length:=by omega
  have hlen:=hL.len
  have hm:=hL.ok _ (lC L i fy.d m5)
  have t1:=(hL.take i).cs
  have q1:=hm.m1;have q2:=hm.m2;have q3:=hm.x1;have q4:=hm.x2;have q5:=hm.y1;have q6:=hm.y2
  have w1:xK (L.getD i fy.d).wU:=Dv (by omega)
  have w2:xK (L.getD i fy.d).zD:=Dv (by omega)
  have w3:xK (L.getD i fy.d).D4:=Dv (by omega)
  have w4:xK ((L.getD i fy.d).zD.natAbs:Int):=Dv (by omega)
  refine aF.succ (fun N g=>kQ.eq_2 ..) (aF.aR (dec_lt m5) (aF.if (oX m5) ?_))
  rw [ag,aH (by omega)]
  refine aF.bind (xw w1) (aF.bind (((dE t1.1).rq (by decide)).aaj ((dE w1).rq (by decide)) (by decide)) ?_)
  refine aF.bind (ua (by simp) (zt w1 w2)) (aF.bind (((dE t1.2.1).rq (by decide)).aaj ((pk (zt w1 w2)).rq (by simp)) (by simp [LM])) ?_)
  refine aF.bind (ua (by simp) (zt w1 w3)) (aF.bind (((dE t1.2.2.1).rq (by decide)).aaj ((pk (zt w1 w3)).rq (by simp)) (by simp [LM])) ?_)
  refine aF.bind (.of 0 fun N _=>size_eq q3 q4) (aF.bind (ua (by simp) (zt w1 w4)) (aF.bind (((dE t1.2.2.2).rq (by decide)).aaj ((pk (zt w1 w4)).rq (by simp)) (by simp [LM])) ?_))
  have s1:=acg fM m5
  have s2:=acg fX m5
  have s3:=acg fY m5
  have s4:=acg fA m5
  unfold fM at s1
  unfold fX at s2
  unfold fY at s3
  unfold fA at s4
  have ih:=TL hp hL k (i+1) (by omega)
  rw [pr2,pr2,pr2]
  unfold fM fX fY fA at ih ⊢
  rw [<- s1,<- s2,<- s3,<- s4] at ih
  exact ih
theorem Rr {l:List Int} (hp:cO p) (hs:Ga p l):Gv (fun N=>wz N p l) (Wh p (dx p l)):=by
 have k0:xK 0:=Dv (by decide)
 refine Gv.bind (xw k0) (Gv.bind (xw k0) (Gv.bind (xw k0) (Gv.bind (xw k0) (Gv.bind (.of 41 fun N hN=>aaC (by omega) hp hs) ?_))))
 exact (TL hp (Cl hp hs) (dx p l).length 0 (by omega)).diag
end
end Go.Den
namespace Go.Den
open Go.Ab
def OB:List Int->Int
 | []=>1
 | a :: l=>a * OB l
theorem aaD:∀ l:List Int,pr l=((OB l:Int):Rat)
 | []=>rfl
 | a :: l=>by rw [pr,OB,Rat.intCast_mul,aaD l]
theorem ach:∀ {l:List Int},(∀ z∈l,0 < z)->0 < OB l
 | [],_=>by decide
 | a :: l,h=>Int.mul_pos (h a (by simp)) (ach fun z hz=>h z (by simp [hz]))
theorem zu:∀ {l:List Int},(∀ z∈l,0<=z)->0<=OB l
 | [],_=>by decide
 | a :: l,h=>Int.mul_nonneg (h a (by simp)) (zu fun z hz=>h z (by simp [hz]))
theorem Bi {a B C:Int} {l:List Int} (h0:0<=OB l) (h1:0<=B) (ha:a<=B) (hl:OB l<=C):OB (a :: l)<=B * C :=
 Int.mul_le_mul ha hl h0 h1
theorem Rs {l:List Int} (h:∀ z∈l,0 < z):0 < pr l:=by
 rw [aaD];exact_mod_cast ach h
theorem Kx {a X D:Rat} (h:0 < D):a<=X / D↔a * D<=X:=by
 rw [<- Rat.not_lt,<- Rat.not_lt,Rat.div_lt_iff h]
theorem aci {a X D:Rat} (h:0 < D):X / D<=a↔X<=a * D:=by
 rw [<- Rat.not_lt,<- Rat.not_lt,Rat.lt_div_iff h]
theorem acj {a b c:Rat} (hc:0 < c):a * c<=b * c↔a<=b:=⟨fun h=>Rat.le_of_mul_le_mul_right h hc,fun h=>Rat.mul_le_mul_of_nonneg_right h (Rat.le_of_lt hc)⟩
theorem TM {a b:List Int} {B:Int} (ha:0<=OB a) (hb:0 < OB b) (h:OB a < B * OB b):0<=(pr a / pr b).floor/\(pr a / pr b).floor < B:=by
 have zQ:(0:Rat) < pr b:=by rw [aaD];exact_mod_cast hb
 constructor
 ·rw [Rat.le_floor_iff,Kx zQ,aaD,aaD]
  exact_mod_cast (by omega:0 * OB b<=OB a)
 ·rw [Rat.floor_lt_iff,Rat.div_lt_iff zQ,aaD,aaD]
  exact_mod_cast h
theorem Ky {x:aa} {q:Rat} {n:Nat} (h:RQ x q n) (hs:SM (2 * n+2)) (h1:0<=q.floor) (h2:q.floor < 9000000000000000000):Gv (fun N=>vp N x) q.floor:=by
 have hz:=h.rb.floor.zi
 refine Gv.bind (h.floor hs) (Gv.bind (hz.small (by simp only [SM] at *;omega)) ((Gv.pure _).eq ?_))
 unfold F5
 rw [if_pos ⟨by omega,by omega⟩]
def lP (l:bF):Int :=
 cond (kS l.aq 0 1000000 && kS l.aA 0 1000000 && kS l.bN 0 1000 && kS l.bq 0 1000 && kS l.bp 0 1000000000000000000) 0 2
theorem ri (N:Nat) (l:bF):lh N l=some (lP l):=by
 unfold lh lP
 simp only [mJ,a9]
 cases kS l.aq 0 1000000<;>cases kS l.aA 0 1000000<;>cases kS l.bN 0 1000<;>cases kS l.bq 0 1000<;>cases kS l.bp 0 1000000000000000000<;>rfl
theorem Wi (N:Nat) (l:bF):nN N l=some (lP l):=by
 unfold nN lP
 simp only [yz,a9]
 cases kS l.aq 0 1000000<;>cases kS l.aA 0 1000000<;>cases kS l.bN 0 1000<;>cases kS l.bq 0 1000<;>cases kS l.bp 0 1000000000000000000<;>rfl
structure Rt (l:bF):Prop where
 a1:0<=l.aq
 a2:l.aq<=1000000
 b1:0<=l.aA
 b2:l.aA<=1000000
 t1:0<=l.bN
 t2:l.bN<=1000
 h1:0<=l.bq
 h2:l.bq<=1000
 g1:0<=l.bp
 g2:l.bp<=1000000000000000000
theorem MA {l:bF} (h:lP l=0):Rt l:=by
 unfold lP at h
 cases hc:(kS l.aq 0 1000000 && kS l.aA 0 1000000 && kS l.bN 0 1000 && kS l.bq 0 1000 && kS l.bp 0 1000000000000000000) with
 | false=>rw [hc] at h;cases h
 | true =>
  simp only [a7,nX] at hc
  obtain ⟨⟨⟨⟨⟨a,b⟩,c,d⟩,e,f⟩,g,i⟩,j,k⟩:=hc
  exact ⟨a,b,c,d,e,f,g,i,j,k⟩
def q1 (p:cQ) (d:Int):Rat:=pr [d,p.er,p.oE,p.sD] / pr [1000000000]
def Kz (p:cQ) (d:Int):Int:=cond (decide (uP (((q1 p d).floor:Rat) - q1 p d) < 0)) ((q1 p d).floor+1) (q1 p d).floor
def tB (p:cQ) (t:Int):Rat:=pr [t,p.er,p.sD,p.oE,p.oE,p.oE] / pr [12000000000,1000]
def hB (p:cQ) (t:Int):Rat:=pr [t,p.er,p.oE,p.sD,p.sD,p.sD] / pr [12000000000,1000]
def GV (p:cQ) (l:bF):da:=⟨Kz p l.aq,(q1 p l.aA).floor,(tB p l.bN).floor,(hB p l.bq).floor,8 * l.bp⟩
theorem aix {P:Int->Prop} {a b c d:Int} (ha:P a) (hb:P b) (hc:P c) (hd:P d):∀ z∈[a,b,c,d],P z:=by simp_all
theorem aaE {P:Int->Prop} {a b c d e f:Int} (ha:P a) (hb:P b) (hc:P c) (hd:P d) (he:P e) (hf:P f):∀ z∈[a,b,c,d,e,f],P z:=by simp_all
section
variable {p:cQ} {L:List fy}
theorem ap0 (hp:cO p) {d:Int} (h1:0<=d) (h2:d<=1000000):0<=(q1 p d).floor/\(q1 p d).floor < 1100000000001:=by
 have a1:=hp.l1;have a2:=hp.l2;have a3:=hp.b1;have a4:=hp.b2;have a5:=hp.d1;have a6:=hp.d2
 have n1:0<=OB [p.sD]:=zu (Je (by omega))
 have n2:0<=OB [p.oE,p.sD]:=zu (zt (by omega) (by omega))
 have n3:0<=OB [p.er,p.oE,p.sD]:=zu (Yr (by omega) (by omega) (by omega))
 have b1:=Bi n3 (by decide) h2 (Bi n2 (by decide) a6 (Bi n1 (by decide) a2 (Bi (l:=[]) (C:=1) (by decide) (by decide) a4 (by decide))))
 refine TM (zu (aix h1 (by omega) (by omega) (by omega))) (by decide) ?_
 have e:OB [1000000000]=1000000000:=by decide
 rw [e];omega
theorem akJ {x y D t:Int} (h1:1<=x) (h2:x<=1000000) (h3:1<=y) (h4:y<=1000000) (h5:900<=D) (h6:D<=1100) (t1:0<=t) (t2:t<=1000) :
  0<=(pr [t,D,y,x,x,x] / pr [12000000000,1000]).floor/\(pr [t,D,y,x,x,x] / pr [12000000000,1000]).floor < 1000000000000000000:=by
 have n1:0<=OB [x]:=zu (Je (by omega))
 have n2:0<=OB [x,x]:=zu (zt (by omega) (by omega))
 have n3:0<=OB [x,x,x]:=zu (Yr (by omega) (by omega) (by omega))
 have n4:0<=OB [y,x,x,x]:=zu (aix (by omega) (by omega) (by omega) (by omega))
 have n5:0<=OB [D,y,x,x,x]:=zu (Mz (by omega) (by omega) (by omega) (by omega) (by omega))
 have b1:=Bi n5 (by decide) t2 (Bi n4 (by decide) h6 (Bi n3 (by decide) h4 (Bi n2 (by decide) h2 (Bi n1 (by decide) h2 (Bi (l:=[]) (C:=1) (by decide) (by decide) h2 (by decide))))))
 refine TM (zu (aaE t1 (by omega) (by omega) (by omega) (by omega) (by omega))) (by decide) ?_
 have e:OB [12000000000,1000]=12000000000000:=by decide
 rw [e];omega
theorem alZ (hp:cO p) {d:Int} (h1:0<=d) (h2:d<=1000000):RB (q1 p d) 30:=by
 obtain ⟨l1,l2,l3,-⟩:=hp.cs
 exact ((pk (aix (Dv (by omega)) l3 l1 l2)).div (pk (Je (Dv (by decide)))) (Cm (Je (by decide)))).le (by simp)
theorem Dw (hp:cO p) {d:Int} (h1:0<=d) (h2:d<=1000000):Gv (fun N=>oI N d p) (bL (q1 p d)):=by
 obtain ⟨l1,l2,l3,-⟩:=hp.cs
 have k1:xK d:=Dv (by omega)
 have k2:xK 1000000000:=Dv (by decide)
 exact Gv.bind (tG (by simp) (aix k1 l3 l1 l2)) (Gv.bind (tG (by simp) (Je k2)) (Gv.bind (aaB (aix k1 l3 l1 l2) (Je k2) (Je (by decide)) (by simp) (by simp)) (Gv.pure _)))
theorem Nc (hp:cO p) {d e:Int} (h1:0<=d) (h2:d<=1000000) (h3:0<=e) (h4:e<=1000000):Gv (fun N=>rC N p d e) (Kz p d,(q1 p e).floor):=by
 have r1:=alZ hp h1 h2
 have r2:=alZ hp h3 h4
 have b1:=ap0 hp h1 h2
 have b2:=ap0 hp h3 h4
 have k:xK (q1 p d).floor:=Dv (by omega)
 have kp:=pk (Je k)
 rw [pr1] at kp
 have fin:∀ low,Gv (fun N=>p8 N p e low) (low,(q1 p e).floor):=fun low =>
  Gv.bind (Dw hp h3 h4) (Gv.bind (Ky (r2.rq (by decide)) (by decide) b2.1 (by omega)) (Gv.pure _))
 refine Gv.bind (Dw hp h1 h2) (Gv.bind (Ky (r1.rq (by decide)) (by decide) b1.1 (by omega)) (Gv.bind (tG (by simp) (Je k)) (Gv.bind (Dw hp h1 h2) ?_)))
 rw [pr1]
 refine Gv.bind ((kp.rq (by simp)).cmp (r1.rq (by decide)) (by simp [SM])) ?_
 unfold Kz
 cases hc:decide (uP (((q1 p d).floor:Rat) - q1 p d) < 0) with
 | true=>refine Gv.aR rfl ((fin _).eq ?_);rw [aX (by omega) (by omega)];rfl
 | false=>exact Gv.bd rfl (fin _)
theorem MB (hp:cO p) {l:bF} (hl:Rt l):Gv (fun N=>pF N p l) (GV p l):=by
 obtain ⟨l1,l2,l3,-⟩:=hp.cs
 have k1:xK l.bN:=Dv (by have:=hl.t1;have:=hl.t2;omega)
 have k2:xK l.bq:=Dv (by have:=hl.h1;have:=hl.h2;omega)
 have k3:xK 12000000000:=Dv (by decide)
 have k4:xK 1000:=Dv (by decide)
 have b1:=akJ hp.l1 hp.l2 hp.b1 hp.b2 hp.d1 hp.d2 hl.t1 hl.t2
 have b2:=akJ hp.b1 hp.b2 hp.l1 hp.l2 hp.d1 hp.d2 hl.h1 hl.h2
 have r1:=(pk (aaE k1 l3 l2 l1 l1 l1)).div (pk (zt k3 k4)) (Cm (zt (by decide) (by decide)))
 have r2:=(pk (aaE k2 l3 l1 l2 l2 l2)).div (pk (zt k3 k4)) (Cm (zt (by decide) (by decide)))
 have g1:=hl.g1
 have g2:=hl.g2
 refine Gv.bind (Nc hp hl.a1 hl.a2 hl.b1 hl.b2) ?_
 refine Gv.bind (tG (by simp) (aaE k1 l3 l2 l1 l1 l1)) (Gv.bind (tG (by simp) (zt k3 k4)) (Gv.bind (aaB (aaE k1 l3 l2 l1 l1 l1) (zt k3 k4) (zt (by decide) (by decide)) (by simp) (by simp)) (Gv.bind (Ky (r1.rq (by simp)) (by simp [SM]) b1.1 (by omega)) ?_)))
 refine Gv.bind (tG (by simp) (aaE k2 l3 l1 l2 l2 l2)) (Gv.bind (tG (by simp) (zt k3 k4)) (Gv.bind (aaB (aaE k2 l3 l1 l2 l2 l2) (zt k3 k4) (zt (by decide) (by decide)) (by simp) (by simp)) (Gv.bind (Ky (r2.rq (by simp)) (by simp [SM]) b2.1 (by omega)) ?_)))
 refine (Gv.pure _).eq ?_
 rw [aX (by omega) (by omega)];rfl
def kD (p:cQ) (L:List fy) (lo hi:Int):Bool:=cond (decide (uP (dQ p L - (lo:Rat))>=0)) (decide (uP (dQ p L - (hi:Rat))<=0)) false
def kA (x:Rat) (Ot p7:Int):Bool:=cond (decide (uP (x * (Ot:Rat) - (p7:Rat))<=0)) (decide (uP (-(x * (Ot:Rat)) - (p7:Rat))<=0)) false
theorem Wj {x y:Rat}:uP (x - y)<=0↔x<=y:=by
 rw [<- Int.not_lt,Oq];grind
theorem aiy {x y:Rat}:uP (x - y)>=0↔y<=x:=by
 show 0<=uP (x - y)↔_
 rw [<- Int.not_lt,oC];grind
theorem aiz {lo hi:Int}:kD p L lo hi=true↔(lo:Rat)<=dQ p L/\dQ p L<=(hi:Rat):=by
 unfold kD
 by_cases h:uP (dQ p L - (lo:Rat))>=0
 ·rw [decide_eq_true h,cond_true,decide_eq_true_eq,Wj]
  exact ⟨fun h2=>⟨aiy.1 h,h2⟩,fun h2=>h2.2⟩
 ·rw [decide_eq_false h,cond_false]
  simp only [Bool.false_eq_true,false_iff,not_and]
  exact fun h2=>absurd (aiy.2 h2) h
theorem Ru {x:Rat} {Ot p7:Int}:kA x Ot p7=true↔x * (Ot:Rat)<=(p7:Rat)/\-(x * (Ot:Rat))<=(p7:Rat):=by
 unfold kA
 by_cases h:uP (x * (Ot:Rat) - (p7:Rat))<=0
 ·rw [decide_eq_true h,cond_true,decide_eq_true_eq,Wj]
  exact ⟨fun h2=>⟨Wj.1 h,h2⟩,fun h2=>h2.2⟩
 ·rw [decide_eq_false h,cond_false]
  simp only [Bool.false_eq_true,false_iff,not_and]
  exact fun h2=>absurd (Wj.2 h2) h
theorem akK {d M:Int}:Kz p d<=M↔q1 p d<=(M:Rat):=by
 unfold Kz
 have hfl:=Rat.floor_le (q1 p d)
 by_cases h:uP (((q1 p d).floor:Rat) - q1 p d) < 0
 ·rw [decide_eq_true h,cond_true]
  have h1:((q1 p d).floor:Rat) < q1 p d:=by have:=oC.1 h;grind
  have e:(q1 p d).floor+1<=M↔(q1 p d).floor < M:=by omega
  rw [e,Rat.floor_lt_iff]
  refine ⟨fun h=>Rat.le_of_lt h,fun h2=>?_⟩
  by_cases h3:q1 p d=(M:Rat)
  ·rw [h3,Rat.floor_intCast] at h1
   exact absurd h1 (Rat.lt_irrefl)
  ·exact Rat.lt_of_le_of_ne h2 h3
 ·rw [decide_eq_false h,cond_false]
  have h1:q1 p d=((q1 p d).floor:Rat):=by
   have:¬ (((q1 p d).floor:Rat) - q1 p d < 0):=fun hh=>h (oC.2 hh)
   grind
  constructor
  ·intro h2;rw [h1];exact_mod_cast h2
  ·intro h2;rw [h1] at h2;exact_mod_cast h2
theorem aaF (hp:cO p):0 < p.oE/\0 < p.sD/\0 < p.er:=⟨by have:=hp.l1;omega,by have:=hp.b1;omega,by have:=hp.d1;omega⟩
theorem Nd (hp:cO p) {lo hi:Int}:(Kz p lo<=sI fM L/\sI fM L<=(q1 p hi).floor)↔kD p L lo hi=true:=by
 obtain ⟨p1,p2,p3⟩:=aaF hp
 have hD:0 < pr [p.er,p.oE,p.sD]:=Rs (Yr p3 p1 p2)
 have hB:(0:Rat) < pr [1000000000]:=Rs (Je (by decide))
 have e1:pr [1000000000,sI fM L]=((sI fM L:Int):Rat) * pr [1000000000]:=by simp only [pr];grind
 rw [aiz,akK,Rat.le_floor_iff]
 unfold q1 dQ
 rw [aci hB,Kx hB,Kx hD,aci hD,e1]
 exact Iff.rfl
theorem adO {X:Int} {R:Rat}:(-R.floor<=X/\X<=R.floor)↔(-(X:Rat)<=R/\(X:Rat)<=R):=by
 have h1:X<=R.floor↔(X:Rat)<=R:=Rat.le_floor_iff
 have h2:-X<=R.floor↔((-X:Int):Rat)<=R:=Rat.le_floor_iff
 rw [Rat.intCast_neg] at h2
 rw [h1,<- h2]
 refine and_congr_left fun _=>?_
 omega
theorem TN {P:Rat} (hP:0 < P) {X t:Int}:(-(((t:Rat) * P) / pr [12000000000,1000]).floor<=X/\X<=(((t:Rat) * P) / pr [12000000000,1000]).floor)↔kA (pr [12000000000,X] / P) 1000 t=true:=by
 have hB:(0:Rat) < pr [12000000000,1000]:=Rs (zt (by decide) (by decide))
 rw [adO,Ru,Kx hB,Kx hB]
 generalize hs:pr [12000000000,X] / P=s
 have hsP:s * P=pr [12000000000,X]:=by rw [<- hs,Rat.div_mul_cancel (Rat.ne_of_gt hP)]
 have e1:pr [12000000000,1000]=12000000000 * 1000:=by simp [pr]
 have e2:pr [12000000000,X]=12000000000 * (X:Rat):=by simp [pr]
 rw [e2] at hsP
 rw [e1]
 have k1:s * ((1000:Int):Rat)<=(t:Rat)↔s * ((1000:Int):Rat) * P<=(t:Rat) * P:=(acj hP).symm
 have k2:-(s * ((1000:Int):Rat))<=(t:Rat)↔-(s * ((1000:Int):Rat)) * P<=(t:Rat) * P:=(acj hP).symm
 rw [k1,k2]
 have e3:((1000:Int):Rat)=1000:=rfl
 rw [e3]
 have f1:s * 1000 * P=(X:Rat) * (12000000000 * 1000):=by grind
 have f2:-(s * 1000) * P = -(X:Rat) * (12000000000 * 1000):=by grind
 rw [f1,f2]
 exact and_comm
theorem aiA (hp:cO p) {t:Int}:(-(tB p t).floor<=sI fX L/\sI fX L<=(tB p t).floor)↔kA (tQ p L) 1000 t=true:=by
 obtain ⟨p1,p2,p3⟩:=aaF hp
 exact TN (Rs (Mz p3 p2 p1 p1 p1))
theorem aiB (hp:cO p) {t:Int}:(-(hB p t).floor<=sI fY L/\sI fY L<=(hB p t).floor)↔kA (hQ p L) 1000 t=true:=by
 obtain ⟨p1,p2,p3⟩:=aaF hp
 exact TN (Rs (Mz p3 p1 p2 p2 p2))
theorem akL {g:Int}:(-(8 * g)<=4 * sI fA L - sI fM L * p.oE/\4 * sI fA L - sI fM L * p.oE<=8 * g)↔kA (gQ p L) 1 g=true:=by
 rw [Ru]
 have e:8 * gQ p L=((4 * sI fA L - sI fM L * p.oE:Int):Rat):=by
  unfold gQ
  rw [pr1,pr1,pr1,pr2]
  push_cast
  grind
 generalize 4 * sI fA L - sI fM L * p.oE=V at *
 have h1:(-(8 * g)<=V)↔-(8 * (g:Rat))<=(V:Rat):=by
  constructor
  ·intro h;exact_mod_cast h
  ·intro h;exact_mod_cast h
 have h2:(V<=8 * g)↔(V:Rat)<=8 * (g:Rat):=by
  constructor
  ·intro h;exact_mod_cast h
  ·intro h;exact_mod_cast h
 rw [h1,h2,<- e]
 have e1:((1:Int):Rat)=1:=rfl
 rw [e1]
 constructor
 ·rintro ⟨a,b⟩;constructor<;>grind
 ·rintro ⟨a,b⟩;constructor<;>grind
end
end Go.Den
namespace Go.Den
open Go.Ab
def pT (a b c d:Bool):Int:=cond a 1 0+cond b 2 0+cond c 4 0+cond d 8 0
def MC (a b c d:Bool):List ByteArray :=
 (((cond a [] [(⟨#[100,114,97,117,103,104,116]⟩:ByteArray)]) ++ cond b [] [(⟨#[116,114,105,109]⟩:ByteArray)]) ++ cond c [] [(⟨#[104,101,101,108]⟩:ByteArray)]) ++ cond d [] [(⟨#[104,111,103]⟩:ByteArray)]
theorem adP (n:Nat) (a b c d:Bool):vq (n+6) (zV .i64 15 (pT a b c d))=some (MC a b c d):=by
 cases a<;>cases b<;>cases c<;>cases d<;>kernel_rfl
theorem Rv {a b c d:Bool}:(MC a b c d).length=0↔(a=true/\b=true/\c=true/\d=true):=by
 cases a<;>cases b<;>cases c<;>cases d<;>simp [MC]
theorem aiC {a b c d:Bool}:(pT a b c d == 15)=decide ((MC a b c d).length=0):=by
 cases a<;>cases b<;>cases c<;>cases d<;>rfl
section
variable {p:cQ} {l:bF} {st:List Int}
def Sr (p:cQ) (l:bF) (L:List fy):List ByteArray:=MC (kD p L l.aq l.aA) (kA (tQ p L) 1000 l.bN) (kA (hQ p L) 1000 l.bq) (kA (gQ p L) 1 l.bp)
def ap1 (p:cQ) (l:bF) (L:List fy):Int:=pT (kD p L l.aq l.aA) (kA (tQ p L) 1000 l.bN) (kA (hQ p L) 1000 l.bq) (kA (gQ p L) 1 l.bp)
theorem OC {N:Nat} (hN:40 < N) (hp:cO p) (hl:Rt l) (hs:eX p st):lj N (GV p l) p (cW st)=some (ap1 p l (dx p st)):=by
 have hL:=Rq hp hs
 generalize hLL:dx p st=L at *
 have e0:=Yq hN hp hs
 rw [hLL] at e0
 have b1:=akJ hp.l1 hp.l2 hp.b1 hp.b2 hp.d1 hp.d2 hl.t1 hl.t2
 have b2:=akJ hp.b1 hp.b2 hp.l1 hp.l2 hp.d1 hp.d2 hl.h1 hl.h2
 have g1:=hl.g1
 have g2:=hl.g2
 have cA:=hL.A
 have cM:(sI fM L * p.oE).natAbs<=312000000000 * 1000000:=by
  have:=hL.M;have:=hp.l1;have:=hp.l2
  rw [Int.natAbs_mul]
  exact Nat.mul_le_mul (by omega) (by omega)
 have r1:kS (sI fM L) (Kz p l.aq) (q1 p l.aA).floor=kD p L l.aq l.aA:=by
  rw [Bool.eq_iff_iff,nX];exact Nd hp
 have r2:kS (sI fX L) (aE (0 - (tB p l.bN).floor)) (tB p l.bN).floor=kA (tQ p L) 1000 l.bN:=by
  rw [aX (by unfold tB;omega) (by unfold tB;omega),Int.zero_sub,Bool.eq_iff_iff,nX];exact aiA hp
 have r3:kS (sI fY L) (aE (0 - (hB p l.bq).floor)) (hB p l.bq).floor=kA (hQ p L) 1000 l.bq:=by
  rw [aX (by unfold hB;omega) (by unfold hB;omega),Int.zero_sub,Bool.eq_iff_iff,nX];exact aiB hp
 have r4:kS (aE (aE (4 * sI fA L) - aE (sI fM L * p.oE))) (aE (0 - 8 * l.bp)) (8 * l.bp)=kA (gQ p L) 1 l.bp:=by
  rw [aX (n:=4 * sI fA L) (by omega) (by omega),aX (n:=sI fM L * p.oE) (by omega) (by omega),aX (n:=0 - 8 * l.bp) (by omega) (by omega),aX (by omega) (by omega),Int.zero_sub,Bool.eq_iff_iff,nX]
  exact akL
 unfold lj
 simp only [e0,a9,mJ,mD,mB,mA,mz]
 change cond (kS (sI fM L) (Kz p l.aq) (q1 p l.aA).floor) (cond (kS (sI fX L) (aE (0 - (tB p l.bN).floor)) (tB p l.bN).floor) (cond (kS (sI fY L) (aE (0 - (hB p l.bq).floor)) (hB p l.bq).floor) (cond (kS (aE (aE (4 * sI fA L) - aE (sI fM L * p.oE))) (aE (0 - 8 * l.bp)) (8 * l.bp)) _ _) (cond (kS (aE (aE (4 * sI fA L) - aE (sI fM L * p.oE))) (aE (0 - 8 * l.bp)) (8 * l.bp)) _ _)) (cond (kS (sI fY L) (aE (0 - (hB p l.bq).floor)) (hB p l.bq).floor) (cond (kS (aE (aE (4 * sI fA L) - aE (sI fM L * p.oE))) (aE (0 - 8 * l.bp)) (8 * l.bp)) _ _) (cond (kS (aE (aE (4 * sI fA L) - aE (sI fM L * p.oE))) (aE (0 - 8 * l.bp)) (8 * l.bp)) _ _)))
  (cond (kS (sI fX L) (aE (0 - (tB p l.bN).floor)) (tB p l.bN).floor) (cond (kS (sI fY L) (aE (0 - (hB p l.bq).floor)) (hB p l.bq).floor) (cond (kS (aE (aE (4 * sI fA L) - aE (sI fM L * p.oE))) (aE (0 - 8 * l.bp)) (8 * l.bp)) _ _) (cond (kS (aE (aE (4 * sI fA L) - aE (sI fM L * p.oE))) (aE (0 - 8 * l.bp)) (8 * l.bp)) _ _)) (cond (kS (sI fY L) (aE (0 - (hB p l.bq).floor)) (hB p l.bq).floor) (cond (kS (aE (aE (4 * sI fA L) - aE (sI fM L * p.oE))) (aE (0 - 8 * l.bp)) (8 * l.bp)) _ _) (cond (kS (aE (aE (4 * sI fA L) - aE (sI fM L * p.oE))) (aE (0 - 8 * l.bp)) (8 * l.bp)) _ _)))=_
 rw [r1,r2,r3,r4]
 unfold ap1
 cases kD p L l.aq l.aA<;>cases kA (tQ p L) 1000 l.bN<;>cases kA (hQ p L) 1000 l.bq<;>cases kA (gQ p L) 1 l.bp<;>kernel_rfl
theorem adQ (h:jg p=0) (h2:lP l=0) (h3:gR p st=0):Gv (fun N=>CP N p l st) (Sr p l (dx p st),0):=by
 have hp:=Ds h
 have hl:=MA h2
 have hs:=Rp h3
 refine Gv.bind (.of 41 fun N hN=>rL (by omega) p) (Gv.bd (by rw [h];rfl) ?_)
 refine Gv.bind (.of 41 fun N hN=>ri N l) (Gv.bd (by rw [h2];rfl) ?_)
 refine Gv.bind (r:=(cW st,0)) (.of 41 fun N hN=>by
  obtain ⟨s,e1,e2⟩:=Bg (N:=N) (by omega) (l:=st) hp.nt
  rw [e1,e2 h3,h3]) (Gv.bd rfl ?_)
 refine Gv.bind (MB hp hl) (Gv.bind (.of 41 fun N hN=>OC (by omega) hp hl hs) (Gv.bind (r:=Sr p l (dx p st)) (.of 41 fun N hN=>?_) (Gv.pure _)))
 obtain ⟨n,rfl⟩:∃ n,N=n+6:=⟨N - 6,by omega⟩
 exact adP n _ _ _ _
end
end Go.Den
namespace Go.Den
open Go.Ab
def ack (a:ox):Bool:=kS a.aq 0 1000000 && kS a.aA 0 1000000
def OD (a:ox):Int:=cond (ack a) 0 2
def fW (p:cQ) (l:bF) (a:ox):Int :=
 cond (jg p != 0) (jg p) (cond (lP l != 0) (lP l) (cond (gR p a.a8 != 0) (gR p a.a8) (OD a)))
theorem adR {N:Nat} (hN:40 < N) (p:cQ) (l:bF) (a:ox):mb N p l a=some (fW p l a):=by
 unfold mb fW
 rw [aaw hN,a9]
 cases hc:jg p != 0 with
 | true=>rfl
 | false =>
  rw [Wi,a9,cond_false,cond_false]
  cases lP l != 0 with
  | true=>rfl
  | false =>
   have hp:=Ds (show jg p=0 by simpa using hc)
   rw [cond_false,cond_false]
   unfold ux OD ack
   rw [Ym hN hp.nt,a9]
   cases gR p a.a8 != 0 with
   | true=>rfl
   | false =>
    simp only [yz,a9]
    cases kS a.aq 0 1000000<;>cases kS a.aA 0 1000000<;>rfl
structure al0 (a:ox):Prop where
 a1:0<=a.aq
 a2:a.aq<=1000000
 b1:0<=a.aA
 b2:a.aA<=1000000
def rj (p:cQ) (l:bF) (a:ox):cg:=⟨p,GV p l,cW a.a8,Kz p a.aq,(q1 p a.aA).floor⟩
theorem Jf {p:cQ} {l:bF} {a:ox} (h:fW p l a=0):jg p=0/\lP l=0/\gR p a.a8=0/\al0 a:=by
 unfold fW at h
 by_cases h1:jg p=0
 ·rw [show (jg p != 0)=false by simp [h1],cond_false] at h
  by_cases h2:lP l=0
  ·rw [show (lP l != 0)=false by simp [h2],cond_false] at h
   by_cases h3:gR p a.a8=0
   ·rw [show (gR p a.a8 != 0)=false by simp [h3],cond_false] at h
    unfold OD ack at h
    refine ⟨h1,h2,h3,?_⟩
    cases hc:(kS a.aq 0 1000000 && kS a.aA 0 1000000) with
    | false=>rw [hc] at h;cases h
    | true =>
     simp only [a7,nX] at hc
     exact ⟨hc.1.1,hc.1.2,hc.2.1,hc.2.2⟩
   ·rw [show (gR p a.a8 != 0)=true by simpa using h3,cond_true] at h;exact absurd h h3
  ·rw [show (lP l != 0)=true by simpa using h2,cond_true] at h;exact absurd h h2
 ·rw [show (jg p != 0)=true by simpa using h1,cond_true] at h;exact absurd h h1
theorem akM (p:cQ) (l:bF) (a:ox):∃ t,Gv (fun N=>wv N p l a) (t,fW p l a)/\(fW p l a=0->t=rj p l a):=by
 unfold fW
 by_cases h1:jg p=0
 ·rw [show (jg p != 0)=false by simp [h1],cond_false]
  have hp:=Ds h1
  by_cases h2:lP l=0
  ·rw [show (lP l != 0)=false by simp [h2],cond_false]
   by_cases h3:gR p a.a8=0
   ·rw [show (gR p a.a8 != 0)=false by simp [h3],cond_false]
    unfold OD ack
    have go:∀ {x:cg×Int},Gv (fun N=>(cond (cond (!kS a.aq 0 1000000) true (!kS a.aA 0 1000000))
      (some ((⟨(⟨0,0,0,[],[]⟩:cQ),(⟨0,0,0,0,0⟩:da),(⟨0,0,0,0,0,0⟩:ab),0,0⟩:cg),2))
      ((pF N p l).bind fun fU=>(rC N p a.aq a.aA).bind fun m8=>some ((⟨p,fU,cW a.a8,m8.1,m8.2⟩:cg),0)))) x->Gv (fun N=>wv N p l a) x:=by
     intro x hx
     refine Gv.bind (.of 41 fun N hN=>rL (by omega) p) (Gv.bd (by rw [h1];rfl) (Gv.bind (.of 41 fun N hN=>ri N l) (Gv.bd (by rw [h2];rfl) (Gv.bind (r:=(cW a.a8,0)) (.of 41 fun N hN=>by
      obtain ⟨s,e1,e2⟩:=Bg (N:=N) (by omega) (l:=a.a8) hp.nt
      rw [e1,e2 h3,h3]) (Gv.bd rfl ?_)))))
     refine hx.congr fun N=>?_
     simp only [mJ,a9]
     cases kS a.aq 0 1000000<;>rfl
    by_cases ha:(kS a.aq 0 1000000 && kS a.aA 0 1000000)=true
    ·rw [ha]
     simp only [a7] at ha
     have r1:=nX.1 ha.1
     have r2:=nX.1 ha.2
     refine ⟨rj p l a,go ?_,fun _=>rfl⟩
     rw [ha.1,ha.2]
     exact Gv.bd rfl (Gv.bind (MB hp (MA h2)) (Gv.bind (Nc hp r1.1 r1.2 r2.1 r2.2) (Gv.pure _)))
    ·have hf:(kS a.aq 0 1000000 && kS a.aA 0 1000000)=false:=by
      cases hq:(kS a.aq 0 1000000 && kS a.aA 0 1000000) with
      | false=>rfl
      | true=>exact absurd hq ha
     rw [hf]
     refine ⟨⟨⟨0,0,0,[],[]⟩,⟨0,0,0,0,0⟩,⟨0,0,0,0,0,0⟩,0,0⟩,go ?_,fun h=>by cases h⟩
     cases e1:kS a.aq 0 1000000<;>cases e2:kS a.aA 0 1000000<;>rw [e1,e2] at hf<;>first | exact Gv.pure _ | cases hf
   ·rw [show (gR p a.a8 != 0)=true by simpa using h3,cond_true]
    refine ⟨⟨⟨0,0,0,[],[]⟩,⟨0,0,0,0,0⟩,⟨0,0,0,0,0,0⟩,0,0⟩,?_,fun h=>absurd h h3⟩
    refine .of 41 fun N hN=>?_
    obtain ⟨s,e1,-⟩:=Bg (N:=N) (by omega) (l:=a.a8) hp.nt
    unfold wv
    rw [rL (by omega),a9,h1,ri,a9,h2,e1,a9]
    have:(gR p a.a8 != 0)=true:=by simpa using h3
    simp only [bne_self_eq_false,cond_false,this,cond_true]
  ·rw [show (lP l != 0)=true by simpa using h2,cond_true]
   refine ⟨⟨⟨0,0,0,[],[]⟩,⟨0,0,0,0,0⟩,⟨0,0,0,0,0,0⟩,0,0⟩,.of 41 fun N hN=>?_,fun h=>absurd h h2⟩
   unfold wv
   rw [rL (by omega),a9,h1,ri,a9]
   have:(lP l != 0)=true:=by simpa using h2
   rw [this];rfl
 ·rw [show (jg p != 0)=true by simpa using h1,cond_true]
  refine ⟨⟨⟨0,0,0,[],[]⟩,⟨0,0,0,0,0⟩,⟨0,0,0,0,0,0⟩,0,0⟩,.of 41 fun N hN=>?_,fun h=>absurd h h1⟩
  unfold wv
  rw [rL (by omega),a9]
  have:(jg p != 0)=true:=by simpa using h1
  rw [this];rfl
def Wk (m:av) (x:Int):Int:=cond m.Za (x+1) (x - 1)
theorem aiD {st:List Int} {i:Nat} (v:Int) (hi:i < st.length) (h6:st.length<=6) :
  (⟨jP i 0 v (cW st).e0,jP i 1 v (cW st).e1,jP i 2 v (cW st).e2,jP i 3 v (cW st).e3,jP i 4 v (cW st).e4,jP i 5 v (cW st).e5⟩:ab)=cW (st.set i v):=by
 have key:∀ t,jP i t v (st.getD t 0)=(st.set i v).getD t 0:=by
  intro t
  unfold jP
  simp only [ep,List.getElem?_set]
  by_cases h:i=t
  ·subst h;simp [hi]
  ·simp [h]
 unfold cW
 simp only [key]
structure In (p:cQ) (l:bF) (a:ox):Prop where
 hp:cO p
 hl:Rt l
 ha:al0 a
abbrev yh (p:cQ) (m:av):Prop:=0<=m.dj/\m.dj < ((p.dh.length:Nat):Int)
def gn (st:List Int) (m:av):List Int:=st.set m.dj.toNat (Wk m (st.getD m.dj.toNat 0))
def Jg (p:cQ) (st:List Int) (m:av):Bool:=kS (Wk m (st.getD m.dj.toNat 0)) 0 (eD p m.dj.toNat).cu
section
variable {p:cQ} {l:bF} {a:ox} {st:List Int}
theorem acm (hs:eX p st) {m:av} (hm:yh p m) (h:Jg p st m=true):eX p (gn st m):=by
 have hb:=nX.1 h
 have hlen:=hs.len
 have key:∀ i,i < st.length->(gn st m).getD i 0=if m.dj.toNat=i then Wk m (st.getD m.dj.toNat 0) else st.getD i 0:=by
  intro i hi
  unfold gn
  simp only [ep,List.getElem?_set]
  by_cases e:m.dj.toNat=i
  ·rw [if_pos e,if_pos e,if_pos (by omega)];rfl
  ·rw [if_neg e,if_neg e]
 refine ⟨by unfold gn;simp [hs.len],fun i hi=>?_,fun i hi=>?_⟩
 ·have sB:i < st.length:=by unfold gn at hi;simpa using hi
  rw [key i sB]
  split
  ·exact hb.1
  ·exact hs.lo i sB
 ·have sB:i < st.length:=by unfold gn at hi;simpa using hi
  rw [key i sB]
  split
  ·rename_i e;rw [<- e];exact hb.2
  ·exact hs.hi i sB
theorem Ss {st:List Int} {i:Nat} {v:Int} (h:i < st.length):(st.set i v).getD i 0=v:=by simp [h]
theorem aiE (hp:cO p) (hs:eX p st) (m:av):∃ s,(∀ N,qX N (rj p l a) (cW st) m=some (s,decide (yh p m) && Jg p st m))/\(yh p m->s=cW (gn st m)):=by
 have h6:=hp.nt
 have hlen:=hs.len
 unfold qX
 simp only [mJ,a9]
 have e0:(rj p l a).f_p=p:=rfl
 rw [e0,aX (n:=((p.dh.length:Nat):Int) - 1) (by omega) (by omega)]
 by_cases hm:yh p m
 ·have jl:=hm
  unfold yh at jl
  have hr:kS m.dj 0 (((p.dh.length:Nat):Int) - 1)=true:=nX.2 ⟨jl.1,by omega⟩
  have hi:m.dj.toNat < st.length:=by omega
  have wV:=hs.lo _ hi
  have ss:=hs.hi _ hi
  have hb3:=(we hp (i:=m.dj.toNat) (by omega)).s2
  rw [hr,decide_eq_true hm,OA st (by omega)]
  have fin:∀ (N:Nat) (v:Int),k8 N (rj p l a) m (cW (st.set m.dj.toNat v))=some (cW (st.set m.dj.toNat v),kS v 0 (eD p m.dj.toNat).cu):=by
   intro N v
   unfold k8
   rw [if_pos ⟨by omega,by omega⟩,e0,if_pos jl,OA _ (by omega),Ss hi,mJ]
   rfl
  refine ⟨cW (gn st m),fun N=>?_,fun _=>rfl⟩
  simp only [Bool.not_true,cond_false,Bool.true_and]
  rw [if_pos ⟨by omega,by omega⟩,if_pos ⟨by omega,by omega⟩,aiD _ hi (by omega),aiD _ hi (by omega),fin,fin,aX (by omega) (by omega),aX (by omega) (by omega)]
  unfold gn Jg Wk
  cases m.Za<;>rfl
 ·have hr:kS m.dj 0 (((p.dh.length:Nat):Int) - 1)=false:=by
   cases h:kS m.dj 0 (((p.dh.length:Nat):Int) - 1) with
   | false=>rfl
   | true=>exact absurd ⟨(nX.1 h).1,by have:=(nX.1 h).2;omega⟩ hm
  rw [hr,decide_eq_false hm]
  exact ⟨_,fun N=>rfl,fun h=>absurd h hm⟩
theorem Ys (h:In p l a) (hs:eX p st):Gv (fun N=>kN N (rj p l a) (cW st)) (decide ((Sr p l (dx p st)).length=0)) :=
 Gv.bind (.of 41 fun N hN=>OC (by omega) h.hp h.hl hs) ((Gv.pure _).eq aiC)
def ji (p:cQ) (a:ox) (st:List Int):Bool:=kD p (dx p st) a.aq a.aA
theorem akN (h:In p l a) (hs:eX p st):Gv (fun N=>vU N (rj p l a) (cW st)) (ji p a st):=by
 refine Gv.bind (.of 41 fun N hN=>Yq (by omega) h.hp hs) (Gv.bind (.of 0 fun N _=>mJ N ..) ((Gv.pure _).eq ?_))
 rw [Bool.eq_iff_iff,nX]
 exact Nd h.hp
end
end Go.Den
namespace Go.Den
open Go.Ab
def xx (p:cQ):List Nat:=p.dh.map fun t=>(t.cu+1).toNat
def HK:List Nat->Nat
 | []=>1
 | r :: l=>r * HK l
theorem Rx:∀ (a b:List Nat),HK (a ++ b)=HK a * HK b
 | [],b=>by simp [HK]
 | r :: a,b=>by simp [HK,Rx a b,Nat.mul_assoc]
theorem acn:∀ {l:List Nat},(∀ r∈l,1<=r)->1<=HK l
 | [],_=>aN 1
 | r :: l,h=>Nat.mul_le_mul (h r (by simp)) (acn (l:=l) fun x hx=>h x (by simp [hx]))
theorem aaG:∀ {l:List Nat},(∀ r∈l,r<=13)->HK l<=13 ^ l.length
 | [],_=>aN 1
 | r :: l,h=>by
  have:=Nat.mul_le_mul (h r (by simp)) (aaG (l:=l) fun x hx=>h x (by simp [hx]))
  rw [px,Nat.pow_succ,py (13 ^ l.length)]
  exact this
def xL (p:cQ):Nat:=HK (xx p)
section
variable {p:cQ}
theorem Ry (hp:cO p):∀ r∈xx p,1<=r/\r<=13:=by
 intro r hr
 obtain ⟨t,ht,rfl⟩:=List.mem_map.1 hr
 have h:=hp.ts t ht
 have:=h.s1
 have:=h.s2
 omega
theorem aco (hp:cO p):1<=xL p:=acn fun r hr=>(Ry hp r hr).1
theorem al1 {n:Nat} (h:n<=6):13 ^ n<=4826809:=eF (Nat.pow_le_pow_right (by decide) h) (by decide)
theorem aiF (hp:cO p):xL p<=4826809:=by
 have h1:=aaG (l:=xx p) fun r hr=>(Ry hp r hr).2
 have h2:(xx p).length<=6:=by simp [xx];exact hp.nt
 exact eF h1 (al1 h2)
theorem akO (hp:cO p) (i:Nat):HK ((xx p).take i)<=4826809:=by
 have h1:=aaG (l:=(xx p).take i) fun r hr=>(Ry hp r (List.mem_of_mem_take hr)).2
 have h2:((xx p).take i).length<=6:=by simp [xx];have:=hp.nt;omega
 exact eF h1 (al1 h2)
theorem MD {i:Nat} (hi:i < p.dh.length):(xx p).getD i 0=((eD p i).cu+1).toNat:=by
 simp [xx,eD,hi]
theorem adS {i:Nat} (hi:i < p.dh.length):HK ((xx p).take (i+1))=HK ((xx p).take i) * ((eD p i).cu+1).toNat:=by
 rw [Cj _ i 0 (by simp [xx];exact hi),Rx,MD hi]
 simp [HK]
theorem Rz (hp:cO p) {i:Nat} (hi:i < p.dh.length):aE ((eD p i).cu+1)=(((eD p i).cu+1).toNat:Int)/\1<=((eD p i).cu+1).toNat:=by
 have h:=we hp hi
 have:=h.s1
 have:=h.s2
 rw [aX (by omega) (by omega)]
 omega
theorem acp {N:Nat} (hN:40 < N) (hp:cO p):BJ N p=some (xL p:Int):=by
 have h6:=hp.nt
 have key:∀ (k i fuel:Nat),i+k=p.dh.length->k < fuel->nM N p fuel ((HK ((xx p).take i):Nat):Int) (i:Int)=some (xL p:Int):=by
  intro k
  induction k with
  | zero =>
   intro i fuel hi hf
   obtain ⟨g,rfl⟩:∃ g,fuel=g+1:=⟨fuel - 1,by omega⟩
   have:i=p.dh.length:=by omega
   subst this
   rw [nM,dw,cond_false,jv (by simp [xx])];rfl
  | succ k ih =>
   intro i fuel hi hf
   obtain ⟨g,rfl⟩:∃ g,fuel=g+1:=⟨fuel - 1,by omega⟩
   have m5:i < p.dh.length:=by omega
   have hs:=akO hp (i+1)
   rw [nM,dec_lt m5,cond_true,if_pos (oX m5),ag]
   change nM N p g (aE (((HK ((xx p).take i):Nat):Int) * aE ((eD p i).cu+1))) (aE ((i:Int)+1))=_
   rw [(Rz hp m5).1,<- Int.natCast_mul,<- adS m5,abL (by omega),aH (by omega)]
   exact ih (i+1) g (by omega) (by omega)
 exact key p.dh.length 0 N (by omega) (by omega)
def RR:List Nat->Nat->List Int
 | [],_=>[]
 | r :: l,k=>((k % r:Nat):Int) :: RR l (k / r)
theorem acq:∀ (l:List Nat) (k:Nat),(RR l k).length=l.length
 | [],_=>rfl
 | r :: l,k=>by simp [RR,acq l]
theorem al2:∀ (l:List Nat) (k i:Nat),(∀ r∈l,1<=r)->i < l.length->0<=(RR l k).getD i 0/\(RR l k).getD i 0 < ((l.getD i 0:Nat):Int)
 | [],_,i,_,hi=>by simp at hi
 | r :: l,k,0,h,_=>by
  have:=Nat.mod_lt k (h r (by simp))
  simp [RR];omega
 | r :: l,k,i+1,h,hi=>by
  have:=al2 l (k / r) i (fun x hx=>h x (by simp [hx])) (by simpa using hi)
  simpa [RR] using this
def Ut (p:cQ) (k:Nat):List Int:=RR (xx p) k
theorem aaH (hp:cO p) (k:Nat):eX p (Ut p k):=by
 have hl:(Ut p k).length=p.dh.length:=by unfold Ut;rw [acq];simp [xx]
 have key:∀ i,i < (Ut p k).length->0<=(Ut p k).getD i 0/\(Ut p k).getD i 0<=(eD p i).cu:=fun i hi=>by
  have:=al2 (xx p) k i (fun r hr=>(Ry hp r hr).1) (by simp [xx];omega)
  rw [MD (by omega)] at this
  have h:=(Rz hp (i:=i) (by omega)).2
  unfold Ut;omega
 exact ⟨hl,fun i hi=>(key i hi).1,fun i hi=>(key i hi).2⟩
def KA:List Nat->List Int->List Int×Bool
 | r :: l,d :: ds=>if d+1 < (r:Int) then ((d+1) :: ds,true) else (0 :: (KA l ds).1,(KA l ds).2)
 | _,ds=>(ds,false)
theorem RA:∀ (l:List Nat) (k:Nat),(∀ r∈l,1<=r)->k < HK l->(KA l (RR l k)).2=decide (k+1 < HK l)/\(k+1 < HK l->(KA l (RR l k)).1=RR l (k+1))
 | [],k,_,hk=>by
  have hk:k=0:=by simp [HK] at hk;exact hk
  subst hk
  simp [KA,HK,RR]
 | r :: l,k,h,hk=>by
  have hr:1<=r:=h r (by simp)
  have hq:k / r < HK l:=by
   rw [Nat.div_lt_iff_lt_mul hr,py];exact hk
  obtain ⟨i1,i2⟩:=RA l (k / r) (fun x hx=>h x (by simp [hx])) hq
  have hm:=Nat.mod_lt k hr
  have hd:=Nat.div_add_mod k r
  simp only [RR,KA]
  by_cases hc:k % r+1 < r
  ·rw [if_pos (by omega)]
   have e1:(k+1) / r=k / r:=by
    rw [Nat.div_eq_of_lt_le]<;>rw [py]
    ·omega
    ·rw [Nat.mul_add];omega
   have e2:(k+1) % r=k % r+1:=by
    have:=Nat.div_add_mod (k+1) r
    rw [e1] at this;omega
   have iQ:k+1 < r * HK l:=by
    have:r * (k / r)+r<=r * HK l:=by
     rw [<- Nat.mul_succ];exact Nat.mul_le_mul_left r hq
    omega
   refine ⟨(decide_eq_true iQ).symm,fun _=>?_⟩
   rw [e1,e2];simp
  ·rw [if_neg (by omega)]
   have e1:(k+1) / r=k / r+1:=by
    rw [Nat.div_eq_of_lt_le]<;>rw [py]
    ·rw [Nat.mul_add];omega
    ·rw [Nat.mul_add,Nat.mul_add];omega
   have e2:(k+1) % r=0:=by
    have:=Nat.div_add_mod (k+1) r
    rw [e1,Nat.mul_add] at this;omega
   have eq1:(k+1 < r * HK l)↔(k / r+1 < HK l):=by
    have hx:k+1=r * (k / r+1):=by rw [Nat.mul_add];omega
    rw [hx]
    exact Nat.mul_lt_mul_left hr
   refine ⟨?_,fun iQ=>?_⟩
   ·rw [i1];exact decide_eq_decide.2 eq1.symm
   ·rw [i2 (eq1.1 iQ),e1,e2];rfl
theorem acr {st:List Int} {i:Nat} (v:Int) (hi:i < st.length) :
  (⟨jP i 0 v (cW st).e0,jP i 1 v (cW st).e1,jP i 2 v (cW st).e2,jP i 3 v (cW st).e3,jP i 4 v (cW st).e4,jP i 5 v (cW st).e5⟩:ab)=cW (st.set i v):=by
 have key:∀ t,jP i t v (st.getD t 0)=(st.set i v).getD t 0:=by
  intro t
  unfold jP
  simp only [ep,List.getElem?_set]
  by_cases h:i=t
  ·subst h;simp [hi]
  ·simp [h]
 unfold cW
 simp only [key]
theorem KB {N:Nat} (hN:40 < N) (hp:cO p) {ds:List Int} (hs:eX p ds):vZ N p (cW ds)=some (cW (KA (xx p) ds).1,(KA (xx p) ds).2):=by
 have h6:=hp.nt
 have hlen:=hs.len
 have key:∀ (n i fuel:Nat) (pre:List Int),i+n=p.dh.length->n < fuel->pre.length=i ->
   jd N p fuel (cW (pre ++ ds.drop i)) (i:Int)=some (cW (pre ++ (KA ((xx p).drop i) (ds.drop i)).1),(KA ((xx p).drop i) (ds.drop i)).2):=by
  intro n
  induction n with
  | zero =>
   intro i fuel pre hi hf ho
   obtain ⟨g,rfl⟩:∃ g,fuel=g+1:=⟨fuel - 1,by omega⟩
   have:i=p.dh.length:=by omega
   subst this
   have e1:(xx p).drop p.dh.length=[]:=List.drop_of_length_le (by simp [xx])
   have e2:ds.drop p.dh.length=[]:=List.drop_of_length_le (by omega)
   rw [jd,dw,cond_false,e1,e2]
   rfl
  | succ n ih =>
   intro i fuel pre hi hf ho
   obtain ⟨g,rfl⟩:∃ g,fuel=g+1:=⟨fuel - 1,by omega⟩
   have m5:i < p.dh.length:=by omega
   obtain ⟨-,e2⟩:=Rz hp m5
   have ht:=we hp m5
   have t1:=ht.s1
   have t2:=ht.s2
   have b1:=hs.lo i (by omega)
   have b2:=hs.hi i (by omega)
   have hd:ds.drop i=ds.getD i 0 :: ds.drop (i+1):=yy ds i 0 (by omega)
   have hg:(pre ++ ds.drop i).getD i 0=ds.getD i 0:=by
    rw [hd,ep,kU (by omega),ho,Nat.sub_self];rfl
   have OY:∀ v,(pre ++ ds.drop i).set i v=pre ++ v :: ds.drop (i+1):=fun v=>by
    rw [hd,List.set_append_right _ _ (by omega),ho,Nat.sub_self];rfl
   have KH:i < (pre ++ ds.drop i).length:=by simp;omega
   rw [jd,dec_lt m5,cond_true,if_pos (oX m5),if_pos ⟨by omega,by omega⟩,ag,OA _ (by omega),hg,acr _ KH,acr _ KH,OY,OY,aX (by omega) (by omega),aH (by omega)]
   have e:p.dh.getD i cL.d=eD p i:=rfl
   rw [e,yy (xx p) i 0 (by simp [xx];exact m5),MD m5,hd]
   simp only [KA]
   by_cases hc:ds.getD i 0 < (eD p i).cu
   ·rw [decide_eq_true hc,cond_true,if_pos (by omega)]
   ·rw [decide_eq_false hc,cond_false,if_neg (by omega)]
    have:=ih (i+1) g (pre ++ [0]) (by omega) (by omega) (by simp;omega)
    rw [qA,qA] at this
    exact this
 have:=key p.dh.length 0 N [] (by omega) (by omega) rfl
 rw [List.nil_append,List.drop_zero,List.drop_zero,List.nil_append] at this
 exact this
end
end Go.Den
namespace Go.Den
open Go.Ab
def akP (a b c d a' b' c' d':Bool):Bool:=(!a || a') && (!b || b') && (!c || c') && (!d || d')
section
variable (p:cQ) (l:bF)
def fa (k:Nat):Bool:=kD p (dx p (Ut p k)) l.aq l.aA
def fb (k:Nat):Bool:=kA (tQ p (dx p (Ut p k))) 1000 l.bN
def fc (k:Nat):Bool:=kA (hQ p (dx p (Ut p k))) 1000 l.bq
def fd (k:Nat):Bool:=kA (gQ p (dx p (Ut p k))) 1 l.bp
def TT (a b c d:Bool):Bool:=(List.range (xL p)).any fun k=>akP a b c d (fa p l k) (fb p l k) (fc p l k) (fd p l k)
def btN (k:Nat):Int:=pT (fa p l k) (fb p l k) (fc p l k) (fd p l k)
def FF:Nat->Nat->Bool
 | 0,_=>false
 | k+1,t=>if (btN p l k).toNat=t then true else FF k t
end
def posOf (f:Nat->Bool):cR:=⟨f 0,f 1,f 2,f 3,f 4,f 5,f 6,f 7,f 8,f 9,f 10,f 11,f 12,f 13,f 14,f 15⟩
theorem aiG (f:Nat->Bool) {x:Nat} (h:x < 16):Jp [(posOf f).e0,(posOf f).e1,(posOf f).e2,(posOf f).e3,(posOf f).e4,(posOf f).e5,(posOf f).e6,(posOf f).e7,(posOf f).e8,(posOf f).e9,(posOf f).e10,(posOf f).e11,(posOf f).e12,(posOf f).e13,(posOf f).e14,(posOf f).e15] x=f x:=by
 match x,h with
 | 0,_=>rfl
 | 1,_=>rfl
 | 2,_=>rfl
 | 3,_=>rfl
 | 4,_=>rfl
 | 5,_=>rfl
 | 6,_=>rfl
 | 7,_=>rfl
 | 8,_=>rfl
 | 9,_=>rfl
 | 10,_=>rfl
 | 11,_=>rfl
 | 12,_=>rfl
 | 13,_=>rfl
 | 14,_=>rfl
 | 15,_=>rfl
 | n+16,h=>exact absurd h (by omega)
theorem Wl (a b c d:Bool):0<=pT a b c d/\pT a b c d < 16:=by
 cases a<;>cases b<;>cases c<;>cases d<;>decide
theorem acu (a b c d a' b' c' d':Bool):(JF .i64 (pT a' b' c' d') (pT a b c d) == pT a b c d)=akP a b c d a' b' c' d':=by
 cases a<;>cases b<;>cases c<;>cases d<;>cases a'<;>cases b'<;>cases c'<;>cases d'<;>rfl
theorem an8 (a b c d:Bool):zV .i64 (pT a b c d) 8=pT a b c false:=by cases a<;>cases b<;>cases c<;>cases d<;>rfl
theorem an4 (a b c d:Bool):zV .i64 (pT a b c d) 4=pT a b false d:=by cases a<;>cases b<;>cases c<;>cases d<;>rfl
theorem an2 (a b c d:Bool):zV .i64 (pT a b c d) 2=pT a false c d:=by cases a<;>cases b<;>cases c<;>cases d<;>rfl
theorem an1 (a b c d:Bool):zV .i64 (pT a b c d) 1=pT false b c d:=by cases a<;>cases b<;>cases c<;>cases d<;>rfl
def nW (a b c d:Bool):List ByteArray:=MC (!a) (!b) (!c) (!d)
theorem aiH (n:Nat) (a b c d:Bool):vq (n+6) (pT a b c d)=some (nW a b c d):=by
 cases a<;>cases b<;>cases c<;>cases d<;>kernel_rfl
section
variable {p:cQ} {l:bF}
theorem aaI:∀ {k t:Nat},FF p l k t=true↔∃ j,j < k/\(btN p l j).toNat=t
 | 0,t=>by simp [FF]
 | k+1,t=>by
  simp only [FF]
  by_cases h:(btN p l k).toNat=t
  ·rw [if_pos h]
   exact ⟨fun _=>⟨k,Nat.lt_succ_self k,h⟩,fun _=>rfl⟩
  ·rw [if_neg h,aaI]
   constructor
   ·rintro ⟨j,hj,e⟩;exact ⟨j,by omega,e⟩
   ·rintro ⟨j,hj,e⟩
    by_cases hjk:j=k
    ·subst hjk;exact absurd e h
    ·exact ⟨j,by omega,e⟩
theorem aaJ {a b c d:Bool}:TT p l a b c d=true↔∃ k,k < xL p/\akP a b c d (fa p l k) (fb p l k) (fc p l k) (fd p l k)=true:=by
 unfold TT
 rw [List.any_eq_true]
 constructor
 ·rintro ⟨k,hk,h⟩;exact ⟨k,by simpa using hk,h⟩
 ·rintro ⟨k,hk,h⟩;exact ⟨k,by simpa using hk,h⟩
theorem aiJ {N:Nat} (hN:20 < N) (a b c d:Bool):oO N (pT a b c d) (posOf (FF p l (xL p)))=some (TT p l a b c d):=by
 have e:oO N (pT a b c d) (posOf (FF p l (xL p)))=some (scan (fun x=>cond (cond (FF p l (xL p) x) (JF .i64 (x:Int) (pT a b c d) == pT a b c d) false) (some true) none) false 16 0):=by
  refine tC (L:=fun fuel=>il N (pT a b c d) (posOf (FF p l (xL p))) fuel) _ _ (by omega) (fun fuel x hx=>?_) (fun fuel=>?_)
  ·rw [il,decide_eq_true (show (x:Int) < 16 by omega),cond_true,if_pos ⟨by omega,by omega⟩,ag,aiG _ hx,aH (by omega)]
   cases cond (FF p l (xL p) x) (JF .i64 (x:Int) (pT a b c d) == pT a b c d) false<;>rfl
  ·rw [il,decide_eq_false (by decide),cond_false]
 rw [e,Rn (p:=fun x=>cond (FF p l (xL p) x) (JF .i64 (x:Int) (pT a b c d) == pT a b c d) false)]
 congr 1
 rw [Bool.eq_iff_iff,aaJ,List.any_eq_true]
 constructor
 ·rintro ⟨x,_,h⟩
  cases hF:FF p l (xL p) x with
  | false=>rw [hF] at h;cases h
  | true =>
   rw [hF,cond_true] at h
   obtain ⟨j,hj,e⟩:=aaI.1 hF
   refine ⟨j,hj,?_⟩
   have hb:=Wl (fa p l j) (fb p l j) (fc p l j) (fd p l j)
   have ex:(x:Int)=pT (fa p l j) (fb p l j) (fc p l j) (fd p l j):=by unfold btN at e;omega
   rw [ex,acu] at h
   exact h
 ·rintro ⟨j,hj,h⟩
  have hb:=Wl (fa p l j) (fb p l j) (fc p l j) (fd p l j)
  refine ⟨(btN p l j).toNat,by rw [List.mem_range'];exact ⟨(btN p l j).toNat,by unfold btN;omega,by omega⟩,?_⟩
  have hF:FF p l (xL p) (btN p l j).toNat=true:=aaI.2 ⟨j,hj,rfl⟩
  rw [hF,cond_true]
  have ex:(((btN p l j).toNat:Nat):Int)=pT (fa p l j) (fb p l j) (fc p l j) (fd p l j):=by unfold btN;omega
  rw [ex,acu]
  exact h
def Wm (p:cQ) (l:bF):Bool×Bool×Bool×Bool :=
 let d:=TT p l true true true false
 let c:=TT p l true true false d
 let b:=TT p l true false c d
 (TT p l false b c d,b,c,d)
def nmC (p:cQ) (l:bF):List ByteArray:=cond (TT p l true true true true) [] (nW (Wm p l).1 (Wm p l).2.1 (Wm p l).2.2.1 (Wm p l).2.2.2)
theorem akQ {N:Nat} (hN:60 < N):b7 N (posOf (FF p l (xL p))) N 15 8=some (nW (Wm p l).1 (Wm p l).2.1 (Wm p l).2.2.1 (Wm p l).2.2.2,0):=by
 obtain ⟨n,rfl⟩:∃ n,N=n+6:=⟨N - 6,by omega⟩
 have T:=fun a b c d=>aiJ (p:=p) (l:=l) (N:=n+6) (by omega) a b c d
 have e15:(15:Int)=pT true true true true:=rfl
 have r8:∀ (fuel:Nat) (a b c:Bool),b7 (n+6) (posOf (FF p l (xL p))) (fuel+1) (pT a b c true) 8=b7 (n+6) (posOf (FF p l (xL p))) fuel (pT a b c (TT p l a b c false)) 4:=by
  intro fuel a b c
  rw [b7,decide_eq_true (by decide),cond_true,an8,T,a9]
  cases TT p l a b c false<;>rfl
 have r4:∀ (fuel:Nat) (a b d:Bool),b7 (n+6) (posOf (FF p l (xL p))) (fuel+1) (pT a b true d) 4=b7 (n+6) (posOf (FF p l (xL p))) fuel (pT a b (TT p l a b false d) d) 2:=by
  intro fuel a b d
  rw [b7,decide_eq_true (by decide),cond_true,an4,T,a9]
  cases TT p l a b false d<;>rfl
 have r2:∀ (fuel:Nat) (a c d:Bool),b7 (n+6) (posOf (FF p l (xL p))) (fuel+1) (pT a true c d) 2=b7 (n+6) (posOf (FF p l (xL p))) fuel (pT a (TT p l a false c d) c d) 1:=by
  intro fuel a c d
  rw [b7,decide_eq_true (by decide),cond_true,an2,T,a9]
  cases TT p l a false c d<;>rfl
 have r1:∀ (fuel:Nat) (b c d:Bool),b7 (n+6) (posOf (FF p l (xL p))) (fuel+1) (pT true b c d) 1=b7 (n+6) (posOf (FF p l (xL p))) fuel (pT (TT p l false b c d) b c d) 0:=by
  intro fuel b c d
  rw [b7,decide_eq_true (by decide),cond_true,an1,T,a9]
  cases TT p l false b c d<;>rfl
 rw [e15,r8,r4,r2,r1,b7,decide_eq_false (by decide),cond_false,aiH]
 rfl
theorem aiK:cW (Ut p 0)=⟨0,0,0,0,0,0⟩:=by
 have key:∀ (r:List Nat) (i:Nat),(RR r 0).getD i 0=0:=by
  intro r
  induction r with
  | nil=>intro i;simp [RR]
  | cons a r ih =>
   intro i
   cases i with
   | zero=>simp [RR]
   | succ i=>simpa [RR] using ih i
 unfold cW Ut
 simp only [key]
theorem akR {N:Nat} (hN:60 < N) (hp:cO p) (hl:Rt l):∀ (n k fuel:Nat),k+(n+1)=xL p->n+2 < fuel ->
  fP N p (GV p l) fuel (posOf (FF p l k)) (cW (Ut p k)) true=some (nmC p l,0):=by
 intro n
 induction n with
 | zero =>
  intro k fuel hk hf
  obtain ⟨g,rfl⟩:∃ g,fuel=g+2:=⟨fuel - 2,by omega⟩
  have hs:=aaH hp k
  have hb:=Wl (fa p l k) (fb p l k) (fc p l k) (fd p l k)
  obtain ⟨i1,-⟩:=RA (xx p) k (fun r hr=>(Ry hp r hr).1) (show k < xL p by omega)
  rw [fP,cond_true,OC (by omega) hp hl hs,a9]
  change (if 0<=btN p l k/\btN p l k < ((16:Nat):Int) then _ else _)=_
  rw [if_pos ⟨hb.1,hb.2⟩,KB (by omega) hp hs,a9]
  change fP N p (GV p l) (g+1) (posOf (FF p l (k+1))) _ (KA (xx p) (RR (xx p) k)).2=_
  rw [i1,decide_eq_false (by unfold xL at hk;omega),fP,cond_false]
  have e15:(15:Int)=pT true true true true:=rfl
  rw [show k+1=xL p by omega,akQ hN,e15,aiJ (by omega),a9]
  unfold nmC
  cases TT p l true true true true<;>rfl
 | succ n ih =>
  intro k fuel hk hf
  obtain ⟨g,rfl⟩:∃ g,fuel=g+1:=⟨fuel - 1,by omega⟩
  have hs:=aaH hp k
  have hb:=Wl (fa p l k) (fb p l k) (fc p l k) (fd p l k)
  obtain ⟨i1,i2⟩:=RA (xx p) k (fun r hr=>(Ry hp r hr).1) (show k < xL p by omega)
  rw [fP,cond_true,OC (by omega) hp hl hs,a9]
  change (if 0<=btN p l k/\btN p l k < ((16:Nat):Int) then _ else _)=_
  rw [if_pos ⟨hb.1,hb.2⟩,KB (by omega) hp hs,a9]
  change fP N p (GV p l) g (posOf (FF p l (k+1))) (cW (KA (xx p) (RR (xx p) k)).1) (KA (xx p) (RR (xx p) k)).2=_
  have iQ:k+1 < HK (xx p):=by unfold xL at hk;omega
  rw [i1,decide_eq_true iQ,i2 iQ]
  exact ih (k+1) g (by omega) (by omega)
theorem Yt (h:jg p=0) (h2:lP l=0) (hc:xL p<=20000):Gv (fun N=>xY N p l) (nmC p l,0):=by
 have hp:=Ds h
 have hl:=MA h2
 have h1:=aco hp
 refine Gv.bind (.of 41 fun N hN=>rL (by omega) p) (Gv.bd (by rw [h];rfl) ?_)
 refine Gv.bind (.of 41 fun N hN=>ri N l) (Gv.bd (by rw [h2];rfl) ?_)
 refine Gv.bind (.of 41 fun N hN=>acp (by omega) hp) (Gv.bd (decide_eq_false (by omega)) ?_)
 refine Gv.bind (MB hp hl) (.of (xL p+61) fun N hN=>?_)
 have:=akR (N:=N) (l:=l) (by omega) hp hl (xL p - 1) 0 N (by omega) (by omega)
 rw [aiK] at this
 exact this
end
end Go.Den
namespace Go.Den
namespace Yu
section
variable {S M:Type} (mv:List M) (nx:S->M->Option S) (goal:S->Bool)
def RG:Nat->S->Prop
 | 0,s=>goal s=true
 | n+1,s=>∃ m,m∈mv/\∃ t,nx s m=some t/\RG n t
def TO (s:S) (n:Nat):Prop:=RG mv nx goal n s/\∀ j,j < n->¬ RG mv nx goal j s
theorem Wn:∀ (n:Nat) {s:S},RG mv nx goal n s->∃ k,k<=n/\TO mv nx goal s k:=by
 intro n
 induction n using Nat.strongRecOn with
 | _ n ih =>
  intro s h
  by_cases hj:∃ j,j < n/\RG mv nx goal j s
  ·obtain ⟨j,h1,h2⟩:=hj
   obtain ⟨k,h3,h4⟩:=ih j h1 h2
   exact ⟨k,by omega,h4⟩
  ·exact ⟨n,aN _,h,fun j h1 h2=>hj ⟨j,h1,h2⟩⟩
variable {mv nx goal}
theorem aiL {s:S} {a b:Nat} (h1:TO mv nx goal s a) (h2:TO mv nx goal s b):a=b:=by
 rcases Nat.lt_trichotomy a b with h | h | h
 ·exact absurd h1.1 (h2.2 a h)
 ·exact h
 ·exact absurd h2.1 (h1.2 b h)
theorem aiM {s:S} {n:Nat} (h:TO mv nx goal s (n+1)):∃ m,m∈mv/\∃ t,nx s m=some t/\TO mv nx goal t n:=by
 obtain ⟨⟨m,hm,t,hn,hr⟩,h2⟩:=h
 refine ⟨m,hm,t,hn,hr,fun j hj hj2=>?_⟩
 exact h2 (j+1) (by omega) ⟨m,hm,t,hn,hj2⟩
structure Seen (mv:List M) (nx:S->M->Option S) (v:Nat->S) (len:Nat) (pi mi:Nat->Nat) (h q:Nat) (d:M):Prop where
 pos:0 < len
 back:∀ i,0 < i->i < len->(pi i < h\/pi i=h/\mi i < q)/\pi i < i/\mi i < mv.length/\nx (v (pi i)) (mv.getD (mi i) d)=some (v i)
 first:∀ i,0 < i->i < len->∀ j k,j < pi i\/j=pi i/\k < mi i->k < mv.length->nx (v j) (mv.getD k d)≠some (v i)
 ord:∀ i i',0 < i->i < i'->i' < len->pi i < pi i'\/pi i=pi i'/\mi i < mi i'
 inj:∀ i i',i < len->i' < len->v i=v i'->i=i'
 all:∀ j k,j < h\/j=h/\k < q->k < mv.length->∀ t,nx (v j) (mv.getD k d)=some t->∃ i,i < len/\v i=t
end
section
variable {S M:Type} {mv:List M} {nx:S->M->Option S} {goal:S->Bool} {v:Nat->S} {len h:Nat} {pi mi:Nat->Nat} {d:M}
def dep (pi:Nat->Nat):Nat->Nat->Nat
 | 0,_=>0
 | f+1,i=>if i=0 then 0 else dep pi f (pi i)+1
variable (s:Seen mv nx v len pi mi h 0 d)
include s
theorem aiN:∀ (i f f':Nat),i < len->i<=f->i<=f'->dep pi f i=dep pi f' i:=by
 intro i
 induction i using Nat.strongRecOn with
 | _ i ih =>
  intro f f' hi hf hf'
  by_cases h0:i=0
  ·subst h0;cases f<;>cases f'<;>simp [dep]
  ·obtain ⟨g,rfl⟩:∃ g,f=g+1:=⟨f - 1,by omega⟩
   obtain ⟨g',rfl⟩:∃ g',f'=g'+1:=⟨f' - 1,by omega⟩
   have b:=(s.back i (by omega) hi).2.1
   simp only [dep,if_neg h0]
   rw [ih (pi i) b g g' (by omega) (by omega) (by omega)]
theorem Gc {i:Nat} (h0:0 < i) (hi:i < len):dep pi i i=dep pi (pi i) (pi i)+1:=by
 have b:=(s.back i h0 hi).2.1
 obtain ⟨g,hg⟩:∃ g,i=g+1:=⟨i - 1,by omega⟩
 have e:dep pi i i=dep pi (g+1) i:=by rw [<- hg]
 rw [e]
 simp only [dep,if_neg (show ¬ i=0 by omega)]
 rw [aiN s (pi i) g (pi i) (by omega) (by omega) (aN _)]
theorem RC:∀ i i',i<=i'->i' < len->dep pi i i<=dep pi i' i':=by
 intro i
 induction i using Nat.strongRecOn with
 | _ i ih =>
  intro i' hle sB
  by_cases h0:i=0
  ·subst h0;simp [dep]
  ·by_cases he:i=i'
   ·subst he;exact aN _
   ·have o:=s.ord i i' (by omega) (by omega) sB
    have b:=(s.back i (by omega) (by omega)).2.1
    have b':=(s.back i' (by omega) sB).2.1
    rw [Gc s (by omega) (by omega),Gc s (by omega) sB]
    have:=ih (pi i) b (pi i') (by omega) (by omega)
    omega
theorem OE {n0:Nat} (h0:TO mv nx goal (v 0) n0):∀ i,i < len->∀ n,TO mv nx goal (v i) n->n0<=dep pi i i+n:=by
 intro i
 induction i using Nat.strongRecOn with
 | _ i ih =>
  intro hi n hn
  by_cases hz:i=0
  ·subst hz;have:=aiL h0 hn;omega
  ·obtain ⟨_,b1,b2,b3⟩:=s.back i (by omega) hi
   have hr:RG mv nx goal (n+1) (v (pi i)):=⟨_,lC _ _ _ b2,_,b3,hn.1⟩
   obtain ⟨k,hk,hd⟩:=Wn mv nx goal (n+1) hr
   have:=ih (pi i) b1 (by omega) k hd
   rw [Gc s (by omega) hi]
   omega
def akS (mv:List M) (nx:S->M->Option S) (goal:S->Bool) (v:Nat->S) (pi:Nat->Nat) (len n0 k g:Nat):Prop :=
 g < len/\dep pi g g=k/\TO mv nx goal (v g) (n0 - k)/\∀ i,i < g->dep pi i i=k->¬ TO mv nx goal (v i) (n0 - k)
theorem adT {n0:Nat} (h0:TO mv nx goal (v 0) n0):akS mv nx goal v pi len n0 0 0:=⟨s.pos,by simp [dep],h0,fun i hi=>by omega⟩
def akT (mv:List M) (nx:S->M->Option S) (goal:S->Bool) (d:M) (x:S) (n k:Nat):Prop :=
 k < mv.length/\(∃ t,nx x (mv.getD k d)=some t/\TO mv nx goal t n)/\∀ j,j < k->∀ t,nx x (mv.getD j d)=some t->¬ TO mv nx goal t n
omit s in
theorem akU {x:S} {n:Nat} (hx:TO mv nx goal x (n+1)):∃ k,akT mv nx goal d x n k:=by
 obtain ⟨m,hm,t,h1,h2⟩:=aiM hx
 obtain ⟨k,hk,rfl⟩:=List.getElem_of_mem hm
 have e:mv.getD k d=mv[k]:=by simp [List.getD,hk]
 have main:∀ k,(k < mv.length/\∃ t,nx x (mv.getD k d)=some t/\TO mv nx goal t n)->∃ k,akT mv nx goal d x n k:=by
  intro k
  induction k using Nat.strongRecOn with
  | _ k ih =>
   intro hk
   by_cases hj:∃ j,j < k/\∃ t,nx x (mv.getD j d)=some t/\TO mv nx goal t n
   ·obtain ⟨j,h3,h4⟩:=hj
    exact ih j h3 ⟨by omega,h4⟩
   ·exact ⟨k,hk.1,hk.2,fun j h3 t h4 h5=>hj ⟨j,h3,t,h4,h5⟩⟩
 exact main k ⟨hk,t,by rw [e];exact h1,h2⟩
theorem adU {n0 k g q:Nat} (h0:TO mv nx goal (v 0) n0) (hk:k < n0) (hg:akS mv nx goal v pi len n0 k g) (hh:g < h) (hq:akT mv nx goal d (v g) (n0 - (k+1)) q) :
  ∃ g',akS mv nx goal v pi len n0 (k+1) g'/\0 < g'/\pi g'=g/\mi g'=q:=by
 obtain ⟨g1,g2,g3,g4⟩:=hg
 obtain ⟨q1,⟨t,q2,q3⟩,q4⟩:=hq
 obtain ⟨i,hi,rfl⟩:=s.all g q (.inl hh) q1 t q2
 have hdi:=OE s h0 i hi _ q3
 have hi0:0 < i:=by
  rcases Nat.eq_zero_or_pos i with h | h
  ·subst h;simp [dep] at hdi;omega
  ·exact h
 obtain ⟨b0,b1,b2,b3⟩:=s.back i hi0 hi
 have bf:=s.first i hi0 hi
 have hpi:pi i<=g:=by
  rcases Nat.lt_or_ge g (pi i) with h | h
  ·exact absurd q2 (bf g q (.inl h) q1)
  ·exact h
 have hdp:=RC s (pi i) g hpi g1
 have hds:=Gc s hi0 hi
 have asQ:dep pi (pi i) (pi i)=k:=by omega
 obtain ⟨e,he1,he2⟩:=Wn mv nx goal (n0 - (k+1)+1) (s:=v (pi i)) ⟨_,lC _ _ _ b2,_,b3,q3.1⟩
 have he3:=OE s h0 (pi i) (by omega) e he2
 have hee:e=n0 - k:=by omega
 subst hee
 have hpg:pi i=g:=by
  rcases Nat.lt_or_ge (pi i) g with h | h
  ·exact absurd he2 (g4 (pi i) h asQ)
  ·omega
 have hmq:mi i=q:=by
  rw [hpg] at b3
  rcases Nat.lt_trichotomy (mi i) q with h | h | h
  ·exact absurd q3 (q4 (mi i) h _ b3)
  ·exact h
  ·exact absurd q2 (bf g q (.inr ⟨hpg.symm,h⟩) q1)
 refine ⟨i,⟨hi,by omega,q3,fun x hx hdx hD=>?_⟩,hi0,hpg,hmq⟩
 have Y4:0 < x:=by
  rcases Nat.eq_zero_or_pos x with h | h
  ·subst h;simp [dep] at hdx
  ·exact h
 obtain ⟨c0,c1,c2,c3⟩:=s.back x Y4 (by omega)
 have avC:=Gc s Y4 (by omega)
 obtain ⟨e',avD,ap3⟩:=Wn mv nx goal (n0 - (k+1)+1) (s:=v (pi x)) ⟨_,lC _ _ _ c2,_,c3,hD.1⟩
 have avE:=OE s h0 (pi x) (by omega) e' ap3
 have asR:e'=n0 - k:=by omega
 subst asR
 have hge:g<=pi x:=by
  rcases Nat.lt_or_ge (pi x) g with h | h
  ·exact absurd ap3 (g4 (pi x) h (by omega))
  ·exact h
 rcases s.ord x i Y4 hx hi with h | ⟨h1,h2⟩
 ·omega
 ·have e1:pi x=g:=by omega
  rw [e1] at c3
  exact q4 (mi x) (by omega) _ c3 hD
inductive Way (mv:List M) (nx:S->M->Option S) (goal:S->Bool) (d:M):S->List M->Prop
 | nil {x:S}:goal x=true->Way mv nx goal d x []
 | cons {x t:S} {n q:Nat} {l:List M}:TO mv nx goal x (n+1)->akT mv nx goal d x n q->nx x (mv.getD q d)=some t->Way mv nx goal d t l->Way mv nx goal d x (mv.getD q d :: l)
def Bj (mv:List M) (pi mi:Nat->Nat) (d:M):Nat->Nat->List M
 | 0,_=>[]
 | f+1,i=>if i=0 then [] else Bj mv pi mi d f (pi i) ++ [mv.getD (mi i) d]
theorem adV:∀ (i f f':Nat),i < len->i<=f->i<=f'->Bj mv pi mi d f i=Bj mv pi mi d f' i:=by
 intro i
 induction i using Nat.strongRecOn with
 | _ i ih =>
  intro f f' hi hf hf'
  by_cases h0:i=0
  ·subst h0;cases f<;>cases f'<;>simp [Bj]
  ·obtain ⟨g,rfl⟩:∃ g,f=g+1:=⟨f - 1,by omega⟩
   obtain ⟨g',rfl⟩:∃ g',f'=g'+1:=⟨f' - 1,by omega⟩
   have b:=(s.back i (by omega) hi).2.1
   simp only [Bj,if_neg h0]
   rw [ih (pi i) b g g' (by omega) (by omega) (by omega)]
theorem ME {i:Nat} (h0:0 < i) (hi:i < len):Bj mv pi mi d i i=Bj mv pi mi d (pi i) (pi i) ++ [mv.getD (mi i) d]:=by
 have b:=(s.back i h0 hi).2.1
 obtain ⟨g,hg⟩:∃ g,i=g+1:=⟨i - 1,by omega⟩
 have e:Bj mv pi mi d i i=Bj mv pi mi d (g+1) i:=by rw [<- hg]
 rw [e]
 simp only [Bj,if_neg (show ¬ i=0 by omega)]
 rw [adV s (pi i) g (pi i) (by omega) (by omega) (aN _)]
theorem adW {n0:Nat} (h0:TO mv nx goal (v 0) n0) (hh:h < len) (aiO:goal (v h)=true) (Ei:∀ j,j < h->goal (v j)=false) :
  Way mv nx goal d (v 0) (Bj mv pi mi d h h)/\(Bj mv pi mi d h h).length=n0:=by
 have hdh:n0<=dep pi h h:=by
  have:TO mv nx goal (v h) 0:=⟨aiO,fun j hj=>by omega⟩
  have:=OE s h0 h hh 0 this
  omega
 have leads:∀ k,k<=n0->∃ g,akS mv nx goal v pi len n0 k g/\(k < n0->g < h)/\(Bj mv pi mi d g g).length=k/\∀ l,Way mv nx goal d (v g) l->Way mv nx goal d (v 0) (Bj mv pi mi d g g ++ l):=by
  intro k
  induction k with
  | zero =>
   intro _
   refine ⟨0,adT s h0,fun hn=>?_,by simp [Bj],fun l hl=>by simpa [Bj] using hl⟩
   rcases Nat.eq_zero_or_pos h with hz | hz
   ·subst hz;simp [dep] at hdh;omega
   ·exact hz
  | succ k ih =>
   intro hk
   obtain ⟨g,hg,hgh,hl,hw⟩:=ih (by omega)
   have hgh:=hgh (by omega)
   have hD:=hg.2.2.1
   have e:n0 - k=n0 - (k+1)+1:=by omega
   rw [e] at hD
   obtain ⟨q,hq⟩:=akU (d:=d) hD
   obtain ⟨g',hl',wW,hpg,hmq⟩:=adU s h0 (by omega) hg hgh hq
   have hr:=ME s wW hl'.1
   rw [hpg,hmq] at hr
   refine ⟨g',hl',fun hn=>?_,by rw [hr,gI,hl];rfl,fun l hwl=>?_⟩
   ·rcases Nat.lt_or_ge g' h with hx | hx
    ·exact hx
    ·have:=RC s h g' hx hl'.1
     have:=hl'.2.1
     omega
   ·rw [hr,qA]
    have hn:=(s.back g' wW hl'.1).2.2.2
    rw [hpg,hmq] at hn
    exact hw _ (.cons hD hq hn hwl)
 obtain ⟨g,hg,_,hl,hw⟩:=leads n0 (aN _)
 have hD:=hg.2.2.1
 rw [Nat.sub_self] at hD
 have hgg:goal (v g)=true:=hD.1
 have hhg:h<=g:=by
  rcases Nat.lt_or_ge g h with hx | hx
  ·rw [Ei g hx] at hgg;cases hgg
  ·exact hx
 have avH:=RC s h g hhg hg.1
 have hgd:=hg.2.1
 have:h=g:=by
  rcases Nat.lt_or_ge h g with hx | hx
  ·refine absurd ?_ (hg.2.2.2 h hx (by omega))
   rw [Nat.sub_self];exact ⟨aiO,fun j hj=>by omega⟩
  ·omega
 subst this
 have:=hw [] (.nil aiO)
 rw [List.append_nil] at this
 exact ⟨this,hl⟩
theorem anW (hh:h=len) (Ei:∀ j,j < h->goal (v j)=false):∀ n i,i < len->¬ RG mv nx goal n (v i):=by
 intro n
 induction n with
 | zero =>
  intro i hi hr
  have:goal (v i)=true:=hr
  rw [Ei i (by omega)] at this;cases this
 | succ n ih =>
  rintro i hi ⟨m,hm,t,hn,hr⟩
  obtain ⟨k,hk,rfl⟩:=List.getElem_of_mem hm
  obtain ⟨j,hj,rfl⟩:=s.all i k (.inl (by omega)) hk t (by rw [show mv.getD k d=mv[k] by simp [List.getD,hk]];exact hn)
  exact ih j hj hr
end
end Yu
end Go.Den
namespace Go.Den
open Go.Ab
def adX:List Nat->List Int->Nat
 | r :: l,x :: s=>x.toNat+r * adX l s
 | _,_=>0
theorem acv:∀ (l:List Nat) (s:List Int),s.length=l.length->(∀ i,i < l.length->0<=s.getD i 0/\s.getD i 0 < ((l.getD i 0:Nat):Int))->RR l (adX l s)=s/\adX l s < HK l
 | [],[],_,_=>⟨rfl,Nat.one_pos⟩
 | [],_ :: _,h,_=>by cases h
 | _ :: _,[],h,_=>by cases h
 | r :: l,x :: s,h,hb=>by
  have h0:=hb 0 (by simp)
  simp only [List.getD_cons_zero] at h0
  have ih:=acv l s (by simpa using h) fun i hi=>by
   have:=hb (i+1) (by simpa using hi)
   simpa using this
  have hr:0 < r:=by omega
  have hx:x.toNat < r:=by omega
  simp only [adX,RR,HK]
  rw [Nat.add_mul_mod_self_left,Nat.mod_eq_of_lt hx,Nat.add_mul_div_left _ _ hr,Nat.div_eq_of_lt hx,Nat.zero_add,ih.1]
  refine ⟨by congr 1;omega,?_⟩
  have:=Nat.mul_le_mul_left r (show adX l s+1<=HK l from ih.2)
  rw [Nat.mul_add,Nat.mul_one] at this
  omega
def ap4 (p:cQ) (s:List Int):Nat:=adX (xx p) s
theorem anX {p:cQ} (hp:cO p) {s:List Int} (hs:eX p s):Ut p (ap4 p s)=s/\ap4 p s < xL p:=by
 refine acv (xx p) s (by rw [hs.len];simp [xx]) fun i hi=>?_
 have WY:i < p.dh.length:=by simpa [xx] using hi
 have h1:=hs.lo i (by rw [hs.len];exact WY)
 have h2:=hs.hi i (by rw [hs.len];exact WY)
 rw [MD WY]
 have:=(Rz hp WY).2
 omega
theorem RE {a b:List Int} (h:a.length=b.length) (h6:a.length<=6) (e:cW a=cW b):a=b:=by
 unfold cW at e
 injection e with e0 e1 e2 e3 e4 e5
 apply List.ext_getElem h
 intro i h1 h2
 have g:∀ (l:List Int) (hl:i < l.length),l[i]=l.getD i 0:=fun l hl=>by simp [List.getD,hl]
 rw [g a h1,g b h2]
 have:i=0\/i=1\/i=2\/i=3\/i=4\/i=5:=by omega
 rcases this with rfl | rfl | rfl | rfl | rfl | rfl<;>assumption
theorem aF.both {α:Type} {f g:Nat->Nat->Option α} {r:α} (h1:aF f r) (h2:aF g r):aF (fun N n=>both (f N n) (g N n)) r:=by
 obtain ⟨N1,h1⟩:=h1
 obtain ⟨N2,h2⟩:=h2
 exact ⟨N1+N2,fun N n hN hn=>by dsimp only;rw [h1 N n (by omega) (by omega),h2 N n (by omega) (by omega),ade]⟩
theorem aF.round {α:Type} {f f':Nat->Nat->Nat->Option α} {r:α} (c:Nat) (e:∀ N g k,f N g (k+1)=f' N g k) (h:aF (fun N g=>f' N g (N - (c+1))) r):aF (fun N g=>f N g (N - c)) r:=by
 obtain ⟨N0,h⟩:=h
 refine ⟨N0+c+1,fun N g hN hg=>?_⟩
 have e1:N - c=N - (c+1)+1:=by omega
 dsimp only
 rw [e1,e]
 exact h N g (by omega) (by omega)
abbrev MF (za zb:ab):Bool:=(zb.e0 == za.e0) && ((zb.e1 == za.e1) && ((zb.e2 == za.e2) && ((zb.e3 == za.e3) && ((zb.e4 == za.e4) && ((zb.e5 == za.e5) && true)))))
theorem GW (a b:ab):MF a b=true↔a=b:=by
 cases a;cases b
 unfold MF
 simp only [a7,beq_iff_eq,ab.mk.injEq,and_true]
 constructor
 ·rintro ⟨rfl,rfl,rfl,rfl,rfl,rfl⟩;exact ⟨rfl,rfl,rfl,rfl,rfl,rfl⟩
 ·rintro ⟨rfl,rfl,rfl,rfl,rfl,rfl⟩;exact ⟨rfl,rfl,rfl,rfl,rfl,rfl⟩
abbrev Entry:=List Int×(List Int×av)
def GX (R:List Entry):List (ab×ar):=R.map fun e=>(cW e.1,⟨cW e.2.1,e.2.2⟩)
theorem aiP:∀ (R:List Entry) (x:ab),(∀ e,e∈R->cW e.1≠x)->ld MF (GX R) x=none/\∀ y,CH MF (GX R) x y=GX R ++ [(x,y)]
 | [],x,_=>⟨rfl,fun _=>rfl⟩
 | e :: R,x,h=>by
  obtain ⟨h1,h2⟩:=aiP R x fun z hz=>h z (.tail _ hz)
  have he:MF (cW e.1) x=false:=by
   cases hq:MF (cW e.1) x
   ·rfl
   ·exact absurd ((GW _ _).1 hq) (h e (.head _))
  refine ⟨?_,fun y=>?_⟩
  ·show cond (MF (cW e.1) x) _ (ld MF (GX R) x)=none
   rw [he,cond_false,h1]
  ·show cond (MF (cW e.1) x) _ (_ :: CH MF (GX R) x y)=_
   rw [he,cond_false,h2];rfl
theorem acw:∀ (R:List Entry) (e:Entry),e∈R->(R.map fun z=>cW z.1).Nodup->ld MF (GX R) (cW e.1)=some ⟨cW e.2.1,e.2.2⟩
 | [],e,h,_=>by cases h
 | z :: R,e,h,hn=>by
  rw [List.map_cons,List.nodup_cons] at hn
  show cond (MF (cW z.1) (cW e.1)) (some (⟨cW z.2.1,z.2.2⟩:ar)) (ld MF (GX R) (cW e.1))=_
  rcases lG.1 h with rfl | h
  ·rw [(GW _ _).2 rfl];rfl
  ·cases hq:MF (cW z.1) (cW e.1)
   ·exact acw R e h hn.2
   ·exact absurd (List.mem_map.2 ⟨e,h,((GW _ _).1 hq).symm⟩) hn.1
section
variable (p:cQ) (l:bF) (a:ox)
def rR (s:List Int):Bool:=decide ((Sr p l (dx p s)).length=0)
def RU (s:List Int) (m:av):Option (List Int):=cond (decide (yh p m) && Jg p s m && rR p l (gn s m)) (some (gn s m)) none
def lv (s:List Int) (z:List Entry×List (List Int)) (m:av):List Entry×List (List Int) :=
 match RU p l s m with
 | none=>z
 | some t=>if t∈z.1.map Prod.fst then z else (z.1 ++ [(t,(s,m))],z.2 ++ [t])
def two (i:Nat):List av:=[⟨(i:Int),true⟩,⟨(i:Int),false⟩]
def yA:List av:=(List.range p.dh.length).flatMap two
def bfs:Nat->List Entry->List (List Int)->Option (Option (List Int)×List Entry)
 | 0,_,_=>none
 | _+1,R,[]=>some (none,R)
 | f+1,R,s :: Q=>cond (ji p a s) (some (some s,R)) (bfs f ((yA p).foldl (lv p l s) (R,Q)).1 ((yA p).foldl (lv p l s) (R,Q)).2)
structure Cn (R:List Entry) (Q:List (List Int)):Prop where
 keys:∀ e,e∈R->eX p e.1
 nd:(R.map Prod.fst).Nodup
 len:Q.length<=R.length
 que:∀ q,q∈Q->eX p q
end
section
variable {p:cQ} {l:bF} {a:ox}
theorem al3 {s t:List Int} (hs:eX p s) {m:av} (h:RU p l s m=some t):eX p t/\t=gn s m/\yh p m/\Jg p s m=true/\rR p l t=true:=by
 unfold RU at h
 cases h1:decide (yh p m) && Jg p s m && rR p l (gn s m)<;>rw [h1] at h
 ·cases h
 ·cases h
  simp only [a7,decide_eq_true_eq] at h1
  exact ⟨acm hs h1.1.1 h1.1.2,rfl,h1.1.1,h1.1.2,h1.2⟩
theorem TP {s:List Int} (hs:eX p s) {R:List Entry} {Q:List (List Int)} (g:Cn p R Q) (m:av):Cn p (lv p l s (R,Q) m).1 (lv p l s (R,Q) m).2:=by
 unfold lv
 cases h:RU p l s m with
 | none=>exact g
 | some t =>
  simp only
  split
  ·exact g
  ·rename_i hn
   have ht:=(al3 hs h).1
   refine ⟨fun e he=>?_,?_,?_,fun q hq=>?_⟩
   ·rcases List.mem_append.1 he with h1 | h1
    ·exact g.keys e h1
    ·rw [List.mem_singleton.1 h1];exact ht
   ·show ((R ++ [(t,(s,m))]).map Prod.fst).Nodup
    rw [List.map_append,List.nodup_append]
    refine ⟨g.nd,by simp,fun x hx y hy e=>?_⟩
    have hy:y=t:=by simpa using hy
    rw [e,hy] at hx
    exact hn hx
   ·have:=g.len
    simp only [gI,px,List.length_nil];omega
   ·rcases List.mem_append.1 hq with h1 | h1
    ·exact g.que q h1
    ·rw [List.mem_singleton.1 h1];exact ht
theorem KC (hp:cO p) {R:List Entry} {Q:List (List Int)} (g:Cn p R Q):R.length<=xL p:=by
 have:=g.nd.length_le_of_subset (l₂:=(List.range (xL p)).map (Ut p)) fun x hx=>by
  obtain ⟨e,he,rfl⟩:=List.mem_map.1 hx
  obtain ⟨h1,h2⟩:=anX hp (g.keys e he)
  exact List.mem_map.2 ⟨_,zP.2 h2,h1⟩
 simpa using this
structure Rest (todo:List ab) (off n:Nat) (Q:List (List Int)):Prop where
 cut:todo.drop off=Q.map cW
 aaK:n=Q.length
 all:off+n=todo.length
abbrev aiQ:=List (ab×ar)->List ab->Nat->Nat->Option (List av×Int)
theorem acx (h:In p l a) {s:List Int} (hs:eX p s) {ro:cg×Int} (YI:ro.1=rj p l a) {todo:List ab} {off:Nat} (hhd:todo.getD (bB off 0) ab.d=cW s) {x:Nat} (hx:x < p.dh.length)
  {K2:Nat->Nat->List (ab×ar)->List ab->Nat->Nat->Int->Option (List av×Int)} {K1:Nat->Nat->aiQ} {r:List av×Int}
  {R:List Entry} {Q:List (List Int)} (g:Cn p R Q) {x2 c:Nat} (hx2:x2 < 2)
  (hK:∀ qf xy n',Rest qf xy n' (lv p l s (R,Q) ((two x).getD x2 av.d)).2->aF (fun N f=>dH N p ro todo off (x:Int) (K2 N f) (K1 N f) (N - (c+1)) (GX (lv p l s (R,Q) ((two x).getD x2 av.d)).1) qf xy n' ((x2+1:Nat):Int)) r)
  {qf:List ab} {xy n':Nat} (hr:Rest qf xy n' Q):aF (fun N f=>dH N p ro todo off (x:Int) (K2 N f) (K1 N f) (N - c) (GX R) qf xy n' (x2:Int)) r:=by
 have h6:=h.hp.nt
 refine aF.round (f:=fun N f k=>dH N p ro todo off (x:Int) (K2 N f) (K1 N f) k (GX R) qf xy n' (x2:Int)) c (fun N f k=>dH.eq_2 ..) ?_
 have hm:(⟨(x:Int),([true,false]:List Bool).getD ((x2:Int)).toNat false⟩:av)=(two x).getD x2 av.d:=by
  have:x2=0\/x2=1:=by omega
  rcases this with rfl | rfl<;>rfl
 refine aF.aR (decide_eq_true (by omega)) (aF.if ⟨by omega,by simp;omega⟩ ?_)
 rw [hhd,YI,hm]
 generalize (two x).getD x2 av.d=m at hK hm ⊢
 have hmm:yh p m:=by rw [<- hm];exact ⟨by show 0<=(x:Int);omega,by show (x:Int) < _;omega⟩
 obtain ⟨t,e1,e2⟩:=aiE (l:=l) (a:=a) h.hp hs m
 rw [e2 hmm,decide_eq_true hmm,Bool.true_and] at e1
 refine aF.bind (.of 0 fun N _=>e1 N) ?_
 have hJ:∀ (R2:List Entry) (td:List ab) (o n:Nat),aF (fun N f=>dH N p ro todo off (x:Int) (K2 N f) (K1 N f) (N - (c+1)) (GX R2) td o n ((x2+1:Nat):Int)) r ->
   aF (fun N f=>mE N p ro todo off (x:Int) (x2:Int) (dH N p ro todo off (x:Int) (K2 N f) (K1 N f) (N - (c+1))) (K2 N f) (K1 N f) (GX R2) td o n) r:=fun R2 td o n hg=>by
  unfold mE
  rw [aH (by omega)];exact hg
 have hex:lv p l s (R,Q) m=(match RU p l s m with | none=>(R,Q) | some t=>if t∈R.map Prod.fst then (R,Q) else (R ++ [(t,(s,m))],Q ++ [t])):=rfl
 cases RO:Jg p s m with
 | false =>
  have hnx:RU p l s m=none:=by unfold RU;rw [RO,Bool.and_false];rfl
  rw [hnx] at hex
  rw [hex] at hK
  refine aF.bind (r:=false) (.of 0 fun N _=>rfl) (aF.bd rfl (hJ R _ _ _ (hK _ _ _ hr)))
 | true =>
  have ht:=acm hs hmm RO
  by_cases m5:gn s m∈R.map Prod.fst
  ·have ui:(ld MF (GX R) (cW (gn s m))).isSome=true:=by
    cases hq:ld MF (GX R) (cW (gn s m)) with
    | some v=>rfl
    | none =>
     obtain ⟨e,he,hee⟩:=List.mem_map.1 m5
     have:∀ (R:List Entry),e∈R->ld MF (GX R) (cW (gn s m))≠none:=by
      intro R
      induction R with
      | nil=>intro h;cases h
      | cons z R ih =>
       intro h hn
       have hn:cond (MF (cW z.1) (cW (gn s m))) (some (⟨cW z.2.1,z.2.2⟩:ar)) (ld MF (GX R) (cW (gn s m)))=none:=hn
       cases hz:MF (cW z.1) (cW (gn s m))<;>rw [hz] at hn
       ·rcases lG.1 h with rfl | h
        ·rw [hee,(GW _ _).2 rfl] at hz;cases hz
        ·exact ih h hn
       ·cases hn
     exact absurd hq (this R he)
   have an0:lv p l s (R,Q) m=(R,Q):=by
    rw [hex]
    cases hq:RU p l s m with
    | none=>rfl
    | some t' =>
     have:=(al3 hs hq).2.1
     subst this
     exact if_pos m5
   rw [an0] at hK
   have hc:(cond true (!(ld MF (GX R) (cW (gn s m))).isSome) false)=false:=by rw [ui];rfl
   refine aF.bind (r:=false) (.of 0 fun N _=>?_) (aF.bd ?_ (hJ R _ _ _ (hK _ _ _ hr)))
   ·exact congrArg (fun b=>cond b (kN N (rj p l a) (cW (gn s m))) (some false)) hc
   ·exact congrArg (fun b=>cond b false false) hc
  ·have Ei:∀ e,e∈R->cW e.1≠cW (gn s m):=fun e he hq=>by
    have he2:=g.keys e he
    exact m5 (List.mem_map.2 ⟨e,he,RE (by rw [he2.len,ht.len]) (by rw [he2.len];exact h6) hq⟩)
   obtain ⟨g1,g2⟩:=aiP R _ Ei
   have hc:(cond true (!(ld MF (GX R) (cW (gn s m))).isSome) false)=true:=by rw [g1];rfl
   refine aF.bind (r:=rR p l (gn s m)) ((Ys h ht).congr fun N=>congrArg (fun b=>cond b (kN N (rj p l a) (cW (gn s m))) (some false)) hc) ?_
   cases hk:rR p l (gn s m) with
   | false =>
    have hnx:RU p l s m=none:=by unfold RU;rw [hk,Bool.and_false];rfl
    rw [hnx] at hex
    rw [hex] at hK
    exact aF.bd (congrArg (fun b=>cond b false false) hc) (hJ R _ _ _ (hK _ _ _ hr))
   | true =>
    have hnx:RU p l s m=some (gn s m):=by unfold RU;rw [hk,RO,decide_eq_true hmm];rfl
    rw [hnx] at hex
    have an0:lv p l s (R,Q) m=(R ++ [(gn s m,(s,m))],Q ++ [gn s m]):=hex.trans (if_neg m5)
    rw [an0] at hK
    have ap6:CH MF (GX R) (cW (gn s m)) (⟨cW s,m⟩:ar)=GX (R ++ [(gn s m,(s,m))]):=by rw [g2];unfold GX;simp
    have avI:=KC h.hp g
    have hcn:=aiF h.hp
    have hgl:=g.len
    have hn1:=hr.aaK
    refine aF.aR (congrArg (fun b=>cond b true false) hc) (aF.if (by rw [dc];exact hr.all) (aF.both ?_ (aF.if (by omega) ?_)))
    ·have:=hJ (R ++ [(gn s m,(s,m))]) (qf ++ [cW (gn s m)]) xy (n'+1) (hK _ _ _ ⟨by
      have:=hr.all
      rw [List.drop_append_of_le_length (by omega),hr.cut];simp,by simp [hr.aaK],by simp [<- hr.all];omega⟩)
     rw [<- ap6] at this
     exact this
    ·have:=hJ (R ++ [(gn s m,(s,m))]) ((qf.drop xy) ++ [cW (gn s m)]) 0 ((qf.drop xy) ++ [cW (gn s m)]).length (hK _ _ _ ⟨by rw [hr.cut];simp,by rw [hr.cut];simp,by simp⟩)
     rw [<- ap6] at this
     exact this
end
end Go.Den
namespace Go.Den
open Go.Ab
section
variable {p:cQ} {l:bF} {a:ox}
theorem Co {s:List Int} (hs:eX p s):∀ (ms:List av) (z:List Entry×List (List Int)),Cn p z.1 z.2->Cn p (ms.foldl (lv p l s) z).1 (ms.foldl (lv p l s) z).2
 | [],_,g=>g
 | m :: ms,z,g=>Co hs ms _ (TP (R:=z.1) (Q:=z.2) hs g m)
theorem adY (s q:List Int) (R:List Entry) (Q:List (List Int)) (m:av):lv p l s (R,q :: Q) m=((lv p l s (R,Q) m).1,q :: (lv p l s (R,Q) m).2):=by
 unfold lv
 cases RU p l s m with
 | none=>rfl
 | some t=>simp only;split<;>rfl
theorem fold_cons (s q:List Int):∀ (ms:List av) (R:List Entry) (Q:List (List Int)),ms.foldl (lv p l s) (R,q :: Q)=((ms.foldl (lv p l s) (R,Q)).1,q :: (ms.foldl (lv p l s) (R,Q)).2)
 | [],_,_=>rfl
 | m :: ms,R,Q=>by
  rw [List.foldl_cons,List.foldl_cons,adY]
  exact fold_cons s q ms _ _
theorem an3 (h:In p l a) {s:List Int} (hs:eX p s) {ro:cg×Int} (YI:ro.1=rj p l a) {todo:List ab} {off:Nat} (hhd:todo.getD (bB off 0) ab.d=cW s) {x:Nat} (hx:x < p.dh.length)
  {K2:Nat->Nat->List (ab×ar)->List ab->Nat->Nat->Int->Option (List av×Int)} {K1:Nat->Nat->aiQ} {r:List av×Int}
  {R:List Entry} {Q:List (List Int)} (g:Cn p R Q)
  (hK:∀ qf xy n',Rest qf xy n' ((two x).foldl (lv p l s) (R,Q)).2->aF (fun N f=>K2 N f (GX ((two x).foldl (lv p l s) (R,Q)).1) qf xy n' ((x+1:Nat):Int)) r)
  {qf:List ab} {xy n':Nat} (hr:Rest qf xy n' Q):aF (fun N f=>dH N p ro todo off (x:Int) (K2 N f) (K1 N f) N (GX R) qf xy n' 0) r:=by
 have h6:=h.hp.nt
 refine acx (c:=0) (x2:=0) h hs YI hhd hx g (by omega) (fun td o n DU=>?_) hr
 refine acx (c:=1) (x2:=1) h hs YI hhd hx (TP hs g _) (by omega) (fun td2 o2 n2 an5=>?_) DU
 refine aF.round (f:=fun N f k=>dH N p ro todo off (x:Int) (K2 N f) (K1 N f) k _ td2 o2 n2 ((1+1:Nat):Int)) 2 (fun N f k=>dH.eq_2 ..) (aF.bd rfl ?_)
 rw [aH (by omega)]
 exact hK _ _ _ an5
theorem aiR (h:In p l a) {s:List Int} (hs:eX p s) {ro:cg×Int} (YI:ro.1=rj p l a) {todo:List ab} {off:Nat} (hhd:todo.getD (bB off 0) ab.d=cW s)
  {K1:Nat->Nat->aiQ} {r:List av×Int}:∀ (d x c:Nat) (R:List Entry) (Q:List (List Int)),x+d=p.dh.length->Cn p R Q->1<=Q.length ->
   (∀ qf xy n',Rest qf xy n' (((List.range' x d).flatMap two).foldl (lv p l s) (R,Q)).2->aF (fun N f=>K1 N f (GX (((List.range' x d).flatMap two).foldl (lv p l s) (R,Q)).1) qf (bB xy 1) (n' - 1)) r) ->
   ∀ (qf:List ab) (xy n':Nat),Rest qf xy n' Q->aF (fun N f=>gC N p ro todo off (K1 N f) (N - c) (GX R) qf xy n' (x:Int)) r
 | 0,x,c,R,Q,hx,g,hq,hK,qf,xy,n',hr=>by
  have:x=p.dh.length:=by omega
  subst this
  have hn:=hr.aaK
  exact aF.round (f:=fun N f k=>gC N p ro todo off (K1 N f) k (GX R) qf xy n' (p.dh.length:Int)) c (fun N f k=>gC.eq_2 ..) (aF.bd dw (aF.if ⟨by omega,aN _⟩ (hK _ _ _ hr)))
 | d+1,x,c,R,Q,hx,g,hq,hK,qf,xy,n',hr=>by
  refine aF.round (f:=fun N f k=>gC N p ro todo off (K1 N f) k (GX R) qf xy n' (x:Int)) c (fun N f k=>gC.eq_2 ..) (aF.aR (dec_lt (by omega)) ?_)
  have e:((List.range' x (d+1)).flatMap two).foldl (lv p l s) (R,Q)=((List.range' (x+1) d).flatMap two).foldl (lv p l s) ((two x).foldl (lv p l s) (R,Q)):=by
   rw [List.range'_succ,List.flatMap_cons,List.foldl_append]
  rw [e] at hK
  have hg2:=Co (l:=l) hs (two x) (R,Q) g
  have hlen:1<=((two x).foldl (lv p l s) (R,Q)).2.length:=by
   cases Q with
   | nil=>cases hq
   | cons q Q=>rw [fold_cons];simp
  exact an3 (K2:=fun N f=>gC N p ro todo off (K1 N f) (N - (c+1))) h hs YI hhd (by omega) g (fun td o n DU=>aiR h hs YI hhd d (x+1) (c+1) _ _ (by omega) hg2 hlen hK td o n DU) hr
def ap7 (p:cQ) (l:bF) (a:ox) (z:Option (List Int)×List Entry) (r:List av×Int):Prop :=
 match z.1 with
 | none=>r=([],29)
 | some s=>∃ w,Gv (fun N=>rD N (rj p l a) (cW s) (GX z.2)) w/\r=(w,0)
theorem aaL (h:In p l a) {ro:cg×Int} (YI:ro.1=rj p l a) {z:Option (List Int)×List Entry} {r:List av×Int} (hz:ap7 p l a z r):∀ (f:Nat) (R:List Entry) (Q:List (List Int)),Cn p R Q->bfs p l a f R Q=some z ->
  ∀ (todo:List ab) (off n:Nat),Rest todo off n Q->aF (fun N g=>jC N p ro g (GX R) todo off n) r
 | 0,_,_,_,hb,_,_,_,_=>by cases hb
 | f+1,R,[],g,hb,todo,off,n,hr=>by
  have hn:n=0:=hr.aaK
  have hzz:(none,R)=z:=Option.some.inj hb
  subst hzz
  have hz:r=([],29):=hz
  subst hz hn
  exact aF.succ (fun N g=>jC.eq_2 ..) (aF.bd rfl (aF.one (Gv.pure _)))
 | f+1,R,s :: Q,g,hb,todo,off,n,hr=>by
  have hs:=g.que s (.head _)
  have hn:n=Q.length+1:=hr.aaK
  have CE:=hr.all
  have hhd:todo.getD (bB off 0) ab.d=cW s:=by
   have:=congrArg (fun l=>l.getD 0 ab.d) hr.cut
   rw [dc,Nat.add_zero]
   simpa [List.getD,rm] using this
  refine aF.succ (fun N g=>jC.eq_2 ..) (aF.aR (decide_eq_true (by omega)) (aF.if ⟨by omega,by omega⟩ (aF.if (by omega) ?_)))
  rw [hhd,YI]
  refine aF.bind (akN h hs) ?_
  have hb:cond (ji p a s) (some (some s,R)) (bfs p l a f ((yA p).foldl (lv p l s) (R,Q)).1 ((yA p).foldl (lv p l s) (R,Q)).2)=some z:=hb
  cases hd:ji p a s<;>rw [hd] at hb
  ·have g2:Cn p R (s :: Q):=g
   refine aF.bd rfl ?_
   have ap8:((List.range' 0 p.dh.length).flatMap two).foldl (lv p l s) (R,s :: Q)=(((yA p).foldl (lv p l s) (R,Q)).1,s :: ((yA p).foldl (lv p l s) (R,Q)).2):=by
    unfold yA
    rw [List.range_eq_range',fold_cons]
   have gf:=Co (l:=l) hs (yA p) (R,Q) ⟨g.keys,g.nd,by have:=g.len;simp only [px] at this;show Q.length<=R.length;omega,fun q hq=>g.que q (.tail _ hq)⟩
   refine aiR h hs YI hhd p.dh.length 0 0 R (s :: Q) (by omega) g2 (by simp) (fun td o m DU=>?_) todo off n hr
   rw [ap8] at DU ⊢
   refine aaL h YI hz f _ _ gf hb td (bB o 1) (m - 1) ⟨?_,by rw [DU.aaK];simp,by have:=DU.all;have:=DU.aaK;simp only [px] at this;rw [dc];omega⟩
   rw [dc,<- List.drop_drop,DU.cut];rfl
  ·have hzz:(some s,R)=z:=Option.some.inj hb
   subst hzz
   obtain ⟨w,hw,rfl⟩:=hz
   exact aF.aR rfl (aF.one (Gv.bind hw (Gv.pure _)))
theorem TQ (s:List Int) (z:List Entry×List (List Int)) (m:av):∃ add:List Entry,lv p l s z m=(z.1 ++ add,z.2 ++ add.map Prod.fst):=by
 unfold lv
 cases RU p l s m with
 | none=>exact ⟨[],by simp⟩
 | some t =>
  simp only
  split
  ·exact ⟨[],by simp⟩
  ·exact ⟨[(t,(s,m))],by simp⟩
theorem MG (s:List Int):∀ (ms:List av) (z:List Entry×List (List Int)),∃ add:List Entry,ms.foldl (lv p l s) z=(z.1 ++ add,z.2 ++ add.map Prod.fst)
 | [],z=>⟨[],by simp⟩
 | m :: ms,z=>by
  obtain ⟨a1,h1⟩:=TQ (p:=p) (l:=l) s z m
  obtain ⟨a2,h2⟩:=MG s ms (lv p l s z m)
  refine ⟨a1 ++ a2,?_⟩
  rw [List.foldl_cons,h2,h1];simp
theorem Yv (hp:cO p):∀ (f:Nat) (R:List Entry) (Q:List (List Int)),Cn p R Q->xL p < f+(R.length - Q.length)->∃ z,bfs p l a f R Q=some z
 | 0,R,Q,g,hf=>by have:=KC hp g;omega
 | f+1,R,[],g,hf=>⟨_,rfl⟩
 | f+1,R,s :: Q,g,hf=>by
  have hs:=g.que s (.head _)
  have hgl:=g.len
  simp only [px] at hgl hf
  show ∃ z,cond (ji p a s) (some (some s,R)) (bfs p l a f ((yA p).foldl (lv p l s) (R,Q)).1 ((yA p).foldl (lv p l s) (R,Q)).2)=some z
  cases ji p a s
  ·obtain ⟨add,e⟩:=MG (p:=p) (l:=l) s (yA p) (R,Q)
   refine Yv hp f _ _ (Co hs (yA p) (R,Q) ⟨g.keys,g.nd,by show Q.length<=R.length;omega,fun q hq=>g.que q (.tail _ hq)⟩) ?_
   rw [e]
   simp only [gI,List.length_map]
   omega
  ·exact ⟨_,rfl⟩
def xz (R:List Entry) (i:Nat):List Int:=(R.getD i ([],([],av.d))).1
def Cp (p:cQ) (l:bF) (R:List Entry) (pi mi:Nat->Nat) (h q:Nat):Prop :=
 Yu.Seen (yA p) (RU p l) (xz R) R.length pi mi h q av.d/\∀ i,0 < i->i < R.length->R.getD i ([],([],av.d))=(xz R i,(xz R (pi i),(yA p).getD (mi i) av.d))
theorem lS {R add:List Entry} {i:Nat} (h:i < R.length):xz (R ++ add) i=xz R i:=by
 unfold xz
 rw [ep,jj h,<- ep]
theorem GY {R:List Entry} {e:Entry}:xz (R ++ [e]) R.length=e.1:=by unfold xz;simp [List.getD]
theorem acy {R:List Entry} {t:List Int}:t∈R.map Prod.fst↔∃ i,i < R.length/\xz R i=t:=by
 rw [List.mem_map]
 constructor
 ·rintro ⟨e,he,rfl⟩
  obtain ⟨i,hi,rfl⟩:=List.getElem_of_mem he
  exact ⟨i,hi,by unfold xz;simp [List.getD,hi]⟩
 ·rintro ⟨i,hi,rfl⟩
  exact ⟨R[i],List.getElem_mem hi,by unfold xz;simp [List.getD,hi]⟩
theorem adZ {R:List Entry} {pi mi:Nat->Nat} {h q:Nat} (hh:h < R.length) (hq:q < (yA p).length) (sn:Cp p l R pi mi h q) (Q:List (List Int)) :
  ∃ pi' mi',Cp p l (lv p l (xz R h) (R,Q) ((yA p).getD q av.d)).1 pi' mi' h (q+1):=by
 obtain ⟨s,lk⟩:=sn
 have grow:∀ i,(pi i < h\/pi i=h/\mi i < q)->(pi i < h\/pi i=h/\mi i < q+1):=fun i hi=>by omega
 unfold lv
 cases hn:RU p l (xz R h) ((yA p).getD q av.d) with
 | none =>
  refine ⟨pi,mi,⟨s.pos,fun i h0 hi=>⟨grow i (s.back i h0 hi).1,(s.back i h0 hi).2⟩,s.first,s.ord,s.inj,fun j k hjk hk t ht=>?_⟩,lk⟩
  by_cases e:j=h/\k=q
  ·obtain ⟨rfl,rfl⟩:=e
   rw [hn] at ht;cases ht
  ·exact s.all j k (by omega) hk t ht
 | some t =>
  simp only
  split
  ·rename_i m5
   refine ⟨pi,mi,⟨s.pos,fun i h0 hi=>⟨grow i (s.back i h0 hi).1,(s.back i h0 hi).2⟩,s.first,s.ord,s.inj,fun j k hjk hk t' ht=>?_⟩,lk⟩
   by_cases e:j=h/\k=q
   ·obtain ⟨rfl,rfl⟩:=e
    rw [hn] at ht;cases ht
    exact acy.1 m5
   ·exact s.all j k (by omega) hk t' ht
  ·rename_i m5
   have gH:∀ i,i < R.length->xz R i≠t:=fun i hi e=>m5 (acy.2 ⟨i,hi,e⟩)
   have hR:(R ++ [(t,(xz R h,(yA p).getD q av.d))]).length=R.length+1:=by simp
   show ∃ pi' mi',Cp p l (R ++ [(t,(xz R h,(yA p).getD q av.d))]) pi' mi' h (q+1)
   refine ⟨fun i=>if i=R.length then h else pi i,fun i=>if i=R.length then q else mi i,⟨by omega,fun i h0 hi=>?_,fun i h0 hi j k hjk hkl=>?_,fun i i' h0 hii sB=>?_,fun i i' hi sB e=>?_,fun j k hjk hk t' ht=>?_⟩,fun i h0 hi=>?_⟩
   ·by_cases e:i=R.length
    ·subst e
     rw [if_pos rfl,if_pos rfl,GY,lS hh]
     exact ⟨by omega,hh,hq,hn⟩
    ·have b:=s.back i h0 (by omega)
     rw [if_neg e,if_neg e,lS (show i < R.length by omega),lS (show pi i < R.length by omega)]
     exact ⟨grow i b.1,b.2⟩
   ·by_cases e:i=R.length
    ·subst e
     rw [if_pos rfl,if_pos rfl] at hjk
     rw [GY,lS (show j < R.length by omega)]
     intro hc
     obtain ⟨i,hi,he⟩:=s.all j k hjk hkl t hc
     exact gH i hi he
    ·have b:=s.back i h0 (by omega)
     rw [if_neg e,if_neg e] at hjk
     rw [lS (show i < R.length by omega),lS (show j < R.length by omega)]
     exact s.first i h0 (by omega) j k hjk hkl
   ·by_cases e':i'=R.length
    ·subst e'
     have b:=s.back i h0 (by omega)
     have an9:¬ i=R.length:=by omega
     simp only [an9,↓reduceIte]
     omega
    ·have an9:¬ i=R.length:=by omega
     simp only [an9,e',↓reduceIte]
     exact s.ord i i' h0 hii (by omega)
   ·by_cases e1:i=R.length
    ·by_cases e2:i'=R.length
     ·omega
     ·subst e1
      rw [GY,lS (show i' < R.length by omega)] at e
      exact absurd e.symm (gH i' (by omega))
    ·by_cases e2:i'=R.length
     ·subst e2
      rw [GY,lS (show i < R.length by omega)] at e
      exact absurd e (gH i (by omega))
     ·rw [lS (show i < R.length by omega),lS (show i' < R.length by omega)] at e
      exact s.inj i i' (by omega) (by omega) e
   ·by_cases e:j=h/\k=q
    ·obtain ⟨rfl,rfl⟩:=e
     rw [lS hh,hn] at ht;cases ht
     exact ⟨R.length,by omega,GY⟩
    ·rw [lS (show j < R.length by omega)] at ht
     obtain ⟨i,hi,he⟩:=s.all j k (by omega) hk t' ht
     exact ⟨i,by omega,by rw [lS hi];exact he⟩
   ·by_cases e:i=R.length
    ·subst e
     dsimp only
     rw [if_pos rfl,if_pos rfl,GY,lS hh]
     simp [List.getD]
    ·have b:=s.back i h0 (by omega)
     dsimp only
     rw [if_neg e,if_neg e,lS (show i < R.length by omega),lS (show pi i < R.length by omega),<- lk i h0 (by omega)]
     rw [ep,jj (by omega),<- ep]
end
end Go.Den
namespace Go.Den
open Go.Ab
section
variable {p:cQ} {l:bF} {a:ox}
theorem aiT (s:List Int):∀ (ms:List av) (z:List Entry×List (List Int)),∃ add:List Entry,(ms.foldl (lv p l s) z).1=z.1 ++ add/\(ms.foldl (lv p l s) z).2=z.2 ++ add.map Prod.fst:=fun ms z=>by
 obtain ⟨add,h⟩:=MG (p:=p) (l:=l) s ms z
 exact ⟨add,by rw [h],by rw [h]⟩
theorem RF {h:Nat}:∀ (d q:Nat) (R:List Entry) (Q:List (List Int)) (pi mi:Nat->Nat),q+d=(yA p).length->h < R.length->Cp p l R pi mi h q ->
  ∃ pi' mi',Cp p l (((yA p).drop q).foldl (lv p l (xz R h)) (R,Q)).1 pi' mi' h (yA p).length
 | 0,q,R,Q,pi,mi,hq,_,s=>by
  rw [List.drop_eq_nil_of_le (by omega)]
  have:q=(yA p).length:=by omega
  subst this
  exact ⟨pi,mi,s⟩
 | d+1,q,R,Q,pi,mi,hq,hh,s=>by
  obtain ⟨pi1,mi1,s1⟩:=adZ hh (by omega) s Q
  obtain ⟨add,e⟩:=TQ (p:=p) (l:=l) (xz R h) (R,Q) ((yA p).getD q av.d)
  have hR:(lv p l (xz R h) (R,Q) ((yA p).getD q av.d)).1=R ++ add:=by rw [e]
  have hv:xz (lv p l (xz R h) (R,Q) ((yA p).getD q av.d)).1 h=xz R h:=by rw [hR,lS hh]
  have:=RF d (q+1) (lv p l (xz R h) (R,Q) ((yA p).getD q av.d)).1 (lv p l (xz R h) (R,Q) ((yA p).getD q av.d)).2 pi1 mi1 (by omega) (by rw [hR,gI];omega) s1
  rw [hv] at this
  rw [yy (yA p) q av.d (by omega),List.foldl_cons]
  exact this
theorem ad0 {R:List Entry} {pi mi:Nat->Nat} {h:Nat} (s:Cp p l R pi mi h (yA p).length):Cp p l R pi mi (h+1) 0:=by
 obtain ⟨s,lk⟩:=s
 refine ⟨⟨s.pos,fun i h0 hi=>?_,s.first,s.ord,s.inj,fun j k hjk hk t ht=>s.all j k (by omega) hk t ht⟩,lk⟩
 have b:=s.back i h0 hi
 exact ⟨by omega,b.2⟩
def Found (p:cQ) (l:bF) (a:ox) (s0:List Int) (z:Option (List Int)×List Entry):Prop :=
 ∃ pi mi h,Cp p l z.2 pi mi h 0/\xz z.2 0=s0/\(∀ j,j < h->ji p a (xz z.2 j)=false) /\
  match z.1 with
  | none=>h=z.2.length
  | some s=>h < z.2.length/\xz z.2 h=s/\ji p a s=true
theorem TR {s0:List Int}:∀ (f:Nat) (R:List Entry) (Q:List (List Int)) (pi mi:Nat->Nat) (h:Nat),h<=R.length->Q=(R.map Prod.fst).drop h->Cp p l R pi mi h 0->xz R 0=s0->(∀ j,j < h->ji p a (xz R j)=false) ->
  ∀ z,bfs p l a f R Q=some z->Found p l a s0 z
 | 0,_,_,_,_,_,_,_,_,_,_,_,hb=>by cases hb
 | f+1,R,[],pi,mi,h,hh,hQ,s,h0,Ei,z,hb=>by
  have hzz:(none,R)=z:=Option.some.inj hb
  subst hzz
  refine ⟨pi,mi,h,s,h0,Ei,?_⟩
  have:=congrArg List.length hQ
  simp only [List.length_nil,xP,List.length_map] at this
  show h=R.length
  omega
 | f+1,R,x :: Q,pi,mi,h,hh,hQ,s,h0,Ei,z,hb=>by
  have hlen:=congrArg List.length hQ
  simp only [px,xP,List.length_map] at hlen
  have iQ:h < R.length:=by omega
  have hx:xz R h=x:=by
   have:=congrArg (fun l=>l.getD 0 []) hQ
   unfold xz
   simp only [List.getD_cons_zero] at this
   rw [this]
   simp [List.getD,iQ]
  have hQ2:Q=(R.map Prod.fst).drop (h+1):=by
   have:=congrArg List.tail hQ
   rw [List.tail_drop] at this
   exact this
  have hb:cond (ji p a x) (some (some x,R)) (bfs p l a f ((yA p).foldl (lv p l x) (R,Q)).1 ((yA p).foldl (lv p l x) (R,Q)).2)=some z:=hb
  cases hg:ji p a x<;>rw [hg] at hb
  ·obtain ⟨add,e1,e2⟩:=aiT (p:=p) (l:=l) x (yA p) (R,Q)
   obtain ⟨pi',mi',s'⟩:=RF (yA p).length 0 R Q pi mi (by omega) iQ s
   rw [List.drop_zero,hx] at s'
   have s2:=ad0 s'
   refine TR f _ _ pi' mi' (h+1) (by rw [e1,gI];show h+1<=R.length+_;omega) ?_ s2 ?_ (fun j hj=>?_) z hb
   ·rw [e1,e2,List.map_append,List.drop_append_of_le_length (by rw [List.length_map];show h+1<=R.length;omega),<- hQ2]
   ·rw [e1,lS (show 0 < R.length by omega)];exact h0
   ·rw [e1,lS (show j < R.length by omega)]
    by_cases e:j=h
    ·subst e;rw [hx];exact hg
    ·exact Ei j (by omega)
  ·have hzz:(some x,R)=z:=Option.some.inj hb
   subst hzz
   exact ⟨pi,mi,h,s,h0,Ei,iQ,hx,hg⟩
theorem aaM (s0:List Int) (e:List Int×av):Cp p l [(s0,e)] (fun _=>0) (fun _=>0) 0 0 :=
 ⟨⟨Nat.one_pos,fun i h0 hi=>by simp at hi;omega,fun i h0 hi=>by simp at hi;omega,fun i i' h0 h1 hi=>by simp at hi;omega,fun i i' hi sB _=>by simp at hi sB;omega,fun j k hjk=>by omega⟩,fun i h0 hi=>by simp at hi;omega⟩
theorem aaN {N:Nat} (L:List av) (hN:L.length < N) (hl:L.length < 1000000000):dZ N L=some L.reverse:=by
 have key:∀ (d i fuel:Nat) (C:List av),L.length<=2 * i+d->2 * i<=L.length+1->d < fuel->C.length=L.length->(∀ k,k < L.length->C.getD k av.d=if k < i\/L.length - i<=k then L.getD (L.length - 1 - k) av.d else L.getD k av.d) ->
   bV N fuel C (i:Int) ((L.length:Int) - 1 - (i:Int))=some L.reverse:=by
  intro d
  induction d using Nat.strongRecOn with
  | _ d ih =>
   intro i fuel C hd hi hf hC hk
   obtain ⟨f,rfl⟩:∃ f,fuel=f+1:=⟨fuel - 1,by omega⟩
   rw [bV]
   by_cases iQ:(i:Int) < (L.length:Int) - 1 - (i:Int)
   ·rw [decide_eq_true iQ,cond_true,if_pos ⟨by omega,by omega⟩,if_pos ⟨by omega,by omega⟩]
    have hj:((L.length:Int) - 1 - (i:Int)).toNat=L.length - 1 - i:=by omega
    rw [hj,ag,aH (by omega),aX (by omega) (by omega),show (L.length:Int) - 1 - (i:Int) - 1=(L.length:Int) - 1 - ((i+1:Nat):Int) by omega]
    refine ih (d - 2) (by omega) (i+1) f _ (by omega) (by omega) (by omega) (by simp [hC]) fun k hkl=>?_
    have e0:=hk k hkl
    have ei:=hk i (by omega)
    have ej:=hk (L.length - 1 - i) (by omega)
    rw [if_neg (by omega)] at ei ej
    have OY:∀ (x y:av),((C.set i x).set (L.length - 1 - i) y).getD k av.d=if k=L.length - 1 - i then y else if k=i then x else C.getD k av.d:=fun x y=>by
     simp only [ep,List.getElem?_set,List.length_set]
     by_cases h1:L.length - 1 - i=k
     ·rw [if_pos h1,if_pos (by omega),if_pos h1.symm];rfl
     ·rw [if_neg h1,if_neg (show ¬ k=L.length - 1 - i from fun h=>h1 h.symm)]
      by_cases h2:i=k
      ·rw [if_pos h2,if_pos (by omega),if_pos h2.symm];rfl
      ·rw [if_neg h2,if_neg (show ¬ k=i from fun h=>h2 h.symm)]
    rw [OY,ei,ej]
    by_cases h1:k=L.length - 1 - i
    ·rw [if_pos h1,if_pos (by omega)];congr 1;omega
    ·rw [if_neg h1]
     by_cases h2:k=i
     ·rw [if_pos h2,if_pos (by omega),h2]
     ·rw [if_neg h2,e0]
      by_cases h3:k < i\/L.length - i<=k
      ·rw [if_pos h3,if_pos (by omega)]
      ·rw [if_neg h3,if_neg (by omega)]
   ·rw [decide_eq_false iQ,cond_false]
    congr 1
    apply List.ext_getElem (by simp [hC])
    intro k h1 h2
    have e0:=hk k (by omega)
    have hC1:C.getD k av.d=C[k]:=by simp [List.getD,h1]
    have hL1:L.getD (L.length - 1 - k) av.d=L[L.length - 1 - k]'(by omega):=by
     have:L.length - 1 - k < L.length:=by omega
     simp [List.getD,this]
    rw [List.getElem_reverse,<- hL1,<- hC1,e0]
    split
    ·rfl
    ·congr 1;omega
 unfold dZ
 rw [aX (by omega) (by omega)]
 have:=key L.length 0 N L (by omega) (by omega) hN rfl fun k hk=>by rw [if_neg (by omega)]
 simpa using this
theorem aiU {ro:cg} {s0:List Int} (YI:ro.ig=cW s0) {R:List Entry} {pi mi:Nat->Nat} {h:Nat} (s:Cp p l R pi mi h 0) (h0:xz R 0=s0) (hp:cO p) (g:∀ e,e∈R->eX p e.1) (hR:R.length<=5000000) :
  ∀ i,i < R.length->∀ (N fuel:Nat) (out:List av),i < fuel->10000000 < N->out.length+i<=5000000 ->
   ll N ro (GX R) fuel (cW (xz R i)) out=some (out ++ (Yu.Bj (yA p) pi mi av.d i i).reverse).reverse:=by
 have h6:=hp.nt
 have hv:∀ i,i < R.length->eX p (xz R i):=fun i hi=>by
  have:xz R i=R[i].1:=by unfold xz;simp [List.getD,hi]
  rw [this];exact g _ (List.getElem_mem hi)
 have hnd:(R.map fun z=>cW z.1).Nodup:=by
  rw [List.Nodup,List.pairwise_iff_getElem]
  intro i j hi hj hij e
  simp only [List.getElem_map,List.length_map] at e hi hj
  have a1:=g _ (List.getElem_mem hi)
  have a2:=g _ (List.getElem_mem hj)
  have:=RE (by rw [a1.len,a2.len]) (by rw [a1.len];exact h6) e
  have WY:xz R i=R[i].1:=by unfold xz;simp [List.getD,hi]
  have hj2:xz R j=R[j].1:=by unfold xz;simp [List.getD,hj]
  have:=s.1.inj i j hi hj (by rw [WY,hj2,this])
  omega
 intro i
 induction i using Nat.strongRecOn with
 | _ i ih =>
  intro hi N fuel out hf hN ho
  obtain ⟨f,rfl⟩:∃ f,fuel=f+1:=⟨fuel - 1,by omega⟩
  rw [ll]
  have wh:∀ x y:ab,((x.e0 == y.e0) && ((x.e1 == y.e1) && ((x.e2 == y.e2) && ((x.e3 == y.e3) && ((x.e4 == y.e4) && ((x.e5 == y.e5) && true))))))=MF y x:=fun x y=>rfl
  rw [wh,YI]
  by_cases hz:i=0
  ·subst hz
   rw [h0,(GW _ _).2 rfl,Bool.not_true,cond_false,aaN out (by omega) (by omega),a9,if_pos (by simp)]
   simp [Yu.Bj]
  ·obtain ⟨b0,b1,b2,b3⟩:=s.1.back i (by omega) hi
   have gH:MF (cW s0) (cW (xz R i))=false:=by
    cases hq:MF (cW s0) (cW (xz R i))
    ·rfl
    ·have e:=(GW _ _).1 hq
     rw [<- h0] at e
     have v0:=hv 0 s.1.pos
     have vi:=hv i hi
     have:=s.1.inj 0 i s.1.pos hi (RE (by rw [v0.len,vi.len]) (by rw [v0.len];exact h6) e)
     omega
   have he:R.getD i ([],([],av.d))∈R:=lC _ _ _ hi
   have hg:=acw R _ he hnd
   rw [s.2 i (by omega) hi] at hg
   have hg:ld MF (GX R) (cW (xz R i))=some ⟨cW (xz R (pi i)),(yA p).getD (mi i) av.d⟩:=hg
   rw [gH,Bool.not_false,cond_true,if_pos (by omega)]
   have hg2:(ld (fun (za zb:ab)=>((zb.e0 == za.e0) && ((zb.e1 == za.e1) && ((zb.e2 == za.e2) && ((zb.e3 == za.e3) && ((zb.e4 == za.e4) && ((zb.e5 == za.e5) && true))))))) (GX R) (cW (xz R i)))=some ⟨cW (xz R (pi i)),(yA p).getD (mi i) av.d⟩:=hg
   rw [hg2,Option.getD_some,ih (pi i) b1 (by omega) N f _ (by omega) hN (by rw [gI];show out.length+1+pi i<=_;omega),Yu.ME s.1 (by omega) hi]
   simp
end
end Go.Den
namespace Go.Den
open Go.Ab
section
variable {p:cQ} {l:bF} {a:ox}
theorem aaO {R:List Entry} {pi mi:Nat->Nat} {h:Nat} (s:Cp p l R pi mi h 0):∀ i,i < R.length->∀ n,Yu.RG (yA p) (RU p l) (ji p a) n (xz R i)->∃ k,Yu.RG (yA p) (RU p l) (ji p a) k (xz R 0):=by
 intro i
 induction i using Nat.strongRecOn with
 | _ i ih =>
  intro hi n hn
  by_cases hz:i=0
  ·subst hz;exact ⟨n,hn⟩
  ·obtain ⟨_,b1,b2,b3⟩:=s.1.back i (by omega) hi
   exact ih (pi i) b1 (by omega) (n+1) ⟨_,lC _ _ _ b2,_,b3,hn⟩
theorem aiV {R:List Entry} {pi mi:Nat->Nat} {h:Nat} (s:Cp p l R pi mi h 0):∀ i,i < R.length->(Yu.Bj (yA p) pi mi av.d i i).length<=i:=by
 intro i
 induction i using Nat.strongRecOn with
 | _ i ih =>
  intro hi
  by_cases hz:i=0
  ·subst hz;simp [Yu.Bj]
  ·obtain ⟨_,b1,_,_⟩:=s.1.back i (by omega) hi
   have:=ih (pi i) b1 (by omega)
   rw [Yu.ME s.1 (by omega) hi,gI]
   show _+1<=i
   omega
abbrev RGb (p:cQ) (l:bF) (a:ox) (n:Nat) (s:List Int):Prop:=Yu.RG (yA p) (RU p l) (ji p a) n s
def acz (p:cQ) (l:bF) (a:ox) (r:List av×Int):Prop :=
 (r=([],29)/\∀ n,¬ RGb p l a n a.a8) \/
 ∃ n0,r.2=0/\Yu.TO (yA p) (RU p l) (ji p a) a.a8 n0/\Yu.Way (yA p) (RU p l) (ji p a) av.d a.a8 r.1/\r.1.length=n0/\n0 < xL p
theorem ad1 (h:In p l a) (hs:eX p a.a8) {ro:cg×Int} (YI:ro.1=rj p l a) :
  ∃ r,Gv (fun N=>jC N p ro N (GX [(a.a8,([],(⟨0,false⟩:av)))]) [cW a.a8] 0 1) r/\acz p l a r:=by
 have g0:Cn p [(a.a8,([],(⟨0,false⟩:av)))] [a.a8]:=⟨fun e he=>by rw [List.mem_singleton.1 he];exact hs,by simp,by simp,fun q hq=>by rw [List.mem_singleton.1 hq];exact hs⟩
 obtain ⟨z,hz⟩:=Yv (l:=l) (a:=a) h.hp (xL p+1) _ _ g0 (by simp)
 have hf:=TR (xL p+1) _ _ _ _ 0 (Nat.zero_le _) rfl (aaM a.a8 ([],(⟨0,false⟩:av))) rfl (fun j hj=>by omega) z hz
 have gz:∀ (f:Nat) (R:List Entry) (Q:List (List Int)),Cn p R Q->∀ z,bfs p l a f R Q=some z->(∀ e,e∈z.2->eX p e.1)/\z.2.length<=xL p:=by
  intro f
  induction f with
  | zero=>intro R Q _ z hb;cases hb
  | succ f ih =>
   intro R Q g z hb
   cases Q with
   | nil =>
    have hzz:(none,R)=z:=Option.some.inj hb
    subst hzz;exact ⟨g.keys,KC h.hp g⟩
   | cons x Q =>
    have hb:cond (ji p a x) (some (some x,R)) (bfs p l a f ((yA p).foldl (lv p l x) (R,Q)).1 ((yA p).foldl (lv p l x) (R,Q)).2)=some z:=hb
    cases hg:ji p a x<;>rw [hg] at hb
    ·have hx:=g.que x (.head _)
     refine ih _ _ (Co hx (yA p) (R,Q) ⟨g.keys,g.nd,?_,fun q hq=>g.que q (.tail _ hq)⟩) z hb
     have:=g.len
     simp only [px] at this
     show Q.length<=R.length
     omega
    ·have hzz:(some x,R)=z:=Option.some.inj hb
     subst hzz;exact ⟨g.keys,KC h.hp g⟩
 obtain ⟨k1,k2⟩:=gz _ _ _ g0 z hz
 have hcn:=aiF h.hp
 obtain ⟨pi,mi,hh,s,hv0,Ei,F3⟩:=hf
 have DU:Rest [cW a.a8] 0 1 [a.a8]:=⟨rfl,rfl,rfl⟩
 obtain ⟨z1,z2⟩:=z
 cases z1 with
 | none =>
  have F3:hh=z2.length:=F3
  refine ⟨([],29),(aaL h YI (z:=(none,z2)) (r:=([],29)) rfl _ _ _ g0 hz _ _ _ DU).diag,.inl ⟨rfl,fun n hn=>?_⟩⟩
  have hv0:xz z2 0=a.a8:=hv0
  rw [<- hv0] at hn
  exact Yu.anW s.1 F3 Ei n 0 s.1.pos hn
 | some g =>
  obtain ⟨e1,e2,e3⟩:hh < z2.length/\xz z2 hh=g/\ji p a g=true:=F3
  have hv0:xz z2 0=a.a8:=hv0
  have k1:∀ e,e∈z2->eX p e.1:=k1
  have k2:z2.length<=xL p:=k2
  have asU:Gv (fun N=>rD N (rj p l a) (cW g) (GX z2)) (Yu.Bj (yA p) pi mi av.d hh hh):=.of 10000001 fun N hN=>by
   have:=aiU (ro:=rj p l a) rfl s hv0 h.hp k1 (by omega) hh e1 N N [] (by omega) (by omega) (by simp;omega)
   rw [e2] at this
   unfold rD
   rw [this];simp
  refine ⟨(_,0),(aaL h YI (z:=(some g,z2)) ⟨_,asU,rfl⟩ _ _ _ g0 hz _ _ _ DU).diag,.inr ?_⟩
  rw [<- e2] at e3
  obtain ⟨k,hk⟩:=aaO (a:=a) s hh e1 0 e3
  obtain ⟨n0,_,hd⟩:=Yu.Wn (yA p) (RU p l) (ji p a) k hk
  obtain ⟨w1,w2⟩:=Yu.adW s.1 hd e1 e3 Ei
  rw [hv0] at hd w1
  have:=aiV s hh e1
  exact ⟨n0,rfl,hd,w1,w2,by omega⟩
theorem Yw (p:cQ) (l:bF) (a:ox):∃ r,Gv (fun N=>zY N p l a) r /\
  ((fW p l a≠0/\r=([],fW p l a))\/(fW p l a=0/\20000 < xL p/\r=([],8))\/(fW p l a=0/\xL p<=20000/\rR p l a.a8=false/\r=([],16)) \/
    (fW p l a=0/\xL p<=20000/\rR p l a.a8=true/\acz p l a r)):=by
 obtain ⟨t,h1,h2⟩:=akM p l a
 by_cases hz:fW p l a=0
 ·obtain ⟨z1,z2,z3,z4⟩:=Jf hz
  have hI:In p l a:=⟨Ds z1,MA z2,z4⟩
  have hs:=Rp z3
  have ht:=h2 hz
  have gH:(fW p l a != 0)=false:=by rw [hz];rfl
  have aiW:Gv (fun N=>BJ N p) (xL p:Int):=.of 41 fun N hN=>acp (by omega) hI.hp
  by_cases hc:20000 < xL p
  ·exact ⟨([],8),Gv.bind h1 (Gv.bd gH (Gv.bind aiW (Gv.aR (decide_eq_true (by omega)) (Gv.pure _)))),.inr (.inl ⟨hz,hc,rfl⟩)⟩
  ·have al4:Gv (fun N=>kN N t t.ig) (rR p l a.a8):=by rw [ht];exact Ys hI hs
   cases hk:rR p l a.a8 with
   | false=>exact ⟨([],16),Gv.bind h1 (Gv.bd gH (Gv.bind aiW (Gv.bd (decide_eq_false (by omega)) (Gv.bind al4 (Gv.aR (by rw [hk];rfl) (Gv.pure _)))))),.inr (.inr (.inl ⟨hz,by omega,rfl,rfl⟩))⟩
   | true =>
    obtain ⟨r,hr,ha⟩:=ad1 hI hs (ro:=(t,fW p l a)) ht
    refine ⟨r,Gv.bind h1 (Gv.bd gH (Gv.bind aiW (Gv.bd (decide_eq_false (by omega)) (Gv.bind al4 (Gv.bd (by rw [hk];rfl) ?_))))),.inr (.inr (.inr ⟨hz,by omega,rfl,ha⟩))⟩
    rw [ht]
    rw [ht] at hr
    exact hr
 ·exact ⟨([],fW p l a),Gv.bind h1 (Gv.aR (by simpa using hz) (Gv.pure _)),.inl ⟨hz,rfl⟩⟩
end
end Go.Den
namespace Go.Den
open Go.Ab
theorem akW {N:Nat} (hN:2 < N):iT N=some true:=by
 obtain ⟨n,rfl⟩:∃ n,N=n+3:=⟨N - 3,by omega⟩
 rfl
theorem MH:Gv (fun N=>iT N) true:=.of 3 fun N hN=>akW (by omega)
def Su:Nat->List Nat->Nat
 | n,[]=>n
 | n,r :: l=>if 60 < n * r then n * r else Su (n * r) l
theorem acA:∀ (l:List Nat) (n:Nat),Su n l<=60->Su n l=n * HK l
 | [],n,_=>by simp [Su,HK]
 | r :: l,n,h=>by
  unfold Su at h ⊢
  by_cases hc:60 < n * r
  ·rw [if_pos hc] at h;omega
  ·rw [if_neg hc] at h ⊢
   rw [acA l (n * r) h,HK,Nat.mul_assoc]
theorem aiX {p:cQ} (hp:cO p):Gv (fun N=>xV N p 60) ((Su 1 (xx p):Nat):Int):=by
 have h6:=hp.nt
 have hrl:(xx p).length=p.dh.length:=by simp [xx]
 have key:∀ (k i N fuel n:Nat),i+k=p.dh.length->k < fuel->n<=60->jL N p 60 fuel (n:Int) (i:Int)=some ((Su n ((xx p).drop i):Nat):Int):=by
  intro k
  induction k with
  | zero =>
   intro i N fuel n h hf hn
   obtain ⟨f,rfl⟩:∃ f,fuel=f+1:=⟨fuel - 1,by omega⟩
   have:i=p.dh.length:=by omega
   subst this
   rw [jL,dw,cond_false,List.drop_eq_nil_of_le (by omega)];rfl
  | succ k ih =>
   intro i N fuel n h hf hn
   obtain ⟨f,rfl⟩:∃ f,fuel=f+1:=⟨fuel - 1,by omega⟩
   have hi:i < p.dh.length:=by omega
   obtain ⟨e1,e2⟩:=Rz hp hi
   have hb:=(Ry hp _ (lC (xx p) i 0 (by omega))).2
   rw [MD hi] at hb
   rw [jL,dec_lt hi,cond_true,if_pos (oX hi),ag]
   have e:p.dh.getD i cL.d=eD p i:=rfl
   rw [e,e1,yy (xx p) i 0 (by omega),MD hi]
   have hm:n * ((eD p i).cu+1).toNat<=60 * 13:=Nat.mul_le_mul hn hb
   have e3:(n:Int) * (((eD p i).cu+1).toNat:Int)=((n * ((eD p i).cu+1).toNat:Nat):Int):=by simp
   rw [e3,abL (by omega)]
   unfold Su
   by_cases hc:60 < n * ((eD p i).cu+1).toNat
   ·rw [if_pos hc,decide_eq_true (by omega),cond_true]
   ·rw [if_neg hc,decide_eq_false (by omega),cond_false,aH (by omega)]
    exact ih (i+1) N f _ (by omega) (by omega) (by omega)
 exact .of 40 fun N hN=>key p.dh.length 0 N N 1 (by omega) (by omega) (by omega)
section
variable {p:cQ} {l:bF} {a:ox}
end
end Go.Den
namespace Go.Den
open Go.Ab
theorem aiY {n:Nat} {f g:Nat->Rat} (h:∀ i,i < n->f i<=g i):cZ n f<=cZ n g:=by
 induction n with
 | zero=>exact Rat.le_refl
 | succ n ih=>rw [cZ,cZ];have:=ih fun i hi=>h i (by omega);have:=h n (by omega);grind
theorem aoa {n q:Nat} {R:List aV} {x y:Nat->Rat} (h:acf q n R y) (hx:∀ r,r < R.length->cZ n (fun j=>cf R r j * x j)<=bv R r):False:=by
 have h1:cZ R.length (fun r=>y r * cZ n (fun j=>cf R r j * x j))<=cZ R.length fun r=>y r * bv R r:=aiY fun r hr=>by
  have:=Rat.mul_le_mul_of_nonneg_left (hx r hr) (h.nn r hr)
  exact this
 have h2:cZ R.length (fun r=>y r * cZ n (fun j=>cf R r j * x j))=0:=by
  rw [bH (g:=fun r=>cZ n fun j=>x j * (y r * cf R r j)) fun r _=>by rw [<- mI];exact bH fun j _=>by grind,TG,
   bH (g:=fun _=>0) fun j hj=>by rw [mI,h.col j hj];grind,nf]
 have:=h.neg
 grind
theorem aob {α:Type} (a b:List α) (d:α) {i:Nat} (h:i < a.length):(a ++ b).getD i d=a.getD i d:=by simp [ep,jj h]
theorem akX {α:Type} (a b:List α) (d:α) {i:Nat} (k:Nat) (h:i=a.length+k):(a ++ b).getD i d=b.getD k d:=by
 subst h;simp [ep,kU]
def unR (n i:Nat) (q:Rat):List aa:=(List.replicate n aa.d).set i (bL q)
theorem acB (n i:Nat) (q:Rat):(unR n i q).length=n:=by simp [unR]
theorem acC {n i j:Nat} {q:Rat} (hi:i < n):qv ((unR n i q).getD j aa.d)=if j=i then q else 0:=by
 unfold unR
 by_cases h:j=i
 ·subst h;rw [if_pos rfl,nc _ _ _ _ (by simpa using hi),tF]
 ·rw [if_neg h,kn _ _ _ (fun e=>h e.symm)]
  by_cases hj:j < n
  ·rw [show (List.replicate n aa.d).getD j aa.d=aa.d by simp [ep,List.getElem?_replicate,hj]];exact akE
  ·rw [Cg (by simp;omega)];exact akE
theorem aoc {f:Nat->Rat} {n:Nat} {x:aa} (h:x∈LQ f n):∃ i,i < n/\x=bL (f i):=by
 unfold LQ I9 at h
 obtain ⟨i,h1,h2⟩:=List.mem_map.1 h
 exact ⟨i,zP.1 h1,h2.symm⟩
theorem Wo (f:Nat->Rat) (n:Nat):LQ f n ++ [bL (f n)]=LQ f (n+1):=Ci (fun i=>bL (f i)) n
theorem al5 {n i:Nat} {q:Rat} (h:RB q 100):∀ x∈unR n i q,IR x 100:=fun x hx=>by
 rcases List.mem_or_eq_of_mem_set hx with h1 | rfl
 ·rw [(List.mem_replicate.1 h1).2];exact ird
 ·exact h.ir
structure aaP (n:Nat) (r:aV):Prop where
 len:r.dd.length<=n
 co:∀ x∈r.dd,IR x 100
 bo:IR r.jT 100
theorem Yx {R:List aV} {n:Nat} (h:∀ r∈R,aaP n r):Ku R:=by
 refine ⟨fun i j=>⟨?_,rfl,by decide⟩,fun i=>⟨?_,rfl,by decide⟩⟩
 ·by_cases hi:i < R.length
  ·have g:=h _ (lC R i aV.d hi)
   by_cases hj:j < (R.getD i aV.d).dd.length
   ·exact g.co _ (lC _ j aa.d hj)
   ·rw [Cg (by omega)];exact ird
  ·rw [show R.getD i aV.d=aV.d by simp [ep,sQ (show R.length<=i by omega)]]
   rw [Cg (show (aV.d).dd.length<=j from Nat.zero_le _)];exact ird
 ·by_cases hi:i < R.length
  ·exact (h _ (lC R i aV.d hi)).bo
  ·rw [show R.getD i aV.d=aV.d by simp [ep,sQ (show R.length<=i by omega)]]
   exact ird
theorem aiZ {R:List aV} {n:Nat} (h:∀ r∈R,aaP n r) (hn:n<=20) (hl:R.length<=60):Ch R:=by
 have q:=Yx h
 refine ⟨hl,fun i=>⟨?_,fun j=>(q.co i j).1,(q.bo i).1⟩⟩
 by_cases hi:i < R.length
 ·exact eF (h _ (lC R i aV.d hi)).len hn
 ·rw [aid (by omega)];exact Nat.zero_le _
theorem RH {R:List aV} {n:Nat} (h:∀ r∈R,aaP n r):∀ k i,i+k=R.length->wc R n k i=false
 | 0,_,_=>rfl
 | k+1,i,hi=>by
  rw [wc,if_neg,RH h k (i+1) (by omega)]
  have:=(h _ (lC R i aV.d (by omega))).len
  unfold Ap;omega
theorem Sv {R:List aV} {n:Nat} (hn:n<=12) (hR:R.length<=40) (h:∀ r∈R,aaP n r):nU n R=0:=by
 unfold nU
 rw [if_neg (by omega),if_neg (by omega),RH h R.length 0 (by omega)];rfl
theorem ai0 {c x:List aa}:∀ (k i:Nat) (a:Rat),dF c x k i a=a+cZ k fun j=>qv (c.getD (i+j) aa.d) * qv (x.getD (i+j) aa.d)
 | 0,i,a=>by show a=a+0;grind
 | k+1,i,a=>by
  rw [dF,ai0 k (i+1),show k+1=1+k by omega,An]
  have e:cZ 1 (fun j=>qv (c.getD (i+j) aa.d) * qv (x.getD (i+j) aa.d))=qv (c.getD i aa.d) * qv (x.getD i aa.d):=by show 0+qv (c.getD (i+0) aa.d) * qv (x.getD (i+0) aa.d)=_;rw [Nat.add_zero];grind
  have e2:cZ k (fun j=>qv (c.getD (i+(1+j)) aa.d) * qv (x.getD (i+(1+j)) aa.d))=cZ k fun j=>qv (c.getD (i+1+j) aa.d) * qv (x.getD (i+1+j) aa.d):=bH fun j _=>by rw [show i+(1+j)=i+1+j by omega]
  rw [e,e2]
  grind
theorem ai1 {c x:List aa} {n:Nat} (h:c.length<=n):aie c x=cZ n fun j=>qv (c.getD j aa.d) * qv (x.getD j aa.d):=by
 unfold aie
 rw [ai0,show n=c.length+(n - c.length) by omega,An]
 rw [bH (n:=n - c.length) (g:=fun _=>0) fun j _=>by rw [Cg (show c.length<=c.length+j by omega),akE];grind,nf,bH (n:=c.length) (g:=fun j=>qv (c.getD j aa.d) * qv (x.getD j aa.d)) fun j _=>by rw [Nat.zero_add]]
 grind
theorem RI {l:List aV} {x:List aa}:∀ {k i:Nat},Be l x k i=false↔∀ a,i<=a->a < i+k->¬ Dp l x a
 | 0,i=>by
  constructor
  ·intro _ a h1 h2;omega
  ·intro _;rfl
 | k+1,i=>by
  rw [Be]
  by_cases h:Dp l x i
  ·rw [if_pos h]
   exact ⟨fun e=>(by cases e),fun e=>absurd h (e i (aN _) (by omega))⟩
  ·rw [if_neg h,RI]
   constructor
   ·intro e a h1 h2
    by_cases q:a=i
    ·subst q;exact h
    ·exact e a (by omega) (by omega)
   ·intro e a h1 h2;exact e a (by omega) (by omega)
theorem ad3 {R:List aV} {n:Nat} (hco:∀ i,i < R.length->(R.getD i aV.d).dd.length<=n) {x:Nat->Rat}:Be R (LQ x n) R.length 0=false↔∀ r,r < R.length->cZ n (fun j=>cf R r j * x j)<=bv R r:=by
 rw [RI]
 have key:∀ r,r < R.length->(¬ Dp R (LQ x n) r↔cZ n (fun j=>cf R r j * x j)<=bv R r):=fun r hr=>by
  unfold Dp
  rw [ai1 (hco r hr),bH (g:=fun j=>cf R r j * x j) fun j hj=>by rw [lO _ _ hj,tF];rfl]
  show ¬ 0 < _ - bv R r↔_
  constructor<;>intro h<;>grind
 exact ⟨fun h r hr=>(key r hr).1 (h r (Nat.zero_le _) (by omega)),fun h r _ hr=>(key r (by omega)).2 (h r (by omega))⟩
theorem ai2 {f:Nat->Rat} {m:Nat} (hm:m<=60) (hf:∀ i,i < m->RB (f i) 8000000):LB (LQ f m) 8000000:=⟨by rw [ct];exact hm,fun i=>by
 by_cases h:i < m
 ·rw [lO _ _ h];exact (hf i h).ir
 ·rw [Cg (by rw [ct];omega)];exact ird⟩
theorem RJ {y:List aa}:∀ {k i:Nat},(∀ a,i<=a->a < i+k->0<=yv y a)->Dq y k i=false
 | 0,_,_=>rfl
 | k+1,i,h=>by
  rw [Dq,if_neg (Rat.not_lt.2 (h i (aN _) (by omega)))]
  exact RJ fun a h1 h2=>h a (by omega) (by omega)
theorem Nf {f:Nat->Rat}:∀ {k i:Nat},(∀ a,i<=a->a < i+k->f a=0)->M9 f k i=false
 | 0,_,_=>rfl
 | k+1,i,h=>by
  rw [M9,if_pos (h i (aN _) (by omega))]
  exact Nf fun a h1 h2=>h a (by omega) (by omega)
theorem ai3 {l:List aV} {y:List aa} (j:Nat):∀ m,cS l y j m=cZ m fun i=>yv y i * cf l i j
 | 0=>rfl
 | m+1=>by rw [cS,cZ,ai3 j m]
theorem ai4 {l:List aV} {y:List aa}:∀ m,bS l y m=cZ m fun i=>yv y i * bv l i
 | 0=>rfl
 | m+1=>by rw [bS,cZ,ai4 m]
theorem Wp {q n:Nat} {l:List aV} {y:Nat->Rat} (h:acf q n l y):contra l (LQ y l.length) n=true:=by
 have hy:∀ i,i < l.length->yv (LQ y l.length) i=y i:=fun i hi=>by unfold yv;rw [lO _ _ hi,tF]
 unfold contra
 rw [RJ fun a _ h2=>by rw [ct] at h2;rw [hy a (by omega)];exact h.nn a (by omega),ai4,bH (g:=fun i=>y i * bv l i) fun i hi=>by rw [hy i hi],decide_eq_true h.neg,
  Nf fun a _ h2=>by rw [ai3,bH (g:=fun i=>y i * cf l i a) fun i hi=>by rw [hy i hi]];exact h.col a (by omega)]
 rfl
def MI (p:cQ) (L:List fy):Nat->Rat
 | 0=>dQ p L
 | 1=>tQ p L
 | 2=>hQ p L
 | _=>gQ p L
theorem akY (p:cQ) (w:Nat):∃ a b c d:Rat,∀ L,MI p L w=a * ((sI fM L:Int):Rat)+b * ((sI fX L:Int):Rat)+c * ((sI fY L:Int):Rat)+d * ((sI fA L:Int):Rat):=by
 match w with
 | 0=>exact ⟨pr [1000000000] / pr [p.er,p.oE,p.sD],0,0,0,fun L=>by simp only [MI,dQ,pr,Rat.div_def];grind⟩
 | 1=>exact ⟨0,pr [12000000000] / pr [p.er,p.sD,p.oE,p.oE,p.oE],0,0,fun L=>by simp only [MI,tQ,pr,Rat.div_def];grind⟩
 | 2=>exact ⟨0,0,pr [12000000000] / pr [p.er,p.oE,p.sD,p.sD,p.sD],0,fun L=>by simp only [MI,hQ,pr,Rat.div_def];grind⟩
 | _+3=>exact ⟨-(pr [p.oE] / pr [8]),0,0,1 / pr [2],fun L=>by simp only [MI,gQ,pr,Rat.div_def];grind⟩
def lq (l:List Int) (i:Nat):Rat:=((l.getD i 0:Int):Rat)
def unM (p:cQ) (i:Nat):fy:=⟨(eD p i).zD,(eD p i).D4,(eD p i).wU⟩
theorem Yy (f:fy->Int) (g:Nat->fy):∀ n,((sI f ((List.range n).map g):Int):Rat)=cZ n fun i=>((f (g i):Int):Rat)
 | 0=>by simp [sI,cZ]
 | n+1=>by
  rw [List.range_succ,List.map_append,Ck,Rat.intCast_add,Yy f g n,cZ,List.map_cons,List.map_nil,Wg]
theorem KD (p:cQ) {l:List Int} {f:fy->Int} (hf:∀ x y k m,f ⟨x,y,k * m⟩=k * f ⟨x,y,m⟩):((sI f (dx p l):Int):Rat)=((sI f p.pZ:Int):Rat)+cZ l.length fun i=>lq l i * ((f (unM p i):Int):Rat):=by
 unfold dx jh
 rw [Ck,Rat.intCast_add,Yy,bH (g:=fun i=>lq l i * ((f (unM p i):Int):Rat)) fun i _=>by
  show ((f (uO p l i):Int):Rat)=_
  unfold uO lq
  rw [hf,Rat.intCast_mul];rfl]
theorem akZ (p:cQ) (w:Nat):∃ (B:Rat) (U:Nat->Rat),∀ l,MI p (dx p l) w=B+cZ l.length fun i=>lq l i * U i:=by
 obtain ⟨a,b,c,d,h⟩:=akY p w
 refine ⟨a * ((sI fM p.pZ:Int):Rat)+b * ((sI fX p.pZ:Int):Rat)+c * ((sI fY p.pZ:Int):Rat)+d * ((sI fA p.pZ:Int):Rat),
  fun i=>a * ((fM (unM p i):Int):Rat)+b * ((fX (unM p i):Int):Rat)+c * ((fY (unM p i):Int):Rat)+d * ((fA (unM p i):Int):Rat),fun l=>?_⟩
 rw [h,KD p (f:=fM) fun x y k m=>rfl,KD p (f:=fX) fun x y k m=>kV ..,KD p (f:=fY) fun x y k m=>kV ..,KD p (f:=fA) fun x y k m=>kV ..]
 have e:(cZ l.length fun i=>lq l i * (a * ((fM (unM p i):Int):Rat)+b * ((fX (unM p i):Int):Rat)+c * ((fY (unM p i):Int):Rat)+d * ((fA (unM p i):Int):Rat))) =
   a * (cZ l.length fun i=>lq l i * ((fM (unM p i):Int):Rat))+b * (cZ l.length fun i=>lq l i * ((fX (unM p i):Int):Rat))+c * (cZ l.length fun i=>lq l i * ((fY (unM p i):Int):Rat))+d * (cZ l.length fun i=>lq l i * ((fA (unM p i):Int):Rat)):=by
  rw [<- mI,<- mI,<- mI,<- mI,<- uM,<- uM,<- uM]
  exact bH fun i _=>by grind
 rw [e];grind
def zs (p:cQ):List Int:=List.replicate p.dh.length 0
def es (p:cQ) (i:Nat):List Int:=(List.replicate p.dh.length 0).set i 1
def fZ (p:cQ) (w:Nat):Rat:=MI p (dx p (zs p)) w
def fS (p:cQ) (w i:Nat):Rat:=MI p (dx p (es p i)) w - fZ p w
theorem Wq (p:cQ) (j:Nat):(zs p).getD j 0=0:=by
 unfold zs;rw [ep,List.getElem?_replicate];split<;>rfl
theorem Wr (p:cQ) {i:Nat} (hi:i < p.dh.length) (j:Nat):(es p i).getD j 0=if j=i then 1 else 0:=by
 unfold es
 by_cases h:j=i
 ·subst h;rw [if_pos rfl,nc _ _ _ _ (by simpa using hi)]
 ·rw [if_neg h,kn _ _ _ (fun e=>h e.symm)];exact Wq p j
theorem ad4 (p:cQ) (w:Nat) {l:List Int} (hl:l.length=p.dh.length):MI p (dx p l) w=fZ p w+cZ p.dh.length fun i=>fS p w i * lq l i:=by
 obtain ⟨B,U,h⟩:=akZ p w
 have hz:fZ p w=B:=by
  unfold fZ
  rw [h,bH (g:=fun _=>0) fun i _=>by unfold lq;rw [Wq];show (0:Rat) * _=0;grind,nf];grind
 have hs:∀ i,i < p.dh.length->fS p w i=U i:=fun i hi=>by
  unfold fS
  rw [hz,h,nT (j:=i) (by unfold es;simpa using hi) _ fun j _ gH=>by unfold lq;rw [Wr p hi,if_neg gH];show (0:Rat) * _=0;grind]
  unfold lq;rw [Wr p hi,if_pos rfl];show B+1 * U i - B=U i;grind
 rw [h,hz,hl,bH (g:=fun i=>fS p w i * lq l i) fun i hi=>by rw [hs i hi];grind]
section
variable {p:cQ}
theorem al6:Ga p (zs p):=⟨by simp [zs],fun i _=>by rw [Wq];decide,fun i _=>by rw [Wq];decide⟩
theorem ai5 {i:Nat} (hi:i < p.dh.length):Ga p (es p i):=⟨by simp [es],fun j _=>by rw [Wr p hi];split<;>decide,fun j _=>by rw [Wr p hi];split<;>decide⟩
theorem aaQ {L:List fy} (hp:cO p) (hL:iL L) (w:Nat):RB (MI p L w) 30:=by
 match w with
 | 0=>exact asN hp hL
 | 1=>exact asO hp hL
 | 2=>exact asP hp hL
 | _+3=>exact anV hp hL
theorem Yz (hp:cO p) (w:Nat):RB (fZ p w) 30:=aaQ hp (Cl hp al6) w
theorem al7 (hp:cO p) (w:Nat) {i:Nat} (hi:i < p.dh.length):RB (fS p w i) 61:=(aaQ hp (Cl hp (ai5 hi)) w).sub (Yz hp w)
theorem TS (L:List fy) {w:Nat} (hw:w < 4):Gv (fun N=>j5 N (Wh p L) (w:Int)) (bL (MI p L w)):=.of 0 fun N _=>by
 match w,hw with
 | 0,_=>rfl
 | 1,_=>rfl
 | 2,_=>rfl
 | 3,_=>rfl
theorem ad5 (hp:cO p) {w:Nat} (hw:w < 4):∀ (k x:Nat),x+k=p.dh.length->aF (fun N g=>dq N p (w:Int) (bL (fZ p w)) g (LQ (fS p w) x) (x:Int)) (bL (fZ p w),LQ (fS p w) p.dh.length):=by
 have h6:=hp.nt
 intro k
 induction k with
 | zero =>
  intro x hx
  obtain rfl:x=p.dh.length:=by omega
  exact aF.succ (fun N g=>dq.eq_2 ..) (aF.bd dw (aF.one (Gv.pure _)))
 | succ k ih =>
  intro x hx
  have wa:x < p.dh.length:=by omega
  refine aF.succ (fun N g=>dq.eq_2 ..) (aF.aR (dec_lt wa) (aF.if (by omega) (aF.if (by rw [po];exact oX wa) ?_)))
  rw [ag,aH (by omega)]
  refine aF.bind (Rr hp (ai5 wa)) (aF.bind (TS _ hw) (aF.bind (((aaQ hp (Cl hp (ai5 wa)) w).rq (by decide)).anF ((Yz hp w).rq (by decide)) (by decide)) (aF.if (by rw [ct];omega) ?_)))
  show aF (fun N g=>dq N p (w:Int) (bL (fZ p w)) g (LQ (fS p w) x ++ [bL (fS p w x)]) ((x+1:Nat):Int)) _
  rw [Wo]
  exact ih (x+1) (by omega)
theorem GZ (hp:cO p) {w:Nat} (hw:w < 4):Gv (fun N=>gk N p (w:Int)) (bL (fZ p w),LQ (fS p w) p.dh.length):=by
 have h6:=hp.nt
 exact Gv.if (by omega) (Gv.bind (Rr hp al6) (Gv.bind (TS _ hw) (ad5 hp hw p.dh.length 0 (by omega)).diag))
theorem aod {f:Nat->Rat} {n:Nat} (hn:n<=12) (hf:∀ i,i < n->RB (f i) 61) {b:Int} (hb:xK b):∀ (k x:Nat),x+k=n->aF (fun N g=>dz N (LQ f n) b g (LQ (fun i=>f i * (b:Rat)) x) (x:Int)) (LQ (fun i=>f i * (b:Rat)) n):=by
 intro k
 induction k with
 | zero =>
  intro x hx
  obtain rfl:x=n:=by omega
  exact aF.succ (fun N g=>dz.eq_2 ..) (aF.bd (by rw [ct];exact dw) (aF.one (Gv.pure _)))
 | succ k ih =>
  intro x hx
  have wa:x < n:=by omega
  refine aF.succ (fun N g=>dz.eq_2 ..) (aF.aR (by rw [ct];exact dec_lt wa) (aF.if (by rw [ct];exact oX wa) ?_))
  rw [ag,aH (by omega),lO _ _ wa]
  refine aF.bind (XY hb.1 hb.2) (aF.bind (((hf x wa).rq (by decide)).Hp ((dE hb).rq (by decide)) (by decide)) (aF.if (by rw [ct];omega) ?_))
  show aF (fun N g=>dz N (LQ f n) b g (LQ (fun i=>f i * (b:Rat)) x ++ [bL (f x * (b:Rat))]) ((x+1:Nat):Int)) _
  rw [Wo (fun i=>f i * (b:Rat))]
  exact ih (x+1) (by omega)
def DV (p:cQ) (w:Nat) (b m:Int):aV:=⟨LQ (fun i=>fS p w i * (b:Rat)) p.dh.length,bL ((m:Rat) - fZ p w * (b:Rat))⟩
theorem Aq (hp:cO p) (w:Nat) {b m:Int} (hb:xK b) (hm:xK m):Gv (fun N=>dI N (bL (fZ p w)) (LQ (fS p w) p.dh.length) b m) (DV p w b m):=by
 have h6:=hp.nt
 refine Gv.bind (aod (by omega) (fun i hi=>al7 hp w hi) hb p.dh.length 0 (by omega)).diag (Gv.bind (XY hm.1 hm.2) (Gv.bind (XY hb.1 hb.2) ?_))
 exact Gv.bind (((Yz hp w).rq (by decide)).Hp ((dE hb).rq (by decide)) (by decide)) (Gv.bind (((dE hm).rq (by decide)).anF (((Yz hp w).mul (dE hb)).rq (by decide)) (by decide)) (Gv.pure _))
def ak0 (p:cQ) (i:Nat):List aV:=[⟨unR p.dh.length i ((1:Int):Rat),bL (((eD p i).cu:Int):Rat)⟩,⟨unR p.dh.length i ((-1:Int):Rat),bL ((0:Int):Rat)⟩]
def Ar (p:cQ):Nat->List aV
 | 0=>[]
 | x+1=>Ar p x ++ ak0 p x
def YA (p:cQ) (l:bF):List aV :=
 [DV p 0 1 l.aA,DV p 0 (-1) (-l.aq),DV p 1 1000 l.bN,DV p 1 (-1000) l.bN,DV p 2 1000 l.bq,DV p 2 (-1000) l.bq,DV p 3 1 l.bp,DV p 3 (-1) l.bp]
def nY (p:cQ) (l:bF):List aV:=YA p l ++ Ar p p.dh.length
theorem vP:∀ x,(Ar p x).length=2 * x
 | 0=>rfl
 | x+1=>by rw [Ar,gI,vP x];simp [ak0];omega
theorem ak1 (hp:cO p) {A:List aV} (hA:A.length<=8):∀ (k x:Nat),x+k=p.dh.length->aF (fun N g=>dK N p g (A ++ Ar p x) (x:Int)) (A ++ Ar p p.dh.length):=by
 have h6:=hp.nt
 intro k
 induction k with
 | zero =>
  intro x hx
  obtain rfl:x=p.dh.length:=by omega
  exact aF.succ (fun N g=>dK.eq_2 ..) (aF.bd dw (aF.one (Gv.pure _)))
 | succ k ih =>
  intro x hx
  have wa:x < p.dh.length:=by omega
  have ht:=we hp wa
  have Jm:xK (eD p x).cu:=Dv (by have:=ht.s1;have:=ht.s2;omega)
  refine aF.succ (fun N g=>dK.eq_2 ..) (aF.aR (dec_lt wa) (aF.if (by omega) (aF.bind (XY (z:=1) (by decide) (by decide)) (aF.bind (XY (z:=-1) (by decide) (by decide)) (aF.if (by rw [po];exact oX wa) (aF.if (oX wa) ?_))))))
  rw [ag,aH (by omega)]
  refine aF.bind (XY Jm.1 Jm.2) (aF.bind (XY (z:=0) (by decide) (by decide)) (aF.if (by rw [gI,vP];omega) ?_))
  show aF (fun N g=>dK N p g (A ++ Ar p x ++ ak0 p x) ((x+1:Nat):Int)) _
  rw [qA]
  exact ih (x+1) (by omega)
theorem ai6 (hp:cO p) {l:bF} (hl:Rt l):Gv (fun N=>oA N p l) (nY p l):=by
 have k1:xK l.aA:=Dv (by have:=hl.b1;have:=hl.b2;omega)
 have k2:xK (-l.aq):=Dv (by have:=hl.a1;have:=hl.a2;omega)
 have k3:xK l.bN:=Dv (by have:=hl.t1;have:=hl.t2;omega)
 have k4:xK l.bq:=Dv (by have:=hl.h1;have:=hl.h2;omega)
 have k5:xK l.bp:=Dv (by have:=hl.g1;have:=hl.g2;omega)
 have e:aE (0 - l.aq) = -l.aq:=by have:=hl.a1;have:=hl.a2;rw [aX (by omega) (by omega)];omega
 have c1:xK 1:=Dv (by decide)
 have c2:xK (-1):=Dv (by decide)
 have c3:xK 1000:=Dv (by decide)
 have c4:xK (-1000):=Dv (by decide)
 refine Gv.bind (GZ hp (w:=0) (by decide)) (Gv.bind (GZ hp (w:=1) (by decide)) (Gv.bind (GZ hp (w:=2) (by decide)) (Gv.bind (GZ hp (w:=3) (by decide)) ?_)))
 rw [e]
 refine Gv.bind (Aq hp 0 c1 k1) (Gv.bind (Aq hp 0 c2 k2) (Gv.bind (Aq hp 1 c3 k3) (Gv.bind (Aq hp 1 c4 k3) (Gv.bind (Aq hp 2 c3 k4) (Gv.bind (Aq hp 2 c4 k4) (Gv.bind (Aq hp 3 c1 k5) (Gv.bind (Aq hp 3 c2 k5) ?_)))))))
 exact (ak1 hp (A:=YA p l) (aN 8) p.dh.length 0 (by omega)).diag
end
end Go.Den
namespace Go.Den
open Go.Ab
section
variable {p:cQ} {l:bF}
theorem TU:∀ x i,i < x->(Ar p x).getD (2 * i) aV.d=⟨unR p.dh.length i ((1:Int):Rat),bL (((eD p i).cu:Int):Rat)⟩/\(Ar p x).getD (2 * i+1) aV.d=⟨unR p.dh.length i ((-1:Int):Rat),bL ((0:Int):Rat)⟩
 | x+1,i,h=>by
  rw [Ar]
  by_cases e:i=x
  ·subst e
   rw [akX _ _ _ 0 (by rw [vP];omega),akX _ _ _ 1 (by rw [vP])]
   exact ⟨rfl,rfl⟩
  ·rw [aob _ _ _ (by rw [vP];omega),aob _ _ _ (by rw [vP];omega)]
   exact TU x i (by omega)
theorem MJ:(nY p l).length=8+2 * p.dh.length:=by unfold nY;rw [gI,vP];rfl
theorem TV {r:Nat} (h:r < 8):(nY p l).getD r aV.d=(YA p l).getD r aV.d:=by unfold nY;rw [aob _ _ _ h]
theorem KE {i:Nat} (h:i < p.dh.length):(nY p l).getD (8+2 * i) aV.d=⟨unR p.dh.length i ((1:Int):Rat),bL (((eD p i).cu:Int):Rat)⟩/\(nY p l).getD (8+(2 * i+1)) aV.d=⟨unR p.dh.length i ((-1:Int):Rat),bL ((0:Int):Rat)⟩:=by
 unfold nY
 rw [akX (YA p l) (Ar p p.dh.length) aV.d (i:=8+2 * i) (2 * i) rfl,akX (YA p l) (Ar p p.dh.length) aV.d (i:=8+(2 * i+1)) (2 * i+1) rfl]
 exact TU _ i h
theorem acE {z:Int} (h:z.natAbs<=9000000000000000000):RB (z:Rat) 100:=(dE (Dv h)).le (by decide)
theorem ak2 (hp:cO p) (w:Nat) {b m:Int} (hb:b.natAbs<=9000000000000000000) (hm:m.natAbs<=9000000000000000000):aaP p.dh.length (DV p w b m):=by
 refine ⟨by show (LQ _ _).length<=_;rw [ct];exact aN _,fun x hx=>?_,?_⟩
 ·obtain ⟨i,hi,rfl⟩:=aoc hx
  exact (((al7 hp w hi).mul (dE (Dv hb))).le (show 61+4<=100 by decide)).ir
 ·exact (((dE (Dv hm)).sub ((Yz hp w).mul (dE (Dv hb)))).le (show 4+(30+4)+1<=100 by decide)).ir
theorem acF (hp:cO p):∀ x,x<=p.dh.length->∀ r∈Ar p x,aaP p.dh.length r
 | 0,_,r,h=>by cases h
 | x+1,hx,r,h=>by
  rw [Ar] at h
  rcases List.mem_append.1 h with h | h
  ·exact acF hp x (by omega) r h
  ·have ht:=we hp (show x < p.dh.length by omega)
   have t1:=ht.s1
   have t2:=ht.s2
   unfold ak0 at h
   simp only [lG,List.not_mem_nil,or_false] at h
   rcases h with rfl | rfl
   ·exact ⟨by show (unR _ x _).length<=_;rw [acB];exact aN _,al5 (acE (by decide)),(acE (by omega)).ir⟩
   ·exact ⟨by show (unR _ x _).length<=_;rw [acB];exact aN _,al5 (acE (by decide)),(acE (by decide)).ir⟩
theorem ak3 (hp:cO p) (hl:Rt l):∀ r∈nY p l,aaP p.dh.length r:=fun r h=>by
 have a1:=hl.a1;have a2:=hl.a2;have b1:=hl.b1;have b2:=hl.b2;have t1:=hl.t1;have t2:=hl.t2;have h1:=hl.h1;have h2:=hl.h2;have g1:=hl.g1;have g2:=hl.g2
 rcases List.mem_append.1 h with h | h
 ·unfold YA at h
  simp only [lG,List.not_mem_nil,or_false] at h
  rcases h with rfl | rfl | rfl | rfl | rfl | rfl | rfl | rfl<;>exact ak2 hp _ (by decide) (by omega)
 ·exact acF hp _ (aN _) r h
theorem ai7 {r w:Nat} {b m:Int} {s:List Int} (hr:r < 8) (h:(YA p l).getD r aV.d=DV p w b m) (hs:s.length=p.dh.length) :
  cZ p.dh.length (fun j=>cf (nY p l) r j * lq s j)<=bv (nY p l) r↔MI p (dx p s) w * (b:Rat)<=(m:Rat):=by
 have e1:bv (nY p l) r=(m:Rat) - fZ p w * (b:Rat):=by unfold bv;rw [TV hr,h];exact tF _
 have e2:cZ p.dh.length (fun j=>cf (nY p l) r j * lq s j)=(b:Rat) * cZ p.dh.length fun j=>fS p w j * lq s j:=by
  rw [<- mI]
  refine bH fun j hj=>?_
  have:cf (nY p l) r j=fS p w j * (b:Rat):=by
   unfold cf;rw [TV hr,h];show qv ((LQ _ _).getD j _)=_;rw [lO _ _ hj,tF]
  rw [this];grind
 rw [e1,e2,ad4 p w hs]
 constructor<;>intro q<;>grind
theorem sat_iff {s:List Int} (hs:eX p s):(∀ r,r < (nY p l).length->cZ p.dh.length (fun j=>cf (nY p l) r j * lq s j)<=bv (nY p l) r)↔rR p l s=true:=by
 have hlen:=hs.len
 have m:=fun (r w:Nat) (b m:Int) (hr:r < 8) (h:(YA p l).getD r aV.d=DV p w b m)=>ai7 (p:=p) (l:=l) hr h hlen
 have c0:=m 0 0 1 l.aA (by decide) rfl
 have c1:=m 1 0 (-1) (-l.aq) (by decide) rfl
 have c2:=m 2 1 1000 l.bN (by decide) rfl
 have c3:=m 3 1 (-1000) l.bN (by decide) rfl
 have c4:=m 4 2 1000 l.bq (by decide) rfl
 have c5:=m 5 2 (-1000) l.bq (by decide) rfl
 have c6:=m 6 3 1 l.bp (by decide) rfl
 have c7:=m 7 3 (-1) l.bp (by decide) rfl
 have o1:((1:Int):Rat)=1:=rfl
 have o2:((-1:Int):Rat) = -1:=rfl
 have o3:((-1000:Int):Rat) = -((1000:Int):Rat):=rfl
 have o4:((-l.aq:Int):Rat) = -((l.aq:Int):Rat):=Rat.intCast_neg _
 rw [o1] at c0 c6
 rw [o2] at c1 c7
 rw [o3] at c3 c5
 rw [o4] at c1
 simp only [MI] at c0 c1 c2 c3 c4 c5 c6 c7
 have k:rR p l s=true↔(((l.aq:Int):Rat)<=dQ p (dx p s)/\dQ p (dx p s)<=((l.aA:Int):Rat))/\(tQ p (dx p s) * ((1000:Int):Rat)<=((l.bN:Int):Rat)/\-(tQ p (dx p s) * ((1000:Int):Rat))<=((l.bN:Int):Rat)) /\
   (hQ p (dx p s) * ((1000:Int):Rat)<=((l.bq:Int):Rat)/\-(hQ p (dx p s) * ((1000:Int):Rat))<=((l.bq:Int):Rat))/\(gQ p (dx p s) * ((1:Int):Rat)<=((l.bp:Int):Rat)/\-(gQ p (dx p s) * ((1:Int):Rat))<=((l.bp:Int):Rat)):=by
  unfold rR Sr
  rw [decide_eq_true_eq,Rv,aiz,Ru,Ru,Ru]
 rw [k,o1]
 constructor
 ·intro h
  have h:=fun r (hr:r < 8)=>h r (by rw [MJ];omega)
  have q0:=c0.1 (h 0 (by decide))
  have q1:=c1.1 (h 1 (by decide))
  have q2:=c2.1 (h 2 (by decide))
  have q3:=c3.1 (h 3 (by decide))
  have q4:=c4.1 (h 4 (by decide))
  have q5:=c5.1 (h 5 (by decide))
  have q6:=c6.1 (h 6 (by decide))
  have q7:=c7.1 (h 7 (by decide))
  refine ⟨⟨by grind,by grind⟩,⟨q2,by grind⟩,⟨q4,by grind⟩,q6,by grind⟩
 ·rintro ⟨⟨h1,h0⟩,⟨h2,h3⟩,⟨h4,h5⟩,h6,h7⟩ r hr
  rw [MJ] at hr
  match r,hr with
  | 0,_=>exact c0.2 (by grind)
  | 1,_=>exact c1.2 (by grind)
  | 2,_=>exact c2.2 h2
  | 3,_=>exact c3.2 (by grind)
  | 4,_=>exact c4.2 h4
  | 5,_=>exact c5.2 (by grind)
  | 6,_=>exact c6.2 h6
  | 7,_=>exact c7.2 (by grind)
  | r+8,hr =>
   obtain ⟨i,rfl | rfl⟩:∃ i,r=2 * i\/r=2 * i+1:=⟨r / 2,by omega⟩
   ·have hi:i < p.dh.length:=by omega
    rw [show 2 * i+8=8+2 * i by omega]
    have e0:∀ j,cf (nY p l) (8+2 * i) j=if j=i then ((1:Int):Rat) else 0:=fun j=>by unfold cf;rw [(KE hi).1];exact acC hi
    have e1:bv (nY p l) (8+2 * i)=(((eD p i).cu:Int):Rat):=by unfold bv;rw [(KE hi).1];exact tF _
    rw [e1,nT hi _ fun j hj gH=>by rw [e0,if_neg gH];grind,e0,if_pos rfl]
    have:=hs.hi i (by omega)
    have:lq s i<=(((eD p i).cu:Int):Rat):=by unfold lq;exact_mod_cast this
    rw [o1];grind
   ·have hi:i < p.dh.length:=by omega
    rw [show 2 * i+1+8=8+(2 * i+1) by omega]
    have e0:∀ j,cf (nY p l) (8+(2 * i+1)) j=if j=i then ((-1:Int):Rat) else 0:=fun j=>by unfold cf;rw [(KE hi).2];exact acC hi
    have e1:bv (nY p l) (8+(2 * i+1))=((0:Int):Rat):=by unfold bv;rw [(KE hi).2];exact tF _
    rw [e1,nT hi _ fun j hj gH=>by rw [e0,if_neg gH];grind,e0,if_pos rfl]
    have:=hs.lo i (by omega)
    have:((0:Int):Rat)<=lq s i:=by unfold lq;exact_mod_cast this
    rw [o2];grind
theorem ak4 (hp:cO p):TT p l false false false false=true:=aaJ.2 ⟨0,aco hp,rfl⟩
theorem ak5 (hp:cO p) (h:∀ s,eX p s->rR p l s=false):0 < (nmC p l).length:=by
 have hT:TT p l true true true true=false:=by
  cases e:TT p l true true true true with
  | false=>rfl
  | true =>
   obtain ⟨k,_,hk⟩:=aaJ.1 e
   have:=h _ (aaH hp k)
   unfold rR Sr at this
   rw [decide_eq_false_iff_not,Rv] at this
   exfalso
   apply this
   unfold akP fa fb fc fd at hk
   simpa [and_assoc] using hk
 have hn:=ak4 (l:=l) hp
 unfold nmC
 rw [hT,cond_false]
 have key:∀ a b c d:Bool,(a=false->b=false->c=false->d=false->False)->0 < (nW a b c d).length:=fun a b c d q=>by
  cases a<;>cases b<;>cases c<;>cases d<;>first | exact absurd trivial (fun _=>q rfl rfl rfl rfl) | decide
 refine key _ _ _ _ fun h1 h2 h3 h4=>?_
 unfold Wm at h1 h2 h3 h4
 simp only at h1 h2 h3 h4
 rw [h4] at h1 h2 h3
 rw [h3] at h1 h2
 rw [h2] at h1
 rw [hn] at h1
 cases h1
end
theorem ai8 (x:dM) (h3:x.qh.dh.length<=3) (hb:fW x.qh x.Bx x.zy=0) (hc:xL x.qh<=60) :
  ∀ (k i:Nat),i+k=x.zy.a8.length->aF (fun N g=>bI N x (nY x.qh x.Bx) (Sr x.qh x.Bx (dx x.qh x.zy.a8),0) g (LQ (lq x.zy.a8) i) (i:Int)) true:=by
 obtain ⟨z1,z2,z3,z4⟩:=Jf hb
 have hp:=Ds z1
 have hl:=MA z2
 have hs:=Rp z3
 have hlen:=hs.len
 have hg:=ak3 hp hl
 have hq:=Yx hg
 have hrl:=MJ (p:=x.qh) (l:=x.Bx)
 have hB:=aiZ hg (by omega) (by omega)
 have hz:=Sv (n:=x.qh.dh.length) (by omega) (by omega) hg
 have ok:=(Wa hz).2
 rw [ag] at ok
 intro k
 induction k with
 | zero =>
  intro i hi
  obtain rfl:i=x.zy.a8.length:=by omega
  refine aF.succ (fun N g=>bI.eq_2 ..) (aF.bd dw (aF.one ?_))
  have hx:LB (LQ (lq x.zy.a8) x.zy.a8.length) 8000000:=ai2 (by omega) fun i hi=>by
   have h1:=hs.lo i hi
   have h2:=hs.hi i hi
   have h3:=(we hp (show i < x.qh.dh.length by omega)).s2
   exact (dE (Dv (show (x.zy.a8.getD i 0).natAbs<=9000000000000000000 by omega))).le (by decide)
  have hpc:GU (nY x.qh x.Bx) (LQ (lq x.zy.a8) x.zy.a8.length)=cond (rR x.qh x.Bx x.zy.a8) 0 24:=by
   unfold GU
   rw [ct,hlen,hz,if_neg (by simp)]
   have e:=(ad3 (x:=lq x.zy.a8) ok.co).trans (sat_iff (l:=x.Bx) hs)
   cases hk:rR x.qh x.Bx x.zy.a8 with
   | true=>rw [e.2 hk];rfl
   | false =>
    cases ha:Be (nY x.qh x.Bx) (LQ (lq x.zy.a8) x.qh.dh.length) (nY x.qh x.Bx).length 0 with
    | true=>rfl
    | false=>rw [e.1 ha] at hk;cases hk
  have Au:=So hB hx
  rw [hpc] at Au
  refine Gv.bind (Gv.aR rfl Au) (Gv.bd ?_ ?_)
  ·have e:((((Sr x.qh x.Bx (dx x.qh x.zy.a8)).length:Nat):Int) == 0)=rR x.qh x.Bx x.zy.a8:=by
    unfold rR
    rw [Bool.eq_iff_iff,beq_iff_eq,decide_eq_true_eq];omega
   show cond ((0:Int) != 0) true (!((((Sr x.qh x.Bx (dx x.qh x.zy.a8)).length:Nat):Int) == 0) == (cond (rR x.qh x.Bx x.zy.a8) (0:Int) 24 == 0))=false
   rw [e];cases rR x.qh x.Bx x.zy.a8<;>rfl
  ·have al8:=Yt z1 z2 (show xL x.qh<=20000 by omega)
   rcases Yh (n:=x.qh.dh.length) (e5:=7) (by omega) hq (by omega) (.inr (by omega)) (by decide) hz with ⟨y,q1,q2⟩ | ⟨y,q1,q2⟩
   ·have none:∀ s,eX x.qh s->rR x.qh x.Bx s=false:=fun s N8=>by
     cases hk:rR x.qh x.Bx s with
     | false=>rfl
     | true=>exact (aoa q1 (sat_iff (l:=x.Bx) N8 |>.2 hk)).elim
    have hn:=ak5 hp none
    obtain ⟨r,hr,ha⟩:=Yw x.qh x.Bx x.zy
    have h16:r=([],16):=by
     rcases ha with ⟨h1,_⟩ | ⟨_,h2,_⟩ | ⟨_,_,_,h⟩ | ⟨_,_,h4,_⟩
     ·exact absurd hb h1
     ·omega
     ·exact h
     ·rw [none _ hs] at h4;cases h4
    subst h16
    have hy:LB (LQ y (nY x.qh x.Bx).length) 8000000:=ai2 (by omega) fun i hi=>(q1.rb i hi).le (by decide)
    have hcc:Gv (fun N=>jG N ((x.qh.dh.length:Nat):Int) (nY x.qh x.Bx) (LQ y (nY x.qh x.Bx).length)) 0:=by
     have:=Eg hB hy ((x.qh.dh.length:Nat):Int)
     unfold Jb at this
     rw [hz,if_neg (by simp),ct,if_neg (by simp),ag,Wp q1] at this
     exact this
    refine Gv.bind q2 (Gv.bind al8 (Gv.bd rfl (Gv.aR rfl (Gv.bind hr (Gv.bind hcc ?_)))))
    have e:decide ((((nmC x.qh x.Bx).length:Nat):Int) > 0)=true:=decide_eq_true (by omega)
    dsimp only
    rw [e]
    exact Gv.bind (Gv.aR rfl MH) (Gv.pure _)
   ·exact Gv.bind q2 (Gv.bind al8 (Gv.bd rfl (Gv.bd rfl (Gv.bind MH (Gv.pure _)))))
 | succ k ih =>
  intro i hi
  have m5:i < x.zy.a8.length:=by omega
  have h1:=hs.lo i m5
  have h2:=hs.hi i m5
  have h3:=(we hp (show i < x.qh.dh.length by omega)).s2
  refine aF.succ (fun N g=>bI.eq_2 ..) (aF.aR (dec_lt m5) (aF.if (oX m5) ?_))
  rw [ag,aH (by omega)]
  refine aF.bind (XY (by omega) (by omega)) (aF.if (by rw [ct];omega) ?_)
  show aF (fun N g=>bI N x (nY x.qh x.Bx) (Sr x.qh x.Bx (dx x.qh x.zy.a8),0) g (LQ (lq x.zy.a8) i ++ [bL (lq x.zy.a8 i)]) ((i+1:Nat):Int)) true
  rw [Wo]
  exact ih (i+1) (by omega)
theorem Gd (x:dM) (_:dM.wf x):∃ N,eh N x=some true:=by
 refine Gv.ex ?_
 have aoe:Gv (fun N=>mb N x.qh x.Bx x.zy) (fW x.qh x.Bx x.zy):=.of 41 fun N hN=>adR (by omega) ..
 unfold eh
 by_cases hn:¬ x.qh.dh.length<=3
 ·have d:decide (((x.qh.dh.length:Nat):Int) > 3)=true:=decide_eq_true (by omega)
  rw [d]
  have e:cond (cond (decide (((x.qh.pZ.length:Nat):Int) > 20)) true true) true (decide (((x.zy.a8.length:Nat):Int) > 10))=true:=by
   cases decide (((x.qh.pZ.length:Nat):Int) > 20)<;>rfl
  rw [e]
  exact Gv.bind (r:=0) (.of 0 fun N _=>rfl) (Gv.bind (r:=0) (.of 0 fun N _=>rfl) (Gv.aR rfl (Gv.bind MH (Gv.pure _))))
 ·have ht:=Classical.not_not.1 hn
  generalize cond (cond (decide (((x.qh.pZ.length:Nat):Int) > 20)) true (decide (((x.qh.dh.length:Nat):Int) > 3))) true (decide (((x.zy.a8.length:Nat):Int) > 10))=c
  cases c with
  | true=>exact Gv.bind (r:=0) (.of 0 fun N _=>rfl) (Gv.bind (r:=0) (.of 0 fun N _=>rfl) (Gv.aR rfl (Gv.bind MH (Gv.pure _))))
  | false =>
   refine Gv.bind (r:=fW x.qh x.Bx x.zy) (aoe.congr fun N=>rfl) ?_
   cases hb:fW x.qh x.Bx x.zy != 0 with
   | true=>exact Gv.bind (r:=0) (.of 0 fun N _=>rfl) (Gv.aR rfl (Gv.bind MH (Gv.pure _)))
   | false =>
    have h0:fW x.qh x.Bx x.zy=0:=by simpa using hb
    obtain ⟨z1,z2,z3,z4⟩:=Jf h0
    have hp:=Ds z1
    refine Gv.bind (r:=((Su 1 (xx x.qh):Nat):Int)) ((aiX hp).congr fun N=>rfl) ?_
    by_cases h60:60 < Su 1 (xx x.qh)
    ·exact Gv.aR (decide_eq_true (by omega)) (Gv.bind MH (Gv.pure _))
    ·refine Gv.bd (decide_eq_false (by omega)) ?_
     have asV:xL x.qh<=60:=by
      have:=acA (xx x.qh) 1 (by omega)
      unfold xL;omega
     exact Gv.bind (ai6 hp (MA z2)) (Gv.bind (adQ z1 z2 z3) (ai8 x ht h0 asV x.zy.a8.length 0 (by omega)).diag)
end Go.Den
