/- The plain law: the Lean function of the law returns true for every input, and what it needs. No conditions. -/
import Derived.Test.YtkejjbiabpdhjaaGreatTopOneEquilibriumPk
set_option linter.unusedVariables false
set_option linter.unusedSimpArgs false
namespace Go.Den
open Go.Ab
structure ac2 (r:bw):Prop where
 len:r.fx.length<=20
 co:∀ j,IR (r.fx.getD j ab.d) 100
 bo:IR r.mW 100
structure Fh (l:List bw):Prop where
 len:l.length<=60
 row:∀ i,ac2 (l.getD i bw.d)
theorem ird {n:Nat}:IR ab.d n:=⟨⟨U.nil,Nat.zero_le _⟩,⟨U.nil,Nat.zero_le _⟩⟩
theorem ac2.d:ac2 bw.d:=⟨ay,fun j=>by
 have:(bw.d.fx.getD j ab.d)=ab.d:=by cases j<;>rfl
 rw [this];exact ird,ird⟩
theorem TP {l:List bw} {i:Nat} (h:l.length<=i):l.getD i bw.d=bw.d:=by
 simp [List.getD,List.getElem?_eq_none_iff.2 h]
def Dd (l:List bw) (n:Int) (i:Nat):Prop:=(((l.getD i bw.d).fx.length:Nat):Int) > n
instance (l:List bw) (n:Int) (i:Nat):Decidable (Dd l n i):=by unfold Dd;infer_instance
def zh (l:List bw) (n:Int):Nat->Nat->Bool
 | 0,_=>false
 | k+1,i=>if Dd l n i then true else zh l n k (i+1)
def ql (n:Int) (l:List bw):Int:=if n < 0\/n > 12 then 2 else if l.length > 40 then 8 else cond (zh l n l.length 0) 11 0
theorem Kg {l:List bw} {n:Int}:∀ k i,zh l n k i=false->∀ j,i<=j->j < i+k->¬ Dd l n j
 | 0,_,_,j,b,c=>ad
 | k+1,i,h,j,b,c=>by
  rw [zh] at h;split at h
  ·cases h
  ·by_cases a:j=i
   ·rw [a];assumption
   ·exact Kg k (i+1) h j ad ad
theorem V6 {l:List bw} {n:Int} (c:l.length<=1000):∀ k i,i+k=l.length->∃ r,aq (fun N fuel=>dZ N l n fuel (i:Int)) r/\decide (r>=0)=zh l n k i
 | 0,i,hi=>⟨-1,.step 0 fun N g _ _=>by
  have:i=l.length:=ad;subst this;rw [dZ,hT];rfl,rfl⟩
 | k+1,i,hi=>by
  have a:i < l.length:=ad;obtain ⟨r,d,e⟩:=V6 (n:=n) c k (i+1) ad;have b:Gv (fun N=>vB N (l.getD i bw.d) n) (decide (Dd l n i)):=Gv.pure _;rw [zh]
  by_cases h:Dd l n i
  ·rw [if_pos h];refine ⟨(i:Int),aq.succ (fun N g=>dZ.eq_2 ..) (aq.aN (dec_lt a) (aq.if (k6 a) (aq.bind b (aq.aN (decide_eq_true h) (aq.one (Gv.pure _)))))),decide_eq_true ad⟩
  ·rw [if_neg h];refine ⟨r,aq.succ (fun N g=>dZ.eq_2 ..) (aq.aN (dec_lt a) (aq.if (k6 a) (aq.bind b (aq.a9 (decide_eq_false h) ?_)))),e⟩;rw [aX ad];exact d
theorem Bp (n:Int) (l:List bw):Gv (fun N=>qo N n l) (ql n l):=by
 unfold qo ql;have e:cond (decide (n < 0)) true (decide (n > 12))=decide (n < 0\/n > 12):=by
  by_cases h:n < 0
  ·rw [decide_eq_true h,decide_eq_true (Or.inl h)];rfl
  ·rw [decide_eq_false h,cond_false];exact decide_eq_decide.2 ⟨Or.inr,fun a=>a.resolve_left h⟩
 rw [e]
 by_cases h:n < 0\/n > 12
 ·rw [if_pos h];exact Gv.aN (decide_eq_true h) (Gv.pure _)
 ·rw [if_neg h];refine Gv.a9 (decide_eq_false h) ?_
  by_cases a:l.length > 40
  ·rw [if_pos a];exact Gv.aN (decide_eq_true ad) (Gv.pure _)
  ·rw [if_neg a];obtain ⟨r,b,c⟩:=V6 (l:=l) (n:=n) ad l.length 0 ad;refine Gv.a9 (decide_eq_false ad) (Gv.bind (r:=decide (r>=0)) (Gv.bind b.diag (Gv.pure _)) ?_);rw [c];cases zh l n l.length 0 with
   | true=>exact Gv.aN rfl (Gv.pure _)
   | false=>exact Gv.a9 rfl (Gv.pure _)
structure ac3 (n:Nat) (l:List bw):Prop where
 aqB:n<=12
 len:l.length<=40
 co:∀ i,i < l.length->(l.getD i bw.d).fx.length<=n
theorem ac4 {n:Int} {l:List bw} (h:ql n l=0):0<=n/\ac3 n.toNat l:=by
 unfold ql at h;split at h
 ·cases h
 ·split at h
  ·cases h
  ·cases e:zh l n l.length 0 with
   | true=>rw [e] at h;cases h
   | false =>
    refine ⟨ad,ad,ad,fun i hi=>?_⟩;have:=Kg _ _ e i (Nat.zero_le _) ad;unfold Dd at this;omega
def dF (c x:List ab):Nat->Nat->Rat->Rat
 | 0,_,a=>a
 | k+1,i,a=>dF c x k (i+1) (a+qv (c.getD i ab.d) * qv (x.getD i ab.d))
def akA (c x:List ab):Rat:=dF c x c.length 0 0
structure LB (l:List ab) (n:Nat):Prop where
 len:l.length<=60
 ir:∀ i,IR (l.getD i ab.d) n
theorem LB.rq {l:List ab} {n:Nat} (h:LB l n) (a:1<=n) (i:Nat):RQ (l.getD i ab.d) (qv (l.getD i ab.d)) n:=⟨h.ir i,rfl,a⟩
section
variable {c x:List ab}
theorem akB (b:LB c 100) (h:LB x 20000000000) (d:c.length<=x.length):∀ (k i m:Nat) (a:Rat),i+k=c.length->RB a m->1<=m->m+k * 20000000101<=4000000000000->aq (fun N fuel=>tR N c x fuel (bg a) (i:Int)) (bg (dF c x k i a))
 | 0,i,m,a,hi,_,_,_=>.step 0 fun N g _ _=>by
  have:i=c.length:=ad;subst this;rw [tR,hT];rfl
 | k+1,i,m,a,hi,j,o,hm=>by
  have l:i < c.length:=ad;have n:=b.len;have e:=b.rq ay i;have f:=h.rq ay i;refine aq.succ (fun N g=>tR.eq_2 ..) (aq.aN (dec_lt l) (aq.if (k6 l) (aq.if (k6 ad) ?_)));rw [ai,aX ad];refine aq.bind (e.mul f ay) (aq.bind ((j.rq o).add ((e.rb.mul f.rb).rq ay) aF) ?_);exact akB b h d k (i+1) (m+20000000101) _ ad ((j.add (e.rb.mul f.rb)).le ad) ad ad
theorem aqC (b:LB c 100) (d:LB x 20000000000) (a:c.length<=x.length):Gv (fun N=>Qw N c x) (bg (akA c x)):=by
 have:=b.len;exact Gv.bind (r:=bg 0) (oC (z:=0) ay ay) (akB b d a c.length 0 1 0 ad RB.zero ay ad).diag
theorem aoD (b:LB c 100) (d:LB x 20000000000):∀ (k i m:Nat) (a:Rat),RB a m->RB (dF c x k i a) (m+k * 20000000101)
 | 0,_,_,_,h=>h.le ad
 | k+1,i,m,a,h=>by
  rw [dF];exact (aoD b d k (i+1) (m+20000000101) _ ((h.add ((b.rq ay i).rb.mul (d.rq ay i).rb)).le ad)).le ad
theorem aqD (a:LB c 100) (b:LB x 20000000000):RB (akA c x) 1200000006061:=by
 have:=a.len;exact (aoD a b c.length 0 1 0 RB.zero).le ad
end
theorem ac2.lb {r:bw} (h:ac2 r):LB r.fx 100:=⟨by have:=h.len;omega,fun i=>(h.co i).le ay⟩
theorem ac2.brq {r:bw} (h:ac2 r):RQ r.mW (qv r.mW) 100:=⟨h.bo,rfl,ay⟩
def LI (l:List bw) (x:List ab) (i:Nat):Prop:=0 < akA (l.getD i bw.d).fx x - qv (l.getD i bw.d).mW
instance (l:List bw) (x:List ab) (i:Nat):Decidable (LI l x i):=by unfold LI;infer_instance
def I6 (l:List bw) (x:List ab):Nat->Nat->Bool
 | 0,_=>false
 | k+1,i=>if LI l x i then true else I6 l x k (i+1)
section
variable {l:List bw} {x:List ab}
theorem akC (b:Fh l) (c:LB x 20000000000) (ok:∀ i,i < l.length->(l.getD i bw.d).fx.length<=x.length):∀ k i,i+k=l.length->∃ r,aq (fun N fuel=>dz N l x fuel (i:Int)) r/\decide (r>=0)=I6 l x k i
 | 0,i,hi=>⟨-1,.step 0 fun N g _ _=>by
  have:i=l.length:=ad;subst this;rw [dz,hT];rfl,rfl⟩
 | k+1,i,hi=>by
  have a:i < l.length:=ad;have d:=b.len;obtain ⟨r,f,j⟩:=akC b c ok k (i+1) ad;have hb:=b.row i;have e:Gv (fun N=>vG N (l.getD i bw.d) x) (decide (LI l x i)):=by
   refine (aqC hb.lb c (ok i a)).bind ((((aqD hb.lb c).rq ay).cmp hb.brq ay).bind ((Gv.pure _).eq ?_));rw [mO];rfl
  rw [I6]
  by_cases h:LI l x i
  ·rw [if_pos h];refine ⟨(i:Int),aq.succ (fun N g=>dz.eq_2 ..) (aq.aN (dec_lt a) (aq.if (k6 a) (aq.bind e (aq.aN (decide_eq_true h) (aq.one (Gv.pure _)))))),decide_eq_true ad⟩
  ·rw [if_neg h];refine ⟨r,aq.succ (fun N g=>dz.eq_2 ..) (aq.aN (dec_lt a) (aq.if (k6 a) (aq.bind e (aq.a9 (decide_eq_false h) ?_)))),j⟩;rw [aX ad];exact f
theorem Yy (a:Fh l) (b:LB x 20000000000) (ok:∀ i,i < l.length->(l.getD i bw.d).fx.length<=x.length):Gv (fun N=>za N l x) (!I6 l x l.length 0):=by
 obtain ⟨r,c,d⟩:=akC a b ok l.length 0 ad;refine Gv.bind (r:=decide (r>=0)) (Gv.bind c.diag (Gv.pure _)) ?_;rw [d];exact Gv.pure _
def JL (l:List bw) (x:List ab):Int:=if ql x.length l≠0 then ql x.length l else cond (I6 l x l.length 0) 24 0
theorem UP (a:Fh l) (b:LB x 20000000000):Gv (fun N=>xG N l x) (JL l x):=by
 refine (Bp _ _).bind ?_;unfold JL
 by_cases h:ql x.length l≠0
 ·rw [if_pos h];exact Gv.aN (by simpa using h) (Gv.pure _)
 ·rw [if_neg h];have c:=ac4 (Decidable.not_not.1 h);refine Gv.a9 (by simpa using h) ((Yy a b (fun i hi=>by have:=c.2.co i hi;omega)).bind ?_);cases I6 l x l.length 0 with
  | true=>exact Gv.aN rfl (Gv.pure _)
  | false=>exact Gv.a9 rfl (Gv.pure _)
end
def yv (y:List ab) (i:Nat):Rat:=qv (y.getD i ab.d)
def cf (l:List bw) (i j:Nat):Rat:=qv ((l.getD i bw.d).fx.getD j ab.d)
def bv (l:List bw) (i:Nat):Rat:=qv (l.getD i bw.d).mW
def cS (l:List bw) (y:List ab) (j:Nat):Nat->Rat
 | 0=>0
 | i+1=>cS l y j i+yv y i * cf l i j
def bS (l:List bw) (y:List ab):Nat->Rat
 | 0=>0
 | i+1=>bS l y i+yv y i * bv l i
theorem awi:qv ab.d=0:=by decide +kernel
theorem aoE {l:List bw} {i j:Nat} (h:(l.getD i bw.d).fx.length<=j):cf l i j=0:=by
 unfold cf;rw [MV h,awi]
def lf (n:Nat) (f:Nat->Rat):List ab:=(List.range n).map fun j=>bg (f j)
theorem Pa {n:Nat} {f:Nat->Rat}:(lf n f).length=n:=by simp [lf]
theorem aeG {n:Nat} {f:Nat->Rat} {j:Nat} (h:j < n):(lf n f).getD j ab.d=bg (f j):=by simp [lf,List.getD,h]
theorem TQ {n:Nat} {f g:Nat->Rat} (h:∀ j,j < n->f j=g j):lf n f=lf n g:=by
 unfold lf;exact List.map_congr_left fun j a=>by rw [h j (List.mem_range.1 a)]
theorem aqE {n:Nat} {f:Nat->Rat} {j:Nat} {v:Rat}:(lf n f).set j (bg v)=lf n (fun t=>if t=j then v else f t):=by
 apply List.ext_getElem
 ·simp [lf]
 ·intro t a b;simp only [lf,List.getElem_set,List.getElem_map,List.getElem_range]
  by_cases h:j=t
  ·rw [if_pos h,if_pos h.symm]
  ·rw [if_neg h,if_neg (fun e=>h e.symm)]
theorem anv {n:Nat} {f:Nat->Rat}:lf n f ++ [bg (f n)]=lf (n+1) f:=by
 unfold lf;rw [List.range_succ,List.map_append];rfl
section
variable {l:List bw} {y:List ab}
theorem akD (a:Fh l) (i j:Nat):RQ ((l.getD i bw.d).fx.getD j ab.d) (cf l i j) 100:=⟨(a.row i).co j,rfl,ay⟩
theorem TS (a:LB y 20000000000) (i:Nat):RQ (y.getD i ab.d) (yv y i) 20000000000:=a.rq ay i
theorem akE (a:Fh l) (b:LB y 20000000000) (j:Nat):∀ i,RB (cS l y j i) (1+20000000101 * i)
 | 0=>RB.zero
 | i+1=>((akE a b j i).add ((TS b i).rb.mul (akD a i j).rb)).le ad
theorem akF (a:Fh l) (b:LB y 20000000000):∀ i,RB (bS l y i) (1+20000000101 * i)
 | 0=>RB.zero
 | i+1=>((akF a b i).add ((TS b i).rb.mul (a.row i).brq.rb)).le ad
theorem aax {n:Nat} (c:n<=1000) {R:List ab×ab×Bool} (b:Gv (fun N=>iZ N l y N (lf n fun _=>0) (bg 0) 0) R):∀ k j,j+k=n->aq (fun N fuel=>lC N n l y fuel (lf j (fun _=>0) ++ List.replicate k ab.d) (j:Int)) R
 | 0,j,a=>by
  have a:j=n:=ad;subst a;refine aq.succ (fun N g=>lC.eq_2 ..) (aq.a9 ?_ (aq.one (Gv.bind (r:=bg 0) (oC (z:=0) ay ay) ?_)))
  ·rw [tx,ai];exact hT
  ·simpa using b
 | k+1,j,a=>by
  have d:(lf j (fun _=>0) ++ List.replicate (k+1) ab.d).length=n:=by simp [Pa];omega
  refine aq.succ (fun N g=>lC.eq_2 ..) (aq.aN ?_ (aq.bind (r:=bg 0) (oC (z:=0) ay ay) (aq.if (k6 ad) ?_)))
  ·rw [tx,ai];exact dec_lt ad
  ·rw [ai,aX ad];have e:(lf j (fun _=>0) ++ List.replicate (k+1) ab.d).set j (bg 0)=lf (j+1) (fun _=>0) ++ List.replicate k ab.d:=by
    rw [List.set_append_right _ _ (by rw [Pa];exact aH _),Pa,Nat.sub_self,List.replicate_succ,List.set_cons_zero,<- anv,AX];rfl
   rw [e];exact aax c b k (j+1) ad
theorem akG (b:Fh l) (d:LB y 20000000000) {n i:Nat} (z:i < l.length) (c:i < y.length) (p:(l.getD i bw.d).fx.length<=n) (A:n<=12) (B:Rat) (w:RB B 1200000006061):∀ k j,j+k=(l.getD i bw.d).fx.length->∃ x,∀ N fuel,x<=N->x<=fuel->∀ K:List ab->ab->Int->Option (List ab×ab×Bool),
  lB N l y (bg B) (i:Int) K fuel (lf n fun t=>if t < j then cS l y t (i+1) else cS l y t i) (j:Int)=K (lf n fun t=>cS l y t (i+1)) (bg (B+yv y i * bv l i)) ((i+1:Nat):Int)
 | 0,j,q=>by
  have q:j=(l.getD i bw.d).fx.length:=ad;subst q;have f:=b.len;obtain ⟨r,s⟩:=(TS d i).mul (b.row i).brq ay;obtain ⟨u,e⟩:=(w.rq ay).add (((TS d i).rb.mul (b.row i).brq.rb).rq ay) ay;refine ⟨r+u+1,fun N fuel C D K=>?_⟩;obtain ⟨g,rfl⟩:=bb fuel;have m:=s N ad;have a:=e N ad;dsimp only at m a;rw [lB,ai,hT,cond_false,if_pos (k6 c)];have v:bR N (⟨((y.getD i ab.d).fN),((y.getD i ab.d).fD)⟩:ab) (⟨(((l.getD i bw.d).mW).fN),(((l.getD i bw.d).mW).fD)⟩:ab)=some (bg (yv y i * qv (l.getD i bw.d).mW)):=m;rw [v,db,a,db,aX ad];congr 1;refine TQ fun t _=>?_;split
  ·rfl
  ·rw [cS,aoE ad];grind
 | k+1,j,q=>by
  have f:=b.len;have o:j < (l.getD i bw.d).fx.length:=ad;obtain ⟨r,s⟩:=(TS d i).mul (akD b i j) ay;have E:RB (cS l y j i) 1200000006061:=(akE b d j i).le ad;obtain ⟨u,e⟩:=(E.rq ay).add (((TS d i).rb.mul (akD b i j).rb).rq ay) ay;obtain ⟨F,G⟩:=akG b d z c p A B w k (j+1) ad;refine ⟨r+u+F+1,fun N fuel C D K=>?_⟩;obtain ⟨g,rfl⟩:=bb fuel;have m:=s N ad;have a:=e N ad;dsimp only at m a;have H:(lf n fun t=>if t < j then cS l y t (i+1) else cS l y t i).getD j ab.d=bg (cS l y j i):=by rw [aeG ad,if_neg ad]
  rw [lB,ai,dec_lt o,cond_true,if_pos (k6 o),if_pos (k6 (by rw [Pa];omega)),if_pos (k6 c),ai,H];have v:bR N (⟨((y.getD i ab.d).fN),((y.getD i ab.d).fD)⟩:ab) (⟨((((l.getD i bw.d).fx).getD j ab.d).fN),((((l.getD i bw.d).fx).getD j ab.d).fD)⟩:ab)=some (bg (yv y i * cf l i j)):=m;have I:bG N (⟨(bg (cS l y j i)).fN,(bg (cS l y j i)).fD⟩:ab) (bg (yv y i * cf l i j))=some (bg (cS l y j i+yv y i * cf l i j)):=a;rw [v,db,I,db,aX ad,aqE];have J:(lf n fun t=>if t=j then cS l y j i+yv y i * cf l i j else if t < j then cS l y t (i+1) else cS l y t i)=lf n fun t=>if t < j+1 then cS l y t (i+1) else cS l y t i:=by
   refine TQ fun t _=>?_
   by_cases h:t=j
   ·subst h;rw [if_pos rfl,if_pos ad,cS]
   ·rw [if_neg h]
    by_cases e:t < j
    ·rw [if_pos e,if_pos ad]
    ·rw [if_neg e,if_neg ad]
  rw [J];exact G N g ad ad K
def GG (y:List ab):Nat->Nat->Bool
 | 0,_=>false
 | k+1,i=>if yv y i < 0 then true else GG y k (i+1)
theorem aeH (c:Fh l) (d:LB y 20000000000) {n:Nat} (ok:ac3 n l) (f:y.length=l.length):∀ k i,i+k=l.length->∃ r,aq (fun N fuel=>iZ N l y fuel (lf n fun t=>cS l y t i) (bg (bS l y i)) (i:Int)) r /\
  ((GG y k i=true/\r.2.2=false)\/(GG y k i=false/\r=(lf n fun t=>cS l y t l.length,bg (bS l y l.length),true)))
 | 0,i,hi=>by
  have hi:i=l.length:=ad;subst hi;exact ⟨_,aq.succ (fun N g=>iZ.eq_2 ..) (aq.a9 hT (aq.one (Gv.pure _))),.inr ⟨rfl,rfl⟩⟩
 | k+1,i,hi=>by
  have a:i < l.length:=ad;have m:=c.len;have b:=(TS d i).oE ay;rw [GG]
  by_cases h:yv y i < 0
  ·rw [if_pos h];refine ⟨([],bg (bS l y i),false),aq.succ (fun N g=>iZ.eq_2 ..) (aq.aN (dec_lt a) (aq.if (k6 a) (aq.if (k6 ad) (aq.bind (r:=oE (yv y i)) b ?_)))),.inl ⟨rfl,rfl⟩⟩;rw [lG];exact aq.aN (decide_eq_true h) (aq.one (Gv.pure _))
  ·rw [if_neg h];obtain ⟨r,j,o⟩:=aeH c d ok f k (i+1) ad;refine ⟨r,aq.succ (fun N g=>iZ.eq_2 ..) (aq.aN (dec_lt a) (aq.if (k6 a) (aq.if (k6 ad) (aq.bind (r:=oE (yv y i)) b ?_)))),o⟩;rw [lG];refine aq.a9 (decide_eq_false h) ?_;have p:RB (bS l y i) 1200000006061:=(akF c d i).le ad;obtain ⟨q,s⟩:=akG c d a ad (ok.co i a) ok.aqB (bS l y i) p _ 0 (Nat.zero_add _);obtain ⟨u,j⟩:=j;refine ⟨q+u,fun N fuel v w=>?_⟩;have:=s N N ad ad (iZ N l y fuel);have e:(lf n fun t=>if t < 0 then cS l y t (i+1) else cS l y t i)=lf n fun t=>cS l y t i:=TQ fun t _=>by rw [if_neg ad]
   rw [e] at this;exact this.trans (j N fuel ad ad)
theorem aay (b:Fh l) (c:LB y 20000000000) {n:Nat} (ok:ac3 n l) (a:y.length=l.length):∃ r,Gv (fun N=>Bc N n l y) r /\
  ((GG y l.length 0=true/\r.2.2=false)\/(GG y l.length 0=false/\r=(lf n fun t=>cS l y t l.length,bg (bS l y l.length),true))):=by
 have f:=ok.aqB;obtain ⟨r,d,e⟩:=aeH b c ok a l.length 0 ad;refine ⟨r,Gv.if ⟨ad,ad,ad⟩ ?_,e⟩;have:=(aax (n:=n) ad d.diag n 0 ad).diag;rw [ai];exact this
end
section
variable {l:List bw} {y:List ab} {n:Nat}
def PA (f:Nat->Rat):Nat->Nat->Bool
 | 0,_=>false
 | k+1,i=>if f i=0 then PA f k (i+1) else true
theorem aoF {f:Nat->Rat} (d:n<=1000) (b:∀ j,RB (f j) 1200000006061):∀ k i,i+k=n->∃ r,aq (fun N fuel=>dA N (lf n f) fuel (i:Int)) r/\decide (r>=0)=PA f k i
 | 0,i,hi=>by
  have e:decide ((i:Int) < (((lf n f).length:Nat):Int))=false:=by rw [Pa];exact decide_eq_false ad
  exact ⟨-1,aq.succ (fun N g=>dA.eq_2 ..) (aq.a9 e (aq.one (Gv.pure _))),rfl⟩
 | k+1,i,hi=>by
  have a:i < (lf n f).length:=by rw [Pa];omega
  obtain ⟨r,l,m⟩:=aoF d b k (i+1) ad;have c:Gv (fun N=>mo N ((lf n f).getD i ab.d)) (!decide (f i=0)):=by
   rw [aeG ad];exact (((b i).rq ay).zero ay).bind (Gv.pure _)
  rw [PA]
  by_cases h:f i=0
  ·rw [if_pos h];refine ⟨r,aq.succ (fun N g=>dA.eq_2 ..) (aq.aN (dec_lt a) (aq.if (k6 a) (aq.bind c (aq.a9 (by rw [decide_eq_true h];rfl) ?_)))),m⟩;rw [aX ad];exact l
  ·rw [if_neg h];exact ⟨(i:Int),aq.succ (fun N g=>dA.eq_2 ..) (aq.aN (dec_lt a) (aq.if (k6 a) (aq.bind c (aq.aN (by rw [decide_eq_false h];rfl) (aq.one (Gv.pure _)))))),decide_eq_true ad⟩
theorem as7 {f:Nat->Rat} (a:n<=1000) (b:∀ j,RB (f j) 1200000006061):Gv (fun N=>lP N (lf n f)) (PA f n 0):=by
 obtain ⟨r,c,d⟩:=aoF a b n 0 ad;refine Gv.bind c.diag ?_;rw [d];exact Gv.pure _
theorem awk (a:Fh l) (b:LB y 20000000000):RB (bS l y l.length) 1200000006061:=(akF a b _).le (by have:=a.len;omega)
theorem awl (a:Fh l) (b:LB y 20000000000) (j:Nat):RB (cS l y j l.length) 1200000006061:=(akE a b j _).le (by have:=a.len;omega)
def contra (l:List bw) (y:List ab) (n:Nat):Bool:=!GG y y.length 0 && decide (bS l y l.length < 0) && !PA (fun j=>cS l y j l.length) n 0
def GH (n:Int) (l:List bw) (y:List ab):Int:=if ql n l≠0 then ql n l else if y.length≠l.length then 11 else cond (contra l y n.toNat) 0 24
theorem Hy (c:Fh l) (d:LB y 20000000000) (n:Int):Gv (fun N=>nU N n l y) (GH n l y):=by
 refine (Bp _ _).bind ?_;unfold GH
 by_cases h:ql n l≠0
 ·rw [if_pos h];exact Gv.aN (by simpa using h) (Gv.pure _)
 ·rw [if_neg h];refine Gv.a9 (by simpa using h) ?_
  by_cases a:y.length≠l.length
  ·rw [if_pos a];exact Gv.aN (by simp;omega) (Gv.pure _)
  ·rw [if_neg a];have a:y.length=l.length:=Decidable.not_not.1 a;obtain ⟨n0,ok⟩:=ac4 (Decidable.not_not.1 h);have e:=ok.aqB;obtain ⟨m,rfl⟩:∃ m:Nat,n=m:=⟨n.toNat,ad⟩;rw [ai] at ok e ⊢;refine Gv.a9 (by simp;omega) ?_;obtain ⟨r,f,b⟩:=aay c d ok a;refine f.bind ?_;unfold contra;rw [a];rcases b with ⟨b,g⟩ | ⟨b,rfl⟩
   ·rw [b,g];exact Gv.bind (Gv.a9 rfl (Gv.pure 0)) (Gv.bind (Gv.a9 rfl (Gv.pure false)) (Gv.aN rfl (Gv.pure _)))
   ·rw [b];refine Gv.bind (Gv.aN rfl (((awk c d).rq ay).oE ay)) ?_;rw [Cm]
    by_cases hb:0<=bS l y l.length
    ·rw [decide_eq_true hb,decide_eq_false (show ¬ bS l y l.length < 0 by grind)];exact Gv.bind (Gv.a9 rfl (Gv.pure false)) (Gv.aN rfl (Gv.pure _))
    ·rw [decide_eq_false hb,decide_eq_true (show bS l y l.length < 0 by grind)];refine Gv.bind (Gv.aN rfl (as7 ad (awl c d))) ?_;cases PA (fun j=>cS l y j l.length) m 0 with
     | true=>exact Gv.aN rfl (Gv.pure _)
     | false=>exact Gv.a9 rfl (Gv.pure _)
end
structure M3 (l:List bw):Prop where
 co:∀ i j,RQ ((l.getD i bw.d).fx.getD j ab.d) (cf l i j) 100
 bo:∀ i,RQ (l.getD i bw.d).mW (bv l i) 100
theorem vw {α:Type} (f:Nat->α) (n:Nat):I5 f n ++ [f n]=I5 f (n+1):=by
 unfold I5;rw [List.range_succ,List.map_append];rfl
section
variable {n:Nat} {l:List bw}
abbrev D0 (n:Nat) (l:List bw):cE:=cE.fst n l.length (cf l) (bv l) 0
def TB (n:Nat) (l:List bw):re :=
 ⟨n,(l.length:Int),LN (D0 n l).k7 l.length,LN (D0 n l).fr (2 * n+1),LA (D0 n l).a l.length (2 * n+1),LQ (bv l) l.length,LQ (D0 n l).g (2 * n+1),bg 0,((2 * n+l.length:Nat):Int)⟩
theorem w2n (a:n<=12):av (2 * (n:Int))=((2 * n:Nat):Int):=a0
theorem akJ (a:n<=12) {t t2:List Int} {i:List (List ab)} {k:List ab} (u:l.length<=40) (o:t=LN (fun j=>j) (2 * n)) (p:t2=LN (D0 n l).k7 l.length) (q:i=LA (D0 n l).a l.length (2 * n+1)) (r:k=LQ (bv l) l.length) :
  ∀ (d x:Nat) (L:List ab),x+d=2 * n+1->L.length=2 * n+1->(∀ j,j < x->L.getD j ab.d=bg 0) ->
  aq (fun N g=>pS N (n:Int) l (bg 0) t t2 i k g L (x:Int)) (TB n l)
 | 0,x,L,v,b,c=>by
  refine aq.succ (fun N g=>pS.eq_2 ..) (aq.a9 (dnl (m:=x) (n:=2 * n+1) ad (by rw [tx,w2n a,aX ad];rfl)) (aq.one ((Gv.pure _).eq ?_)));have w:av (((2 * n:Nat):Int)+(l.length:Int))=((2 * n+l.length:Nat):Int):=a0
  have y:L=LQ (D0 n l).g (2 * n+1):=O9 ab.d b fun j f=>by
   rw [c j ad];simp only [cE.fst];split<;>rfl
  have z:t ++ [((2 * n+l.length:Nat):Int)]=LN (D0 n l).fr (2 * n+1):=by
   have h:=vw (fun j=>(((D0 n l).fr j:Nat):Int)) (2 * n);have A:(D0 n l).fr (2 * n)=2 * n+l.length:=by simp only [cE.fst];rw [if_neg ad]
   rw [A] at h;unfold LN;rw [<- h,o];unfold LN;congr 1;exact q9 fun j f=>by simp only [cE.fst];rw [if_pos f]
  rw [w2n a,w,z,p,q,r,y];rfl
 | d+1,x,L,v,b,c=>by
  have s:x < 2 * n+1:=ad;refine aq.succ (fun N g=>pS.eq_2 ..) (aq.aN (dlt (n:=2 * n+1) s (by rw [tx,w2n a,aX ad];rfl)) (aq.bind Dc (aq.if (inl s b) ?_)));rw [aX (show x < 9223372036854775807 by omega)];refine akJ a u o p q r d (x+1) _ ad (by rw [List.length_set];exact b) fun j f=>?_;rw [ai]
  by_cases e:x=j
  ·subst e;exact yY _ _ _ _ ad
  ·rw [sP _ _ _ e];exact c j ad
theorem akK (w:n<=12) (m:M3 l) (p:l.length<=40) {i:Nat} (hi:i < l.length) (q:(l.getD i bw.d).fx.length<=n) {t t2:List Int} {a:List (List ab)} {b:List ab} (C:a.length=i) (D:b.length=i) {rn:ab}:∀ (d x:Nat) (L:List ab),x+d=n->L.length=2 * n+1 ->
  (∀ j,j < x->L.getD j ab.d=bg (-(cf l i j))/\L.getD (n+j) ab.d=bg (cf l i j)) ->
  Ev fun N g=>∀ K,kf N (n:Int) l rn t t2 a b (i:Int) K g L (x:Int)=K (t2 ++ [((2 * n+i:Nat):Int)]) (a ++ [LQ ((D0 n l).a i) (2 * n+1)]) (b ++ [bg (bv l i)]) ((i+1:Nat):Int)
 | 0,x,L,E,k,o=>by
  have r:=(m.bo i).low ay;refine Ev.succ (((oC (z:=1) ay ay).ev.and r.ev).mono fun N g ⟨c,f⟩ K=>?_);have s:av (((2 * n:Nat):Int)+(i:Int))=((2 * n+i:Nat):Int):=a0
  have hb:qq N ⟨((l.getD i bw.d).mW).fN,((l.getD i bw.d).mW).fD⟩=some (bg (bv l i)):=f;have F:L.set (2 * n) (bg ((1:Int):Rat))=LQ ((D0 n l).a i) (2 * n+1):=by
   refine O9 ab.d (by rw [List.length_set];exact k) fun j G=>?_;simp only [cE.fst]
   by_cases e:2 * n=j
   ·rw [<- e,yY _ _ _ _ ad,if_neg ad,if_neg ad];rfl
   ·rw [sP _ _ _ e]
    by_cases h:j < n
    ·rw [if_pos h];exact (o j ad).1
    ·rw [if_neg h,if_pos ad];have:=(o (j - n) ad).2;rwa [show n+(j - n)=j by omega] at this
  rw [kf,show decide ((x:Int) < (n:Int))=false from decide_eq_false ad,cond_false,c,db,w2n w,ai,ai,if_pos (inl (show 2 * n < 2 * n+1 by omega) k),if_pos ad,hb,db,if_pos ad,s,F,aX ad]
 | d+1,x,L,E,k,o=>by
  have H:x < n:=ad;have s:av ((n:Int)+(x:Int))=((n+x:Nat):Int):=a0
  have I:RB (cf l i x) 100:=(m.co i x).rb;have y:Gv (fun N=>ke N (bg (cf l i x))) (bg (-(cf l i x))):=by
   have:=wU (I.q (show 100<=MS by decide)).ir ay (YX ay);rwa [me] at this
  have A:=akK w m p hi q C D (t:=t) (t2:=t2) (rn:=rn) d (x+1) ((L.set x (bg (-(cf l i x)))).set (n+x) (bg (cf l i x))) ad (by rw [List.length_set,List.length_set];exact k) fun j G=>by
   by_cases e:j=x
   ·subst e;refine ⟨?_,yY _ _ _ _ (by rw [List.length_set];omega)⟩;rw [sP _ _ _ ad,yY _ _ _ _ ad]
   ·rw [sP _ _ _ (show n+x≠j by omega),sP _ _ _ (show x≠j by omega),sP _ _ _ (show n+x≠n+j by omega),sP _ _ _ (show x≠n+j by omega)];exact o j ad
  have fin:∀ N g K,ke N (bg (cf l i x))=some (bg (-(cf l i x)))->(kf N (n:Int) l rn t t2 a b (i:Int) K g ((L.set x (bg (-(cf l i x)))).set (n+x) (bg (cf l i x))) ((x+1:Nat):Int)=K (t2 ++ [((2 * n+i:Nat):Int)]) (a ++ [LQ ((D0 n l).a i) (2 * n+1)]) (b ++ [bg (bv l i)]) ((i+1:Nat):Int)) ->
    uh N (n:Int) l rn t t2 a b (i:Int) L (x:Int) (kf N (n:Int) l rn t t2 a b (i:Int) K g) K (bg (cf l i x))=K (t2 ++ [((2 * n+i:Nat):Int)]) (a ++ [LQ ((D0 n l).a i) (2 * n+1)]) (b ++ [bg (bv l i)]) ((i+1:Nat):Int):=fun N g K c f=>by
   unfold uh;rw [c,db,s,ai,ai,if_pos (inl (show x < 2 * n+1 by omega) k),if_pos (inl (show n+x < 2 * n+1 by omega) k),aX ad];exact f
  by_cases B:x < (l.getD i bw.d).fx.length
  ·have r:=(m.co i x).low ay;refine Ev.succ (((Dc.ev.and y.ev).and (r.ev.and A)).mono fun N g ⟨⟨c,f⟩,J,u⟩ K=>?_);have v:qq N ⟨(((l.getD i bw.d).fx).getD x ab.d).fN,(((l.getD i bw.d).fx).getD x ab.d).fD⟩=some (bg (cf l i x)):=J;rw [kf,show decide ((x:Int) < (n:Int))=true from decide_eq_true ad,cond_true,c,db,ai,ai,dec_lt B,cond_true,if_pos (k6 B),v,db];exact fin N g K f (u K)
  ·have M:cf l i x=0:=aoE ad;refine Ev.succ (((Dc.ev.and y.ev).and A).mono fun N g ⟨⟨c,f⟩,u⟩ K=>?_);rw [kf,show decide ((x:Int) < (n:Int))=true from decide_eq_true ad,cond_true,c,db,ai,decide_eq_false ad,cond_false,<- M];exact fin N g K f (u K)
theorem akL (c:n<=12) (o:M3 l) (a:l.length<=40) (e:∀ i,i < l.length->(l.getD i bw.d).fx.length<=n):∀ d x,x+d=l.length ->
  aq (fun N g=>nN N (n:Int) l (bg 0) (LN (fun j=>j) (2 * n)) g (LN (D0 n l).k7 x) (LA (D0 n l).a x (2 * n+1)) (LQ (bv l) x) (x:Int)) (TB n l)
 | 0,x,h=>by
  have h:x=l.length:=ad;subst h;refine aq.succ (fun N g=>nN.eq_2 ..) (aq.a9 hT ?_);have k:av (av (2 * (n:Int))+1)=((2 * n+1:Nat):Int):=by rw [w2n c,aX ad]
  rw [k,ai];refine aq.if ad (aq.one ?_);exact (akJ c a rfl rfl rfl rfl (2 * n+1) 0 (List.replicate (2 * n+1) ab.d) ad tx fun j m=>absurd m (iq _)).diag
 | d+1,x,h=>by
  have f:x < l.length:=ad;have k:av (av (2 * (n:Int))+1)=((2 * n+1:Nat):Int):=by rw [w2n c,aX ad]
  obtain ⟨q,r⟩:=(akK c o a f (e x f) (t:=LN (fun j=>j) (2 * n)) (t2:=LN (D0 n l).k7 x) (qC (D0 n l).a x (2 * n+1)) (cM (bv l) x) (rn:=bg 0) n 0 (List.replicate (2 * n+1) ab.d) ad tx fun j m=>absurd m (iq _));obtain ⟨s,u⟩:=akL c o a e d (x+1) ad;refine aq.succ (fun N g=>nN.eq_2 ..) (aq.aN (dec_lt f) (aq.if (k6 f) (aq.if (by rw [jy];omega) ?_)));rw [k,ai];refine aq.if ad ⟨q+s,fun N g z A=>?_⟩;have v:=vw (fun i=>(((D0 n l).k7 i:Nat):Int)) x;have p:=vw (fun i=>LQ ((D0 n l).a i) (2 * n+1)) x;have w:=vw (fun i=>bg (bv l i)) x;have y:=r N N ad ad (nN N (n:Int) l (bg 0) (LN (fun j=>j) (2 * n)) g);refine y.trans ?_;have b:=u N g ad ad;unfold LN LA LQ at b ⊢;unfold LQ at p;rw [<- v,<- p,<- w] at b;exact b
theorem akM (c:n<=12) (h:M3 l) (a:l.length<=40) (b:∀ i,i < l.length->(l.getD i bw.d).fx.length<=n):∀ d x,x+d=2 * n ->
  aq (fun N g=>pT N (n:Int) l (bg 0) g (LN (fun j=>j) x) (x:Int)) (TB n l)
 | 0,x,e=>by
  have e:x=2 * n:=ad;subst e;refine aq.succ (fun N g=>pT.eq_2 ..) (aq.a9 (by rw [w2n c];exact decide_eq_false ad) (aq.if (by rw [jy];omega) (aq.one ?_)));exact (akL c h a b l.length 0 ad).diag
 | d+1,x,e=>by
  refine aq.succ (fun N g=>pT.eq_2 ..) (aq.aN (by rw [w2n c];exact decide_eq_true ad) (aq.if (by rw [jy];omega) ?_));have k:=vw (fun i=>((i:Nat):Int)) x;have f:=akM c h a b d (x+1) ad;rw [aX ad];unfold LN at f ⊢;rw [<- k] at f;exact f
theorem akN (c:n<=12) (d:M3 l) (a:l.length<=40) (b:∀ i,i < l.length->(l.getD i bw.d).fx.length<=n):Gv (fun N=>Jt N (n:Int) l) (TB n l) :=
 Dc.bind (akM c d a b (2 * n) 0 ad).diag
theorem ac5 (a:M3 l):(D0 n l).Ng l.length (2 * n+1) 100:=by
 have b:∀ i j,RB (cf l i j) 100:=fun i j=>(a.co i j).rb;refine ⟨fun i j _ _=>?_,fun i _=>(a.bo i).rb,fun j _=>?_,RB.zero.le ay⟩
 ·simp only [cE.fst];split
  ·exact (b i j).neg
  ·split
   ·exact b i _
   ·exact cE.RB1.le ay
 ·simp only [cE.fst];split<;>exact RB.zero.le ay
end
section
variable {n m k h s:Nat} {D:cE}
theorem aeI (hm:m<=1000) (A:n<=400) (t:k<=1000) (u:s<=MS) (hw:D.WF m k) (w:∀ j,j < k->RB (D.g j) s):∀ (d x:Nat) (L:List ab),x+d=m->L.length=m->(∀ i,i < x->L.getD i ab.d=bg (-(D.gc k (2 * n+i)))) ->
  aq (fun N g=>du N (n:Int) (m:Int) (bg D.v).fN.fG (bg D.v).fN.fL (bg D.v).fD.fG (bg D.v).fD.fL (h:Int) (LN D.k7 m) (LN D.fr k) (LA D.a m k) (LQ D.b m) (LQ D.g k) g L (x:Int)) (LQ (fun i=>-(D.gc k (2 * n+i))) m)
 | 0,x,L,B,a,l=>aq.succ (fun N g=>du.eq_2 ..) (aq.a9 (dnl (m:=x) (n:=m) ad (by rw [tx];rfl)) (aq.one ((Gv.pure _).eq (O9 ab.d a fun i hi=>l i ad))))
 | d+1,x,L,B,a,l=>by
  have o:x < m:=ad;have C:av (av (2 * (n:Int))+(x:Int))=((2 * n+x:Nat):Int):=by
   rw [show av (2 * (n:Int))=((2 * n:Nat):Int) by rw [bD ad ad];omega,bD ad ad];omega
  obtain ⟨r,E,b⟩:=Yx (f:=D.fr) (k:=k) (v:=2 * n+x) t;have z:∀ (y:ab),y=bg (-(D.gc k (2 * n+x)))->∀ p:List ab,p=L.set x y->aq (fun N g=>du N (n:Int) (m:Int) (bg D.v).fN.fG (bg D.v).fN.fL (bg D.v).fD.fG (bg D.v).fD.fL (h:Int) (LN D.k7 m) (LN D.fr k) (LA D.a m k) (LQ D.b m) (LQ D.g k) g p ((x+1:Nat):Int)) (LQ (fun i=>-(D.gc k (2 * n+i))) m):=fun y F p G=>by
   subst G;refine aeI hm A t u hw w d (x+1) _ ad (by rw [List.length_set];exact a) fun i hi=>?_
   by_cases e:x=i
   ·subst e;rw [yY _ _ _ _ ad];exact F
   ·rw [sP _ _ _ e];exact l i ad
  refine aq.succ (fun N g=>du.eq_2 ..) (aq.aN (dlt (n:=m) o (by rw [tx];rfl)) (aq.bind Dc (aq.if (inl o a) ?_)));rw [C];refine aq.bind E ?_;simp only [jw,ai,aX (show x < 9223372036854775807 by omega)];rcases b with ⟨rfl,b⟩ | ⟨j,rfl,c,b⟩
  ·exact aq.a9 ay (z _ (by rw [cE.Yv b];rfl) _ rfl)
  ·have q:=w j c;refine aq.aN aD (aq.if (inl c (cM _ _)) ?_);simp only [lL _ _ c,ai,List.set_set];refine aq.bind (r:=bg (-(D.g j))) (by have:=wU (q.q u).ir ay (YX ay);rwa [me] at this) (aq.if (inl o (by rw [List.length_set];exact a)) ?_);exact z _ (by rw [<- b,cE.akk hw c]) _ rfl
theorem anw (hm:m<=1000) (a:n<=400) (b:k<=1000) (c:s<=MS) (hw:D.WF m k) (d:∀ j,j < k->RB (D.g j) s) :
  Gv (fun N=>m6 N (n:Int) (m:Int) (bg D.v).fN.fG (bg D.v).fN.fL (bg D.v).fD.fG (bg D.v).fD.fL (h:Int) (LN D.k7 m) (LN D.fr k) (LA D.a m k) (LQ D.b m) (LQ D.g k)) (LQ (fun i=>-(D.gc k (2 * n+i))) m) :=
 Gv.if ad (aeI hm a b c hw d m 0 (List.replicate m ab.d) ad tx fun i hi=>absurd hi (iq _)).diag
def Nh (D:cE) (m u:Nat):Rat:=match D.rix m u with
 | some i=>D.b i
 | none=>0
theorem aeJ (D:cE) (m k u:Nat):Nh D m u=D.ext m k cE.Cn u:=by
 unfold Nh cE.ext;cases D.rix m u with
 | none=>rfl
 | some i=>simp only [cE.Bm]
theorem aoH (hm:m<=1000) (hw:∀ i i',i < m->i' < m->D.k7 i=D.k7 i'->i=i') (u:Nat) :
  Gv (fun N=>tL N (u:Int) (n:Int) (m:Int) (bg D.v).fN.fG (bg D.v).fN.fL (bg D.v).fD.fG (bg D.v).fD.fL (h:Int) (LN D.k7 m) (LN D.fr k) (LA D.a m k) (LQ D.b m) (LQ D.g k)) (bg (Nh D m u)):=by
 obtain ⟨r,b,a⟩:=Yx (f:=D.k7) (k:=m) (v:=u) hm;refine Gv.bind b ?_;rcases a with ⟨rfl,a⟩ | ⟨i,rfl,hi,a⟩
 ·refine Gv.a9 ay (Dc.bind ((Gv.pure _).eq ?_));unfold Nh;rw [cE.Ff a]
 ·refine Gv.aN aD (Gv.if (inl hi (cM _ _)) ((Gv.pure _).eq ?_));simp only [ai,lL _ _ hi];unfold Nh;rw [<- a,cE.JJ hw hi]
theorem aaz (hm:m<=1000) (j:n<=400) (l:2 * s+1<=MS) (hw:∀ i i',i < m->i' < m->D.k7 i=D.k7 i'->i=i') (c:∀ u,RB (Nh D m u) s):∀ (d x:Nat) (L:List ab),x+d=n->L.length=n->(∀ i,i < x->L.getD i ab.d=bg (Nh D m i - Nh D m (n+i))) ->
  aq (fun N g=>iK N (n:Int) (m:Int) (bg D.v).fN.fG (bg D.v).fN.fL (bg D.v).fD.fG (bg D.v).fD.fL (h:Int) (LN D.k7 m) (LN D.fr k) (LA D.a m k) (LQ D.b m) (LQ D.g k) g L (x:Int)) (LQ (fun i=>Nh D m i - Nh D m (n+i)) n)
 | 0,x,L,o,b,f=>aq.succ (fun N g=>iK.eq_2 ..) (aq.a9 (dnl (m:=x) (n:=n) ad (by rw [tx];rfl)) (aq.one ((Gv.pure _).eq (O9 ab.d b fun i hi=>f i ad))))
 | d+1,x,L,o,b,f=>by
  have a:x < n:=ad;have p:av ((n:Int)+(x:Int))=((n+x:Nat):Int):=a0
  have q:=(c x).q (show s<=MS by omega);have r:=(c (n+x)).q (show s<=MS by omega);refine aq.succ (fun N g=>iK.eq_2 ..) (aq.aN (dlt (n:=n) a (by rw [tx];rfl)) (aq.bind (aoH hm hw x) ?_));rw [p];refine aq.bind (aoH hm hw (n+x)) (aq.bind (q.sub r (YX ay)) (aq.if (inl a b) ?_));rw [aX (show x < 9223372036854775807 by omega),ai];refine aaz hm j l hw c d (x+1) _ ad (by rw [List.length_set];exact b) fun i hi=>?_
  by_cases e:x=i
  ·subst e;exact yY _ _ _ _ ad
  ·rw [sP _ _ _ e];exact f i ad
theorem akO (hm:m<=1000) (a:n<=400) (b:2 * s+1<=MS) (hw:∀ i i',i < m->i' < m->D.k7 i=D.k7 i'->i=i') (c:∀ u,RB (Nh D m u) s) :
  Gv (fun N=>s9 N (n:Int) (m:Int) (bg D.v).fN.fG (bg D.v).fN.fL (bg D.v).fD.fG (bg D.v).fD.fL (h:Int) (LN D.k7 m) (LN D.fr k) (LA D.a m k) (LQ D.b m) (LQ D.g k)) (LQ (fun i=>Nh D m i - Nh D m (n+i)) n) :=
 Gv.if ad (aaz hm a b hw c n 0 (List.replicate n ab.d) ad tx fun i hi=>absurd hi (iq _)).diag
end
section
variable {n:Nat} {l:List bw}
structure aeK (q:Nat) (n:Nat) (l:List bw) (y:Nat->Rat):Prop where
 nn:∀ i,i < l.length->0<=y i
 col:∀ j,j < n->aV l.length (fun i=>y i * cf l i j)=0
 neg:aV l.length (fun i=>y i * bv l i) < 0
 rb:∀ i,i < l.length->RB (y i) q
structure as8 (q:Nat) (n:Nat) (l:List bw) (x:Nat->Rat):Prop where
 ok:∀ i,i < l.length->cE.Fg n (cf l) x i<=bv l i
 rb:∀ j,j < n->RB (x j) q
variable {e5:Nat}
abbrev ZZ (e5:Nat):Nat:=5 ^ e5 * 100
theorem ZZ1 (e5:Nat):100<=ZZ e5:=Nat.le_mul_of_pos_left _ (Nat.pow_pos ay)
theorem Yz {D:cE} (c:M3 l) (d:cE.Ok5 (2 * n+1) 100 e5) (h:QB n l.length (cf l) (bv l) D):aeK (ZZ e5) n l (fun i=>-(D.gc (2 * n+1) (2 * n+i)))/\∀ j,j < 2 * n+1->RB (D.g j) (ZZ e5):=by
 obtain ⟨f,g,k⟩:=cE.as4 h.wf h.eqv h.g;have b:=cE.aau d h.wf (cE.TH n l.length (cf l) (bv l) (-1)) h.eqv (aeF (-1) (cE.RB1.neg.le ay) (ac5 c)) (by decide:1<=100);have m:=ZZ1 e5;refine ⟨⟨fun i _=>by have:=f (2 * n+i);grind,g,by rw [k];exact h.v,fun i _=>?_⟩,fun j a=>b.g j a⟩
 by_cases e:∃ j,j < 2 * n+1/\D.fr j=2 * n+i
 ·obtain ⟨j,a,e⟩:=e;rw [<- e,cE.akk h.wf a];exact (b.g j a).neg
 ·rw [cE.Yv fun j a q=>e ⟨j,a,q⟩];exact RB.zero.neg.le (gf ay m)
theorem UQ {D:cE} {c:Nat} (d:M3 l) (f:cE.Ok5 (2 * n+1) 100 e5) (h:M1 n l.length (cf l) (bv l) D c):as8 (2 * ZZ e5+1) n l (fun j=>Nh D l.length j - Nh D l.length (n+j))/\∀ u,RB (Nh D l.length u) (ZZ e5):=by
 obtain ⟨z,he⟩:=h.eqv
 -- the goal does not matter
 have k:∀ i,i < l.length->RB (D.b i) (ZZ e5):=fun i hi=>by
  have m:cE.LU l.length (2 * n+1) (cE.fst n l.length (cf l) (bv l) 0) { D with g:=fun j=>if D.fr j=2 * n+l.length then 0 else 0,v:=0 }:=⟨fun x=>by
   rw [<- cE.aav n l.length (cf l) (bv l) z D x he];exact Iff.rfl,fun x _=>by
   rw [cE.akl];unfold cE.gv;rw [bc (g:=fun _=>0) fun j _=>aD,kL];grind⟩
  have hw:cE.WF { D with g:=fun j=>if D.fr j=2 * n+l.length then 0 else 0,v:=0 } l.length (2 * n+1):=⟨h.wf.bi,h.wf.fi,h.wf.bf,h.wf.bl,h.wf.fl,h.wf.al⟩;exact ((cE.aau f hw (cE.TH n l.length (cf l) (bv l) 0) m (ac5 d) (by decide:1<=100)).b i hi)
 have a:∀ u,RB (Nh D l.length u) (ZZ e5):=fun u=>by
  by_cases e:∃ i,i < l.length/\D.k7 i=u
  ·obtain ⟨i,hi,e⟩:=e;unfold Nh;rw [<- e,cE.JJ h.wf.bi hi];exact k i hi
  ·unfold Nh;rw [cE.Ff fun i hi q=>e ⟨i,hi,q⟩];exact RB.zero.le (gf ay (ZZ1 e5))
 refine ⟨⟨fun i hi=>?_,fun j _=>((a j).sub (a (n+j))).le ad⟩,a⟩;have b:=(cE.aav n l.length (cf l) (bv l) z D _ he).1 (cE.zg h.wf cE.Cn);have b:=(cE.QA n l.length (cf l) (bv l) 0 _).1 b i hi;have o:D.ext l.length (2 * n+1) cE.Cn (2 * n+l.length)=0:=by rw [<- h.fr,cE.DW h.wf h.lt];rfl
 have p:=cE.O8 h.wf h.fea (2 * n+i) ad;rw [o] at b;have e:(fun j=>Nh D l.length j - Nh D l.length (n+j))=fun j=>D.ext l.length (2 * n+1) cE.Cn j - D.ext l.length (2 * n+1) cE.Cn (n+j):=by
  funext j;rw [aeJ D _ (2 * n+1),aeJ D _ (2 * n+1)]
 rw [e];grind
theorem YA (D:cE) (c m u:Nat):Nh (D.del c) m u=Nh D m u:=by
 have e:∀ m,cE.rix (D.del c) m u=cE.rix D m u:=fun m=>by
  induction m with
  | zero=>rfl
  | succ m a=>rw [cE.rix,cE.rix,a];rfl
 unfold Nh;rw [e];rfl
theorem aaA (t:n<=12) (b:M3 l) (d:l.length<=40) (f:cE.Ok5 (2 * n+1) 100 e5) (v:5 * ZZ e5<=MS) (o:ql n l=0) :
  (∃ y,aeK (ZZ e5) n l y/\Gv (fun N=>xy N (n:Int) l) ([],LQ y l.length,29))\/∃ x,as8 (2 * ZZ e5+1) n l x/\Gv (fun N=>xy N (n:Int) l) (LQ x n,[],0):=by
 obtain ⟨_,ok⟩:=ac4 o;rw [ai] at ok;have hb:=akN (n:=n) t b d ok.co;obtain ⟨r,p,a⟩:=agd (n:=n) (m:=l.length) (C:=cf l) (B:=bv l) (s:=100) (e5:=e5) f ad ad (ac5 b) ay v;have q:(ql (n:Int) l != 0)=false:=by rw [o];rfl
 rcases a with ⟨D,a,rfl⟩ | ⟨D,c,a,rfl⟩
 ·obtain ⟨g,i⟩:=Yz b f a;refine .inl ⟨_,g,(Bp _ _).bind (Gv.a9 q (hb.bind (p.bind ?_)))⟩;simp only [RS,TB,jy,qC,cM];refine Gv.if trivial (Gv.if trivial (Gv.if trivial (Gv.aN rfl ((anw ad ad ad (by omega:ZZ e5<=MS) a.wf i).bind (Gv.pure _)))))
 ·obtain ⟨g,i⟩:=UQ b f a;refine .inr ⟨_,g,(Bp _ _).bind (Gv.a9 q (hb.bind (p.bind ?_)))⟩;simp only [RS,TB,jy,qC,cM];have w:=ZZ1 e5;have:=akO (n:=n) (k:=2 * n) (h:=2 * n+l.length) (D:=D.del c) (m:=l.length) ad ad (s:=ZZ e5) ad a.wf.bi (fun u=>by rw [YA];exact i u);have e:LQ (fun j=>Nh (D.del c) l.length j - Nh (D.del c) l.length (n+j)) n=LQ (fun j=>Nh D l.length j - Nh D l.length (n+j)) n:=x8 fun j _=>by rw [YA,YA]
  rw [e] at this;exact Gv.if trivial (Gv.if trivial (Gv.if trivial (Gv.a9 rfl (this.bind (Gv.pure _)))))
end
section
variable {c:cO} {y:ab} {p:Rat} {n m:Nat}
def sl (t s:Nat->Rat) (y:Rat):Nat->Nat->Rat->Rat
 | 0,_,o=>o
 | k+1,i,o=>sl t s y k (i+1) (if t i<=y then s i else o)
theorem aeL {t s:Nat->Rat} {n:Nat} (up:Up t n) {y:Rat}:∀ (k i:Nat) (o:Rat),i+k=n->(0 < k->¬ t i<=y)->sl t s y k i o=o
 | 0,_,_,_,_=>rfl
 | k+1,i,o,hi,h=>by
  have:=h ad;rw [sl,if_neg this];exact aeL up k (i+1) o ad (fun a=>by have:=up i ad;grind)
theorem V7 (up:Up (ct c) (cn c)) {y:Rat}:∀ (k i:Nat) (b:Rat),i+k=cn c->Kf aj2 c y k i b b=sl (ct c) (cq c) y k i b
 | 0,i,b,_=>rfl
 | k+1,i,b,hi=>by
  rw [Kf];have e:(cs c i:Rat)=ct c i:=rfl;rw [e]
  by_cases h:y - ct c i < 0
  ·rw [if_pos h,aeL up (k+1) i b hi (fun _=>by grind)]
  ·rw [if_neg h,sl,if_pos (by grind)];have a:aj2 (cq c i - b) (y - ct c i) b=cq c i:=by unfold aj2;grind
   rw [a];exact V7 up k (i+1) (cq c i) ad
def Sc (c:cO) (y:Rat):Rat:=sl (ct c) (cq c) y (cn c) 0 0
theorem aoI (h:CB c n) {y:Rat}:∀ (k i:Nat) {o:Rat},RB o n->RB (sl (ct c) (cq c) y k i o) n
 | 0,_,_,a=>a
 | k+1,i,o,a=>by
  rw [sl];refine aoI h k (i+1) ?_;split
  ·exact (h.rq i).rb
  ·exact a
theorem as9 (h:CB c n) (y:Rat):RB (Sc c y) n:=aoI h _ _ (RB.zero.le h.one)
theorem anx (h:CB c n) (b:nm c=0) (a:RQ y p m) (d:n<=100000) (e:m<=9000000000):Gv (fun N=>Et N c y) (bg (Sc c p),0):=by
 have:=aj4 h b a.ir a.pos d e;rw [a.v] at this;unfold aah at this;rwa [V7 (Fc b).up _ 0 0 (Nat.zero_add _)] at this
theorem ata (h:CB c n) (a:uJ c) {i:Nat} (hi:i < cn c):RB (fs (ct c) (cq c) i) (1+40 * (n+4+20)):=by
 have b:=asU h a (a.rq hi).rb;have d:Vc c (ct c i)=fs (ct c) (cq c) i:=aoB a.up hi;rwa [d] at b
def UR (c:cO):ab×Bool:=if cn c=0 then (bg 0,true) else if cq c (cn c - 1)=0 then (bg (fs (ct c) (cq c) (cn c - 1)),true) else (x7,false)
theorem PB (h:CB c n) (b:uJ c) (r:n<=10000):∀ (k i:Nat) (l:Nat),i+k+1=cn c->RB (fs (ct c) (cq c) i) l->1<=l->l+k * (n+20)<=100000000 ->
  aq (fun N fuel=>iw N c fuel (bg (fs (ct c) (cq c) i)) (i:Int)) ((UR c).1,(UR c).2,0)
 | 0,i,l,hi,_,_,_=>by
  have d:cn c<=40:=b.len;have m:=b.UO;have e:i < c.ah.length:=by simp only [cn] at hi;omega
  have s:decide ((((i+1:Nat):Nat):Int) < (c.ah.length:Int))=false:=decide_eq_false (by simp only [cn] at hi;omega);refine aq.succ (fun N g=>iw.eq_2 ..) (aq.aN (dec_lt e) (aq.if (k6 e) ?_));rw [aX ad,s,ai];refine aq.a9 rfl (aq.if (k6 ad) (aq.bind ((h.rq i).zero aF) ?_));unfold UR;rw [if_neg ad,show cn c - 1=i by omega]
  by_cases f:cq c i=0
  ·rw [if_pos f,decide_eq_true f];refine aq.a9 rfl ?_;unfold pJ;rw [aX ad];have j:i+1=c.ah.length:=by simp only [cn] at hi;omega
   rw [j];refine aq.succ (fun N g=>iw.eq_2 ..) (aq.a9 hT (aq.one (Gv.pure _)))
  ·rw [if_neg f,decide_eq_false f];exact aq.aN rfl (aq.one (Gv.pure _))
 | k+1,i,l,hi,p,o,t=>by
  have d:cn c<=40:=b.len;have m:=b.UO;have e:i < c.ah.length:=by simp only [cn] at hi;omega
  have a:i+1 < cn c:=ad;have u:(k+1) * (n+20)=k * (n+20)+(n+20):=Nat.succ_mul _ _;have q:=b.asS a;have j:=(h.rq i).rb.mul q;refine aq.succ (fun N g=>iw.eq_2 ..) (aq.aN (dec_lt e) (aq.if (k6 e) ?_));rw [aX ad,ai,ai];refine aq.aN (dec_lt a) (aq.if (k6 ad) (aq.if (k6 a) (aq.bind (b.gap a) (aq.bind ((h.rq i).mul (q.rq ay) aF) (aq.bind ((p.rq o).add (j.rq ad) aF) ?_)))));unfold pJ;rw [aX ad];exact PB h b r k (i+1) (l+(n+20)) ad ((p.add j).le ad) ad ad
theorem aaB (h:CB c n) (b:nm c=0) (i:n<=10000):Gv (fun N=>xz N c) ((UR c).1,(UR c).2,0):=by
 refine (zf h aF).bind (Gv.a9 (by rw [b];rfl) ?_);have d:=Fc b;have e:cn c<=40:=d.len;refine Gv.bind (r:=bg 0) (oC (z:=0) ay ay) ?_
 by_cases a:cn c=0
 ·unfold UR;rw [if_pos a];have j:decide ((0:Int) < (c.ah.length:Int))=false:=by
   have a:c.ah.length=0:=a;rw [a];rfl
  refine aq.diag (f:=fun N fuel=>iw N c fuel (bg 0) 0) (aq.succ (fun N g=>iw.eq_2 ..) (aq.a9 j (aq.one (Gv.pure _))))
 ·have:=dU (n+20) (show cn c - 1<=40 by omega);exact (PB h d i (cn c - 1) 0 1 ad RB.zero ay ad).diag
end
def I64 (z:Int):Prop:=-9223372036854775808<=z/\z<=9223372036854775807
theorem RB.one:RB 1 1:=RB.int (z:=1) (ZB.small ay) ay
theorem aqG {z:Int} (h:I64 z):Gv (fun N=>Kz N z) (Hb z):=aox h.1 h.2
theorem age {z:Int} (h:I64 z):Gv (fun N=>yD N (Hb z)) (bg (z:Rat)):=(ZB.word h.1 h.2).zi.whole ay ay
def Ok {α:Type} (z:α) (f:Nat->Option α) (P:Prop):Prop:=∃ c,Gv f c/\(c=z->P)
def ub {α:Type} (z:α) (f:Nat->Nat->Option α) (P:Prop):Prop:=∃ c,aq f c/\(c=z->P)
section
variable {α:Type} {z:α} {f f' g:Nat->Nat->Option α} {P Q:Prop}
theorem ub.diag (h:ub z f P):Ok z (fun N=>f N N) P:=let ⟨c,a,b⟩:=h;⟨c,a.diag,b⟩
theorem ub.imp (h:ub z f P) (hq:P->Q):ub z f Q:=let ⟨c,a,b⟩:=h;⟨c,a,fun e=>hq (b e)⟩
theorem ub.aqH (h:P):ub z (fun _ _=>some z) P:=⟨z,⟨0,fun _ _ _ _=>rfl⟩,fun _=>h⟩
theorem ub.err {c:α} (a:c≠z):ub z (fun _ _=>some c) P:=⟨c,⟨0,fun _ _ _ _=>rfl⟩,fun h=>absurd h a⟩
theorem ub.succ (e:∀ N g,f N (g+1)=f' N g) (h:ub z f' P):ub z f P:=by
 obtain ⟨c,⟨a,b⟩,d⟩:=h;exact ⟨c,.step a fun N g i j=>(e N g).trans (b N g i j),d⟩
theorem ub.bind {β:Type} {f:Nat->Option β} {k:Nat->Nat->β->Option α} {r:β} (h:Gv f r) (a:ub z (fun N g=>k N g r) P):ub z (fun N g=>(f N).bind (k N g)) P:=by
 obtain ⟨b,h⟩:=h;obtain ⟨c,⟨d,e⟩,a⟩:=a;exact ⟨c,⟨b+d,fun N g i j=>by dsimp only;rw [h N ad];exact e N g ad ad⟩,a⟩
theorem ub.if {p:Prop} [Decidable p] (a:p) (h:ub z f P):ub z (fun N g=>if p then f N g else none) P:=by
 have e:(fun N g=>if p then f N g else none)=f:=by funext N g;exact if_pos a
 rw [e];exact h
theorem ub.cond {q:Bool} (a:q=true->ub z f P) (b:q=false->ub z g P):ub z (fun N n=>cond q (f N n) (g N n)) P:=by
 cases q
 ·exact b rfl
 ·exact a rfl
theorem ub.go {F:Nat->Nat->Option α} {i n:Nat} (hi:i < n) (e:∀ N m,F N (m+1)=_root_.cond (decide ((i:Int) < ((n:Nat):Int))) (f N m) (g N m)) (h:ub z f P):ub z F P:=.succ (fun N m=>(e N m).trans (by rw [dec_lt hi];rfl)) h
theorem ub.stop {F:Nat->Nat->Option α} {n:Nat} (e:∀ N m,F N (m+1)=_root_.cond (decide ((n:Int) < ((n:Nat):Int))) (f N m) (g N m)) (h:ub z g P):ub z F P:=.succ (fun N m=>(e N m).trans (by rw [hT];rfl)) h
theorem ub.loop {L:Nat->Nat->Int->Option α} {n:Nat} {P:Nat->Prop} (step:∀ i,i < n->∀ R:Prop,(P i->ub z (fun N g=>L N g ((i+1:Nat):Int)) R)->ub z (fun N g=>L N g (i:Int)) R) (fin:(∀ i,i < n->P i)->ub z (fun N g=>L N g (n:Int)) Q) :
  ub z (fun N g=>L N g 0) ((∀ i,i < n->P i)/\Q):=by
 have key:∀ k i,i+k=n->(∀ j,j < i->P j)->ub z (fun N g=>L N g (i:Int)) ((∀ j,j < n->P j)/\Q):=fun k=>by
  induction k with
  | zero =>
   intro i hi a;have:i=n:=ad;subst this;exact (fin a).imp fun q=>⟨a,q⟩
  | succ k b =>
   intro i hi a;refine step i ad _ fun hq=>b (i+1) ad fun j c=>?_
   by_cases e:i=j
   ·exact e ▸ hq
   ·exact a j ad
 exact key n 0 ad fun j h=>absurd h (iq _)
end
theorem aq.go {α:Type} {F f g:Nat->Nat->Option α} {r:α} {i n:Nat} (hi:i < n) (e:∀ N m,F N (m+1)=cond (decide ((i:Int) < ((n:Nat):Int))) (f N m) (g N m)) (h:aq f r):aq F r:=.succ (fun N m=>(e N m).trans (by rw [dec_lt hi];rfl)) h
theorem aq.stop {α:Type} {F f g:Nat->Nat->Option α} {r:α} {n:Nat} (e:∀ N m,F N (m+1)=cond (decide ((n:Int) < ((n:Nat):Int))) (f N m) (g N m)) (h:aq g r):aq F r:=.succ (fun N m=>(e N m).trans (by rw [hT];rfl)) h
theorem aq.rounds {α:Type} {L:Nat->Nat->Int->Option α} {n:Nat} {r:α} (step:∀ i,i < n->aq (fun N g=>L N g ((i+1:Nat):Int)) r->aq (fun N g=>L N g (i:Int)) r) (fin:aq (fun N g=>L N g (n:Int)) r):aq (fun N g=>L N g 0) r:=by
 have key:∀ k i,i+k=n->aq (fun N g=>L N g (i:Int)) r:=fun k=>by
  induction k with
  | zero =>
   intro i hi;have:i=n:=ad;subst this;exact fin
  | succ k a=>intro i hi;exact step i ad (a (i+1) ad)
 exact key n 0 ad
def fi (p:Nat->Bool) (n:Nat):Int:=scan (fun k=>cond (p k) (some (k:Int)) none) (-1) n 0
theorem Gv.Fi {α:Type} {f:Nat->Option α} {r:α} (h:Gv f r):Gv (fun N=>(f N).bind fun x=>some x) r:=h.bind (Gv.pure _)
section
variable {X α:Type} {f f':Nat->Nat->X->Option α} {r:X->Option α}
end
theorem gJ {z:Int} (h:I64 z):Gv (fun N=>ao N z) (bg (z:Rat)):=(aqG h).bind (age h).Fi
theorem QC:RQ x7 0 1:=⟨⟨⟨(fun x (a:x∈([]:List Int))=>by cases a),ay⟩,⟨(fun x (a:x∈([]:List Int))=>by cases a),ay⟩⟩,by decide +kernel,ay⟩
section
variable {x y:ab} {p q:Rat} {m n:Nat}
theorem M4 (a:RQ x p m) (b:SM (2 * (m+2)+2)):Gv (fun N=>dY N x) (oE p):=(((a.cmp QC b).eq (by grind))).Fi
theorem aaC (a:RQ x p m) (b:RQ y q n) (c:q≠0) (d:SM (2 * (m+n)+2)):Gv (fun N=>nv N x y) (bg (p / q)):=(a.div b c d).bind (Gv.pure _)
theorem awo (a:RQ x p m) (b:SM (2 * (m+2)+2)):Gv (fun N=>tf N x) (bg p):=((a.add QC b).eq (by grind)).Fi
theorem atb (a:RQ x p m) (b:SM (2 * (1+m+1)+2)):Gv (fun N=>nC N x) (bg (-p)):=((QC.sub a b).eq (by rw [show 0 - p = -p by grind])).Fi
end
structure SB (s:af):Prop where
 xl:-1000000<=s.z9
 xh:s.z9<=1000000
 c:IR s.Rp 3
 cl:-10000000<=qv s.Rp
 ch:qv s.Rp<=10000000
 cv:CB s.aY 3
 code:nm s.aY=0
 four:cn s.aY<=4
abbrev sx (s:af):Rat:=(s.z9:Rat)
abbrev sc (s:af):Rat:=qv s.Rp
abbrev sf (s:af) (u:Rat):Rat:=Vc s.aY u
def su (s:af) (h t:Rat):Rat:=sc s+(h+t * sx s)
abbrev aQ (h t:Rat):aw:=⟨bg h,bg t⟩
section
variable {s:af} {h t:Rat} {m:Nat}
theorem SB.i64 (b:SB s):I64 s.z9:=⟨by have:=b.xl;omega,by have:=b.xh;omega⟩
theorem SB.xb (b:SB s):RB (sx s) 2:=RB.int (Hc.2 (by have:=b.xl;have:=b.xh;omega)) ay
theorem SB.cr (b:SB s):RQ s.Rp (sc s) 3:=⟨b.c,rfl,ay⟩
theorem SB.right (b:SB s):uJ s.aY:=Fc b.code
theorem aeM (b:SB s) (a:RB h m) (c:RB t m):RB (su s h t) (2 * m+7):=(b.cr.rb.add (a.add (c.mul b.xb))).le ad
theorem akP (b:SB s) (a:RB h m) (c:RB t m) (d:1<=m) (hm:m<=1000000000):Gv (fun N=>jF N s (aQ h t)) (bg (su s h t)):=by
 have e:=c.mul b.xb;refine (gJ b.i64).bind (((c.rq d).mul (b.xb.rq ay) aF).bind (((a.rq d).add (e.rq ad) aF).bind ?_));exact (b.cr.add ((a.add e).rq ad) aF).Fi
theorem atc (b:SB s) {u:Rat} (a:RB u m):RB (sf s u) (4 * m+93):=by
 have:=dU (3+m+20) b.four;exact (akb b.cv b.right a _ 0 (Nat.zero_add _)).le ad
theorem M5 (b:SB s) (a:RB h m) (c:RB t m):RB (sf s (su s h t)) (8 * m+121):=(atc b (aeM b a c)).le ad
theorem aqI (b:SB s) (a:RB h m) (c:RB t m) (d:1<=m) (hm:m<=1000000000):Gv (fun N=>uq N s (aQ h t)) (bg (sf s (su s h t))) :=
 (akP b a c d hm).bind ((anl b.cv b.code ((aeM b a c).rq ad) ay ad).bind (Gv.pure _))
end
abbrev sat (l:List af) (i:Nat):af:=l.getD i af.d
structure LS (l:List af):Prop where
 len:l.length<=8
 sb:∀ i,i < l.length->SB (sat l i)
 ok:Gv (fun N=>ow N l) 0
abbrev fI (l:List af) (h t:Rat) (i:Nat):Rat:=sf (sat l i) (su (sat l i) h t)
abbrev fF (l:List af) (h t:Rat):Rat:=aV l.length (fI l h t)
abbrev fM (l:List af) (h t:Rat):Rat:=aV l.length fun i=>fI l h t i * sx (sat l i)
section
variable {l:List af} {h t:Rat} {m:Nat}
theorem GI (f:Nat->Rat) (n:Nat):LQ f n ++ [bg (f n)]=LQ f (n+1):=vw (fun i=>bg (f i)) n
theorem YB (b:LS l) (a:RB h m) (c:RB t m) (d:1<=m) (hm:m<=1000000000):Gv (fun N=>na N l (aQ h t)) (LQ (fI l h t) l.length,0):=by
 have f:=b.len;refine Gv.bind (r:=(LQ (fI l h t) l.length,(0:Int))) (b.ok.bind (Gv.a9 rfl ?_)) (Gv.pure _);have key:∀ k i,i+k=l.length->aq (fun N g=>gz N l (aQ h t) g (LQ (fI l h t) i) (i:Int)) (LQ (fI l h t) l.length,0):=fun k=>by
  induction k with
  | zero =>
   intro i hi;have:i=l.length:=ad;subst this;exact aq.stop (fun N g=>gz.eq_2 ..) (.one (Gv.pure _))
  | succ k e =>
   intro i hi;refine aq.go (show i < l.length by omega) (fun N g=>gz.eq_2 ..) (aq.if (k6 ad) ?_);rw [ai,aX ad];refine aq.bind (aqI (b.sb i ad) a c d hm).Fi (aq.if (by rw [cM];omega) ?_);rw [GI];exact e (i+1) ad
 exact (key l.length 0 ad).diag
theorem akQ (b:LS l) (a:RB h m) (c:RB t m) {n:Nat} (d:n<=l.length):RB (aV n (fI l h t)) (64 * m+1000):=by
 have:=b.len;have:=dU (8 * m+121+1) (show n<=8 by omega);exact (cE.we fun u e=>M5 (b.sb u ad) a c).le ad
theorem aeN (b:LS l) (a:RB h m) (c:RB t m) {n:Nat} (d:n<=l.length):RB (aV n fun i=>fI l h t i * sx (sat l i)) (64 * m+1000):=by
 have:=b.len;have:=dU (8 * m+121+2+1) (show n<=8 by omega);exact (cE.we fun u e=>(M5 (b.sb u ad) a c).mul (b.sb u ad).xb).le ad
theorem ac6 (b:LS l) (c:RB h m) (d:RB t m) (f:1<=m) (hm:m<=1000000000):Gv (fun N=>ox N l (aQ h t)) (⟨bg (fF l h t),bg (fM l h t)⟩,0):=by
 have p:=b.len;refine (YB b c d f hm).bind (Gv.a9 rfl (Gv.bind ?_ (Gv.pure _)));have key:∀ k i,i+k=l.length->aq (fun N g=>jk N l (LQ (fI l h t) l.length) g ⟨bg (aV i (fI l h t)),bg (aV i fun i=>fI l h t i * sx (sat l i))⟩ (i:Int)) ⟨bg (fF l h t),bg (fM l h t)⟩:=fun k=>by
  induction k with
  | zero =>
   intro i hi;have:i=l.length:=ad;subst this;exact aq.stop (fun N g=>jk.eq_2 ..) (.one (Gv.pure _))
  | succ k j =>
   intro i hi;have a:i < l.length:=ad;have q:=b.sb i a;have e:=M5 q c d;have n:=akQ b c d (Nat.le_of_lt a);have o:=aeN b c d (Nat.le_of_lt a);refine aq.go a (fun N g=>jk.eq_2 ..) (aq.if (k6 ad) (aq.if (by rw [cM];exact k6 a) ?_));rw [ai,aX ad,lL _ _ a];refine aq.bind ((n.rq ad).add (e.rq ad) aF) (aq.bind (gJ q.i64) (aq.bind ((e.rq ad).mul (q.xb.rq ay) aF) ?_));exact aq.bind ((o.rq ad).add ((e.mul q.xb).rq ad) aF) (j (i+1) ad)
 exact (gJ (z:=0) ⟨ay,ay⟩).bind ((gJ (z:=0) ⟨ay,ay⟩).bind (key l.length 0 ad).diag)
end
def lsl (t s:Nat->Rat) (u:Rat):Nat->Nat->Rat->Rat
 | 0,_,o=>o
 | k+1,i,o=>lsl t s u k (i+1) (if t i < u then s i else o)
abbrev lSl (s:af) (u:Rat):Rat:=lsl (ct s.aY) (cq s.aY) u (cn s.aY) 0 0
abbrev rSl (s:af) (u:Rat):Rat:=Sc s.aY u
theorem akR {c:cO} {n:Nat} (h:CB c n) {u:Rat}:∀ (k i:Nat) {o:Rat},RB o n->RB (lsl (ct c) (cq c) u k i o) n
 | 0,_,_,a=>a
 | k+1,i,o,a=>akR h k (i+1) (by
  split
  ·exact (h.rq i).rb
  ·exact a)
section
variable {s:af} {h t:Rat} {m:Nat}
theorem YD (b:SB s) (u:Rat):RB (lSl s u) 3:=akR b.cv _ _ (RB.zero.le ay)
theorem YE (b:SB s) (u:Rat):RB (rSl s u) 3:=as9 b.cv u
theorem akS (b:SB s) (a:RB h m) (c:RB t m) (d:1<=m) (hm:m<=1000000000):Gv (fun N=>ma N s (aQ h t)) (bg (rSl s (su s h t))) :=
 (akP b a c d hm).bind ((anx b.cv b.code ((aeM b a c).rq ad) ay ad).bind (Gv.pure _))
theorem aeO (b:SB s) {u:Rat} (l:RB u m) (n:1<=m) (hm:m<=4000000000) (a:aw):∀ (k i:Nat) {o:ab} {q:Rat},i+k=cn s.aY->RQ o q 3->∃ r,RQ r (lsl (ct s.aY) (cq s.aY) u k i q) 3/\aq (fun N g=>gS N s a (bg u) g o (i:Int)) r
 | 0,i,o,q,hi,d=>by
  have:i=cn s.aY:=ad;subst this;exact ⟨o,d,aq.stop (fun N g=>gS.eq_2 ..) (.one (Gv.pure _))⟩
 | k+1,i,o,q,hi,d=>by
  have c:i < cn s.aY:=ad;have f:i < s.aY.ah.length:=c;have h:=b.right;have v:=b.four;have j:=h.UO;have w:=h.bnd c;obtain ⟨r,t,p⟩:=aeO b l n hm a k (i+1) (show i+1+k=cn s.aY by omega) (o:=if ct s.aY i < u then s.aY.aA.getD i ab.d else o) (q:=if ct s.aY i < u then cq s.aY i else q) (by
   split
   ·exact b.cv.rq i
   ·exact d)
  refine ⟨r,t,aq.go c (fun N g=>gS.eq_2 ..) (aq.if (k6 c) ?_)⟩;unfold mE;rw [ai,aX ad];refine aq.bind (gJ (z:=cs s.aY i) ⟨ad,ad⟩) (aq.bind ((h.rq c).cmp (l.rq n) aF) ?_);rw [lG]
  by_cases e:ct s.aY i < u
  ·rw [if_pos e] at p;exact aq.aN (decide_eq_true (by grind)) (aq.if (k6 (j ▸ f)) p)
  grind
theorem aoK (b:SB s) (a:RB h m) (c:RB t m) (d:1<=m) (hm:m<=1000000000):∃ r,RQ r (lSl s (su s h t)) 3/\Gv (fun N=>lh N s (aQ h t)) r:=by
 obtain ⟨r,e,f⟩:=aeO b (aeM b a c) ad ad (aQ h t) (cn s.aY) 0 (Nat.zero_add _) (RB.zero.rq ay |>.le ay);exact ⟨r,e,(akP b a c d hm).bind ((gJ (z:=0) ⟨ay,ay⟩).bind f.diag)⟩
end
section
variable {l:List af} {β:Nat->Rat} {h t:Rat} {m:Nat}
abbrev kH (l:List af) (β:Nat->Rat):Rat:=aV l.length β
abbrev kC (l:List af) (β:Nat->Rat):Rat:=aV l.length fun i=>β i * sx (sat l i)
abbrev kP (l:List af) (β:Nat->Rat):Rat:=aV l.length fun i=>β i * sx (sat l i) * sx (sat l i)
theorem aeP (b:LS l) (a:∀ i,i < l.length->RB (β i) 3) {n:Nat} (c:n<=l.length):RB (aV n β) 65:=by
 have:=b.len;exact (cE.we fun u d=>a u ad).le ad
theorem aeQ (b:LS l) (a:∀ i,i < l.length->RB (β i) 3) {n:Nat} (c:n<=l.length):RB (aV n fun i=>β i * sx (sat l i)) 65:=by
 have:=b.len;exact (cE.we fun u d=>(a u ad).mul (b.sb u ad).xb).le ad
theorem aeR (b:LS l) (a:∀ i,i < l.length->RB (β i) 3) {n:Nat} (c:n<=l.length):RB (aV n fun i=>β i * sx (sat l i) * sx (sat l i)) 65:=by
 have:=b.len;exact (cE.we fun u d=>((a u ad).mul (b.sb u ad).xb).mul (b.sb u ad).xb).le ad
abbrev kS (n:Nat) (l:List af) (β:Nat->Rat):dD:=⟨bg (aV n β),bg (aV n fun i=>β i * sx (sat l i)),bg (aV n fun i=>β i * sx (sat l i) * sx (sat l i))⟩
theorem aaD {L:Nat->Nat->dD->Int->Option dD} {R:Nat->af->Option ab} (b:LS l) (c:∀ i,i < l.length->RB (β i) 3)
  (h:∀ i,i < l.length->∃ r,RQ r (β i) 3/\Gv (fun N=>R N (sat l i)) r)
  (e:∀ N g k (x:Int),L N (g+1) k x=cond (decide (x < (l.length:Int))) (if 0<=x/\x < (l.length:Int) then (R N (l.getD x.toNat af.d)).bind fun r=>(bG N k.A6 r).bind fun j=>(ao N (l.getD x.toNat af.d).z9).bind fun m=>(bR N r m).bind fun mr=>(bG N k.xj mr).bind fun n=>(ao N (l.getD x.toNat af.d).z9).bind fun o=>(bR N mr o).bind fun d=>(bG N k.A7 d).bind fun p=>L N g ⟨j,n,p⟩ (av (x+1)) else none) (some k)) :
  Gv (fun N=>(ao N 0).bind fun w=>(ao N 0).bind fun w2=>(ao N 0).bind fun s=>L N N ⟨w,w2,s⟩ 0) (kS l.length l β):=by
 have B:=b.len;have key:∀ k i,i+k=l.length->aq (fun N g=>L N g (kS i l β) (i:Int)) (kS l.length l β):=fun k=>by
  induction k with
  | zero =>
   intro i hi;have:i=l.length:=ad;subst this;exact aq.stop (fun N g=>e ..) (.one (Gv.pure _))
  | succ k t =>
   intro i hi;have a:i < l.length:=ad;have q:=b.sb i a;obtain ⟨r,f,u⟩:=h i a;have v:=aeP b c (Nat.le_of_lt a);have y:=aeQ b c (Nat.le_of_lt a);have A:=aeR b c (Nat.le_of_lt a);refine aq.go a (fun N g=>e ..) (aq.if (k6 ad) ?_);rw [ai,aX ad];have m1:=f.rb.mul q.xb;refine aq.bind u (aq.bind ((v.rq ad).add f ay) (aq.bind (gJ q.i64) (aq.bind (f.mul (q.xb.rq ay) ay) (aq.bind ((y.rq ay).add (m1.rq ay) ay) ?_))));refine aq.bind (gJ q.i64) (aq.bind ((m1.rq ay).mul (q.xb.rq ay) ay) (aq.bind ((A.rq ay).add ((m1.mul q.xb).rq ay) ay) (t (i+1) ad)))
 exact (gJ (z:=0) ⟨ay,ay⟩).bind ((gJ (z:=0) ⟨ay,ay⟩).bind ((gJ (z:=0) ⟨ay,ay⟩).bind (key l.length 0 ad).diag))
abbrev βR (l:List af) (h t:Rat) (i:Nat):Rat:=rSl (sat l i) (su (sat l i) h t)
abbrev vL (l:List af) (h t:Rat) (i:Nat):Rat:=lSl (sat l i) (su (sat l i) h t)
theorem anB (b:LS l) (a:RB h m) (c:RB t m) (d:1<=m) (hm:m<=1000000000):Gv (fun N=>uu N l (aQ h t)) (kS l.length l (βR l h t)) :=
 aaD (R:=fun N s=>ma N s (aQ h t)) b (fun i hi=>YE (b.sb i hi) _) (fun i hi=>⟨_,(YE (b.sb i hi) _).rq ay,akS (b.sb i hi) a c d hm⟩) fun N g k x=>lv.eq_2 ..
theorem anC (b:LS l) (a:RB h m) (c:RB t m) (d:1<=m) (hm:m<=1000000000):Gv (fun N=>qI N l (aQ h t)) (kS l.length l (vL l h t)) :=
 aaD (R:=fun N s=>lh N s (aQ h t)) b (fun i hi=>YD (b.sb i hi) _) (fun i hi=>aoK (b.sb i hi) a c d hm) fun N g k x=>jG.eq_2 ..
end
structure BB (b:cW):Prop where
 wl:1<=b.dW
 wh:b.dW<=1000000000
 at3:IR b.BH 3
 ls:LS b.ag
abbrev bW (b:cW):Rat:=(b.dW:Rat)
abbrev bA (b:cW):Rat:=qv b.BH
section
variable {b:cW} {h t:Rat} {m:Nat}
theorem BB.i64 (B:BB b):I64 b.dW:=⟨by have:=B.wl;omega,by have:=B.wh;omega⟩
theorem BB.wr (B:BB b):RB (bW b) 2:=RB.int (Hc.2 (by have:=B.wl;have:=B.wh;omega)) ay
theorem BB.ar (B:BB b):RQ b.BH (bA b) 3:=⟨B.at3,rfl,ay⟩
abbrev bX (b:cW) (h t:Rat):Rat:=fM b.ag h t - bW b * bA b
theorem akT (B:BB b) (a:RB h m) (c:RB t m):RB (bX b h t) (64 * m+1006):=((aeN B.ls a c (aH _)).sub (B.wr.mul B.ar.rb)).le ad
theorem YF (B:BB b) (a:RB h m) (c:RB t m) (d:1<=m) (hm:m<=1000000000):Gv (fun N=>iC N b (aQ h t)) (bg (bX b h t)) :=
 (ac6 B.ls a c d hm).bind ((gJ B.i64).bind (((B.wr.rq ay).mul B.ar ay).bind (((aeN B.ls a c (aH _)).rq ad |>.sub ((B.wr.mul B.ar.rb).rq ay) aF).Fi)))
abbrev zeroAt:aw:=⟨x7,x7⟩
abbrev kD (l:List af) (β:Nat->Rat):Rat:=kH l β * kP l β - kC l β * kC l β
theorem aqJ {l:List af} {β:Nat->Rat} (B:LS l) (p:∀ i,i < l.length->RB (β i) 3) {f g:Rat} {a:Nat} (e:RB f a) (h:RB g a) (r:1<=a) (u:a<=1000000000000) :
  Gv (fun N=>oy N (kS l.length l β) (bg f) (bg g)) (if kD l β=0 then (zeroAt,false) else (aQ ((kP l β * f - kC l β * g) / kD l β) ((kH l β * g - kC l β * f) / kD l β),true)):=by
 have j:=aeP B p (aH _);have b:=aeQ B p (aH _);have k:=aeR B p (aH _);have d:=(j.mul k).sub (b.mul b);have s:=j.rq ay;have o:=b.rq ay;have t:=k.rq ay;refine (s.mul t ay).bind ((o.mul o ay).bind ((((j.mul k).rq ay).sub ((b.mul b).rq ay) ay).bind ((M4 (d.rq ay) ay).bind ?_)))
 by_cases c:kD l β=0
 ·rw [if_pos c];exact Gv.aN (by show (oE (kD l β) == 0)=true;rw [c];rfl) (Gv.pure _)
 ·rw [if_neg c];refine Gv.a9 (show (oE (kD l β) == 0)=false from beq_eq_false_iff_ne.2 fun q=>c (vt.1 q)) ?_;have m:=e.rq r;have n:=h.rq r;refine (t.mul m aF).bind ((o.mul n aF).bind ((((k.mul e).rq ad).sub ((b.mul h).rq ad) aF).bind ?_));refine (s.mul n aF).bind ((o.mul m aF).bind ((((j.mul h).rq ad).sub ((b.mul e).rq ad) aF).bind ?_));exact (aaC (((k.mul e).sub (b.mul h)).rq ad) (d.rq ay) c aF).bind ((aaC (((j.mul h).sub (b.mul e)).rq ad) (d.rq ay) c aF).bind (Gv.pure _))
theorem aqK {b c:Rat} {a:Nat} (i:RB h m) (j:RB t m) (e:1<=m) (k:RB b a) (d:RB c a) (f:1<=a) (g:SM (2 * (m+a+1)+2)):Gv (fun N=>jd N (aQ h t) (aQ b c)) (aQ (h+b) (t+c)) :=
 ((i.rq e).add (k.rq f) g).bind (((j.rq e).add (d.rq f) g).bind (Gv.pure _))
def Bal (b:cW) (h t:Rat):Prop:=fF b.ag h t=bW b/\bX b h t=0
open Classical in
theorem agh (B:BB b) (c:RB h m) (d:RB t m) (f:1<=m) (hm:m<=1000000000):Gv (fun N=>lx N b (aQ h t)) (decide (Bal b h t)):=by
 have g:=akQ B.ls c d (aH _);have i:=aeN B.ls c d (aH _);refine (ac6 B.ls c d f hm).bind ((gJ B.i64).bind (((g.rq ad).cmp (B.wr.rq ay) aF).bind ?_))
 by_cases a:fF b.ag h t=bW b
 ·have e:(oE (fF b.ag h t - bW b) == 0)=true:=by rw [a,af5];rfl
  rw [e];refine (gJ B.i64).bind (((B.wr.rq ay).mul B.ar ay).bind (((i.rq ad).cmp ((B.wr.mul B.ar.rb).rq ay) aF).bind ((Gv.pure _).eq ?_)));show (oE (bX b h t) == 0)=decide (Bal b h t);rw [Bool.eq_iff_iff,decide_eq_true_iff,beq_iff_eq,vt];exact ⟨fun q=>⟨a,q⟩,fun q=>q.2⟩
 ·have e:(oE (fF b.ag h t - bW b) == 0)=false:=by simpa using fun q=>a (by have:=vt.1 q;grind)
  rw [e];exact (Gv.pure _).bind ((Gv.pure _).bind ((Gv.pure _).bind ((Gv.pure _).eq (decide_eq_false fun q=>a q.1).symm)))
abbrev gH (b:cW) (β:Nat->Rat) (h t:Rat):Rat:=h+(kP b.ag β * (bW b - fF b.ag h t) - kC b.ag β * (-bX b h t)) / kD b.ag β
abbrev gT (b:cW) (β:Nat->Rat) (h t:Rat):Rat:=t+(kH b.ag β * (-bX b h t) - kC b.ag β * (bW b - fF b.ag h t)) / kD b.ag β
structure aqL (b:cW) (h t:Rat) (m:Nat) (r:aw×Bool):Prop where
 ok:r.2=true->∃ h' t',r.1=aQ h' t'/\RB h' (129 * m+2420)/\RB t' (129 * m+2420)/\Bal b h' t'
 left:kD b.ag (vL b.ag h t)≠0->Bal b (gH b (vL b.ag h t) h t) (gT b (vL b.ag h t) h t)->r.2=true
def gSt (b:cW) (a:aw) (f g:ab) (K:Nat->Option (aw×Bool)) (N:Nat) (ks:dD):Option (aw×Bool) :=
 (oy N ks f g).bind fun c=>(cond c.2 (jd N a c.1) (some aw.d)).bind fun d=>(cond c.2 (lx N b d) (some false)).bind fun rb=>cond (cond c.2 rb false) ((jd N a c.1).bind fun r=>some (r,true)) (K N)
open Classical in
theorem aqM (B:BB b) (f:RB h m) (g:RB t m) (n:1<=m) (hm:m<=7000000):∃ r,Gv (fun N=>oz N b (aQ h t)) r/\aqL b h t m r:=by
 have w:=akQ B.ls f g (aH _);have s:=akT B f g;have v:RB (bW b - fF b.ag h t) (64 * m+1006):=(B.wr.sub w).le ad
 -- one stiffness
 have step:∀ β:Nat->Rat,(∀ i,i < b.ag.length->RB (β i) 3)->kD b.ag β≠0 ->
   RB ((kP b.ag β * (bW b - fF b.ag h t) - kC b.ag β * (-bX b h t)) / kD b.ag β) (128 * m+2415)/\RB ((kH b.ag β * (-bX b h t) - kC b.ag β * (bW b - fF b.ag h t)) / kD b.ag β) (128 * m+2415):=fun β c a=>by
  have x:=aeP B.ls c (aH _);have u:=aeQ B.ls c (aH _);have j:=aeR B.ls c (aH _);have d:=(x.mul j).sub (u.mul u);exact ⟨(((j.mul v).sub (u.mul s.neg)).div d a).le ad,(((x.mul s.neg).sub (u.mul v)).div d a).le ad⟩
 have to:∀ β:Nat->Rat,(∀ i,i < b.ag.length->RB (β i) 3)->kD b.ag β≠0->RB (gH b β h t) (129 * m+2420)/\RB (gT b β h t) (129 * m+2420):=fun β c a =>
  ⟨(f.add (step β c a).1).le ad,(g.add (step β c a).2).le ad⟩
 have k:∀ i,i < b.ag.length->RB (βR b.ag h t i) 3:=fun i hi=>YE (B.ls.sb i hi) _;have l:∀ i,i < b.ag.length->RB (vL b.ag h t i) 3:=fun i hi=>YD (B.ls.sb i hi) _;have go:∀ β:Nat->Rat,(∀ i,i < b.ag.length->RB (β i) 3)->kD b.ag β≠0->Gv (fun N=>jd N (aQ h t) (aQ ((kP b.ag β * (bW b - fF b.ag h t) - kC b.ag β * (-bX b h t)) / kD b.ag β) ((kH b.ag β * (-bX b h t) - kC b.ag β * (bW b - fF b.ag h t)) / kD b.ag β))) (aQ (gH b β h t) (gT b β h t)):=fun β c a =>
  aqK f g n (step β c a).1 (step β c a).2 ad aF
 have half:∀ (β:Nat->Rat),(∀ i,i < b.ag.length->RB (β i) 3)->∀ {K:Nat->Option (aw×Bool)} {o:aw×Bool},Gv K o->∃ r,Gv (fun N=>gSt b (aQ h t) (bg (bW b - fF b.ag h t)) (bg (-bX b h t)) K N (kS b.ag.length b.ag β)) r /\
   ((r=o/\¬ (kD b.ag β≠0/\Bal b (gH b β h t) (gT b β h t)))\/(r=(aQ (gH b β h t) (gT b β h t),true)/\kD b.ag β≠0/\Bal b (gH b β h t) (gT b β h t))):=fun β c {K o} y=>by
  have p:=aqJ B.ls c v s.neg ad ad
  by_cases a:kD b.ag β=0
  ·rw [if_pos a] at p;exact ⟨o,p.bind ((Gv.pure _).bind ((Gv.pure _).bind y)),.inl ⟨rfl,fun q=>q.1 a⟩⟩
  ·rw [if_neg a] at p;obtain ⟨C,t2⟩:=to β c a;have hb:=agh B C t2 ad ad
   by_cases hq:Bal b (gH b β h t) (gT b β h t)
   ·refine ⟨_,p.bind ((go β c a).bind (hb.bind (Gv.aN (decide_eq_true hq) ((go β c a).bind (Gv.pure _))))),.inr ⟨rfl,a,hq⟩⟩
   ·exact ⟨o,p.bind ((go β c a).bind (hb.bind (Gv.a9 (decide_eq_false hq) y))),.inl ⟨rfl,fun q=>hq q.2⟩⟩
 obtain ⟨H,D,z⟩:=half _ l (Gv.pure (zeroAt,false));obtain ⟨E,F,c1⟩:=half _ k ((anC B.ls f g n ad).bind D);refine ⟨E,(ac6 B.ls f g n ad).bind ((gJ B.i64).bind (((B.wr.rq ay).sub (w.rq ad) aF).bind ((YF B f g n ad).bind ((atb (s.rq ad) aF).bind ((Gv.pure _).bind ((Gv.pure _).bind ((anB B.ls f g n ad).bind F))))))),?_,?_⟩
 ·intro A;rcases c1 with ⟨e,_⟩ | ⟨e,a,hq⟩
  ·rcases z with ⟨j,_⟩ | ⟨j,a,hq⟩
   ·rw [e,j] at A;cases A
   ·exact ⟨_,_,by rw [e,j],(to _ l a).1,(to _ l a).2,hq⟩
  ·exact ⟨_,_,by rw [e],(to _ k a).1,(to _ k a).2,hq⟩
 ·intro a hq;rcases c1 with ⟨e,_⟩ | ⟨e,_⟩
  ·rcases z with ⟨_,G⟩ | ⟨j,_⟩
   ·exact absurd ⟨a,hq⟩ G
   ·rw [e,j]
  ·rw [e]
end
abbrev PR:=Rat×Rat
abbrev tb (p:PR):aa:=⟨bg p.1,bg p.2⟩
abbrev TF (f:Nat->PR) (n:Nat):List aa:=I5 (fun i=>tb (f i)) n
theorem jz (f:Nat->PR) (n:Nat):(TF f n).length=n:=rY _ _
theorem uW (f:Nat->PR) {n i:Nat} (d:aa) (h:i < n):(TF f n).getD i d=tb (f i):=Db _ _ h
def sw (f:Nat->PR) (i j:Nat) (a:Nat):PR:=if a=i then f j else if a=j then f i else f a
theorem aaE (f:Nat->PR) (n i j:Nat):((TF f n).set i (tb (f j))).set j (tb (f i))=TF (sw f j i) n:=by
 unfold TF;rw [Bn,Bn];refine q9 fun a _=>?_;show (if a=j then tb (f i) else if a=i then tb (f j) else tb (f a))=tb (sw f j i a);unfold sw;split
 ·rfl
 ·split<;>rfl
structure Re (n a b:Nat) (f f':Nat->PR):Prop where
 sum:∀ g:PR->Rat,aV n (fun i=>g (f' i))=aV n fun i=>g (f i)
 out:∀ i,¬ (a<=i/\i < b)->f' i=f i
 inn:∀ i,a<=i->i < b->∃ j,a<=j/\j < b/\f' i=f j
section
variable {n a b:Nat} {f f' f'':Nat->PR}
theorem Re.refl:Re n a b f f:=⟨fun _=>rfl,fun _ _=>rfl,fun i c d=>⟨i,c,d,rfl⟩⟩
theorem Re.trans (h:Re n a b f f') (h':Re n a b f' f''):Re n a b f f'':=⟨fun g=>(h'.sum g).trans (h.sum g),fun i hi=>(h'.out i hi).trans (h.out i hi),fun i c d=>by
 obtain ⟨j,l,m,e⟩:=h'.inn i c d;obtain ⟨k,o,p,q⟩:=h.inn j l m;grind⟩
theorem Re.wide {a' c:Nat} (h:Re n a b f f') (k:a'<=a) (hb:b<=c):Re n a' c f f':=⟨h.sum,fun i hi=>h.out i fun q=>hi ⟨ad,ad⟩,fun i d g=>by
 by_cases q:a<=i/\i < b
 ·obtain ⟨j,l,m,e⟩:=h.inn i q.1 q.2;grind
 ·exact ⟨i,d,g,h.out i q⟩⟩
theorem aqP {i j:Nat} (hi:i < n) (a:j < n) (b:i≠j) (g:PR->Rat):aV n (fun u=>g (sw f i j u))=aV n fun u=>g (f u):=by
 rw [qB hi,qB hi fun u=>g (f u),qB a,qB a fun u=>if u=i then 0 else g (f u)];have e:aV n (fun u=>if u=j then 0 else if u=i then 0 else g (sw f i j u))=aV n fun u=>if u=j then 0 else if u=i then 0 else g (f u):=bc fun u _=>by
  simp_all [if_pos,if_neg,sw]
 rw [e,if_neg b.symm,if_neg b.symm];have c:sw f i j i=f j:=if_pos rfl;have d:sw f i j j=f i:=by unfold sw;simp_all
 rw [c,d];grind
theorem Re.swap {i j:Nat} (d:a<=i) (e:i < b) (g:a<=j) (h:j < b) (hb:b<=n) (c:i≠j):Re n a b f (sw f i j) :=
 ⟨aqP ad ad c,fun u k=>by unfold sw;grind,fun u l m=>by
  unfold sw;grind⟩
def LJ (f:Nat->PR) (a b:Nat):Prop:=∀ i j,a<=i->i<=j->j < b->(f i).1<=(f j).1
def Shf (n:Nat) (f:Nat->PR):Prop:=∀ i,i < n->RB (f i).1 1000000
theorem Re.shf (h:Re n a b f f') (hb:b<=n) (c:Shf n f):Shf n f':=fun i hi=>by
 by_cases q:a<=i/\i < b
 ·obtain ⟨j,d,g,e⟩:=h.inn i q.1 q.2;rw [e];exact c j ad
 ·rw [h.out i q];exact c i hi
theorem akU (a:Shf n f) {i j:Nat} (hi:i < n) (b:j < n):Gv (fun N=>eF N (tb (f i)) (tb (f j))) (oE ((f i).1 - (f j).1)) :=
 (((a i hi).rq ay).cmp ((a j b).rq ay) ay).Fi
structure Gap (f:Nat->PR) (a j i:Nat):Prop where
 srt:∀ x y,a<=x->x<=y->y<=i->x≠j->y≠j->(f x).1<=(f y).1
 up:∀ y,j < y->y<=i->(f j).1<=(f y).1
theorem Gap.done {j i:Nat} (h:Gap f a j i) (d:j=a\/(f (j - 1)).1<=(f j).1):LJ f a (i+1):=fun x y b g k=>by
 by_cases e:x=y
 ·simp_all
 ·by_cases c:y=j
  ·subst c;rcases d with q | q
   ·omega
   ·by_cases ex:x=y - 1
    ·subst ex;exact q
    ·exact Rat.le_trans (h.srt x (y - 1) b ad ad ad ad) q
  ·by_cases ex:x=j
   ·subst ex;exact h.up y ad ad
   ·exact h.srt x y b g ad ex c
theorem Gap.next {j i:Nat} (h:Gap f a (j+1) i) (n:a<=j) (hi:j+1<=i) (hq:(f (j+1)).1 < (f j).1):Gap (sw f j (j+1)) a j i:=by
 have o:sw f j (j+1) j=f (j+1):=if_pos rfl;have g:sw f j (j+1) (j+1)=f j:=by unfold sw;simp
 have c:∀ x,x≠j->x≠j+1->sw f j (j+1) x=f x:=fun x d e=>by simp_all [sw,if_neg]
 refine ⟨fun x y d e k l m=>?_,fun y d e=>?_⟩
 ·by_cases ex:x=j+1
  ·subst ex
   by_cases b:y=j+1
   ·simp_all
   ·rw [g,c y m b];exact h.srt j y n ad k ad b
  ·by_cases b:y=j+1
   ·subst b;rw [g,c x l ex];exact h.srt x j d ad ad ex ad
   ·rw [c x l ex,c y m b];exact h.srt x y d e k ex b
 ·by_cases b:y=j+1
  ·grind
  ·rw [o,c y ad b];exact h.up y ad e
theorem akW {i:Nat} {b0:Int} (hi:i < n) (o:n<=1000):∀ (d:Nat) {f:Nat->PR},a+d<=i->Shf n f->Gap f a (a+d) i->∃ f',Re n a (i+1) f f'/\LJ f' a (i+1) /\
  ∃ e,∀ N,e<=N->∀ K fuel,d < fuel->bJ N (a:Int) b0 (i:Int) K fuel (TF f n) ((a+d:Nat):Int)=K (TF f' n) ((i+1:Nat):Int)
 | 0,f,p,h,c=>⟨f,.refl,c.done (.inl rfl),0,fun N _ K fuel m=>by
  obtain ⟨g,rfl⟩:=bb fuel;rw [bJ,decide_eq_false (show ¬ ((a+0:Nat):Int) > (a:Int) by omega),if_pos (fun q=>by cases q),if_pos (fun q=>by cases q),aX ad];rfl⟩
 | d+1,f,p,h,c=>by
  have w:=jz f n;have r:av (((a+(d+1):Nat):Int) - 1)=((a+d:Nat):Int):=a0
  obtain ⟨k,s⟩:=akU h (show a+(d+1) < n by omega) (show a+d < n by omega);have t:∀ N,k<=N->∀ K g,bJ N (a:Int) b0 (i:Int) K (g+1) (TF f n) ((a+(d+1):Nat):Int) =
    cond (decide ((f (a+(d+1))).1 < (f (a+d)).1)) (bJ N (a:Int) b0 (i:Int) K g (TF (sw f (a+d) (a+(d+1))) n) ((a+d:Nat):Int)) (K (TF f n) ((i+1:Nat):Int)):=fun N l K g=>by
   rw [bJ,decide_eq_true (show ((a+(d+1):Nat):Int) > (a:Int) by omega),r,ai,ai,if_pos (fun _=>ad),if_pos (fun _=>ad),
    if_pos ad,if_pos ad,aX ad,uW f _ (show a+d < n by omega),uW f _ (show a+(d+1) < n by omega),<- aaE]
   show (eF N (tb (f (a+(d+1)))) (tb (f (a+d)))).bind _=_;rw [show eF N (tb (f (a+(d+1)))) (tb (f (a+d)))=some _ from s N l,db,lG,show decide ((f (a+(d+1))).1 - (f (a+d)).1 < 0)=decide ((f (a+(d+1))).1 < (f (a+d)).1) from decide_eq_decide.2 ⟨fun q=>by grind,fun q=>by grind⟩];rfl
  by_cases hq:(f (a+(d+1))).1 < (f (a+d)).1
  ·have b:Re n a (i+1) f (sw f (a+d) (a+(d+1))):=.swap ad ad ad ad ad ad;obtain ⟨f',u,v,e,x⟩:=akW hi o d (f:=sw f (a+d) (a+(d+1))) (b0:=b0) ad (b.shf ad h) (c.next (j:=a+d) ad ad hq);refine ⟨f',b.trans u,v,e+k,fun N l K fuel m=>?_⟩;obtain ⟨g,rfl⟩:=bb fuel;grind
  ·refine ⟨f,.refl,c.done (.inr (by grind)),k,fun N l K fuel m=>?_⟩;obtain ⟨g,rfl⟩:=bb fuel;simp_all
theorem akX (hb:b<=n) (e:n<=1000):∀ (k i:Nat) {f:Nat->PR},i+k=b->a<=i->Shf n f->LJ f a i->∃ f',Re n a b f f'/\LJ f' a b/\aq (fun N g=>b7 N (a:Int) (b:Int) g (TF f n) (i:Int)) (TF f' n)
 | 0,i,f,hi,_,_,hq=>by
  have:i=b:=ad;subst this;exact ⟨f,.refl,hq,aq.stop (fun N g=>b7.eq_2 ..) (.one (Gv.pure _))⟩
 | k+1,i,f,hi,u,h,hq=>by
  obtain ⟨d,rfl⟩:∃ d,i=a+d:=⟨i - a,ad⟩;obtain ⟨v,j,o,p,q⟩:=akW (i:=a+d) (b0:=(b:Int)) (show a+d < n by omega) e d (aH _) h ⟨fun x y l m w z A=>hq x y l m ad,fun y l m=>ad⟩;obtain ⟨f',r,s,c⟩:=akX hb e k (a+d+1) ad ad (j.shf ad h) o;refine ⟨f',(j.wide (aH _) ad).trans r,s,aq.go (show a+d < b by omega) (fun N g=>b7.eq_2 ..) ?_⟩;obtain ⟨t,c⟩:=c;exact ⟨p+t+d+1,fun N g B C=>(q N ad _ N ad).trans (c N g ad ad)⟩
theorem ac7 (o:a<=b) (hb:b<=n) (c:n<=1000) (d:Shf n f):∃ f',Re n a b f f'/\LJ f' a b/\Gv (fun N=>eI N (a:Int) (b:Int) (TF f n)) (TF f' n):=by
 unfold eI;rw [aX ad]
 by_cases h:a+1<=b
 ·obtain ⟨f',e,i,j⟩:=akX (a:=a) hb c (b - (a+1)) (a+1) ad ad d fun x y k l m=>by
   grind
  exact ⟨f',e,i,j.diag⟩
 ·refine ⟨f,.refl,fun x y k l m=>ad,.of 1 fun N p=>?_⟩;obtain ⟨g,rfl⟩:=bb N;rw [b7,decide_eq_false ad];rfl
end
section
variable {n a b c lo hi:Nat} {f f':Nat->PR}
def YG (f:Nat->PR) (a b c:Nat) (x:Nat):PR:=if a<=x/\x < a+c then f (b+(x - a)) else if b<=x/\x < b+c then f (a+(x - b)) else f x
theorem aaG:YG f a b 0=f:=by
 funext x;simp_all [YG,if_neg]
theorem aaH {i:Nat} (h:a+i < b):sw (YG f a b i) (b+i) (a+i)=YG f a b (i+1):=by
 funext x;unfold sw YG;grind
theorem ac8 (d:a+c<=b) (h:lo<=a) (i:b+c<=hi) (e:hi<=n):Re n lo hi f (YG f a b c):=by
 induction c with
 | zero=>rw [aaG];exact .refl
 | succ c g =>
  rw [<- aaH ad];exact (g ad ad).trans (.swap ad ad ad ad e ad)
theorem ac9 (e:a+c<=b) (hb:b+c<=n) (l:n<=1000):Gv (fun N=>fW N (a:Int) (b:Int) (c:Int) (TF f n)) (TF (YG f a b c) n):=by
 have key:∀ k i,i+k=c->aq (fun N g=>df N (a:Int) (b:Int) (c:Int) g (TF (YG f a b i) n) (i:Int)) (TF (YG f a b c) n):=fun k=>by
  induction k with
  | zero =>
   intro i hi;have:i=c:=ad;subst this;exact aq.stop (fun N g=>df.eq_2 ..) (.one (Gv.pure _))
  | succ k d =>
   intro i hi;have d:=d (i+1) ad;have h:av ((b:Int)+(i:Int))=((b+i:Nat):Int):=a0
   have j:av ((a:Int)+(i:Int))=((a+i:Nat):Int):=a0
   refine aq.go (show i < c by omega) (fun N g=>df.eq_2 ..) ?_;rw [h,j,ai,ai,aX ad,jz,uW _ _ (show b+i < n by omega),uW _ _ (show a+i < n by omega)];refine aq.if (k6 ad) (aq.if (k6 ad) ?_);rw [<- aaH ad,<- aaE] at d;exact d
 have:=(key c 0 ad).diag;rw [aaG] at this;exact this
def V8 (f:Nat->PR) (m i j:Nat) (x:Nat):PR:=if m - i<=x/\x < m - i+j then f (x+i) else if m - i+j<=x/\x < m+j then f (x - j) else f x
theorem akY {m i j:Nat} (hi:i<=m) (h:j < i):V8 (YG f (m - i) m j) m (i - j) j=V8 f m i j:=by
 funext x;unfold V8 YG
 repeat' split
 all_goals first
  | rfl
  | (congr 1;omega)
  | (exfalso;omega)
theorem agj {m i j:Nat} (hi:i<=m) (h:i < j):V8 (YG f (m - i) (m+j - i) i) m i (j - i)=V8 f m i j:=by
 funext x;unfold V8 YG;grind
theorem akZ {m i:Nat} (hi:i<=m):YG f (m - i) m i=V8 f m i i:=by
 funext x;unfold V8 YG
 repeat' split
 all_goals first
  | rfl
  | (congr 1;omega)
  | (exfalso;omega)
theorem ada {m:Nat} (c:n<=1000):∀ (d:Nat) {i j:Nat} {f:Nat->PR},i+j<=d->1<=i->1<=j->i<=m->lo<=m - i->m+j<=hi->hi<=n ->
  Re n lo hi f (V8 f m i j)/\aq (fun N g=>cJ N (m:Int) g (TF f n) (i:Int) (j:Int)) (TF (V8 f m i j) n)
 | 0,i,j,f,h,u,v,_,_,_,_=>ad
 | d+1,i,j,f,h,u,v,a,b,p,k=>by
  have q:av ((m:Int) - (i:Int))=((m - i:Nat):Int):=a0
  by_cases e:i=j
  ·subst e;rw [<- akZ a];refine ⟨ac8 ad b ad k,aq.succ (fun N g=>cJ.eq_2 ..) (aq.a9 aD ?_)⟩;rw [q];exact aq.bind (ac9 ad ad c) (aq.if (by rw [jz,jz]) (.one (Gv.pure _)))
  ·have w:((i:Int) != (j:Int))=true:=by simp;omega
   by_cases r:j < i
   ·have s:Re n lo hi f (YG f (m - i) m j):=ac8 ad b ad k;obtain ⟨l,o⟩:=ada c d (i:=i - j) (j:=j) (f:=YG f (m - i) m j) ad ad v ad ad p k;rw [akY a r] at l o;have t:av ((i:Int) - (j:Int))=((i - j:Nat):Int):=a0
    refine ⟨s.trans l,aq.succ (fun N g=>cJ.eq_2 ..) (aq.aN w (aq.aN (decide_eq_true ad) ?_))⟩;rw [q,t];exact aq.bind (ac9 ad ad c) (aq.if (by rw [jz,jz]) o)
   ·have s:Re n lo hi f (YG f (m - i) (m+j - i) i):=ac8 ad b ad k;obtain ⟨l,o⟩:=ada c d (i:=i) (j:=j - i) (f:=YG f (m - i) (m+j - i) i) ad u ad a b ad k;rw [agj a ad] at l o;have t:av ((j:Int) - (i:Int))=((j - i:Nat):Int):=a0
    have x:av (av ((m:Int)+(j:Int)) - (i:Int))=((m+j - i:Nat):Int):=by rw [bD (n:=(m:Int)+j) ad ad,bD ad ad];omega
    refine ⟨s.trans l,aq.succ (fun N g=>cJ.eq_2 ..) (aq.aN w (aq.a9 (decide_eq_false ad) ?_))⟩;rw [q,t,x];exact aq.bind (ac9 ad ad c) (aq.if (by rw [jz,jz]) o)
theorem aqR {m:Nat} (j:a < m) (hb:m < b) (c:b<=n) (d:n<=1000):Re n a b f (V8 f m (m - a) (b - m))/\Gv (fun N=>eE N (a:Int) (m:Int) (b:Int) (TF f n)) (TF (V8 f m (m - a) (b - m)) n):=by
 obtain ⟨e,g⟩:=ada (m:=m) (lo:=a) (hi:=b) (f:=f) d _ (aH _) (show 1<=m - a by omega) (show 1<=b - m by omega) ad ad ad c;refine ⟨e,?_⟩;unfold eE;have h:av ((m:Int) - (a:Int))=((m - a:Nat):Int):=a0
 have i:av ((b:Int) - (m:Int))=((b - m:Nat):Int):=a0
 rw [h,i];exact g.diag
end
theorem I7 {i j:Nat} (hi:i<=1000) (d:j<=1000):av (iU .u64 (IntKind.u64.wrap (av ((i:Int)+(j:Int)))) 1)=(((i+j) / 2:Nat):Int):=by
 have a:av ((i:Int)+(j:Int))=((i+j:Nat):Int):=a0
 have b:IntKind.u64.wrap ((i+j:Nat):Int)=((i+j:Nat):Int):=by
  have e:IntKind.u64.wrap ((i+j:Nat):Int)=((i+j:Nat):Int) % 18446744073709551616:=rfl;rw [e];omega
 have c:iU .u64 ((i+j:Nat):Int) 1=((i+j:Nat):Int) / 2:=by
  unfold iU;show ((i+j:Nat):Int).fdiv (2 ^ 1)=_;rw [Int.fdiv_eq_ediv_of_nonneg _ ay];rfl
 rw [a,b,c,bD ad ad];omega
section
variable {n a b m:Nat} {f f':Nat->PR}
structure agk (f:Nat->PR) (a j b:Nat):Prop where
 srt:∀ x y,a<=x->x<=y->y < b->x≠j->y≠j->(f x).1<=(f y).1
 dn:∀ x,a<=x->x < j->(f x).1<=(f j).1
theorem agk.done {j:Nat} (h:agk f a j b) (i:j+1=b\/(f j).1<=(f (j+1)).1):LJ f a b:=fun x y d k g=>by
 by_cases e:x=y
 ·simp_all
 ·by_cases ex:x=j
  ·subst ex;rcases i with q | q
   ·omega
   ·by_cases c:y=x+1
    ·subst c;exact q
    ·exact Rat.le_trans q (h.srt (x+1) y ad ad g ad ad)
  ·by_cases c:y=j
   ·subst c;exact h.dn x d ad
   ·exact h.srt x y d k g ex c
theorem agk.next {j:Nat} (h:agk f a j b) (o:a<=j) (hb:j+1 < b) (hq:(f (j+1)).1<=(f j).1):agk (sw f j (j+1)) a (j+1) b:=by
 have i:sw f j (j+1) j=f (j+1):=if_pos rfl;have n:sw f j (j+1) (j+1)=f j:=by unfold sw;simp
 have d:∀ x,x≠j->x≠j+1->sw f j (j+1) x=f x:=fun x e g=>by simp_all [sw,if_neg]
 refine ⟨fun x y e g k l m=>?_,fun x e g=>?_⟩
 ·by_cases ex:x=j
  ·subst ex
   by_cases c:y=x
   ·simp_all
   ·rw [i,d y c m];exact h.srt (x+1) y ad ad k ad c
  ·by_cases c:y=j
   ·subst c;rw [i,d x ex l];exact h.srt x (y+1) e ad hb ex ad
   ·rw [d x ex l,d y c m];exact h.srt x y e g k ex c
 ·by_cases ex:x=j
  ·simp_all
  ·rw [n,d x ex ad];exact h.dn x e ad
theorem aqS (f:Nat->PR) (n i j:Nat):((TF f n).set i (tb (f j))).set j (tb (f i))=TF (sw f i j) n:=by
 by_cases h:i=j
 ·subst h;rw [aaE]
 ·rw [aaE];congr 1;funext a;unfold sw;grind
theorem ak0 {i:Nat} (hb:b<=n) (m:n<=1000) (hi:i<=b):∀ (d k:Nat) {f:Nat->PR},k+d+1=i->a<=k->agk f a k b->(∀ x,k < x->x < i->(f x).1<=(f k).1)->(∀ x,i<=x->x < b->(f k).1<=(f x).1) ->
  ∃ f',Re n a b f f'/\LJ f' a b/\∀ N R fuel,d < fuel->cm N (i:Int) R fuel (TF f n) (k:Int)=some (TF f' n)
 | 0,k,f,h,c,j,l,o=>by
  refine ⟨f,.refl,j.done (by
   grind),fun N R fuel p=>?_⟩
  obtain ⟨g,rfl⟩:=bb fuel;have e:av ((i:Int) - 1)=((i - 1:Nat):Int):=a0
  simp_all [cm,decide_eq_false,cond_false]
 | d+1,k,f,h,c,j,l,o=>by
  have v:sw f k (k+1) (k+1)=f k:=by unfold sw;simp
  have w:∀ x,k+1 < x->sw f k (k+1) x=f x:=fun x h=>by unfold sw;grind
  obtain ⟨f',q,r,s⟩:=ak0 hb m hi d (k+1) (f:=sw f k (k+1)) ad ad (j.next c ad (l _ ad ad)) (fun x t u=>by grind) fun x t u=>by grind
  refine ⟨f',(Re.swap c ad ad ad hb ad).trans q,r,fun N R fuel p=>?_⟩;obtain ⟨g,rfl⟩:=bb fuel;have e:av ((i:Int) - 1)=((i - 1:Nat):Int):=a0
  refine Eq.trans ?_ (s N R g ad);rw [cm,e,decide_eq_true ad,cond_true,aX ad,ai,ai,jz,if_pos (k6 ad),if_pos (k6 ad),uW f _ (show k < n by omega),uW f _ (show k+1 < n by omega),<- aqS]
theorem ak1 {i:Nat} (hb:m+1<=n) (l:n<=1000) (b:a<=i):∀ (d:Nat) {f:Nat->PR},i+d<=m->Gap f a (i+d) m->(∀ x,i<=x->x < i+d->(f (i+d)).1 < (f x).1)->(∀ x,a<=x->x < i->(f x).1<=(f (i+d)).1) ->
  ∃ f',Re n a (m+1) f f'/\LJ f' a (m+1)/\∀ N R fuel,d < fuel->cw N (i:Int) R fuel (TF f n) ((i+d:Nat):Int)=some (TF f' n)
 | 0,f,h,c,k,o=>by
  refine ⟨f,.refl,c.done (by
   grind),fun N R fuel p=>?_⟩
  obtain ⟨g,rfl⟩:=bb fuel;simp [cw,decide_eq_false,cond_false]
 | d+1,f,h,c,k,o=>by
  have v:sw f (i+d) (i+d+1) (i+d)=f (i+d+1):=if_pos rfl;have w:∀ x,x < i+d->sw f (i+d) (i+d+1) x=f x:=fun x h=>by unfold sw;grind
  obtain ⟨f',q,r,s⟩:=ak1 hb l b d (f:=sw f (i+d) (i+d+1)) ad (c.next (j:=i+d) ad ad (k _ ad ad)) (fun x t u=>by grind) fun x t u=>by grind
  refine ⟨f',(Re.swap ad ad ad ad hb ad).trans q,r,fun N R fuel p=>?_⟩;obtain ⟨g,rfl⟩:=bb fuel;have e:av (((i+(d+1):Nat):Int) - 1)=((i+d:Nat):Int):=a0
  refine Eq.trans ?_ (s N R g ad);rw [cw,e,decide_eq_true ad,cond_true,ai,ai,jz,if_pos (k6 ad),if_pos (k6 ad),uW f _ (show i+d < n by omega),uW f _ (show i+(d+1) < n by omega),<- aaE];rfl
theorem aqT {α:Type} {L:Nat->Nat->Int->Int->Option α} {E:Nat->Nat->Option α} {q:Nat->Bool} {a b p:Nat} (A:a<=b) (mono:∀ c r,a<=r->r<=c->c < b->q c=true->q r=true)
  (step:∀ N g i j,p<=N->a<=i->i < j->j<=b->L N (g+1) (i:Int) (j:Int)=cond (q ((i+j) / 2)) (L N g (((i+j) / 2+1:Nat):Int) (j:Int)) (L N g (i:Int) (((i+j) / 2:Nat):Int)))
  (fin:∀ N g k,L N (g+1) ((k:Nat):Int) (k:Int)=E N k) :
  ∃ k,a<=k/\k<=b/\(∀ c,a<=c->c < k->q c=true)/\(∀ c,k<=c->c < b->q c=false)/\∀ N g,p<=N->b - a < g->L N g (a:Int) (b:Int)=E N k:=by
 have key:∀ d i j,j - i<=d->a<=i->i<=j->j<=b->(∀ c,a<=c->c < i->q c=true)->(∀ c,j<=c->c < b->q c=false) ->
   ∃ k,a<=k/\k<=b/\(∀ c,a<=c->c < k->q c=true)/\(∀ c,k<=c->c < b->q c=false)/\∀ N g,p<=N->d < g->L N g (i:Int) (j:Int)=E N k:=fun d=>by
  induction d with
  | zero =>
   intro i j B h C l m n;have:j=i:=ad;subst this;exact ⟨j,h,l,m,n,fun N g _ s=>by
    obtain ⟨g,rfl⟩:=bb g;exact fin N g j⟩
  | succ d y =>
   intro i j B h C l m n
   by_cases e:i=j
   ·subst e;exact ⟨i,h,l,m,n,fun N g _ s=>by
     obtain ⟨g,rfl⟩:=bb g;exact fin N g i⟩
   ·cases hq:q ((i+j) / 2) with
    | true =>
     obtain ⟨k,t,u,v,w,z⟩:=y ((i+j) / 2+1) j ad ad ad l (fun c c1 o=>mono _ c c1 ad ad hq) n;exact ⟨k,t,u,v,w,fun N g x s=>by
      obtain ⟨g,rfl⟩:=bb g;grind⟩
    | false =>
     obtain ⟨k,t,u,v,w,z⟩:=y i ((i+j) / 2) ad h ad ad m (fun c c1 o=>Bool.eq_false_iff.2 fun D=>by
      have:=mono c ((i+j) / 2) ad c1 o D;rw [hq] at this;cases this)
     exact ⟨k,t,u,v,w,fun N g x s=>by
      obtain ⟨g,rfl⟩:=bb g;rw [step N g i j x h ad l,hq,cond_false];exact z N g x ad⟩
 exact key (b - a) a b (aH _) (aH _) A (aH _) (fun c c1 o=>ad) fun c c1 o=>ad
theorem aqU {P:Nat->Nat->Prop}:∀ {n:Nat},(∀ i,i < n->∃ a,∀ N,a<=N->P i N)->∃ a,∀ N,a<=N->∀ i,i < n->P i N
 | 0,_=>⟨0,fun _ _ _ hi=>ad⟩
 | n+1,h=>by
  obtain ⟨b,d⟩:=aqU (n:=n) fun i hi=>h i ad;obtain ⟨c,e⟩:=h n ad;refine ⟨b+c,fun N f i hi=>?_⟩;grind
theorem YH (b:Shf n f):∃ a,∀ N,a<=N->∀ i,i < n->∀ j,j < n->eF N (tb (f i)) (tb (f j))=some (oE ((f i).1 - (f j).1)) :=
 aqU fun i hi=>aqU fun j c=>let ⟨a,h⟩:=akU b hi c;⟨a,h⟩
theorem YI (x y:Rat):decide (oE (x - y) < 0)=decide (x < y):=by
 rw [lG];grind
theorem agl {m i:Nat}:V8 f m i 0=f:=by
 funext x;simp_all [V8,if_neg]
theorem agm {m j:Nat}:V8 f m 0 j=f:=by
 funext x;simp_all [V8,if_neg]
def ak2 (n a m b:Nat) (f:Nat->PR):Prop:=∃ f',Re n a b f f'/\LJ f' a b/\aq (fun N g=>aG N g (a:Int) (m:Int) (b:Int) (TF f n)) (TF f' n)
theorem zk {x y:Nat} (h:y<=x) (a:x<=10000):av ((x:Int) - (y:Int))=((x - y:Nat):Int):=a0
theorem QD {x y:Nat} (a:x<=10000) (b:y<=10000):av ((x:Int)+(y:Int))=((x+y:Nat):Int):=a0
theorem anE (s:n<=1000) (t:a+1 < b) (hb:b<=n) (u:Shf n f) (m:LJ f (a+1) b):ak2 n a (a+1) b f:=by
 obtain ⟨o,v⟩:=YH u;have search:∀ (R:Nat->Nat->Int->Int->Int->List aa->Option (List aa)) (g:Nat),∃ k,a+1<=k/\k<=b/\(∀ c,a+1<=c->c < k->decide ((f c).1 < (f a).1)=true)/\(∀ c,k<=c->c < b->decide ((f c).1 < (f a).1)=false) /\
   ∀ N x,o<=N->b - (a+1) < x->cu N (a:Int) (TF f n) (R N g) x ((a+1:Nat):Int) (b:Int)=cm N (k:Int) (R N g) N (TF f n) (a:Int):=fun R g =>
  aqT (L:=fun N=>cu N (a:Int) (TF f n) (R N g)) (E:=fun N k=>cm N (k:Int) (R N g) N (TF f n) (a:Int)) (q:=fun c=>decide ((f c).1 < (f a).1)) (Nat.le_of_lt t)
   (fun c w e d h p=>decide_eq_true (by
    have:=nH p;have:=m w c e d h;grind))
   (fun N x i j r e d h=>by
    rw [cu,decide_eq_true ad,cond_true,I7 ad ad,ai,ai,jz,if_pos (k6 ad),if_pos (k6 ad),uW f _ (show (i+j) / 2 < n by omega),uW f _ (show a < n by omega),aX ad];show (eF N (tb (f ((i+j) / 2))) (tb (f a))).bind _=_;rw [v N r _ ad _ ad,db,YI])
   fun N x k=>by
    simp [cu,decide_eq_false,cond_false]
 obtain ⟨k,K,z,M,O,_⟩:=search (fun _ _ _ _ _ _=>none) 0;obtain ⟨f',A,B,C⟩:=ak0 (a:=a) hb s z (k - (a+1)) a (f:=f) ad (aH _) ⟨fun x y e d h p P=>m x y ad d h,fun x e d=>ad⟩
  (fun x e d=>by grind) fun x e d=>by grind
 refine ⟨f',A,B,n+o+2,fun N g r Q=>?_⟩;obtain ⟨g,rfl⟩:=bb g;obtain ⟨k',F,G,H,I,l⟩:=search aG g;have J:k'=k:=by grind
 subst J;dsimp only;rw [aG,zk ad ad,show (((a+1 - a:Nat):Int) == 1)=true by simp,cond_true,l N N ad ad];exact C N _ N ad
theorem ak3 (u:n<=1000) (v:a < m) (hm:m - a≠1) (hb:m+1<=n) (w:Shf n f) (p:LJ f a m):ak2 n a m (m+1) f:=by
 obtain ⟨r,z⟩:=YH w;have search:∀ (R:Nat->Nat->Int->Int->Int->List aa->Option (List aa)) (g:Nat),∃ k,a<=k/\k<=m/\(∀ c,a<=c->c < k->(!decide ((f m).1 < (f c).1))=true)/\(∀ c,k<=c->c < m->(!decide ((f m).1 < (f c).1))=false) /\
   ∀ N x,r<=N->m - a < x->cx N (m:Int) (TF f n) (R N g) x (a:Int) (m:Int)=cw N (k:Int) (R N g) N (TF f n) (m:Int):=fun R g =>
  aqT (L:=fun N=>cx N (m:Int) (TF f n) (R N g)) (E:=fun N k=>cw N (k:Int) (R N g) N (TF f n) (m:Int)) (q:=fun c=>!decide ((f m).1 < (f c).1)) (Nat.le_of_lt v)
   (fun c s b e h l=>by
    have l:(!decide ((f m).1 < (f c).1))=true:=l;show (!decide ((f m).1 < (f s).1))=true;rw [Bool.not_eq_true',decide_eq_false_iff_not] at *
    have:=p s c b e h;grind)
   (fun N x i j t b e h=>by
    rw [cx,decide_eq_true ad,cond_true,I7 ad ad,ai,ai,jz,if_pos (k6 ad),if_pos (k6 ad),uW f _ (show (i+j) / 2 < n by omega),uW f _ (show m < n by omega),aX ad];show (eF N (tb (f m)) (tb (f ((i+j) / 2)))).bind _=_;rw [z N t _ ad _ ad,db,YI])
   fun N x k=>by
    simp [cx,decide_eq_false,cond_false]
 obtain ⟨k,A,M,O,P,_⟩:=search (fun _ _ _ _ _ _=>none) 0;obtain ⟨d,rfl⟩:∃ d,m=k+d:=⟨m - k,ad⟩;obtain ⟨f',B,C,D⟩:=ak1 (m:=k+d) (a:=a) hb u A d (f:=f) (aH _) ⟨fun x y b e h l Q=>p x y b e ad,fun y b e=>ad⟩
  (fun x b e=>by simp_all) fun x b e=>by grind
 refine ⟨f',B,C,n+r+2,fun N g t S=>?_⟩;obtain ⟨g,rfl⟩:=bb g;obtain ⟨k',G,H,I,J,o⟩:=search aG g;have K:k'=k:=by grind
 subst K;dsimp only;rw [aG,zk ad ad,show (((k'+d - a:Nat):Int) == 1)=false by simp;omega,cond_false,zk ad ad,show (((k'+d+1 - (k'+d):Nat):Int) == 1)=true by simp,cond_true,o N N ad ad];exact D N _ N ad
theorem ak4 (hn:n<=1000) (h1:a+1 < m) (h2:m+1 < b) (hb:b<=n) (hs:Shf n f) (D:LJ f a m) (F:LJ f m b) (G:∀ {a' H I:Nat} {f':Nat->PR},I - a' < b - a->a' < H->H < I->I<=n->Shf n f'->LJ f' a' H->LJ f' H I->ak2 n a' H I f'):ak2 n a m b f:=by
 obtain ⟨N0,hc⟩:=YH hs;obtain ⟨ya,t⟩:∃ ya,ya=(a+b) / 2:=⟨_,rfl⟩;obtain ⟨S0,w,hS0⟩:∃ S0 w,(ya < m/\S0=ya+m - b/\w=ya)\/(m<=ya/\S0=a/\w=m):=by
  grind
 have hq:∀ c,S0<=c->c < w->a<=c/\c < m/\m<=ya+m - 1 - c/\ya+m - 1 - c < b:=fun c h d=>ad;have search:∀ (R:Nat->Nat->Int->Int->Int->List aa->Option (List aa)) (g:Nat),∃ k,S0<=k/\k<=w/\(∀ c,S0<=c->c < k->(!decide ((f (ya+m - 1 - c)).1 < (f c).1))=true)/\(∀ c,k<=c->c < w->(!decide ((f (ya+m - 1 - c)).1 < (f c).1))=false) /\
   ∀ N x,N0<=N->w - S0 < x->bV N (a:Int) (m:Int) (b:Int) (TF f n) (R N g) x (S0:Int) (w:Int) =
    (cond (cond (decide ((k:Int) < (m:Int))) (decide ((m:Int) < av (((ya+m:Nat):Int) - (k:Int)))) false) ((eE N (k:Int) (m:Int) (av (((ya+m:Nat):Int) - (k:Int))) (TF f n)).bind fun s=>if s.length=(TF f n).length then bU N (a:Int) (m:Int) (b:Int) (k:Int) (R N g) s else none)
     (bU N (a:Int) (m:Int) (b:Int) (k:Int) (R N g) (TF f n))):=fun R g =>
  aqT (L:=fun N=>bV N (a:Int) (m:Int) (b:Int) (TF f n) (R N g))
   (E:=fun N k=>(cond (cond (decide ((k:Int) < (m:Int))) (decide ((m:Int) < av (((ya+m:Nat):Int) - (k:Int)))) false) ((eE N (k:Int) (m:Int) (av (((ya+m:Nat):Int) - (k:Int))) (TF f n)).bind fun s=>if s.length=(TF f n).length then bU N (a:Int) (m:Int) (b:Int) (k:Int) (R N g) s else none)
     (bU N (a:Int) (m:Int) (b:Int) (k:Int) (R N g) (TF f n)))) (q:=fun c=>!decide ((f (ya+m - 1 - c)).1 < (f c).1)) ad
   (fun c V h d l A=>by
    have A:(!decide ((f (ya+m - 1 - c)).1 < (f c).1))=true:=A;show (!decide ((f (ya+m - 1 - V)).1 < (f V).1))=true;rw [Bool.not_eq_true',decide_eq_false_iff_not] at *
    have:=D V c ad d ad;have:=F (ya+m - 1 - c) (ya+m - 1 - V) ad ad ad;grind)
   (fun N x i j W h d l=>by
    have hh:=hq ((i+j) / 2) ad ad;have e:av (((ya+m - 1:Nat):Int) - (((i+j) / 2:Nat):Int))=((ya+m - 1 - (i+j) / 2:Nat):Int):=zk ad ad;have e1:av (((ya+m:Nat):Int) - 1)=((ya+m - 1:Nat):Int):=zk (y:=1) ad ad;rw [bV,decide_eq_true ad,cond_true,I7 ad ad,I7 ad ad,<- t,QD ad ad,e1,e,ai,ai,jz,if_pos (k6 ad),if_pos (k6 ad),uW f _ (show (i+j) / 2 < n by omega),uW f _ (show ya+m - 1 - (i+j) / 2 < n by omega),aX ad];show (eF N (tb (f (ya+m - 1 - (i+j) / 2))) (tb (f ((i+j) / 2)))).bind _=_;rw [hc N W _ ad _ ad,db,YI])
   fun N x k=>by
    rw [bV,decide_eq_false ad,cond_false,I7 ad ad,<- t,QD ad ad]
 obtain ⟨S,k1,k2,X,k4,_⟩:=search (fun _ _ _ _ _ _=>none) 0;obtain ⟨e,he⟩:∃ e,e=ya+m - S:=⟨_,rfl⟩;have X:∀ c,S0<=c->c < S->(f c).1<=(f (ya+m - 1 - c)).1:=fun c h d=>by have:=X c h d;rw [Bool.not_eq_true',decide_eq_false_iff_not] at this;grind
 have J:∀ c,S<=c->c < w->(f (ya+m - 1 - c)).1 < (f c).1:=fun c h d=>by have:=k4 c h d;rw [Bool.not_eq_false',decide_eq_true_iff] at this;exact this
 -- the rotation
 obtain ⟨o,u⟩:∃ o,o=V8 f m (m - S) (e - m):=⟨_,rfl⟩;have g0:∀ x,x < S\/e<=x->o x=f x:=fun x q=>by rw [u];unfold V8;rw [if_neg ad,if_neg ad]
 have g1:∀ x,S<=x->x < ya->o x=f (x+(m - S)):=fun x h d=>by rw [u];unfold V8;rw [if_pos ad]
 have Y:∀ x,ya<=x->x < e->o x=f (x - (e - m)):=fun x h d=>by rw [u];unfold V8;rw [if_neg ad,if_pos ad]
 have awr:Re n a b f o/\∀ K:Nat->Nat->List aa->Option (List aa),∀ r,aq (fun N g=>K N g (TF o n)) r->aq (fun N g=>cond (cond (decide ((S:Int) < (m:Int))) (decide ((m:Int) < (e:Int))) false) ((eE N (S:Int) (m:Int) (e:Int) (TF f n)).bind fun s=>if s.length=(TF f n).length then K N g s else none) (K N g (TF f n))) r:=by
  by_cases q:S < m/\m < e
  ·obtain ⟨C,p2⟩:=aqR (f:=f) q.1 q.2 (show e<=n by omega) hn;rw [<- u] at C p2;refine ⟨C.wide ad ad,fun K r B=>aq.aN (by rw [decide_eq_true ad,decide_eq_true ad,cond_true]) (aq.bind p2 (aq.if (by rw [jz,jz]) B))⟩
  ·have e1:o=f:=by
    rw [u]
    by_cases d:S < m
    ·rw [show e - m=0 by omega,agl]
    ·rw [show m - S=0 by omega,agm]
   rw [e1];refine ⟨.refl,fun K r B=>aq.a9 ?_ B⟩
   by_cases d:S < m
   ·rw [decide_eq_true ad,decide_eq_false ad,cond_true]
   ·rw [decide_eq_false ad,cond_false]
 have c1:LJ o a S:=fun x y h d l=>by rw [g0 x ad,g0 y ad];exact D x y h d ad
 have c2:LJ o S ya:=fun x y h d l=>by rw [g1 x ad ad,g1 y ad ad];exact F _ _ ad ad ad
 have c3:LJ o ya e:=fun x y h d l=>by rw [Y x ad ad,Y y ad ad];exact D _ _ ad ad ad
 have c4:LJ o e b:=fun x y h d l=>by rw [g0 x ad,g0 y ad];exact F x y ad d ad
 have ate:∀ x y,a<=x->x < ya->ya<=y->y < b->(o x).1<=(o y).1:=fun x y h d l A=>by
  by_cases hx:x < S
  ·rw [g0 x ad]
   by_cases M:y < e
   ·rw [Y y l M];exact D _ _ h ad ad
   ·rw [g0 y ad];have C:=D x (S - 1) h ad ad;have p2:=X (S - 1) ad ad;rw [show ya+m - 1 - (S - 1)=e by omega] at p2;have v:=F e y ad ad A;grind
  ·rw [g1 x ad d]
   by_cases M:y < e
   ·rw [Y y l M];have C:=F (x+(m - S)) (e - 1) ad ad ad;have p2:=J S (aH _) ad;rw [show ya+m - 1 - S=e - 1 by omega] at p2;have v:=D S (y - (e - m)) ad ad ad;grind
   ·rw [g0 y ad];exact F _ _ ad ad A
 obtain ⟨w1,w2⟩:=awr;have Wr:=w1.shf hb hs
 -- the left half
 obtain ⟨p,Z,l2,l3⟩:∃ p,Re n a ya o p/\LJ p a ya/\∀ K:Nat->Nat->List aa->Option (List aa),∀ r,aq (fun N g=>K N g (TF p n)) r->aq (fun N g=>cond (cond (decide ((a:Int) < (S:Int))) (decide ((S:Int) < (ya:Int))) false) ((aG N g (a:Int) (S:Int) (ya:Int) (TF o n)).bind fun s=>if s.length=(TF o n).length then K N g s else none) (K N g (TF o n))) r:=by
  by_cases q:a < S/\S < ya
  ·obtain ⟨p,C,p2,v⟩:=G (show ya - a < b - a by omega) q.1 q.2 (show ya<=n by omega) Wr c1 c2;refine ⟨p,C,p2,fun K r B=>aq.aN (by rw [decide_eq_true ad,decide_eq_true ad,cond_true]) ?_⟩;obtain ⟨O,v⟩:=v;obtain ⟨N2,B⟩:=B;exact ⟨O+N2,fun N g W hg=>by dsimp only at v ⊢;rw [v N g ad ad,db,if_pos (by rw [jz,jz])];exact B N g ad ad⟩
  ·refine ⟨o,.refl,fun x y h d l=>?_,fun K r B=>aq.a9 ?_ B⟩
   ·by_cases A:a < S
    ·exact c1 x y h d ad
    ·exact c2 x y ad d l
   ·by_cases A:a < S
    ·rw [decide_eq_true ad,decide_eq_false ad,cond_true]
    ·rw [decide_eq_false ad,cond_false]
 have hs2:=Z.shf ad Wr;have P:∀ x,ya<=x->p x=o x:=fun x q=>Z.out x ad;have Q:LJ p ya e:=fun x y h d l=>by rw [P x h,P y ad];exact c3 x y h d l
 have T:LJ p e b:=fun x y h d l=>by rw [P x ad,P y ad];exact c4 x y h d l
 -- the right half
 obtain ⟨z,U,r2,r3⟩:∃ z,Re n ya b p z/\LJ z ya b/\aq (fun N g=>cond (cond (decide ((ya:Int) < (e:Int))) (decide ((e:Int) < (b:Int))) false) ((aG N g (ya:Int) (e:Int) (b:Int) (TF p n)).bind fun s=>if s.length=(TF p n).length then some s else none) (some (TF p n))) (TF z n):=by
  by_cases q:ya < e/\e < b
  ·obtain ⟨z,C,p2,v⟩:=G (show b - ya < b - a by omega) q.1 q.2 hb hs2 Q T;refine ⟨z,C,p2,aq.aN (by rw [decide_eq_true ad,decide_eq_true ad,cond_true]) ?_⟩;obtain ⟨O,v⟩:=v;exact ⟨O,fun N g W hg=>by dsimp only at v ⊢;rw [v N g ad ad,db,if_pos (by rw [jz,jz])]⟩
  ·refine ⟨p,.refl,fun x y h d l=>?_,aq.a9 ?_ ⟨0,fun _ _ _ _=>rfl⟩⟩
   ·by_cases A:ya < e
    ·exact Q x y h d ad
    ·exact T x y ad d l
   ·by_cases A:ya < e
    ·rw [decide_eq_true ad,decide_eq_false ad,cond_true]
    ·rw [decide_eq_false ad,cond_false]
 refine ⟨z,w1.trans ((Z.wide (aH _) ad).trans (U.wide ad (aH _))),fun x y h d l=>?_,?_⟩
 ·by_cases hx:ya<=x
  ·exact r2 x y hx d l
  ·by_cases M:ya<=y
   ·rw [U.out x ad];obtain ⟨x',x1,x2,ex⟩:=Z.inn x h ad;obtain ⟨y',y1,y2,ey⟩:=U.inn y M l;rw [ex,ey,P y' y1];exact ate x' y' x1 x2 y1 y2
   ·rw [U.out x ad,U.out y ad];exact l2 x y h d ad
 ·have j8:aq (fun N g=>dT N (a:Int) (m:Int) (b:Int) (S:Int) (aG N g) (TF p n)) (TF z n):=by
   unfold dT;rw [I7 ad ad,<- t,QD ad ad,zk ad ad,<- he];exact r3
  have j7:aq (fun N g=>bU N (a:Int) (m:Int) (b:Int) (S:Int) (aG N g) (TF o n)) (TF z n):=by
   unfold bU;rw [I7 ad ad,<- t];exact l3 (fun N g=>dT N (a:Int) (m:Int) (b:Int) (S:Int) (aG N g)) _ j8
  have j6:=w2 (fun N g=>bU N (a:Int) (m:Int) (b:Int) (S:Int) (aG N g)) _ j7;obtain ⟨O,j6⟩:=j6;refine ⟨N0+O+n+2,fun N g W hg=>?_⟩;obtain ⟨g,rfl⟩:=bb g;obtain ⟨k,z1,z2,z3,z4,z5⟩:=search aG g;have ek:k=S:=by
   rcases Nat.lt_trichotomy k S with q | q | q
   ·have h3:=X k z1 q;have h4:=z4 k (aH _) ad;rw [Bool.not_eq_false',decide_eq_true_iff] at h4;grind
   ·exact q
   ·have h3:=z3 S k1 q;have h4:=J S (aH _) ad;rw [Bool.not_eq_true',decide_eq_false_iff_not] at h3;exact absurd h4 h3
  subst ek;have zz:=z5 N N ad ad;rw [zk ad ad,<- he] at zz;have fin:bV N (a:Int) (m:Int) (b:Int) (TF f n) (aG N g) N (S0:Int) (w:Int)=some (TF z n):=zz.trans (j6 N g ad ad);dsimp only;rw [aG,zk ad ad,show (((m - a:Nat):Int) == 1)=false by simp;omega,cond_false,zk ad ad,show (((b - m:Nat):Int) == 1)=false by simp;omega,cond_false,I7 ad ad,<- t,QD ad ad];rcases hS0 with ⟨h,d,l⟩ | ⟨h,d,l⟩
  ·rw [decide_eq_true ad,cond_true,zk ad ad,fy,<- d,<- l];exact fin
  ·rw [decide_eq_false ad,cond_false,fy,<- d,<- l];rw [d,l] at fin ⊢;exact fin
theorem ak6 (c:n<=1000):∀ (d:Nat) {a m b:Nat} {f:Nat->PR},b - a<=d->a < m->m < b->b<=n->Shf n f->LJ f a m->LJ f m b->ak2 n a m b f
 | 0,a,m,b,f,l,j,k,hb,e,g,i=>ad
 | d+1,a,m,b,f,l,j,k,hb,e,g,i=>by
  by_cases c1:m - a=1
  ·have:m=a+1:=ad;subst this;exact anE c k hb e i
  ·by_cases o:b - m=1
   ·have:b=m+1:=ad;subst this;exact ak3 c j c1 hb e g
   ·exact ak4 c ad ad hb e g i fun h=>ak6 c d ad
theorem agn (L:n<=32) (k:Shf n f):∃ f',Re n 0 n f f'/\LJ f' 0 n/\Gv (fun N=>b9 N (TF f n)) (TF f' n):=by
 have w:av (20+20)=40:=ay;have z:av (2 * 20)=40:=ay;have M:av (20 * 2)=40:=ay;have A:av (0+20)=20:=ay;have d:n<=20->∀ f:Nat->PR,aq (fun N g=>cg N (n:Int) g (TF f n) 20) (TF f n):=fun B f=>aq.succ (fun N g=>cg.eq_2 ..) (aq.a9 (decide_eq_false ad) ⟨0,fun _ _ _ _=>rfl⟩);have last:∀ f:Nat->PR,aq (fun N g=>cg N (n:Int) g (TF f n) 40) (TF f n):=fun f=>aq.succ (fun N g=>cg.eq_2 ..) (aq.a9 (decide_eq_false ad) ⟨0,fun _ _ _ _=>rfl⟩);have fin:∀ f':Nat->PR,aq (fun N g=>cL N (n:Int) g (TF f n) 0 20) (TF f' n)->Gv (fun N=>b9 N (TF f n)) (TF f' n):=fun f' h=>by
  unfold b9 kO;rw [jz];exact h.diag.bind (Gv.if (by rw [jz]) (Gv.pure _))
 by_cases C:n < 20
 ·obtain ⟨f',e,p2,l⟩:=ac7 (a:=0) (b:=n) (Nat.zero_le _) (aH _) ad k;refine ⟨f',e,p2,fin f' (aq.succ (fun N g=>cL.eq_2 ..) (aq.a9 (decide_eq_false ad) (aq.bind l (aq.if (by rw [jz,jz]) ?_))))⟩;exact .one (d ad f').diag
 ·obtain ⟨O,e,p2,l⟩:=ac7 (a:=0) (b:=20) (n:=n) (Nat.zero_le _) ad ad k;have t:=e.shf ad k;obtain ⟨c,i,D,E⟩:=ac7 (a:=20) (b:=n) (n:=n) ad (aH _) ad t;have o:=i.shf (aH _) t;have u:LJ c 0 20:=fun x y p q v=>by rw [i.out x ad,i.out y ad];exact p2 x y p q v
  have pre:∀ r,aq (fun N g=>cg N (n:Int) g (TF c n) 20) r->aq (fun N g=>cL N (n:Int) g (TF f n) 0 20) r:=fun r h=>by
   refine aq.succ (fun N g=>cL.eq_2 ..) (aq.aN (decide_eq_true ad) (aq.bind l (aq.if (by rw [jz,jz]) ?_)));rw [w];refine aq.succ (fun N g=>cL.eq_2 ..) (aq.a9 (decide_eq_false ad) (aq.bind E (aq.if (by rw [jz,jz]) ?_)));exact .one h.diag
  by_cases F:n=20
  ·refine ⟨c,(e.wide (aH _) ad).trans (i.wide ad (aH _)),fun x y p q v=>u x y p q ad,fin c (pre _ (d ad c))⟩
  ·obtain ⟨s,G,H,j⟩:=ak6 (n:=n) ad n (a:=0) (m:=20) (b:=n) (f:=c) ad ay ad (aH _) o u D;refine ⟨s,(e.wide (aH _) ad).trans ((i.wide ad (aH _)).trans G),H,fin s (pre _ ?_)⟩;refine aq.succ (fun N g=>cg.eq_2 ..) (aq.aN (decide_eq_true ad) ?_);rw [z];obtain ⟨I,J⟩:=last s;obtain ⟨K,j⟩:=j;refine ⟨I+K+1,fun N g P Q=>?_⟩;obtain ⟨N',rfl⟩:=bb N;dsimp only at j J ⊢;rw [fY,decide_eq_false ad,cond_false,A,decide_eq_true ad,cond_true,show (0:Int)=((0:Nat):Int) from rfl,show (20:Int)=((20:Nat):Int) from rfl,j (N'+1) (N'+1) ad ad,db,if_pos (by rw [jz,jz]),iB];grind
end
section
variable {t s:Nat->Rat} {n:Nat}
def dd (s:Nat->Rat) (p:Nat):Rat:=if p=0 then s 0 else s p - s (p - 1)
theorem aeS (i:Nat):dd s (i+1)=s (i+1) - s i:=by rfl
theorem Hd {x:Rat} (h:x<=0):ps x=0:=by unfold ps;split<;>grind
theorem PC {x:Rat} (h:0<=x):ps x=x:=by unfold ps;split<;>grind
theorem aoL (up:Up t n) {i:Nat} (hi:i < n) (y:Rat):pc t n i y=ps (y - t i) - (if i+1 < n then ps (y - t (i+1)) else 0):=by
 by_cases b:y<=t i
 ·rw [Qy up b,Hd (x:=y - t i) (by grind)]
  by_cases a:i+1 < n
  ·have:=up i a;rw [if_pos a,Hd (by grind)];grind
  ·rw [if_neg a];grind
 ·rw [PC (x:=y - t i) (by grind)]
  by_cases a:i+1 < n
  ·have:=up i a;rw [if_pos a]
   by_cases c:t (i+1)<=y
   ·rw [JI up a c,PC (by grind)];grind
   ·rw [MU up (by grind) (fun _=>by grind),Hd (by grind)];grind
  ·rw [if_neg a,MU up (by grind) (fun h=>absurd h a)];grind
abbrev rp (t d:Nat->Rat) (y:Rat) (p:Nat):Rat:=d p * ps (y - t p)
theorem aeT (up:Up t n) (y:Rat):∀ (k i:Nat),i+k+1=n->vs t s n (k+1) i y=s i * ps (y - t i)+(aV n (rp t (dd s) y) - aV (i+1) (rp t (dd s) y))
 | 0,i,h=>by
  rw [vs,vs,aoL up ad,if_neg ad,show n=i+1 by omega];grind
 | k+1,i,h=>by
  rw [vs,aoL up ad,if_pos ad,aeT up y k (i+1) ad];have e:aV (i+1+1) (rp t (dd s) y)=aV (i+1) (rp t (dd s) y)+dd s (i+1) * ps (y - t (i+1)):=rfl;rw [e,aeS];grind
theorem ak8 (up:Up t n) (y:Rat):vs t s n n 0 y=aV n (rp t (dd s) y):=by
 cases n with
 | zero=>rfl
 | succ k =>
  rw [aeT up y k 0 ad];have e:aV (0+1) (rp t (dd s) y)=0+s 0 * ps (y - t 0):=rfl;rw [e];grind
def clB (d:Nat->Rat) (n:Nat) (P:Nat->Bool):Rat:=aV n fun p=>cond (P p) (d p) 0
def clG (t d:Nat->Rat) (n:Nat) (P:Nat->Bool):Rat:=aV n fun p=>cond (P p) (d p * t p) 0
theorem I8 {d:Nat->Rat} {P:Nat->Bool} {u:Rat} (c:∀ p,p < n->P p=true->t p<=u) (f:∀ p,p < n->P p=false->u<=t p):aV n (rp t d u)=clB d n P * u - clG t d n P:=by
 have e:aV n (rp t d u)=aV n fun p=>u * cond (P p) (d p) 0+(-1) * cond (P p) (d p * t p) 0:=bc fun p a=>by
  show d p * ps (u - t p)=_;cases b:P p with
  | true=>have:=c p a b;rw [PC (by grind),cond_true,cond_true];grind
  | false=>have:=f p a b;rw [Hd (by grind),cond_false,cond_false];grind
 rw [e,mP,ia,ia];unfold clB clG;grind
theorem ak9 (up:Up t n) {u:Rat}:∀ i,i < n->t i < u->aV (i+1) (fun p=>cond (decide (t p < u)) (dd s p) 0)=s i
 | 0,_,h=>by
  show 0+cond (decide (t 0 < u)) (dd s 0) 0=s 0;rw [decide_eq_true h,cond_true];show 0+s 0=s 0;grind
 | i+1,hi,h=>by
  have a:=up i hi;have e:aV (i+1+1) (fun p=>cond (decide (t p < u)) (dd s p) 0)=aV (i+1) (fun p=>cond (decide (t p < u)) (dd s p) 0)+cond (decide (t (i+1) < u)) (dd s (i+1)) 0:=rfl;rw [e,ak9 up i ad (by grind),decide_eq_true h,cond_true,aeS];grind
theorem ala (up:Up t n) {u:Rat}:∀ (k i:Nat),i+k=n->lsl t s u k i (aV i fun p=>cond (decide (t p < u)) (dd s p) 0)=clB (dd s) n fun p=>decide (t p < u)
 | 0,i,h=>by
  have:i=n:=ad;subst this;rfl
 | k+1,i,h=>by
  rw [lsl];have e:(if t i < u then s i else aV i fun p=>cond (decide (t p < u)) (dd s p) 0)=aV (i+1) fun p=>cond (decide (t p < u)) (dd s p) 0:=by
   by_cases q:t i < u
   ·rw [if_pos q,ak9 up i ad q]
   ·rw [if_neg q];show _=aV i _+cond (decide (t i < u)) (dd s i) 0;grind
  rw [e];exact ala up k (i+1) ad
theorem ago (up:Up t n) (u:Rat):lsl t s u n 0 0=clB (dd s) n fun p=>decide (t p < u):=ala up n 0 (Nat.zero_add _)
theorem alb (b:∀ i,i < n->0<=s i) {u:Rat}:∀ (k i:Nat) {o:Rat},i+k=n->0<=o->0<=lsl t s u k i o
 | 0,_,_,_,a=>a
 | k+1,i,o,h,a=>by
  rw [lsl];refine alb b k (i+1) ad ?_;grind
theorem QE {f g:Nat->Rat} (h:∀ i,i < n->f i<=g i):aV n f<=aV n g:=by
 induction n with
 | zero=>exact Rat.le_refl
 | succ n a=>have b:=a fun i hi=>h i ad;have c:=h n ad;rw [aV,aV];grind
theorem QF {f:Nat->Rat} (h:∀ i,i < n->0<=f i):0<=aV n f:=by
 have:=QE h;rwa [kL] at this
theorem I9 {f:Nat->Rat} (h:∀ i,i < n->0<=f i) {j:Nat} (a:j < n):f j<=aV n f:=by
 rw [qB a];have:=QF (n:=n) (f:=fun i=>if i=j then 0 else f i) fun i hi=>by
  show 0<=if i=j then (0:Rat) else f i
  split
  ·exact Rat.le_refl
  ·exact h i hi
 grind
theorem US {f:Nat->Rat} (h:∀ i,i < n->0<=f i) (b:aV n f=0) {j:Nat} (a:j < n):f j=0:=by
 have:=I9 h a;have:=h j a;grind
end
abbrev sT (s:af):Nat->Rat:=ct s.aY
abbrev sS (s:af):Nat->Rat:=cq s.aY
abbrev sN (s:af):Nat:=cn s.aY
section
variable {s:af} {u v:Rat}
theorem Fj (b:SB s) (u:Rat):sf s u=aV (sN s) (rp (sT s) (dd (sS s)) u):=ak8 b.right.up u
theorem aeU (b:SB s) (h:u<=v):sf s u<=sf s v:=aew b.right.up h _ _ fun j _ a=>b.right.nn j (by simp_all)
theorem YJ (b:SB s) (h:∀ p,p < sN s->u<=sT s p):sf s u=0:=by
 rw [Fj b];exact (bc fun p a=>by have:=h p a;show dd (sS s) p * ps (u - sT s p)=0;rw [Hd (by grind)];grind).trans (kL _)
theorem alc (b:SB s) (u:Rat):0<=sf s u:=by
 rw [show sf s u=vs (sT s) (sS s) (sN s) (sN s) 0 u from rfl];have key:∀ k i,i+k=sN s->0<=vs (sT s) (sS s) (sN s) k i u:=fun k=>by
  induction k with
  | zero=>intro i _;exact Rat.le_refl
  | succ k a =>
   intro i hi;rw [vs];have c:=Rat.mul_nonneg (b.right.nn i (show i < sN s by omega)) (aoz (t:=sT s) (n:=sN s) (i:=i) (y:=u));grind
 simp_all
theorem aoM (b:SB s) {p:Nat} (c:p < sN s):-10000000<=sT s p:=by
 have:=b.right.lo p c;exact (Rat.intCast_le_intCast (a:=-10000000)).2 this
theorem aoN (b:SB s) {p:Nat} (a:p < sN s):sT s p<=10000000:=by
 have:=b.right.hi p a;exact (Rat.intCast_le_intCast (b:=10000000)).2 this
theorem aeV (b:SB s):-1000000<=sx s:=(Rat.intCast_le_intCast (a:=-1000000)).2 b.xl
theorem aeW (b:SB s):sx s<=1000000:=(Rat.intCast_le_intCast (b:=1000000)).2 b.xh
end
section
variable {l:List af} {W h h' t t':Rat}
theorem anG (b:LS l) {i:Nat} (hi:i < l.length) (a:su (sat l i) h t<=su (sat l i) h' t'):fI l h t i<=fI l h' t' i:=aeU (b.sb i hi) a
theorem aeX (b:LS l) (a:∀ i,i < l.length->su (sat l i) h t<=su (sat l i) h' t'):fF l h t<=fF l h' t':=QE fun i hi=>anG b hi (a i hi)
theorem aaI (b:LS l) (a:h<=h'):fF l h t<=fF l h' t:=aeX b fun i _=>by unfold su;grind
structure oZ (l:List af) (W t h:Rat):Prop where
 eq:fF l h t=W
 lt:∀ y,y < h->fF l y t < W
theorem oZ.one (a:oZ l W t h) (b:oZ l W t h'):h=h':=by
 by_cases q:h < h'
 ·have:=b.lt h q;rw [a.eq] at this;simp_all
 ·by_cases c:h' < h
  ·have:=a.lt h' c;rw [b.eq] at this;simp_all
  ·grind
theorem oZ.below (a:oZ l W t h) (b:LS l) {y:Rat}:y < h↔fF l y t < W :=
 ⟨a.lt y,fun q=>Rat.not_le.1 fun c=>by have:=aaI (t:=t) b c;have:=a.eq;grind⟩
theorem oZ.lip (a:oZ l W t h) (a':oZ l W t' h') (b:LS l) {e:Rat} (c:t' - t<=e) (d:t - t'<=e):h'<=h+1000000 * e:=Rat.not_lt.1 fun q=>by
 have:=a'.lt _ q;have f:fF l h t<=fF l (h+1000000 * e) t':=aeX b fun i hi=>by
  have g:=aeV (b.sb i hi);have j:=aeW (b.sb i hi);have k:=Rat.mul_nonneg (show 0<=e - (t - t') by grind) (show 0<=sx (sat l i)+1000000 by grind);have m:=Rat.mul_nonneg (show 0<=e - (t' - t) by grind) (show 0<=1000000 - sx (sat l i) by grind);unfold su;grind
 have:=a.eq;grind
def He (G:Rat->Rat):Prop:=∃ (n:Nat) (d c:Nat->Rat),∀ y,G y=aV n (rp c d y)
theorem TT (f:Nat->Rat) (a:Nat):∀ b,aV (a+b) f=aV a f+aV b fun i=>f (a+i)
 | 0=>by show aV a f=aV a f+0;grind
 | b+1=>by
  have e:aV (a+(b+1)) f=aV (a+b) f+f (a+b):=rfl;rw [e,TT f a b,aV];grind
theorem He.add {G H:Rat->Rat} (a:He G) (b:He H):He fun y=>G y+H y:=by
 obtain ⟨n,d,c,a⟩:=a;obtain ⟨m,e,f,b⟩:=b;refine ⟨n+m,fun i=>if i < n then d i else e (i - n),fun i=>if i < n then c i else f (i - n),fun y=>?_⟩;simp_all [TT,bc,rp,if_pos,if_neg,Nat.add_sub_cancel_left]
theorem He.sum {G:Nat->Rat->Rat}:∀ {n:Nat},(∀ i,i < n->He (G i))->He fun y=>aV n fun i=>G i y
 | 0,_=>⟨0,fun _=>0,fun _=>0,fun _=>rfl⟩
 | n+1,h=>(He.sum fun i hi=>h i ad).add (h n ad)
theorem He.first {G:Rat->Rat} (e:He G) (mono:∀ y z,y<=z->G y<=G z) {j z0:Rat} (l:G j < W) (m:W<=G z0):∃ h,G h=W/\∀ x,x < h->G x < W:=by
 obtain ⟨n,d,c,e⟩:=e;have key:∀ k,k<=n->∃ y z,G y < W/\W<=G z/\∀ q,q < k->¬ (y < c q/\c q < z):=fun k=>by
  induction k with
  | zero=>grind
  | succ k o =>
   intro C;obtain ⟨y,z,r,s,i⟩:=o ad
   by_cases D:y < c k/\c k < z
   ·by_cases hq:G (c k) < W
    ·grind
    grind
   grind
 obtain ⟨y,z,r,s,i⟩:=key n (aH _);have b:y < z:=Rat.not_le.1 fun q=>by have:=mono _ _ q;grind
 have a:∀ x,y<=x->x<=z->G x=clB d n (fun q=>decide (c q<=y)) * x - clG c d n fun q=>decide (c q<=y):=fun x E F=>by
  rw [e];refine I8 (fun p _ f=>?_) fun p f t=>?_
  ·have:=nH f;grind
  ·have:=o7 t;have:=i p f;grind
 have H:=a y Rat.le_refl (Rat.le_of_lt b);have I:=a z (Rat.le_of_lt b) Rat.le_refl;generalize clB d n (fun q=>decide (c q<=y))=A at *
 generalize clG c d n (fun q=>decide (c q<=y))=B at *
 have g:0 < A:=Rat.not_le.1 fun q=>by
  have:=Rat.mul_nonneg (show 0<=-A by grind) (show 0<=z - y by grind);grind
 have J:A * ((W+B) / A)=W+B:=by rw [Rat.mul_comm];exact Rat.div_mul_cancel (by grind)
 have u:y < (W+B) / A:=Rat.not_le.1 fun q=>by
  have:=Rat.mul_le_mul_of_nonneg_left q (Rat.le_of_lt g);grind
 have v:(W+B) / A<=z:=Rat.not_lt.1 fun q=>by
  have:=Rat.mul_lt_mul_of_pos_left q g;grind
 refine ⟨(W+B) / A,by rw [a _ (Rat.le_of_lt u) v];grind,fun x w=>?_⟩
 by_cases q:x<=y
 ·have:=mono _ _ q;grind
 ·rw [a x (by grind) (by grind)];have:=Rat.mul_lt_mul_of_pos_left w g;grind
theorem ald (b:LS l) (t:Rat):He fun y=>fF l y t:=He.sum fun i hi=>⟨sN (sat l i),dd (sS (sat l i)),fun p=>sT (sat l i) p - sc (sat l i) - t * sx (sat l i),fun y=>by
 show sf (sat l i) _=_;rw [Fj (b.sb i hi)];exact bc fun p _=>by
  show _ * ps _=_ * ps _;congr 2;unfold su;grind⟩
theorem aqV (b:LS l) (t:Rat):∃ y,fF l y t=0:=by
 refine ⟨-20000000 - 1000000 * (ps t+ps (-t)),(bc fun i hi=>?_).trans (kL _)⟩;have q:=b.sb i hi;refine YJ q fun p c=>?_;have e:=aoM q c;have f:=q.ch;have g:=aeV q;have d:=aeW q;have h:t * sx (sat l i)<=1000000 * (ps t+ps (-t)):=by
  by_cases a:0<=t
  ·rw [PC a,Hd (x:=-t) (by grind)];have:=Rat.mul_le_mul_of_nonneg_left d a;grind
  ·rw [Hd (x:=t) (by grind),PC (x:=-t) (by grind)];have:=Rat.mul_nonneg (show 0<=-t by grind) (show 0<=sx (sat l i)+1000000 by grind);grind
 unfold su;grind
def Carry (l:List af) (W:Rat):Prop:=∀ t,∃ y,W<=fF l y t
theorem oZ.ex (b:LS l) (a:0 < W) (c:Carry l W) (t:Rat):∃ h,oZ l W t h:=by
 obtain ⟨y,d⟩:=aqV b t;obtain ⟨z,e⟩:=c t;obtain ⟨h,f,g⟩:=(ald b t).first (fun _ _ q=>aaI b q) (show fF l y t < W by rw [d];exact a) e;exact ⟨h,f,g⟩
theorem agp (b:LS l) (a:0 < W) (c:Carry l W):∃ H:Rat->Rat,∀ t,oZ l W t (H t):=⟨fun t=>(oZ.ex b a c t).choose,fun t=>(oZ.ex b a c t).choose_spec⟩
end
def M6 (a b:Rat) (m:Nat):Prop:=∀ z,a < z->z < b->¬ RB z m
def LV (a b:Rat) (m:Nat) (g:Rat->Rat):Prop:=∃ A B,RB A m/\RB B m/\∀ s,a < s->s < b->g s=A+B * s
section
variable {a b:Rat} {m n M:Nat} {f g:Rat->Rat}
theorem LV.le (h:LV a b m f) (c:m<=n):LV a b n f:=let ⟨A,B,d,e,g⟩:=h;⟨A,B,d.le c,e.le c,g⟩
theorem LV.add (d:LV a b m f) (e:LV a b n g):LV a b (m+n+1) fun s=>f s+g s:=by
 obtain ⟨A,B,h,i,p⟩:=d;obtain ⟨j,k,l,c,o⟩:=e;exact ⟨A+j,B+k,h.add l,i.add c,fun s q r=>by grind⟩
theorem LV.mul {c:Rat} (d:RB c n) (e:LV a b m f):LV a b (n+m) fun s=>c * f s:=by
 obtain ⟨A,B,g,h,i⟩:=e;exact ⟨c * A,c * B,d.mul g,d.mul h,fun s j k=>by grind⟩
theorem LV.const {c:Rat} (d:RB c n) (e:1<=n):LV a b n fun _=>c:=⟨c,0,d,RB.zero.le e,fun s _ _=>by grind⟩
theorem LV.sum {F:Nat->Rat->Rat}:∀ {n:Nat},(∀ i,i < n->LV a b m (F i))->LV a b (n * (m+1)+1) fun s=>aV n fun i=>F i s
 | 0,_=>(LV.const (c:=0) RB.zero (aH _)).le ad
 | n+1,h=>((LV.sum fun i hi=>h i ad).add (h n ad)).le (by grind)
theorem LV.sign (fr:M6 a b M) (hm:m+m<=M) (f:LV a b m g):(∀ s,a < s->s < b->g s < 0)\/∀ s,a < s->s < b->0<=g s:=by
 obtain ⟨A,B,k,l,n⟩:=f
 by_cases i:B=0
 ·grind
 ·have o:RB (-A / B) M:=(k.neg.div l i).le hm;have e:-A / B * B = -A:=Rat.div_mul_cancel i;generalize -A / B=z at *
  have f:∀ s,a < s->s < b->g s=B * (s - z):=fun s d c=>by rw [n s d c];grind
  have h:z<=a\/b<=z:=by
   by_cases q:a < z
   ·exact .inr (Rat.not_lt.1 fun c=>fr z q c o)
   ·exact .inl (by grind)
  by_cases j:0 < B
  ·rcases h with q | q
   ·exact .inr fun s d c=>by rw [f s d c];exact Rat.mul_nonneg (Rat.le_of_lt j) (by grind)
   ·exact .inl fun s d c=>by rw [f s d c];have:=Rat.mul_pos j (show 0 < z - s by grind);grind
  ·rcases h with q | q
   ·exact .inl fun s d c=>by rw [f s d c];have:=Rat.mul_pos (show 0 < -B by grind) (show 0 < s - z by grind);grind
   ·exact .inr fun s d c=>by rw [f s d c];have:=Rat.mul_nonneg (show 0<=-B by grind) (show 0<=z - s by grind);grind
theorem LV.pos (fr:M6 a b M) (hm:m+m<=M) (e:1<=m) (f:LV a b m g):LV a b m fun s=>ps (g s):=by
 rcases f.sign fr hm with h | h
 ·exact ⟨0,0,RB.zero.le e,RB.zero.le e,fun s c d=>by have:=h s c d;show ps (g s)=_;rw [Hd (by grind)];grind⟩
 ·obtain ⟨A,B,i,j,k⟩:=f;exact ⟨A,B,i,j,fun s c d=>by show ps (g s)=_;rw [PC (h s c d)];exact k s c d⟩
end
theorem Hf {s:af} (b:SB s) {p:Nat} (a:p < sN s):RB (sT s p) 4:=(b.right.rq a).rb
theorem ale {s:af} (b:SB s) (p:Nat):RB (dd (sS s) p) 7:=by
 unfold dd;split
 ·exact (b.cv.rq 0).rb.le ay
 ·exact ((b.cv.rq p).rb.sub (b.cv.rq (p - 1)).rb).le ay
section
variable {l:List af} {W:Rat} {H:Rat->Rat} {a b m:Rat}
theorem alf (B:LS l) (fr:M6 a b 4000) {i p:Nat} (hi:i < l.length) (d:p < sN (sat l i)):LV a b 817 fun s=>fF l (sT (sat l i) p - sc (sat l i) - s * sx (sat l i)) s:=by
 have bi:=B.sb i hi;have k:=B.len;refine LV.le (LV.sum (m:=101) fun j f=>?_) (show l.length * (101+1)+1<=817 by omega);have c:=B.sb j f;have n:=c.four;have e:(fun s=>fI l (sT (sat l i) p - sc (sat l i) - s * sx (sat l i)) s j)=fun s=>aV (sN (sat l j)) fun q=>dd (sS (sat l j)) q * ps ((sc (sat l j) - sc (sat l i)+(sT (sat l i) p - sT (sat l j) q))+(sx (sat l j) - sx (sat l i)) * s):=by
  funext s;show sf (sat l j) _=_;rw [Fj c];exact bc fun q _=>by
   show _ * ps _=_ * ps _;congr 2;unfold su;grind
 rw [e];refine LV.le (LV.sum (m:=24) fun q hq=>?_) (show sN (sat l j) * (24+1)+1<=101 by grind);have g:=(c.cr.rb.sub bi.cr.rb).add ((Hf bi d).sub (Hf c hq));have h:=c.xb.sub bi.xb;exact LV.mul (ale c q) (LV.pos (m:=17) fr ay ay ⟨_,_,g.le ay,h.le ay,fun s _ _=>rfl⟩)
theorem TU (B:LS l) (f:RB W 2) (e:∀ s,oZ l W s (H s)) (fr:M6 a b 4000) {i p:Nat} (hi:i < l.length) (g:p < sN (sat l i)) :
  (∀ s,a < s->s < b->sT (sat l i) p < su (sat l i) (H s) s)\/∀ s,a < s->s < b->su (sat l i) (H s) s<=sT (sat l i) p:=by
 have j:=(alf B fr hi g).add (LV.const (a:=a) (b:=b) f.neg ay);rcases j.sign fr ay with h | h
 ·refine .inl fun s c d=>?_;have k:=h s c d;have m:=((e s).below B (y:=sT (sat l i) p - sc (sat l i) - s * sx (sat l i))).2 (by grind);unfold su;grind
 ·refine .inr fun s c d=>?_;have k:=h s c d;have m:¬ _:=fun q=>absurd (((e s).below B (y:=sT (sat l i) p - sc (sat l i) - s * sx (sat l i))).1 q) (by grind);unfold su;grind
theorem ajP {e δ:Rat} (c:a < b) (g:a<=e) (h:e<=b) (d:0 < δ):∃ s,a < s/\s < b/\s - e<=δ/\e - s<=δ:=by
 by_cases q:δ<=(b - a) / 4
 ·by_cases f:e<=(a+b) / 2
  ·exact ⟨e+δ,by grind,by grind,by grind,by grind⟩
  ·exact ⟨e - δ,by grind,by grind,by grind,by grind⟩
 ·by_cases f:e<=(a+b) / 2
  ·exact ⟨e+(b - a) / 4,by grind,by grind,by grind,by grind⟩
  ·exact ⟨e - (b - a) / 4,by grind,by grind,by grind,by grind⟩
theorem aeY (B:LS l) (a:∀ s,oZ l W s (H s)) {i:Nat} (hi:i < l.length) {s e δ:Rat} (b:s - e<=δ) (c:e - s<=δ):su (sat l i) (H s) s<=su (sat l i) (H e) e+2000000 * δ:=by
 have d:=(a e).lip (a s) B b c;have f:=aeV (B.sb i hi);have g:=aeW (B.sb i hi);have h:=Rat.mul_nonneg (show 0<=δ - (s - e) by grind) (show 0<=1000000+sx (sat l i) by grind);have j:=Rat.mul_nonneg (show 0<=δ - (e - s) by grind) (show 0<=1000000 - sx (sat l i) by grind);unfold su;grind
theorem aaJ (B:LS l) (g:∀ s,oZ l W s (H s)) {i:Nat} (hi:i < l.length) {T e:Rat} (c:a < b) (j:a<=e) (k:e<=b) :
  ((∀ s,a < s->s < b->T < su (sat l i) (H s) s)->T<=su (sat l i) (H e) e)/\((∀ s,a < s->s < b->su (sat l i) (H s) s<=T)->su (sat l i) (H e) e<=T):=by
 refine ⟨fun h=>Rat.not_lt.1 fun q=>?_,fun h=>Rat.not_lt.1 fun q=>?_⟩
 ·obtain ⟨s,m,n,d,f⟩:=ajP (δ:=(T - su (sat l i) (H e) e) / 4000000) c j k (by grind);have:=aeY B g hi d f;grind
 ·obtain ⟨s,m,n,d,f⟩:=ajP (δ:=(su (sat l i) (H e) e - T) / 4000000) c j k (by grind);have:=aeY B g hi f d;grind
theorem YK {Q:Nat->Rat->Prop} (a:∀ i e b,Q i e->b<=e->Q i b):∀ {n:Nat},(∀ i,i < n->∃ e,0 < e/\Q i e)->∃ e,0 < e/\∀ i,i < n->Q i e
 | 0,_=>⟨1,ay,fun i hi=>ad⟩
 | n+1,h=>by
  obtain ⟨e,j,c⟩:=YK a (n:=n) fun i hi=>h i ad;obtain ⟨b,d,f⟩:=h n ad
  by_cases q:e<=b
  ·grind
  ·refine ⟨b,d,fun i hi=>?_⟩
   by_cases g:i=n
   ·subst g;exact f
   ·exact a _ _ _ (c i ad) (by grind)
abbrev cP (l:List af) (H:Rat->Rat) (m:Rat) (i p:Nat):Bool:=decide (sT (sat l i) p < su (sat l i) (H m) m)
abbrev cG (l:List af) (H:Rat->Rat) (m:Rat) (i:Nat):Rat:=vL l (H m) m i * sc (sat l i) - clG (sT (sat l i)) (dd (sS (sat l i))) (sN (sat l i)) (cP l H m i)
abbrev c0 (l:List af) (H:Rat->Rat) (m:Rat):Rat:=aV l.length (cG l H m)
abbrev c1 (l:List af) (H:Rat->Rat) (m:Rat):Rat:=aV l.length fun i=>cG l H m i * sx (sat l i)
theorem aoO (B:LS l) {i:Nat} (hi:i < l.length):RB (cG l H m i) 56:=by
 have b:=B.sb i hi;have c:=b.four;refine (((YD b _).mul b.cr.rb).sub (m:=6) (n:=49) ((cE.we (p:=11) fun p a=>?_).le (show sN (sat l i) * (11+1)+1<=49 by grind))).le ay;cases cP l H m i p with
 | true=>exact (ale b p).mul (Hf b a)
 | false=>exact RB.zero.le ay
theorem atg (B:LS l):RB (c0 l H m) 500:=by
 have:=B.len;exact (cE.we fun i hi=>aoO B hi).le ad
theorem ath (B:LS l):RB (c1 l H m) 500:=by
 have:=B.len;exact (cE.we fun i hi=>(aoO B hi).mul (B.sb i hi).xb).le ad
theorem agq (B:LS l) {i:Nat} (hi:i < l.length):vL l (H m) m i=clB (dd (sS (sat l i))) (sN (sat l i)) (cP l H m i):=ago (B.sb i hi).right.up _
theorem TV (B:LS l) {i:Nat} (hi:i < l.length) {u:Rat} (a:∀ p,p < sN (sat l i)->cP l H m i p=true->sT (sat l i) p<=u) (b:∀ p,p < sN (sat l i)->cP l H m i p=false->u<=sT (sat l i) p) :
  sf (sat l i) u=vL l (H m) m i * (u - sc (sat l i))+cG l H m i:=by
 rw [Fj (B.sb i hi),I8 a b,<- agq B hi];grind
theorem ati (B:LS l) {s:Rat} (h:∀ i,i < l.length->fI l (H s) s i=vL l (H m) m i * (su (sat l i) (H s) s - sc (sat l i))+cG l H m i) :
  fF l (H s) s=kH l (vL l (H m) m) * H s+kC l (vL l (H m) m) * s+c0 l H m/\fM l (H s) s=kC l (vL l (H m) m) * H s+kP l (vL l (H m) m) * s+c1 l H m:=by
 constructor
 ·have e:fF l (H s) s=aV l.length fun i=>H s * vL l (H m) m i+(s * (vL l (H m) m i * sx (sat l i))+cG l H m i):=bc fun i hi=>by rw [h i hi];unfold su;grind
  rw [e,mP,mP,ia,ia];grind
 ·have e:fM l (H s) s=aV l.length fun i=>H s * (vL l (H m) m i * sx (sat l i))+(s * (vL l (H m) m i * sx (sat l i) * sx (sat l i))+cG l H m i * sx (sat l i)):=bc fun i hi=>by rw [h i hi];unfold su;grind
  rw [e,mP,mP,ia,ia];grind
theorem piece (B:LS l) (f:RB W 2) (c:∀ s,oZ l W s (H s)) (fr:M6 a b 4000) (j:a < m) (k:m < b) {s:Rat} (g:a<=s) (h:s<=b) :
  W=kH l (vL l (H m) m) * H s+kC l (vL l (H m) m) * s+c0 l H m/\fM l (H s) s=kC l (vL l (H m) m) * H s+kP l (vL l (H m) m) * s+c1 l H m:=by
 have:=ati (m:=m) (s:=s) (H:=H) B fun i hi=>TV B hi (fun p e d=>?_) fun p e d=>?_
 ·rw [(c s).eq] at this;exact this
 ·have d:=nH d;rcases TU B f c fr hi e with q | q
  ·exact (aaJ B c hi (by grind) g h).1 q
  grind
 ·have d:=o7 d;rcases TU B f c fr hi e with q | q
  ·have:=q m j k;grind
  ·exact (aaJ B c hi (by grind) g h).2 q
theorem alg (B:LS l) (h:oZ l W m (H m)):0 < kH l (vL l (H m) m):=by
 have f:∀ i,i < l.length->0<=vL l (H m) m i:=fun i hi=>alb (fun j o=>(B.sb i hi).right.nn j o) _ _ (Nat.zero_add _) Rat.le_refl;refine Rat.not_le.1 fun q=>?_;have r:∀ i,i < l.length->vL l (H m) m i=0:=fun i hi=>US f (by have:=QF f;grind) hi;obtain ⟨e,g,c⟩:=YK (n:=l.length) (Q:=fun i e=>∀ p,p < sN (sat l i)->cP l H m i p=true->sT (sat l i) p<=su (sat l i) (H m - e) m) (fun i e s d t p b a=>by
   have:=d p b a;unfold su at *;grind) fun i hi=>by
  obtain ⟨e,g,c⟩:=YK (n:=sN (sat l i)) (Q:=fun p e=>cP l H m i p=true->sT (sat l i) p<=su (sat l i) (H m - e) m) (fun i e s d t a=>by
   have:=d a;unfold su at *;grind) fun p b=>by
   by_cases a:sT (sat l i) p < su (sat l i) (H m) m
   ·exact ⟨su (sat l i) (H m) m - sT (sat l i) p,by grind,fun _=>by unfold su at *;grind⟩
   ·exact ⟨1,ay,fun h=>absurd (nH h) a⟩
  exact ⟨e,g,c⟩
 have k:=h.lt (H m - e) (by grind);have u:fF l (H m - e) m=fF l (H m) m:=bc fun i hi=>by
  show sf (sat l i) _=sf (sat l i) _;rw [TV (H:=H) (m:=m) B hi (c i hi) fun p b a=>by have:=o7 a;unfold su at *;grind,
   TV (H:=H) (m:=m) B hi (fun p b a=>Rat.le_of_lt (nH a)) fun p b a=>by grind,r i hi]
  grind
 rw [u,h.eq] at k;exact Rat.lt_irrefl k
end
section
variable {b:cW} {H:Rat->Rat} {x y m:Rat}
abbrev bl (b:cW):List af:=b.ag
theorem TX (B:BB b) (f:∀ s,oZ (bl b) (bW b) s (H s)) (fr:M6 x y 4000) (k:x < m) (n:m < y):¬ (bX b (H x) x < 0/\0 < bX b (H y) y):=by
 rintro ⟨F,o⟩;have a:x < y:=by grind
 have g:=alg B.ls (f m);have c:∀ i,i < (bl b).length->RB (vL (bl b) (H m) m i) 3:=fun i hi=>YD (B.ls.sb i hi) _;have h:=aeP B.ls c (aH _);have d:=aeQ B.ls c (aH _);have p:=aeR B.ls c (aH _);have r:=atg (l:=bl b) (H:=H) (m:=m) B.ls;have t:=ath (l:=bl b) (H:=H) (m:=m) B.ls;have u:=((d.mul (B.wr.sub r)).add (h.mul (t.sub (B.wr.mul B.ar.rb))));have v:=(h.mul p).sub (d.mul d);have key:∀ s,x<=s->s<=y->kH (bl b) (vL (bl b) (H m) m) * bX b (H s) s=_+_ * s:=fun s w C=>by
  obtain ⟨G,p2⟩:=piece B.ls B.wr f fr k n w C;show _=(kC (bl b) (vL (bl b) (H m) m) * (bW b - c0 (bl b) H m)+kH (bl b) (vL (bl b) (H m) m) * (c1 (bl b) H m - bW b * bA b))+(kH (bl b) (vL (bl b) (H m) m) * kP (bl b) (vL (bl b) (H m) m) - kC (bl b) (vL (bl b) (H m) m) * kC (bl b) (vL (bl b) (H m) m)) * s;grind
 have I:=key x Rat.le_refl (Rat.le_of_lt a);have J:=key y (Rat.le_of_lt a) Rat.le_refl;generalize (kC (bl b) (vL (bl b) (H m) m) * (bW b - c0 (bl b) H m)+kH (bl b) (vL (bl b) (H m) m) * (c1 (bl b) H m - bW b * bA b))=A at *
 generalize (kH (bl b) (vL (bl b) (H m) m) * kP (bl b) (vL (bl b) (H m) m) - kC (bl b) (vL (bl b) (H m) m) * kC (bl b) (vL (bl b) (H m) m))=D at *
 have K:=Rat.mul_pos g (show 0 < -bX b (H x) x by grind);have L:=Rat.mul_pos g o;have j:0 < D:=Rat.not_le.1 fun q=>by
  have:=Rat.mul_nonneg (show 0<=-D by grind) (show 0<=y - x by grind);grind
 have E:RB (-A / D) 4000:=(u.neg.div v (by grind)).le ay;have e:-A / D * D = -A:=Rat.div_mul_cancel (by grind);generalize -A / D=z at *
 refine fr z (Rat.not_le.1 fun q=>?_) (Rat.not_le.1 fun q=>?_) E
 ·have:=Rat.mul_nonneg (Rat.le_of_lt j) (show 0<=x - z by grind);grind
 ·have:=Rat.mul_nonneg (Rat.le_of_lt j) (show 0<=z - y by grind);grind
theorem hit (B:BB b) (c:∀ s,oZ (bl b) (bW b) s (H s)) (fr:M6 x y 4000) (f:x < m) (g:m < y) {z:Rat} (z1:x<=z) (l:z<=y) (n:bX b (H z) z=0) (o:bX b (H m) m≠0) :
  kD (bl b) (vL (bl b) (H m) m)≠0/\Bal b (gH b (vL (bl b) (H m) m) (H m) m) (gT b (vL (bl b) (H m) m) (H m) m):=by
 have G:=alg B.ls (c m);obtain ⟨I,p2⟩:=piece B.ls B.wr c fr f g z1 l;obtain ⟨J,p⟩:=piece B.ls B.wr c fr f g (Rat.le_of_lt f) (Rat.le_of_lt g);have r:=(c m).eq;have h:=(c z).eq;have t:fM (bl b) (H m) m=bX b (H m) m+bW b * bA b:=by grind
 have i:fM (bl b) (H z) z=bW b * bA b:=by grind
 rw [t] at p;rw [i] at p2;have u:gH b (vL (bl b) (H m) m) (H m) m=H m+(kP (bl b) (vL (bl b) (H m) m) * (bW b - fF (bl b) (H m) m) - kC (bl b) (vL (bl b) (H m) m) * (-bX b (H m) m)) / kD (bl b) (vL (bl b) (H m) m):=rfl;have v:gT b (vL (bl b) (H m) m) (H m) m=m+(kH (bl b) (vL (bl b) (H m) m) * (-bX b (H m) m) - kC (bl b) (vL (bl b) (H m) m) * (bW b - fF (bl b) (H m) m)) / kD (bl b) (vL (bl b) (H m) m):=rfl;have k:kD (bl b) (vL (bl b) (H m) m)=kH (bl b) (vL (bl b) (H m) m) * kP (bl b) (vL (bl b) (H m) m) - kC (bl b) (vL (bl b) (H m) m) * kC (bl b) (vL (bl b) (H m) m):=rfl;rw [u,v];rw [r];generalize kD (bl b) (vL (bl b) (H m) m)=D at *
 generalize kH (bl b) (vL (bl b) (H m) m)=d at *
 generalize kC (bl b) (vL (bl b) (H m) m)=a at *
 generalize kP (bl b) (vL (bl b) (H m) m)=e at *
 generalize c0 (bl b) H m=K at *
 generalize c1 (bl b) H m=L at *
 have M:d * (H z - H m) = -(a * (z - m)):=by grind
 have w:a * (H z - H m)+e * (z - m) = -bX b (H m) m:=by grind
 have A:D * (z - m)=d * (-bX b (H m) m):=by rw [k,<- w];grind
 have N:D * (H z - H m)=a * bX b (H m) m:=by
  have:bX b (H m) m = -(a * (H z - H m)+e * (z - m)):=by grind
  rw [k,this];grind
 have j:D≠0:=fun q=>by
  rw [q] at A;have:d * (-bX b (H m) m)=0:=by grind
  rcases Rat.mul_eq_zero.1 this with C | C
  ·grind
  ·exact o (by grind)
 refine ⟨j,?_⟩;have E:H m+(e * (bW b - bW b) - a * (-bX b (H m) m)) / D=H z:=by
  rw [show e * (bW b - bW b) - a * (-bX b (H m) m)=(H z - H m) * D by grind,Rat.mul_div_cancel j];grind
 have F:m+(d * (-bX b (H m) m) - a * (bW b - bW b)) / D=z:=by
  rw [show d * (-bX b (H m) m) - a * (bW b - bW b)=(z - m) * D by grind,Rat.mul_div_cancel j];grind
 rw [E,F];exact ⟨h,n⟩
theorem aqW (B:BB b) (c:∀ s,oZ (bl b) (bW b) s (H s)) (g:x < m) (h:m < y) (i:bX b (H x) x < 0) (j:0 < bX b (H y) y)
  (gap:∀ z w,RB z 4000->RB w 4000->x < z->z < y->x < w->w < y->z=w) :
  bX b (H m) m=0\/(kD (bl b) (vL (bl b) (H m) m)≠0/\Bal b (gH b (vL (bl b) (H m) m) (H m) m) (gT b (vL (bl b) (H m) m) (H m) m)):=by
 by_cases d:bX b (H m) m=0
 ·exact .inl d
 refine .inr ?_
 by_cases a:∃ z,x < z/\z < y/\RB z 4000
 ·obtain ⟨z,z1,k,l⟩:=a;have fl:M6 x z 4000:=fun w w1 w2 n=>by grind
  have fr:M6 z y 4000:=fun w w1 w2 n=>by grind
  have o:=TX (m:=(x+z) / 2) B c fl (by grind) (by grind);have p:=TX (m:=(z+y) / 2) B c fr (by grind) (by grind);have a:bX b (H z) z=0:=by
   by_cases q:bX b (H z) z < 0
   ·exact absurd ⟨q,j⟩ p
   ·by_cases f:0 < bX b (H z) z
    ·exact absurd ⟨i,f⟩ o
    ·grind
  by_cases q:m < z
  ·exact hit B c fl g q (by grind) Rat.le_refl a d
  ·by_cases f:z < m
   ·exact hit B c fr f h Rat.le_refl (by grind) a d
   ·have e:m=z:=by grind
    subst e;exact absurd a d
 ·exact absurd ⟨i,j⟩ (TX B c (fun z z1 k l=>a ⟨z,z1,k,l⟩) g h)
end
def QG (s:af):Prop:=sN s=0\/sS s (sN s - 1)=0
def uc (s:af):Rat:=if sN s=0 then 0 else fs (sT s) (sS s) (sN s - 1)
theorem RB.VF {q:Rat} {n:Nat} (h:RB q n) (b:0 < q):1<=q * ((65536 ^ n:Nat):Rat):=by
 have i:(q.den:Int).natAbs < 65536 ^ n:=Hc.1 h.den;have e:=Sie.aeB q;have c:0 < q.num:=by
  have d:(0:Rat) < (q.den:Rat):=by have:=q.den_pos;exact_mod_cast this
  have:=Rat.mul_pos b d;rw [e] at this;exact (Rat.intCast_lt_intCast (a:=0)).1 this
 have f:((q.den:Nat):Rat)<=((65536 ^ n:Nat):Rat):=by
  have:((q.den:Nat):Rat)=((q.den:Int):Rat):=rfl;have g:((65536 ^ n:Nat):Rat)=(((65536 ^ n:Nat):Int):Rat):=rfl;rw [this,g];exact Rat.intCast_le_intCast.2 ad
 have j:(1:Rat)<=(q.num:Rat):=(Rat.intCast_le_intCast (a:=1)).2 c;have k:=Rat.mul_le_mul_of_nonneg_left f (Rat.le_of_lt b);grind
section
variable {s:af} {u:Rat}
theorem aeZ (b:SB s) (a:sN s≠0) (c:10000000<=u):sf s u=fs (sT s) (sS s) (sN s - 1)+sS s (sN s - 1) * (u - sT s (sN s - 1)):=by
 have d:=aoN b (p:=sN s - 1) ad;exact aoA b.right.up (i:=sN s - 1) (by grind) (by show sT s _<=u;grind) fun h=>by grind
theorem M7 (b:SB s) (h:QG s) (c:10000000<=u):sf s u=uc s:=by
 unfold uc
 by_cases a:sN s=0
 ·rw [if_pos a];exact YJ b fun p d=>ad
 ·rw [if_neg a,aeZ b a c];rcases h with h | h
  ·exact absurd h a
  ·rw [h];grind
theorem alh {t s:Nat->Rat} {n:Nat} (up:Up t n) (a:∀ i,i < n->0<=s i):∀ i,i < n->0<=fs t s i
 | 0,_=>Rat.le_refl
 | i+1,h=>by
  have b:=alh up a i ad;have c:=up i h;have d:=Rat.mul_nonneg (a i ad) (show 0<=t (i+1) - t i by grind);rw [fs];grind
theorem anH (b:SB s):0<=uc s:=by
 unfold uc;split
 ·exact Rat.le_refl
 ·exact alh b.right.up (fun i hi=>b.right.nn i hi) _ (by show _ < sN s;omega)
theorem aqX (b:SB s) (h:QG s) (u:Rat):sf s u<=uc s:=by
 by_cases a:10000000<=u
 ·rw [M7 b h a];exact Rat.le_refl
 ·have:=aeU b (u:=u) (v:=10000000) (by grind);rwa [M7 b h Rat.le_refl] at this
abbrev FAR:Rat:=79228162514264337593543950336
theorem ae0 (b:SB s) (h:¬ QG s) (f:FAR<=u):1000000000 < sf s u:=by
 have d:sN s≠0:=fun q=>h (.inl q);have a:sN s - 1 < sN s:=ad;rw [aeZ b d (by grind)];have g:=alh b.right.up (fun i hi=>b.right.nn i hi) _ a;have j:=b.right.nn _ a;have c:0 < sS s (sN s - 1):=by
  have:sS s (sN s - 1)≠0:=fun q=>h (.inr q);grind
 have e:=RB.VF (b.cv.rq (sN s - 1)).rb c;have k:=aoN b a;rw [show ((65536 ^ 3:Nat):Rat)=281474976710656 by rfl] at e;have l:=Rat.mul_le_mul_of_nonneg_left (show (281474976710656:Rat) * 2000000000<=u - sT s (sN s - 1) by grind) (Rat.le_of_lt c);grind
end
section
variable {b:cW} {t h:Rat}
abbrev Fo (A B:Rat) (s:af):Rat:=A+B * sx s
abbrev yld (l:List af) (A B:Rat):Rat:=aV l.length fun i=>if Fo A B (sat l i)<=0 then 0 else uc (sat l i) * Fo A B (sat l i)
structure n4 (b:cW) (A B:Rat):Prop where
 QG:∀ i,i < (bl b).length->0 < Fo A B (sat (bl b) i)->QG (sat (bl b) i)
 lt:yld (bl b) A B < bW b * (A+B * bA b)
structure aoP (b:cW):Prop where
 down:¬ n4 b 1 0
 up:∀ i,i < (bl b).length->¬ n4 b (-sx (sat (bl b) i)) 1
 back:∀ i,i < (bl b).length->¬ n4 b (sx (sat (bl b) i)) (-1)
theorem BB.anI (B:BB b):0 < bW b:=(Rat.intCast_lt_intCast (a:=0)).2 (by have:=B.wl;omega)
theorem BB.atj (B:BB b):bW b<=1000000000:=(Rat.intCast_le_intCast (b:=1000000000)).2 B.wh
theorem carry (B:BB b) (h:¬ n4 b 1 0):Carry (bl b) (bW b):=fun t=>by
 have a:∃ y,∀ i,i < (bl b).length->FAR<=su (sat (bl b) i) y t:=by
  refine ⟨FAR+10000000+1000000 * (ps t+ps (-t)),fun i hi=>?_⟩;have q:=B.ls.sb i hi;have c:=q.cl;have m:=aeV q;have n:=aeW q;have f:-(1000000 * (ps t+ps (-t)))<=t * sx (sat (bl b) i):=by
   by_cases e:0<=t
   ·rw [PC e,Hd (x:=-t) (by grind)];have:=Rat.mul_nonneg e (show 0<=sx (sat (bl b) i)+1000000 by grind);grind
   ·rw [Hd (x:=t) (by grind),PC (x:=-t) (by grind)];have:=Rat.mul_nonneg (show 0<=-t by grind) (show 0<=1000000 - sx (sat (bl b) i) by grind);grind
  unfold su;grind
 obtain ⟨y,a⟩:=a;refine ⟨y,?_⟩
 by_cases d:∀ i,i < (bl b).length->QG (sat (bl b) i)
 ·have g:¬ yld (bl b) 1 0 < bW b * (1+0 * bA b):=fun q=>h ⟨fun i hi _=>d i hi,q⟩;have c:fF (bl b) y t=yld (bl b) 1 0:=bc fun i hi=>by
   show sf (sat (bl b) i) _=_;rw [M7 (B.ls.sb i hi) (d i hi) (by have:=a i hi;grind),if_neg (by grind)];grind
  rw [c];grind
 ·obtain ⟨i,hi⟩:=Classical.not_forall.1 d;obtain ⟨hi,k⟩:=Classical.not_imp.1 hi;have g:=ae0 (B.ls.sb i hi) k (a i hi);have c:fI (bl b) y t i<=fF (bl b) y t:=I9 (fun j l=>alc (B.ls.sb j l) _) hi;have f:fI (bl b) y t i=sf (sat (bl b) i) (su (sat (bl b) i) y t):=rfl;have:=B.atj;grind
theorem ali {P:Nat->Prop} {g:Nat->Rat}:∀ {n:Nat},(∃ i,i < n/\P i)->∃ i,i < n/\P i/\∀ j,j < n->P j->g i<=g j
 | 0,h=>let ⟨i,hi,_⟩:=h;by omega
 | n+1,⟨i,hi,a⟩=>by
  by_cases q:∃ i,i < n/\P i
  ·obtain ⟨k,b,c,d⟩:=ali (g:=g) q;grind
  grind
abbrev aqY:Rat:=79228162514264337593583950336
theorem side (B:BB b) (D:oZ (bl b) (bW b) t h) {e:Rat} (he:e=1\/e = -1) (R:aqY<=e * t) (E:∀ i,i < (bl b).length->¬ n4 b (-(e * sx (sat (bl b) i))) e):0<=e * bX b h t:=by
 have F:e * e=1:=by grind
 have C:=D.eq;have k:∀ j,j < (bl b).length->0<=fI (bl b) h t j:=fun j c=>alc (B.ls.sb j c) _;obtain ⟨G,H,I⟩:=cE.MZ (n:=(bl b).length) (f:=fI (bl b) h t) (by show 0 < fF (bl b) h t;rw [C];exact B.anI);obtain ⟨i,hi,S,J⟩:=ali (P:=fun j=>0 < fI (bl b) h t j) (g:=fun j=>e * sx (sat (bl b) j)) ⟨G,H,I⟩;have r:=B.ls.sb i hi;have K:-10000000 < su (sat (bl b) i) h t:=Rat.not_le.1 fun q=>by
  have:sf (sat (bl b) i) (su (sat (bl b) i) h t)=0:=YJ r fun p L=>by have:=aoM r L;grind
  simp_all
 -- the supports on that side are full
 have full:∀ j,j < (bl b).length->0 < Fo (-(e * sx (sat (bl b) i))) e (sat (bl b) j)->QG (sat (bl b) j)/\fI (bl b) h t j=uc (sat (bl b) j):=fun j c d=>by
  have s:=B.ls.sb j c;have T:1<=Fo (-(e * sx (sat (bl b) i))) e (sat (bl b) j):=by
   have u:Fo (-(e * sx (sat (bl b) i))) e (sat (bl b) j)=e * (sx (sat (bl b) j) - sx (sat (bl b) i)):=by grind
   rw [u] at d ⊢;have w:sx (sat (bl b) j) - sx (sat (bl b) i)=(((sat (bl b) j).z9 - (sat (bl b) i).z9:Int):Rat):=by rw [Rat.intCast_sub]
   rw [w] at d ⊢;generalize (sat (bl b) j).z9 - (sat (bl b) i).z9=z at *
   rcases he with q | q
   ·subst q;rw [Rat.one_mul] at d ⊢;exact (Rat.intCast_le_intCast (a:=1)).2 ((Rat.intCast_lt_intCast (a:=0)).1 d)
   ·subst q;have M:(-1:Rat) * (z:Rat)=((-z:Int):Rat):=by grind
    rw [M] at d ⊢;have:=(Rat.intCast_lt_intCast (a:=0)).1 d;exact (Rat.intCast_le_intCast (a:=1)).2 ad
  have x:FAR<=su (sat (bl b) j) h t:=by
   have o:=Rat.mul_nonneg (show 0<=e * t - aqY by grind) (show 0<=Fo (-(e * sx (sat (bl b) i))) e (sat (bl b) j) - 1 by grind);have y:e * t * Fo (-(e * sx (sat (bl b) i))) e (sat (bl b) j)=t * sx (sat (bl b) j) - t * sx (sat (bl b) i):=by grind
   have c1:=r.ch;have U:=s.cl;unfold su at *
   generalize Fo (-(e * sx (sat (bl b) i))) e (sat (bl b) j)=v at *
   generalize e * t=V at *
   grind
  have l:QG (sat (bl b) j):=qF fun N=>by
   have o:=ae0 s N x;have y:fI (bl b) h t j<=fF (bl b) h t:=I9 k c;have W:fI (bl b) h t j=sf (sat (bl b) j) (su (sat (bl b) j) h t):=rfl;have:=B.atj;grind
  exact ⟨l,M7 s l (by grind)⟩
 have o:¬ yld (bl b) (-(e * sx (sat (bl b) i))) e < bW b * (-(e * sx (sat (bl b) i))+e * bA b):=fun q=>E i hi ⟨fun j c d=>(full j c d).1,q⟩;have y:yld (bl b) (-(e * sx (sat (bl b) i))) e=aV (bl b).length fun j=>e * (fI (bl b) h t j * sx (sat (bl b) j))+(-(e * sx (sat (bl b) i))) * fI (bl b) h t j:=bc fun j c=>by
  have O:Fo (-(e * sx (sat (bl b) i))) e (sat (bl b) j) = -(e * sx (sat (bl b) i))+e * sx (sat (bl b) j):=rfl
  by_cases q:Fo (-(e * sx (sat (bl b) i))) e (sat (bl b) j)<=0
  ·rw [if_pos q]
   by_cases Q:0 < fI (bl b) h t j
   ·have:=J j c Q;have A:e * sx (sat (bl b) j)=e * sx (sat (bl b) i):=by grind
    have:e * (fI (bl b) h t j * sx (sat (bl b) j))=fI (bl b) h t j * (e * sx (sat (bl b) j)):=by grind
    rw [this,A];grind
   ·have A:fI (bl b) h t j=0:=by have:=k j c;grind
    rw [A];grind
  ·rw [if_neg q,<- (full j c (by grind)).2,O];grind
 rw [y,mP,ia,ia] at o;have u:aV (bl b).length (fun i=>fI (bl b) h t i)=bW b:=C;rw [u] at o;show 0<=e * (fM (bl b) h t - bW b * bA b);have w:fM (bl b) h t=aV (bl b).length fun i=>fI (bl b) h t i * sx (sat (bl b) i):=rfl;rw [w];generalize aV (bl b).length (fun i=>fI (bl b) h t i * sx (sat (bl b) i))=m at *
 grind
end
def bp (s:af) (t:Rat) (p:Nat):PR:=(sT s p - (sc s+t * sx s),dd (sS s) p)
theorem anJ (f:Nat->PR) (K:Nat) (p:PR):TF f K ++ [tb p]=TF (fun q=>if q=K then p else f q) (K+1):=by
 have:=vw (fun i=>tb (if i=K then p else f i)) K;rw [if_pos rfl] at this;rw [show TF (fun q=>if q=K then p else f q) (K+1)=I5 (fun i=>tb (if i=K then p else f i)) (K+1) from rfl,<- this];congr 1;exact q9 fun i hi=>by rw [if_neg ad]
def BQ (K m:Nat) (f:Nat->PR):Prop:=∀ q,q < K->RB (f q).1 (m+20)/\RB (f q).2 7
theorem alj (f:Nat->PR) (K:Nat) (p:PR) (g:PR->Rat):aV (K+1) (fun q=>g (if q=K then p else f q))=aV K (fun q=>g (f q))+g p:=by
 rw [aV,if_pos rfl,bc (g:=fun q=>g (f q)) fun i hi=>by rw [if_neg ad]]
section
variable {l:List af} {t:Rat} {m:Nat}
theorem atl {s:af} (b:SB s) (a:RB t m) {p:Nat} (c:p < sN s):RB (bp s t p).1 (m+20)/\RB (bp s t p).2 7 :=
 ⟨((Hf b c).sub (b.cr.rb.add (a.mul b.xb))).le ad,ale b p⟩
theorem aaK (B:LS l) (o:RB t m) (hm:m<=100000) {x:Nat} (s:x < l.length):∀ (d j:Nat) {f:Nat->PR} {K:Nat} {c:ab},j+d=sN (sat l x)->K+d<=32->BQ K m f->RQ c (if j=0 then 0 else sS (sat l x) (j - 1)) 3 ->
  ∃ f',BQ (K+d) m f'/\(∀ g:PR->Rat,aV (K+d) (fun q=>g (f' q))=aV K (fun q=>g (f q))+(aV (sN (sat l x)) (fun p=>g (bp (sat l x) t p)) - aV j fun p=>g (bp (sat l x) t p))) /\
   ∃ y,∀ N k fuel,y<=N->y<=fuel->ji N l (bg t) (x:Int) (bg (sc (sat l x)+t * sx (sat l x))) k fuel (TF f K) c (j:Int)=k (TF f' (K+d)) ((x+1:Nat):Int)
 | 0,j,f,K,c,A,G,hb,C=>by
  refine ⟨f,hb,fun g=>by grind,1,fun N k fuel _ H=>?_⟩;obtain ⟨g,rfl⟩:=bb fuel;have b:=B.sb x s;have e:((sat l x).aY.aA.length:Nat)=j:=by rw [b.right.UO];exact A.symm
  have I:=B.len;have ex:av ((x:Int)+1)=((x+1:Nat):Int):=aX ad;have D:decide ((j:Int) < (((sat l x).aY.aA.length:Nat):Int))=false:=decide_eq_false (by rw [e];omega);simp_all [ji,ai,cond_false]
 | d+1,j,f,K,c,A,G,hb,C=>by
  have b:=B.sb x s;have a:j < sN (sat l x):=ad;have E:j < (sat l x).aY.ah.length:=a;have h:(sat l x).aY.aA.length=(sat l x).aY.ah.length:=b.right.UO;have S:sN (sat l x)<=4:=b.four;have J:j < 4:=ad;have D:decide ((j:Int) < (((sat l x).aY.aA.length:Nat):Int))=true:=decide_eq_true (by rw [h];omega);have T:=b.right.bnd a;have v:RB (sc (sat l x)+t * sx (sat l x)) (m+6):=(b.cr.rb.add (o.mul b.xb)).le ad;have n:=gJ (z:=cs (sat l x).aY j) ⟨ad,ad⟩;have es:=(b.right.rq a).sub (v.rq ad) aF;have i:=(b.cv.rq j).sub C ay;have w:cq (sat l x).aY j - (if j=0 then 0 else sS (sat l x) (j - 1))=dd (sS (sat l x)) j:=by
   unfold dd
   by_cases F:j=0
   ·grind
   ·rw [if_neg F,if_neg F]
  rw [w] at i;obtain ⟨f',U,L,M,O⟩:=aaK B o hm s d (j+1) (f:=fun q=>if q=K then bp (sat l x) t j else f q) (K:=K+1) (c:=(sat l x).aY.aA.getD j ab.d) ad ad (fun q hq=>by
   by_cases e:q=K
   ·subst e;simp only [if_pos rfl];exact atl b o a
   ·simp only [if_neg e];exact hb q ad) (by rw [if_neg ad];exact b.cv.rq j)
  refine ⟨f',by grind,fun g=>?_,?_⟩
  ·rw [show K+(d+1)=K+1+d by omega,L g,alj];have e:aV (j+1) (fun p=>g (bp (sat l x) t p))=aV j (fun p=>g (bp (sat l x) t p))+g (bp (sat l x) t j):=rfl;rw [e];grind
  ·obtain ⟨P,n⟩:=n;obtain ⟨Q,es⟩:=es;obtain ⟨R,i⟩:=i;refine ⟨M+P+Q+R+1,fun N k fuel V H=>?_⟩;obtain ⟨g,rfl⟩:=bb fuel;have I:=B.len;have r:=O N k g ad ad;rw [<- anJ,show K+1+d=K+(d+1) by omega] at r;rw [ji,ai,ai,D,cond_true,h,if_pos (k6 E),if_pos (k6 E),aX ad];dsimp only at n es i;rw [show ao N ((l.getD x af.d).aY.ah.getD j 0)=_ from n N ad,db,show gr N (bg (cs (sat l x).aY j:Rat)) (bg (sc (sat l x)+t * sx (sat l x)))=_ from es N ad,db];show (gr N ((sat l x).aY.aA.getD j ab.d) c).bind _=_;rw [i N ad,db,if_pos (by rw [jz];omega)];exact r
theorem aaL (B:LS l) (a:RB t m) (hm:m<=100000):∀ (d x:Nat) {f:Nat->PR} {K:Nat},x+d=l.length->K<=4 * x->BQ K m f->(∀ g:PR->Rat,aV K (fun q=>g (f q))=aV x fun i=>aV (sN (sat l i)) fun p=>g (bp (sat l i) t p)) ->
  ∃ f' n,n<=32/\BQ n m f'/\LJ f' 0 n/\(∀ g:PR->Rat,aV n (fun q=>g (f' q))=aV l.length fun i=>aV (sN (sat l i)) fun p=>g (bp (sat l i) t p)) /\
   aq (fun N g=>jj N l (bg t) g (TF f K) (x:Int)) (TF f' n)
 | 0,x,f,K,s,u,hb,h=>by
  have:x=l.length:=ad;subst this;have v:=B.len;obtain ⟨f',r,p2,w⟩:=agn (n:=K) (f:=f) ad fun q hq=>(hb q hq).1.le ad;refine ⟨f',K,ad,fun q hq=>?_,p2,fun g=>(r.sum g).trans (h g),aq.stop (fun N g=>jj.eq_2 ..) (.one (w.bind (Gv.if (by rw [jz,jz]) (Gv.pure _))))⟩;obtain ⟨j,_,y,e⟩:=r.inn q (Nat.zero_le _) hq;rw [e];exact hb j y
 | d+1,x,f,K,s,u,hb,h=>by
  have v:=B.len;have b:=B.sb x ad;have M:sN (sat l x)<=4:=b.four;obtain ⟨A,C,D,E,F⟩:=aaK B a hm (x:=x) ad (sN (sat l x)) 0 (f:=f) (K:=K) (c:=bg 0) (Nat.zero_add _) ad hb (by rw [if_pos rfl];exact (RB.zero.le ay).rq ay);obtain ⟨f',n,G,H,I,J,k⟩:=aaL B a hm d (x+1) (f:=A) (K:=K+sN (sat l x)) ad ad C fun g=>by
   rw [D g,h g];show _+(_ - 0)=aV x _+_;grind
  refine ⟨f',n,G,H,I,J,aq.go (show x < l.length by omega) (fun N g=>jj.eq_2 ..) (aq.if (k6 ad) ?_)⟩;rw [ai];have o:RQ (bg t) t (m+1):=(a.le (Nat.le_succ m)).rq ad;refine aq.bind (gJ b.i64) (aq.bind (o.mul (b.xb.rq ay) aF) (aq.bind (b.cr.add ((a.mul b.xb).rq ad) aF) (aq.bind (gJ (z:=0) ⟨ay,ay⟩) ?_)));obtain ⟨L,k⟩:=k;exact ⟨E+L,fun N g O P=>(F N _ N ad ad).trans (k N g ad ad)⟩
theorem aqZ (B:LS l) (a:RB t m) (hm:m<=100000):∃ f n,n<=32/\BQ n m f/\LJ f 0 n/\(∀ y,fF l y t=aV n (rp (fun q=>(f q).1) (fun q=>(f q).2) y))/\Gv (fun N=>um N l (bg t)) (TF f n):=by
 obtain ⟨f,n,b,c,d,e,h⟩:=aaL B a hm l.length 0 (f:=fun _=>(0,0)) (K:=0) (Nat.zero_add _) (Nat.zero_le _) (fun q hq=>ad) fun g=>rfl;refine ⟨f,n,b,c,d,fun y=>?_,h.diag⟩;show _=aV n fun q=>(fun p:PR=>p.2 * ps (y - p.1)) (f q);rw [e fun p:PR=>p.2 * ps (y - p.1)];refine bc fun i hi=>?_;show sf (sat l i) _=_;rw [Fj (B.sb i hi)];exact bc fun p _=>by
  show _ * ps _=_ * ps _;congr 2;unfold su bp;grind
end
section
variable {b:cW} {t:Rat} {m n:Nat} {f:Nat->PR} {G:Rat->Rat}
theorem aq0 (d:Nat->Rat) {i:Nat} (hi:i<=n):clB d n (fun q=>decide (q < i))=aV i d:=by
 obtain ⟨k,rfl⟩:∃ k,n=i+k:=⟨n - i,ad⟩;unfold clB;rw [TT,bc (n:=i) (g:=d) fun q hq=>by simp_all,bc (n:=k) (g:=fun _=>0) fun q _=>by grind,kL];grind
theorem TY (b:LJ f 0 n) (c:∀ y,G y=aV n (rp (fun q=>(f q).1) (fun q=>(f q).2) y)) {i:Nat} (hi:i+1<=n) {y:Rat} (d:(f i).1<=y) (g:i+1 < n->y<=(f (i+1)).1) :
  G y=G (f i).1+aV (i+1) (fun q=>(f q).2) * (y - (f i).1):=by
 have e:∀ y,(f i).1<=y->(i+1 < n->y<=(f (i+1)).1)->G y=aV (i+1) (fun q=>(f q).2) * y - clG (fun q=>(f q).1) (fun q=>(f q).2) n fun q=>decide (q < i+1):=fun y d g=>by
  rw [c,I8 (P:=fun q=>decide (q < i+1)) (fun q hq a=>?_) fun q hq a=>?_,aq0 _ hi]
  ·have:=nH a;have:=b q i (Nat.zero_le _) ad ad;grind
  ·have:=o7 a;have:=b (i+1) q (Nat.zero_le _) ad hq;grind
 grind
theorem atn {x:Rat} (h:RB x m) (a:1<=m):RB (ps x) m:=by
 unfold ps;split
 ·exact RB.zero.le a
 ·exact h
theorem ato (hb:BQ n m f) (a:n<=32) {y:Rat} (b:RB y (m+20)):RB (aV n (rp (fun q=>(f q).1) (fun q=>(f q).2) y)) (64 * m+1600):=by
 refine (cE.we (p:=2 * m+48) fun q hq=>((hb q hq).2.mul (atn (b.sub (hb q hq).1) ad)).le ad).le ?_;have:=dU (2 * m+48+1) a;omega
theorem atp (hb:BQ n m f) (a:n<=32) {i:Nat} (hi:i<=n):RB (aV i fun q=>(f q).2) 257:=(cE.we fun q hq=>(hb q ad).2).le ad
theorem anK (B:LS (bl b)) {W a c k:Rat} (g:fF (bl b) a t=c) (h:c < W) (d:0 < k) (f:∀ y,a<=y->y<=a+(W - c) / k->fF (bl b) y t=c+k * (y - a)):oZ (bl b) W t (a+(W - c) / k):=by
 have e:(W - c) / k * k=W - c:=Rat.div_mul_cancel (by grind);have i:0 < (W - c) / k:=Rat.not_le.1 fun q=>by
  have:=Rat.mul_nonneg (show 0<=-((W - c) / k) by grind) (Rat.le_of_lt d);grind
 generalize (W - c) / k=r at *
 refine ⟨by rw [f _ (by grind) Rat.le_refl];grind,fun y j=>?_⟩
 by_cases q:y<=a
 ·have:=aaI (t:=t) B q;grind
 ·rw [f y (by grind) (by grind)];have:=Rat.mul_lt_mul_of_pos_left (show y - a < r by grind) d;grind
theorem adb (B:BB b) (Hz:Carry (bl b) (bW b)) (ht:RB t m) (hm:m<=100000) (T:n<=32) (hb:BQ n m f) (L:LJ f 0 n) (F:∀ y,fF (bl b) y t=aV n (rp (fun q=>(f q).1) (fun q=>(f q).2) y)) :
  ∀ (d i:Nat) {c a:Rat},i+d=n->(i=0->c=0/\a=0)->(0 < i->a=(f (i - 1)).1/\c=fF (bl b) a t/\c < bW b) ->
  ∃ h,oZ (bl b) (bW b) t h/\RB h (65 * m+1900)/\aq (fun N g=>dq N (bg t) (bg (bW b)) (TF f n) g (bg c) (bg (aV i fun q=>(f q).2)) (bg a) (i:Int)) (aQ h t):=by
 -- sizes
 have P:∀ {i:Nat} {a:Rat},i<=n->(i=0->a=0)->(0 < i->a=(f (i - 1)).1)->RB a (m+20):=fun {i a} hi s l=>by
  by_cases q:i=0
  ·rw [s q];exact RB.zero.le ad
  ·rw [l ad];exact (hb _ ad).1
 have Q:∀ {i:Nat} {c a:Rat},i<=n->(i=0->c=0/\a=0)->(0 < i->a=(f (i - 1)).1/\c=fF (bl b) a t/\c < bW b)->RB c (64 * m+1600):=fun {i c a} hi s l=>by
  by_cases q:i=0
  ·rw [(s q).1];exact RB.zero.le ad
  ·obtain ⟨o,u,_⟩:=l ad;rw [u,F];exact ato hb T (by grind)
 -- an end
 have fin:∀ {i:Nat} {c a:Rat},0 < i->i<=n->(a=(f (i - 1)).1/\c=fF (bl b) a t/\c < bW b)->0 < aV i (fun q=>(f q).2)->(i < n->bW b<=c+aV i (fun q=>(f q).2) * ((f i).1 - a)) ->
   ∃ h,oZ (bl b) (bW b) t h/\RB h (65 * m+1900)/\Gv (fun N=>jY N (bg t) (bg (bW b)) (bg c) (bg (aV i fun q=>(f q).2)) (bg a)) (aQ h t):=fun {i c a} j hi l p U=>by
  obtain ⟨o,u,V⟩:=l;have R:=P (i:=i) (a:=a) hi (fun q=>ad) fun _=>o;have rc:=Q (i:=i) (c:=c) (a:=a) hi (fun q=>ad) fun _=>⟨o,u,V⟩;have C:=atp hb T hi;have rd:=B.wr.sub rc;have rq:=rd.div C (by grind);have hl:oZ (bl b) (bW b) t (a+(bW b - c) / aV i fun q=>(f q).2):=by
   refine anK B.ls u.symm V p fun y y1 y2=>?_;have H:i - 1+1=i:=ad;have:=TY (G:=fun y=>fF (bl b) y t) L F (i:=i - 1) ad (y:=y) (by rw [<- o];exact y1) fun h=>by
    rw [H] at h ⊢;have h2:=U h;have D:(bW b - c) / (aV i fun q=>(f q).2) * (aV i fun q=>(f q).2)=bW b - c:=Rat.div_mul_cancel (by grind);generalize (bW b - c) / (aV i fun q=>(f q).2)=r at *
    generalize aV i (fun q=>(f q).2)=k at *
    refine Rat.not_lt.1 fun q=>?_;have:=Rat.mul_lt_mul_of_pos_left (show (f i).1 - a < r by grind) p;grind
   rw [H,<- o] at this;rw [u];exact this
  refine ⟨_,hl,(R.add rq).le ad,?_⟩;refine (M4 (C.rq ay) ay).bind (Gv.aN (by rw [mO];exact decide_eq_true p) ?_);refine ((B.wr.rq ay).sub (rc.rq ad) aF).bind ((aaC (rd.rq ad) (C.rq ay) (by grind) aF).bind (((R.rq ad).add (rq.rq ad) aF).bind ?_));exact (awo ((ht.le (Nat.le_succ m)).rq ad) aF).bind (Gv.pure _)
 intro d
 induction d with
 | zero =>
  intro i c a hi s l;have:i=n:=ad;subst this
  -- the last slope is positive
  obtain ⟨z,hz⟩:=Hz t;have j:0 < i:=Nat.pos_of_ne_zero fun q=>by
   subst q;have:=F z;have hw:=B.anI;rw [show aV 0 (rp (fun q=>(f q).1) (fun q=>(f q).2) z)=0 from rfl] at this;grind
  obtain ⟨o,u,V⟩:=l j;have H:i - 1+1=i:=ad;have p:0 < aV i fun q=>(f q).2:=Rat.not_le.1 fun q=>by
   have W:a < z:=Rat.not_le.1 fun X=>by have:=aaI (t:=t) B.ls X;grind
   have D:=TY (G:=fun y=>fF (bl b) y t) L F (i:=i - 1) ad (y:=z) (by rw [<- o];exact Rat.le_of_lt W) fun h=>ad;rw [H,<- o] at D;have:=Rat.mul_nonneg (show 0<=-(aV i fun q=>(f q).2) by grind) (show 0<=z - a by grind);have D:fF (bl b) z t=fF (bl b) a t+(aV i fun q=>(f q).2) * (z - a):=D;grind
  obtain ⟨h,v,w,x⟩:=fin j (aH _) (l j) p fun q=>ad;exact ⟨h,v,w,aq.succ (fun N g=>dq.eq_2 ..) (aq.a9 (by rw [jz];exact hT) (.one x))⟩
 | succ d ih =>
  intro i c a hi s l;have A:i < n:=ad;have R:=P (i:=i) (a:=a) ad (fun q=>(s q).2) fun q=>(l q).1;have rc:=Q (i:=i) (c:=c) (a:=a) ad s l;have C:=atp hb T (Nat.le_of_lt A);obtain ⟨I,Y⟩:=hb i A;have eK:aV (i+1) (fun q=>(f q).2)=aV i (fun q=>(f q).2)+(f i).2:=rfl;have Hj:i=0->fF (bl b) (f i).1 t=0:=fun q=>by
   subst q;rw [F];exact (bc fun q hq=>by
    have:=L 0 q (aH _) (Nat.zero_le _) hq;show (f q).2 * ps ((f 0).1 - (f q).1)=0;rw [Hd (by grind)];grind).trans (kL _)
  have Hh:0 < i->fF (bl b) (f i).1 t=c+aV i (fun q=>(f q).2) * ((f i).1 - a):=fun q=>by
   obtain ⟨o,u,_⟩:=l q;have H:i - 1+1=i:=ad;have D:=TY (G:=fun y=>fF (bl b) y t) L F (i:=i - 1) ad (y:=(f i).1) (L _ _ (Nat.zero_le _) ad A) fun h=>by rw [H];exact Rat.le_refl
   rw [H,<- o] at D;rw [u];exact D
  -- the next bend
  have go:∀ {S},S=fF (bl b) (f i).1 t->S < bW b->∃ h,oZ (bl b) (bW b) t h/\RB h (65 * m+1900)/\aq (fun N g=>im N (bg t) (bg (bW b)) (TF f n) (bg (aV i fun q=>(f q).2)) (bg a) (i:Int) (dq N (bg t) (bg (bW b)) (TF f n) g) (bg S)) (aQ h t):=fun {S} q1 X=>by
   obtain ⟨h,v,w,x⟩:=ih (i+1) (c:=S) (a:=(f i).1) ad (fun q=>ad) fun _=>⟨rfl,q1,X⟩;refine ⟨h,v,w,?_⟩;unfold im;rw [ai,uW f _ A,aX ad];exact aq.bind ((C.rq ay).add (Y.rq ay) ay) x
  have Z:∀ {h},aq (fun N g=>cond (decide (oE (aV i fun q=>(f q).2) > 0)) ((gr N (bg (f i).1) (bg a)).bind fun M=>(bR N (bg (aV i fun q=>(f q).2)) M).bind fun O=>(bG N (bg c) O).bind fun E=>(iQ N E (bg (bW b))).bind fun J=>cond (decide (J>=0)) (jY N (bg t) (bg (bW b)) (bg c) (bg (aV i fun q=>(f q).2)) (bg a)) (im N (bg t) (bg (bW b)) (TF f n) (bg (aV i fun q=>(f q).2)) (bg a) (i:Int) (dq N (bg t) (bg (bW b)) (TF f n) g) E))
    (im N (bg t) (bg (bW b)) (TF f n) (bg (aV i fun q=>(f q).2)) (bg a) (i:Int) (dq N (bg t) (bg (bW b)) (TF f n) g) (bg c))) (aQ h t) ->
    aq (fun N g=>dq N (bg t) (bg (bW b)) (TF f n) g (bg c) (bg (aV i fun q=>(f q).2)) (bg a) (i:Int)) (aQ h t):=fun {h} hh=>by
   refine aq.succ (fun N g=>dq.eq_2 ..) (aq.aN (by rw [jz];exact dec_lt A) (aq.if (by rw [jz];exact k6 A) (aq.bind (M4 (C.rq ay) ay) ?_)));rw [ai,uW f _ A];exact hh
  by_cases p:0 < aV i fun q=>(f q).2
  ·have j:0 < i:=Nat.pos_of_ne_zero fun q=>by subst q;exact absurd p Rat.lt_irrefl
   have e:=Hh j;have M:=I.sub R;have O:=C.mul M;have E:=rc.add O;have r3':RB (fF (bl b) (f i).1 t) (64 * m+1600):=by rw [F];exact ato hb T I
   have pre:∀ {h:Rat} {K:Nat->Nat->ab->Int->Option aw},aq (fun N g=>K N g (bg (fF (bl b) (f i).1 t)) (oE (fF (bl b) (f i).1 t - bW b))) (aQ h t)->aq (fun N g=>(gr N (bg (f i).1) (bg a)).bind fun M=>(bR N (bg (aV i fun q=>(f q).2)) M).bind fun O=>(bG N (bg c) O).bind fun E=>(iQ N E (bg (bW b))).bind fun J=>K N g E J) (aQ h t):=fun {h K} hK=>by
    refine aq.bind ((I.rq ad).sub (R.rq ad) aF) (aq.bind ((C.rq ay).mul (M.rq ad) aF) (aq.bind ((rc.rq ad).add (O.rq ad) aF) ?_));rw [<- e];exact aq.bind ((r3'.rq ad).cmp (B.wr.rq ay) aF) hK
   by_cases hw:bW b<=fF (bl b) (f i).1 t
   ·obtain ⟨h,v,w,x⟩:=fin j (Nat.le_of_lt A) (l j) p fun _=>by rw [<- e];exact hw
    exact ⟨h,v,w,Z (aq.aN (by rw [mO];exact decide_eq_true p) (pre (K:=fun N g E J=>cond (decide (J>=0)) _ _) (aq.aN (by rw [Cm];exact decide_eq_true (by grind)) (.one x))))⟩
   ·obtain ⟨h,v,w,x⟩:=go rfl (Rat.not_le.1 hw);exact ⟨h,v,w,Z (aq.aN (by rw [mO];exact decide_eq_true p) (pre (K:=fun N g E J=>cond (decide (J>=0)) _ _) (aq.a9 (by rw [Cm];exact decide_eq_false (by grind)) x)))⟩
  ·have hcw:c < bW b:=by
    by_cases q:i=0
    ·rw [(s q).1];exact B.anI
    ·exact (l ad).2.2
   have hce:c=fF (bl b) (f i).1 t:=by
    by_cases q:i=0
    ·rw [(s q).1,Hj q]
    ·have e:=Hh ad;obtain ⟨o,u,_⟩:=l ad;have hle:a<=(f i).1:=by rw [o];exact L _ _ (Nat.zero_le _) ad A
     have h2:=aaI (t:=t) B.ls hle;have D:=Rat.mul_nonneg (show 0<=-(aV i fun q=>(f q).2) by grind) (show 0<=(f i).1 - a by grind);grind
   obtain ⟨h,v,w,x⟩:=go hce hcw;exact ⟨h,v,w,Z (aq.a9 (by rw [mO];exact decide_eq_false p) x)⟩
theorem aaM (B:BB b) (g:Carry (bl b) (bW b)) {h:Rat} (i:oZ (bl b) (bW b) t h) (d:RB t m) (hm:m<=100000):RB h (65 * m+1900)/\Gv (fun N=>fH N b (bg t)) (aQ h t):=by
 obtain ⟨f,n,j,k,l,o,p⟩:=aqZ B.ls d hm;obtain ⟨h',r,s,u⟩:=adb B g d hm j k l o n 0 (c:=0) (a:=0) (Nat.zero_add _) (fun _=>⟨rfl,rfl⟩) fun q=>absurd q (y3 0);have e:=i.one r;subst e;refine ⟨s,(gJ (z:=0) ⟨ay,ay⟩).bind ((gJ (z:=0) ⟨ay,ay⟩).bind ((gJ B.i64).bind ((gJ (z:=0) ⟨ay,ay⟩).bind (p.bind u.diag))))⟩
end
def p2:Nat->Rat
 | 0=>1
 | k+1=>p2 k+p2 k
theorem TZ:∀ k,p2 k=(((2 ^ k:Nat):Int):Rat)
 | 0=>rfl
 | k+1=>by
  rw [p2,TZ k,Nat.pow_succ,Nat.mul_two,Int.natCast_add,Rat.intCast_add]
theorem GJ:∀ k,1<=p2 k
 | 0=>Rat.le_refl
 | k+1=>by have:=GJ k;rw [p2];grind
theorem YL (a:Nat):∀ b,p2 (a+b)=p2 a * p2 b
 | 0=>by show p2 a=p2 a * 1;grind
 | b+1=>by rw [<- Fq,p2,YL a b,p2];grind
theorem ae2 {a b:Nat} (h:a<=b):p2 a<=p2 b:=by
 obtain ⟨c,rfl⟩:∃ c,b=a+c:=⟨b - a,ad⟩;rw [YL];have:=Rat.mul_le_mul_of_nonneg_left (GJ c) (show 0<=p2 a by have:=GJ a;grind);grind
theorem atr (n:Nat):65536 ^ n=2 ^ (16 * n):=by rw [Nat.pow_mul]
theorem anL (n:Nat):((65536 ^ n:Nat):Rat)=p2 (16 * n):=by rw [atr,TZ];rfl
theorem RB.awt {q:Rat} {n a:Nat} (h:RB q n) (b:a=16 * n) (c:0 < q):1<=q * p2 a:=by
 rw [b,<- anL];exact h.VF c
theorem aoQ {z:Int} {k n:Nat} (h:z.natAbs<=2 ^ k) (a:k < 16 * n):ZB z n:=Hc.2 (by
 rw [atr];exact Nat.lt_of_le_of_lt h (Nat.pow_lt_pow_right ay a))
theorem Ja {k n:Nat} (a:k < 16 * n) (b:1<=n):RB (p2 k) n:=by
 rw [TZ];exact RB.int (aoQ (aH _) a) b
def Dy (k:Nat) (q:Rat):Prop:=∃ z:Int,q * p2 k=z/\z.natAbs<=2 ^ (k+200)
section
variable {k:Nat} {x y:Rat}
theorem Dy.rb (h:Dy k x) (b:k<=150000):RB x 20000:=by
 obtain ⟨z,c,a⟩:=h;have d:=GJ k;have e:x=(z:Rat) / p2 k:=by grind
 rw [e];exact (RB.int (n:=10000) (aoQ a ad) ay).div (Ja (n:=10000) ad ay) (by grind)
theorem Dy.up (h:Dy k x):Dy (k+1) x:=by
 obtain ⟨z,a,b⟩:=h;refine ⟨z+z,by rw [p2,Rat.intCast_add];grind,?_⟩;grind
theorem Dy.ya (h:Dy k x) (h':Dy k y):Dy (k+1) ((x+y) / 2):=by
 obtain ⟨z,a,b⟩:=h;obtain ⟨w,c,d⟩:=h';refine ⟨z+w,by rw [p2,Rat.intCast_add];grind,?_⟩;grind
theorem Dy.pow {j:Nat} (a:j<=100):Dy 0 (p2 j):=⟨((2 ^ j:Nat):Int),by rw [TZ];show _ * p2 0=_;rw [p2];grind,by
 rw [Int.natAbs_natCast];exact Nat.pow_le_pow_right ay ad⟩
theorem Dy.neg (h:Dy k x):Dy k (-x):=by
 obtain ⟨z,a,b⟩:=h;exact ⟨-z,by grind,ad⟩
theorem agr {a c:Nat} {z w:Rat} (h:c+a < k) (hw:(y - x) * p2 k<=p2 c) (e:∀ q,RB q (4000+4000+1)->0 < q->1<=q * p2 a) (d:RB z 4000) (b:RB w 4000) (z1:x < z) (f:z < y) (w1:x < w) (w2:w < y):z=w:=by
 have key:∀ {z w:Rat},RB z 4000->RB w 4000->x < w->z < y->¬ w < z:=fun {z w} d b w1 f q=>by
  have i:=e _ (d.sub b) (show 0 < z - w by grind);obtain ⟨r,rfl⟩:∃ r,k=a+(c+r):=⟨k - c - a,ad⟩;rw [YL,YL] at hw;have j:=GJ a;have pc:=GJ c;have pr:=GJ r;have l:=Rat.mul_lt_mul_of_pos_right (show z - w < y - x by grind) (show 0 < p2 a by grind);have g:1 < (y - x) * p2 a:=by grind
  have m:=Rat.mul_lt_mul_of_pos_right g (show 0 < p2 c * p2 r by exact Rat.mul_pos (by grind) (by grind));have n:=Rat.mul_le_mul_of_nonneg_left pr (show 0<=p2 c by grind);grind
 grind
end
section
variable {b:cW} {H:Rat->Rat} {t:Rat} {m:Nat}
abbrev BIG:Nat:=900000000
structure EqR (b:cW) (h t:Rat):Prop where
 bal:Bal b h t
 hb:RB h BIG
 tb:RB t BIG
abbrev anM (b:cW) (s:Nat->Option aw) (K:Nat->Nat->Int->Option aw) (N g:Nat):Option aw :=
 (s N).bind fun a=>(iC N b a).bind fun e=>(dY N e).bind fun sg=>cond (sg == 0) (some a) ((oz N b a).bind fun r=>cond r.2 (some r.1) (K N g sg))
theorem T5 (B:BB b) (v:Carry (bl b) (bW b)) (n:∀ s,oZ (bl b) (bW b) s (H s)) (f:RB t m) (hm:m<=100000) :
  (∃ h t',EqR b h t'/\∀ K,aq (anM b (fun N=>fH N b (bg t)) K) (aQ h t')) \/
  (bX b (H t) t≠0/\¬ (kD (bl b) (vL (bl b) (H t) t)≠0/\Bal b (gH b (vL (bl b) (H t) t) (H t) t) (gT b (vL (bl b) (H t) t) (H t) t)) /\
   ∀ K r,aq (fun N g=>K N g (oE (bX b (H t) t))) r->aq (anM b (fun N=>fH N b (bg t)) K) r):=by
 obtain ⟨c,i⟩:=aaM B v (n t) f hm;have a:RB t (65 * m+1900):=f.le ad;have j:=YF B c a ad ad;have rx:=akT B c a;have k:=M4 (rx.rq ad) aF;obtain ⟨r,o,p⟩:=aqM B c a ad ad
 by_cases d:bX b (H t) t=0
 ·refine .inl ⟨H t,t,⟨⟨(n t).eq,d⟩,c.le (by grind),f.le (by grind)⟩,fun K=>?_⟩;exact aq.bind i (aq.bind j (aq.bind k (aq.aN (by rw [d];rfl) (.one (Gv.pure _)))))
 ·have u:(oE (bX b (H t) t) == 0)=false:=beq_eq_false_iff_ne.2 fun q=>d (vt.1 q);cases l:r.2 with
  | true =>
   obtain ⟨h',t',e,w,x,y⟩:=p.ok l;refine .inl ⟨h',t',⟨y,w.le (by grind),x.le (by grind)⟩,fun K=>?_⟩;exact aq.bind i (aq.bind j (aq.bind k (aq.a9 u (aq.bind o (aq.aN l (.one ((Gv.pure _).eq e)))))))
  | false =>
   refine .inr ⟨d,fun q=>?_,fun K A z=>?_⟩
   ·have:=p.left q.1 q.2;simp_all
   ·exact aq.bind i (aq.bind j (aq.bind k (aq.a9 u (aq.bind o (aq.a9 l z)))))
theorem aq1 (B:BB b) (I:Carry (bl b) (bW b)) (o:∀ s,oZ (bl b) (bW b) s (H s)) {a c KM:Nat} (L:c+a < KM) (M:KM < 150000) (O:∀ q,RB q (4000+4000+1)->0 < q->1<=q * p2 a) :
  ∀ (d k:Nat) {x y:Rat},k+d=KM->Dy k x->Dy k y->x < y->(y - x) * p2 k<=p2 c->bX b (H x) x < 0->0 < bX b (H y) y->∃ h t,EqR b h t/\aq (fun N g=>cT N b g (bg x) (bg y)) (aQ h t):=fun d=>by
 induction d with
 | zero =>
  intro k x y P f i p hw u v;have rx:=f.rb ad;have l:=i.rb ad;have A:=(f.ya i).rb ad;rcases T5 B I o A ay with ⟨h,t,j,n⟩ | ⟨j,n,_⟩
  ·refine ⟨h,t,j,aq.succ (fun N g=>cT.eq_2 ..) (aq.bind ((rx.rq ay).add (l.rq ay) ay) (aq.bind (gJ (z:=2) ⟨ay,ay⟩) (aq.bind (aaC ((rx.add l).rq ay) ((RB.int (z:=2) (ZB.small ay) (aH 1)).rq ay) ay ay) ?_)))⟩;simp_all
  ·exfalso;rcases aqW B o (m:=(x+y) / 2) (by grind) (by grind) u v (fun z w Q C z1 R w1 w2=>agr ad hw O Q C z1 R w1 w2) with h | h
   ·exact j h
   ·exact n h
 | succ d J =>
  intro k x y P f i p hw u v;have rx:=f.rb ad;have l:=i.rb ad;have D:=f.ya i;have A:=D.rb ad;have pre:∀ {r},aq (anM b (fun N=>fH N b (bg ((x+y) / 2))) fun N g s=>cond (decide (s < 0)) (cT N b g (bg ((x+y) / 2)) (bg y)) (cT N b g (bg x) (bg ((x+y) / 2)))) r->aq (fun N g=>cT N b g (bg x) (bg y)) r:=fun {r} S =>
   aq.succ (fun N g=>cT.eq_2 ..) (aq.bind ((rx.rq ay).add (l.rq ay) ay) (aq.bind (gJ (z:=2) ⟨ay,ay⟩) (aq.bind (aaC ((rx.add l).rq ay) ((RB.int (z:=2) (ZB.small ay) (aH 1)).rq ay) ay ay) S)))
  have e:p2 (k+1)=p2 k+p2 k:=rfl;rcases T5 B I o A ay with ⟨h,t,j,n⟩ | ⟨j,n,K⟩
  ·exact ⟨h,t,j,pre (n _)⟩
  ·by_cases E:bX b (H ((x+y) / 2)) ((x+y) / 2) < 0
   ·obtain ⟨h,t,F,G⟩:=J (k+1) (x:=(x+y) / 2) (y:=y) ad D i.up (by grind) (by rw [e];grind) E v;exact ⟨h,t,F,pre (K _ _ (aq.aN (by rw [lG];exact decide_eq_true E) G))⟩
   ·obtain ⟨h,t,F,G⟩:=J (k+1) (x:=x) (y:=(x+y) / 2) ad f.up D (by grind) (by rw [e];grind) u (by grind);exact ⟨h,t,F,pre (K _ _ (aq.a9 (by rw [lG];exact decide_eq_false E) G))⟩
theorem ends (B:BB b) (f:Carry (bl b) (bW b)) (k:∀ s,oZ (bl b) (bW b) s (H s)) {i j:Nat} (hi:i<=100) (o:j<=100) (l:bX b (H (-p2 i)) (-p2 i)<=0) (I:0<=bX b (H (p2 j)) (p2 j)) :
  ∃ h t,EqR b h t/\Gv (fun N=>dG N b (bg (-p2 i)) (bg (p2 j)) (bg 0) N 0) (aQ h t):=by
 have pi:=GJ i;have J:=GJ j;have u:RB (-p2 i) 10:=(Ja ad ay).neg;have v:RB (p2 j) 10:=Ja ad ay;have w1:av (((0:Nat):Int)+1)=((1:Nat):Int):=ay;have w2:av (((1:Nat):Int)+1)=((2:Nat):Int):=ay;have w:av (((2:Nat):Int)+1)=((3:Nat):Int):=ay;have go:∀ {x:Nat} {q:Rat} {r},x < 3->([bg 0,bg (-p2 i),bg (p2 j)]:List ab).getD x ab.d=bg q->aq (anM b (fun N=>fH N b (bg q)) fun N g _=>dG N b (bg (-p2 i)) (bg (p2 j)) (bg 0) g (av ((x:Int)+1))) r ->
   aq (fun N g=>dG N b (bg (-p2 i)) (bg (p2 j)) (bg 0) g (x:Int)) r:=fun {x q r} l hq K=>by
  refine aq.go l (fun N g=>dG.eq_2 ..) (aq.if (k6 l) ?_);simp_all
 rcases T5 B f k (RB.zero) ay with ⟨h,t,d,e⟩ | ⟨_,_,m⟩
 ·exact ⟨h,t,d,aq.diag (go (x:=0) ay rfl (e _))⟩
 ·rcases T5 B f k u ay with ⟨h,t,d,e⟩ | ⟨L,_,p⟩
  ·exact ⟨h,t,d,aq.diag (go (x:=0) ay rfl (m _ _ (by rw [w1];exact go (x:=1) ay rfl (e _))))⟩
  ·rcases T5 B f k v ay with ⟨h,t,d,e⟩ | ⟨M,_,y⟩
   ·exact ⟨h,t,d,aq.diag (go (x:=0) ay rfl (m _ _ (by rw [w1];exact go (x:=1) ay rfl (p _ _ (by rw [w2];exact go (x:=2) ay rfl (e _))))))⟩
   ·obtain ⟨KM,z⟩:∃ KM,KM=130000:=⟨_,rfl⟩;obtain ⟨a,A⟩:∃ a,a=16 * (4000+4000+1):=⟨_,rfl⟩;have hw:(p2 j - -p2 i) * p2 0<=p2 101:=by
     have O:=ae2 hi;have P:=ae2 o;have C:p2 101=p2 100+p2 100:=rfl;have D:p2 0=1:=rfl;rw [C,D];grind
    obtain ⟨h,t,E,F⟩:=aq1 B f k (a:=a) (c:=101) (KM:=KM) ad ad (fun q hq G=>hq.awt A G) KM 0 (Nat.zero_add _) (Dy.pow hi).neg (Dy.pow o) (by grind) hw (by grind) (by grind);refine ⟨h,t,E,aq.diag (go (x:=0) ay rfl (m _ _ (by rw [w1];exact go (x:=1) ay rfl (p _ _ (by rw [w2];exact go (x:=2) ay rfl (y _ _ (by
     rw [w];exact aq.stop (n:=3) (fun N g=>dG.eq_2 ..) (.one F.diag)))))))) ⟩
theorem alk:aqY<=p2 97:=by rw [TZ];decide +kernel
theorem M8 (B:BB b) (x:aoP b):∃ h t,EqR b h t/\Gv (fun N=>lj N b) (aQ h t):=by
 have v:=carry B x.down;obtain ⟨H,p⟩:=agp B.ls B.anI v;have hi:∀ i,97<=i->bX b (H (-p2 i)) (-p2 i)<=0:=fun i h=>by
  have l:=ae2 h;have o:=alk;have:=side B (p (-p2 i)) (e:=-1) (.inr rfl) (by grind) fun i hi=>by rw [show -(-1 * sx (sat (bl b) i))=sx (sat (bl b) i) by grind];exact x.back i hi
  grind
 have C:∀ i,97<=i->0<=bX b (H (p2 i)) (p2 i):=fun i h=>by
  have l:=ae2 h;have o:=alk;have:=side B (p (p2 i)) (e:=1) (.inl rfl) (by grind) fun i hi=>by rw [show -(1 * sx (sat (bl b) i)) = -sx (sat (bl b) i) by grind];exact x.up i hi
  grind
 have u:∀ {j:Nat},j<=99->Gv (fun N=>bG N (bg (p2 j)) (bg (p2 j))) (bg (p2 (j+1))):=fun {j} h=>by
  have r:RB (p2 j) 10:=Ja ad ay;exact (r.rq ay).add (r.rq ay) ay
 have k:∀ {q:Rat} {m:Nat} {K:Nat->Nat->Int->Option aw} {r},RB q m->m<=1000->aq (fun N g=>K N g (oE (bX b (H q) q))) r->aq (fun N g=>(fH N b (bg q)).bind fun a=>(iC N b a).bind fun e=>(dY N e).bind fun s=>K N g s) r:=fun {q m K r} hq hm F=>by
  obtain ⟨D,G⟩:=aaM B v (p q) hq ad;have E:RB q (65 * m+1900):=hq.le ad;exact aq.bind G (aq.bind (YF B D E ad ad) (aq.bind (M4 ((akT B D E).rq ad) aF) F))
 have up:∀ d j i,j+d=98->i<=100->bX b (H (-p2 i)) (-p2 i)<=0->∃ h t,EqR b h t/\aq (fun N g=>dH N b (bg (-p2 i)) g (bg (p2 j)) (bg (p2 j))) (aQ h t):=fun d=>by
  induction d with
  | zero =>
   intro j i y l o;obtain ⟨h,t,c,f⟩:=ends B v p l (show j<=100 by omega) o (C j ad);refine ⟨h,t,c,aq.succ (fun N g=>dH.eq_2 ..) (k (K:=fun N g s=>cond (decide (s < 0)) _ _) (Ja (n:=10) ad ay) ay (aq.a9 (by rw [lG];exact decide_eq_false (by have:=C j ad;grind)) (aq.bind (gJ (z:=0) ⟨ay,ay⟩) (.one f))))⟩
  | succ d A =>
   intro j i y l o
   by_cases q:bX b (H (p2 j)) (p2 j) < 0
   ·obtain ⟨h,t,c,f⟩:=A (j+1) i ad l o;exact ⟨h,t,c,aq.succ (fun N g=>dH.eq_2 ..) (k (K:=fun N g s=>cond (decide (s < 0)) _ _) (Ja (n:=10) ad ay) ay (aq.aN (by rw [lG];exact decide_eq_true q) (aq.bind (u ad) f)))⟩
   ·obtain ⟨h,t,c,f⟩:=ends B v p l (show j<=100 by omega) o (by grind);exact ⟨h,t,c,aq.succ (fun N g=>dH.eq_2 ..) (k (K:=fun N g s=>cond (decide (s < 0)) _ _) (Ja (n:=10) ad ay) ay (aq.a9 (by rw [lG];exact decide_eq_false q) (aq.bind (gJ (z:=0) ⟨ay,ay⟩) (.one f))))⟩
 have one:bg ((1:Int):Rat)=bg (p2 0):=rfl;have next:∀ i,i<=100->bX b (H (-p2 i)) (-p2 i)<=0->∃ h t,EqR b h t/\Gv (fun N=>(ao N 1).bind fun w=>dH N b (bg (-p2 i)) N w (bg ((1:Int):Rat))) (aQ h t):=fun i l o=>by
  obtain ⟨h,t,c,f⟩:=up 98 0 i (Nat.zero_add _) l o;exact ⟨h,t,c,(gJ (z:=1) ⟨ay,ay⟩).bind f.diag⟩
 have dn:∀ d j,j+d=98->∃ h t,EqR b h t/\aq (fun N g=>ej N b (bg ((1:Int):Rat)) g (bg (p2 j)) (bg (-p2 j))) (aQ h t):=fun d=>by
  induction d with
  | zero =>
   intro j y;obtain ⟨h,t,c,f⟩:=next j ad (hi j ad)
   exact ⟨h,t,c,aq.succ (fun N g=>ej.eq_2 ..) (k (K:=fun N g s=>cond (decide (s > 0)) _ _) (Ja (n:=10) ad ay).neg ay (aq.a9 (by rw [mO];exact decide_eq_false (by have:=hi j ad;grind)) (.one f)))⟩
  | succ d A =>
   intro j y
   by_cases q:0 < bX b (H (-p2 j)) (-p2 j)
   ·obtain ⟨h,t,c,f⟩:=A (j+1) ad;exact ⟨h,t,c,aq.succ (fun N g=>ej.eq_2 ..) (k (K:=fun N g s=>cond (decide (s > 0)) _ _) (Ja (n:=10) ad ay).neg ay (aq.aN (by rw [mO];exact decide_eq_true q) (aq.bind (u ad) (aq.bind (atb ((Ja (n:=10) ad ay).rq ay) ay) f))))⟩
   ·obtain ⟨h,t,c,f⟩:=next j ad (by grind)
    exact ⟨h,t,c,aq.succ (fun N g=>ej.eq_2 ..) (k (K:=fun N g s=>cond (decide (s > 0)) _ _) (Ja (n:=10) ad ay).neg ay (aq.a9 (by rw [mO];exact decide_eq_false q) (.one f)))⟩
 obtain ⟨h,t,c,f⟩:=dn 98 0 (Nat.zero_add _);have em:bg ((-1:Int):Rat)=bg (-p2 0):=by congr 1
 refine ⟨h,t,c,(gJ (z:=1) ⟨ay,ay⟩).bind ((gJ (z:=-1) ⟨ay,ay⟩).bind ((gJ (z:=1) ⟨ay,ay⟩).bind ?_))⟩;rw [em];exact f.diag
end
abbrev sh3 (x:ab):Bool:=cond (decide ((x.fN.fL.length:Int)<=3)) (decide ((x.fD.fL.length:Int)<=3)) false
theorem ade {x:ab} (hw:ab.wf x) (h:sh3 x=true):IR x 3:=by
 unfold sh3 at h;cases u:decide ((x.fN.fL.length:Int)<=3) with
 | false=>rw [u] at h;cases h
 | true =>
  rw [u,cond_true] at h;have u:=nH u;have h:=nH h;exact ⟨IB.aoy hw.1 ad,IB.aoy hw.2 ad⟩
theorem ats {a:List ab} (f:a.length<=1000) (hw:∀ x∈a,ab.wf x):∃ r,Gv (fun N=>Bb N a 3) r/\(r=true->∀ i,IR (a.getD i ab.d) 3):=by
 have h:ub (true:Bool) (fun N g=>kn N a 3 g 0) (∀ i,i < a.length->IR (a.getD i ab.d) 3):=ub.imp (hq:=And.left) <| ub.loop (Q:=True) (L:=fun N g i=>kn N a 3 g i) (n:=a.length) (P:=fun i=>IR (a.getD i ab.d) 3) (fun i hi R b=>by
  refine ub.go hi (fun N g=>kn.eq_2 ..) (ub.if (k6 hi) ?_);rw [ai,aX ad];refine ub.bind (r:=sh3 (a.getD i ab.d)) (Gv.pure _) (ub.cond (fun _=>.err ay) fun q=>b ?_);exact ade (hw _ (Th a i ab.d hi)) (by simpa using q)) (fun _=>ub.stop (fun N g=>kn.eq_2 ..) (.aqH trivial))
 obtain ⟨r,c,d⟩:=h;refine ⟨r,c.diag,fun e i=>?_⟩
 by_cases hi:i < a.length
 ·exact d e i hi
 ·have:a.getD i ab.d=ab.d:=by simp [List.getD,hi]
  rw [this];exact ird
structure Sh (s:af):Prop where
 c:IR s.Rp 3
 four:s.aY.ah.length<=4
 cv:CB s.aY 3
theorem anN {b:cW} (hw:cW.wf b):∃ r,Gv (fun N=>FN N b) r/\(r=true->IR b.BH 3/\∀ i,i < b.ag.length->Sh (sat b.ag i)):=by
 have h:∃ r,Gv (fun N=>zH N b.ag 10 4) r/\(r=true->∀ i,i < b.ag.length->Sh (sat b.ag i)):=by
  unfold zH
  by_cases j:b.ag.length<=10
  ·have h:ub (true:Bool) (fun N g=>lk N b.ag 4 g 0) (∀ i,i < b.ag.length->Sh (sat b.ag i)):=ub.imp (hq:=And.left) <| ub.loop (Q:=True) (L:=fun N g i=>lk N b.ag 4 g i) (n:=b.ag.length) (P:=fun i=>Sh (sat b.ag i)) (fun i hi R k=>by
    have c:=hw.2.2.2 _ (Th b.ag i af.d hi);refine ub.go hi (fun N g=>lk.eq_2 ..) (ub.if (k6 hi) (ub.if (fun _=>k6 hi) ?_));rw [ai,aX ad]
    by_cases c1:(sat b.ag i).aY.ah.length<=4/\(sat b.ag i).aY.aA.length<=5
    ·have e:cond (decide ((((sat b.ag i).aY.ah.length:Nat):Int) > 4)) true (decide ((((sat b.ag i).aY.aA.length:Nat):Int) > av (4+1)))=false:=by
      rw [decide_eq_false ad,cond_false,show av (4+1)=5 by decide];exact decide_eq_false ad
     obtain ⟨r,l,m⟩:=ats (a:=(sat b.ag i).aY.aA) ad c.2.2.2.2;rw [e];refine ub.bind (r:=sh3 (sat b.ag i).Rp) (Gv.aN rfl (Gv.pure _)) ?_;cases o:sh3 (sat b.ag i).Rp with
     | false=>exact ub.bind (Gv.a9 rfl (Gv.pure _)) (ub.cond (fun _=>.err ay) fun q=>by cases q)
     | true =>
      refine ub.bind (Gv.aN rfl l) (ub.cond (fun _=>.err ay) fun q=>k ⟨ade c.2.1 o,c1.1,⟨ay,ad,ad,m ?_⟩⟩);simp_all
    ·have e:cond (decide ((((sat b.ag i).aY.ah.length:Nat):Int) > 4)) true (decide ((((sat b.ag i).aY.aA.length:Nat):Int) > av (4+1)))=true:=by
      rw [show av (4+1)=5 by decide];grind
     rw [e];exact ub.bind (Gv.a9 rfl (Gv.pure _)) (ub.bind (Gv.a9 rfl (Gv.pure _)) (ub.cond (fun _=>.err ay) fun q=>by cases q)))
    (fun _=>ub.stop (fun N g=>lk.eq_2 ..) (.aqH trivial))
   obtain ⟨r,d,f⟩:=h;exact ⟨r,Gv.a9 (decide_eq_false ad) d.diag,f⟩
  ·exact ⟨false,Gv.aN (decide_eq_true ad) (Gv.pure _),fun h=>by cases h⟩
 obtain ⟨r,d,f⟩:=h;cases r with
 | false=>exact ⟨false,d.bind (Gv.bind (Gv.a9 rfl (Gv.pure _)) (Gv.pure _)),fun h=>by cases h⟩
 | true=>exact ⟨sh3 b.BH,d.bind (Gv.bind (r:=sh3 b.BH) (Gv.aN rfl (Gv.pure _)) (Gv.pure _)),fun h=>⟨ade hw.2.1 h,f rfl⟩⟩
abbrev okX (x:Int):Prop:=-1000000<=x/\x<=1000000
abbrev okQ (q m:Rat):Prop:=-m<=q/\q<=m
structure OkS (s:af):Prop where
 x:okX s.z9
 c:okQ (qv s.Rp) 10000000
 cv:nm s.aY=0
theorem Wa {x:ab} (d:IR x 3) {z:Int} (b:-9223372036854775808<=z/\z<=9223372036854775807) (a:-9223372036854775808<=-z/\-z<=9223372036854775807):∃ r,Gv (fun N=>xE N x (-z) z) r/\(r=true->okQ (qv x) z):=by
 have hq:RQ x (qv x) 3:=⟨d,rfl,ay⟩;have f:RQ (bg ((-z:Int):Rat)) ((-z:Int):Rat) 4:=(RB.int (ZB.word a.1 a.2) ay).rq ay;have g:RQ (bg ((z:Int):Rat)) ((z:Int):Rat) 4:=(RB.int (ZB.word b.1 b.2) ay).rq ay;have i:=hq.anj f ay;have j:=hq.anj g ay;rw [Rat.intCast_neg] at i
 by_cases c:0<=qv x - -(z:Rat)
 ·have e:decide (oE (qv x - -(z:Rat))>=0)=true:=by rw [Cm];exact decide_eq_true c
  refine ⟨decide (oE (qv x - z)<=0),(Hx a.1 a.2).bind ((by simp_all:Gv _ _).bind (Gv.bind (Gv.aN e (Hx b.1 b.2)) (Gv.bind (Gv.aN e j) ((Gv.pure _).eq ?_)))),fun h=>?_⟩
  ·rw [e,cond_true]
  ·rw [LG] at h;grind
 ·have e:decide (oE (qv x - -(z:Rat))>=0)=false:=by rw [Cm];exact decide_eq_false c
  refine ⟨false,(Hx a.1 a.2).bind ((by simp_all:Gv _ _).bind (Gv.bind (Gv.a9 e (Gv.pure _)) (Gv.bind (Gv.a9 e (Gv.pure _)) ((Gv.pure _).eq ?_)))),fun h=>by cases h⟩;rw [e,cond_false]
theorem adf {b:cW} (s:b.ag.length<=8) (j:IR b.BH 3) (f:∀ i,i < b.ag.length->Sh (sat b.ag i)) :
  Ok (0:Int) (fun N=>nw N b) ((1<=b.dW/\b.dW<=1000000000)/\okQ (qv b.BH) 1000000/\∀ i,i < b.ag.length->OkS (sat b.ag i)):=by
 have loop:ub (0:Int) (fun N g=>ln N b.ag g 0) (∀ i,i < b.ag.length->OkS (sat b.ag i)):=ub.imp (hq:=And.left) <| ub.loop (Q:=True) (L:=fun N g i=>ln N b.ag g i) (n:=b.ag.length) (P:=fun i=>OkS (sat b.ag i)) (fun i hi R k=>by
  obtain ⟨r,a,d⟩:=Wa (f i hi).c (z:=10000000) ay ay;refine ub.go hi (fun N g=>ln.eq_2 ..) (ub.if (k6 hi) (ub.if (fun _=>k6 hi) (ub.if (fun _=>k6 hi) ?_)));rw [ai,aX ad]
  by_cases l:okX (sat b.ag i).z9
  ·have e:cond (decide ((sat b.ag i).z9 < -1000000)) true (decide ((sat b.ag i).z9 > 1000000))=false:=by simp_all
   rw [e];refine ub.bind (Gv.aN rfl a) (ub.cond (fun _=>.err ay) fun q=>?_);have m:r=true:=by simp_all
   refine ub.bind (Tz (f i hi).cv ay) (ub.cond (fun q=>.err (by simpa using q)) fun q=>k ⟨l,?_,by simpa using q⟩);exact d m
  ·have e:cond (decide ((sat b.ag i).z9 < -1000000)) true (decide ((sat b.ag i).z9 > 1000000))=true:=by grind
   rw [e];exact ub.bind (Gv.a9 rfl (Gv.pure _)) (ub.cond (fun _=>.err ay) fun q=>by cases q))
  (fun _=>ub.stop (fun N g=>ln.eq_2 ..) (.aqH trivial))
 obtain ⟨c,o,p⟩:=loop.diag;obtain ⟨r,a,d⟩:=Wa j (z:=1000000) ay ay
 by_cases hw:1<=b.dW/\b.dW<=1000000000
 ·have e:cond (decide (b.dW < 1)) true (decide (b.dW > 1000000000))=false:=by simp_all
  cases r with
  | true =>
   refine ⟨c,?_,fun h=>⟨hw,d rfl,p h⟩⟩;unfold nw;rw [e];refine Gv.bind (Gv.aN rfl a) (Gv.a9 rfl (Gv.bind ?_ (Gv.pure _)));exact Gv.a9 (decide_eq_false ad) o
  | false =>
   refine ⟨2,?_,fun h=>by cases h⟩;unfold nw;rw [e];exact Gv.bind (Gv.aN rfl a) (Gv.aN rfl (Gv.pure _))
 ·have e:cond (decide (b.dW < 1)) true (decide (b.dW > 1000000000))=true:=by grind
  refine ⟨2,?_,fun h=>by cases h⟩;unfold nw;rw [e];exact Gv.bind (Gv.a9 rfl (Gv.pure _)) (Gv.aN rfl (Gv.pure _))
theorem Wb {x:ab} (c:IR x 3) {z:Int} (a:-9223372036854775808<=z/\z<=9223372036854775807) (b:-9223372036854775808<=-z/\-z<=9223372036854775807) (h:okQ (qv x) z):Gv (fun N=>m7 N x z) false:=by
 have hq:RQ x (qv x) 3:=⟨c,rfl,ay⟩;have d:RQ (bg ((-z:Int):Rat)) ((-z:Int):Rat) 4:=(RB.int (ZB.word b.1 b.2) ay).rq ay;have f:RQ (bg ((z:Int):Rat)) ((z:Int):Rat) 4:=(RB.int (ZB.word a.1 a.2) ay).rq ay;have g:=hq.cmp d ay;have i:=hq.cmp f ay;have j:av (0 - z) = -z:=a0
 have e:decide (oE (qv x - ((-z:Int):Rat)) < 0)=false:=by rw [lG,Rat.intCast_neg];exact decide_eq_false (by have:=h.1;grind)
 have k:decide (oE (qv x - (z:Rat)) > 0)=false:=by rw [mO];exact decide_eq_false (by have:=h.2;grind)
 unfold m7;rw [j];refine (gJ b).bind (g.bind (Gv.bind (Gv.aN (by rw [e];rfl) (gJ a)) (Gv.bind (Gv.aN (by rw [e];rfl) i) ((Gv.pure _).eq ?_))));rw [e,k];rfl
theorem alm {l:List af} (b:l.length<=8) (a:∀ i,i < l.length->Sh (sat l i)) (ok:∀ i,i < l.length->OkS (sat l i)):Gv (fun N=>ow N l) 0:=by
 have key:aq (fun N g=>iv N l g 0) 0:=?_
 ·exact Gv.a9 (decide_eq_false ad) key.diag
 refine aq.rounds (L:=fun N g i=>iv N l g i) (n:=l.length) (fun i hi h=>?_) (aq.stop (fun N g=>iv.eq_2 ..) (.one (Gv.pure _)));have c:=(ok i hi).x;have e:cond (decide ((sat l i).z9 < -1000000)) true (decide ((sat l i).z9 > 1000000))=false:=by simp_all
 refine aq.go hi (fun N g=>iv.eq_2 ..) (aq.if (k6 hi) ?_);rw [ai,aX ad];refine aq.bind (r:=false) ((Gv.pure _).eq e) (aq.bind (Gv.aN rfl (Wb (a i hi).c (z:=10000000) ay ay (ok i hi).c)) (aq.a9 rfl (aq.bind (zf (a i hi).cv ay) ?_)));exact aq.a9 (by rw [(ok i hi).cv];rfl) h
theorem ae3 {b:cW} (d:b.ag.length<=8) (f:IR b.BH 3) (c:∀ i,i < b.ag.length->Sh (sat b.ag i)) (h:(1<=b.dW/\b.dW<=1000000000)/\okQ (qv b.BH) 1000000/\∀ i,i < b.ag.length->OkS (sat b.ag i)) :
  BB b/\Gv (fun N=>gR N b) 0:=by
 obtain ⟨g,k,a⟩:=h;have j:=alm d c a;refine ⟨⟨g.1,g.2,f,⟨d,fun i hi=>⟨(a i hi).x.1,(a i hi).x.2,(c i hi).c,(a i hi).c.1,(a i hi).c.2,(c i hi).cv,(a i hi).cv,(c i hi).four⟩,j⟩⟩,?_⟩;have e:cond (decide (b.dW < 1)) true (decide (b.dW > 1000000000))=false:=by simp_all
 unfold gR;rw [e];exact Gv.bind (Gv.aN rfl (Wb f (z:=1000000) ay ay k)) (Gv.a9 rfl (j.bind (Gv.pure _)))
section
variable {s:af}
theorem aln (h:QG s):UR s.aY=(bg (uc s),true):=by
 unfold UR uc
 by_cases a:cn s.aY=0
 ·rw [if_pos a,if_pos a]
 ·rw [if_neg a,if_neg a];rcases h with h | h
  ·exact absurd h a
  ·rw [if_pos h]
theorem alo (h:¬ QG s):UR s.aY=(x7,false):=by
 unfold UR;rw [if_neg fun q=>h (.inl q),if_neg fun q=>h (.inr q)]
theorem ae4 (b:SB s):RB (uc s) 1081:=by
 unfold uc
 by_cases a:sN s=0
 ·rw [if_pos a];exact RB.zero.le ay
 ·rw [if_neg a];exact ata b.cv b.right (i:=sN s - 1) (by grind)
end
section
variable {l:List af} {A B:Rat} {m:Nat}
abbrev yT (l:List af) (A B:Rat) (i:Nat):Rat:=if Fo A B (sat l i)<=0 then 0 else uc (sat l i) * Fo A B (sat l i)
theorem aoS (L:LS l) (a:RB A m) (c:RB B m) {i:Nat} (hi:i < l.length):RB (yT l A B i) (2 * m+1085):=by
 have b:=L.sb i hi;unfold yT;split
 ·exact RB.zero.le ad
 ·exact ((ae4 b).mul (a.add (c.mul b.xb))).le ad
theorem aoT (L:LS l) (a:RB A m) (b:RB B m) {i:Nat} (hi:i<=l.length):RB (aV i (yT l A B)) (16 * m+8700):=by
 have:=L.len;obtain ⟨P,c⟩:∃ P,P=2 * m+1085:=⟨_,rfl⟩;have:=dU (P+1) (show i<=8 by omega);exact (cE.we (p:=P) fun u d=>(aoS L a b ad).le ad).le ad
theorem T6 (L:LS l) (a:RB A m) (c:RB B m) (n:1<=m) (hm:m<=10000000000):∀ (k i:Nat),i+k=l.length->(∀ j,j < i->0 < Fo A B (sat l j)->QG (sat l j)) ->
  ∃ r,aq (fun N g=>dE N l ⟨bg A,bg B⟩ g (bg (aV i (yT l A B))) (i:Int)) r/\((r=(bg (yld l A B),true)/\∀ j,j < l.length->0 < Fo A B (sat l j)->QG (sat l j))\/(r=(x7,false)/\¬ ∀ j,j < l.length->0 < Fo A B (sat l j)->QG (sat l j)))
 | 0,i,hi,h=>by
  have:i=l.length:=ad;subst this;exact ⟨_,aq.stop (fun N g=>dE.eq_2 ..) (.one (Gv.pure _)),.inl ⟨rfl,h⟩⟩
 | k+1,i,hi,h=>by
  have d:i < l.length:=ad;have I:=L.len;have b:=L.sb i d;have w:=c.mul b.xb;have x:=a.add w;have rs:=aoT L a c (Nat.le_of_lt d);have y:=aoS L a c d;have e:aV (i+1) (yT l A B)=aV i (yT l A B)+yT l A B i:=rfl;have pre:∀ {r},aq (fun N g=>cond (decide (oE (Fo A B (sat l i))<=0)) (jh N l ⟨bg A,bg B⟩ (i:Int) (dE N l ⟨bg A,bg B⟩ g) (bg (aV i (yT l A B)))) ((xz N (sat l i).aY).bind fun z=>cond (!z.2.1) (some (x7,false)) ((bR N z.1 (bg (Fo A B (sat l i)))).bind fun E=>(bG N (bg (aV i (yT l A B))) E).bind fun F=>jh N l ⟨bg A,bg B⟩ (i:Int) (dE N l ⟨bg A,bg B⟩ g) F))) r ->
    aq (fun N g=>dE N l ⟨bg A,bg B⟩ g (bg (aV i (yT l A B))) (i:Int)) r:=fun {r} G=>by
   refine aq.go d (fun N g=>dE.eq_2 ..) (aq.if (k6 d) ?_);rw [ai];refine aq.bind (gJ b.i64) (aq.bind ((c.rq n).mul (b.xb.rq ay) aF) (aq.bind ((a.rq n).add (w.rq ad) aF) (aq.bind (M4 (x.rq ad) aF) ?_)));exact G
  have C:∀ N g q,jh N l ⟨bg A,bg B⟩ (i:Int) (dE N l ⟨bg A,bg B⟩ g) q=dE N l ⟨bg A,bg B⟩ g q ((i+1:Nat):Int):=fun N g q=>by
   rw [jh,aX ad]
  by_cases o:Fo A B (sat l i)<=0
  ·have p:yT l A B i=0:=if_pos o;obtain ⟨r,f,v⟩:=T6 L a c n hm k (i+1) ad fun j H s=>by
    grind
   rw [e,p,show aV i (yT l A B)+0=aV i (yT l A B) by grind] at f;refine ⟨r,pre (aq.aN (by rw [LG];exact decide_eq_true o) ?_),v⟩;simp only [C];exact f
  ·have s:0 < Fo A B (sat l i):=by grind
   have D:decide (oE (Fo A B (sat l i))<=0)=false:=by rw [LG];exact decide_eq_false o
   have t:=aaB b.cv b.code ay
   by_cases u:QG (sat l i)
   ·obtain ⟨r,f,v⟩:=T6 L a c n hm k (i+1) ad fun j H s=>by
     by_cases q:j=i
     ·subst q;exact u
     ·exact h j ad s
    have p:yT l A B i=uc (sat l i) * Fo A B (sat l i):=if_neg o;rw [aln u] at t;rw [p] at y;refine ⟨r,pre (aq.a9 D (aq.bind t (aq.a9 rfl (aq.bind (((ae4 b).rq ay).mul (x.rq ad) aF) (aq.bind ((rs.rq ad).add (y.rq ad) aF) ?_))))),v⟩;simp only [C];rw [e,p] at f;exact f
   ·rw [alo u] at t;exact ⟨_,pre (aq.a9 D (aq.bind t (aq.aN rfl (.one (Gv.pure _))))),.inr ⟨rfl,fun q=>u (q i d s)⟩⟩
end
section
variable {b:cW} {A B:Rat} {m:Nat}
open Classical in
theorem T7 (a:BB b) (c:RB A m) (d:RB B m) (f:1<=m) (hm:m<=10000000000):Gv (fun N=>kA N b ⟨bg A,bg B⟩) (decide (n4 b A B)):=by
 obtain ⟨r,k,l⟩:=T6 a.ls c d f hm (bl b).length 0 (Nat.zero_add _) fun j p=>ad;have i:Gv (fun N=>uk N (bl b) ⟨bg A,bg B⟩) r:=(gJ (z:=0) ⟨ay,ay⟩).bind k.diag;rcases l with ⟨e,g⟩ | ⟨e,g⟩
 ·subst e;have h:=d.mul a.ar.rb;have rd:=a.wr.mul (c.add h);have n:Gv (fun N=>tc N b.dW b.BH ⟨bg A,bg B⟩) (bg (bW b * (A+B * bA b))) :=
   (gJ a.i64).bind (((d.rq f).mul a.ar aF).bind (((c.rq f).add (h.rq ad) aF).bind (((a.wr.rq ay).mul ((c.add h).rq ad) aF).Fi)))
  have o:=aoT a.ls c d (aH _);refine i.bind (Gv.bind (Gv.aN rfl n) (Gv.bind (Gv.aN rfl ((o.rq ad).cmp (rd.rq ad) aF)) ((Gv.pure _).eq ?_)));show decide (oE (yld (bl b) A B - bW b * (A+B * bA b)) < 0)=decide (n4 b A B);rw [lG];exact decide_eq_decide.2 ⟨fun q=>⟨g,by grind⟩,fun q=>by have:=q.lt;grind⟩
 ·subst e;exact i.bind (Gv.bind (Gv.a9 rfl (Gv.pure _)) (Gv.bind (Gv.a9 rfl (Gv.pure _)) ((Gv.pure _).eq (decide_eq_false fun q=>g q.QG).symm)))
end
abbrev TI (f:Nat->Int) (n:Nat):List Int:=I5 f n
theorem mS (f:Nat->Int) (n:Nat):(TI f n).length=n:=rY _ _
theorem DX (f:Nat->Int) {n i:Nat} (d:Int) (h:i < n):(TI f n).getD i d=f i:=Db _ _ h
structure YM (f:Nat->Int) (n:Nat) (f':Nat->Int) (n':Nat):Prop where
 sub:∀ i,i < n'->∃ j,j < n/\f' i=f j
 all:∀ j,j < n->∃ i,i < n'/\f' i=f j
section
variable {f f' f'':Nat->Int} {n n' n'':Nat}
theorem YM.refl:YM f n f n:=⟨fun i hi=>⟨i,hi,rfl⟩,fun j a=>⟨j,a,rfl⟩⟩
theorem YM.trans (h:YM f n f' n') (h':YM f' n' f'' n''):YM f n f'' n'':=⟨fun i hi=>by
 obtain ⟨j,a,b⟩:=h'.sub i hi;obtain ⟨k,c,d⟩:=h.sub j a;grind,fun j e=>by
 obtain ⟨i,g,b⟩:=h.all j e;obtain ⟨k,c,d⟩:=h'.all i g;grind⟩
def swI (f:Nat->Int) (i j:Nat) (a:Nat):Int:=if a=j then f i else if a=i then f j else f a
theorem att (f:Nat->Int) (n i j:Nat):((TI f n).set i (f j)).set j (f i)=TI (swI f i j) n:=by
 unfold TI;rw [Bn,Bn];rfl
theorem YM.swap {i j:Nat} (hi:i < n) (c:j < n):YM f n (swI f i j) n:=by
 refine ⟨fun a b=>?_,fun a b=>?_⟩
 ·unfold swI;split
  ·exact ⟨i,hi,rfl⟩
  ·split
   ·exact ⟨j,c,rfl⟩
   ·exact ⟨a,b,rfl⟩
 ·by_cases d:a=i
  ·subst d;exact ⟨j,c,by unfold swI;rw [if_pos rfl]⟩
  ·by_cases e:a=j
   ·subst e;refine ⟨i,hi,?_⟩;unfold swI;omega
   ·exact ⟨a,b,by simp_all [swI,if_neg]⟩
theorem atu (N:Nat) (x y:Int):tN N x y=some (decide (x < y)):=by
 simp [tN,sn]
theorem aaN (d:n<=1000) {i:Nat} (hi:i < n):∀ (j:Nat) {f:Nat->Int},j<=i->∃ f',YM f n f' n/\∀ (N:Nat) (b a:Int) (K:List Int->Int->Option (List Int)) (fuel:Nat),j < fuel->ca N 0 b a K fuel (TI f n) (j:Int)=K (TI f' n) (av (a+1))
 | 0,f,e=>⟨f,.refl,fun N b a K fuel c=>by
  obtain ⟨g,rfl⟩:=bb fuel;rfl⟩
 | j+1,f,e=>by
  have h:av (((j+1:Nat):Int) - 1)=(j:Int):=a0
  have l:=mS f n;have m:∀ N b a K g,ca N 0 b a K (g+1) (TI f n) ((j+1:Nat):Int)=cond (decide (f (j+1) < f j)) (ca N 0 b a K g (TI (swI f (j+1) j) n) (j:Int)) (K (TI f n) (av (a+1))):=fun N b a K g=>by
   rw [ca,decide_eq_true ad,h,ai,ai,if_pos (fun _=>ad),if_pos (fun _=>ad),if_pos ad,if_pos ad,DX f _ (show j < n by omega),DX f _ (show j+1 < n by omega),cond_true,atu,db,cond_true,<- att]
  by_cases hq:f (j+1) < f j
  ·obtain ⟨f',k,o⟩:=aaN d hi j (f:=swI f (j+1) j) ad;refine ⟨f',(YM.swap ad ad).trans k,fun N b a K fuel c=>?_⟩;obtain ⟨g,rfl⟩:=bb fuel;simp_all
  ·refine ⟨f,.refl,fun N b a K fuel c=>?_⟩;obtain ⟨g,rfl⟩:=bb fuel;simp_all
theorem aaO (a:n<=1000):∀ (k i:Nat) {f:Nat->Int},i+k=n->∃ f',YM f n f' n/\∀ N fuel,1000 < N->k < fuel->cN N 0 (n:Int) fuel (TI f n) (i:Int)=some (TI f' n)
 | 0,i,f,hi=>⟨f,.refl,fun N fuel _ b=>by
  obtain ⟨g,rfl⟩:=bb fuel;rw [cN,decide_eq_false ad,cond_false]⟩
 | k+1,i,f,hi=>by
  obtain ⟨c,d,e⟩:=aaN a (i:=i) ad i (f:=f) (aH _);obtain ⟨f',h,j⟩:=aaO a k (i+1) (f:=c) ad;refine ⟨f',d.trans h,fun N fuel l b=>?_⟩;obtain ⟨g,rfl⟩:=bb fuel;rw [cN,decide_eq_true ad,cond_true,e _ _ _ _ _ ad,aX ad];simp_all
theorem anO (N:Nat) {n:Nat} (a:n<=8):∃ r,vF N (IntKind.u64.wrap ((n:Nat):Int))=some r:=by
 have:n=0\/n=1\/n=2\/n=3\/n=4\/n=5\/n=6\/n=7\/n=8:=ad;rcases this with h | h | h | h | h | h | h | h | h<;>subst h
 ·exact ⟨0,by kernel_rfl⟩
 ·exact ⟨1,by kernel_rfl⟩
 ·exact ⟨2,by kernel_rfl⟩
 ·exact ⟨2,by kernel_rfl⟩
 ·exact ⟨3,by kernel_rfl⟩
 ·exact ⟨3,by kernel_rfl⟩
 ·exact ⟨3,by kernel_rfl⟩
 ·exact ⟨3,by kernel_rfl⟩
 ·exact ⟨4,by kernel_rfl⟩
theorem atv (d:n<=8):∃ f',YM f n f' n/\∀ N,1000 < N->lZ N (TI f n)=some (TI f' n):=by
 have e:∃ f',YM f n f' n/\∀ N,1000 < N->gA N 0 (n:Int) (TI f n)=some (TI f' n):=by
  unfold gA;rw [show av (0+1)=((1:Nat):Int) by decide]
  by_cases g:n=0
  ·subst g;refine ⟨f,.refl,fun N b=>?_⟩;obtain ⟨M,rfl⟩:=bb N;rfl
  ·obtain ⟨f',c,a⟩:=aaO (f:=f) (n:=n) ad (n - 1) 1 ad;grind
 obtain ⟨f',c,a⟩:=e;refine ⟨f',c,fun N b=>?_⟩;obtain ⟨r,h⟩:=anO N d;have a:=a N b;obtain ⟨M,rfl⟩:=bb N;unfold lZ;rw [mS,h,db,kN,iA,decide_eq_true a0,cond_true,a,db,if_pos (by rw [mS,mS]),db,if_pos (by rw [mS])]
theorem anP (f:Nat->Int) {n w:Nat} (h:w<=n):(TI f n).take w=TI f w:=by
 refine O9 0 (by rw [ud,mS];omega) fun i hi=>?_;have:=DX f 0 (show i < n by omega);simp_all
theorem T8 (l:n<=1000) {k:Nat} (m:1<=k) (f0:Nat->Int):∀ (d x w:Nat) {f':Nat->Int},k+x+d=n->1<=x->w < k+x->(∀ p,p < w->∃ q,q < k+x/\f' p=f q)->(∀ q,q < k+x->∃ p,p < w/\f' p=f q)->(∀ p,w<=p->f' p=f p) ->
  ∃ f'' w',YM f n f'' w'/\w'<=n/\∀ N K fuel,d < fuel->b6 N (TI f0 n) (k:Int) K fuel (TI f' n) (w:Int) (x:Int)=some (TI f'' w',TI f'' w')
 | 0,x,w,f',t,u,hw,o,b,c=>by
  refine ⟨f',w,⟨fun i hi=>?_,fun j F=>?_⟩,ad,fun N K fuel r=>?_⟩
  ·simp_all
  ·exact b j ad
  ·obtain ⟨g,rfl⟩:=bb fuel;rw [b6,mS,mS,ai,ai,decide_eq_false ad,cond_false,if_pos ad,if_pos ad,if_pos ad,if_pos ad,ai,anP f' ad]
 | d+1,x,w,f',t,u,hw,o,b,c=>by
  have v:av ((x:Int) - 1)=((x - 1:Nat):Int):=a0
  have y:eu k x=k+x:=fw _ _;have z:eu k (x - 1)=k+(x - 1):=fw _ _;have A:f' (k+x)=f (k+x):=c _ ad;have B:f' (k+(x - 1))=f (k+(x - 1)):=c _ ad;have G:∀ N K g,b6 N (TI f0 n) (k:Int) K (g+1) (TI f' n) (w:Int) (x:Int)=cond (f (k+x) != f (k+(x - 1))) (b6 N (TI f0 n) (k:Int) K g (TI (fun a=>if a=w then f (k+x) else f' a) n) ((w+1:Nat):Int) ((x+1:Nat):Int)) (b6 N (TI f0 n) (k:Int) K g (TI f' n) (w:Int) ((x+1:Nat):Int)):=fun N K g=>by
   rw [b6,mS,mS,ai,ai,ai,v,ai,decide_eq_true ad,cond_true,if_pos ad,if_pos ad,if_pos ad,if_pos ad,y,z,DX f' _ (show k+x < n by omega),DX f' _ (show k+(x - 1) < n by omega),A,B,hO,hO,aX ad,aX ad];simp_all [TI,set,Bn]
  by_cases hq:f (k+x)=f (k+(x - 1))
  ·obtain ⟨f'',w',z1,h,C⟩:=T8 l m f0 d (x+1) w (f':=f') ad ad ad (fun p s=>by
    grind) (fun q D=>by
    by_cases e:q=k+x
    ·subst e;rw [hq];exact b _ ad
    ·exact b q ad) c
   refine ⟨f'',w',z1,h,fun N K fuel r=>?_⟩;obtain ⟨g,rfl⟩:=bb fuel;simp_all
  ·obtain ⟨f'',w',z1,h,C⟩:=T8 l m f0 d (x+1) (w+1) (f':=fun a=>if a=w then f (k+x) else f' a) ad ad ad (fun p s=>by
    by_cases e:p=w
    ·grind
    ·obtain ⟨q,H,E⟩:=o p ad;grind) (fun q D=>by
    by_cases e:q=k+x
    ·grind
    ·obtain ⟨p,I,E⟩:=b q ad;grind) fun p s=>by
    grind
   refine ⟨f'',w',z1,h,fun N K fuel r=>?_⟩;obtain ⟨g,rfl⟩:=bb fuel;grind
theorem atw (h:n<=1000):∃ f' w,YM f n f' w/\w<=n/\∀ N,1000 < N->j9 N (TI f n)=some (TI f' w,TI f' w):=by
 unfold j9
 by_cases s:n < 2
 ·exact ⟨f,n,.refl,aH _,fun N _=>by rw [mS,decide_eq_true ad,cond_true]⟩
 ·have key:∀ d k,k+d=n->1<=k->∃ f' w,YM f n f' w/\w<=n/\∀ N fuel,1000 < N->d < fuel->cz N (TI f n) fuel (k:Int)=some (TI f' w,TI f' w):=fun d=>by
   induction d with
   | zero =>
    intro k i b;refine ⟨f,n,.refl,aH _,fun N fuel _ c=>?_⟩;obtain ⟨g,rfl⟩:=bb fuel;simp_all [cz,mS,decide_eq_false,cond_false]
   | succ d j =>
    intro k i b;have l:av ((k:Int) - 1)=((k - 1:Nat):Int):=a0
    have t:∀ N g,cz N (TI f n) (g+1) (k:Int)=cond (f k == f (k - 1)) (b6 N (TI f n) (k:Int) (cz N (TI f n) g) N (TI f n) (k:Int) 1) (cz N (TI f n) g ((k+1:Nat):Int)):=fun N g=>by
     rw [cz,mS,l,ai,ai,decide_eq_true ad,cond_true,if_pos ad,if_pos ad,if_pos ad,if_pos ad,DX f _ (show k < n by omega),DX f _ (show k - 1 < n by omega),aX ad]
    by_cases hq:f k=f (k - 1)
    ·obtain ⟨f'',w',z1,a,m⟩:=T8 (f:=f) h b f (n - (k+1)) 1 k (f':=f) ad (aH _) ad (fun p u=>⟨p,ad,rfl⟩) (fun q v=>by
      grind) fun p _=>rfl
     refine ⟨f'',w',z1,a,fun N fuel e c=>?_⟩;obtain ⟨g,rfl⟩:=bb fuel;grind
    ·obtain ⟨f'',w',z1,a,m⟩:=j (k+1) ad ad;refine ⟨f'',w',z1,a,fun N fuel e c=>?_⟩;obtain ⟨g,rfl⟩:=bb fuel;grind
  obtain ⟨f',w,o,r,x⟩:=key (n - 1) 1 ad (aH _);exact ⟨f',w,o,r,fun N e=>by rw [mS,decide_eq_false ad,cond_false];grind⟩
end
section
variable {l:List af}
abbrev xs (l:List af) (i:Nat):Int:=(sat l i).z9
theorem anQ (b:l.length<=8):∃ f w,YM (xs l) l.length f w/\w<=8/\Gv (fun N=>qc N l) (TI f w):=by
 obtain ⟨c,e,h⟩:=atv (f:=xs l) b;obtain ⟨a,w,j,p,k⟩:=atw (f:=c) (n:=l.length) ad;refine ⟨a,w,e.trans j,ad,.of 2000 fun N q=>?_⟩;have key:∀ d i fuel,i+d=l.length->d < fuel->iL N l fuel (TI (xs l) i) (i:Int)=some (TI a w):=fun d=>by
  induction d with
  | zero =>
   intro i fuel hi m;obtain ⟨g,rfl⟩:=bb fuel;have:i=l.length:=ad;subst this;rw [iL,hT,cond_false,h N ad,db,if_pos (by rw [mS,mS]),k N ad];rfl
  | succ d o =>
   intro i fuel hi m;obtain ⟨g,rfl⟩:=bb fuel;rw [iL,dec_lt ad,cond_true,if_pos (k6 ad),if_pos (by rw [mS];omega),ai,aX ad];have:=o (i+1) g ad ad;rw [show TI (xs l) (i+1)=TI (xs l) i ++ [xs l i] from (vw _ _).symm] at this;exact this
 exact key l.length 0 N (Nat.zero_add _) ad
end
abbrev tr (p:PR):az:=⟨bg p.1,bg p.2⟩
abbrev TR (g:Nat->PR) (n:Nat):List az:=I5 (fun k=>tr (g k)) n
theorem GK (g:Nat->PR) (n:Nat):(TR g n).length=n:=rY _ _
theorem alp (g:Nat->PR) {n i:Nat} (d:az) (h:i < n):(TR g n).getD i d=tr (g i):=Db _ _ h
theorem QH (g:Nat->PR) (n:Nat):TR g n ++ [tr (g n)]=TR g (n+1):=vw (fun k=>tr (g k)) n
def x9 (f:Nat->Int) (w k:Nat):PR:=if k < w then (-(f k:Rat),1) else ((f (k - w):Rat),-1)
def Dir (l:List af) (p:PR):Prop:=p=(1,0)\/∃ i,i < l.length/\(p=(-sx (sat l i),1)\/p=(sx (sat l i),-1))
section
variable {l:List af}
theorem alq (L:LS l) {p:PR} (h:Dir l p):RB p.1 2/\RB p.2 2:=by
 have a:RB 1 2:=RB.one.le ay;rcases h with e | ⟨i,hi,e | e⟩<;>subst e
 ·exact ⟨a,RB.zero.le ay⟩
 ·exact ⟨(L.sb i hi).xb.neg,a⟩
 ·exact ⟨(L.sb i hi).xb,a.neg⟩
theorem aaP {f:Nat->Int} {w:Nat} (h:YM (xs l) l.length f w) {k:Nat} (b:k < w+w):Dir l (x9 f w k):=by
 unfold x9
 by_cases q:k < w
 ·rw [if_pos q];obtain ⟨j,a,e⟩:=h.sub k q;exact .inr ⟨j,a,.inl (by rw [e])⟩
 ·rw [if_neg q];obtain ⟨j,a,e⟩:=h.sub (k - w) ad;exact .inr ⟨j,a,.inr (by rw [e])⟩
theorem aaQ (L:LS l):∃ f w,YM (xs l) l.length f w/\w<=8/\Gv (fun N=>oS N l) (TR (x9 f w) (w+w)):=by
 obtain ⟨f,w,h,o,i⟩:=anQ L.len;refine ⟨f,w,h,o,i.bind ?_⟩;have m:∀ k,k < w->-1000000<=f k/\f k<=1000000:=fun k p=>by
  obtain ⟨j,n,e⟩:=h.sub k p;rw [e];exact ⟨(L.sb j n).xl,(L.sb j n).xh⟩
 have em:bg ((-1:Int):Rat)=bg (-1):=by congr 1
 have r:bg ((1:Int):Rat)=bg 1:=by congr 1
 have second:∀ d j,j+d=w->aq (fun N g=>ik N (TI f w) g (TR (x9 f w) (w+j)) (j:Int)) (TR (x9 f w) (w+w)):=fun d=>by
  induction d with
  | zero =>
   intro j a;have:j=w:=ad;subst this;exact aq.succ (fun N g=>ik.eq_2 ..) (aq.a9 (by rw [mS];exact hT) (.one (Gv.pure _)))
  | succ d b =>
   intro j a;have hb:=m j ad;have:=b (j+1) ad;have c:x9 f w (w+j)=((f j:Rat),-1):=by simp_all [x9,if_neg,Nat.add_sub_cancel_left]
   rw [<- Fq,<- QH,c] at this;refine aq.succ (fun N g=>ik.eq_2 ..) (aq.aN (by rw [mS];exact dec_lt ad) (aq.if (by rw [mS];exact k6 ad) ?_));rw [ai,DX f _ (show j < w by omega),aX ad];refine aq.bind (gJ ⟨ad,ad⟩) (aq.bind (gJ (z:=-1) ⟨ay,ay⟩) (aq.if (by rw [GK];omega) ?_));rw [em];exact this
 have first:∀ d j,j+d=w->aq (fun N g=>il N l (TI f w) g (TR (x9 f w) j) (j:Int)) (TR (x9 f w) (w+w)):=fun d=>by
  induction d with
  | zero =>
   intro j a;have:j=w:=ad;subst this;exact aq.succ (fun N g=>il.eq_2 ..) (aq.a9 (by rw [mS];exact hT) (.one (i.bind (second j 0 (Nat.zero_add _)).diag)))
  | succ d b =>
   intro j a;have hb:=m j ad;have:=b (j+1) ad;have c:x9 f w j=(-(f j:Rat),1):=by unfold x9;rw [if_pos ad]
   rw [<- QH,c] at this;have q:av (0 - f j) = -f j:=a0
   refine aq.succ (fun N g=>il.eq_2 ..) (aq.aN (by rw [mS];exact dec_lt ad) (aq.if (by rw [mS];exact k6 ad) ?_));rw [ai,DX f _ (show j < w by omega),aX ad,q];refine aq.bind (gJ ⟨ad,ad⟩) (aq.bind (gJ (z:=1) ⟨ay,ay⟩) (aq.if (by rw [GK];omega) ?_));simp_all
 exact (first w 0 (Nat.zero_add _)).diag
end
section
variable {b:cW}
open Classical in
theorem aaR (B:BB b):∃ r,Gv (fun N=>oU N b) r/\((r.2=0/\aoP b)\/((r.2=12\/r.2=13)/\∃ p:PR,n4 b p.1 p.2/\Dir (bl b) p)):=by
 have v:bg ((1:Int):Rat)=bg 1:=by congr 1
 have x:bg ((0:Int):Rat)=bg 0:=by congr 1
 have y:RB 1 2:=RB.one.le ay;have w1:=gJ (z:=1) ⟨ay,ay⟩;have w0:=gJ (z:=0) ⟨ay,ay⟩;rw [v] at w1;rw [x] at w0;have s:=T7 B y (RB.zero.le (show 1<=2 by decide)) ay ay
 by_cases h:n4 b 1 0
 ·exact ⟨_,w1.bind (w0.bind (s.bind (Gv.aN (decide_eq_true h) (Gv.pure _)))),.inr ⟨.inl rfl,(1,0),h,.inl rfl⟩⟩
 obtain ⟨f,w,c,J,A⟩:=aaQ B.ls;have key:∀ d k,k+d=w+w->(∀ j,j < k->¬ n4 b (x9 f w j).1 (x9 f w j).2)->∃ r,aq (fun N g=>fC N b (TR (x9 f w) (w+w)) g (k:Int)) r/\((r.2=0/\∀ j,j < w+w->¬ n4 b (x9 f w j).1 (x9 f w j).2)\/((r.2=12\/r.2=13)/\∃ p:PR,n4 b p.1 p.2/\Dir (bl b) p)):=fun d=>by
  induction d with
  | zero =>
   intro k C l;have:k=w+w:=ad;subst this;exact ⟨_,aq.succ (fun N g=>fC.eq_2 ..) (aq.a9 (by rw [GK];exact hT) (.one (Gv.pure _))),.inl ⟨rfl,l⟩⟩
  | succ d D =>
   intro k C l;have a:=aaP c (show k < w+w by omega);obtain ⟨E,F⟩:=alq B.ls a;have G:=T7 B E F ay ay;have pre:∀ {r},aq (fun N g=>cond (decide (n4 b (x9 f w k).1 (x9 f w k).2)) (some (tr (x9 f w k),13)) (fC N b (TR (x9 f w) (w+w)) g ((k+1:Nat):Int))) r->aq (fun N g=>fC N b (TR (x9 f w) (w+w)) g (k:Int)) r:=fun {r} H=>by
    refine aq.succ (fun N g=>fC.eq_2 ..) (aq.aN (by rw [GK];exact dec_lt ad) (aq.if (by rw [GK];exact k6 ad) ?_));rw [ai,alp _ _ (show k < w+w by omega),aX ad];exact aq.bind G H
   by_cases q:n4 b (x9 f w k).1 (x9 f w k).2
   ·exact ⟨_,pre (aq.aN (decide_eq_true q) (.one (Gv.pure _))),.inr ⟨.inr rfl,_,q,a⟩⟩
   ·obtain ⟨r,m,n⟩:=D (k+1) ad fun j I=>by
     by_cases e:j=k
     ·subst e;exact q
     ·exact l j ad
    exact ⟨r,pre (aq.a9 (decide_eq_false q) m),n⟩
 obtain ⟨r,m,n⟩:=key (w+w) 0 (Nat.zero_add _) fun j I=>ad;refine ⟨r,w1.bind (w0.bind (s.bind (Gv.a9 (decide_eq_false h) (A.bind m.diag)))),?_⟩;rcases n with ⟨o,t⟩ | o
 ·refine .inl ⟨o,h,fun i hi q=>?_,fun i hi q=>?_⟩
  ·obtain ⟨k,u,e⟩:=c.all i hi;refine t k ad ?_;unfold x9;rw [if_pos u,e];exact q
  ·obtain ⟨k,u,e⟩:=c.all i hi;refine t (w+k) ad ?_;unfold x9;rw [if_neg ad,Nat.add_sub_cancel_left,e];exact q
 ·exact .inr o
theorem adg (B:BB b) (c:Gv (fun N=>gR N b) 0):(∃ h t,EqR b h t/\Gv (fun N=>mJ N b) (LQ (fI (bl b) h t) (bl b).length,0))\/∃ e:Int,(e=12\/e=13)/\Gv (fun N=>mJ N b) ([],e)/\∃ p:PR,n4 b p.1 p.2/\Dir (bl b) p:=by
 obtain ⟨r,d,f⟩:=aaR B;rcases f with ⟨e,g⟩ | ⟨e,i⟩
 ·obtain ⟨h,t,a,j⟩:=M8 B g;have k:=YB B.ls a.hb a.tb ay ay;exact .inl ⟨h,t,a,c.bind (Gv.a9 rfl (d.bind (Gv.a9 (by rw [e];rfl) (j.bind (k.bind (Gv.pure _))))))⟩
 ·exact .inr ⟨r.2,e,c.bind (Gv.a9 rfl (d.bind (Gv.aN (by rcases e with e | e<;>rw [e]<;>rfl) (Gv.pure _)))),i⟩
theorem anR (B:BB b) {h t:Rat} {m:Nat} (u:RB h m) (v:RB t m) (w:1<=m) (hm:m<=1000000000) {p:PR} (f:RB p.1 2/\RB p.2 2) (C:∀ i,i < (bl b).length->rSl (sat (bl b) i) (su (sat (bl b) i) h t)≠0/\lSl (sat (bl b) i) (su (sat (bl b) i) h t)≠0) (D:∃ i,i < (bl b).length/\Fo p.1 p.2 (sat (bl b) i)≠0) :
  Gv (fun N=>sy N b (aQ h t) (tr p)) false:=by
 have K:(bl b).length<=8:=B.ls.len;have key:∀ d k,k+d=(bl b).length->(∃ i,k<=i/\i < (bl b).length/\Fo p.1 p.2 (sat (bl b) i)≠0)->aq (fun N g=>g7 N b (aQ h t) (tr p) g (k:Int)) false:=fun d=>by
  induction d with
  | zero=>omega
  | succ d E =>
   intro k L l;have j:k < (bl b).length:=ad;have s:=B.ls.sb k j;obtain ⟨F,G⟩:=C k j;have x:=f.2.mul s.xb;have H:=f.1.add x;refine aq.go j (fun N g=>g7.eq_2 ..) (aq.if (k6 j) ?_);rw [ai,aX ad];refine aq.bind (gJ s.i64) (aq.bind ((f.2.rq ay).mul (s.xb.rq ay) ay) (aq.bind ((f.1.rq ay).add (x.rq ay) ay) (aq.bind (M4 (H.rq ay) ay) ?_)));show aq (fun N g=>cond (decide (oE (Fo p.1 p.2 (sat (bl b) k)) > 0)) _ _) false;rcases Int.lt_trichotomy (oE (Fo p.1 p.2 (sat (bl b) k))) 0 with q | q | q
   ·have a:decide (oE (Fo p.1 p.2 (sat (bl b) k)) > 0)=false:=decide_eq_false ad;have c:decide (oE (Fo p.1 p.2 (sat (bl b) k)) < 0)=true:=decide_eq_true q;obtain ⟨r,I,J⟩:=aoK s u v w hm;have n:(oE (lSl (sat (bl b) k) (su (sat (bl b) k) h t)) != 0)=true:=by simpa using fun z=>G (vt.1 z)
    refine aq.a9 a (aq.aN (by rw [a,c];rfl) (aq.bind (r:=aQ h t) (Gv.pure _) (aq.bind J (aq.bind (M4 I ay) (aq.aN ?_ (.one (Gv.pure _)))))));simp_all
   ·have a:decide (oE (Fo p.1 p.2 (sat (bl b) k)) > 0)=false:=decide_eq_false ad;have c:decide (oE (Fo p.1 p.2 (sat (bl b) k)) < 0)=false:=decide_eq_false ad;refine aq.a9 a (aq.a9 (by rw [a,c];rfl) (aq.a9 (by rw [a,c];rfl) (E (k+1) ad ?_)));obtain ⟨i,y,o,A⟩:=l;refine ⟨i,?_,o,A⟩
    by_cases e:i=k
    ·subst e;exact absurd (vt.1 q) A
    ·omega
   ·have a:decide (oE (Fo p.1 p.2 (sat (bl b) k)) > 0)=true:=decide_eq_true q;have c:decide (oE (Fo p.1 p.2 (sat (bl b) k)) < 0)=false:=decide_eq_false ad;have n:(oE (rSl (sat (bl b) k) (su (sat (bl b) k) h t)) != 0)=true:=by simpa using fun z=>F (vt.1 z)
    refine aq.aN a (aq.bind (r:=aQ h t) (Gv.pure _) (aq.bind (akS s u v w hm) (aq.bind (M4 ((YE s _).rq ay) ay) ?_)));show aq (fun N g=>cond ((!(cond (decide (oE (Fo p.1 p.2 (sat (bl b) k)) > 0)) (oE (rSl (sat (bl b) k) (su (sat (bl b) k) h t)) != 0) false)) && _) _ _) false;refine aq.a9 (by rw [a,n];rfl) (aq.aN (by rw [a,n];rfl) (.one (Gv.pure _)))
 obtain ⟨i,y,o⟩:=D;exact (key (bl b).length 0 (Nat.zero_add _) ⟨i,Nat.zero_le _,y,o⟩).diag
theorem alr (B:BB b) {h t:Rat} {m:Nat} (s:RB h m) (u:RB t m) (v:1<=m) (hm:m<=1000000000) (x:∀ i,i < (bl b).length->rSl (sat (bl b) i) (su (sat (bl b) i) h t)≠0/\lSl (sat (bl b) i) (su (sat (bl b) i) h t)≠0)
  (y:∀ p:PR,(Dir (bl b) p\/p=(-1,0))->∃ i,i < (bl b).length/\Fo p.1 p.2 (sat (bl b) i)≠0):Gv (fun N=>uw N b (aQ h t)) false:=by
 obtain ⟨f,w,H,I,A⟩:=aaQ B.ls;have C:bg ((1:Int):Rat)=bg 1:=by congr 1
 have D:bg ((0:Int):Rat)=bg 0:=by congr 1
 have em:bg ((-1:Int):Rat)=bg (-1):=by congr 1
 have w1:=gJ (z:=1) ⟨ay,ay⟩;have w0:=gJ (z:=0) ⟨ay,ay⟩;have l:=gJ (z:=-1) ⟨ay,ay⟩;rw [C] at w1;rw [D] at w0;rw [em] at l;obtain ⟨g,E⟩:∃ g:Nat->PR,g=fun k=>if k < w+w then x9 f w k else if k=w+w then (1,0) else (-1,0):=⟨_,rfl⟩
 have el:TR (x9 f w) (w+w) ++ [tr (1,0),tr (-1,0)]=TR g (w+w+1+1):=by
  rw [<- QH,<- QH,AX];have c:TR (x9 f w) (w+w)=TR g (w+w):=q9 fun i hi=>by simp_all
  have d:g (w+w)=(1,0):=by simp_all
  have F:g (w+w+1)=(-1,0):=by grind
  rw [c,d,F];rfl
 have o:∀ k,k < w+w+1+1->Dir (bl b) (g k)\/g k=(-1,0):=fun k a=>by
  rw [E]
  by_cases c:k < w+w
  ·simp_all [if_pos,inl,aaP]
  ·by_cases d:k=w+w
   ·simp only [if_neg c,if_pos d];exact .inl (.inl rfl)
   grind
 have G:∀ k,k < w+w+1+1->Gv (fun N=>sy N b (aQ h t) (tr (g k))) false:=fun k a=>by
  refine anR B s u v hm ?_ x (y _ (o k a));rcases o k a with q | q
  ·exact alq B.ls q
  ·rw [q];exact ⟨(RB.one.le ay).neg,RB.zero.le ay⟩
 have key:aq (fun N e=>bB N (TR g (w+w+1+1)) b (aQ h t) e 0) (-1):=by
  refine aq.rounds (L:=fun N e i=>bB N (TR g (w+w+1+1)) b (aQ h t) e i) (n:=w+w+1+1) (fun k a j=>?_) (aq.succ (fun N g=>bB.eq_2 ..) (aq.a9 (by rw [GK];exact hT) (.one (Gv.pure _))));refine aq.succ (fun N g=>bB.eq_2 ..) (aq.aN (by rw [GK];exact dec_lt ad) (aq.if (by rw [GK];exact k6 ad) ?_));rw [ai,alp _ _ a,aX ad];exact aq.bind (r:=false) ((G k a).bind (Gv.pure _)) (aq.a9 rfl j)
 refine A.bind (w1.bind (w0.bind (l.bind (w0.bind (Gv.if (by rw [GK];omega) ?_)))));show Gv (fun N=>(fq N (TR (x9 f w) (w+w) ++ [tr (1,0),tr (-1,0)]) b (aQ h t)).bind fun r=>some r) false;rw [el];have hi:Gv (fun N=>fS N (TR g (w+w+1+1)) b (aQ h t)) (-1):=key.diag;exact Gv.bind (r:=false) (hi.bind (Gv.pure _)) (Gv.pure _)
end
theorem als {f:Nat->Int} {n:Nat} (c:n<=1000) (a:∀ i,i < n->I64 (f i)):Gv (fun N=>KD N (TI f n)) (LQ (fun i=>(f i:Rat)) n):=by
 have key:∀ d i,i+d=n->aq (fun N g=>wv N (TI f n) g (LQ (fun i=>(f i:Rat)) i) (i:Int)) (LQ (fun i=>(f i:Rat)) n):=fun d=>by
  induction d with
  | zero =>
   intro i hi;have:i=n:=ad;subst this;exact aq.succ (fun N g=>wv.eq_2 ..) (aq.a9 (by rw [mS];exact hT) (.one (Gv.pure _)))
  | succ d b =>
   intro i hi;refine aq.succ (fun N g=>wv.eq_2 ..) (aq.aN (by rw [mS];exact dec_lt ad) (aq.if (by rw [mS];exact k6 ad) ?_));rw [ai,DX f _ (show i < n by omega),aX ad];refine aq.bind (Hx (a i ad).1 (a i ad).2) (aq.if (by rw [cM];omega) ?_);rw [GI (fun i=>(f i:Rat))];exact b (i+1) ad
 exact (key n 0 (Nat.zero_add _)).diag
theorem alu {f:Nat->Rat} {n m:Nat} (b:n<=1000) (a:∀ i,i < n->RB (f i) m) (hm:SM m):Gv (fun N=>Ba N (LQ f n) (LQ f n)) true:=by
 have key:aq (fun N g=>kj N (LQ f n) (LQ f n) g 0) true:=by
  refine aq.rounds (L:=fun N g i=>kj N (LQ f n) (LQ f n) g i) (n:=n) (fun i hi h=>?_) (aq.succ (fun N g=>kj.eq_2 ..) (aq.a9 (by rw [cM];exact hT) (.one (Gv.pure _))));refine aq.succ (fun N g=>kj.eq_2 ..) (aq.aN (by rw [cM];exact dec_lt hi) (aq.if (by rw [cM];exact k6 hi) (aq.if (by rw [cM];exact k6 hi) ?_)));rw [ai,lL _ _ hi,aX ad];exact aq.bind (aj5 (a i hi) hm) (aq.a9 rfl h)
 exact Gv.a9 aD key.diag
def cu2:cO:=⟨[0],[bg 2]⟩
def UT (x:Int):af:=⟨x,x7,cu2⟩
def two:cW:=⟨40,bg 25,[UT 0,UT 100]⟩
theorem alv:CB cu2 3 where
 one:=ay
 len:=ay
 UO:=ay
 ir:=fun i=>by
  match i with
  | 0=>exact ((Yl (k:=2) ay).le ay).ir
  | i+1=>exact ird
theorem aaS:cq cu2 0=2:=me 2
theorem aaT:nm cu2=0:=by
 have a:oD cu2 0=none:=by unfold oD;rw [aaS];rfl
 show scan (oD cu2) 0 1 0=0;rw [scan,a];rfl
theorem alw (x:Int):Sh (UT x):=⟨ird,by show (1:Nat)<=4;decide,alv⟩
theorem YN {x:Int} (h:okX x):OkS (UT x):=⟨h,by
 show okQ (qv x7) 10000000;rw [QC.v];grind,aaT⟩
theorem YO {P:af->Prop} (a:P (UT 0)) (b:P (UT 100)):∀ i,i < two.ag.length->P (sat two.ag i):=fun i hi=>by
 have hi:i < 2:=hi;have:i=0\/i=1:=ad;rcases this with e | e<;>subst e
 ·exact a
 ·exact b
theorem aq4:BB two/\Gv (fun N=>gR N two) 0 :=
 ae3 (show 2<=8 by decide) ((Yl (k:=25) ay).le (show 1<=3 by decide)).ir (YO (alw 0) (alw 100)) ⟨⟨ay,ay⟩,by
  show okQ (qv (bg 25)) 1000000;rw [me];exact ⟨by decide +kernel,by decide +kernel⟩,YO (YN ⟨ay,ay⟩) (YN ⟨ay,ay⟩)⟩
theorem ae5 (x:Int):¬ QG (UT x):=fun h=>by
 rcases h with h | h
 ·cases h
 ·have:cq cu2 0=0:=h;rw [aaS] at this;exact absurd this ay
theorem alx {x:Int} (h:okX x) (u:Rat):sf (UT x) u=2 * ps u:=by
 have b:SB (UT x):=⟨h.1,h.2,ird,(YN h).c.1,(YN h).c.2,alv,aaT,by show (1:Nat)<=4;decide⟩;rw [Fj b];show 0+dd (sS (UT x)) 0 * ps (u - sT (UT x) 0)=_;have a:dd (sS (UT x)) 0=2:=aaS;have c:sT (UT x) 0=0:=rfl;grind
theorem GL {x:Int} {u:Rat} (a:0 < u):rSl (UT x) u=2/\lSl (UT x) u=2:=by
 have b:ct cu2 0=0:=rfl;constructor
 ·show sl (ct cu2) (cq cu2) u 1 0 0=2;simp_all [sl,if_pos,Rat.le_of_lt,aaS]
 ·show (if ct cu2 0 < u then cq cu2 0 else 0)=2;simp_all [if_pos,aaS]
theorem YP:sx (sat (bl two) 0)=0:=rfl
theorem YQ:sx (sat (bl two) 1)=100:=rfl
theorem ags {p:PR} (h:n4 two p.1 p.2):¬ Dir (bl two) p:=fun k=>by
 have a:=h.QG 0 (show 0 < 2 by decide);have b:=h.QG 1 (show 1 < 2 by decide);have c:=h.lt;have n0:¬ 0 < p.1+p.2 * 0:=fun q=>ae5 0 (a (by show 0 < p.1+p.2 * sx (sat (bl two) 0);rw [YP];exact q));have l:¬ 0 < p.1+p.2 * 100:=fun q=>ae5 100 (b (by show 0 < p.1+p.2 * sx (sat (bl two) 1);rw [YQ];exact q));have d:yld (bl two) p.1 p.2=0:=(bc (n:=2) (g:=fun _=>0) fun i hi=>by
  have:i=0\/i=1:=ad;rcases this with e | e<;>subst e
  ·refine if_pos ?_;show p.1+p.2 * sx (sat (bl two) 0)<=0;rw [YP];grind
  ·refine if_pos ?_;show p.1+p.2 * sx (sat (bl two) 1)<=0;rw [YQ];grind).trans (kL 2)
 have f:bA two=25:=me 25;have j:bW two=40:=rfl;rw [d,f,j] at c;grind
theorem adh {h t:Rat} (hb:Bal two h t):fI (bl two) h t 0=30/\fI (bl two) h t 1=10:=by
 have d:0+fI (bl two) h t 0+fI (bl two) h t 1=bW two:=hb.1;have a:(0+fI (bl two) h t 0 * sx (sat (bl two) 0)+fI (bl two) h t 1 * sx (sat (bl two) 1)) - bW two * bA two=0:=hb.2;have b:bA two=25:=me 25;have c:bW two=40:=rfl;rw [b,c,YP,YQ] at a;grind
theorem aly {x:Rat} (h:0 < ps x):0 < x:=Rat.not_le.1 fun q=>by rw [Hd q] at h;exact Rat.lt_irrefl h
theorem UU:Gv (fun N=>lO N) true:=by
 obtain ⟨B,j⟩:=aq4;obtain ⟨r,l,o⟩:=aaR B;rcases o with ⟨e,q⟩ | ⟨_,p,u,p2⟩
 case inr=>exact absurd p2 (ags u)
 obtain ⟨h,t,a,v⟩:=M8 B q;have w:=YB B.ls a.hb a.tb ay ay;obtain ⟨f0,b⟩:=adh a.bal;have c:0 < su (UT 0) h t:=aly (by
  have:sf (UT 0) (su (UT 0) h t)=30:=f0;rw [alx ⟨ay,ay⟩] at this;grind)
 have d:0 < su (UT 100) h t:=aly (by
  have:sf (UT 100) (su (UT 100) h t)=10:=b;rw [alx ⟨ay,ay⟩] at this;grind)
 have x:=alr B a.hb a.tb ay ay (YO (P:=fun s=>rSl s (su s h t)≠0/\lSl s (su s h t)≠0) (by rw [(GL c).1,(GL c).2];exact ⟨ay,ay⟩) (by rw [(GL d).1,(GL d).2];exact ⟨ay,ay⟩)) fun p y=>by
  -- one of two places turns
  by_cases z:Fo p.1 p.2 (sat (bl two) 0)=0
  ·refine ⟨1,show 1 < 2 by decide,fun z1=>?_⟩;have z:p.1+p.2 * sx (sat (bl two) 0)=0:=z;have z1:p.1+p.2 * sx (sat (bl two) 1)=0:=z1;rw [YP] at z;rw [YQ] at z1;have D:p.1=0:=by grind
   have E:p.2=0:=by grind
   rcases y with (e | ⟨i,_,e | e⟩) | e<;>subst e
   ·simp_all
   ·simp_all
   ·grind
   grind
  grind
 have g:Gv (fun N=>ux N two) (⟨aQ h t,LQ (fI (bl two) h t) 2⟩,⟨x7,x7⟩,0) :=
  j.bind (Gv.a9 rfl (l.bind (Gv.a9 (by rw [e];rfl) (v.bind (x.bind (Gv.a9 rfl (w.bind (Gv.pure _))))))))
 have A:∀ i,i < 2->fI (bl two) h t i=(((if i=0 then 30 else 10:Int)):Rat):=fun i hi=>by
  have:i=0\/i=1:=ad;rcases this with e | e<;>subst e
  ·exact f0
  ·exact b
 rw [x8 A] at g;have w2:Gv (fun N=>KD N [2]) [bg 2]:=als (f:=fun _=>2) (n:=1) ay fun _ _=>⟨ay,ay⟩;have C:Gv (fun N=>KD N [30,10]) (LQ (fun i=>(((if i=0 then 30 else 10:Int)):Rat)) 2):=als (f:=fun i=>if i=0 then 30 else 10) (n:=2) ay fun i _=>by
  show I64 (if i=0 then 30 else 10);split<;>exact ⟨ay,ay⟩
 have same:=alu (f:=fun i=>(((if i=0 then 30 else 10:Int)):Rat)) (n:=2) (m:=1) ay (fun i _=>by
  show RB (((if i=0 then 30 else 10:Int)):Rat) 1;split
  ·exact Yl (k:=30) ay
  ·exact Yl (k:=10) ay) ay
 exact w2.bind ((Hx (z:=25) ay ay).bind (g.bind (Gv.aN rfl (C.bind (same.bind (Gv.pure _))))))
abbrev AR:=(Nat->Rat)×Rat
abbrev mkR (n:Nat) (a:AR):bw:=⟨LQ a.1 n,bg a.2⟩
abbrev TW (n:Nat) (a:Nat->AR) (m:Nat):List bw:=I5 (fun r=>mkR n (a r)) m
section
variable {n m:Nat} {a:Nat->AR}
theorem s7:(TW n a m).length=m:=rY _ _
theorem Pb {r:Nat} (h:r < m) (d:bw):(TW n a m).getD r d=mkR n (a r):=Db _ _ h
theorem Wc {r j:Nat} (b:r < m) (c:j < n):cf (TW n a m) r j=(a r).1 j:=by
 unfold cf;rw [Pb b,lL _ _ c,me]
theorem We {r:Nat} (b:r < m):bv (TW n a m) r=(a r).2:=by
 unfold bv;rw [Pb b,me]
def AG (n:Nat) (a:AR):Prop:=(∀ j,j < n->RB (a.1 j) 100)/\RB a.2 100
theorem aoW (h:∀ r,r < m->AG n (a r)):M3 (TW n a m):=by
 refine ⟨fun i j=>⟨?_,rfl,ay⟩,fun i=>⟨?_,rfl,ay⟩⟩
 ·by_cases hi:i < m
  ·rw [Pb hi]
   by_cases b:j < n
   ·rw [lL _ _ b];exact ((h i hi).1 j b).ir
   ·rw [MV (by rw [cM];omega)];exact ird
  simp_all [TP,s7,MV,bw.d,Nat.zero_le,ird]
 ·by_cases hi:i < m
  ·rw [Pb hi];exact (h i hi).2.ir
  ·rw [TP (by rw [s7];omega)];exact ird
theorem aoX (r:Nat):((TW n a m).getD r bw.d).fx.length<=n:=by
 by_cases hi:r < m
 ·rw [Pb hi,cM];exact aH _
 ·rw [TP (by rw [s7];omega)];exact Nat.zero_le _
theorem atx (h:∀ r,r < m->AG n (a r)) (b:n<=12) (hm:m<=40):Fh (TW n a m):=by
 have q:=aoW h;exact ⟨by rw [s7];omega,fun i=>⟨gf (aoX i) ad,fun j=>(q.co i j).1,(q.bo i).1⟩⟩
theorem T9 {R:List bw} (h:∀ r,(R.getD r bw.d).fx.length<=n):∀ k i,zh R n k i=false
 | 0,_=>rfl
 | k+1,i=>by
  rw [zh,if_neg,T9 h k (i+1)];have:=h i;unfold Dd;omega
theorem YR (b:n<=12) (hm:m<=40):ql n (TW n a m)=0:=by
 unfold ql;rw [if_neg ad,if_neg (by rw [s7];omega),T9 aoX];rfl
theorem alz {c x:List ab}:∀ (k i:Nat) (a:Rat),dF c x k i a+aV i (fun j=>qv (c.getD j ab.d) * qv (x.getD j ab.d))=a+aV (i+k) fun j=>qv (c.getD j ab.d) * qv (x.getD j ab.d)
 | 0,i,a=>rfl
 | k+1,i,a=>by
  rw [dF];have:=alz k (i+1) (a+qv (c.getD i ab.d) * qv (x.getD i ab.d)) (c:=c) (x:=x);rw [show i+1+k=i+(k+1) by omega,show aV (i+1) (fun j=>qv (c.getD j ab.d) * qv (x.getD j ab.d))=aV i (fun j=>qv (c.getD j ab.d) * qv (x.getD j ab.d))+qv (c.getD i ab.d) * qv (x.getD i ab.d) from rfl] at this;grind
theorem aq5 (f x:Nat->Rat):akA (LQ f n) (LQ x n)=aV n fun j=>f j * x j:=by
 have:=alz (c:=LQ f n) (x:=LQ x n) n 0 0;unfold akA;rw [cM];rw [Nat.zero_add,bc (n:=n) (g:=fun j=>f j * x j) fun j a=>by rw [lL _ _ a,lL _ _ a,me,me]] at this;have e:aV 0 (fun j=>qv ((LQ f n).getD j ab.d) * qv ((LQ x n).getD j ab.d))=0:=rfl;rw [e] at this;grind
theorem Wf {l:List bw} {x:List ab}:∀ {k i:Nat},(∀ a,i<=a->a < i+k->¬ LI l x a)->I6 l x k i=false
 | 0,_,_=>rfl
 | k+1,i,h=>by
  rw [I6,if_neg (h i (aH _) ad)];exact Wf fun a b c=>h a ad ad
theorem alA (c:n<=12) (hm:m<=40) {x:Nat->Rat} (h:∀ r,r < m->aV n (fun j=>(a r).1 j * x j)<=(a r).2):JL (TW n a m) (LQ x n)=0:=by
 unfold JL;rw [cM,YR c hm,if_neg ay,Wf fun r _ b=>?_];rfl;have b:r < m:=by simp_all [s7]
 unfold LI;rw [Pb b,aq5,me];have:=h r b;grind
theorem alB {f:Nat->Rat} {k i:Nat} (h:i < k):yv (LQ f k) i=f i:=by unfold yv;rw [lL _ _ h,me]
theorem ae6 {l:List bw} {y:List ab} (j:Nat):∀ m,cS l y j m=aV m fun i=>yv y i * cf l i j
 | 0=>rfl
 | m+1=>by rw [cS,aV,ae6 j m]
theorem ae7 {l:List bw} {y:List ab}:∀ m,bS l y m=aV m fun i=>yv y i * bv l i
 | 0=>rfl
 | m+1=>by rw [bS,aV,ae7 m]
theorem Wg {y:List ab}:∀ {k i:Nat},(∀ a,i<=a->a < i+k->0<=yv y a)->GG y k i=false
 | 0,_,_=>rfl
 | k+1,i,h=>by
  rw [GG,if_neg (Rat.not_lt.2 (h i (aH _) ad))];exact Wg fun a b c=>h a ad ad
theorem aaU {f:Nat->Rat}:∀ {k i:Nat},(∀ a,i<=a->a < i+k->f a=0)->PA f k i=false
 | 0,_,_=>rfl
 | k+1,i,h=>by
  rw [PA,if_pos (h i (aH _) ad)];exact aaU fun a b c=>h a ad ad
theorem agt (d:n<=12) (hm:m<=40) {q:Nat} {y:Nat->Rat} (h:aeK q n (TW n a m) y):GH n (TW n a m) (LQ y m)=0:=by
 have e:∀ l:Nat->Rat,aV m (fun i=>yv (LQ y m) i * l i)=aV m fun i=>y i * l i:=fun l=>bc fun i hi=>by rw [alB hi]
 have b:=h.nn;have f:=h.col;have c:=h.neg;rw [s7] at b f c;unfold GH contra;rw [YR d hm,if_neg ay,if_neg (by rw [cM,s7];simp),ai,cM,s7,ae7,e,
  Wg fun i _ hi=>by rw [alB ad];exact b i ad,decide_eq_true c,aaU fun j _ g=>by simp_all [ae6]]
 rfl
end
section
variable {s:af}
theorem alC (b:SB s):∀ i,i < sN s->RB (fs (sT s) (sS s) i) (1+13 * i)
 | 0,_=>RB.zero
 | i+1,h=>by
  rw [fs];exact ((alC b i ad).add ((b.cv.rq i).rb.mul ((Hf b h).sub (Hf b (show i < sN s by omega))))).le ad
theorem alD (b:SB s):RB (uc s) 60:=by
 unfold uc;have c:sN s<=4:=b.four
 by_cases a:sN s=0
 ·rw [if_pos a];exact RB.zero.le ay
 ·rw [if_neg a];exact (alC b (sN s - 1) ad).le ad
theorem alE {t s:Nat->Rat} {n:Nat} (y:Rat):∀ (k i:Nat),aV i (fun j=>s j * pc t n j y)+vs t s n k i y=aV (i+k) fun j=>s j * pc t n j y
 | 0,i=>by show _+0=aV i _;grind
 | k+1,i=>by
  rw [vs,show i+(k+1)=i+1+k by omega,<- alE y k (i+1)];have e:aV (i+1) (fun j=>s j * pc t n j y)=aV i (fun j=>s j * pc t n j y)+s i * pc t n i y:=rfl;rw [e];grind
theorem alF (b:SB s) {y:Rat} {m:Nat} (c:RB y m) (d:4<=m) {i:Nat} (hi:i < sN s):RB (Fe (sT s) (sN s) i y) m/\RB (pc (sT s) (sN s) i y) (m+5):=by
 have a:RB (Fe (sT s) (sN s) i y) m:=by
  unfold Fe;split
  case isTrue q=>exact (Hf b q.1).le d
  case isFalse=>exact c
 refine ⟨a,?_⟩;unfold pc;split
 ·exact RB.zero.le ad
 ·exact a.sub (Hf b hi)
theorem ae8 {c:cO} (a:uJ c) {i:Nat} (hi:i < cn c):Gv (fun N=>sm N (c.ah.getD i 0)) (bg (ct c i)):=by
 have:=a.bnd hi;exact Hx (z:=cs c i) ad ad
theorem aaV {x:ab} {p:Rat} {m:Nat} (a:RQ x p m) (hm:LM (4 * (m+1+1)+30)):Gv (fun N=>BV N x) (oE p):=by
 have w0:=Hx (z:=0) ay ay;exact w0.bind (((a.anj (RB.zero.rq ay) hm).eq (by grind)).Fi)
theorem Wh (b:SB s) {y:Rat} {m:Nat} (v:RB y m) (w:4<=m) (hm:m<=1000000):∀ (k i:Nat),i+k=sN s->aq (fun N g=>iY N s.aY (bg y) g (bg (aV i fun j=>sS s j * pc (sT s) (sN s) j y)) (i:Int)) (bg (sf s y))
 | 0,i,hi=>by
  have:i=sN s:=ad;subst this;have e:=alE (t:=sT s) (s:=sS s) (n:=sN s) y (sN s) 0;have A:aV 0 (fun j=>sS s j * pc (sT s) (sN s) j y)=0:=rfl;rw [Nat.zero_add,A] at e;rw [<- e,show (0:Rat)+vs (sT s) (sS s) (sN s) (sN s) 0 y=sf s y by show 0+sf s y=_;grind];exact aq.stop (fun N g=>iY.eq_2 ..) (.one (Gv.pure _))
 | k+1,i,hi=>by
  have l:i < sN s:=ad;have B:sN s<=4:=b.four;have x:i < s.aY.ah.length:=l;have o:s.aY.aA.length=s.aY.ah.length:=b.right.UO;obtain ⟨r,d⟩:=alF b v w l;have z:=Wh b v w hm k (i+1) ad;have e:aV (i+1) (fun j=>sS s j * pc (sT s) (sN s) j y)=aV i (fun j=>sS s j * pc (sT s) (sN s) j y)+sS s i * pc (sT s) (sN s) i y:=rfl;have rs:RB (aV i fun j=>sS s j * pc (sT s) (sN s) j y) (4 * m+100):=by
   refine (cE.we (p:=m+8) fun j D=>((b.cv.rq j).rb.mul (alF b v w (show j < sN s by omega)).2).le ad).le ?_;have:=dU (m+8+1) (show i<=4 by omega);omega
  have rt:=(b.cv.rq i).rb.mul d;have ex:av ((i:Int)+1)=((i+1:Nat):Int):=aX ad;have C:∀ N g q,qU N s.aY (bg y) (i:Int) (iY N s.aY (bg y) g) q=iY N s.aY (bg y) g q ((i+1:Nat):Int):=fun N g q=>by rw [qU,ex]
  have f:aq (fun N g=>tQ N s.aY (bg y) (bg (aV i fun j=>sS s j * pc (sT s) (sN s) j y)) (i:Int) (iY N s.aY (bg y) g) (bg (Fe (sT s) (sN s) i y))) (bg (sf s y)):=by
   have rd:=r.sub (Hf b l);refine aq.if (k6 x) (aq.bind (ae8 b.right l) (aq.bind ((((r.rq ad).ani ((Hf b l).rq ay) aL).Fi)) (aq.bind (aaV (rd.rq ad) aL) ?_)));rw [mO];simp only [C]
   by_cases hq:0 < Fe (sT s) (sN s) i y - sT s i
   ·have a:pc (sT s) (sN s) i y=Fe (sT s) (sN s) i y - sT s i:=by unfold pc;rw [if_neg (by grind)]
    rw [a] at rt d e;rw [e] at z;refine aq.aN (decide_eq_true hq) (aq.if (by rw [o];exact k6 x) ?_);rw [ai];refine aq.bind (((b.cv.rq i).aak (d.rq ad) aL).Fi) (aq.bind (((rs.rq ad).anf (rt.rq ad) aL).Fi) ?_);exact z
   ·have a:pc (sT s) (sN s) i y=0:=by unfold pc;rw [if_pos (by grind)]
    grind
  refine aq.go x (fun N g=>iY.eq_2 ..) ?_;rw [ex]
  by_cases h:i+1 < sN s
  ·have u:i+1 < s.aY.ah.length:=h;have c:decide (((i+1:Nat):Int) < (s.aY.ah.length:Int))=true:=decide_eq_true ad;refine aq.if (fun _=>k6 u) (aq.bind (Gv.aN c (ae8 b.right h)) (aq.bind (Gv.aN c ((v.rq ad).anj ((Hf b h).rq ay) aL)) ?_));rw [mO,c,cond_true]
   by_cases hq:0 < y - sT s (i+1)
   ·have a:Fe (sT s) (sN s) i y=sT s (i+1):=by unfold Fe;grind
    rw [a] at f;exact aq.aN (decide_eq_true hq) (aq.if (k6 u) (aq.bind (ae8 b.right h) f))
   ·have a:Fe (sT s) (sN s) i y=y:=by unfold Fe;grind
    rw [a] at f;exact aq.a9 (decide_eq_false hq) f
  ·have c:decide (((i+1:Nat):Int) < (s.aY.ah.length:Int))=false:=decide_eq_false (by have:¬ i+1 < s.aY.ah.length:=h;omega);have a:Fe (sT s) (sN s) i y=y:=by unfold Fe;rw [if_neg fun q=>h q.1]
   rw [a] at f;refine aq.if (fun q=>by rw [c] at q;cases q) (aq.bind (Gv.a9 c (Gv.pure _)) (aq.bind (Gv.a9 c (Gv.pure _)) (aq.a9 (by rw [c];rfl) f)))
theorem anS (b:SB s):∃ r,Gv (fun N=>BW N s.aY) r/\((QG s/\r=(bg (uc s),true))\/(¬ QG s/\r.2=false)):=by
 unfold BW
 by_cases a:sN s=0
 ·have e:uc s=0:=if_pos a;refine ⟨_,Gv.aN (by simp_all) ((Hx (z:=0) ay ay).bind (Gv.pure _)),.inl ⟨.inl a,?_⟩⟩;rw [e];rfl
 ·have g:sN s<=4:=b.four;have f:sN s - 1 < sN s:=ad;have c:sN s - 1 < s.aY.ah.length:=f;have d:s.aY.aA.length=s.aY.ah.length:=b.right.UO;have i:av ((s.aY.ah.length:Int) - 1)=((sN s - 1:Nat):Int):=by
   have:sN s=s.aY.ah.length:=rfl;rw [bD ad ad];omega
  have j:uc s=fs (sT s) (sS s) (sN s - 1):=if_neg a;have k:sf s (sT s (sN s - 1))=uc s:=by rw [j];exact aoB b.right.up f
  have l:Gv (fun N=>CQ N s.aY (bg (sT s (sN s - 1)))) (bg (uc s)):=by
   rw [<- k];exact (Hx (z:=0) ay ay).bind (Wh b (Hf b f) ay ay (sN s) 0 (Nat.zero_add _)).diag
  rw [i];refine ⟨(bg (uc s),oE (sS s (sN s - 1)) == 0),Gv.a9 (by simpa using a) (Gv.if (k6 c) ((ae8 b.right f).bind (l.bind (Gv.if (by rw [d];exact k6 c) ((aaV (b.cv.rq (sN s - 1)) ay).bind (Gv.pure _)))))),?_⟩
  by_cases q:sS s (sN s - 1)=0
  ·exact .inl ⟨.inr q,by rw [q];rfl⟩
  ·refine .inr ⟨fun h=>?_,beq_eq_false_iff_ne.2 fun z=>q (vt.1 z)⟩;rcases h with h | h
   ·exact a h
   ·exact q h
end
abbrev rw1 (l:List af) (k:Nat×Bool):AR:=(fun j=>if j=k.1 then cond k.2 1 (-1) else 0,cond k.2 (uc (sat l k.1)) 0)
def rw4 (b:cW):Nat->AR
 | 0=>(fun _=>1,bW b)
 | 1=>(fun _=>-1,-bW b)
 | 2=>(fun j=>sx (sat (bl b) j),bW b * bA b)
 | _=>(fun j=>-sx (sat (bl b) j),-(bW b * bA b))
def LW (b:cW) (κ:Nat->Nat×Bool) (K r:Nat):AR:=if r < K then rw1 (bl b) (κ r) else rw4 b (r - K)
theorem ae9 {n i:Nat} (f:n<=8) (q:Rat):Gv (fun N=>ly N (n:Int) (i:Int) (bg q)) (LQ (fun j=>if j=i then q else 0) n):=by
 have w0:=Hx (z:=0) ay ay;have b:bg ((0:Int):Rat)=bg 0:=by congr 1
 rw [b] at w0;have key:∀ d k,k+d=n->aq (fun N g=>fT N (n:Int) (i:Int) (bg q) g (LQ (fun j=>if j=i then q else 0) k) (k:Int)) (LQ (fun j=>if j=i then q else 0) n):=fun d=>by
  induction d with
  | zero =>
   intro k c;have:k=n:=ad;subst this;exact aq.stop (fun N g=>fT.eq_2 ..) (.one (Gv.pure _))
  | succ d a =>
   intro k c;have a:=a (k+1) ad;have ex:av ((k:Int)+1)=((k+1:Nat):Int):=aX ad;rw [<- GI (fun j=>if j=i then q else 0)] at a;refine aq.go (show k < n by omega) (fun N g=>fT.eq_2 ..) ?_
   by_cases e:k=i
   ·rw [if_pos e] at a;refine aq.aN (beq_iff_eq.2 ad) (aq.if (by rw [cM];omega) ?_);simp only [jJ,ex];exact a
   ·rw [if_neg e] at a;refine aq.a9 (beq_eq_false_iff_ne.2 ad) (aq.bind w0 (aq.if (by rw [cM];omega) ?_));simp only [jJ,ex];exact a
 exact (key n 0 (Nat.zero_add _)).diag
section
variable {b:cW}
structure KA (l:List af) (i K:Nat) (κ:Nat->Nat×Bool):Prop where
 len:K<=2 * i
 ok:∀ q,q < K->(κ q).1 < l.length/\((κ q).2=true->QG (sat l (κ q).1))
 lo:∀ j,j < i->∃ q,q < K/\κ q=(j,false)
 hi:∀ j,j < i->QG (sat l j)->∃ q,q < K/\κ q=(j,true)
theorem JM (n:Nat) (a:Nat->AR) (m:Nat):TW n a m ++ [mkR n (a m)]=TW n a (m+1):=vw (fun r=>mkR n (a r)) m
theorem Ua {n m:Nat} {a a':Nat->AR} (h:∀ r,r < m->a r=a' r):TW n a m=TW n a' m:=q9 fun i hi=>by rw [h i hi]
theorem aq6 (B:BB b) {κ:Nat->Nat×Bool} {K:Nat} (x:K<=16):∀ d i,i+d=(bl b).length ->
  aq (fun N g=>fm N b (TW (bl b).length (fun r=>rw1 (bl b) (κ r)) K) (bg (bW b)) (bg (bW b * bA b)) g (LQ (fun _=>1) i) (LQ (fun j=>sx (sat (bl b) j)) i) (LQ (fun _=>-1) i) (LQ (fun j=>-sx (sat (bl b) j)) i) (i:Int)) (TW (bl b).length (LW b κ K) (K+4)):=fun d=>by
 have y:(bl b).length<=8:=B.ls.len
 induction d with
 | zero =>
  intro i hi;have:i=(bl b).length:=ad;subst this;have m:=(B.wr.rq ay).aj9 ay;have n:=((B.wr.mul B.ar.rb).rq ay).aj9 ay;refine aq.stop (fun N g=>fm.eq_2 ..) (aq.bind m (aq.if (by rw [s7];omega) (aq.bind n (aq.if ?_ (.one ((Gv.pure _).eq ?_))))))
  ·rw [rI,s7];grind
  ·have o:TW (bl b).length (fun r=>rw1 (bl b) (κ r)) K=TW (bl b).length (LW b κ K) K:=Ua fun r p=>by show _=if r < K then _ else _;rw [if_pos p]
   have a:∀ c,LW b κ K (K+c)=rw4 b c:=fun c=>by show (if K+c < K then _ else _)=_;grind
   have f:LW b κ K K=rw4 b 0:=a 0;rw [show K+4=K+1+1+1+1 by omega,<- JM,<- JM,<- JM,<- JM,o];rw [show K+1+1+1=K+3 by omega,show K+1+1=K+2 by omega,a,a,a,f];simp only [AX];rfl
 | succ d e =>
  intro i hi;have h:i < (bl b).length:=ad;have s:=B.ls.sb i h;have e:=e (i+1) ad;have q:bg ((1:Int):Rat)=bg 1:=by congr 1
  have em:bg ((-1:Int):Rat)=bg (-1):=by congr 1
  have w1:=Hx (z:=1) ay ay;have k:=Hx (z:=-1) ay ay;rw [q] at w1;rw [em] at k;have t:-1000000<=(sat (bl b) i).z9:=s.xl;have u:(sat (bl b) i).z9<=1000000:=s.xh;have v:av (0 - (sat (bl b) i).z9) = -(sat (bl b) i).z9:=a0
  have w:=Hx (z:=(sat (bl b) i).z9) ad ad;have l:=Hx (z:=-(sat (bl b) i).z9) ad ad;rw [Rat.intCast_neg] at l;rw [<- GI (fun _=>1),<- GI (fun j=>sx (sat (bl b) j)),<- GI (fun _=>-1),<- GI (fun j=>-sx (sat (bl b) j))] at e;refine aq.go h (fun N g=>fm.eq_2 ..) (aq.if (k6 h) ?_);rw [ai,aX ad,v];refine aq.bind w1 (aq.if (by rw [cM];omega) (aq.bind w (aq.if (by rw [cM];omega) (aq.bind k (aq.if (by rw [cM];omega) (aq.bind l (aq.if (by rw [cM];omega) e)))))))
theorem aq7 (B:BB b):∀ d i {κ:Nat->Nat×Bool} {K:Nat},i+d=(bl b).length->KA (bl b) i K κ ->
  ∃ f l,KA (bl b) (bl b).length l f/\aq (fun N g=>cD N b g (TW (bl b).length (fun r=>rw1 (bl b) (κ r)) K) (i:Int)) (TW (bl b).length (LW b f l) (l+4)):=fun d=>by
 have H:(bl b).length<=8:=B.ls.len
 induction d with
 | zero =>
  intro i κ K hi h;have:i=(bl b).length:=ad;subst this;have M:=h.len;refine ⟨κ,K,h,aq.stop (fun N g=>cD.eq_2 ..) (aq.bind (Hx (z:=b.dW) B.i64.1 B.i64.2) (aq.bind ((B.wr.rq ay).aak B.ar ay) (.one (aq6 B ad (bl b).length 0 (Nat.zero_add _)).diag)))⟩
 | succ d I =>
  intro i κ K hi h;have t:i < (bl b).length:=ad;have M:=h.len;have s:=B.ls.sb i t;have O:bg ((0:Int):Rat)=bg 0:=by congr 1
  have P:bg ((1:Int):Rat)=bg 1:=by congr 1
  have em:bg ((-1:Int):Rat)=bg (-1):=by congr 1
  have w0:=Hx (z:=0) ay ay;have w1:=Hx (z:=1) ay ay;have J:=Hx (z:=-1) ay ay;rw [O] at w0;rw [P] at w1;rw [em] at J;have ex:av ((i:Int)+1)=((i+1:Nat):Int):=aX ad;obtain ⟨r,Q,S⟩:=anS s;obtain ⟨c,T⟩:∃ c:Nat->Nat×Bool,c=fun q=>if q=K then (i,false) else κ q:=⟨_,rfl⟩
  have u:∀ q,q < K->c q=κ q:=fun q hq=>by grind
  have C:c K=(i,false):=by simp_all
  have U:TW (bl b).length (fun r=>rw1 (bl b) (κ r)) K ++ [(⟨LQ (fun j=>if j=i then -1 else 0) (bl b).length,bg 0⟩:bw)]=TW (bl b).length (fun r=>rw1 (bl b) (c r)) (K+1):=by
   rw [<- JM,C,Ua (n:=(bl b).length) (m:=K) (a:=fun r=>rw1 (bl b) (κ r)) (a':=fun r=>rw1 (bl b) (c r)) fun r D=>by rw [u r D]];rfl
  have pre:∀ {R},aq (fun N g=>cond r.2 ((sm N 1).bind fun E=>(ly N (((bl b).length:Nat):Int) (i:Int) E).bind fun V=>if ((TW (bl b).length (fun r=>rw1 (bl b) (c r)) (K+1)).length+1) * 88<=140737488355328 then fk N b (i:Int) (cD N b g) (TW (bl b).length (fun r=>rw1 (bl b) (c r)) (K+1) ++ [(⟨V,r.1⟩:bw)]) else none)
    (fk N b (i:Int) (cD N b g) (TW (bl b).length (fun r=>rw1 (bl b) (c r)) (K+1)))) R->aq (fun N g=>cD N b g (TW (bl b).length (fun r=>rw1 (bl b) (κ r)) K) (i:Int)) R:=fun {R} W=>by
   refine aq.go t (fun N g=>cD.eq_2 ..) (aq.bind J (aq.bind (ae9 H (-1)) (aq.bind w0 (aq.if (by rw [s7];omega) (aq.if (k6 t) ?_)))));rw [ai,U];exact aq.bind Q W
  have v:∀ {l:Nat} {f:Nat->Nat×Bool},K+1<=l->(∀ q,q < K+1->f q=c q)->∀ j,j < i+1->∃ q,q < l/\f q=(j,false):=fun {l f} X Y j L=>by
   by_cases e:j=i
   ·grind
   ·obtain ⟨q,z1,y⟩:=h.lo j ad;grind
  rcases S with ⟨F,e⟩ | ⟨F,e⟩
  ·subst e;obtain ⟨k,w⟩:∃ k:Nat->Nat×Bool,k=fun q=>if q=K+1 then (i,true) else c q:=⟨_,rfl⟩
   have A:∀ q,q < K+1->k q=c q:=fun q hq=>by rw [w];exact if_neg ad
   have G:k (K+1)=(i,true):=by rw [w];exact if_pos rfl
   have t2:TW (bl b).length (fun r=>rw1 (bl b) (c r)) (K+1) ++ [(⟨LQ (fun j=>if j=i then 1 else 0) (bl b).length,bg (uc (sat (bl b) i))⟩:bw)]=TW (bl b).length (fun r=>rw1 (bl b) (k r)) (K+1+1):=by
    rw [<- JM _ _ (K+1),G,Ua (n:=(bl b).length) (m:=K+1) (a:=fun r=>rw1 (bl b) (c r)) (a':=fun r=>rw1 (bl b) (k r)) fun r D=>by rw [A r D]];rfl
   obtain ⟨f,l,z1,y⟩:=I (i+1) (κ:=k) (K:=K+1+1) ad ⟨ad,fun q hq=>by
    by_cases x:q=K+1
    ·subst x;rw [G];exact ⟨t,fun _=>F⟩
    ·rw [A q ad]
     by_cases p:q=K
     ·subst p;rw [C];exact ⟨t,fun z=>by cases z⟩
     ·rw [u q ad];exact h.ok q ad,v ad A,fun j L o=>by
    by_cases e:j=i
    ·subst e;exact ⟨K+1,ad,G⟩
    ·obtain ⟨q,x,p⟩:=h.hi j ad o;exact ⟨q,ad,by rw [A q ad,u q x,p]⟩⟩
   refine ⟨f,l,z1,pre (aq.aN rfl (aq.bind w1 (aq.bind (ae9 H 1) (aq.if (by rw [s7];omega) ?_))))⟩;rw [t2];simp only [fk,ex];exact y
  ·obtain ⟨f,l,z1,y⟩:=I (i+1) (κ:=c) (K:=K+1) ad ⟨ad,fun q hq=>by
    by_cases p:q=K
    ·subst p;rw [C];exact ⟨t,fun z=>by cases z⟩
    ·rw [u q ad];exact h.ok q ad,v (aH _) (fun _ _=>rfl),fun j L o=>by
    by_cases e:j=i
    ·subst e;exact absurd o F
    ·obtain ⟨q,x,p⟩:=h.hi j ad o;exact ⟨q,ad,by rw [u q x,p]⟩⟩
   refine ⟨f,l,z1,pre (aq.a9 e ?_)⟩;simp only [fk,ex];exact y
theorem aaX (B:BB b):∃ κ K,KA (bl b) (bl b).length K κ/\Gv (fun N=>nb N b) (TW (bl b).length (LW b κ K) (K+4)):=by
 obtain ⟨κ,K,a,c⟩:=aq7 B (bl b).length 0 (κ:=fun _=>(0,false)) (K:=0) (Nat.zero_add _) ⟨Nat.zero_le _,fun q hq=>ad,fun j d=>ad,fun j d=>ad⟩;exact ⟨κ,K,a,c.diag⟩
section
variable {κ:Nat->Nat×Bool} {K:Nat}
theorem atz (B:BB b) (h:KA (bl b) (bl b).length K κ) {r:Nat} (i:r < K+4):AG (bl b).length (LW b κ K r):=by
 have a:RB 1 100:=RB.one.le ay;have d:RB 0 100:=RB.zero.le ay;have f:RB (bW b) 100:=B.wr.le ay;have g:RB (bW b * bA b) 100:=(B.wr.mul B.ar.rb).le ay;unfold LW
 by_cases q:r < K
 ·rw [if_pos q];refine ⟨fun j _=>?_,?_⟩
  ·show RB (if j=(κ r).1 then cond (κ r).2 1 (-1) else 0) 100;split
   ·cases (κ r).2 with
    | true=>exact a
    | false=>exact a.neg
   ·exact d
  ·show RB (cond (κ r).2 (uc (sat (bl b) (κ r).1)) 0) 100;cases (κ r).2 with
   | true=>exact (alD (B.ls.sb _ (h.ok r q).1)).le ay
   | false=>exact d
 ·rw [if_neg q];have:r - K=0\/r - K=1\/r - K=2\/r - K=3:=ad;rcases this with e | e | e | e<;>rw [e]
  ·exact ⟨fun _ _=>a,f⟩
  ·exact ⟨fun _ _=>a.neg,f.neg⟩
  ·exact ⟨fun j c=>(B.ls.sb j c).xb.le ay,g⟩
  ·exact ⟨fun j c=>(B.ls.sb j c).xb.neg.le ay,g.neg⟩
theorem Ub {n i:Nat} (hi:i < n) (c:Rat) (x:Nat->Rat):aV n (fun j=>(if j=i then c else 0) * x j)=c * x i:=by
 rw [mQ hi _ fun j _ a=>by rw [if_neg a];grind,if_pos rfl]
theorem aaY (n:Nat) (f:Nat->Rat):aV n (fun i=>-f i) = -aV n f:=by
 rw [bc (g:=fun i=>(-1) * f i) fun i _=>by grind,ia];grind
structure aaZ (b:cW) (x:Nat->Rat):Prop where
 nn:∀ j,j < (bl b).length->0<=x j
 cap:∀ j,j < (bl b).length->QG (sat (bl b) j)->x j<=uc (sat (bl b) j)
 sum:aV (bl b).length x=bW b
 mom:aV (bl b).length (fun j=>x j * sx (sat (bl b) j))=bW b * bA b
theorem adj (h:KA (bl b) (bl b).length K κ) {x:Nat->Rat} (a:aaZ b x) {r:Nat} (f:r < K+4):aV (bl b).length (fun j=>(LW b κ K r).1 j * x j)<=(LW b κ K r).2:=by
 unfold LW
 by_cases q:r < K
 ·rw [if_pos q];obtain ⟨o1,c⟩:=h.ok r q;show aV (bl b).length (fun j=>(if j=(κ r).1 then cond (κ r).2 1 (-1) else 0) * x j)<=cond (κ r).2 (uc (sat (bl b) (κ r).1)) 0;rw [Ub o1];cases e:(κ r).2 with
  | true=>have:=a.cap _ o1 (c e);simp_all
  | false=>have:=a.nn _ o1;grind
 ·rw [if_neg q];have i:=a.sum;have d:=a.mom;have:r - K=0\/r - K=1\/r - K=2\/r - K=3:=ad;rcases this with e | e | e | e<;>rw [e]
  ·show aV (bl b).length (fun j=>1 * x j)<=bW b;rw [ia];grind
  ·show aV (bl b).length (fun j=>(-1) * x j)<=-bW b;rw [ia];grind
  ·show aV (bl b).length (fun j=>sx (sat (bl b) j) * x j)<=bW b * bA b;grind
  ·show aV (bl b).length (fun j=>-sx (sat (bl b) j) * x j)<=-(bW b * bA b);rw [bc (g:=fun j=>-(x j * sx (sat (bl b) j))) fun j _=>by grind,aaY,d];exact Rat.le_refl
theorem adk (h:KA (bl b) (bl b).length K κ) {x:Nat->Rat} (d:∀ r,r < K+4->aV (bl b).length (fun j=>(LW b κ K r).1 j * x j)<=(LW b κ K r).2):aaZ b x:=by
 have last:∀ c,c < 4->aV (bl b).length (fun j=>(rw4 b c).1 j * x j)<=(rw4 b c).2:=fun c m=>by
  have:=d (K+c) ad;simp_all [LW,if_neg,Nat.add_sub_cancel_left]
 refine ⟨fun j a=>?_,fun j a l=>?_,?_,?_⟩
 ·obtain ⟨q,i,k⟩:=h.lo j a;have:=d q ad;unfold LW at this;rw [if_pos i,k] at this;have this:aV (bl b).length (fun j'=>(if j'=j then -1 else 0) * x j')<=0:=this;rw [Ub a] at this;grind
 ·obtain ⟨q,i,k⟩:=h.hi j a l;have:=d q ad;simp_all [LW,if_pos,aV,bl,uc,sat,Ub]
 ·have e:aV (bl b).length (fun j=>1 * x j)<=bW b:=last 0 ay;have f:aV (bl b).length (fun j=>(-1) * x j)<=-bW b:=last 1 ay;rw [ia] at e f;grind
 ·have e:aV (bl b).length (fun j=>sx (sat (bl b) j) * x j)<=bW b * bA b:=last 2 ay;have f:aV (bl b).length (fun j=>-sx (sat (bl b) j) * x j)<=-(bW b * bA b):=last 3 ay;rw [bc (g:=fun j=>x j * sx (sat (bl b) j)) fun j _=>by grind] at e;rw [bc (g:=fun j=>-(x j * sx (sat (bl b) j))) fun j _=>by grind,aaY] at f;grind
theorem M9 {A C:Rat} (d:n4 b A C) {x:Nat->Rat} (a:aaZ b x):False:=by
 have k:=d.lt;have f:aV (bl b).length (fun j=>A * x j+C * (x j * sx (sat (bl b) j)))<=yld (bl b) A C:=QE fun j c=>by
  have e:Fo A C (sat (bl b) j)=A+C * sx (sat (bl b) j):=rfl;have g:=a.nn j c
  by_cases q:Fo A C (sat (bl b) j)<=0
  ·rw [if_pos q];have:=Rat.mul_nonneg g (show 0<=-Fo A C (sat (bl b) j) by grind);rw [e] at this;grind
  ·rw [if_neg q];have l:=a.cap j c (d.QG j c (by grind));have:=Rat.mul_nonneg (show 0<=uc (sat (bl b) j) - x j by grind) (show 0<=Fo A C (sat (bl b) j) by grind);rw [e] at this ⊢;grind
 rw [mP,ia,ia,a.mom] at f;have h:aV (bl b).length (fun i=>x i)=bW b:=a.sum;rw [h] at f;grind
theorem aoZ (K:Nat) (f:Nat->Rat):aV (K+4) f=aV K f+f K+f (K+1)+f (K+2)+f (K+3):=rfl
theorem Na (B:BB b) (h:KA (bl b) (bl b).length K κ) {q:Nat} {y:Nat->Rat} (hm:aeK q (bl b).length (TW (bl b).length (LW b κ K) (K+4)) y):n4 b (y (K+1) - y K) (y (K+3) - y (K+2)):=by
 have nn:=hm.nn;have col:=hm.col;have neg:=hm.neg;rw [s7] at nn col neg;have z:∀ r,r < K->LW b κ K r=rw1 (bl b) (κ r):=fun r f=>if_pos f;have o:∀ c,LW b κ K (K+c)=rw4 b c:=fun c=>by show (if K+c < K then _ else _)=_;grind
 -- the multipliers of the capacities and of the floors
 obtain ⟨l,m⟩:∃ l:Nat->Rat,l=fun j=>aV K fun r=>if κ r=(j,true) then y r else 0:=⟨_,rfl⟩
 obtain ⟨p,s⟩:∃ p:Nat->Rat,p=fun j=>aV K fun r=>if κ r=(j,false) then y r else 0:=⟨_,rfl⟩
 have t:∀ j,0<=l j:=fun j=>by
  rw [m];refine QF fun r f=>?_;show 0<=if κ r=(j,true) then y r else 0
  split
  ·exact nn r ad
  ·exact Rat.le_refl
 have u:∀ j,0<=p j:=fun j=>by
  rw [s];refine QF fun r f=>?_;show 0<=if κ r=(j,false) then y r else 0
  split
  ·exact nn r ad
  ·exact Rat.le_refl
 have A:∀ j,j < (bl b).length->Fo (y (K+1) - y K) (y (K+3) - y (K+2)) (sat (bl b) j)=l j - p j:=fun j d=>by
  have v:=col j d;rw [aoZ] at v;rw [Wc ad d,Wc ad d,Wc ad d,Wc ad d,o 1,o 2,o 3,show LW b κ K K=rw4 b 0 from o 0] at v;have e:aV K (fun i=>y i * cf (TW (bl b).length (LW b κ K) (K+4)) i j)=l j - p j:=by
   have:aV K (fun i=>y i * cf (TW (bl b).length (LW b κ K) (K+4)) i j)=aV K fun r=>(if κ r=(j,true) then y r else 0)+(-1) * (if κ r=(j,false) then y r else 0):=bc fun r f=>by
    rw [Wc ad d,z r f];grind
   rw [this,mP,ia,m,s];grind
  rw [e] at v;have v:l j - p j+y K * 1+y (K+1) * (-1)+y (K+2) * sx (sat (bl b) j)+y (K+3) * (-sx (sat (bl b) j))=0:=v;grind
 have hb:aV K (fun r=>y r * cond (κ r).2 (uc (sat (bl b) (κ r).1)) 0)=aV (bl b).length fun j=>uc (sat (bl b) j) * l j:=by
  have e:aV (bl b).length (fun j=>uc (sat (bl b) j) * l j)=aV (bl b).length fun j=>aV K fun r=>uc (sat (bl b) j) * (if κ r=(j,true) then y r else 0):=bc fun j _=>by rw [ia,m]
  rw [e,V5];refine bc fun r f=>?_;obtain ⟨o1,_⟩:=h.ok r f;obtain ⟨k,D⟩:∃ k,κ r=k:=⟨_,rfl⟩;rw [D] at o1 ⊢;obtain ⟨a,c⟩:=k;rw [mQ o1 _ fun j _ d=>by grind];cases c with
  | true=>grind
  | false=>simp
 have G:aV (bl b).length (fun j=>uc (sat (bl b) j) * l j)+y K * bW b+y (K+1) * (-bW b)+y (K+2) * (bW b * bA b)+y (K+3) * (-(bW b * bA b)) < 0:=by
  rw [aoZ,We ad,We ad,We ad,We ad,o 1,o 2,o 3,show LW b κ K K=rw4 b 0 from o 0] at neg;rw [bc (n:=K) (g:=fun r=>y r * cond (κ r).2 (uc (sat (bl b) (κ r).1)) 0) fun r f=>by rw [We ad,z r f],hb] at neg;exact neg
 refine ⟨fun j d E=>?_,?_⟩
 · -- some row of the capacity counts
  rw [A j d] at E;have:=u j;have C:0 < l j:=by grind
  rw [m] at C;obtain ⟨r,f,w⟩:=cE.MZ C
  by_cases e:κ r=(j,true)
  ·have:=(h.ok r f).2;rw [e] at this;exact this rfl
  ·rw [if_neg e] at w;exact absurd w Rat.lt_irrefl
 ·have F:yld (bl b) (y (K+1) - y K) (y (K+3) - y (K+2))<=aV (bl b).length fun j=>uc (sat (bl b) j) * l j:=QE fun j d=>by
   have x:=anH (B.ls.sb j d);have:=u j;have:=t j;rw [A j d];split
   ·exact Rat.mul_nonneg x (t j)
   ·exact Rat.mul_le_mul_of_nonneg_left (by grind) x
  grind
end
end
theorem ok5 {n:Nat} (a:n<=8):cE.Ok5 (2 * n+1) 100 6:=by
 have:n=0\/n=1\/n=2\/n=3\/n=4\/n=5\/n=6\/n=7\/n=8:=ad;grind
theorem alG {f:Nat->Rat} {m:Nat} (hm:m<=60) (a:∀ i,i < m->RB (f i) 20000000000):LB (LQ f m) 20000000000:=⟨by rw [cM];exact hm,fun i=>by
 by_cases h:i < m
 ·rw [lL _ _ h];exact (a i h).ir
 ·rw [MV (by rw [cM];omega)];exact ird⟩
section
variable {b:cW}
theorem adl (B:BB b) {h t:Rat} (hb:Bal b h t):aaZ b (fI (bl b) h t) :=
 ⟨fun j a=>alc (B.ls.sb j a) _,fun j a c=>aqX (B.ls.sb j a) c _,hb.1,by
  have d:fM (bl b) h t - bW b * bA b=0:=hb.2;grind⟩
open Classical in
theorem YS (B:BB b) {A C:Rat} {m:Nat} (a:RB A m) (c:RB C m) (d:1<=m) (hm:m<=10000000000) (h:n4 b A C):Gv (fun N=>kA N b ⟨bg A,bg C⟩) true:=(T7 B a c d hm).eq (decide_eq_true h)
theorem Fk (b:cW) (hw:cW.wf b):∃ N,fz N b=some true:=by
 refine Gv.ex (f:=fun N=>fz N b) (UU.bind (Gv.a9 rfl ?_));obtain ⟨r,Z,q2⟩:=anN hw;refine Z.bind ?_;cases r with
 | false=>exact Gv.bind (Gv.a9 rfl (Gv.pure _)) (Gv.aN rfl (Gv.pure _))
 | true =>
  obtain ⟨P,Q⟩:=q2 rfl
  by_cases C:b.ag.length<=8
  case neg=>exact Gv.bind (Gv.a9 (by grind) (Gv.pure _)) (Gv.aN (by grind) (Gv.pure _))
  have R:decide ((b.ag.length:Int) > 8)=false:=decide_eq_false ad;obtain ⟨c,c1,c2⟩:=adf C P Q;refine Gv.bind (Gv.aN (by rw [R];rfl) c1) ?_
  by_cases D:c=0
  case neg=>exact Gv.aN (by simp_all) (Gv.pure _)
  subst D;refine Gv.a9 (by rw [R];rfl) ?_;obtain ⟨B,u⟩:=ae3 C P Q (c2 rfl);have hn:(bl b).length<=8:=C;obtain ⟨κ,K,o,k2⟩:=aaX B;have hK:=o.len;have S:∀ r,r < K+4->AG (bl b).length (LW b κ K r):=fun r k=>atz B o k;have v:=atx S ad ad;have T:=aaA (n:=(bl b).length) (l:=TW (bl b).length (LW b κ K) (K+4)) (e5:=6) ad (aoW S) (by rw [s7];omega) (ok5 hn) ay (YR ad ad);have E:∀ {x:Nat->Rat},(∀ i,i < K+4->cE.Fg (bl b).length (cf (TW (bl b).length (LW b κ K) (K+4))) x i<=bv (TW (bl b).length (LW b κ K) (K+4)) i)->aaZ b x:=fun {x} h=>adk o fun r k=>by
   have:=h r k;rw [We k] at this;unfold cE.Fg at this;rw [bc (g:=fun j=>(LW b κ K r).1 j * x j) fun j hj=>by rw [Wc k hj]] at this;exact this
  refine k2.bind ?_;rcases adg B u with ⟨h,t,F,G⟩ | ⟨e,U,G,p,p1,p2⟩
  · -- an equilibrium
   have s:=adl B F.bal;refine G.bind ?_;have hx:LB (LQ (fI (bl b) h t) (bl b).length) 20000000000:=alG ad fun i hi=>(M5 (B.ls.sb i hi) F.hb F.tb).le ay;have V:=UP v hx;rw [alA ad ad fun r k=>adj o s k] at V;rcases T with ⟨y,w,H⟩ | ⟨x,W,X⟩
   · -- no multipliers
    exact absurd s (fun s=>M9 (Na B o w) s)
   ·refine X.bind (Gv.aN rfl (Gv.bind (Gv.aN ?_ V) ((Gv.pure _).eq ?_)))
    ·show cond ((0:Int) == 0) (((LQ (fI (bl b) h t) (bl b).length).length:Int) == (b.ag.length:Int)) false=true;rw [cM];simp
    ·show cond (cond ((0:Int) == 0) (((LQ (fI (bl b) h t) (bl b).length).length:Int) == (b.ag.length:Int)) false) _ false=true;rw [cM];simp
  · -- a refusal
   refine G.bind ?_;rcases T with ⟨y,w,H⟩ | ⟨x,W,X⟩
   case inr =>
    have Y:=W.ok;rw [s7] at Y;exact absurd (E Y) (fun s=>M9 p1 s)
   have m:(TW (bl b).length (LW b κ K) (K+4)).length=K+4:=s7;rw [m] at H;have a:∀ i,i < K+4->RB (y i) 1562500:=fun i hi=>(w.rb i (by rw [s7];exact hi)).le ay;have I:=Na B o w;have ra:=(a (K+1) ad).sub (a K ad);have rb:=(a (K+3) ad).sub (a (K+2) ad);have J:=YS B ra rb ay ay I;have L:Gv (fun N=>nc N b ⟨bg (y (K+1) - y K),bg (y (K+3) - y (K+2))⟩) 0:=u.bind (Gv.a9 rfl (J.bind (Gv.a9 rfl (Gv.pure _))));have z:=Hy v (y:=LQ y (K+4)) (alG ad fun i hi=>(a i hi).le ay) ((bl b).length:Int);rw [agt ad ad w] at z;have A:∀ d:ab,∀ c,c < 4->(LQ y (K+4)).getD (K+c) d=bg (y (K+c)):=fun d c D=>lL y d ad;have w0:av (((K+4:Nat):Int) - 4)=((K:Nat):Int):=a0
   have w1:av ((K:Int)+1)=((K+1:Nat):Int):=a0
   have w2:av ((K:Int)+2)=((K+2:Nat):Int):=a0
   have w3:av ((K:Int)+3)=((K+3:Nat):Int):=a0
   have M:=((a (K+1) ad).rq ay).ani ((a K ad).rq ay) ay;have O:=((a (K+3) ad).rq ay).ani ((a (K+2) ad).rq ay) ay;refine H.bind (Gv.a9 (by rcases U with q | q<;>rw [q]<;>rfl) (Gv.a9 ?_ ?_))
   ·show cond (cond (cond (e != 12) (e != 13) false) true ((29:Int) != 29)) true ((((LQ y (K+4)).length:Nat):Int) != (((TW (bl b).length (LW b κ K) (K+4)).length:Nat):Int))=false;rw [cM,m];rcases U with q | q<;>rw [q]<;>simp
   ·have hb:∀ c,c < 4->0<=((K+c:Nat):Int)/\((K+c:Nat):Int) < ((((LQ y (K+4)).length:Nat)):Int):=fun c D=>by rw [cM];exact k6 ad
    simp only [m,w0,w1,w2,w3,ai];refine Gv.if (hb 1 ay) (Gv.if (hb 0 ay) ?_);rw [A _ 1 ay,show (LQ y (K+4)).getD K ab.d=bg (y K) from A _ 0 ay,A _ 3 ay,A _ 2 ay];refine Gv.bind M (Gv.if (hb 3 ay) (Gv.if (hb 2 ay) (Gv.bind O (L.bind (Gv.bind (Gv.aN rfl z) (Gv.pure _))))))
end
end Go.Den
