/- The plain law: the Lean function of the law returns true for every input, and what it needs. No conditions. -/
import Derived.Test.YthnmoifahladaaaGreatWaterBallastPk
set_option linter.unusedVariables false
set_option linter.unusedSimpArgs false
namespace Go.Den
open Go.Ab
def pr:List Int→Rat
 | []=>1
 | a :: l=>(a:Rat) * pr l
theorem pr_rb:∀ {l:List Int},(∀ z∈l,I64 z)→RB (pr l) (4 * l.length+1)
 | [],_=>RB.one
 | a :: l,h=>((rb_word (h a (by simp))).mul (pr_rb (l:=l) fun z hz=>h z (by simp [hz]))).le (by simp;omega)
theorem prod_of {G:Nat→Nat→TRat→Int→Option TRat} {l:List Int} (hG:∀ N g x i,G N (g+1) x i=cond (decide (i < ((l.length:Nat):Int))) (if 0≤i∧i < ((l.length:Nat):Int) then (g_e_Of N (l.getD i.toNat 0)).bind fun a=>(g_e_Whole N a).bind fun b=>(g_e_MulRat N x b).bind fun r=>G N g r (w64 (i+1)) else none) (some x))
  (hl:l.length≤20) (hw:∀ z∈l,I64 z):∀ (k i m:Nat) (q:Rat),i+k=l.length→RB q m→1≤m→m+4 * k≤1000→Gv2 (fun N fuel=>G N fuel (ofQ q) (i:Int)) (ofQ (q * pr (l.drop i)))
 | 0,i,m,q,hi,_,_,_=>.step 0 fun N g _ _=>by
  have:i=l.length:=by omega
  subst this
  rw [hG,dec_nlt,List.drop_length,pr,Rat.mul_one];rfl
 | k+1,i,m,q,hi,hq,h1,hm=>by
  have hin:i < l.length:=by omega
  have hz:=hw _ (getD_mem l i 0 hin)
  refine Gv2.succ (fun N g=>hG N g (ofQ q) (i:Int)) (Gv2.condT (dec_lt hin) (Gv2.if (inb hin) ?_))
  rw [toNat_nat,w64_succ (by omega)]
  refine Gv2.bind (eOf_gv hz) (Gv2.bind (eWhole_gv hz) (Gv2.bind ((hq.rq h1).mul ((rb_word hz).rq (by decide)) (by simp only [SM];omega)) ?_))
  refine (prod_of hG hl hw k (i+1) (m+4) _ (by omega) (hq.mul (rb_word hz)) (by omega) (by omega)).eq ?_
  rw [drop_getD l i 0 hin,pr,Rat.mul_assoc]
theorem product_gv {l:List Int} (hl:l.length≤20) (hw:∀ z∈l,I64 z):Gv (fun N=>g_w_product N l) (ofQ (pr l)):=by
 have h1:I64 1:=⟨by decide,by decide⟩
 have e:ofQ (pr l)=ofQ (1 * pr (l.drop 0)):=by rw [List.drop_zero,Rat.one_mul]
 rw [e]
 refine Gv.bind (eOf_gv h1) (Gv.bind (eWhole_gv h1) ?_)
 first
  | exact (prod_of (G:=fun N fuel x i=>g_w_product_L1 N l fuel x.fN.fG x.fN.fL x.fD.fG x.fD.fL i) (fun _ _ _ _=>rfl) hl hw l.length 0 1 1 (by omega) RB.one (by decide) (by omega)).diag
  | exact (prod_of (G:=fun N fuel x i=>g_w_product_L1 N l fuel x i) (fun _ _ _ _=>rfl) hl hw l.length 0 1 1 (by omega) RB.one (by decide) (by omega)).diag
theorem rproduct_L1 {l:List Int} (hl:l.length≤20) (hw:∀ z∈l,I64 z):∀ (k i m:Nat) (q:Rat),i+k=l.length→RB q m→1≤m→m+4 * k≤1000 →
  Gv2 (fun N fuel=>g_r05_product_L1 N l fuel (ofQ q) (i:Int)) (ofQ (q * pr (l.drop i)))
 | 0,i,m,q,hi,_,_,_=>.step 0 fun N g _ _=>by
  have:i=l.length:=by omega
  subst this
  rw [g_r05_product_L1,dec_nlt,List.drop_length,pr,Rat.mul_one];rfl
 | k+1,i,m,q,hi,hq,h1,hm=>by
  have hin:i < l.length:=by omega
  have hz:=hw _ (getD_mem l i 0 hin)
  refine Gv2.succ (fun N g=>g_r05_product_L1.eq_2 ..) (Gv2.condT (dec_lt hin) (Gv2.if (inb hin) ?_))
  rw [toNat_nat,w64_succ (by omega)]
  refine Gv2.bind (rQ_gv hz) (Gv2.bind ((hq.rq h1).rmul ((rb_word hz).rq (by decide)) (by simp only [LM];omega)) ?_)
  refine (rproduct_L1 hl hw k (i+1) (m+4) _ (by omega) (hq.mul (rb_word hz)) (by omega) (by omega)).eq ?_
  rw [drop_getD l i 0 hin,pr,Rat.mul_assoc]
theorem rproduct_gv {l:List Int} (hl:l.length≤20) (hw:∀ z∈l,I64 z):Gv (fun N=>g_r05_product N l) (ofQ (pr l)):=by
 have h1:I64 1:=⟨by decide,by decide⟩
 refine Gv.bind (rQ_gv h1) ?_
 refine ((rproduct_L1 hl hw l.length 0 1 1 (by omega) RB.one (by decide) (by omega)).diag).eq ?_
 rw [List.drop_zero,Rat.one_mul]
theorem quotient_gv {x y:TRat} {p q:Rat} {m n:Nat} (hx:RQ x p m) (hy:RQ y q n) (h0:q≠0) (hs:SM (2 * (m+n)+2)):Gv (fun N=>g_w_quotient N x y) (ofQ (p / q)) :=
 Gv.bind (hx.div hy h0 hs) (Gv.pure _)
def stOf (l:List Int):Tw_state:=⟨l.getD 0 0,l.getD 1 0,l.getD 2 0,l.getD 3 0,l.getD 4 0,l.getD 5 0⟩
def stepsCode (p:TPn) (l:List Int):Int :=
 cond (((l.length:Nat):Int) != ((p.fTk.length:Nat):Int)) 11 (scan (fun m=>cond (rng (l.getD m 0) 0 (tkAt p m).f_Steps) none (some 2)) 0 l.length 0)
theorem setI_take {l:List Int} {i t:Nat} (hi:i < l.length):setI i t (l.getD i 0) ((l.take i).getD t 0)=(l.take (i+1)).getD t 0:=by
 unfold setI
 simp only [List.getD_eq_getElem?_getD,List.getElem?_take]
 split
 ·rename_i h;subst h;rw [if_pos (by omega)]
 ·by_cases h2:t < i
  ·rw [if_pos h2,if_pos (by omega)]
  ·rw [if_neg h2,if_neg (by omega)]
theorem checkSteps_L1 {N:Nat} {p:TPn} {l:List Int} (hl:l.length=p.fTk.length) (ht:p.fTk.length≤6):∀ (k i fuel:Nat),i+k=l.length→k < fuel →
  ∃ s,g_w_checkSteps_L1 N p l fuel (stOf (l.take i)) (i:Int)=some (s,scan (fun m=>cond (rng (l.getD m 0) 0 (tkAt p m).f_Steps) none (some 2)) 0 k i) ∧
   (scan (fun m=>cond (rng (l.getD m 0) 0 (tkAt p m).f_Steps) none (some (2:Int))) 0 k i=0→s=stOf l)
 | 0,i,fuel,h,hf=>by
  obtain ⟨g,rfl⟩:∃ g,fuel=g+1:=⟨fuel - 1,by omega⟩
  have:i=l.length:=by omega
  subst this
  refine ⟨stOf l,?_,fun _=>rfl⟩
  rw [g_w_checkSteps_L1,dec_nlt,cond_false,List.take_length];rfl
 | k+1,i,fuel,h,hf=>by
  obtain ⟨g,rfl⟩:∃ g,fuel=g+1:=⟨fuel - 1,by omega⟩
  have hi:i < l.length:=by omega
  rw [g_w_checkSteps_L1,dec_lt hi,cond_true,if_pos (inb hi),if_pos (inb (by omega)),toNat_nat,between_eq,Option.bind_some,scan]
  have e:p.fTk.getD i TTank.d=tkAt p i:=rfl
  rw [e]
  cases rng (l.getD i 0) 0 (tkAt p i).f_Steps with
  | false=>exact ⟨_,rfl,fun h=>by cases h⟩
  | true =>
   obtain ⟨s,h1,h2⟩:=checkSteps_L1 hl ht k (i+1) g (by omega) (by omega)
   refine ⟨s,?_,h2⟩
   refine Eq.trans ?_ h1
   rw [w64_succ (by omega)]
   simp only [Bool.not_true,cond_false]
   rw [if_pos ⟨by omega,by omega⟩]
   have e2:(⟨setI i 0 (l.getD i 0) (stOf (l.take i)).e0,setI i 1 (l.getD i 0) (stOf (l.take i)).e1,setI i 2 (l.getD i 0) (stOf (l.take i)).e2,setI i 3 (l.getD i 0) (stOf (l.take i)).e3,setI i 4 (l.getD i 0) (stOf (l.take i)).e4,setI i 5 (l.getD i 0) (stOf (l.take i)).e5⟩:Tw_state)=stOf (l.take (i+1)):=by
    simp only [stOf,setI_take hi]
   rw [e2]
theorem checkSteps_eq {N:Nat} (hN:40 < N) {p:TPn} {l:List Int} (ht:p.fTk.length≤6):∃ s,g_w_checkSteps N p l=some (s,stepsCode p l)∧(stepsCode p l=0→s=stOf l):=by
 unfold g_w_checkSteps stepsCode
 cases hb:(((l.length:Nat):Int) != ((p.fTk.length:Nat):Int)) with
 | true=>exact ⟨_,rfl,fun h=>by cases h⟩
 | false =>
  have hb:l.length=p.fTk.length:=by simp at hb;omega
  exact checkSteps_L1 hb ht l.length 0 N (by omega) (by omega)
theorem refSteps_eq {N:Nat} (hN:40 < N) {p:TPn} {l:List Int} (ht:p.fTk.length≤6):g_r05_CheckSteps N p l=some (stepsCode p l):=by
 unfold g_r05_CheckSteps stepsCode
 cases hb:(((l.length:Nat):Int) != ((p.fTk.length:Nat):Int)) with
 | true=>rfl
 | false =>
  have hb:l.length=p.fTk.length:=by simp at hb;omega
  refine loop_scan0 (L:=fun fuel=>g_r05_CheckSteps_L1 N p l fuel) _ _ (by omega) (fun fuel m hm=>?_) (fun fuel=>?_)
  ·simp only [g_r05_CheckSteps_L1,dec_lt hm,cond_true,if_pos (inb hm),if_pos (inb (show m < p.fTk.length by omega)),toNat_nat,inside_eq,Option.bind_some,w64_succ (show m < 9223372036854775807 by omega)]
   have e:p.fTk.getD m TTank.d=tkAt p m:=rfl
   rw [e]
   cases rng (l.getD m 0) 0 (tkAt p m).f_Steps<;>rfl
  ·simp only [g_r05_CheckSteps_L1,dec_nlt,cond_false]
structure StepsOK (p:TPn) (l:List Int):Prop where
 len:l.length=p.fTk.length
 lo:∀ i,i < l.length→0≤l.getD i 0
 hi:∀ i,i < l.length→l.getD i 0≤(tkAt p i).f_Steps
theorem steps_ok {p:TPn} {l:List Int} (h:stepsCode p l=0):StepsOK p l:=by
 unfold stepsCode at h
 cases hb:(((l.length:Nat):Int) != ((p.fTk.length:Nat):Int)) with
 | true=>rw [hb] at h;cases h
 | false =>
  rw [hb,cond_false] at h
  obtain ⟨h1,-⟩:=scan_zero2 (fun i=>by cases rng (l.getD i 0) 0 (tkAt p i).f_Steps<;>simp) _ _ h
  have key:∀ i,i < l.length→0≤l.getD i 0∧l.getD i 0≤(tkAt p i).f_Steps:=fun i hi=>by
   have:=h1 i (Nat.zero_le _) (by omega)
   refine rng_iff.1 ?_
   cases hr:rng (l.getD i 0) 0 (tkAt p i).f_Steps with
   | true=>rfl
   | false=>rw [hr] at this;cases this
  exact ⟨by simp at hb;omega,fun i hi=>(key i hi).1,fun i hi=>(key i hi).2⟩
structure LoadOK (m:TPm):Prop where
 x1:-1000000≤m.f_X
 x2:m.f_X≤1000000
 y1:-1000000≤m.f_Y
 y2:m.f_Y≤1000000
 m1:0≤m.fMa
 m2:m.fMa≤12000000000
def fM (m:TPm):Int:=m.fMa
def fX (m:TPm):Int:=m.fMa * m.f_X
def fY (m:TPm):Int:=m.fMa * m.f_Y
def fA (m:TPm):Int:=m.fMa * (m.f_X.natAbs:Int)
def sI (f:TPm→Int) (L:List TPm):Int:=(L.map f).sum
theorem sI_append (f:TPm→Int) (A B:List TPm):sI f (A ++ B)=sI f A+sI f B:=by simp [sI,List.sum_append]
theorem sI_one (f:TPm→Int) (m:TPm):sI f [m]=f m:=by simp [sI]
theorem LoadOK.bM {m:TPm} (h:LoadOK m):(fM m).natAbs≤12000000000:=by have:=h.m1;have:=h.m2;unfold fM;omega
theorem LoadOK.bX {m:TPm} (h:LoadOK m):(fX m).natAbs≤12000000000000000:=by
 have:=h.m1;have:=h.m2;have:=h.x1;have:=h.x2
 unfold fX;rw [Int.natAbs_mul]
 exact Nat.mul_le_mul (show _≤12000000000 by omega) (show _≤1000000 by omega)
theorem LoadOK.bY {m:TPm} (h:LoadOK m):(fY m).natAbs≤12000000000000000:=by
 have:=h.m1;have:=h.m2;have:=h.y1;have:=h.y2
 unfold fY;rw [Int.natAbs_mul]
 exact Nat.mul_le_mul (show _≤12000000000 by omega) (show _≤1000000 by omega)
theorem LoadOK.bA {m:TPm} (h:LoadOK m):(fA m).natAbs≤12000000000000000:=by
 have:=h.m1;have:=h.m2;have:=h.x1;have:=h.x2
 unfold fA;rw [Int.natAbs_mul]
 exact Nat.mul_le_mul (show _≤12000000000 by omega) (show _≤1000000 by omega)
theorem sI_b {f:TPm→Int} {B:Nat}:∀ {L:List TPm},(∀ m∈L,(f m).natAbs≤B)→(sI f L).natAbs≤L.length * B
 | [],_=>by simp [sI]
 | a :: L,h=>by
  have h1:=h a (by simp)
  have h2:=sI_b (L:=L) fun m hm=>h m (by simp [hm])
  have e:sI f (a :: L)=f a+sI f L:=by simp [sI]
  rw [e,List.length_cons,Nat.succ_mul]
  omega
structure LoadsOK (L:List TPm):Prop where
 len:L.length≤26
 ok:∀ m∈L,LoadOK m
theorem LoadsOK.M {L:List TPm} (h:LoadsOK L):(sI fM L).natAbs≤312000000000:=by
 have h1:=sI_b fun m hm=>(h.ok m hm).bM
 have h2:=Nat.mul_le_mul_right 12000000000 h.len
 omega
theorem LoadsOK.X {L:List TPm} (h:LoadsOK L):(sI fX L).natAbs≤312000000000000000:=by
 have h1:=sI_b fun m hm=>(h.ok m hm).bX
 have h2:=Nat.mul_le_mul_right 12000000000000000 h.len
 omega
theorem LoadsOK.Y {L:List TPm} (h:LoadsOK L):(sI fY L).natAbs≤312000000000000000:=by
 have h1:=sI_b fun m hm=>(h.ok m hm).bY
 have h2:=Nat.mul_le_mul_right 12000000000000000 h.len
 omega
theorem LoadsOK.A {L:List TPm} (h:LoadsOK L):(sI fA L).natAbs≤312000000000000000:=by
 have h1:=sI_b fun m hm=>(h.ok m hm).bA
 have h2:=Nat.mul_le_mul_right 12000000000000000 h.len
 omega
theorem LoadsOK.sub {L K:List TPm} (h:LoadsOK L) (hs:∀ m∈K,m∈L) (hl:K.length≤L.length):LoadsOK K:=⟨Nat.le_trans hl h.len,fun m hm=>h.ok m (hs m hm)⟩
theorem LoadsOK.take {L:List TPm} (h:LoadsOK L) (i:Nat):LoadsOK (L.take i):=h.sub (fun _ hm=>List.mem_of_mem_take hm) (by simp;omega)
def sumsOf (L:List TPm):Tw_sums:=⟨sI fM L,sI fX L,sI fY L,sI fA L⟩
theorem sum_step {N:Nat} {A:List TPm} {m:TPm} (h:LoadsOK (A ++ [m])):g_w_sumOf_1 N m.f_X m.f_Y m.fMa (sumsOf A)=some (sumsOf (A ++ [m])):=by
 have hm:=h.ok m (by simp)
 have b1:=h.M
 have b2:=h.X
 have b3:=h.Y
 have b4:=h.A
 have c2:=hm.bX
 have c3:=hm.bY
 have c4:=hm.bA
 have q1:=hm.x1
 have q2:=hm.x2
 unfold g_w_sumOf_1 sumsOf
 rw [sI_append,sI_one] at b1 b2 b3 b4
 simp only [sI_append,sI_one]
 have ea:(if w64 (0 - m.f_X) > m.f_X then w64 (0 - m.f_X) else m.f_X)=(m.f_X.natAbs:Int):=by
  rw [w64_eq (by omega) (by omega)]
  split<;>omega
 rw [ea]
 change some (⟨w64 (sI fM A+fM m),w64 (sI fX A+w64 (fX m)),w64 (sI fY A+w64 (fY m)),w64 (sI fA A+w64 (fA m))⟩:Tw_sums)=_
 rw [w64_eq (n:=fX m) (by omega) (by omega),w64_eq (n:=fY m) (by omega) (by omega),w64_eq (n:=fA m) (by omega) (by omega),w64_eq (by omega) (by omega),w64_eq (by omega) (by omega),w64_eq (by omega) (by omega),w64_eq (by omega) (by omega)]
def tankLoad (p:TPn) (l:List Int) (i:Nat):TPm:=⟨(tkAt p i).f_X,(tkAt p i).f_Y,l.getD i 0 * (tkAt p i).fMa⟩
def tankLoads (p:TPn) (l:List Int):List TPm:=(List.range l.length).map (tankLoad p l)
def loadsOf (p:TPn) (l:List Int):List TPm:=p.fMs ++ tankLoads p l
theorem tkAt_ok {p:TPn} (hp:PontOK p) {i:Nat} (hi:i < p.fTk.length):TankOK (tkAt p i):=hp.ts _ (getD_mem _ _ _ hi)
theorem tankLoad_b {p:TPn} (hp:PontOK p) {l:List Int} (hs:StepsOK p l) {i:Nat} (hi:i < l.length):0≤l.getD i 0 * (tkAt p i).fMa∧l.getD i 0 * (tkAt p i).fMa≤12000000000:=by
 have ht:=tkAt_ok hp (i:=i) (by have:=hs.len;omega)
 have h1:=hs.lo i hi
 have h2:=hs.hi i hi
 have h3:=ht.s2
 have h4:=ht.m1
 have h5:=ht.m2
 refine ⟨Int.mul_nonneg h1 h4,?_⟩
 have:=Int.mul_le_mul (show l.getD i 0≤12 by omega) h5 h4 (by decide)
 omega
theorem loads_ok {p:TPn} (hp:PontOK p) {l:List Int} (hs:StepsOK p l):LoadsOK (loadsOf p l):=by
 have h1:=hp.nm
 have h2:=hp.nt
 have h3:=hs.len
 refine ⟨by simp [loadsOf,tankLoads];omega,fun m hm=>?_⟩
 rcases List.mem_append.1 hm with hm | hm
 ·have:=hp.ms m hm
  exact ⟨this.x1,this.x2,this.y1,this.y2,this.m1,by have:=this.m2;omega⟩
 ·obtain ⟨i,hi,rfl⟩:=List.mem_map.1 hm
  have hi:i < l.length:=by simpa using hi
  have ht:=tkAt_ok hp (i:=i) (by omega)
  have hb:=tankLoad_b hp hs hi
  exact ⟨ht.x1,ht.x2,ht.y1,ht.y2,hb.1,hb.2⟩
theorem tankLoads_get {p:TPn} {l:List Int} {i:Nat} (hi:i < l.length):(tankLoads p l).take (i+1)=(tankLoads p l).take i ++ [tankLoad p l i]:=by
 rw [take_getD _ i TPm.d (by simp [tankLoads];omega)]
 simp [tankLoads,hi]
theorem pick_st (l:List Int) {i:Nat} (hi:i < 6):pickI [(stOf l).e0,(stOf l).e1,(stOf l).e2,(stOf l).e3,(stOf l).e4,(stOf l).e5] i=l.getD i 0:=by
 match i,hi with
 | 0,_=>rfl
 | 1,_=>rfl
 | 2,_=>rfl
 | 3,_=>rfl
 | 4,_=>rfl
 | 5,_=>rfl
theorem sumOf_L2 {N:Nat} {p:TPn} (hp:PontOK p) {l:List Int} (hs:StepsOK p l):∀ (k i fuel:Nat),i+k=l.length→k < fuel →
  g_w_sumOf_L2 N p (stOf l) fuel (sumsOf (p.fMs ++ (tankLoads p l).take i)) (i:Int)=some (sumsOf (loadsOf p l))
 | 0,i,fuel,h,hf=>by
  obtain ⟨g,rfl⟩:∃ g,fuel=g+1:=⟨fuel - 1,by omega⟩
  have:i=l.length:=by omega
  subst this
  rw [g_w_sumOf_L2,hs.len,dec_nlt,cond_false,List.take_of_length_le (by simp [tankLoads,hs.len])];rfl
 | k+1,i,fuel,h,hf=>by
  obtain ⟨g,rfl⟩:∃ g,fuel=g+1:=⟨fuel - 1,by omega⟩
  have hi:i < l.length:=by omega
  have hlen:=hs.len
  have h6:=hp.nt
  have hb:=tankLoad_b hp hs hi
  rw [g_w_sumOf_L2,dec_lt (by omega),cond_true,if_pos (inb (by omega)),if_pos ⟨by omega,by omega⟩,toNat_nat,pick_st l (by omega)]
  have e:p.fTk.getD i TTank.d=tkAt p i:=rfl
  rw [e,w64_eq (n:=l.getD i 0 * (tkAt p i).fMa) (by omega) (by omega)]
  have st:=sum_step (N:=N) (A:=p.fMs ++ (tankLoads p l).take i) (m:=tankLoad p l i) (by
   rw [List.append_assoc,← tankLoads_get hi]
   refine (loads_ok hp hs).sub (fun m hm=>?_) ?_
   ·rcases List.mem_append.1 hm with hm | hm
    ·exact List.mem_append_left _ hm
    ·exact List.mem_append_right _ (List.mem_of_mem_take hm)
   ·simp [loadsOf];omega)
  change (g_w_sumOf_1 N (tankLoad p l i).f_X (tankLoad p l i).f_Y (tankLoad p l i).fMa (sumsOf (p.fMs ++ (tankLoads p l).take i))).bind _=_
  rw [st,Option.bind_some,List.append_assoc,← tankLoads_get hi,w64_succ (by omega)]
  exact sumOf_L2 hp hs k (i+1) g (by omega) (by omega)
theorem sumOf_L1 {N:Nat} (hN:40 < N) {p:TPn} (hp:PontOK p) {l:List Int} (hs:StepsOK p l):∀ (k i fuel:Nat),i+k=p.fMs.length→k < fuel →
  g_w_sumOf_L1 N p (stOf l) fuel (sumsOf (p.fMs.take i)) (i:Int)=some (sumsOf (loadsOf p l))
 | 0,i,fuel,h,hf=>by
  obtain ⟨g,rfl⟩:∃ g,fuel=g+1:=⟨fuel - 1,by omega⟩
  have:i=p.fMs.length:=by omega
  subst this
  have h6:=hp.nt
  have hlen:=hs.len
  have:=sumOf_L2 (N:=N) hp hs l.length 0 N (by omega) (by omega)
  rw [List.take_zero,List.append_nil] at this
  rw [g_w_sumOf_L1,dec_nlt,cond_false,List.take_length]
  exact this
 | k+1,i,fuel,h,hf=>by
  obtain ⟨g,rfl⟩:∃ g,fuel=g+1:=⟨fuel - 1,by omega⟩
  have hi:i < p.fMs.length:=by omega
  have h6:=hp.nm
  rw [g_w_sumOf_L1,dec_lt hi,cond_true,if_pos (inb hi),toNat_nat]
  have st:=sum_step (N:=N) (A:=p.fMs.take i) (m:=p.fMs.getD i TPm.d) (by
   rw [← take_getD _ _ _ hi]
   refine (loads_ok hp hs).sub (fun m hm=>List.mem_append_left _ (List.mem_of_mem_take hm)) ?_
   simp [loadsOf];omega)
  rw [st,Option.bind_some,← take_getD _ _ _ hi,w64_succ (by omega)]
  exact sumOf_L1 hN hp hs k (i+1) g (by omega) (by omega)
theorem sumOf_eq {N:Nat} (hN:40 < N) {p:TPn} (hp:PontOK p) {l:List Int} (hs:StepsOK p l):g_w_sumOf N p (stOf l)=some (sumsOf (loadsOf p l)) :=
 sumOf_L1 hN hp hs p.fMs.length 0 N (by omega) (by have:=hp.nm;omega)
end Go.Den
namespace Go.Den
open Go.Ab
def dQ (p:TPn) (L:List TPm):Rat:=pr [1000000000,sI fM L] / pr [p.fDsity,p.fLn,p.fBr]
def tQ (p:TPn) (L:List TPm):Rat:=pr [12000000000,sI fX L] / pr [p.fDsity,p.fBr,p.fLn,p.fLn,p.fLn]
def hQ (p:TPn) (L:List TPm):Rat:=pr [12000000000,sI fY L] / pr [p.fDsity,p.fLn,p.fBr,p.fBr,p.fBr]
def gQ (p:TPn) (L:List TPm):Rat:=pr [sI fA L] / pr [2] - pr [sI fM L,p.fLn] / pr [8]
def poseOf (p:TPn) (L:List TPm):TPose:=⟨ofQ (dQ p L),ofQ (tQ p L),ofQ (hQ p L),ofQ (gQ p L)⟩
theorem pr_ne:∀ {l:List Int},(∀ z∈l,z≠0)→pr l≠0
 | [],_=>by simp [pr]
 | a :: l,h=>by
  have h1:=h a (by simp)
  have h2:=pr_ne (l:=l) fun z hz=>h z (by simp [hz])
  intro e
  rcases Rat.mul_eq_zero.1 (show (a:Rat) * pr l=0 from e) with h3 | h3
  ·exact h1 (by exact_mod_cast h3)
  ·exact h2 h3
section
variable {p:TPn} {L:List TPm}
theorem PontOK.cs (hp:PontOK p):I64 p.fLn∧I64 p.fBr∧I64 p.fDsity∧p.fLn≠0∧p.fBr≠0∧p.fDsity≠0:=by
 have:=hp.l1;have:=hp.l2;have:=hp.b1;have:=hp.b2;have:=hp.d1;have:=hp.d2
 refine ⟨⟨?_,?_⟩,⟨?_,?_⟩,⟨?_,?_⟩,?_,?_,?_⟩<;>omega
theorem LoadsOK.cs (h:LoadsOK L):I64 (sI fM L)∧I64 (sI fX L)∧I64 (sI fY L)∧I64 (sI fA L):=by
 have:=h.M;have:=h.X;have:=h.Y;have:=h.A
 refine ⟨⟨?_,?_⟩,⟨?_,?_⟩,⟨?_,?_⟩,⟨?_,?_⟩⟩<;>omega
theorem b64 {z:Int} (h:z.natAbs≤9000000000000000000):I64 z:=⟨by omega,by omega⟩
theorem mem3 {P:Int→Prop} {a b c:Int} (ha:P a) (hb:P b) (hc:P c):∀ z∈[a,b,c],P z:=by simp_all
theorem mem2 {P:Int→Prop} {a b:Int} (ha:P a) (hb:P b):∀ z∈[a,b],P z:=by simp_all
theorem mem1 {P:Int→Prop} {a:Int} (ha:P a):∀ z∈[a],P z:=by simp_all
theorem mem5 {P:Int→Prop} {a b c d e:Int} (ha:P a) (hb:P b) (hc:P c) (hd:P d) (he:P e):∀ z∈[a,b,c,d,e],P z:=by simp_all
theorem d_rb (hp:PontOK p) (hL:LoadsOK L):RB (dQ p L) 30:=by
 obtain ⟨l1,l2,l3,n1,n2,n3⟩:=hp.cs
 exact ((pr_rb (mem2 (b64 (by decide)) hL.cs.1)).div (pr_rb (mem3 l3 l1 l2)) (pr_ne (mem3 n3 n1 n2))).le (by simp)
theorem t_rb (hp:PontOK p) (hL:LoadsOK L):RB (tQ p L) 30:=by
 obtain ⟨l1,l2,l3,n1,n2,n3⟩:=hp.cs
 exact ((pr_rb (mem2 (b64 (by decide)) hL.cs.2.1)).div (pr_rb (mem5 l3 l2 l1 l1 l1)) (pr_ne (mem5 n3 n2 n1 n1 n1))).le (by simp)
theorem h_rb (hp:PontOK p) (hL:LoadsOK L):RB (hQ p L) 30:=by
 obtain ⟨l1,l2,l3,n1,n2,n3⟩:=hp.cs
 exact ((pr_rb (mem2 (b64 (by decide)) hL.cs.2.2.1)).div (pr_rb (mem5 l3 l1 l2 l2 l2)) (pr_ne (mem5 n3 n1 n2 n2 n2))).le (by simp)
theorem hog_rb (hp:PontOK p) (hL:LoadsOK L):RB (gQ p L) 30:=by
 obtain ⟨l1,l2,l3,n1,n2,n3⟩:=hp.cs
 exact (((pr_rb (mem1 hL.cs.2.2.2)).div (pr_rb (mem1 (b64 (by decide)))) (pr_ne (mem1 (by decide)))).sub
  ((pr_rb (mem2 hL.cs.1 l1)).div (pr_rb (mem1 (b64 (by decide)))) (pr_ne (mem1 (by decide))))).le (by simp)
theorem quo_gv {a b:List Int} (ha:∀ z∈a,I64 z) (hb:∀ z∈b,I64 z) (h0:∀ z∈b,z≠0) (hl:a.length≤20) (hm:b.length≤20):Gv (fun N=>g_w_quotient N (ofQ (pr a)) (ofQ (pr b))) (ofQ (pr a / pr b)) :=
 quotient_gv ((pr_rb ha).rq (by omega)) ((pr_rb hb).rq (by omega)) (pr_ne h0) (by simp only [SM];omega)
theorem Float_ok {l:List Int} (h:pontCode p=0) (h2:stepsCode p l=0):Gv (fun N=>g_w_Float N p l) (poseOf p (loadsOf p l),0):=by
 have hp:=pont_ok h
 have hs:=steps_ok h2
 have hL:=loads_ok hp hs
 obtain ⟨l1,l2,l3,n1,n2,n3⟩:=hp.cs
 obtain ⟨c1,c2,c3,c4⟩:=hL.cs
 have k1:I64 1000000000:=b64 (by decide)
 have k2:I64 12000000000:=b64 (by decide)
 have k3:I64 2:=b64 (by decide)
 have k4:I64 8:=b64 (by decide)
 refine Gv.bind (.of 41 fun N hN=>checkPont_eq (by omega) p) (Gv.condF (by rw [h];rfl) ?_)
 refine Gv.bind (r:=(stOf l,0)) (.of 41 fun N hN=>by
  obtain ⟨s,e1,e2⟩:=checkSteps_eq (N:=N) (by omega) (l:=l) hp.nt
  rw [e1,e2 h2,h2]) (Gv.condF rfl ?_)
 refine Gv.bind (.of 41 fun N hN=>sumOf_eq (by omega) hp hs) ?_
 refine Gv.bind (product_gv (by simp) (mem2 k1 c1)) (Gv.bind (product_gv (by simp) (mem3 l3 l1 l2)) (Gv.bind (quo_gv (mem2 k1 c1) (mem3 l3 l1 l2) (mem3 n3 n1 n2) (by simp) (by simp)) ?_))
 refine Gv.bind (product_gv (by simp) (mem2 k2 c2)) (Gv.bind (product_gv (by simp) (mem5 l3 l2 l1 l1 l1)) (Gv.bind (quo_gv (mem2 k2 c2) (mem5 l3 l2 l1 l1 l1) (mem5 n3 n2 n1 n1 n1) (by simp) (by simp)) ?_))
 refine Gv.bind (product_gv (by simp) (mem2 k2 c3)) (Gv.bind (product_gv (by simp) (mem5 l3 l1 l2 l2 l2)) (Gv.bind (quo_gv (mem2 k2 c3) (mem5 l3 l1 l2 l2 l2) (mem5 n3 n1 n2 n2 n2) (by simp) (by simp)) ?_))
 refine Gv.bind (product_gv (by simp) (mem1 c4)) (Gv.bind (product_gv (by simp) (mem1 k3)) (Gv.bind (quo_gv (mem1 c4) (mem1 k3) (mem1 (by decide)) (by simp) (by simp)) ?_))
 refine Gv.bind (product_gv (by simp) (mem2 c1 l1)) (Gv.bind (product_gv (by simp) (mem1 k4)) (Gv.bind (quo_gv (mem2 c1 l1) (mem1 k4) (mem1 (by decide)) (by simp) (by simp)) ?_))
 have r1:=(pr_rb (mem1 c4)).div (pr_rb (mem1 k3)) (pr_ne (mem1 (by decide)))
 have r2:=(pr_rb (mem2 c1 l1)).div (pr_rb (mem1 k4)) (pr_ne (mem1 (by decide)))
 exact Gv.bind ((r1.rq (by simp)).sub (r2.rq (by simp)) (by simp [SM])) (Gv.pure _)
end
theorem tankLoads_len (p:TPn) (l:List Int):(tankLoads p l).length=l.length:=by simp [tankLoads]
theorem rloads_L1 {N:Nat} {p:TPn} (hp:PontOK p) {l:List Int} (hs:StepsOK p l):∀ (k i fuel:Nat),i+k=l.length→k < fuel →
  g_r05_loads_L1 N p l fuel (p.fMs ++ (tankLoads p l).take i) (i:Int)=some (loadsOf p l)
 | 0,i,fuel,h,hf=>by
  obtain ⟨g,rfl⟩:∃ g,fuel=g+1:=⟨fuel - 1,by omega⟩
  have:i=l.length:=by omega
  subst this
  rw [g_r05_loads_L1,dec_nlt,cond_false,List.take_of_length_le (by simp [tankLoads])];rfl
 | k+1,i,fuel,h,hf=>by
  obtain ⟨g,rfl⟩:∃ g,fuel=g+1:=⟨fuel - 1,by omega⟩
  have hi:i < l.length:=by omega
  have hlen:=hs.len
  have h6:=hp.nt
  have h7:=hp.nm
  have hb:=tankLoad_b hp hs hi
  have hln:(p.fMs ++ (tankLoads p l).take i).length≤26:=by rw [List.length_append,List.length_take,tankLoads_len];omega
  rw [g_r05_loads_L1,dec_lt hi,cond_true,if_pos (inb (show i < p.fTk.length by omega)),if_pos (inb hi),toNat_nat,if_pos (by omega)]
  have e:p.fTk.getD i TTank.d=tkAt p i:=rfl
  rw [e,w64_eq (n:=l.getD i 0 * (tkAt p i).fMa) (by omega) (by omega)]
  change g_r05_loads_L1 N p l g (p.fMs ++ (tankLoads p l).take i ++ [tankLoad p l i]) _=_
  rw [List.append_assoc,← tankLoads_get hi,w64_succ (by omega)]
  exact rloads_L1 hp hs k (i+1) g (by omega) (by omega)
theorem rloads_eq {N:Nat} (hN:40 < N) {p:TPn} (hp:PontOK p) {l:List Int} (hs:StepsOK p l):g_r05_loads N p l=some (loadsOf p l):=by
 have h6:=hp.nt
 have h7:=hp.nm
 have hlen:=hs.len
 unfold g_r05_loads
 rw [if_pos (by omega),List.nil_append]
 have:=rloads_L1 (N:=N) hp hs l.length 0 N (by omega) (by omega)
 rw [List.take_zero,List.append_nil] at this
 exact this
theorem size_eq {N:Nat} {n:Int} (h1:-1000000≤n) (h2:n≤1000000):g_r05_size N n=some (n.natAbs:Int):=by
 unfold g_r05_size
 by_cases h:n < 0
 ·rw [decide_eq_true h,cond_true,w64_eq (by omega) (by omega)];congr 1;omega
 ·rw [decide_eq_false h,cond_false];congr 1;omega
theorem pr1 (a:Int):pr [a]=(a:Rat):=by simp [pr]
theorem pr2 (a b:Int):pr [a,b]=((a * b:Int):Rat):=by simp [pr]
theorem sum_q (f:TPm→Int) {L:List TPm} {i:Nat} (hi:i < L.length):((sI f (L.take i):Int):Rat)+((f (L.getD i TPm.d):Int):Rat)=((sI f (L.take (i+1)):Int):Rat):=by
 rw [take_getD _ _ TPm.d hi,sI_append,sI_one,Rat.intCast_add]
section
variable {p:TPn} {L:List TPm}
theorem rFloat_L1 (hp:PontOK p) (hL:LoadsOK L):∀ (k i:Nat),i+k=L.length →
  Gv2 (fun N fuel=>g_r05_Float_L1 N p L fuel (ofQ (sI fM (L.take i):Int)) (ofQ (sI fX (L.take i):Int)) (ofQ (sI fY (L.take i):Int)) (ofQ (sI fA (L.take i):Int)) (i:Int)) (poseOf p L)
 | 0,i,hi=>by
  have:i=L.length:=by omega
  subst this
  obtain ⟨l1,l2,l3,n1,n2,n3⟩:=hp.cs
  obtain ⟨c1,c2,c3,c4⟩:=hL.cs
  have k1:I64 1000000000:=b64 (by decide)
  have k2:I64 12:=b64 (by decide)
  have k3:I64 2:=b64 (by decide)
  have k4:I64 8:=b64 (by decide)
  have e12:((12:Int):Rat) * ((1000000000:Int):Rat)=((12000000000:Int):Rat):=by rw [← Rat.intCast_mul];rfl
  rw [List.take_length]
  refine Gv2.succ (fun N g=>g_r05_Float_L1.eq_2 ..) (Gv2.condF dec_nlt (Gv2.one ?_))
  have b1:=rb_word k1
  have b2:=rb_word (z:=12000000000) (b64 (by decide))
  refine Gv.bind (rQ_gv k1) (Gv.bind (rQ_gv k2) (Gv.bind (((rb_word k2).rq (by decide)).rmul (b1.rq (by decide)) (by decide)) ?_))
  rw [e12]
  refine Gv.bind ((b1.rq (by decide)).rmul ((rb_word c1).rq (by decide)) (by decide)) (Gv.bind (rproduct_gv (by simp) (mem3 l3 l1 l2)) ?_)
  have q3:=pr_rb (mem3 l3 l1 l2)
  have q4:=pr_rb (mem5 l3 l2 l1 l1 l1)
  have q5:=pr_rb (mem5 l3 l1 l2 l2 l2)
  refine Gv.bind (((b1.mul (rb_word c1)).rq (by decide)).rdiv (q3.rq (by simp)) (pr_ne (mem3 n3 n1 n2)) (by simp [LM])) ?_
  refine Gv.bind ((b2.rq (by decide)).rmul ((rb_word c2).rq (by decide)) (by decide)) (Gv.bind (rproduct_gv (by simp) (mem5 l3 l2 l1 l1 l1)) ?_)
  refine Gv.bind (((b2.mul (rb_word c2)).rq (by decide)).rdiv (q4.rq (by simp)) (pr_ne (mem5 n3 n2 n1 n1 n1)) (by simp [LM])) ?_
  refine Gv.bind ((b2.rq (by decide)).rmul ((rb_word c3).rq (by decide)) (by decide)) (Gv.bind (rproduct_gv (by simp) (mem5 l3 l1 l2 l2 l2)) ?_)
  refine Gv.bind (((b2.mul (rb_word c3)).rq (by decide)).rdiv (q5.rq (by simp)) (pr_ne (mem5 n3 n1 n2 n2 n2)) (by simp [LM])) ?_
  have z2:((2:Int):Rat)≠0:=by decide
  have z8:((8:Int):Rat)≠0:=by decide
  refine Gv.bind (rQ_gv k3) (Gv.bind (((rb_word c4).rq (by decide)).rdiv ((rb_word k3).rq (by decide)) z2 (by decide)) ?_)
  refine Gv.bind (rQ_gv l1) (Gv.bind (((rb_word c1).rq (by decide)).rmul ((rb_word l1).rq (by decide)) (by decide)) ?_)
  refine Gv.bind (rQ_gv k4) (Gv.bind ((((rb_word c1).mul (rb_word l1)).rq (by decide)).rdiv ((rb_word k4).rq (by decide)) z8 (by decide)) ?_)
  refine Gv.bind ((((rb_word c4).div (rb_word k3) z2).rq (by decide)).rsub ((((rb_word c1).mul (rb_word l1)).div (rb_word k4) z8).rq (by decide)) (by decide)) ((Gv.pure _).eq ?_)
  unfold poseOf dQ tQ hQ gQ
  rw [pr2,pr2,pr2,pr2,pr1,pr1,pr1,Rat.intCast_mul,Rat.intCast_mul,Rat.intCast_mul,Rat.intCast_mul]
 | k+1,i,hi=>by
  have hin:i < L.length:=by omega
  have hlen:=hL.len
  have hm:=hL.ok _ (getD_mem L i TPm.d hin)
  have t1:=(hL.take i).cs
  have q1:=hm.m1;have q2:=hm.m2;have q3:=hm.x1;have q4:=hm.x2;have q5:=hm.y1;have q6:=hm.y2
  have w1:I64 (L.getD i TPm.d).fMa:=b64 (by omega)
  have w2:I64 (L.getD i TPm.d).f_X:=b64 (by omega)
  have w3:I64 (L.getD i TPm.d).f_Y:=b64 (by omega)
  have w4:I64 ((L.getD i TPm.d).f_X.natAbs:Int):=b64 (by omega)
  refine Gv2.succ (fun N g=>g_r05_Float_L1.eq_2 ..) (Gv2.condT (dec_lt hin) (Gv2.if (inb hin) ?_))
  rw [toNat_nat,w64_succ (by omega)]
  refine Gv2.bind (rQ_gv w1) (Gv2.bind (((rb_word t1.1).rq (by decide)).radd ((rb_word w1).rq (by decide)) (by decide)) ?_)
  refine Gv2.bind (rproduct_gv (by simp) (mem2 w1 w2)) (Gv2.bind (((rb_word t1.2.1).rq (by decide)).radd ((pr_rb (mem2 w1 w2)).rq (by simp)) (by simp [LM])) ?_)
  refine Gv2.bind (rproduct_gv (by simp) (mem2 w1 w3)) (Gv2.bind (((rb_word t1.2.2.1).rq (by decide)).radd ((pr_rb (mem2 w1 w3)).rq (by simp)) (by simp [LM])) ?_)
  refine Gv2.bind (.of 0 fun N _=>size_eq q3 q4) (Gv2.bind (rproduct_gv (by simp) (mem2 w1 w4)) (Gv2.bind (((rb_word t1.2.2.2).rq (by decide)).radd ((pr_rb (mem2 w1 w4)).rq (by simp)) (by simp [LM])) ?_))
  have s1:=sum_q fM hin
  have s2:=sum_q fX hin
  have s3:=sum_q fY hin
  have s4:=sum_q fA hin
  unfold fM at s1
  unfold fX at s2
  unfold fY at s3
  unfold fA at s4
  have ih:=rFloat_L1 hp hL k (i+1) (by omega)
  rw [pr2,pr2,pr2]
  unfold fM fX fY fA at ih ⊢
  rw [← s1,← s2,← s3,← s4] at ih
  exact ih
theorem rFloat_gv {l:List Int} (hp:PontOK p) (hs:StepsOK p l):Gv (fun N=>g_r05_Float N p l) (poseOf p (loadsOf p l)):=by
 have k0:I64 0:=b64 (by decide)
 refine Gv.bind (rQ_gv k0) (Gv.bind (rQ_gv k0) (Gv.bind (rQ_gv k0) (Gv.bind (rQ_gv k0) (Gv.bind (.of 41 fun N hN=>rloads_eq (by omega) hp hs) ?_))))
 exact (rFloat_L1 hp (loads_ok hp hs) (loadsOf p l).length 0 (by omega)).diag
end
end Go.Den
namespace Go.Den
open Go.Ab
def prz:List Int→Int
 | []=>1
 | a :: l=>a * prz l
theorem pr_z:∀ l:List Int,pr l=((prz l:Int):Rat)
 | []=>rfl
 | a :: l=>by rw [pr,prz,Rat.intCast_mul,pr_z l]
theorem prz_pos:∀ {l:List Int},(∀ z∈l,0 < z)→0 < prz l
 | [],_=>by decide
 | a :: l,h=>Int.mul_pos (h a (by simp)) (prz_pos fun z hz=>h z (by simp [hz]))
theorem prz_nn:∀ {l:List Int},(∀ z∈l,0≤z)→0≤prz l
 | [],_=>by decide
 | a :: l,h=>Int.mul_nonneg (h a (by simp)) (prz_nn fun z hz=>h z (by simp [hz]))
theorem prz_le {a B C:Int} {l:List Int} (h0:0≤prz l) (h1:0≤B) (ha:a≤B) (hl:prz l≤C):prz (a :: l)≤B * C :=
 Int.mul_le_mul ha hl h0 h1
theorem pr_pos {l:List Int} (h:∀ z∈l,0 < z):0 < pr l:=by
 rw [pr_z];exact_mod_cast prz_pos h
theorem le_divq {a X D:Rat} (h:0 < D):a≤X / D↔a * D≤X:=by
 rw [← Rat.not_lt,← Rat.not_lt,Rat.div_lt_iff h]
theorem divq_le {a X D:Rat} (h:0 < D):X / D≤a↔X≤a * D:=by
 rw [← Rat.not_lt,← Rat.not_lt,Rat.lt_div_iff h]
theorem mulq_le {a b c:Rat} (hc:0 < c):a * c≤b * c↔a≤b:=⟨fun h=>Rat.le_of_mul_le_mul_right h hc,fun h=>Rat.mul_le_mul_of_nonneg_right h (Rat.le_of_lt hc)⟩
theorem floor_rng {a b:List Int} {B:Int} (ha:0≤prz a) (hb:0 < prz b) (h:prz a < B * prz b):0≤(pr a / pr b).floor∧(pr a / pr b).floor < B:=by
 have hb':(0:Rat) < pr b:=by rw [pr_z];exact_mod_cast hb
 constructor
 ·rw [Rat.le_floor_iff,le_divq hb',pr_z,pr_z]
  exact_mod_cast (by omega:0 * prz b≤prz a)
 ·rw [Rat.floor_lt_iff,Rat.div_lt_iff hb',pr_z,pr_z]
  exact_mod_cast h
theorem whole_gv {x:TRat} {q:Rat} {n:Nat} (h:RQ x q n) (hs:SM (2 * n+2)) (h1:0≤q.floor) (h2:q.floor < 9000000000000000000):Gv (fun N=>g_w_whole N x) q.floor:=by
 have hz:=h.rb.floor.zi
 refine Gv.bind (h.floor hs) (Gv.bind (hz.small (by simp only [SM] at *;omega)) ((Gv.pure _).eq ?_))
 unfold smallV
 rw [if_pos ⟨by omega,by omega⟩]
def limCode (l:TLimits):Int :=
 cond (rng l.f_DraughtLeast 0 1000000 && rng l.f_DraughtMost 0 1000000 && rng l.f_TrimMost 0 1000 && rng l.f_HeelMost 0 1000 && rng l.f_HogMost 0 1000000000000000000) 0 2
theorem checkLimits_eq (N:Nat) (l:TLimits):g_w_checkLimits N l=some (limCode l):=by
 unfold g_w_checkLimits limCode
 simp only [between_eq,Option.bind_some]
 cases rng l.f_DraughtLeast 0 1000000<;>cases rng l.f_DraughtMost 0 1000000<;>cases rng l.f_TrimMost 0 1000<;>cases rng l.f_HeelMost 0 1000<;>cases rng l.f_HogMost 0 1000000000000000000<;>rfl
theorem refLimits_eq (N:Nat) (l:TLimits):g_r05_CheckLimits N l=some (limCode l):=by
 unfold g_r05_CheckLimits limCode
 simp only [inside_eq,Option.bind_some]
 cases rng l.f_DraughtLeast 0 1000000<;>cases rng l.f_DraughtMost 0 1000000<;>cases rng l.f_TrimMost 0 1000<;>cases rng l.f_HeelMost 0 1000<;>cases rng l.f_HogMost 0 1000000000000000000<;>rfl
structure LimOK (l:TLimits):Prop where
 a1:0≤l.f_DraughtLeast
 a2:l.f_DraughtLeast≤1000000
 b1:0≤l.f_DraughtMost
 b2:l.f_DraughtMost≤1000000
 t1:0≤l.f_TrimMost
 t2:l.f_TrimMost≤1000
 h1:0≤l.f_HeelMost
 h2:l.f_HeelMost≤1000
 g1:0≤l.f_HogMost
 g2:l.f_HogMost≤1000000000000000000
theorem lim_ok {l:TLimits} (h:limCode l=0):LimOK l:=by
 unfold limCode at h
 cases hc:(rng l.f_DraughtLeast 0 1000000 && rng l.f_DraughtMost 0 1000000 && rng l.f_TrimMost 0 1000 && rng l.f_HeelMost 0 1000 && rng l.f_HogMost 0 1000000000000000000) with
 | false=>rw [hc] at h;cases h
 | true =>
  simp only [Bool.and_eq_true,rng_iff] at hc
  obtain ⟨⟨⟨⟨⟨a,b⟩,c,d⟩,e,f⟩,g,i⟩,j,k⟩:=hc
  exact ⟨a,b,c,d,e,f,g,i,j,k⟩
def q1 (p:TPn) (d:Int):Rat:=pr [d,p.fDsity,p.fLn,p.fBr] / pr [1000000000]
def lowOf (p:TPn) (d:Int):Int:=cond (decide (sgn (((q1 p d).floor:Rat) - q1 p d) < 0)) ((q1 p d).floor+1) (q1 p d).floor
def tB (p:TPn) (t:Int):Rat:=pr [t,p.fDsity,p.fBr,p.fLn,p.fLn,p.fLn] / pr [12000000000,1000]
def hB (p:TPn) (t:Int):Rat:=pr [t,p.fDsity,p.fLn,p.fBr,p.fBr,p.fBr] / pr [12000000000,1000]
def boundsQ (p:TPn) (l:TLimits):Tw_bounds:=⟨lowOf p l.f_DraughtLeast,(q1 p l.f_DraughtMost).floor,(tB p l.f_TrimMost).floor,(hB p l.f_HeelMost).floor,8 * l.f_HogMost⟩
theorem mem4 {P:Int→Prop} {a b c d:Int} (ha:P a) (hb:P b) (hc:P c) (hd:P d):∀ z∈[a,b,c,d],P z:=by simp_all
theorem mem6 {P:Int→Prop} {a b c d e f:Int} (ha:P a) (hb:P b) (hc:P c) (hd:P d) (he:P e) (hf:P f):∀ z∈[a,b,c,d,e,f],P z:=by simp_all
section
variable {p:TPn} {L:List TPm}
theorem q1_b (hp:PontOK p) {d:Int} (h1:0≤d) (h2:d≤1000000):0≤(q1 p d).floor∧(q1 p d).floor < 1100000000001:=by
 have a1:=hp.l1;have a2:=hp.l2;have a3:=hp.b1;have a4:=hp.b2;have a5:=hp.d1;have a6:=hp.d2
 have n1:0≤prz [p.fBr]:=prz_nn (mem1 (by omega))
 have n2:0≤prz [p.fLn,p.fBr]:=prz_nn (mem2 (by omega) (by omega))
 have n3:0≤prz [p.fDsity,p.fLn,p.fBr]:=prz_nn (mem3 (by omega) (by omega) (by omega))
 have b1:=prz_le n3 (by decide) h2 (prz_le n2 (by decide) a6 (prz_le n1 (by decide) a2 (prz_le (l:=[]) (C:=1) (by decide) (by decide) a4 (by decide))))
 refine floor_rng (prz_nn (mem4 h1 (by omega) (by omega) (by omega))) (by decide) ?_
 have e:prz [1000000000]=1000000000:=by decide
 rw [e];omega
theorem tB_b {x y D t:Int} (h1:1≤x) (h2:x≤1000000) (h3:1≤y) (h4:y≤1000000) (h5:900≤D) (h6:D≤1100) (t1:0≤t) (t2:t≤1000) :
  0≤(pr [t,D,y,x,x,x] / pr [12000000000,1000]).floor∧(pr [t,D,y,x,x,x] / pr [12000000000,1000]).floor < 1000000000000000000:=by
 have n1:0≤prz [x]:=prz_nn (mem1 (by omega))
 have n2:0≤prz [x,x]:=prz_nn (mem2 (by omega) (by omega))
 have n3:0≤prz [x,x,x]:=prz_nn (mem3 (by omega) (by omega) (by omega))
 have n4:0≤prz [y,x,x,x]:=prz_nn (mem4 (by omega) (by omega) (by omega) (by omega))
 have n5:0≤prz [D,y,x,x,x]:=prz_nn (mem5 (by omega) (by omega) (by omega) (by omega) (by omega))
 have b1:=prz_le n5 (by decide) t2 (prz_le n4 (by decide) h6 (prz_le n3 (by decide) h4 (prz_le n2 (by decide) h2 (prz_le n1 (by decide) h2 (prz_le (l:=[]) (C:=1) (by decide) (by decide) h2 (by decide))))))
 refine floor_rng (prz_nn (mem6 t1 (by omega) (by omega) (by omega) (by omega) (by omega))) (by decide) ?_
 have e:prz [12000000000,1000]=12000000000000:=by decide
 rw [e];omega
theorem q1_rb (hp:PontOK p) {d:Int} (h1:0≤d) (h2:d≤1000000):RB (q1 p d) 30:=by
 obtain ⟨l1,l2,l3,-⟩:=hp.cs
 exact ((pr_rb (mem4 (b64 (by omega)) l3 l1 l2)).div (pr_rb (mem1 (b64 (by decide)))) (pr_ne (mem1 (by decide)))).le (by simp)
theorem draughts1_gv (hp:PontOK p) {d:Int} (h1:0≤d) (h2:d≤1000000):Gv (fun N=>g_w_draughts_1 N d p) (ofQ (q1 p d)):=by
 obtain ⟨l1,l2,l3,-⟩:=hp.cs
 have k1:I64 d:=b64 (by omega)
 have k2:I64 1000000000:=b64 (by decide)
 exact Gv.bind (product_gv (by simp) (mem4 k1 l3 l1 l2)) (Gv.bind (product_gv (by simp) (mem1 k2)) (Gv.bind (quo_gv (mem4 k1 l3 l1 l2) (mem1 k2) (mem1 (by decide)) (by simp) (by simp)) (Gv.pure _)))
theorem draughts_gv (hp:PontOK p) {d e:Int} (h1:0≤d) (h2:d≤1000000) (h3:0≤e) (h4:e≤1000000):Gv (fun N=>g_w_draughts N p d e) (lowOf p d,(q1 p e).floor):=by
 have r1:=q1_rb hp h1 h2
 have r2:=q1_rb hp h3 h4
 have b1:=q1_b hp h1 h2
 have b2:=q1_b hp h3 h4
 have k:I64 (q1 p d).floor:=b64 (by omega)
 have kp:=pr_rb (mem1 k)
 rw [pr1] at kp
 have fin:∀ low,Gv (fun N=>g_w_draughts_J1 N p e low) (low,(q1 p e).floor):=fun low =>
  Gv.bind (draughts1_gv hp h3 h4) (Gv.bind (whole_gv (r2.rq (by decide)) (by decide) b2.1 (by omega)) (Gv.pure _))
 refine Gv.bind (draughts1_gv hp h1 h2) (Gv.bind (whole_gv (r1.rq (by decide)) (by decide) b1.1 (by omega)) (Gv.bind (product_gv (by simp) (mem1 k)) (Gv.bind (draughts1_gv hp h1 h2) ?_)))
 rw [pr1]
 refine Gv.bind ((kp.rq (by simp)).cmp (r1.rq (by decide)) (by simp [SM])) ?_
 unfold lowOf
 cases hc:decide (sgn (((q1 p d).floor:Rat) - q1 p d) < 0) with
 | true=>refine Gv.condT rfl ((fin _).eq ?_);rw [w64_eq (by omega) (by omega)];rfl
 | false=>exact Gv.condF rfl (fin _)
theorem bounds_gv (hp:PontOK p) {l:TLimits} (hl:LimOK l):Gv (fun N=>g_w_boundsOf N p l) (boundsQ p l):=by
 obtain ⟨l1,l2,l3,-⟩:=hp.cs
 have k1:I64 l.f_TrimMost:=b64 (by have:=hl.t1;have:=hl.t2;omega)
 have k2:I64 l.f_HeelMost:=b64 (by have:=hl.h1;have:=hl.h2;omega)
 have k3:I64 12000000000:=b64 (by decide)
 have k4:I64 1000:=b64 (by decide)
 have b1:=tB_b hp.l1 hp.l2 hp.b1 hp.b2 hp.d1 hp.d2 hl.t1 hl.t2
 have b2:=tB_b hp.b1 hp.b2 hp.l1 hp.l2 hp.d1 hp.d2 hl.h1 hl.h2
 have r1:=(pr_rb (mem6 k1 l3 l2 l1 l1 l1)).div (pr_rb (mem2 k3 k4)) (pr_ne (mem2 (by decide) (by decide)))
 have r2:=(pr_rb (mem6 k2 l3 l1 l2 l2 l2)).div (pr_rb (mem2 k3 k4)) (pr_ne (mem2 (by decide) (by decide)))
 have g1:=hl.g1
 have g2:=hl.g2
 refine Gv.bind (draughts_gv hp hl.a1 hl.a2 hl.b1 hl.b2) ?_
 refine Gv.bind (product_gv (by simp) (mem6 k1 l3 l2 l1 l1 l1)) (Gv.bind (product_gv (by simp) (mem2 k3 k4)) (Gv.bind (quo_gv (mem6 k1 l3 l2 l1 l1 l1) (mem2 k3 k4) (mem2 (by decide) (by decide)) (by simp) (by simp)) (Gv.bind (whole_gv (r1.rq (by simp)) (by simp [SM]) b1.1 (by omega)) ?_)))
 refine Gv.bind (product_gv (by simp) (mem6 k2 l3 l1 l2 l2 l2)) (Gv.bind (product_gv (by simp) (mem2 k3 k4)) (Gv.bind (quo_gv (mem6 k2 l3 l1 l2 l2 l2) (mem2 k3 k4) (mem2 (by decide) (by decide)) (by simp) (by simp)) (Gv.bind (whole_gv (r2.rq (by simp)) (by simp [SM]) b2.1 (by omega)) ?_)))
 refine (Gv.pure _).eq ?_
 rw [w64_eq (by omega) (by omega)];rfl
def kD (p:TPn) (L:List TPm) (lo hi:Int):Bool:=cond (decide (sgn (dQ p L - (lo:Rat))≥0)) (decide (sgn (dQ p L - (hi:Rat))≤0)) false
def kA (x:Rat) (by' most:Int):Bool:=cond (decide (sgn (x * (by':Rat) - (most:Rat))≤0)) (decide (sgn (-(x * (by':Rat)) - (most:Rat))≤0)) false
theorem sgn_le {x y:Rat}:sgn (x - y)≤0↔x≤y:=by
 rw [← Int.not_lt,sgn_pos];grind
theorem sgn_ge {x y:Rat}:sgn (x - y)≥0↔y≤x:=by
 show 0≤sgn (x - y)↔_
 rw [← Int.not_lt,sgn_neg];grind
theorem kD_iff {lo hi:Int}:kD p L lo hi=true↔(lo:Rat)≤dQ p L∧dQ p L≤(hi:Rat):=by
 unfold kD
 by_cases h:sgn (dQ p L - (lo:Rat))≥0
 ·rw [decide_eq_true h,cond_true,decide_eq_true_eq,sgn_le]
  exact ⟨fun h2=>⟨sgn_ge.1 h,h2⟩,fun h2=>h2.2⟩
 ·rw [decide_eq_false h,cond_false]
  simp only [Bool.false_eq_true,false_iff,not_and]
  exact fun h2=>absurd (sgn_ge.2 h2) h
theorem kA_iff {x:Rat} {by' most:Int}:kA x by' most=true↔x * (by':Rat)≤(most:Rat)∧-(x * (by':Rat))≤(most:Rat):=by
 unfold kA
 by_cases h:sgn (x * (by':Rat) - (most:Rat))≤0
 ·rw [decide_eq_true h,cond_true,decide_eq_true_eq,sgn_le]
  exact ⟨fun h2=>⟨sgn_le.1 h,h2⟩,fun h2=>h2.2⟩
 ·rw [decide_eq_false h,cond_false]
  simp only [Bool.false_eq_true,false_iff,not_and]
  exact fun h2=>absurd (sgn_le.2 h2) h
theorem low_iff {d M:Int}:lowOf p d≤M↔q1 p d≤(M:Rat):=by
 unfold lowOf
 have hfl:=Rat.floor_le (q1 p d)
 by_cases h:sgn (((q1 p d).floor:Rat) - q1 p d) < 0
 ·rw [decide_eq_true h,cond_true]
  have h1:((q1 p d).floor:Rat) < q1 p d:=by have:=sgn_neg.1 h;grind
  have e:(q1 p d).floor+1≤M↔(q1 p d).floor < M:=by omega
  rw [e,Rat.floor_lt_iff]
  refine ⟨fun h=>Rat.le_of_lt h,fun h2=>?_⟩
  by_cases h3:q1 p d=(M:Rat)
  ·rw [h3,Rat.floor_intCast] at h1
   exact absurd h1 (Rat.lt_irrefl)
  ·exact Rat.lt_of_le_of_ne h2 h3
 ·rw [decide_eq_false h,cond_false]
  have h1:q1 p d=((q1 p d).floor:Rat):=by
   have:¬ (((q1 p d).floor:Rat) - q1 p d < 0):=fun hh=>h (sgn_neg.2 hh)
   grind
  constructor
  ·intro h2;rw [h1];exact_mod_cast h2
  ·intro h2;rw [h1] at h2;exact_mod_cast h2
theorem pos_cs (hp:PontOK p):0 < p.fLn∧0 < p.fBr∧0 < p.fDsity:=⟨by have:=hp.l1;omega,by have:=hp.b1;omega,by have:=hp.d1;omega⟩
theorem draught_iff (hp:PontOK p) {lo hi:Int}:(lowOf p lo≤sI fM L∧sI fM L≤(q1 p hi).floor)↔kD p L lo hi=true:=by
 obtain ⟨p1,p2,p3⟩:=pos_cs hp
 have hD:0 < pr [p.fDsity,p.fLn,p.fBr]:=pr_pos (mem3 p3 p1 p2)
 have hB:(0:Rat) < pr [1000000000]:=pr_pos (mem1 (by decide))
 have e1:pr [1000000000,sI fM L]=((sI fM L:Int):Rat) * pr [1000000000]:=by simp only [pr];grind
 rw [kD_iff,low_iff,Rat.le_floor_iff]
 unfold q1 dQ
 rw [divq_le hB,le_divq hB,le_divq hD,divq_le hD,e1]
 exact Iff.rfl
theorem floor_abs {X:Int} {R:Rat}:(-R.floor≤X∧X≤R.floor)↔(-(X:Rat)≤R∧(X:Rat)≤R):=by
 have h1:X≤R.floor↔(X:Rat)≤R:=Rat.le_floor_iff
 have h2:-X≤R.floor↔((-X:Int):Rat)≤R:=Rat.le_floor_iff
 rw [Rat.intCast_neg] at h2
 rw [h1,← h2]
 refine and_congr_left fun _=>?_
 omega
theorem slope_iff {P:Rat} (hP:0 < P) {X t:Int}:(-(((t:Rat) * P) / pr [12000000000,1000]).floor≤X∧X≤(((t:Rat) * P) / pr [12000000000,1000]).floor)↔kA (pr [12000000000,X] / P) 1000 t=true:=by
 have hB:(0:Rat) < pr [12000000000,1000]:=pr_pos (mem2 (by decide) (by decide))
 rw [floor_abs,kA_iff,le_divq hB,le_divq hB]
 generalize hs:pr [12000000000,X] / P=s
 have hsP:s * P=pr [12000000000,X]:=by rw [← hs,Rat.div_mul_cancel (Rat.ne_of_gt hP)]
 have e1:pr [12000000000,1000]=12000000000 * 1000:=by simp [pr]
 have e2:pr [12000000000,X]=12000000000 * (X:Rat):=by simp [pr]
 rw [e2] at hsP
 rw [e1]
 have k1:s * ((1000:Int):Rat)≤(t:Rat)↔s * ((1000:Int):Rat) * P≤(t:Rat) * P:=(mulq_le hP).symm
 have k2:-(s * ((1000:Int):Rat))≤(t:Rat)↔-(s * ((1000:Int):Rat)) * P≤(t:Rat) * P:=(mulq_le hP).symm
 rw [k1,k2]
 have e3:((1000:Int):Rat)=1000:=rfl
 rw [e3]
 have f1:s * 1000 * P=(X:Rat) * (12000000000 * 1000):=by grind
 have f2:-(s * 1000) * P = -(X:Rat) * (12000000000 * 1000):=by grind
 rw [f1,f2]
 exact and_comm
theorem trim_iff (hp:PontOK p) {t:Int}:(-(tB p t).floor≤sI fX L∧sI fX L≤(tB p t).floor)↔kA (tQ p L) 1000 t=true:=by
 obtain ⟨p1,p2,p3⟩:=pos_cs hp
 exact slope_iff (pr_pos (mem5 p3 p2 p1 p1 p1))
theorem heel_iff (hp:PontOK p) {t:Int}:(-(hB p t).floor≤sI fY L∧sI fY L≤(hB p t).floor)↔kA (hQ p L) 1000 t=true:=by
 obtain ⟨p1,p2,p3⟩:=pos_cs hp
 exact slope_iff (pr_pos (mem5 p3 p1 p2 p2 p2))
theorem hog_iff {g:Int}:(-(8 * g)≤4 * sI fA L - sI fM L * p.fLn∧4 * sI fA L - sI fM L * p.fLn≤8 * g)↔kA (gQ p L) 1 g=true:=by
 rw [kA_iff]
 have e:8 * gQ p L=((4 * sI fA L - sI fM L * p.fLn:Int):Rat):=by
  unfold gQ
  rw [pr1,pr1,pr1,pr2]
  push_cast
  grind
 generalize 4 * sI fA L - sI fM L * p.fLn=V at *
 have h1:(-(8 * g)≤V)↔-(8 * (g:Rat))≤(V:Rat):=by
  constructor
  ·intro h;exact_mod_cast h
  ·intro h;exact_mod_cast h
 have h2:(V≤8 * g)↔(V:Rat)≤8 * (g:Rat):=by
  constructor
  ·intro h;exact_mod_cast h
  ·intro h;exact_mod_cast h
 rw [h1,h2,← e]
 have e1:((1:Int):Rat)=1:=rfl
 rw [e1]
 constructor
 ·rintro ⟨a,b⟩;constructor<;>grind
 ·rintro ⟨a,b⟩;constructor<;>grind
end
end Go.Den
namespace Go.Den
open Go.Ab
def bit4 (a b c d:Bool):Int:=cond a 1 0+cond b 2 0+cond c 4 0+cond d 8 0
def names4 (a b c d:Bool):List ByteArray :=
 (((cond a [] [(⟨#[100,114,97,117,103,104,116]⟩:ByteArray)]) ++ cond b [] [(⟨#[116,114,105,109]⟩:ByteArray)]) ++ cond c [] [(⟨#[104,101,101,108]⟩:ByteArray)]) ++ cond d [] [(⟨#[104,111,103]⟩:ByteArray)]
theorem bit4_all {a b c d:Bool}:(bit4 a b c d == 15)=decide ((names4 a b c d).length=0):=by
 cases a<;>cases b<;>cases c<;>cases d<;>rfl
section
variable {p:TPn} {l:TLimits} {st:List Int}
def nmOf (p:TPn) (l:TLimits) (L:List TPm):List ByteArray:=names4 (kD p L l.f_DraughtLeast l.f_DraughtMost) (kA (tQ p L) 1000 l.f_TrimMost) (kA (hQ p L) 1000 l.f_HeelMost) (kA (gQ p L) 1 l.f_HogMost)
def btOf (p:TPn) (l:TLimits) (L:List TPm):Int:=bit4 (kD p L l.f_DraughtLeast l.f_DraughtMost) (kA (tQ p L) 1000 l.f_TrimMost) (kA (hQ p L) 1000 l.f_HeelMost) (kA (gQ p L) 1 l.f_HogMost)
theorem kept_eq {N:Nat} (hN:40 < N) (hp:PontOK p) (hl:LimOK l) (hs:StepsOK p st):g_w_bounds_kept N (boundsQ p l) p (stOf st)=some (btOf p l (loadsOf p st)):=by
 have hL:=loads_ok hp hs
 generalize hLL:loadsOf p st=L at *
 have e0:=sumOf_eq hN hp hs
 rw [hLL] at e0
 have b1:=tB_b hp.l1 hp.l2 hp.b1 hp.b2 hp.d1 hp.d2 hl.t1 hl.t2
 have b2:=tB_b hp.b1 hp.b2 hp.l1 hp.l2 hp.d1 hp.d2 hl.h1 hl.h2
 have g1:=hl.g1
 have g2:=hl.g2
 have cA:=hL.A
 have cM:(sI fM L * p.fLn).natAbs≤312000000000 * 1000000:=by
  have:=hL.M;have:=hp.l1;have:=hp.l2
  rw [Int.natAbs_mul]
  exact Nat.mul_le_mul (by omega) (by omega)
 have r1:rng (sI fM L) (lowOf p l.f_DraughtLeast) (q1 p l.f_DraughtMost).floor=kD p L l.f_DraughtLeast l.f_DraughtMost:=by
  rw [Bool.eq_iff_iff,rng_iff];exact draught_iff hp
 have r2:rng (sI fX L) (w64 (0 - (tB p l.f_TrimMost).floor)) (tB p l.f_TrimMost).floor=kA (tQ p L) 1000 l.f_TrimMost:=by
  rw [w64_eq (by unfold tB;omega) (by unfold tB;omega),Int.zero_sub,Bool.eq_iff_iff,rng_iff];exact trim_iff hp
 have r3:rng (sI fY L) (w64 (0 - (hB p l.f_HeelMost).floor)) (hB p l.f_HeelMost).floor=kA (hQ p L) 1000 l.f_HeelMost:=by
  rw [w64_eq (by unfold hB;omega) (by unfold hB;omega),Int.zero_sub,Bool.eq_iff_iff,rng_iff];exact heel_iff hp
 have r4:rng (w64 (w64 (4 * sI fA L) - w64 (sI fM L * p.fLn))) (w64 (0 - 8 * l.f_HogMost)) (8 * l.f_HogMost)=kA (gQ p L) 1 l.f_HogMost:=by
  rw [w64_eq (n:=4 * sI fA L) (by omega) (by omega),w64_eq (n:=sI fM L * p.fLn) (by omega) (by omega),w64_eq (n:=0 - 8 * l.f_HogMost) (by omega) (by omega),w64_eq (by omega) (by omega),Int.zero_sub,Bool.eq_iff_iff,rng_iff]
  exact hog_iff
 unfold g_w_bounds_kept
 simp only [e0,Option.bind_some,between_eq,g_w_bounds_kept_J1,g_w_bounds_kept_J2,g_w_bounds_kept_J3,g_w_bounds_kept_J4]
 change cond (rng (sI fM L) (lowOf p l.f_DraughtLeast) (q1 p l.f_DraughtMost).floor) (cond (rng (sI fX L) (w64 (0 - (tB p l.f_TrimMost).floor)) (tB p l.f_TrimMost).floor) (cond (rng (sI fY L) (w64 (0 - (hB p l.f_HeelMost).floor)) (hB p l.f_HeelMost).floor) (cond (rng (w64 (w64 (4 * sI fA L) - w64 (sI fM L * p.fLn))) (w64 (0 - 8 * l.f_HogMost)) (8 * l.f_HogMost)) _ _) (cond (rng (w64 (w64 (4 * sI fA L) - w64 (sI fM L * p.fLn))) (w64 (0 - 8 * l.f_HogMost)) (8 * l.f_HogMost)) _ _)) (cond (rng (sI fY L) (w64 (0 - (hB p l.f_HeelMost).floor)) (hB p l.f_HeelMost).floor) (cond (rng (w64 (w64 (4 * sI fA L) - w64 (sI fM L * p.fLn))) (w64 (0 - 8 * l.f_HogMost)) (8 * l.f_HogMost)) _ _) (cond (rng (w64 (w64 (4 * sI fA L) - w64 (sI fM L * p.fLn))) (w64 (0 - 8 * l.f_HogMost)) (8 * l.f_HogMost)) _ _)))
  (cond (rng (sI fX L) (w64 (0 - (tB p l.f_TrimMost).floor)) (tB p l.f_TrimMost).floor) (cond (rng (sI fY L) (w64 (0 - (hB p l.f_HeelMost).floor)) (hB p l.f_HeelMost).floor) (cond (rng (w64 (w64 (4 * sI fA L) - w64 (sI fM L * p.fLn))) (w64 (0 - 8 * l.f_HogMost)) (8 * l.f_HogMost)) _ _) (cond (rng (w64 (w64 (4 * sI fA L) - w64 (sI fM L * p.fLn))) (w64 (0 - 8 * l.f_HogMost)) (8 * l.f_HogMost)) _ _)) (cond (rng (sI fY L) (w64 (0 - (hB p l.f_HeelMost).floor)) (hB p l.f_HeelMost).floor) (cond (rng (w64 (w64 (4 * sI fA L) - w64 (sI fM L * p.fLn))) (w64 (0 - 8 * l.f_HogMost)) (8 * l.f_HogMost)) _ _) (cond (rng (w64 (w64 (4 * sI fA L) - w64 (sI fM L * p.fLn))) (w64 (0 - 8 * l.f_HogMost)) (8 * l.f_HogMost)) _ _)))=_
 rw [r1,r2,r3,r4]
 unfold btOf
 cases kD p L l.f_DraughtLeast l.f_DraughtMost<;>cases kA (tQ p L) 1000 l.f_TrimMost<;>cases kA (hQ p L) 1000 l.f_HeelMost<;>cases kA (gQ p L) 1 l.f_HogMost<;>kernel_rfl
theorem rBt_gv {q:Rat} (hq:RB q 30) {lo hi:Int} (h1:I64 lo) (h2:I64 hi) :
  Gv (fun N=>g_r05_between N (ofQ q) lo hi) (cond (decide (sgn (q - (lo:Rat))≥0)) (decide (sgn (q - (hi:Rat))≤0)) false):=by
 refine Gv.bind (rQ_gv h1) (Gv.bind ((hq.rq (by decide)).rcmp ((rb_word h1).rq (by decide)) (by decide)) ?_)
 cases hc:decide (sgn (q - (lo:Rat))≥0) with
 | true=>exact Gv.bind (Gv.condT rfl (rQ_gv h2)) (Gv.bind (Gv.condT rfl ((hq.rq (by decide)).rcmp ((rb_word h2).rq (by decide)) (by decide))) (Gv.pure _))
 | false=>exact Gv.bind (Gv.condF rfl (Gv.pure _)) (Gv.bind (Gv.condF rfl (Gv.pure _)) (Gv.pure _))
theorem ratMost_gv {q:Rat} (hq:RB q 30) {b m:Int} (h1:I64 b) (h2:I64 m):Gv (fun N=>g_r05_atMost N (ofQ q) b m) (kA q b m):=by
 have hm:=hq.mul (rb_word h1)
 unfold kA
 refine Gv.bind (rQ_gv h1) (Gv.bind ((hq.rq (by decide)).rmul ((rb_word h1).rq (by decide)) (by decide)) (Gv.bind (rQ_gv h2) (Gv.bind ((hm.rq (by decide)).rcmp ((rb_word h2).rq (by decide)) (by decide)) ?_)))
 cases hc:decide (sgn (q * (b:Rat) - (m:Rat))≤0) with
 | true=>exact Gv.bind (Gv.condT rfl ((hm.rq (by decide)).rneg (by decide))) (Gv.bind (Gv.condT rfl (rQ_gv h2)) (Gv.bind (Gv.condT rfl ((hm.neg.rq (by decide)).rcmp ((rb_word h2).rq (by decide)) (by decide))) (Gv.pure _)))
 | false=>exact Gv.bind (Gv.condF rfl (Gv.pure _)) (Gv.bind (Gv.condF rfl (Gv.pure _)) (Gv.bind (Gv.condF rfl (Gv.pure _)) (Gv.pure _)))
theorem rb_J3 {L:List TPm} (hp:PontOK p) (hl:LimOK l) (hL:LoadsOK L) {o:List ByteArray} (ho:o.length≤10) :
  Gv (fun N=>g_r05_Broken_J3 N l (poseOf p L) o) (o ++ cond (kA (gQ p L) 1 l.f_HogMost) [] [(⟨#[104,111,103]⟩:ByteArray)]):=by
 refine Gv.bind (ratMost_gv (hog_rb hp hL) (b64 (by decide)) (b64 (by have:=hl.g1;have:=hl.g2;omega))) ?_
 cases kA (gQ p L) 1 l.f_HogMost with
 | true=>exact Gv.condF rfl ((Gv.pure _).eq (by simp))
 | false=>exact Gv.condT rfl (Gv.if (by omega) (Gv.pure _))
theorem rb_J2 {L:List TPm} (hp:PontOK p) (hl:LimOK l) (hL:LoadsOK L) {o:List ByteArray} (ho:o.length≤9) :
  Gv (fun N=>g_r05_Broken_J2 N l (poseOf p L) o) ((o ++ cond (kA (hQ p L) 1000 l.f_HeelMost) [] [(⟨#[104,101,101,108]⟩:ByteArray)]) ++ cond (kA (gQ p L) 1 l.f_HogMost) [] [(⟨#[104,111,103]⟩:ByteArray)]):=by
 refine Gv.bind (ratMost_gv (h_rb hp hL) (b64 (by decide)) (b64 (by have:=hl.h1;have:=hl.h2;omega))) ?_
 cases kA (hQ p L) 1000 l.f_HeelMost with
 | true=>exact Gv.condF rfl ((rb_J3 hp hl hL (by omega)).eq (by simp))
 | false=>exact Gv.condT rfl (Gv.if (by omega) (rb_J3 hp hl hL (by simp;omega)))
theorem rb_J1 {L:List TPm} (hp:PontOK p) (hl:LimOK l) (hL:LoadsOK L) {o:List ByteArray} (ho:o.length≤8) :
  Gv (fun N=>g_r05_Broken_J1 N l (poseOf p L) o) (((o ++ cond (kA (tQ p L) 1000 l.f_TrimMost) [] [(⟨#[116,114,105,109]⟩:ByteArray)]) ++ cond (kA (hQ p L) 1000 l.f_HeelMost) [] [(⟨#[104,101,101,108]⟩:ByteArray)]) ++ cond (kA (gQ p L) 1 l.f_HogMost) [] [(⟨#[104,111,103]⟩:ByteArray)]):=by
 refine Gv.bind (ratMost_gv (t_rb hp hL) (b64 (by decide)) (b64 (by have:=hl.t1;have:=hl.t2;omega))) ?_
 cases kA (tQ p L) 1000 l.f_TrimMost with
 | true=>exact Gv.condF rfl ((rb_J2 hp hl hL (by omega)).eq (by simp))
 | false=>exact Gv.condT rfl (Gv.if (by omega) (rb_J2 hp hl hL (by simp;omega)))
theorem rBroken_gv (hp:PontOK p) (hl:LimOK l) (hs:StepsOK p st):Gv (fun N=>g_r05_Broken N p l st) (nmOf p l (loadsOf p st)):=by
 have hL:=loads_ok hp hs
 refine Gv.bind (rFloat_gv hp hs) (Gv.bind (r:=kD p (loadsOf p st) l.f_DraughtLeast l.f_DraughtMost) (rBt_gv (d_rb hp hL) (b64 (by have:=hl.a1;have:=hl.a2;omega)) (b64 (by have:=hl.b1;have:=hl.b2;omega))) ?_)
 unfold nmOf names4
 cases kD p (loadsOf p st) l.f_DraughtLeast l.f_DraughtMost with
 | true=>exact Gv.condF rfl (rb_J1 hp hl hL (by simp))
 | false=>exact Gv.condT rfl (rb_J1 hp hl hL (by simp))
end
theorem few_gv2 (p:TPn):∃ b,Gv (fun N=>g_w05_fewMasses N p) b∧(b=true→p.fMs.length≤25):=by
 unfold g_w05_fewMasses
 cases hc:cond (decide (((p.fMs.length:Nat):Int) > 25)) true (decide (((p.fTk.length:Nat):Int) > 10)) with
 | true=>exact ⟨false,Gv.condT rfl (Gv.pure _),fun h=>by cases h⟩
 | false =>
  have hm:p.fMs.length≤25:=by
   cases h1:decide (((p.fMs.length:Nat):Int) > 25)<;>rw [h1] at hc<;>simp at hc h1;omega
  have ht:p.fTk.length≤10:=by
   cases h1:decide (((p.fMs.length:Nat):Int) > 25)<;>rw [h1] at hc<;>simp at hc;omega
  refine ⟨scan (fun m=>cond (decide ((((tkAt p m).f_Name.size:Nat):Int) > 40)) (some false) none) true p.fTk.length 0,Gv.condF rfl (.of 11 fun N hN=>?_),fun _=>hm⟩
  refine loop_scan0 (L:=fun fuel=>g_w05_fewMasses_L1 N p fuel) _ _ (by omega) (fun fuel m hm=>?_) (fun fuel=>?_)
  ·simp only [g_w05_fewMasses_L1,dec_lt hm,cond_true,if_pos (inb hm),toNat_nat,w64_succ (show m < 9223372036854775807 by omega)]
   change cond (decide ((((tkAt p m).f_Name.size:Nat):Int) > 40)) _ _=_
   cases decide ((((tkAt p m).f_Name.size:Nat):Int) > 40)<;>rfl
  ·simp only [g_w05_fewMasses_L1,dec_nlt,cond_false]
theorem few_gv (p:TPn):∃ b,Gv (fun N=>g_w05_fewMasses N p) b:=let ⟨b,h,_⟩:=few_gv2 p;⟨b,h⟩
def exP:TPn:=⟨100000,20000,1000,[⟨0,0,2000000⟩],[]⟩
theorem afloat_gv:Gv (fun N=>g_w05_afloat N) true:=by
 have hp:pontCode exP=0:=by decide
 have hs:stepsCode exP []=0:=by decide
 have hL:=loads_ok (pont_ok hp) (steps_ok hs)
 have e1:dQ exP (loadsOf exP [])=((1000:Int):Rat):=by
  have:pr [1000000000,sI fM (loadsOf exP [])] / pr [1000,100000,20000]=((1000:Int):Rat):=by
   have e:sI fM (loadsOf exP [])=2000000:=by decide
   rw [e];simp only [pr];decide +kernel
  exact this
 have e2:gQ exP (loadsOf exP [])=((-25000000000:Int):Rat):=by
  have:pr [sI fA (loadsOf exP [])] / pr [2] - pr [sI fM (loadsOf exP []),100000] / pr [8]=((-25000000000:Int):Rat):=by
   have e:sI fM (loadsOf exP [])=2000000:=by decide
   have e':sI fA (loadsOf exP [])=0:=by decide
   rw [e,e'];simp only [pr];decide +kernel
  exact this
 have r1:=d_rb (pont_ok hp) hL
 have r2:=hog_rb (pont_ok hp) hL
 have h1:(poseOf exP (loadsOf exP [])).f_Draught=ofQ ((1000:Int):Rat):=by rw [← e1];rfl
 have h2:(poseOf exP (loadsOf exP [])).f_Hog=ofQ ((-25000000000:Int):Rat):=by rw [← e2];rfl
 rw [e1] at r1
 rw [e2] at r2
 have s1:Gv (fun N=>g_b_SameRat N (poseOf exP (loadsOf exP [])).f_Draught (ofQ ((1000:Int):Rat))) true:=by rw [h1];exact SameQ_gv r1 (by decide)
 have s2:Gv (fun N=>g_b_SameRat N (poseOf exP (loadsOf exP [])).f_Hog (ofQ ((-25000000000:Int):Rat))) true:=by rw [h2];exact SameQ_gv r2 (by decide)
 refine Gv.bind (Float_ok hp hs) ?_
 refine Gv.bind (Gv.condT rfl (W_gv (by decide) (by decide))) ?_
 refine Gv.bind (Gv.condT rfl s1) ?_
 refine Gv.bind (Gv.condT rfl (W_gv (by decide) (by decide))) ?_
 exact Gv.bind (Gv.condT rfl s2) (Gv.pure _)
end Go.Den
namespace Go.Den
open Go.Ab
def aimOk (a:TAim):Bool:=rng a.f_DraughtLeast 0 1000000 && rng a.f_DraughtMost 0 1000000
def aimCode (a:TAim):Int:=cond (aimOk a) 0 2
def beginCode (p:TPn) (l:TLimits) (a:TAim):Int :=
 cond (pontCode p != 0) (pontCode p) (cond (limCode l != 0) (limCode l) (cond (stepsCode p a.f_Start != 0) (stepsCode p a.f_Start) (aimCode a)))
theorem rbegin_eq {N:Nat} (hN:40 < N) (p:TPn) (l:TLimits) (a:TAim):g_r05_CheckBegin N p l a=some (beginCode p l a):=by
 unfold g_r05_CheckBegin beginCode
 rw [refPont_eq hN,Option.bind_some]
 cases hc:pontCode p != 0 with
 | true=>rfl
 | false =>
  rw [refLimits_eq,Option.bind_some,cond_false,cond_false]
  cases limCode l != 0 with
  | true=>rfl
  | false =>
   have hp:=pont_ok (show pontCode p=0 by simpa using hc)
   rw [cond_false,cond_false]
   unfold g_r05_CheckAim aimCode aimOk
   rw [refSteps_eq hN hp.nt,Option.bind_some]
   cases stepsCode p a.f_Start != 0 with
   | true=>rfl
   | false =>
    simp only [inside_eq,Option.bind_some]
    cases rng a.f_DraughtLeast 0 1000000<;>cases rng a.f_DraughtMost 0 1000000<;>rfl
structure AimOK (a:TAim):Prop where
 a1:0≤a.f_DraughtLeast
 a2:a.f_DraughtLeast≤1000000
 b1:0≤a.f_DraughtMost
 b2:a.f_DraughtMost≤1000000
def planOf (p:TPn) (l:TLimits) (a:TAim):Tw_plan:=⟨p,boundsQ p l,stOf a.f_Start,lowOf p a.f_DraughtLeast,(q1 p a.f_DraughtMost).floor⟩
theorem begin_zero {p:TPn} {l:TLimits} {a:TAim} (h:beginCode p l a=0):pontCode p=0∧limCode l=0∧stepsCode p a.f_Start=0∧AimOK a:=by
 unfold beginCode at h
 by_cases h1:pontCode p=0
 ·rw [show (pontCode p != 0)=false by simp [h1],cond_false] at h
  by_cases h2:limCode l=0
  ·rw [show (limCode l != 0)=false by simp [h2],cond_false] at h
   by_cases h3:stepsCode p a.f_Start=0
   ·rw [show (stepsCode p a.f_Start != 0)=false by simp [h3],cond_false] at h
    unfold aimCode aimOk at h
    refine ⟨h1,h2,h3,?_⟩
    cases hc:(rng a.f_DraughtLeast 0 1000000 && rng a.f_DraughtMost 0 1000000) with
    | false=>rw [hc] at h;cases h
    | true =>
     simp only [Bool.and_eq_true,rng_iff] at hc
     exact ⟨hc.1.1,hc.1.2,hc.2.1,hc.2.2⟩
   ·rw [show (stepsCode p a.f_Start != 0)=true by simpa using h3,cond_true] at h;exact absurd h h3
  ·rw [show (limCode l != 0)=true by simpa using h2,cond_true] at h;exact absurd h h2
 ·rw [show (pontCode p != 0)=true by simpa using h1,cond_true] at h;exact absurd h h1
theorem open_gv (p:TPn) (l:TLimits) (a:TAim):∃ t,Gv (fun N=>g_w_open N p l a) (t,beginCode p l a)∧(beginCode p l a=0→t=planOf p l a):=by
 unfold beginCode
 by_cases h1:pontCode p=0
 ·rw [show (pontCode p != 0)=false by simp [h1],cond_false]
  have hp:=pont_ok h1
  by_cases h2:limCode l=0
  ·rw [show (limCode l != 0)=false by simp [h2],cond_false]
   by_cases h3:stepsCode p a.f_Start=0
   ·rw [show (stepsCode p a.f_Start != 0)=false by simp [h3],cond_false]
    unfold aimCode aimOk
    have go:∀ {x:Tw_plan×Int},Gv (fun N=>(cond (cond (!rng a.f_DraughtLeast 0 1000000) true (!rng a.f_DraughtMost 0 1000000))
      (some ((⟨(⟨0,0,0,[],[]⟩:TPn),(⟨0,0,0,0,0⟩:Tw_bounds),(⟨0,0,0,0,0,0⟩:Tw_state),0,0⟩:Tw_plan),2))
      ((g_w_boundsOf N p l).bind fun rboundsOf=>(g_w_draughts N p a.f_DraughtLeast a.f_DraughtMost).bind fun rdraughts=>some ((⟨p,rboundsOf,stOf a.f_Start,rdraughts.1,rdraughts.2⟩:Tw_plan),0)))) x→Gv (fun N=>g_w_open N p l a) x:=by
     intro x hx
     refine Gv.bind (.of 41 fun N hN=>checkPont_eq (by omega) p) (Gv.condF (by rw [h1];rfl) (Gv.bind (.of 41 fun N hN=>checkLimits_eq N l) (Gv.condF (by rw [h2];rfl) (Gv.bind (r:=(stOf a.f_Start,0)) (.of 41 fun N hN=>by
      obtain ⟨s,e1,e2⟩:=checkSteps_eq (N:=N) (by omega) (l:=a.f_Start) hp.nt
      rw [e1,e2 h3,h3]) (Gv.condF rfl ?_)))))
     refine hx.congr fun N=>?_
     simp only [between_eq,Option.bind_some]
     cases rng a.f_DraughtLeast 0 1000000<;>rfl
    by_cases ha:(rng a.f_DraughtLeast 0 1000000 && rng a.f_DraughtMost 0 1000000)=true
    ·rw [ha]
     simp only [Bool.and_eq_true] at ha
     have r1:=rng_iff.1 ha.1
     have r2:=rng_iff.1 ha.2
     refine ⟨planOf p l a,go ?_,fun _=>rfl⟩
     rw [ha.1,ha.2]
     exact Gv.condF rfl (Gv.bind (bounds_gv hp (lim_ok h2)) (Gv.bind (draughts_gv hp r1.1 r1.2 r2.1 r2.2) (Gv.pure _)))
    ·have hf:(rng a.f_DraughtLeast 0 1000000 && rng a.f_DraughtMost 0 1000000)=false:=by
      cases hq:(rng a.f_DraughtLeast 0 1000000 && rng a.f_DraughtMost 0 1000000) with
      | false=>rfl
      | true=>exact absurd hq ha
     rw [hf]
     refine ⟨⟨⟨0,0,0,[],[]⟩,⟨0,0,0,0,0⟩,⟨0,0,0,0,0,0⟩,0,0⟩,go ?_,fun h=>by cases h⟩
     cases e1:rng a.f_DraughtLeast 0 1000000<;>cases e2:rng a.f_DraughtMost 0 1000000<;>rw [e1,e2] at hf<;>first | exact Gv.pure _ | cases hf
   ·rw [show (stepsCode p a.f_Start != 0)=true by simpa using h3,cond_true]
    refine ⟨⟨⟨0,0,0,[],[]⟩,⟨0,0,0,0,0⟩,⟨0,0,0,0,0,0⟩,0,0⟩,?_,fun h=>absurd h h3⟩
    refine .of 41 fun N hN=>?_
    obtain ⟨s,e1,-⟩:=checkSteps_eq (N:=N) (by omega) (l:=a.f_Start) hp.nt
    unfold g_w_open
    rw [checkPont_eq (by omega),Option.bind_some,h1,checkLimits_eq,Option.bind_some,h2,e1,Option.bind_some]
    have:(stepsCode p a.f_Start != 0)=true:=by simpa using h3
    simp only [bne_self_eq_false,cond_false,this,cond_true]
  ·rw [show (limCode l != 0)=true by simpa using h2,cond_true]
   refine ⟨⟨⟨0,0,0,[],[]⟩,⟨0,0,0,0,0⟩,⟨0,0,0,0,0,0⟩,0,0⟩,.of 41 fun N hN=>?_,fun h=>absurd h h2⟩
   unfold g_w_open
   rw [checkPont_eq (by omega),Option.bind_some,h1,checkLimits_eq,Option.bind_some]
   have:(limCode l != 0)=true:=by simpa using h2
   rw [this];rfl
 ·rw [show (pontCode p != 0)=true by simpa using h1,cond_true]
  refine ⟨⟨⟨0,0,0,[],[]⟩,⟨0,0,0,0,0⟩,⟨0,0,0,0,0,0⟩,0,0⟩,.of 41 fun N hN=>?_,fun h=>absurd h h1⟩
  unfold g_w_open
  rw [checkPont_eq (by omega),Option.bind_some]
  have:(pontCode p != 0)=true:=by simpa using h1
  rw [this];rfl
def stepTo (m:TMove) (x:Int):Int:=cond m.f_Up (x+1) (x - 1)
theorem st_set {st:List Int} {i:Nat} (v:Int) (hi:i < st.length) (h6:st.length≤6) :
  (⟨setI i 0 v (stOf st).e0,setI i 1 v (stOf st).e1,setI i 2 v (stOf st).e2,setI i 3 v (stOf st).e3,setI i 4 v (stOf st).e4,setI i 5 v (stOf st).e5⟩:Tw_state)=stOf (st.set i v):=by
 have key:∀ t,setI i t v (st.getD t 0)=(st.set i v).getD t 0:=by
  intro t
  unfold setI
  simp only [List.getD_eq_getElem?_getD,List.getElem?_set]
  by_cases h:i=t
  ·subst h;simp [hi]
  ·simp [h]
 unfold stOf
 simp only [key]
structure In (p:TPn) (l:TLimits) (a:TAim):Prop where
 hp:PontOK p
 hl:LimOK l
 ha:AimOK a
abbrev movable (p:TPn) (m:TMove):Prop:=0≤m.f_Tank∧m.f_Tank < ((p.fTk.length:Nat):Int)
def nextOf (st:List Int) (m:TMove):List Int:=st.set m.f_Tank.toNat (stepTo m (st.getD m.f_Tank.toNat 0))
def nextOk (p:TPn) (st:List Int) (m:TMove):Bool:=rng (stepTo m (st.getD m.f_Tank.toNat 0)) 0 (tkAt p m.f_Tank.toNat).f_Steps
section
variable {p:TPn} {l:TLimits} {a:TAim} {st:List Int}
theorem next_ok (hs:StepsOK p st) {m:TMove} (hm:movable p m) (h:nextOk p st m=true):StepsOK p (nextOf st m):=by
 have hb:=rng_iff.1 h
 have hlen:=hs.len
 have key:∀ i,i < st.length→(nextOf st m).getD i 0=if m.f_Tank.toNat=i then stepTo m (st.getD m.f_Tank.toNat 0) else st.getD i 0:=by
  intro i hi
  unfold nextOf
  simp only [List.getD_eq_getElem?_getD,List.getElem?_set]
  by_cases e:m.f_Tank.toNat=i
  ·rw [if_pos e,if_pos e,if_pos (by omega)];rfl
  ·rw [if_neg e,if_neg e]
 refine ⟨by unfold nextOf;simp [hs.len],fun i hi=>?_,fun i hi=>?_⟩
 ·have hi':i < st.length:=by unfold nextOf at hi;simpa using hi
  rw [key i hi']
  split
  ·exact hb.1
  ·exact hs.lo i hi'
 ·have hi':i < st.length:=by unfold nextOf at hi;simpa using hi
  rw [key i hi']
  split
  ·rename_i e;rw [← e];exact hb.2
  ·exact hs.hi i hi'
theorem getD_set_self {st:List Int} {i:Nat} {v:Int} (h:i < st.length):(st.set i v).getD i 0=v:=by simp [h]
theorem moved_eq (hp:PontOK p) (hs:StepsOK p st) (m:TMove):∃ s,(∀ N,g_w_plan_moved N (planOf p l a) (stOf st) m=some (s,decide (movable p m) && nextOk p st m))∧(movable p m→s=stOf (nextOf st m)):=by
 have h6:=hp.nt
 have hlen:=hs.len
 unfold g_w_plan_moved
 simp only [between_eq,Option.bind_some]
 have e0:(planOf p l a).f_p=p:=rfl
 rw [e0,w64_eq (n:=((p.fTk.length:Nat):Int) - 1) (by omega) (by omega)]
 by_cases hm:movable p m
 ·have hm':=hm
  unfold movable at hm'
  have hr:rng m.f_Tank 0 (((p.fTk.length:Nat):Int) - 1)=true:=rng_iff.2 ⟨hm'.1,by omega⟩
  have hi:m.f_Tank.toNat < st.length:=by omega
  have hb1:=hs.lo _ hi
  have hb2:=hs.hi _ hi
  have hb3:=(tkAt_ok hp (i:=m.f_Tank.toNat) (by omega)).s2
  rw [hr,decide_eq_true hm,pick_st st (by omega)]
  have fin:∀ (N:Nat) (v:Int),g_w_plan_moved_J1 N (planOf p l a) m (stOf (st.set m.f_Tank.toNat v))=some (stOf (st.set m.f_Tank.toNat v),rng v 0 (tkAt p m.f_Tank.toNat).f_Steps):=by
   intro N v
   unfold g_w_plan_moved_J1
   rw [if_pos ⟨by omega,by omega⟩,e0,if_pos hm',pick_st _ (by omega),getD_set_self hi,between_eq]
   rfl
  refine ⟨stOf (nextOf st m),fun N=>?_,fun _=>rfl⟩
  simp only [Bool.not_true,cond_false,Bool.true_and]
  rw [if_pos ⟨by omega,by omega⟩,if_pos ⟨by omega,by omega⟩,st_set _ hi (by omega),st_set _ hi (by omega),fin,fin,w64_eq (by omega) (by omega),w64_eq (by omega) (by omega)]
  unfold nextOf nextOk stepTo
  cases m.f_Up<;>rfl
 ·have hr:rng m.f_Tank 0 (((p.fTk.length:Nat):Int) - 1)=false:=by
   cases h:rng m.f_Tank 0 (((p.fTk.length:Nat):Int) - 1) with
   | false=>rfl
   | true=>exact absurd ⟨(rng_iff.1 h).1,by have:=(rng_iff.1 h).2;omega⟩ hm
  rw [hr,decide_eq_false hm]
  exact ⟨_,fun N=>rfl,fun h=>absurd h hm⟩
theorem made_eq (hp:PontOK p) (hs:StepsOK p st) (m:TMove):∃ s,(∀ N,g_r05_Made N p st m=some (s,decide (movable p m) && nextOk p st m))∧(movable p m→s=nextOf st m):=by
 have h6:=hp.nt
 have hlen:=hs.len
 unfold g_r05_Made
 by_cases hm:movable p m
 ·have hm':=hm
  unfold movable at hm'
  have hi:m.f_Tank.toNat < st.length:=by omega
  have hb1:=hs.lo _ hi
  have hb2:=hs.hi _ hi
  have hb3:=(tkAt_ok hp (i:=m.f_Tank.toNat) (by omega)).s2
  have hr:cond (decide (m.f_Tank < 0)) true (decide (m.f_Tank≥((st.length:Nat):Int)))=false:=by
   rw [decide_eq_false (by omega),cond_false,decide_eq_false (by omega)]
  rw [hr,decide_eq_true hm]
  simp only [cond_false,List.nil_append]
  have fin:∀ (N:Nat) (v:Int),g_r05_Made_J1 N p m (st.set m.f_Tank.toNat v)=some (st.set m.f_Tank.toNat v,rng v 0 (tkAt p m.f_Tank.toNat).f_Steps):=by
   intro N v
   unfold g_r05_Made_J1
   rw [if_pos ⟨hm'.1,by rw [List.length_set];omega⟩,if_pos hm',getD_set_self hi,inside_eq]
   rfl
  refine ⟨nextOf st m,fun N=>?_,fun _=>rfl⟩
  simp only [Bool.true_and]
  rw [if_pos (by omega),if_pos ⟨hm'.1,by omega⟩,if_pos ⟨hm'.1,by omega⟩,fin,fin,w64_eq (by omega) (by omega),w64_eq (by omega) (by omega)]
  unfold nextOf nextOk stepTo
  cases m.f_Up<;>rfl
 ·have hr:cond (decide (m.f_Tank < 0)) true (decide (m.f_Tank≥((st.length:Nat):Int)))=true:=by
   unfold movable at hm
   by_cases h:m.f_Tank < 0
   ·rw [decide_eq_true h];rfl
   ·rw [decide_eq_false h,cond_false,decide_eq_true (by omega)]
  rw [hr,decide_eq_false hm]
  exact ⟨_,fun N=>rfl,fun h=>absurd h hm⟩
theorem keeps_gv (h:In p l a) (hs:StepsOK p st):Gv (fun N=>g_w_plan_keeps N (planOf p l a) (stOf st)) (decide ((nmOf p l (loadsOf p st)).length=0)) :=
 Gv.bind (.of 41 fun N hN=>kept_eq (by omega) h.hp h.hl hs) ((Gv.pure _).eq bit4_all)
def reachedB (p:TPn) (a:TAim) (st:List Int):Bool:=kD p (loadsOf p st) a.f_DraughtLeast a.f_DraughtMost
theorem done_gv (h:In p l a) (hs:StepsOK p st):Gv (fun N=>g_w_plan_done N (planOf p l a) (stOf st)) (reachedB p a st):=by
 refine Gv.bind (.of 41 fun N hN=>sumOf_eq (by omega) h.hp hs) (Gv.bind (.of 0 fun N _=>between_eq N ..) ((Gv.pure _).eq ?_))
 rw [Bool.eq_iff_iff,rng_iff]
 exact draught_iff h.hp
theorem rreached_gv (h:In p l a) (hs:StepsOK p st):Gv (fun N=>g_r05_Reached N p a st) (reachedB p a st):=by
 have hL:=loads_ok h.hp hs
 exact Gv.bind (rFloat_gv h.hp hs) (Gv.bind (r:=reachedB p a st) (rBt_gv (d_rb h.hp hL) (b64 (by have:=h.ha.a1;have:=h.ha.a2;omega)) (b64 (by have:=h.ha.b1;have:=h.ha.b2;omega))) (Gv.pure _))
end
end Go.Den
namespace Go.Den
open Go.Ab
def rdx (p:TPn):List Nat:=p.fTk.map fun t=>(t.f_Steps+1).toNat
def prn:List Nat→Nat
 | []=>1
 | r :: l=>r * prn l
theorem prn_append:∀ (a b:List Nat),prn (a ++ b)=prn a * prn b
 | [],b=>by simp [prn]
 | r :: a,b=>by simp [prn,prn_append a b,Nat.mul_assoc]
theorem prn_pos:∀ {l:List Nat},(∀ r∈l,1≤r)→1≤prn l
 | [],_=>Nat.le_refl 1
 | r :: l,h=>Nat.mul_le_mul (h r (by simp)) (prn_pos (l:=l) fun x hx=>h x (by simp [hx]))
theorem prn_le:∀ {l:List Nat},(∀ r∈l,r≤13)→prn l≤13 ^ l.length
 | [],_=>Nat.le_refl 1
 | r :: l,h=>by
  have:=Nat.mul_le_mul (h r (by simp)) (prn_le (l:=l) fun x hx=>h x (by simp [hx]))
  rw [List.length_cons,Nat.pow_succ,Nat.mul_comm (13 ^ l.length)]
  exact this
def cnt (p:TPn):Nat:=prn (rdx p)
section
variable {p:TPn}
theorem rdx_b (hp:PontOK p):∀ r∈rdx p,1≤r∧r≤13:=by
 intro r hr
 obtain ⟨t,ht,rfl⟩:=List.mem_map.1 hr
 have h:=hp.ts t ht
 have:=h.s1
 have:=h.s2
 omega
theorem pow13 {n:Nat} (h:n≤6):13 ^ n≤4826809:=Nat.le_trans (Nat.pow_le_pow_right (by decide) h) (by decide)
theorem cnt_le (hp:PontOK p):cnt p≤4826809:=by
 have h1:=prn_le (l:=rdx p) fun r hr=>(rdx_b hp r hr).2
 have h2:(rdx p).length≤6:=by simp [rdx];exact hp.nt
 exact Nat.le_trans h1 (pow13 h2)
theorem part_le (hp:PontOK p) (i:Nat):prn ((rdx p).take i)≤4826809:=by
 have h1:=prn_le (l:=(rdx p).take i) fun r hr=>(rdx_b hp r (List.mem_of_mem_take hr)).2
 have h2:((rdx p).take i).length≤6:=by simp [rdx];have:=hp.nt;omega
 exact Nat.le_trans h1 (pow13 h2)
theorem part_mono (hp:PontOK p) (i:Nat):prn ((rdx p).take i)≤cnt p:=by
 have e:cnt p=prn ((rdx p).take i) * prn ((rdx p).drop i):=by rw [← prn_append,List.take_append_drop];rfl
 rw [e]
 exact Nat.le_mul_of_pos_right _ (prn_pos fun r hr=>(rdx_b hp r (List.mem_of_mem_drop hr)).1)
theorem rdx_at {i:Nat} (hi:i < p.fTk.length):(rdx p).getD i 0=((tkAt p i).f_Steps+1).toNat:=by
 simp [rdx,tkAt,hi]
theorem part_succ {i:Nat} (hi:i < p.fTk.length):prn ((rdx p).take (i+1))=prn ((rdx p).take i) * ((tkAt p i).f_Steps+1).toNat:=by
 rw [take_getD _ i 0 (by simp [rdx];exact hi),prn_append,rdx_at hi]
 simp [prn]
theorem rad_eq (hp:PontOK p) {i:Nat} (hi:i < p.fTk.length):w64 ((tkAt p i).f_Steps+1)=(((tkAt p i).f_Steps+1).toNat:Int)∧1≤((tkAt p i).f_Steps+1).toNat:=by
 have h:=tkAt_ok hp hi
 have:=h.s1
 have:=h.s2
 rw [w64_eq (by omega) (by omega)]
 omega
theorem many_eq {N:Nat} (hN:40 < N) (hp:PontOK p):g_w_many N p=some (cnt p:Int):=by
 have h6:=hp.nt
 have key:∀ (k i fuel:Nat),i+k=p.fTk.length→k < fuel→g_w_many_L1 N p fuel ((prn ((rdx p).take i):Nat):Int) (i:Int)=some (cnt p:Int):=by
  intro k
  induction k with
  | zero =>
   intro i fuel hi hf
   obtain ⟨g,rfl⟩:∃ g,fuel=g+1:=⟨fuel - 1,by omega⟩
   have:i=p.fTk.length:=by omega
   subst this
   rw [g_w_many_L1,dec_nlt,cond_false,List.take_of_length_le (by simp [rdx])];rfl
  | succ k ih =>
   intro i fuel hi hf
   obtain ⟨g,rfl⟩:∃ g,fuel=g+1:=⟨fuel - 1,by omega⟩
   have hin:i < p.fTk.length:=by omega
   have hs:=part_le hp (i+1)
   rw [g_w_many_L1,dec_lt hin,cond_true,if_pos (inb hin),toNat_nat]
   change g_w_many_L1 N p g (w64 (((prn ((rdx p).take i):Nat):Int) * w64 ((tkAt p i).f_Steps+1))) (w64 ((i:Int)+1))=_
   rw [(rad_eq hp hin).1,← Int.natCast_mul,← part_succ hin,w64_nat (by omega),w64_succ (by omega)]
   exact ih (i+1) g (by omega) (by omega)
 exact key p.fTk.length 0 N (by omega) (by omega)
theorem states_eq {N:Nat} (hN:40 < N) (hp:PontOK p):∃ v:Nat,g_r05_States N p 20000=some (v:Int)∧(cnt p≤20000→v=cnt p)∧(20000 < cnt p→20000 < v):=by
 have h6:=hp.nt
 have key:∀ (k i fuel:Nat),i+k=p.fTk.length→k < fuel→prn ((rdx p).take i)≤20000→∃ v:Nat,g_r05_States_L1 N p 20000 fuel ((prn ((rdx p).take i):Nat):Int) (i:Int)=some (v:Int)∧(cnt p≤20000→v=cnt p)∧(20000 < cnt p→20000 < v):=by
  intro k
  induction k with
  | zero =>
   intro i fuel hi hf hb
   obtain ⟨g,rfl⟩:∃ g,fuel=g+1:=⟨fuel - 1,by omega⟩
   have:i=p.fTk.length:=by omega
   subst this
   rw [List.take_of_length_le (by simp [rdx])] at hb ⊢
   refine ⟨cnt p,?_,fun _=>rfl,fun h=>h⟩
   rw [g_r05_States_L1,dec_nlt,cond_false];rfl
  | succ k ih =>
   intro i fuel hi hf hb
   obtain ⟨g,rfl⟩:∃ g,fuel=g+1:=⟨fuel - 1,by omega⟩
   have hin:i < p.fTk.length:=by omega
   have hs:=part_le hp (i+1)
   have hm:=part_mono hp (i+1)
   rw [g_r05_States_L1,dec_lt hin,cond_true,if_pos (inb hin),toNat_nat]
   have e:w64 (((prn ((rdx p).take i):Nat):Int) * w64 ((p.fTk.getD i TTank.d).f_Steps+1))=((prn ((rdx p).take (i+1)):Nat):Int):=by
    change w64 (((prn ((rdx p).take i):Nat):Int) * w64 ((tkAt p i).f_Steps+1))=_
    rw [(rad_eq hp hin).1,← Int.natCast_mul,← part_succ hin,w64_nat (by omega)]
   rw [e,w64_succ (by omega)]
   by_cases hc:20000 < prn ((rdx p).take (i+1))
   ·rw [decide_eq_true (by omega),cond_true]
    exact ⟨_,rfl,fun h=>by omega,fun _=>hc⟩
   ·rw [decide_eq_false (by omega),cond_false]
    exact ih (i+1) g (by omega) (by omega) (by omega)
 exact key p.fTk.length 0 N (by omega) (by omega) (by simp [prn])
theorem states_indep {N:Nat} (hN:41≤N) (hp:PontOK p):g_r05_States N p 20000=g_r05_States 41 p 20000:=by
 have h6:=hp.nt
 have key:∀ (k i f1 f2:Nat) (n:Int),i+k=p.fTk.length→k < f1→k < f2→g_r05_States_L1 N p 20000 f1 n (i:Int)=g_r05_States_L1 41 p 20000 f2 n (i:Int):=by
  intro k
  induction k with
  | zero =>
   intro i f1 f2 n hi h1 h2
   obtain ⟨g,rfl⟩:∃ g,f1=g+1:=⟨f1 - 1,by omega⟩
   obtain ⟨g',rfl⟩:∃ g,f2=g+1:=⟨f2 - 1,by omega⟩
   have:i=p.fTk.length:=by omega
   subst this
   rw [g_r05_States_L1,g_r05_States_L1,dec_nlt];rfl
  | succ k ih =>
   intro i f1 f2 n hi h1 h2
   obtain ⟨g,rfl⟩:∃ g,f1=g+1:=⟨f1 - 1,by omega⟩
   obtain ⟨g',rfl⟩:∃ g,f2=g+1:=⟨f2 - 1,by omega⟩
   have hin:i < p.fTk.length:=by omega
   rw [g_r05_States_L1,g_r05_States_L1,dec_lt hin,cond_true,cond_true,if_pos (inb hin),if_pos (inb hin),w64_succ (by omega),ih (i+1) g g' _ (by omega) (by omega) (by omega)]
 exact key p.fTk.length 0 N 41 1 (by omega) (by omega) (by omega)
def stF:List Nat→Nat→List Int
 | [],_=>[]
 | r :: l,k=>((k % r:Nat):Int) :: stF l (k / r)
theorem stF_len:∀ (l:List Nat) (k:Nat),(stF l k).length=l.length
 | [],_=>rfl
 | r :: l,k=>by simp [stF,stF_len l]
theorem stF_b:∀ (l:List Nat) (k i:Nat),(∀ r∈l,1≤r)→i < l.length→0≤(stF l k).getD i 0∧(stF l k).getD i 0 < ((l.getD i 0:Nat):Int)
 | [],_,i,_,hi=>by simp at hi
 | r :: l,k,0,h,_=>by
  have:=Nat.mod_lt k (h r (by simp))
  simp [stF];omega
 | r :: l,k,i+1,h,hi=>by
  have:=stF_b l (k / r) i (fun x hx=>h x (by simp [hx])) (by simpa using hi)
  simpa [stF] using this
def stL (p:TPn) (k:Nat):List Int:=stF (rdx p) k
theorem stL_ok (hp:PontOK p) (k:Nat):StepsOK p (stL p k):=by
 have hl:(stL p k).length=p.fTk.length:=by unfold stL;rw [stF_len];simp [rdx]
 have key:∀ i,i < (stL p k).length→0≤(stL p k).getD i 0∧(stL p k).getD i 0≤(tkAt p i).f_Steps:=fun i hi=>by
  have:=stF_b (rdx p) k i (fun r hr=>(rdx_b hp r hr).1) (by simp [rdx];omega)
  rw [rdx_at (by omega)] at this
  have h:=(rad_eq hp (i:=i) (by omega)).2
  unfold stL;omega
 exact ⟨hl,fun i hi=>(key i hi).1,fun i hi=>(key i hi).2⟩
theorem state_eq {N:Nat} (hN:40 < N) (hp:PontOK p) (k:Nat) (hk:k < 5000000):g_r05_State N p (k:Int)=some (stL p k):=by
 have h6:=hp.nt
 have key:∀ (n i fuel q:Nat) (out:List Int),i+n=p.fTk.length→n < fuel→out.length=i→q < 5000000→g_r05_State_L1 N p fuel (q:Int) out (i:Int)=some (out ++ stF ((rdx p).drop i) q):=by
  intro n
  induction n with
  | zero =>
   intro i fuel q out hi hf ho hq
   obtain ⟨g,rfl⟩:∃ g,fuel=g+1:=⟨fuel - 1,by omega⟩
   have:i=p.fTk.length:=by omega
   subst this
   rw [g_r05_State_L1,dec_nlt,cond_false,List.drop_of_length_le (by simp [rdx]),stF,List.append_nil]
  | succ n ih =>
   intro i fuel q out hi hf ho hq
   obtain ⟨g,rfl⟩:∃ g,fuel=g+1:=⟨fuel - 1,by omega⟩
   have hin:i < p.fTk.length:=by omega
   obtain ⟨e1,e2⟩:=rad_eq hp hin
   rw [g_r05_State_L1,dec_lt hin,cond_true,if_pos (inb hin),toNat_nat]
   have e:p.fTk.getD i TTank.d=tkAt p i:=rfl
   rw [e,e1,if_pos (by omega),if_pos (by omega)]
   have d1:w64 (((q:Nat):Int).tdiv (((tkAt p i).f_Steps+1).toNat:Int))=((q / ((tkAt p i).f_Steps+1).toNat:Nat):Int):=by
    have:((q:Nat):Int).tdiv (((tkAt p i).f_Steps+1).toNat:Int)=((q / ((tkAt p i).f_Steps+1).toNat:Nat):Int):=rfl
    rw [this]
    exact w64_nat (Nat.le_trans (Nat.div_le_self _ _) (by omega))
   have d2:((q:Nat):Int).tmod (((tkAt p i).f_Steps+1).toNat:Int)=((q % ((tkAt p i).f_Steps+1).toNat:Nat):Int):=rfl
   rw [d1,d2,w64_succ (by omega),ih (i+1) g _ _ (by omega) (by omega) (by simp;omega) (Nat.lt_of_le_of_lt (Nat.div_le_self _ _) hq),drop_getD (rdx p) i 0 (by simp [rdx];exact hin),rdx_at hin]
   simp [stF]
 have:=key p.fTk.length 0 N k [] (by omega) (by omega) rfl hk
 rw [List.nil_append,List.drop_zero] at this
 exact this
end
end Go.Den
namespace Go.Den
namespace Bfs
section
variable {S M:Type} (mv:List M) (nx:S→M→Option S) (goal:S→Bool)
def RG:Nat→S→Prop
 | 0,s=>goal s=true
 | n+1,s=>∃ m,m∈mv∧∃ t,nx s m=some t∧RG n t
def Dst (s:S) (n:Nat):Prop:=RG mv nx goal n s∧∀ j,j < n→¬ RG mv nx goal j s
theorem dst_ex:∀ (n:Nat) {s:S},RG mv nx goal n s→∃ k,k≤n∧Dst mv nx goal s k:=by
 intro n
 induction n using Nat.strongRecOn with
 | _ n ih =>
  intro s h
  by_cases hj:∃ j,j < n∧RG mv nx goal j s
  ·obtain ⟨j,h1,h2⟩:=hj
   obtain ⟨k,h3,h4⟩:=ih j h1 h2
   exact ⟨k,by omega,h4⟩
  ·exact ⟨n,Nat.le_refl _,h,fun j h1 h2=>hj ⟨j,h1,h2⟩⟩
variable {mv nx goal}
theorem dst_uniq {s:S} {a b:Nat} (h1:Dst mv nx goal s a) (h2:Dst mv nx goal s b):a=b:=by
 rcases Nat.lt_trichotomy a b with h | h | h
 ·exact absurd h1.1 (h2.2 a h)
 ·exact h
 ·exact absurd h2.1 (h1.2 b h)
theorem dst_next {s:S} {n:Nat} (h:Dst mv nx goal s (n+1)):∃ m,m∈mv∧∃ t,nx s m=some t∧Dst mv nx goal t n:=by
 obtain ⟨⟨m,hm,t,hn,hr⟩,h2⟩:=h
 refine ⟨m,hm,t,hn,hr,fun j hj hj2=>?_⟩
 exact h2 (j+1) (by omega) ⟨m,hm,t,hn,hj2⟩
structure Seen (mv:List M) (nx:S→M→Option S) (v:Nat→S) (len:Nat) (pi mi:Nat→Nat) (h q:Nat) (d:M):Prop where
 pos:0 < len
 back:∀ i,0 < i→i < len→(pi i < h∨pi i=h∧mi i < q)∧pi i < i∧mi i < mv.length∧nx (v (pi i)) (mv.getD (mi i) d)=some (v i)
 first:∀ i,0 < i→i < len→∀ j k,j < pi i∨j=pi i∧k < mi i→k < mv.length→nx (v j) (mv.getD k d)≠some (v i)
 ord:∀ i i',0 < i→i < i'→i' < len→pi i < pi i'∨pi i=pi i'∧mi i < mi i'
 inj:∀ i i',i < len→i' < len→v i=v i'→i=i'
 all:∀ j k,j < h∨j=h∧k < q→k < mv.length→∀ t,nx (v j) (mv.getD k d)=some t→∃ i,i < len∧v i=t
end
section
variable {S M:Type} {mv:List M} {nx:S→M→Option S} {goal:S→Bool} {v:Nat→S} {len h:Nat} {pi mi:Nat→Nat} {d:M}
def dep (pi:Nat→Nat):Nat→Nat→Nat
 | 0,_=>0
 | f+1,i=>if i=0 then 0 else dep pi f (pi i)+1
variable (s:Seen mv nx v len pi mi h 0 d)
include s
theorem dep_fuel:∀ (i f f':Nat),i < len→i≤f→i≤f'→dep pi f i=dep pi f' i:=by
 intro i
 induction i using Nat.strongRecOn with
 | _ i ih =>
  intro f f' hi hf hf'
  by_cases h0:i=0
  ·subst h0;cases f<;>cases f'<;>simp [dep]
  ·obtain ⟨g,rfl⟩:∃ g,f=g+1:=⟨f - 1,by omega⟩
   obtain ⟨g',rfl⟩:∃ g',f'=g'+1:=⟨f' - 1,by omega⟩
   have b:=(s.back i (by omega) hi).2.1
   simp only [dep,if_neg h0]
   rw [ih (pi i) b g g' (by omega) (by omega) (by omega)]
theorem dep_succ {i:Nat} (h0:0 < i) (hi:i < len):dep pi i i=dep pi (pi i) (pi i)+1:=by
 have b:=(s.back i h0 hi).2.1
 obtain ⟨g,hg⟩:∃ g,i=g+1:=⟨i - 1,by omega⟩
 have e:dep pi i i=dep pi (g+1) i:=by rw [← hg]
 rw [e]
 simp only [dep,if_neg (show ¬ i=0 by omega)]
 rw [dep_fuel s (pi i) g (pi i) (by omega) (by omega) (Nat.le_refl _)]
theorem dep_mono:∀ i i',i≤i'→i' < len→dep pi i i≤dep pi i' i':=by
 intro i
 induction i using Nat.strongRecOn with
 | _ i ih =>
  intro i' hle hi'
  by_cases h0:i=0
  ·subst h0;simp [dep]
  ·by_cases he:i=i'
   ·subst he;exact Nat.le_refl _
   ·have o:=s.ord i i' (by omega) (by omega) hi'
    have b:=(s.back i (by omega) (by omega)).2.1
    have b':=(s.back i' (by omega) hi').2.1
    rw [dep_succ s (by omega) (by omega),dep_succ s (by omega) hi']
    have:=ih (pi i) b (pi i') (by omega) (by omega)
    omega
theorem dep_dst {n0:Nat} (h0:Dst mv nx goal (v 0) n0):∀ i,i < len→∀ n,Dst mv nx goal (v i) n→n0≤dep pi i i+n:=by
 intro i
 induction i using Nat.strongRecOn with
 | _ i ih =>
  intro hi n hn
  by_cases hz:i=0
  ·subst hz;have:=dst_uniq h0 hn;omega
  ·obtain ⟨_,b1,b2,b3⟩:=s.back i (by omega) hi
   have hr:RG mv nx goal (n+1) (v (pi i)):=⟨_,getD_mem _ _ _ b2,_,b3,hn.1⟩
   obtain ⟨k,hk,hd⟩:=dst_ex mv nx goal (n+1) hr
   have:=ih (pi i) b1 (by omega) k hd
   rw [dep_succ s (by omega) hi]
   omega
def Lead (mv:List M) (nx:S→M→Option S) (goal:S→Bool) (v:Nat→S) (pi:Nat→Nat) (len n0 k g:Nat):Prop :=
 g < len∧dep pi g g=k∧Dst mv nx goal (v g) (n0 - k)∧∀ i,i < g→dep pi i i=k→¬ Dst mv nx goal (v i) (n0 - k)
theorem lead_zero {n0:Nat} (h0:Dst mv nx goal (v 0) n0):Lead mv nx goal v pi len n0 0 0:=⟨s.pos,by simp [dep],h0,fun i hi=>by omega⟩
def Near (mv:List M) (nx:S→M→Option S) (goal:S→Bool) (d:M) (x:S) (n k:Nat):Prop :=
 k < mv.length∧(∃ t,nx x (mv.getD k d)=some t∧Dst mv nx goal t n)∧∀ j,j < k→∀ t,nx x (mv.getD j d)=some t→¬ Dst mv nx goal t n
omit s in
theorem near_ex {x:S} {n:Nat} (hx:Dst mv nx goal x (n+1)):∃ k,Near mv nx goal d x n k:=by
 obtain ⟨m,hm,t,h1,h2⟩:=dst_next hx
 obtain ⟨k,hk,rfl⟩:=List.getElem_of_mem hm
 have e:mv.getD k d=mv[k]:=by simp [List.getD,hk]
 have main:∀ k,(k < mv.length∧∃ t,nx x (mv.getD k d)=some t∧Dst mv nx goal t n)→∃ k,Near mv nx goal d x n k:=by
  intro k
  induction k using Nat.strongRecOn with
  | _ k ih =>
   intro hk
   by_cases hj:∃ j,j < k∧∃ t,nx x (mv.getD j d)=some t∧Dst mv nx goal t n
   ·obtain ⟨j,h3,h4⟩:=hj
    exact ih j h3 ⟨by omega,h4⟩
   ·exact ⟨k,hk.1,hk.2,fun j h3 t h4 h5=>hj ⟨j,h3,t,h4,h5⟩⟩
 exact main k ⟨hk,t,by rw [e];exact h1,h2⟩
theorem lead_succ {n0 k g q:Nat} (h0:Dst mv nx goal (v 0) n0) (hk:k < n0) (hg:Lead mv nx goal v pi len n0 k g) (hh:g < h) (hq:Near mv nx goal d (v g) (n0 - (k+1)) q) :
  ∃ g',Lead mv nx goal v pi len n0 (k+1) g'∧0 < g'∧pi g'=g∧mi g'=q:=by
 obtain ⟨g1,g2,g3,g4⟩:=hg
 obtain ⟨q1,⟨t,q2,q3⟩,q4⟩:=hq
 obtain ⟨i,hi,rfl⟩:=s.all g q (.inl hh) q1 t q2
 have hdi:=dep_dst s h0 i hi _ q3
 have hi0:0 < i:=by
  rcases Nat.eq_zero_or_pos i with h | h
  ·subst h;simp [dep] at hdi;omega
  ·exact h
 obtain ⟨b0,b1,b2,b3⟩:=s.back i hi0 hi
 have bf:=s.first i hi0 hi
 have hpi:pi i≤g:=by
  rcases Nat.lt_or_ge g (pi i) with h | h
  ·exact absurd q2 (bf g q (.inl h) q1)
  ·exact h
 have hdp:=dep_mono s (pi i) g hpi g1
 have hds:=dep_succ s hi0 hi
 have hdpi:dep pi (pi i) (pi i)=k:=by omega
 obtain ⟨e,he1,he2⟩:=dst_ex mv nx goal (n0 - (k+1)+1) (s:=v (pi i)) ⟨_,getD_mem _ _ _ b2,_,b3,q3.1⟩
 have he3:=dep_dst s h0 (pi i) (by omega) e he2
 have hee:e=n0 - k:=by omega
 subst hee
 have hpg:pi i=g:=by
  rcases Nat.lt_or_ge (pi i) g with h | h
  ·exact absurd he2 (g4 (pi i) h hdpi)
  ·omega
 have hmq:mi i=q:=by
  rw [hpg] at b3
  rcases Nat.lt_trichotomy (mi i) q with h | h | h
  ·exact absurd q3 (q4 (mi i) h _ b3)
  ·exact h
  ·exact absurd q2 (bf g q (.inr ⟨hpg.symm,h⟩) q1)
 refine ⟨i,⟨hi,by omega,q3,fun x hx hdx hD=>?_⟩,hi0,hpg,hmq⟩
 have hx0:0 < x:=by
  rcases Nat.eq_zero_or_pos x with h | h
  ·subst h;simp [dep] at hdx
  ·exact h
 obtain ⟨c0,c1,c2,c3⟩:=s.back x hx0 (by omega)
 have hdx2:=dep_succ s hx0 (by omega)
 obtain ⟨e',he1',he2'⟩:=dst_ex mv nx goal (n0 - (k+1)+1) (s:=v (pi x)) ⟨_,getD_mem _ _ _ c2,_,c3,hD.1⟩
 have he3':=dep_dst s h0 (pi x) (by omega) e' he2'
 have hee':e'=n0 - k:=by omega
 subst hee'
 have hge:g≤pi x:=by
  rcases Nat.lt_or_ge (pi x) g with h | h
  ·exact absurd he2' (g4 (pi x) h (by omega))
  ·exact h
 rcases s.ord x i hx0 hx hi with h | ⟨h1,h2⟩
 ·omega
 ·have e1:pi x=g:=by omega
  rw [e1] at c3
  exact q4 (mi x) (by omega) _ c3 hD
inductive Way (mv:List M) (nx:S→M→Option S) (goal:S→Bool) (d:M):S→List M→Prop
 | nil {x:S}:goal x=true→Way mv nx goal d x []
 | cons {x t:S} {n q:Nat} {l:List M}:Dst mv nx goal x (n+1)→Near mv nx goal d x n q→nx x (mv.getD q d)=some t→Way mv nx goal d t l→Way mv nx goal d x (mv.getD q d :: l)
def road (mv:List M) (pi mi:Nat→Nat) (d:M):Nat→Nat→List M
 | 0,_=>[]
 | f+1,i=>if i=0 then [] else road mv pi mi d f (pi i) ++ [mv.getD (mi i) d]
theorem road_fuel:∀ (i f f':Nat),i < len→i≤f→i≤f'→road mv pi mi d f i=road mv pi mi d f' i:=by
 intro i
 induction i using Nat.strongRecOn with
 | _ i ih =>
  intro f f' hi hf hf'
  by_cases h0:i=0
  ·subst h0;cases f<;>cases f'<;>simp [road]
  ·obtain ⟨g,rfl⟩:∃ g,f=g+1:=⟨f - 1,by omega⟩
   obtain ⟨g',rfl⟩:∃ g',f'=g'+1:=⟨f' - 1,by omega⟩
   have b:=(s.back i (by omega) hi).2.1
   simp only [road,if_neg h0]
   rw [ih (pi i) b g g' (by omega) (by omega) (by omega)]
theorem road_succ {i:Nat} (h0:0 < i) (hi:i < len):road mv pi mi d i i=road mv pi mi d (pi i) (pi i) ++ [mv.getD (mi i) d]:=by
 have b:=(s.back i h0 hi).2.1
 obtain ⟨g,hg⟩:∃ g,i=g+1:=⟨i - 1,by omega⟩
 have e:road mv pi mi d i i=road mv pi mi d (g+1) i:=by rw [← hg]
 rw [e]
 simp only [road,if_neg (show ¬ i=0 by omega)]
 rw [road_fuel s (pi i) g (pi i) (by omega) (by omega) (Nat.le_refl _)]
theorem first_way {n0:Nat} (h0:Dst mv nx goal (v 0) n0) (hh:h < len) (hgoal:goal (v h)=true) (hno:∀ j,j < h→goal (v j)=false) :
  Way mv nx goal d (v 0) (road mv pi mi d h h)∧(road mv pi mi d h h).length=n0:=by
 have hdh:n0≤dep pi h h:=by
  have:Dst mv nx goal (v h) 0:=⟨hgoal,fun j hj=>by omega⟩
  have:=dep_dst s h0 h hh 0 this
  omega
 have leads:∀ k,k≤n0→∃ g,Lead mv nx goal v pi len n0 k g∧(k < n0→g < h)∧(road mv pi mi d g g).length=k∧∀ l,Way mv nx goal d (v g) l→Way mv nx goal d (v 0) (road mv pi mi d g g ++ l):=by
  intro k
  induction k with
  | zero =>
   intro _
   refine ⟨0,lead_zero s h0,fun hn=>?_,by simp [road],fun l hl=>by simpa [road] using hl⟩
   rcases Nat.eq_zero_or_pos h with hz | hz
   ·subst hz;simp [dep] at hdh;omega
   ·exact hz
  | succ k ih =>
   intro hk
   obtain ⟨g,hg,hgh,hl,hw⟩:=ih (by omega)
   have hgh:=hgh (by omega)
   have hD:=hg.2.2.1
   have e:n0 - k=n0 - (k+1)+1:=by omega
   rw [e] at hD
   obtain ⟨q,hq⟩:=near_ex (d:=d) hD
   obtain ⟨g',hl',hp',hpg,hmq⟩:=lead_succ s h0 (by omega) hg hgh hq
   have hr:=road_succ s hp' hl'.1
   rw [hpg,hmq] at hr
   refine ⟨g',hl',fun hn=>?_,by rw [hr,List.length_append,hl];rfl,fun l hwl=>?_⟩
   ·rcases Nat.lt_or_ge g' h with hx | hx
    ·exact hx
    ·have:=dep_mono s h g' hx hl'.1
     have:=hl'.2.1
     omega
   ·rw [hr,List.append_assoc]
    have hn:=(s.back g' hp' hl'.1).2.2.2
    rw [hpg,hmq] at hn
    exact hw _ (.cons hD hq hn hwl)
 obtain ⟨g,hg,_,hl,hw⟩:=leads n0 (Nat.le_refl _)
 have hD:=hg.2.2.1
 rw [Nat.sub_self] at hD
 have hgg:goal (v g)=true:=hD.1
 have hhg:h≤g:=by
  rcases Nat.lt_or_ge g h with hx | hx
  ·rw [hno g hx] at hgg;cases hgg
  ·exact hx
 have hdeq:=dep_mono s h g hhg hg.1
 have hgd:=hg.2.1
 have:h=g:=by
  rcases Nat.lt_or_ge h g with hx | hx
  ·refine absurd ?_ (hg.2.2.2 h hx (by omega))
   rw [Nat.sub_self];exact ⟨hgoal,fun j hj=>by omega⟩
  ·omega
 subst this
 have:=hw [] (.nil hgoal)
 rw [List.append_nil] at this
 exact ⟨this,hl⟩
theorem no_way (hh:h=len) (hno:∀ j,j < h→goal (v j)=false):∀ n i,i < len→¬ RG mv nx goal n (v i):=by
 intro n
 induction n with
 | zero =>
  intro i hi hr
  have:goal (v i)=true:=hr
  rw [hno i (by omega)] at this;cases this
 | succ n ih =>
  rintro i hi ⟨m,hm,t,hn,hr⟩
  obtain ⟨k,hk,rfl⟩:=List.getElem_of_mem hm
  obtain ⟨j,hj,rfl⟩:=s.all i k (.inl (by omega)) hk t (by rw [show mv.getD k d=mv[k] by simp [List.getD,hk]];exact hn)
  exact ih j hj hr
end
end Bfs
end Go.Den
namespace Go.Den
open Go.Ab
def numF:List Nat→List Int→Nat
 | r :: l,x :: s=>x.toNat+r * numF l s
 | _,_=>0
theorem stF_num:∀ (l:List Nat) (s:List Int),s.length=l.length→(∀ i,i < l.length→0≤s.getD i 0∧s.getD i 0 < ((l.getD i 0:Nat):Int))→stF l (numF l s)=s∧numF l s < prn l
 | [],[],_,_=>⟨rfl,Nat.one_pos⟩
 | [],_ :: _,h,_=>by cases h
 | _ :: _,[],h,_=>by cases h
 | r :: l,x :: s,h,hb=>by
  have h0:=hb 0 (by simp)
  simp only [List.getD_cons_zero] at h0
  have ih:=stF_num l s (by simpa using h) fun i hi=>by
   have:=hb (i+1) (by simpa using hi)
   simpa using this
  have hr:0 < r:=by omega
  have hx:x.toNat < r:=by omega
  simp only [numF,stF,prn]
  rw [Nat.add_mul_mod_self_left,Nat.mod_eq_of_lt hx,Nat.add_mul_div_left _ _ hr,Nat.div_eq_of_lt hx,Nat.zero_add,ih.1]
  refine ⟨by congr 1;omega,?_⟩
  have:=Nat.mul_le_mul_left r (show numF l s+1≤prn l from ih.2)
  rw [Nat.mul_add,Nat.mul_one] at this
  omega
def numS (p:TPn) (s:List Int):Nat:=numF (rdx p) s
theorem num_ok {p:TPn} (hp:PontOK p) {s:List Int} (hs:StepsOK p s):stL p (numS p s)=s∧numS p s < cnt p:=by
 refine stF_num (rdx p) s (by rw [hs.len];simp [rdx]) fun i hi=>?_
 have hi2:i < p.fTk.length:=by simpa [rdx] using hi
 have h1:=hs.lo i (by rw [hs.len];exact hi2)
 have h2:=hs.hi i (by rw [hs.len];exact hi2)
 rw [rdx_at hi2]
 have:=(rad_eq hp hi2).2
 omega
theorem stOf_inj {a b:List Int} (h:a.length=b.length) (h6:a.length≤6) (e:stOf a=stOf b):a=b:=by
 unfold stOf at e
 injection e with e0 e1 e2 e3 e4 e5
 apply List.ext_getElem h
 intro i h1 h2
 have g:∀ (l:List Int) (hl:i < l.length),l[i]=l.getD i 0:=fun l hl=>by simp [List.getD,hl]
 rw [g a h1,g b h2]
 have:i=0∨i=1∨i=2∨i=3∨i=4∨i=5:=by omega
 rcases this with rfl | rfl | rfl | rfl | rfl | rfl<;>assumption
theorem Gv2.both {α:Type} {f g:Nat→Nat→Option α} {r:α} (h1:Gv2 f r) (h2:Gv2 g r):Gv2 (fun N n=>both (f N n) (g N n)) r:=by
 obtain ⟨N1,h1⟩:=h1
 obtain ⟨N2,h2⟩:=h2
 exact ⟨N1+N2,fun N n hN hn=>by dsimp only;rw [h1 N n (by omega) (by omega),h2 N n (by omega) (by omega),both_same]⟩
theorem Gv2.round {α:Type} {f f':Nat→Nat→Nat→Option α} {r:α} (c:Nat) (e:∀ N g k,f N g (k+1)=f' N g k) (h:Gv2 (fun N g=>f' N g (N - (c+1))) r):Gv2 (fun N g=>f N g (N - c)) r:=by
 obtain ⟨N0,h⟩:=h
 refine ⟨N0+c+1,fun N g hN hg=>?_⟩
 have e1:N - c=N - (c+1)+1:=by omega
 dsimp only
 rw [e1,e]
 exact h N g (by omega) (by omega)
abbrev eqS (za zb:Tw_state):Bool:=(zb.e0 == za.e0) && ((zb.e1 == za.e1) && ((zb.e2 == za.e2) && ((zb.e3 == za.e3) && ((zb.e4 == za.e4) && ((zb.e5 == za.e5) && true)))))
theorem eqS_iff (a b:Tw_state):eqS a b=true↔a=b:=by
 cases a;cases b
 unfold eqS
 simp only [Bool.and_eq_true,beq_iff_eq,Tw_state.mk.injEq,and_true]
 constructor
 ·rintro ⟨rfl,rfl,rfl,rfl,rfl,rfl⟩;exact ⟨rfl,rfl,rfl,rfl,rfl,rfl⟩
 ·rintro ⟨rfl,rfl,rfl,rfl,rfl,rfl⟩;exact ⟨rfl,rfl,rfl,rfl,rfl,rfl⟩
abbrev Entry:=List Int×(List Int×TMove)
def enR (R:List Entry):List (Tw_state×Tw_arrival):=R.map fun e=>(stOf e.1,⟨stOf e.2.1,e.2.2⟩)
theorem get_no:∀ (R:List Entry) (x:Tw_state),(∀ e,e∈R→stOf e.1≠x)→mGet eqS (enR R) x=none∧∀ y,mPut eqS (enR R) x y=enR R ++ [(x,y)]
 | [],x,_=>⟨rfl,fun _=>rfl⟩
 | e :: R,x,h=>by
  obtain ⟨h1,h2⟩:=get_no R x fun z hz=>h z (.tail _ hz)
  have he:eqS (stOf e.1) x=false:=by
   cases hq:eqS (stOf e.1) x
   ·rfl
   ·exact absurd ((eqS_iff _ _).1 hq) (h e (.head _))
  refine ⟨?_,fun y=>?_⟩
  ·show cond (eqS (stOf e.1) x) _ (mGet eqS (enR R) x)=none
   rw [he,cond_false,h1]
  ·show cond (eqS (stOf e.1) x) _ (_ :: mPut eqS (enR R) x y)=_
   rw [he,cond_false,h2];rfl
theorem get_yes:∀ (R:List Entry) (e:Entry),e∈R→(R.map fun z=>stOf z.1).Nodup→mGet eqS (enR R) (stOf e.1)=some ⟨stOf e.2.1,e.2.2⟩
 | [],e,h,_=>by cases h
 | z :: R,e,h,hn=>by
  rw [List.map_cons,List.nodup_cons] at hn
  show cond (eqS (stOf z.1) (stOf e.1)) (some (⟨stOf z.2.1,z.2.2⟩:Tw_arrival)) (mGet eqS (enR R) (stOf e.1))=_
  rcases List.mem_cons.1 h with rfl | h
  ·rw [(eqS_iff _ _).2 rfl];rfl
  ·cases hq:eqS (stOf z.1) (stOf e.1)
   ·exact get_yes R e h hn.2
   ·exact absurd (List.mem_map.2 ⟨e,h,((eqS_iff _ _).1 hq).symm⟩) hn.1
section
variable (p:TPn) (l:TLimits) (a:TAim)
def keepB (s:List Int):Bool:=decide ((nmOf p l (loadsOf p s)).length=0)
def nxS (s:List Int) (m:TMove):Option (List Int):=cond (decide (movable p m) && nextOk p s m && keepB p l (nextOf s m)) (some (nextOf s m)) none
def exp1 (s:List Int) (z:List Entry×List (List Int)) (m:TMove):List Entry×List (List Int) :=
 match nxS p l s m with
 | none=>z
 | some t=>if t∈z.1.map Prod.fst then z else (z.1 ++ [(t,(s,m))],z.2 ++ [t])
def two (i:Nat):List TMove:=[⟨(i:Int),true⟩,⟨(i:Int),false⟩]
def mvs:List TMove:=(List.range p.fTk.length).flatMap two
def bfs:Nat→List Entry→List (List Int)→Option (Option (List Int)×List Entry)
 | 0,_,_=>none
 | _+1,R,[]=>some (none,R)
 | f+1,R,s :: Q=>cond (reachedB p a s) (some (some s,R)) (bfs f ((mvs p).foldl (exp1 p l s) (R,Q)).1 ((mvs p).foldl (exp1 p l s) (R,Q)).2)
structure Good2 (R:List Entry) (Q:List (List Int)):Prop where
 keys:∀ e,e∈R→StepsOK p e.1
 nd:(R.map Prod.fst).Nodup
 len:Q.length≤R.length
 que:∀ q,q∈Q→StepsOK p q
end
section
variable {p:TPn} {l:TLimits} {a:TAim}
theorem nx_ok {s t:List Int} (hs:StepsOK p s) {m:TMove} (h:nxS p l s m=some t):StepsOK p t∧t=nextOf s m∧movable p m∧nextOk p s m=true∧keepB p l t=true:=by
 unfold nxS at h
 cases h1:decide (movable p m) && nextOk p s m && keepB p l (nextOf s m)<;>rw [h1] at h
 ·cases h
 ·cases h
  simp only [Bool.and_eq_true,decide_eq_true_eq] at h1
  exact ⟨next_ok hs h1.1.1 h1.1.2,rfl,h1.1.1,h1.1.2,h1.2⟩
theorem exp1_good {s:List Int} (hs:StepsOK p s) {R:List Entry} {Q:List (List Int)} (g:Good2 p R Q) (m:TMove):Good2 p (exp1 p l s (R,Q) m).1 (exp1 p l s (R,Q) m).2:=by
 unfold exp1
 cases h:nxS p l s m with
 | none=>exact g
 | some t =>
  simp only
  split
  ·exact g
  ·rename_i hn
   have ht:=(nx_ok hs h).1
   refine ⟨fun e he=>?_,?_,?_,fun q hq=>?_⟩
   ·rcases List.mem_append.1 he with h1 | h1
    ·exact g.keys e h1
    ·rw [List.mem_singleton.1 h1];exact ht
   ·show ((R ++ [(t,(s,m))]).map Prod.fst).Nodup
    rw [List.map_append,List.nodup_append]
    refine ⟨g.nd,by simp,fun x hx y hy e=>?_⟩
    have hy:y=t:=by simpa using hy
    rw [e,hy] at hx
    exact hn hx
   ·have:=g.len
    simp only [List.length_append,List.length_cons,List.length_nil];omega
   ·rcases List.mem_append.1 hq with h1 | h1
    ·exact g.que q h1
    ·rw [List.mem_singleton.1 h1];exact ht
theorem good_len (hp:PontOK p) {R:List Entry} {Q:List (List Int)} (g:Good2 p R Q):R.length≤cnt p:=by
 have:=g.nd.length_le_of_subset (l₂:=(List.range (cnt p)).map (stL p)) fun x hx=>by
  obtain ⟨e,he,rfl⟩:=List.mem_map.1 hx
  obtain ⟨h1,h2⟩:=num_ok hp (g.keys e he)
  exact List.mem_map.2 ⟨_,List.mem_range.2 h2,h1⟩
 simpa using this
structure Rest (todo:List Tw_state) (off n:Nat) (Q:List (List Int)):Prop where
 cut:todo.drop off=Q.map stOf
 num:n=Q.length
 all:off+n=todo.length
abbrev Loop1:=List (Tw_state×Tw_arrival)→List Tw_state→Nat→Nat→Option (List TMove×Int)
theorem L3_step (h:In p l a) {s:List Int} (hs:StepsOK p s) {ro:Tw_plan×Int} (hro:ro.1=planOf p l a) {todo:List Tw_state} {off:Nat} (hhd:todo.getD (addz off 0) Tw_state.d=stOf s) {x:Nat} (hx:x < p.fTk.length)
  {K2:Nat→Nat→List (Tw_state×Tw_arrival)→List Tw_state→Nat→Nat→Int→Option (List TMove×Int)} {K1:Nat→Nat→Loop1} {r:List TMove×Int}
  {R:List Entry} {Q:List (List Int)} (g:Good2 p R Q) {x2 c:Nat} (hx2:x2 < 2)
  (hK:∀ todo' off' n',Rest todo' off' n' (exp1 p l s (R,Q) ((two x).getD x2 TMove.d)).2→Gv2 (fun N f=>g_w_Ballast_L3 N p ro todo off (x:Int) (K2 N f) (K1 N f) (N - (c+1)) (enR (exp1 p l s (R,Q) ((two x).getD x2 TMove.d)).1) todo' off' n' ((x2+1:Nat):Int)) r)
  {todo':List Tw_state} {off' n':Nat} (hr:Rest todo' off' n' Q):Gv2 (fun N f=>g_w_Ballast_L3 N p ro todo off (x:Int) (K2 N f) (K1 N f) (N - c) (enR R) todo' off' n' (x2:Int)) r:=by
 have h6:=h.hp.nt
 refine Gv2.round (f:=fun N f k=>g_w_Ballast_L3 N p ro todo off (x:Int) (K2 N f) (K1 N f) k (enR R) todo' off' n' (x2:Int)) c (fun N f k=>g_w_Ballast_L3.eq_2 ..) ?_
 have hm:(⟨(x:Int),([true,false]:List Bool).getD ((x2:Int)).toNat false⟩:TMove)=(two x).getD x2 TMove.d:=by
  have:x2=0∨x2=1:=by omega
  rcases this with rfl | rfl<;>rfl
 refine Gv2.condT (decide_eq_true (by omega)) (Gv2.if ⟨by omega,by simp;omega⟩ ?_)
 rw [hhd,hro,hm]
 generalize (two x).getD x2 TMove.d=m at hK hm ⊢
 have hmm:movable p m:=by rw [← hm];exact ⟨by show 0≤(x:Int);omega,by show (x:Int) < _;omega⟩
 obtain ⟨t,e1,e2⟩:=moved_eq (l:=l) (a:=a) h.hp hs m
 rw [e2 hmm,decide_eq_true hmm,Bool.true_and] at e1
 refine Gv2.bind (.of 0 fun N _=>e1 N) ?_
 have hJ:∀ (R2:List Entry) (td:List Tw_state) (o n:Nat),Gv2 (fun N f=>g_w_Ballast_L3 N p ro todo off (x:Int) (K2 N f) (K1 N f) (N - (c+1)) (enR R2) td o n ((x2+1:Nat):Int)) r →
   Gv2 (fun N f=>g_w_Ballast_J4 N p ro todo off (x:Int) (x2:Int) (g_w_Ballast_L3 N p ro todo off (x:Int) (K2 N f) (K1 N f) (N - (c+1))) (K2 N f) (K1 N f) (enR R2) td o n) r:=fun R2 td o n hg=>by
  unfold g_w_Ballast_J4
  rw [w64_succ (by omega)];exact hg
 have hex:exp1 p l s (R,Q) m=(match nxS p l s m with | none=>(R,Q) | some t=>if t∈R.map Prod.fst then (R,Q) else (R ++ [(t,(s,m))],Q ++ [t])):=rfl
 cases hok:nextOk p s m with
 | false =>
  have hnx:nxS p l s m=none:=by unfold nxS;rw [hok,Bool.and_false];rfl
  rw [hnx] at hex
  rw [hex] at hK
  refine Gv2.bind (r:=false) (.of 0 fun N _=>rfl) (Gv2.condF rfl (hJ R _ _ _ (hK _ _ _ hr)))
 | true =>
  have ht:=next_ok hs hmm hok
  by_cases hin:nextOf s m∈R.map Prod.fst
  ·have hget:(mGet eqS (enR R) (stOf (nextOf s m))).isSome=true:=by
    cases hq:mGet eqS (enR R) (stOf (nextOf s m)) with
    | some v=>rfl
    | none =>
     obtain ⟨e,he,hee⟩:=List.mem_map.1 hin
     have:∀ (R:List Entry),e∈R→mGet eqS (enR R) (stOf (nextOf s m))≠none:=by
      intro R
      induction R with
      | nil=>intro h;cases h
      | cons z R ih =>
       intro h hn
       have hn:cond (eqS (stOf z.1) (stOf (nextOf s m))) (some (⟨stOf z.2.1,z.2.2⟩:Tw_arrival)) (mGet eqS (enR R) (stOf (nextOf s m)))=none:=hn
       cases hz:eqS (stOf z.1) (stOf (nextOf s m))<;>rw [hz] at hn
       ·rcases List.mem_cons.1 h with rfl | h
        ·rw [hee,(eqS_iff _ _).2 rfl] at hz;cases hz
        ·exact ih h hn
       ·cases hn
     exact absurd hq (this R he)
   have hex2:exp1 p l s (R,Q) m=(R,Q):=by
    rw [hex]
    cases hq:nxS p l s m with
    | none=>rfl
    | some t' =>
     have:=(nx_ok hs hq).2.1
     subst this
     exact if_pos hin
   rw [hex2] at hK
   have hc:(cond true (!(mGet eqS (enR R) (stOf (nextOf s m))).isSome) false)=false:=by rw [hget];rfl
   refine Gv2.bind (r:=false) (.of 0 fun N _=>?_) (Gv2.condF ?_ (hJ R _ _ _ (hK _ _ _ hr)))
   ·exact congrArg (fun b=>cond b (g_w_plan_keeps N (planOf p l a) (stOf (nextOf s m))) (some false)) hc
   ·exact congrArg (fun b=>cond b false false) hc
  ·have hno:∀ e,e∈R→stOf e.1≠stOf (nextOf s m):=fun e he hq=>by
    have he2:=g.keys e he
    exact hin (List.mem_map.2 ⟨e,he,stOf_inj (by rw [he2.len,ht.len]) (by rw [he2.len];exact h6) hq⟩)
   obtain ⟨g1,g2⟩:=get_no R _ hno
   have hc:(cond true (!(mGet eqS (enR R) (stOf (nextOf s m))).isSome) false)=true:=by rw [g1];rfl
   refine Gv2.bind (r:=keepB p l (nextOf s m)) ((keeps_gv h ht).congr fun N=>congrArg (fun b=>cond b (g_w_plan_keeps N (planOf p l a) (stOf (nextOf s m))) (some false)) hc) ?_
   cases hk:keepB p l (nextOf s m) with
   | false =>
    have hnx:nxS p l s m=none:=by unfold nxS;rw [hk,Bool.and_false];rfl
    rw [hnx] at hex
    rw [hex] at hK
    exact Gv2.condF (congrArg (fun b=>cond b false false) hc) (hJ R _ _ _ (hK _ _ _ hr))
   | true =>
    have hnx:nxS p l s m=some (nextOf s m):=by unfold nxS;rw [hk,hok,decide_eq_true hmm];rfl
    rw [hnx] at hex
    have hex2:exp1 p l s (R,Q) m=(R ++ [(nextOf s m,(s,m))],Q ++ [nextOf s m]):=hex.trans (if_neg hin)
    rw [hex2] at hK
    have hput:mPut eqS (enR R) (stOf (nextOf s m)) (⟨stOf s,m⟩:Tw_arrival)=enR (R ++ [(nextOf s m,(s,m))]):=by rw [g2];unfold enR;simp
    have hbig:=good_len h.hp g
    have hcn:=cnt_le h.hp
    have hgl:=g.len
    have hn1:=hr.num
    refine Gv2.condT (congrArg (fun b=>cond b true false) hc) (Gv2.if (by rw [addz_eq];exact hr.all) (Gv2.both ?_ (Gv2.if (by omega) ?_)))
    ·have:=hJ (R ++ [(nextOf s m,(s,m))]) (todo' ++ [stOf (nextOf s m)]) off' (n'+1) (hK _ _ _ ⟨by
      have:=hr.all
      rw [List.drop_append_of_le_length (by omega),hr.cut];simp,by simp [hr.num],by simp [← hr.all];omega⟩)
     rw [← hput] at this
     exact this
    ·have:=hJ (R ++ [(nextOf s m,(s,m))]) ((todo'.drop off') ++ [stOf (nextOf s m)]) 0 ((todo'.drop off') ++ [stOf (nextOf s m)]).length (hK _ _ _ ⟨by rw [hr.cut];simp,by rw [hr.cut];simp,by simp⟩)
     rw [← hput] at this
     exact this
end
end Go.Den
namespace Go.Den
open Go.Ab
section
variable {p:TPn} {l:TLimits} {a:TAim}
theorem fold_good {s:List Int} (hs:StepsOK p s):∀ (ms:List TMove) (z:List Entry×List (List Int)),Good2 p z.1 z.2→Good2 p (ms.foldl (exp1 p l s) z).1 (ms.foldl (exp1 p l s) z).2
 | [],_,g=>g
 | m :: ms,z,g=>fold_good hs ms _ (exp1_good (R:=z.1) (Q:=z.2) hs g m)
theorem exp1_cons (s q:List Int) (R:List Entry) (Q:List (List Int)) (m:TMove):exp1 p l s (R,q :: Q) m=((exp1 p l s (R,Q) m).1,q :: (exp1 p l s (R,Q) m).2):=by
 unfold exp1
 cases nxS p l s m with
 | none=>rfl
 | some t=>simp only;split<;>rfl
theorem fold_cons (s q:List Int):∀ (ms:List TMove) (R:List Entry) (Q:List (List Int)),ms.foldl (exp1 p l s) (R,q :: Q)=((ms.foldl (exp1 p l s) (R,Q)).1,q :: (ms.foldl (exp1 p l s) (R,Q)).2)
 | [],_,_=>rfl
 | m :: ms,R,Q=>by
  rw [List.foldl_cons,List.foldl_cons,exp1_cons]
  exact fold_cons s q ms _ _
theorem L3_all (h:In p l a) {s:List Int} (hs:StepsOK p s) {ro:Tw_plan×Int} (hro:ro.1=planOf p l a) {todo:List Tw_state} {off:Nat} (hhd:todo.getD (addz off 0) Tw_state.d=stOf s) {x:Nat} (hx:x < p.fTk.length)
  {K2:Nat→Nat→List (Tw_state×Tw_arrival)→List Tw_state→Nat→Nat→Int→Option (List TMove×Int)} {K1:Nat→Nat→Loop1} {r:List TMove×Int}
  {R:List Entry} {Q:List (List Int)} (g:Good2 p R Q)
  (hK:∀ todo' off' n',Rest todo' off' n' ((two x).foldl (exp1 p l s) (R,Q)).2→Gv2 (fun N f=>K2 N f (enR ((two x).foldl (exp1 p l s) (R,Q)).1) todo' off' n' ((x+1:Nat):Int)) r)
  {todo':List Tw_state} {off' n':Nat} (hr:Rest todo' off' n' Q):Gv2 (fun N f=>g_w_Ballast_L3 N p ro todo off (x:Int) (K2 N f) (K1 N f) N (enR R) todo' off' n' 0) r:=by
 have h6:=h.hp.nt
 refine L3_step (c:=0) (x2:=0) h hs hro hhd hx g (by omega) (fun td o n hrest=>?_) hr
 refine L3_step (c:=1) (x2:=1) h hs hro hhd hx (exp1_good hs g _) (by omega) (fun td2 o2 n2 hrest2=>?_) hrest
 refine Gv2.round (f:=fun N f k=>g_w_Ballast_L3 N p ro todo off (x:Int) (K2 N f) (K1 N f) k _ td2 o2 n2 ((1+1:Nat):Int)) 2 (fun N f k=>g_w_Ballast_L3.eq_2 ..) (Gv2.condF rfl ?_)
 rw [w64_succ (by omega)]
 exact hK _ _ _ hrest2
theorem L2_all (h:In p l a) {s:List Int} (hs:StepsOK p s) {ro:Tw_plan×Int} (hro:ro.1=planOf p l a) {todo:List Tw_state} {off:Nat} (hhd:todo.getD (addz off 0) Tw_state.d=stOf s)
  {K1:Nat→Nat→Loop1} {r:List TMove×Int}:∀ (d x c:Nat) (R:List Entry) (Q:List (List Int)),x+d=p.fTk.length→Good2 p R Q→1≤Q.length →
   (∀ todo' off' n',Rest todo' off' n' (((List.range' x d).flatMap two).foldl (exp1 p l s) (R,Q)).2→Gv2 (fun N f=>K1 N f (enR (((List.range' x d).flatMap two).foldl (exp1 p l s) (R,Q)).1) todo' (addz off' 1) (n' - 1)) r) →
   ∀ (todo':List Tw_state) (off' n':Nat),Rest todo' off' n' Q→Gv2 (fun N f=>g_w_Ballast_L2 N p ro todo off (K1 N f) (N - c) (enR R) todo' off' n' (x:Int)) r
 | 0,x,c,R,Q,hx,g,hq,hK,todo',off',n',hr=>by
  have:x=p.fTk.length:=by omega
  subst this
  have hn:=hr.num
  exact Gv2.round (f:=fun N f k=>g_w_Ballast_L2 N p ro todo off (K1 N f) k (enR R) todo' off' n' (p.fTk.length:Int)) c (fun N f k=>g_w_Ballast_L2.eq_2 ..) (Gv2.condF dec_nlt (Gv2.if ⟨by omega,Nat.le_refl _⟩ (hK _ _ _ hr)))
 | d+1,x,c,R,Q,hx,g,hq,hK,todo',off',n',hr=>by
  refine Gv2.round (f:=fun N f k=>g_w_Ballast_L2 N p ro todo off (K1 N f) k (enR R) todo' off' n' (x:Int)) c (fun N f k=>g_w_Ballast_L2.eq_2 ..) (Gv2.condT (dec_lt (by omega)) ?_)
  have e:((List.range' x (d+1)).flatMap two).foldl (exp1 p l s) (R,Q)=((List.range' (x+1) d).flatMap two).foldl (exp1 p l s) ((two x).foldl (exp1 p l s) (R,Q)):=by
   rw [List.range'_succ,List.flatMap_cons,List.foldl_append]
  rw [e] at hK
  have hg2:=fold_good (l:=l) hs (two x) (R,Q) g
  have hlen:1≤((two x).foldl (exp1 p l s) (R,Q)).2.length:=by
   cases Q with
   | nil=>cases hq
   | cons q Q=>rw [fold_cons];simp
  exact L3_all (K2:=fun N f=>g_w_Ballast_L2 N p ro todo off (K1 N f) (N - (c+1))) h hs hro hhd (by omega) g (fun td o n hrest=>L2_all h hs hro hhd d (x+1) (c+1) _ _ (by omega) hg2 hlen hK td o n hrest) hr
def Ends2 (p:TPn) (l:TLimits) (a:TAim) (z:Option (List Int)×List Entry) (r:List TMove×Int):Prop :=
 match z.1 with
 | none=>r=([],29)
 | some s=>∃ w,Gv (fun N=>g_w_plan_way N (planOf p l a) (stOf s) (enR z.2)) w∧r=(w,0)
theorem L1_all (h:In p l a) {ro:Tw_plan×Int} (hro:ro.1=planOf p l a) {z:Option (List Int)×List Entry} {r:List TMove×Int} (hz:Ends2 p l a z r):∀ (f:Nat) (R:List Entry) (Q:List (List Int)),Good2 p R Q→bfs p l a f R Q=some z →
  ∀ (todo:List Tw_state) (off n:Nat),Rest todo off n Q→Gv2 (fun N g=>g_w_Ballast_L1 N p ro g (enR R) todo off n) r
 | 0,_,_,_,hb,_,_,_,_=>by cases hb
 | f+1,R,[],g,hb,todo,off,n,hr=>by
  have hn:n=0:=hr.num
  have hzz:(none,R)=z:=Option.some.inj hb
  subst hzz
  have hz:r=([],29):=hz
  subst hz hn
  exact Gv2.succ (fun N g=>g_w_Ballast_L1.eq_2 ..) (Gv2.condF rfl (Gv2.one (Gv.pure _)))
 | f+1,R,s :: Q,g,hb,todo,off,n,hr=>by
  have hs:=g.que s (.head _)
  have hn:n=Q.length+1:=hr.num
  have hall:=hr.all
  have hhd:todo.getD (addz off 0) Tw_state.d=stOf s:=by
   have:=congrArg (fun l=>l.getD 0 Tw_state.d) hr.cut
   rw [addz_eq,Nat.add_zero]
   simpa [List.getD,List.getElem?_drop] using this
  refine Gv2.succ (fun N g=>g_w_Ballast_L1.eq_2 ..) (Gv2.condT (decide_eq_true (by omega)) (Gv2.if ⟨by omega,by omega⟩ (Gv2.if (by omega) ?_)))
  rw [hhd,hro]
  refine Gv2.bind (done_gv h hs) ?_
  have hb:cond (reachedB p a s) (some (some s,R)) (bfs p l a f ((mvs p).foldl (exp1 p l s) (R,Q)).1 ((mvs p).foldl (exp1 p l s) (R,Q)).2)=some z:=hb
  cases hd:reachedB p a s<;>rw [hd] at hb
  ·have g2:Good2 p R (s :: Q):=g
   refine Gv2.condF rfl ?_
   have hfold:((List.range' 0 p.fTk.length).flatMap two).foldl (exp1 p l s) (R,s :: Q)=(((mvs p).foldl (exp1 p l s) (R,Q)).1,s :: ((mvs p).foldl (exp1 p l s) (R,Q)).2):=by
    unfold mvs
    rw [List.range_eq_range',fold_cons]
   have gf:=fold_good (l:=l) hs (mvs p) (R,Q) ⟨g.keys,g.nd,by have:=g.len;simp only [List.length_cons] at this;show Q.length≤R.length;omega,fun q hq=>g.que q (.tail _ hq)⟩
   refine L2_all h hs hro hhd p.fTk.length 0 0 R (s :: Q) (by omega) g2 (by simp) (fun td o m hrest=>?_) todo off n hr
   rw [hfold] at hrest ⊢
   refine L1_all h hro hz f _ _ gf hb td (addz o 1) (m - 1) ⟨?_,by rw [hrest.num];simp,by have:=hrest.all;have:=hrest.num;simp only [List.length_cons] at this;rw [addz_eq];omega⟩
   rw [addz_eq,← List.drop_drop,hrest.cut];rfl
  ·have hzz:(some s,R)=z:=Option.some.inj hb
   subst hzz
   obtain ⟨w,hw,rfl⟩:=hz
   exact Gv2.condT rfl (Gv2.one (Gv.bind hw (Gv.pure _)))
theorem exp1_grow (s:List Int) (z:List Entry×List (List Int)) (m:TMove):∃ add:List Entry,exp1 p l s z m=(z.1 ++ add,z.2 ++ add.map Prod.fst):=by
 unfold exp1
 cases nxS p l s m with
 | none=>exact ⟨[],by simp⟩
 | some t =>
  simp only
  split
  ·exact ⟨[],by simp⟩
  ·exact ⟨[(t,(s,m))],by simp⟩
theorem fold_grow (s:List Int):∀ (ms:List TMove) (z:List Entry×List (List Int)),∃ add:List Entry,ms.foldl (exp1 p l s) z=(z.1 ++ add,z.2 ++ add.map Prod.fst)
 | [],z=>⟨[],by simp⟩
 | m :: ms,z=>by
  obtain ⟨a1,h1⟩:=exp1_grow (p:=p) (l:=l) s z m
  obtain ⟨a2,h2⟩:=fold_grow s ms (exp1 p l s z m)
  refine ⟨a1 ++ a2,?_⟩
  rw [List.foldl_cons,h2,h1];simp
theorem bfs_ends (hp:PontOK p):∀ (f:Nat) (R:List Entry) (Q:List (List Int)),Good2 p R Q→cnt p < f+(R.length - Q.length)→∃ z,bfs p l a f R Q=some z
 | 0,R,Q,g,hf=>by have:=good_len hp g;omega
 | f+1,R,[],g,hf=>⟨_,rfl⟩
 | f+1,R,s :: Q,g,hf=>by
  have hs:=g.que s (.head _)
  have hgl:=g.len
  simp only [List.length_cons] at hgl hf
  show ∃ z,cond (reachedB p a s) (some (some s,R)) (bfs p l a f ((mvs p).foldl (exp1 p l s) (R,Q)).1 ((mvs p).foldl (exp1 p l s) (R,Q)).2)=some z
  cases reachedB p a s
  ·obtain ⟨add,e⟩:=fold_grow (p:=p) (l:=l) s (mvs p) (R,Q)
   refine bfs_ends hp f _ _ (fold_good hs (mvs p) (R,Q) ⟨g.keys,g.nd,by show Q.length≤R.length;omega,fun q hq=>g.que q (.tail _ hq)⟩) ?_
   rw [e]
   simp only [List.length_append,List.length_map]
   omega
  ·exact ⟨_,rfl⟩
def vOf (R:List Entry) (i:Nat):List Int:=(R.getD i ([],([],TMove.d))).1
def SeenR (p:TPn) (l:TLimits) (R:List Entry) (pi mi:Nat→Nat) (h q:Nat):Prop :=
 Bfs.Seen (mvs p) (nxS p l) (vOf R) R.length pi mi h q TMove.d∧∀ i,0 < i→i < R.length→R.getD i ([],([],TMove.d))=(vOf R i,(vOf R (pi i),(mvs p).getD (mi i) TMove.d))
theorem vOf_app {R add:List Entry} {i:Nat} (h:i < R.length):vOf (R ++ add) i=vOf R i:=by
 unfold vOf
 rw [List.getD_eq_getElem?_getD,List.getElem?_append_left h,← List.getD_eq_getElem?_getD]
theorem vOf_new {R:List Entry} {e:Entry}:vOf (R ++ [e]) R.length=e.1:=by unfold vOf;simp [List.getD]
theorem vOf_mem {R:List Entry} {t:List Int}:t∈R.map Prod.fst↔∃ i,i < R.length∧vOf R i=t:=by
 rw [List.mem_map]
 constructor
 ·rintro ⟨e,he,rfl⟩
  obtain ⟨i,hi,rfl⟩:=List.getElem_of_mem he
  exact ⟨i,hi,by unfold vOf;simp [List.getD,hi]⟩
 ·rintro ⟨i,hi,rfl⟩
  exact ⟨R[i],List.getElem_mem hi,by unfold vOf;simp [List.getD,hi]⟩
theorem seen_step {R:List Entry} {pi mi:Nat→Nat} {h q:Nat} (hh:h < R.length) (hq:q < (mvs p).length) (sn:SeenR p l R pi mi h q) (Q:List (List Int)) :
  ∃ pi' mi',SeenR p l (exp1 p l (vOf R h) (R,Q) ((mvs p).getD q TMove.d)).1 pi' mi' h (q+1):=by
 obtain ⟨s,lk⟩:=sn
 have grow:∀ i,(pi i < h∨pi i=h∧mi i < q)→(pi i < h∨pi i=h∧mi i < q+1):=fun i hi=>by omega
 unfold exp1
 cases hn:nxS p l (vOf R h) ((mvs p).getD q TMove.d) with
 | none =>
  refine ⟨pi,mi,⟨s.pos,fun i h0 hi=>⟨grow i (s.back i h0 hi).1,(s.back i h0 hi).2⟩,s.first,s.ord,s.inj,fun j k hjk hk t ht=>?_⟩,lk⟩
  by_cases e:j=h∧k=q
  ·obtain ⟨rfl,rfl⟩:=e
   rw [hn] at ht;cases ht
  ·exact s.all j k (by omega) hk t ht
 | some t =>
  simp only
  split
  ·rename_i hin
   refine ⟨pi,mi,⟨s.pos,fun i h0 hi=>⟨grow i (s.back i h0 hi).1,(s.back i h0 hi).2⟩,s.first,s.ord,s.inj,fun j k hjk hk t' ht=>?_⟩,lk⟩
   by_cases e:j=h∧k=q
   ·obtain ⟨rfl,rfl⟩:=e
    rw [hn] at ht;cases ht
    exact vOf_mem.1 hin
   ·exact s.all j k (by omega) hk t' ht
  ·rename_i hin
   have hne:∀ i,i < R.length→vOf R i≠t:=fun i hi e=>hin (vOf_mem.2 ⟨i,hi,e⟩)
   have hR:(R ++ [(t,(vOf R h,(mvs p).getD q TMove.d))]).length=R.length+1:=by simp
   show ∃ pi' mi',SeenR p l (R ++ [(t,(vOf R h,(mvs p).getD q TMove.d))]) pi' mi' h (q+1)
   refine ⟨fun i=>if i=R.length then h else pi i,fun i=>if i=R.length then q else mi i,⟨by omega,fun i h0 hi=>?_,fun i h0 hi j k hjk hkl=>?_,fun i i' h0 hii hi'=>?_,fun i i' hi hi' e=>?_,fun j k hjk hk t' ht=>?_⟩,fun i h0 hi=>?_⟩
   ·by_cases e:i=R.length
    ·subst e
     rw [if_pos rfl,if_pos rfl,vOf_new,vOf_app hh]
     exact ⟨by omega,hh,hq,hn⟩
    ·have b:=s.back i h0 (by omega)
     rw [if_neg e,if_neg e,vOf_app (show i < R.length by omega),vOf_app (show pi i < R.length by omega)]
     exact ⟨grow i b.1,b.2⟩
   ·by_cases e:i=R.length
    ·subst e
     rw [if_pos rfl,if_pos rfl] at hjk
     rw [vOf_new,vOf_app (show j < R.length by omega)]
     intro hc
     obtain ⟨i,hi,he⟩:=s.all j k hjk hkl t hc
     exact hne i hi he
    ·have b:=s.back i h0 (by omega)
     rw [if_neg e,if_neg e] at hjk
     rw [vOf_app (show i < R.length by omega),vOf_app (show j < R.length by omega)]
     exact s.first i h0 (by omega) j k hjk hkl
   ·by_cases e':i'=R.length
    ·subst e'
     have b:=s.back i h0 (by omega)
     have hne1:¬ i=R.length:=by omega
     simp only [hne1,↓reduceIte]
     omega
    ·have hne1:¬ i=R.length:=by omega
     simp only [hne1,e',↓reduceIte]
     exact s.ord i i' h0 hii (by omega)
   ·by_cases e1:i=R.length
    ·by_cases e2:i'=R.length
     ·omega
     ·subst e1
      rw [vOf_new,vOf_app (show i' < R.length by omega)] at e
      exact absurd e.symm (hne i' (by omega))
    ·by_cases e2:i'=R.length
     ·subst e2
      rw [vOf_new,vOf_app (show i < R.length by omega)] at e
      exact absurd e (hne i (by omega))
     ·rw [vOf_app (show i < R.length by omega),vOf_app (show i' < R.length by omega)] at e
      exact s.inj i i' (by omega) (by omega) e
   ·by_cases e:j=h∧k=q
    ·obtain ⟨rfl,rfl⟩:=e
     rw [vOf_app hh,hn] at ht;cases ht
     exact ⟨R.length,by omega,vOf_new⟩
    ·rw [vOf_app (show j < R.length by omega)] at ht
     obtain ⟨i,hi,he⟩:=s.all j k (by omega) hk t' ht
     exact ⟨i,by omega,by rw [vOf_app hi];exact he⟩
   ·by_cases e:i=R.length
    ·subst e
     dsimp only
     rw [if_pos rfl,if_pos rfl,vOf_new,vOf_app hh]
     simp [List.getD]
    ·have b:=s.back i h0 (by omega)
     dsimp only
     rw [if_neg e,if_neg e,vOf_app (show i < R.length by omega),vOf_app (show pi i < R.length by omega),← lk i h0 (by omega)]
     rw [List.getD_eq_getElem?_getD,List.getElem?_append_left (by omega),← List.getD_eq_getElem?_getD]
end
end Go.Den
namespace Go.Den
open Go.Ab
section
variable {p:TPn} {l:TLimits} {a:TAim}
theorem fold_fst (s:List Int):∀ (ms:List TMove) (z:List Entry×List (List Int)),∃ add:List Entry,(ms.foldl (exp1 p l s) z).1=z.1 ++ add∧(ms.foldl (exp1 p l s) z).2=z.2 ++ add.map Prod.fst:=fun ms z=>by
 obtain ⟨add,h⟩:=fold_grow (p:=p) (l:=l) s ms z
 exact ⟨add,by rw [h],by rw [h]⟩
theorem seen_moves {h:Nat}:∀ (d q:Nat) (R:List Entry) (Q:List (List Int)) (pi mi:Nat→Nat),q+d=(mvs p).length→h < R.length→SeenR p l R pi mi h q →
  ∃ pi' mi',SeenR p l (((mvs p).drop q).foldl (exp1 p l (vOf R h)) (R,Q)).1 pi' mi' h (mvs p).length
 | 0,q,R,Q,pi,mi,hq,_,s=>by
  rw [List.drop_eq_nil_of_le (by omega)]
  have:q=(mvs p).length:=by omega
  subst this
  exact ⟨pi,mi,s⟩
 | d+1,q,R,Q,pi,mi,hq,hh,s=>by
  obtain ⟨pi1,mi1,s1⟩:=seen_step hh (by omega) s Q
  obtain ⟨add,e⟩:=exp1_grow (p:=p) (l:=l) (vOf R h) (R,Q) ((mvs p).getD q TMove.d)
  have hR:(exp1 p l (vOf R h) (R,Q) ((mvs p).getD q TMove.d)).1=R ++ add:=by rw [e]
  have hv:vOf (exp1 p l (vOf R h) (R,Q) ((mvs p).getD q TMove.d)).1 h=vOf R h:=by rw [hR,vOf_app hh]
  have:=seen_moves d (q+1) (exp1 p l (vOf R h) (R,Q) ((mvs p).getD q TMove.d)).1 (exp1 p l (vOf R h) (R,Q) ((mvs p).getD q TMove.d)).2 pi1 mi1 (by omega) (by rw [hR,List.length_append];omega) s1
  rw [hv] at this
  rw [drop_getD (mvs p) q TMove.d (by omega),List.foldl_cons]
  exact this
theorem seen_next {R:List Entry} {pi mi:Nat→Nat} {h:Nat} (s:SeenR p l R pi mi h (mvs p).length):SeenR p l R pi mi (h+1) 0:=by
 obtain ⟨s,lk⟩:=s
 refine ⟨⟨s.pos,fun i h0 hi=>?_,s.first,s.ord,s.inj,fun j k hjk hk t ht=>s.all j k (by omega) hk t ht⟩,lk⟩
 have b:=s.back i h0 hi
 exact ⟨by omega,b.2⟩
def Found (p:TPn) (l:TLimits) (a:TAim) (s0:List Int) (z:Option (List Int)×List Entry):Prop :=
 ∃ pi mi h,SeenR p l z.2 pi mi h 0∧vOf z.2 0=s0∧(∀ j,j < h→reachedB p a (vOf z.2 j)=false) ∧
  match z.1 with
  | none=>h=z.2.length
  | some s=>h < z.2.length∧vOf z.2 h=s∧reachedB p a s=true
theorem bfs_found {s0:List Int}:∀ (f:Nat) (R:List Entry) (Q:List (List Int)) (pi mi:Nat→Nat) (h:Nat),h≤R.length→Q=(R.map Prod.fst).drop h→SeenR p l R pi mi h 0→vOf R 0=s0→(∀ j,j < h→reachedB p a (vOf R j)=false) →
  ∀ z,bfs p l a f R Q=some z→Found p l a s0 z
 | 0,_,_,_,_,_,_,_,_,_,_,_,hb=>by cases hb
 | f+1,R,[],pi,mi,h,hh,hQ,s,h0,hno,z,hb=>by
  have hzz:(none,R)=z:=Option.some.inj hb
  subst hzz
  refine ⟨pi,mi,h,s,h0,hno,?_⟩
  have:=congrArg List.length hQ
  simp only [List.length_nil,List.length_drop,List.length_map] at this
  show h=R.length
  omega
 | f+1,R,x :: Q,pi,mi,h,hh,hQ,s,h0,hno,z,hb=>by
  have hlen:=congrArg List.length hQ
  simp only [List.length_cons,List.length_drop,List.length_map] at hlen
  have hlt:h < R.length:=by omega
  have hx:vOf R h=x:=by
   have:=congrArg (fun l=>l.getD 0 []) hQ
   unfold vOf
   simp only [List.getD_cons_zero] at this
   rw [this]
   simp [List.getD,hlt]
  have hQ2:Q=(R.map Prod.fst).drop (h+1):=by
   have:=congrArg List.tail hQ
   rw [List.tail_drop] at this
   exact this
  have hb:cond (reachedB p a x) (some (some x,R)) (bfs p l a f ((mvs p).foldl (exp1 p l x) (R,Q)).1 ((mvs p).foldl (exp1 p l x) (R,Q)).2)=some z:=hb
  cases hg:reachedB p a x<;>rw [hg] at hb
  ·obtain ⟨add,e1,e2⟩:=fold_fst (p:=p) (l:=l) x (mvs p) (R,Q)
   obtain ⟨pi',mi',s'⟩:=seen_moves (mvs p).length 0 R Q pi mi (by omega) hlt s
   rw [List.drop_zero,hx] at s'
   have s2:=seen_next s'
   refine bfs_found f _ _ pi' mi' (h+1) (by rw [e1,List.length_append];show h+1≤R.length+_;omega) ?_ s2 ?_ (fun j hj=>?_) z hb
   ·rw [e1,e2,List.map_append,List.drop_append_of_le_length (by rw [List.length_map];show h+1≤R.length;omega),← hQ2]
   ·rw [e1,vOf_app (show 0 < R.length by omega)];exact h0
   ·rw [e1,vOf_app (show j < R.length by omega)]
    by_cases e:j=h
    ·subst e;rw [hx];exact hg
    ·exact hno j (by omega)
  ·have hzz:(some x,R)=z:=Option.some.inj hb
   subst hzz
   exact ⟨pi,mi,h,s,h0,hno,hlt,hx,hg⟩
theorem seen_start (s0:List Int) (e:List Int×TMove):SeenR p l [(s0,e)] (fun _=>0) (fun _=>0) 0 0 :=
 ⟨⟨Nat.one_pos,fun i h0 hi=>by simp at hi;omega,fun i h0 hi=>by simp at hi;omega,fun i i' h0 h1 hi=>by simp at hi;omega,fun i i' hi hi' _=>by simp at hi hi';omega,fun j k hjk=>by omega⟩,fun i h0 hi=>by simp at hi;omega⟩
theorem reverse_eq {N:Nat} (L:List TMove) (hN:L.length < N) (hl:L.length < 1000000000):g_slices_Reverse_api_Move_api_Move N L=some L.reverse:=by
 have key:∀ (d i fuel:Nat) (C:List TMove),L.length≤2 * i+d→2 * i≤L.length+1→d < fuel→C.length=L.length→(∀ k,k < L.length→C.getD k TMove.d=if k < i∨L.length - i≤k then L.getD (L.length - 1 - k) TMove.d else L.getD k TMove.d) →
   g_slices_Reverse_api_Move_api_Move_L1 N fuel C (i:Int) ((L.length:Int) - 1 - (i:Int))=some L.reverse:=by
  intro d
  induction d using Nat.strongRecOn with
  | _ d ih =>
   intro i fuel C hd hi hf hC hk
   obtain ⟨f,rfl⟩:∃ f,fuel=f+1:=⟨fuel - 1,by omega⟩
   rw [g_slices_Reverse_api_Move_api_Move_L1]
   by_cases hlt:(i:Int) < (L.length:Int) - 1 - (i:Int)
   ·rw [decide_eq_true hlt,cond_true,if_pos ⟨by omega,by omega⟩,if_pos ⟨by omega,by omega⟩]
    have hj:((L.length:Int) - 1 - (i:Int)).toNat=L.length - 1 - i:=by omega
    rw [hj,toNat_nat,w64_succ (by omega),w64_eq (by omega) (by omega),show (L.length:Int) - 1 - (i:Int) - 1=(L.length:Int) - 1 - ((i+1:Nat):Int) by omega]
    refine ih (d - 2) (by omega) (i+1) f _ (by omega) (by omega) (by omega) (by simp [hC]) fun k hkl=>?_
    have e0:=hk k hkl
    have ei:=hk i (by omega)
    have ej:=hk (L.length - 1 - i) (by omega)
    rw [if_neg (by omega)] at ei ej
    have hset:∀ (x y:TMove),((C.set i x).set (L.length - 1 - i) y).getD k TMove.d=if k=L.length - 1 - i then y else if k=i then x else C.getD k TMove.d:=fun x y=>by
     simp only [List.getD_eq_getElem?_getD,List.getElem?_set,List.length_set]
     by_cases h1:L.length - 1 - i=k
     ·rw [if_pos h1,if_pos (by omega),if_pos h1.symm];rfl
     ·rw [if_neg h1,if_neg (show ¬ k=L.length - 1 - i from fun h=>h1 h.symm)]
      by_cases h2:i=k
      ·rw [if_pos h2,if_pos (by omega),if_pos h2.symm];rfl
      ·rw [if_neg h2,if_neg (show ¬ k=i from fun h=>h2 h.symm)]
    rw [hset,ei,ej]
    by_cases h1:k=L.length - 1 - i
    ·rw [if_pos h1,if_pos (by omega)];congr 1;omega
    ·rw [if_neg h1]
     by_cases h2:k=i
     ·rw [if_pos h2,if_pos (by omega),h2]
     ·rw [if_neg h2,e0]
      by_cases h3:k < i∨L.length - i≤k
      ·rw [if_pos h3,if_pos (by omega)]
      ·rw [if_neg h3,if_neg (by omega)]
   ·rw [decide_eq_false hlt,cond_false]
    congr 1
    apply List.ext_getElem (by simp [hC])
    intro k h1 h2
    have e0:=hk k (by omega)
    have hC1:C.getD k TMove.d=C[k]:=by simp [List.getD,h1]
    have hL1:L.getD (L.length - 1 - k) TMove.d=L[L.length - 1 - k]'(by omega):=by
     have:L.length - 1 - k < L.length:=by omega
     simp [List.getD,this]
    rw [List.getElem_reverse,← hL1,← hC1,e0]
    split
    ·rfl
    ·congr 1;omega
 unfold g_slices_Reverse_api_Move_api_Move
 rw [w64_eq (by omega) (by omega)]
 have:=key L.length 0 N L (by omega) (by omega) hN rfl fun k hk=>by rw [if_neg (by omega)]
 simpa using this
theorem way_road {ro:Tw_plan} {s0:List Int} (hro:ro.f_start=stOf s0) {R:List Entry} {pi mi:Nat→Nat} {h:Nat} (s:SeenR p l R pi mi h 0) (h0:vOf R 0=s0) (hp:PontOK p) (g:∀ e,e∈R→StepsOK p e.1) (hR:R.length≤5000000) :
  ∀ i,i < R.length→∀ (N fuel:Nat) (out:List TMove),i < fuel→10000000 < N→out.length+i≤5000000 →
   g_w_plan_way_L1 N ro (enR R) fuel (stOf (vOf R i)) out=some (out ++ (Bfs.road (mvs p) pi mi TMove.d i i).reverse).reverse:=by
 have h6:=hp.nt
 have hv:∀ i,i < R.length→StepsOK p (vOf R i):=fun i hi=>by
  have:vOf R i=R[i].1:=by unfold vOf;simp [List.getD,hi]
  rw [this];exact g _ (List.getElem_mem hi)
 have hnd:(R.map fun z=>stOf z.1).Nodup:=by
  rw [List.Nodup,List.pairwise_iff_getElem]
  intro i j hi hj hij e
  simp only [List.getElem_map,List.length_map] at e hi hj
  have a1:=g _ (List.getElem_mem hi)
  have a2:=g _ (List.getElem_mem hj)
  have:=stOf_inj (by rw [a1.len,a2.len]) (by rw [a1.len];exact h6) e
  have hi2:vOf R i=R[i].1:=by unfold vOf;simp [List.getD,hi]
  have hj2:vOf R j=R[j].1:=by unfold vOf;simp [List.getD,hj]
  have:=s.1.inj i j hi hj (by rw [hi2,hj2,this])
  omega
 intro i
 induction i using Nat.strongRecOn with
 | _ i ih =>
  intro hi N fuel out hf hN ho
  obtain ⟨f,rfl⟩:∃ f,fuel=f+1:=⟨fuel - 1,by omega⟩
  rw [g_w_plan_way_L1]
  have hsame:∀ x y:Tw_state,((x.e0 == y.e0) && ((x.e1 == y.e1) && ((x.e2 == y.e2) && ((x.e3 == y.e3) && ((x.e4 == y.e4) && ((x.e5 == y.e5) && true))))))=eqS y x:=fun x y=>rfl
  rw [hsame,hro]
  by_cases hz:i=0
  ·subst hz
   rw [h0,(eqS_iff _ _).2 rfl,Bool.not_true,cond_false,reverse_eq out (by omega) (by omega),Option.bind_some,if_pos (by simp)]
   simp [Bfs.road]
  ·obtain ⟨b0,b1,b2,b3⟩:=s.1.back i (by omega) hi
   have hne:eqS (stOf s0) (stOf (vOf R i))=false:=by
    cases hq:eqS (stOf s0) (stOf (vOf R i))
    ·rfl
    ·have e:=(eqS_iff _ _).1 hq
     rw [← h0] at e
     have v0:=hv 0 s.1.pos
     have vi:=hv i hi
     have:=s.1.inj 0 i s.1.pos hi (stOf_inj (by rw [v0.len,vi.len]) (by rw [v0.len];exact h6) e)
     omega
   have he:R.getD i ([],([],TMove.d))∈R:=getD_mem _ _ _ hi
   have hg:=get_yes R _ he hnd
   rw [s.2 i (by omega) hi] at hg
   have hg:mGet eqS (enR R) (stOf (vOf R i))=some ⟨stOf (vOf R (pi i)),(mvs p).getD (mi i) TMove.d⟩:=hg
   rw [hne,Bool.not_false,cond_true,if_pos (by omega)]
   have hg2:(mGet (fun (za zb:Tw_state)=>((zb.e0 == za.e0) && ((zb.e1 == za.e1) && ((zb.e2 == za.e2) && ((zb.e3 == za.e3) && ((zb.e4 == za.e4) && ((zb.e5 == za.e5) && true))))))) (enR R) (stOf (vOf R i)))=some ⟨stOf (vOf R (pi i)),(mvs p).getD (mi i) TMove.d⟩:=hg
   rw [hg2,Option.getD_some,ih (pi i) b1 (by omega) N f _ (by omega) hN (by rw [List.length_append];show out.length+1+pi i≤_;omega),Bfs.road_succ s.1 (by omega) hi]
   simp
end
end Go.Den
namespace Go.Den
open Go.Ab
section
variable {p:TPn} {l:TLimits} {a:TAim}
theorem reach_back {R:List Entry} {pi mi:Nat→Nat} {h:Nat} (s:SeenR p l R pi mi h 0):∀ i,i < R.length→∀ n,Bfs.RG (mvs p) (nxS p l) (reachedB p a) n (vOf R i)→∃ k,Bfs.RG (mvs p) (nxS p l) (reachedB p a) k (vOf R 0):=by
 intro i
 induction i using Nat.strongRecOn with
 | _ i ih =>
  intro hi n hn
  by_cases hz:i=0
  ·subst hz;exact ⟨n,hn⟩
  ·obtain ⟨_,b1,b2,b3⟩:=s.1.back i (by omega) hi
   exact ih (pi i) b1 (by omega) (n+1) ⟨_,getD_mem _ _ _ b2,_,b3,hn⟩
theorem road_len {R:List Entry} {pi mi:Nat→Nat} {h:Nat} (s:SeenR p l R pi mi h 0):∀ i,i < R.length→(Bfs.road (mvs p) pi mi TMove.d i i).length≤i:=by
 intro i
 induction i using Nat.strongRecOn with
 | _ i ih =>
  intro hi
  by_cases hz:i=0
  ·subst hz;simp [Bfs.road]
  ·obtain ⟨_,b1,_,_⟩:=s.1.back i (by omega) hi
   have:=ih (pi i) b1 (by omega)
   rw [Bfs.road_succ s.1 (by omega) hi,List.length_append]
   show _+1≤i
   omega
abbrev RGb (p:TPn) (l:TLimits) (a:TAim) (n:Nat) (s:List Int):Prop:=Bfs.RG (mvs p) (nxS p l) (reachedB p a) n s
def Answer2 (p:TPn) (l:TLimits) (a:TAim) (r:List TMove×Int):Prop :=
 (r=([],29)∧∀ n,¬ RGb p l a n a.f_Start) ∨
 ∃ n0,r.2=0∧Bfs.Dst (mvs p) (nxS p l) (reachedB p a) a.f_Start n0∧Bfs.Way (mvs p) (nxS p l) (reachedB p a) TMove.d a.f_Start r.1∧r.1.length=n0∧n0 < cnt p
theorem search_gv (h:In p l a) (hs:StepsOK p a.f_Start) {ro:Tw_plan×Int} (hro:ro.1=planOf p l a) :
  ∃ r,Gv (fun N=>g_w_Ballast_L1 N p ro N (enR [(a.f_Start,([],(⟨0,false⟩:TMove)))]) [stOf a.f_Start] 0 1) r∧Answer2 p l a r:=by
 have g0:Good2 p [(a.f_Start,([],(⟨0,false⟩:TMove)))] [a.f_Start]:=⟨fun e he=>by rw [List.mem_singleton.1 he];exact hs,by simp,by simp,fun q hq=>by rw [List.mem_singleton.1 hq];exact hs⟩
 obtain ⟨z,hz⟩:=bfs_ends (l:=l) (a:=a) h.hp (cnt p+1) _ _ g0 (by simp)
 have hf:=bfs_found (cnt p+1) _ _ _ _ 0 (Nat.zero_le _) rfl (seen_start a.f_Start ([],(⟨0,false⟩:TMove))) rfl (fun j hj=>by omega) z hz
 have gz:∀ (f:Nat) (R:List Entry) (Q:List (List Int)),Good2 p R Q→∀ z,bfs p l a f R Q=some z→(∀ e,e∈z.2→StepsOK p e.1)∧z.2.length≤cnt p:=by
  intro f
  induction f with
  | zero=>intro R Q _ z hb;cases hb
  | succ f ih =>
   intro R Q g z hb
   cases Q with
   | nil =>
    have hzz:(none,R)=z:=Option.some.inj hb
    subst hzz;exact ⟨g.keys,good_len h.hp g⟩
   | cons x Q =>
    have hb:cond (reachedB p a x) (some (some x,R)) (bfs p l a f ((mvs p).foldl (exp1 p l x) (R,Q)).1 ((mvs p).foldl (exp1 p l x) (R,Q)).2)=some z:=hb
    cases hg:reachedB p a x<;>rw [hg] at hb
    ·have hx:=g.que x (.head _)
     refine ih _ _ (fold_good hx (mvs p) (R,Q) ⟨g.keys,g.nd,?_,fun q hq=>g.que q (.tail _ hq)⟩) z hb
     have:=g.len
     simp only [List.length_cons] at this
     show Q.length≤R.length
     omega
    ·have hzz:(some x,R)=z:=Option.some.inj hb
     subst hzz;exact ⟨g.keys,good_len h.hp g⟩
 obtain ⟨k1,k2⟩:=gz _ _ _ g0 z hz
 have hcn:=cnt_le h.hp
 obtain ⟨pi,mi,hh,s,hv0,hno,hend⟩:=hf
 have hrest:Rest [stOf a.f_Start] 0 1 [a.f_Start]:=⟨rfl,rfl,rfl⟩
 obtain ⟨z1,z2⟩:=z
 cases z1 with
 | none =>
  have hend:hh=z2.length:=hend
  refine ⟨([],29),(L1_all h hro (z:=(none,z2)) (r:=([],29)) rfl _ _ _ g0 hz _ _ _ hrest).diag,.inl ⟨rfl,fun n hn=>?_⟩⟩
  have hv0:vOf z2 0=a.f_Start:=hv0
  rw [← hv0] at hn
  exact Bfs.no_way s.1 hend hno n 0 s.1.pos hn
 | some g =>
  obtain ⟨e1,e2,e3⟩:hh < z2.length∧vOf z2 hh=g∧reachedB p a g=true:=hend
  have hv0:vOf z2 0=a.f_Start:=hv0
  have k1:∀ e,e∈z2→StepsOK p e.1:=k1
  have k2:z2.length≤cnt p:=k2
  have hway:Gv (fun N=>g_w_plan_way N (planOf p l a) (stOf g) (enR z2)) (Bfs.road (mvs p) pi mi TMove.d hh hh):=.of 10000001 fun N hN=>by
   have:=way_road (ro:=planOf p l a) rfl s hv0 h.hp k1 (by omega) hh e1 N N [] (by omega) (by omega) (by simp;omega)
   rw [e2] at this
   unfold g_w_plan_way
   rw [this];simp
  refine ⟨(_,0),(L1_all h hro (z:=(some g,z2)) ⟨_,hway,rfl⟩ _ _ _ g0 hz _ _ _ hrest).diag,.inr ?_⟩
  rw [← e2] at e3
  obtain ⟨k,hk⟩:=reach_back (a:=a) s hh e1 0 e3
  obtain ⟨n0,_,hd⟩:=Bfs.dst_ex (mvs p) (nxS p l) (reachedB p a) k hk
  obtain ⟨w1,w2⟩:=Bfs.first_way s.1 hd e1 e3 hno
  rw [hv0] at hd w1
  have:=road_len s hh e1
  exact ⟨n0,rfl,hd,w1,w2,by omega⟩
theorem ballast_ans (p:TPn) (l:TLimits) (a:TAim):∃ r,Gv (fun N=>g_w_Ballast N p l a) r ∧
  ((beginCode p l a≠0∧r=([],beginCode p l a))∨(beginCode p l a=0∧20000 < cnt p∧r=([],8))∨(beginCode p l a=0∧cnt p≤20000∧keepB p l a.f_Start=false∧r=([],16)) ∨
    (beginCode p l a=0∧cnt p≤20000∧keepB p l a.f_Start=true∧Answer2 p l a r)):=by
 obtain ⟨t,h1,h2⟩:=open_gv p l a
 by_cases hz:beginCode p l a=0
 ·obtain ⟨z1,z2,z3,z4⟩:=begin_zero hz
  have hI:In p l a:=⟨pont_ok z1,lim_ok z2,z4⟩
  have hs:=steps_ok z3
  have ht:=h2 hz
  have hne:(beginCode p l a != 0)=false:=by rw [hz];rfl
  have hmany:Gv (fun N=>g_w_many N p) (cnt p:Int):=.of 41 fun N hN=>many_eq (by omega) hI.hp
  by_cases hc:20000 < cnt p
  ·exact ⟨([],8),Gv.bind h1 (Gv.condF hne (Gv.bind hmany (Gv.condT (decide_eq_true (by omega)) (Gv.pure _)))),.inr (.inl ⟨hz,hc,rfl⟩)⟩
  ·have hkeep:Gv (fun N=>g_w_plan_keeps N t t.f_start) (keepB p l a.f_Start):=by rw [ht];exact keeps_gv hI hs
   cases hk:keepB p l a.f_Start with
   | false=>exact ⟨([],16),Gv.bind h1 (Gv.condF hne (Gv.bind hmany (Gv.condF (decide_eq_false (by omega)) (Gv.bind hkeep (Gv.condT (by rw [hk];rfl) (Gv.pure _)))))),.inr (.inr (.inl ⟨hz,by omega,rfl,rfl⟩))⟩
   | true =>
    obtain ⟨r,hr,ha⟩:=search_gv hI hs (ro:=(t,beginCode p l a)) ht
    refine ⟨r,Gv.bind h1 (Gv.condF hne (Gv.bind hmany (Gv.condF (decide_eq_false (by omega)) (Gv.bind hkeep (Gv.condF (by rw [hk];rfl) ?_))))),.inr (.inr (.inr ⟨hz,by omega,rfl,ha⟩))⟩
    rw [ht]
    rw [ht] at hr
    exact hr
 ·exact ⟨([],beginCode p l a),Gv.bind h1 (Gv.condT (by simpa using hz) (Gv.pure _)),.inl ⟨hz,rfl⟩⟩
theorem nx_some {s t:List Int} {m:TMove} (h:nxS p l s m=some t):movable p m∧nextOk p s m=true∧keepB p l (nextOf s m)=true∧t=nextOf s m:=by
 unfold nxS at h
 cases h1:decide (movable p m) && nextOk p s m && keepB p l (nextOf s m)<;>rw [h1] at h
 ·cases h
 ·cases h
  simp only [Bool.and_eq_true,decide_eq_true_eq] at h1
  exact ⟨h1.1.1,h1.1.2,h1.2,rfl⟩
theorem mv_mem {m:TMove} (h:movable p m):m∈mvs p:=by
 unfold mvs
 rw [List.mem_flatMap]
 refine ⟨m.f_Tank.toNat,List.mem_range.2 (by omega),?_⟩
 have e:((m.f_Tank.toNat:Nat):Int)=m.f_Tank:=by omega
 unfold two
 rw [e]
 cases m with
 | mk t u=>cases u<;>simp
end
end Go.Den
namespace Go.Den
open Go.Ab
section
variable {p:TPn} {l:TLimits} {a:TAim}
def invM (m:TMove):TMove:=⟨m.f_Tank,!m.f_Up⟩
theorem undo {s:List Int} (hs:StepsOK p s) {m:TMove} (hm:movable p m):movable p (invM m)∧nextOf (nextOf s m) (invM m)=s∧nextOk p (nextOf s m) (invM m)=true:=by
 have hi:m.f_Tank.toNat < s.length:=by rw [hs.len];omega
 have h1:=hs.lo _ hi
 have h2:=hs.hi _ hi
 have hg:(nextOf s m).getD m.f_Tank.toNat 0=stepTo m (s.getD m.f_Tank.toNat 0):=getD_set_self hi
 have hst:∀ v:Int,stepTo (invM m) (stepTo m v)=v:=fun v=>by
  unfold stepTo invM
  cases m.f_Up
  ·show v - 1+1=v;omega
  ·show v+1 - 1=v;omega
 refine ⟨hm,?_,?_⟩
 ·show (nextOf s m).set m.f_Tank.toNat (stepTo (invM m) ((nextOf s m).getD m.f_Tank.toNat 0))=s
  rw [hg,hst]
  unfold nextOf
  rw [List.set_set]
  have:s.getD m.f_Tank.toNat 0=s[m.f_Tank.toNat]:=by simp [List.getD,hi]
  rw [this,List.set_getElem_self]
 ·show rng (stepTo (invM m) ((nextOf s m).getD m.f_Tank.toNat 0)) 0 (tkAt p m.f_Tank.toNat).f_Steps=true
  rw [hg,hst]
  exact rng_iff.2 ⟨h1,h2⟩
end
end Go.Den
namespace Go.Den
open Go.Ab
theorem states_gv {p:TPn} (hp:PontOK p):∃ v:Int,Gv (fun N=>g_r05_States N p 20000) v∧(cnt p≤20000→v=cnt p)∧(20000 < cnt p→20000 < v):=by
 obtain ⟨v,e1,e2,e3⟩:=states_eq (N:=41) (by omega) hp
 refine ⟨v,.of 41 fun N hN=>(states_indep hN hp).trans e1,fun h=>by rw [e2 h],fun h=>by have:=e3 h;omega⟩
theorem light_gv2 (p:TPn):∃ b,Gv (fun N=>g_w05_light N p) b∧(b=true→pontCode p=0→cnt p≤60∨20000 < cnt p):=by
 obtain ⟨b,hb⟩:=few_gv p
 cases b with
 | false=>exact ⟨false,Gv.bind hb (Gv.condT rfl (Gv.pure _)),fun h=>by cases h⟩
 | true =>
  by_cases hp:pontCode p=0
  ·obtain ⟨v,hv,e2,e3⟩:=states_gv (pont_ok hp)
   refine ⟨_,Gv.bind hb (Gv.condF rfl (Gv.bind (.of 41 fun N hN=>refPont_eq (by omega) p) (Gv.condT (by rw [hp];rfl) (Gv.bind hv (Gv.pure _))))),fun hq _=>?_⟩
   by_cases hc:cnt p≤20000
   ·rw [e2 hc] at hq
    by_cases h6:((cnt p:Nat):Int)≤60
    ·exact .inl (by omega)
    ·rw [decide_eq_false h6,decide_eq_false (by omega)] at hq;cases hq
   ·exact .inr (by omega)
  ·exact ⟨_,Gv.bind hb (Gv.condF rfl (Gv.bind (.of 41 fun N hN=>refPont_eq (by omega) p) (Gv.condF (by simpa using hp) (Gv.pure _)))),fun _ h=>absurd h hp⟩
end Go.Den
namespace Go.Den
open Go.Ab
section
variable {p:TPn} {l:TLimits} {a:TAim}
theorem numF_le:∀ (r:List Nat) (s:List Int),s.length=r.length→(∀ i,i < r.length→0≤s.getD i 0∧s.getD i 0 < ((r.getD i 0:Nat):Int))→numF r s < prn r:=fun r s h1 h2=>(stF_num r s h1 h2).2
theorem number_eq (hp:PontOK p) {s:List Int} (hs:StepsOK p s) {N:Nat} (hN:40 < N):g_r05_Number N p s=some (numS p s:Int):=by
 have h6:=hp.nt
 have hl:=hs.len
 have hrl:(rdx p).length=p.fTk.length:=by simp [rdx]
 have hbd:∀ i,i < p.fTk.length→0≤s.getD i 0∧s.getD i 0 < (((rdx p).getD i 0:Nat):Int):=fun i hi=>by
  have h1:=hs.lo i (by omega)
  have h2:=hs.hi i (by omega)
  rw [rdx_at hi]
  have:=(rad_eq hp hi).2
  omega
 have key:∀ (i fuel:Nat),i≤p.fTk.length→i < fuel→g_r05_Number_L1 N p s fuel (numF ((rdx p).drop i) (s.drop i):Int) ((i:Int) - 1)=some (numS p s:Int):=by
  intro i
  induction i with
  | zero =>
   intro fuel _ hf
   obtain ⟨f,rfl⟩:∃ f,fuel=f+1:=⟨fuel - 1,by omega⟩
   rw [g_r05_Number_L1,decide_eq_false (by decide),cond_false];rfl
  | succ i ih =>
   intro fuel hi hf
   obtain ⟨f,rfl⟩:∃ f,fuel=f+1:=⟨fuel - 1,by omega⟩
   have hit:i < p.fTk.length:=by omega
   obtain ⟨e1,e2⟩:=rad_eq hp hit
   have e:p.fTk.getD i TTank.d=tkAt p i:=rfl
   have hb:=hbd i hit
   have hcut:numF ((rdx p).drop i) (s.drop i)=(s.getD i 0).toNat+((tkAt p i).f_Steps+1).toNat * numF ((rdx p).drop (i+1)) (s.drop (i+1)):=by
    rw [drop_getD (rdx p) i 0 (by omega),drop_getD s i 0 (by omega),numF,rdx_at hit]
   have hsmall:∀ j,j≤p.fTk.length→numF ((rdx p).drop j) (s.drop j) < 4826810:=fun j hj=>by
    have h1:=numF_le ((rdx p).drop j) (s.drop j) (by simp;omega) fun i hi=>by
     have:=hbd (j+i) (by simp at hi;omega)
     simpa [List.getD_eq_getElem?_getD,List.getElem?_drop] using this
    have h2:prn ((rdx p).drop j)≤4826809:=by
     have h3:=prn_le (l:=(rdx p).drop j) fun r hr=>(rdx_b hp r (List.mem_of_mem_drop hr)).2
     exact Nat.le_trans h3 (pow13 (by simp;omega))
    omega
   have hi1:=hsmall i (by omega)
   have h13:=(rdx_b hp _ (getD_mem (rdx p) i 0 (by omega))).2
   rw [rdx_at hit] at h13
   have hi2:=hsmall (i+1) (by omega)
   have hmul:numF ((rdx p).drop (i+1)) (s.drop (i+1)) * ((tkAt p i).f_Steps+1).toNat≤4826810 * 13:=Nat.mul_le_mul (by omega) h13
   rw [show (((i+1:Nat):Int) - 1)=(i:Int) by omega,g_r05_Number_L1,decide_eq_true (by omega),cond_true,if_pos ⟨by omega,by omega⟩,if_pos ⟨by omega,by omega⟩,toNat_nat,e,e1]
   have e3:(numF ((rdx p).drop (i+1)) (s.drop (i+1)):Int) * (((tkAt p i).f_Steps+1).toNat:Int)=((numF ((rdx p).drop (i+1)) (s.drop (i+1)) * ((tkAt p i).f_Steps+1).toNat:Nat):Int):=by simp
   rw [e3,w64_nat (by omega)]
   have e4:((numF ((rdx p).drop (i+1)) (s.drop (i+1)) * ((tkAt p i).f_Steps+1).toNat:Nat):Int)+s.getD i 0=((numF ((rdx p).drop i) (s.drop i):Nat):Int):=by
    rw [hcut,Nat.mul_comm];omega
   rw [e4,w64_nat (by omega),w64_eq (by omega) (by omega)]
   exact ih f (by omega) (by omega)
 unfold g_r05_Number
 rw [w64_eq (by omega) (by omega),hl]
 have:=key p.fTk.length N (Nat.le_refl _) (by omega)
 rw [List.drop_eq_nil_of_le (by omega)] at this
 exact this
theorem rmoves_eq (hp:PontOK p) {N:Nat} (hN:40 < N):g_r05_Moves N p=some (mvs p):=by
 have h6:=hp.nt
 have key:∀ (k i fuel:Nat),i+k=p.fTk.length→k < fuel→g_r05_Moves_L1 N p fuel ((List.range i).flatMap two) (i:Int)=some (mvs p):=by
  intro k
  induction k with
  | zero =>
   intro i fuel h hf
   obtain ⟨f,rfl⟩:∃ f,fuel=f+1:=⟨fuel - 1,by omega⟩
   have:i=p.fTk.length:=by omega
   subst this
   rw [g_r05_Moves_L1,dec_nlt,cond_false];rfl
  | succ k ih =>
   intro i fuel h hf
   obtain ⟨f,rfl⟩:∃ f,fuel=f+1:=⟨fuel - 1,by omega⟩
   have hlen:∀ j,((List.range j).flatMap two).length=2 * j:=fun j=>by
    induction j with
    | zero=>rfl
    | succ j ih=>rw [List.range_succ,List.flatMap_append,List.length_append,ih];simp [two];omega
   rw [g_r05_Moves_L1,dec_lt (by omega),cond_true,if_pos (by rw [hlen];omega),w64_succ (by omega)]
   have e:(List.range i).flatMap two ++ [(⟨(i:Int),true⟩:TMove),⟨(i:Int),false⟩]=(List.range (i+1)).flatMap two:=by
    rw [List.range_succ,List.flatMap_append];simp [two]
   rw [e]
   exact ih (i+1) f (by omega) (by omega)
 exact key p.fTk.length 0 N (by omega) (by omega)
theorem mvs_len:(mvs p).length=2 * p.fTk.length:=by
 unfold mvs
 have hlen:∀ j,((List.range j).flatMap two).length=2 * j:=fun j=>by
  induction j with
  | zero=>rfl
  | succ j ih=>rw [List.range_succ,List.flatMap_append,List.length_append,ih];simp [two];omega
 exact hlen _
theorem num_stF:∀ (r:List Nat) (k:Nat),(∀ x∈r,1≤x)→k < prn r→numF r (stF r k)=k
 | [],k,_,h=>by
  have h:k < 1:=h
  have:k=0:=by omega
  subst this;rfl
 | x :: r,k,hx,h=>by
  have h1:=hx x (by simp)
  have h2:k / x < prn r:=by
   rw [Nat.div_lt_iff_lt_mul (by omega),Nat.mul_comm];exact h
  simp only [stF,numF]
  rw [num_stF r (k / x) (fun y hy=>hx y (by simp [hy])) h2]
  show ((k % x:Nat):Int).toNat+x * (k / x)=k
  rw [toNat_nat]
  exact Nat.mod_add_div k x
theorem num_stL (hp:PontOK p) {k:Nat} (hk:k < cnt p):numS p (stL p k)=k:=num_stF _ _ (fun r hr=>(rdx_b hp r hr).1) hk
abbrev DS (p:TPn) (l:TLimits) (a:TAim) (s:List Int) (j:Nat):Prop:=Bfs.Dst (mvs p) (nxS p l) (reachedB p a) s j
structure DR (p:TPn) (l:TLimits) (a:TAim) (d k0 i0:Nat) (out:List Int):Prop where
 len:out.length=cnt p
 snd:∀ k,k < cnt p→out.getD k 0 = -1∨∃ j:Nat,out.getD k 0=(j:Int)∧j≤d+1∧keepB p l (stL p k)=true∧DS p l a (stL p k) j
 cmp:∀ k,k < cnt p→keepB p l (stL p k)=true→∀ j,j≤d→DS p l a (stL p k) j→out.getD k 0=(j:Int)
 done:∀ k i,k < k0∨k=k0∧i < i0→k < cnt p→i < (mvs p).length→out.getD k 0=(d:Int)→movable p ((mvs p).getD i TMove.d)→nextOk p (stL p k) ((mvs p).getD i TMove.d)=true→keepB p l (nextOf (stL p k) ((mvs p).getD i TMove.d))=true→0≤out.getD (numS p (nextOf (stL p k) ((mvs p).getD i TMove.d))) 0
def DI (p:TPn) (l:TLimits) (a:TAim) (d:Nat) (out:List Int):Prop:=DR p l a d 0 0 out∧∀ k,k < cnt p→out.getD k 0≤(d:Int)
def relax (p:TPn) (l:TLimits) (d k:Nat) (out:List Int) (m:TMove):List Int :=
 if ((decide (movable p m) && nextOk p (stL p k) m)=true∧keepB p l (nextOf (stL p k) m)=true)∧out.getD (numS p (nextOf (stL p k) m)) 0 < 0 then out.set (numS p (nextOf (stL p k) m)) ((d:Int)+1) else out
theorem relax_ok (hp:PontOK p) {d k i:Nat} (hk:k < cnt p) (hi:i < (mvs p).length) {out:List Int} (hd:out.getD k 0=(d:Int)) (s:DR p l a d k i out) :
  DR p l a d k (i+1) (relax p l d k out ((mvs p).getD i TMove.d))∧(relax p l d k out ((mvs p).getD i TMove.d)).getD k 0=(d:Int):=by
 have hst:=stL_ok hp k
 unfold relax
 generalize hm:(mvs p).getD i TMove.d=m
 by_cases hc:((decide (movable p m) && nextOk p (stL p k) m)=true∧keepB p l (nextOf (stL p k) m)=true)∧out.getD (numS p (nextOf (stL p k) m)) 0 < 0
 ·rw [if_pos hc]
  obtain ⟨⟨h1,h2⟩,h3⟩:=hc
  simp only [Bool.and_eq_true,decide_eq_true_eq] at h1
  have ht:=next_ok hst h1.1 h1.2
  obtain ⟨n1,n2⟩:=num_ok hp ht
  obtain ⟨u1,u2,u3⟩:=undo hst h1.1
  have hkk:keepB p l (stL p k)=true∧DS p l a (stL p k) d:=by
   rcases s.snd k hk with h | ⟨j,e,_,q1,q2⟩
   ·rw [hd] at h;omega
   ·have:j=d:=by omega
    subst this;exact ⟨q1,q2⟩
  have hrg:RGb p l a (d+1) (nextOf (stL p k) m):=⟨invM m,mv_mem u1,stL p k,by unfold nxS;rw [u2,decide_eq_true u1,u3,hkk.1];rfl,hkk.2.1⟩
  have hD:DS p l a (nextOf (stL p k) m) (d+1):=by
   obtain ⟨j,hj,hD⟩:=Bfs.dst_ex (mvs p) (nxS p l) (reachedB p a) (d+1) hrg
   by_cases hjd:j≤d
   ·have:=s.cmp (numS p (nextOf (stL p k) m)) n2 (by rw [n1];exact h2) j hjd (by rw [n1];exact hD)
    omega
   ·have:j=d+1:=by omega
    subst this;exact hD
  have hset:∀ z,z < cnt p→(out.set (numS p (nextOf (stL p k) m)) ((d:Int)+1)).getD z 0=if z=numS p (nextOf (stL p k) m) then (d:Int)+1 else out.getD z 0:=fun z hz=>by
   have:=s.len
   simp only [List.getD_eq_getElem?_getD,List.getElem?_set]
   by_cases e:numS p (nextOf (stL p k) m)=z
   ·rw [if_pos e,if_pos (by omega),if_pos e.symm];rfl
   ·rw [if_neg e,if_neg (show ¬ z=numS p (nextOf (stL p k) m) from fun h=>e h.symm)]
  refine ⟨⟨by rw [List.length_set];exact s.len,fun z hz=>?_,fun z hz hk2 j hj hD2=>?_,fun z q hzq hz hq hzd hmv hno hkp=>?_⟩,?_⟩
  ·rw [hset z hz]
   split
   ·rename_i e;subst e
    exact .inr ⟨d+1,by omega,by omega,by rw [n1];exact h2,by rw [n1];exact hD⟩
   ·exact s.snd z hz
  ·rw [hset z hz]
   split
   ·rename_i e;subst e
    rw [n1] at hD2
    have:=Bfs.dst_uniq hD hD2
    omega
   ·exact s.cmp z hz hk2 j hj hD2
  ·rw [hset z hz] at hzd
   split at hzd
   ·omega
   ·have ht2:=next_ok (stL_ok hp z) hmv hno
    have hn2:=(num_ok hp ht2).2
    rw [hset _ hn2]
    split
    ·omega
    ·rename_i hne
     by_cases e:z=k∧q=i
     ·obtain ⟨rfl,rfl⟩:=e
      rw [hm] at hne;exact absurd rfl hne
     ·exact s.done z q (by omega) hz hq hzd hmv hno hkp
  ·rw [hset k hk]
   split
   ·rename_i e;rw [← e] at h3;omega
   ·exact hd
 ·rw [if_neg hc]
  refine ⟨⟨s.len,s.snd,s.cmp,fun z q hzq hz hq hzd hmv hno hkp=>?_⟩,hd⟩
  by_cases e:z=k∧q=i
  ·obtain ⟨rfl,rfl⟩:=e
   rw [hm] at hmv hno hkp ⊢
   rcases Int.lt_or_le (out.getD (numS p (nextOf (stL p z) m)) 0) 0 with h | h
   ·exact absurd ⟨⟨by rw [decide_eq_true hmv,hno];rfl,hkp⟩,h⟩ hc
   ·exact h
  ·exact s.done z q (by omega) hz hq hzd hmv hno hkp
theorem row_end {d k:Nat} {out:List Int} (s:DR p l a d k (mvs p).length out):DR p l a d (k+1) 0 out :=
 ⟨s.len,s.snd,s.cmp,fun z q h hz hq=>s.done z q (by omega) hz hq⟩
theorem row_skip {d k:Nat} {out:List Int} (h:out.getD k 0≠(d:Int)) (s:DR p l a d k 0 out):DR p l a d (k+1) 0 out :=
 ⟨s.len,s.snd,s.cmp,fun z q hz hzc hq hzd=>by
  by_cases e:z=k
  ·subst e;exact absurd hzd h
  ·exact s.done z q (by omega) hzc hq hzd⟩
theorem round_end (hp:PontOK p) {d:Nat} {out:List Int} (s:DR p l a d (cnt p) 0 out):DI p l a (d+1) out:=by
 refine ⟨⟨s.len,fun k hk=>?_,fun k hk hkp j hj hD=>?_,fun z q h=>by omega⟩,fun k hk=>?_⟩
 ·rcases s.snd k hk with h | ⟨j,e,h1,h2⟩
  ·exact .inl h
  ·exact .inr ⟨j,e,by omega,h2⟩
 ·by_cases hjd:j≤d
  ·exact s.cmp k hk hkp j hjd hD
  ·have:j=d+1:=by omega
   subst this
   have hst:=stL_ok hp k
   obtain ⟨m,hm,t,hn,hDt⟩:=Bfs.dst_next hD
   obtain ⟨h1,h2,h3,rfl⟩:=nx_some hn
   have ht:=next_ok hst h1 h2
   obtain ⟨n1,n2⟩:=num_ok hp ht
   obtain ⟨u1,u2,u3⟩:=undo hst h1
   obtain ⟨q,hq,hqe⟩:=List.getElem_of_mem (mv_mem u1)
   have hqe2:(mvs p).getD q TMove.d=invM m:=by rw [← hqe];simp [List.getD,hq]
   have hod:=s.cmp (numS p (nextOf (stL p k) m)) n2 (by rw [n1];exact h3) d (Nat.le_refl _) (by rw [n1];exact hDt)
   have hdone:=s.done (numS p (nextOf (stL p k) m)) q (.inl n2) n2 hq hod
   rw [hqe2,n1,u2] at hdone
   have h0:=hdone u1 u3 hkp
   have hnk:=num_stL hp hk
   rw [hnk] at h0
   rcases s.snd k hk with h | ⟨j',e,_,_,hD'⟩
   ·omega
   ·have:=Bfs.dst_uniq hD hD'
    omega
 ·rcases s.snd k hk with h | ⟨j,e,h1,h2⟩<;>omega
end
end Go.Den
namespace Go.Den
open Go.Ab
section
variable {p:TPn} {l:TLimits} {a:TAim}
def goodL (p:TPn) (l:TLimits):List Bool:=(List.range (cnt p)).map fun k=>keepB p l (stL p k)
theorem goodL_at {k:Nat} (hk:k < cnt p):(goodL p l).getD k false=keepB p l (stL p k):=by unfold goodL;simp [List.getD,hk]
theorem goodL_len:(goodL p l).length=cnt p:=by unfold goodL;simp
theorem dsNumber (hp:PontOK p) {s:List Int} (hs:StepsOK p s):Gv (fun N=>g_r05_Number N p s) (numS p s:Int):=.of 41 fun N hN=>number_eq hp hs (by omega)
abbrev KT:=List Int→Int→Option (List Int)
theorem dsL6 (h:In p l a) (hc:cnt p≤20000) {d k:Nat} (hd:d < 20000) (hk:k < cnt p) {P:List Int→Prop} {K4 K3:Nat→Nat→KT}
  (hK:∀ out',DR p l a d k (mvs p).length out'→∃ r,Gv2 (fun N f=>K4 N f out' ((k+1:Nat):Int)) r∧P r):∀ (e i c:Nat) (out:List Int),i+e=(mvs p).length→DR p l a d k i out→out.getD k 0=(d:Int) →
   ∃ r,Gv2 (fun N f=>g_r05_distances_L6 N p (cnt p:Int) (goodL p l) (mvs p) (d:Int) (k:Int) (K4 N f) (K3 N f) (N - c) out (i:Int)) r∧P r
 | 0,i,c,out,hi,s,hdk=>by
  have:i=(mvs p).length:=by omega
  subst this
  obtain ⟨r,hr,hP⟩:=hK out s
  refine ⟨r,Gv2.round (f:=fun N f q=>g_r05_distances_L6 N p (cnt p:Int) (goodL p l) (mvs p) (d:Int) (k:Int) (K4 N f) (K3 N f) q out ((mvs p).length:Int)) c (fun N f q=>g_r05_distances_L6.eq_2 ..) (Gv2.condF dec_nlt ?_),hP⟩
  unfold g_r05_distances_J5
  rw [w64_succ (by omega)]
  exact hr
 | e+1,i,c,out,hi,s,hdk=>by
  have hm6:=h.hp.nt
  have hml:=mvs_len (p:=p)
  have hin:i < (mvs p).length:=by omega
  obtain ⟨s',hdk'⟩:=relax_ok h.hp hk hin hdk s
  obtain ⟨r,hr,hP⟩:=dsL6 h hc hd hk hK e (i+1) (c+1) _ (by omega) s' hdk'
  have hst:=stL_ok h.hp k
  refine ⟨r,Gv2.round (f:=fun N f q=>g_r05_distances_L6 N p (cnt p:Int) (goodL p l) (mvs p) (d:Int) (k:Int) (K4 N f) (K3 N f) q out (i:Int)) c (fun N f q=>g_r05_distances_L6.eq_2 ..) (Gv2.condT (dec_lt hin) ?_),hP⟩
  refine Gv2.bind (.of 41 fun N hN=>state_eq (by omega) h.hp k (by omega)) (Gv2.if (inb hin) ?_)
  rw [toNat_nat]
  generalize hm:(mvs p).getD i TMove.d=m at hr ⊢
  obtain ⟨t,e1,e2⟩:=made_eq h.hp hst m
  refine Gv2.bind (.of 0 fun N _=>e1 N) ?_
  have hJ:∀ o:List Int,Gv2 (fun N f=>g_r05_distances_L6 N p (cnt p:Int) (goodL p l) (mvs p) (d:Int) (k:Int) (K4 N f) (K3 N f) (N - (c+1)) o ((i+1:Nat):Int)) r →
    Gv2 (fun N f=>g_r05_distances_J7 N p (cnt p:Int) (goodL p l) (mvs p) (d:Int) (k:Int) (i:Int) (g_r05_distances_L6 N p (cnt p:Int) (goodL p l) (mvs p) (d:Int) (k:Int) (K4 N f) (K3 N f) (N - (c+1))) (K4 N f) (K3 N f) o) r:=fun o ho=>by
   unfold g_r05_distances_J7
   rw [w64_succ (by omega)];exact ho
  unfold relax at hr
  cases hok:decide (movable p m) && nextOk p (stL p k) m with
  | false =>
   rw [hok,if_neg (fun hq=>by cases hq.1.1)] at hr
   refine Gv2.bind (r:=0) (.of 0 fun N _=>rfl) (Gv2.if (fun hq=>by cases hq) (Gv2.bind (r:=0) (.of 0 fun N _=>rfl) (Gv2.if (fun hq=>by cases hq) (Gv2.condF rfl (hJ _ hr)))))
  | true =>
   have hok2:=hok
   simp only [Bool.and_eq_true,decide_eq_true_eq] at hok2
   have ht:=next_ok hst hok2.1 hok2.2
   obtain ⟨n1,n2⟩:=num_ok h.hp ht
   have et:=e2 hok2.1
   subst et
   have hgd:(goodL p l).getD ((numS p (nextOf (stL p k) m):Int)).toNat false=keepB p l (nextOf (stL p k) m):=by rw [toNat_nat,goodL_at n2,n1]
   have hgl:=goodL_len (p:=p) (l:=l)
   have hol:=s.len
   have hb1:0≤(numS p (nextOf (stL p k) m):Int)∧(numS p (nextOf (stL p k) m):Int) < (((goodL p l).length:Nat):Int):=⟨by omega,by rw [hgl];omega⟩
   have hb2:0≤(numS p (nextOf (stL p k) m):Int)∧(numS p (nextOf (stL p k) m):Int) < ((out.length:Nat):Int):=⟨by omega,by rw [hol];omega⟩
   refine Gv2.bind (dsNumber h.hp ht) (Gv2.if (fun _=>hb1) ?_)
   rw [hgd]
   cases hkp:keepB p l (nextOf (stL p k) m) with
   | false =>
    rw [if_neg (fun hq=>by rw [hkp] at hq;cases hq.1.2)] at hr
    exact Gv2.bind (r:=0) (.of 0 fun N _=>rfl) (Gv2.if (fun hq=>by cases hq) (Gv2.condF rfl (hJ _ hr)))
   | true =>
    refine Gv2.bind (dsNumber h.hp ht) (Gv2.if (fun _=>hb2) ?_)
    rw [toNat_nat]
    by_cases hneg:out.getD (numS p (nextOf (stL p k) m)) 0 < 0
    ·rw [if_pos ⟨⟨hok,hkp⟩,hneg⟩] at hr
     refine Gv2.condT (by rw [decide_eq_true hneg];rfl) (Gv2.bind (dsNumber h.hp ht) (Gv2.if hb2 ?_))
     rw [toNat_nat,w64_succ (by omega)]
     have:=hJ _ hr
     exact this
    ·rw [if_neg (fun hq=>hneg hq.2)] at hr
     exact Gv2.condF (by rw [decide_eq_false hneg];rfl) (hJ _ hr)
theorem dsL4 (h:In p l a) (hc:cnt p≤20000) {d:Nat} (hd:d < 20000) {P:List Int→Prop} {K3:Nat→Nat→KT}
  (hK:∀ out',DR p l a d (cnt p) 0 out'→∃ r,Gv2 (fun N f=>K3 N f out' ((d+1:Nat):Int)) r∧P r):∀ (e k c:Nat) (out:List Int),k+e=cnt p→DR p l a d k 0 out →
   ∃ r,Gv2 (fun N f=>g_r05_distances_L4 N p (cnt p:Int) (goodL p l) (mvs p) (d:Int) (K3 N f) (N - c) out (k:Int)) r∧P r
 | 0,k,c,out,hi,s=>by
  have:k=cnt p:=by omega
  subst this
  obtain ⟨r,hr,hP⟩:=hK out s
  refine ⟨r,Gv2.round (f:=fun N f q=>g_r05_distances_L4 N p (cnt p:Int) (goodL p l) (mvs p) (d:Int) (K3 N f) q out (cnt p:Int)) c (fun N f q=>g_r05_distances_L4.eq_2 ..) (Gv2.condF dec_nlt ?_),hP⟩
  rw [w64_succ (by omega)]
  exact hr
 | e+1,k,c,out,hi,s=>by
  have hin:k < cnt p:=by omega
  have hol:=s.len
  by_cases hq:out.getD k 0=(d:Int)
  ·obtain ⟨r,hr,hP⟩:=dsL6 (K4:=fun N f=>g_r05_distances_L4 N p (cnt p:Int) (goodL p l) (mvs p) (d:Int) (K3 N f) (N - (c+1))) (K3:=K3) h hc hd hin (fun out' s'=>dsL4 h hc hd hK e (k+1) (c+1) out' (by omega) (row_end s')) (mvs p).length 0 0 out (by omega) s hq
   refine ⟨r,Gv2.round (f:=fun N f q=>g_r05_distances_L4 N p (cnt p:Int) (goodL p l) (mvs p) (d:Int) (K3 N f) q out (k:Int)) c (fun N f q=>g_r05_distances_L4.eq_2 ..) (Gv2.condT (dec_lt hin) (Gv2.if ⟨by omega,by omega⟩ (Gv2.condF (by rw [toNat_nat,hq];simp) hr))),hP⟩
  ·obtain ⟨r,hr,hP⟩:=dsL4 h hc hd hK e (k+1) (c+1) out (by omega) (row_skip hq s)
   refine ⟨r,Gv2.round (f:=fun N f q=>g_r05_distances_L4 N p (cnt p:Int) (goodL p l) (mvs p) (d:Int) (K3 N f) q out (k:Int)) c (fun N f q=>g_r05_distances_L4.eq_2 ..) (Gv2.condT (dec_lt hin) (Gv2.if ⟨by omega,by omega⟩ (Gv2.condT (by rw [toNat_nat];simpa using hq) ?_))),hP⟩
   unfold g_r05_distances_J5
   rw [w64_succ (by omega)]
   exact hr
theorem dsL3 (h:In p l a) (hc:cnt p≤20000):∀ (e d c:Nat) (out:List Int),d+e=cnt p→DI p l a d out →
   ∃ r,Gv2 (fun N (_:Nat)=>g_r05_distances_L3 N p (cnt p:Int) (goodL p l) (mvs p) (N - c) out (d:Int)) r∧DI p l a (cnt p) r
 | 0,d,c,out,hi,s=>by
  have:d=cnt p:=by omega
  subst this
  exact ⟨out,Gv2.round (f:=fun N _ q=>g_r05_distances_L3 N p (cnt p:Int) (goodL p l) (mvs p) q out (cnt p:Int)) c (fun N f q=>g_r05_distances_L3.eq_2 ..) (Gv2.condF dec_nlt (Gv2.one (Gv.pure _))),s⟩
 | e+1,d,c,out,hi,s=>by
  obtain ⟨r,hr,hP⟩:=dsL4 (K3:=fun N _=>g_r05_distances_L3 N p (cnt p:Int) (goodL p l) (mvs p) (N - (c+1))) h hc (show d < 20000 by omega) (fun out' s'=>dsL3 h hc e (d+1) (c+1) out' (by omega) (round_end h.hp s')) (cnt p) 0 0 out (by omega) s.1
  exact ⟨r,Gv2.round (f:=fun N _ q=>g_r05_distances_L3 N p (cnt p:Int) (goodL p l) (mvs p) q out (d:Int)) c (fun N f q=>g_r05_distances_L3.eq_2 ..) (Gv2.condT (dec_lt (by omega)) hr),hP⟩
end
end Go.Den
namespace Go.Den
open Go.Ab
section
variable {p:TPn} {l:TLimits} {a:TAim}
def init0 (p:TPn) (l:TLimits) (a:TAim) (k:Nat):Int:=if keepB p l (stL p k)=true∧reachedB p a (stL p k)=true then 0 else -1
theorem init_di {out:List Int} (hl:out.length=cnt p) (ho:∀ k,k < cnt p→out.getD k 0=init0 p l a k):DI p l a 0 out:=by
 refine ⟨⟨hl,fun k hk=>?_,fun k hk hkp j hj hD=>?_,fun k i h=>by omega⟩,fun k hk=>?_⟩
 ·rw [ho k hk]
  unfold init0
  split
  ·rename_i h;exact .inr ⟨0,rfl,by omega,h.1,h.2,fun j hj=>by omega⟩
  ·exact .inl rfl
 ·have:j=0:=by omega
  subst this
  rw [ho k hk]
  unfold init0
  rw [if_pos ⟨hkp,hD.1⟩];rfl
 ·rw [ho k hk];unfold init0;split<;>decide
theorem dsL1 (h:In p l a) (hc:cnt p≤20000):∀ (e k c:Nat) (out:List Int) (good:List Bool),k+e=cnt p→out.length=cnt p→good.length=cnt p→(∀ j,j < k→out.getD j 0=init0 p l a j∧good.getD j false=keepB p l (stL p j)) →
   ∃ r,Gv2 (fun N (_:Nat)=>g_r05_distances_L1 N p l a (cnt p:Int) (N - c) out good (k:Int)) r∧DI p l a (cnt p) r
 | 0,k,c,out,good,hi,h1,h2,h3=>by
  have:k=cnt p:=by omega
  subst this
  have hg:good=goodL p l:=by
   apply List.ext_getElem (by rw [h2,goodL_len])
   intro i hi1 hi2
   have e1:=(h3 i (by omega)).2
   have e2:=goodL_at (p:=p) (l:=l) (k:=i) (by omega)
   rw [← e2] at e1
   simpa [List.getD,hi1,hi2] using e1
  subst hg
  obtain ⟨r,hr,hP⟩:=dsL3 h hc (cnt p) 0 0 out (by omega) (init_di h1 fun k hk=>(h3 k hk).1)
  exact ⟨r,Gv2.round (f:=fun N _ q=>g_r05_distances_L1 N p l a (cnt p:Int) q out (goodL p l) (cnt p:Int)) c (fun N f q=>g_r05_distances_L1.eq_2 ..) (Gv2.condF dec_nlt (Gv2.bind (.of 41 fun N hN=>rmoves_eq h.hp (by omega)) hr)),hP⟩
 | e+1,k,c,out,good,hi,h1,h2,h3=>by
  have hin:k < cnt p:=by omega
  have hst:=stL_ok h.hp k
  have step:∀ o:List Int,o.length=cnt p→(∀ j,j < k+1→o.getD j 0=init0 p l a j)→∃ r,Gv2 (fun N (_:Nat)=>g_r05_distances_L1 N p l a (cnt p:Int) (N - (c+1)) o (good.set k (keepB p l (stL p k))) ((k+1:Nat):Int)) r∧DI p l a (cnt p) r:=fun o ho ho2=>by
   refine dsL1 h hc e (k+1) (c+1) o _ (by omega) ho (by rw [List.length_set];exact h2) fun j hj=>⟨ho2 j hj,?_⟩
   simp only [List.getD_eq_getElem?_getD,List.getElem?_set]
   by_cases ej:k=j
   ·subst ej;rw [if_pos rfl,if_pos (by omega)];rfl
   ·rw [if_neg ej,← List.getD_eq_getElem?_getD];exact (h3 j (by omega)).2
  have hset:∀ (o:List Int) (v:Int),o.length=cnt p→(∀ j,j < k→o.getD j 0=init0 p l a j)→v=init0 p l a k→∀ j,j < k+1→(o.set k v).getD j 0=init0 p l a j:=fun o v ho ho2 hv j hj=>by
   simp only [List.getD_eq_getElem?_getD,List.getElem?_set]
   by_cases ej:k=j
   ·subst ej;rw [if_pos rfl,if_pos (by omega)];exact hv
   ·rw [if_neg ej,← List.getD_eq_getElem?_getD];exact ho2 j (by omega)
  have hbk:((((nmOf p l (loadsOf p (stL p k))).length:Nat):Int) == 0)=keepB p l (stL p k):=by
   unfold keepB
   by_cases hz:(nmOf p l (loadsOf p (stL p k))).length=0
   ·rw [hz];rfl
   ·rw [decide_eq_false hz,beq_eq_false_iff_ne];omega
  have hgat:(good.set k (keepB p l (stL p k))).getD k false=keepB p l (stL p k):=by
   have:k < good.length:=by omega
   simp [List.getElem?_set,this]
  have pre:∀ r:List Int,Gv2 (fun N (_:Nat)=>cond (cond (keepB p l (stL p k)) (reachedB p a (stL p k)) false)
    (if 0≤(k:Int)∧(k:Int) < (((out.set k (-1)).length:Nat):Int) then g_r05_distances_L1 N p l a (cnt p:Int) (N - (c+1)) ((out.set k (-1)).set k 0) (good.set k (keepB p l (stL p k))) ((k+1:Nat):Int) else none)
    (g_r05_distances_L1 N p l a (cnt p:Int) (N - (c+1)) (out.set k (-1)) (good.set k (keepB p l (stL p k))) ((k+1:Nat):Int))) r →
    Gv2 (fun N (_:Nat)=>g_r05_distances_L1 N p l a (cnt p:Int) (N - c) out good (k:Int)) r:=fun r hr=>by
   refine Gv2.round (f:=fun N _ q=>g_r05_distances_L1 N p l a (cnt p:Int) q out good (k:Int)) c (fun N f q=>g_r05_distances_L1.eq_2 ..) (Gv2.condT (dec_lt hin) ?_)
   refine Gv2.bind (.of 41 fun N hN=>state_eq (by omega) h.hp k (by omega)) (Gv2.if ⟨by omega,by omega⟩ (Gv2.bind (rBroken_gv h.hp h.hl hst) ?_))
   rw [hbk,toNat_nat]
   refine Gv2.if ⟨by omega,by omega⟩ (Gv2.if ⟨by omega,by rw [List.length_set];omega⟩ ?_)
   rw [hgat]
   unfold g_r05_distances_J2
   rw [hbk,toNat_nat,w64_succ (by omega)]
   cases hkp:keepB p l (stL p k) with
   | false =>
    rw [hkp] at hr
    exact Gv2.bind (r:=false) (.of 0 fun N _=>rfl) hr
   | true =>
    rw [hkp] at hr
    exact Gv2.bind (rreached_gv h hst) hr
  by_cases hg:keepB p l (stL p k)=true∧reachedB p a (stL p k)=true
  ·obtain ⟨r,hr,hP⟩:=step ((out.set k (-1)).set k 0) (by simp [h1]) (fun j hj=>by
    rw [List.set_set]
    exact hset out 0 h1 (fun j hj=>(h3 j hj).1) (by unfold init0;rw [if_pos hg]) j hj)
   refine ⟨r,pre r (Gv2.condT (by rw [hg.1,hg.2];rfl) (Gv2.if ⟨by omega,by rw [List.length_set];omega⟩ hr)),hP⟩
  ·obtain ⟨r,hr,hP⟩:=step (out.set k (-1)) (by simp [h1]) (hset out (-1) h1 (fun j hj=>(h3 j hj).1) (by unfold init0;rw [if_neg hg]))
   refine ⟨r,pre r (Gv2.condF (by cases hk1:keepB p l (stL p k)<;>cases hk2:reachedB p a (stL p k)<;>first | rfl | exact absurd ⟨hk1,hk2⟩ hg) hr),hP⟩
theorem dsDist (h:In p l a) (hc:cnt p≤20000):∃ r,Gv (fun N=>g_r05_distances N p l a) r∧DI p l a (cnt p) r:=by
 obtain ⟨v,hv,e2,_⟩:=states_gv h.hp
 have ev:=e2 hc
 subst ev
 obtain ⟨r,hr,hP⟩:=dsL1 h hc (cnt p) 0 0 (List.replicate (cnt p) 0) (List.replicate (cnt p) false) (by omega) (by simp) (by simp) (fun j hj=>by omega)
 exact ⟨r,Gv.bind hv (Gv.if ⟨by omega,by omega,by omega⟩ (Gv.if ⟨by omega,by omega,by omega⟩ hr.diag)),hP⟩
theorem dsWalk (h:In p l a) (hc:cnt p≤20000) {D:List Int} (hD:DI p l a (cnt p) D) {s:List Int} {w:List TMove} (hw:Bfs.Way (mvs p) (nxS p l) (reachedB p a) TMove.d s w) :
  StepsOK p s→keepB p l s=true→∀ n,DS p l a s n→n≤cnt p→∀ out:List TMove,out.length+w.length≤100000→Gv2 (fun N f=>g_r05_Ballast_L1 N p D (mvs p) f s out) (out ++ w,0):=by
 have hDl:=hD.1.len
 induction hw with
 | @nil s hg =>
  intro hs hk n hn _ out _
  have n0:n=0:=Bfs.dst_uniq hn ⟨hg,fun j hj=>by omega⟩
  subst n0
  obtain ⟨n1,n2⟩:=num_ok h.hp hs
  have hd:=hD.1.cmp (numS p s) n2 (by rw [n1];exact hk) 0 (Nat.zero_le _) (by rw [n1];exact hn)
  refine Gv2.succ (fun N g=>g_r05_Ballast_L1.eq_2 ..) (Gv2.bind (dsNumber h.hp hs) (Gv2.if ⟨by omega,by omega⟩ (Gv2.condF ?_ (Gv2.one (by rw [List.append_nil];exact Gv.pure _)))))
  rw [toNat_nat,hd];rfl
 | @cons s t n q w hn hq hnx hw ih =>
  intro hs hk n' hn' hnc out ho
  have e:=Bfs.dst_uniq hn' hn
  subst e
  obtain ⟨n1,n2⟩:=num_ok h.hp hs
  have hd:=hD.1.cmp (numS p s) n2 (by rw [n1];exact hk) (n+1) hnc (by rw [n1];exact hn)
  obtain ⟨q1,⟨t',q2,q3⟩,q4⟩:=hq
  have e:=q2.symm.trans hnx
  have e:=Option.some.inj e
  subst e
  obtain ⟨m1,m2,m3,m4⟩:=nx_some hnx
  have ht:StepsOK p t':=by rw [m4];exact next_ok hs m1 m2
  have hkt:keepB p l t'=true:=by rw [m4];exact m3
  have hml:=mvs_len (p:=p)
  have h6:=h.hp.nt
  simp only [List.length_cons] at ho
  have ih:=ih ht hkt n q3 (by omega) (out ++ [(mvs p).getD q TMove.d]) (by rw [List.length_append];show out.length+1+_≤_;omega)
  have hbd:∀ z,numS p z < cnt p→0≤(numS p z:Int)∧(numS p z:Int) < ((D.length:Nat):Int):=fun z hz=>⟨by omega,by rw [hDl];omega⟩
  have loop:∀ (e i c:Nat),i+e=q→Gv2 (fun N f=>g_r05_Ballast_L2 N p D (mvs p) s out (g_r05_Ballast_L1 N p D (mvs p) f) (N - c) (i:Int)) (out ++ (mvs p).getD q TMove.d :: w,0):=by
   intro e
   induction e with
   | zero =>
    intro i c hi
    have:i=q:=by omega
    subst this
    obtain ⟨y,e1,e2⟩:=made_eq h.hp hs ((mvs p).getD i TMove.d)
    have ey:=e2 m1
    rw [← m4] at ey
    have hok:(decide (movable p ((mvs p).getD i TMove.d)) && nextOk p s ((mvs p).getD i TMove.d))=true:=by rw [decide_eq_true m1,m2];rfl
    rw [ey,hok] at e1
    obtain ⟨t1,t2⟩:=num_ok h.hp ht
    have hdt:=hD.1.cmp (numS p t') t2 (by rw [t1];exact hkt) n (by omega) (by rw [t1];exact q3)
    refine Gv2.round (f:=fun N f z=>g_r05_Ballast_L2 N p D (mvs p) s out (g_r05_Ballast_L1 N p D (mvs p) f) z (i:Int)) c (fun N f z=>g_r05_Ballast_L2.eq_2 ..) (Gv2.condT (dec_lt q1) (Gv2.if (inb q1) ?_))
    rw [toNat_nat]
    refine Gv2.bind (.of 0 fun N _=>e1 N) (Gv2.bind (dsNumber h.hp ht) (Gv2.if (fun _=>hbd _ t2) (Gv2.bind (dsNumber h.hp hs) (Gv2.if (fun _=>hbd _ n2) (Gv2.condT ?_ (Gv2.if (by omega) ?_))))))
    ·rw [toNat_nat,toNat_nat,hdt,hd,w64_eq (by omega) (by omega)]
     show ((n:Int) == ((n+1:Nat):Int) - 1)=true
     rw [beq_iff_eq];omega
    ·exact ih.eq (by simp)
   | succ e ihe =>
    intro i c hi
    have hin:i < (mvs p).length:=by omega
    obtain ⟨y,e1,e2⟩:=made_eq h.hp hs ((mvs p).getD i TMove.d)
    have hgo:=ihe (i+1) (c+1) (by omega)
    refine Gv2.round (f:=fun N f z=>g_r05_Ballast_L2 N p D (mvs p) s out (g_r05_Ballast_L1 N p D (mvs p) f) z (i:Int)) c (fun N f z=>g_r05_Ballast_L2.eq_2 ..) (Gv2.condT (dec_lt hin) (Gv2.if (inb hin) ?_))
    rw [toNat_nat,w64_succ (by omega)]
    refine Gv2.bind (.of 0 fun N _=>e1 N) ?_
    cases hok:decide (movable p ((mvs p).getD i TMove.d)) && nextOk p s ((mvs p).getD i TMove.d) with
    | false=>exact Gv2.bind (r:=0) (.of 0 fun N _=>rfl) (Gv2.if (fun hq=>by cases hq) (Gv2.bind (r:=0) (.of 0 fun N _=>rfl) (Gv2.if (fun hq=>by cases hq) (Gv2.condF rfl hgo))))
    | true =>
     have hok2:=hok
     simp only [Bool.and_eq_true,decide_eq_true_eq] at hok2
     have ey:=e2 hok2.1
     have hy:StepsOK p y:=by rw [ey];exact next_ok hs hok2.1 hok2.2
     obtain ⟨y1,y2⟩:=num_ok h.hp hy
     refine Gv2.bind (dsNumber h.hp hy) (Gv2.if (fun _=>hbd _ y2) (Gv2.bind (dsNumber h.hp hs) (Gv2.if (fun _=>hbd _ n2) (Gv2.condF ?_ hgo))))
     rw [toNat_nat,toNat_nat,hd,w64_eq (by omega) (by omega)]
     show (D.getD (numS p y) 0 == ((n+1:Nat):Int) - 1)=false
     rw [beq_eq_false_iff_ne]
     intro hq
     rcases hD.1.snd (numS p y) y2 with h' | ⟨j,e',_,h1,h2⟩
     ·omega
     ·have:j=n:=by omega
      subst this
      rw [y1] at h1 h2
      refine q4 i (by omega) y ?_ h2
      unfold nxS
      rw [← ey,hok,h1];rfl
  refine Gv2.succ (fun N g=>g_r05_Ballast_L1.eq_2 ..) (Gv2.bind (dsNumber h.hp hs) (Gv2.if ⟨by omega,by omega⟩ (Gv2.condT ?_ (loop q 0 0 (by omega)))))
  rw [toNat_nat,hd]
  exact decide_eq_true (by omega)
theorem sameMoves_eq {N:Nat} (w:List TMove) (hN:w.length < N) (hl:w.length < 1000000):g_w05_sameMoves N w w=some true:=by
 unfold g_w05_sameMoves
 rw [bne_self_eq_false,cond_false]
 refine (loop_scan0 (L:=fun fuel=>g_w05_sameMoves_L1 N w w fuel) (fun _=>none) true hN (fun fuel i hi=>?_) (fun fuel=>?_)).trans (congrArg some (scan_all _ _ fun _ _ _=>rfl))
 ·simp only [g_w05_sameMoves_L1,dec_lt hi,cond_true,if_pos (inb hi),w64_succ (show i < 9223372036854775807 by omega),toNat_nat,beq_self_eq_true,Bool.and_self,Bool.not_true,cond_false]
 ·simp only [g_w05_sameMoves_L1,dec_nlt,cond_false]
end
theorem waterBallast_plain (p:TPn) (l:TLimits) (a:TAim) (_:TPn.wf p) (_:TLimits.wf l) (_:TAim.wf a):∃ N,g_w05_WaterBallast N p l a=some true:=by
 refine Gv.ex ?_
 obtain ⟨b,hb,_⟩:=light_gv2 p
 refine Gv.bind afloat_gv (Gv.condF rfl (Gv.bind hb ?_))
 cases cond (!b) true (decide (((a.f_Start.length:Nat):Int) > 20)) with
 | true=>exact Gv.condT rfl (Gv.pure _)
 | false =>
  refine Gv.condF rfl ?_
  obtain ⟨r,hr,ha⟩:=ballast_ans p l a
  have hbegin:Gv (fun N=>g_r05_CheckBegin N p l a) (beginCode p l a):=.of 41 fun N hN=>rbegin_eq (by omega) ..
  have fin:r.1.length < 1000000→Gv (fun N=>g_r05_Ballast N p l a) r→Gv (fun N=>(g_w_Ballast N p l a).bind fun rBallast=>(g_r05_Ballast N p l a).bind fun rBallast2=>(g_w05_sameMoves N rBallast.1 rBallast2.1).bind fun rsameMoves=>some (cond rsameMoves (rBallast.2 == rBallast2.2) false)) true:=fun hl h2 =>
   Gv.bind hr (Gv.bind h2 (Gv.bind (.of 1000000 fun N hN=>sameMoves_eq r.1 (by omega) hl) ((Gv.pure _).eq (by simp))))
  rcases ha with ⟨h1,rfl⟩ | ⟨h1,h2,rfl⟩ | ⟨h1,h2,h3,rfl⟩ | ⟨h1,h2,h3,h4⟩
  ·exact fin (by simp) (Gv.bind hbegin (Gv.condT (by simpa using h1) (Gv.pure _)))
  ·obtain ⟨z1,z2,z3,z4⟩:=begin_zero h1
   obtain ⟨v,hv,_,e3⟩:=states_gv (pont_ok z1)
   exact fin (by decide) (Gv.bind hbegin (Gv.condF (by rw [h1];rfl) (Gv.bind hv (Gv.condT (decide_eq_true (by have:=e3 h2;omega)) (Gv.pure _)))))
  ·obtain ⟨z1,z2,z3,z4⟩:=begin_zero h1
   obtain ⟨v,hv,e2,_⟩:=states_gv (pont_ok z1)
   have ev:=e2 h2
   have hne:¬ (nmOf p l (loadsOf p a.f_Start)).length=0:=of_decide_eq_false h3
   exact fin (by decide) (Gv.bind hbegin (Gv.condF (by rw [h1];rfl) (Gv.bind hv (Gv.condF (decide_eq_false (by omega)) (Gv.bind (rBroken_gv (pont_ok z1) (lim_ok z2) (steps_ok z3)) (Gv.condT (decide_eq_true (by omega)) (Gv.pure _)))))))
  ·obtain ⟨z1,z2,z3,z4⟩:=begin_zero h1
   have hI:In p l a:=⟨pont_ok z1,lim_ok z2,z4⟩
   have hs:=steps_ok z3
   obtain ⟨v,hv,e2,_⟩:=states_gv hI.hp
   have ev:=e2 h2
   have hz:(nmOf p l (loadsOf p a.f_Start)).length=0:=of_decide_eq_true h3
   obtain ⟨D,hDg,hD⟩:=dsDist hI h2
   have hDl:=hD.1.len
   obtain ⟨n1,n2⟩:=num_ok hI.hp hs
   have h6:=hI.hp.nt
   have hsl:=hs.len
   have base:∀ r',Gv (fun N=>cond (decide (D.getD (numS p a.f_Start) 0 < 0)) (some (([]:List TMove),(29:Int))) ((g_r05_Moves N p).bind fun rMoves=>g_r05_Ballast_L1 N p D rMoves N a.f_Start [])) r'→Gv (fun N=>g_r05_Ballast N p l a) r':=fun r' hr'=>by
    refine Gv.bind hbegin (Gv.condF (by rw [h1];rfl) (Gv.bind hv (Gv.condF (decide_eq_false (by omega)) (Gv.bind (rBroken_gv hI.hp hI.hl hs) (Gv.condF (decide_eq_false (by omega)) (Gv.bind hDg (Gv.if (by omega) ?_)))))))
    rw [List.nil_append]
    exact Gv.bind (dsNumber hI.hp hs) (Gv.if ⟨by omega,by omega⟩ hr')
   rcases h4 with ⟨rfl,hno⟩ | ⟨n0,e0,hd,hw,hwl,hlt⟩
   ·refine fin (by decide) (base _ (Gv.condT (decide_eq_true ?_) (Gv.pure _)))
    rcases hD.1.snd (numS p a.f_Start) n2 with h' | ⟨j,_,_,_,hDs⟩
    ·omega
    ·rw [n1] at hDs;exact absurd hDs.1 (hno j)
   ·have hcmp:=hD.1.cmp (numS p a.f_Start) n2 (by rw [n1];exact h3) n0 (by omega) (by rw [n1];exact hd)
    have hL:=(dsWalk hI h2 hD hw hs h3 n0 hd (by omega) [] (by simp;omega)).diag
    have er:r=(r.1,0):=by rw [← e0]
    refine fin (by omega) (base _ (Gv.condF (decide_eq_false (by omega)) (Gv.bind (.of 41 fun N hN=>rmoves_eq hI.hp (by omega)) ?_)))
    rw [er]
    exact hL
end Go.Den
