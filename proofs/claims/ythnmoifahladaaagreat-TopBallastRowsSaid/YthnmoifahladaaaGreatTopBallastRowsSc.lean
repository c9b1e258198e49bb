/- Each function of the program does what its Lean function computes (part 3). No conditions. -/
import Derived.Test.YthnmoifahladaaaGreatTopBallastRowsSb
import Derived.Test.YthnmoifahladaaaGreatProg
set_option linter.unusedVariables false
set_option maxRecDepth 100000
namespace Go.Den
open Go.Ab Go.Proofs Go.Ab.ay
theorem F1 (N l y fuel):xJ N l y (fQ N l y fuel):=by
 induction fuel with
 | zero=>intro _ _ _ r h;rw [fQ.eq_1] at h;cases h
 | succ fuel ih =>
  intro EX bound x2 r h E hE
  rw [fQ.eq_2] at h
  refine aj hE 1 (kp [2,7,9,11,29,30,31,32]) cH 19 <| cx 1 32 h (fun gX h=>?_) (fun gX h=>?_)
  ·obtain ⟨c3,h⟩:=ae h
   refine cd hE 4 (kp [2,7,9,11,12,13,29,30,31]) Vx 115 (pc c3 (pc o1 pn)) ?_
   obtain ⟨c4,h⟩:=ae h
   obtain ⟨bg,ia,h⟩:=ax h
   refine bc hE 2 [(4,oT (aI bg))] (kp [2,7,9,11,12,13,29,30,31,41]) Vx 211 (pc c4 (pc (n9 _ _ _ ia) pn)) <| cx 0 41 h (fun sb h=>?_) (fun sb h=>?_)
   ·refine cd hE 1 (kp [6,7,8]) (kq [0]) 275 (pc o1 (pc o1 pn)) ?_
    cases h
    exact jn hE 0 Tryz.f56 [] ([(6,rM eT aa.d ([]:List aa))] ++ kp [7,8]) [(17,.af 0)] 275 (pc (Eq.refl 0) pn) [17] (pc o1 pn)
   ·refine cd hE 3 Vu Vx 275 (pc o1 pn) <| cy hE 2 Vu (kq [0,1,2] ++ [(3,.af 67)]) 4 (FZ N _ _ _ _ _ ih N _ _ _ h E hE)
  ·refine cd hE 2 (kp [6,7,8]) (kq [0,1]) 99 (pc o1 (pc o1 pn)) ?_
   cases h
   exact jn hE 0 Tryz.f56 [1] ([(6,rM eT aa.d EX)] ++ kp [7,8]) [(17,.af 0)] 99 (pc (Eq.refl EX.length) (pc (z1 EX.length) (pc (eZ eT aa.d EX) pn))) [17] (pc o1 pn)
theorem F2 (N n l y fuel):Hn N n l y (jN N n l y fuel):=by
 induction fuel with
 | zero=>intro _ _ r h;rw [jN.eq_1] at h;cases h
 | succ fuel ih =>
  intro Lr x r h E hE
  rw [jN.eq_2] at h
  refine aj hE 1 (kp [1,2,7,9,19,20,21]) (kq [0,1]) 18 <| cx 1 21 h (fun cP h=>?_) (fun cP h=>?_)
  ·refine aj hE 4 (kp [1,2,7,9,10,19,20]) (kq [0,1]) 50 ?_
   obtain ⟨aw,hr,h⟩:=ax h
   obtain ⟨c2,h⟩:=ae h
   refine bc hE 0 [(2,oT (ao aw))] (kp [1,2,7] ++ [(9,.lx (wC Lr x aw))] ++ kp [19,20]) (kq [0] ++ [(1,pY 1 eT aa.d (Lr.set ((x).toNat) aw))]) 130 (pc (xn _ _ _ hr) (pc c2 (pc (dV c2) (pc (az Lr ((x).toNat) aw) (pc (az Lr ((x).toNat) aw) (pc (cF eT aa.d Lr ((x).toNat) aw) pn)))))) <| aj hE 1 Vk (kq [0,1]) 162 <| cy hE 1 Vk (kq [0,1]) 2 (ih _ _ _ h E hE)
  ·obtain ⟨ly,dy,h⟩:=ax h
   refine bc hE 2 [(0,oT (ao ly))] (kp [1,2,7,9,11]) (kq [0,1,34]) 66 (pc (xn _ _ _ dy) (pc o1 pn)) <| aj hE 2 Qk (kq [0,1,34]) 114 <| cy hE 2 Qk (kq [0,1] ++ [(2,.af 34)]) 3 (F1 N _ _ N _ _ _ _ h E hE)
theorem Kn (N n l y r) (h:xZ N n l y=some r):Sd 56 [(aI n),(oS l),(pM y)] [] 0 (PS r) []:=by
 unfold xZ at h
 refine sO Tryz.f56 78 fun E hE=>?_
 refine aj hE 1 P4 (kq [16]) 48 ?_
 obtain ⟨c,h⟩:=ae h
 refine cd hE 1 (kp [1,2,7] ++ [(9,.lx (abC n))]) (kq [16] ++ [(64,.arz 64 (abC n) (U8 n))]) 96 (pc c.1 (pc (Int.le_refl n) (pc c.2.1 (pc c.2.2 (pc (lR ((n).toNat) rY) (pc (lQ ((n).toNat) rY) (pc (show ∀ zi,zi < (ZM n).length->Uj ((fun _=>[(aB false),.nil,(aB false),.nil]) zi) ((U8 n) zi) from (fun zq D6=>qI eT aa.d aa.d ((n).toNat) zq ⟨.inl rfl,.inr ⟨rfl,_,rfl⟩,.inl rfl,.inr ⟨rfl,_,rfl⟩,trivial⟩ D6)) pn))))))) <| aj hE 2 Vk (kq [16,64]) 144 <| cy hE 2 Vk [(0,.af 16),(1,.af 64)] 2 (F2 N _ _ _ N _ _ _ h E hE)
theorem ya (N x r) (h:kB N x=some r):Sd 59 [(ao x)] [] 0 (aB r) []:=by
 unfold kB at h
 refine sO Tryz.f59 6 fun E hE=>?_
 refine aj hE 1 (kp [1]) (kq [0]) 32 ?_
 obtain ⟨eI,hr,h⟩:=ax h
 refine bc hE 1 [(1,oT (aB eI))] (kp [2]) [] 96 (pc o1 (pc (fV _ _ _ hr) pn)) ?_
 cases h
 exact fw hE 0 Tryz.f59 (kp [2]) [] 96
noncomputable abbrev ahp:=bt Tryz.f102
def vI (N:Nat) (s:List aa) (K:Int->Option (Int)):Prop:=∀ (x:Int) (r:Int),K x=some r->∀ E,aP E 0->ay Tryz.prog E 102 19 (aQ E [] (aI r)) [.code (ahp 52),.inLoop (ahp 52),.inBlock 0,.code (ahp 7)] ⟨[(0,(pM s)),(1,(.fn (.func 59) [] [])),(7,(P1 s)),(8,(aI x))],[],0⟩
theorem uV (N s fuel):vI N s (cm N s fuel):=by
 induction fuel with
 | zero=>intro _ r h;rw [cm.eq_1] at h;cases h
 | succ fuel ih =>
  intro x r h E hE
  rw [cm.eq_2] at h
  refine aj hE 1 P8 [] 16 <| cx 1 9 h (fun cP h=>?_) (fun cP h=>?_)
  ·refine aj hE 4 vD [] 48 ?_
   obtain ⟨c,h⟩:=ae h
   obtain ⟨eW,hr,h⟩:=ax h
   refine bc hE 1 [(5,oT (aB eW))] P6 [] 144 (pc c (pc (ya _ _ _ hr) pn)) <| cx 0 16 h (fun gX h=>?_) (fun gX h=>?_)
   ·refine aj hE 1 (kp [4]) [] 176 ?_
    obtain rfl:=kR h
    exact fw hE 0 Tryz.f102 (kp [4]) [] 176
   ·refine aj hE 2 oU [] 176 <| cy hE 1 oU [] 0 (ih _ _ h E hE)
  ·refine aj hE 2 (kp [4]) [] 32 ?_
   cases h
   exact fw hE 0 Tryz.f102 (kp [4]) [] 48
theorem xq (N s r) (h:mX N s=some r):Sd 102 [(pM s),(.fn (.func 59) [] [])] [] 0 (aI r) []:=by
 unfold mX at h
 refine sO Tryz.f102 19 fun E hE=>?_
 refine aj hE 1 (kp [0,1]) [] 16 <| aj hE 2 oU [] 64 <| cy hE 2 oU [] 0 (uV N _ N _ _ h E hE)
theorem xr (N s r) (h:jV N s=some r):Sd 58 [(pM s),(.fn (.func 59) [] [])] [] 0 (aB r) []:=by
 unfold jV at h
 refine sO Tryz.f58 9 fun E hE=>?_
 refine aj hE 1 (kp [0,1]) [] 16 ?_
 obtain ⟨Pw,hr,h⟩:=ax h
 refine bc hE 1 [(2,oT (aI Pw))] (kp [4]) [] 96 (pc (xq _ _ _ hr) pn) ?_
 cases h
 exact fw hE 0 Tryz.f58 (kp [4]) [] 96
theorem yc (N n l wA r) (h:jG N n l wA=some r):Sd 19 [(aI n),(oS l),(pM wA)] [] 0 (aI r) []:=by
 unfold jG at h
 refine sO Tryz.f19 41 fun E hE=>?_
 refine aj hE 1 vC [] 16 ?_
 obtain ⟨jA,hr,h⟩:=ax h
 refine bc hE 2 [(2,oT (aI jA))] P4 [] 80 (pc (vF _ _ _ _ hr) pn) <| aj hE 1 (kp [0,1,2,7,15]) [] 112 <| cx 0 15 h (fun cP h=>?_) (fun cP h=>?_)
 ·refine aj hE 1 (kp [6]) [] 144 ?_
  obtain rfl:=kR h
  exact fw hE 0 Tryz.f19 (kp [6]) [] 144
 ·refine aj hE 3 (kp [0,1,2,21]) [] 192 <| cx 0 21 h (fun gX h=>?_) (fun gX h=>?_)
  ·refine aj hE 1 (kp [6]) [] 208 ?_
   cases h
   exact fw hE 0 Tryz.f19 (kp [6]) [] 208
  ·obtain ⟨mc,dy,h⟩:=ax h
   refine bc hE 2 [(3,oT (PS mc))] (kp [8,9,10]) (kq [320]) 384 (pc (Kn _ _ _ _ _ dy) (pc o1 pn)) ?_
   obtain ⟨bg,ia,h⟩:=ax h
   obtain ⟨Pw,kT,h⟩:=ax h
   refine bc hE 2 [(4,oT (aI bg)),(9,oT (aB Pw))] (kp [40]) [] 560 (pc (fun hg:(!(!mc.2.2))=true=>(pc o1 pn)) (pc (fun hg:(!(!mc.2.2))=true=>(pc (n9 _ _ _ (aR ia hg)) (pc hg pn))) (pc (fun hg:(!(!mc.2.2))=true=>(pc hg pn)) (pc (fun hq:(!(!mc.2.2))=true=>(pc hq pn)) (pc (fun hg:(!(cond (!mc.2.2) true (decide (bg>=0))))=true=>(pc (xr _ _ _ (aR kT hg)) (pc hg pn))) (pc (fun hq:(!(cond (!mc.2.2) true (decide (bg>=0))))=true=>(pc hq pn)) pn)))))) <| cx 0 40 h (fun sb h=>?_) (fun sb h=>?_)
   ·refine aj hE 1 (kp [6]) [] 576 ?_
    cases h
    exact fw hE 0 Tryz.f19 (kp [6]) [] 576
   ·refine aj hE 2 (kp [6]) [] 576 ?_
    cases h
    exact fw hE 0 Tryz.f19 (kp [6]) [] 576
noncomputable abbrev ahq:=bt Tryz.f4
def si (N:Nat) (x:dM) (BO:U1) (k9:tp×Int) (K:aK->Int->Option (Bool)):Prop:=∀ (pf:List aa) (i:Int) (r:Bool),K pf i=some r->∀ E,aP E 0->ay Tryz.prog E 4 158 (aQ E [] (aB r)) [.code (ahq 1012),.inLoop (ahq 1012),.inBlock 0,.code (ahq 127)] ⟨[(1,(.op 0 0 0)),(3,(U6 BO)),(4,(b5 cS ByteArray.empty k9.1)),(5,(aI k9.2)),(6,(.os 1 0 pf.length)),(7,(aI i))],[(0,vO 14 (dM.cells x)),(vA pf)],2⟩
theorem rI (N x BO k9 fuel):si N x BO k9 (bI N x BO k9 fuel):=by
 induction fuel with
 | zero=>intro _ _ r h;rw [bI.eq_1] at h;cases h
 | succ fuel ih =>
  intro pf i r h E hE
  rw [bI.eq_2] at h
  refine cd hE 2 (kp [1,3,4,5,6,7,72]) (kq [0,1]) 98 (pc o1 pn) <| cx 0 72 h (fun gX h=>?_) (fun gX h=>?_)
  ·obtain ⟨c,h⟩:=ae h
   obtain ⟨rW,vG,h⟩:=ax h
   obtain ⟨c2,h⟩:=ae h
   refine bc hE 3 [(7,oT (ao rW))] (kp [1,3,4,5] ++ [(6,.lx ((MY pf rW).length))] ++ kp [7]) (kq [0] ++ [(242,pY 242 eT aa.d (MY pf rW))]) 274 (pc o1 (pc c (pc (wM _ _ _ vG) (pc (Eq.refl pf.length) (pc c2 (pc (z1 1) (pc (oN [[(yU rW),(yX rW),(yT rW),(yW rW)]]) (pc (bT pf (xd rW)) (pc (bT pf (xd rW)) (pc (Ta eT aa.d pf (xd rW)) pn)))))))))) <| aj hE 1 ZX (kq [0,242]) 322 <| cy hE 1 ZX (kq [0] ++ [(1,.af 242)]) 2 (ih _ _ _ h E hE)
  ·obtain ⟨EY,x6,h⟩:=ax h
   refine bc hE 3 [(8,oT (aI EY))] (kp [1,3,96]) (kq [0]) 290 (pc (fun hg:(!(k9.2 != 0))=true=>(pc hg pn)) (pc (fun hg:(!(k9.2 != 0))=true=>(pc hg pn)) (pc (fun hg:(!(k9.2 != 0))=true=>(pc (Kk _ _ _ _ (aR x6 hg)) (pc (z1 pf.length) (pc hg (pc hg pn))))) (pc (fun hg:(!(k9.2 != 0))=true=>(pc hg pn)) (pc (fun hg:(!(k9.2 != 0))=true=>(pc hg (pc hg pn))) (pc (fun hq:(!(k9.2 != 0))=true=>(pc hq pn)) pn)))))) <| cx 0 96 h (fun sb h=>?_) (fun sb h=>?_)
   ·refine aj hE 1 (kp [2]) [] 306 ?_
    obtain rfl:=kR h
    exact fw hE 0 Tryz.f4 (kp [2]) [] 306
   ·obtain ⟨oP,IS,h⟩:=ax h
    refine bc hE 2 [(5,oT (.tup [(b5 eT aa.d oP.1),(b5 eT aa.d oP.2.1),(aI oP.2.2)]))] (kp [1,3,9,10]) (kq [0]) 498 (pc o1 (pc (NF _ _ _ _ IS) pn)) ?_
    obtain ⟨jI,IQ,h⟩:=ax h
    refine bc hE 1 [(4,oT (Il jI))] (kp [1,3,9,10,11,12]) (kq [0]) 658 (pc o1 (pc o1 (pc (Km _ _ _ _ IQ) pn))) <| cd hE 2 (kp [1,3,9,10,11,124]) (kq [0]) 818 (pc (fun hg:(!(jI.2 != 0))=true=>(pc hg pn)) (pc (fun hg:((!(jI.2 != 0)) && ((!(jI.2 != 0)) && (oP.2.2 != 0)))=true=>(pc hg pn)) (pc (fun hg:(!(jI.2 != 0))=true=>(pc hg (pc hg (pc (fun hq:(oP.2.2 != 0)=true=>(pc (show ((!(jI.2 != 0)) && ((!(jI.2 != 0)) && (oP.2.2 != 0)))=true from (o5 hg (o5 hg hq))) pn)) pn)))) (pc (fun hq:(!(jI.2 != 0))=true=>(pc hq pn)) pn)))) <| cx 0 124 h (fun Ft h=>?_) (fun Ft h=>?_)
    ·refine aj hE 1 (kp [2]) [] 834 ?_
     obtain rfl:=kR h
     exact fw hE 0 Tryz.f4 (kp [2]) [] 834
    ·refine aj hE 3 (kp [1,3,9,11,126]) (kq [0]) 850 <| cx 0 126 h (fun VE h=>?_) (fun VE h=>?_)
     ·obtain ⟨BP,Da,h⟩:=ax h
      refine bc hE 1 [(6,oT (Ly BP))] (kp [1,3,9,11,14]) (kq [0]) 1042 (pc o1 (pc o1 (pc o1 (pc (Mc _ _ _ _ _ Da) pn)))) ?_
      obtain ⟨eW,IT,h⟩:=ax h
      obtain ⟨afQ,VJ,h⟩:=ax h
      refine bc hE 1 [(6,oT (aI eW)),(18,oT (aB afQ))] (kp [2]) [] 1378 (pc o1 (pc (yc _ _ _ _ _ IT) (pc (fun hg:(eW == 0)=true=>(pc hg pn)) (pc (fun hg:(eW == 0)=true=>(pc hg pn)) (pc (fun hq:(eW == 0)=true=>(pc hq pn)) (pc (fun hg:(U4 eW jI)=true=>(pc hg pn)) (pc (fun hq:(U4 eW jI)=true=>(pc hq pn)) (pc (fun hg:(cond (U4 eW jI) (BP.2 == 16) false)=true=>(pc (qz _ _ (aR VJ hg)) pn)) (pc (fun hq:(cond (U4 eW jI) (BP.2 == 16) false)=true=>(pc hq pn)) pn))))))))) ?_
      cases h
      exact fw hE 0 Tryz.f4 (kp [2]) [] 1378
     ·obtain ⟨afR,VK,h⟩:=ax h
      refine bc hE 2 [(0,oT (aB afR))] (kp [2]) [] 882 (pc (qz _ _ VK) pn) ?_
      obtain rfl:=kR h
      exact fw hE 0 Tryz.f4 (kp [2]) [] 882
theorem tA (N x r) (h:eh N x=some r):Sd 4 [(.agg (dM.cells x))] [] 0 (aB r) []:=by
 unfold eh at h
 refine sO Tryz.f4 158 fun E hE=>?_
 refine aj hE 1 (kp [1]) (kq [0]) 32 ?_
 obtain ⟨pg,hr,h⟩:=ax h
 obtain ⟨UG,dy,h⟩:=ax h
 refine bc hE 2 [(26,oT (aI pg)),(32,oT (aI UG))] (kp [1,49]) (kq [0]) 592 (pc o1 (pc (fun hg:(Xt x)=true=>(pc hg pn)) (pc (fun hg:(Xt x)=true=>(pc hg (pc o1 pn))) (pc (fun hg:(Xt x)=true=>(pc hg pn)) (pc (fun hg:(Xt x)=true=>(pc hg pn)) (pc (fun hq:(Xt x)=true=>(pc hq pn)) (pc (fun hg:(afW x)=true=>(pc hg pn)) (pc (fun hg:(afW x)=true=>(pc hg (pc o1 pn))) (pc (fun hg:(afW x)=true=>(pc hg pn)) (pc (fun hg:(afW x)=true=>(pc hg pn)) (pc (fun hq:(afW x)=true=>(pc hq pn)) (pc (fun hg:(adi x)=true=>(pc hg (pc o1 pn))) (pc (fun hg:(adi x)=true=>(pc hg (pc o1 pn))) (pc (fun hg:(adi x)=true=>(pc hg (pc o1 pn))) (pc (fun hg:(adi x)=true=>(pc (Hf _ _ _ _ _ (aR hr hg)) (pc hg (pc hg (pc hg pn))))) (pc (fun hg:(adi x)=true=>(pc hg pn)) (pc (fun hq:(adi x)=true=>(pc hq pn)) (pc (fun hg:(akg x pg)=true=>(pc hg (pc o1 pn))) (pc (fun hg:(akg x pg)=true=>(pc (NP _ _ _ _ (aR dy hg)) (pc hg pn))) (pc (fun hg:(akg x pg)=true=>(pc hg pn)) (pc (fun hq:(akg x pg)=true=>(pc hq pn)) pn))))))))))))))))))))) <| cx 0 49 h (fun cP h=>?_) (fun cP h=>?_)
 ·obtain ⟨amY,ia,h⟩:=ax h
  refine bc hE 1 [(0,oT (aB amY))] (kp [2]) [] 624 (pc (qz _ _ ia) pn) ?_
  obtain rfl:=kR h
  exact fw hE 0 Tryz.f4 (kp [2]) [] 624
 ·obtain ⟨BO,kT,h⟩:=ax h
  refine bc hE 2 [(4,oT (U6 BO))] (kp [1,3]) (kq [0]) 688 (pc o1 (pc o1 (pc (Dk _ _ _ _ kT) pn))) ?_
  obtain ⟨k9,oW,h⟩:=ax h
  refine bc hE 1 [(7,oT (Il k9))] (kp [1,3,4,5]) (kq [0]) 896 (pc o1 (pc o1 (pc o1 (pc (N5 _ _ _ _ _ oW) pn)))) <| aj hE 1 (kp [1,3,4,5,6]) (kq [0]) 912 <| aj hE 2 ZX (kq [0]) 928 <| cy hE 2 (kp [1,3,4,5] ++ [(6,.sC 1)] ++ kp [7]) (kq [0] ++ [(1,.nil 4 Va)]) 2 (rI N _ _ _ N _ _ _ h E hE)
end Go.Den
