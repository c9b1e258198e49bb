/- Each function of the program does what its Lean function computes (part 3). No conditions. -/
import Derived.Test.YtlgddcmiekcdiaaGreatBerthHoldsSb
import Derived.Test.YtlgddcmiekcdiaaGreatProg
set_option linter.unusedVariables false
set_option maxRecDepth 100000
namespace Go.Den
open Go.Ab Go.Proofs Go.Ab.az
noncomputable abbrev CZ:=bu Tryz.f82
def uw (N:Nat) (l:ao) (K:Int→Int→Option (Int)):Prop:=∀ (s:Int) (step:Int) (r:Int),K s step=some r→∀ E,a3 E 0→az Tryz.prog E 82 47 (aQ E [] (aI r)) [.code (CZ 244),.inLoop (CZ 244),.inBlock 0,.code (CZ 31)] ⟨[(3,(aI (ah ((ah ((ah (l.iJ - l.q7)) * (ah (l.iJ - l.q7))))+(ah ((ah (l.lY - l.uR)) * (ah (l.lY - l.uR)))))))),(4,(aI s)),(5,(aI step))],[],0⟩
def Br (N:Nat) (l:ao) (step:Int) (K:Int→Option (Int)):Prop:=∀ (s2:Int) (r:Int),K s2=some r→∀ E,a3 E 0→az Tryz.prog E 82 47 (aQ E [] (aI r)) [.code (CZ 979),.inLoop (CZ 244),.inBlock 0,.code (CZ 31)] ⟨[(3,(aI (ah ((ah ((ah (l.iJ - l.q7)) * (ah (l.iJ - l.q7))))+(ah ((ah (l.lY - l.uR)) * (ah (l.lY - l.uR)))))))),(4,(aI s2)),(5,(aI step))],[],0⟩
theorem s9 (N:Nat) (l:ao) (step:Int) (my:Int→Int→Option (Int)) (Ak:uw N l my):Br N l step (oc N l step my):=by
 intro s2 r h E hE
 unfold oc at h
 refine ae hE 0 [] [] (kp [3,4,5]) [] 48 (pc (show (2:Int)≠0 by decide) pn) ?_
 exact b5 hE 1 [] (kp [3,4,5]) [] 0 pn (Ak _ _ _ h E hE)
theorem Al (N l fuel):uw N l (kN N l fuel):=by
 induction fuel with
 | zero=>intro _ _ r h;rw [kN.eq_1] at h;cases h
 | succ fuel ih =>
  intro s step r h E hE
  rw [kN.eq_2] at h
  refine ae hE 2 [] [] (kp [3,4,5,30]) [] 32 pn ?_
  refine ct 0 30 h (fun cR h=>?_) (fun cR h=>?_)
  ·refine ae hE 4 [] [] (kp [3,4,5,41]) [] 176 pn ?_
   refine ct 0 41 h (fun gB h=>?_) (fun gB h=>?_)
   ·refine ae hE 0 [] [] (kp [3,4,5]) [] 240 pn ?_
    exact b5 hE 1 [] (kp [3,4,5]) [] 0 pn (s9 N _ _ _ ih _ _ h E hE)
   ·exact b5 hE 2 [] (kp [3,4,5]) [] 0 pn (s9 N _ _ _ ih _ _ h E hE)
  ·refine ae hE 2 [] [] (kp [2]) [] 80 pn ?_
   obtain rfl:=bQ h
   exact bV hE 0 Tryz.f82 [] (kp [2]) [] 80 pn [] pn
theorem DM (N l r) (h:xF N l=some r):Sd 82 [(.agg (ao.cells l))] [] 0 (aI r) []:=by
 unfold xF at h
 refine eL (fu:=Tryz.f82) (c:=CZ 1) (nt:=47) (fun hm=>rfl) ?_
 intro E hE
 refine ae hE 1 [] [] (kp [1]) (kq [0]) 32 pn ?_
 refine ae hE 1 [] [] (kp [3]) [] 416 (pc o1 (pc o1 (pc o1 (pc o1 (pc o1 (pc o1 (pc o1 (pc o1 pn)))))))) ?_
 refine ae hE 1 [] [] (kp [3,4]) [] 432 pn ?_
 refine ae hE 2 [] [] (kp [3,4,5]) [] 448 pn ?_
 exact b5 hE 2 [] (kp [3,4,5]) [] 0 pn (Al N _ N _ _ _ h E hE)
noncomputable abbrev Rh:=bu Tryz.f81
theorem Bs (N x y r) (h:tI N x y=some r):Sd 81 [(.agg (ai x)),(.agg (ai y))] [] 0 (.agg (ai r)) []:=by
 unfold tI at h
 refine eL (fu:=Tryz.f81) (c:=Rh 1) (nt:=22) (fun hm=>rfl) ?_
 intro E hE
 refine ae hE 1 [] [] (kp [2,3,4]) (kq [0,16,32]) 48 pn ?_
 obtain ⟨dk,hr,h⟩:=aG h
 obtain ⟨fC,dg,h⟩:=aG h
 refine ae hE 1 [(1,oT (.agg (ai dk))),(3,oT (.agg (ai fC)))] [] (kp [4,5,6]) (kq [32,112,128]) 176 (pc o1 (pc (eI _ _ _ hr) (pc o1 (pc (eI _ _ _ dg) (pc o1 (pc o1 pn)))))) ?_
 obtain ⟨qf,gR,h⟩:=aG h
 obtain ⟨lp,kE,h⟩:=aG h
 obtain ⟨qk,n5,h⟩:=aG h
 refine ae hE 1 [(4,oT (.agg (jr qf))),(9,oT (.agg (jr lp))),(10,oT (.agg (ai qk)))] [] (kp [4]) (kq [32]) 368 (pc o1 (pc o1 (pc (kf _ _ _ _ gR) (pc o1 (pc o1 (pc (kf _ _ _ _ kE) (pc (oh _ _ _ _ n5) (pc o1 pn)))))))) ?_
 obtain rfl:=bQ h
 exact bV hE 0 Tryz.f81 [] (kp [4]) [(16,.af 32)] 368 pn [16] (pc o1 pn)
noncomputable abbrev Ri:=bu Tryz.f56
theorem dC (N x y r) (h:ep N x y=some r):Sd 56 [(.agg (ai x)),(.agg (ai y))] [] 0 (.agg (ai r)) []:=by
 unfold ep at h
 refine eL (fu:=Tryz.f56) (c:=Ri 1) (nt:=22) (fun hm=>rfl) ?_
 intro E hE
 refine ae hE 1 [] [] (kp [2,3,4]) (kq [0,16,32]) 48 pn ?_
 obtain ⟨dk,hr,h⟩:=aG h
 obtain ⟨fC,dg,h⟩:=aG h
 refine ae hE 1 [(1,oT (.agg (ai dk))),(3,oT (.agg (ai fC)))] [] (kp [4,5,6]) (kq [32,112,128]) 176 (pc o1 (pc (eI _ _ _ hr) (pc o1 (pc (eI _ _ _ dg) (pc o1 (pc o1 pn)))))) ?_
 obtain ⟨qf,gR,h⟩:=aG h
 obtain ⟨lp,kE,h⟩:=aG h
 obtain ⟨qk,n5,h⟩:=aG h
 refine ae hE 1 [(4,oT (.agg (jr qf))),(9,oT (.agg (jr lp))),(10,oT (.agg (ai qk)))] [] (kp [4]) (kq [32]) 368 (pc o1 (pc o1 (pc (kf _ _ _ _ gR) (pc o1 (pc o1 (pc (kf _ _ _ _ kE) (pc (oh _ _ _ _ n5) (pc o1 pn)))))))) ?_
 obtain rfl:=bQ h
 exact bV hE 0 Tryz.f56 [] (kp [4]) [(16,.af 32)] 368 pn [16] (pc o1 pn)
noncomputable abbrev Rj:=bu Tryz.f39
theorem w9 (N l r) (h:ql N l=some r):Sd 39 [(.agg (ao.cells l))] [] 0 (.agg (aq.cells r)) []:=by
 unfold ql at h
 refine eL (fu:=Tryz.f39) (c:=Rj 1) (nt:=45) (fun hm=>rfl) ?_
 intro E hE
 refine ae hE 1 [] [] (kp [1,2]) (kq [0,16]) 32 pn ?_
 obtain ⟨rQ,hr,h⟩:=aG h
 obtain ⟨vv,dg,h⟩:=aG h
 obtain ⟨Pv,gR,h⟩:=aG h
 obtain ⟨BF,kE,h⟩:=aG h
 refine ae hE 1 [(2,oT (.agg (ai rQ))),(4,oT (aI vv)),(5,oT (.agg (ai Pv))),(6,oT (.agg (ai BF)))] [] (kp [1,2,3]) (kq [0,16,144]) 176 (pc o1 (pc (iu _ _ _ hr) (pc o1 (pc (DM _ _ _ dg) (pc (iu _ _ _ gR) (pc (Bs _ _ _ _ kE) (pc o1 pn))))))) ?_
 obtain ⟨Pw,n5,h⟩:=aG h
 obtain ⟨bh,sH,h⟩:=aG h
 refine ae hE 1 [(6,oT (.agg (ai Pw))),(7,oT (.agg (ai bh)))] [] (kp [1,2,3,4]) (kq [0,16,144,304]) 336 (pc o1 (pc o1 (pc o1 (pc (iu _ _ _ n5) (pc (dC _ _ _ _ sH) (pc o1 pn)))))) ?_
 obtain ⟨Th,tL,h⟩:=aG h
 obtain ⟨bI,AZ,h⟩:=aG h
 refine ae hE 1 [(6,oT (.agg (ai Th))),(7,oT (.agg (ai bI)))] [] (kp [1,2,4,5]) (kq [0,16,304,464]) 496 (pc o1 (pc o1 (pc o1 (pc (iu _ _ _ tL) (pc (dC _ _ _ _ AZ) (pc o1 pn)))))) ?_
 obtain ⟨Ti,AY,h⟩:=aG h
 obtain ⟨cN,tK,h⟩:=aG h
 obtain ⟨Tj,vI,h⟩:=aG h
 obtain ⟨qi,CU,h⟩:=aG h
 obtain ⟨au,CV,h⟩:=aG h
 refine ae hE 1 [(2,oT (.agg (ai Ti))),(4,oT (.agg (ai cN))),(7,oT (.agg (ai Tj))),(9,oT (.agg (ai qi))),(10,oT (.agg (ai au)))] [] (kp [2,4,5,6]) (kq [16,304,464,672]) 704 (pc o1 (pc (iu _ _ _ AY) (pc o1 (pc (dC _ _ _ _ tK) (pc o1 (pc (iu _ _ _ vI) (pc o1 (pc (dC _ _ _ _ CU) (pc (uv _ _ _ _ CV) (pc o1 pn)))))))))) ?_
 refine ae hE 1 [] [] (kp [2]) (kq [16]) 784 (pc o1 (pc o1 (pc o1 (pc o1 pn)))) ?_
 obtain rfl:=bQ h
 exact bV hE 0 Tryz.f39 [] (kp [2]) (kq [16]) 784 pn [16] (pc o1 pn)
noncomputable abbrev k8:=bu Tryz.f26
def wO (N:Nat) (l:List ao) (parts:List aa) (K:aq→Int→Option (Bool)):Prop:=∀ (sum:aq) (i:Int) (r:Bool),K sum i=some r→∀ E,a3 E 0→az Tryz.prog E 26 73 (aQ E [] (aB r)) [.code (k8 116),.inLoop (k8 116),.inBlock 0,.code (k8 15)] ⟨[(0,(aD ao.cells ao.d l)),(2,(aD ai aa.d parts)),(7,(.op 0 0 0)),(8,(aI i))],[(0,vO 12 (aq.cells sum))],1⟩
theorem vS (N l parts fuel):wO N l parts (jo N l parts fuel):=by
 induction fuel with
 | zero=>intro _ _ r h;rw [jo.eq_1] at h;cases h
 | succ fuel ih =>
  intro sum i r h E hE
  rw [jo.eq_2] at h
  refine ae hE 2 [] [] (kp [0,2,7,8,16]) (kq [0]) 65 pn ?_
  refine ct 0 16 h (fun cR h=>?_) (fun cR h=>?_)
  ·obtain ⟨c,h⟩:=ab h
   obtain ⟨eG,dg,h⟩:=aG h
   obtain ⟨c2,h⟩:=ab h
   obtain ⟨rQ,gR,h⟩:=aG h
   obtain ⟨dc,kE,h⟩:=aG h
   refine ae hE 5 [(4,oT (aI eG)),(11,oT (.agg (ai rQ))),(12,oT (aI dc))] [] (kp [0,2,7,8,33]) (kq [0]) 305 (pc c (pc (fF _ _ _ dg) (pc (fun hg:(!(decide (eG < 0)))=true=>(pc hg (pc hg (pc (c2 hg) pn)))) (pc (fun hg:(!(decide (eG < 0)))=true=>(pc hg pn)) (pc (fun hg:(!(decide (eG < 0)))=true=>(pc (iu _ _ _ (er gR hg)) pn)) (pc (fun hg:(!(decide (eG < 0)))=true=>(pc (Bq _ _ _ _ (er kE hg)) (pc hg (pc hg pn)))) (pc (fun hg:(!(decide (eG < 0)))=true=>(pc hg pn)) (pc (fun hq:(!(decide (eG < 0)))=true=>(pc hq pn)) pn)))))))) ?_
   refine ct 0 33 h (fun gB h=>?_) (fun gB h=>?_)
   ·refine ae hE 1 [] [] (kp [6]) [] 321 pn ?_
    obtain rfl:=bQ h
    exact bV hE 0 Tryz.f26 [] (kp [6]) [] 321 pn [] pn
   ·obtain ⟨c3,h⟩:=ab h
    obtain ⟨yA,n5,h⟩:=aG h
    refine ae hE 2 [(4,oT (.agg (aq.cells yA)))] [] (kp [0,2,7,8,9]) (kq [0,385]) 417 (pc c3 (pc (w9 _ _ _ n5) (pc o1 pn))) ?_
    refine ae hE 1 [] [] (kp [0,2,7,8,9,10]) (kq [0,385]) 433 pn ?_
    refine ae hE 4 [] [] (kp [0,2,7,8,9,10,40]) (kq [0,385]) 465 pn ?_
    refine sA 0 [.code (k8 119409),.code (k8 59705),.inLoop (k8 29852),.inBlock 2,.inBlock 1,.code (k8 467),.inLoop (k8 116),.inBlock 0,.code (k8 15)] ?_
    refine sC 40 (k8 238818) (k8 238819) true (fun _=>?_) (fun hq=>absurd hq (by decide)) 
    obtain ⟨bh,sH,h⟩:=aG h
    obtain ⟨aW,tL,h⟩:=aG h
    refine ae hE 3 [(11,oT (.agg (ai bh))),(12,oT (.agg (ai aW)))] [] (kp [0,2,7,8,9,10]) (kq [0,385]) 705 (pc (show 0≤(0:Int)∧(0:Int) < 3 by decide) (pc o1 (pc c (pc (show 0≤(0:Int)∧(0:Int) < 3 by decide) (pc o1 (pc (dC _ _ _ _ sH) (pc (e8 _ _ _ _ tL) (pc (show 0≤(0:Int)∧(0:Int) < 3 by decide) (pc o1 pn))))))))) ?_
    refine ae hE 1 [] [] (kp [0,2,7,8,9,10]) (kq [0,385]) 753 pn ?_
    refine ae hE 3 [] [] (kp [0,2,7,8,9,10,40]) (kq [0,385]) 785 pn ?_
    refine sA 0 [.code (k8 119409),.code (k8 59705),.inLoop (k8 29852),.inBlock 2,.inBlock 1,.code (k8 467),.inLoop (k8 116),.inBlock 0,.code (k8 15)] ?_
    refine sC 40 (k8 238818) (k8 238819) true (fun _=>?_) (fun hq=>absurd hq (by decide)) 
    obtain ⟨bI,AZ,h⟩:=aG h
    obtain ⟨c0,AY,h⟩:=aG h
    refine ae hE 3 [(11,oT (.agg (ai bI))),(12,oT (.agg (ai c0)))] [] (kp [0,2,7,8,9,10]) (kq [0,385]) 1025 (pc (show 0≤(1:Int)∧(1:Int) < 3 by decide) (pc o1 (pc c (pc (show 0≤(1:Int)∧(1:Int) < 3 by decide) (pc o1 (pc (dC _ _ _ _ AZ) (pc (e8 _ _ _ _ AY) (pc (show 0≤(1:Int)∧(1:Int) < 3 by decide) (pc o1 pn))))))))) ?_
    refine ae hE 1 [] [] (kp [0,2,7,8,9,10]) (kq [0,385]) 1073 pn ?_
    refine ae hE 3 [] [] (kp [0,2,7,8,9,10,40]) (kq [0,385]) 1105 pn ?_
    refine sA 0 [.code (k8 119409),.code (k8 59705),.inLoop (k8 29852),.inBlock 2,.inBlock 1,.code (k8 467),.inLoop (k8 116),.inBlock 0,.code (k8 15)] ?_
    refine sC 40 (k8 238818) (k8 238819) true (fun _=>?_) (fun hq=>absurd hq (by decide)) 
    obtain ⟨cN,tK,h⟩:=aG h
    obtain ⟨dN,vI,h⟩:=aG h
    refine ae hE 3 [(11,oT (.agg (ai cN))),(12,oT (.agg (ai dN)))] [] (kp [0,2,7,8,9,10]) (kq [0,385]) 1345 (pc (show 0≤(2:Int)∧(2:Int) < 3 by decide) (pc o1 (pc c (pc (show 0≤(2:Int)∧(2:Int) < 3 by decide) (pc o1 (pc (dC _ _ _ _ tK) (pc (e8 _ _ _ _ vI) (pc (show 0≤(2:Int)∧(2:Int) < 3 by decide) (pc o1 pn))))))))) ?_
    refine ae hE 1 [] [] (kp [0,2,7,8,9,10]) (kq [0,385]) 1393 pn ?_
    refine ae hE 3 [] [] (kp [0,2,7,8,9,10,40]) (kq [0,385]) 1425 pn ?_
    refine sA 0 [.code (k8 119409),.code (k8 59705),.inLoop (k8 29852),.inBlock 2,.inBlock 1,.code (k8 467),.inLoop (k8 116),.inBlock 0,.code (k8 15)] ?_
    refine sC 40 (k8 238818) (k8 238819) false (fun hq=>absurd hq (by decide)) (fun _=>?_) 
    refine ae hE 2 [] [] (kp [0,2,7,8]) (kq [0]) 1473 pn ?_
    exact b5 hE 1 [] (kp [0,2,7,8]) (kq [0]) 1 pn (ih _ _ _ h E hE)
  ·obtain ⟨dK,CU,h⟩:=aG h
   obtain ⟨lO,CV,h⟩:=aG h
   obtain ⟨zO,Fp,h⟩:=aG h
   refine ae hE 2 [(2,oT (aI dK)),(7,oT (aI lO)),(13,oT (aI zO))] [] (kp [6]) [] 337 (pc (show 0≤(0:Int)∧(0:Int) < 3 by decide) (pc o1 (pc (fF _ _ _ CU) (pc (fun hg:(dK == 0)=true=>(pc (show 0≤(1:Int)∧(1:Int) < 3 by decide) pn)) (pc (fun hg:(dK == 0)=true=>(pc hg (pc o1 pn))) (pc (fun hg:(dK == 0)=true=>(pc (fF _ _ _ (er CV hg)) (pc hg pn))) (pc (fun hg:(dK == 0)=true=>(pc hg pn)) (pc (fun hq:(dK == 0)=true=>(pc hq pn)) (pc (fun hg:(cond (dK == 0) (lO == 0) false)=true=>(pc (show 0≤(2:Int)∧(2:Int) < 3 by decide) pn)) (pc (fun hg:(cond (dK == 0) (lO == 0) false)=true=>(pc hg (pc o1 pn))) (pc (fun hg:(cond (dK == 0) (lO == 0) false)=true=>(pc (fF _ _ _ (er Fp hg)) (pc hg pn))) (pc (fun hg:(cond (dK == 0) (lO == 0) false)=true=>(pc hg pn)) (pc (fun hq:(cond (dK == 0) (lO == 0) false)=true=>(pc hq pn)) pn))))))))))))) ?_
   obtain rfl:=bQ h
   exact bV hE 0 Tryz.f26 [] (kp [6]) [] 337 pn [] pn
theorem yX (N l w parts r) (h:qm N l w parts=some r):Sd 26 [(aD ao.cells ao.d l),(.agg (dE.cells w)),(aD ai aa.d parts)] [] 0 (aB r) []:=by
 unfold qm at h
 refine eL (fu:=Tryz.f26) (c:=k8 1) (nt:=73) (fun hm=>rfl) ?_
 intro E hE
 refine ae hE 1 [] [] (kp [0,2,4]) (kq [0]) 32 pn ?_
 obtain ⟨xG,hr,h⟩:=aG h
 refine ae hE 1 [(1,oT (.agg (aq.cells xG)))] [] (kp [0,2,7]) (kq [64]) 96 (pc o1 (pc (vR _ _ _ hr) (pc o1 pn))) ?_
 refine ae hE 2 [] [] (kp [0,2,7,8]) (kq [64]) 112 pn ?_
 exact b5 hE 2 [] (kp [0,2,7,8]) [(0,.af 64)] 1 pn (vS N _ _ N _ _ _ h E hE)
noncomputable abbrev kI:=bu Tryz.f57
theorem vT (N d p r) (h:q9 N d p=some r):Sd 57 [(aD ai aa.d d),(.agg (aq.cells p))] [] 0 (.agg (ai r)) []:=by
 unfold q9 at h
 refine eL (fu:=Tryz.f57) (c:=kI 1) (nt:=23) (fun hm=>rfl) ?_
 intro E hE
 refine ae hE 1 [] [] (kp [0,3,4]) (kq [0,16]) 32 pn ?_
 obtain ⟨rQ,hr,h⟩:=aG h
 refine ae hE 1 [(0,oT (.agg (ai rQ)))] [] (kp [0,3,4,5]) (kq [0,16,48]) 80 (pc (iu _ _ _ hr) (pc o1 pn)) ?_
 refine ae hE 2 [] [] (kp [0,3,4,5,6]) (kq [0,16,48]) 96 pn ?_
 refine ae hE 4 [] [] (kp [0,3,4,5,6,9]) (kq [0,16,48]) 128 pn ?_
 refine sA 0 [.code (kI 465),.code (kI 233),.inLoop (kI 116),.inBlock 0,.code (kI 15)] ?_
 refine sC 9 (kI 930) (kI 931) true (fun _=>?_) (fun hq=>absurd hq (by decide)) 
 obtain ⟨c,h⟩:=ab h
 obtain ⟨bh,dg,h⟩:=aG h
 obtain ⟨aW,gR,h⟩:=aG h
 refine ae hE 3 [(8,oT (.agg (ai bh))),(9,oT (.agg (ai aW)))] [] (kp [0,3,4,5,6]) (kq [0,16,48]) 304 (pc o1 (pc c (pc (show 0≤(0:Int)∧(0:Int) < 3 by decide) (pc o1 (pc (dC _ _ _ _ dg) (pc (e8 _ _ _ _ gR) (pc o1 pn))))))) ?_
 refine ae hE 1 [] [] (kp [0,3,4,5,6]) (kq [0,16,48]) 352 pn ?_
 refine ae hE 3 [] [] (kp [0,3,4,5,6,9]) (kq [0,16,48]) 384 pn ?_
 refine sA 0 [.code (kI 465),.code (kI 233),.inLoop (kI 116),.inBlock 0,.code (kI 15)] ?_
 refine sC 9 (kI 930) (kI 931) true (fun _=>?_) (fun hq=>absurd hq (by decide)) 
 obtain ⟨c2,h⟩:=ab h
 obtain ⟨bI,kE,h⟩:=aG h
 obtain ⟨c0,n5,h⟩:=aG h
 refine ae hE 3 [(8,oT (.agg (ai bI))),(9,oT (.agg (ai c0)))] [] (kp [0,3,4,5,6]) (kq [0,16,48]) 560 (pc o1 (pc c2 (pc (show 0≤(1:Int)∧(1:Int) < 3 by decide) (pc o1 (pc (dC _ _ _ _ kE) (pc (e8 _ _ _ _ n5) (pc o1 pn))))))) ?_
 refine ae hE 1 [] [] (kp [0,3,4,5,6]) (kq [0,16,48]) 608 pn ?_
 refine ae hE 3 [] [] (kp [0,3,4,5,6,9]) (kq [0,16,48]) 640 pn ?_
 refine sA 0 [.code (kI 465),.code (kI 233),.inLoop (kI 116),.inBlock 0,.code (kI 15)] ?_
 refine sC 9 (kI 930) (kI 931) true (fun _=>?_) (fun hq=>absurd hq (by decide)) 
 obtain ⟨c3,h⟩:=ab h
 obtain ⟨cN,sH,h⟩:=aG h
 obtain ⟨dN,tL,h⟩:=aG h
 refine ae hE 3 [(8,oT (.agg (ai cN))),(9,oT (.agg (ai dN)))] [] (kp [0,3,4,5,6]) (kq [0,16,48]) 816 (pc o1 (pc c3 (pc (show 0≤(2:Int)∧(2:Int) < 3 by decide) (pc o1 (pc (dC _ _ _ _ sH) (pc (e8 _ _ _ _ tL) (pc o1 pn))))))) ?_
 refine ae hE 1 [] [] (kp [0,3,4,5,6]) (kq [0,16,48]) 864 pn ?_
 refine ae hE 3 [] [] (kp [0,3,4,5,6,9]) (kq [0,16,48]) 896 pn ?_
 refine sA 0 [.code (kI 465),.code (kI 233),.inLoop (kI 116),.inBlock 0,.code (kI 15)] ?_
 refine sC 9 (kI 930) (kI 931) false (fun hq=>absurd hq (by decide)) (fun _=>?_) 
 refine ae hE 2 [] [] (kp [4]) (kq [16]) 928 (pc o1 (pc o1 pn)) ?_
 obtain rfl:=bQ h
 exact bV hE 0 Tryz.f57 [] (kp [4]) (kq [16]) 928 pn [16] (pc o1 pn)
noncomputable abbrev C6:=bu Tryz.f27
def qF (N:Nat) (l:List ao) (d:List aa) (K:aa→Int→Option (Bool)):Prop:=∀ (sum:aa) (i:Int) (r:Bool),K sum i=some r→∀ E,a3 E 0→az Tryz.prog E 27 36 (aQ E [] (aB r)) [.code (C6 116),.inLoop (C6 116),.inBlock 0,.code (C6 15)] ⟨[(0,(aD ao.cells ao.d l)),(2,(aD ai aa.d d)),(7,(.op 0 0 0)),(8,(aI i))],[(0,vO 4 (ai sum))],1⟩
def xT (N:Nat) (l:List ao) (d:List aa) (i:Int) (K:aa→Option (Bool)):Prop:=∀ (zP:aa) (r:Bool),K zP=some r→∀ E,a3 E 0→az Tryz.prog E 27 36 (aQ E [] (aB r)) [.code (C6 467),.inLoop (C6 116),.inBlock 0,.code (C6 15)] ⟨[(0,(aD ao.cells ao.d l)),(2,(aD ai aa.d d)),(7,(.op 0 0 0)),(8,(aI i))],[(0,vO 4 (ai zP))],1⟩
theorem o7 (N:Nat) (l:List ao) (d:List aa) (i:Int) (j9:aa→Int→Option (Bool)) (wP:qF N l d j9):xT N l d i (lP N l d i j9):=by
 intro zP r h E hE
 unfold lP at h
 refine ae hE 0 [] [] (kp [0,2,7,8]) (kq [0]) 49 pn ?_
 exact b5 hE 1 [] (kp [0,2,7,8]) (kq [0]) 1 pn (wP _ _ _ h E hE)
theorem wQ (N l d fuel):qF N l d (hG N l d fuel):=by
 induction fuel with
 | zero=>intro _ _ r h;rw [hG.eq_1] at h;cases h
 | succ fuel ih =>
  intro sum i r h E hE
  rw [hG.eq_2] at h
  refine ae hE 2 [] [] (kp [0,2,7,8,17]) (kq [0]) 65 pn ?_
  refine ct 0 17 h (fun cR h=>?_) (fun cR h=>?_)
  ·obtain ⟨c,h⟩:=ab h
   obtain ⟨yA,gR,h⟩:=aG h
   obtain ⟨BG,kE,h⟩:=aG h
   refine ae hE 4 [(5,oT (.agg (aq.cells yA))),(6,oT (.agg (ai BG)))] [] (kp [0,2,7,8,9]) (kq [0,177]) 209 (pc c (pc (w9 _ _ _ gR) (pc (vT _ _ _ _ kE) (pc o1 pn)))) ?_
   obtain ⟨eG,n5,h⟩:=aG h
   refine ae hE 1 [(1,oT (aI eG))] [] (kp [0,2,7,8,9,29]) (kq [0,177]) 257 (pc o1 (pc (fF _ _ _ n5) pn)) ?_
   refine ct 0 29 h (fun gB h=>?_) (fun gB h=>?_)
   ·obtain ⟨aW,sH,h⟩:=aG h
    refine ae hE 0 [(2,oT (.agg (ai aW)))] [] (kp [0,2,7,8]) (kq [0]) 321 (pc o1 (pc o1 (pc (e8 _ _ _ _ sH) (pc o1 pn)))) ?_
    exact b5 hE 1 [] (kp [0,2,7,8]) (kq [0]) 1 pn (o7 N _ _ _ _ ih _ _ h E hE)
   ·exact b5 hE 2 [] (kp [0,2,7,8]) (kq [0]) 1 pn (o7 N _ _ _ _ ih _ _ h E hE)
  ·obtain ⟨dK,tL,h⟩:=aG h
   refine ae hE 2 [(1,oT (aI dK))] [] (kp [6]) [] 129 (pc o1 (pc (fF _ _ _ tL) pn)) ?_
   obtain rfl:=bQ h
   exact bV hE 0 Tryz.f27 [] (kp [6]) [] 129 pn [] pn
theorem Am (N l w d r) (h:rJ N l w d=some r):Sd 27 [(aD ao.cells ao.d l),(.agg (dE.cells w)),(aD ai aa.d d)] [] 0 (aB r) []:=by
 unfold rJ at h
 refine eL (fu:=Tryz.f27) (c:=C6 1) (nt:=36) (fun hm=>rfl) ?_
 intro E hE
 refine ae hE 1 [] [] (kp [0,2,4]) (kq [0]) 32 pn ?_
 obtain ⟨xG,hr,h⟩:=aG h
 obtain ⟨HT,dg,h⟩:=aG h
 refine ae hE 1 [(2,oT (.agg (aq.cells xG))),(3,oT (.agg (ai HT)))] [] (kp [0,2,7]) (kq [96]) 128 (pc o1 (pc (vR _ _ _ hr) (pc (vT _ _ _ _ dg) (pc o1 pn)))) ?_
 refine ae hE 2 [] [] (kp [0,2,7,8]) (kq [96]) 144 pn ?_
 exact b5 hE 2 [] (kp [0,2,7,8]) [(0,.af 96)] 1 pn (wQ N _ _ N _ _ _ h E hE)
noncomputable abbrev T9:=bu Tryz.f12
theorem uO (N l w m r) (h:mN N l w m=some r):Sd 12 [(aD ao.cells ao.d l),(.agg (dE.cells w)),(.agg (aN.cells m))] [] 0 (aI r) []:=by
 unfold mN at h
 refine eL (fu:=Tryz.f12) (c:=T9 1) (nt:=43) (fun hm=>rfl) ?_
 intro E hE
 refine ae hE 1 [] [] (kp [0,4,5]) (kq [0,16]) 48 pn ?_
 obtain ⟨bC,hr,h⟩:=aG h
 refine ae hE 2 [(1,oT (aI bC))] [] (kp [0,4,5,7]) (kq [0,16]) 96 (pc (o6 _ _ _ hr) pn) ?_
 refine ae hE 1 [] [] (kp [0,4,5,7,12]) (kq [0,16]) 128 pn ?_
 refine ct 0 12 h (fun cR h=>?_) (fun cR h=>?_)
 ·refine ae hE 1 [] [] (kp [6]) [] 160 pn ?_
  obtain rfl:=bQ h
  exact bV hE 0 Tryz.f12 [] (kp [6]) [] 160 pn [] pn
 ·obtain ⟨lA,dg,h⟩:=aG h
  refine ae hE 3 [(1,oT (aI lA))] [] (kp [0,4,5,8]) (kq [0,16]) 176 (pc o1 (pc (qC _ _ _ dg) pn)) ?_
  refine ae hE 1 [] [] (kp [0,4,5,8,17]) (kq [0,16]) 208 pn ?_
  refine ct 0 17 h (fun gB h=>?_) (fun gB h=>?_)
  ·refine ae hE 1 [] [] (kp [6]) [] 240 pn ?_
   obtain rfl:=bQ h
   exact bV hE 0 Tryz.f12 [] (kp [6]) [] 240 pn [] pn
  ·refine ae hE 3 [] [] (kp [0,4,5,20]) (kq [0,16]) 240 (pc o1 pn) ?_
   refine ct 0 20 h (fun qp h=>?_) (fun qp h=>?_)
   ·refine ae hE 2 [] [] (kp [0,4,5,26]) (kq [0,16]) 336 (pc o1 pn) ?_
    refine ct 0 26 h (fun zW h=>?_) (fun zW h=>?_)
    ·refine ae hE 1 [] [] (kp [6]) [] 352 pn ?_
     obtain rfl:=bQ h
     exact bV hE 0 Tryz.f12 [] (kp [6]) [] 352 pn [] pn
    ·obtain ⟨zQ,gR,h⟩:=aG h
     refine ae hE 3 [(4,oT (aB zQ))] [] (kp [32]) [] 432 (pc o1 (pc o1 (pc (yX _ _ _ _ _ gR) pn))) ?_
     refine ct 0 32 h (fun Fk h=>?_) (fun Fk h=>?_)
     ·refine ae hE 1 [] [] (kp [6]) [] 448 pn ?_
      obtain rfl:=bQ h
      exact bV hE 0 Tryz.f12 [] (kp [6]) [] 448 pn [] pn
     ·refine ae hE 2 [] [] (kp [6]) [] 448 pn ?_
      obtain rfl:=bQ h
      exact bV hE 0 Tryz.f12 [] (kp [6]) [] 448 pn [] pn
   ·refine ae hE 3 [] [] (kp [0,4,5,36]) (kq [0,16]) 304 (pc o1 pn) ?_
    refine ct 0 36 h (fun Nk h=>?_) (fun Nk h=>?_)
    ·refine ae hE 1 [] [] (kp [6]) [] 320 pn ?_
     obtain rfl:=bQ h
     exact bV hE 0 Tryz.f12 [] (kp [6]) [] 320 pn [] pn
    ·obtain ⟨CB,kE,h⟩:=aG h
     refine ae hE 3 [(4,oT (aB CB))] [] (kp [42]) [] 400 (pc o1 (pc o1 (pc (Am _ _ _ _ _ kE) pn))) ?_
     refine ct 0 42 h (fun TG h=>?_) (fun TG h=>?_)
     ·refine ae hE 1 [] [] (kp [6]) [] 416 pn ?_
      obtain rfl:=bQ h
      exact bV hE 0 Tryz.f12 [] (kp [6]) [] 416 pn [] pn
     ·refine ae hE 2 [] [] (kp [6]) [] 416 pn ?_
      obtain rfl:=bQ h
      exact bV hE 0 Tryz.f12 [] (kp [6]) [] 416 pn [] pn
noncomputable abbrev Rk:=bu Tryz.f30
theorem Fw (N x n r) (h:zR N x n=some r):Sd 30 [(.agg (ai x)),(aI n)] [] 0 (aB r) []:=by
 unfold zR at h
 refine eL (fu:=Tryz.f30) (c:=Rk 1) (nt:=19) (fun hm=>rfl) ?_
 intro E hE
 refine ae hE 1 [] [] (kp [1,2]) (kq [0]) 32 pn ?_
 refine ae hE 1 [] [] (kp [4]) [] 272 (pc o1 (pc (fun hg:(decide (((x.fN.fL.length:Nat):Int)≤n))=true=>(pc hg pn)) (pc (fun hg:(decide (((x.fN.fL.length:Nat):Int)≤n))=true=>(pc hg (pc o1 pn))) (pc (fun hg:(decide (((x.fN.fL.length:Nat):Int)≤n))=true=>(pc hg pn)) (pc (fun hg:(decide (((x.fN.fL.length:Nat):Int)≤n))=true=>(pc hg (pc hg pn))) (pc (fun hq:(decide (((x.fN.fL.length:Nat):Int)≤n))=true=>(pc hq pn)) pn)))))) ?_
 obtain rfl:=bQ h
 exact bV hE 0 Tryz.f30 [] (kp [4]) [] 272 pn [] pn
noncomputable abbrev IX:=bu Tryz.f15
def yY (N:Nat) (l:List aa) (n:Int) (K:Int→Option (Bool)):Prop:=∀ (i:Int) (r:Bool),K i=some r→∀ E,a3 E 0→az Tryz.prog E 15 19 (aQ E [] (aB r)) [.code (IX 52),.inLoop (IX 52),.inBlock 0,.code (IX 7)] ⟨[(0,(aD ai aa.d l)),(1,(aI n)),(5,(aI i))],[],0⟩
theorem xU (N l n fuel):yY N l n (kD N l n fuel):=by
 induction fuel with
 | zero=>intro _ r h;rw [kD.eq_1] at h;cases h
 | succ fuel ih =>
  intro i r h E hE
  rw [kD.eq_2] at h
  refine ae hE 2 [] [] (kp [0,1,5,9]) [] 64 pn ?_
  refine ct 0 9 h (fun cR h=>?_) (fun cR h=>?_)
  ·obtain ⟨c,h⟩:=ab h
   obtain ⟨HU,hr,h⟩:=aG h
   refine ae hE 4 [(5,oT (aB HU))] [] (kp [0,1,5,18]) [] 176 (pc c (pc (Fw _ _ _ _ hr) pn)) ?_
   refine ct 0 18 h (fun gB h=>?_) (fun gB h=>?_)
   ·refine ae hE 1 [] [] (kp [4]) [] 192 pn ?_
    obtain rfl:=bQ h
    exact bV hE 0 Tryz.f15 [] (kp [4]) [] 192 pn [] pn
   ·refine ae hE 2 [] [] (kp [0,1,5]) [] 224 pn ?_
    exact b5 hE 1 [] (kp [0,1,5]) [] 0 pn (ih _ _ h E hE)
  ·refine ae hE 2 [] [] (kp [4]) [] 80 pn ?_
   obtain rfl:=bQ h
   exact bV hE 0 Tryz.f15 [] (kp [4]) [] 80 pn [] pn
theorem mB (N l n r) (h:lQ N l n=some r):Sd 15 [(aD ai aa.d l),(aI n)] [] 0 (aB r) []:=by
 unfold lQ at h
 refine eL (fu:=Tryz.f15) (c:=IX 1) (nt:=19) (fun hm=>rfl) ?_
 intro E hE
 refine ae hE 1 [] [] (kp [0,1]) [] 16 pn ?_
 refine ae hE 2 [] [] (kp [0,1,5]) [] 32 pn ?_
 exact b5 hE 2 [] (kp [0,1,5]) [] 0 pn (xU N _ _ N _ _ h E hE)
noncomputable abbrev Rl:=bu Tryz.f13
theorem DN (N m r) (h:xH N m=some r):Sd 13 [(.agg (aN.cells m))] [] 0 (aB r) []:=by
 unfold xH at h
 refine eL (fu:=Tryz.f13) (c:=Rl 1) (nt:=23) (fun hm=>rfl) ?_
 intro E hE
 refine ae hE 1 [] [] (kp [1]) (kq [0]) 32 pn ?_
 obtain ⟨dd,hr,h⟩:=aG h
 obtain ⟨fE,dg,h⟩:=aG h
 refine ae hE 1 [(13,oT (aB dd)),(18,oT (aB fE))] [] (kp [2]) [] 368 (pc o1 (pc (fun hg:(decide (((m.bG.length:Nat):Int)≤20))=true=>(pc hg (pc o1 pn))) (pc (fun hg:(decide (((m.bG.length:Nat):Int)≤20))=true=>(pc hg pn)) (pc (fun hg:(decide (((m.bG.length:Nat):Int)≤20))=true=>(pc hg pn)) (pc (fun hq:(decide (((m.bG.length:Nat):Int)≤20))=true=>(pc hq pn)) (pc (fun hg:(cond (decide (((m.bG.length:Nat):Int)≤20)) (decide (((m.dI.length:Nat):Int)≤6)) false)=true=>(pc hg (pc o1 pn))) (pc (fun hg:(cond (decide (((m.bG.length:Nat):Int)≤20)) (decide (((m.dI.length:Nat):Int)≤6)) false)=true=>(pc (mB _ _ _ _ (er hr hg)) (pc hg pn))) (pc (fun hq:(cond (decide (((m.bG.length:Nat):Int)≤20)) (decide (((m.dI.length:Nat):Int)≤6)) false)=true=>(pc hq pn)) (pc (fun hg:(cond (cond (decide (((m.bG.length:Nat):Int)≤20)) (decide (((m.dI.length:Nat):Int)≤6)) false) dd false)=true=>(pc hg (pc o1 pn))) (pc (fun hg:(cond (cond (decide (((m.bG.length:Nat):Int)≤20)) (decide (((m.dI.length:Nat):Int)≤6)) false) dd false)=true=>(pc (mB _ _ _ _ (er dg hg)) (pc hg pn))) (pc (fun hq:(cond (cond (decide (((m.bG.length:Nat):Int)≤20)) (decide (((m.dI.length:Nat):Int)≤6)) false) dd false)=true=>(pc hq pn)) pn))))))))))) ?_
 obtain rfl:=bQ h
 exact bV hE 0 Tryz.f13 [] (kp [2]) [] 368 pn [] pn
noncomputable abbrev cw:=bu Tryz.f28
def xV (N:Nat) (l:List ao) (parts:List aa) (K:aq→Int→Option (Bool)):Prop:=∀ (sum:aq) (x:Int) (r:Bool),K sum x=some r→∀ E,a3 E 0→az Tryz.prog E 28 68 (aQ E [] (aB r)) [.code (cw 116),.inLoop (cw 116),.inBlock 0,.code (cw 15)] ⟨[(2,(aD ai aa.d parts)),(7,(.op 0 0 0)),(16,(aD ao.cells ao.d l)),(17,(aI ((l.length:Nat):Int))),(18,(aI x))],[(0,vO 12 (aq.cells sum))],1⟩
theorem wR (N l parts fuel):xV N l parts (jL N l parts fuel):=by
 induction fuel with
 | zero=>intro _ _ r h;rw [jL.eq_1] at h;cases h
 | succ fuel ih =>
  intro sum x r h E hE
  rw [jL.eq_2] at h
  refine ae hE 1 [] [] (kp [2,7,16,17,18,19]) (kq [0]) 17 pn ?_
  refine ct 1 19 h (fun cR h=>?_) (fun cR h=>?_)
  ·obtain ⟨c,h⟩:=ab h
   refine ae hE 4 [] [] (kp [2,7,8,9,16,17,18]) (kq [0,65]) 113 (pc c (pc o1 pn)) ?_
   obtain ⟨c2,h⟩:=ab h
   obtain ⟨dc,dg,h⟩:=aG h
   obtain ⟨c3,h⟩:=ab h
   obtain ⟨dp,gR,h⟩:=aG h
   obtain ⟨oy,kE,h⟩:=aG h
   refine ae hE 2 [(5,oT (aI dc)),(12,oT (.agg (ai dp))),(13,oT (aI oy))] [] (kp [2,7,8,9,16,17,18,38]) (kq [0,65]) 369 (pc c2 (pc (show Sd 58 [(.agg [(aB (((parts.getD ((x).toNat) aa.d).fN).fG)),(eU (((parts.getD ((x).toNat) aa.d).fN).fL)),(aB (((parts.getD ((x).toNat) aa.d).fD).fG)),(eU (((parts.getD ((x).toNat) aa.d).fD).fL))]),(.agg [(aB false),.nil,(aB false),.nil])] [] 0 (aI dc) [] from (Sound.conv (fV _ _ _ _ dg) (.cons (Alike.refl _) (.cons (Alike.agg (.cons (Alike.refl _) (.cons Alike.nil (.cons (Alike.refl _) (.cons Alike.nil .nil))))) .nil)))) (pc (fun hg:(!(decide (dc < 0)))=true=>(pc hg (pc hg (pc (c3 hg) pn)))) (pc (fun hg:(!(decide (dc < 0)))=true=>(pc hg pn)) (pc (fun hg:(!(decide (dc < 0)))=true=>(pc (cy _ _ _ (er gR hg)) pn)) (pc (fun hg:(!(decide (dc < 0)))=true=>(pc (fV _ _ _ _ (er kE hg)) (pc hg (pc hg pn)))) (pc (fun hg:(!(decide (dc < 0)))=true=>(pc hg pn)) (pc (fun hq:(!(decide (dc < 0)))=true=>(pc hq pn)) pn)))))))) ?_
   refine ct 0 38 h (fun gB h=>?_) (fun gB h=>?_)
   ·refine ae hE 1 [] [] (kp [6]) [] 385 pn ?_
    obtain rfl:=bQ h
    exact bV hE 0 Tryz.f28 [] (kp [6]) [] 385 pn [] pn
   ·obtain ⟨g4,n5,h⟩:=aG h
    refine ae hE 2 [(1,oT (.agg (aq.cells g4)))] [] (kp [2,7,8,16,17,18,40,41]) (kq [0]) 417 (pc o1 (pc (kH _ _ _ n5) pn)) ?_
    refine ae hE 3 [] [] (kp [2,7,8,16,17,18,40,41,42]) (kq [0]) 433 pn ?_
    refine sA 1 [.code (cw 239218),.code (cw 239219),.inLoop (cw 59804),.inBlock 2,.inBlock 1,.code (cw 935),.inLoop (cw 116),.inBlock 0,.code (cw 15)] ?_
    refine sC 42 (cw 478436) (cw 478437) true (fun _=>?_) (fun hq=>absurd hq (by decide)) 
    refine ae hE 4 [] [] (kp [2,7,8,10,11,16,17,18,40,41]) (kq [0,465]) 513 (pc (show 0≤(0:Int)∧(0:Int) < ((3:Nat):Int) by decide) (pc o1 pn)) ?_
    obtain ⟨bh,sH,h⟩:=aG h
    obtain ⟨aW,tL,h⟩:=aG h
    refine ae hE 0 [(9,oT (.agg (ai bh))),(10,oT (.agg (ai aW)))] [] (kp [2,7,8,16,17,18,40,41]) (kq [0]) 721 (pc (show 0≤(0:Int)∧(0:Int) < 3 by decide) (pc o1 (pc c2 (pc o1 (pc (bZ _ _ _ _ sH) (pc (de _ _ _ _ tL) (pc (show 0≤(0:Int)∧(0:Int) < 3 by decide) (pc o1 pn)))))))) ?_
    refine ae hE 1 [] [] (kp [2,7,8,16,17,18,40,41]) (kq [0]) 753 pn ?_
    refine ae hE 2 [] [] (kp [2,7,8,16,17,18,40,41,42]) (kq [0]) 769 pn ?_
    refine sA 1 [.code (cw 239218),.code (cw 239219),.inLoop (cw 59804),.inBlock 2,.inBlock 1,.code (cw 935),.inLoop (cw 116),.inBlock 0,.code (cw 15)] ?_
    refine sC 42 (cw 478436) (cw 478437) true (fun _=>?_) (fun hq=>absurd hq (by decide)) 
    refine ae hE 4 [] [] (kp [2,7,8,10,11,16,17,18,40,41]) (kq [0,801]) 849 (pc (show 0≤(1:Int)∧(1:Int) < ((3:Nat):Int) by decide) (pc o1 pn)) ?_
    obtain ⟨bI,AZ,h⟩:=aG h
    obtain ⟨c0,AY,h⟩:=aG h
    refine ae hE 0 [(9,oT (.agg (ai bI))),(10,oT (.agg (ai c0)))] [] (kp [2,7,8,16,17,18,40,41]) (kq [0]) 1057 (pc (show 0≤(1:Int)∧(1:Int) < 3 by decide) (pc o1 (pc c2 (pc o1 (pc (bZ _ _ _ _ AZ) (pc (de _ _ _ _ AY) (pc (show 0≤(1:Int)∧(1:Int) < 3 by decide) (pc o1 pn)))))))) ?_
    refine ae hE 1 [] [] (kp [2,7,8,16,17,18,40,41]) (kq [0]) 1089 pn ?_
    refine ae hE 2 [] [] (kp [2,7,8,16,17,18,40,41,42]) (kq [0]) 1105 pn ?_
    refine sA 1 [.code (cw 239218),.code (cw 239219),.inLoop (cw 59804),.inBlock 2,.inBlock 1,.code (cw 935),.inLoop (cw 116),.inBlock 0,.code (cw 15)] ?_
    refine sC 42 (cw 478436) (cw 478437) true (fun _=>?_) (fun hq=>absurd hq (by decide)) 
    refine ae hE 4 [] [] (kp [2,7,8,10,11,16,17,18,40,41]) (kq [0,1137]) 1185 (pc (show 0≤(2:Int)∧(2:Int) < ((3:Nat):Int) by decide) (pc o1 pn)) ?_
    obtain ⟨cN,tK,h⟩:=aG h
    obtain ⟨dN,vI,h⟩:=aG h
    refine ae hE 0 [(9,oT (.agg (ai cN))),(10,oT (.agg (ai dN)))] [] (kp [2,7,8,16,17,18,40,41]) (kq [0]) 1393 (pc (show 0≤(2:Int)∧(2:Int) < 3 by decide) (pc o1 (pc c2 (pc o1 (pc (bZ _ _ _ _ tK) (pc (de _ _ _ _ vI) (pc (show 0≤(2:Int)∧(2:Int) < 3 by decide) (pc o1 pn)))))))) ?_
    refine ae hE 1 [] [] (kp [2,7,8,16,17,18,40,41]) (kq [0]) 1425 pn ?_
    refine ae hE 2 [] [] (kp [2,7,8,16,17,18,40,41,42]) (kq [0]) 1441 pn ?_
    refine sA 1 [.code (cw 239218),.code (cw 239219),.inLoop (cw 59804),.inBlock 2,.inBlock 1,.code (cw 935),.inLoop (cw 116),.inBlock 0,.code (cw 15)] ?_
    refine sC 42 (cw 478436) (cw 478437) false (fun hq=>absurd hq (by decide)) (fun _=>?_) 
    refine ae hE 2 [] [] (kp [2,7,16,17,18]) (kq [0]) 1473 pn ?_
    exact b5 hE 1 [] (kp [2,7,16,17,18]) (kq [0]) 1 pn (ih _ _ _ h E hE)
  ·refine ae hE 3 [] [] (kp [59,60]) [] 49 (pc o1 pn) ?_
   refine ae hE 3 [] [] (kp [59,60,61]) [] 65 pn ?_
   refine sA 1 [.code (cw 978),.code (cw 979),.inLoop (cw 244),.inBlock 4,.code (cw 31)] ?_
   refine sC 61 (cw 1956) (cw 1957) true (fun _=>?_) (fun hq=>absurd hq (by decide)) 
   refine ae hE 4 [] [] (kp [13,59,60]) (kq [81]) 113 (pc (show 0≤(0:Int)∧(0:Int) < ((3:Nat):Int) by decide) (pc o1 pn)) ?_
   obtain ⟨yB,CU,h⟩:=aG h
   refine ae hE 1 [(2,oT (aI yB))] [] (kp [59,60,66]) [] 177 (pc o1 (pc (show Sd 58 [(.agg (ai sum.e0)),(.agg [(aB false),.nil,(aB false),.nil])] [] 0 (aI yB) [] from (Sound.conv (fV _ _ _ _ CU) (.cons (Alike.refl _) (.cons (Alike.agg (.cons (Alike.refl _) (.cons Alike.nil (.cons (Alike.refl _) (.cons Alike.nil .nil))))) .nil)))) pn)) ?_
   refine ct 0 66 h (fun qp h=>?_) (fun qp h=>?_)
   ·refine ae hE 1 [] [] (kp [6]) [] 193 pn ?_
    obtain rfl:=bQ h
    exact bV hE 0 Tryz.f28 [] (kp [6]) [] 193 pn [] pn
   ·refine ae hE 2 [] [] (kp [59,60]) [] 209 pn ?_
    refine ae hE 2 [] [] (kp [59,60,61]) [] 225 pn ?_
    refine sA 1 [.code (cw 978),.code (cw 979),.inLoop (cw 244),.inBlock 4,.code (cw 31)] ?_
    refine sC 61 (cw 1956) (cw 1957) true (fun _=>?_) (fun hq=>absurd hq (by decide)) 
    refine ae hE 4 [] [] (kp [13,59,60]) (kq [241]) 273 (pc (show 0≤(1:Int)∧(1:Int) < ((3:Nat):Int) by decide) (pc o1 pn)) ?_
    obtain ⟨yC,CV,h⟩:=aG h
    refine ae hE 1 [(2,oT (aI yC))] [] (kp [59,60,66]) [] 337 (pc o1 (pc (show Sd 58 [(.agg (ai sum.e1)),(.agg [(aB false),.nil,(aB false),.nil])] [] 0 (aI yC) [] from (Sound.conv (fV _ _ _ _ CV) (.cons (Alike.refl _) (.cons (Alike.agg (.cons (Alike.refl _) (.cons Alike.nil (.cons (Alike.refl _) (.cons Alike.nil .nil))))) .nil)))) pn)) ?_
    refine ct 0 66 h (fun zW h=>?_) (fun zW h=>?_)
    ·refine ae hE 1 [] [] (kp [6]) [] 353 pn ?_
     obtain rfl:=bQ h
     exact bV hE 0 Tryz.f28 [] (kp [6]) [] 353 pn [] pn
    ·refine ae hE 2 [] [] (kp [59,60]) [] 369 pn ?_
     refine ae hE 2 [] [] (kp [59,60,61]) [] 385 pn ?_
     refine sA 1 [.code (cw 978),.code (cw 979),.inLoop (cw 244),.inBlock 4,.code (cw 31)] ?_
     refine sC 61 (cw 1956) (cw 1957) true (fun _=>?_) (fun hq=>absurd hq (by decide)) 
     refine ae hE 4 [] [] (kp [13,59,60]) (kq [401]) 433 (pc (show 0≤(2:Int)∧(2:Int) < ((3:Nat):Int) by decide) (pc o1 pn)) ?_
     obtain ⟨yD,Fp,h⟩:=aG h
     refine ae hE 1 [(2,oT (aI yD))] [] (kp [59,60,66]) [] 497 (pc o1 (pc (show Sd 58 [(.agg (ai sum.e2)),(.agg [(aB false),.nil,(aB false),.nil])] [] 0 (aI yD) [] from (Sound.conv (fV _ _ _ _ Fp) (.cons (Alike.refl _) (.cons (Alike.agg (.cons (Alike.refl _) (.cons Alike.nil (.cons (Alike.refl _) (.cons Alike.nil .nil))))) .nil)))) pn)) ?_
     refine ct 0 66 h (fun Fk h=>?_) (fun Fk h=>?_)
     ·refine ae hE 1 [] [] (kp [6]) [] 513 pn ?_
      obtain rfl:=bQ h
      exact bV hE 0 Tryz.f28 [] (kp [6]) [] 513 pn [] pn
     ·refine ae hE 2 [] [] (kp [59,60]) [] 529 pn ?_
      refine ae hE 2 [] [] (kp [59,60,61]) [] 545 pn ?_
      refine sA 1 [.code (cw 978),.code (cw 979),.inLoop (cw 244),.inBlock 4,.code (cw 31)] ?_
      refine sC 61 (cw 1956) (cw 1957) false (fun hq=>absurd hq (by decide)) (fun _=>?_) 
      refine ae hE 2 [] [] (kp [6]) [] 561 pn ?_
      obtain rfl:=bQ h
      exact bV hE 0 Tryz.f28 [] (kp [6]) [] 561 pn [] pn
theorem An (N l w parts r) (h:rK N l w parts=some r):Sd 28 [(aD ao.cells ao.d l),(.agg (dE.cells w)),(aD ai aa.d parts)] [] 0 (aB r) []:=by
 unfold rK at h
 refine eL (fu:=Tryz.f28) (c:=cw 1) (nt:=68) (fun hm=>rfl) ?_
 intro E hE
 refine ae hE 1 [] [] (kp [0,2,4]) (kq [0]) 32 pn ?_
 obtain ⟨ak,hr,h⟩:=aG h
 refine ae hE 1 [(1,oT (.agg (aq.cells ak)))] [] (kp [0,2,7]) (kq [64]) 96 (pc o1 (pc (n6 _ _ _ hr) (pc o1 pn))) ?_
 refine ae hE 2 [] [] (kp [2,7,16,17,18]) (kq [64]) 144 pn ?_
 exact b5 hE 2 [] (kp [2,7,16,17,18]) [(0,.af 64)] 1 pn (wR N _ _ N _ _ _ h E hE)
noncomputable abbrev kJ:=bu Tryz.f61
theorem o8 (N f C0 r) (h:lR N f C0=some r):Sd 61 [(.agg (aq.cells f)),(.op 0 0 0)] [(0,vO 1 [(aD ai aa.d C0)])] 1 (.agg (ai r)) [(0,vO 1 [(aD ai aa.d C0)])]:=by
 unfold lR at h
 refine eL (fu:=Tryz.f61) (c:=kJ 1) (nt:=22) (fun hm=>absurd hm (by decide)) ?_
 intro E hE
 refine ae hE 1 [] [] (kp [1,2,3]) (kq [0,1,17]) 33 pn ?_
 obtain ⟨dp,hr,h⟩:=aG h
 refine ae hE 1 [(0,oT (.agg (ai dp)))] [] (kp [1,2,3,4]) (kq [0,1,17,49]) 81 (pc (cy _ _ _ hr) (pc o1 pn)) ?_
 refine ae hE 2 [] [] (kp [1,2,3,4,7]) (kq [0,1,17,49]) 97 pn ?_
 refine ae hE 3 [] [] (kp [1,2,3,4,7,8]) (kq [0,1,17,49]) 113 pn ?_
 refine sA 1 [.code (kJ 466),.code (kJ 467),.inLoop (kJ 116),.inBlock 0,.code (kJ 15)] ?_
 refine sC 8 (kJ 932) (kJ 933) true (fun _=>?_) (fun hq=>absurd hq (by decide)) 
 refine ae hE 4 [] [] (kp [1,2,3,4,5,7]) (kq [0,1,17,49]) 145 pn ?_
 obtain ⟨c,h⟩:=ab h
 obtain ⟨bh,dg,h⟩:=aG h
 obtain ⟨aW,gR,h⟩:=aG h
 refine ae hE 0 [(8,oT (.agg (ai bh))),(9,oT (.agg (ai aW)))] [] (kp [1,2,3,4,7]) (kq [0,1,17,49]) 321 (pc o1 (pc o1 (pc c (pc (show 0≤(0:Int)∧(0:Int) < 3 by decide) (pc o1 (pc (bZ _ _ _ _ dg) (pc (de _ _ _ _ gR) (pc o1 pn)))))))) ?_
 refine ae hE 1 [] [] (kp [1,2,3,4,7]) (kq [0,1,17,49]) 353 pn ?_
 refine ae hE 2 [] [] (kp [1,2,3,4,7,8]) (kq [0,1,17,49]) 369 pn ?_
 refine sA 1 [.code (kJ 466),.code (kJ 467),.inLoop (kJ 116),.inBlock 0,.code (kJ 15)] ?_
 refine sC 8 (kJ 932) (kJ 933) true (fun _=>?_) (fun hq=>absurd hq (by decide)) 
 refine ae hE 4 [] [] (kp [1,2,3,4,5,7]) (kq [0,1,17,49]) 401 pn ?_
 obtain ⟨c2,h⟩:=ab h
 obtain ⟨bI,kE,h⟩:=aG h
 obtain ⟨c0,n5,h⟩:=aG h
 refine ae hE 0 [(8,oT (.agg (ai bI))),(9,oT (.agg (ai c0)))] [] (kp [1,2,3,4,7]) (kq [0,1,17,49]) 577 (pc o1 (pc o1 (pc c2 (pc (show 0≤(1:Int)∧(1:Int) < 3 by decide) (pc o1 (pc (bZ _ _ _ _ kE) (pc (de _ _ _ _ n5) (pc o1 pn)))))))) ?_
 refine ae hE 1 [] [] (kp [1,2,3,4,7]) (kq [0,1,17,49]) 609 pn ?_
 refine ae hE 2 [] [] (kp [1,2,3,4,7,8]) (kq [0,1,17,49]) 625 pn ?_
 refine sA 1 [.code (kJ 466),.code (kJ 467),.inLoop (kJ 116),.inBlock 0,.code (kJ 15)] ?_
 refine sC 8 (kJ 932) (kJ 933) true (fun _=>?_) (fun hq=>absurd hq (by decide)) 
 refine ae hE 4 [] [] (kp [1,2,3,4,5,7]) (kq [0,1,17,49]) 657 pn ?_
 obtain ⟨c3,h⟩:=ab h
 obtain ⟨cN,sH,h⟩:=aG h
 obtain ⟨dN,tL,h⟩:=aG h
 refine ae hE 0 [(8,oT (.agg (ai cN))),(9,oT (.agg (ai dN)))] [] (kp [1,2,3,4,7]) (kq [0,1,17,49]) 833 (pc o1 (pc o1 (pc c3 (pc (show 0≤(2:Int)∧(2:Int) < 3 by decide) (pc o1 (pc (bZ _ _ _ _ sH) (pc (de _ _ _ _ tL) (pc o1 pn)))))))) ?_
 refine ae hE 1 [] [] (kp [1,2,3,4,7]) (kq [0,1,17,49]) 865 pn ?_
 refine ae hE 2 [] [] (kp [1,2,3,4,7,8]) (kq [0,1,17,49]) 881 pn ?_
 refine sA 1 [.code (kJ 466),.code (kJ 467),.inLoop (kJ 116),.inBlock 0,.code (kJ 15)] ?_
 refine sC 8 (kJ 932) (kJ 933) false (fun hq=>absurd hq (by decide)) (fun _=>?_) 
 refine ae hE 2 [] [] (kp [3]) (kq [0,17]) 913 (pc o1 (pc o1 pn)) ?_
 obtain rfl:=bQ h
 exact bV hE 0 Tryz.f61 [] (kp [3]) (kq [0,17]) 913 pn [17] (pc o1 pn)
noncomputable abbrev C7:=bu Tryz.f29
def o9 (N:Nat) (l:List ao) (proof:List aa) (K:aa→Int→Option (Bool)):Prop:=∀ (sum:aa) (x:Int) (r:Bool),K sum x=some r→∀ E,a3 E 0→az Tryz.prog E 29 39 (aQ E [] (aB r)) [.code (C7 244),.inLoop (C7 244),.inBlock 0,.code (C7 31)] ⟨[(7,(.fn (.func 61) [] [(.op 0 0 0)])),(8,(.op 1 0 0)),(17,(aD ao.cells ao.d l)),(18,(aI ((l.length:Nat):Int))),(19,(aI x))],[(0,vO 1 [(aD ai aa.d proof)]),(1,vO 4 (ai sum))],2⟩
def wT (N:Nat) (l:List ao) (proof:List aa) (x:Int) (K:aa→Option (Bool)):Prop:=∀ (zP:aa) (r:Bool),K zP=some r→∀ E,a3 E 0→az Tryz.prog E 29 39 (aQ E [] (aB r)) [.code (C7 1959),.inLoop (C7 244),.inBlock 0,.code (C7 31)] ⟨[(7,(.fn (.func 61) [] [(.op 0 0 0)])),(8,(.op 1 0 0)),(17,(aD ao.cells ao.d l)),(18,(aI ((l.length:Nat):Int))),(19,(aI x))],[(0,vO 1 [(aD ai aa.d proof)]),(1,vO 4 (ai zP))],2⟩
theorem oE (N:Nat) (l:List ao) (proof:List aa) (x:Int) (jA:aa→Int→Option (Bool)) (vU:o9 N l proof jA):wT N l proof x (kZ N l proof x jA):=by
 intro zP r h E hE
 unfold kZ at h
 refine ae hE 0 [] [] (kp [7,8,17,18,19]) (kq [0,1]) 34 pn ?_
 exact b5 hE 1 [] (kp [7,8,17,18,19]) (kq [0,1]) 2 pn (vU _ _ _ h E hE)
theorem vV (N l proof fuel):o9 N l proof (gx N l proof fuel):=by
 induction fuel with
 | zero=>intro _ _ r h;rw [gx.eq_1] at h;cases h
 | succ fuel ih =>
  intro sum x r h E hE
  rw [gx.eq_2] at h
  refine ae hE 1 [] [] (kp [7,8,17,18,19,20]) (kq [0,1]) 18 pn ?_
  refine ct 1 20 h (fun cR h=>?_) (fun cR h=>?_)
  ·obtain ⟨c,h⟩:=ab h
   refine ae hE 4 [] [] (kp [7,8,10,17,18,19]) (kq [0,1,50]) 82 (pc c (pc o1 pn)) ?_
   obtain ⟨g4,gR,h⟩:=aG h
   obtain ⟨sE,kE,h⟩:=aG h
   refine ae hE 1 [(2,oT (.agg (aq.cells g4))),(3,⟨[0],true,(.agg (ai sE)),[],0,false,none⟩)] [] (kp [7,8,11,17,18,19]) (kq [0,1,146]) 178 (pc o1 (pc (kH _ _ _ gR) (pc (o8 _ _ _ _ kE) (pc o1 pn)))) ?_
   obtain ⟨dc,n5,h⟩:=aG h
   refine ae hE 1 [(2,oT (aI dc))] [] (kp [7,8,11,17,18,19,30]) (kq [0,1,146]) 242 (pc o1 (pc (show Sd 58 [(.agg (ai sE)),(.agg [(aB false),.nil,(aB false),.nil])] [] 0 (aI dc) [] from (Sound.conv (fV _ _ _ _ n5) (.cons (Alike.refl _) (.cons (Alike.agg (.cons (Alike.refl _) (.cons Alike.nil (.cons (Alike.refl _) (.cons Alike.nil .nil))))) .nil)))) pn)) ?_
   refine ct 0 30 h (fun gB h=>?_) (fun gB h=>?_)
   ·obtain ⟨aW,sH,h⟩:=aG h
    refine ae hE 0 [(2,oT (.agg (ai aW)))] [] (kp [7,8,17,18,19]) (kq [0,1]) 306 (pc o1 (pc o1 (pc (de _ _ _ _ sH) (pc o1 pn)))) ?_
    exact b5 hE 1 [] (kp [7,8,17,18,19]) (kq [0,1]) 2 pn (oE N _ _ _ _ ih _ _ h E hE)
   ·exact b5 hE 2 [] (kp [7,8,17,18,19]) (kq [0,1]) 2 pn (oE N _ _ _ _ ih _ _ h E hE)
  ·obtain ⟨oy,tL,h⟩:=aG h
   refine ae hE 2 [(2,oT (aI oy))] [] (kp [6]) [] 98 (pc o1 (pc (show Sd 58 [(.agg (ai sum)),(.agg [(aB false),.nil,(aB false),.nil])] [] 0 (aI oy) [] from (Sound.conv (fV _ _ _ _ tL) (.cons (Alike.refl _) (.cons (Alike.agg (.cons (Alike.refl _) (.cons Alike.nil (.cons (Alike.refl _) (.cons Alike.nil .nil))))) .nil)))) pn)) ?_
   obtain rfl:=bQ h
   exact bV hE 0 Tryz.f29 [] (kp [6]) [] 98 pn [] pn
theorem yZ (N l w proof r) (h:qn N l w proof=some r):Sd 29 [(aD ao.cells ao.d l),(.agg (dE.cells w)),(aD ai aa.d proof)] [] 0 (aB r) []:=by
 unfold qn at h
 refine eL (fu:=Tryz.f29) (c:=C7 1) (nt:=39) (fun hm=>rfl) ?_
 intro E hE
 refine ae hE 1 [] [] (kp [0,4,5]) (kq [0,16]) 48 pn ?_
 refine ae hE 1 [] [] (kp [0,4,7]) (kq [0,16]) 80 pn ?_
 obtain ⟨ak,hr,h⟩:=aG h
 obtain ⟨CC,dg,h⟩:=aG h
 refine ae hE 1 [(2,oT (.agg (aq.cells ak))),(3,⟨[16],true,(.agg (ai CC)),[],0,false,none⟩)] [] (kp [0,7,8]) (kq [16,144]) 176 (pc o1 (pc (n6 _ _ _ hr) (pc (o8 _ _ _ _ dg) (pc o1 pn)))) ?_
 refine ae hE 2 [] [] (kp [7,8,17,18,19]) (kq [16,144]) 224 pn ?_
 exact b5 hE 2 [] (kp [7,8,17,18,19]) [(0,.af 16),(1,.af 144)] 2 pn (vV N _ _ N _ _ _ h E hE)
noncomputable abbrev Rm:=bu Tryz.f14
theorem m9 (N l w m r) (h:jq N l w m=some r):Sd 14 [(aD ao.cells ao.d l),(.agg (dE.cells w)),(.agg (aN.cells m))] [] 0 (aI r) []:=by
 unfold jq at h
 refine eL (fu:=Tryz.f14) (c:=Rm 1) (nt:=63) (fun hm=>rfl) ?_
 intro E hE
 refine ae hE 1 [] [] (kp [0,4,5]) (kq [0,16]) 48 pn ?_
 obtain ⟨bC,hr,h⟩:=aG h
 refine ae hE 2 [(1,oT (aI bC))] [] (kp [0,4,5,7]) (kq [0,16]) 96 (pc (kT _ _ _ hr) pn) ?_
 refine ae hE 1 [] [] (kp [0,4,5,7,12]) (kq [0,16]) 128 pn ?_
 refine ct 0 12 h (fun cR h=>?_) (fun cR h=>?_)
 ·refine ae hE 1 [] [] (kp [6]) [] 160 pn ?_
  obtain rfl:=bQ h
  exact bV hE 0 Tryz.f14 [] (kp [6]) [] 160 pn [] pn
 ·obtain ⟨j5,dg,h⟩:=aG h
  refine ae hE 3 [(1,oT (aI j5))] [] (kp [0,4,5,8]) (kq [0,16]) 176 (pc o1 (pc (oD _ _ _ dg) pn)) ?_
  refine ae hE 1 [] [] (kp [0,4,5,8,17]) (kq [0,16]) 208 pn ?_
  refine ct 0 17 h (fun gB h=>?_) (fun gB h=>?_)
  ·refine ae hE 1 [] [] (kp [6]) [] 240 pn ?_
   obtain rfl:=bQ h
   exact bV hE 0 Tryz.f14 [] (kp [6]) [] 240 pn [] pn
  ·refine ae hE 3 [] [] (kp [0,4,5,39]) (kq [0,16]) 544 (pc o1 (pc (fun hg:m.aH=true=>(pc hg (pc o1 pn))) (pc (fun hg:m.aH=true=>(pc hg pn)) (pc (fun hg:m.aH=true=>(pc hg pn)) (pc (fun hg:m.aH=true=>(pc hg (pc hg pn))) (pc (fun hq:m.aH=true=>(pc hq pn)) (pc (fun hg:(!(cond m.aH (((m.bG.length:Nat):Int) != ((l.length:Nat):Int)) false))=true=>(pc hg (pc o1 pn))) (pc (fun hg:(!(cond m.aH (((m.bG.length:Nat):Int) != ((l.length:Nat):Int)) false))=true=>(pc hg pn)) (pc (fun hg:((!(cond m.aH (((m.bG.length:Nat):Int) != ((l.length:Nat):Int)) false)) && ((!(cond m.aH (((m.bG.length:Nat):Int) != ((l.length:Nat):Int)) false)) && (!m.aH)))=true=>(pc hg (pc o1 pn))) (pc (fun hg:((!(cond m.aH (((m.bG.length:Nat):Int) != ((l.length:Nat):Int)) false)) && ((!(cond m.aH (((m.bG.length:Nat):Int) != ((l.length:Nat):Int)) false)) && (!m.aH)))=true=>(pc hg pn)) (pc (fun hg:((!(cond m.aH (((m.bG.length:Nat):Int) != ((l.length:Nat):Int)) false)) && ((!(cond m.aH (((m.bG.length:Nat):Int) != ((l.length:Nat):Int)) false)) && (!m.aH)))=true=>(pc hg pn)) (pc (fun hg:(!(cond m.aH (((m.bG.length:Nat):Int) != ((l.length:Nat):Int)) false))=true=>(pc hg (pc hg (pc (fun hq:(!m.aH)=true=>(pc (show ((!(cond m.aH (((m.bG.length:Nat):Int) != ((l.length:Nat):Int)) false)) && ((!(cond m.aH (((m.bG.length:Nat):Int) != ((l.length:Nat):Int)) false)) && (!m.aH)))=true from (jR hg (jR hg hq))) pn)) pn)))) (pc (fun hq:(!(cond m.aH (((m.bG.length:Nat):Int) != ((l.length:Nat):Int)) false))=true=>(pc hq pn)) pn))))))))))))) ?_
   refine ct 0 39 h (fun qp h=>?_) (fun qp h=>?_)
   ·refine ae hE 1 [] [] (kp [6]) [] 560 pn ?_
    obtain rfl:=bQ h
    exact bV hE 0 Tryz.f14 [] (kp [6]) [] 560 pn [] pn
   ·obtain ⟨kb,gR,h⟩:=aG h
    obtain ⟨Fi,kE,h⟩:=aG h
    refine ae hE 3 [(7,oT (aB kb)),(19,oT (aB Fi))] [] (kp [62]) [] 912 (pc o1 (pc (fun hg:m.aH=true=>(pc o1 pn)) (pc (fun hg:m.aH=true=>(pc hg (pc o1 pn))) (pc (fun hg:m.aH=true=>(pc (An _ _ _ _ _ (er gR hg)) (pc hg (pc hg (pc hg pn))))) (pc (fun hg:m.aH=true=>(pc hg pn)) (pc (fun hq:m.aH=true=>(pc hq pn)) (pc (fun hg:(!(cond m.aH (!kb) false))=true=>(pc hg (pc o1 pn))) (pc (fun hg:(!(cond m.aH (!kb) false))=true=>(pc hg pn)) (pc (fun hg:((!(cond m.aH (!kb) false)) && ((!(cond m.aH (!kb) false)) && (!m.aH)))=true=>(pc o1 pn)) (pc (fun hg:((!(cond m.aH (!kb) false)) && ((!(cond m.aH (!kb) false)) && (!m.aH)))=true=>(pc hg (pc o1 pn))) (pc (fun hg:((!(cond m.aH (!kb) false)) && ((!(cond m.aH (!kb) false)) && (!m.aH)))=true=>(pc (yZ _ _ _ _ _ (er kE hg)) (pc hg (pc hg (pc hg pn))))) (pc (fun hg:((!(cond m.aH (!kb) false)) && ((!(cond m.aH (!kb) false)) && (!m.aH)))=true=>(pc hg pn)) (pc (fun hg:(!(cond m.aH (!kb) false))=true=>(pc hg (pc hg (pc (fun hq:(!m.aH)=true=>(pc (show ((!(cond m.aH (!kb) false)) && ((!(cond m.aH (!kb) false)) && (!m.aH)))=true from (jR hg (jR hg hq))) pn)) pn)))) (pc (fun hq:(!(cond m.aH (!kb) false))=true=>(pc hq pn)) pn)))))))))))))) ?_
    refine ct 0 62 h (fun zW h=>?_) (fun zW h=>?_)
    ·refine ae hE 1 [] [] (kp [6]) [] 928 pn ?_
     obtain rfl:=bQ h
     exact bV hE 0 Tryz.f14 [] (kp [6]) [] 928 pn [] pn
    ·refine ae hE 2 [] [] (kp [6]) [] 928 pn ?_
     obtain rfl:=bQ h
     exact bV hE 0 Tryz.f14 [] (kp [6]) [] 928 pn [] pn
noncomputable abbrev IY:=bu Tryz.f4
def uP (N:Nat) (l:List ao) (w:dE) (m:aN) (da:aN×Int) (K:Int→Option (Bool)):Prop:=∀ (f:Int) (r:Bool),K f=some r→∀ E,a3 E 0→az Tryz.prog E 4 100 (aQ E [] (aB r)) [.code (IY 508),.code (IY 509),.code (IY 255)] ⟨[(0,(aD ao.cells ao.d l)),(4,(.op 0 0 0)),(5,(.op 1 0 0)),(7,(.op 2 0 0)),(8,(aI da.2)),(9,(aI f))],[(0,vO 3 (dE.cells w)),(1,vO 3 (aN.cells m)),(2,vO 3 (aN.cells da.1))],3⟩
theorem nJ (N l w m da):uP N l w m da (jB N l w m da):=by
 intro f r h E hE
 unfold jB at h
 refine ae hE 0 [] [] (kp [0,4,5,7,8,9,43]) (kq [0,1,2]) 35 pn ?_
 refine ct 0 43 h (fun zW h=>?_) (fun zW h=>?_)
 ·refine ae hE 1 [] [] (kp [6]) [] 371 (pc (fun hg:(da.2 == f)=true=>(pc hg (pc o1 pn))) (pc (fun hg:(da.2 == f)=true=>(pc hg pn)) (pc (fun hq:(da.2 == f)=true=>(pc hq pn)) (pc (fun hg:(cond (da.2 == f) (!da.1.aH) false)=true=>(pc hg (pc o1 pn))) (pc (fun hg:(cond (da.2 == f) (!da.1.aH) false)=true=>(pc hg pn)) (pc (fun hg:(cond (da.2 == f) (!da.1.aH) false)=true=>(pc hg pn)) (pc (fun hq:(cond (da.2 == f) (!da.1.aH) false)=true=>(pc hq pn)) (pc (fun hg:(cond (cond (da.2 == f) (!da.1.aH) false) (((da.1.bG.length:Nat):Int) == 0) false)=true=>(pc hg (pc o1 pn))) (pc (fun hg:(cond (cond (da.2 == f) (!da.1.aH) false) (((da.1.bG.length:Nat):Int) == 0) false)=true=>(pc hg pn)) (pc (fun hg:(cond (cond (da.2 == f) (!da.1.aH) false) (((da.1.bG.length:Nat):Int) == 0) false)=true=>(pc hg pn)) (pc (fun hq:(cond (cond (da.2 == f) (!da.1.aH) false) (((da.1.bG.length:Nat):Int) == 0) false)=true=>(pc hq pn)) pn))))))))))) ?_
  obtain rfl:=bQ h
  exact bV hE 0 Tryz.f4 [] (kp [6]) [] 371 pn [] pn
 ·obtain ⟨rL,tL,h⟩:=aG h
  refine ae hE 3 [(6,oT (aI rL))] [] (kp [0,4,5,7,72]) (kq [0,1,2]) 179 (pc (fun hg:(!(da.2 != 0))=true=>(pc o1 pn)) (pc (fun hg:(!(da.2 != 0))=true=>(pc o1 pn)) (pc (fun hg:(!(da.2 != 0))=true=>(pc (m9 _ _ _ _ _ (er tL hg)) (pc hg (pc hg (pc hg pn))))) (pc (fun hg:(!(da.2 != 0))=true=>(pc hg pn)) (pc (fun hq:(!(da.2 != 0))=true=>(pc hq pn)) pn))))) ?_
  refine ct 0 72 h (fun Fk h=>?_) (fun Fk h=>?_)
  ·refine ae hE 1 [] [] (kp [6]) [] 195 pn ?_
   obtain rfl:=bQ h
   exact bV hE 0 Tryz.f4 [] (kp [6]) [] 195 pn [] pn
  ·obtain ⟨dd,AZ,h⟩:=aG h
   obtain ⟨fE,AY,h⟩:=aG h
   obtain ⟨qo,tK,h⟩:=aG h
   refine ae hE 3 [(2,oT (aB dd)),(6,oT (aB fE)),(12,oT (aI qo))] [] (kp [0,4,5,7,87]) (kq [0,1,2]) 419 (pc o1 (pc (mB _ _ _ _ AZ) (pc (fun hg:dd=true=>(pc hg (pc o1 pn))) (pc (fun hg:dd=true=>(pc (mB _ _ _ _ (er AY hg)) (pc hg pn))) (pc (fun hq:dd=true=>(pc hq pn)) (pc (fun hg:(cond dd fE false)=true=>(pc o1 pn)) (pc (fun hg:(cond dd fE false)=true=>(pc o1 pn)) (pc (fun hg:(cond dd fE false)=true=>(pc (uO _ _ _ _ _ (er tK hg)) (pc hg (pc hg (pc hg pn))))) (pc (fun hg:(cond dd fE false)=true=>(pc hg pn)) (pc (fun hq:(cond dd fE false)=true=>(pc hq pn)) pn)))))))))) ?_
   refine ct 0 87 h (fun Nk h=>?_) (fun Nk h=>?_)
   ·refine ae hE 1 [] [] (kp [6]) [] 435 pn ?_
    obtain rfl:=bQ h
    exact bV hE 0 Tryz.f4 [] (kp [6]) [] 435 pn [] pn
   ·obtain ⟨iq,vI,h⟩:=aG h
    refine ae hE 2 [(3,oT (aI iq))] [] (kp [6]) [] 627 (pc o1 (pc o1 (pc (m9 _ _ _ _ _ vI) (pc (fun hg:(!(iq != 0))=true=>(pc hg (pc o1 pn))) (pc (fun hg:(!(iq != 0))=true=>(pc hg (pc o1 pn))) (pc (fun hg:(!(iq != 0))=true=>(pc hg (pc hg pn))) (pc (fun hq:(!(iq != 0))=true=>(pc hq pn)) pn))))))) ?_
    obtain rfl:=bQ h
    exact bV hE 0 Tryz.f4 [] (kp [6]) [] 627 pn [] pn
theorem wU (N l w m r) (h:lS N l w m=some r):Sd 4 [(aD ao.cells ao.d l),(.agg (dE.cells w)),(.agg (aN.cells m))] [] 0 (aB r) []:=by
 unfold lS at h
 refine eL (fu:=Tryz.f4) (c:=IY 1) (nt:=100) (fun hm=>rfl) ?_
 intro E hE
 refine ae hE 1 [] [] (kp [0,4,5]) (kq [0,16]) 48 pn ?_
 obtain ⟨HV,hr,h⟩:=aG h
 refine ae hE 2 [(0,oT (aB HV))] [] (kp [0,4,5,11]) (kq [0,16]) 80 (pc (CW _ _ hr) pn) ?_
 refine ct 0 11 h (fun cR h=>?_) (fun cR h=>?_)
 ·refine ae hE 1 [] [] (kp [6]) [] 96 pn ?_
  obtain rfl:=bQ h
  exact bV hE 0 Tryz.f4 [] (kp [6]) [] 96 pn [] pn
 ·obtain ⟨kQ,dg,h⟩:=aG h
  obtain ⟨sG,gR,h⟩:=aG h
  refine ae hE 3 [(1,oT (aB kQ)),(5,oT (aB sG))] [] (kp [0,4,5,29]) (kq [0,16]) 368 (pc (CX _ _ _ dg) (pc (fun hg:(!(!kQ))=true=>(pc o1 pn)) (pc (fun hg:(!(!kQ))=true=>(pc (DN _ _ _ (er gR hg)) (pc hg pn))) (pc (fun hg:(!(!kQ))=true=>(pc hg pn)) (pc (fun hq:(!(!kQ))=true=>(pc hq pn)) (pc (fun hg:(!(cond (!kQ) true (!sG)))=true=>(pc hg pn)) (pc (fun hg:(!(cond (!kQ) true (!sG)))=true=>(pc hg pn)) (pc (fun hg:((!(cond (!kQ) true (!sG))) && ((!(cond (!kQ) true (!sG))) && (decide (((l.length:Nat):Int) > 6))))=true=>(pc hg pn)) (pc (fun hg:((!(cond (!kQ) true (!sG))) && ((!(cond (!kQ) true (!sG))) && (decide (((l.length:Nat):Int) > 6))))=true=>(pc hg pn)) (pc (fun hg:(!(cond (!kQ) true (!sG)))=true=>(pc hg (pc hg (pc (fun hq:(decide (((l.length:Nat):Int) > 6))=true=>(pc (show ((!(cond (!kQ) true (!sG))) && ((!(cond (!kQ) true (!sG))) && (decide (((l.length:Nat):Int) > 6))))=true from (jR hg (jR hg hq))) pn)) pn)))) (pc (fun hq:(!(cond (!kQ) true (!sG)))=true=>(pc hq pn)) pn))))))))))) ?_
  refine ct 0 29 h (fun gB h=>?_) (fun gB h=>?_)
  ·refine ae hE 1 [] [] (kp [6]) [] 384 pn ?_
   obtain rfl:=bQ h
   exact bV hE 0 Tryz.f4 [] (kp [6]) [] 384 pn [] pn
  ·obtain ⟨da,kE,h⟩:=aG h
   refine ae hE 2 [(2,oT (.tup [(.agg (aN.cells da.1)),(aI da.2)]))] [] (kp [0,4,5,7,8]) (kq [0,16,464]) 512 (pc o1 (pc (Bh _ _ _ _ kE) (pc o1 pn))) ?_
   obtain ⟨bC,n5,h⟩:=aG h
   refine ae hE 1 [(1,oT (aI bC))] [] (kp [0,4,5,7,8,9]) (kq [0,16,464]) 560 (pc (o6 _ _ _ n5) pn) ?_
   refine ae hE 2 [] [] (kp [0,4,5,7,8,9,39]) (kq [0,16,464]) 592 pn ?_
   refine ct 0 39 h (fun qp h=>?_) (fun qp h=>?_)
   ·obtain ⟨lA,sH,h⟩:=aG h
    refine ae hE 0 [(1,oT (aI lA))] [] (kp [0,4,5,7,8,9]) (kq [0,16,464]) 640 (pc o1 (pc (qC _ _ _ sH) pn)) ?_
    exact b5 hE 2 [] (kp [0,4,5,7,8,9]) (kq [0] ++ [(1,.af 16),(2,.af 464)]) 3 pn (nJ N _ _ _ _ _ _ h E hE)
   ·exact b5 hE 3 [] (kp [0,4,5,7,8,9]) (kq [0] ++ [(1,.af 16),(2,.af 464)]) 3 pn (nJ N _ _ _ _ _ _ h E hE)
end Go.Den
