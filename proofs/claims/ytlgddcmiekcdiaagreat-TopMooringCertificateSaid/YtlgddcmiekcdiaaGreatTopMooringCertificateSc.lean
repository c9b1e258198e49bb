/- Each function of the program does what its Lean function computes (part 3). No conditions. -/
import Derived.Test.YtlgddcmiekcdiaaGreatTopMooringCertificateSb
import Derived.Test.YtlgddcmiekcdiaaGreatProg
set_option linter.unusedVariables false
set_option maxRecDepth 100000
namespace Go.Den
open Go.Ab Go.Proofs Go.Ab.aG
noncomputable abbrev XO:=cl Tryz.f39
theorem vn (N l r) (h:qL N l=some r):Sd 39 [(.agg (ae.cells l))] [] 0 (.agg (aw.cells r)) []:=by
 unfold qL at h
 refine im (fu:=Tryz.f39) (c:=XO 1) (nt:=45) (fun hm=>rfl) ?_
 intro E hE
 refine ag hE 1 [] [] (kp [1,2]) (kq [0,16]) 32 pn ?_
 obtain ⟨rQ,hr,h⟩:=aQ h
 obtain ⟨QU,eX,h⟩:=aQ h
 obtain ⟨rQ2,kE,h⟩:=aQ h
 obtain ⟨EZ,nu,h⟩:=aQ h
 refine ag hE 1 [(2,oT (.agg (aj rQ))),(4,oT (aI QU)),(5,oT (.agg (aj rQ2))),(6,oT (.agg (aj EZ)))] [] (kp [1,2,3]) (kq [0,16,144]) 176 (pc o1 (pc (qO _ _ _ hr) (pc o1 (pc (Hy _ _ _ eX) (pc (qO _ _ _ kE) (pc (ED _ _ _ _ nu) (pc o1 pn))))))) ?_
 obtain ⟨rQ3,rX,h⟩:=aQ h
 obtain ⟨cE,xU,h⟩:=aQ h
 refine ag hE 1 [(6,oT (.agg (aj rQ3))),(7,oT (.agg (aj cE)))] [] (kp [1,2,3,4]) (kq [0,16,144,304]) 336 (pc o1 (pc o1 (pc o1 (pc (qO _ _ _ rX) (pc (o8 _ _ _ _ xU) (pc o1 pn)))))) ?_
 obtain ⟨rQ4,yL,h⟩:=aQ h
 obtain ⟨dG,Eb,h⟩:=aQ h
 refine ag hE 1 [(6,oT (.agg (aj rQ4))),(7,oT (.agg (aj dG)))] [] (kp [1,2,4,5]) (kq [0,16,304,464]) 496 (pc o1 (pc o1 (pc o1 (pc (qO _ _ _ yL) (pc (o8 _ _ _ _ Eb) (pc o1 pn)))))) ?_
 obtain ⟨rQ5,Ea,h⟩:=aQ h
 obtain ⟨ij,xc,h⟩:=aQ h
 obtain ⟨rQ6,yQ,h⟩:=aQ h
 obtain ⟨tE,Db,h⟩:=aQ h
 obtain ⟨av,Dc,h⟩:=aQ h
 refine ag hE 1 [(2,oT (.agg (aj rQ5))),(4,oT (.agg (aj ij))),(7,oT (.agg (aj rQ6))),(9,oT (.agg (aj tE))),(10,oT (.agg (aj av)))] [] (kp [2,4,5,6]) (kq [16,304,464,672]) 704 (pc o1 (pc (qO _ _ _ Ea) (pc o1 (pc (o8 _ _ _ _ xc) (pc o1 (pc (qO _ _ _ yQ) (pc o1 (pc (o8 _ _ _ _ Db) (pc (EB _ _ _ _ Dc) (pc o1 pn)))))))))) ?_
 refine ag hE 1 [] [] (kp [2]) (kq [16]) 784 (pc o1 (pc o1 (pc o1 (pc o1 pn)))) ?_
 obtain rfl:=cX h
 exact db hE 0 Tryz.f39 [] (kp [2]) (kq [16]) 784 pn [16] (pc o1 pn)
noncomputable abbrev dz:=cl Tryz.f28
def A7 (N:Nat) (l:List ae) (parts:List aa) (K:aw→Int→Option (Bool)):Prop:=∀ (sum:aw) (x:Int) (r:Bool),K sum x=some r→∀ E,bk E 0→aG Tryz.prog E 28 68 (bc E [] (aB r)) [.code (dz 116),.inLoop (dz 116),.inBlock 0,.code (dz 15)] ⟨[(2,(aH aj aa.d parts)),(7,(.op 0 0 0)),(16,(aH ae.cells ae.d l)),(17,(aI ((l.length:Nat):Int))),(18,(aI x))],[(0,vO 12 (aw.cells sum))],1⟩
theorem z9 (N l parts fuel):A7 N l parts (gM N l parts fuel):=by
 induction fuel with
 | zero=>intro _ _ r h;rw [gM.eq_1] at h;cases h
 | succ fuel ih =>
  intro sum x r h E hE
  rw [gM.eq_2] at h
  refine ag hE 1 [] [] (kp [2,7,16,17,18,19]) (kq [0]) 17 pn ?_
  refine du 1 19 h (fun ee h=>?_) (fun ee h=>?_)
  ·obtain ⟨c,h⟩:=af h
   refine ag hE 4 [] [] (kp [2,7,8,9,16,17,18]) (kq [0,65]) 113 (pc c (pc o1 pn)) ?_
   obtain ⟨c2,h⟩:=af h
   obtain ⟨fS,eX,h⟩:=aQ h
   obtain ⟨c3,h⟩:=af h
   obtain ⟨eW,kE,h⟩:=aQ h
   obtain ⟨rr,nu,h⟩:=aQ h
   refine ag hE 2 [(5,oT (aI fS)),(12,oT (.agg (aj eW))),(13,oT (aI rr))] [] (kp [2,7,8,9,16,17,18,38]) (kq [0,65]) 369 (pc c2 (pc (show Sd 58 [(.agg [(aB (((parts.getD ((x).toNat) aa.d).fN).fG)),(eU (((parts.getD ((x).toNat) aa.d).fN).fL)),(aB (((parts.getD ((x).toNat) aa.d).fD).fG)),(eU (((parts.getD ((x).toNat) aa.d).fD).fL))]),(.agg [(aB false),.nil,(aB false),.nil])] [] 0 (aI fS) [] from (Sound.conv (jm _ _ _ _ eX) (.cons (Alike.refl _) (.cons (Alike.agg (.cons (Alike.refl _) (.cons Alike.nil (.cons (Alike.refl _) (.cons Alike.nil .nil))))) .nil)))) (pc (fun hg:(!(decide (fS < 0)))=true=>(pc hg (pc hg (pc (c3 hg) pn)))) (pc (fun hg:(!(decide (fS < 0)))=true=>(pc hg pn)) (pc (fun hg:(!(decide (fS < 0)))=true=>(pc (dC _ _ _ (aR kE hg)) pn)) (pc (fun hg:(!(decide (fS < 0)))=true=>(pc (jm _ _ _ _ (aR nu hg)) (pc hg (pc hg pn)))) (pc (fun hg:(!(decide (fS < 0)))=true=>(pc hg pn)) (pc (fun hq:(!(decide (fS < 0)))=true=>(pc hq pn)) pn)))))))) ?_
   refine du 0 38 h (fun jx h=>?_) (fun jx h=>?_)
   ·refine ag hE 1 [] [] (kp [6]) [] 385 pn ?_
    obtain rfl:=cX h
    exact db hE 0 Tryz.f28 [] (kp [6]) [] 385 pn [] pn
   ·obtain ⟨j9,rX,h⟩:=aQ h
    refine ag hE 2 [(1,oT (.agg (aw.cells j9)))] [] (kp [2,7,8,16,17,18,40,41]) (kq [0]) 417 (pc o1 (pc (mT _ _ _ rX) pn)) ?_
    refine ag hE 3 [] [] (kp [2,7,8,16,17,18,40,41,42]) (kq [0]) 433 pn ?_
    refine sA 1 [.code (dz 239218),.code (dz 239219),.inLoop (dz 59804),.inBlock 2,.inBlock 1,.code (dz 935),.inLoop (dz 116),.inBlock 0,.code (dz 15)] ?_
    refine sC 42 (dz 478436) (dz 478437) true (fun _=>?_) (fun hq=>absurd hq (by decide)) 
    refine ag hE 4 [] [] (kp [2,7,8,10,11,16,17,18,40,41]) (kq [0,465]) 513 (pc (show 0≤(0:Int)∧(0:Int) < ((3:Nat):Int) by decide) (pc o1 pn)) ?_
    obtain ⟨cE,xU,h⟩:=aQ h
    obtain ⟨bO,yL,h⟩:=aQ h
    refine ag hE 0 [(9,oT (.agg (aj cE))),(10,oT (.agg (aj bO)))] [] (kp [2,7,8,16,17,18,40,41]) (kq [0]) 721 (pc (show 0≤(0:Int)∧(0:Int) < 3 by decide) (pc o1 (pc c2 (pc o1 (pc (dd _ _ _ _ xU) (pc (eN _ _ _ _ yL) (pc (show 0≤(0:Int)∧(0:Int) < 3 by decide) (pc o1 pn)))))))) ?_
    refine ag hE 1 [] [] (kp [2,7,8,16,17,18,40,41]) (kq [0]) 753 pn ?_
    refine ag hE 2 [] [] (kp [2,7,8,16,17,18,40,41,42]) (kq [0]) 769 pn ?_
    refine sA 1 [.code (dz 239218),.code (dz 239219),.inLoop (dz 59804),.inBlock 2,.inBlock 1,.code (dz 935),.inLoop (dz 116),.inBlock 0,.code (dz 15)] ?_
    refine sC 42 (dz 478436) (dz 478437) true (fun _=>?_) (fun hq=>absurd hq (by decide)) 
    refine ag hE 4 [] [] (kp [2,7,8,10,11,16,17,18,40,41]) (kq [0,801]) 849 (pc (show 0≤(1:Int)∧(1:Int) < ((3:Nat):Int) by decide) (pc o1 pn)) ?_
    obtain ⟨dG,Eb,h⟩:=aQ h
    obtain ⟨ju,Ea,h⟩:=aQ h
    refine ag hE 0 [(9,oT (.agg (aj dG))),(10,oT (.agg (aj ju)))] [] (kp [2,7,8,16,17,18,40,41]) (kq [0]) 1057 (pc (show 0≤(1:Int)∧(1:Int) < 3 by decide) (pc o1 (pc c2 (pc o1 (pc (dd _ _ _ _ Eb) (pc (eN _ _ _ _ Ea) (pc (show 0≤(1:Int)∧(1:Int) < 3 by decide) (pc o1 pn)))))))) ?_
    refine ag hE 1 [] [] (kp [2,7,8,16,17,18,40,41]) (kq [0]) 1089 pn ?_
    refine ag hE 2 [] [] (kp [2,7,8,16,17,18,40,41,42]) (kq [0]) 1105 pn ?_
    refine sA 1 [.code (dz 239218),.code (dz 239219),.inLoop (dz 59804),.inBlock 2,.inBlock 1,.code (dz 935),.inLoop (dz 116),.inBlock 0,.code (dz 15)] ?_
    refine sC 42 (dz 478436) (dz 478437) true (fun _=>?_) (fun hq=>absurd hq (by decide)) 
    refine ag hE 4 [] [] (kp [2,7,8,10,11,16,17,18,40,41]) (kq [0,1137]) 1185 (pc (show 0≤(2:Int)∧(2:Int) < ((3:Nat):Int) by decide) (pc o1 pn)) ?_
    obtain ⟨ij,xc,h⟩:=aQ h
    obtain ⟨ln,yQ,h⟩:=aQ h
    refine ag hE 0 [(9,oT (.agg (aj ij))),(10,oT (.agg (aj ln)))] [] (kp [2,7,8,16,17,18,40,41]) (kq [0]) 1393 (pc (show 0≤(2:Int)∧(2:Int) < 3 by decide) (pc o1 (pc c2 (pc o1 (pc (dd _ _ _ _ xc) (pc (eN _ _ _ _ yQ) (pc (show 0≤(2:Int)∧(2:Int) < 3 by decide) (pc o1 pn)))))))) ?_
    refine ag hE 1 [] [] (kp [2,7,8,16,17,18,40,41]) (kq [0]) 1425 pn ?_
    refine ag hE 2 [] [] (kp [2,7,8,16,17,18,40,41,42]) (kq [0]) 1441 pn ?_
    refine sA 1 [.code (dz 239218),.code (dz 239219),.inLoop (dz 59804),.inBlock 2,.inBlock 1,.code (dz 935),.inLoop (dz 116),.inBlock 0,.code (dz 15)] ?_
    refine sC 42 (dz 478436) (dz 478437) false (fun hq=>absurd hq (by decide)) (fun _=>?_) 
    refine ag hE 2 [] [] (kp [2,7,16,17,18]) (kq [0]) 1473 pn ?_
    exact cP hE 1 [] (kp [2,7,16,17,18]) (kq [0]) 1 pn (ih _ _ _ h E hE)
  ·refine ag hE 3 [] [] (kp [59,60]) [] 49 (pc o1 pn) ?_
   refine ag hE 3 [] [] (kp [59,60,61]) [] 65 pn ?_
   refine sA 1 [.code (dz 978),.code (dz 979),.inLoop (dz 244),.inBlock 4,.code (dz 31)] ?_
   refine sC 61 (dz 1956) (dz 1957) true (fun _=>?_) (fun hq=>absurd hq (by decide)) 
   refine ag hE 4 [] [] (kp [13,59,60]) (kq [81]) 113 (pc (show 0≤(0:Int)∧(0:Int) < ((3:Nat):Int) by decide) (pc o1 pn)) ?_
   obtain ⟨BM,Db,h⟩:=aQ h
   refine ag hE 1 [(2,oT (aI BM))] [] (kp [59,60,66]) [] 177 (pc o1 (pc (show Sd 58 [(.agg (aj sum.e0)),(.agg [(aB false),.nil,(aB false),.nil])] [] 0 (aI BM) [] from (Sound.conv (jm _ _ _ _ Db) (.cons (Alike.refl _) (.cons (Alike.agg (.cons (Alike.refl _) (.cons Alike.nil (.cons (Alike.refl _) (.cons Alike.nil .nil))))) .nil)))) pn)) ?_
   refine du 0 66 h (fun rV h=>?_) (fun rV h=>?_)
   ·refine ag hE 1 [] [] (kp [6]) [] 193 pn ?_
    obtain rfl:=cX h
    exact db hE 0 Tryz.f28 [] (kp [6]) [] 193 pn [] pn
   ·refine ag hE 2 [] [] (kp [59,60]) [] 209 pn ?_
    refine ag hE 2 [] [] (kp [59,60,61]) [] 225 pn ?_
    refine sA 1 [.code (dz 978),.code (dz 979),.inLoop (dz 244),.inBlock 4,.code (dz 31)] ?_
    refine sC 61 (dz 1956) (dz 1957) true (fun _=>?_) (fun hq=>absurd hq (by decide)) 
    refine ag hE 4 [] [] (kp [13,59,60]) (kq [241]) 273 (pc (show 0≤(1:Int)∧(1:Int) < ((3:Nat):Int) by decide) (pc o1 pn)) ?_
    obtain ⟨BN,Dc,h⟩:=aQ h
    refine ag hE 1 [(2,oT (aI BN))] [] (kp [59,60,66]) [] 337 (pc o1 (pc (show Sd 58 [(.agg (aj sum.e1)),(.agg [(aB false),.nil,(aB false),.nil])] [] 0 (aI BN) [] from (Sound.conv (jm _ _ _ _ Dc) (.cons (Alike.refl _) (.cons (Alike.agg (.cons (Alike.refl _) (.cons Alike.nil (.cons (Alike.refl _) (.cons Alike.nil .nil))))) .nil)))) pn)) ?_
    refine du 0 66 h (fun BS h=>?_) (fun BS h=>?_)
    ·refine ag hE 1 [] [] (kp [6]) [] 353 pn ?_
     obtain rfl:=cX h
     exact db hE 0 Tryz.f28 [] (kp [6]) [] 353 pn [] pn
    ·refine ag hE 2 [] [] (kp [59,60]) [] 369 pn ?_
     refine ag hE 2 [] [] (kp [59,60,61]) [] 385 pn ?_
     refine sA 1 [.code (dz 978),.code (dz 979),.inLoop (dz 244),.inBlock 4,.code (dz 31)] ?_
     refine sC 61 (dz 1956) (dz 1957) true (fun _=>?_) (fun hq=>absurd hq (by decide)) 
     refine ag hE 4 [] [] (kp [13,59,60]) (kq [401]) 433 (pc (show 0≤(2:Int)∧(2:Int) < ((3:Nat):Int) by decide) (pc o1 pn)) ?_
     obtain ⟨BO,Jz,h⟩:=aQ h
     refine ag hE 1 [(2,oT (aI BO))] [] (kp [59,60,66]) [] 497 (pc o1 (pc (show Sd 58 [(.agg (aj sum.e2)),(.agg [(aB false),.nil,(aB false),.nil])] [] 0 (aI BO) [] from (Sound.conv (jm _ _ _ _ Jz) (.cons (Alike.refl _) (.cons (Alike.agg (.cons (Alike.refl _) (.cons Alike.nil (.cons (Alike.refl _) (.cons Alike.nil .nil))))) .nil)))) pn)) ?_
     refine du 0 66 h (fun Jv h=>?_) (fun Jv h=>?_)
     ·refine ag hE 1 [] [] (kp [6]) [] 513 pn ?_
      obtain rfl:=cX h
      exact db hE 0 Tryz.f28 [] (kp [6]) [] 513 pn [] pn
     ·refine ag hE 2 [] [] (kp [59,60]) [] 529 pn ?_
      refine ag hE 2 [] [] (kp [59,60,61]) [] 545 pn ?_
      refine sA 1 [.code (dz 978),.code (dz 979),.inLoop (dz 244),.inBlock 4,.code (dz 31)] ?_
      refine sC 61 (dz 1956) (dz 1957) false (fun hq=>absurd hq (by decide)) (fun _=>?_) 
      refine ag hE 2 [] [] (kp [6]) [] 561 pn ?_
      obtain rfl:=cX h
      exact db hE 0 Tryz.f28 [] (kp [6]) [] 561 pn [] pn
theorem Dr (N l w parts r) (h:qV N l w parts=some r):Sd 28 [(aH ae.cells ae.d l),(.agg (dE.cells w)),(aH aj aa.d parts)] [] 0 (aB r) []:=by
 unfold qV at h
 refine im (fu:=Tryz.f28) (c:=dz 1) (nt:=68) (fun hm=>rfl) ?_
 intro E hE
 refine ag hE 1 [] [] (kp [0,2,4]) (kq [0]) 32 pn ?_
 obtain ⟨aq,hr,h⟩:=aQ h
 refine ag hE 1 [(1,oT (.agg (aw.cells aq)))] [] (kp [0,2,7]) (kq [64]) 96 (pc o1 (pc (qN _ _ _ hr) (pc o1 pn))) ?_
 refine ag hE 2 [] [] (kp [2,7,16,17,18]) (kq [64]) 144 pn ?_
 exact cP hE 2 [] (kp [2,7,16,17,18]) [(0,.ah 64)] 1 pn (z9 N _ _ N _ _ _ h E hE)
noncomputable abbrev mU:=cl Tryz.f61
theorem sD (N f C0 r) (h:l3 N f C0=some r):Sd 61 [(.agg (aw.cells f)),(.op 0 0 0)] [(0,vO 1 [(aH aj aa.d C0)])] 1 (.agg (aj r)) [(0,vO 1 [(aH aj aa.d C0)])]:=by
 unfold l3 at h
 refine im (fu:=Tryz.f61) (c:=mU 1) (nt:=22) (fun hm=>absurd hm (by decide)) ?_
 intro E hE
 refine ag hE 1 [] [] (kp [1,2,3]) (kq [0,1,17]) 33 pn ?_
 obtain ⟨eW,hr,h⟩:=aQ h
 refine ag hE 1 [(0,oT (.agg (aj eW)))] [] (kp [1,2,3,4]) (kq [0,1,17,49]) 81 (pc (dC _ _ _ hr) (pc o1 pn)) ?_
 refine ag hE 2 [] [] (kp [1,2,3,4,7]) (kq [0,1,17,49]) 97 pn ?_
 refine ag hE 3 [] [] (kp [1,2,3,4,7,8]) (kq [0,1,17,49]) 113 pn ?_
 refine sA 1 [.code (mU 466),.code (mU 467),.inLoop (mU 116),.inBlock 0,.code (mU 15)] ?_
 refine sC 8 (mU 932) (mU 933) true (fun _=>?_) (fun hq=>absurd hq (by decide)) 
 refine ag hE 4 [] [] (kp [1,2,3,4,5,7]) (kq [0,1,17,49]) 145 pn ?_
 obtain ⟨c,h⟩:=af h
 obtain ⟨cE,eX,h⟩:=aQ h
 obtain ⟨bO,kE,h⟩:=aQ h
 refine ag hE 0 [(8,oT (.agg (aj cE))),(9,oT (.agg (aj bO)))] [] (kp [1,2,3,4,7]) (kq [0,1,17,49]) 321 (pc o1 (pc o1 (pc c (pc (show 0≤(0:Int)∧(0:Int) < 3 by decide) (pc o1 (pc (dd _ _ _ _ eX) (pc (eN _ _ _ _ kE) (pc o1 pn)))))))) ?_
 refine ag hE 1 [] [] (kp [1,2,3,4,7]) (kq [0,1,17,49]) 353 pn ?_
 refine ag hE 2 [] [] (kp [1,2,3,4,7,8]) (kq [0,1,17,49]) 369 pn ?_
 refine sA 1 [.code (mU 466),.code (mU 467),.inLoop (mU 116),.inBlock 0,.code (mU 15)] ?_
 refine sC 8 (mU 932) (mU 933) true (fun _=>?_) (fun hq=>absurd hq (by decide)) 
 refine ag hE 4 [] [] (kp [1,2,3,4,5,7]) (kq [0,1,17,49]) 401 pn ?_
 obtain ⟨c2,h⟩:=af h
 obtain ⟨dG,nu,h⟩:=aQ h
 obtain ⟨ju,rX,h⟩:=aQ h
 refine ag hE 0 [(8,oT (.agg (aj dG))),(9,oT (.agg (aj ju)))] [] (kp [1,2,3,4,7]) (kq [0,1,17,49]) 577 (pc o1 (pc o1 (pc c2 (pc (show 0≤(1:Int)∧(1:Int) < 3 by decide) (pc o1 (pc (dd _ _ _ _ nu) (pc (eN _ _ _ _ rX) (pc o1 pn)))))))) ?_
 refine ag hE 1 [] [] (kp [1,2,3,4,7]) (kq [0,1,17,49]) 609 pn ?_
 refine ag hE 2 [] [] (kp [1,2,3,4,7,8]) (kq [0,1,17,49]) 625 pn ?_
 refine sA 1 [.code (mU 466),.code (mU 467),.inLoop (mU 116),.inBlock 0,.code (mU 15)] ?_
 refine sC 8 (mU 932) (mU 933) true (fun _=>?_) (fun hq=>absurd hq (by decide)) 
 refine ag hE 4 [] [] (kp [1,2,3,4,5,7]) (kq [0,1,17,49]) 657 pn ?_
 obtain ⟨c3,h⟩:=af h
 obtain ⟨ij,xU,h⟩:=aQ h
 obtain ⟨ln,yL,h⟩:=aQ h
 refine ag hE 0 [(8,oT (.agg (aj ij))),(9,oT (.agg (aj ln)))] [] (kp [1,2,3,4,7]) (kq [0,1,17,49]) 833 (pc o1 (pc o1 (pc c3 (pc (show 0≤(2:Int)∧(2:Int) < 3 by decide) (pc o1 (pc (dd _ _ _ _ xU) (pc (eN _ _ _ _ yL) (pc o1 pn)))))))) ?_
 refine ag hE 1 [] [] (kp [1,2,3,4,7]) (kq [0,1,17,49]) 865 pn ?_
 refine ag hE 2 [] [] (kp [1,2,3,4,7,8]) (kq [0,1,17,49]) 881 pn ?_
 refine sA 1 [.code (mU 466),.code (mU 467),.inLoop (mU 116),.inBlock 0,.code (mU 15)] ?_
 refine sC 8 (mU 932) (mU 933) false (fun hq=>absurd hq (by decide)) (fun _=>?_) 
 refine ag hE 2 [] [] (kp [3]) (kq [0,17]) 913 (pc o1 (pc o1 pn)) ?_
 obtain rfl:=cX h
 exact db hE 0 Tryz.f61 [] (kp [3]) (kq [0,17]) 913 pn [17] (pc o1 pn)
noncomputable abbrev Gu:=cl Tryz.f29
def sE (N:Nat) (l:List ae) (proof:List aa) (K:aa→Int→Option (Bool)):Prop:=∀ (sum:aa) (x:Int) (r:Bool),K sum x=some r→∀ E,bk E 0→aG Tryz.prog E 29 39 (bc E [] (aB r)) [.code (Gu 244),.inLoop (Gu 244),.inBlock 0,.code (Gu 31)] ⟨[(7,(.fn (.func 61) [] [(.op 0 0 0)])),(8,(.op 1 0 0)),(17,(aH ae.cells ae.d l)),(18,(aI ((l.length:Nat):Int))),(19,(aI x))],[(0,vO 1 [(aH aj aa.d proof)]),(1,vO 4 (aj sum))],2⟩
def Aa (N:Nat) (l:List ae) (proof:List aa) (x:Int) (K:aa→Option (Bool)):Prop:=∀ (KR:aa) (r:Bool),K KR=some r→∀ E,bk E 0→aG Tryz.prog E 29 39 (bc E [] (aB r)) [.code (Gu 1959),.inLoop (Gu 244),.inBlock 0,.code (Gu 31)] ⟨[(7,(.fn (.func 61) [] [(.op 0 0 0)])),(8,(.op 1 0 0)),(17,(aH ae.cells ae.d l)),(18,(aI ((l.length:Nat):Int))),(19,(aI x))],[(0,vO 1 [(aH aj aa.d proof)]),(1,vO 4 (aj KR))],2⟩
theorem rC (N:Nat) (l:List ae) (proof:List aa) (x:Int) (lS:aa→Int→Option (Bool)) (yX:sE N l proof lS):Aa N l proof x (jF N l proof x lS):=by
 intro KR r h E hE
 unfold jF at h
 refine ag hE 0 [] [] (kp [7,8,17,18,19]) (kq [0,1]) 34 pn ?_
 exact cP hE 1 [] (kp [7,8,17,18,19]) (kq [0,1]) 2 pn (yX _ _ _ h E hE)
theorem yY (N l proof fuel):sE N l proof (eT N l proof fuel):=by
 induction fuel with
 | zero=>intro _ _ r h;rw [eT.eq_1] at h;cases h
 | succ fuel ih =>
  intro sum x r h E hE
  rw [eT.eq_2] at h
  refine ag hE 1 [] [] (kp [7,8,17,18,19,20]) (kq [0,1]) 18 pn ?_
  refine du 1 20 h (fun ee h=>?_) (fun ee h=>?_)
  ·obtain ⟨c,h⟩:=af h
   refine ag hE 4 [] [] (kp [7,8,10,17,18,19]) (kq [0,1,50]) 82 (pc c (pc o1 pn)) ?_
   obtain ⟨j9,kE,h⟩:=aQ h
   obtain ⟨vT,nu,h⟩:=aQ h
   refine ag hE 1 [(2,oT (.agg (aw.cells j9))),(3,⟨[0],true,(.agg (aj vT)),[],0,false,none⟩)] [] (kp [7,8,11,17,18,19]) (kq [0,1,146]) 178 (pc o1 (pc (mT _ _ _ kE) (pc (sD _ _ _ _ nu) (pc o1 pn)))) ?_
   obtain ⟨fS,rX,h⟩:=aQ h
   refine ag hE 1 [(2,oT (aI fS))] [] (kp [7,8,11,17,18,19,30]) (kq [0,1,146]) 242 (pc o1 (pc (show Sd 58 [(.agg (aj vT)),(.agg [(aB false),.nil,(aB false),.nil])] [] 0 (aI fS) [] from (Sound.conv (jm _ _ _ _ rX) (.cons (Alike.refl _) (.cons (Alike.agg (.cons (Alike.refl _) (.cons Alike.nil (.cons (Alike.refl _) (.cons Alike.nil .nil))))) .nil)))) pn)) ?_
   refine du 0 30 h (fun jx h=>?_) (fun jx h=>?_)
   ·obtain ⟨bO,xU,h⟩:=aQ h
    refine ag hE 0 [(2,oT (.agg (aj bO)))] [] (kp [7,8,17,18,19]) (kq [0,1]) 306 (pc o1 (pc o1 (pc (eN _ _ _ _ xU) (pc o1 pn)))) ?_
    exact cP hE 1 [] (kp [7,8,17,18,19]) (kq [0,1]) 2 pn (rC N _ _ _ _ ih _ _ h E hE)
   ·exact cP hE 2 [] (kp [7,8,17,18,19]) (kq [0,1]) 2 pn (rC N _ _ _ _ ih _ _ h E hE)
  ·obtain ⟨rr,yL,h⟩:=aQ h
   refine ag hE 2 [(2,oT (aI rr))] [] (kp [6]) [] 98 (pc o1 (pc (show Sd 58 [(.agg (aj sum)),(.agg [(aB false),.nil,(aB false),.nil])] [] 0 (aI rr) [] from (Sound.conv (jm _ _ _ _ yL) (.cons (Alike.refl _) (.cons (Alike.agg (.cons (Alike.refl _) (.cons Alike.nil (.cons (Alike.refl _) (.cons Alike.nil .nil))))) .nil)))) pn)) ?_
   obtain rfl:=cX h
   exact db hE 0 Tryz.f29 [] (kp [6]) [] 98 pn [] pn
theorem B9 (N l w proof r) (h:qj N l w proof=some r):Sd 29 [(aH ae.cells ae.d l),(.agg (dE.cells w)),(aH aj aa.d proof)] [] 0 (aB r) []:=by
 unfold qj at h
 refine im (fu:=Tryz.f29) (c:=Gu 1) (nt:=39) (fun hm=>rfl) ?_
 intro E hE
 refine ag hE 1 [] [] (kp [0,4,5]) (kq [0,16]) 48 pn ?_
 refine ag hE 1 [] [] (kp [0,4,7]) (kq [0,16]) 80 pn ?_
 obtain ⟨aq,hr,h⟩:=aQ h
 obtain ⟨F7,eX,h⟩:=aQ h
 refine ag hE 1 [(2,oT (.agg (aw.cells aq))),(3,⟨[16],true,(.agg (aj F7)),[],0,false,none⟩)] [] (kp [0,7,8]) (kq [16,144]) 176 (pc o1 (pc (qN _ _ _ hr) (pc (sD _ _ _ _ eX) (pc o1 pn)))) ?_
 refine ag hE 2 [] [] (kp [7,8,17,18,19]) (kq [16,144]) 224 pn ?_
 exact cP hE 2 [] (kp [7,8,17,18,19]) [(0,.ah 16),(1,.ah 144)] 2 pn (yY N _ _ N _ _ _ h E hE)
noncomputable abbrev XP:=cl Tryz.f14
theorem wu (N l w m r) (h:lB N l w m=some r):Sd 14 [(aH ae.cells ae.d l),(.agg (dE.cells w)),(.agg (bQ.cells m))] [] 0 (aI r) []:=by
 unfold lB at h
 refine im (fu:=Tryz.f14) (c:=XP 1) (nt:=63) (fun hm=>rfl) ?_
 intro E hE
 refine ag hE 1 [] [] (kp [0,4,5]) (kq [0,16]) 48 pn ?_
 obtain ⟨dX,hr,h⟩:=aQ h
 refine ag hE 2 [(1,oT (aI dX))] [] (kp [0,4,5,7]) (kq [0,16]) 96 (pc (qz _ _ _ hr) pn) ?_
 refine ag hE 1 [] [] (kp [0,4,5,7,12]) (kq [0,16]) 128 pn ?_
 refine du 0 12 h (fun ee h=>?_) (fun ee h=>?_)
 ·refine ag hE 1 [] [] (kp [6]) [] 160 pn ?_
  obtain rfl:=cX h
  exact db hE 0 Tryz.f14 [] (kp [6]) [] 160 pn [] pn
 ·obtain ⟨mj,eX,h⟩:=aQ h
  refine ag hE 3 [(1,oT (aI mj))] [] (kp [0,4,5,8]) (kq [0,16]) 176 (pc o1 (pc (rB _ _ _ eX) pn)) ?_
  refine ag hE 1 [] [] (kp [0,4,5,8,17]) (kq [0,16]) 208 pn ?_
  refine du 0 17 h (fun jx h=>?_) (fun jx h=>?_)
  ·refine ag hE 1 [] [] (kp [6]) [] 240 pn ?_
   obtain rfl:=cX h
   exact db hE 0 Tryz.f14 [] (kp [6]) [] 240 pn [] pn
  ·refine ag hE 3 [] [] (kp [0,4,5,39]) (kq [0,16]) 544 (pc o1 (pc (fun hg:m.aE=true=>(pc hg (pc o1 pn))) (pc (fun hg:m.aE=true=>(pc hg pn)) (pc (fun hg:m.aE=true=>(pc hg pn)) (pc (fun hg:m.aE=true=>(pc hg (pc hg pn))) (pc (fun hq:m.aE=true=>(pc hq pn)) (pc (fun hg:(!(cond m.aE (((m.eD.length:Nat):Int) != ((l.length:Nat):Int)) false))=true=>(pc hg (pc o1 pn))) (pc (fun hg:(!(cond m.aE (((m.eD.length:Nat):Int) != ((l.length:Nat):Int)) false))=true=>(pc hg pn)) (pc (fun hg:((!(cond m.aE (((m.eD.length:Nat):Int) != ((l.length:Nat):Int)) false)) && ((!(cond m.aE (((m.eD.length:Nat):Int) != ((l.length:Nat):Int)) false)) && (!m.aE)))=true=>(pc hg (pc o1 pn))) (pc (fun hg:((!(cond m.aE (((m.eD.length:Nat):Int) != ((l.length:Nat):Int)) false)) && ((!(cond m.aE (((m.eD.length:Nat):Int) != ((l.length:Nat):Int)) false)) && (!m.aE)))=true=>(pc hg pn)) (pc (fun hg:((!(cond m.aE (((m.eD.length:Nat):Int) != ((l.length:Nat):Int)) false)) && ((!(cond m.aE (((m.eD.length:Nat):Int) != ((l.length:Nat):Int)) false)) && (!m.aE)))=true=>(pc hg pn)) (pc (fun hg:(!(cond m.aE (((m.eD.length:Nat):Int) != ((l.length:Nat):Int)) false))=true=>(pc hg (pc hg (pc (fun hq:(!m.aE)=true=>(pc (show ((!(cond m.aE (((m.eD.length:Nat):Int) != ((l.length:Nat):Int)) false)) && ((!(cond m.aE (((m.eD.length:Nat):Int) != ((l.length:Nat):Int)) false)) && (!m.aE)))=true from (jz hg (jz hg hq))) pn)) pn)))) (pc (fun hq:(!(cond m.aE (((m.eD.length:Nat):Int) != ((l.length:Nat):Int)) false))=true=>(pc hq pn)) pn))))))))))))) ?_
   refine du 0 39 h (fun rV h=>?_) (fun rV h=>?_)
   ·refine ag hE 1 [] [] (kp [6]) [] 560 pn ?_
    obtain rfl:=cX h
    exact db hE 0 Tryz.f14 [] (kp [6]) [] 560 pn [] pn
   ·obtain ⟨mq,kE,h⟩:=aQ h
    obtain ⟨Jq,nu,h⟩:=aQ h
    refine ag hE 3 [(7,oT (aB mq)),(19,oT (aB Jq))] [] (kp [62]) [] 912 (pc o1 (pc (fun hg:m.aE=true=>(pc o1 pn)) (pc (fun hg:m.aE=true=>(pc hg (pc o1 pn))) (pc (fun hg:m.aE=true=>(pc (Dr _ _ _ _ _ (aR kE hg)) (pc hg (pc hg (pc hg pn))))) (pc (fun hg:m.aE=true=>(pc hg pn)) (pc (fun hq:m.aE=true=>(pc hq pn)) (pc (fun hg:(!(cond m.aE (!mq) false))=true=>(pc hg (pc o1 pn))) (pc (fun hg:(!(cond m.aE (!mq) false))=true=>(pc hg pn)) (pc (fun hg:((!(cond m.aE (!mq) false)) && ((!(cond m.aE (!mq) false)) && (!m.aE)))=true=>(pc o1 pn)) (pc (fun hg:((!(cond m.aE (!mq) false)) && ((!(cond m.aE (!mq) false)) && (!m.aE)))=true=>(pc hg (pc o1 pn))) (pc (fun hg:((!(cond m.aE (!mq) false)) && ((!(cond m.aE (!mq) false)) && (!m.aE)))=true=>(pc (B9 _ _ _ _ _ (aR nu hg)) (pc hg (pc hg (pc hg pn))))) (pc (fun hg:((!(cond m.aE (!mq) false)) && ((!(cond m.aE (!mq) false)) && (!m.aE)))=true=>(pc hg pn)) (pc (fun hg:(!(cond m.aE (!mq) false))=true=>(pc hg (pc hg (pc (fun hq:(!m.aE)=true=>(pc (show ((!(cond m.aE (!mq) false)) && ((!(cond m.aE (!mq) false)) && (!m.aE)))=true from (jz hg (jz hg hq))) pn)) pn)))) (pc (fun hq:(!(cond m.aE (!mq) false))=true=>(pc hq pn)) pn)))))))))))))) ?_
    refine du 0 62 h (fun BS h=>?_) (fun BS h=>?_)
    ·refine ag hE 1 [] [] (kp [6]) [] 928 pn ?_
     obtain rfl:=cX h
     exact db hE 0 Tryz.f14 [] (kp [6]) [] 928 pn [] pn
    ·refine ag hE 2 [] [] (kp [6]) [] 928 pn ?_
     obtain rfl:=cX h
     exact db hE 0 Tryz.f14 [] (kp [6]) [] 928 pn [] pn
noncomputable abbrev XQ:=cl Tryz.f63
theorem nU (N n low high r) (h:nP N n low high=some r):Sd 63 [(aI n),(aI low),(aI high)] [] 0 (aB r) []:=by
 unfold nP at h
 refine im (fu:=Tryz.f63) (c:=XQ 1) (nt:=15) (fun hm=>rfl) ?_
 intro E hE
 refine ag hE 1 [] [] (kp [0,1,2]) [] 16 pn ?_
 refine ag hE 1 [] [] (kp [6]) [] 160 (pc (fun hg:(decide (n≥low))=true=>(pc hg (pc hg pn))) (pc (fun hq:(decide (n≥low))=true=>(pc hq pn)) pn)) ?_
 obtain rfl:=cX h
 exact db hE 0 Tryz.f63 [] (kp [6]) [] 160 pn [] pn
noncomputable abbrev NF:=cl Tryz.f101
def EE (N:Nat) (s:ByteArray) (K:Int→Option (Bool)):Prop:=∀ (x:Int) (r:Bool),K x=some r→∀ E,bk E 0→aG Tryz.prog E 101 51 (bc E [] (aB r)) [.code (NF 116),.inLoop (NF 116),.inBlock 0,.code (NF 15)] ⟨[(11,(aH (cU .u8) 0 (p6 s))),(12,(aI ((s.size:Nat):Int))),(13,(aI x))],[],0⟩
theorem Ds (N s fuel):EE N s (oH N s fuel):=by
 induction fuel with
 | zero=>intro _ r h;rw [oH.eq_1] at h;cases h
 | succ fuel ih =>
  intro x r h E hE
  rw [oH.eq_2] at h
  refine ag hE 1 [] [] (kp [11,12,13,14]) [] 16 pn ?_
  refine du 1 14 h (fun jx h=>?_) (fun jx h=>?_)
  ·obtain ⟨c,h⟩:=af h
   refine ag hE 4 [] [] (kp [3,4,11,12,13]) [] 96 (pc c pn) ?_
   refine ag hE 1 [] [] (kp [3,4,5,11,12,13]) [] 336 (pc (fun hg:(decide ((zB s x)≥97))=true=>(pc hg pn)) (pc (fun hq:(decide ((zB s x)≥97))=true=>(pc hq pn)) (pc (fun hg:(!(cond (decide ((zB s x)≥97)) (decide ((zB s x)≤122)) false))=true=>(pc hg pn)) (pc (fun hg:((!(cond (decide ((zB s x)≥97)) (decide ((zB s x)≤122)) false)) && ((!(cond (decide ((zB s x)≥97)) (decide ((zB s x)≤122)) false)) && (decide ((zB s x)≥65))))=true=>(pc hg pn)) (pc (fun hg:(!(cond (decide ((zB s x)≥97)) (decide ((zB s x)≤122)) false))=true=>(pc hg (pc hg (pc (fun hq:(decide ((zB s x)≥65))=true=>(pc (show ((!(cond (decide ((zB s x)≥97)) (decide ((zB s x)≤122)) false)) && ((!(cond (decide ((zB s x)≥97)) (decide ((zB s x)≤122)) false)) && (decide ((zB s x)≥65))))=true from (jz hg (jz hg hq))) pn)) pn)))) (pc (fun hq:(!(cond (decide ((zB s x)≥97)) (decide ((zB s x)≤122)) false))=true=>(pc hq pn)) pn)))))) ?_
   refine ag hE 1 [] [] (kp [11,12,13,49]) [] 624 (pc (fun hg:(!(cond (cond (decide ((zB s x)≥97)) (decide ((zB s x)≤122)) false) true (cond (decide ((zB s x)≥65)) (decide ((zB s x)≤90)) false)))=true=>(pc hg pn)) (pc (fun hg:((!(cond (cond (decide ((zB s x)≥97)) (decide ((zB s x)≤122)) false) true (cond (decide ((zB s x)≥65)) (decide ((zB s x)≤90)) false))) && ((!(cond (cond (decide ((zB s x)≥97)) (decide ((zB s x)≤122)) false) true (cond (decide ((zB s x)≥65)) (decide ((zB s x)≤90)) false))) && (!(x == 0))))=true=>(pc hg pn)) (pc (fun hg:(((!(cond (cond (decide ((zB s x)≥97)) (decide ((zB s x)≤122)) false) true (cond (decide ((zB s x)≥65)) (decide ((zB s x)≤90)) false))) && ((!(cond (cond (decide ((zB s x)≥97)) (decide ((zB s x)≤122)) false) true (cond (decide ((zB s x)≥65)) (decide ((zB s x)≤90)) false))) && (!(x == 0)))) && (((!(cond (cond (decide ((zB s x)≥97)) (decide ((zB s x)≤122)) false) true (cond (decide ((zB s x)≥65)) (decide ((zB s x)≤90)) false))) && ((!(cond (cond (decide ((zB s x)≥97)) (decide ((zB s x)≤122)) false) true (cond (decide ((zB s x)≥65)) (decide ((zB s x)≤90)) false))) && (!(x == 0)))) && ((zB s x) != 45)))=true=>(pc hg pn)) (pc (fun hg:((((!(cond (cond (decide ((zB s x)≥97)) (decide ((zB s x)≤122)) false) true (cond (decide ((zB s x)≥65)) (decide ((zB s x)≤90)) false))) && ((!(cond (cond (decide ((zB s x)≥97)) (decide ((zB s x)≤122)) false) true (cond (decide ((zB s x)≥65)) (decide ((zB s x)≤90)) false))) && (!(x == 0)))) && (((!(cond (cond (decide ((zB s x)≥97)) (decide ((zB s x)≤122)) false) true (cond (decide ((zB s x)≥65)) (decide ((zB s x)≤90)) false))) && ((!(cond (cond (decide ((zB s x)≥97)) (decide ((zB s x)≤122)) false) true (cond (decide ((zB s x)≥65)) (decide ((zB s x)≤90)) false))) && (!(x == 0)))) && ((zB s x) != 45))) && ((((!(cond (cond (decide ((zB s x)≥97)) (decide ((zB s x)≤122)) false) true (cond (decide ((zB s x)≥65)) (decide ((zB s x)≤90)) false))) && ((!(cond (cond (decide ((zB s x)≥97)) (decide ((zB s x)≤122)) false) true (cond (decide ((zB s x)≥65)) (decide ((zB s x)≤90)) false))) && (!(x == 0)))) && (((!(cond (cond (decide ((zB s x)≥97)) (decide ((zB s x)≤122)) false) true (cond (decide ((zB s x)≥65)) (decide ((zB s x)≤90)) false))) && ((!(cond (cond (decide ((zB s x)≥97)) (decide ((zB s x)≤122)) false) true (cond (decide ((zB s x)≥65)) (decide ((zB s x)≤90)) false))) && (!(x == 0)))) && ((zB s x) != 45))) && (!(decide ((zB s x) < 48)))))=true=>(pc hg pn)) (pc (fun hg:(((!(cond (cond (decide ((zB s x)≥97)) (decide ((zB s x)≤122)) false) true (cond (decide ((zB s x)≥65)) (decide ((zB s x)≤90)) false))) && ((!(cond (cond (decide ((zB s x)≥97)) (decide ((zB s x)≤122)) false) true (cond (decide ((zB s x)≥65)) (decide ((zB s x)≤90)) false))) && (!(x == 0)))) && (((!(cond (cond (decide ((zB s x)≥97)) (decide ((zB s x)≤122)) false) true (cond (decide ((zB s x)≥65)) (decide ((zB s x)≤90)) false))) && ((!(cond (cond (decide ((zB s x)≥97)) (decide ((zB s x)≤122)) false) true (cond (decide ((zB s x)≥65)) (decide ((zB s x)≤90)) false))) && (!(x == 0)))) && ((zB s x) != 45)))=true=>(pc hg (pc hg (pc (fun hq:(!(decide ((zB s x) < 48)))=true=>(pc (show ((((!(cond (cond (decide ((zB s x)≥97)) (decide ((zB s x)≤122)) false) true (cond (decide ((zB s x)≥65)) (decide ((zB s x)≤90)) false))) && ((!(cond (cond (decide ((zB s x)≥97)) (decide ((zB s x)≤122)) false) true (cond (decide ((zB s x)≥65)) (decide ((zB s x)≤90)) false))) && (!(x == 0)))) && (((!(cond (cond (decide ((zB s x)≥97)) (decide ((zB s x)≤122)) false) true (cond (decide ((zB s x)≥65)) (decide ((zB s x)≤90)) false))) && ((!(cond (cond (decide ((zB s x)≥97)) (decide ((zB s x)≤122)) false) true (cond (decide ((zB s x)≥65)) (decide ((zB s x)≤90)) false))) && (!(x == 0)))) && ((zB s x) != 45))) && ((((!(cond (cond (decide ((zB s x)≥97)) (decide ((zB s x)≤122)) false) true (cond (decide ((zB s x)≥65)) (decide ((zB s x)≤90)) false))) && ((!(cond (cond (decide ((zB s x)≥97)) (decide ((zB s x)≤122)) false) true (cond (decide ((zB s x)≥65)) (decide ((zB s x)≤90)) false))) && (!(x == 0)))) && (((!(cond (cond (decide ((zB s x)≥97)) (decide ((zB s x)≤122)) false) true (cond (decide ((zB s x)≥65)) (decide ((zB s x)≤90)) false))) && ((!(cond (cond (decide ((zB s x)≥97)) (decide ((zB s x)≤122)) false) true (cond (decide ((zB s x)≥65)) (decide ((zB s x)≤90)) false))) && (!(x == 0)))) && ((zB s x) != 45))) && (!(decide ((zB s x) < 48)))))=true from (jz hg (jz hg hq))) pn)) pn)))) (pc (fun hg:((!(cond (cond (decide ((zB s x)≥97)) (decide ((zB s x)≤122)) false) true (cond (decide ((zB s x)≥65)) (decide ((zB s x)≤90)) false))) && ((!(cond (cond (decide ((zB s x)≥97)) (decide ((zB s x)≤122)) false) true (cond (decide ((zB s x)≥65)) (decide ((zB s x)≤90)) false))) && (!(x == 0))))=true=>(pc hg (pc hg (pc (fun hq:((zB s x) != 45)=true=>(pc (show (((!(cond (cond (decide ((zB s x)≥97)) (decide ((zB s x)≤122)) false) true (cond (decide ((zB s x)≥65)) (decide ((zB s x)≤90)) false))) && ((!(cond (cond (decide ((zB s x)≥97)) (decide ((zB s x)≤122)) false) true (cond (decide ((zB s x)≥65)) (decide ((zB s x)≤90)) false))) && (!(x == 0)))) && (((!(cond (cond (decide ((zB s x)≥97)) (decide ((zB s x)≤122)) false) true (cond (decide ((zB s x)≥65)) (decide ((zB s x)≤90)) false))) && ((!(cond (cond (decide ((zB s x)≥97)) (decide ((zB s x)≤122)) false) true (cond (decide ((zB s x)≥65)) (decide ((zB s x)≤90)) false))) && (!(x == 0)))) && ((zB s x) != 45)))=true from (jz hg (jz hg hq))) pn)) pn)))) (pc (fun hg:(!(cond (cond (decide ((zB s x)≥97)) (decide ((zB s x)≤122)) false) true (cond (decide ((zB s x)≥65)) (decide ((zB s x)≤90)) false)))=true=>(pc hg (pc hg (pc (fun hq:(!(x == 0))=true=>(pc (show ((!(cond (cond (decide ((zB s x)≥97)) (decide ((zB s x)≤122)) false) true (cond (decide ((zB s x)≥65)) (decide ((zB s x)≤90)) false))) && ((!(cond (cond (decide ((zB s x)≥97)) (decide ((zB s x)≤122)) false) true (cond (decide ((zB s x)≥65)) (decide ((zB s x)≤90)) false))) && (!(x == 0))))=true from (jz hg (jz hg hq))) pn)) pn)))) (pc (fun hq:(!(cond (cond (decide ((zB s x)≥97)) (decide ((zB s x)≤122)) false) true (cond (decide ((zB s x)≥65)) (decide ((zB s x)≤90)) false)))=true=>(pc hq pn)) pn)))))))) ?_
   refine du 0 49 h (fun rV h=>?_) (fun rV h=>?_)
   ·refine ag hE 1 [] [] (kp [2]) [] 640 pn ?_
    obtain rfl:=cX h
    exact db hE 0 Tryz.f101 [] (kp [2]) [] 640 pn [] pn
   ·refine ag hE 2 [] [] (kp [11,12,13]) [] 656 pn ?_
    exact cP hE 1 [] (kp [11,12,13]) [] 0 pn (ih _ _ h E hE)
  ·refine ag hE 2 [] [] (kp [2]) [] 32 pn ?_
   obtain rfl:=cX h
   exact db hE 0 Tryz.f101 [] (kp [2]) [] 48 pn [] pn
theorem Hz (N s r) (h:AN N s=some r):Sd 101 [(aS s)] [] 0 (aB r) []:=by
 unfold AN at h
 refine im (fu:=Tryz.f101) (c:=NF 1) (nt:=51) (fun hm=>rfl) ?_
 intro E hE
 refine ag hE 1 [] [] (kp [0]) [] 16 pn ?_
 obtain ⟨QV,hr,h⟩:=aQ h
 refine ag hE 2 [(2,oT (aB QV))] [] (kp [0,9]) [] 80 (pc (nU _ _ _ _ _ hr) pn) ?_
 refine du 0 9 h (fun ee h=>?_) (fun ee h=>?_)
 ·refine ag hE 1 [] [] (kp [2]) [] 96 pn ?_
  obtain rfl:=cX h
  exact db hE 0 Tryz.f101 [] (kp [2]) [] 96 pn [] pn
 ·refine ag hE 3 [] [] ([(11,.sl ((p6 s).length) (fun zi=>(cU .u8) ((p6 s).getD zi 0)))] ++ kp [12,13]) [] 144 (pc (show s.size=(p6 s).length from (Mo s)) (pc (show ∀ zi,zi < (p6 s).length→(fun zi=>(cU .u8) ((p6 s).getD zi 0)) zi=(fun zi=>[.atom (.int .u8 (jI s zi))]) zi from (Mp s)) pn)) ?_
  exact cP hE 2 [] (kp [11,12,13]) [] 0 pn (Ds N _ N _ _ h E hE)
noncomputable abbrev NG:=cl Tryz.f102
def A8 (N:Nat) (b:iY) (K:Int→Option (Int)):Prop:=∀ (x:Int) (r:Int),K x=some r→∀ E,bk E 0→aG Tryz.prog E 102 60 (bc E [] (aI r)) [.code (NG 116),.inLoop (NG 116),.inBlock 0,.code (NG 15)] ⟨[(1,(.op 0 0 0)),(11,(aH iA.cells iA.d b.cZ)),(12,(aI ((b.cZ.length:Nat):Int))),(13,(aI x))],[(0,vO 3 (iY.cells b))],1⟩
theorem Ad (N b fuel):A8 N b (l4 N b fuel):=by
 induction fuel with
 | zero=>intro _ r h;rw [l4.eq_1] at h;cases h
 | succ fuel ih =>
  intro x r h E hE
  rw [l4.eq_2] at h
  refine ag hE 1 [] [] (kp [1,11,12,13,14]) (kq [0]) 17 pn ?_
  refine du 1 14 h (fun jx h=>?_) (fun jx h=>?_)
  ·obtain ⟨c,h⟩:=af h
   refine ag hE 4 [] [] (kp [1,3,4,11,12,13]) (kq [0,65]) 113 (pc c (pc o1 pn)) ?_
   obtain ⟨KS,eX,h⟩:=aQ h
   obtain ⟨VP,kE,h⟩:=aQ h
   refine ag hE 2 [(2,oT (aB KS)),(7,oT (aB VP))] [] (kp [1,3,4,11,12,13,27]) (kq [0,65]) 273 (pc o1 (pc (nU _ _ _ _ _ eX) (pc (fun hg:(!(!KS))=true=>(pc hg (pc o1 pn))) (pc (fun hg:(!(!KS))=true=>(pc (nU _ _ _ _ _ (aR kE hg)) (pc hg pn))) (pc (fun hg:(!(!KS))=true=>(pc hg pn)) (pc (fun hq:(!(!KS))=true=>(pc hq pn)) pn)))))) ?_
   refine du 0 27 h (fun rV h=>?_) (fun rV h=>?_)
   ·refine ag hE 1 [] [] (kp [2]) [] 289 pn ?_
    obtain rfl:=cX h
    exact db hE 0 Tryz.f102 [] (kp [2]) [] 289 pn [] pn
   ·obtain ⟨c2,h⟩:=af h
    refine ag hE 2 [] [] (kp [1,11,12,13,41]) (kq [0]) 497 (pc (fun hg:(decide (x > 0))=true=>(pc hg (pc o1 pn))) (pc (fun hg:(decide (x > 0))=true=>(pc hg (pc o1 pn))) (pc (fun hg:(decide (x > 0))=true=>(pc hg pn)) (pc (fun hg:(decide (x > 0))=true=>(pc hg (pc hg (pc (c2 hg) pn)))) (pc (fun hg:(decide (x > 0))=true=>(pc hg pn)) (pc (fun hg:(decide (x > 0))=true=>(pc hg pn)) (pc (fun hg:(decide (x > 0))=true=>(pc hg (pc hg pn))) (pc (fun hq:(decide (x > 0))=true=>(pc hq pn)) pn)))))))) ?_
    refine du 0 41 h (fun BS h=>?_) (fun BS h=>?_)
    ·refine ag hE 1 [] [] (kp [2]) [] 513 pn ?_
     obtain rfl:=cX h
     exact db hE 0 Tryz.f102 [] (kp [2]) [] 513 pn [] pn
    ·refine ag hE 2 [] [] (kp [1,11,12,13]) (kq [0]) 529 pn ?_
     exact cP hE 1 [] (kp [1,11,12,13]) (kq [0]) 1 pn (ih _ _ h E hE)
  ·obtain ⟨c3,h⟩:=af h
   refine ag hE 3 [] [] (kp [59]) [] 289 (pc o1 (pc o1 (pc o1 (pc c3 (pc (fun hg:(!(decide (b.DQ≤(b.cZ.getD ((ai (((b.cZ.length:Nat):Int) - 1)).toNat) iA.d).p7)))=true=>(pc hg (pc o1 pn))) (pc (fun hg:(!(decide (b.DQ≤(b.cZ.getD ((ai (((b.cZ.length:Nat):Int) - 1)).toNat) iA.d).p7)))=true=>(pc hg pn)) (pc (fun hq:(!(decide (b.DQ≤(b.cZ.getD ((ai (((b.cZ.length:Nat):Int) - 1)).toNat) iA.d).p7)))=true=>(pc hq pn)) pn))))))) ?_
   refine du 0 59 h (fun Jv h=>?_) (fun Jv h=>?_)
   ·refine ag hE 1 [] [] (kp [2]) [] 305 pn ?_
    obtain rfl:=cX h
    exact db hE 0 Tryz.f102 [] (kp [2]) [] 305 pn [] pn
   ·refine ag hE 2 [] [] (kp [2]) [] 305 pn ?_
    obtain rfl:=cX h
    exact db hE 0 Tryz.f102 [] (kp [2]) [] 305 pn [] pn
theorem Dt (N b r) (h:uY N b=some r):Sd 102 [(.agg (iY.cells b))] [] 0 (aI r) []:=by
 unfold uY at h
 refine im (fu:=Tryz.f102) (c:=NG 1) (nt:=60) (fun hm=>rfl) ?_
 intro E hE
 refine ag hE 1 [] [] (kp [1]) (kq [0]) 32 pn ?_
 obtain ⟨QV,hr,h⟩:=aQ h
 refine ag hE 2 [(3,oT (aB QV))] [] (kp [1,9]) (kq [0]) 112 (pc o1 (pc (nU _ _ _ _ _ hr) pn)) ?_
 refine du 0 9 h (fun ee h=>?_) (fun ee h=>?_)
 ·refine ag hE 1 [] [] (kp [2]) [] 128 pn ?_
  obtain rfl:=cX h
  exact db hE 0 Tryz.f102 [] (kp [2]) [] 128 pn [] pn
 ·refine ag hE 3 [] [] (kp [1,11,12,13]) (kq [0]) 176 (pc o1 pn) ?_
  exact cP hE 2 [] (kp [1,11,12,13]) (kq [0]) 1 pn (Ad N _ N _ _ h E hE)
noncomputable abbrev XR:=cl Tryz.f62
theorem Ca (N b r) (h:tI N b=some r):Sd 62 [(.agg (iY.cells b))] [] 0 (aI r) []:=by
 unfold tI at h
 refine im (fu:=Tryz.f62) (c:=XR 1) (nt:=9) (fun hm=>rfl) ?_
 intro E hE
 refine ag hE 1 [] [] (kp [1]) (kq [0]) 32 pn ?_
 obtain ⟨Jr,hr,h⟩:=aQ h
 refine ag hE 2 [(2,oT (aB Jr))] [] (kp [1,6]) (kq [0]) 96 (pc o1 (pc (Hz _ _ _ hr) pn)) ?_
 refine du 0 6 h (fun ee h=>?_) (fun ee h=>?_)
 ·refine ag hE 1 [] [] (kp [2]) [] 112 pn ?_
  obtain rfl:=cX h
  exact db hE 0 Tryz.f62 [] (kp [2]) [] 112 pn [] pn
 ·obtain ⟨AO,eX,h⟩:=aQ h
  refine ag hE 2 [(1,oT (aI AO))] [] (kp [2]) [] 144 (pc o1 (pc (Dt _ _ _ eX) pn)) ?_
  obtain rfl:=cX h
  exact db hE 0 Tryz.f62 [] (kp [2]) [] 144 pn [] pn
noncomputable abbrev XS:=cl Tryz.f64
theorem JF (N b r) (h:CS N b=some r):Sd 64 [(.agg (iY.cells b))] [] 0 (aI r) []:=by
 unfold CS at h
 refine im (fu:=Tryz.f64) (c:=XS 1) (nt:=8) (fun hm=>rfl) ?_
 intro E hE
 refine ag hE 1 [] [] (kp [1]) (kq [0]) 32 pn ?_
 obtain ⟨c,h⟩:=af h
 refine ag hE 1 [] [] (kp [2]) [] 128 (pc o1 (pc c pn)) ?_
 obtain rfl:=cX h
 exact db hE 0 Tryz.f64 [] (kp [2]) [] 128 pn [] pn
noncomputable abbrev DS:=cl Tryz.f65
def xJ (N:Nat) (b:iY) (level:Int) (K:Int→Int→Option (Int)):Prop:=∀ (sum:Int) (x:Int) (r:Int),K sum x=some r→∀ E,bk E 0→aG Tryz.prog E 65 45 (bc E [] (aI r)) [.code (DS 116),.inLoop (DS 116),.inBlock 0,.code (DS 15)] ⟨[(1,(aI level)),(2,(.op 0 0 0)),(5,(aI sum)),(10,(aH iA.cells iA.d b.cZ)),(11,(aI ((b.cZ.length:Nat):Int))),(12,(aI x))],[(0,vO 3 (iY.cells b))],1⟩
def EF (N:Nat) (b:iY) (level:Int) (sum:Int) (x:Int) (K:Int→Option (Int)):Prop:=∀ (top:Int) (r:Int),K top=some r→∀ E,bk E 0→aG Tryz.prog E 65 45 (bc E [] (aI r)) [.code (DS 14951),.inBlock 1,.code (DS 935),.inLoop (DS 116),.inBlock 0,.code (DS 15)] ⟨[(1,(aI level)),(2,(.op 0 0 0)),(5,(aI sum)),(7,(.op 1 0 0)),(8,(aI top)),(10,(aH iA.cells iA.d b.cZ)),(11,(aI ((b.cZ.length:Nat):Int))),(12,(aI x))],[(0,vO 3 (iY.cells b)),(1,vO 2 (iA.cells (b.cZ.getD ((x).toNat) iA.d)))],2⟩
theorem wv (N:Nat) (b:iY) (level:Int) (sum:Int) (x:Int) (o5:Int→Int→Option (Int)) (Du:xJ N b level o5):EF N b level sum x (qW N b level sum x o5):=by
 intro top r h E hE
 unfold qW at h
 refine ag hE 0 [] [] (kp [1,2,5,10,11,12]) (kq [0]) 178 (pc o1 (pc o1 pn)) ?_
 refine ag hE 1 [] [] (kp [1,2,5,10,11,12]) (kq [0]) 210 pn ?_
 exact cP hE 1 [] (kp [1,2,5,10,11,12]) (kq [0]) 1 pn (Du _ _ _ h E hE)
theorem Dv (N b level fuel):xJ N b level (m8 N b level fuel):=by
 induction fuel with
 | zero=>intro _ _ r h;rw [m8.eq_1] at h;cases h
 | succ fuel ih =>
  intro sum x r h E hE
  rw [m8.eq_2] at h
  refine ag hE 1 [] [] (kp [1,2,5,10,11,12,13]) (kq [0]) 17 pn ?_
  refine du 1 13 h (fun ee h=>?_) (fun ee h=>?_)
  ·obtain ⟨c,h⟩:=af h
   refine ag hE 4 [] [] (kp [1,2,5,6,7,10,11,12]) (kq [0,65]) 113 (pc c (pc o1 pn)) ?_
   refine ag hE 1 [] [] (kp [1,2,5,6,7,8,10,11,12]) (kq [0,65]) 145 pn ?_
   refine ag hE 2 [] [] (kp [1,2,5,6,7,8,10,11,12,23]) (kq [0,65]) 241 (pc o1 pn) ?_
   refine du 0 23 h (fun jx h=>?_) (fun jx h=>?_)
   ·obtain ⟨c2,h⟩:=af h
    refine ag hE 0 [] [] (kp [1,2,5,7,8,10,11,12]) (kq [0,65]) 401 (pc o1 (pc c2 pn)) ?_
    exact cP hE 0 [] (kp [1,2,5,7,8,10,11,12]) (kq [0] ++ [(1,.ah 65)]) 2 pn (wv N _ _ _ _ _ ih _ _ h E hE)
   ·exact cP hE 1 [] (kp [1,2,5,7,8,10,11,12]) (kq [0] ++ [(1,.ah 65)]) 2 pn (wv N _ _ _ _ _ ih _ _ h E hE)
  ·refine ag hE 2 [] [] (kp [4]) [] 49 pn ?_
   obtain rfl:=cX h
   exact db hE 0 Tryz.f65 [] (kp [4]) [] 49 pn [] pn
theorem HA (N b level r) (h:AP N b level=some r):Sd 65 [(.agg (iY.cells b)),(aI level)] [] 0 (aI r) []:=by
 unfold AP at h
 refine im (fu:=Tryz.f65) (c:=DS 1) (nt:=45) (fun hm=>rfl) ?_
 intro E hE
 refine ag hE 1 [] [] (kp [1,2]) (kq [0]) 32 pn ?_
 refine ag hE 1 [] [] (kp [1,2,5]) (kq [0]) 48 pn ?_
 refine ag hE 2 [] [] (kp [1,2,5,10,11,12]) (kq [0]) 112 (pc o1 pn) ?_
 exact cP hE 2 [] (kp [1,2,5,10,11,12]) (kq [0]) 1 pn (Dv N _ _ N _ _ _ h E hE)
noncomputable abbrev XT:=cl Tryz.f31
theorem HC (N b level r) (h:AQ N b level=some r):Sd 31 [(.agg (iY.cells b)),(aI level)] [] 0 (.tup [(aI r.1),(aI r.2)]) []:=by
 unfold AQ at h
 refine im (fu:=Tryz.f31) (c:=XT 1) (nt:=22) (fun hm=>rfl) ?_
 intro E hE
 refine ag hE 1 [] [] (kp [1,2]) (kq [0]) 48 pn ?_
 obtain ⟨uy,hr,h⟩:=aQ h
 refine ag hE 2 [(1,oT (aI uy))] [] (kp [1,2,6]) (kq [0]) 96 (pc o1 (pc (Ca _ _ _ hr) pn)) ?_
 refine ag hE 1 [] [] (kp [1,2,6,10]) (kq [0]) 128 pn ?_
 refine du 0 10 h (fun ee h=>?_) (fun ee h=>?_)
 ·refine ag hE 1 [] [] (kp [4,5]) [] 176 pn ?_
  obtain rfl:=cX h
  exact db hE 0 Tryz.f31 [] (kp [4,5]) [] 176 pn [] pn
 ·obtain ⟨MD,eX,h⟩:=aQ h
  obtain ⟨QV,kE,h⟩:=aQ h
  refine ag hE 3 [(2,oT (aI MD)),(5,oT (aB QV))] [] (kp [1,2,18]) (kq [0]) 240 (pc o1 (pc (JF _ _ _ eX) (pc o1 (pc (nU _ _ _ _ _ kE) pn)))) ?_
  refine du 0 18 h (fun jx h=>?_) (fun jx h=>?_)
  ·refine ag hE 1 [] [] (kp [4,5]) [] 272 pn ?_
   obtain rfl:=cX h
   exact db hE 0 Tryz.f31 [] (kp [4,5]) [] 272 pn [] pn
  ·obtain ⟨Js,nu,h⟩:=aQ h
   refine ag hE 2 [(2,oT (aI Js))] [] (kp [4,5]) [] 320 (pc o1 (pc (HA _ _ _ _ nu) pn)) ?_
   obtain rfl:=cX h
   exact db hE 0 Tryz.f31 [] (kp [4,5]) [] 320 pn [] pn
noncomputable abbrev XU:=cl Tryz.f16
theorem kM (N r) (h:eH N=some r):Sd 16 [] [] 0 (aB r) []:=by
 unfold eH at h
 refine im (fu:=Tryz.f16) (c:=XU 1) (nt:=16) (fun hm=>rfl) ?_
 intro E hE
 refine ag hE 1 [] [] [] [] 16 pn ?_
 obtain ⟨sU,hr,h⟩:=aQ h
 refine ag hE 1 [(3,oT (.tup [(aI sU.1),(aI sU.2)]))] [] (kp [1,2]) [] 160 (pc (show Sd 31 [(.agg [(aS (⟨#[65]⟩:ByteArray)),(.sl 1 (fun zi=>(fun zi=>([[(aI 0),(aI 100)]]:List (List AV)).getD zi []) (bC 0 zi))),(aI 50)]),(aI 30)] [] 0 (.tup [(aI sU.1),(aI sU.2)]) [] from (Sound.conv (HC _ _ _ _ hr) (.cons (Alike.agg (.cons (Alike.refl _) (.cons (Alike.sl rfl (fun zq eY=>bB iA.cells iA.d ([(⟨0,100⟩:iA)]:List iA) zq eY)) (.cons (Alike.refl _) .nil)))) (.cons (Alike.refl _) .nil)))) (pc (z1 1) pn)) ?_
 refine ag hE 1 [] [] (kp [0]) [] 272 (pc (fun hg:(sU.2 == 0)=true=>(pc hg pn)) (pc (fun hq:(sU.2 == 0)=true=>(pc hq pn)) pn)) ?_
 obtain rfl:=cX h
 exact db hE 0 Tryz.f16 [] (kp [0]) [] 272 pn [] pn
noncomputable abbrev NH:=cl Tryz.f110
def Gw (N:Nat) (K:Int→(List Int)→Option ((List Int))):Prop:=∀ (n2:Int) (out:List Int) (r:(List Int)),K n2 out=some r→∀ E,bk E 0→aG Tryz.prog E 110 15 (bc E [] (eU r)) [.code (NH 56),.inLoop (NH 56),.inBlock 0,.code (NH 15)] ⟨[(0,(Iu n2)),(3,(.os 0 0 out.length))],[(0,aU out)],1⟩
theorem EG (N fuel):Gw N (mv N fuel):=by
 induction fuel with
 | zero=>intro _ _ r h;rw [mv.eq_1] at h;cases h
 | succ fuel ih =>
  intro n2 out r h E hE
  rw [mv.eq_2] at h
  refine ag hE 2 [] [] (kp [0,3,5]) (kq [0]) 33 pn ?_
  refine du 0 5 h (fun ee h=>?_) (fun ee h=>?_)
  ·obtain ⟨c,h⟩:=af h
   refine ag hE 3 [] [] (kp [0] ++ [(3,.jq ((out ++ ([(IntKind.u16.wrap ((vH .u64 n2 65535)))]:List Int)).length))]) [(113,.arr 113 ((out ++ ([(IntKind.u16.wrap ((vH .u64 n2 65535)))]:List Int)).length) (fun zi=>(cU .u16) ((out ++ ([(IntKind.u16.wrap ((vH .u64 n2 65535)))]:List Int)).getD zi 0)))] 145 (pc (Eq.refl out.length) (pc c (pc (z1 1) (pc (show ∀ zi,zi < 1→AV.fJ ((fun zi=>([[(w9 (IntKind.u16.wrap ((vH .u64 n2 65535))))]]:List (List AV)).getD zi []) (bC 0 zi))=true from (mI rfl)) (pc (show (out.length+1)=(out ++ ([(IntKind.u16.wrap ((vH .u64 n2 65535)))]:List Int)).length from (an rfl rfl)) (pc (show out.length+1=(out ++ ([(IntKind.u16.wrap ((vH .u64 n2 65535)))]:List Int)).length from (an rfl rfl)) (pc (show ∀ zi,zi < (out ++ ([(IntKind.u16.wrap ((vH .u64 n2 65535)))]:List Int)).length→(fun zi=>(cU .u16) ((out ++ ([(IntKind.u16.wrap ((vH .u64 n2 65535)))]:List Int)).getD zi 0)) zi=((fun zm=>if zm < out.length then (fun zi=>(cU .u16) (out.getD zi 0)) zm else (fun zi=>([[(w9 (IntKind.u16.wrap ((vH .u64 n2 65535))))]]:List (List AV)).getD zi []) (zm - out.length))) zi from (aX (cU .u16) 0 out ([(IntKind.u16.wrap ((vH .u64 n2 65535)))]:List Int) rfl (fun _ _=>rfl) (fun zq eY=>bB (cU .u16) 0 ([(IntKind.u16.wrap ((vH .u64 n2 65535)))]:List Int) zq eY))) pn))))))) ?_
   refine ag hE 1 [] [] (kp [0,3]) (kq [113]) 193 (pc (show (0:Int)≤16 by decide) pn) ?_
   exact cP hE 1 [] (kp [0,3]) [(0,.ah 113)] 1 pn (ih _ _ _ h E hE)
  ·refine ag hE 2 [] [] (kp [2]) (kq [0]) 65 pn ?_
   obtain rfl:=cX h
   exact db hE 0 Tryz.f110 [0] [(2,.sl (out.length) (fun zi=>(cU .u16) (out.getD zi 0)))] [] 65 (pc (Eq.refl out.length) (pc (z1 out.length) (pc (aZ out.length (fun zi=>(cU .u16) (out.getD zi 0))) pn))) [] pn
theorem Cb (N n r) (h:tj N n=some r):Sd 110 [(Iu n)] [] 0 (eU r) []:=by
 unfold tj at h
 refine im (fu:=Tryz.f110) (c:=NH 1) (nt:=15) (fun hm=>rfl) ?_
 intro E hE
 refine ag hE 1 [] [] (kp [0]) [] 16 pn ?_
 refine ag hE 1 [] [] (kp [0,3]) [] 32 pn ?_
 exact cP hE 3 [] (kp [0] ++ [(3,.lW 0)]) [(0,.nil 1 (fun zi=>(cU .u16) (([]:List Int).getD zi 0)))] 1 pn (EG N N _ _ _ h E hE)
noncomputable abbrev XV:=cl Tryz.f80
theorem KW (N n r) (h:Ir N n=some r):Sd 80 [(aI n)] [] 0 (.agg (lN r)) []:=by
 unfold Ir at h
 refine im (fu:=Tryz.f80) (c:=XV 1) (nt:=16) (fun hm=>rfl) ?_
 intro E hE
 refine ag hE 1 [] [] (kp [0,2]) (kq [0]) 16 pn ?_
 refine ag hE 2 [] [] (kp [0,2,4]) (kq [0]) 48 pn ?_
 refine du 0 4 h (fun ee h=>?_) (fun ee h=>?_)
 ·obtain ⟨ME,hr,h⟩:=aQ h
  refine ag hE 1 [(5,oT (eU ME))] [] (kp [2]) (kq [0]) 176 (pc (Cb _ _ _ hr) (pc o1 pn)) ?_
  obtain rfl:=cX h
  exact db hE 0 Tryz.f80 [] (kp [2]) [(16,.ah 0)] 176 pn [16] (pc o1 pn)
 ·obtain ⟨Jt,eX,h⟩:=aQ h
  refine ag hE 2 [(2,oT (eU Jt))] [] (kp [2]) (kq [0]) 128 (pc (Cb _ _ _ eX) (pc o1 pn)) ?_
  obtain rfl:=cX h
  exact db hE 0 Tryz.f80 [] (kp [2]) [(16,.ah 0)] 128 pn [16] (pc o1 pn)
noncomputable abbrev XW:=cl Tryz.f38
theorem tV (N n r) (h:Am N n=some r):Sd 38 [(aI n)] [] 0 (.agg (aj r)) []:=by
 unfold Am at h
 refine im (fu:=Tryz.f38) (c:=XW 1) (nt:=7) (fun hm=>rfl) ?_
 intro E hE
 refine ag hE 1 [] [] (kp [0,2]) (kq [0]) 16 pn ?_
 obtain ⟨rZ,hr,h⟩:=aQ h
 obtain ⟨rZ2,eX,h⟩:=aQ h
 refine ag hE 1 [(1,oT (.agg (lN rZ))),(2,oT (.agg (lN rZ2)))] [] (kp [2]) (kq [0]) 96 (pc (KW _ _ _ hr) (pc (KW _ _ _ eX) (pc o1 pn))) ?_
 obtain rfl:=cX h
 exact db hE 0 Tryz.f38 [] (kp [2]) [(16,.ah 0)] 96 pn [16] (pc o1 pn)
noncomputable abbrev fy:=cl Tryz.f18
def sb (N:Nat) (l:List ae) (rW:aa) (nQ:aa) (qX:aa) (K:(List aa)→(List aa)→Int→Option ((List ab))):Prop:=∀ (a:List aa) (b:List aa) (i:Int) (r:(List ab)),K a b i=some r→∀ E,bk E 0→aG Tryz.prog E 18 95 (bc E [] (aH om ab.d r)) [.code (fy 62612),.inLoop (fy 62612),.inBlock 2,.code (fy 7827),.inBlock 1,.code (fy 979),.inLoop (fy 244),.inBlock 0,.code (fy 31)] ⟨[(0,(aH ae.cells ae.d l)),(5,.nil),(6,(.op 0 0 0)),(7,(aI 0)),(8,(.os 1 0 a.length)),(9,(.os 2 0 b.length)),(10,(aI i))],[(0,vO 12 [(aB rW.fN.fG),(eU rW.fN.fL),(aB rW.fD.fG),(eU rW.fD.fL),(aB nQ.fN.fG),(eU nQ.fN.fL),(aB nQ.fD.fG),(eU nQ.fD.fL),(aB qX.fN.fG),(eU qX.fN.fL),(aB qX.fD.fG),(eU qX.fD.fL)]),(1,aO 4 aj aa.d a),(2,aO 4 aj aa.d b)],3⟩
def sd (N:Nat) (l:List ae) (rW:aa) (nQ:aa) (qX:aa) (a:List aa) (b:List aa) (aP:aa) (K:(List aa)→(List aa)→Int→Option ((List ab))):Prop:=∀ (a2:List aa) (b2:List aa) (i2:Int) (r:(List ab)),K a2 b2 i2=some r→∀ E,bk E 0→aG Tryz.prog E 18 95 (bc E [] (aH om ab.d r)) [.code (fy 62612),.inLoop (fy 62612),.inBlock 2,.code (fy 7827),.inBlock 1,.code (fy 979),.inLoop (fy 244),.inBlock 0,.code (fy 31)] ⟨[(0,(aH ae.cells ae.d l)),(5,(.os 0 0 (([(⟨a,aP⟩:ab),(⟨b,rW⟩:ab)]:List ab).length))),(6,(.op 1 0 0)),(7,(aI 1)),(8,(.os 2 0 a2.length)),(9,(.os 3 0 b2.length)),(10,(aI i2))],[(0,aO 5 om ab.d ([(⟨a,aP⟩:ab),(⟨b,rW⟩:ab)]:List ab)),(1,vO 12 [(aB rW.fN.fG),(eU rW.fN.fL),(aB rW.fD.fG),(eU rW.fD.fL),(aB nQ.fN.fG),(eU nQ.fN.fL),(aB nQ.fD.fG),(eU nQ.fD.fL),(aB qX.fN.fG),(eU qX.fN.fL),(aB qX.fD.fG),(eU qX.fD.fL)]),(2,aO 4 aj aa.d a2),(3,aO 4 aj aa.d b2)],4⟩
def se (N:Nat) (l:List ae) (rW:aa) (nQ:aa) (qX:aa) (a:List aa) (b:List aa) (aP:aa) (a2:List aa) (b2:List aa) (bM:aa) (K:(List aa)→(List aa)→Int→Option ((List ab))):Prop:=∀ (a3:List aa) (b3:List aa) (i3:Int) (r:(List ab)),K a3 b3 i3=some r→∀ E,bk E 0→aG Tryz.prog E 18 95 (bc E [] (aH om ab.d r)) [.code (fy 62612),.inLoop (fy 62612),.inBlock 2,.code (fy 7827),.inBlock 1,.code (fy 979),.inLoop (fy 244),.inBlock 0,.code (fy 31)] ⟨[(0,(aH ae.cells ae.d l)),(5,(.os 0 0 ((([(⟨a,aP⟩:ab),(⟨b,rW⟩:ab)]:List ab) ++ ([(⟨a2,bM⟩:ab),(⟨b2,nQ⟩:ab)]:List ab)).length))),(6,(.op 1 0 0)),(7,(aI 2)),(8,(.os 2 0 a3.length)),(9,(.os 3 0 b3.length)),(10,(aI i3))],[(0,aO 5 om ab.d (([(⟨a,aP⟩:ab),(⟨b,rW⟩:ab)]:List ab) ++ ([(⟨a2,bM⟩:ab),(⟨b2,nQ⟩:ab)]:List ab))),(1,vO 12 [(aB rW.fN.fG),(eU rW.fN.fL),(aB rW.fD.fG),(eU rW.fD.fL),(aB nQ.fN.fG),(eU nQ.fN.fL),(aB nQ.fD.fG),(eU nQ.fD.fL),(aB qX.fN.fG),(eU qX.fN.fL),(aB qX.fD.fG),(eU qX.fD.fL)]),(2,aO 4 aj aa.d a3),(3,aO 4 aj aa.d b3)],4⟩
def sf (N:Nat) (l:List ae) (K:(List ab)→Int→Option ((List ab))):Prop:=∀ (out:List ab) (i4:Int) (r:(List ab)),K out i4=some r→∀ E,bk E 0→aG Tryz.prog E 18 95 (bc E [] (aH om ab.d r)) [.code (fy 500),.inLoop (fy 500),.inBlock 4,.code (fy 63)] ⟨[(0,(aH ae.cells ae.d l)),(5,(.os 0 0 out.length)),(12,(aI i4))],[(0,aO 5 om ab.d out)],1⟩
theorem rD (N l fuel):sf N l (cH N l fuel):=by
 induction fuel with
 | zero=>intro _ _ r h;rw [cH.eq_1] at h;cases h
 | succ fuel ih =>
  intro out i4 r h E hE
  rw [cH.eq_2] at h
  refine ag hE 2 [] [] (kp [0,5,12,68]) (kq [0]) 65 pn ?_
  refine du 0 68 h (fun BS h=>?_) (fun BS h=>?_)
  ·obtain ⟨Iw,h⟩:=af h
   refine ag hE 4 [] [] (kp [0,5,12] ++ [(13,.jq ((List.replicate l.length aa.d:List aa).length)),(14,.jq ((List.replicate l.length aa.d:List aa).length))]) (kq [0] ++ [(97,.OQ 97 ((List.replicate l.length aa.d:List aa).length) (fun zi=>aj ((List.replicate l.length aa.d:List aa).getD zi aa.d))),(145,.OQ 145 ((List.replicate l.length aa.d:List aa).length) (fun zi=>aj ((List.replicate l.length aa.d:List aa).getD zi aa.d)))]) 193 (pc (show 0≤((l.length:Nat):Int) from Iw.1) (pc (show ((l.length:Nat):Int)≤((l.length:Nat):Int) from (Int.le_refl _)) (pc (show (64:Int) * ((l.length:Nat):Int)≤281474976710656 from Iw.2.1) (pc (show ((l.length:Nat):Int)≤9223372036854775807 from Iw.2.2) (pc (show 0≤((l.length:Nat):Int) from Iw.1) (pc (show ((l.length:Nat):Int)≤((l.length:Nat):Int) from (Int.le_refl _)) (pc (show (64:Int) * ((l.length:Nat):Int)≤281474976710656 from Iw.2.1) (pc (show ((l.length:Nat):Int)≤9223372036854775807 from Iw.2.2) (pc (show l.length=(List.replicate l.length aa.d:List aa).length from (cN).symm) (pc (show l.length=(List.replicate l.length aa.d:List aa).length from (cN).symm) (pc (show (List.replicate l.length aa.d:List aa).length≤l.length from (Nat.le_of_eq (Eq.symm ((cN).symm)))) (pc (show ∀ zi,zi < (List.replicate l.length aa.d:List aa).length→Ij ((fun _=>[(aB false),.nil,(aB false),.nil]) zi) ((fun zi=>aj ((List.replicate l.length aa.d:List aa).getD zi aa.d)) zi) from (fun zq eY=>mc aj aa.d aa.d l.length zq ⟨.inl rfl,.inr ⟨rfl,_,rfl⟩,.inl rfl,.inr ⟨rfl,_,rfl⟩,trivial⟩ eY)) (pc (show (List.replicate l.length aa.d:List aa).length≤l.length from (Nat.le_of_eq (Eq.symm ((cN).symm)))) (pc (show ∀ zi,zi < (List.replicate l.length aa.d:List aa).length→Ij ((fun _=>[(aB false),.nil,(aB false),.nil]) zi) ((fun zi=>aj ((List.replicate l.length aa.d:List aa).getD zi aa.d)) zi) from (fun zq eY=>mc aj aa.d aa.d l.length zq ⟨.inl rfl,.inr ⟨rfl,_,rfl⟩,.inl rfl,.inr ⟨rfl,_,rfl⟩,trivial⟩ eY)) pn)))))))))))))) ?_
   obtain ⟨CT,Dc,h⟩:=aQ h
   obtain ⟨CU,Jz,h⟩:=aQ h
   obtain ⟨Hd,h⟩:=af h
   refine ag hE 1 [(4,oT (.agg (aj CT))),(5,oT (.agg (aj CU)))] [] (kp [0,5,12] ++ [(13,.jq (((List.replicate l.length aa.d:List aa).set ((i4).toNat) CT).length)),(14,.jq (((List.replicate l.length aa.d:List aa).set ((i4).toNat) CU).length))]) (kq [0] ++ [(97,.arr 97 (((List.replicate l.length aa.d:List aa).set ((i4).toNat) CT).length) (fun zi=>aj (((List.replicate l.length aa.d:List aa).set ((i4).toNat) CT).getD zi aa.d))),(145,.arr 145 (((List.replicate l.length aa.d:List aa).set ((i4).toNat) CU).length) (fun zi=>aj (((List.replicate l.length aa.d:List aa).set ((i4).toNat) CU).getD zi aa.d)))]) 353 (pc (tV _ _ _ Dc) (pc (tV _ _ _ Jz) (pc Hd (pc (dP Hd) (pc Hd (pc (dP Hd) (pc (ay (List.replicate l.length aa.d:List aa) ((i4).toNat) CT) (pc (ay (List.replicate l.length aa.d:List aa) ((i4).toNat) CU) (pc (ay (List.replicate l.length aa.d:List aa) ((i4).toNat) CT) (pc (cA aj aa.d (List.replicate l.length aa.d:List aa) ((i4).toNat) CT) (pc (ay (List.replicate l.length aa.d:List aa) ((i4).toNat) CU) (pc (cA aj aa.d (List.replicate l.length aa.d:List aa) ((i4).toNat) CU) pn)))))))))))) ?_
   obtain ⟨Is,Q2,h⟩:=aQ h
   obtain ⟨It,Q3,h⟩:=aQ h
   obtain ⟨LX,h⟩:=af h
   refine ag hE 0 [(2,oT (.agg (aj Is))),(5,oT (.agg (aj It))),(7,⟨[],true,.mH,[(97,aO 4 aj aa.d ((List.replicate l.length aa.d:List aa).set ((i4).toNat) CT)),(145,aO 4 aj aa.d ((List.replicate l.length aa.d:List aa).set ((i4).toNat) CU))],0,true,none⟩)] [] (kp [0] ++ [(5,.jq ((out ++ ([(⟨((List.replicate l.length aa.d:List aa).set ((i4).toNat) CT),Is⟩:ab),(⟨((List.replicate l.length aa.d:List aa).set ((i4).toNat) CU),It⟩:ab)]:List ab)).length))] ++ kp [12]) [(481,.arr 481 ((out ++ ([(⟨((List.replicate l.length aa.d:List aa).set ((i4).toNat) CT),Is⟩:ab),(⟨((List.replicate l.length aa.d:List aa).set ((i4).toNat) CU),It⟩:ab)]:List ab)).length) (fun zi=>om ((out ++ ([(⟨((List.replicate l.length aa.d:List aa).set ((i4).toNat) CT),Is⟩:ab),(⟨((List.replicate l.length aa.d:List aa).set ((i4).toNat) CU),It⟩:ab)]:List ab)).getD zi ab.d)))] 513 (pc (tV _ _ _ Q2) (pc (tV _ _ _ Q3) (pc (show ((List.replicate l.length aa.d:List aa).set ((i4).toNat) CT).length≤((List.replicate l.length aa.d:List aa).set ((i4).toNat) CT).length from (az _)) (pc (show ∀ zi,zi < ((List.replicate l.length aa.d:List aa).set ((i4).toNat) CT).length→(fun zi=>aj (((List.replicate l.length aa.d:List aa).set ((i4).toNat) CT).getD zi aa.d)) zi=(fun zi=>aj (((List.replicate l.length aa.d:List aa).set ((i4).toNat) CT).getD zi aa.d)) zi from (fun _ _=>rfl)) (pc (show ((List.replicate l.length aa.d:List aa).set ((i4).toNat) CU).length≤((List.replicate l.length aa.d:List aa).set ((i4).toNat) CU).length from (az _)) (pc (show ∀ zi,zi < ((List.replicate l.length aa.d:List aa).set ((i4).toNat) CU).length→(fun zi=>aj (((List.replicate l.length aa.d:List aa).set ((i4).toNat) CU).getD zi aa.d)) zi=(fun zi=>aj (((List.replicate l.length aa.d:List aa).set ((i4).toNat) CU).getD zi aa.d)) zi from (fun _ _=>rfl)) (pc (Eq.refl (((List.replicate l.length aa.d:List aa).set ((i4).toNat) CT).length)) (pc (Eq.refl (((List.replicate l.length aa.d:List aa).set ((i4).toNat) CU).length)) (pc (Eq.refl out.length) (pc LX (pc (z1 2) (pc (show ∀ zi,zi < 2→AV.fJ ((fun zi=>([[(aH aj aa.d ((List.replicate l.length aa.d:List aa).set ((i4).toNat) CT)),(aB Is.fN.fG),(eU Is.fN.fL),(aB Is.fD.fG),(eU Is.fD.fL)],[(aH aj aa.d ((List.replicate l.length aa.d:List aa).set ((i4).toNat) CU)),(aB It.fN.fG),(eU It.fN.fL),(aB It.fD.fG),(eU It.fD.fL)]]:List (List AV)).getD zi []) (bC 0 zi))=true from (mI rfl)) (pc (show (out.length+2)=(out ++ ([(⟨((List.replicate l.length aa.d:List aa).set ((i4).toNat) CT),Is⟩:ab),(⟨((List.replicate l.length aa.d:List aa).set ((i4).toNat) CU),It⟩:ab)]:List ab)).length from (an rfl rfl)) (pc (show out.length+2=(out ++ ([(⟨((List.replicate l.length aa.d:List aa).set ((i4).toNat) CT),Is⟩:ab),(⟨((List.replicate l.length aa.d:List aa).set ((i4).toNat) CU),It⟩:ab)]:List ab)).length from (an rfl rfl)) (pc (show ∀ zi,zi < (out ++ ([(⟨((List.replicate l.length aa.d:List aa).set ((i4).toNat) CT),Is⟩:ab),(⟨((List.replicate l.length aa.d:List aa).set ((i4).toNat) CU),It⟩:ab)]:List ab)).length→(fun zi=>om ((out ++ ([(⟨((List.replicate l.length aa.d:List aa).set ((i4).toNat) CT),Is⟩:ab),(⟨((List.replicate l.length aa.d:List aa).set ((i4).toNat) CU),It⟩:ab)]:List ab)).getD zi ab.d)) zi=((fun zm=>if zm < out.length then (fun zi=>om (out.getD zi ab.d)) zm else (fun zi=>([[(aH aj aa.d ((List.replicate l.length aa.d:List aa).set ((i4).toNat) CT)),(aB Is.fN.fG),(eU Is.fN.fL),(aB Is.fD.fG),(eU Is.fD.fL)],[(aH aj aa.d ((List.replicate l.length aa.d:List aa).set ((i4).toNat) CU)),(aB It.fN.fG),(eU It.fN.fL),(aB It.fD.fG),(eU It.fD.fL)]]:List (List AV)).getD zi []) (zm - out.length))) zi from (aX om ab.d out ([(⟨((List.replicate l.length aa.d:List aa).set ((i4).toNat) CT),Is⟩:ab),(⟨((List.replicate l.length aa.d:List aa).set ((i4).toNat) CU),It⟩:ab)]:List ab) rfl (fun _ _=>rfl) (fun zq eY=>bB om ab.d ([(⟨((List.replicate l.length aa.d:List aa).set ((i4).toNat) CT),Is⟩:ab),(⟨((List.replicate l.length aa.d:List aa).set ((i4).toNat) CU),It⟩:ab)]:List ab) zq eY))) pn))))))))))))))) ?_
   refine ag hE 1 [] [] (kp [0,5,12]) (kq [481]) 561 pn ?_
   exact cP hE 1 [] (kp [0,5,12]) [(0,.ah 481)] 1 pn (ih _ _ _ h E hE)
  ·refine ag hE 2 [] [] (kp [4]) (kq [0]) 97 pn ?_
   obtain rfl:=cX h
   exact db hE 0 Tryz.f18 [0] [(4,.sl (out.length) (fun zi=>om (out.getD zi ab.d)))] [] 97 (pc (Eq.refl out.length) (pc (z1 out.length) (pc (aZ out.length (fun zi=>om (out.getD zi ab.d))) pn))) [] pn
theorem rE (N l rW nQ qX a b aP a2 b2 bM fuel):se N l rW nQ qX a b aP a2 b2 bM (cd N l rW nQ qX a b aP a2 b2 bM fuel):=by
 induction fuel with
 | zero=>intro _ _ _ r h;rw [cd.eq_1] at h;cases h
 | succ fuel ih =>
  intro a3 b3 i3 r h E hE
  rw [cd.eq_2] at h
  refine ag hE 2 [] [] (kp [0,5,6,7,8,9,10,32]) (kq [0,1,2,3]) 68 pn ?_
  refine du 0 32 h (fun rV h=>?_) (fun rV h=>?_)
  ·obtain ⟨c8,h⟩:=af h
   obtain ⟨lF,xc,h⟩:=aQ h
   refine ag hE 4 [(4,oT (.agg (aw.cells lF)))] [] (kp [0,5,6,7,8,9,10,11]) (kq [0,1,2,3,180]) 212 (pc c8 (pc (vn _ _ _ xc) (pc (show 0≤(2:Int)∧(2:Int) < ((3:Nat):Int) by decide) (pc o1 pn)))) ?_
   obtain ⟨c9,h⟩:=af h
   refine ag hE 1 [] [] (kp [0,5,6,7] ++ [(8,.jq ((a3 ++ ([lF.e2]:List aa)).length))] ++ kp [9,10,11]) (kq [0,1,3,180] ++ [(260,.arr 260 ((a3 ++ ([lF.e2]:List aa)).length) (fun zi=>aj ((a3 ++ ([lF.e2]:List aa)).getD zi aa.d)))]) 292 (pc o1 (pc (Eq.refl a3.length) (pc c9 (pc (z1 1) (pc (show ∀ zi,zi < 1→AV.fJ ((fun zi=>([[(aB lF.e2.fN.fG),(eU lF.e2.fN.fL),(aB lF.e2.fD.fG),(eU lF.e2.fD.fL)]]:List (List AV)).getD zi []) (bC 0 zi))=true from (mI rfl)) (pc (show (a3.length+1)=(a3 ++ ([lF.e2]:List aa)).length from (an rfl rfl)) (pc (show a3.length+1=(a3 ++ ([lF.e2]:List aa)).length from (an rfl rfl)) (pc (show ∀ zi,zi < (a3 ++ ([lF.e2]:List aa)).length→(fun zi=>aj ((a3 ++ ([lF.e2]:List aa)).getD zi aa.d)) zi=((fun zm=>if zm < a3.length then (fun zi=>aj (a3.getD zi aa.d)) zm else (fun zi=>([[(aB lF.e2.fN.fG),(eU lF.e2.fN.fL),(aB lF.e2.fD.fG),(eU lF.e2.fD.fL)]]:List (List AV)).getD zi []) (zm - a3.length))) zi from (aX aj aa.d a3 ([lF.e2]:List aa) rfl (fun _ _=>rfl) (fun zq eY=>bB aj aa.d ([lF.e2]:List aa) zq eY))) pn)))))))) ?_
   obtain ⟨gN,yQ,h⟩:=aQ h
   obtain ⟨MF,h⟩:=af h
   refine ag hE 0 [(2,oT (.agg (aj gN)))] [] (kp [0,5,6,7,8] ++ [(9,.jq ((b3 ++ ([gN]:List aa)).length))] ++ kp [10]) (kq [0,1,260] ++ [(356,.arr 356 ((b3 ++ ([gN]:List aa)).length) (fun zi=>aj ((b3 ++ ([gN]:List aa)).getD zi aa.d)))]) 388 (pc o1 (pc (jN _ _ _ yQ) (pc (Eq.refl b3.length) (pc MF (pc (z1 1) (pc (show ∀ zi,zi < 1→AV.fJ ((fun zi=>([[(aB gN.fN.fG),(eU gN.fN.fL),(aB gN.fD.fG),(eU gN.fD.fL)]]:List (List AV)).getD zi []) (bC 0 zi))=true from (mI rfl)) (pc (show (b3.length+1)=(b3 ++ ([gN]:List aa)).length from (an rfl rfl)) (pc (show b3.length+1=(b3 ++ ([gN]:List aa)).length from (an rfl rfl)) (pc (show ∀ zi,zi < (b3 ++ ([gN]:List aa)).length→(fun zi=>aj ((b3 ++ ([gN]:List aa)).getD zi aa.d)) zi=((fun zm=>if zm < b3.length then (fun zi=>aj (b3.getD zi aa.d)) zm else (fun zi=>([[(aB gN.fN.fG),(eU gN.fN.fL),(aB gN.fD.fG),(eU gN.fD.fL)]]:List (List AV)).getD zi []) (zm - b3.length))) zi from (aX aj aa.d b3 ([gN]:List aa) rfl (fun _ _=>rfl) (fun zq eY=>bB aj aa.d ([gN]:List aa) zq eY))) pn))))))))) ?_
   refine ag hE 1 [] [] (kp [0,5,6,7,8,9,10]) (kq [0,1,260,356]) 436 pn ?_
   exact cP hE 1 [] (kp [0,5,6,7,8,9,10]) (kq [0,1] ++ [(2,.ah 260),(3,.ah 356)]) 4 pn (ih _ _ _ _ h E hE)
  ·obtain ⟨gP,Db,h⟩:=aQ h
   obtain ⟨Iv,h⟩:=af h
   refine ag hE 1 [(5,oT (.agg (aj gP))),(12,⟨[],true,.mH,[(2,aO 4 aj aa.d a3),(3,aO 4 aj aa.d b3)],0,true,none⟩)] [] (kp [0] ++ [(5,.jq (((([(⟨a,aP⟩:ab),(⟨b,rW⟩:ab)]:List ab) ++ ([(⟨a2,bM⟩:ab),(⟨b2,nQ⟩:ab)]:List ab)) ++ ([(⟨a3,gP⟩:ab),(⟨b3,qX⟩:ab)]:List ab)).length))] ++ kp [6,7]) (kq [1] ++ [(276,.arr 276 (((([(⟨a,aP⟩:ab),(⟨b,rW⟩:ab)]:List ab) ++ ([(⟨a2,bM⟩:ab),(⟨b2,nQ⟩:ab)]:List ab)) ++ ([(⟨a3,gP⟩:ab),(⟨b3,qX⟩:ab)]:List ab)).length) (fun zi=>om (((([(⟨a,aP⟩:ab),(⟨b,rW⟩:ab)]:List ab) ++ ([(⟨a2,bM⟩:ab),(⟨b2,nQ⟩:ab)]:List ab)) ++ ([(⟨a3,gP⟩:ab),(⟨b3,qX⟩:ab)]:List ab)).getD zi ab.d)))]) 308 (pc (show 0≤(2:Int)∧(2:Int) < 3 by decide) (pc o1 (pc (jN _ _ _ Db) (pc (show 0≤(2:Int)∧(2:Int) < 3 by decide) (pc o1 (pc (show a3.length≤a3.length from (az _)) (pc (show ∀ zi,zi < a3.length→(fun zi=>aj (a3.getD zi aa.d)) zi=(fun zi=>aj (a3.getD zi aa.d)) zi from (fun _ _=>rfl)) (pc (show b3.length≤b3.length from (az _)) (pc (show ∀ zi,zi < b3.length→(fun zi=>aj (b3.getD zi aa.d)) zi=(fun zi=>aj (b3.getD zi aa.d)) zi from (fun _ _=>rfl)) (pc (Eq.refl a3.length) (pc (Eq.refl b3.length) (pc (Eq.refl ((([(⟨a,aP⟩:ab),(⟨b,rW⟩:ab)]:List ab) ++ ([(⟨a2,bM⟩:ab),(⟨b2,nQ⟩:ab)]:List ab)).length)) (pc Iv (pc (z1 2) (pc (show ∀ zi,zi < 2→AV.fJ ((fun zi=>([[(aH aj aa.d a3),(aB gP.fN.fG),(eU gP.fN.fL),(aB gP.fD.fG),(eU gP.fD.fL)],[(aH aj aa.d b3),(aB qX.fN.fG),(eU qX.fN.fL),(aB qX.fD.fG),(eU qX.fD.fL)]]:List (List AV)).getD zi []) (bC 0 zi))=true from (mI rfl)) (pc (show ((([(⟨a,aP⟩:ab),(⟨b,rW⟩:ab)]:List ab) ++ ([(⟨a2,bM⟩:ab),(⟨b2,nQ⟩:ab)]:List ab)).length+2)=((([(⟨a,aP⟩:ab),(⟨b,rW⟩:ab)]:List ab) ++ ([(⟨a2,bM⟩:ab),(⟨b2,nQ⟩:ab)]:List ab)) ++ ([(⟨a3,gP⟩:ab),(⟨b3,qX⟩:ab)]:List ab)).length from (an rfl rfl)) (pc (show (([(⟨a,aP⟩:ab),(⟨b,rW⟩:ab)]:List ab) ++ ([(⟨a2,bM⟩:ab),(⟨b2,nQ⟩:ab)]:List ab)).length+2=((([(⟨a,aP⟩:ab),(⟨b,rW⟩:ab)]:List ab) ++ ([(⟨a2,bM⟩:ab),(⟨b2,nQ⟩:ab)]:List ab)) ++ ([(⟨a3,gP⟩:ab),(⟨b3,qX⟩:ab)]:List ab)).length from (an rfl rfl)) (pc (show ∀ zi,zi < ((([(⟨a,aP⟩:ab),(⟨b,rW⟩:ab)]:List ab) ++ ([(⟨a2,bM⟩:ab),(⟨b2,nQ⟩:ab)]:List ab)) ++ ([(⟨a3,gP⟩:ab),(⟨b3,qX⟩:ab)]:List ab)).length→(fun zi=>om (((([(⟨a,aP⟩:ab),(⟨b,rW⟩:ab)]:List ab) ++ ([(⟨a2,bM⟩:ab),(⟨b2,nQ⟩:ab)]:List ab)) ++ ([(⟨a3,gP⟩:ab),(⟨b3,qX⟩:ab)]:List ab)).getD zi ab.d)) zi=((fun zm=>if zm < (([(⟨a,aP⟩:ab),(⟨b,rW⟩:ab)]:List ab) ++ ([(⟨a2,bM⟩:ab),(⟨b2,nQ⟩:ab)]:List ab)).length then (fun zi=>om ((([(⟨a,aP⟩:ab),(⟨b,rW⟩:ab)]:List ab) ++ ([(⟨a2,bM⟩:ab),(⟨b2,nQ⟩:ab)]:List ab)).getD zi ab.d)) zm else (fun zi=>([[(aH aj aa.d a3),(aB gP.fN.fG),(eU gP.fN.fL),(aB gP.fD.fG),(eU gP.fD.fL)],[(aH aj aa.d b3),(aB qX.fN.fG),(eU qX.fN.fL),(aB qX.fD.fG),(eU qX.fD.fL)]]:List (List AV)).getD zi []) (zm - (([(⟨a,aP⟩:ab),(⟨b,rW⟩:ab)]:List ab) ++ ([(⟨a2,bM⟩:ab),(⟨b2,nQ⟩:ab)]:List ab)).length))) zi from (aX om ab.d (([(⟨a,aP⟩:ab),(⟨b,rW⟩:ab)]:List ab) ++ ([(⟨a2,bM⟩:ab),(⟨b2,nQ⟩:ab)]:List ab)) ([(⟨a3,gP⟩:ab),(⟨b3,qX⟩:ab)]:List ab) rfl (fun _ _=>rfl) (fun zq eY=>bB om ab.d ([(⟨a3,gP⟩:ab),(⟨b3,qX⟩:ab)]:List ab) zq eY))) pn)))))))))))))))))) ?_
   refine ag hE 1 [] [] (kp [0,5,6,7]) (kq [1,276]) 356 pn ?_
   refine ag hE 3 [] [] (kp [0,5,6,7,26]) (kq [1,276]) 388 pn ?_
   refine sA 0 [.code (fy 977),.code (fy 489),.inLoop (fy 244),.inBlock 0,.code (fy 31)] ?_
   refine sC 26 (fy 1954) (fy 1955) false (fun hq=>absurd hq (by decide)) (fun _=>?_) 
   refine ag hE 3 [] [] (kp [0,5,12]) (kq [276]) 404 pn ?_
   exact cP hE 2 [] (kp [0,5,12]) [(0,.ah 276)] 1 pn (rD N _ N _ _ _ h E hE)
theorem rF (N l rW nQ qX a b aP fuel):sd N l rW nQ qX a b aP (cg N l rW nQ qX a b aP fuel):=by
 induction fuel with
 | zero=>intro _ _ _ r h;rw [cg.eq_1] at h;cases h
 | succ fuel ih =>
  intro a2 b2 i2 r h E hE
  rw [cg.eq_2] at h
  refine ag hE 2 [] [] (kp [0,5,6,7,8,9,10,32]) (kq [0,1,2,3]) 68 pn ?_
  refine du 0 32 h (fun jx h=>?_) (fun jx h=>?_)
  ·obtain ⟨c4,h⟩:=af h
   obtain ⟨lG,yL,h⟩:=aQ h
   refine ag hE 4 [(4,oT (.agg (aw.cells lG)))] [] (kp [0,5,6,7,8,9,10,11]) (kq [0,1,2,3,180]) 212 (pc c4 (pc (vn _ _ _ yL) (pc (show 0≤(1:Int)∧(1:Int) < ((3:Nat):Int) by decide) (pc o1 pn)))) ?_
   obtain ⟨c5,h⟩:=af h
   refine ag hE 1 [] [] (kp [0,5,6,7] ++ [(8,.jq ((a2 ++ ([lG.e1]:List aa)).length))] ++ kp [9,10,11]) (kq [0,1,3,180] ++ [(260,.arr 260 ((a2 ++ ([lG.e1]:List aa)).length) (fun zi=>aj ((a2 ++ ([lG.e1]:List aa)).getD zi aa.d)))]) 292 (pc o1 (pc (Eq.refl a2.length) (pc c5 (pc (z1 1) (pc (show ∀ zi,zi < 1→AV.fJ ((fun zi=>([[(aB lG.e1.fN.fG),(eU lG.e1.fN.fL),(aB lG.e1.fD.fG),(eU lG.e1.fD.fL)]]:List (List AV)).getD zi []) (bC 0 zi))=true from (mI rfl)) (pc (show (a2.length+1)=(a2 ++ ([lG.e1]:List aa)).length from (an rfl rfl)) (pc (show a2.length+1=(a2 ++ ([lG.e1]:List aa)).length from (an rfl rfl)) (pc (show ∀ zi,zi < (a2 ++ ([lG.e1]:List aa)).length→(fun zi=>aj ((a2 ++ ([lG.e1]:List aa)).getD zi aa.d)) zi=((fun zm=>if zm < a2.length then (fun zi=>aj (a2.getD zi aa.d)) zm else (fun zi=>([[(aB lG.e1.fN.fG),(eU lG.e1.fN.fL),(aB lG.e1.fD.fG),(eU lG.e1.fD.fL)]]:List (List AV)).getD zi []) (zm - a2.length))) zi from (aX aj aa.d a2 ([lG.e1]:List aa) rfl (fun _ _=>rfl) (fun zq eY=>bB aj aa.d ([lG.e1]:List aa) zq eY))) pn)))))))) ?_
   obtain ⟨gQ,Eb,h⟩:=aQ h
   obtain ⟨c6,h⟩:=af h
   refine ag hE 0 [(2,oT (.agg (aj gQ)))] [] (kp [0,5,6,7,8] ++ [(9,.jq ((b2 ++ ([gQ]:List aa)).length))] ++ kp [10]) (kq [0,1,260] ++ [(356,.arr 356 ((b2 ++ ([gQ]:List aa)).length) (fun zi=>aj ((b2 ++ ([gQ]:List aa)).getD zi aa.d)))]) 388 (pc o1 (pc (jN _ _ _ Eb) (pc (Eq.refl b2.length) (pc c6 (pc (z1 1) (pc (show ∀ zi,zi < 1→AV.fJ ((fun zi=>([[(aB gQ.fN.fG),(eU gQ.fN.fL),(aB gQ.fD.fG),(eU gQ.fD.fL)]]:List (List AV)).getD zi []) (bC 0 zi))=true from (mI rfl)) (pc (show (b2.length+1)=(b2 ++ ([gQ]:List aa)).length from (an rfl rfl)) (pc (show b2.length+1=(b2 ++ ([gQ]:List aa)).length from (an rfl rfl)) (pc (show ∀ zi,zi < (b2 ++ ([gQ]:List aa)).length→(fun zi=>aj ((b2 ++ ([gQ]:List aa)).getD zi aa.d)) zi=((fun zm=>if zm < b2.length then (fun zi=>aj (b2.getD zi aa.d)) zm else (fun zi=>([[(aB gQ.fN.fG),(eU gQ.fN.fL),(aB gQ.fD.fG),(eU gQ.fD.fL)]]:List (List AV)).getD zi []) (zm - b2.length))) zi from (aX aj aa.d b2 ([gQ]:List aa) rfl (fun _ _=>rfl) (fun zq eY=>bB aj aa.d ([gQ]:List aa) zq eY))) pn))))))))) ?_
   refine ag hE 1 [] [] (kp [0,5,6,7,8,9,10]) (kq [0,1,260,356]) 436 pn ?_
   exact cP hE 1 [] (kp [0,5,6,7,8,9,10]) (kq [0,1] ++ [(2,.ah 260),(3,.ah 356)]) 4 pn (ih _ _ _ _ h E hE)
  ·obtain ⟨bM,Ea,h⟩:=aQ h
   obtain ⟨c7,h⟩:=af h
   refine ag hE 1 [(5,oT (.agg (aj bM))),(12,⟨[],true,.mH,[(2,aO 4 aj aa.d a2),(3,aO 4 aj aa.d b2)],0,true,none⟩)] [] (kp [0] ++ [(5,.jq ((([(⟨a,aP⟩:ab),(⟨b,rW⟩:ab)]:List ab) ++ ([(⟨a2,bM⟩:ab),(⟨b2,nQ⟩:ab)]:List ab)).length))] ++ kp [6,7]) (kq [1] ++ [(276,.arr 276 ((([(⟨a,aP⟩:ab),(⟨b,rW⟩:ab)]:List ab) ++ ([(⟨a2,bM⟩:ab),(⟨b2,nQ⟩:ab)]:List ab)).length) (fun zi=>om ((([(⟨a,aP⟩:ab),(⟨b,rW⟩:ab)]:List ab) ++ ([(⟨a2,bM⟩:ab),(⟨b2,nQ⟩:ab)]:List ab)).getD zi ab.d)))]) 308 (pc (show 0≤(1:Int)∧(1:Int) < 3 by decide) (pc o1 (pc (jN _ _ _ Ea) (pc (show 0≤(1:Int)∧(1:Int) < 3 by decide) (pc o1 (pc (show a2.length≤a2.length from (az _)) (pc (show ∀ zi,zi < a2.length→(fun zi=>aj (a2.getD zi aa.d)) zi=(fun zi=>aj (a2.getD zi aa.d)) zi from (fun _ _=>rfl)) (pc (show b2.length≤b2.length from (az _)) (pc (show ∀ zi,zi < b2.length→(fun zi=>aj (b2.getD zi aa.d)) zi=(fun zi=>aj (b2.getD zi aa.d)) zi from (fun _ _=>rfl)) (pc (Eq.refl a2.length) (pc (Eq.refl b2.length) (pc (Eq.refl (([(⟨a,aP⟩:ab),(⟨b,rW⟩:ab)]:List ab).length)) (pc c7 (pc (z1 2) (pc (show ∀ zi,zi < 2→AV.fJ ((fun zi=>([[(aH aj aa.d a2),(aB bM.fN.fG),(eU bM.fN.fL),(aB bM.fD.fG),(eU bM.fD.fL)],[(aH aj aa.d b2),(aB nQ.fN.fG),(eU nQ.fN.fL),(aB nQ.fD.fG),(eU nQ.fD.fL)]]:List (List AV)).getD zi []) (bC 0 zi))=true from (mI rfl)) (pc (show (([(⟨a,aP⟩:ab),(⟨b,rW⟩:ab)]:List ab).length+2)=(([(⟨a,aP⟩:ab),(⟨b,rW⟩:ab)]:List ab) ++ ([(⟨a2,bM⟩:ab),(⟨b2,nQ⟩:ab)]:List ab)).length from (an rfl rfl)) (pc (show ([(⟨a,aP⟩:ab),(⟨b,rW⟩:ab)]:List ab).length+2=(([(⟨a,aP⟩:ab),(⟨b,rW⟩:ab)]:List ab) ++ ([(⟨a2,bM⟩:ab),(⟨b2,nQ⟩:ab)]:List ab)).length from (an rfl rfl)) (pc (show ∀ zi,zi < (([(⟨a,aP⟩:ab),(⟨b,rW⟩:ab)]:List ab) ++ ([(⟨a2,bM⟩:ab),(⟨b2,nQ⟩:ab)]:List ab)).length→(fun zi=>om ((([(⟨a,aP⟩:ab),(⟨b,rW⟩:ab)]:List ab) ++ ([(⟨a2,bM⟩:ab),(⟨b2,nQ⟩:ab)]:List ab)).getD zi ab.d)) zi=((fun zm=>if zm < ([(⟨a,aP⟩:ab),(⟨b,rW⟩:ab)]:List ab).length then (fun zi=>om (([(⟨a,aP⟩:ab),(⟨b,rW⟩:ab)]:List ab).getD zi ab.d)) zm else (fun zi=>([[(aH aj aa.d a2),(aB bM.fN.fG),(eU bM.fN.fL),(aB bM.fD.fG),(eU bM.fD.fL)],[(aH aj aa.d b2),(aB nQ.fN.fG),(eU nQ.fN.fL),(aB nQ.fD.fG),(eU nQ.fD.fL)]]:List (List AV)).getD zi []) (zm - ([(⟨a,aP⟩:ab),(⟨b,rW⟩:ab)]:List ab).length))) zi from (aX om ab.d ([(⟨a,aP⟩:ab),(⟨b,rW⟩:ab)]:List ab) ([(⟨a2,bM⟩:ab),(⟨b2,nQ⟩:ab)]:List ab) rfl (fun _ _=>rfl) (fun zq eY=>bB om ab.d ([(⟨a2,bM⟩:ab),(⟨b2,nQ⟩:ab)]:List ab) zq eY))) pn)))))))))))))))))) ?_
   refine ag hE 1 [] [] (kp [0,5,6,7]) (kq [1,276]) 356 pn ?_
   refine ag hE 3 [] [] (kp [0,5,6,7,26]) (kq [1,276]) 388 pn ?_
   refine sA 0 [.code (fy 977),.code (fy 489),.inLoop (fy 244),.inBlock 0,.code (fy 31)] ?_
   refine sC 26 (fy 1954) (fy 1955) true (fun _=>?_) (fun hq=>absurd hq (by decide)) 
   refine ag hE 4 [] [] (kp [0,5,6,7,8,9]) (kq [1,276]) 420 pn ?_
   refine ag hE 2 [] [] (kp [0,5,6,7,8,9,10]) (kq [1,276]) 436 pn ?_
   exact cP hE 2 [] (kp [0,5,6,7] ++ [(8,.lW 2),(9,.lW 3)] ++ kp [10]) ([(0,.ah 276)] ++ kq [1] ++ [(2,.nil 4 (fun zi=>aj (([]:List aa).getD zi aa.d))),(3,.nil 4 (fun zi=>aj (([]:List aa).getD zi aa.d)))]) 4 pn (rE N _ _ _ _ _ _ _ _ _ _ N _ _ _ _ h E hE)
theorem rG (N l rW nQ qX fuel):sb N l rW nQ qX (cj N l rW nQ qX fuel):=by
 induction fuel with
 | zero=>intro _ _ _ r h;rw [cj.eq_1] at h;cases h
 | succ fuel ih =>
  intro a b i r h E hE
  rw [cj.eq_2] at h
  refine ag hE 2 [] [] (kp [0,5,6,7,8,9,10,32]) (kq [0,1,2]) 67 pn ?_
  refine du 0 32 h (fun ee h=>?_) (fun ee h=>?_)
  ·obtain ⟨c,h⟩:=af h
   obtain ⟨oI,nu,h⟩:=aQ h
   refine ag hE 4 [(4,oT (.agg (aw.cells oI)))] [] (kp [0,5,6,7,8,9,10,11]) (kq [0,1,2,179]) 211 (pc c (pc (vn _ _ _ nu) (pc (show 0≤(0:Int)∧(0:Int) < ((3:Nat):Int) by decide) (pc o1 pn)))) ?_
   obtain ⟨c2,h⟩:=af h
   refine ag hE 1 [] [] (kp [0,5,6,7] ++ [(8,.jq ((a ++ ([oI.e0]:List aa)).length))] ++ kp [9,10,11]) (kq [0,2,179] ++ [(259,.arr 259 ((a ++ ([oI.e0]:List aa)).length) (fun zi=>aj ((a ++ ([oI.e0]:List aa)).getD zi aa.d)))]) 291 (pc o1 (pc (Eq.refl a.length) (pc c2 (pc (z1 1) (pc (show ∀ zi,zi < 1→AV.fJ ((fun zi=>([[(aB oI.e0.fN.fG),(eU oI.e0.fN.fL),(aB oI.e0.fD.fG),(eU oI.e0.fD.fL)]]:List (List AV)).getD zi []) (bC 0 zi))=true from (mI rfl)) (pc (show (a.length+1)=(a ++ ([oI.e0]:List aa)).length from (an rfl rfl)) (pc (show a.length+1=(a ++ ([oI.e0]:List aa)).length from (an rfl rfl)) (pc (show ∀ zi,zi < (a ++ ([oI.e0]:List aa)).length→(fun zi=>aj ((a ++ ([oI.e0]:List aa)).getD zi aa.d)) zi=((fun zm=>if zm < a.length then (fun zi=>aj (a.getD zi aa.d)) zm else (fun zi=>([[(aB oI.e0.fN.fG),(eU oI.e0.fN.fL),(aB oI.e0.fD.fG),(eU oI.e0.fD.fL)]]:List (List AV)).getD zi []) (zm - a.length))) zi from (aX aj aa.d a ([oI.e0]:List aa) rfl (fun _ _=>rfl) (fun zq eY=>bB aj aa.d ([oI.e0]:List aa) zq eY))) pn)))))))) ?_
   obtain ⟨gV,rX,h⟩:=aQ h
   obtain ⟨c3,h⟩:=af h
   refine ag hE 0 [(2,oT (.agg (aj gV)))] [] (kp [0,5,6,7,8] ++ [(9,.jq ((b ++ ([gV]:List aa)).length))] ++ kp [10]) (kq [0,259] ++ [(355,.arr 355 ((b ++ ([gV]:List aa)).length) (fun zi=>aj ((b ++ ([gV]:List aa)).getD zi aa.d)))]) 387 (pc o1 (pc (jN _ _ _ rX) (pc (Eq.refl b.length) (pc c3 (pc (z1 1) (pc (show ∀ zi,zi < 1→AV.fJ ((fun zi=>([[(aB gV.fN.fG),(eU gV.fN.fL),(aB gV.fD.fG),(eU gV.fD.fL)]]:List (List AV)).getD zi []) (bC 0 zi))=true from (mI rfl)) (pc (show (b.length+1)=(b ++ ([gV]:List aa)).length from (an rfl rfl)) (pc (show b.length+1=(b ++ ([gV]:List aa)).length from (an rfl rfl)) (pc (show ∀ zi,zi < (b ++ ([gV]:List aa)).length→(fun zi=>aj ((b ++ ([gV]:List aa)).getD zi aa.d)) zi=((fun zm=>if zm < b.length then (fun zi=>aj (b.getD zi aa.d)) zm else (fun zi=>([[(aB gV.fN.fG),(eU gV.fN.fL),(aB gV.fD.fG),(eU gV.fD.fL)]]:List (List AV)).getD zi []) (zm - b.length))) zi from (aX aj aa.d b ([gV]:List aa) rfl (fun _ _=>rfl) (fun zq eY=>bB aj aa.d ([gV]:List aa) zq eY))) pn))))))))) ?_
   refine ag hE 1 [] [] (kp [0,5,6,7,8,9,10]) (kq [0,259,355]) 435 pn ?_
   exact cP hE 1 [] (kp [0,5,6,7,8,9,10]) (kq [0] ++ [(1,.ah 259),(2,.ah 355)]) 3 pn (ih _ _ _ _ h E hE)
  ·obtain ⟨aP,xU,h⟩:=aQ h
   refine ag hE 1 [(5,oT (.agg (aj aP))),(12,⟨[],true,.mH,[(1,aO 4 aj aa.d a),(2,aO 4 aj aa.d b)],0,true,none⟩)] [] (kp [0] ++ [(5,.jq (([(⟨a,aP⟩:ab),(⟨b,rW⟩:ab)]:List ab).length))] ++ kp [6,7]) (kq [0] ++ [(275,.arr 275 (([(⟨a,aP⟩:ab),(⟨b,rW⟩:ab)]:List ab).length) (fun zi=>om (([(⟨a,aP⟩:ab),(⟨b,rW⟩:ab)]:List ab).getD zi ab.d)))]) 307 (pc (show 0≤(0:Int)∧(0:Int) < 3 by decide) (pc o1 (pc (jN _ _ _ xU) (pc (show 0≤(0:Int)∧(0:Int) < 3 by decide) (pc o1 (pc (show a.length≤a.length from (az _)) (pc (show ∀ zi,zi < a.length→(fun zi=>aj (a.getD zi aa.d)) zi=(fun zi=>aj (a.getD zi aa.d)) zi from (fun _ _=>rfl)) (pc (show b.length≤b.length from (az _)) (pc (show ∀ zi,zi < b.length→(fun zi=>aj (b.getD zi aa.d)) zi=(fun zi=>aj (b.getD zi aa.d)) zi from (fun _ _=>rfl)) (pc (Eq.refl a.length) (pc (Eq.refl b.length) (pc (show 2 * 88≤140737488355328 by decide) (pc (z1 2) (pc (show ∀ zi,zi < 2→AV.fJ ((fun zi=>([[(aH aj aa.d a),(aB aP.fN.fG),(eU aP.fN.fL),(aB aP.fD.fG),(eU aP.fD.fL)],[(aH aj aa.d b),(aB rW.fN.fG),(eU rW.fN.fL),(aB rW.fD.fG),(eU rW.fD.fL)]]:List (List AV)).getD zi []) (bC 0 zi))=true from (mI rfl)) (pc (Eq.refl 2) (pc (Eq.refl 2) (pc (show ∀ zi,zi < ([(⟨a,aP⟩:ab),(⟨b,rW⟩:ab)]:List ab).length→(fun zi=>om (([(⟨a,aP⟩:ab),(⟨b,rW⟩:ab)]:List ab).getD zi ab.d)) zi=(fun zi=>([[(aH aj aa.d a),(aB aP.fN.fG),(eU aP.fN.fL),(aB aP.fD.fG),(eU aP.fD.fL)],[(aH aj aa.d b),(aB rW.fN.fG),(eU rW.fN.fL),(aB rW.fD.fG),(eU rW.fD.fL)]]:List (List AV)).getD zi []) zi from (fun zq eY=>bB om ab.d ([(⟨a,aP⟩:ab),(⟨b,rW⟩:ab)]:List ab) zq eY)) pn))))))))))))))))) ?_
   refine ag hE 1 [] [] (kp [0,5,6,7]) (kq [0,275]) 355 pn ?_
   refine ag hE 3 [] [] (kp [0,5,6,7,26]) (kq [0,275]) 387 pn ?_
   refine sA 0 [.code (fy 977),.code (fy 489),.inLoop (fy 244),.inBlock 0,.code (fy 31)] ?_
   refine sC 26 (fy 1954) (fy 1955) true (fun _=>?_) (fun hq=>absurd hq (by decide)) 
   refine ag hE 4 [] [] (kp [0,5,6,7,8,9]) (kq [0,275]) 419 pn ?_
   refine ag hE 2 [] [] (kp [0,5,6,7,8,9,10]) (kq [0,275]) 435 pn ?_
   exact cP hE 2 [] (kp [0,5,6,7] ++ [(8,.lW 2),(9,.lW 3)] ++ kp [10]) [(0,.ah 275),(1,.ah 0),(2,.nil 4 (fun zi=>aj (([]:List aa).getD zi aa.d))),(3,.nil 4 (fun zi=>aj (([]:List aa).getD zi aa.d)))] 4 pn (rF N _ _ _ _ _ _ _ N _ _ _ _ h E hE)
theorem tW (N l w r) (h:jG N l w=some r):Sd 18 [(aH ae.cells ae.d l),(.agg (dE.cells w))] [] 0 (aH om ab.d r) []:=by
 unfold jG at h
 refine im (fu:=Tryz.f18) (c:=fy 1) (nt:=95) (fun hm=>rfl) ?_
 intro E hE
 refine ag hE 1 [] [] (kp [0,3]) (kq [0]) 32 pn ?_
 refine ag hE 1 [] [] (kp [0,3,5]) (kq [0]) 48 pn ?_
 obtain ⟨rW,hr,h⟩:=aQ h
 obtain ⟨nQ,eX,h⟩:=aQ h
 obtain ⟨qX,kE,h⟩:=aQ h
 refine ag hE 1 [(2,oT (.agg (aj rW))),(5,oT (.agg (aj nQ))),(8,oT (.agg (aj qX)))] [] (kp [0,5,6]) (kq [208]) 240 (pc o1 (pc (tV _ _ _ hr) (pc o1 (pc (tV _ _ _ eX) (pc o1 (pc (tV _ _ _ kE) (pc o1 pn))))))) ?_
 refine ag hE 2 [] [] (kp [0,5,6,7]) (kq [208]) 256 pn ?_
 refine ag hE 4 [] [] (kp [0,5,6,7,26]) (kq [208]) 288 pn ?_
 refine sA 0 [.code (fy 977),.code (fy 489),.inLoop (fy 244),.inBlock 0,.code (fy 31)] ?_
 refine sC 26 (fy 1954) (fy 1955) true (fun _=>?_) (fun hq=>absurd hq (by decide)) 
 refine ag hE 4 [] [] (kp [0,5,6,7,8,9]) (kq [208]) 320 pn ?_
 refine ag hE 2 [] [] (kp [0,5,6,7,8,9,10]) (kq [208]) 336 pn ?_
 exact cP hE 2 [] (kp [0,5,6,7] ++ [(8,.lW 1),(9,.lW 2)] ++ kp [10]) [(0,.ah 208),(1,.nil 4 (fun zi=>aj (([]:List aa).getD zi aa.d))),(2,.nil 4 (fun zi=>aj (([]:List aa).getD zi aa.d)))] 3 pn (rG N _ _ _ _ N _ _ _ _ h E hE)
noncomputable abbrev Gx:=cl Tryz.f5
def mV (N:Nat) (w:dE) (more:ae) (K:(List ae)→Int→Option (Bool)):Prop:=∀ (bu:List ae) (i:Int) (r:Bool),K bu i=some r→∀ E,bk E 0→aG Tryz.prog E 5 134 (bc E [] (aB r)) [.code (Gx 16372),.inLoop (Gx 16372),.inBlock 0,.code (Gx 2047)] ⟨[(4,(.op 0 0 0)),(5,(.op 1 0 0)),(13,(.os 2 0 bu.length)),(14,(aI i))],[(0,vO 3 (dE.cells w)),(1,vO 6 (ae.cells more)),(2,aO 6 ae.cells ae.d bu)],3⟩
def mW (N:Nat) (w:dE) (K:(List ae)→Option (Bool)):Prop:=∀ (sV:List ae) (r:Bool),K sV=some r→∀ E,bk E 0→aG Tryz.prog E 5 134 (bc E [] (aB r)) [.code (Gx 16380),.code (Gx 16381),.code (Gx 8191)] ⟨[(4,(.op 0 0 0)),(13,(.os 1 0 sV.length))],[(0,vO 3 (dE.cells w)),(1,aO 6 ae.cells ae.d sV)],2⟩
theorem iq (N w):mW N w (bU N w):=by
 intro sV r h E hE
 unfold bU at h
 obtain ⟨w8,xc,h⟩:=aQ h
 refine ag hE 0 [(1,oT (aI w8))] [] (kp [4,13,117]) (kq [0,1]) 50 (pc (sB _ _ _ xc) (pc (z1 sV.length) pn)) ?_
 refine du 0 117 h (fun hq8 h=>?_) (fun hq8 h=>?_)
 ·obtain ⟨QW,yQ,h⟩:=aQ h
  refine ag hE 1 [(0,oT (aB QW))] [] (kp [6]) [] 82 (pc (kM _ _ yQ) pn) ?_
  obtain rfl:=cX h
  exact db hE 0 Tryz.f5 [] (kp [6]) [] 82 pn [] pn
 ·obtain ⟨qM,Db,h⟩:=aQ h
  refine ag hE 2 [(2,⟨[],true,(.tup [(.agg (bQ.cells qM.1)),(aI qM.2)]),[],0,true,none⟩)] [] (kp [8,15]) (kq [146]) 194 (pc o1 (pc (r9 _ _ _ _ Db) (pc (z1 sV.length) (pc o1 pn)))) ?_
  obtain ⟨QX,Dc,h⟩:=aQ h
  refine ag hE 1 [(7,oT (aB QX))] [] (kp [6]) [] 354 (pc (fun hg:(qM.2 == 0)=true=>(pc hg (pc o1 pn))) (pc (fun hq:(qM.2 == 0)=true=>(pc hq pn)) (pc (fun hg:(cond (qM.2 == 0) qM.1.aE false)=true=>(pc (kM _ _ (aR Dc hg)) pn)) (pc (fun hq:(cond (qM.2 == 0) qM.1.aE false)=true=>(pc hq pn)) pn)))) ?_
  obtain rfl:=cX h
  exact db hE 0 Tryz.f5 [] (kp [6]) [] 354 pn [] pn
theorem mB (N w more fuel):mV N w more (aW N w more fuel):=by
 induction fuel with
 | zero=>intro _ _ r h;rw [aW.eq_1] at h;cases h
 | succ fuel ih =>
  intro bu i r h E hE
  rw [aW.eq_2] at h
  refine ag hE 2 [] [] (kp [4,5,13,14,93]) (kq [0,1,2]) 67 pn ?_
  refine du 0 93 h (fun Jv h=>?_) (fun Jv h=>?_)
  ·obtain ⟨c2,h⟩:=af h
   refine ag hE 3 [] [] (kp [4,5] ++ [(13,.jq ((bu.set ((i).toNat) (⟨(bu.getD ((i).toNat) ae.d).eC,(bu.getD ((i).toNat) ae.d).iz,(bu.getD ((i).toNat) ae.d).jo,(bu.getD ((i).toNat) ae.d).bV,(bu.getD ((i).toNat) ae.d).ct,(if (1000000000:Int) < (ai (2 * (bu.getD ((i).toNat) ae.d).cY)) then 1000000000 else (ai (2 * (bu.getD ((i).toNat) ae.d).cY)))⟩:ae)).length))] ++ kp [14]) (kq [0,1] ++ [(2,.arr 2 ((bu.set ((i).toNat) (⟨(bu.getD ((i).toNat) ae.d).eC,(bu.getD ((i).toNat) ae.d).iz,(bu.getD ((i).toNat) ae.d).jo,(bu.getD ((i).toNat) ae.d).bV,(bu.getD ((i).toNat) ae.d).ct,(if (1000000000:Int) < (ai (2 * (bu.getD ((i).toNat) ae.d).cY)) then 1000000000 else (ai (2 * (bu.getD ((i).toNat) ae.d).cY)))⟩:ae)).length) (fun zi=>ae.cells ((bu.set ((i).toNat) (⟨(bu.getD ((i).toNat) ae.d).eC,(bu.getD ((i).toNat) ae.d).iz,(bu.getD ((i).toNat) ae.d).jo,(bu.getD ((i).toNat) ae.d).bV,(bu.getD ((i).toNat) ae.d).ct,(if (1000000000:Int) < (ai (2 * (bu.getD ((i).toNat) ae.d).cY)) then 1000000000 else (ai (2 * (bu.getD ((i).toNat) ae.d).cY)))⟩:ae)).getD zi ae.d)))]) 259 (pc c2 (pc (dP c2) (pc c2 (pc (dP c2) (pc (ay bu ((i).toNat) (⟨(bu.getD ((i).toNat) ae.d).eC,(bu.getD ((i).toNat) ae.d).iz,(bu.getD ((i).toNat) ae.d).jo,(bu.getD ((i).toNat) ae.d).bV,(bu.getD ((i).toNat) ae.d).ct,(if (1000000000:Int) < (ai (2 * (bu.getD ((i).toNat) ae.d).cY)) then 1000000000 else (ai (2 * (bu.getD ((i).toNat) ae.d).cY)))⟩:ae)) (pc (ay bu ((i).toNat) (⟨(bu.getD ((i).toNat) ae.d).eC,(bu.getD ((i).toNat) ae.d).iz,(bu.getD ((i).toNat) ae.d).jo,(bu.getD ((i).toNat) ae.d).bV,(bu.getD ((i).toNat) ae.d).ct,(if (1000000000:Int) < (ai (2 * (bu.getD ((i).toNat) ae.d).cY)) then 1000000000 else (ai (2 * (bu.getD ((i).toNat) ae.d).cY)))⟩:ae)) (pc (cA ae.cells ae.d bu ((i).toNat) (⟨(bu.getD ((i).toNat) ae.d).eC,(bu.getD ((i).toNat) ae.d).iz,(bu.getD ((i).toNat) ae.d).jo,(bu.getD ((i).toNat) ae.d).bV,(bu.getD ((i).toNat) ae.d).ct,(if (1000000000:Int) < (ai (2 * (bu.getD ((i).toNat) ae.d).cY)) then 1000000000 else (ai (2 * (bu.getD ((i).toNat) ae.d).cY)))⟩:ae)) pn))))))) ?_
   refine ag hE 1 [] [] (kp [4,5,13,14]) (kq [0,1,2]) 307 pn ?_
   exact cP hE 1 [] (kp [4,5,13,14]) (kq [0,1,2]) 3 pn (ih _ _ _ h E hE)
  ·refine ag hE 3 [] [] (kp [4,5,13,110]) (kq [0,1,2]) 131 (pc o1 pn) ?_
   refine du 0 110 h (fun VX h=>?_) (fun VX h=>?_)
   ·obtain ⟨c3,h⟩:=af h
    refine ag hE 0 [] [] (kp [4] ++ [(13,.jq ((bu ++ ([more]:List ae)).length))]) (kq [0] ++ [(179,.arr 179 ((bu ++ ([more]:List ae)).length) (fun zi=>ae.cells ((bu ++ ([more]:List ae)).getD zi ae.d)))]) 211 (pc o1 (pc (Eq.refl bu.length) (pc c3 (pc (z1 1) (pc (show ∀ zi,zi < 1→AV.fJ ((fun zi=>([[(aS more.eC),(aI more.iz),(aI more.jo),(aI more.bV),(aI more.ct),(aI more.cY)]]:List (List AV)).getD zi []) (bC 0 zi))=true from (mI rfl)) (pc (show (bu.length+1)=(bu ++ ([more]:List ae)).length from (an rfl rfl)) (pc (show bu.length+1=(bu ++ ([more]:List ae)).length from (an rfl rfl)) (pc (show ∀ zi,zi < (bu ++ ([more]:List ae)).length→(fun zi=>ae.cells ((bu ++ ([more]:List ae)).getD zi ae.d)) zi=((fun zm=>if zm < bu.length then (fun zi=>ae.cells (bu.getD zi ae.d)) zm else (fun zi=>([[(aS more.eC),(aI more.iz),(aI more.jo),(aI more.bV),(aI more.ct),(aI more.cY)]]:List (List AV)).getD zi []) (zm - bu.length))) zi from (aX ae.cells ae.d bu ([more]:List ae) rfl (fun _ _=>rfl) (fun zq eY=>bB ae.cells ae.d ([more]:List ae) zq eY))) pn)))))))) ?_
    exact cP hE 2 [] (kp [4,13]) (kq [0] ++ [(1,.ah 179)]) 2 pn (iq N _ _ _ h E hE)
   ·exact cP hE 3 [] (kp [4,13]) (kq [0] ++ [(1,.ah 2)]) 2 pn (iq N _ _ _ h E hE)
theorem nw (N l w more r) (h:cW N l w more=some r):Sd 5 [(aH ae.cells ae.d l),(.agg (dE.cells w)),(.agg (ae.cells more))] [] 0 (aB r) []:=by
 unfold cW at h
 refine im (fu:=Tryz.f5) (c:=Gx 1) (nt:=134) (fun hm=>rfl) ?_
 intro E hE
 refine ag hE 1 [] [] (kp [0,4,5]) (kq [0,16]) 48 pn ?_
 obtain ⟨dX,hr,h⟩:=aQ h
 obtain ⟨AR,eX,h⟩:=aQ h
 refine ag hE 2 [(5,oT (aI dX)),(10,oT (aI AR))] [] (kp [0,4,5,28]) (kq [0,16]) 256 (pc (fun hg:(!(decide (((l.length:Nat):Int) > 4)))=true=>(pc (sB _ _ _ (aR hr hg)) (pc hg pn))) (pc (fun hg:(!(decide (((l.length:Nat):Int) > 4)))=true=>(pc hg pn)) (pc (fun hq:(!(decide (((l.length:Nat):Int) > 4)))=true=>(pc hq pn)) (pc (fun hg:(!(cond (decide (((l.length:Nat):Int) > 4)) true (dX != 0)))=true=>(pc o1 pn)) (pc (fun hg:(!(cond (decide (((l.length:Nat):Int) > 4)) true (dX != 0)))=true=>(pc (A5 _ _ _ (aR eX hg)) (pc hg pn))) (pc (fun hg:(!(cond (decide (((l.length:Nat):Int) > 4)) true (dX != 0)))=true=>(pc hg pn)) (pc (fun hq:(!(cond (decide (((l.length:Nat):Int) > 4)) true (dX != 0)))=true=>(pc hq pn)) pn))))))) ?_
 refine du 0 28 h (fun ee h=>?_) (fun ee h=>?_)
 ·obtain ⟨VQ,kE,h⟩:=aQ h
  refine ag hE 1 [(0,oT (aB VQ))] [] (kp [6]) [] 288 (pc (kM _ _ kE) pn) ?_
  obtain rfl:=cX h
  exact db hE 0 Tryz.f5 [] (kp [6]) [] 288 pn [] pn
 ·obtain ⟨iU,nu,h⟩:=aQ h
  refine ag hE 2 [(2,oT (.tup [(.agg (bQ.cells iU.1)),(aI iU.2)]))] [] (kp [0,4,5,7,8]) (kq [0,16,352]) 400 (pc o1 (pc (r9 _ _ _ _ nu) (pc o1 pn))) ?_
  obtain ⟨CV,rX,h⟩:=aQ h
  obtain ⟨aJ,xU,h⟩:=aQ h
  refine ag hE 1 [(4,oT (aH om ab.d CV)),(5,oT (.tup [(aH aj aa.d aJ.1),(aH aj aa.d aJ.2.1),(aI aJ.2.2)]))] [] (kp [0,4,5,7,8,11]) (kq [0,16,352]) 608 (pc o1 (pc (tW _ _ _ _ rX) (pc (xH _ _ _ _ xU) pn))) ?_
  obtain ⟨uZ,yL,h⟩:=aQ h
  refine ag hE 2 [(21,oT (aI uZ))] [] (kp [0,4,5,7,69]) (kq [0,16,352]) 992 (pc (fun hg:(!(iU.2 != 0))=true=>(pc hg (pc o1 pn))) (pc (fun hg:(!(iU.2 != 0))=true=>(pc hg pn)) (pc (fun hg:(!(iU.2 != 0))=true=>(pc hg (pc hg pn))) (pc (fun hq:(!(iU.2 != 0))=true=>(pc hq pn)) (pc (fun hg:(!(cond (iU.2 != 0) true (!(iU.1.aE == (aJ.2.2 == 0)))))=true=>(pc hg pn)) (pc (fun hg:((!(cond (iU.2 != 0) true (!(iU.1.aE == (aJ.2.2 == 0))))) && ((!(cond (iU.2 != 0) true (!(iU.1.aE == (aJ.2.2 == 0))))) && (aJ.2.2 != 0)))=true=>(pc hg pn)) (pc (fun hg:(!(cond (iU.2 != 0) true (!(iU.1.aE == (aJ.2.2 == 0)))))=true=>(pc hg (pc hg (pc (fun hq:(aJ.2.2 != 0)=true=>(pc (show ((!(cond (iU.2 != 0) true (!(iU.1.aE == (aJ.2.2 == 0))))) && ((!(cond (iU.2 != 0) true (!(iU.1.aE == (aJ.2.2 == 0))))) && (aJ.2.2 != 0)))=true from (jz hg (jz hg hq))) pn)) pn)))) (pc (fun hq:(!(cond (iU.2 != 0) true (!(iU.1.aE == (aJ.2.2 == 0)))))=true=>(pc hq pn)) (pc (fun hg:(!(cond (cond (iU.2 != 0) true (!(iU.1.aE == (aJ.2.2 == 0)))) true (cond (aJ.2.2 != 0) (aJ.2.2 != 29) false)))=true=>(pc o1 pn)) (pc (fun hg:(!(cond (cond (iU.2 != 0) true (!(iU.1.aE == (aJ.2.2 == 0)))) true (cond (aJ.2.2 != 0) (aJ.2.2 != 29) false)))=true=>(pc o1 pn)) (pc (fun hg:(!(cond (cond (iU.2 != 0) true (!(iU.1.aE == (aJ.2.2 == 0)))) true (cond (aJ.2.2 != 0) (aJ.2.2 != 29) false)))=true=>(pc (wu _ _ _ _ _ (aR yL hg)) (pc hg (pc hg (pc hg pn))))) (pc (fun hg:(!(cond (cond (iU.2 != 0) true (!(iU.1.aE == (aJ.2.2 == 0)))) true (cond (aJ.2.2 != 0) (aJ.2.2 != 29) false)))=true=>(pc hg pn)) (pc (fun hq:(!(cond (cond (iU.2 != 0) true (!(iU.1.aE == (aJ.2.2 == 0)))) true (cond (aJ.2.2 != 0) (aJ.2.2 != 29) false)))=true=>(pc hq pn)) pn))))))))))))) ?_
  refine du 0 69 h (fun jx h=>?_) (fun jx h=>?_)
  ·refine ag hE 1 [] [] (kp [6]) [] 1008 pn ?_
   obtain rfl:=cX h
   exact db hE 0 Tryz.f5 [] (kp [6]) [] 1008 pn [] pn
  ·obtain ⟨tJ,Eb,h⟩:=aQ h
   refine ag hE 2 [(2,oT (.tup [(.agg (bQ.cells tJ.1)),(aI tJ.2)]))] [] (kp [0,4,5,7,8,12]) (kq [0,16,352,1088]) 1136 (pc (r9 _ _ _ _ Eb) (pc o1 pn)) ?_
   refine ag hE 2 [] [] (kp [0,4,5,7,82]) (kq [0,16,352]) 1248 (pc (fun hg:(!(tJ.2 != 0))=true=>(pc hg (pc o1 pn))) (pc (fun hg:(!(tJ.2 != 0))=true=>(pc hg pn)) (pc (fun hq:(!(tJ.2 != 0))=true=>(pc hq pn)) pn))) ?_
   refine du 0 82 h (fun rV h=>?_) (fun rV h=>?_)
   ·refine ag hE 1 [] [] (kp [6]) [] 1264 pn ?_
    obtain rfl:=cX h
    exact db hE 0 Tryz.f5 [] (kp [6]) [] 1264 pn [] pn
   ·refine ag hE 3 [] [] (kp [0,4,5,85]) (kq [0,16]) 1296 (pc o1 pn) ?_
    refine du 0 85 h (fun BS h=>?_) (fun BS h=>?_)
    ·obtain ⟨KT,Ea,h⟩:=aQ h
     refine ag hE 1 [(0,oT (aB KT))] [] (kp [6]) [] 1328 (pc (kM _ _ Ea) pn) ?_
     obtain rfl:=cX h
     exact db hE 0 Tryz.f5 [] (kp [6]) [] 1328 pn [] pn
    ·obtain ⟨c,h⟩:=af h
     refine ag hE 2 [] [] (kp [4,5] ++ [(13,.jq ((([]:List ae) ++ l).length))]) (kq [0,16] ++ [(1328,.arr 1328 ((([]:List ae) ++ l).length) (fun zi=>ae.cells ((([]:List ae) ++ l).getD zi ae.d)))]) 1360 (pc (Eq.refl 0) (pc c (pc (show ∀ zi,zi < l.length→AV.fJ ((fun zi=>ae.cells (l.getD zi ae.d)) zi)=true from (fun _ _=>rfl)) (pc (show (0+l.length)=(([]:List ae) ++ l).length from (an rfl rfl)) (pc (show 0+l.length=(([]:List ae) ++ l).length from (an rfl rfl)) (pc (show ∀ zi,zi < (([]:List ae) ++ l).length→(fun zi=>ae.cells ((([]:List ae) ++ l).getD zi ae.d)) zi=((fun zm=>if zm < 0 then (fun _=>[]) zm else (fun zi=>ae.cells (l.getD zi ae.d)) (zm - 0))) zi from (aX ae.cells ae.d ([]:List ae) l rfl (fun zq eY=>absurd eY (dT _)) (fun _ _=>rfl))) pn)))))) ?_
     refine ag hE 2 [] [] (kp [4,5,13,14]) (kq [0,16,1328]) 1376 pn ?_
     exact cP hE 2 [] (kp [4,5,13,14]) (kq [0] ++ [(1,.ah 16),(2,.ah 1328)]) 3 pn (mB N _ _ N _ _ _ h E hE)
end Go.Den
