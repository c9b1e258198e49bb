/- Each function of the program does what its Lean function computes (part 3). No conditions. -/
import Derived.Test.YtlgddcmiekcdiaaGreatBerthHoldsSb
import Derived.Test.YtlgddcmiekcdiaaGreatProg
set_option linter.unusedVariables false
set_option maxRecDepth 100000
namespace Go.Den
open Go.Ab Go.Proofs Go.Ab.aD
noncomputable abbrev FZ:=bV Tryz.f82
def xd (N:Nat) (l:ai) (K:Int→Int→Option (Int)):Prop:=∀ (s:Int) (step:Int) (r:Int),K s step=some r→∀ E,bq E 0→aD Tryz.prog E 82 47 (bd E [] (aI r)) [.code (FZ 244),.inLoop (FZ 244),.inBlock 0,.code (FZ 31)] ⟨[(3,(aI (ah ((ah ((ah (l.b9 - l.iZ)) * (ah (l.b9 - l.iZ))))+(ah ((ah (l.cC - l.jE)) * (ah (l.cC - l.jE)))))))),(4,(aI s)),(5,(aI step))],[],0⟩
def Eb (N:Nat) (l:ai) (step:Int) (K:Int→Option (Int)):Prop:=∀ (s2:Int) (r:Int),K s2=some r→∀ E,bq E 0→aD Tryz.prog E 82 47 (bd E [] (aI r)) [.code (FZ 979),.inLoop (FZ 244),.inBlock 0,.code (FZ 31)] ⟨[(3,(aI (ah ((ah ((ah (l.b9 - l.iZ)) * (ah (l.b9 - l.iZ))))+(ah ((ah (l.cC - l.jE)) * (ah (l.cC - l.jE)))))))),(4,(aI s2)),(5,(aI step))],[],0⟩
theorem vK (N:Nat) (l:ai) (step:Int) (oL:Int→Int→Option (Int)) (CW:xd N l oL):Eb N l step (ot N l step oL):=by
 intro s2 r h E hE
 unfold ot at h
 refine ae hE 0 [] [] (kp [3,4,5]) [] 48 (pc (show (2:Int)≠0 by decide) pn) ?_
 exact cV hE 1 [] (kp [3,4,5]) [] 0 pn (CW _ _ _ h E hE)
theorem CX (N l fuel):xd N l (jg N l fuel):=by
 induction fuel with
 | zero=>intro _ _ r h;rw [jg.eq_1] at h;cases h
 | succ fuel ih =>
  intro s step r h E hE
  rw [jg.eq_2] at h
  refine ae hE 2 [] [] (kp [3,4,5,30]) [] 32 pn ?_
  refine dm 0 30 h (fun dW h=>?_) (fun dW h=>?_)
  ·refine ae hE 4 [] [] (kp [3,4,5,41]) [] 176 pn ?_
   refine dm 0 41 h (fun jh h=>?_) (fun jh h=>?_)
   ·refine ae hE 0 [] [] (kp [3,4,5]) [] 240 pn ?_
    exact cV hE 1 [] (kp [3,4,5]) [] 0 pn (vK N _ _ _ ih _ _ h E hE)
   ·exact cV hE 2 [] (kp [3,4,5]) [] 0 pn (vK N _ _ _ ih _ _ h E hE)
  ·refine ae hE 2 [] [] (kp [2]) [] 80 pn ?_
   obtain rfl:=cJ h
   exact cP hE 0 Tryz.f82 [] (kp [2]) [] 80 pn [] pn
theorem G3 (N l r) (h:s6 N l=some r):Sd 82 [(.agg (ai.cells l))] [] 0 (aI r) []:=by
 unfold s6 at h
 refine gU (fu:=Tryz.f82) (c:=FZ 1) (nt:=47) (fun hm=>rfl) ?_
 intro E hE
 refine ae hE 1 [] [] (kp [1]) (kq [0]) 32 pn ?_
 refine ae hE 1 [] [] (kp [3]) [] 416 (pc o1 (pc o1 (pc o1 (pc o1 (pc o1 (pc o1 (pc o1 (pc o1 pn)))))))) ?_
 refine ae hE 1 [] [] (kp [3,4]) [] 432 pn ?_
 refine ae hE 2 [] [] (kp [3,4,5]) [] 448 pn ?_
 exact cV hE 2 [] (kp [3,4,5]) [] 0 pn (CX N _ N _ _ _ h E hE)
noncomputable abbrev W9:=bV Tryz.f81
theorem Ec (N x y r) (h:sf N x y=some r):Sd 81 [(.agg (aj x)),(.agg (aj y))] [] 0 (.agg (aj r)) []:=by
 unfold sf at h
 refine gU (fu:=Tryz.f81) (c:=W9 1) (nt:=22) (fun hm=>rfl) ?_
 intro E hE
 refine ae hE 1 [] [] (kp [2,3,4]) (kq [0,16,32]) 48 pn ?_
 obtain ⟨eO,hr,h⟩:=aQ h
 obtain ⟨iV,eJ,h⟩:=aQ h
 refine ae hE 1 [(1,oT (.agg (aj eO))),(3,oT (.agg (aj iV)))] [] (kp [4,5,6]) (kq [32,112,128]) 176 (pc o1 (pc (gM _ _ _ hr) (pc o1 (pc (gM _ _ _ eJ) (pc o1 (pc o1 pn)))))) ?_
 obtain ⟨sV,jP,h⟩:=aQ h
 obtain ⟨nw,mz,h⟩:=aQ h
 obtain ⟨sZ,qz,h⟩:=aQ h
 refine ae hE 1 [(4,oT (.agg (lk sV))),(9,oT (.agg (lk nw))),(10,oT (.agg (aj sZ)))] [] (kp [4]) (kq [32]) 368 (pc o1 (pc o1 (pc (mh _ _ _ _ jP) (pc o1 (pc o1 (pc (mh _ _ _ _ mz) (pc (qJ _ _ _ _ qz) (pc o1 pn)))))))) ?_
 obtain rfl:=cJ h
 exact cP hE 0 Tryz.f81 [] (kp [4]) [(16,.ag 32)] 368 pn [16] (pc o1 pn)
noncomputable abbrev Xa:=bV Tryz.f56
theorem fm (N x y r) (h:fx N x y=some r):Sd 56 [(.agg (aj x)),(.agg (aj y))] [] 0 (.agg (aj r)) []:=by
 unfold fx at h
 refine gU (fu:=Tryz.f56) (c:=Xa 1) (nt:=22) (fun hm=>rfl) ?_
 intro E hE
 refine ae hE 1 [] [] (kp [2,3,4]) (kq [0,16,32]) 48 pn ?_
 obtain ⟨eO,hr,h⟩:=aQ h
 obtain ⟨iV,eJ,h⟩:=aQ h
 refine ae hE 1 [(1,oT (.agg (aj eO))),(3,oT (.agg (aj iV)))] [] (kp [4,5,6]) (kq [32,112,128]) 176 (pc o1 (pc (gM _ _ _ hr) (pc o1 (pc (gM _ _ _ eJ) (pc o1 (pc o1 pn)))))) ?_
 obtain ⟨sV,jP,h⟩:=aQ h
 obtain ⟨nw,mz,h⟩:=aQ h
 obtain ⟨sZ,qz,h⟩:=aQ h
 refine ae hE 1 [(4,oT (.agg (lk sV))),(9,oT (.agg (lk nw))),(10,oT (.agg (aj sZ)))] [] (kp [4]) (kq [32]) 368 (pc o1 (pc o1 (pc (mh _ _ _ _ jP) (pc o1 (pc o1 (pc (mh _ _ _ _ mz) (pc (qJ _ _ _ _ qz) (pc o1 pn)))))))) ?_
 obtain rfl:=cJ h
 exact cP hE 0 Tryz.f56 [] (kp [4]) [(16,.ag 32)] 368 pn [16] (pc o1 pn)
noncomputable abbrev Xb:=bV Tryz.f39
theorem zU (N l r) (h:s7 N l=some r):Sd 39 [(.agg (ai.cells l))] [] 0 (.agg (ar.cells r)) []:=by
 unfold s7 at h
 refine gU (fu:=Tryz.f39) (c:=Xb 1) (nt:=45) (fun hm=>rfl) ?_
 intro E hE
 refine ae hE 1 [] [] (kp [1,2]) (kq [0,16]) 32 pn ?_
 obtain ⟨rQ,hr,h⟩:=aQ h
 obtain ⟨x8,eJ,h⟩:=aQ h
 obtain ⟨Va,jP,h⟩:=aQ h
 obtain ⟨Er,mz,h⟩:=aQ h
 refine ae hE 1 [(2,oT (.agg (aj rQ))),(4,oT (aI x8)),(5,oT (.agg (aj Va))),(6,oT (.agg (aj Er)))] [] (kp [1,2,3]) (kq [0,16,144]) 176 (pc o1 (pc (kr _ _ _ hr) (pc o1 (pc (G3 _ _ _ eJ) (pc (kr _ _ _ jP) (pc (Ec _ _ _ _ mz) (pc o1 pn))))))) ?_
 obtain ⟨Vb,qz,h⟩:=aQ h
 obtain ⟨bL,vj,h⟩:=aQ h
 refine ae hE 1 [(6,oT (.agg (aj Vb))),(7,oT (.agg (aj bL)))] [] (kp [1,2,3,4]) (kq [0,16,144,304]) 336 (pc o1 (pc o1 (pc o1 (pc (kr _ _ _ qz) (pc (fm _ _ _ _ vj) (pc o1 pn)))))) ?_
 obtain ⟨Zk,wv,h⟩:=aQ h
 obtain ⟨cw,DI,h⟩:=aQ h
 refine ae hE 1 [(6,oT (.agg (aj Zk))),(7,oT (.agg (aj cw)))] [] (kp [1,2,4,5]) (kq [0,16,304,464]) 496 (pc o1 (pc o1 (pc o1 (pc (kr _ _ _ wv) (pc (fm _ _ _ _ DI) (pc o1 pn)))))) ?_
 obtain ⟨Zl,DH,h⟩:=aQ h
 obtain ⟨dT,wu,h⟩:=aQ h
 obtain ⟨Zm,yj,h⟩:=aQ h
 obtain ⟨sX,FT,h⟩:=aQ h
 obtain ⟨av,FU,h⟩:=aQ h
 refine ae hE 1 [(2,oT (.agg (aj Zl))),(4,oT (.agg (aj dT))),(7,oT (.agg (aj Zm))),(9,oT (.agg (aj sX))),(10,oT (.agg (aj av)))] [] (kp [2,4,5,6]) (kq [16,304,464,672]) 704 (pc o1 (pc (kr _ _ _ DH) (pc o1 (pc (fm _ _ _ _ wu) (pc o1 (pc (kr _ _ _ yj) (pc o1 (pc (fm _ _ _ _ FT) (pc (xc _ _ _ _ FU) (pc o1 pn)))))))))) ?_
 refine ae hE 1 [] [] (kp [2]) (kq [16]) 784 (pc o1 (pc o1 (pc o1 (pc o1 pn)))) ?_
 obtain rfl:=cJ h
 exact cP hE 0 Tryz.f39 [] (kp [2]) (kq [16]) 784 pn [16] (pc o1 pn)
noncomputable abbrev nb:=bV Tryz.f26
def zD (N:Nat) (l:List ai) (parts:List aa) (K:ar→Int→Option (Bool)):Prop:=∀ (sum:ar) (i:Int) (r:Bool),K sum i=some r→∀ E,bq E 0→aD Tryz.prog E 26 73 (bd E [] (aB r)) [.code (nb 116),.inLoop (nb 116),.inBlock 0,.code (nb 15)] ⟨[(0,(aH ai.cells ai.d l)),(2,(aH aj aa.d parts)),(7,(.op 0 0 0)),(8,(aI i))],[(0,vO 12 (ar.cells sum))],1⟩
theorem yu (N l parts fuel):zD N l parts (fM N l parts fuel):=by
 induction fuel with
 | zero=>intro _ _ r h;rw [fM.eq_1] at h;cases h
 | succ fuel ih =>
  intro sum i r h E hE
  rw [fM.eq_2] at h
  refine ae hE 2 [] [] (kp [0,2,7,8,16]) (kq [0]) 65 pn ?_
  refine dm 0 16 h (fun dW h=>?_) (fun dW h=>?_)
  ·obtain ⟨c,h⟩:=ab h
   obtain ⟨gI,eJ,h⟩:=aQ h
   obtain ⟨c2,h⟩:=ab h
   obtain ⟨rQ,jP,h⟩:=aQ h
   obtain ⟨eE,mz,h⟩:=aQ h
   refine ae hE 5 [(4,oT (aI gI)),(11,oT (.agg (aj rQ))),(12,oT (aI eE))] [] (kp [0,2,7,8,33]) (kq [0]) 305 (pc c (pc (iX _ _ _ eJ) (pc (fun hg:(!(decide (gI < 0)))=true=>(pc hg (pc hg (pc (c2 hg) pn)))) (pc (fun hg:(!(decide (gI < 0)))=true=>(pc hg pn)) (pc (fun hg:(!(decide (gI < 0)))=true=>(pc (kr _ _ _ (aF jP hg)) pn)) (pc (fun hg:(!(decide (gI < 0)))=true=>(pc (Ea _ _ _ _ (aF mz hg)) (pc hg (pc hg pn)))) (pc (fun hg:(!(decide (gI < 0)))=true=>(pc hg pn)) (pc (fun hq:(!(decide (gI < 0)))=true=>(pc hq pn)) pn)))))))) ?_
   refine dm 0 33 h (fun jh h=>?_) (fun jh h=>?_)
   ·refine ae hE 1 [] [] (kp [6]) [] 321 pn ?_
    obtain rfl:=cJ h
    exact cP hE 0 Tryz.f26 [] (kp [6]) [] 321 pn [] pn
   ·obtain ⟨c3,h⟩:=ab h
    obtain ⟨Bj,qz,h⟩:=aQ h
    refine ae hE 2 [(4,oT (.agg (ar.cells Bj)))] [] (kp [0,2,7,8,9]) (kq [0,385]) 417 (pc c3 (pc (zU _ _ _ qz) (pc o1 pn))) ?_
    refine ae hE 1 [] [] (kp [0,2,7,8,9,10]) (kq [0,385]) 433 pn ?_
    refine ae hE 4 [] [] (kp [0,2,7,8,9,10,40]) (kq [0,385]) 465 pn ?_
    refine sA 0 [.code (nb 119409),.code (nb 59705),.inLoop (nb 29852),.inBlock 2,.inBlock 1,.code (nb 467),.inLoop (nb 116),.inBlock 0,.code (nb 15)] ?_
    refine sC 40 (nb 238818) (nb 238819) true (fun _=>?_) (fun hq=>absurd hq (by decide)) 
    obtain ⟨bL,vj,h⟩:=aQ h
    obtain ⟨bk,wv,h⟩:=aQ h
    refine ae hE 3 [(11,oT (.agg (aj bL))),(12,oT (.agg (aj bk)))] [] (kp [0,2,7,8,9,10]) (kq [0,385]) 705 (pc (show 0≤(0:Int)∧(0:Int) < 3 by decide) (pc o1 (pc c (pc (show 0≤(0:Int)∧(0:Int) < 3 by decide) (pc o1 (pc (fm _ _ _ _ vj) (pc (iq _ _ _ _ wv) (pc (show 0≤(0:Int)∧(0:Int) < 3 by decide) (pc o1 pn))))))))) ?_
    refine ae hE 1 [] [] (kp [0,2,7,8,9,10]) (kq [0,385]) 753 pn ?_
    refine ae hE 3 [] [] (kp [0,2,7,8,9,10,40]) (kq [0,385]) 785 pn ?_
    refine sA 0 [.code (nb 119409),.code (nb 59705),.inLoop (nb 29852),.inBlock 2,.inBlock 1,.code (nb 467),.inLoop (nb 116),.inBlock 0,.code (nb 15)] ?_
    refine sC 40 (nb 238818) (nb 238819) true (fun _=>?_) (fun hq=>absurd hq (by decide)) 
    obtain ⟨cw,DI,h⟩:=aQ h
    obtain ⟨eu,DH,h⟩:=aQ h
    refine ae hE 3 [(11,oT (.agg (aj cw))),(12,oT (.agg (aj eu)))] [] (kp [0,2,7,8,9,10]) (kq [0,385]) 1025 (pc (show 0≤(1:Int)∧(1:Int) < 3 by decide) (pc o1 (pc c (pc (show 0≤(1:Int)∧(1:Int) < 3 by decide) (pc o1 (pc (fm _ _ _ _ DI) (pc (iq _ _ _ _ DH) (pc (show 0≤(1:Int)∧(1:Int) < 3 by decide) (pc o1 pn))))))))) ?_
    refine ae hE 1 [] [] (kp [0,2,7,8,9,10]) (kq [0,385]) 1073 pn ?_
    refine ae hE 3 [] [] (kp [0,2,7,8,9,10,40]) (kq [0,385]) 1105 pn ?_
    refine sA 0 [.code (nb 119409),.code (nb 59705),.inLoop (nb 29852),.inBlock 2,.inBlock 1,.code (nb 467),.inLoop (nb 116),.inBlock 0,.code (nb 15)] ?_
    refine sC 40 (nb 238818) (nb 238819) true (fun _=>?_) (fun hq=>absurd hq (by decide)) 
    obtain ⟨dT,wu,h⟩:=aQ h
    obtain ⟨fB,yj,h⟩:=aQ h
    refine ae hE 3 [(11,oT (.agg (aj dT))),(12,oT (.agg (aj fB)))] [] (kp [0,2,7,8,9,10]) (kq [0,385]) 1345 (pc (show 0≤(2:Int)∧(2:Int) < 3 by decide) (pc o1 (pc c (pc (show 0≤(2:Int)∧(2:Int) < 3 by decide) (pc o1 (pc (fm _ _ _ _ wu) (pc (iq _ _ _ _ yj) (pc (show 0≤(2:Int)∧(2:Int) < 3 by decide) (pc o1 pn))))))))) ?_
    refine ae hE 1 [] [] (kp [0,2,7,8,9,10]) (kq [0,385]) 1393 pn ?_
    refine ae hE 3 [] [] (kp [0,2,7,8,9,10,40]) (kq [0,385]) 1425 pn ?_
    refine sA 0 [.code (nb 119409),.code (nb 59705),.inLoop (nb 29852),.inBlock 2,.inBlock 1,.code (nb 467),.inLoop (nb 116),.inBlock 0,.code (nb 15)] ?_
    refine sC 40 (nb 238818) (nb 238819) false (fun hq=>absurd hq (by decide)) (fun _=>?_) 
    refine ae hE 2 [] [] (kp [0,2,7,8]) (kq [0]) 1473 pn ?_
    exact cV hE 1 [] (kp [0,2,7,8]) (kq [0]) 1 pn (ih _ _ _ h E hE)
  ·obtain ⟨fy,FT,h⟩:=aQ h
   obtain ⟨nT,FU,h⟩:=aQ h
   obtain ⟨Cy,IV,h⟩:=aQ h
   refine ae hE 2 [(2,oT (aI fy)),(7,oT (aI nT)),(13,oT (aI Cy))] [] (kp [6]) [] 337 (pc (show 0≤(0:Int)∧(0:Int) < 3 by decide) (pc o1 (pc (iX _ _ _ FT) (pc (fun hg:(fy == 0)=true=>(pc (show 0≤(1:Int)∧(1:Int) < 3 by decide) pn)) (pc (fun hg:(fy == 0)=true=>(pc hg (pc o1 pn))) (pc (fun hg:(fy == 0)=true=>(pc (iX _ _ _ (aF FU hg)) (pc hg pn))) (pc (fun hg:(fy == 0)=true=>(pc hg pn)) (pc (fun hq:(fy == 0)=true=>(pc hq pn)) (pc (fun hg:(cond (fy == 0) (nT == 0) false)=true=>(pc (show 0≤(2:Int)∧(2:Int) < 3 by decide) pn)) (pc (fun hg:(cond (fy == 0) (nT == 0) false)=true=>(pc hg (pc o1 pn))) (pc (fun hg:(cond (fy == 0) (nT == 0) false)=true=>(pc (iX _ _ _ (aF IV hg)) (pc hg pn))) (pc (fun hg:(cond (fy == 0) (nT == 0) false)=true=>(pc hg pn)) (pc (fun hq:(cond (fy == 0) (nT == 0) false)=true=>(pc hq pn)) pn))))))))))))) ?_
   obtain rfl:=cJ h
   exact cP hE 0 Tryz.f26 [] (kp [6]) [] 337 pn [] pn
theorem BI (N l w parts r) (h:p6 N l w parts=some r):Sd 26 [(aH ai.cells ai.d l),(.agg (dK.cells w)),(aH aj aa.d parts)] [] 0 (aB r) []:=by
 unfold p6 at h
 refine gU (fu:=Tryz.f26) (c:=nb 1) (nt:=73) (fun hm=>rfl) ?_
 intro E hE
 refine ae hE 1 [] [] (kp [0,2,4]) (kq [0]) 32 pn ?_
 obtain ⟨Ao,hr,h⟩:=aQ h
 refine ae hE 1 [(1,oT (.agg (ar.cells Ao)))] [] (kp [0,2,7]) (kq [64]) 96 (pc o1 (pc (yr _ _ _ hr) (pc o1 pn))) ?_
 refine ae hE 2 [] [] (kp [0,2,7,8]) (kq [64]) 112 pn ?_
 exact cV hE 2 [] (kp [0,2,7,8]) [(0,.ag 64)] 1 pn (yu N _ _ N _ _ _ h E hE)
noncomputable abbrev mE:=bV Tryz.f57
theorem yw (N d p r) (h:qY N d p=some r):Sd 57 [(aH aj aa.d d),(.agg (ar.cells p))] [] 0 (.agg (aj r)) []:=by
 unfold qY at h
 refine gU (fu:=Tryz.f57) (c:=mE 1) (nt:=23) (fun hm=>rfl) ?_
 intro E hE
 refine ae hE 1 [] [] (kp [0,3,4]) (kq [0,16]) 32 pn ?_
 obtain ⟨rQ,hr,h⟩:=aQ h
 refine ae hE 1 [(0,oT (.agg (aj rQ)))] [] (kp [0,3,4,5]) (kq [0,16,48]) 80 (pc (kr _ _ _ hr) (pc o1 pn)) ?_
 refine ae hE 2 [] [] (kp [0,3,4,5,6]) (kq [0,16,48]) 96 pn ?_
 refine ae hE 4 [] [] (kp [0,3,4,5,6,9]) (kq [0,16,48]) 128 pn ?_
 refine sA 0 [.code (mE 465),.code (mE 233),.inLoop (mE 116),.inBlock 0,.code (mE 15)] ?_
 refine sC 9 (mE 930) (mE 931) true (fun _=>?_) (fun hq=>absurd hq (by decide)) 
 obtain ⟨c,h⟩:=ab h
 obtain ⟨bL,eJ,h⟩:=aQ h
 obtain ⟨bk,jP,h⟩:=aQ h
 refine ae hE 3 [(8,oT (.agg (aj bL))),(9,oT (.agg (aj bk)))] [] (kp [0,3,4,5,6]) (kq [0,16,48]) 304 (pc o1 (pc c (pc (show 0≤(0:Int)∧(0:Int) < 3 by decide) (pc o1 (pc (fm _ _ _ _ eJ) (pc (iq _ _ _ _ jP) (pc o1 pn))))))) ?_
 refine ae hE 1 [] [] (kp [0,3,4,5,6]) (kq [0,16,48]) 352 pn ?_
 refine ae hE 3 [] [] (kp [0,3,4,5,6,9]) (kq [0,16,48]) 384 pn ?_
 refine sA 0 [.code (mE 465),.code (mE 233),.inLoop (mE 116),.inBlock 0,.code (mE 15)] ?_
 refine sC 9 (mE 930) (mE 931) true (fun _=>?_) (fun hq=>absurd hq (by decide)) 
 obtain ⟨c2,h⟩:=ab h
 obtain ⟨cw,mz,h⟩:=aQ h
 obtain ⟨eu,qz,h⟩:=aQ h
 refine ae hE 3 [(8,oT (.agg (aj cw))),(9,oT (.agg (aj eu)))] [] (kp [0,3,4,5,6]) (kq [0,16,48]) 560 (pc o1 (pc c2 (pc (show 0≤(1:Int)∧(1:Int) < 3 by decide) (pc o1 (pc (fm _ _ _ _ mz) (pc (iq _ _ _ _ qz) (pc o1 pn))))))) ?_
 refine ae hE 1 [] [] (kp [0,3,4,5,6]) (kq [0,16,48]) 608 pn ?_
 refine ae hE 3 [] [] (kp [0,3,4,5,6,9]) (kq [0,16,48]) 640 pn ?_
 refine sA 0 [.code (mE 465),.code (mE 233),.inLoop (mE 116),.inBlock 0,.code (mE 15)] ?_
 refine sC 9 (mE 930) (mE 931) true (fun _=>?_) (fun hq=>absurd hq (by decide)) 
 obtain ⟨c3,h⟩:=ab h
 obtain ⟨dT,vj,h⟩:=aQ h
 obtain ⟨fB,wv,h⟩:=aQ h
 refine ae hE 3 [(8,oT (.agg (aj dT))),(9,oT (.agg (aj fB)))] [] (kp [0,3,4,5,6]) (kq [0,16,48]) 816 (pc o1 (pc c3 (pc (show 0≤(2:Int)∧(2:Int) < 3 by decide) (pc o1 (pc (fm _ _ _ _ vj) (pc (iq _ _ _ _ wv) (pc o1 pn))))))) ?_
 refine ae hE 1 [] [] (kp [0,3,4,5,6]) (kq [0,16,48]) 864 pn ?_
 refine ae hE 3 [] [] (kp [0,3,4,5,6,9]) (kq [0,16,48]) 896 pn ?_
 refine sA 0 [.code (mE 465),.code (mE 233),.inLoop (mE 116),.inBlock 0,.code (mE 15)] ?_
 refine sC 9 (mE 930) (mE 931) false (fun hq=>absurd hq (by decide)) (fun _=>?_) 
 refine ae hE 2 [] [] (kp [4]) (kq [16]) 928 (pc o1 (pc o1 pn)) ?_
 obtain rfl:=cJ h
 exact cP hE 0 Tryz.f57 [] (kp [4]) (kq [16]) 928 pn [16] (pc o1 pn)
noncomputable abbrev F0:=bV Tryz.f27
def tu (N:Nat) (l:List ai) (d:List aa) (K:aa→Int→Option (Bool)):Prop:=∀ (sum:aa) (i:Int) (r:Bool),K sum i=some r→∀ E,bq E 0→aD Tryz.prog E 27 36 (bd E [] (aB r)) [.code (F0 116),.inLoop (F0 116),.inBlock 0,.code (F0 15)] ⟨[(0,(aH ai.cells ai.d l)),(2,(aH aj aa.d d)),(7,(.op 0 0 0)),(8,(aI i))],[(0,vO 4 (aj sum))],1⟩
def AB (N:Nat) (l:List ai) (d:List aa) (i:Int) (K:aa→Option (Bool)):Prop:=∀ (Bk:aa) (r:Bool),K Bk=some r→∀ E,bq E 0→aD Tryz.prog E 27 36 (bd E [] (aB r)) [.code (F0 467),.inLoop (F0 116),.inBlock 0,.code (F0 15)] ⟨[(0,(aH ai.cells ai.d l)),(2,(aH aj aa.d d)),(7,(.op 0 0 0)),(8,(aI i))],[(0,vO 4 (aj Bk))],1⟩
theorem rS (N:Nat) (l:List ai) (d:List aa) (i:Int) (mc:aa→Int→Option (Bool)) (zE:tu N l d mc):AB N l d i (j8 N l d i mc):=by
 intro Bk r h E hE
 unfold j8 at h
 refine ae hE 0 [] [] (kp [0,2,7,8]) (kq [0]) 49 pn ?_
 exact cV hE 1 [] (kp [0,2,7,8]) (kq [0]) 1 pn (zE _ _ _ h E hE)
theorem zF (N l d fuel):tu N l d (fz N l d fuel):=by
 induction fuel with
 | zero=>intro _ _ r h;rw [fz.eq_1] at h;cases h
 | succ fuel ih =>
  intro sum i r h E hE
  rw [fz.eq_2] at h
  refine ae hE 2 [] [] (kp [0,2,7,8,17]) (kq [0]) 65 pn ?_
  refine dm 0 17 h (fun dW h=>?_) (fun dW h=>?_)
  ·obtain ⟨c,h⟩:=ab h
   obtain ⟨Bj,jP,h⟩:=aQ h
   obtain ⟨Es,mz,h⟩:=aQ h
   refine ae hE 4 [(5,oT (.agg (ar.cells Bj))),(6,oT (.agg (aj Es)))] [] (kp [0,2,7,8,9]) (kq [0,177]) 209 (pc c (pc (zU _ _ _ jP) (pc (yw _ _ _ _ mz) (pc o1 pn)))) ?_
   obtain ⟨gI,qz,h⟩:=aQ h
   refine ae hE 1 [(1,oT (aI gI))] [] (kp [0,2,7,8,9,29]) (kq [0,177]) 257 (pc o1 (pc (iX _ _ _ qz) pn)) ?_
   refine dm 0 29 h (fun jh h=>?_) (fun jh h=>?_)
   ·obtain ⟨bk,vj,h⟩:=aQ h
    refine ae hE 0 [(2,oT (.agg (aj bk)))] [] (kp [0,2,7,8]) (kq [0]) 321 (pc o1 (pc o1 (pc (iq _ _ _ _ vj) (pc o1 pn)))) ?_
    exact cV hE 1 [] (kp [0,2,7,8]) (kq [0]) 1 pn (rS N _ _ _ _ ih _ _ h E hE)
   ·exact cV hE 2 [] (kp [0,2,7,8]) (kq [0]) 1 pn (rS N _ _ _ _ ih _ _ h E hE)
  ·obtain ⟨fy,wv,h⟩:=aQ h
   refine ae hE 2 [(1,oT (aI fy))] [] (kp [6]) [] 129 (pc o1 (pc (iX _ _ _ wv) pn)) ?_
   obtain rfl:=cJ h
   exact cP hE 0 Tryz.f27 [] (kp [6]) [] 129 pn [] pn
theorem CY (N l w d r) (h:qF N l w d=some r):Sd 27 [(aH ai.cells ai.d l),(.agg (dK.cells w)),(aH aj aa.d d)] [] 0 (aB r) []:=by
 unfold qF at h
 refine gU (fu:=Tryz.f27) (c:=F0 1) (nt:=36) (fun hm=>rfl) ?_
 intro E hE
 refine ae hE 1 [] [] (kp [0,2,4]) (kq [0]) 32 pn ?_
 obtain ⟨Ao,hr,h⟩:=aQ h
 obtain ⟨LI,eJ,h⟩:=aQ h
 refine ae hE 1 [(2,oT (.agg (ar.cells Ao))),(3,oT (.agg (aj LI)))] [] (kp [0,2,7]) (kq [96]) 128 (pc o1 (pc (yr _ _ _ hr) (pc (yw _ _ _ _ eJ) (pc o1 pn)))) ?_
 refine ae hE 2 [] [] (kp [0,2,7,8]) (kq [96]) 144 pn ?_
 exact cV hE 2 [] (kp [0,2,7,8]) [(0,.ag 96)] 1 pn (zF N _ _ N _ _ _ h E hE)
noncomputable abbrev aab:=bV Tryz.f12
theorem xy (N l w m r) (h:md N l w m=some r):Sd 12 [(aH ai.cells ai.d l),(.agg (dK.cells w)),(.agg (aP.cells m))] [] 0 (aI r) []:=by
 unfold md at h
 refine gU (fu:=Tryz.f12) (c:=aab 1) (nt:=43) (fun hm=>rfl) ?_
 intro E hE
 refine ae hE 1 [] [] (kp [0,4,5]) (kq [0,16]) 48 pn ?_
 obtain ⟨cb,hr,h⟩:=aQ h
 refine ae hE 2 [(1,oT (aI cb))] [] (kp [0,4,5,7]) (kq [0,16]) 96 (pc (rR _ _ _ hr) pn) ?_
 refine ae hE 1 [] [] (kp [0,4,5,7,12]) (kq [0,16]) 128 pn ?_
 refine dm 0 12 h (fun dW h=>?_) (fun dW h=>?_)
 ·refine ae hE 1 [] [] (kp [6]) [] 160 pn ?_
  obtain rfl:=cJ h
  exact cP hE 0 Tryz.f12 [] (kp [6]) [] 160 pn [] pn
 ·obtain ⟨nD,eJ,h⟩:=aQ h
  refine ae hE 3 [(1,oT (aI nD))] [] (kp [0,4,5,8]) (kq [0,16]) 176 (pc o1 (pc (tn _ _ _ eJ) pn)) ?_
  refine ae hE 1 [] [] (kp [0,4,5,8,17]) (kq [0,16]) 208 pn ?_
  refine dm 0 17 h (fun jh h=>?_) (fun jh h=>?_)
  ·refine ae hE 1 [] [] (kp [6]) [] 240 pn ?_
   obtain rfl:=cJ h
   exact cP hE 0 Tryz.f12 [] (kp [6]) [] 240 pn [] pn
  ·refine ae hE 3 [] [] (kp [0,4,5,20]) (kq [0,16]) 240 (pc o1 pn) ?_
   refine dm 0 20 h (fun ta h=>?_) (fun ta h=>?_)
   ·refine ae hE 2 [] [] (kp [0,4,5,26]) (kq [0,16]) 336 (pc o1 pn) ?_
    refine dm 0 26 h (fun CE h=>?_) (fun CE h=>?_)
    ·refine ae hE 1 [] [] (kp [6]) [] 352 pn ?_
     obtain rfl:=cJ h
     exact cP hE 0 Tryz.f12 [] (kp [6]) [] 352 pn [] pn
    ·obtain ⟨Cz,jP,h⟩:=aQ h
     refine ae hE 3 [(4,oT (aB Cz))] [] (kp [32]) [] 432 (pc o1 (pc o1 (pc (BI _ _ _ _ _ jP) pn))) ?_
     refine dm 0 32 h (fun IQ h=>?_) (fun IQ h=>?_)
     ·refine ae hE 1 [] [] (kp [6]) [] 448 pn ?_
      obtain rfl:=cJ h
      exact cP hE 0 Tryz.f12 [] (kp [6]) [] 448 pn [] pn
     ·refine ae hE 2 [] [] (kp [6]) [] 448 pn ?_
      obtain rfl:=cJ h
      exact cP hE 0 Tryz.f12 [] (kp [6]) [] 448 pn [] pn
   ·refine ae hE 3 [] [] (kp [0,4,5,36]) (kq [0,16]) 304 (pc o1 pn) ?_
    refine dm 0 36 h (fun SD h=>?_) (fun SD h=>?_)
    ·refine ae hE 1 [] [] (kp [6]) [] 320 pn ?_
     obtain rfl:=cJ h
     exact cP hE 0 Tryz.f12 [] (kp [6]) [] 320 pn [] pn
    ·obtain ⟨Fz,mz,h⟩:=aQ h
     refine ae hE 3 [(4,oT (aB Fz))] [] (kp [42]) [] 400 (pc o1 (pc o1 (pc (CY _ _ _ _ _ mz) pn))) ?_
     refine dm 0 42 h (fun ZK h=>?_) (fun ZK h=>?_)
     ·refine ae hE 1 [] [] (kp [6]) [] 416 pn ?_
      obtain rfl:=cJ h
      exact cP hE 0 Tryz.f12 [] (kp [6]) [] 416 pn [] pn
     ·refine ae hE 2 [] [] (kp [6]) [] 416 pn ?_
      obtain rfl:=cJ h
      exact cP hE 0 Tryz.f12 [] (kp [6]) [] 416 pn [] pn
noncomputable abbrev Xc:=bV Tryz.f30
theorem I1 (N x n r) (h:ve N x n=some r):Sd 30 [(.agg (aj x)),(aI n)] [] 0 (aB r) []:=by
 unfold ve at h
 refine gU (fu:=Tryz.f30) (c:=Xc 1) (nt:=19) (fun hm=>rfl) ?_
 intro E hE
 refine ae hE 1 [] [] (kp [1,2]) (kq [0]) 32 pn ?_
 refine ae hE 1 [] [] (kp [4]) [] 272 (pc o1 (pc (fun hg:(decide (((x.fN.fL.length:Nat):Int)≤n))=true=>(pc hg pn)) (pc (fun hg:(decide (((x.fN.fL.length:Nat):Int)≤n))=true=>(pc hg (pc o1 pn))) (pc (fun hg:(decide (((x.fN.fL.length:Nat):Int)≤n))=true=>(pc hg pn)) (pc (fun hg:(decide (((x.fN.fL.length:Nat):Int)≤n))=true=>(pc hg (pc hg pn))) (pc (fun hq:(decide (((x.fN.fL.length:Nat):Int)≤n))=true=>(pc hq pn)) pn)))))) ?_
 obtain rfl:=cJ h
 exact cP hE 0 Tryz.f30 [] (kp [4]) [] 272 pn [] pn
noncomputable abbrev MR:=bV Tryz.f15
def BJ (N:Nat) (l:List aa) (n:Int) (K:Int→Option (Bool)):Prop:=∀ (i:Int) (r:Bool),K i=some r→∀ E,bq E 0→aD Tryz.prog E 15 19 (bd E [] (aB r)) [.code (MR 52),.inLoop (MR 52),.inBlock 0,.code (MR 7)] ⟨[(0,(aH aj aa.d l)),(1,(aI n)),(5,(aI i))],[],0⟩
theorem AD (N l n fuel):BJ N l n (ey N l n fuel):=by
 induction fuel with
 | zero=>intro _ r h;rw [ey.eq_1] at h;cases h
 | succ fuel ih =>
  intro i r h E hE
  rw [ey.eq_2] at h
  refine ae hE 2 [] [] (kp [0,1,5,9]) [] 64 pn ?_
  refine dm 0 9 h (fun dW h=>?_) (fun dW h=>?_)
  ·obtain ⟨c,h⟩:=ab h
   obtain ⟨LJ,hr,h⟩:=aQ h
   refine ae hE 4 [(5,oT (aB LJ))] [] (kp [0,1,5,18]) [] 176 (pc c (pc (I1 _ _ _ _ hr) pn)) ?_
   refine dm 0 18 h (fun jh h=>?_) (fun jh h=>?_)
   ·refine ae hE 1 [] [] (kp [4]) [] 192 pn ?_
    obtain rfl:=cJ h
    exact cP hE 0 Tryz.f15 [] (kp [4]) [] 192 pn [] pn
   ·refine ae hE 2 [] [] (kp [0,1,5]) [] 224 pn ?_
    exact cV hE 1 [] (kp [0,1,5]) [] 0 pn (ih _ _ h E hE)
  ·refine ae hE 2 [] [] (kp [4]) [] 80 pn ?_
   obtain rfl:=cJ h
   exact cP hE 0 Tryz.f15 [] (kp [4]) [] 80 pn [] pn
theorem oO (N l n r) (h:lh N l n=some r):Sd 15 [(aH aj aa.d l),(aI n)] [] 0 (aB r) []:=by
 unfold lh at h
 refine gU (fu:=Tryz.f15) (c:=MR 1) (nt:=19) (fun hm=>rfl) ?_
 intro E hE
 refine ae hE 1 [] [] (kp [0,1]) [] 16 pn ?_
 refine ae hE 2 [] [] (kp [0,1,5]) [] 32 pn ?_
 exact cV hE 2 [] (kp [0,1,5]) [] 0 pn (AD N _ _ N _ _ h E hE)
noncomputable abbrev Xd:=bV Tryz.f13
theorem G4 (N m r) (h:s8 N m=some r):Sd 13 [(.agg (aP.cells m))] [] 0 (aB r) []:=by
 unfold s8 at h
 refine gU (fu:=Tryz.f13) (c:=Xd 1) (nt:=23) (fun hm=>rfl) ?_
 intro E hE
 refine ae hE 1 [] [] (kp [1]) (kq [0]) 32 pn ?_
 obtain ⟨eF,hr,h⟩:=aQ h
 obtain ⟨iW,eJ,h⟩:=aQ h
 refine ae hE 1 [(13,oT (aB eF)),(18,oT (aB iW))] [] (kp [2]) [] 368 (pc o1 (pc (fun hg:(decide (((m.bc.length:Nat):Int)≤20))=true=>(pc hg (pc o1 pn))) (pc (fun hg:(decide (((m.bc.length:Nat):Int)≤20))=true=>(pc hg pn)) (pc (fun hg:(decide (((m.bc.length:Nat):Int)≤20))=true=>(pc hg pn)) (pc (fun hq:(decide (((m.bc.length:Nat):Int)≤20))=true=>(pc hq pn)) (pc (fun hg:(cond (decide (((m.bc.length:Nat):Int)≤20)) (decide (((m.bI.length:Nat):Int)≤6)) false)=true=>(pc hg (pc o1 pn))) (pc (fun hg:(cond (decide (((m.bc.length:Nat):Int)≤20)) (decide (((m.bI.length:Nat):Int)≤6)) false)=true=>(pc (oO _ _ _ _ (aF hr hg)) (pc hg pn))) (pc (fun hq:(cond (decide (((m.bc.length:Nat):Int)≤20)) (decide (((m.bI.length:Nat):Int)≤6)) false)=true=>(pc hq pn)) (pc (fun hg:(cond (cond (decide (((m.bc.length:Nat):Int)≤20)) (decide (((m.bI.length:Nat):Int)≤6)) false) eF false)=true=>(pc hg (pc o1 pn))) (pc (fun hg:(cond (cond (decide (((m.bc.length:Nat):Int)≤20)) (decide (((m.bI.length:Nat):Int)≤6)) false) eF false)=true=>(pc (oO _ _ _ _ (aF eJ hg)) (pc hg pn))) (pc (fun hq:(cond (cond (decide (((m.bc.length:Nat):Int)≤20)) (decide (((m.bI.length:Nat):Int)≤6)) false) eF false)=true=>(pc hq pn)) pn))))))))))) ?_
 obtain rfl:=cJ h
 exact cP hE 0 Tryz.f13 [] (kp [2]) [] 368 pn [] pn
noncomputable abbrev dp:=bV Tryz.f28
def AE (N:Nat) (l:List ai) (parts:List aa) (K:ar→Int→Option (Bool)):Prop:=∀ (sum:ar) (x:Int) (r:Bool),K sum x=some r→∀ E,bq E 0→aD Tryz.prog E 28 68 (bd E [] (aB r)) [.code (dp 116),.inLoop (dp 116),.inBlock 0,.code (dp 15)] ⟨[(2,(aH aj aa.d parts)),(7,(.op 0 0 0)),(16,(aH ai.cells ai.d l)),(17,(aI ((l.length:Nat):Int))),(18,(aI x))],[(0,vO 12 (ar.cells sum))],1⟩
theorem zG (N l parts fuel):AE N l parts (gJ N l parts fuel):=by
 induction fuel with
 | zero=>intro _ _ r h;rw [gJ.eq_1] at h;cases h
 | succ fuel ih =>
  intro sum x r h E hE
  rw [gJ.eq_2] at h
  refine ae hE 1 [] [] (kp [2,7,16,17,18,19]) (kq [0]) 17 pn ?_
  refine dm 1 19 h (fun dW h=>?_) (fun dW h=>?_)
  ·obtain ⟨c,h⟩:=ab h
   refine ae hE 4 [] [] (kp [2,7,8,9,16,17,18]) (kq [0,65]) 113 (pc c (pc o1 pn)) ?_
   obtain ⟨c2,h⟩:=ab h
   obtain ⟨eE,eJ,h⟩:=aQ h
   obtain ⟨c3,h⟩:=ab h
   obtain ⟨eT,jP,h⟩:=aQ h
   obtain ⟨qZ,mz,h⟩:=aQ h
   refine ae hE 2 [(5,oT (aI eE)),(12,oT (.agg (aj eT))),(13,oT (aI qZ))] [] (kp [2,7,8,9,16,17,18,38]) (kq [0,65]) 369 (pc c2 (pc (show Sd 58 [(.agg [(aB (((parts.getD ((x).toNat) aa.d).fN).fG)),(eU (((parts.getD ((x).toNat) aa.d).fN).fL)),(aB (((parts.getD ((x).toNat) aa.d).fD).fG)),(eU (((parts.getD ((x).toNat) aa.d).fD).fL))]),(.agg [(aB false),.nil,(aB false),.nil])] [] 0 (aI eE) [] from (Sound.conv (jj _ _ _ _ eJ) (.cons (Alike.refl _) (.cons (Alike.agg (.cons (Alike.refl _) (.cons Alike.nil (.cons (Alike.refl _) (.cons Alike.nil .nil))))) .nil)))) (pc (fun hg:(!(decide (eE < 0)))=true=>(pc hg (pc hg (pc (c3 hg) pn)))) (pc (fun hg:(!(decide (eE < 0)))=true=>(pc hg pn)) (pc (fun hg:(!(decide (eE < 0)))=true=>(pc (du _ _ _ (aF jP hg)) pn)) (pc (fun hg:(!(decide (eE < 0)))=true=>(pc (jj _ _ _ _ (aF mz hg)) (pc hg (pc hg pn)))) (pc (fun hg:(!(decide (eE < 0)))=true=>(pc hg pn)) (pc (fun hq:(!(decide (eE < 0)))=true=>(pc hq pn)) pn)))))))) ?_
   refine dm 0 38 h (fun jh h=>?_) (fun jh h=>?_)
   ·refine ae hE 1 [] [] (kp [6]) [] 385 pn ?_
    obtain rfl:=cJ h
    exact cP hE 0 Tryz.f28 [] (kp [6]) [] 385 pn [] pn
   ·obtain ⟨jW,qz,h⟩:=aQ h
    refine ae hE 2 [(1,oT (.agg (ar.cells jW)))] [] (kp [2,7,8,16,17,18,40,41]) (kq [0]) 417 (pc o1 (pc (mD _ _ _ qz) pn)) ?_
    refine ae hE 3 [] [] (kp [2,7,8,16,17,18,40,41,42]) (kq [0]) 433 pn ?_
    refine sA 1 [.code (dp 239218),.code (dp 239219),.inLoop (dp 59804),.inBlock 2,.inBlock 1,.code (dp 935),.inLoop (dp 116),.inBlock 0,.code (dp 15)] ?_
    refine sC 42 (dp 478436) (dp 478437) true (fun _=>?_) (fun hq=>absurd hq (by decide)) 
    refine ae hE 4 [] [] (kp [2,7,8,10,11,16,17,18,40,41]) (kq [0,465]) 513 (pc (show 0≤(0:Int)∧(0:Int) < ((3:Nat):Int) by decide) (pc o1 pn)) ?_
    obtain ⟨bL,vj,h⟩:=aQ h
    obtain ⟨bk,wv,h⟩:=aQ h
    refine ae hE 0 [(9,oT (.agg (aj bL))),(10,oT (.agg (aj bk)))] [] (kp [2,7,8,16,17,18,40,41]) (kq [0]) 721 (pc (show 0≤(0:Int)∧(0:Int) < 3 by decide) (pc o1 (pc c2 (pc o1 (pc (cT _ _ _ _ vj) (pc (eH _ _ _ _ wv) (pc (show 0≤(0:Int)∧(0:Int) < 3 by decide) (pc o1 pn)))))))) ?_
    refine ae hE 1 [] [] (kp [2,7,8,16,17,18,40,41]) (kq [0]) 753 pn ?_
    refine ae hE 2 [] [] (kp [2,7,8,16,17,18,40,41,42]) (kq [0]) 769 pn ?_
    refine sA 1 [.code (dp 239218),.code (dp 239219),.inLoop (dp 59804),.inBlock 2,.inBlock 1,.code (dp 935),.inLoop (dp 116),.inBlock 0,.code (dp 15)] ?_
    refine sC 42 (dp 478436) (dp 478437) true (fun _=>?_) (fun hq=>absurd hq (by decide)) 
    refine ae hE 4 [] [] (kp [2,7,8,10,11,16,17,18,40,41]) (kq [0,801]) 849 (pc (show 0≤(1:Int)∧(1:Int) < ((3:Nat):Int) by decide) (pc o1 pn)) ?_
    obtain ⟨cw,DI,h⟩:=aQ h
    obtain ⟨eu,DH,h⟩:=aQ h
    refine ae hE 0 [(9,oT (.agg (aj cw))),(10,oT (.agg (aj eu)))] [] (kp [2,7,8,16,17,18,40,41]) (kq [0]) 1057 (pc (show 0≤(1:Int)∧(1:Int) < 3 by decide) (pc o1 (pc c2 (pc o1 (pc (cT _ _ _ _ DI) (pc (eH _ _ _ _ DH) (pc (show 0≤(1:Int)∧(1:Int) < 3 by decide) (pc o1 pn)))))))) ?_
    refine ae hE 1 [] [] (kp [2,7,8,16,17,18,40,41]) (kq [0]) 1089 pn ?_
    refine ae hE 2 [] [] (kp [2,7,8,16,17,18,40,41,42]) (kq [0]) 1105 pn ?_
    refine sA 1 [.code (dp 239218),.code (dp 239219),.inLoop (dp 59804),.inBlock 2,.inBlock 1,.code (dp 935),.inLoop (dp 116),.inBlock 0,.code (dp 15)] ?_
    refine sC 42 (dp 478436) (dp 478437) true (fun _=>?_) (fun hq=>absurd hq (by decide)) 
    refine ae hE 4 [] [] (kp [2,7,8,10,11,16,17,18,40,41]) (kq [0,1137]) 1185 (pc (show 0≤(2:Int)∧(2:Int) < ((3:Nat):Int) by decide) (pc o1 pn)) ?_
    obtain ⟨dT,wu,h⟩:=aQ h
    obtain ⟨fB,yj,h⟩:=aQ h
    refine ae hE 0 [(9,oT (.agg (aj dT))),(10,oT (.agg (aj fB)))] [] (kp [2,7,8,16,17,18,40,41]) (kq [0]) 1393 (pc (show 0≤(2:Int)∧(2:Int) < 3 by decide) (pc o1 (pc c2 (pc o1 (pc (cT _ _ _ _ wu) (pc (eH _ _ _ _ yj) (pc (show 0≤(2:Int)∧(2:Int) < 3 by decide) (pc o1 pn)))))))) ?_
    refine ae hE 1 [] [] (kp [2,7,8,16,17,18,40,41]) (kq [0]) 1425 pn ?_
    refine ae hE 2 [] [] (kp [2,7,8,16,17,18,40,41,42]) (kq [0]) 1441 pn ?_
    refine sA 1 [.code (dp 239218),.code (dp 239219),.inLoop (dp 59804),.inBlock 2,.inBlock 1,.code (dp 935),.inLoop (dp 116),.inBlock 0,.code (dp 15)] ?_
    refine sC 42 (dp 478436) (dp 478437) false (fun hq=>absurd hq (by decide)) (fun _=>?_) 
    refine ae hE 2 [] [] (kp [2,7,16,17,18]) (kq [0]) 1473 pn ?_
    exact cV hE 1 [] (kp [2,7,16,17,18]) (kq [0]) 1 pn (ih _ _ _ h E hE)
  ·refine ae hE 3 [] [] (kp [59,60]) [] 49 (pc o1 pn) ?_
   refine ae hE 3 [] [] (kp [59,60,61]) [] 65 pn ?_
   refine sA 1 [.code (dp 978),.code (dp 979),.inLoop (dp 244),.inBlock 4,.code (dp 31)] ?_
   refine sC 61 (dp 1956) (dp 1957) true (fun _=>?_) (fun hq=>absurd hq (by decide)) 
   refine ae hE 4 [] [] (kp [13,59,60]) (kq [81]) 113 (pc (show 0≤(0:Int)∧(0:Int) < ((3:Nat):Int) by decide) (pc o1 pn)) ?_
   obtain ⟨Bl,FT,h⟩:=aQ h
   refine ae hE 1 [(2,oT (aI Bl))] [] (kp [59,60,66]) [] 177 (pc o1 (pc (show Sd 58 [(.agg (aj sum.e0)),(.agg [(aB false),.nil,(aB false),.nil])] [] 0 (aI Bl) [] from (Sound.conv (jj _ _ _ _ FT) (.cons (Alike.refl _) (.cons (Alike.agg (.cons (Alike.refl _) (.cons Alike.nil (.cons (Alike.refl _) (.cons Alike.nil .nil))))) .nil)))) pn)) ?_
   refine dm 0 66 h (fun ta h=>?_) (fun ta h=>?_)
   ·refine ae hE 1 [] [] (kp [6]) [] 193 pn ?_
    obtain rfl:=cJ h
    exact cP hE 0 Tryz.f28 [] (kp [6]) [] 193 pn [] pn
   ·refine ae hE 2 [] [] (kp [59,60]) [] 209 pn ?_
    refine ae hE 2 [] [] (kp [59,60,61]) [] 225 pn ?_
    refine sA 1 [.code (dp 978),.code (dp 979),.inLoop (dp 244),.inBlock 4,.code (dp 31)] ?_
    refine sC 61 (dp 1956) (dp 1957) true (fun _=>?_) (fun hq=>absurd hq (by decide)) 
    refine ae hE 4 [] [] (kp [13,59,60]) (kq [241]) 273 (pc (show 0≤(1:Int)∧(1:Int) < ((3:Nat):Int) by decide) (pc o1 pn)) ?_
    obtain ⟨Bm,FU,h⟩:=aQ h
    refine ae hE 1 [(2,oT (aI Bm))] [] (kp [59,60,66]) [] 337 (pc o1 (pc (show Sd 58 [(.agg (aj sum.e1)),(.agg [(aB false),.nil,(aB false),.nil])] [] 0 (aI Bm) [] from (Sound.conv (jj _ _ _ _ FU) (.cons (Alike.refl _) (.cons (Alike.agg (.cons (Alike.refl _) (.cons Alike.nil (.cons (Alike.refl _) (.cons Alike.nil .nil))))) .nil)))) pn)) ?_
    refine dm 0 66 h (fun CE h=>?_) (fun CE h=>?_)
    ·refine ae hE 1 [] [] (kp [6]) [] 353 pn ?_
     obtain rfl:=cJ h
     exact cP hE 0 Tryz.f28 [] (kp [6]) [] 353 pn [] pn
    ·refine ae hE 2 [] [] (kp [59,60]) [] 369 pn ?_
     refine ae hE 2 [] [] (kp [59,60,61]) [] 385 pn ?_
     refine sA 1 [.code (dp 978),.code (dp 979),.inLoop (dp 244),.inBlock 4,.code (dp 31)] ?_
     refine sC 61 (dp 1956) (dp 1957) true (fun _=>?_) (fun hq=>absurd hq (by decide)) 
     refine ae hE 4 [] [] (kp [13,59,60]) (kq [401]) 433 (pc (show 0≤(2:Int)∧(2:Int) < ((3:Nat):Int) by decide) (pc o1 pn)) ?_
     obtain ⟨Bn,IV,h⟩:=aQ h
     refine ae hE 1 [(2,oT (aI Bn))] [] (kp [59,60,66]) [] 497 (pc o1 (pc (show Sd 58 [(.agg (aj sum.e2)),(.agg [(aB false),.nil,(aB false),.nil])] [] 0 (aI Bn) [] from (Sound.conv (jj _ _ _ _ IV) (.cons (Alike.refl _) (.cons (Alike.agg (.cons (Alike.refl _) (.cons Alike.nil (.cons (Alike.refl _) (.cons Alike.nil .nil))))) .nil)))) pn)) ?_
     refine dm 0 66 h (fun IQ h=>?_) (fun IQ h=>?_)
     ·refine ae hE 1 [] [] (kp [6]) [] 513 pn ?_
      obtain rfl:=cJ h
      exact cP hE 0 Tryz.f28 [] (kp [6]) [] 513 pn [] pn
     ·refine ae hE 2 [] [] (kp [59,60]) [] 529 pn ?_
      refine ae hE 2 [] [] (kp [59,60,61]) [] 545 pn ?_
      refine sA 1 [.code (dp 978),.code (dp 979),.inLoop (dp 244),.inBlock 4,.code (dp 31)] ?_
      refine sC 61 (dp 1956) (dp 1957) false (fun hq=>absurd hq (by decide)) (fun _=>?_) 
      refine ae hE 2 [] [] (kp [6]) [] 561 pn ?_
      obtain rfl:=cJ h
      exact cP hE 0 Tryz.f28 [] (kp [6]) [] 561 pn [] pn
theorem CZ (N l w parts r) (h:qG N l w parts=some r):Sd 28 [(aH ai.cells ai.d l),(.agg (dK.cells w)),(aH aj aa.d parts)] [] 0 (aB r) []:=by
 unfold qG at h
 refine gU (fu:=Tryz.f28) (c:=dp 1) (nt:=68) (fun hm=>rfl) ?_
 intro E hE
 refine ae hE 1 [] [] (kp [0,2,4]) (kq [0]) 32 pn ?_
 obtain ⟨ao,hr,h⟩:=aQ h
 refine ae hE 1 [(1,oT (.agg (ar.cells ao)))] [] (kp [0,2,7]) (kq [64]) 96 (pc o1 (pc (qA _ _ _ hr) (pc o1 pn))) ?_
 refine ae hE 2 [] [] (kp [2,7,16,17,18]) (kq [64]) 144 pn ?_
 exact cV hE 2 [] (kp [2,7,16,17,18]) [(0,.ag 64)] 1 pn (zG N _ _ N _ _ _ h E hE)
noncomputable abbrev mF:=bV Tryz.f61
theorem rT (N f C0 r) (h:lK N f C0=some r):Sd 61 [(.agg (ar.cells f)),(.op 0 0 0)] [(0,vO 1 [(aH aj aa.d C0)])] 1 (.agg (aj r)) [(0,vO 1 [(aH aj aa.d C0)])]:=by
 unfold lK at h
 refine gU (fu:=Tryz.f61) (c:=mF 1) (nt:=22) (fun hm=>absurd hm (by decide)) ?_
 intro E hE
 refine ae hE 1 [] [] (kp [1,2,3]) (kq [0,1,17]) 33 pn ?_
 obtain ⟨eT,hr,h⟩:=aQ h
 refine ae hE 1 [(0,oT (.agg (aj eT)))] [] (kp [1,2,3,4]) (kq [0,1,17,49]) 81 (pc (du _ _ _ hr) (pc o1 pn)) ?_
 refine ae hE 2 [] [] (kp [1,2,3,4,7]) (kq [0,1,17,49]) 97 pn ?_
 refine ae hE 3 [] [] (kp [1,2,3,4,7,8]) (kq [0,1,17,49]) 113 pn ?_
 refine sA 1 [.code (mF 466),.code (mF 467),.inLoop (mF 116),.inBlock 0,.code (mF 15)] ?_
 refine sC 8 (mF 932) (mF 933) true (fun _=>?_) (fun hq=>absurd hq (by decide)) 
 refine ae hE 4 [] [] (kp [1,2,3,4,5,7]) (kq [0,1,17,49]) 145 pn ?_
 obtain ⟨c,h⟩:=ab h
 obtain ⟨bL,eJ,h⟩:=aQ h
 obtain ⟨bk,jP,h⟩:=aQ h
 refine ae hE 0 [(8,oT (.agg (aj bL))),(9,oT (.agg (aj bk)))] [] (kp [1,2,3,4,7]) (kq [0,1,17,49]) 321 (pc o1 (pc o1 (pc c (pc (show 0≤(0:Int)∧(0:Int) < 3 by decide) (pc o1 (pc (cT _ _ _ _ eJ) (pc (eH _ _ _ _ jP) (pc o1 pn)))))))) ?_
 refine ae hE 1 [] [] (kp [1,2,3,4,7]) (kq [0,1,17,49]) 353 pn ?_
 refine ae hE 2 [] [] (kp [1,2,3,4,7,8]) (kq [0,1,17,49]) 369 pn ?_
 refine sA 1 [.code (mF 466),.code (mF 467),.inLoop (mF 116),.inBlock 0,.code (mF 15)] ?_
 refine sC 8 (mF 932) (mF 933) true (fun _=>?_) (fun hq=>absurd hq (by decide)) 
 refine ae hE 4 [] [] (kp [1,2,3,4,5,7]) (kq [0,1,17,49]) 401 pn ?_
 obtain ⟨c2,h⟩:=ab h
 obtain ⟨cw,mz,h⟩:=aQ h
 obtain ⟨eu,qz,h⟩:=aQ h
 refine ae hE 0 [(8,oT (.agg (aj cw))),(9,oT (.agg (aj eu)))] [] (kp [1,2,3,4,7]) (kq [0,1,17,49]) 577 (pc o1 (pc o1 (pc c2 (pc (show 0≤(1:Int)∧(1:Int) < 3 by decide) (pc o1 (pc (cT _ _ _ _ mz) (pc (eH _ _ _ _ qz) (pc o1 pn)))))))) ?_
 refine ae hE 1 [] [] (kp [1,2,3,4,7]) (kq [0,1,17,49]) 609 pn ?_
 refine ae hE 2 [] [] (kp [1,2,3,4,7,8]) (kq [0,1,17,49]) 625 pn ?_
 refine sA 1 [.code (mF 466),.code (mF 467),.inLoop (mF 116),.inBlock 0,.code (mF 15)] ?_
 refine sC 8 (mF 932) (mF 933) true (fun _=>?_) (fun hq=>absurd hq (by decide)) 
 refine ae hE 4 [] [] (kp [1,2,3,4,5,7]) (kq [0,1,17,49]) 657 pn ?_
 obtain ⟨c3,h⟩:=ab h
 obtain ⟨dT,vj,h⟩:=aQ h
 obtain ⟨fB,wv,h⟩:=aQ h
 refine ae hE 0 [(8,oT (.agg (aj dT))),(9,oT (.agg (aj fB)))] [] (kp [1,2,3,4,7]) (kq [0,1,17,49]) 833 (pc o1 (pc o1 (pc c3 (pc (show 0≤(2:Int)∧(2:Int) < 3 by decide) (pc o1 (pc (cT _ _ _ _ vj) (pc (eH _ _ _ _ wv) (pc o1 pn)))))))) ?_
 refine ae hE 1 [] [] (kp [1,2,3,4,7]) (kq [0,1,17,49]) 865 pn ?_
 refine ae hE 2 [] [] (kp [1,2,3,4,7,8]) (kq [0,1,17,49]) 881 pn ?_
 refine sA 1 [.code (mF 466),.code (mF 467),.inLoop (mF 116),.inBlock 0,.code (mF 15)] ?_
 refine sC 8 (mF 932) (mF 933) false (fun hq=>absurd hq (by decide)) (fun _=>?_) 
 refine ae hE 2 [] [] (kp [3]) (kq [0,17]) 913 (pc o1 (pc o1 pn)) ?_
 obtain rfl:=cJ h
 exact cP hE 0 Tryz.f61 [] (kp [3]) (kq [0,17]) 913 pn [17] (pc o1 pn)
noncomputable abbrev F1:=bV Tryz.f29
def rU (N:Nat) (l:List ai) (proof:List aa) (K:aa→Int→Option (Bool)):Prop:=∀ (sum:aa) (x:Int) (r:Bool),K sum x=some r→∀ E,bq E 0→aD Tryz.prog E 29 39 (bd E [] (aB r)) [.code (F1 244),.inLoop (F1 244),.inBlock 0,.code (F1 31)] ⟨[(7,(.fn (.func 61) [] [(.op 0 0 0)])),(8,(.op 1 0 0)),(17,(aH ai.cells ai.d l)),(18,(aI ((l.length:Nat):Int))),(19,(aI x))],[(0,vO 1 [(aH aj aa.d proof)]),(1,vO 4 (aj sum))],2⟩
def zH (N:Nat) (l:List ai) (proof:List aa) (x:Int) (K:aa→Option (Bool)):Prop:=∀ (Bk:aa) (r:Bool),K Bk=some r→∀ E,bq E 0→aD Tryz.prog E 29 39 (bd E [] (aB r)) [.code (F1 1959),.inLoop (F1 244),.inBlock 0,.code (F1 31)] ⟨[(7,(.fn (.func 61) [] [(.op 0 0 0)])),(8,(.op 1 0 0)),(17,(aH ai.cells ai.d l)),(18,(aI ((l.length:Nat):Int))),(19,(aI x))],[(0,vO 1 [(aH aj aa.d proof)]),(1,vO 4 (aj Bk))],2⟩
theorem rh (N:Nat) (l:List ai) (proof:List aa) (x:Int) (lB:aa→Int→Option (Bool)) (yx:rU N l proof lB):zH N l proof x (jy N l proof x lB):=by
 intro Bk r h E hE
 unfold jy at h
 refine ae hE 0 [] [] (kp [7,8,17,18,19]) (kq [0,1]) 34 pn ?_
 exact cV hE 1 [] (kp [7,8,17,18,19]) (kq [0,1]) 2 pn (yx _ _ _ h E hE)
theorem yy (N l proof fuel):rU N l proof (eP N l proof fuel):=by
 induction fuel with
 | zero=>intro _ _ r h;rw [eP.eq_1] at h;cases h
 | succ fuel ih =>
  intro sum x r h E hE
  rw [eP.eq_2] at h
  refine ae hE 1 [] [] (kp [7,8,17,18,19,20]) (kq [0,1]) 18 pn ?_
  refine dm 1 20 h (fun dW h=>?_) (fun dW h=>?_)
  ·obtain ⟨c,h⟩:=ab h
   refine ae hE 4 [] [] (kp [7,8,10,17,18,19]) (kq [0,1,50]) 82 (pc c (pc o1 pn)) ?_
   obtain ⟨jW,jP,h⟩:=aQ h
   obtain ⟨vf,mz,h⟩:=aQ h
   refine ae hE 1 [(2,oT (.agg (ar.cells jW))),(3,⟨[0],true,(.agg (aj vf)),[],0,false,none⟩)] [] (kp [7,8,11,17,18,19]) (kq [0,1,146]) 178 (pc o1 (pc (mD _ _ _ jP) (pc (rT _ _ _ _ mz) (pc o1 pn)))) ?_
   obtain ⟨eE,qz,h⟩:=aQ h
   refine ae hE 1 [(2,oT (aI eE))] [] (kp [7,8,11,17,18,19,30]) (kq [0,1,146]) 242 (pc o1 (pc (show Sd 58 [(.agg (aj vf)),(.agg [(aB false),.nil,(aB false),.nil])] [] 0 (aI eE) [] from (Sound.conv (jj _ _ _ _ qz) (.cons (Alike.refl _) (.cons (Alike.agg (.cons (Alike.refl _) (.cons Alike.nil (.cons (Alike.refl _) (.cons Alike.nil .nil))))) .nil)))) pn)) ?_
   refine dm 0 30 h (fun jh h=>?_) (fun jh h=>?_)
   ·obtain ⟨bk,vj,h⟩:=aQ h
    refine ae hE 0 [(2,oT (.agg (aj bk)))] [] (kp [7,8,17,18,19]) (kq [0,1]) 306 (pc o1 (pc o1 (pc (eH _ _ _ _ vj) (pc o1 pn)))) ?_
    exact cV hE 1 [] (kp [7,8,17,18,19]) (kq [0,1]) 2 pn (rh N _ _ _ _ ih _ _ h E hE)
   ·exact cV hE 2 [] (kp [7,8,17,18,19]) (kq [0,1]) 2 pn (rh N _ _ _ _ ih _ _ h E hE)
  ·obtain ⟨qZ,wv,h⟩:=aQ h
   refine ae hE 2 [(2,oT (aI qZ))] [] (kp [6]) [] 98 (pc o1 (pc (show Sd 58 [(.agg (aj sum)),(.agg [(aB false),.nil,(aB false),.nil])] [] 0 (aI qZ) [] from (Sound.conv (jj _ _ _ _ wv) (.cons (Alike.refl _) (.cons (Alike.agg (.cons (Alike.refl _) (.cons Alike.nil (.cons (Alike.refl _) (.cons Alike.nil .nil))))) .nil)))) pn)) ?_
   obtain rfl:=cJ h
   exact cP hE 0 Tryz.f29 [] (kp [6]) [] 98 pn [] pn
theorem BK (N l w proof r) (h:p7 N l w proof=some r):Sd 29 [(aH ai.cells ai.d l),(.agg (dK.cells w)),(aH aj aa.d proof)] [] 0 (aB r) []:=by
 unfold p7 at h
 refine gU (fu:=Tryz.f29) (c:=F1 1) (nt:=39) (fun hm=>rfl) ?_
 intro E hE
 refine ae hE 1 [] [] (kp [0,4,5]) (kq [0,16]) 48 pn ?_
 refine ae hE 1 [] [] (kp [0,4,7]) (kq [0,16]) 80 pn ?_
 obtain ⟨ao,hr,h⟩:=aQ h
 obtain ⟨FA,eJ,h⟩:=aQ h
 refine ae hE 1 [(2,oT (.agg (ar.cells ao))),(3,⟨[16],true,(.agg (aj FA)),[],0,false,none⟩)] [] (kp [0,7,8]) (kq [16,144]) 176 (pc o1 (pc (qA _ _ _ hr) (pc (rT _ _ _ _ eJ) (pc o1 pn)))) ?_
 refine ae hE 2 [] [] (kp [7,8,17,18,19]) (kq [16,144]) 224 pn ?_
 exact cV hE 2 [] (kp [7,8,17,18,19]) [(0,.ag 16),(1,.ag 144)] 2 pn (yy N _ _ N _ _ _ h E hE)
noncomputable abbrev Xe:=bV Tryz.f14
theorem pA (N l w m r) (h:gK N l w m=some r):Sd 14 [(aH ai.cells ai.d l),(.agg (dK.cells w)),(.agg (aP.cells m))] [] 0 (aI r) []:=by
 unfold gK at h
 refine gU (fu:=Tryz.f14) (c:=Xe 1) (nt:=63) (fun hm=>rfl) ?_
 intro E hE
 refine ae hE 1 [] [] (kp [0,4,5]) (kq [0,16]) 48 pn ?_
 obtain ⟨cb,hr,h⟩:=aQ h
 refine ae hE 2 [(1,oT (aI cb))] [] (kp [0,4,5,7]) (kq [0,16]) 96 (pc (mU _ _ _ hr) pn) ?_
 refine ae hE 1 [] [] (kp [0,4,5,7,12]) (kq [0,16]) 128 pn ?_
 refine dm 0 12 h (fun dW h=>?_) (fun dW h=>?_)
 ·refine ae hE 1 [] [] (kp [6]) [] 160 pn ?_
  obtain rfl:=cJ h
  exact cP hE 0 Tryz.f14 [] (kp [6]) [] 160 pn [] pn
 ·obtain ⟨l8,eJ,h⟩:=aQ h
  refine ae hE 3 [(1,oT (aI l8))] [] (kp [0,4,5,8]) (kq [0,16]) 176 (pc o1 (pc (rf _ _ _ eJ) pn)) ?_
  refine ae hE 1 [] [] (kp [0,4,5,8,17]) (kq [0,16]) 208 pn ?_
  refine dm 0 17 h (fun jh h=>?_) (fun jh h=>?_)
  ·refine ae hE 1 [] [] (kp [6]) [] 240 pn ?_
   obtain rfl:=cJ h
   exact cP hE 0 Tryz.f14 [] (kp [6]) [] 240 pn [] pn
  ·refine ae hE 3 [] [] (kp [0,4,5,39]) (kq [0,16]) 544 (pc o1 (pc (fun hg:m.aJ=true=>(pc hg (pc o1 pn))) (pc (fun hg:m.aJ=true=>(pc hg pn)) (pc (fun hg:m.aJ=true=>(pc hg pn)) (pc (fun hg:m.aJ=true=>(pc hg (pc hg pn))) (pc (fun hq:m.aJ=true=>(pc hq pn)) (pc (fun hg:(!(cond m.aJ (((m.bc.length:Nat):Int) != ((l.length:Nat):Int)) false))=true=>(pc hg (pc o1 pn))) (pc (fun hg:(!(cond m.aJ (((m.bc.length:Nat):Int) != ((l.length:Nat):Int)) false))=true=>(pc hg pn)) (pc (fun hg:((!(cond m.aJ (((m.bc.length:Nat):Int) != ((l.length:Nat):Int)) false)) && ((!(cond m.aJ (((m.bc.length:Nat):Int) != ((l.length:Nat):Int)) false)) && (!m.aJ)))=true=>(pc hg (pc o1 pn))) (pc (fun hg:((!(cond m.aJ (((m.bc.length:Nat):Int) != ((l.length:Nat):Int)) false)) && ((!(cond m.aJ (((m.bc.length:Nat):Int) != ((l.length:Nat):Int)) false)) && (!m.aJ)))=true=>(pc hg pn)) (pc (fun hg:((!(cond m.aJ (((m.bc.length:Nat):Int) != ((l.length:Nat):Int)) false)) && ((!(cond m.aJ (((m.bc.length:Nat):Int) != ((l.length:Nat):Int)) false)) && (!m.aJ)))=true=>(pc hg pn)) (pc (fun hg:(!(cond m.aJ (((m.bc.length:Nat):Int) != ((l.length:Nat):Int)) false))=true=>(pc hg (pc hg (pc (fun hq:(!m.aJ)=true=>(pc (show ((!(cond m.aJ (((m.bc.length:Nat):Int) != ((l.length:Nat):Int)) false)) && ((!(cond m.aJ (((m.bc.length:Nat):Int) != ((l.length:Nat):Int)) false)) && (!m.aJ)))=true from (lU hg (lU hg hq))) pn)) pn)))) (pc (fun hq:(!(cond m.aJ (((m.bc.length:Nat):Int) != ((l.length:Nat):Int)) false))=true=>(pc hq pn)) pn))))))))))))) ?_
   refine dm 0 39 h (fun ta h=>?_) (fun ta h=>?_)
   ·refine ae hE 1 [] [] (kp [6]) [] 560 pn ?_
    obtain rfl:=cJ h
    exact cP hE 0 Tryz.f14 [] (kp [6]) [] 560 pn [] pn
   ·obtain ⟨me,jP,h⟩:=aQ h
    obtain ⟨IM,mz,h⟩:=aQ h
    refine ae hE 3 [(7,oT (aB me)),(19,oT (aB IM))] [] (kp [62]) [] 912 (pc o1 (pc (fun hg:m.aJ=true=>(pc o1 pn)) (pc (fun hg:m.aJ=true=>(pc hg (pc o1 pn))) (pc (fun hg:m.aJ=true=>(pc (CZ _ _ _ _ _ (aF jP hg)) (pc hg (pc hg (pc hg pn))))) (pc (fun hg:m.aJ=true=>(pc hg pn)) (pc (fun hq:m.aJ=true=>(pc hq pn)) (pc (fun hg:(!(cond m.aJ (!me) false))=true=>(pc hg (pc o1 pn))) (pc (fun hg:(!(cond m.aJ (!me) false))=true=>(pc hg pn)) (pc (fun hg:((!(cond m.aJ (!me) false)) && ((!(cond m.aJ (!me) false)) && (!m.aJ)))=true=>(pc o1 pn)) (pc (fun hg:((!(cond m.aJ (!me) false)) && ((!(cond m.aJ (!me) false)) && (!m.aJ)))=true=>(pc hg (pc o1 pn))) (pc (fun hg:((!(cond m.aJ (!me) false)) && ((!(cond m.aJ (!me) false)) && (!m.aJ)))=true=>(pc (BK _ _ _ _ _ (aF mz hg)) (pc hg (pc hg (pc hg pn))))) (pc (fun hg:((!(cond m.aJ (!me) false)) && ((!(cond m.aJ (!me) false)) && (!m.aJ)))=true=>(pc hg pn)) (pc (fun hg:(!(cond m.aJ (!me) false))=true=>(pc hg (pc hg (pc (fun hq:(!m.aJ)=true=>(pc (show ((!(cond m.aJ (!me) false)) && ((!(cond m.aJ (!me) false)) && (!m.aJ)))=true from (lU hg (lU hg hq))) pn)) pn)))) (pc (fun hq:(!(cond m.aJ (!me) false))=true=>(pc hq pn)) pn)))))))))))))) ?_
    refine dm 0 62 h (fun CE h=>?_) (fun CE h=>?_)
    ·refine ae hE 1 [] [] (kp [6]) [] 928 pn ?_
     obtain rfl:=cJ h
     exact cP hE 0 Tryz.f14 [] (kp [6]) [] 928 pn [] pn
    ·refine ae hE 2 [] [] (kp [6]) [] 928 pn ?_
     obtain rfl:=cJ h
     exact cP hE 0 Tryz.f14 [] (kp [6]) [] 928 pn [] pn
noncomputable abbrev MT:=bV Tryz.f4
def xz (N:Nat) (l:List ai) (w:dK) (m:aP) (eA:aP×Int) (K:Int→Option (Bool)):Prop:=∀ (f:Int) (r:Bool),K f=some r→∀ E,bq E 0→aD Tryz.prog E 4 100 (bd E [] (aB r)) [.code (MT 508),.code (MT 509),.code (MT 255)] ⟨[(0,(aH ai.cells ai.d l)),(4,(.op 0 0 0)),(5,(.op 1 0 0)),(7,(.op 2 0 0)),(8,(aI eA.2)),(9,(aI f))],[(0,vO 3 (dK.cells w)),(1,vO 3 (aP.cells m)),(2,vO 3 (aP.cells eA.1))],3⟩
theorem qc (N l w m eA):xz N l w m eA (lC N l w m eA):=by
 intro f r h E hE
 unfold lC at h
 refine ae hE 0 [] [] (kp [0,4,5,7,8,9,43]) (kq [0,1,2]) 35 pn ?_
 refine dm 0 43 h (fun CE h=>?_) (fun CE h=>?_)
 ·refine ae hE 1 [] [] (kp [6]) [] 371 (pc (fun hg:(eA.2 == f)=true=>(pc hg (pc o1 pn))) (pc (fun hg:(eA.2 == f)=true=>(pc hg pn)) (pc (fun hq:(eA.2 == f)=true=>(pc hq pn)) (pc (fun hg:(cond (eA.2 == f) (!eA.1.aJ) false)=true=>(pc hg (pc o1 pn))) (pc (fun hg:(cond (eA.2 == f) (!eA.1.aJ) false)=true=>(pc hg pn)) (pc (fun hg:(cond (eA.2 == f) (!eA.1.aJ) false)=true=>(pc hg pn)) (pc (fun hq:(cond (eA.2 == f) (!eA.1.aJ) false)=true=>(pc hq pn)) (pc (fun hg:(cond (cond (eA.2 == f) (!eA.1.aJ) false) (((eA.1.bc.length:Nat):Int) == 0) false)=true=>(pc hg (pc o1 pn))) (pc (fun hg:(cond (cond (eA.2 == f) (!eA.1.aJ) false) (((eA.1.bc.length:Nat):Int) == 0) false)=true=>(pc hg pn)) (pc (fun hg:(cond (cond (eA.2 == f) (!eA.1.aJ) false) (((eA.1.bc.length:Nat):Int) == 0) false)=true=>(pc hg pn)) (pc (fun hq:(cond (cond (eA.2 == f) (!eA.1.aJ) false) (((eA.1.bc.length:Nat):Int) == 0) false)=true=>(pc hq pn)) pn))))))))))) ?_
  obtain rfl:=cJ h
  exact cP hE 0 Tryz.f4 [] (kp [6]) [] 371 pn [] pn
 ·obtain ⟨uw,wv,h⟩:=aQ h
  refine ae hE 3 [(6,oT (aI uw))] [] (kp [0,4,5,7,72]) (kq [0,1,2]) 179 (pc (fun hg:(!(eA.2 != 0))=true=>(pc o1 pn)) (pc (fun hg:(!(eA.2 != 0))=true=>(pc o1 pn)) (pc (fun hg:(!(eA.2 != 0))=true=>(pc (pA _ _ _ _ _ (aF wv hg)) (pc hg (pc hg (pc hg pn))))) (pc (fun hg:(!(eA.2 != 0))=true=>(pc hg pn)) (pc (fun hq:(!(eA.2 != 0))=true=>(pc hq pn)) pn))))) ?_
  refine dm 0 72 h (fun IQ h=>?_) (fun IQ h=>?_)
  ·refine ae hE 1 [] [] (kp [6]) [] 195 pn ?_
   obtain rfl:=cJ h
   exact cP hE 0 Tryz.f4 [] (kp [6]) [] 195 pn [] pn
  ·obtain ⟨eF,DI,h⟩:=aQ h
   obtain ⟨iW,DH,h⟩:=aQ h
   obtain ⟨s9,wu,h⟩:=aQ h
   refine ae hE 3 [(2,oT (aB eF)),(6,oT (aB iW)),(12,oT (aI s9))] [] (kp [0,4,5,7,87]) (kq [0,1,2]) 419 (pc o1 (pc (oO _ _ _ _ DI) (pc (fun hg:eF=true=>(pc hg (pc o1 pn))) (pc (fun hg:eF=true=>(pc (oO _ _ _ _ (aF DH hg)) (pc hg pn))) (pc (fun hq:eF=true=>(pc hq pn)) (pc (fun hg:(cond eF iW false)=true=>(pc o1 pn)) (pc (fun hg:(cond eF iW false)=true=>(pc o1 pn)) (pc (fun hg:(cond eF iW false)=true=>(pc (xy _ _ _ _ _ (aF wu hg)) (pc hg (pc hg (pc hg pn))))) (pc (fun hg:(cond eF iW false)=true=>(pc hg pn)) (pc (fun hq:(cond eF iW false)=true=>(pc hq pn)) pn)))))))))) ?_
   refine dm 0 87 h (fun SD h=>?_) (fun SD h=>?_)
   ·refine ae hE 1 [] [] (kp [6]) [] 435 pn ?_
    obtain rfl:=cJ h
    exact cP hE 0 Tryz.f4 [] (kp [6]) [] 435 pn [] pn
   ·obtain ⟨ko,yj,h⟩:=aQ h
    refine ae hE 2 [(3,oT (aI ko))] [] (kp [6]) [] 627 (pc o1 (pc o1 (pc (pA _ _ _ _ _ yj) (pc (fun hg:(!(ko != 0))=true=>(pc hg (pc o1 pn))) (pc (fun hg:(!(ko != 0))=true=>(pc hg (pc o1 pn))) (pc (fun hg:(!(ko != 0))=true=>(pc hg (pc hg pn))) (pc (fun hq:(!(ko != 0))=true=>(pc hq pn)) pn))))))) ?_
    obtain rfl:=cJ h
    exact cP hE 0 Tryz.f4 [] (kp [6]) [] 627 pn [] pn
theorem zI (N l w m r) (h:lL N l w m=some r):Sd 4 [(aH ai.cells ai.d l),(.agg (dK.cells w)),(.agg (aP.cells m))] [] 0 (aB r) []:=by
 unfold lL at h
 refine gU (fu:=Tryz.f4) (c:=MT 1) (nt:=100) (fun hm=>rfl) ?_
 intro E hE
 refine ae hE 1 [] [] (kp [0,4,5]) (kq [0,16]) 48 pn ?_
 obtain ⟨LK,hr,h⟩:=aQ h
 refine ae hE 2 [(0,oT (aB LK))] [] (kp [0,4,5,11]) (kq [0,16]) 80 (pc (FV _ _ hr) pn) ?_
 refine dm 0 11 h (fun dW h=>?_) (fun dW h=>?_)
 ·refine ae hE 1 [] [] (kp [6]) [] 96 pn ?_
  obtain rfl:=cJ h
  exact cP hE 0 Tryz.f4 [] (kp [6]) [] 96 pn [] pn
 ·obtain ⟨mQ,eJ,h⟩:=aQ h
  obtain ⟨vg,jP,h⟩:=aQ h
  refine ae hE 3 [(1,oT (aB mQ)),(5,oT (aB vg))] [] (kp [0,4,5,29]) (kq [0,16]) 368 (pc (FX _ _ _ eJ) (pc (fun hg:(!(!mQ))=true=>(pc o1 pn)) (pc (fun hg:(!(!mQ))=true=>(pc (G4 _ _ _ (aF jP hg)) (pc hg pn))) (pc (fun hg:(!(!mQ))=true=>(pc hg pn)) (pc (fun hq:(!(!mQ))=true=>(pc hq pn)) (pc (fun hg:(!(cond (!mQ) true (!vg)))=true=>(pc hg pn)) (pc (fun hg:(!(cond (!mQ) true (!vg)))=true=>(pc hg pn)) (pc (fun hg:((!(cond (!mQ) true (!vg))) && ((!(cond (!mQ) true (!vg))) && (decide (((l.length:Nat):Int) > 6))))=true=>(pc hg pn)) (pc (fun hg:((!(cond (!mQ) true (!vg))) && ((!(cond (!mQ) true (!vg))) && (decide (((l.length:Nat):Int) > 6))))=true=>(pc hg pn)) (pc (fun hg:(!(cond (!mQ) true (!vg)))=true=>(pc hg (pc hg (pc (fun hq:(decide (((l.length:Nat):Int) > 6))=true=>(pc (show ((!(cond (!mQ) true (!vg))) && ((!(cond (!mQ) true (!vg))) && (decide (((l.length:Nat):Int) > 6))))=true from (lU hg (lU hg hq))) pn)) pn)))) (pc (fun hq:(!(cond (!mQ) true (!vg)))=true=>(pc hq pn)) pn))))))))))) ?_
  refine dm 0 29 h (fun jh h=>?_) (fun jh h=>?_)
  ·refine ae hE 1 [] [] (kp [6]) [] 384 pn ?_
   obtain rfl:=cJ h
   exact cP hE 0 Tryz.f4 [] (kp [6]) [] 384 pn [] pn
  ·obtain ⟨eA,mz,h⟩:=aQ h
   refine ae hE 2 [(2,oT (.tup [(.agg (aP.cells eA.1)),(aI eA.2)]))] [] (kp [0,4,5,7,8]) (kq [0,16,464]) 512 (pc o1 (pc (D1 _ _ _ _ mz) (pc o1 pn))) ?_
   obtain ⟨cb,qz,h⟩:=aQ h
   refine ae hE 1 [(1,oT (aI cb))] [] (kp [0,4,5,7,8,9]) (kq [0,16,464]) 560 (pc (rR _ _ _ qz) pn) ?_
   refine ae hE 2 [] [] (kp [0,4,5,7,8,9,39]) (kq [0,16,464]) 592 pn ?_
   refine dm 0 39 h (fun ta h=>?_) (fun ta h=>?_)
   ·obtain ⟨nD,vj,h⟩:=aQ h
    refine ae hE 0 [(1,oT (aI nD))] [] (kp [0,4,5,7,8,9]) (kq [0,16,464]) 640 (pc o1 (pc (tn _ _ _ vj) pn)) ?_
    exact cV hE 2 [] (kp [0,4,5,7,8,9]) (kq [0] ++ [(1,.ag 16),(2,.ag 464)]) 3 pn (qc N _ _ _ _ _ _ h E hE)
   ·exact cV hE 3 [] (kp [0,4,5,7,8,9]) (kq [0] ++ [(1,.ag 16),(2,.ag 464)]) 3 pn (qc N _ _ _ _ _ _ h E hE)
end Go.Den
