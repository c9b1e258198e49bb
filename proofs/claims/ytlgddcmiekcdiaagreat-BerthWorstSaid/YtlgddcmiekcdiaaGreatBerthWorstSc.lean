/- Each function of the program does what its Lean function computes (part 3). No conditions. -/
import Derived.Test.YtlgddcmiekcdiaaGreatBerthWorstSb
import Derived.Test.YtlgddcmiekcdiaaGreatProg
set_option linter.unusedVariables false
set_option maxRecDepth 100000
namespace Go.Den
open Go.Ab Go.Proofs Go.Ab.aE
noncomputable abbrev Ws:=b8 Tryz.f95
theorem Ii (N a b r) (h:yF N a b=some r):Sd 95 [(.agg (lg a)),(.agg (lg b))] [] 0 (.agg (lg r)) []:=by
 unfold yF at h
 refine g8 (fu:=Tryz.f95) (c:=Ws 1) (nt:=40) (fun hm=>rfl) ?_
 intro E hE
 refine ae hE 1 [] [] (kp [2,3,4]) (kq [0,16,32]) 48 pn ?_
 obtain ⟨mB,hr,h⟩:=aP h
 obtain ⟨nI,eI,h⟩:=aP h
 refine ae hE 1 [(2,oT (aH cI 0 mB)),(5,oT (aH cI 0 nI))] [] (kp [2,3,4,5,6]) (kq [0,16,32]) 176 (pc o1 (pc (jN _ _ _ hr) (pc o1 (pc (jN _ _ _ eI) pn)))) ?_
 refine ae hE 2 [] [] (kp [2,3,4,5,6,17]) (kq [0,16,32]) 256 (pc o1 (pc o1 pn)) ?_
 refine dr 0 17 h (fun ee h=>?_) (fun ee h=>?_)
 ·obtain ⟨EU,kc,h⟩:=aP h
  obtain ⟨pG,nw,h⟩:=aP h
  refine ae hE 1 [(4,oT (aH cI 0 EU)),(5,oT (.agg (lg pG)))] [] (kp [4]) (kq [32]) 368 (pc o1 (pc (Gs _ _ _ _ kc) (pc (iU _ _ _ _ nw) (pc o1 pn)))) ?_
  obtain rfl:=cT h
  exact cZ hE 0 Tryz.f95 [] (kp [4]) [(16,.ah 32)] 368 pn [16] (pc o1 pn)
 ·obtain ⟨jY,rN,h⟩:=aP h
  refine ae hE 3 [(2,oT (aI jY))] [] (kp [2,3,4,5,6,27]) (kq [0,16,32]) 320 (pc (u7 _ _ _ _ rN) pn) ?_
  refine dr 0 27 h (fun jq h=>?_) (fun jq h=>?_)
  ·obtain ⟨sx,xK,h⟩:=aP h
   obtain ⟨zU,yX,h⟩:=aP h
   refine ae hE 1 [(4,oT (aH cI 0 sx)),(5,oT (.agg (lg zU)))] [] (kp [4]) (kq [32]) 432 (pc o1 (pc (sW _ _ _ _ xK) (pc (iU _ _ _ _ yX) (pc o1 pn)))) ?_
   obtain rfl:=cT h
   exact cZ hE 0 Tryz.f95 [] (kp [4]) [(16,.ah 32)] 432 pn [16] (pc o1 pn)
  ·obtain ⟨vI,Gh,h⟩:=aP h
   obtain ⟨zV,Gg,h⟩:=aP h
   refine ae hE 2 [(4,oT (aH cI 0 vI)),(5,oT (.agg (lg zV)))] [] (kp [4]) (kq [32]) 432 (pc o1 (pc (sW _ _ _ _ Gh) (pc (iU _ _ _ _ Gg) (pc o1 pn)))) ?_
   obtain rfl:=cT h
   exact cZ hE 0 Tryz.f95 [] (kp [4]) [(16,.ah 32)] 432 pn [16] (pc o1 pn)
noncomputable abbrev Wt:=b8 Tryz.f55
theorem gY (N x y r) (h:gQ N x y=some r):Sd 55 [(.agg (ak x)),(.agg (ak y))] [] 0 (.agg (ak r)) []:=by
 unfold gQ at h
 refine g8 (fu:=Tryz.f55) (c:=Wt 1) (nt:=28) (fun hm=>rfl) ?_
 intro E hE
 refine ae hE 1 [] [] (kp [2,3,4]) (kq [0,16,32]) 48 pn ?_
 obtain ⟨eE,hr,h⟩:=aP h
 obtain ⟨iE,eI,h⟩:=aP h
 refine ae hE 1 [(1,oT (.agg (ak eE))),(3,oT (.agg (ak iE)))] [] (kp [4,5,6]) (kq [32,112,128]) 176 (pc o1 (pc (gA _ _ _ hr) (pc o1 (pc (gA _ _ _ eI) (pc o1 (pc o1 pn)))))) ?_
 obtain ⟨sB,kc,h⟩:=aP h
 obtain ⟨mU,nw,h⟩:=aP h
 obtain ⟨KZ,rN,h⟩:=aP h
 obtain ⟨EV,xK,h⟩:=aP h
 obtain ⟨sH,yX,h⟩:=aP h
 refine ae hE 1 [(4,oT (.agg (lg sB))),(9,oT (.agg (lg mU))),(10,oT (.agg (lg KZ))),(15,oT (.agg (lg EV))),(16,oT (.agg (ak sH)))] [] (kp [4]) (kq [32]) 464 (pc o1 (pc o1 (pc (lU _ _ _ _ kc) (pc o1 (pc o1 (pc (lU _ _ _ _ nw) (pc (Ii _ _ _ _ rN) (pc o1 (pc o1 (pc (lU _ _ _ _ xK) (pc (qn _ _ _ _ yX) (pc o1 pn)))))))))))) ?_
 obtain rfl:=cT h
 exact cZ hE 0 Tryz.f55 [] (kp [4]) [(16,.ah 32)] 464 pn [16] (pc o1 pn)
noncomputable abbrev Wu:=b8 Tryz.f83
theorem wE (N x y r) (h:pH N x y=some r):Sd 83 [(.agg (ak x)),(.agg (ak y))] [] 0 (.agg (ak r)) []:=by
 unfold pH at h
 refine g8 (fu:=Tryz.f83) (c:=Wu 1) (nt:=9) (fun hm=>rfl) ?_
 intro E hE
 refine ae hE 1 [] [] (kp [2,3,4]) (kq [0,16,32]) 48 pn ?_
 obtain ⟨H4,hr,h⟩:=aP h
 obtain ⟨bE,eI,h⟩:=aP h
 refine ae hE 1 [(2,oT (.agg (ak H4))),(3,oT (.agg (ak bE)))] [] (kp [4]) (kq [32]) 128 (pc o1 (pc o1 (pc (DD _ _ _ hr) (pc (gY _ _ _ _ eI) (pc o1 pn))))) ?_
 obtain rfl:=cT h
 exact cZ hE 0 Tryz.f83 [] (kp [4]) [(16,.ah 32)] 128 pn [16] (pc o1 pn)
noncomputable abbrev Wv:=b8 Tryz.f53
theorem DF (N x y r) (h:rK N x y=some r):Sd 53 [(.agg (ak x)),(.agg (ak y))] [] 0 (aI r) []:=by
 unfold rK at h
 refine g8 (fu:=Tryz.f53) (c:=Wv 1) (nt:=9) (fun hm=>rfl) ?_
 intro E hE
 refine ae hE 1 [] [] (kp [2,3]) (kq [0,16]) 48 pn ?_
 obtain ⟨au,hr,h⟩:=aP h
 obtain ⟨gy,eI,h⟩:=aP h
 refine ae hE 1 [(2,oT (.agg (ak au))),(3,oT (aI gy))] [] (kp [4]) [] 128 (pc o1 (pc o1 (pc (wE _ _ _ _ hr) (pc (iH _ _ _ eI) pn)))) ?_
 obtain rfl:=cT h
 exact cZ hE 0 Tryz.f53 [] (kp [4]) [] 128 pn [] pn
noncomputable abbrev Ft:=b8 Tryz.f82
def wF (N:Nat) (l:ai) (K:Int→Int→Option (Int)):Prop:=∀ (s:Int) (step:Int) (r:Int),K s step=some r→∀ E,bh E 0→aE Tryz.prog E 82 47 (aW E [] (aI r)) [.code (Ft 244),.inLoop (Ft 244),.inBlock 0,.code (Ft 31)] ⟨[(3,(aI (ag ((ag ((ag (l.bX - l.jf)) * (ag (l.bX - l.jf))))+(ag ((ag (l.cz - l.jR)) * (ag (l.cz - l.jR)))))))),(4,(aI s)),(5,(aI step))],[],0⟩
def DG (N:Nat) (l:ai) (step:Int) (K:Int→Option (Int)):Prop:=∀ (s2:Int) (r:Int),K s2=some r→∀ E,bh E 0→aE Tryz.prog E 82 47 (aW E [] (aI r)) [.code (Ft 979),.inLoop (Ft 244),.inBlock 0,.code (Ft 31)] ⟨[(3,(aI (ag ((ag ((ag (l.bX - l.jf)) * (ag (l.bX - l.jf))))+(ag ((ag (l.cz - l.jR)) * (ag (l.cz - l.jR)))))))),(4,(aI s2)),(5,(aI step))],[],0⟩
theorem vd (N:Nat) (l:ai) (step:Int) (om:Int→Int→Option (Int)) (Cr:wF N l om):DG N l step (nU N l step om):=by
 intro s2 r h E hE
 unfold nU at h
 refine ae hE 0 [] [] (kp [3,4,5]) [] 48 (pc (show (2:Int)≠0 by decide) pn) ?_
 exact cP hE 1 [] (kp [3,4,5]) [] 0 pn (Cr _ _ _ h E hE)
theorem Cs (N l fuel):wF N l (iS N l fuel):=by
 induction fuel with
 | zero=>intro _ _ r h;rw [iS.eq_1] at h;cases h
 | succ fuel ih =>
  intro s step r h E hE
  rw [iS.eq_2] at h
  refine ae hE 2 [] [] (kp [3,4,5,30]) [] 32 pn ?_
  refine dr 0 30 h (fun ee h=>?_) (fun ee h=>?_)
  ·refine ae hE 4 [] [] (kp [3,4,5,41]) [] 176 pn ?_
   refine dr 0 41 h (fun jq h=>?_) (fun jq h=>?_)
   ·refine ae hE 0 [] [] (kp [3,4,5]) [] 240 pn ?_
    exact cP hE 1 [] (kp [3,4,5]) [] 0 pn (vd N _ _ _ ih _ _ h E hE)
   ·exact cP hE 2 [] (kp [3,4,5]) [] 0 pn (vd N _ _ _ ih _ _ h E hE)
  ·refine ae hE 2 [] [] (kp [2]) [] 80 pn ?_
   obtain rfl:=cT h
   exact cZ hE 0 Tryz.f82 [] (kp [2]) [] 80 pn [] pn
theorem Gu (N l r) (h:sI N l=some r):Sd 82 [(.agg (ai.cells l))] [] 0 (aI r) []:=by
 unfold sI at h
 refine g8 (fu:=Tryz.f82) (c:=Ft 1) (nt:=47) (fun hm=>rfl) ?_
 intro E hE
 refine ae hE 1 [] [] (kp [1]) (kq [0]) 32 pn ?_
 refine ae hE 1 [] [] (kp [3]) [] 416 (pc o1 (pc o1 (pc o1 (pc o1 (pc o1 (pc o1 (pc o1 (pc o1 pn)))))))) ?_
 refine ae hE 1 [] [] (kp [3,4]) [] 432 pn ?_
 refine ae hE 2 [] [] (kp [3,4,5]) [] 448 pn ?_
 exact cP hE 2 [] (kp [3,4,5]) [] 0 pn (Cs N _ N _ _ _ h E hE)
noncomputable abbrev Ww:=b8 Tryz.f81
theorem DH (N x y r) (h:rL N x y=some r):Sd 81 [(.agg (ak x)),(.agg (ak y))] [] 0 (.agg (ak r)) []:=by
 unfold rL at h
 refine g8 (fu:=Tryz.f81) (c:=Ww 1) (nt:=22) (fun hm=>rfl) ?_
 intro E hE
 refine ae hE 1 [] [] (kp [2,3,4]) (kq [0,16,32]) 48 pn ?_
 obtain ⟨eE,hr,h⟩:=aP h
 obtain ⟨iE,eI,h⟩:=aP h
 refine ae hE 1 [(1,oT (.agg (ak eE))),(3,oT (.agg (ak iE)))] [] (kp [4,5,6]) (kq [32,112,128]) 176 (pc o1 (pc (gA _ _ _ hr) (pc o1 (pc (gA _ _ _ eI) (pc o1 (pc o1 pn)))))) ?_
 obtain ⟨sB,kc,h⟩:=aP h
 obtain ⟨mU,nw,h⟩:=aP h
 obtain ⟨sH,rN,h⟩:=aP h
 refine ae hE 1 [(4,oT (.agg (lg sB))),(9,oT (.agg (lg mU))),(10,oT (.agg (ak sH)))] [] (kp [4]) (kq [32]) 368 (pc o1 (pc o1 (pc (lU _ _ _ _ kc) (pc o1 (pc o1 (pc (lU _ _ _ _ nw) (pc (qn _ _ _ _ rN) (pc o1 pn)))))))) ?_
 obtain rfl:=cT h
 exact cZ hE 0 Tryz.f81 [] (kp [4]) [(16,.ah 32)] 368 pn [16] (pc o1 pn)
noncomputable abbrev Wx:=b8 Tryz.f56
theorem eZ (N x y r) (h:fe N x y=some r):Sd 56 [(.agg (ak x)),(.agg (ak y))] [] 0 (.agg (ak r)) []:=by
 unfold fe at h
 refine g8 (fu:=Tryz.f56) (c:=Wx 1) (nt:=22) (fun hm=>rfl) ?_
 intro E hE
 refine ae hE 1 [] [] (kp [2,3,4]) (kq [0,16,32]) 48 pn ?_
 obtain ⟨eE,hr,h⟩:=aP h
 obtain ⟨iE,eI,h⟩:=aP h
 refine ae hE 1 [(1,oT (.agg (ak eE))),(3,oT (.agg (ak iE)))] [] (kp [4,5,6]) (kq [32,112,128]) 176 (pc o1 (pc (gA _ _ _ hr) (pc o1 (pc (gA _ _ _ eI) (pc o1 (pc o1 pn)))))) ?_
 obtain ⟨sB,kc,h⟩:=aP h
 obtain ⟨mU,nw,h⟩:=aP h
 obtain ⟨sH,rN,h⟩:=aP h
 refine ae hE 1 [(4,oT (.agg (lg sB))),(9,oT (.agg (lg mU))),(10,oT (.agg (ak sH)))] [] (kp [4]) (kq [32]) 368 (pc o1 (pc o1 (pc (lU _ _ _ _ kc) (pc o1 (pc o1 (pc (lU _ _ _ _ nw) (pc (qn _ _ _ _ rN) (pc o1 pn)))))))) ?_
 obtain rfl:=cT h
 exact cZ hE 0 Tryz.f56 [] (kp [4]) [(16,.ah 32)] 368 pn [16] (pc o1 pn)
noncomputable abbrev Wy:=b8 Tryz.f39
theorem zx (N l r) (h:sJ N l=some r):Sd 39 [(.agg (ai.cells l))] [] 0 (.agg (av.cells r)) []:=by
 unfold sJ at h
 refine g8 (fu:=Tryz.f39) (c:=Wy 1) (nt:=45) (fun hm=>rfl) ?_
 intro E hE
 refine ae hE 1 [] [] (kp [1,2]) (kq [0,16]) 32 pn ?_
 obtain ⟨rQ,hr,h⟩:=aP h
 obtain ⟨xE,eI,h⟩:=aP h
 obtain ⟨Uy,kc,h⟩:=aP h
 obtain ⟨DV,nw,h⟩:=aP h
 refine ae hE 1 [(2,oT (.agg (ak rQ))),(4,oT (aI xE)),(5,oT (.agg (ak Uy))),(6,oT (.agg (ak DV)))] [] (kp [1,2,3]) (kq [0,16,144]) 176 (pc o1 (pc (j4 _ _ _ hr) (pc o1 (pc (Gu _ _ _ eI) (pc (j4 _ _ _ kc) (pc (DH _ _ _ _ nw) (pc o1 pn))))))) ?_
 obtain ⟨Uz,rN,h⟩:=aP h
 obtain ⟨ct,xK,h⟩:=aP h
 refine ae hE 1 [(6,oT (.agg (ak Uz))),(7,oT (.agg (ak ct)))] [] (kp [1,2,3,4]) (kq [0,16,144,304]) 336 (pc o1 (pc o1 (pc o1 (pc (j4 _ _ _ rN) (pc (eZ _ _ _ _ xK) (pc o1 pn)))))) ?_
 obtain ⟨YW,yX,h⟩:=aP h
 obtain ⟨du,Gh,h⟩:=aP h
 refine ae hE 1 [(6,oT (.agg (ak YW))),(7,oT (.agg (ak du)))] [] (kp [1,2,4,5]) (kq [0,16,304,464]) 496 (pc o1 (pc o1 (pc o1 (pc (j4 _ _ _ yX) (pc (eZ _ _ _ _ Gh) (pc o1 pn)))))) ?_
 obtain ⟨YX,Gg,h⟩:=aP h
 obtain ⟨gN,zY,h⟩:=aP h
 obtain ⟨YZ,Cc,h⟩:=aP h
 obtain ⟨sE,Ia,h⟩:=aP h
 obtain ⟨au,Ib,h⟩:=aP h
 refine ae hE 1 [(2,oT (.agg (ak YX))),(4,oT (.agg (ak gN))),(7,oT (.agg (ak YZ))),(9,oT (.agg (ak sE))),(10,oT (.agg (ak au)))] [] (kp [2,4,5,6]) (kq [16,304,464,672]) 704 (pc o1 (pc (j4 _ _ _ Gg) (pc o1 (pc (eZ _ _ _ _ zY) (pc o1 (pc (j4 _ _ _ Cc) (pc o1 (pc (eZ _ _ _ _ Ia) (pc (wE _ _ _ _ Ib) (pc o1 pn)))))))))) ?_
 refine ae hE 1 [] [] (kp [2]) (kq [16]) 784 (pc o1 (pc o1 (pc o1 (pc o1 pn)))) ?_
 obtain rfl:=cT h
 exact cZ hE 0 Tryz.f39 [] (kp [2]) (kq [16]) 784 pn [16] (pc o1 pn)
noncomputable abbrev mF:=b8 Tryz.f26
def y8 (N:Nat) (l:List ai) (parts:List aa) (K:av→Int→Option (Bool)):Prop:=∀ (sum:av) (i:Int) (r:Bool),K sum i=some r→∀ E,bh E 0→aE Tryz.prog E 26 73 (aW E [] (aB r)) [.code (mF 116),.inLoop (mF 116),.inBlock 0,.code (mF 15)] ⟨[(0,(aH ai.cells ai.d l)),(2,(aH ak aa.d parts)),(7,(.op 0 0 0)),(8,(aI i))],[(0,vO 12 (av.cells sum))],1⟩
theorem xW (N l parts fuel):y8 N l parts (fx N l parts fuel):=by
 induction fuel with
 | zero=>intro _ _ r h;rw [fx.eq_1] at h;cases h
 | succ fuel ih =>
  intro sum i r h E hE
  rw [fx.eq_2] at h
  refine ae hE 2 [] [] (kp [0,2,7,8,16]) (kq [0]) 65 pn ?_
  refine dr 0 16 h (fun ee h=>?_) (fun ee h=>?_)
  ·obtain ⟨c,h⟩:=ab h
   obtain ⟨gy,eI,h⟩:=aP h
   obtain ⟨c2,h⟩:=ab h
   obtain ⟨rQ,kc,h⟩:=aP h
   obtain ⟨pz,nw,h⟩:=aP h
   refine ae hE 5 [(4,oT (aI gy)),(11,oT (.agg (ak rQ))),(12,oT (aI pz))] [] (kp [0,2,7,8,33]) (kq [0]) 305 (pc c (pc (iH _ _ _ eI) (pc (fun hg:(!(decide (gy < 0)))=true=>(pc hg (pc hg (pc (c2 hg) pn)))) (pc (fun hg:(!(decide (gy < 0)))=true=>(pc hg pn)) (pc (fun hg:(!(decide (gy < 0)))=true=>(pc (j4 _ _ _ (aL kc hg)) pn)) (pc (fun hg:(!(decide (gy < 0)))=true=>(pc (DF _ _ _ _ (aL nw hg)) (pc hg (pc hg pn)))) (pc (fun hg:(!(decide (gy < 0)))=true=>(pc hg pn)) (pc (fun hq:(!(decide (gy < 0)))=true=>(pc hq pn)) pn)))))))) ?_
   refine dr 0 33 h (fun jq h=>?_) (fun jq h=>?_)
   ·refine ae hE 1 [] [] (kp [6]) [] 321 pn ?_
    obtain rfl:=cT h
    exact cZ hE 0 Tryz.f26 [] (kp [6]) [] 321 pn [] pn
   ·obtain ⟨c3,h⟩:=ab h
    obtain ⟨AS,rN,h⟩:=aP h
    refine ae hE 2 [(4,oT (.agg (av.cells AS)))] [] (kp [0,2,7,8,9]) (kq [0,385]) 417 (pc c3 (pc (zx _ _ _ rN) (pc o1 pn))) ?_
    refine ae hE 1 [] [] (kp [0,2,7,8,9,10]) (kq [0,385]) 433 pn ?_
    refine ae hE 4 [] [] (kp [0,2,7,8,9,10,40]) (kq [0,385]) 465 pn ?_
    refine sA 0 [.code (mF 119409),.code (mF 59705),.inLoop (mF 29852),.inBlock 2,.inBlock 1,.code (mF 467),.inLoop (mF 116),.inBlock 0,.code (mF 15)] ?_
    refine sC 40 (mF 238818) (mF 238819) true (fun _=>?_) (fun hq=>absurd hq (by decide)) 
    obtain ⟨ct,xK,h⟩:=aP h
    obtain ⟨bE,yX,h⟩:=aP h
    refine ae hE 3 [(11,oT (.agg (ak ct))),(12,oT (.agg (ak bE)))] [] (kp [0,2,7,8,9,10]) (kq [0,385]) 705 (pc (show 0≤(0:Int)∧(0:Int) < 3 by decide) (pc o1 (pc c (pc (show 0≤(0:Int)∧(0:Int) < 3 by decide) (pc o1 (pc (eZ _ _ _ _ xK) (pc (gY _ _ _ _ yX) (pc (show 0≤(0:Int)∧(0:Int) < 3 by decide) (pc o1 pn))))))))) ?_
    refine ae hE 1 [] [] (kp [0,2,7,8,9,10]) (kq [0,385]) 753 pn ?_
    refine ae hE 3 [] [] (kp [0,2,7,8,9,10,40]) (kq [0,385]) 785 pn ?_
    refine sA 0 [.code (mF 119409),.code (mF 59705),.inLoop (mF 29852),.inBlock 2,.inBlock 1,.code (mF 467),.inLoop (mF 116),.inBlock 0,.code (mF 15)] ?_
    refine sC 40 (mF 238818) (mF 238819) true (fun _=>?_) (fun hq=>absurd hq (by decide)) 
    obtain ⟨du,Gh,h⟩:=aP h
    obtain ⟨iY,Gg,h⟩:=aP h
    refine ae hE 3 [(11,oT (.agg (ak du))),(12,oT (.agg (ak iY)))] [] (kp [0,2,7,8,9,10]) (kq [0,385]) 1025 (pc (show 0≤(1:Int)∧(1:Int) < 3 by decide) (pc o1 (pc c (pc (show 0≤(1:Int)∧(1:Int) < 3 by decide) (pc o1 (pc (eZ _ _ _ _ Gh) (pc (gY _ _ _ _ Gg) (pc (show 0≤(1:Int)∧(1:Int) < 3 by decide) (pc o1 pn))))))))) ?_
    refine ae hE 1 [] [] (kp [0,2,7,8,9,10]) (kq [0,385]) 1073 pn ?_
    refine ae hE 3 [] [] (kp [0,2,7,8,9,10,40]) (kq [0,385]) 1105 pn ?_
    refine sA 0 [.code (mF 119409),.code (mF 59705),.inLoop (mF 29852),.inBlock 2,.inBlock 1,.code (mF 467),.inLoop (mF 116),.inBlock 0,.code (mF 15)] ?_
    refine sC 40 (mF 238818) (mF 238819) true (fun _=>?_) (fun hq=>absurd hq (by decide)) 
    obtain ⟨gN,zY,h⟩:=aP h
    obtain ⟨kO,Cc,h⟩:=aP h
    refine ae hE 3 [(11,oT (.agg (ak gN))),(12,oT (.agg (ak kO)))] [] (kp [0,2,7,8,9,10]) (kq [0,385]) 1345 (pc (show 0≤(2:Int)∧(2:Int) < 3 by decide) (pc o1 (pc c (pc (show 0≤(2:Int)∧(2:Int) < 3 by decide) (pc o1 (pc (eZ _ _ _ _ zY) (pc (gY _ _ _ _ Cc) (pc (show 0≤(2:Int)∧(2:Int) < 3 by decide) (pc o1 pn))))))))) ?_
    refine ae hE 1 [] [] (kp [0,2,7,8,9,10]) (kq [0,385]) 1393 pn ?_
    refine ae hE 3 [] [] (kp [0,2,7,8,9,10,40]) (kq [0,385]) 1425 pn ?_
    refine sA 0 [.code (mF 119409),.code (mF 59705),.inLoop (mF 29852),.inBlock 2,.inBlock 1,.code (mF 467),.inLoop (mF 116),.inBlock 0,.code (mF 15)] ?_
    refine sC 40 (mF 238818) (mF 238819) false (fun hq=>absurd hq (by decide)) (fun _=>?_) 
    refine ae hE 2 [] [] (kp [0,2,7,8]) (kq [0]) 1473 pn ?_
    exact cP hE 1 [] (kp [0,2,7,8]) (kq [0]) 1 pn (ih _ _ _ h E hE)
  ·obtain ⟨fg,Ia,h⟩:=aP h
   obtain ⟨nv,Ib,h⟩:=aP h
   obtain ⟨B1,K8,h⟩:=aP h
   refine ae hE 2 [(2,oT (aI fg)),(7,oT (aI nv)),(13,oT (aI B1))] [] (kp [6]) [] 337 (pc (show 0≤(0:Int)∧(0:Int) < 3 by decide) (pc o1 (pc (iH _ _ _ Ia) (pc (fun hg:(fg == 0)=true=>(pc (show 0≤(1:Int)∧(1:Int) < 3 by decide) pn)) (pc (fun hg:(fg == 0)=true=>(pc hg (pc o1 pn))) (pc (fun hg:(fg == 0)=true=>(pc (iH _ _ _ (aL Ib hg)) (pc hg pn))) (pc (fun hg:(fg == 0)=true=>(pc hg pn)) (pc (fun hq:(fg == 0)=true=>(pc hq pn)) (pc (fun hg:(cond (fg == 0) (nv == 0) false)=true=>(pc (show 0≤(2:Int)∧(2:Int) < 3 by decide) pn)) (pc (fun hg:(cond (fg == 0) (nv == 0) false)=true=>(pc hg (pc o1 pn))) (pc (fun hg:(cond (fg == 0) (nv == 0) false)=true=>(pc (iH _ _ _ (aL K8 hg)) (pc hg pn))) (pc (fun hg:(cond (fg == 0) (nv == 0) false)=true=>(pc hg pn)) (pc (fun hq:(cond (fg == 0) (nv == 0) false)=true=>(pc hq pn)) pn))))))))))))) ?_
   obtain rfl:=cT h
   exact cZ hE 0 Tryz.f26 [] (kp [6]) [] 337 pn [] pn
theorem Bf (N l w parts r) (h:pJ N l w parts=some r):Sd 26 [(aH ai.cells ai.d l),(.agg (bJ.cells w)),(aH ak aa.d parts)] [] 0 (aB r) []:=by
 unfold pJ at h
 refine g8 (fu:=Tryz.f26) (c:=mF 1) (nt:=73) (fun hm=>rfl) ?_
 intro E hE
 refine ae hE 1 [] [] (kp [0,2,4]) (kq [0]) 32 pn ?_
 obtain ⟨zW,hr,h⟩:=aP h
 refine ae hE 1 [(1,oT (.agg (av.cells zW)))] [] (kp [0,2,7]) (kq [64]) 96 (pc o1 (pc (xV _ _ _ hr) (pc o1 pn))) ?_
 refine ae hE 2 [] [] (kp [0,2,7,8]) (kq [64]) 112 pn ?_
 exact cP hE 2 [] (kp [0,2,7,8]) [(0,.ah 64)] 1 pn (xW N _ _ N _ _ _ h E hE)
noncomputable abbrev l9:=b8 Tryz.f57
theorem xX (N d p r) (h:qG N d p=some r):Sd 57 [(aH ak aa.d d),(.agg (av.cells p))] [] 0 (.agg (ak r)) []:=by
 unfold qG at h
 refine g8 (fu:=Tryz.f57) (c:=l9 1) (nt:=23) (fun hm=>rfl) ?_
 intro E hE
 refine ae hE 1 [] [] (kp [0,3,4]) (kq [0,16]) 32 pn ?_
 obtain ⟨rQ,hr,h⟩:=aP h
 refine ae hE 1 [(0,oT (.agg (ak rQ)))] [] (kp [0,3,4,5]) (kq [0,16,48]) 80 (pc (j4 _ _ _ hr) (pc o1 pn)) ?_
 refine ae hE 2 [] [] (kp [0,3,4,5,6]) (kq [0,16,48]) 96 pn ?_
 refine ae hE 4 [] [] (kp [0,3,4,5,6,9]) (kq [0,16,48]) 128 pn ?_
 refine sA 0 [.code (l9 465),.code (l9 233),.inLoop (l9 116),.inBlock 0,.code (l9 15)] ?_
 refine sC 9 (l9 930) (l9 931) true (fun _=>?_) (fun hq=>absurd hq (by decide)) 
 obtain ⟨c,h⟩:=ab h
 obtain ⟨ct,eI,h⟩:=aP h
 obtain ⟨bE,kc,h⟩:=aP h
 refine ae hE 3 [(8,oT (.agg (ak ct))),(9,oT (.agg (ak bE)))] [] (kp [0,3,4,5,6]) (kq [0,16,48]) 304 (pc o1 (pc c (pc (show 0≤(0:Int)∧(0:Int) < 3 by decide) (pc o1 (pc (eZ _ _ _ _ eI) (pc (gY _ _ _ _ kc) (pc o1 pn))))))) ?_
 refine ae hE 1 [] [] (kp [0,3,4,5,6]) (kq [0,16,48]) 352 pn ?_
 refine ae hE 3 [] [] (kp [0,3,4,5,6,9]) (kq [0,16,48]) 384 pn ?_
 refine sA 0 [.code (l9 465),.code (l9 233),.inLoop (l9 116),.inBlock 0,.code (l9 15)] ?_
 refine sC 9 (l9 930) (l9 931) true (fun _=>?_) (fun hq=>absurd hq (by decide)) 
 obtain ⟨c2,h⟩:=ab h
 obtain ⟨du,nw,h⟩:=aP h
 obtain ⟨iY,rN,h⟩:=aP h
 refine ae hE 3 [(8,oT (.agg (ak du))),(9,oT (.agg (ak iY)))] [] (kp [0,3,4,5,6]) (kq [0,16,48]) 560 (pc o1 (pc c2 (pc (show 0≤(1:Int)∧(1:Int) < 3 by decide) (pc o1 (pc (eZ _ _ _ _ nw) (pc (gY _ _ _ _ rN) (pc o1 pn))))))) ?_
 refine ae hE 1 [] [] (kp [0,3,4,5,6]) (kq [0,16,48]) 608 pn ?_
 refine ae hE 3 [] [] (kp [0,3,4,5,6,9]) (kq [0,16,48]) 640 pn ?_
 refine sA 0 [.code (l9 465),.code (l9 233),.inLoop (l9 116),.inBlock 0,.code (l9 15)] ?_
 refine sC 9 (l9 930) (l9 931) true (fun _=>?_) (fun hq=>absurd hq (by decide)) 
 obtain ⟨c3,h⟩:=ab h
 obtain ⟨gN,xK,h⟩:=aP h
 obtain ⟨kO,yX,h⟩:=aP h
 refine ae hE 3 [(8,oT (.agg (ak gN))),(9,oT (.agg (ak kO)))] [] (kp [0,3,4,5,6]) (kq [0,16,48]) 816 (pc o1 (pc c3 (pc (show 0≤(2:Int)∧(2:Int) < 3 by decide) (pc o1 (pc (eZ _ _ _ _ xK) (pc (gY _ _ _ _ yX) (pc o1 pn))))))) ?_
 refine ae hE 1 [] [] (kp [0,3,4,5,6]) (kq [0,16,48]) 864 pn ?_
 refine ae hE 3 [] [] (kp [0,3,4,5,6,9]) (kq [0,16,48]) 896 pn ?_
 refine sA 0 [.code (l9 465),.code (l9 233),.inLoop (l9 116),.inBlock 0,.code (l9 15)] ?_
 refine sC 9 (l9 930) (l9 931) false (fun hq=>absurd hq (by decide)) (fun _=>?_) 
 refine ae hE 2 [] [] (kp [4]) (kq [16]) 928 (pc o1 (pc o1 pn)) ?_
 obtain rfl:=cT h
 exact cZ hE 0 Tryz.f57 [] (kp [4]) (kq [16]) 928 pn [16] (pc o1 pn)
noncomputable abbrev Fu:=b8 Tryz.f27
def sX (N:Nat) (l:List ai) (d:List aa) (K:aa→Int→Option (Bool)):Prop:=∀ (sum:aa) (i:Int) (r:Bool),K sum i=some r→∀ E,bh E 0→aE Tryz.prog E 27 36 (aW E [] (aB r)) [.code (Fu 116),.inLoop (Fu 116),.inBlock 0,.code (Fu 15)] ⟨[(0,(aH ai.cells ai.d l)),(2,(aH ak aa.d d)),(7,(.op 0 0 0)),(8,(aI i))],[(0,vO 4 (ak sum))],1⟩
def Ah (N:Nat) (l:List ai) (d:List aa) (i:Int) (K:aa→Option (Bool)):Prop:=∀ (JF:aa) (r:Bool),K JF=some r→∀ E,bh E 0→aE Tryz.prog E 27 36 (aW E [] (aB r)) [.code (Fu 467),.inLoop (Fu 116),.inBlock 0,.code (Fu 15)] ⟨[(0,(aH ai.cells ai.d l)),(2,(aH ak aa.d d)),(7,(.op 0 0 0)),(8,(aI i))],[(0,vO 4 (ak JF))],1⟩
theorem rz (N:Nat) (l:List ai) (d:List aa) (i:Int) (lQ:aa→Int→Option (Bool)) (y9:sX N l d lQ):Ah N l d i (jP N l d i lQ):=by
 intro JF r h E hE
 unfold jP at h
 refine ae hE 0 [] [] (kp [0,2,7,8]) (kq [0]) 49 pn ?_
 exact cP hE 1 [] (kp [0,2,7,8]) (kq [0]) 1 pn (y9 _ _ _ h E hE)
theorem za (N l d fuel):sX N l d (fh N l d fuel):=by
 induction fuel with
 | zero=>intro _ _ r h;rw [fh.eq_1] at h;cases h
 | succ fuel ih =>
  intro sum i r h E hE
  rw [fh.eq_2] at h
  refine ae hE 2 [] [] (kp [0,2,7,8,17]) (kq [0]) 65 pn ?_
  refine dr 0 17 h (fun ee h=>?_) (fun ee h=>?_)
  ·obtain ⟨c,h⟩:=ab h
   obtain ⟨AS,kc,h⟩:=aP h
   obtain ⟨DW,nw,h⟩:=aP h
   refine ae hE 4 [(5,oT (.agg (av.cells AS))),(6,oT (.agg (ak DW)))] [] (kp [0,2,7,8,9]) (kq [0,177]) 209 (pc c (pc (zx _ _ _ kc) (pc (xX _ _ _ _ nw) (pc o1 pn)))) ?_
   obtain ⟨gy,rN,h⟩:=aP h
   refine ae hE 1 [(1,oT (aI gy))] [] (kp [0,2,7,8,9,29]) (kq [0,177]) 257 (pc o1 (pc (iH _ _ _ rN) pn)) ?_
   refine dr 0 29 h (fun jq h=>?_) (fun jq h=>?_)
   ·obtain ⟨bE,xK,h⟩:=aP h
    refine ae hE 0 [(2,oT (.agg (ak bE)))] [] (kp [0,2,7,8]) (kq [0]) 321 (pc o1 (pc o1 (pc (gY _ _ _ _ xK) (pc o1 pn)))) ?_
    exact cP hE 1 [] (kp [0,2,7,8]) (kq [0]) 1 pn (rz N _ _ _ _ ih _ _ h E hE)
   ·exact cP hE 2 [] (kp [0,2,7,8]) (kq [0]) 1 pn (rz N _ _ _ _ ih _ _ h E hE)
  ·obtain ⟨fg,yX,h⟩:=aP h
   refine ae hE 2 [(1,oT (aI fg))] [] (kp [6]) [] 129 (pc o1 (pc (iH _ _ _ yX) pn)) ?_
   obtain rfl:=cT h
   exact cZ hE 0 Tryz.f27 [] (kp [6]) [] 129 pn [] pn
theorem Ct (N l w d r) (h:qk N l w d=some r):Sd 27 [(aH ai.cells ai.d l),(.agg (bJ.cells w)),(aH ak aa.d d)] [] 0 (aB r) []:=by
 unfold qk at h
 refine g8 (fu:=Tryz.f27) (c:=Fu 1) (nt:=36) (fun hm=>rfl) ?_
 intro E hE
 refine ae hE 1 [] [] (kp [0,2,4]) (kq [0]) 32 pn ?_
 obtain ⟨zW,hr,h⟩:=aP h
 obtain ⟨K4,eI,h⟩:=aP h
 refine ae hE 1 [(2,oT (.agg (av.cells zW))),(3,oT (.agg (ak K4)))] [] (kp [0,2,7]) (kq [96]) 128 (pc o1 (pc (xV _ _ _ hr) (pc (xX _ _ _ _ eI) (pc o1 pn)))) ?_
 refine ae hE 2 [] [] (kp [0,2,7,8]) (kq [96]) 144 pn ?_
 exact cP hE 2 [] (kp [0,2,7,8]) [(0,.ah 96)] 1 pn (za N _ _ N _ _ _ h E hE)
noncomputable abbrev ZM:=b8 Tryz.f12
theorem wZ (N l w m r) (h:iG N l w m=some r):Sd 12 [(aH ai.cells ai.d l),(.agg (bJ.cells w)),(.agg (bF.cells m))] [] 0 (aI r) []:=by
 unfold iG at h
 refine g8 (fu:=Tryz.f12) (c:=ZM 1) (nt:=43) (fun hm=>rfl) ?_
 intro E hE
 refine ae hE 1 [] [] (kp [0,4,5]) (kq [0,16]) 48 pn ?_
 obtain ⟨bm,hr,h⟩:=aP h
 refine ae hE 2 [(1,oT (aI bm))] [] (kp [0,4,5,7]) (kq [0,16]) 96 (pc (rv _ _ _ hr) pn) ?_
 refine ae hE 1 [] [] (kp [0,4,5,7,12]) (kq [0,16]) 128 pn ?_
 refine dr 0 12 h (fun ee h=>?_) (fun ee h=>?_)
 ·refine ae hE 1 [] [] (kp [6]) [] 160 pn ?_
  obtain rfl:=cT h
  exact cZ hE 0 Tryz.f12 [] (kp [6]) [] 160 pn [] pn
 ·obtain ⟨m5,eI,h⟩:=aP h
  refine ae hE 3 [(1,oT (aI m5))] [] (kp [0,4,5,8]) (kq [0,16]) 176 (pc o1 (pc (sU _ _ _ eI) pn)) ?_
  refine ae hE 1 [] [] (kp [0,4,5,8,17]) (kq [0,16]) 208 pn ?_
  refine dr 0 17 h (fun jq h=>?_) (fun jq h=>?_)
  ·refine ae hE 1 [] [] (kp [6]) [] 240 pn ?_
   obtain rfl:=cT h
   exact cZ hE 0 Tryz.f12 [] (kp [6]) [] 240 pn [] pn
  ·refine ae hE 3 [] [] (kp [0,4,5,20]) (kq [0,16]) 240 (pc o1 pn) ?_
   refine dr 0 20 h (fun ti h=>?_) (fun ti h=>?_)
   ·refine ae hE 2 [] [] (kp [0,4,5,26]) (kq [0,16]) 336 (pc o1 pn) ?_
    refine dr 0 26 h (fun Dc h=>?_) (fun Dc h=>?_)
    ·refine ae hE 1 [] [] (kp [6]) [] 352 pn ?_
     obtain rfl:=cT h
     exact cZ hE 0 Tryz.f12 [] (kp [6]) [] 352 pn [] pn
    ·obtain ⟨B2,kc,h⟩:=aP h
     refine ae hE 3 [(4,oT (aB B2))] [] (kp [32]) [] 432 (pc o1 (pc o1 (pc (Bf _ _ _ _ _ kc) pn))) ?_
     refine dr 0 32 h (fun H6 h=>?_) (fun H6 h=>?_)
     ·refine ae hE 1 [] [] (kp [6]) [] 448 pn ?_
      obtain rfl:=cT h
      exact cZ hE 0 Tryz.f12 [] (kp [6]) [] 448 pn [] pn
     ·refine ae hE 2 [] [] (kp [6]) [] 448 pn ?_
      obtain rfl:=cT h
      exact cZ hE 0 Tryz.f12 [] (kp [6]) [] 448 pn [] pn
   ·refine ae hE 3 [] [] (kp [0,4,5,36]) (kq [0,16]) 304 (pc o1 pn) ?_
    refine dr 0 36 h (fun PO h=>?_) (fun PO h=>?_)
    ·refine ae hE 1 [] [] (kp [6]) [] 320 pn ?_
     obtain rfl:=cT h
     exact cZ hE 0 Tryz.f12 [] (kp [6]) [] 320 pn [] pn
    ·obtain ⟨E4,nw,h⟩:=aP h
     refine ae hE 3 [(4,oT (aB E4))] [] (kp [42]) [] 400 (pc o1 (pc o1 (pc (Ct _ _ _ _ _ nw) pn))) ?_
     refine dr 0 42 h (fun Wn h=>?_) (fun Wn h=>?_)
     ·refine ae hE 1 [] [] (kp [6]) [] 416 pn ?_
      obtain rfl:=cT h
      exact cZ hE 0 Tryz.f12 [] (kp [6]) [] 416 pn [] pn
     ·refine ae hE 2 [] [] (kp [6]) [] 416 pn ?_
      obtain rfl:=cT h
      exact cZ hE 0 Tryz.f12 [] (kp [6]) [] 416 pn [] pn
noncomputable abbrev Gw:=b8 Tryz.f3
def w5 (N:Nat) (l:List ai) (w:List bJ) (cx:Int×Int) (K:Int→Option (Bool)):Prop:=∀ (f:Int) (r:Bool),K f=some r→∀ E,bh E 0→aE Tryz.prog E 3 128 (aW E [] (aB r)) [.code (Gw 508),.code (Gw 509),.code (Gw 255)] ⟨[(0,(aH ai.cells ai.d l)),(1,(aH bJ.cells bJ.d w)),(5,(aI cx.1)),(6,(aI cx.2)),(7,(aI f))],[],0⟩
def w6 (N:Nat) (l:List ai) (w:List bJ) (cx:Int×Int) (K:Int→Int→Option (Bool)):Prop:=∀ (f2:Int) (i:Int) (r:Bool),K f2 i=some r→∀ E,bh E 0→aE Tryz.prog E 3 128 (aW E [] (aB r)) [.code (Gw 2036),.inLoop (Gw 2036),.inBlock 0,.code (Gw 255)] ⟨[(0,(aH ai.cells ai.d l)),(1,(aH bJ.cells bJ.d w)),(5,(aI cx.1)),(6,(aI cx.2)),(7,(aI f2)),(8,(aI i))],[],0⟩
def w7 (N:Nat) (l:List ai) (w:List bJ) (cx:Int×Int) (K:Int→Option (Bool)):Prop:=∀ (i2:Int) (r:Bool),K i2=some r→∀ E,bh E 0→aE Tryz.prog E 3 128 (aW E [] (aB r)) [.code (Gw 16372),.inLoop (Gw 16372),.inBlock 2,.code (Gw 2047)] ⟨[(0,(aH ai.cells ai.d l)),(1,(aH bJ.cells bJ.d w)),(5,(aI cx.1)),(9,(aI i2))],[],0⟩
theorem vZ (N l w cx fuel):w7 N l w cx (dM N l w cx fuel):=by
 induction fuel with
 | zero=>intro _ r h;rw [dM.eq_1] at h;cases h
 | succ fuel ih =>
  intro i2 r h E hE
  rw [dM.eq_2] at h
  refine ae hE 2 [] [] (kp [0,1,5,9,96]) [] 64 pn ?_
  refine dr 0 96 h (fun Wn h=>?_) (fun Wn h=>?_)
  ·obtain ⟨c2,h⟩:=ab h
   obtain ⟨tx,xK,h⟩:=aP h
   refine ae hE 4 [(5,oT (.tup [(.agg (bF.cells tx.1)),(aI tx.2)]))] [] (kp [0,1,5,9,10,11]) (kq [208]) 256 (pc c2 (pc (Dw _ _ _ _ xK) (pc o1 pn))) ?_
   obtain ⟨c3,h⟩:=ab h
   obtain ⟨tW,yX,h⟩:=aP h
   refine ae hE 2 [(9,oT (aI tW))] [] (kp [0,1,5,9,10,119]) (kq [208]) 448 (pc (fun hg:(!(tx.2 != 0))=true=>(pc hg (pc hg (pc (c3 hg) pn)))) (pc (fun hg:(!(tx.2 != 0))=true=>(pc hg pn)) (pc (fun hg:(!(tx.2 != 0))=true=>(pc o1 pn)) (pc (fun hg:(!(tx.2 != 0))=true=>(pc (wZ _ _ _ _ _ (aL yX hg)) (pc hg (pc hg (pc hg pn))))) (pc (fun hg:(!(tx.2 != 0))=true=>(pc hg pn)) (pc (fun hq:(!(tx.2 != 0))=true=>(pc hq pn)) pn)))))) ?_
   refine dr 0 119 h (fun hq9 h=>?_) (fun hq9 h=>?_)
   ·refine ae hE 1 [] [] (kp [4]) [] 464 pn ?_
    obtain rfl:=cT h
    exact cZ hE 0 Tryz.f3 [] (kp [4]) [] 464 pn [] pn
   ·refine ae hE 2 [] [] (kp [0,1,5,9,122]) [] 496 (pc o1 pn) ?_
    refine dr 0 122 h (fun ZN h=>?_) (fun ZN h=>?_)
    ·refine ae hE 1 [] [] (kp [4]) [] 560 pn ?_
     obtain rfl:=cT h
     exact cZ hE 0 Tryz.f3 [] (kp [4]) [] 560 pn [] pn
    ·refine ae hE 2 [] [] (kp [0,1,5,9]) [] 544 pn ?_
     exact cP hE 1 [] (kp [0,1,5,9]) [] 0 pn (ih _ _ h E hE)
  ·refine ae hE 2 [] [] (kp [4]) [] 112 pn ?_
   obtain rfl:=cT h
   exact cZ hE 0 Tryz.f3 [] (kp [4]) [] 112 pn [] pn
theorem v5 (N l w cx fuel):w6 N l w cx (cm N l w cx fuel):=by
 induction fuel with
 | zero=>intro _ _ r h;rw [cm.eq_1] at h;cases h
 | succ fuel ih =>
  intro f2 i r h E hE
  rw [cm.eq_2] at h
  refine ae hE 2 [] [] (kp [0,1,5,6,7,8,64]) [] 128 (pc (fun hg:(decide (i < ((w.length:Nat):Int)))=true=>(pc hg pn)) (pc (fun hq:(decide (i < ((w.length:Nat):Int)))=true=>(pc hq pn)) pn)) ?_
  refine dr 0 64 h (fun Dc h=>?_) (fun Dc h=>?_)
  ·obtain ⟨c,h⟩:=ab h
   obtain ⟨m5,rN,h⟩:=aP h
   refine ae hE 3 [(4,oT (aI m5))] [] (kp [0,1,5,6,7,8]) [] 224 (pc c (pc (sU _ _ _ rN) pn)) ?_
   refine ae hE 1 [] [] (kp [0,1,5,6,7,8]) [] 272 pn ?_
   exact cP hE 1 [] (kp [0,1,5,6,7,8]) [] 0 pn (ih _ _ _ h E hE)
  ·refine ae hE 3 [] [] (kp [0,1,5,6,7,73]) [] 160 pn ?_
   refine dr 0 73 h (fun H6 h=>?_) (fun H6 h=>?_)
   ·refine ae hE 1 [] [] (kp [4]) [] 288 (pc (fun hg:(cx.2 == f2)=true=>(pc hg pn)) (pc (fun hq:(cx.2 == f2)=true=>(pc hq pn)) pn)) ?_
    obtain rfl:=cT h
    exact cZ hE 0 Tryz.f3 [] (kp [4]) [] 288 pn [] pn
   ·refine ae hE 3 [] [] (kp [0,1,5,92]) [] 352 (pc (fun hg:(!(cx.2 != 0))=true=>(pc hg pn)) (pc (fun hq:(!(cx.2 != 0))=true=>(pc hq pn)) (pc (fun hg:(!(cond (cx.2 != 0) true (decide (cx.1 < (-1)))))=true=>(pc hg pn)) (pc (fun hg:(!(cond (cx.2 != 0) true (decide (cx.1 < (-1)))))=true=>(pc hg (pc hg pn))) (pc (fun hq:(!(cond (cx.2 != 0) true (decide (cx.1 < (-1)))))=true=>(pc hq pn)) pn))))) ?_
    refine dr 0 92 h (fun PO h=>?_) (fun PO h=>?_)
    ·refine ae hE 1 [] [] (kp [4]) [] 368 pn ?_
     obtain rfl:=cT h
     exact cZ hE 0 Tryz.f3 [] (kp [4]) [] 368 pn [] pn
    ·refine ae hE 3 [] [] (kp [0,1,5,9]) [] 368 pn ?_
     exact cP hE 2 [] (kp [0,1,5,9]) [] 0 pn (vZ N _ _ _ N _ _ h E hE)
theorem pN (N l w cx):w5 N l w cx (dN N l w cx):=by
 intro f r h E hE
 unfold dN at h
 refine ae hE 0 [] [] (kp [0,1,5,6,7,8]) [] 16 pn ?_
 exact cP hE 2 [] (kp [0,1,5,6,7,8]) [] 0 pn (v5 N _ _ _ N _ _ _ h E hE)
theorem zc (N l w r) (h:lr N l w=some r):Sd 3 [(aH ai.cells ai.d l),(aH bJ.cells bJ.d w)] [] 0 (aB r) []:=by
 unfold lr at h
 refine g8 (fu:=Tryz.f3) (c:=Gw 1) (nt:=128) (fun hm=>rfl) ?_
 intro E hE
 refine ae hE 1 [] [] (kp [0,1]) [] 16 pn ?_
 obtain ⟨K5,hr,h⟩:=aP h
 refine ae hE 2 [(0,oT (aB K5))] [] (kp [0,1,13]) [] 48 (pc (Fp _ _ hr) pn) ?_
 refine dr 0 13 h (fun ee h=>?_) (fun ee h=>?_)
 ·refine ae hE 1 [] [] (kp [4]) [] 64 pn ?_
  obtain rfl:=cT h
  exact cZ hE 0 Tryz.f3 [] (kp [4]) [] 64 pn [] pn
 ·obtain ⟨jc,eI,h⟩:=aP h
  refine ae hE 3 [(1,oT (aB jc))] [] (kp [0,1,41]) [] 496 (pc (Fq _ _ _ eI) (pc (fun hg:(!(!jc))=true=>(pc hg pn)) (pc (fun hg:(!(!jc))=true=>(pc hg pn)) (pc (fun hg:((!(!jc)) && ((!(!jc)) && (decide (((l.length:Nat):Int) > 4))))=true=>(pc hg pn)) (pc (fun hg:((!(!jc)) && ((!(!jc)) && (decide (((l.length:Nat):Int) > 4))))=true=>(pc hg pn)) (pc (fun hg:(!(!jc))=true=>(pc hg (pc hg (pc (fun hq:(decide (((l.length:Nat):Int) > 4))=true=>(pc (show ((!(!jc)) && ((!(!jc)) && (decide (((l.length:Nat):Int) > 4))))=true from (mo hg (mo hg hq))) pn)) pn)))) (pc (fun hq:(!(!jc))=true=>(pc hq pn)) (pc (fun hg:(!(cond (!jc) true (cond (decide (((l.length:Nat):Int) > 4)) (decide (((l.length:Nat):Int)≤12)) false)))=true=>(pc hg pn)) (pc (fun hg:(!(cond (!jc) true (cond (decide (((l.length:Nat):Int) > 4)) (decide (((l.length:Nat):Int)≤12)) false)))=true=>(pc hg pn)) (pc (fun hg:((!(cond (!jc) true (cond (decide (((l.length:Nat):Int) > 4)) (decide (((l.length:Nat):Int)≤12)) false))) && ((!(cond (!jc) true (cond (decide (((l.length:Nat):Int) > 4)) (decide (((l.length:Nat):Int)≤12)) false))) && (decide (((w.length:Nat):Int) > 4))))=true=>(pc hg pn)) (pc (fun hg:((!(cond (!jc) true (cond (decide (((l.length:Nat):Int) > 4)) (decide (((l.length:Nat):Int)≤12)) false))) && ((!(cond (!jc) true (cond (decide (((l.length:Nat):Int) > 4)) (decide (((l.length:Nat):Int)≤12)) false))) && (decide (((w.length:Nat):Int) > 4))))=true=>(pc hg pn)) (pc (fun hg:(!(cond (!jc) true (cond (decide (((l.length:Nat):Int) > 4)) (decide (((l.length:Nat):Int)≤12)) false)))=true=>(pc hg (pc hg (pc (fun hq:(decide (((w.length:Nat):Int) > 4))=true=>(pc (show ((!(cond (!jc) true (cond (decide (((l.length:Nat):Int) > 4)) (decide (((l.length:Nat):Int)≤12)) false))) && ((!(cond (!jc) true (cond (decide (((l.length:Nat):Int) > 4)) (decide (((l.length:Nat):Int)≤12)) false))) && (decide (((w.length:Nat):Int) > 4))))=true from (mo hg (mo hg hq))) pn)) pn)))) (pc (fun hq:(!(cond (!jc) true (cond (decide (((l.length:Nat):Int) > 4)) (decide (((l.length:Nat):Int)≤12)) false)))=true=>(pc hq pn)) (pc (fun hg:(!(cond (cond (!jc) true (cond (decide (((l.length:Nat):Int) > 4)) (decide (((l.length:Nat):Int)≤12)) false)) true (cond (decide (((w.length:Nat):Int) > 4)) (decide (((w.length:Nat):Int)≤24)) false)))=true=>(pc hg pn)) (pc (fun hg:(!(cond (cond (!jc) true (cond (decide (((l.length:Nat):Int) > 4)) (decide (((l.length:Nat):Int)≤12)) false)) true (cond (decide (((w.length:Nat):Int) > 4)) (decide (((w.length:Nat):Int)≤24)) false)))=true=>(pc hg pn)) (pc (fun hq:(!(cond (cond (!jc) true (cond (decide (((l.length:Nat):Int) > 4)) (decide (((l.length:Nat):Int)≤12)) false)) true (cond (decide (((w.length:Nat):Int) > 4)) (decide (((w.length:Nat):Int)≤24)) false)))=true=>(pc hq pn)) pn)))))))))))))))) ?_
  refine dr 0 41 h (fun jq h=>?_) (fun jq h=>?_)
  ·refine ae hE 1 [] [] (kp [4]) [] 512 pn ?_
   obtain rfl:=cT h
   exact cZ hE 0 Tryz.f3 [] (kp [4]) [] 512 pn [] pn
  ·obtain ⟨cx,kc,h⟩:=aP h
   refine ae hE 2 [(2,oT (.tup [(aI cx.1),(aI cx.2)]))] [] (kp [0,1,5,6]) [] 624 (pc (Cg _ _ _ _ kc) pn) ?_
   obtain ⟨bm,nw,h⟩:=aP h
   refine ae hE 1 [(1,oT (aI bm))] [] (kp [0,1,5,6,7]) [] 672 (pc (rv _ _ _ nw) pn) ?_
   refine ae hE 2 [] [] (kp [0,1,5,6,7,56]) [] 784 (pc (fun hg:(bm == 0)=true=>(pc hg pn)) (pc (fun hg:(bm == 0)=true=>(pc hg pn)) (pc (fun hq:(bm == 0)=true=>(pc hq pn)) pn))) ?_
   refine dr 0 56 h (fun ti h=>?_) (fun ti h=>?_)
   ·refine ae hE 0 [] [] (kp [0,1,5,6,7]) [] 800 pn ?_
    exact cP hE 2 [] (kp [0,1,5,6,7]) [] 0 pn (pN N _ _ _ _ _ h E hE)
   ·exact cP hE 3 [] (kp [0,1,5,6,7]) [] 0 pn (pN N _ _ _ _ _ h E hE)
end Go.Den
