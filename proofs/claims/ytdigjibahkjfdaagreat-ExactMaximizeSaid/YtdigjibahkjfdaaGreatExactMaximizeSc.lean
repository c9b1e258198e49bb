/- Each function of the program does what its Lean function computes (part 3). No conditions. -/
import Derived.Test.YtdigjibahkjfdaaGreatExactMaximizeSb
import Derived.Test.YtdigjibahkjfdaaGreatProg
set_option linter.unusedVariables false
set_option maxRecDepth 100000
namespace Go.Den
open Go.Ab Go.Proofs Go.Ab.az
noncomputable abbrev xa:=cG Tryz.f41
def oh (N:Nat) (n:Int) (l:List aH) (y:List aa) (K:(List aa)→Int→Option ((List aa)×aa)):Prop:=∀ (out:List aa) (j:Int) (r:(List aa)×aa),K out j=some r→∀ E,aQ E 0→az Tryz.prog E 41 74 (aY E [] (.tup [(aN ah aa.d r.1),(.agg (ah r.2))])) [.code (xa 116),.inLoop (xa 116),.inBlock 0,.code (xa 15)] ⟨[(0,(aI n)),(1,(aN Aj aH.d l)),(2,(aN ah aa.d y)),(7,(.op 0 0 0)),(8,(.os 1 0 out.length)),(9,(aI j))],[(0,vO 4 [(aB false),.nil,(aB false),.nil]),(1,aO 4 ah aa.d out)],2⟩
def sE (N:Nat) (n:Int) (l:List aH) (y:List aa) (out:List aa) (j:Int) (K:aa→Int→Option ((List aa)×aa)):Prop:=∀ (s:aa) (i:Int) (r:(List aa)×aa),K s i=some r→∀ E,aQ E 0→az Tryz.prog E 41 74 (aY E [] (.tup [(aN ah aa.d r.1),(.agg (ah r.2))])) [.code (xa 29844),.inLoop (xa 29844),.inBlock 2,.code (xa 3731),.inBlock 1,.code (xa 467),.inLoop (xa 116),.inBlock 0,.code (xa 15)] ⟨[(0,(aI n)),(1,(aN Aj aH.d l)),(2,(aN ah aa.d y)),(7,(.op 0 0 0)),(8,(.os 1 0 out.length)),(9,(aI j)),(10,(.op 2 0 0)),(11,(aI i))],[(0,vO 4 [(aB false),.nil,(aB false),.nil]),(1,aO 4 ah aa.d out),(2,vO 4 (ah s))],3⟩
def z4 (N:Nat) (n:Int) (l:List aH) (y:List aa) (out:List aa) (j:Int) (i:Int) (K:aa→Option ((List aa)×aa)):Prop:=∀ (s2:aa) (r:(List aa)×aa),K s2=some r→∀ E,aQ E 0→az Tryz.prog E 41 74 (aY E [] (.tup [(aN ah aa.d r.1),(.agg (ah r.2))])) [.code (xa 119379),.inLoop (xa 29844),.inBlock 2,.code (xa 3731),.inBlock 1,.code (xa 467),.inLoop (xa 116),.inBlock 0,.code (xa 15)] ⟨[(0,(aI n)),(1,(aN Aj aH.d l)),(2,(aN ah aa.d y)),(7,(.op 0 0 0)),(8,(.os 1 0 out.length)),(9,(aI j)),(10,(.op 2 0 0)),(11,(aI i))],[(0,vO 4 [(aB false),.nil,(aB false),.nil]),(1,aO 4 ah aa.d out),(2,vO 4 (ah s2))],3⟩
theorem rJ (N:Nat) (n:Int) (l:List aH) (y:List aa) (out:List aa) (j:Int) (i:Int) (lC:aa→Int→Option ((List aa)×aa)) (cH:(List aa)→Int→Option ((List aa)×aa)) (yI:sE N n l y out j lC) (la:oh N n l y cH):z4 N n l y out j i (k7 N n l y out j i lC cH):=by
 intro s2 r h E hE
 unfold k7 at h
 refine aj hE 0 [] [] (kp [0,1,2,7,8,9,10,11]) (kq [0,1,2]) 51 pn ?_
 exact de hE 1 [] (kp [0,1,2,7,8,9,10,11]) (kq [0,1,2]) 3 pn (yI _ _ _ h E hE)
theorem yJ (N:Nat) (n:Int) (l:List aH) (y:List aa) (out:List aa) (j:Int) (cH:(List aa)→Int→Option ((List aa)×aa)) (la:oh N n l y cH) (fuel:Nat):sE N n l y out j (eR N n l y out j cH fuel):=by
 induction fuel with
 | zero=>intro _ _ r h;rw [eR.eq_1] at h;cases h
 | succ fuel ih =>
  intro s i r h E hE
  rw [eR.eq_2] at h
  refine aj hE 2 [] [] (kp [0,1,2,7,8,9,10,11,23]) (kq [0,1,2]) 67 pn ?_
  refine dS 0 23 h (fun iU h=>?_) (fun iU h=>?_)
  ·obtain ⟨c,h⟩:=ae h
   refine aj hE 4 [] [] (kp [0,1,2,7,8,9,10,11,33]) (kq [0,1,2]) 195 (pc c pn) ?_
   refine dS 0 33 h (fun rm h=>?_) (fun rm h=>?_)
   ·obtain ⟨c2,h⟩:=ae h
    obtain ⟨c3,h⟩:=ae h
    obtain ⟨cy,eW,h⟩:=bt h
    obtain ⟨bz,ly,h⟩:=bt h
    refine aj hE 0 [(13,oT (.agg (ah cy))),(14,oT (.agg (ah bz)))] [] (kp [0,1,2,7,8,9,10,11]) (kq [0,1,2]) 451 (pc o1 (pc c2 (pc c (pc c3 (pc (sm _ _ _ _ eW) (pc (oY _ _ _ _ ly) (pc o1 pn))))))) ?_
    exact de hE 1 [] (kp [0,1,2,7,8,9,10,11]) (kq [0,1,2]) 3 pn (rJ N _ _ _ _ _ _ _ _ ih la _ _ h E hE)
   ·exact de hE 2 [] (kp [0,1,2,7,8,9,10,11]) (kq [0,1,2]) 3 pn (rJ N _ _ _ _ _ _ _ _ ih la _ _ h E hE)
  ·obtain ⟨c4,h⟩:=ae h
   refine aj hE 1 [] [] (kp [0,1,2,7] ++ [(8,.lP ((out ++ ([s]:List aa)).length))] ++ kp [9]) (kq [0] ++ [(115,.arr 115 ((out ++ ([s]:List aa)).length) (fun zi=>ah ((out ++ ([s]:List aa)).getD zi aa.d)))]) 147 (pc o1 (pc (Eq.refl out.length) (pc c4 (pc (z1 1) (pc (show ∀ zi,zi < 1→AV.ko ((fun zi=>([[(aB s.fN.fG),(eU s.fN.fL),(aB s.fD.fG),(eU s.fD.fL)]]:List (List AV)).getD zi []) (bT 0 zi))=true from (zT rfl)) (pc (show (out.length+1)=(out ++ ([s]:List aa)).length from (bA rfl rfl)) (pc (show out.length+1=(out ++ ([s]:List aa)).length from (bA rfl rfl)) (pc (show ∀ zi,zi < (out ++ ([s]:List aa)).length→(fun zi=>ah ((out ++ ([s]:List aa)).getD zi aa.d)) zi=((fun zm=>if zm < out.length then (fun zi=>ah (out.getD zi aa.d)) zm else (fun zi=>([[(aB s.fN.fG),(eU s.fN.fL),(aB s.fD.fG),(eU s.fD.fL)]]:List (List AV)).getD zi []) (zm - out.length))) zi from (dT ah aa.d out ([s]:List aa) rfl (fun _ _=>rfl) (fun zq j5=>dP ah aa.d ([s]:List aa) zq j5))) pn)))))))) ?_
   refine aj hE 1 [] [] (kp [0,1,2,7,8,9]) (kq [0,115]) 195 pn ?_
   exact de hE 1 [] (kp [0,1,2,7,8,9]) (kq [0] ++ [(1,.ak 115)]) 2 pn (la _ _ _ h E hE)
def z5 (N:Nat) (l:List aH) (y:List aa) (out:List aa) (K:aa→Int→Option ((List aa)×aa)):Prop:=∀ (bound:aa) (i2:Int) (r:(List aa)×aa),K bound i2=some r→∀ E,aQ E 0→az Tryz.prog E 41 74 (aY E [] (.tup [(aN ah aa.d r.1),(.agg (ah r.2))])) [.code (xa 500),.inLoop (xa 500),.inBlock 4,.code (xa 63)] ⟨[(1,(aN Aj aH.d l)),(2,(aN ah aa.d y)),(7,(.op 0 0 0)),(8,(.os 1 0 out.length)),(12,(.op 2 0 0)),(13,(aI i2))],[(0,vO 4 [(aB false),.nil,(aB false),.nil]),(1,aO 4 ah aa.d out),(2,vO 4 (ah bound))],3⟩
theorem yK (N l y out fuel):z5 N l y out (fA N l y out fuel):=by
 induction fuel with
 | zero=>intro _ _ r h;rw [fA.eq_1] at h;cases h
 | succ fuel ih =>
  intro bound i2 r h E hE
  rw [fA.eq_2] at h
  refine aj hE 2 [] [] (kp [1,2,7,8,12,13,57]) (kq [0,1,2]) 67 pn ?_
  refine dS 0 57 h (fun F5 h=>?_) (fun F5 h=>?_)
  ·obtain ⟨c5,h⟩:=ae h
   obtain ⟨c6,h⟩:=ae h
   obtain ⟨gK,tZ,h⟩:=bt h
   obtain ⟨dg,yu,h⟩:=bt h
   refine aj hE 3 [(10,oT (.agg (ah gK))),(11,oT (.agg (ah dg)))] [] (kp [1,2,7,8,12,13]) (kq [0,1,2]) 275 (pc o1 (pc c5 (pc c6 (pc (sm _ _ _ _ tZ) (pc (oY _ _ _ _ yu) (pc o1 pn)))))) ?_
   refine aj hE 1 [] [] (kp [1,2,7,8,12,13]) (kq [0,1,2]) 323 pn ?_
   exact de hE 1 [] (kp [1,2,7,8,12,13]) (kq [0,1,2]) 3 pn (ih _ _ _ h E hE)
  ·refine aj hE 2 [] [] (kp [6,7]) (kq [0,1]) 131 (pc o1 (pc o1 pn)) ?_
   obtain rfl:=dx h
   exact dQ hE 0 Tryz.f41 [1] ([(6,.sl (out.length) (fun zi=>ah (out.getD zi aa.d)))] ++ kp [7]) [(17,.ak 0)] 131 (pc (Eq.refl out.length) (pc (z1 out.length) (pc (aZ out.length (fun zi=>ah (out.getD zi aa.d))) pn))) [17] (pc o1 pn)
theorem yL (N n l y fuel):oh N n l y (eS N n l y fuel):=by
 induction fuel with
 | zero=>intro _ _ r h;rw [eS.eq_1] at h;cases h
 | succ fuel ih =>
  intro out j r h E hE
  rw [eS.eq_2] at h
  refine aj hE 2 [] [] (kp [0,1,2,7,8,9,16]) (kq [0,1]) 50 pn ?_
  refine dS 0 16 h (fun dR h=>?_) (fun dR h=>?_)
  ·obtain ⟨rQ,hr,h⟩:=bt h
   refine aj hE 4 [(0,oT (.agg (ah rQ)))] [] (kp [0,1,2,7,8,9,10]) (kq [0,1,66]) 98 (pc (AW _ _ _ hr) (pc o1 pn)) ?_
   refine aj hE 2 [] [] (kp [0,1,2,7,8,9,10,11]) (kq [0,1,66]) 114 pn ?_
   exact de hE 2 [] (kp [0,1,2,7,8,9,10,11]) (kq [0,1] ++ [(2,.ak 66)]) 3 pn (yJ N _ _ _ _ _ _ ih N _ _ _ h E hE)
  ·obtain ⟨rQ2,oi,h⟩:=bt h
   refine aj hE 2 [(0,oT (.agg (ah rQ2)))] [] (kp [1,2,7,8,12]) (kq [0,1,66]) 98 (pc (AW _ _ _ oi) (pc o1 pn)) ?_
   refine aj hE 2 [] [] (kp [1,2,7,8,12,13]) (kq [0,1,66]) 114 pn ?_
   exact de hE 2 [] (kp [1,2,7,8,12,13]) (kq [0,1] ++ [(2,.ak 66)]) 3 pn (yK N _ _ _ N _ _ _ h E hE)
theorem uC (N n l y r) (h:np N n l y=some r):Sd 41 [(aI n),(aN Aj aH.d l),(aN ah aa.d y)] [] 0 (.tup [(aN ah aa.d r.1),(.agg (ah r.2))]) []:=by
 unfold np at h
 refine iy (fu:=Tryz.f41) (c:=xa 1) (nt:=74) (fun hm=>rfl) ?_
 intro E hE
 refine aj hE 1 [] [] (kp [0,1,2,7]) (kq [16]) 32 pn ?_
 refine aj hE 1 [] [] (kp [0,1,2,7,8]) (kq [16]) 48 pn ?_
 refine aj hE 2 [] [] (kp [0,1,2,7,8,9]) (kq [16]) 64 pn ?_
 exact de hE 2 [] (kp [0,1,2,7] ++ [(8,.sD 1)] ++ kp [9]) [(0,.ak 16),(1,.nil 4 (fun zi=>ah (([]:List aa).getD zi aa.d)))] 2 pn (yL N _ _ _ N _ _ _ h E hE)
noncomputable abbrev ZQ:=cG Tryz.f116
theorem JG (N a r) (h:zG N a=some r):Sd 116 [(.agg (im a))] [] 0 (.agg (im r)) []:=by
 unfold zG at h
 refine iy (fu:=Tryz.f116) (c:=ZQ 1) (nt:=10) (fun hm=>rfl) ?_
 intro E hE
 refine aj hE 1 [] [] (kp [1,2]) (kq [0,16]) 32 pn ?_
 obtain ⟨mO,hr,h⟩:=bt h
 obtain ⟨p9,eW,h⟩:=bt h
 refine aj hE 1 [(5,oT (aN cI 0 mO)),(6,oT (.agg (im p9)))] [] (kp [2]) (kq [16]) 160 (pc o1 (pc o1 (pc (jK _ _ _ hr) (pc (iA _ _ _ _ eW) (pc o1 pn))))) ?_
 obtain rfl:=dx h
 exact dQ hE 0 Tryz.f116 [] (kp [2]) (kq [16]) 160 pn [16] (pc o1 pn)
noncomputable abbrev ZR:=cG Tryz.f94
theorem EA (N x r) (h:sL N x=some r):Sd 94 [(.agg (ah x))] [] 0 (.agg (ah r)) []:=by
 unfold sL at h
 refine iy (fu:=Tryz.f94) (c:=ZR 1) (nt:=12) (fun hm=>rfl) ?_
 intro E hE
 refine aj hE 1 [] [] (kp [1,2]) (kq [0,16]) 32 pn ?_
 obtain ⟨fc,hr,h⟩:=bt h
 refine aj hE 1 [(1,oT (.agg (ah fc)))] [] (kp [2,3]) (kq [16,64]) 96 (pc o1 (pc (ig _ _ _ hr) (pc o1 pn))) ?_
 obtain ⟨Xx,eW,h⟩:=bt h
 refine aj hE 1 [(2,oT (.agg (im Xx)))] [] (kp [2]) (kq [16]) 208 (pc o1 (pc (JG _ _ _ eW) (pc o1 (pc o1 pn)))) ?_
 obtain rfl:=dx h
 exact dQ hE 0 Tryz.f94 [] (kp [2]) (kq [16]) 208 pn [16] (pc o1 pn)
noncomputable abbrev ZS:=cG Tryz.f55
theorem EB (N x y r) (h:sM N x y=some r):Sd 55 [(.agg (ah x)),(.agg (ah y))] [] 0 (.agg (ah r)) []:=by
 unfold sM at h
 refine iy (fu:=Tryz.f55) (c:=ZS 1) (nt:=9) (fun hm=>rfl) ?_
 intro E hE
 refine aj hE 1 [] [] (kp [2,3,4]) (kq [0,16,32]) 48 pn ?_
 obtain ⟨Jp,hr,h⟩:=bt h
 obtain ⟨bz,eW,h⟩:=bt h
 refine aj hE 1 [(2,oT (.agg (ah Jp))),(3,oT (.agg (ah bz)))] [] (kp [4]) (kq [32]) 128 (pc o1 (pc o1 (pc (EA _ _ _ hr) (pc (oY _ _ _ _ eW) (pc o1 pn))))) ?_
 obtain rfl:=dx h
 exact dQ hE 0 Tryz.f55 [] (kp [4]) [(16,.ak 32)] 128 pn [16] (pc o1 pn)
noncomputable abbrev ZT:=cG Tryz.f88
theorem HG (N a r) (h:wV N a=some r):Sd 88 [(.agg (im a))] [] 0 (aI r) []:=by
 unfold wV at h
 refine iy (fu:=Tryz.f88) (c:=ZT 1) (nt:=10) (fun hm=>rfl) ?_
 intro E hE
 refine aj hE 1 [] [] (kp [1]) (kq [0]) 32 pn ?_
 obtain ⟨mO,hr,h⟩:=bt h
 refine aj hE 2 [(2,oT (aN cI 0 mO))] [] (kp [1,7]) (kq [0]) 112 (pc o1 (pc (jK _ _ _ hr) pn)) ?_
 refine dS 0 7 h (fun dR h=>?_) (fun dR h=>?_)
 ·refine aj hE 1 [] [] (kp [2]) [] 128 pn ?_
  obtain rfl:=dx h
  exact dQ hE 0 Tryz.f88 [] (kp [2]) [] 128 pn [] pn
 ·refine aj hE 3 [] [] (kp [9]) [] 144 (pc o1 pn) ?_
  refine dS 0 9 h (fun iU h=>?_) (fun iU h=>?_)
  ·refine aj hE 1 [] [] (kp [2]) [] 160 pn ?_
   obtain rfl:=dx h
   exact dQ hE 0 Tryz.f88 [] (kp [2]) [] 160 pn [] pn
  ·refine aj hE 2 [] [] (kp [2]) [] 160 pn ?_
   obtain rfl:=dx h
   exact dQ hE 0 Tryz.f88 [] (kp [2]) [] 160 pn [] pn
noncomputable abbrev ZU:=cG Tryz.f44
theorem jN (N x r) (h:gy N x=some r):Sd 44 [(.agg (ah x))] [] 0 (aI r) []:=by
 unfold gy at h
 refine iy (fu:=Tryz.f44) (c:=ZU 1) (nt:=7) (fun hm=>rfl) ?_
 intro E hE
 refine aj hE 1 [] [] (kp [1]) (kq [0]) 32 pn ?_
 obtain ⟨fc,hr,h⟩:=bt h
 obtain ⟨RI,eW,h⟩:=bt h
 refine aj hE 1 [(1,oT (.agg (ah fc))),(3,oT (aI RI))] [] (kp [2]) [] 112 (pc o1 (pc (ig _ _ _ hr) (pc (HG _ _ _ eW) pn))) ?_
 obtain rfl:=dx h
 exact dQ hE 0 Tryz.f44 [] (kp [2]) [] 112 pn [] pn
noncomputable abbrev ac8:=cG Tryz.f22
theorem oZ (N x y r) (h:k8 N x y=some r):Sd 22 [(.agg (ah x)),(.agg (ah y))] [] 0 (aI r) []:=by
 unfold k8 at h
 refine iy (fu:=Tryz.f22) (c:=ac8 1) (nt:=9) (fun hm=>rfl) ?_
 intro E hE
 refine aj hE 1 [] [] (kp [2,3]) (kq [0,16]) 48 pn ?_
 obtain ⟨dc,hr,h⟩:=bt h
 obtain ⟨j3,eW,h⟩:=bt h
 refine aj hE 1 [(2,oT (.agg (ah dc))),(3,oT (aI j3))] [] (kp [4]) [] 128 (pc o1 (pc o1 (pc (EB _ _ _ _ hr) (pc (jN _ _ _ eW) pn)))) ?_
 obtain rfl:=dx h
 exact dQ hE 0 Tryz.f22 [] (kp [4]) [] 128 pn [] pn
noncomputable abbrev Oh:=cG Tryz.f20
def AY (N:Nat) (a:List aa) (b:List aa) (K:aa→Int→Option (aa)):Prop:=∀ (out:aa) (i:Int) (r:aa),K out i=some r→∀ E,aQ E 0→az Tryz.prog E 20 32 (aY E [] (.agg (ah r))) [.code (Oh 116),.inLoop (Oh 116),.inBlock 0,.code (Oh 15)] ⟨[(0,(aN ah aa.d a)),(1,(aN ah aa.d b)),(4,(.op 0 0 0)),(5,(.op 1 0 0)),(6,(aI i))],[(0,vO 4 [(aB false),.nil,(aB false),.nil]),(1,vO 4 (ah out))],2⟩
theorem z6 (N a b fuel):AY N a b (gl N a b fuel):=by
 induction fuel with
 | zero=>intro _ _ r h;rw [gl.eq_1] at h;cases h
 | succ fuel ih =>
  intro out i r h E hE
  rw [gl.eq_2] at h
  refine aj hE 2 [] [] (kp [0,1,4,5,6,17]) (kq [0,1]) 162 (pc (fun hg:(decide (i < ((a.length:Nat):Int)))=true=>(pc hg pn)) (pc (fun hg:(decide (i < ((a.length:Nat):Int)))=true=>(pc hg (pc hg pn))) (pc (fun hq:(decide (i < ((a.length:Nat):Int)))=true=>(pc hq pn)) pn))) ?_
  refine dS 0 17 h (fun dR h=>?_) (fun dR h=>?_)
  ·obtain ⟨c,h⟩:=ae h
   obtain ⟨c2,h⟩:=ae h
   obtain ⟨cy,eW,h⟩:=bt h
   obtain ⟨bz,ly,h⟩:=bt h
   refine aj hE 3 [(9,oT (.agg (ah cy))),(10,oT (.agg (ah bz)))] [] (kp [0,1,4,5,6]) (kq [0,1]) 354 (pc o1 (pc c (pc c2 (pc (sm _ _ _ _ eW) (pc (oY _ _ _ _ ly) (pc o1 pn)))))) ?_
   refine aj hE 1 [] [] (kp [0,1,4,5,6]) (kq [0,1]) 402 pn ?_
   exact de hE 1 [] (kp [0,1,4,5,6]) (kq [0,1]) 2 pn (ih _ _ _ h E hE)
  ·refine aj hE 2 [] [] (kp [4]) (kq [0]) 194 (pc o1 (pc o1 pn)) ?_
   obtain rfl:=dx h
   exact dQ hE 0 Tryz.f20 [] (kp [4]) [(16,.ak 0)] 194 pn [16] (pc o1 pn)
theorem nZ (N a b r) (h:ll N a b=some r):Sd 20 [(aN ah aa.d a),(aN ah aa.d b)] [] 0 (.agg (ah r)) []:=by
 unfold ll at h
 refine iy (fu:=Tryz.f20) (c:=Oh 1) (nt:=32) (fun hm=>rfl) ?_
 intro E hE
 refine aj hE 1 [] [] (kp [0,1,4]) (kq [0]) 16 pn ?_
 obtain ⟨rQ,hr,h⟩:=bt h
 refine aj hE 1 [(0,oT (.agg (ah rQ)))] [] (kp [0,1,4,5]) (kq [0,32]) 64 (pc (AW _ _ _ hr) (pc o1 pn)) ?_
 refine aj hE 2 [] [] (kp [0,1,4,5,6]) (kq [0,32]) 80 pn ?_
 exact de hE 2 [] (kp [0,1,4,5,6]) (kq [0] ++ [(1,.ak 32)]) 2 pn (z6 N _ _ N _ _ _ h E hE)
noncomputable abbrev Oi:=cG Tryz.f15
def Dn (N:Nat) (l:List aH) (xu:List aa) (K:Int→Option (Bool)):Prop:=∀ (i:Int) (r:Bool),K i=some r→∀ E,aQ E 0→az Tryz.prog E 15 26 (aY E [] (aB r)) [.code (Oi 52),.inLoop (Oi 52),.inBlock 0,.code (Oi 7)] ⟨[(0,(aN Aj aH.d l)),(1,(aN ah aa.d xu)),(5,(aI i))],[],0⟩
theorem BW (N l xu fuel):Dn N l xu (iT N l xu fuel):=by
 induction fuel with
 | zero=>intro _ r h;rw [iT.eq_1] at h;cases h
 | succ fuel ih =>
  intro i r h E hE
  rw [iT.eq_2] at h
  refine aj hE 2 [] [] (kp [0,1,5,9]) [] 64 pn ?_
  refine dS 0 9 h (fun dR h=>?_) (fun dR h=>?_)
  ·obtain ⟨c,h⟩:=ae h
   obtain ⟨nr,hr,h⟩:=bt h
   obtain ⟨l3,eW,h⟩:=bt h
   refine aj hE 4 [(6,oT (.agg (ah nr))),(12,oT (aI l3))] [] (kp [0,1,5,25]) [] 288 (pc c (pc (nZ _ _ _ _ hr) (pc c (pc (oZ _ _ _ _ eW) pn)))) ?_
   refine dS 0 25 h (fun iU h=>?_) (fun iU h=>?_)
   ·refine aj hE 1 [] [] (kp [4]) [] 304 pn ?_
    obtain rfl:=dx h
    exact dQ hE 0 Tryz.f15 [] (kp [4]) [] 304 pn [] pn
   ·refine aj hE 2 [] [] (kp [0,1,5]) [] 336 pn ?_
    exact de hE 1 [] (kp [0,1,5]) [] 0 pn (ih _ _ h E hE)
  ·refine aj hE 2 [] [] (kp [4]) [] 80 pn ?_
   obtain rfl:=dx h
   exact dQ hE 0 Tryz.f15 [] (kp [4]) [] 80 pn [] pn
theorem yM (N l xu r) (h:rl N l xu=some r):Sd 15 [(aN Aj aH.d l),(aN ah aa.d xu)] [] 0 (aB r) []:=by
 unfold rl at h
 refine iy (fu:=Tryz.f15) (c:=Oi 1) (nt:=26) (fun hm=>rfl) ?_
 intro E hE
 refine aj hE 1 [] [] (kp [0,1]) [] 16 pn ?_
 refine aj hE 2 [] [] (kp [0,1,5]) [] 32 pn ?_
 exact de hE 2 [] (kp [0,1,5]) [] 0 pn (BW N _ _ N _ _ h E hE)
noncomputable abbrev Oj:=cG Tryz.f42
def wh (N:Nat) (l:List aa) (K:Int→Option (Bool)):Prop:=∀ (i:Int) (r:Bool),K i=some r→∀ E,aQ E 0→az Tryz.prog E 42 16 (aY E [] (aB r)) [.code (Oj 52),.inLoop (Oj 52),.inBlock 0,.code (Oj 7)] ⟨[(0,(aN ah aa.d l)),(3,(aI i))],[],0⟩
theorem u7 (N l fuel):wh N l (dW N l fuel):=by
 induction fuel with
 | zero=>intro _ r h;rw [dW.eq_1] at h;cases h
 | succ fuel ih =>
  intro i r h E hE
  rw [dW.eq_2] at h
  refine aj hE 2 [] [] (kp [0,3,7]) [] 64 pn ?_
  refine dS 0 7 h (fun dR h=>?_) (fun dR h=>?_)
  ·obtain ⟨c,h⟩:=ae h
   obtain ⟨j3,hr,h⟩:=bt h
   refine aj hE 4 [(4,oT (aI j3))] [] (kp [0,3,15]) [] 160 (pc c (pc (jN _ _ _ hr) pn)) ?_
   refine dS 0 15 h (fun iU h=>?_) (fun iU h=>?_)
   ·refine aj hE 1 [] [] (kp [2]) [] 176 pn ?_
    obtain rfl:=dx h
    exact dQ hE 0 Tryz.f42 [] (kp [2]) [] 176 pn [] pn
   ·refine aj hE 2 [] [] (kp [0,3]) [] 208 pn ?_
    exact de hE 1 [] (kp [0,3]) [] 0 pn (ih _ _ h E hE)
  ·refine aj hE 2 [] [] (kp [2]) [] 80 pn ?_
   obtain rfl:=dx h
   exact dQ hE 0 Tryz.f42 [] (kp [2]) [] 80 pn [] pn
theorem qq (N l r) (h:j4 N l=some r):Sd 42 [(aN ah aa.d l)] [] 0 (aB r) []:=by
 unfold j4 at h
 refine iy (fu:=Tryz.f42) (c:=Oj 1) (nt:=16) (fun hm=>rfl) ?_
 intro E hE
 refine aj hE 1 [] [] (kp [0]) [] 16 pn ?_
 refine aj hE 2 [] [] (kp [0,3]) [] 32 pn ?_
 exact de hE 2 [] (kp [0,3]) [] 0 pn (u7 N _ N _ _ h E hE)
noncomputable abbrev Vf:=cG Tryz.f11
def BX (N:Nat) (c:List aa) (l:List aH) (x:n6) (cr:(List aa)×aa) (K:Int→Option (Bool)):Prop:=∀ (j:Int) (r:Bool),K j=some r→∀ E,aQ E 0→az Tryz.prog E 11 61 (aY E [] (aB r)) [.code (Vf 116),.inLoop (Vf 116),.inBlock 0,.code (Vf 15)] ⟨[(0,(aN ah aa.d c)),(1,(aN Aj aH.d l)),(5,(.op 0 0 0)),(7,(aN ah aa.d cr.1)),(8,(.op 1 0 0)),(9,(aI j))],[(0,vO 6 (n6.cells x)),(1,vO 4 (ah cr.2))],2⟩
theorem AZ (N c l x cr fuel):BX N c l x cr (gS N c l x cr fuel):=by
 induction fuel with
 | zero=>intro _ r h;rw [gS.eq_1] at h;cases h
 | succ fuel ih =>
  intro j r h E hE
  rw [gS.eq_2] at h
  refine aj hE 2 [] [] (kp [0,1,5,7,8,9,22]) (kq [0,1]) 66 pn ?_
  refine dS 0 22 h (fun dR h=>?_) (fun dR h=>?_)
  ·obtain ⟨c2,h⟩:=ae h
   obtain ⟨c3,h⟩:=ae h
   obtain ⟨l3,eW,h⟩:=bt h
   refine aj hE 4 [(8,oT (aI l3))] [] (kp [0,1,5,7,8,9,34]) (kq [0,1]) 226 (pc c2 (pc c3 (pc (oZ _ _ _ _ eW) pn))) ?_
   refine dS 0 34 h (fun iU h=>?_) (fun iU h=>?_)
   ·refine aj hE 1 [] [] (kp [6]) [] 242 pn ?_
    obtain rfl:=dx h
    exact dQ hE 0 Tryz.f11 [] (kp [6]) [] 242 pn [] pn
   ·refine aj hE 2 [] [] (kp [0,1,5,7,8,9]) (kq [0,1]) 274 pn ?_
    exact de hE 1 [] (kp [0,1,5,7,8,9]) (kq [0,1]) 2 pn (ih _ _ h E hE)
  ·obtain ⟨dw,ly,h⟩:=bt h
   obtain ⟨bK,oi,h⟩:=bt h
   obtain ⟨nu,tZ,h⟩:=bt h
   obtain ⟨nr,yu,h⟩:=bt h
   obtain ⟨FV,AQ,h⟩:=bt h
   refine aj hE 2 [(3,oT (aB dw)),(7,oT (aB bK)),(13,oT (aI nu)),(20,oT (.agg (ah nr))),(23,oT (aI FV))] [] (kp [6]) [] 498 (pc o1 (pc (yM _ _ _ _ ly) (pc (fun hg:dw=true=>(pc hg (pc o1 pn))) (pc (fun hg:dw=true=>(pc (qq _ _ _ (aG oi hg)) (pc hg pn))) (pc (fun hq:dw=true=>(pc hq pn)) (pc (fun hg:(cond dw bK false)=true=>(pc o1 pn)) (pc (fun hg:(cond dw bK false)=true=>(pc hg (pc o1 pn))) (pc (fun hg:(cond dw bK false)=true=>(pc (oZ _ _ _ _ (aG tZ hg)) (pc hg (pc hg pn)))) (pc (fun hg:(cond dw bK false)=true=>(pc hg pn)) (pc (fun hq:(cond dw bK false)=true=>(pc hq pn)) (pc (fun hg:(cond (cond dw bK false) (nu == 0) false)=true=>(pc hg (pc o1 pn))) (pc (fun hg:(cond (cond dw bK false) (nu == 0) false)=true=>(pc (nZ _ _ _ _ (aG yu hg)) (pc hg (pc hg pn)))) (pc (fun hg:(cond (cond dw bK false) (nu == 0) false)=true=>(pc hg (pc o1 pn))) (pc (fun hg:(cond (cond dw bK false) (nu == 0) false)=true=>(pc (oZ _ _ _ _ (aG AQ hg)) (pc hg (pc hg pn)))) (pc (fun hg:(cond (cond dw bK false) (nu == 0) false)=true=>(pc hg pn)) (pc (fun hq:(cond (cond dw bK false) (nu == 0) false)=true=>(pc hq pn)) pn)))))))))))))))) ?_
   obtain rfl:=dx h
   exact dQ hE 0 Tryz.f11 [] (kp [6]) [] 498 pn [] pn
theorem EC (N c l x r) (h:sN N c l x=some r):Sd 11 [(aN ah aa.d c),(aN Aj aH.d l),(.agg (n6.cells x))] [] 0 (aB r) []:=by
 unfold sN at h
 refine iy (fu:=Tryz.f11) (c:=Vf 1) (nt:=61) (fun hm=>rfl) ?_
 intro E hE
 refine aj hE 1 [] [] (kp [0,1,5]) (kq [0]) 32 pn ?_
 obtain ⟨cr,hr,h⟩:=bt h
 refine aj hE 1 [(5,oT (.tup [(aN ah aa.d cr.1),(.agg (ah cr.2))]))] [] (kp [0,1,5,7,8]) (kq [0,176]) 224 (pc o1 (pc (uC _ _ _ _ _ hr) (pc o1 pn))) ?_
 refine aj hE 2 [] [] (kp [0,1,5,7,8,9]) (kq [0,176]) 240 pn ?_
 exact de hE 2 [] (kp [0,1,5,7,8,9]) (kq [0] ++ [(1,.ak 176)]) 2 pn (AZ N _ _ _ _ N _ _ h E hE)
noncomputable abbrev Ok:=cG Tryz.f13
def xc (N:Nat) (n:Int) (y:List aa) (cr:(List aa)×aa) (K:Int→Option (Bool)):Prop:=∀ (j:Int) (r:Bool),K j=some r→∀ E,aQ E 0→az Tryz.prog E 13 35 (aY E [] (aB r)) [.code (Ok 116),.inLoop (Ok 116),.inBlock 0,.code (Ok 15)] ⟨[(0,(aI n)),(2,(aN ah aa.d y)),(7,(aN ah aa.d cr.1)),(8,(.op 0 0 0)),(9,(aI j))],[(0,vO 4 (ah cr.2))],1⟩
theorem wi (N n y cr fuel):xc N n y cr (ee N n y cr fuel):=by
 induction fuel with
 | zero=>intro _ r h;rw [ee.eq_1] at h;cases h
 | succ fuel ih =>
  intro j r h E hE
  rw [ee.eq_2] at h
  refine aj hE 2 [] [] (kp [0,2,7,8,9,19]) (kq [0]) 49 pn ?_
  refine dS 0 19 h (fun dR h=>?_) (fun dR h=>?_)
  ·obtain ⟨c,h⟩:=ae h
   obtain ⟨j3,eW,h⟩:=bt h
   refine aj hE 4 [(4,oT (aI j3))] [] (kp [0,2,7,8,9,27]) (kq [0]) 145 (pc c (pc (jN _ _ _ eW) pn)) ?_
   refine dS 0 27 h (fun iU h=>?_) (fun iU h=>?_)
   ·refine aj hE 1 [] [] (kp [6]) [] 161 pn ?_
    obtain rfl:=dx h
    exact dQ hE 0 Tryz.f13 [] (kp [6]) [] 161 pn [] pn
   ·refine aj hE 2 [] [] (kp [0,2,7,8,9]) (kq [0]) 193 pn ?_
    exact de hE 1 [] (kp [0,2,7,8,9]) (kq [0]) 1 pn (ih _ _ h E hE)
  ·obtain ⟨bK,ly,h⟩:=bt h
   obtain ⟨qF,oi,h⟩:=bt h
   refine aj hE 2 [(1,oT (aB bK)),(4,oT (aI qF))] [] (kp [6]) [] 177 (pc (qq _ _ _ ly) (pc (fun hg:bK=true=>(pc o1 pn)) (pc (fun hg:bK=true=>(pc (jN _ _ _ (aG oi hg)) (pc hg pn))) (pc (fun hg:bK=true=>(pc hg pn)) (pc (fun hq:bK=true=>(pc hq pn)) pn))))) ?_
   obtain rfl:=dx h
   exact dQ hE 0 Tryz.f13 [] (kp [6]) [] 177 pn [] pn
theorem yN (N n l y r) (h:mP N n l y=some r):Sd 13 [(aI n),(aN Aj aH.d l),(aN ah aa.d y)] [] 0 (aB r) []:=by
 unfold mP at h
 refine iy (fu:=Tryz.f13) (c:=Ok 1) (nt:=35) (fun hm=>rfl) ?_
 intro E hE
 refine aj hE 1 [] [] (kp [0,1,2]) [] 16 pn ?_
 obtain ⟨cr,hr,h⟩:=bt h
 refine aj hE 1 [(3,oT (.tup [(aN ah aa.d cr.1),(.agg (ah cr.2))]))] [] (kp [0,2,7,8]) (kq [128]) 176 (pc (uC _ _ _ _ _ hr) (pc o1 pn)) ?_
 refine aj hE 2 [] [] (kp [0,2,7,8,9]) (kq [128]) 192 pn ?_
 exact de hE 2 [] (kp [0,2,7,8,9]) [(0,.ak 128)] 1 pn (wi N _ _ _ N _ _ h E hE)
noncomputable abbrev Ol:=cG Tryz.f16
def Gn (N:Nat) (c:List aa) (l:List aH) (d:List aa) (K:Int→Option (Bool)):Prop:=∀ (i:Int) (r:Bool),K i=some r→∀ E,aQ E 0→az Tryz.prog E 16 28 (aY E [] (aB r)) [.code (Ol 52),.inLoop (Ol 52),.inBlock 0,.code (Ol 7)] ⟨[(0,(aN ah aa.d c)),(1,(aN Aj aH.d l)),(2,(aN ah aa.d d)),(7,(aI i))],[],0⟩
theorem ED (N c l d fuel):Gn N c l d (k9 N c l d fuel):=by
 induction fuel with
 | zero=>intro _ r h;rw [k9.eq_1] at h;cases h
 | succ fuel ih =>
  intro i r h E hE
  rw [k9.eq_2] at h
  refine aj hE 2 [] [] (kp [0,1,2,7,11]) [] 64 pn ?_
  refine dS 0 11 h (fun dR h=>?_) (fun dR h=>?_)
  ·obtain ⟨c2,h⟩:=ae h
   obtain ⟨nr,hr,h⟩:=bt h
   obtain ⟨j3,eW,h⟩:=bt h
   refine aj hE 4 [(6,oT (.agg (ah nr))),(7,oT (aI j3))] [] (kp [0,1,2,7,22]) [] 208 (pc c2 (pc (nZ _ _ _ _ hr) (pc (jN _ _ _ eW) pn))) ?_
   refine dS 0 22 h (fun iU h=>?_) (fun iU h=>?_)
   ·refine aj hE 1 [] [] (kp [6]) [] 224 pn ?_
    obtain rfl:=dx h
    exact dQ hE 0 Tryz.f16 [] (kp [6]) [] 224 pn [] pn
   ·refine aj hE 2 [] [] (kp [0,1,2,7]) [] 256 pn ?_
    exact de hE 1 [] (kp [0,1,2,7]) [] 0 pn (ih _ _ h E hE)
  ·obtain ⟨CU,ly,h⟩:=bt h
   obtain ⟨qF,oi,h⟩:=bt h
   refine aj hE 2 [(2,oT (.agg (ah CU))),(3,oT (aI qF))] [] (kp [6]) [] 160 (pc (nZ _ _ _ _ ly) (pc (jN _ _ _ oi) pn)) ?_
   obtain rfl:=dx h
   exact dQ hE 0 Tryz.f16 [] (kp [6]) [] 160 pn [] pn
theorem JH (N c l d r) (h:zH N c l d=some r):Sd 16 [(aN ah aa.d c),(aN Aj aH.d l),(aN ah aa.d d)] [] 0 (aB r) []:=by
 unfold zH at h
 refine iy (fu:=Tryz.f16) (c:=Ol 1) (nt:=28) (fun hm=>rfl) ?_
 intro E hE
 refine aj hE 1 [] [] (kp [0,1,2]) [] 16 pn ?_
 refine aj hE 2 [] [] (kp [0,1,2,7]) [] 32 pn ?_
 exact de hE 2 [] (kp [0,1,2,7]) [] 0 pn (ED N _ _ _ N _ _ h E hE)
noncomputable abbrev ac9:=cG Tryz.f3
theorem xd (N ab l r) (h:gP N ab l=some r):Sd 3 [(aN ah aa.d ab),(aN Aj aH.d l)] [] 0 (aB r) []:=by
 unfold gP at h
 refine iy (fu:=Tryz.f3) (c:=ac9 1) (nt:=177) (fun hm=>rfl) ?_
 intro E hE
 refine aj hE 1 [] [] (kp [0,1]) [] 16 pn ?_
 refine aj hE 1 [] [] (kp [0,1,5]) (kq [80]) 112 (pc o1 pn) ?_
 obtain ⟨zI,hr,h⟩:=bt h
 obtain ⟨FX,eW,h⟩:=bt h
 refine aj hE 2 [(1,oT (aB zI)),(5,oT (aB FX))] [] (kp [0,1,5,22]) (kq [80]) 224 (pc o1 (pc (v8 _ _ _ hr) (pc (fun hg:(!(!zI))=true=>(pc (Dc _ _ _ _ (aG eW hg)) (pc hg pn))) (pc (fun hq:(!(!zI))=true=>(pc hq pn)) pn)))) ?_
 refine dS 0 22 h (fun dR h=>?_) (fun dR h=>?_)
 ·obtain ⟨MU,ly,h⟩:=bt h
  refine aj hE 1 [(0,oT (aB MU))] [] (kp [4]) [] 256 (pc (ny _ _ ly) pn) ?_
  obtain rfl:=dx h
  exact dQ hE 0 Tryz.f3 [] (kp [4]) [] 256 pn [] pn
 ·obtain ⟨ag,oi,h⟩:=bt h
  refine aj hE 2 [(2,oT (.tup [(.agg (n6.cells ag.1)),(aI ag.2)]))] [] (kp [0,1,5,6,7]) (kq [80,320]) 368 (pc (Er _ _ _ _ oi) (pc o1 pn)) ?_
  obtain ⟨bP,tZ,h⟩:=bt h
  refine aj hE 2 [(3,oT (aI bP))] [] (kp [0,1,5,6,7,8]) (kq [80,320]) 448 (pc o1 (pc (tL _ _ _ _ tZ) pn)) ?_
  refine aj hE 1 [] [] (kp [0,1,5,6,7,8,35]) (kq [80,320]) 480 pn ?_
  refine dS 0 35 h (fun iU h=>?_) (fun iU h=>?_)
  ·obtain ⟨fJ,yu,h⟩:=bt h
   obtain ⟨Jq,AQ,h⟩:=bt h
   refine aj hE 1 [(12,oT (aB fJ)),(20,oT (aB Jq))] [] (kp [4]) [] 848 (pc o1 (pc o1 (pc (fun hg:((aq (((ag.1.bm.length:Nat):Int)+((ag.1.ai.length:Nat):Int))) == 0)=true=>(pc hg (pc o1 pn))) (pc (fun hg:((aq (((ag.1.bm.length:Nat):Int)+((ag.1.ai.length:Nat):Int))) == 0)=true=>(pc (show Sd 10 [(.agg (ah ag.1.gG)),(.agg [(aB false),.nil,(aB false),.nil])] [] 0 (aB fJ) [] from (Sound.conv (lK _ _ _ _ (aG yu hg)) (.cons (Alike.refl _) (.cons (Alike.agg (.cons (Alike.refl _) (.cons Alike.nil (.cons (Alike.refl _) (.cons Alike.nil .nil))))) .nil)))) (pc hg (pc hg pn)))) (pc (fun hq:((aq (((ag.1.bm.length:Nat):Int)+((ag.1.ai.length:Nat):Int))) == 0)=true=>(pc hq pn)) (pc (fun hg:(cond ((aq (((ag.1.bm.length:Nat):Int)+((ag.1.ai.length:Nat):Int))) == 0) fJ false)=true=>(pc hg (pc hg pn))) (pc (fun hq:(cond ((aq (((ag.1.bm.length:Nat):Int)+((ag.1.ai.length:Nat):Int))) == 0) fJ false)=true=>(pc hq pn)) (pc (fun hg:(cond (cond ((aq (((ag.1.bm.length:Nat):Int)+((ag.1.ai.length:Nat):Int))) == 0) fJ false) (ag.2 == bP) false)=true=>(pc (ny _ _ (aG AQ hg)) pn)) (pc (fun hq:(cond (cond ((aq (((ag.1.bm.length:Nat):Int)+((ag.1.ai.length:Nat):Int))) == 0) fJ false) (ag.2 == bP) false)=true=>(pc hq pn)) pn))))))))) ?_
   obtain rfl:=dx h
   exact dQ hE 0 Tryz.f3 [] (kp [4]) [] 848 pn [] pn
  ·refine aj hE 3 [] [] (kp [0,1,5,6,58]) (kq [80,320]) 496 pn ?_
   refine aj hE 2 [] [] (kp [0,1,5,6,58,59]) (kq [80,320]) 528 pn ?_
   refine dS 0 59 h (fun rm h=>?_) (fun rm h=>?_)
   ·obtain ⟨nU,Hv,h⟩:=bt h
    obtain ⟨fc,Hu,h⟩:=bt h
    obtain ⟨mn,AP,h⟩:=bt h
    obtain ⟨Jr,Gh,h⟩:=bt h
    refine aj hE 1 [(18,oT (aB nU)),(25,oT (.agg (ah fc))),(26,oT (aB mn)),(29,oT (aB Jr))] [] (kp [4]) [] 1040 (pc o1 (pc o1 (pc (fun hg:(((ag.1.bm.length:Nat):Int) == ((ab.length:Nat):Int))=true=>(pc hg (pc o1 pn))) (pc (fun hg:(((ag.1.bm.length:Nat):Int) == ((ab.length:Nat):Int))=true=>(pc hg pn)) (pc (fun hg:(((ag.1.bm.length:Nat):Int) == ((ab.length:Nat):Int))=true=>(pc hg pn)) (pc (fun hg:(((ag.1.bm.length:Nat):Int) == ((ab.length:Nat):Int))=true=>(pc hg (pc hg pn))) (pc (fun hq:(((ag.1.bm.length:Nat):Int) == ((ab.length:Nat):Int))=true=>(pc hq pn)) (pc (fun hg:(cond (((ag.1.bm.length:Nat):Int) == ((ab.length:Nat):Int)) (((ag.1.ai.length:Nat):Int) == ((l.length:Nat):Int)) false)=true=>(pc o1 pn)) (pc (fun hg:(cond (((ag.1.bm.length:Nat):Int) == ((ab.length:Nat):Int)) (((ag.1.ai.length:Nat):Int) == ((l.length:Nat):Int)) false)=true=>(pc (EC _ _ _ _ _ (aG Hv hg)) (pc hg (pc hg (pc hg pn))))) (pc (fun hq:(cond (((ag.1.bm.length:Nat):Int) == ((ab.length:Nat):Int)) (((ag.1.ai.length:Nat):Int) == ((l.length:Nat):Int)) false)=true=>(pc hq pn)) (pc (fun hg:(cond (cond (((ag.1.bm.length:Nat):Int) == ((ab.length:Nat):Int)) (((ag.1.ai.length:Nat):Int) == ((l.length:Nat):Int)) false) nU false)=true=>(pc hg (pc o1 pn))) (pc (fun hg:(cond (cond (((ag.1.bm.length:Nat):Int) == ((ab.length:Nat):Int)) (((ag.1.ai.length:Nat):Int) == ((l.length:Nat):Int)) false) nU false)=true=>(pc hg (pc o1 pn))) (pc (fun hg:(cond (cond (((ag.1.bm.length:Nat):Int) == ((ab.length:Nat):Int)) (((ag.1.ai.length:Nat):Int) == ((l.length:Nat):Int)) false) nU false)=true=>(pc (ig _ _ _ (aG Hu hg)) (pc hg pn))) (pc (fun hg:(cond (cond (((ag.1.bm.length:Nat):Int) == ((ab.length:Nat):Int)) (((ag.1.ai.length:Nat):Int) == ((l.length:Nat):Int)) false) nU false)=true=>(pc (lK _ _ _ _ (aG AP hg)) (pc hg (pc hg pn)))) (pc (fun hq:(cond (cond (((ag.1.bm.length:Nat):Int) == ((ab.length:Nat):Int)) (((ag.1.ai.length:Nat):Int) == ((l.length:Nat):Int)) false) nU false)=true=>(pc hq pn)) (pc (fun hg:(cond (cond (cond (((ag.1.bm.length:Nat):Int) == ((ab.length:Nat):Int)) (((ag.1.ai.length:Nat):Int) == ((l.length:Nat):Int)) false) nU false) mn false)=true=>(pc (ny _ _ (aG Gh hg)) pn)) (pc (fun hq:(cond (cond (cond (((ag.1.bm.length:Nat):Int) == ((ab.length:Nat):Int)) (((ag.1.ai.length:Nat):Int) == ((l.length:Nat):Int)) false) nU false) mn false)=true=>(pc hq pn)) pn))))))))))))))))) ?_
    obtain rfl:=dx h
    exact dQ hE 0 Tryz.f3 [] (kp [4]) [] 1040 pn [] pn
   ·refine aj hE 1 [] [] (kp [0,1,5,6,58,92]) (kq [80,320]) 560 pn ?_
    refine dS 0 92 h (fun F5 h=>?_) (fun F5 h=>?_)
    ·obtain ⟨kE,MZ,h⟩:=bt h
     obtain ⟨nW,M0,h⟩:=bt h
     obtain ⟨Js,M1,h⟩:=bt h
     refine aj hE 1 [(16,oT (aB kE)),(24,oT (aB nW)),(27,oT (aB Js))] [] (kp [4]) [] 1040 (pc o1 (pc (fun hg:(((ag.1.bm.length:Nat):Int) == 0)=true=>(pc hg (pc o1 pn))) (pc (fun hg:(((ag.1.bm.length:Nat):Int) == 0)=true=>(pc hg pn)) (pc (fun hg:(((ag.1.bm.length:Nat):Int) == 0)=true=>(pc hg pn)) (pc (fun hg:(((ag.1.bm.length:Nat):Int) == 0)=true=>(pc hg (pc hg pn))) (pc (fun hq:(((ag.1.bm.length:Nat):Int) == 0)=true=>(pc hq pn)) (pc (fun hg:(cond (((ag.1.bm.length:Nat):Int) == 0) (((ag.1.ai.length:Nat):Int) == ((l.length:Nat):Int)) false)=true=>(pc hg (pc o1 pn))) (pc (fun hg:(cond (((ag.1.bm.length:Nat):Int) == 0) (((ag.1.ai.length:Nat):Int) == ((l.length:Nat):Int)) false)=true=>(pc (show Sd 10 [(.agg (ah ag.1.gG)),(.agg [(aB false),.nil,(aB false),.nil])] [] 0 (aB kE) [] from (Sound.conv (lK _ _ _ _ (aG MZ hg)) (.cons (Alike.refl _) (.cons (Alike.agg (.cons (Alike.refl _) (.cons Alike.nil (.cons (Alike.refl _) (.cons Alike.nil .nil))))) .nil)))) (pc hg (pc hg pn)))) (pc (fun hq:(cond (((ag.1.bm.length:Nat):Int) == 0) (((ag.1.ai.length:Nat):Int) == ((l.length:Nat):Int)) false)=true=>(pc hq pn)) (pc (fun hg:(cond (cond (((ag.1.bm.length:Nat):Int) == 0) (((ag.1.ai.length:Nat):Int) == ((l.length:Nat):Int)) false) kE false)=true=>(pc hg (pc o1 pn))) (pc (fun hg:(cond (cond (((ag.1.bm.length:Nat):Int) == 0) (((ag.1.ai.length:Nat):Int) == ((l.length:Nat):Int)) false) kE false)=true=>(pc hg (pc o1 pn))) (pc (fun hg:(cond (cond (((ag.1.bm.length:Nat):Int) == 0) (((ag.1.ai.length:Nat):Int) == ((l.length:Nat):Int)) false) kE false)=true=>(pc (yN _ _ _ _ _ (aG M0 hg)) (pc hg (pc hg (pc hg pn))))) (pc (fun hq:(cond (cond (((ag.1.bm.length:Nat):Int) == 0) (((ag.1.ai.length:Nat):Int) == ((l.length:Nat):Int)) false) kE false)=true=>(pc hq pn)) (pc (fun hg:(cond (cond (cond (((ag.1.bm.length:Nat):Int) == 0) (((ag.1.ai.length:Nat):Int) == ((l.length:Nat):Int)) false) kE false) nW false)=true=>(pc (ny _ _ (aG M1 hg)) pn)) (pc (fun hq:(cond (cond (cond (((ag.1.bm.length:Nat):Int) == 0) (((ag.1.ai.length:Nat):Int) == ((l.length:Nat):Int)) false) kE false) nW false)=true=>(pc hq pn)) pn))))))))))))))) ?_
     obtain rfl:=dx h
     exact dQ hE 0 Tryz.f3 [] (kp [4]) [] 1040 pn [] pn
    ·refine aj hE 1 [] [] (kp [0,1,5,6,123]) (kq [80,320]) 592 pn ?_
     refine dS 0 123 h (fun PD h=>?_) (fun PD h=>?_)
     ·obtain ⟨aW,RR,h⟩:=bt h
      refine aj hE 1 [(3,oT (.tup [(aN ah aa.d aW.1),(aN ah aa.d aW.2.1),(aI aW.2.2)]))] [] (kp [0,1,5,6,9,11]) (kq [80,320]) 768 (pc o1 (pc (En _ _ _ _ RR) pn)) ?_
      obtain ⟨dw,XD,h⟩:=bt h
      obtain ⟨lJ,XE,h⟩:=bt h
      obtain ⟨PC,XF,h⟩:=bt h
      obtain ⟨Jt,XG,h⟩:=bt h
      refine aj hE 1 [(12,oT (aB dw)),(32,oT (aB lJ)),(39,oT (aB PC)),(42,oT (aB Jt))] [] (kp [4]) [] 1488 (pc (fun hg:(aW.2.2 == 0)=true=>(pc hg pn)) (pc (fun hg:(aW.2.2 == 0)=true=>(pc hg (pc o1 pn))) (pc (fun hg:(aW.2.2 == 0)=true=>(pc hg (pc hg pn))) (pc (fun hq:(aW.2.2 == 0)=true=>(pc hq pn)) (pc (fun hg:(cond (aW.2.2 == 0) (((aW.1.length:Nat):Int) == ((ab.length:Nat):Int)) false)=true=>(pc (yM _ _ _ _ (aG XD hg)) (pc hg (pc hg pn)))) (pc (fun hq:(cond (aW.2.2 == 0) (((aW.1.length:Nat):Int) == ((ab.length:Nat):Int)) false)=true=>(pc hq pn)) (pc (fun hg:(cond (cond (aW.2.2 == 0) (((aW.1.length:Nat):Int) == ((ab.length:Nat):Int)) false) dw false)=true=>(pc hg (pc o1 pn))) (pc (fun hg:(cond (cond (aW.2.2 == 0) (((aW.1.length:Nat):Int) == ((ab.length:Nat):Int)) false) dw false)=true=>(pc hg pn)) (pc (fun hg:(cond (cond (aW.2.2 == 0) (((aW.1.length:Nat):Int) == ((ab.length:Nat):Int)) false) dw false)=true=>(pc hg pn)) (pc (fun hq:(cond (cond (aW.2.2 == 0) (((aW.1.length:Nat):Int) == ((ab.length:Nat):Int)) false) dw false)=true=>(pc hq pn)) (pc (fun hg:(cond (cond (cond (aW.2.2 == 0) (((aW.1.length:Nat):Int) == ((ab.length:Nat):Int)) false) dw false) (((ag.1.ai.length:Nat):Int) == 0) false)=true=>(pc hg (pc o1 pn))) (pc (fun hg:(cond (cond (cond (aW.2.2 == 0) (((aW.1.length:Nat):Int) == ((ab.length:Nat):Int)) false) dw false) (((ag.1.ai.length:Nat):Int) == 0) false)=true=>(pc hg pn)) (pc (fun hg:(cond (cond (cond (aW.2.2 == 0) (((aW.1.length:Nat):Int) == ((ab.length:Nat):Int)) false) dw false) (((ag.1.ai.length:Nat):Int) == 0) false)=true=>(pc hg (pc o1 pn))) (pc (fun hg:(cond (cond (cond (aW.2.2 == 0) (((aW.1.length:Nat):Int) == ((ab.length:Nat):Int)) false) dw false) (((ag.1.ai.length:Nat):Int) == 0) false)=true=>(pc hg (pc hg pn))) (pc (fun hq:(cond (cond (cond (aW.2.2 == 0) (((aW.1.length:Nat):Int) == ((ab.length:Nat):Int)) false) dw false) (((ag.1.ai.length:Nat):Int) == 0) false)=true=>(pc hq pn)) (pc (fun hg:(cond (cond (cond (cond (aW.2.2 == 0) (((aW.1.length:Nat):Int) == ((ab.length:Nat):Int)) false) dw false) (((ag.1.ai.length:Nat):Int) == 0) false) (((ag.1.bm.length:Nat):Int) == ((ab.length:Nat):Int)) false)=true=>(pc hg (pc o1 pn))) (pc (fun hg:(cond (cond (cond (cond (aW.2.2 == 0) (((aW.1.length:Nat):Int) == ((ab.length:Nat):Int)) false) dw false) (((ag.1.ai.length:Nat):Int) == 0) false) (((ag.1.bm.length:Nat):Int) == ((ab.length:Nat):Int)) false)=true=>(pc (show Sd 10 [(.agg (ah ag.1.gG)),(.agg [(aB false),.nil,(aB false),.nil])] [] 0 (aB lJ) [] from (Sound.conv (lK _ _ _ _ (aG XE hg)) (.cons (Alike.refl _) (.cons (Alike.agg (.cons (Alike.refl _) (.cons Alike.nil (.cons (Alike.refl _) (.cons Alike.nil .nil))))) .nil)))) (pc hg (pc hg pn)))) (pc (fun hq:(cond (cond (cond (cond (aW.2.2 == 0) (((aW.1.length:Nat):Int) == ((ab.length:Nat):Int)) false) dw false) (((ag.1.ai.length:Nat):Int) == 0) false) (((ag.1.bm.length:Nat):Int) == ((ab.length:Nat):Int)) false)=true=>(pc hq pn)) (pc (fun hg:(cond (cond (cond (cond (cond (aW.2.2 == 0) (((aW.1.length:Nat):Int) == ((ab.length:Nat):Int)) false) dw false) (((ag.1.ai.length:Nat):Int) == 0) false) (((ag.1.bm.length:Nat):Int) == ((ab.length:Nat):Int)) false) lJ false)=true=>(pc hg (pc o1 pn))) (pc (fun hg:(cond (cond (cond (cond (cond (aW.2.2 == 0) (((aW.1.length:Nat):Int) == ((ab.length:Nat):Int)) false) dw false) (((ag.1.ai.length:Nat):Int) == 0) false) (((ag.1.bm.length:Nat):Int) == ((ab.length:Nat):Int)) false) lJ false)=true=>(pc (JH _ _ _ _ _ (aG XF hg)) (pc hg (pc hg (pc hg pn))))) (pc (fun hq:(cond (cond (cond (cond (cond (aW.2.2 == 0) (((aW.1.length:Nat):Int) == ((ab.length:Nat):Int)) false) dw false) (((ag.1.ai.length:Nat):Int) == 0) false) (((ag.1.bm.length:Nat):Int) == ((ab.length:Nat):Int)) false) lJ false)=true=>(pc hq pn)) (pc (fun hg:(cond (cond (cond (cond (cond (cond (aW.2.2 == 0) (((aW.1.length:Nat):Int) == ((ab.length:Nat):Int)) false) dw false) (((ag.1.ai.length:Nat):Int) == 0) false) (((ag.1.bm.length:Nat):Int) == ((ab.length:Nat):Int)) false) lJ false) PC false)=true=>(pc (ny _ _ (aG XG hg)) pn)) (pc (fun hq:(cond (cond (cond (cond (cond (cond (aW.2.2 == 0) (((aW.1.length:Nat):Int) == ((ab.length:Nat):Int)) false) dw false) (((ag.1.ai.length:Nat):Int) == 0) false) (((ag.1.bm.length:Nat):Int) == ((ab.length:Nat):Int)) false) lJ false) PC false)=true=>(pc hq pn)) pn))))))))))))))))))))))) ?_
      obtain rfl:=dx h
      exact dQ hE 0 Tryz.f3 [] (kp [4]) [] 1488 pn [] pn
     ·refine aj hE 3 [] [] (kp [4]) [] 608 pn ?_
      obtain rfl:=dx h
      exact dQ hE 0 Tryz.f3 [] (kp [4]) [] 608 pn [] pn
end Go.Den
