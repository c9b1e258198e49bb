/- Each function of the program does what its Lean function computes (part 2). No conditions. -/
import Derived.Test.YthnmoifahladaaaGreatTopBallastRowsSa
import Derived.Test.YthnmoifahladaaaGreatProg
set_option linter.unusedVariables false
set_option maxRecDepth 100000
namespace Go.Den
open Go.Ab Go.Proofs Go.Ab.ay
theorem Eb (N i C0 r) (h:mq N i C0=some r):Sd 87 [(aI i),(.op 0 0 0),(.op 1 0 0)] [(jQ C0),(1,vO 1 [(.fn (.func 84) [] [])])] 2 (aI r) [(jQ C0),(1,vO 1 [(.fn (.func 84) [] [])])]:=by
 unfold mq at h
 refine sO Tryz.f87 30 fun E hE=>?_
 refine aj hE 1 vC (kq [0,1]) 18 ?_
 obtain ⟨c,h⟩:=ae h
 refine cd hE 1 (kp [2,5]) (kq [0,1,98]) 130 (pc o1 (pc c (pc o1 pn))) ?_
 obtain ⟨vS,hr,h⟩:=ax h
 obtain ⟨m7,dy,h⟩:=ax h
 obtain ⟨j4,ia,h⟩:=ax h
 refine bc hE 2 [(5,oT (aB vS)),(10,oT (aB m7)),(16,oT (aB j4))] (kp [29]) (kq [0,1]) 434 (pc o1 (pc o1 (pc o1 (pc (u5 _ _ _ _ hr) (pc (fun hg:(!(!vS))=true=>(pc hg (pc o1 pn))) (pc (fun hg:(!(!vS))=true=>(pc (bh _ _ _ _ _ (aR dy hg)) (pc hg pn))) (pc (fun hg:(!(!vS))=true=>(pc hg pn)) (pc (fun hq:(!(!vS))=true=>(pc hq pn)) (pc (fun hg:(uS vS m7)=true=>(pc hg (pc o1 pn))) (pc (fun hg:(uS vS m7)=true=>(pc (bh _ _ _ _ _ (aR ia hg)) (pc hg pn))) (pc (fun hg:(uS vS m7)=true=>(pc hg pn)) (pc (fun hq:(uS vS m7)=true=>(pc hq pn)) pn)))))))))))) <| cx 0 29 h (fun cP h=>?_) (fun cP h=>?_)
 ·refine aj hE 1 (kp [4]) (kq [0,1]) 450 ?_
  cases h
  exact fw hE 0 Tryz.f87 (kp [4]) (kq [0,1]) 450
 ·refine aj hE 2 (kp [4]) (kq [0,1]) 450 ?_
  cases h
  exact fw hE 0 Tryz.f87 (kp [4]) (kq [0,1]) 450
noncomputable abbrev anj:=bt Tryz.f85
def G3 (N:Nat) (n:Int) (C0:cQ) (K:(List (ByteArray×Bool))->Int->Option (Int)):Prop:=∀ (names:List (ByteArray×Bool)) (x:Int) (r:Int),K names x=some r->∀ E,aP E 2->ay Tryz.prog E 85 41 (aQ E [(jQ C0),(1,vO 1 [(.fn (.func 84) [] [])])] (aI r)) [.code (anj 244),.inLoop (anj 244),.inBlock 0,.code (anj 31)] ⟨[(2,(.fn (.func 86) [] [(.op 0 0 0)])),(3,(.fn (.func 87) [] [(.op 0 0 0),(.op 1 0 0)])),(9,(.mp 2)),(17,(aI n)),(18,(aI x))],[(jQ C0),(1,vO 1 [(.fn (.func 84) [] [])]),(2,⟨false,0,0,true,fun _=>vj aS aB names⟩)],3⟩
theorem FD (N n C0 fuel):G3 N n C0 (ij N n C0 fuel):=by
 induction fuel with
 | zero=>intro _ _ r h;rw [ij.eq_1] at h;cases h
 | succ fuel ih =>
  intro names x r h E hE
  rw [ij.eq_2] at h
  refine aj hE 1 (kp [2,3,9,17,18,19]) cH 19 <| cx 1 19 h (fun gX h=>?_) (fun gX h=>?_)
  ·refine aj hE 4 (kp [2,3,9,10,17,18]) cH 51 ?_
   obtain ⟨vS,hr,h⟩:=ax h
   refine bc hE 2 [(2,⟨[0],true,(aS vS),[],0,false,none⟩)] (kp [2,3,9,10,11,17,18]) cH 115 (pc (Ea _ _ _ _ hr) pn) ?_
   obtain ⟨CJ,dy,h⟩:=ax h
   refine bc hE 2 [(1,oT (aB CJ))] (kp [2,3,9,10,11,17,18,26]) cH 179 (pc (HG _ _ _ dy) pn) <| cx 0 26 h (fun sb h=>?_) (fun sb h=>?_)
   ·refine aj hE 1 (kp [8]) (kq [0,1]) 195 ?_
    cases h
    exact fw hE 0 Tryz.f85 (kp [8]) (kq [0,1]) 195
   ·refine bc hE 1 [(2,oT (aB ((ld iP names vS).getD false)))] (kp [2,3,9,10,11,17,18,30]) cH 243 (pc (show (Go.Ab.look Tryz.prog 9 (vj aS aB names) (aS vS)).map (fun zr=>zr.getD (ofConst (.bool false)))=some (aB ((ld iP names vS).getD false)) from (Xh aS aB (d:=false) apn rfl _ _)) pn) <| cx 0 30 h (fun Ft h=>?_) (fun Ft h=>?_)
    ·refine aj hE 1 (kp [8]) (kq [0,1]) 259 ?_
     cases h
     exact fw hE 0 Tryz.f85 (kp [8]) (kq [0,1]) 259
    ·refine bc hE 0 [(2,oT (.tup (vj aS aB (CH iP names vS true))))] (kp [2,3,9,10,17,18]) cH 291 (pc (show Go.Ab.Jy Tryz.prog 9 (vj aS aB names) (aS vS) (aB true)=some (vj aS aB (CH iP names vS true)) from (JH aS aB apn _ _ _)) pn) ?_
     obtain ⟨ake,ia,h⟩:=ax h
     refine bc hE 2 [(2,⟨[0,1],true,(aI ake),[],0,false,none⟩)] (kp [2,3,9,12,17,18]) cH 355 (pc (Eb _ _ _ _ ia) pn) <| aj hE 1 (kp [2,3,9,12,17,18,38]) cH 387 <| cx 0 38 h (fun VE h=>?_) (fun VE h=>?_)
     ·refine aj hE 1 (kp [8]) (kq [0,1]) 419 ?_
      obtain rfl:=kR h
      exact fw hE 0 Tryz.f85 (kp [8]) (kq [0,1]) 419
     ·refine aj hE 2 Vt cH 419 <| cy hE 1 Vt cH 3 (ih _ _ _ h E hE)
  ·refine aj hE 2 (kp [8]) (kq [0,1]) 35 ?_
   cases h
   exact fw hE 0 Tryz.f85 (kp [8]) (kq [0,1]) 50
theorem J0 (N n p7 C0 r) (h:qU N n p7 C0=some r):Sd 85 [(aI n),(aI p7),(.fn (.func 86) [] [(.op 0 0 0)]),(.fn (.func 87) [] [(.op 0 0 0),(.op 1 0 0)])] [(jQ C0),(1,vO 1 [(.fn (.func 84) [] [])])] 2 (aI r) [(jQ C0),(1,vO 1 [(.fn (.func 84) [] [])])]:=by
 unfold qU at h
 refine sO Tryz.f85 41 fun E hE=>?_
 refine aj hE 1 (kp [0,1,2,3]) (kq [0,1]) 18 <| aj hE 2 (kp [0,2,3,15]) (kq [0,1]) 66 <| cx 0 15 h (fun cP h=>?_) (fun cP h=>?_)
 ·refine aj hE 1 (kp [8]) (kq [0,1]) 82 ?_
  cases h
  exact fw hE 0 Tryz.f85 (kp [8]) (kq [0,1]) 82
 ·refine aj hE 2 (kp [0,2,3,9]) Vz 98 <| aj hE 2 Vt Vz 130 <| cy hE 2 Vt (kq [0,1] ++ [(2,.af 66)]) 3 (FD N _ _ N _ _ _ h E hE)
noncomputable abbrev ank:=bt Tryz.f40
def Ec (N:Nat) (p:cQ) (K:Int->Option (Int)):Prop:=∀ (x:Int) (r:Int),K x=some r->∀ E,aP E 0->ay Tryz.prog E 40 55 (aQ E [] (aI r)) [.code (ank 244),.inLoop (ank 244),.inBlock 1,.code (ank 31)] ⟨[(1,(.op 0 0 0)),(3,(.op 1 0 0)),(29,(b5 fy.cells fy.d p.pZ)),(30,(aI ((p.pZ.length:Nat):Int))),(31,(aI x))],[(jQ p),(1,vO 1 [(.fn (.func 84) [] [])])],2⟩
theorem Di (N p fuel):Ec N p (fk N p fuel):=by
 induction fuel with
 | zero=>intro _ r h;rw [fk.eq_1] at h;cases h
 | succ fuel ih =>
  intro x r h E hE
  rw [fk.eq_2] at h
  refine aj hE 1 (kp [1,3,29,30,31,32]) (kq [0,1]) 18 <| cx 1 32 h (fun sb h=>?_) (fun sb h=>?_)
  ·obtain ⟨c,h⟩:=ae h
   refine cd hE 4 (kp [1,3,5,29,30,31]) (kq [0,1,50]) 82 (pc c (pc o1 pn)) ?_
   obtain ⟨vS,kT,h⟩:=ax h
   obtain ⟨G2,oW,h⟩:=ax h
   refine bc hE 1 [(5,oT (aB vS)),(10,oT (aB G2))] (kp [1,3,29,30,31,47]) (kq [0,1]) 290 (pc o1 (pc o1 (pc o1 (pc (u5 _ _ _ _ kT) (pc (fun hg:(!(!vS))=true=>(pc hg (pc o1 pn))) (pc (fun hg:(!(!vS))=true=>(pc (bh _ _ _ _ _ (aR oW hg)) (pc hg pn))) (pc (fun hg:(!(!vS))=true=>(pc hg pn)) (pc (fun hq:(!(!vS))=true=>(pc hq pn)) pn)))))))) <| cx 0 47 h (fun Ft h=>?_) (fun Ft h=>?_)
   ·refine aj hE 1 (kp [2]) [] 306 ?_
    cases h
    exact fw hE 0 Tryz.f40 (kp [2]) [] 306
   ·refine aj hE 2 Vl (kq [0,1]) 322 <| cy hE 1 Vl (kq [0,1]) 2 (ih _ _ h E hE)
  ·obtain ⟨EP,vG,h⟩:=ax h
   refine bc hE 2 [(5,⟨[0,1],true,(aI EP),[],0,false,none⟩)] (kp [2]) [] 130 (pc o1 (pc (J0 _ _ _ _ _ vG) pn)) ?_
   obtain rfl:=kR h
   exact fw hE 0 Tryz.f40 (kp [2]) [] 130
theorem sd (N p r) (h:ke N p=some r):Sd 40 [(sH p)] [] 0 (aI r) []:=by
 unfold ke at h
 refine sO Tryz.f40 55 fun E hE=>?_
 refine aj hE 1 (kp [1]) (kq [0]) 32 <| cd hE 1 (kp [1,3]) AU 64 (pc o1 pn) ?_
 obtain ⟨m7,hr,h⟩:=ax h
 obtain ⟨j4,dy,h⟩:=ax h
 obtain ⟨w8,ia,h⟩:=ax h
 refine bc hE 3 [(2,oT (aB m7)),(7,oT (aB j4)),(13,oT (aB w8))] (kp [1,3,6]) AU 336 (pc o1 (pc (bh _ _ _ _ _ hr) (pc (fun hg:(!(!m7))=true=>(pc hg (pc o1 pn))) (pc (fun hg:(!(!m7))=true=>(pc (bh _ _ _ _ _ (aR dy hg)) (pc hg pn))) (pc (fun hg:(!(!m7))=true=>(pc hg pn)) (pc (fun hq:(!(!m7))=true=>(pc hq pn)) (pc (fun hg:(uS m7 j4)=true=>(pc hg (pc o1 pn))) (pc (fun hg:(uS m7 j4)=true=>(pc (bh _ _ _ _ _ (aR ia hg)) (pc hg pn))) (pc (fun hg:(uS m7 j4)=true=>(pc hg pn)) (pc (fun hq:(uS m7 j4)=true=>(pc hq pn)) pn)))))))))) <| cx 0 6 h (fun cP h=>?_) (fun cP h=>?_)
 ·refine aj hE 1 (kp [2]) [] 352 ?_
  cases h
  exact fw hE 0 Tryz.f40 (kp [2]) [] 352
 ·refine cd hE 1 (kp [1,3,23]) AU 416 (pc o1 pn) <| cx 0 23 h (fun gX h=>?_) (fun gX h=>?_)
  ·refine aj hE 1 (kp [2]) [] 432 ?_
   cases h
   exact fw hE 0 Tryz.f40 (kp [2]) [] 432
  ·refine cd hE 4 Vl AU 480 (pc o1 pn) <| cy hE 2 Vl Z9 2 (Di N _ N _ _ h E hE)
noncomputable abbrev anl:=bt Tryz.f42
def G4 (N:Nat) (p:cQ) (steps:List Int) (K:ab->Int->Option (ab×Int)):Prop:=∀ (out:ab) (x:Int) (r:ab×Int),K out x=some r->∀ E,aP E 0->ay Tryz.prog E 42 38 (aQ E [] (UQ r)) [.code (anl 244),.inLoop (anl 244),.inBlock 0,.code (anl 31)] ⟨[(2,(.op 0 0 0)),(4,(.op 1 0 0)),(6,(.op 2 0 0)),(16,(b5 cI 0 steps)),(17,(yV steps)),(18,(aI x))],[(jQ p),(1,vO 6 [(aI 0),(aI 0),(aI 0),(aI 0),(aI 0),(aI 0)]),(2,vO 6 (Ix out))],3⟩
theorem FE (N p steps fuel):G4 N p steps (ik N p steps fuel):=by
 induction fuel with
 | zero=>intro _ _ r h;rw [ik.eq_1] at h;cases h
 | succ fuel ih =>
  intro out x r h E hE
  rw [ik.eq_2] at h
  refine aj hE 1 (kp [2,4,6,16,17,18,19]) cH 19 <| cx 1 19 h (fun gX h=>?_) (fun gX h=>?_)
  ·obtain ⟨c,h⟩:=ae h
   refine cd hE 4 (kp [2,4,6,7,8,16,17,18]) cH 99 (pc c pn) ?_
   obtain ⟨c2,h⟩:=ae h
   obtain ⟨m7,hr,h⟩:=ax h
   refine bc hE 2 [(7,oT (aB m7))] (kp [2,4,6,7,8,16,17,18,31]) cH 243 (pc o1 (pc c2 (pc (bh _ _ _ _ _ hr) pn))) <| cx 0 31 h (fun sb h=>?_) (fun sb h=>?_)
   ·refine cd hE 1 (kp [4,5]) (kq [1]) 291 (pc o1 pn) ?_
    cases h
    exact jn hE 0 Tryz.f42 [] (kp [4,5]) [(16,.af 1)] 291 pn [16] (pc o1 pn)
   ·obtain ⟨c3,h⟩:=ae h
    refine cd hE 1 Qj cH 307 (pc c3 (pc o1 pn)) <| aj hE 1 Qj cH 339 <| cy hE 1 Qj cH 3 (ih _ _ _ h E hE)
  ·refine cd hE 2 (kp [4,5]) (kq [1]) 67 (pc o1 (pc o1 pn)) ?_
   cases h
   exact jn hE 0 Tryz.f42 [] (kp [4,5]) [(16,.af 1)] 67 pn [16] (pc o1 pn)
theorem Ad (N p steps r) (h:oH N p steps=some r):Sd 42 [(sH p),(b5 cI 0 steps)] [] 0 (UQ r) []:=by
 unfold oH at h
 refine sO Tryz.f42 38 fun E hE=>?_
 refine aj hE 1 IK fH 48 <| aj hE 1 (kp [1,2,4,6]) (kq [0,16,48]) 64 <| cd hE 2 (kp [1,2,4,6,14]) (kq [0,16,48]) 160 (pc o1 pn) <| cx 0 14 h (fun cP h=>?_) (fun cP h=>?_)
 ·refine cd hE 1 (kp [4,5]) (kq [16]) 208 (pc o1 (pc o1 pn)) ?_
  cases h
  exact jn hE 0 Tryz.f42 [] (kp [4,5]) (kq [16]) 208 pn [16] (pc o1 pn)
 ·refine aj hE 3 Qj (kq [0,16,48]) 208 <| cy hE 2 Qj (kq [0] ++ [(1,.af 16),(2,.af 48)]) 3 (FE N _ _ N _ _ _ h E hE)
theorem FG (N x y H3 C0 r) (h:qV N x y H3 C0=some r):Sd 110 [(aI x),(aI y),(aI H3),(.op 0 0 0)] [(0,vO 4 (CV C0))] 1 (.tup []) [(0,vO 4 (CV r))]:=by
 unfold qV at h
 refine sO Tryz.f110 36 fun E hE=>?_
 refine cd hE 1 (kp [0,1,2,3]) (kq [0]) 97 (pc o1 (pc o1 pn)) <| cd hE 1 (kp [0,1,2,3]) (kq [0]) 225 (pc o1 (pc o1 pn)) <| cd hE 1 Fj (kq [0]) 353 (pc o1 (pc o1 pn)) <| cd hE 0 [] (kq [0]) 529 (pc o1 (pc o1 pn)) ?_
 cases h
 exact rnF hE 0 Tryz.f110 [] [] (kq [0]) 529 pn [] pn
noncomputable abbrev adp:=bt Tryz.f61
def QH (N:Nat) (p:cQ) (s:ab) (K:eH->Int->Option (eH)):Prop:=∀ (out:eH) (x:Int) (r:eH),K out x=some r->∀ E,aP E 0->ay Tryz.prog E 61 50 (aQ E [] (XC r)) [.code (adp 244),.inLoop (adp 244),.inBlock 0,.code (adp 31)] ⟨[(2,(.op 0 0 0)),(3,(.op 1 0 0)),(4,(.op 2 0 0)),(5,(.op 3 0 0)),(6,(.fn (.func 110) [] [(.op 3 0 0)])),(13,(b5 fy.cells fy.d p.pZ)),(14,(aI ((p.pZ.length:Nat):Int))),(15,(aI x))],[(jQ p),(1,vO 6 (Ix s)),(2,vO 4 [(aI 0),(aI 0),(aI 0),(aI 0)]),(3,vO 4 (CV out))],4⟩
def QI (N:Nat) (p:cQ) (s:ab) (K:eH->Int->Option (eH)):Prop:=∀ (eY:eH) (x2:Int) (r:eH),K eY x2=some r->∀ E,aP E 0->ay Tryz.prog E 61 50 (aQ E [] (XC r)) [.code (adp 500),.inLoop (adp 500),.inBlock 2,.code (adp 63)] ⟨[(3,(.op 0 0 0)),(4,(.op 1 0 0)),(5,(.op 2 0 0)),(6,(.fn (.func 110) [] [(.op 2 0 0)])),(29,(ZS p)),(30,(UZ p)),(31,(aI x2))],[(0,vO 6 (Ix s)),(1,vO 4 [(aI 0),(aI 0),(aI 0),(aI 0)]),(2,vO 4 (CV eY))],3⟩
theorem NH (N p s fuel):QI N p s (nJ N p s fuel):=by
 induction fuel with
 | zero=>intro _ _ r h;rw [nJ.eq_1] at h;cases h
 | succ fuel ih =>
  intro eY x2 r h E hE
  rw [nJ.eq_2] at h
  refine aj hE 1 (kp [3,4,5,6,29,30,31,32]) cH 19 <| cx 1 32 h (fun gX h=>?_) (fun gX h=>?_)
  ·obtain ⟨c2,h⟩:=ae h
   refine cd hE 4 (kp [3,4,5,6,9,10,29,30,31]) Vx 115 (pc c2 (pc o1 pn)) ?_
   obtain ⟨c3,h⟩:=ae h
   obtain ⟨Px,dy,h⟩:=ax h
   refine bc hE 0 [(11,⟨[2],false,(.tup []),[(0,vO 4 (CV Px))],0,false,none⟩)] Ql cH 307 (pc o1 (pc o1 (pc c3 (pc o1 (pc o1 (pc (FG _ _ _ _ _ _ dy) pn)))))) <| aj hE 1 Ql cH 339 <| cy hE 1 Ql cH 3 (ih _ _ _ h E hE)
  ·refine cd hE 2 (kp [4]) (kq [1]) 51 (pc o1 (pc o1 pn)) ?_
   obtain rfl:=kR h
   exact jn hE 0 Tryz.f61 [] (kp [4]) [(16,.af 1)] 51 pn [16] (pc o1 pn)
theorem NI (N p s fuel):QH N p s (nL N p s fuel):=by
 induction fuel with
 | zero=>intro _ _ r h;rw [nL.eq_1] at h;cases h
 | succ fuel ih =>
  intro out x r h E hE
  rw [nL.eq_2] at h
  refine aj hE 1 (kp [2,3,4,5,6,13,14,15,16]) sa 20 <| cx 1 16 h (fun cP h=>?_) (fun cP h=>?_)
  ·obtain ⟨c,h⟩:=ae h
   refine cd hE 4 (kp [2,3,4,5,6,8,13,14,15]) (kq [0,1,2,3,52]) 84 (pc c (pc o1 pn)) ?_
   obtain ⟨Ux,hr,h⟩:=ax h
   refine bc hE 0 [(7,⟨[3],false,(.tup []),[(0,vO 4 (CV Ux))],0,false,none⟩)] Qh sa 212 (pc o1 (pc o1 (pc o1 (pc (FG _ _ _ _ _ _ hr) pn)))) <| aj hE 1 Qh sa 244 <| cy hE 1 Qh sa 4 (ih _ _ _ h E hE)
  ·refine cd hE 3 Ql (kq [1,2,3]) 84 (pc o1 pn) <| cy hE 2 Ql [(0,.af 1),(1,.af 2),(2,.af 3)] 3 (NH N _ _ N _ _ _ h E hE)
theorem J1 (N p s r) (h:BH N p s=some r):Sd 61 [(sH p),(M1 s)] [] 0 (XC r) []:=by
 unfold BH at h
 refine sO Tryz.f61 50 fun E hE=>?_
 refine aj hE 1 kg cC 48 <| aj hE 1 (kp [2,3,4,5]) pN 64 <| aj hE 1 tu pN 96 <| cd hE 2 Qh pN 160 (pc o1 pn) <| cy hE 2 Qh Qq 4 (NI N _ _ N _ _ _ h E hE)
noncomputable abbrev akm:=bt Tryz.f159
theorem mT (N s r) (h:cT N s=some r):Sd 159 [(bw s)] [] 0 (.os 0 0 r.length) [(0,aU r)]:=by
 unfold cT at h
 refine sO Tryz.f159 8 fun E hE=>?_
 refine aj hE 1 (kp [0]) [] 16 <| aj hE 2 (kp [0,4]) [] 48 <| sA 0 [.code (akm 13),.code (akm 7)] <| ay.afC (o:=.tmp 4) (x:=akm 26) (y:=akm 27) (n:=s.length) (by kernel_rfl) (by kernel_rfl) (fun cP=>?_) ?_
 ·replace cP:=List.length_eq_zero_iff.1 cP
  replace h:(some ([]:List Int))=some r:=by rw [cP] at h;simpa using h
  refine aj hE 1 (kp [2]) [] 64 ?_
  cases h
  exact fw hE 0 Tryz.f159 [(2,.sC 0)] [(0,.nil 1 (fun zi=>(cU .u16) (([]:List Int).getD zi 0)))] 64
 ·obtain ⟨c,h⟩:=ae h
  refine cd hE 2 [(2,.lx (aby s))] [(80,pY 80 (cU .u16) 0 (M0 s))] 112 (pc (Eq.refl 0) (pc c (pc (show ∀ zi,zi < s.length->AV.su ((fun zi=>(cU .u16) (s.getD zi 0)) zi)=true from (fun _ _=>rfl)) (pc (bT ([]:List Int) s) (pc (bT ([]:List Int) s) (pc (show ∀ zi,zi < (M0 s).length->(fun zi=>(cU .u16) ((M0 s).getD zi 0)) zi=((fun zm=>if zm < 0 then (fun _=>[]) zm else (fun zi=>(cU .u16) (s.getD zi 0)) (zm - 0))) zi from (tK (cU .u16) 0 ([]:List Int) s rfl (fun zq D6=>absurd D6 (fj _)) (fun _ _=>rfl))) pn)))))) ?_
  cases h
  exact fw hE 0 Tryz.f159 (kp [2]) [(0,.af 80)] 112
theorem gG (N neg n r) (h:gZ N neg n=some r):Sd 140 [(aB neg),(bw n)] [] 0 (E3 r) [(0,aU r.fL)]:=by
 unfold gZ at h
 refine sO Tryz.f140 15 fun E hE=>?_
 refine aj hE 1 IH (kq [0]) 16 ?_
 obtain ⟨bJ,hr,h⟩:=ax h
 refine bc hE 1 [(1,oT (bD bJ))] IH (kq [0]) 64 (pc (ca _ _ _ hr) pn) <| aj hE 2 (kp [0,1,4,9]) (kq [0]) 112 <| cx 0 9 h (fun cP h=>?_) (fun cP h=>?_)
 ·refine cd hE 1 (kp [4]) (kq [0]) 144 (pc o1 pn) ?_
  cases h
  exact jn hE 0 Tryz.f140 [] (kp [4]) [(0,.nil 1 (fun zi=>(cU .u16) (([]:List Int).getD zi 0))),(16,.var 0 [.af,.sC 0])] 144 pn [16] (pc o1 pn)
 ·obtain ⟨qL,dy,h⟩:=ax h
  refine bc hE 2 [(2,⟨[],true,(.os 0 0 qL.length),[(0,aU qL)],0,false,none⟩)] (kp [4]) (kq [0,144]) 192 (pc (mT _ _ _ dy) (pc o1 pn)) ?_
  cases h
  exact jn hE 0 Tryz.f140 [] (kp [4]) [(0,.af 144),(16,.var 0 [.af,.af])] 192 pn [16] (pc o1 pn)
theorem FH (N n r) (h:yG N n=some r):Sd 113 [(aI n)] [] 0 (ba r) []:=by
 unfold yG at h
 refine sO Tryz.f113 14 fun E hE=>?_
 refine aj hE 1 (kp [0,2]) (kq [0]) 16 <| aj hE 2 Vf (kq [0]) 48 <| cx 0 4 h (fun cP h=>?_) (fun cP h=>?_)
 ·obtain ⟨qM,hr,h⟩:=ax h
  obtain ⟨yp,dy,h⟩:=ax h
  refine bc hE 1 [(3,oT (bD qM)),(4,⟨[],true,(E3 yp),[(0,aU yp.fL)],0,false,none⟩)] (kp [2]) (kq [0,112]) 144 (pc (oV _ _ _ hr) (pc (gG _ _ _ _ dy) (pc o1 pn))) ?_
  obtain rfl:=kR h
  exact jn hE 0 Tryz.f113 [112] (kp [2]) [(16,.var 0 [.af,rM (cU .u16) 0 yp.fL])] 144 (pc (Eq.refl yp.fL.length) (pc (z1 yp.fL.length) (pc (eZ (cU .u16) 0 yp.fL) pn))) [16] (pc o1 pn)
 ·obtain ⟨Bz,ia,h⟩:=ax h
  obtain ⟨qt,kT,h⟩:=ax h
  refine bc hE 2 [(2,oT (bD Bz)),(3,⟨[],true,(E3 qt),[(0,aU qt.fL)],0,false,none⟩)] (kp [2]) (kq [0,96]) 128 (pc (oV _ _ _ ia) (pc (gG _ _ _ _ kT) (pc o1 pn))) ?_
  obtain rfl:=kR h
  exact jn hE 0 Tryz.f113 [96] (kp [2]) [(16,.var 0 [.af,rM (cU .u16) 0 qt.fL])] 128 (pc (Eq.refl qt.fL.length) (pc (z1 qt.fL.length) (pc (eZ (cU .u16) 0 qt.fL) pn))) [16] (pc o1 pn)
noncomputable abbrev adq:=bt Tryz.f154
def J2 (N:Nat) (b:List Int) (aD:Int) (dr:(List Int)) (K:(List Int)->(List Int)->Int->Option JP):Prop:=∀ (q:List Int) (u:List Int) (j:Int) (r:(List Int)×(List Int)),K q u j=some r->∀ E,aP E 0->ay Tryz.prog E 154 109 (aQ E [] (vv r)) [.code (adq 4084),.inLoop (adq 4084),.inBlock 0,.code (adq 511)] ⟨[(4,(lN q)),(8,(aI aD)),(9,(rX u)),(10,(.os 2 0 (b.length - 0))),(11,(U3 b)),(12,(aI j))],[(0,aU q),(1,aU u),(2,aU dr)],3⟩
def J3 (N:Nat) (b:List Int) (aD:Int) (q:List Int) (u:List Int) (K:(List Int)->Int->Option JP):Prop:=∀ (vr:List Int) (x:Int) (r:(List Int)×(List Int)),K vr x=some r->∀ E,aP E 0->ay Tryz.prog E 154 109 (aQ E [] (vv r)) [.code (adq 16372),.inLoop (adq 16372),.inBlock 2,.code (adq 2047)] ⟨[(4,(lN q)),(5,(rX vr)),(8,(aI aD)),(9,(AK u)),(81,(U3 b)),(82,(aI x))],[(0,aU q),(1,aU vr),(2,aU u)],3⟩
theorem IV (N b aD q u fuel):J3 N b aD q u (iA N b aD q u fuel):=by
 induction fuel with
 | zero=>intro _ _ r h;rw [iA.eq_1] at h;cases h
 | succ fuel ih =>
  intro vr x r h E hE
  rw [iA.eq_2] at h
  refine aj hE 1 (kp [4,5,8,9,81,82,83]) cH 19 <| cx 1 83 h (fun Ft h=>?_) (fun Ft h=>?_)
  ·refine aj hE 4 (kp [4,5,8,9,13,81,82]) cH 51 ?_
   obtain ⟨c12,h⟩:=ae h
   obtain ⟨Wx,h⟩:=ae h
   obtain ⟨c14,h⟩:=ae h
   obtain ⟨c15,h⟩:=ae h
   refine cd hE 0 (agG vr x u aD) (agX vr x u aD) 371 (pc c12 (pc (dV c12) (pc Wx (pc (dV Wx) (pc (show (0:Int)<=16 by decide) (pc c14 (pc c15 (pc (dV c15) (pc (az vr ((x).toNat) (LF u x aD)) (pc (az vr ((x).toNat) (LF u x aD)) (pc (cF (cU .u16) 0 vr ((x).toNat) (LF u x aD)) pn))))))))))) <| aj hE 1 Fm cH 403 <| cy hE 1 Fm cH 3 (ih _ _ _ h E hE)
  ·obtain ⟨fJ,IQ,h⟩:=ax h
   obtain ⟨Pr,Da,h⟩:=ax h
   refine bc hE 2 [(1,⟨[],true,(bD fJ),[],0,true,none⟩),(3,⟨[],true,(bD Pr),[],0,true,none⟩)] (kp [4,5]) [] 115 (pc (ca _ _ _ IQ) (pc (z1 q.length) (pc (ca _ _ _ Da) (pc (z1 vr.length) pn)))) ?_
   cases h
   exact fw hE 0 Tryz.f154 (kp [4,5]) [] 115
theorem IW (N b aD dr fuel):J2 N b aD dr (iB N b aD dr fuel):=by
 induction fuel with
 | zero=>intro _ _ _ r h;rw [iB.eq_1] at h;cases h
 | succ fuel ih =>
  intro q u j r h E hE
  rw [iB.eq_2] at h
  refine aj hE 2 (kp [4,8,9,10,11,12,64]) cH 35 <| cx 0 64 h (fun sb h=>?_) (fun sb h=>?_)
  ·obtain ⟨c5,h⟩:=ae h
   obtain ⟨c6,h⟩:=ae h
   obtain ⟨c7,h⟩:=ae h
   obtain ⟨c8,h⟩:=ae h
   obtain ⟨dm,IS,h⟩:=ax h
   obtain ⟨c9,h⟩:=ae h
   obtain ⟨c10,h⟩:=ae h
   refine bc hE 3 [(10,⟨[1],false,(HC dm),[(0,aU dm.2)],0,false,none⟩)] ([(4,.lx ((q.set ((j).toNat) dm.1).length))] ++ kp [8] ++ [(9,.lx (dm.2.length))] ++ kp [10,11,12]) ([(0,pY 0 (cU .u16) 0 (q.set ((j).toNat) dm.1))] ++ kq [1,2]) 243 (pc c5 (pc c6 (pc c7 (pc (show Sd 169 [(agi j b),(.sl (b.length - 0) (fun zi=>(cU .u16) (dr.getD (bB 0 zi) 0)))] [(0,aU u)] 1 (HC dm) [(0,aU dm.2)] from (Sound.conv (JX _ _ _ _ _ _ IS) (.cons (Alike.refl _) (.cons (Alike.sl (EF dr 0 b.length c8) (Ok (cU .u16) 0 dr 0 b.length)) .nil)))) (pc (fL (cU .u16) 0 dm.2) (pc (show 0+(b.length - 0)<=dr.length by have:=c8;omega) (pc c10 (pc (dV c10) (pc (az q ((j).toNat) dm.1) (pc (show u.length=dm.2.length from (Eq.symm c9)) (pc (az q ((j).toNat) dm.1) (pc (cF (cU .u16) 0 q ((j).toNat) dm.1) pn)))))))))))) <| aj hE 1 Fo cH 291 <| cy hE 1 Fo cH 3 (ih _ _ _ _ h E hE)
  ·obtain ⟨Tt,h⟩:=ae h
   refine cd hE 2 (agH b) (agT b) 83 (pc Tt.1 (pc (Int.le_refl (PR b)) (pc Tt.2.1 (pc Tt.2.2 (pc (lR (b.length - 0) (0:Int)) (pc (lR (b.length - 0) (0:Int)) (pc (ru (cU .u16) 0 0 (b.length - 0)) pn))))))) <| aj hE 2 Fm (kq [0,1,51]) 115 <| cy hE 2 Fm agV 3 (IV N _ _ _ _ N _ _ _ h E hE)
theorem s9 (N a b r) (h:n6 N a b=some r):Sd 154 [(bw a),(bw b)] [] 0 (vv r) []:=by
 unfold n6 at h
 refine sO Tryz.f154 109 fun E hE=>?_
 refine aj hE 1 (kp [0,1]) [] 32 ?_
 obtain ⟨jx,hr,h⟩:=ax h
 refine bc hE 2 [(2,oT (aI jx))] (kp [0,1,17]) [] 96 (pc (uB _ _ _ _ hr) pn) <| cx 0 17 h (fun cP h=>?_) (fun cP h=>?_)
 ·obtain ⟨qL,dy,h⟩:=ax h
  refine bc hE 1 [(1,⟨[],true,(.os 0 0 qL.length),[(0,aU qL)],0,false,none⟩)] (kp [4,5]) (kq [112]) 160 (pc (mT _ _ _ dy) pn) ?_
  cases h
  exact jn hE 0 Tryz.f154 [112] [(4,rM (cU .u16) 0 ([]:List Int)),(5,rM (cU .u16) 0 qL)] [] 160 (pc (Eq.refl 0) (pc (Eq.refl qL.length) (pc (z1 qL.length) (pc (eZ (cU .u16) 0 qL) pn)))) [] pn
 ·refine aj hE 3 (kp [0,1,22]) [] 144 <| cx 0 22 h (fun gX h=>?_) (fun gX h=>?_)
  ·obtain ⟨c,h⟩:=ae h
   obtain ⟨AG,ia,h⟩:=ax h
   refine bc hE 1 [(4,oT (UR AG))] (kp [6,7]) [] 304 (pc c (pc (JV _ _ _ _ ia) pn)) ?_
   obtain ⟨bJ,kT,h⟩:=ax h
   refine bc hE 1 [(3,⟨[],true,(bD bJ),[],0,true,none⟩)] (kp [4,5]) [] 400 (pc (show Sd 139 [(agj AG)] [] 0 (bD bJ) [] from (Sound.conv (ca _ _ _ kT) (.cons (Alike.sl rfl (dJ (cU .u16) 0 ([AG.2]:List Int))) .nil))) (pc (z1 1) pn)) ?_
   cases h
   exact fw hE 0 Tryz.f154 (kp [4,5]) [] 400
  ·obtain ⟨c2,h⟩:=ae h
   obtain ⟨aD,oW,h⟩:=ax h
   refine bc hE 2 [(6,oT (aI aD))] (kp [0,1,8]) [] 272 (pc c2 (pc (ph _ _ _ oW) pn)) ?_
   obtain ⟨gp,vG,h⟩:=ax h
   obtain ⟨dr,x6,h⟩:=ax h
   obtain ⟨c3,h⟩:=ae h
   refine bc hE 1 [(2,⟨[],true,(.os 0 0 gp.length),[(0,aU gp)],0,false,none⟩),(5,⟨[],true,(.os 0 0 dr.length),[(0,aU dr)],0,false,none⟩)] (kp [8,9,10]) VD 448 (pc (uC _ _ _ _ vG) (pc (uC _ _ _ _ x6) (pc c3 (pc (show 0<=(Tn b) from (Int.natCast_nonneg _)) pn)))) <| aj hE 1 (kp [8,9,10,11]) VD 496 ?_
   obtain ⟨c4,h⟩:=ae h
   refine cd hE 1 (agt gp b) (agY gp b) 592 (pc c4.1 (pc (Int.le_refl (UN gp b)) (pc c4.2.1 (pc c4.2.2 (pc (lR (Tr gp b) (0:Int)) (pc (lR (Tr gp b) (0:Int)) (pc (ru (cU .u16) 0 0 (Tr gp b)) pn))))))) <| aj hE 2 Fo (kq [304,352,560]) 688 <| cy hE 2 Fo [(0,.af 560),(1,.af 304),(2,.af 352)] 3 (IW N _ _ _ N _ _ _ _ h E hE)
noncomputable abbrev VL:=bt Tryz.f153
def Ae (N:Nat) (K:(List Int)->(List Int)->Option l8):Prop:=∀ (a2:List Int) (b2:List Int) (r:(List Int)),K a2 b2=some r->∀ E,aP E 0->ay Tryz.prog E 153 45 (aQ E [] (bD r)) [.code (VL 24),.inLoop (VL 24),.inBlock 0,.code (VL 7)] ⟨[(0,(bw a2)),(1,(bw b2))],[],0⟩
def J4 (N:Nat) (K:Int->Int->Option l8):Prop:=∀ (x:Int) (y:Int) (r:(List Int)),K x y=some r->∀ E,aP E 0->ay Tryz.prog E 153 45 (aQ E [] (bD r)) [.code (VL 25296),.inLoop (VL 25296),.inBlock 2,.code (VL 6325),.code (VL 791),.inBlock 1,.inLoop (VL 24),.inBlock 0,.code (VL 7)] ⟨[(5,(wD x)),(7,(wD y))],[],0⟩
theorem IX (N:Nat) (Af:(List Int)->(List Int)->Option l8) (aaf:Ae N Af) (fuel:Nat):J4 N (js N Af fuel):=by
 induction fuel with
 | zero=>intro _ _ r h;rw [js.eq_1] at h;cases h
 | succ fuel ih =>
  intro x y r h E hE
  rw [js.eq_2] at h
  refine aj hE 2 (kp [5,7,29]) [] 32 <| cx 0 29 h (fun sb h=>?_) (fun sb h=>?_)
  ·obtain ⟨c,h⟩:=ae h
   refine cd hE 2 (kp [5,7]) [] 128 (pc c pn) <| cy hE 2 (kp [5,7]) [] 0 (ih _ _ _ h E hE)
  ·obtain ⟨qM,ia,h⟩:=ax h
   refine bc hE 2 [(1,oT (bD qM))] (kp [4]) [] 80 (pc (oV _ _ _ ia) pn) ?_
   obtain rfl:=kR h
   exact fw hE 0 Tryz.f153 (kp [4]) [] 80
theorem IY (N fuel):Ae N (iC N fuel):=by
 induction fuel with
 | zero=>intro _ _ r h;rw [iC.eq_1] at h;cases h
 | succ fuel ih =>
  intro a2 b2 r h E hE
  rw [iC.eq_2] at h
  refine aj hE 2 (kp [0,1,13]) [] 48 <| cx 0 13 h (fun cP h=>?_) (fun cP h=>?_)
  ·obtain ⟨xF,hr,h⟩:=ax h
   refine bc hE 3 [(1,oT (Ii xF))] tq [] 160 (pc (wE _ _ _ hr) pn) ?_
   obtain ⟨K9,dy,h⟩:=ax h
   refine bc hE 1 [(1,oT (Ii K9))] yY [] 272 (pc (wE _ _ _ dy) pn) <| cd hE 2 (kp [0,1,5,7,27]) [] 336 (pc (fun hq:xF.2=true=>(pc hq pn)) pn) <| cx 0 27 h (fun gX h=>?_) (fun gX h=>?_)
   ·exact cy hE 3 (kp [5,7]) [] 0 (IX N _ ih N _ _ _ h E hE)
   ·obtain ⟨kW,kT,h⟩:=ax h
    refine bc hE 2 [(2,oT (vv kW))] (kp [1,10]) [] 464 (pc (s9 _ _ _ _ kT) pn) <| aj hE 0 (kp [0,1]) [] 528 <| cy hE 2 (kp [0,1]) [] 0 (ih _ _ _ h E hE)
  ·refine aj hE 2 (kp [4]) [] 80 ?_
   obtain rfl:=kR h
   exact fw hE 0 Tryz.f153 (kp [4]) [] 80
theorem NJ (N a b r) (h:vn N a b=some r):Sd 153 [(bw a),(bw b)] [] 0 (bD r) []:=by
 unfold vn at h
 refine sO Tryz.f153 45 fun E hE=>?_
 refine aj hE 1 (kp [0,1]) [] 16 <| cy hE 3 (kp [0,1]) [] 0 (IY N N _ _ _ h E hE)
noncomputable abbrev apB:=bt Tryz.f131
def G5 (N:Nat) (a:cX) (b:cX) (K:(List Int)->(List Int)->Option (aa)):Prop:=∀ (x:List Int) (y:List Int) (r:aa),K x y=some r->∀ E,aP E 0->ay Tryz.prog E 131 48 (aQ E [(0,aU r.fN.fL),(1,aU r.fD.fL)] (jr r)) [.code (apB 62),.code (apB 63)] ⟨[(2,(.op 0 0 0)),(3,(.op 1 0 0)),(4,(.op 2 0 0)),(5,(bw x)),(6,(bw y))],[(0,vO 2 (TIc a)),(1,vO 2 (TIc b)),(2,vO 4 [(aB false),.nil,(aB false),.nil])],3⟩
theorem wJ (N a b):G5 N a b (lg N a b):=by
 intro x y r h E hE
 unfold lg at h
 obtain ⟨yp,vG,h⟩:=ax h
 obtain ⟨qt,x6,h⟩:=ax h
 refine bc hE 0 [(6,⟨[],true,(E3 yp),[(0,aU yp.fL)],0,false,none⟩),(8,⟨[],true,(E3 qt),[(0,aU qt.fL)],0,false,none⟩)] (kp [4]) (kq [2,99,131]) 179 (pc o1 (pc o1 (pc (gG _ _ _ _ vG) (pc (gG _ _ _ _ x6) (pc o1 pn))))) ?_
 cases h
 exact jn hE 0 Tryz.f131 [] (kp [4]) [(0,.af 99),(1,.af 131),(16,.var 2 [.af,.af,.af,.af])] 179 pn [16] (pc o1 pn)
theorem la (N a b r) (h:jy N a b=some r):Sd 131 [(ba a),(ba b)] [] 0 (jr r) [(0,aU r.fN.fL),(1,aU r.fD.fL)]:=by
 unfold jy at h
 refine sO Tryz.f131 48 fun E hE=>?_
 refine aj hE 1 kg cC 48 ?_
 obtain ⟨bJ,hr,h⟩:=ax h
 obtain ⟨fJ,dy,h⟩:=ax h
 refine bc hE 1 [(2,oT (bD bJ)),(5,oT (bD fJ))] tu cC 176 (pc o1 (pc (ca _ _ _ hr) (pc o1 (pc (ca _ _ _ dy) pn)))) ?_
 obtain ⟨mM,ia,h⟩:=ax h
 refine bc hE 1 [(2,oT (bD mM))] LV cC 240 (pc (NJ _ _ _ _ ia) pn) ?_
 obtain ⟨c,h⟩:=ae h
 refine cd hE 2 (kp [2,3,4,5,6,7,25]) cC 384 (pc (fun hg:(Xq mM)=true=>(pc hg (pc (c hg) pn))) (pc (fun hg:(Xq mM)=true=>(pc hg pn)) (pc (fun hg:(Xq mM)=true=>(pc hg pn)) (pc (fun hq:(Xq mM)=true=>(pc hq pn)) pn)))) <| cx 0 25 h (fun cP h=>?_) (fun cP h=>?_)
 ·obtain ⟨kW,kT,h⟩:=ax h
  refine bc hE 1 [(2,oT (vv kW))] LV cC 496 (pc (s9 _ _ _ _ kT) pn) ?_
  obtain ⟨EK,oW,h⟩:=ax h
  refine bc hE 0 [(2,oT (vv EK))] tu cC 608 (pc (s9 _ _ _ _ oW) pn) <| cy hE 1 tu VC 3 (wJ N _ _ _ _ _ h E hE)
 ·exact cy hE 2 tu VC 3 (wJ N _ _ _ _ _ h E hE)
theorem zd (N a r) (h:oG N a=some r):Sd 112 [(ba a)] [] 0 (jr r) [(0,aU r.fN.fL),(1,aU r.fD.fL)]:=by
 unfold oG at h
 refine sO Tryz.f112 7 fun E hE=>?_
 refine aj hE 1 (kp [1,2]) fH 32 ?_
 obtain ⟨p6,hr,h⟩:=ax h
 refine bc hE 1 [(3,⟨[],false,(jr p6),[(0,aU p6.fN.fL),(1,aU p6.fD.fL)],0,false,none⟩)] (kp [2]) (kq [16,80,81]) 112 (pc o1 (pc (show Sd 131 [(ba a),(.agg [(aB false),(.sl 1 (fun zi=>(fun zi=>([[(Zk 1)]]:List (List AV)).getD zi []) (bB 0 zi)))])] [] 0 (jr p6) [(0,aU p6.fN.fL),(1,aU p6.fD.fL)] from (Sound.conv (la _ _ _ _ hr) (.cons (Alike.refl _) (.cons (Alike.agg (.cons (Alike.refl _) (.cons (Alike.sl rfl (dJ (cU .u16) 0 ([1]:List Int))) .nil))) .nil)))) (pc (fL (cU .u16) 0 p6.fN.fL) (pc (fL (cU .u16) 0 p6.fD.fL) (pc (z1 1) (pc o1 pn)))))) ?_
 cases h
 exact jn hE 0 Tryz.f112 [] (kp [2]) [(0,.af 80),(1,.af 81),(16,.var 16 [.af,.af,.af,.af])] 112 pn [16] (pc o1 pn)
theorem pO (N a b r) (h:rz N a b=some r):Sd 138 [(ba a),(ba b)] [] 0 (ba r) []:=by
 unfold rz at h
 refine sO Tryz.f138 18 fun E hE=>?_
 refine aj hE 1 kg cC 48 ?_
 obtain ⟨bJ,hr,h⟩:=ax h
 obtain ⟨fJ,dy,h⟩:=ax h
 obtain ⟨qu,ia,h⟩:=ax h
 obtain ⟨yp,kT,h⟩:=ax h
 refine bc hE 1 [(7,oT (bD bJ)),(10,oT (bD fJ)),(11,oT (bD qu)),(12,⟨[],true,(E3 yp),[(0,aU yp.fL)],0,false,none⟩)] (kp [4]) (kq [32,240]) 272 (pc o1 (pc o1 (pc o1 (pc (ca _ _ _ hr) (pc o1 (pc (ca _ _ _ dy) (pc (JZ _ _ _ _ ia) (pc (gG _ _ _ _ kT) (pc o1 pn))))))))) ?_
 obtain rfl:=kR h
 exact jn hE 0 Tryz.f138 [240] (kp [4]) [(16,.var 32 [.af,rM (cU .u16) 0 yp.fL])] 272 (pc (Eq.refl yp.fL.length) (pc (z1 yp.fL.length) (pc (eZ (cU .u16) 0 yp.fL) pn))) [16] (pc o1 pn)
theorem ta (N x y r) (h:fq N x y=some r):Sd 107 [(ao x),(ao y)] [] 0 (jr r) [(0,aU r.fN.fL),(1,aU r.fD.fL)]:=by
 unfold fq at h
 refine sO Tryz.f107 16 fun E hE=>?_
 refine aj hE 1 kg cC 48 ?_
 obtain ⟨uq,hr,h⟩:=ax h
 obtain ⟨gK,dy,h⟩:=ax h
 obtain ⟨mN,ia,h⟩:=ax h
 obtain ⟨nC,kT,h⟩:=ax h
 obtain ⟨p6,oW,h⟩:=ax h
 refine bc hE 1 [(4,oT (ba uq)),(6,oT (ba gK)),(8,oT (ba mN)),(9,oT (ba nC)),(10,⟨[],true,(jr p6),[(0,aU p6.fN.fL),(1,aU p6.fD.fL)],0,false,none⟩)] (kp [4]) (kq [32,208,209]) 240 (pc o1 (pc o1 (pc (pO _ _ _ _ hr) (pc o1 (pc (eP _ _ _ dy) (pc o1 (pc (eP _ _ _ ia) (pc (pO _ _ _ _ kT) (pc (la _ _ _ _ oW) (pc o1 pn)))))))))) ?_
 cases h
 exact jn hE 0 Tryz.f107 [] (kp [4]) [(0,.af 208),(1,.af 209),(16,.var 32 [.af,.af,.af,.af])] 240 pn [16] (pc o1 pn)
noncomputable abbrev anm:=bt Tryz.f63
def IZ (N:Nat) (l:List Int) (K:Bool->(List Int)->Bool->(List Int)->Int->Option (aa)):Prop:=∀ (out:Bool) (eY:List Int) (Ld:Bool) (JN:List Int) (x:Int) (r:aa),K out eY Ld JN x=some r->∀ E,aP E 0->ay Tryz.prog E 63 21 (aQ E [(0,aU r.fN.fL),(1,aU r.fD.fL)] (jr r)) [.code (anm 116),.inLoop (anm 116),.inBlock 0,.code (anm 15)] ⟨[(2,(.op 0 0 0)),(3,(.op 1 0 0)),(8,(b5 cI 0 l)),(9,(yV l)),(10,(aI x))],[(0,vO 4 [(aB false),.nil,(aB false),.nil]),(1,vN 4 [(aB out),(AK eY),(aB Ld),(.os 3 0 JN.length)]),(2,aU eY),(3,aU JN)],4⟩
theorem G6 (N l fuel):IZ N l (mw N l fuel):=by
 induction fuel with
 | zero=>intro _ _ _ _ _ r h;rw [mw.eq_1] at h;cases h
 | succ fuel ih =>
  intro out eY Ld JN x r h E hE
  rw [mw.eq_2] at h
  refine aj hE 1 (kp [2,3,8,9,10,11]) sa 20 <| cx 1 11 h (fun cP h=>?_) (fun cP h=>?_)
  ·obtain ⟨c,h⟩:=ae h
   refine cd hE 4 (kp [2,3,5,8,9,10]) sa 68 (pc c pn) ?_
   obtain ⟨Ze,ia,h⟩:=ax h
   obtain ⟨zX,kT,h⟩:=ax h
   obtain ⟨aY,oW,h⟩:=ax h
   refine bc hE 0 [(2,oT (ba Ze)),(3,⟨[],true,(jr zX),[(0,aU zX.fN.fL),(1,aU zX.fD.fL)],0,false,none⟩),(4,⟨[],false,(jr aY),[(0,aU aY.fN.fL),(1,aU aY.fD.fL)],0,false,none⟩)] Qi (kq [0,1,132,133]) 164 (pc o1 (pc (FH _ _ _ ia) (pc (zd _ _ _ kT) (pc (ta _ _ _ _ oW) (pc (fL (cU .u16) 0 aY.fN.fL) (pc (fL (cU .u16) 0 aY.fD.fL) (pc (z1 eY.length) (pc (z1 JN.length) (pc (z1 zX.fN.fL.length) (pc (z1 zX.fD.fL.length) (pc o1 pn))))))))))) <| aj hE 1 Qi (kq [0,1,132,133]) 196 <| cy hE 1 Qi (kq [0,1] ++ [(2,.af 132),(3,.af 133)]) 4 (ih _ _ _ _ _ _ h E hE)
  ·refine cd hE 2 (kp [2]) (kq [0,2,3]) 52 (pc o1 (pc o1 pn)) ?_
   cases h
   exact jn hE 0 Tryz.f63 [] (kp [2]) [(0,.af 2),(1,.af 3),(16,.var 0 [.af,.af,.af,.af])] 52 pn [16] (pc o1 pn)
theorem ki (N l r) (h:lY N l=some r):Sd 63 [(b5 cI 0 l)] [] 0 (jr r) [(0,aU r.fN.fL),(1,aU r.fD.fL)]:=by
 unfold lY at h
 refine sO Tryz.f63 21 fun E hE=>?_
 refine aj hE 1 (kp [0,2]) (kq [0]) 16 ?_
 obtain ⟨Te,hr,h⟩:=ax h
 obtain ⟨lI,dy,h⟩:=ax h
 refine bc hE 1 [(0,oT (ba Te)),(1,⟨[],true,(jr lI),[(0,aU lI.fN.fL),(1,aU lI.fD.fL)],0,false,none⟩)] Fj (kq [0,32,33,48]) 80 (pc (FH _ _ _ hr) (pc (zd _ _ _ dy) (pc o1 pn))) <| aj hE 2 Qi (kq [0,32,33,48]) 128 <| cy hE 2 Qi (kq [0] ++ [(1,.af 48),(2,.af 32),(3,.af 33)]) 4 (G6 N _ N _ _ _ _ _ _ h E hE)
theorem Sb (N x y r) (h:qR N x y=some r):Sd 133 [(ao x),(ao y)] [] 0 (jr r) [(0,aU r.fN.fL),(1,aU r.fD.fL)]:=by
 unfold qR at h
 refine sO Tryz.f133 16 fun E hE=>?_
 refine aj hE 1 kg cC 48 ?_
 obtain ⟨gK,hr,h⟩:=ax h
 obtain ⟨uq,dy,h⟩:=ax h
 obtain ⟨mN,ia,h⟩:=ax h
 obtain ⟨nC,kT,h⟩:=ax h
 obtain ⟨p6,oW,h⟩:=ax h
 refine bc hE 1 [(3,oT (ba gK)),(4,oT (ba uq)),(6,oT (ba mN)),(9,oT (ba nC)),(10,⟨[],true,(jr p6),[(0,aU p6.fN.fL),(1,aU p6.fD.fL)],0,false,none⟩)] (kp [4]) (kq [32,208,209]) 240 (pc o1 (pc o1 (pc (eP _ _ _ hr) (pc (pO _ _ _ _ dy) (pc o1 (pc (eP _ _ _ ia) (pc o1 (pc (pO _ _ _ _ kT) (pc (la _ _ _ _ oW) (pc o1 pn)))))))))) ?_
 cases h
 exact jn hE 0 Tryz.f133 [] (kp [4]) [(0,.af 208),(1,.af 209),(16,.var 32 [.af,.af,.af,.af])] 240 pn [16] (pc o1 pn)
theorem NK (N x y r) (h:yL N x y=some r):Sd 111 [(ao x),(ao y)] [] 0 (agl r) [(0,aU r.1.fN.fL),(1,aU r.1.fD.fL)]:=by
 unfold yL at h
 refine sO Tryz.f111 12 fun E hE=>?_
 refine aj hE 1 kg cC 64 ?_
 obtain ⟨eI,hr,h⟩:=ax h
 refine bc hE 2 [(1,oT (aB eI))] (kp [2,3,4,7]) cC 96 (pc o1 (pc (fV _ _ _ hr) pn)) <| cx 0 7 h (fun cP h=>?_) (fun cP h=>?_)
 ·refine cd hE 1 (kp [4,5]) (kq [32]) 144 (pc o1 pn) ?_
  cases h
  exact jn hE 0 Tryz.f111 [] (kp [4,5]) [(0,.nil 1 (fun zi=>(cU .u16) (([]:List Int).getD zi 0))),(1,.nil 1 (fun zi=>(cU .u16) (([]:List Int).getD zi 0))),(16,.var 32 [.af,.sC 0,.af,.sC 1])] 144 pn [16] (pc o1 pn)
 ·obtain ⟨ko,dy,h⟩:=ax h
  refine bc hE 2 [(2,⟨[],true,(jr ko),[(0,aU ko.fN.fL),(1,aU ko.fD.fL)],0,false,none⟩)] (kp [4,5]) (kq [32,128,129]) 176 (pc o1 (pc o1 (pc (Sb _ _ _ _ dy) (pc o1 pn)))) ?_
  cases h
  exact jn hE 0 Tryz.f111 [] (kp [4,5]) [(0,.af 128),(1,.af 129),(16,.var 32 [.af,.af,.af,.af])] 176 pn [16] (pc o1 pn)
theorem uG (N x y r) (h:pD N x y=some r):Sd 62 [(ao x),(ao y)] [] 0 (jr r) [(0,aU r.fN.fL),(1,aU r.fD.fL)]:=by
 unfold pD at h
 refine sO Tryz.f62 14 fun E hE=>?_
 refine aj hE 1 kg cC 48 ?_
 obtain ⟨vT,hr,h⟩:=ax h
 refine bc hE 1 [(2,⟨[],true,(agl vT),[(0,aU vT.1.fN.fL),(1,aU vT.1.fD.fL)],0,false,none⟩)] (kp [4,5]) (kq [32,80,81,144]) 192 (pc o1 (pc o1 (pc (NK _ _ _ _ hr) (pc o1 pn)))) <| cd hE 1 (kp [4]) (kq [32,80,81]) 224 (pc o1 (pc o1 pn)) ?_
 cases h
 exact jn hE 0 Tryz.f62 [] (kp [4]) [(0,.af 80),(1,.af 81),(16,.var 32 [.af,.af,.af,.af])] 224 pn [16] (pc o1 pn)
theorem J5 (N x r) (h:gq N x=some r):Sd 98 [(ao x)] [] 0 (ao r) []:=by
 unfold gq at h
 refine sO Tryz.f98 9 fun E hE=>?_
 refine aj hE 1 (kp [1,2]) fH 32 ?_
 obtain ⟨BC,hr,h⟩:=ax h
 obtain ⟨gK,dy,h⟩:=ax h
 obtain ⟨p6,ia,h⟩:=ax h
 refine bc hE 1 [(2,oT (ba BC)),(4,oT (ba gK)),(5,⟨[],true,(jr p6),[(0,aU p6.fN.fL),(1,aU p6.fD.fL)],0,false,none⟩)] (kp [2]) (kq [16,112,113]) 144 (pc o1 (pc (DJ _ _ _ hr) (pc o1 (pc (eP _ _ _ dy) (pc (la _ _ _ _ ia) (pc o1 pn)))))) ?_
 obtain rfl:=kR h
 exact jn hE 0 Tryz.f98 [112,113] (kp [2]) [(16,.var 16 [.af,rM (cU .u16) 0 p6.fN.fL,.af,rM (cU .u16) 0 p6.fD.fL])] 144 (pc (Eq.refl p6.fN.fL.length) (pc (z1 p6.fN.fL.length) (pc (eZ (cU .u16) 0 p6.fN.fL) (pc (Eq.refl p6.fD.fL.length) (pc (z1 p6.fD.fL.length) (pc (eZ (cU .u16) 0 p6.fD.fL) pn)))))) [16] (pc o1 pn)
theorem xk (N x r) (h:j9 N x=some r):Sd 97 [(ao x)] [] 0 (ao r) []:=by
 unfold j9 at h
 refine sO Tryz.f97 8 fun E hE=>?_
 refine aj hE 1 (kp [1,2]) fH 32 ?_
 obtain ⟨gK,hr,h⟩:=ax h
 obtain ⟨p6,dy,h⟩:=ax h
 refine bc hE 1 [(3,oT (ba gK)),(4,⟨[],true,(jr p6),[(0,aU p6.fN.fL),(1,aU p6.fD.fL)],0,false,none⟩)] (kp [2]) (kq [16,96,97]) 128 (pc o1 (pc o1 (pc (eP _ _ _ hr) (pc (la _ _ _ _ dy) (pc o1 pn))))) ?_
 obtain rfl:=kR h
 exact jn hE 0 Tryz.f97 [96,97] (kp [2]) [(16,.var 16 [.af,rM (cU .u16) 0 p6.fN.fL,.af,rM (cU .u16) 0 p6.fD.fL])] 128 (pc (Eq.refl p6.fN.fL.length) (pc (z1 p6.fN.fL.length) (pc (eZ (cU .u16) 0 p6.fN.fL) (pc (Eq.refl p6.fD.fL.length) (pc (z1 p6.fD.fL.length) (pc (eZ (cU .u16) 0 p6.fD.fL) pn)))))) [16] (pc o1 pn)
theorem VM (N a b r) (h:CI N a b=some r):Sd 137 [(ba a),(ba b)] [] 0 (ba r) []:=by
 unfold CI at h
 refine sO Tryz.f137 40 fun E hE=>?_
 refine aj hE 1 kg cC 48 ?_
 obtain ⟨bJ,hr,h⟩:=ax h
 obtain ⟨fJ,dy,h⟩:=ax h
 refine bc hE 1 [(2,oT (bD bJ)),(5,oT (bD fJ))] tu cC 176 (pc o1 (pc (ca _ _ _ hr) (pc o1 (pc (ca _ _ _ dy) pn)))) <| cd hE 2 ZY cC 256 (pc o1 (pc o1 pn)) <| cx 0 17 h (fun cP h=>?_) (fun cP h=>?_)
 ·obtain ⟨zW,ia,h⟩:=ax h
  obtain ⟨yp,kT,h⟩:=ax h
  refine bc hE 1 [(4,oT (bD zW)),(5,⟨[],true,(E3 yp),[(0,aU yp.fL)],0,false,none⟩)] (kp [4]) (kq [32,336]) 368 (pc o1 (pc (Fy _ _ _ _ ia) (pc (gG _ _ _ _ kT) (pc o1 pn)))) ?_
  obtain rfl:=kR h
  exact jn hE 0 Tryz.f137 [336] (kp [4]) [(16,.var 32 [.af,rM (cU .u16) 0 yp.fL])] 368 (pc (Eq.refl yp.fL.length) (pc (z1 yp.fL.length) (pc (eZ (cU .u16) 0 yp.fL) pn))) [16] (pc o1 pn)
 ·obtain ⟨jx,oW,h⟩:=ax h
  refine bc hE 3 [(2,oT (aI jx))] Z0 cC 320 (pc (uB _ _ _ _ oW) pn) <| cx 0 27 h (fun gX h=>?_) (fun gX h=>?_)
  ·obtain ⟨qP,vG,h⟩:=ax h
   obtain ⟨qt,x6,h⟩:=ax h
   refine bc hE 1 [(4,oT (bD qP)),(5,⟨[],true,(E3 qt),[(0,aU qt.fL)],0,false,none⟩)] (kp [4]) (kq [32,400]) 432 (pc o1 (pc (uD _ _ _ _ vG) (pc (gG _ _ _ _ x6) (pc o1 pn)))) ?_
   obtain rfl:=kR h
   exact jn hE 0 Tryz.f137 [400] (kp [4]) [(16,.var 32 [.af,rM (cU .u16) 0 qt.fL])] 432 (pc (Eq.refl qt.fL.length) (pc (z1 qt.fL.length) (pc (eZ (cU .u16) 0 qt.fL) pn))) [16] (pc o1 pn)
  ·obtain ⟨xU,IS,h⟩:=ax h
   obtain ⟨R4,IQ,h⟩:=ax h
   refine bc hE 2 [(4,oT (bD xU)),(5,⟨[],true,(E3 R4),[(0,aU R4.fL)],0,false,none⟩)] (kp [4]) (kq [32,400]) 432 (pc o1 (pc (uD _ _ _ _ IS) (pc (gG _ _ _ _ IQ) (pc o1 pn)))) ?_
   obtain rfl:=kR h
   exact jn hE 0 Tryz.f137 [400] (kp [4]) [(16,.var 32 [.af,rM (cU .u16) 0 R4.fL])] 432 (pc (Eq.refl R4.fL.length) (pc (z1 R4.fL.length) (pc (eZ (cU .u16) 0 R4.fL) pn))) [16] (pc o1 pn)
theorem tc (N x y r) (h:g8 N x y=some r):Sd 106 [(ao x),(ao y)] [] 0 (ao r) []:=by
 unfold g8 at h
 refine sO Tryz.f106 32 fun E hE=>?_
 refine aj hE 1 kg cC 48 ?_
 obtain ⟨eI,hr,h⟩:=ax h
 refine bc hE 2 [(1,oT (aB eI))] (kp [2,3,4,8]) cC 80 (pc o1 (pc (fV _ _ _ hr) pn)) <| cx 0 8 h (fun cP h=>?_) (fun cP h=>?_)
 ·obtain ⟨qB,dy,h⟩:=ax h
  refine bc hE 1 [(1,oT (ao qB))] (kp [4]) (kq [32]) 128 (pc o1 (pc (xk _ _ _ dy) (pc o1 pn))) ?_
  obtain rfl:=kR h
  exact jn hE 0 Tryz.f106 [] (kp [4]) [(16,.af 32)] 128 pn [16] (pc o1 pn)
 ·obtain ⟨um,ia,h⟩:=ax h
  refine bc hE 3 [(1,oT (aB um))] (kp [2,3,4,12]) cC 112 (pc o1 (pc (fV _ _ _ ia) pn)) <| cx 0 12 h (fun gX h=>?_) (fun gX h=>?_)
  ·obtain ⟨jY,kT,h⟩:=ax h
   refine bc hE 1 [(1,oT (ao jY))] (kp [4]) (kq [32]) 160 (pc o1 (pc (xk _ _ _ kT) (pc o1 pn))) ?_
   obtain rfl:=kR h
   exact jn hE 0 Tryz.f106 [] (kp [4]) [(16,.af 32)] 160 pn [16] (pc o1 pn)
  ·obtain ⟨gK,oW,h⟩:=ax h
   obtain ⟨mN,vG,h⟩:=ax h
   refine bc hE 2 [(1,oT (ba gK)),(3,oT (ba mN))] tu (kq [0,16,32,176,192]) 240 (pc o1 (pc (eP _ _ _ oW) (pc o1 (pc (eP _ _ _ vG) (pc o1 (pc o1 pn)))))) ?_
   obtain ⟨uq,x6,h⟩:=ax h
   obtain ⟨nC,IS,h⟩:=ax h
   obtain ⟨Uw,IQ,h⟩:=ax h
   obtain ⟨JK,Da,h⟩:=ax h
   obtain ⟨p6,IT,h⟩:=ax h
   refine bc hE 1 [(3,oT (ba uq)),(7,oT (ba nC)),(8,oT (ba Uw)),(11,oT (ba JK)),(12,⟨[],true,(jr p6),[(0,aU p6.fN.fL),(1,aU p6.fD.fL)],0,false,none⟩)] (kp [4]) (kq [32,432,433]) 464 (pc o1 (pc o1 (pc (pO _ _ _ _ x6) (pc o1 (pc o1 (pc (pO _ _ _ _ IS) (pc (VM _ _ _ _ IQ) (pc o1 (pc o1 (pc (pO _ _ _ _ Da) (pc (la _ _ _ _ IT) (pc o1 pn)))))))))))) ?_
   obtain rfl:=kR h
   exact jn hE 0 Tryz.f106 [432,433] (kp [4]) [(16,.var 32 [.af,rM (cU .u16) 0 p6.fN.fL,.af,rM (cU .u16) 0 p6.fD.fL])] 464 (pc (Eq.refl p6.fN.fL.length) (pc (z1 p6.fN.fL.length) (pc (eZ (cU .u16) 0 p6.fN.fL) (pc (Eq.refl p6.fD.fL.length) (pc (z1 p6.fD.fL.length) (pc (eZ (cU .u16) 0 p6.fD.fL) pn)))))) [16] (pc o1 pn)
theorem NL (N x y r) (h:qQ N x y=some r):Sd 64 [(ao x),(ao y)] [] 0 (ao r) []:=by
 unfold qQ at h
 refine sO Tryz.f64 9 fun E hE=>?_
 refine aj hE 1 kg cC 48 ?_
 obtain ⟨bO,hr,h⟩:=ax h
 obtain ⟨bQ,dy,h⟩:=ax h
 refine bc hE 1 [(2,oT (ao bO)),(3,oT (ao bQ))] (kp [4]) (kq [32]) 128 (pc o1 (pc o1 (pc (J5 _ _ _ hr) (pc (tc _ _ _ _ dy) (pc o1 pn))))) ?_
 obtain rfl:=kR h
 exact jn hE 0 Tryz.f64 [] (kp [4]) [(16,.af 32)] 128 pn [16] (pc o1 pn)
noncomputable abbrev ann:=bt Tryz.f90
def QJ (N:Nat) (K:Int->(List Int)->Option l8):Prop:=∀ (n2:Int) (out:List Int) (r:(List Int)),K n2 out=some r->∀ E,aP E 0->ay Tryz.prog E 90 15 (aQ E [] (bD r)) [.code (ann 56),.inLoop (ann 56),.inBlock 0,.code (ann 15)] ⟨[(0,(wD n2)),(3,(lN out))],[(0,aU out)],1⟩
theorem NM (N fuel):QJ N (pE N fuel):=by
 induction fuel with
 | zero=>intro _ _ r h;rw [pE.eq_1] at h;cases h
 | succ fuel ih =>
  intro n2 out r h E hE
  rw [pE.eq_2] at h
  refine aj hE 2 Vg (kq [0]) 33 <| cx 0 5 h (fun cP h=>?_) (fun cP h=>?_)
  ·obtain ⟨c,h⟩:=ae h
   refine cd hE 3 (kp [0] ++ [(3,.lx ((out ++ (PY n2)).length))]) [(113,pY 113 (cU .u16) 0 (out ++ (PY n2)))] 145 (pc (Eq.refl out.length) (pc c (pc (z1 1) (pc (oN [[(Zk (IntKind.u16.wrap ((JF .u64 n2 65535))))]]) (pc (bT out (PY n2)) (pc (bT out (PY n2)) (pc (Ta (cU .u16) 0 out (PY n2)) pn))))))) <| cd hE 1 (kp [0,3]) (kq [113]) 193 (pc (show (0:Int)<=16 by decide) pn) <| cy hE 1 (kp [0,3]) [(0,.af 113)] 1 (ih _ _ _ h E hE)
  ·refine aj hE 2 (kp [2]) (kq [0]) 65 ?_
   obtain rfl:=kR h
   exact jn hE 0 Tryz.f90 [0] [(2,rM (cU .u16) 0 out)] [] 65 (pc (Eq.refl out.length) (pc (z1 out.length) (pc (eZ (cU .u16) 0 out) pn))) [] pn
theorem J6 (N n r) (h:yu N n=some r):Sd 90 [(wD n)] [] 0 (bD r) []:=by
 unfold yu at h
 refine sO Tryz.f90 15 fun E hE=>?_
 refine aj hE 1 (kp [0]) [] 16 <| aj hE 1 (kp [0,3]) [] 32 <| cy hE 3 (kp [0] ++ [(3,.sC 0)]) [(0,.nil 1 (fun zi=>(cU .u16) (([]:List Int).getD zi 0)))] 1 (NM N N _ _ _ h E hE)
theorem XD (N n r) (h:Tg N n=some r):Sd 46 [(aI n)] [] 0 (ba r) []:=by
 unfold Tg at h
 refine sO Tryz.f46 16 fun E hE=>?_
 refine aj hE 1 (kp [0,2]) (kq [0]) 16 <| aj hE 2 Vf (kq [0]) 48 <| cx 0 4 h (fun cP h=>?_) (fun cP h=>?_)
 ·obtain ⟨Zf,hr,h⟩:=ax h
  refine bc hE 1 [(5,oT (bD Zf))] (kp [2]) (kq [0]) 176 (pc (J6 _ _ _ hr) (pc o1 pn)) ?_
  cases h
  exact jn hE 0 Tryz.f46 [] (kp [2]) [(16,.af 0)] 176 pn [16] (pc o1 pn)
 ·obtain ⟨Uy,dy,h⟩:=ax h
  refine bc hE 2 [(2,oT (bD Uy))] (kp [2]) (kq [0]) 128 (pc (J6 _ _ _ dy) (pc o1 pn)) ?_
  cases h
  exact jn hE 0 Tryz.f46 [] (kp [2]) [(16,.af 0)] 128 pn [16] (pc o1 pn)
theorem wM (N n r) (h:ER N n=some r):Sd 15 [(aI n)] [] 0 (ao r) []:=by
 unfold ER at h
 refine sO Tryz.f15 7 fun E hE=>?_
 refine aj hE 1 (kp [0,2]) (kq [0]) 16 ?_
 obtain ⟨rZ,hr,h⟩:=ax h
 obtain ⟨rZ2,dy,h⟩:=ax h
 refine bc hE 1 [(1,oT (ba rZ)),(2,oT (ba rZ2))] (kp [2]) (kq [0]) 96 (pc (XD _ _ _ hr) (pc (XD _ _ _ dy) (pc o1 pn))) ?_
 cases h
 exact jn hE 0 Tryz.f15 [] (kp [2]) [(16,.af 0)] 96 pn [16] (pc o1 pn)
theorem cE (N n low high r) (h:dp N n low high=some r):Sd 66 [(aI n),(aI low),(aI high)] [] 0 (aB r) []:=by
 unfold dp at h
 refine sO Tryz.f66 15 fun E hE=>?_
 refine aj hE 1 vC [] 16 <| cd hE 1 (kp [6]) [] 160 (pc (fun hg:(decide (n>=low))=true=>(pc hg (pc hg pn))) (pc (fun hq:(decide (n>=low))=true=>(pc hq pn)) pn)) ?_
 cases h
 exact fw hE 0 Tryz.f66 (kp [6]) [] 160
noncomputable abbrev ano:=bt Tryz.f67
def NN (N:Nat) (s:ByteArray) (K:Int->Option (Bool)):Prop:=∀ (i:Int) (r:Bool),K i=some r->∀ E,aP E 0->ay Tryz.prog E 67 55 (aQ E [] (aB r)) [.code (ano 116),.inLoop (ano 116),.inBlock 0,.code (ano 15)] ⟨[(0,(aS s)),(3,(aI i))],[],0⟩
theorem Ma (N s fuel):NN N s (lZ N s fuel):=by
 induction fuel with
 | zero=>intro _ r h;rw [lZ.eq_1] at h;cases h
 | succ fuel ih =>
  intro i r h E hE
  rw [lZ.eq_2] at h
  refine aj hE 2 (kp [0,3,17]) [] 64 <| cx 0 17 h (fun gX h=>?_) (fun gX h=>?_)
  ·obtain ⟨c,h⟩:=ae h
   refine cd hE 4 Qa [] 128 (pc c pn) <| cd hE 1 (kp [0,3,4,5]) [] 368 (pc (fun hg:(decide ((zA s i)>=97))=true=>(pc hg pn)) (pc (fun hq:(decide ((zA s i)>=97))=true=>(pc hq pn)) (pc (fun hg:(afX s i)=true=>(pc hg pn)) (pc (fun hg:(alE s i)=true=>(pc hg pn)) (pc (fun hg:(afX s i)=true=>(pc hg (pc hg (pc (fun hq:(decide ((zA s i)>=65))=true=>(pc (show (alE s i)=true from (o5 hg (o5 hg hq))) pn)) pn)))) (pc (fun hq:(afX s i)=true=>(pc hq pn)) pn)))))) <| cd hE 1 (kp [0,3,54]) [] 656 (pc (fun hg:(am0 s i)=true=>(pc hg pn)) (pc (fun hg:(af6 s i)=true=>(pc hg pn)) (pc (fun hg:(af8 s i)=true=>(pc hg pn)) (pc (fun hg:(alH s i)=true=>(pc hg pn)) (pc (fun hg:(af8 s i)=true=>(pc hg (pc hg (pc (fun hq:(!(decide ((zA s i) < 48)))=true=>(pc (show (alH s i)=true from (o5 hg (o5 hg hq))) pn)) pn)))) (pc (fun hg:(af6 s i)=true=>(pc hg (pc hg (pc (fun hq:((zA s i) != 45)=true=>(pc (show (af8 s i)=true from (o5 hg (o5 hg hq))) pn)) pn)))) (pc (fun hg:(am0 s i)=true=>(pc hg (pc hg (pc (fun hq:(!(i == 0))=true=>(pc (show (af6 s i)=true from (o5 hg (o5 hg hq))) pn)) pn)))) (pc (fun hq:(am0 s i)=true=>(pc hq pn)) pn)))))))) <| cx 0 54 h (fun sb h=>?_) (fun sb h=>?_)
   ·refine aj hE 1 (kp [2]) [] 672 ?_
    obtain rfl:=kR h
    exact fw hE 0 Tryz.f67 (kp [2]) [] 672
   ·refine aj hE 2 (kp [0,3]) [] 704 <| cy hE 1 (kp [0,3]) [] 0 (ih _ _ h E hE)
  ·refine aj hE 2 (kp [2]) [] 80 ?_
   obtain rfl:=kR h
   exact fw hE 0 Tryz.f67 (kp [2]) [] 80
theorem Sc (N s r) (h:yM N s=some r):Sd 67 [(aS s)] [] 0 (aB r) []:=by
 unfold yM at h
 refine sO Tryz.f67 55 fun E hE=>?_
 refine aj hE 1 (kp [0]) [] 16 <| cd hE 2 (kp [0,13]) [] 144 (pc (fun hg:(!(decide (((s.size:Nat):Int) < 1)))=true=>(pc hg pn)) (pc (fun hg:(!(decide (((s.size:Nat):Int) < 1)))=true=>(pc hg pn)) (pc (fun hq:(!(decide (((s.size:Nat):Int) < 1)))=true=>(pc hq pn)) pn))) <| cx 0 13 h (fun cP h=>?_) (fun cP h=>?_)
 ·refine aj hE 1 (kp [2]) [] 160 ?_
  obtain rfl:=kR h
  exact fw hE 0 Tryz.f67 (kp [2]) [] 160
 ·refine aj hE 3 (kp [0,3]) [] 160 <| cy hE 2 (kp [0,3]) [] 0 (Ma N _ N _ _ h E hE)
noncomputable abbrev NO:=bt Tryz.f23
def B7 (N:Nat) (p:cQ) (K:Int->Option (Int)):Prop:=∀ (i:Int) (r:Int),K i=some r->∀ E,aP E 0->ay Tryz.prog E 23 112 (aQ E [] (aI r)) [.code (NO 244),.inLoop (NO 244),.inBlock 0,.code (NO 31)] ⟨[(1,(.op 0 0 0)),(3,(aI i))],[(jQ p)],1⟩
def tX (N:Nat) (p:cQ) (K:Int->Option (Int)):Prop:=∀ (i2:Int) (r:Int),K i2=some r->∀ E,aP E 0->ay Tryz.prog E 23 112 (aQ E [] (aI r)) [.code (NO 1012),.inLoop (NO 1012),.inBlock 2,.code (NO 127)] ⟨[(1,(.op 0 0 0)),(5,(aI i2))],[(jQ p)],1⟩
def B8 (N:Nat) (p:cQ) (i2:Int) (K:Int->Option (Int)):Prop:=∀ (k:Int) (r:Int),K k=some r->∀ E,aP E 0->ay Tryz.prog E 23 112 (aQ E [] (aI r)) [.code (NO 518452),.inLoop (NO 518452),.inBlock 4,.code (NO 64807),.inBlock 3,.code (NO 4051),.inLoop (NO 1012),.inBlock 2,.code (NO 127)] ⟨[(1,(.op 0 0 0)),(5,(aI i2)),(6,(.op 1 0 0)),(7,(aI k))],[(jQ p),(1,vO 5 (cL.cells (Ic p i2)))],2⟩
theorem A6 (N:Nat) (p:cQ) (i2:Int) (iZ:Int->Option (Int)) (A7:tX N p iZ) (fuel:Nat):B8 N p i2 (ec N p i2 iZ fuel):=by
 induction fuel with
 | zero=>intro _ r h;rw [ec.eq_1] at h;cases h
 | succ fuel ih =>
  intro k r h E hE
  rw [ec.eq_2] at h
  refine aj hE 2 (kp [1,5,6,7,78]) (kq [0,1]) 50 <| cx 0 78 h (fun hq9 h=>?_) (fun hq9 h=>?_)
  ·obtain ⟨c3,h⟩:=ae h
   refine cd hE 4 (kp [1,5,6,7,89]) (kq [0,1]) 194 (pc o1 (pc c3 (pc o1 pn))) <| cx 0 89 h (fun arR h=>?_) (fun arR h=>?_)
   ·refine aj hE 1 (kp [2]) [] 210 ?_
    cases h
    exact fw hE 0 Tryz.f23 (kp [2]) [] 210
   ·refine aj hE 2 Vq (kq [0,1]) 242 <| cy hE 1 Vq (kq [0,1]) 2 (ih _ _ h E hE)
  ·obtain ⟨D5,IS,h⟩:=ax h
   obtain ⟨Lf,IQ,h⟩:=ax h
   obtain ⟨Xm,Da,h⟩:=ax h
   obtain ⟨afO,IT,h⟩:=ax h
   refine bc hE 2 [(2,oT (aB D5)),(7,oT (aB Lf)),(13,oT (aB Xm)),(19,oT (aB afO))] (kp [1,5,111]) (kq [0]) 402 (pc o1 (pc (cE _ _ _ _ _ IS) (pc (fun hg:(!(!D5))=true=>(pc hg (pc o1 pn))) (pc (fun hg:(!(!D5))=true=>(pc (cE _ _ _ _ _ (aR IQ hg)) (pc hg pn))) (pc (fun hg:(!(!D5))=true=>(pc hg pn)) (pc (fun hq:(!(!D5))=true=>(pc hq pn)) (pc (fun hg:(uS D5 Lf)=true=>(pc hg (pc o1 pn))) (pc (fun hg:(uS D5 Lf)=true=>(pc (cE _ _ _ _ _ (aR Da hg)) (pc hg pn))) (pc (fun hg:(uS D5 Lf)=true=>(pc hg pn)) (pc (fun hq:(uS D5 Lf)=true=>(pc hq pn)) (pc (fun hg:(Nl D5 Lf Xm)=true=>(pc hg (pc o1 pn))) (pc (fun hg:(Nl D5 Lf Xm)=true=>(pc (cE _ _ _ _ _ (aR IT hg)) (pc hg pn))) (pc (fun hg:(Nl D5 Lf Xm)=true=>(pc hg pn)) (pc (fun hq:(Nl D5 Lf Xm)=true=>(pc hq pn)) pn)))))))))))))) <| cx 0 111 h (fun arS h=>?_) (fun arS h=>?_)
   ·refine aj hE 1 (kp [2]) [] 418 ?_
    cases h
    exact fw hE 0 Tryz.f23 (kp [2]) [] 418
   ·refine aj hE 2 (kp [1,5]) (kq [0]) 450 <| cy hE 1 (kp [1,5]) (kq [0]) 1 (A7 _ _ h E hE)
theorem A8 (N p fuel):tX N p (cD N p fuel):=by
 induction fuel with
 | zero=>intro _ r h;rw [cD.eq_1] at h;cases h
 | succ fuel ih =>
  intro i2 r h E hE
  rw [cD.eq_2] at h
  refine cd hE 2 (kp [1,5,64]) (kq [0]) 81 (pc o1 pn) <| cx 0 64 h (fun hq7 h=>?_) (fun hq7 h=>?_)
  ·obtain ⟨c2,h⟩:=ae h
   refine cd hE 4 (kp [1,5,6]) (kq [0,161]) 193 (pc o1 (pc c2 (pc o1 pn))) ?_
   obtain ⟨Uz,x6,h⟩:=ax h
   refine bc hE 2 [(2,oT (aB Uz))] (kp [1,5,6,75]) (kq [0,161]) 257 (pc o1 (pc (Sc _ _ _ x6) pn)) <| cx 0 75 h (fun hq8 h=>?_) (fun hq8 h=>?_)
   ·refine aj hE 1 (kp [2]) [] 273 ?_
    cases h
    exact fw hE 0 Tryz.f23 (kp [2]) [] 273
   ·refine aj hE 3 Vq (kq [0,161]) 273 <| cy hE 2 Vq (kq [0] ++ [(1,.af 161)]) 2 (A6 N _ _ _ ih N _ _ h E hE)
  ·refine aj hE 2 (kp [2]) [] 97 ?_
   cases h
   exact fw hE 0 Tryz.f23 (kp [2]) [] 97
theorem A9 (N p fuel):B7 N p (ee N p fuel):=by
 induction fuel with
 | zero=>intro _ r h;rw [ee.eq_1] at h;cases h
 | succ fuel ih =>
  intro i r h E hE
  rw [ee.eq_2] at h
  refine cd hE 2 (kp [1,3,32]) (kq [0]) 81 (pc o1 pn) <| cx 0 32 h (fun sb h=>?_) (fun sb h=>?_)
  ·obtain ⟨c,h⟩:=ae h
   refine cd hE 4 (kp [1,3,4]) (kq [0,161]) 193 (pc o1 (pc c (pc o1 pn))) ?_
   obtain ⟨zH,kT,h⟩:=ax h
   obtain ⟨Nk,oW,h⟩:=ax h
   obtain ⟨amS,vG,h⟩:=ax h
   refine bc hE 1 [(2,oT (aB zH)),(7,oT (aB Nk)),(13,oT (aB amS))] (kp [1,3,55]) (kq [0]) 449 (pc o1 (pc (cE _ _ _ _ _ kT) (pc (fun hg:(!(!zH))=true=>(pc hg (pc o1 pn))) (pc (fun hg:(!(!zH))=true=>(pc (cE _ _ _ _ _ (aR oW hg)) (pc hg pn))) (pc (fun hg:(!(!zH))=true=>(pc hg pn)) (pc (fun hq:(!(!zH))=true=>(pc hq pn)) (pc (fun hg:(uS zH Nk)=true=>(pc hg (pc o1 pn))) (pc (fun hg:(uS zH Nk)=true=>(pc (cE _ _ _ _ _ (aR vG hg)) (pc hg pn))) (pc (fun hg:(uS zH Nk)=true=>(pc hg pn)) (pc (fun hq:(uS zH Nk)=true=>(pc hq pn)) pn)))))))))) <| cx 0 55 h (fun Ft h=>?_) (fun Ft h=>?_)
   ·refine aj hE 1 (kp [2]) [] 465 ?_
    cases h
    exact fw hE 0 Tryz.f23 (kp [2]) [] 465
   ·refine aj hE 2 (kp [1,3]) (kq [0]) 497 <| cy hE 1 (kp [1,3]) (kq [0]) 1 (ih _ _ h E hE)
  ·refine cd hE 3 (kp [1,59]) (kq [0]) 145 (pc o1 pn) <| cx 0 59 h (fun VE h=>?_) (fun VE h=>?_)
   ·refine aj hE 1 (kp [2]) [] 161 ?_
    cases h
    exact fw hE 0 Tryz.f23 (kp [2]) [] 161
   ·refine aj hE 3 (kp [1,5]) (kq [0]) 161 <| cy hE 2 (kp [1,5]) (kq [0]) 1 (A8 N _ N _ _ h E hE)
theorem Ed (N p r) (h:my N p=some r):Sd 23 [(sH p)] [] 0 (aI r) []:=by
 unfold my at h
 refine sO Tryz.f23 112 fun E hE=>?_
 refine aj hE 1 (kp [1]) (kq [0]) 32 ?_
 obtain ⟨xG,hr,h⟩:=ax h
 obtain ⟨tk,dy,h⟩:=ax h
 obtain ⟨ES,ia,h⟩:=ax h
 refine bc hE 2 [(2,oT (aB xG)),(7,oT (aB tk)),(13,oT (aB ES))] (kp [1,23]) (kq [0]) 288 (pc o1 (pc (cE _ _ _ _ _ hr) (pc (fun hg:(!(!xG))=true=>(pc hg (pc o1 pn))) (pc (fun hg:(!(!xG))=true=>(pc (cE _ _ _ _ _ (aR dy hg)) (pc hg pn))) (pc (fun hg:(!(!xG))=true=>(pc hg pn)) (pc (fun hq:(!(!xG))=true=>(pc hq pn)) (pc (fun hg:(uS xG tk)=true=>(pc hg (pc o1 pn))) (pc (fun hg:(uS xG tk)=true=>(pc (cE _ _ _ _ _ (aR ia hg)) (pc hg pn))) (pc (fun hg:(uS xG tk)=true=>(pc hg pn)) (pc (fun hq:(uS xG tk)=true=>(pc hq pn)) pn)))))))))) <| cx 0 23 h (fun cP h=>?_) (fun cP h=>?_)
 ·refine aj hE 1 (kp [2]) [] 304 ?_
  cases h
  exact fw hE 0 Tryz.f23 (kp [2]) [] 304
 ·refine cd hE 3 (kp [1,27]) (kq [0]) 352 (pc o1 pn) <| cx 0 27 h (fun gX h=>?_) (fun gX h=>?_)
  ·refine aj hE 1 (kp [2]) [] 368 ?_
   cases h
   exact fw hE 0 Tryz.f23 (kp [2]) [] 368
  ·refine aj hE 3 (kp [1,3]) (kq [0]) 368 <| cy hE 2 (kp [1,3]) (kq [0]) 1 (A9 N _ N _ _ h E hE)
noncomputable abbrev anp:=bt Tryz.f11
def J7 (N:Nat) (p:cQ) (p7:Int) (K:Int->Int->Option (Int)):Prop:=∀ (n:Int) (i:Int) (r:Int),K n i=some r->∀ E,aP E 0->ay Tryz.prog E 11 28 (aQ E [] (aI r)) [.code (anp 116),.inLoop (anp 116),.inBlock 0,.code (anp 15)] ⟨[(1,(aI p7)),(2,(.op 0 0 0)),(5,(aI n)),(6,(aI i))],[(jQ p)],1⟩
theorem I0 (N p p7 fuel):J7 N p p7 (jL N p p7 fuel):=by
 induction fuel with
 | zero=>intro _ _ r h;rw [jL.eq_1] at h;cases h
 | succ fuel ih =>
  intro n i r h E hE
  rw [jL.eq_2] at h
  refine cd hE 2 (kp [1,2,5,6,11]) (kq [0]) 81 (pc o1 pn) <| cx 0 11 h (fun cP h=>?_) (fun cP h=>?_)
  ·obtain ⟨c,h⟩:=ae h
   refine cd hE 4 C8 (kq [0]) 241 (pc o1 (pc c pn)) <| aj hE 1 (kp [1,2,5,6,25]) (kq [0]) 289 <| cx 0 25 h (fun gX h=>?_) (fun gX h=>?_)
   ·refine aj hE 1 (kp [4]) [] 321 ?_
    cases h
    exact fw hE 0 Tryz.f11 (kp [4]) [] 321
   ·refine aj hE 2 C8 (kq [0]) 337 <| cy hE 1 C8 (kq [0]) 1 (ih _ _ _ h E hE)
  ·refine aj hE 2 (kp [4]) [] 113 ?_
   obtain rfl:=kR h
   exact fw hE 0 Tryz.f11 (kp [4]) [] 113
theorem NP (N p p7 r) (h:xV N p p7=some r):Sd 11 [(sH p),(aI p7)] [] 0 (aI r) []:=by
 unfold xV at h
 refine sO Tryz.f11 28 fun E hE=>?_
 refine aj hE 1 (kp [1,2]) (kq [0]) 32 <| aj hE 1 LU (kq [0]) 48 <| aj hE 2 C8 (kq [0]) 64 <| cy hE 2 C8 (kq [0]) 1 (I0 N _ _ N _ _ _ h E hE)
theorem tw (N l r) (h:lh N l=some r):Sd 41 [(JR l)] [] 0 (aI r) []:=by
 unfold lh at h
 refine sO Tryz.f41 31 fun E hE=>?_
 refine aj hE 1 (kp [1]) (kq [0]) 32 ?_
 obtain ⟨m7,hr,h⟩:=ax h
 obtain ⟨j4,dy,h⟩:=ax h
 obtain ⟨w8,ia,h⟩:=ax h
 obtain ⟨G2,kT,h⟩:=ax h
 obtain ⟨amT,oW,h⟩:=ax h
 refine bc hE 2 [(2,oT (aB m7)),(7,oT (aB j4)),(13,oT (aB w8)),(19,oT (aB G2)),(25,oT (aB amT))] (kp [30]) [] 480 (pc o1 (pc (bh _ _ _ _ _ hr) (pc (fun hg:(!(!m7))=true=>(pc hg (pc o1 pn))) (pc (fun hg:(!(!m7))=true=>(pc (bh _ _ _ _ _ (aR dy hg)) (pc hg pn))) (pc (fun hg:(!(!m7))=true=>(pc hg pn)) (pc (fun hq:(!(!m7))=true=>(pc hq pn)) (pc (fun hg:(uS m7 j4)=true=>(pc hg (pc o1 pn))) (pc (fun hg:(uS m7 j4)=true=>(pc (bh _ _ _ _ _ (aR ia hg)) (pc hg pn))) (pc (fun hg:(uS m7 j4)=true=>(pc hg pn)) (pc (fun hq:(uS m7 j4)=true=>(pc hq pn)) (pc (fun hg:(Nl m7 j4 w8)=true=>(pc hg (pc o1 pn))) (pc (fun hg:(Nl m7 j4 w8)=true=>(pc (bh _ _ _ _ _ (aR kT hg)) (pc hg pn))) (pc (fun hg:(Nl m7 j4 w8)=true=>(pc hg pn)) (pc (fun hq:(Nl m7 j4 w8)=true=>(pc hq pn)) (pc (fun hg:(Xr m7 j4 w8 G2)=true=>(pc hg (pc o1 pn))) (pc (fun hg:(Xr m7 j4 w8 G2)=true=>(pc (bh _ _ _ _ _ (aR oW hg)) (pc hg pn))) (pc (fun hg:(Xr m7 j4 w8 G2)=true=>(pc hg pn)) (pc (fun hq:(Xr m7 j4 w8 G2)=true=>(pc hq pn)) pn)))))))))))))))))) <| cx 0 30 h (fun cP h=>?_) (fun cP h=>?_)
 ·refine aj hE 1 (kp [2]) [] 496 ?_
  cases h
  exact fw hE 0 Tryz.f41 (kp [2]) [] 496
 ·refine aj hE 2 (kp [2]) [] 496 ?_
  cases h
  exact fw hE 0 Tryz.f41 (kp [2]) [] 496
theorem se (N d C0 r) (h:oI N d C0=some r):Sd 114 [(aI d),(.op 0 0 0)] [(jQ C0)] 1 (abF r) [(jQ C0),(1,aU r.fN.fL),(2,aU r.fD.fL)]:=by
 unfold oI at h
 refine sO Tryz.f114 16 fun E hE=>?_
 refine aj hE 1 (kp [0,1,3]) (kq [0,1]) 17 ?_
 obtain ⟨bU,hr,h⟩:=ax h
 obtain ⟨db,dy,h⟩:=ax h
 obtain ⟨gN,ia,h⟩:=ax h
 refine bc hE 1 [(8,⟨[],false,(jr bU),[(0,aU bU.fN.fL),(1,aU bU.fD.fL)],0,false,none⟩),(10,⟨[],false,(jr db),[(0,aU db.fN.fL),(1,aU db.fD.fL)],0,false,none⟩),(11,⟨[],false,(jr gN),[(0,aU gN.fN.fL),(1,aU gN.fD.fL)],0,false,none⟩)] (kp [3]) (kq [0,1,193,194]) 225 (pc o1 (pc o1 (pc o1 (pc (show Sd 63 [(.sl 4 (fun zi=>(fun zi=>([[(aI d)],[(aI C0.er)],[(aI C0.oE)],[(aI C0.sD)]]:List (List AV)).getD zi []) (bB 0 zi)))] [] 0 (jr bU) [(0,aU bU.fN.fL),(1,aU bU.fD.fL)] from (Sound.conv (ki _ _ _ hr) (.cons (Alike.sl rfl (dJ cI 0 ([d,C0.er,C0.oE,C0.sD]:List Int))) .nil))) (pc (fL (cU .u16) 0 bU.fN.fL) (pc (fL (cU .u16) 0 bU.fD.fL) (pc (z1 4) (pc (show Sd 63 [(.sl 1 (fun zi=>(fun zi=>([[(aI 1000000000)]]:List (List AV)).getD zi []) (bB 0 zi)))] [] 0 (jr db) [(0,aU db.fN.fL),(1,aU db.fD.fL)] from (Sound.conv (ki _ _ _ dy) (.cons (Alike.sl rfl (dJ cI 0 ([1000000000]:List Int))) .nil))) (pc (fL (cU .u16) 0 db.fN.fL) (pc (fL (cU .u16) 0 db.fD.fL) (pc (z1 1) (pc (uG _ _ _ _ ia) (pc (fL (cU .u16) 0 gN.fN.fL) (pc (fL (cU .u16) 0 gN.fD.fL) (pc (z1 bU.fN.fL.length) (pc (z1 bU.fD.fL.length) (pc (z1 db.fN.fL.length) (pc (z1 db.fD.fL.length) (pc o1 pn))))))))))))))))))) ?_
 cases h
 exact jn hE 0 Tryz.f114 [] (kp [3]) (kq [0] ++ [(1,.af 193),(2,.af 194),(17,.var 1 [.af,.af,.af,.af])]) 225 pn [17] (pc o1 pn)
noncomputable abbrev alI:=bt Tryz.f152
def J8 (N:Nat) (a:cX) (b:cX) (K:(List Int)->(List Int)->Option (cX×cX×Int)):Prop:=∀ (n:List Int) (rest:List Int) (r:cX×cX×Int),K n rest=some r->∀ E,aP E 0->ay Tryz.prog E 152 50 (aQ E [] (ZA r)) [.code (alI 126),.code (alI 127)] ⟨[(2,(.op 0 0 0)),(3,(.op 1 0 0)),(4,(.op 2 0 0)),(5,(.op 3 0 0)),(9,(bw n)),(10,(bw rest))],[(0,vO 2 (TIc a)),(1,vO 2 (TIc b)),(2,vO 2 [(aB false),.nil]),(3,vO 2 [(aB false),.nil])],4⟩
theorem ze (N a b):J8 N a b (sG N a b):=by
 intro n rest r h E hE
 unfold sG at h
 obtain ⟨yp,vG,h⟩:=ax h
 obtain ⟨qt,x6,h⟩:=ax h
 refine bc hE 0 [(6,⟨[],true,(E3 yp),[(0,aU yp.fL)],0,false,none⟩),(8,⟨[],true,(E3 qt),[(0,aU qt.fL)],0,false,none⟩)] AS (kq [2,3,100,132]) 196 (pc o1 (pc o1 (pc (gG _ _ _ _ vG) (pc (gG _ _ _ _ x6) (pc o1 (pc o1 pn)))))) ?_
 cases h
 exact jn hE 0 Tryz.f152 [100,132] AS [(16,.var 2 [.af,rM (cU .u16) 0 yp.fL]),(17,.var 3 [.af,rM (cU .u16) 0 qt.fL])] 196 (pc (Eq.refl yp.fL.length) (pc (z1 yp.fL.length) (pc (eZ (cU .u16) 0 yp.fL) (pc (Eq.refl qt.fL.length) (pc (z1 qt.fL.length) (pc (eZ (cU .u16) 0 qt.fL) pn)))))) [16,17] (pc o1 (pc o1 pn))
theorem NQ (N a b r) (h:CK N a b=some r):Sd 152 [(ba a),(ba b)] [] 0 (ZA r) []:=by
 unfold CK at h
 refine sO Tryz.f152 50 fun E hE=>?_
 refine aj hE 1 (kp [2,3,4,5]) pN 80 ?_
 obtain ⟨bJ,hr,h⟩:=ax h
 obtain ⟨fJ,dy,h⟩:=ax h
 refine bc hE 1 [(2,oT (bD bJ)),(5,oT (bD fJ))] (kp [2,3,4,5,7,8]) pN 208 (pc o1 (pc (ca _ _ _ hr) (pc o1 (pc (ca _ _ _ dy) pn)))) <| aj hE 2 (kp [2,3,4,5,7,8,19]) pN 256 <| cx 0 19 h (fun cP h=>?_) (fun cP h=>?_)
 ·refine cd hE 1 AS (kq [32,48]) 336 (pc o1 (pc o1 pn)) ?_
  cases h
  exact jn hE 0 Tryz.f152 [] AS [(16,.var 32 [.af,rM (cU .u16) 0 ([]:List Int)]),(17,.var 48 [.af,rM (cU .u16) 0 ([]:List Int)])] 336 (pc (Eq.refl 0) (pc (Eq.refl 0) pn)) [16,17] (pc o1 (pc o1 pn))
 ·obtain ⟨kW,ia,h⟩:=ax h
  refine bc hE 2 [(2,oT (vv kW))] (kp [2,3,4,5,8,9,10]) pN 384 (pc (s9 _ _ _ _ ia) pn) <| cd hE 2 (kp [2,3,4,5,8,9,10,34]) pN 496 (pc o1 (pc (fun hg:a.fG=true=>(pc hg pn)) (pc (fun hg:a.fG=true=>(pc hg pn)) (pc (fun hq:a.fG=true=>(pc hq pn)) pn)))) <| cx 0 34 h (fun gX h=>?_) (fun gX h=>?_)
  ·obtain ⟨zW,kT,h⟩:=ax h
   obtain ⟨qP,oW,h⟩:=ax h
   refine bc hE 0 [(2,⟨[],true,(bD zW),[],0,true,none⟩),(5,oT (bD qP))] Z1 pN 624 (pc (show Sd 155 [(eU kW.1),(.sl 1 (fun zi=>(fun zi=>([[(Zk 1)]]:List (List AV)).getD zi []) (bB 0 zi)))] [] 0 (bD zW) [] from (Sound.conv (Fy _ _ _ _ kT) (.cons (Alike.refl _) (.cons (Alike.sl rfl (dJ (cU .u16) 0 ([1]:List Int))) .nil)))) (pc (z1 1) (pc (uD _ _ _ _ oW) pn))) <| cy hE 1 Z1 Qq 4 (ze N _ _ _ _ _ h E hE)
  ·exact cy hE 2 Z1 Qq 4 (ze N _ _ _ _ _ h E hE)
theorem QK (N x r) (h:BI N x=some r):Sd 129 [(ao x)] [] 0 (ba r) []:=by
 unfold BI at h
 refine sO Tryz.f129 18 fun E hE=>?_
 refine aj hE 1 (kp [1,2]) fH 32 ?_
 obtain ⟨qB,hr,h⟩:=ax h
 refine bc hE 1 [(1,oT (ao qB))] (kp [1,2]) fH 80 (pc o1 (pc (xk _ _ _ hr) (pc o1 pn))) ?_
 obtain ⟨UA,dy,h⟩:=ax h
 refine bc hE 1 [(4,oT (ZA UA))] (kp [2,3]) (kq [16,224]) 304 (pc o1 (pc o1 (pc (NQ _ _ _ _ dy) (pc o1 (pc o1 pn))))) <| cd hE 1 (kp [2]) (kq [16]) 336 (pc o1 (pc o1 pn)) ?_
 cases h
 exact jn hE 0 Tryz.f129 [] (kp [2]) (kq [16]) 336 pn [16] (pc o1 pn)
theorem VN (N a r) (h:GC N a=some r):Sd 128 [(ba a)] [] 0 (.tup [(aI r.1),(aB r.2)]) []:=by
 unfold GC at h
 refine sO Tryz.f128 36 fun E hE=>?_
 refine aj hE 1 (kp [1]) (kq [0]) 48 ?_
 obtain ⟨bJ,hr,h⟩:=ax h
 obtain ⟨xF,dy,h⟩:=ax h
 refine bc hE 1 [(2,oT (bD bJ)),(3,oT (Ii xF))] (kp [1,4,5]) (kq [0]) 192 (pc o1 (pc (ca _ _ _ hr) (pc (wE _ _ _ dy) pn))) <| aj hE 3 (kp [1,4,13]) (kq [0]) 240 <| cx 0 13 h (fun cP h=>?_) (fun cP h=>?_)
 ·refine aj hE 1 (kp [2,3]) [] 272 ?_
  cases h
  exact fw hE 0 Tryz.f128 (kp [2,3]) [] 272
 ·refine cd hE 1 (kp [1,4,16]) (kq [0]) 352 (pc o1 (pc (fun hg:a.fG=true=>(pc hg pn)) (pc (fun hq:a.fG=true=>(pc hq pn)) pn))) <| cx 0 16 h (fun gX h=>?_) (fun gX h=>?_)
  ·refine aj hE 1 (kp [2,3]) [] 432 ?_
   cases h
   exact fw hE 0 Tryz.f128 (kp [2,3]) [] 432
  ·refine cd hE 1 (kp [4,26]) [] 480 (pc o1 (pc (fun hg:(!a.fG)=true=>(pc hg pn)) (pc (fun hq:(!a.fG)=true=>(pc hq pn)) pn))) <| cx 0 26 h (fun sb h=>?_) (fun sb h=>?_)
   ·refine aj hE 1 (kp [2,3]) [] 544 ?_
    cases h
    exact fw hE 0 Tryz.f128 (kp [2,3]) [] 544
   ·refine aj hE 3 (kp [2,3]) [] 512 ?_
    cases h
    exact fw hE 0 Tryz.f128 (kp [2,3]) [] 512
theorem uH (N x r) (h:vp N x=some r):Sd 89 [(ao x)] [] 0 (aI r) []:=by
 unfold vp at h
 refine sO Tryz.f89 12 fun E hE=>?_
 refine aj hE 1 (kp [1]) (kq [0]) 32 ?_
 obtain ⟨Zg,hr,h⟩:=ax h
 obtain ⟨UB,dy,h⟩:=ax h
 refine bc hE 1 [(1,oT (ba Zg)),(2,oT (.tup [(aI UB.1),(aB UB.2)]))] (kp [3]) [] 160 (pc o1 (pc (QK _ _ _ hr) (pc (VN _ _ _ dy) pn))) <| aj hE 1 (kp [2]) [] 192 ?_
 cases h
 exact fw hE 0 Tryz.f89 (kp [2]) [] 192
theorem DN (N x y r) (h:mn N x y=some r):Sd 94 [(ao x),(ao y)] [] 0 (aI r) []:=by
 unfold mn at h
 refine sO Tryz.f94 9 fun E hE=>?_
 refine aj hE 1 (kp [2,3]) fH 48 ?_
 obtain ⟨eJ,hr,h⟩:=ax h
 obtain ⟨bg,dy,h⟩:=ax h
 refine bc hE 1 [(2,oT (ao eJ)),(3,oT (aI bg))] (kp [4]) [] 128 (pc o1 (pc o1 (pc (NL _ _ _ _ hr) (pc (n9 _ _ _ dy) pn)))) ?_
 obtain rfl:=kR h
 exact fw hE 0 Tryz.f94 (kp [4]) [] 128
noncomputable abbrev alJ:=bt Tryz.f69
def G7 (N:Nat) (p:cQ) (p7:Int) (K:Int->Option (Int×Int)):Prop:=∀ (low:Int) (r:Int×Int),K low=some r->∀ E,aP E 0->ay Tryz.prog E 69 29 (aQ E [] (Ij r)) [.code (alJ 62),.code (alJ 63)] ⟨[(2,(aI p7)),(6,(aI low)),(8,(.fn (.func 114) [] [(.op 0 0 0)]))],[(jQ p)],1⟩
theorem wN (N p p7):G7 N p p7 (p8 N p p7):=by
 intro low r h E hE
 unfold p8 at h
 obtain ⟨o9,vG,h⟩:=ax h
 obtain ⟨CL,x6,h⟩:=ax h
 refine bc hE 0 [(3,⟨[0],true,(abF o9),[(1,aU o9.fN.fL),(2,aU o9.fD.fL)],0,false,none⟩),(4,oT (aI CL))] (kp [6,7]) [] 113 (pc (se _ _ _ _ vG) (pc (uH _ _ _ x6) (pc (z1 o9.fN.fL.length) (pc (z1 o9.fD.fL.length) pn)))) ?_
 cases h
 exact fw hE 0 Tryz.f69 (kp [6,7]) [] 113
theorem Ag (N p least p7 r) (h:rC N p least p7=some r):Sd 69 [(sH p),(aI least),(aI p7)] [] 0 (Ij r) []:=by
 unfold rC at h
 refine sO Tryz.f69 29 fun E hE=>?_
 refine aj hE 1 (kp [1,2,3]) (kq [0]) 48 <| aj hE 1 (kp [1,2,8]) (kq [0]) 80 ?_
 obtain ⟨qW,hr,h⟩:=ax h
 obtain ⟨yN,dy,h⟩:=ax h
 refine bc hE 1 [(2,⟨[0],true,(abF qW),[(1,aU qW.fN.fL),(2,aU qW.fD.fL)],0,false,none⟩),(3,oT (aI yN))] (kp [1,2,6,8]) (kq [0]) 160 (pc (se _ _ _ _ hr) (pc (uH _ _ _ dy) (pc (z1 qW.fN.fL.length) (pc (z1 qW.fD.fL.length) pn)))) ?_
 obtain ⟨bU,ia,h⟩:=ax h
 obtain ⟨pa,kT,h⟩:=ax h
 obtain ⟨pA,oW,h⟩:=ax h
 refine bc hE 2 [(2,⟨[],false,(jr bU),[(0,aU bU.fN.fL),(1,aU bU.fD.fL)],0,false,none⟩),(5,⟨[0],true,(abF pa),[(1,aU pa.fN.fL),(2,aU pa.fD.fL)],0,false,none⟩),(6,oT (aI pA))] (kp [2,6,8,21]) (kq [0]) 288 (pc (show Sd 63 [(agk yN)] [] 0 (jr bU) [(0,aU bU.fN.fL),(1,aU bU.fD.fL)] from (Sound.conv (ki _ _ _ ia) (.cons (Alike.sl rfl (dJ cI 0 ([yN]:List Int))) .nil))) (pc (fL (cU .u16) 0 bU.fN.fL) (pc (fL (cU .u16) 0 bU.fD.fL) (pc (z1 1) (pc (se _ _ _ _ kT) (pc (DN _ _ _ _ oW) (pc (z1 bU.fN.fL.length) (pc (z1 bU.fD.fL.length) (pc (z1 pa.fN.fL.length) (pc (z1 pa.fD.fL.length) pn)))))))))) <| cx 0 21 h (fun cP h=>?_) (fun cP h=>?_)
 ·refine aj hE 0 (kp [2,6,8]) (kq [0]) 336 <| cy hE 1 (kp [2,6,8]) (kq [0]) 1 (wN N _ _ _ _ h E hE)
 ·exact cy hE 2 (kp [2,6,8]) (kq [0]) 1 (wN N _ _ _ _ h E hE)
theorem uI (N p l r) (h:pF N p l=some r):Sd 44 [(sH p),(JR l)] [] 0 (XB r) []:=by
 unfold pF at h
 refine sO Tryz.f44 59 fun E hE=>?_
 refine aj hE 1 kg cC 48 <| cd hE 1 LV cC 192 (pc o1 (pc o1 (pc o1 pn))) <| aj hE 1 (kp [2,3,4,5,6,7,8]) (kq [0,16,32,192]) 208 ?_
 obtain ⟨m8,hr,h⟩:=ax h
 refine bc hE 1 [(5,oT (Ij m8))] (kp [3,4,5,6,7,8]) (kq [16,32,192]) 416 (pc o1 (pc o1 (pc o1 (pc (Ag _ _ _ _ _ hr) (pc o1 (pc o1 pn)))))) ?_
 obtain ⟨bU,dy,h⟩:=ax h
 obtain ⟨db,ia,h⟩:=ax h
 obtain ⟨gN,kT,h⟩:=ax h
 obtain ⟨yN,oW,h⟩:=ax h
 refine bc hE 1 [(8,⟨[],false,(jr bU),[(0,aU bU.fN.fL),(1,aU bU.fD.fL)],0,false,none⟩),(10,⟨[],false,(jr db),[(0,aU db.fN.fL),(1,aU db.fD.fL)],0,false,none⟩),(11,⟨[],false,(jr gN),[(0,aU gN.fN.fL),(1,aU gN.fD.fL)],0,false,none⟩),(12,oT (aI yN))] (kp [3,4,5,6,7,8]) (kq [16,32,192]) 656 (pc o1 (pc (show Sd 63 [(.sl 6 (fun zi=>(fun zi=>([[(aI l.bN)],[(aI p.er)],[(aI p.sD)],[(aI p.oE)],[(aI p.oE)],[(aI p.oE)]]:List (List AV)).getD zi []) (bB 0 zi)))] [] 0 (jr bU) [(0,aU bU.fN.fL),(1,aU bU.fD.fL)] from (Sound.conv (ki _ _ _ dy) (.cons (Alike.sl rfl (dJ cI 0 ([l.bN,p.er,p.sD,p.oE,p.oE,p.oE]:List Int))) .nil))) (pc (fL (cU .u16) 0 bU.fN.fL) (pc (fL (cU .u16) 0 bU.fD.fL) (pc (z1 6) (pc (show Sd 63 [(.sl 2 agy)] [] 0 (jr db) [(0,aU db.fN.fL),(1,aU db.fD.fL)] from (Sound.conv (ki _ _ _ ia) (.cons (Alike.sl rfl (dJ cI 0 ([12000000000,1000]:List Int))) .nil))) (pc (fL (cU .u16) 0 db.fN.fL) (pc (fL (cU .u16) 0 db.fD.fL) (pc (z1 2) (pc (uG _ _ _ _ kT) (pc (fL (cU .u16) 0 gN.fN.fL) (pc (fL (cU .u16) 0 gN.fD.fL) (pc (z1 bU.fN.fL.length) (pc (z1 bU.fD.fL.length) (pc (z1 db.fN.fL.length) (pc (z1 db.fD.fL.length) (pc (uH _ _ _ oW) (pc (z1 gN.fN.fL.length) (pc (z1 gN.fD.fL.length) (pc o1 pn)))))))))))))))))))) ?_
 obtain ⟨iv,vG,h⟩:=ax h
 obtain ⟨iw,x6,h⟩:=ax h
 obtain ⟨n8,IS,h⟩:=ax h
 obtain ⟨CL,IQ,h⟩:=ax h
 refine bc hE 1 [(8,⟨[],false,(jr iv),[(0,aU iv.fN.fL),(1,aU iv.fD.fL)],0,false,none⟩),(10,⟨[],false,(jr iw),[(0,aU iw.fN.fL),(1,aU iw.fD.fL)],0,false,none⟩),(11,⟨[],false,(jr n8),[(0,aU n8.fN.fL),(1,aU n8.fD.fL)],0,false,none⟩),(12,oT (aI CL))] (kp [3,4,8]) (kq [16,32,192]) 896 (pc o1 (pc (show Sd 63 [(.sl 6 (fun zi=>(fun zi=>([[(aI l.bq)],[(aI p.er)],[(aI p.oE)],[(aI p.sD)],[(aI p.sD)],[(aI p.sD)]]:List (List AV)).getD zi []) (bB 0 zi)))] [] 0 (jr iv) [(0,aU iv.fN.fL),(1,aU iv.fD.fL)] from (Sound.conv (ki _ _ _ vG) (.cons (Alike.sl rfl (dJ cI 0 ([l.bq,p.er,p.oE,p.sD,p.sD,p.sD]:List Int))) .nil))) (pc (fL (cU .u16) 0 iv.fN.fL) (pc (fL (cU .u16) 0 iv.fD.fL) (pc (z1 6) (pc (show Sd 63 [(.sl 2 agy)] [] 0 (jr iw) [(0,aU iw.fN.fL),(1,aU iw.fD.fL)] from (Sound.conv (ki _ _ _ x6) (.cons (Alike.sl rfl (dJ cI 0 ([12000000000,1000]:List Int))) .nil))) (pc (fL (cU .u16) 0 iw.fN.fL) (pc (fL (cU .u16) 0 iw.fD.fL) (pc (z1 2) (pc (uG _ _ _ _ IS) (pc (fL (cU .u16) 0 n8.fN.fL) (pc (fL (cU .u16) 0 n8.fD.fL) (pc (z1 iv.fN.fL.length) (pc (z1 iv.fD.fL.length) (pc (z1 iw.fN.fL.length) (pc (z1 iw.fD.fL.length) (pc (uH _ _ _ IQ) (pc (z1 n8.fN.fL.length) (pc (z1 n8.fD.fL.length) (pc o1 pn)))))))))))))))))))) <| cd hE 1 (kp [4,8]) (kq [32,192]) 976 (pc o1 (pc o1 pn)) <| cd hE 1 (kp [4]) (kq [32]) 1008 (pc o1 (pc o1 pn)) ?_
 cases h
 exact jn hE 0 Tryz.f44 [] (kp [4]) [(16,.af 32)] 1008 pn [16] (pc o1 pn)
theorem Se (N p l a r) (h:wv N p l a=some r):Sd 24 [(sH p),(JR l),(.agg (ox.cells a))] [] 0 (.tup [(.agg (cg.cells r.1)),(aI r.2)]) []:=by
 unfold wv at h
 refine sO Tryz.f24 65 fun E hE=>?_
 refine aj hE 1 LW pN 80 ?_
 obtain ⟨vS,hr,h⟩:=ax h
 refine bc hE 2 [(1,oT (aI vS))] (kp [3,4,5,6,8]) pN 128 (pc o1 (pc (sd _ _ _ hr) pn)) <| aj hE 1 (kp [3,4,5,6,8,16]) pN 160 <| cx 0 16 h (fun cP h=>?_) (fun cP h=>?_)
 ·refine cd hE 1 (kp [6,7]) (kq [48]) 224 (pc o1 pn) ?_
  cases h
  exact jn hE 0 Tryz.f24 [] (kp [6,7]) [(16,.var 48 [.af,.af,.af,rM fy.cells fy.d ([]:List fy),rM cL.cells cL.d ([]:List cL),.af,.af,.af,.af,.af,.af,.af,.af,.af,.af,.af,.af,.af])] 224 (pc (Eq.refl 0) (pc (Eq.refl 0) pn)) [16] (pc o1 pn)
 ·obtain ⟨gu,dy,h⟩:=ax h
  refine bc hE 3 [(1,oT (aI gu))] (kp [3,4,5,6,9]) pN 208 (pc o1 (pc (tw _ _ _ dy) pn)) <| aj hE 1 (kp [3,4,5,6,9,22]) pN 240 <| cx 0 22 h (fun gX h=>?_) (fun gX h=>?_)
  ·refine cd hE 1 (kp [6,7]) (kq [48]) 304 (pc o1 pn) ?_
   cases h
   exact jn hE 0 Tryz.f24 [] (kp [6,7]) [(16,.var 48 [.af,.af,.af,rM fy.cells fy.d ([]:List fy),rM cL.cells cL.d ([]:List cL),.af,.af,.af,.af,.af,.af,.af,.af,.af,.af,.af,.af,.af])] 304 (pc (Eq.refl 0) (pc (Eq.refl 0) pn)) [16] (pc o1 pn)
  ·obtain ⟨kM,ia,h⟩:=ax h
   refine bc hE 2 [(3,oT (UQ kM))] (kp [3,4,5,6,10,11]) Z7 400 (pc o1 (pc o1 (pc (Ad _ _ _ _ ia) (pc o1 pn)))) <| aj hE 2 (kp [3,4,5,6,10,11,33]) Z7 432 <| cx 0 33 h (fun sb h=>?_) (fun sb h=>?_)
   ·refine cd hE 1 (kp [6,7]) (kq [48]) 496 (pc o1 pn) ?_
    cases h
    exact jn hE 0 Tryz.f24 [] (kp [6,7]) [(16,.var 48 [.af,.af,.af,rM fy.cells fy.d ([]:List fy),rM cL.cells cL.d ([]:List cL),.af,.af,.af,.af,.af,.af,.af,.af,.af,.af,.af,.af,.af])] 496 (pc (Eq.refl 0) (pc (Eq.refl 0) pn)) [16] (pc o1 pn)
   ·obtain ⟨m7,kT,h⟩:=ax h
    obtain ⟨j4,oW,h⟩:=ax h
    refine bc hE 3 [(2,oT (aB m7)),(7,oT (aB j4))] (kp [3,4,5,6,10,45]) Z7 592 (pc o1 (pc (bh _ _ _ _ _ kT) (pc (fun hg:(!(!m7))=true=>(pc hg (pc o1 pn))) (pc (fun hg:(!(!m7))=true=>(pc (bh _ _ _ _ _ (aR oW hg)) (pc hg pn))) (pc (fun hg:(!(!m7))=true=>(pc hg pn)) (pc (fun hq:(!(!m7))=true=>(pc hq pn)) pn)))))) <| cx 0 45 h (fun Ft h=>?_) (fun Ft h=>?_)
    ·refine cd hE 1 (kp [6,7]) (kq [48]) 640 (pc o1 pn) ?_
     cases h
     exact jn hE 0 Tryz.f24 [] (kp [6,7]) [(16,.var 48 [.af,.af,.af,rM fy.cells fy.d ([]:List fy),rM cL.cells cL.d ([]:List cL),.af,.af,.af,.af,.af,.af,.af,.af,.af,.af,.af,.af,.af])] 640 (pc (Eq.refl 0) (pc (Eq.refl 0) pn)) [16] (pc o1 pn)
    ·obtain ⟨fU,vG,h⟩:=ax h
     refine bc hE 2 [(3,oT (XB fU))] (kp [3,5,6,12]) (kq [0,32,48,688]) 720 (pc o1 (pc o1 (pc o1 (pc (uI _ _ _ _ vG) (pc o1 (pc o1 pn)))))) ?_
     obtain ⟨m8,x6,h⟩:=ax h
     refine bc hE 1 [(5,oT (Ij m8))] (kp [6,12]) (kq [48,688]) 928 (pc o1 (pc o1 (pc o1 (pc (Ag _ _ _ _ _ x6) (pc o1 (pc o1 pn)))))) <| cd hE 1 (kp [6,7]) (kq [48]) 976 (pc o1 (pc o1 pn)) ?_
     cases h
     exact jn hE 0 Tryz.f24 [] (kp [6,7]) [(16,.af 48)] 976 pn [16] (pc o1 pn)
noncomputable abbrev ag4:=bt Tryz.f25
def Sf (N:Nat) (p:cQ) (K:Int->Int->Option (Int)):Prop:=∀ (n:Int) (x:Int) (r:Int),K n x=some r->∀ E,aP E 0->ay Tryz.prog E 25 20 (aQ E [] (aI r)) [.code (ag4 116),.inLoop (ag4 116),.inBlock 0,.code (ag4 15)] ⟨[(3,(aI n)),(7,(ZS p)),(8,(UZ p)),(9,(aI x))],[],0⟩
theorem QL (N p fuel):Sf N p (nM N p fuel):=by
 induction fuel with
 | zero=>intro _ _ r h;rw [nM.eq_1] at h;cases h
 | succ fuel ih =>
  intro n x r h E hE
  rw [nM.eq_2] at h
  refine aj hE 1 (kp [3,7,8,9,10]) [] 16 <| cx 1 10 h (fun cP h=>?_) (fun cP h=>?_)
  ·obtain ⟨c,h⟩:=ae h
   refine cd hE 4 (kp [3,5,7,8,9]) (kq [48]) 80 (pc c (pc o1 pn)) <| cd hE 0 Qn [] 176 (pc o1 pn) <| aj hE 1 Qn [] 208 <| cy hE 1 Qn [] 0 (ih _ _ _ h E hE)
  ·refine aj hE 2 (kp [2]) [] 48 ?_
   obtain rfl:=kR h
   exact fw hE 0 Tryz.f25 (kp [2]) [] 48
theorem M3 (N p r) (h:BJ N p=some r):Sd 25 [(sH p)] [] 0 (aI r) []:=by
 unfold BJ at h
 refine sO Tryz.f25 20 fun E hE=>?_
 refine aj hE 1 (kp [1]) (kq [0]) 32 <| aj hE 1 (kp [1,3]) (kq [0]) 48 <| cd hE 2 Qn [] 112 (pc o1 pn) <| cy hE 2 Qn [] 0 (QL N _ N _ _ _ h E hE)
noncomputable abbrev FI:=bt Tryz.f45
def FJ (N:Nat) (b:da) (p:cQ) (gB:eH) (K:Int->Option (Int)):Prop:=∀ (out:Int) (r:Int),K out=some r->∀ E,aP E 0->ay Tryz.prog E 45 59 (aQ E [] (aI r)) [.code (FI 124),.code (FI 125),.code (FI 63)] ⟨[(3,(.op 0 0 0)),(4,(.op 1 0 0)),(7,(.op 2 0 0)),(8,(aI out))],[(0,vO 5 (da.cells b)),(1,vO 5 (cQ.cells p)),(2,vO 4 (CV gB))],3⟩
def FK (N:Nat) (b:da) (p:cQ) (gB:eH) (K:Int->Option (Int)):Prop:=∀ (eY:Int) (r:Int),K eY=some r->∀ E,aP E 0->ay Tryz.prog E 45 59 (aQ E [] (aI r)) [.code (FI 252),.code (FI 253),.code (FI 127)] ⟨[(3,(.op 0 0 0)),(4,(.op 1 0 0)),(7,(.op 2 0 0)),(8,(aI eY))],[(0,vO 5 (da.cells b)),(1,vO 5 (cQ.cells p)),(2,vO 4 (CV gB))],3⟩
def FL (N:Nat) (b:da) (p:cQ) (gB:eH) (K:Int->Option (Int)):Prop:=∀ (Ld:Int) (r:Int),K Ld=some r->∀ E,aP E 0->ay Tryz.prog E 45 59 (aQ E [] (aI r)) [.code (FI 508),.code (FI 509),.code (FI 255)] ⟨[(3,(.op 0 0 0)),(4,(.op 1 0 0)),(7,(.op 2 0 0)),(8,(aI Ld))],[(0,vO 5 (da.cells b)),(1,vO 5 (cQ.cells p)),(2,vO 4 (CV gB))],3⟩
def FM (N:Nat) (K:Int->Option (Int)):Prop:=∀ (JN:Int) (r:Int),K JN=some r->∀ E,aP E 0->ay Tryz.prog E 45 59 (aQ E [] (aI r)) [.code (FI 510),.code (FI 511)] ⟨[(8,(aI JN))],[],0⟩
theorem u6 (N):FM N (mz N):=by
 intro JN r h E hE
 unfold mz at h
 refine aj hE 0 (kp [6]) [] 32 ?_
 obtain rfl:=kR h
 exact fw hE 0 Tryz.f45 (kp [6]) [] 48
theorem u7 (N b p gB):FL N b p gB (mA N b p gB):=by
 intro Ld r h E hE
 unfold mA at h
 obtain ⟨G2,oW,h⟩:=ax h
 refine bc hE 0 [(14,oT (aB G2))] (kp [8,55]) [] 243 (pc o1 (pc o1 (pc o1 (pc o1 (pc o1 (pc (bh _ _ _ _ _ oW) pn)))))) <| cx 0 55 h (fun Ft h=>?_) (fun Ft h=>?_)
 ·refine aj hE 0 (kp [8]) [] 291 <| cy hE 1 (kp [8]) [] 0 (u6 N _ _ h E hE)
 ·exact cy hE 2 (kp [8]) [] 0 (u6 N _ _ h E hE)
theorem u9 (N b p gB):FK N b p gB (mB N b p gB):=by
 intro eY r h E hE
 unfold mB at h
 obtain ⟨w8,kT,h⟩:=ax h
 refine bc hE 0 [(7,oT (aB w8))] (kp [3,4,7,8,38]) cH 131 (pc o1 (pc o1 (pc o1 (pc (bh _ _ _ _ _ kT) pn)))) <| cx 0 38 h (fun sb h=>?_) (fun sb h=>?_)
 ·refine aj hE 0 AR cH 179 <| cy hE 2 AR cH 3 (u7 N _ _ _ _ _ h E hE)
 ·exact cy hE 3 AR cH 3 (u7 N _ _ _ _ _ h E hE)
theorem vb (N b p gB):FJ N b p gB (mD N b p gB):=by
 intro out r h E hE
 unfold mD at h
 obtain ⟨j4,ia,h⟩:=ax h
 refine bc hE 0 [(7,oT (aB j4))] (kp [3,4,7,8,28]) cH 131 (pc o1 (pc o1 (pc o1 (pc (bh _ _ _ _ _ ia) pn)))) <| cx 0 28 h (fun gX h=>?_) (fun gX h=>?_)
 ·refine aj hE 0 AR cH 179 <| cy hE 2 AR cH 3 (u9 N _ _ _ _ _ h E hE)
 ·exact cy hE 3 AR cH 3 (u9 N _ _ _ _ _ h E hE)
theorem tx (N b p s r) (h:lj N b p s=some r):Sd 45 [(XB b),(sH p),(M1 s)] [] 0 (aI r) []:=by
 unfold lj at h
 refine sO Tryz.f45 59 fun E hE=>?_
 refine aj hE 1 (kp [3,4,5]) cC 64 ?_
 obtain ⟨gB,hr,h⟩:=ax h
 refine bc hE 1 [(2,oT (XC gB))] (kp [3,4,7]) VA 144 (pc o1 (pc o1 (pc (J1 _ _ _ _ hr) (pc o1 pn)))) <| aj hE 1 AR VA 160 ?_
 obtain ⟨m7,dy,h⟩:=ax h
 refine bc hE 2 [(6,oT (aB m7))] (kp [3,4,7,8,18]) VA 272 (pc o1 (pc o1 (pc o1 (pc (bh _ _ _ _ _ dy) pn)))) <| cx 0 18 h (fun cP h=>?_) (fun cP h=>?_)
 ·refine aj hE 0 AR VA 320 <| cy hE 2 AR agU 3 (vb N _ _ _ _ _ h E hE)
 ·exact cy hE 3 AR agU 3 (vb N _ _ _ _ _ h E hE)
theorem Ah (N t s r) (h:kN N t s=some r):Sd 26 [(.agg (cg.cells t)),(M1 s)] [] 0 (aB r) []:=by
 unfold kN at h
 refine sO Tryz.f26 12 fun E hE=>?_
 refine aj hE 1 (kp [2,3]) fH 48 ?_
 obtain ⟨ot,hr,h⟩:=ax h
 refine bc hE 1 [(5,oT (aI ot))] (kp [4]) [] 176 (pc o1 (pc o1 (pc o1 (pc (tx _ _ _ _ _ hr) pn)))) ?_
 cases h
 exact fw hE 0 Tryz.f26 (kp [4]) [] 176
theorem Mb (N t s r) (h:vU N t s=some r):Sd 27 [(.agg (cg.cells t)),(M1 s)] [] 0 (aB r) []:=by
 unfold vU at h
 refine sO Tryz.f27 15 fun E hE=>?_
 refine aj hE 1 (kp [2,3]) fH 48 ?_
 obtain ⟨gB,hr,h⟩:=ax h
 obtain ⟨m7,dy,h⟩:=ax h
 refine bc hE 1 [(3,oT (XC gB)),(9,oT (aB m7))] (kp [4]) [] 224 (pc o1 (pc o1 (pc (J1 _ _ _ _ hr) (pc o1 (pc o1 (pc (bh _ _ _ _ _ dy) pn)))))) ?_
 obtain rfl:=kR h
 exact fw hE 0 Tryz.f27 (kp [4]) [] 224
noncomputable abbrev alK:=bt Tryz.f70
def qF (N:Nat) (K:AN->Int->Int->Option (AN)):Prop:=∀ (bC:List av) (i:Int) (j:Int) (r:AN),K bC i j=some r->∀ E,aP E 1->ay Tryz.prog E 70 28 (aQ E [(0,aO 2 av.cells av.d r)] (.tup [])) [.code (alK 12),.inLoop (alK 12),.inBlock 0] ⟨[(0,(.os 0 0 bC.length)),(2,(aI i)),(3,(aI j))],[(0,aO 2 av.cells av.d bC)],1⟩
theorem qy (N fuel):qF N (bV N fuel):=by
 induction fuel with
 | zero=>intro _ _ _ r h;rw [bV.eq_1] at h;cases h
 | succ fuel ih =>
  intro bC i j r h E hE
  rw [bV.eq_2] at h
  refine aj hE 2 (kp [0,2,3,9]) (kq [0]) 49 <| cx 0 9 h (fun cP h=>?_) (fun cP h=>?_)
  ·obtain ⟨c,h⟩:=ae h
   obtain ⟨c2,h⟩:=ae h
   refine cd hE 3 ([(0,.lx ((abu bC i j).length))] ++ kp [2,3]) [(0,pY 0 av.cells av.d (abu bC i j))] 305 (pc c (pc (dV c) (pc c2 (pc (dV c2) (pc c2 (pc (dV c2) (pc c (pc (dV c) (pc (show bC.length=(abu bC i j).length from (kH (kH rfl))) (pc (show bC.length=(abu bC i j).length from (kH (kH rfl))) (pc (EG av.cells av.d (bC.set ((i).toNat) (bC.getD ((j).toNat) av.d)) ((j).toNat) (bC.getD ((i).toNat) av.d) (cF av.cells av.d bC ((i).toNat) (bC.getD ((j).toNat) av.d))) pn))))))))))) <| aj hE 1 Fj (kq [0]) 401 <| cy hE 1 Fj (kq [0]) 1 (ih _ _ _ _ h E hE)
  ·obtain rfl:=kR h
   exact rnF hE 1 Tryz.f70 [] [] (kq [0]) 49 pn [] pn
theorem rG (N C0 r) (h:dZ N C0=some r):Sd 70 [(.os 0 0 C0.length)] [(0,aO 2 av.cells av.d C0)] 1 (.tup []) [(0,aO 2 av.cells av.d r)]:=by
 unfold dZ at h
 refine sO Tryz.f70 28 fun E hE=>?_
 refine aj hE 1 Fj (kq [0]) 81 <| cy hE 2 Fj (kq [0]) 1 (qy N N _ _ _ _ h E hE)
noncomputable abbrev ag5:=bt Tryz.f28
def G8 (N:Nat) (t:cg) (C0:List Fe) (K:ab->AN->Option (AN)):Prop:=∀ (s2:ab) (out:List av) (r:AN),K s2 out=some r->∀ E,aP E 1->ay Tryz.prog E 28 26 (aQ E [(0,⟨false,0,0,true,fun _=>vj (fun x=>.agg (ab.cells x)) (fun x=>.agg (ar.cells x)) C0⟩),(1,aO 2 av.cells av.d r)] (.os 1 0 r.length)) [.code (ag5 56),.inLoop (ag5 56),.inBlock 0,.code (ag5 15)] ⟨[(1,(.mp 0)),(3,(.op 1 0 0)),(5,(.op 2 0 0)),(7,(.os 3 0 out.length))],[(0,⟨false,0,0,true,fun _=>vj (fun x=>.agg (ab.cells x)) (fun x=>.agg (ar.cells x)) C0⟩),(1,vO 18 (cg.cells t)),(2,vO 6 (Ix s2)),(3,aO 2 av.cells av.d out)],4⟩
theorem FN (N t C0 fuel):G8 N t C0 (ll N t C0 fuel):=by
 induction fuel with
 | zero=>intro _ _ r h;rw [ll.eq_1] at h;cases h
 | succ fuel ih =>
  intro s2 out r h E hE
  rw [ll.eq_2] at h
  refine cd hE 2 (kp [1,3,5,7,12]) sa 68 (pc o1 (pc o1 pn)) <| cx 0 12 h (fun cP h=>?_) (fun cP h=>?_)
  ·refine bc hE 3 [(2,oT (.agg (ar.cells ((ld (fun (za zb:ab)=>((zb.e0 == za.e0) && ((zb.e1 == za.e1) && ((zb.e2 == za.e2) && ((zb.e3 == za.e3) && ((zb.e4 == za.e4) && ((zb.e5 == za.e5) && true))))))) C0 s2).getD ar.d))))] (kp [1,3,5,7,8]) (kq [0,1,2,3,116]) 148 (pc o1 (pc (show (Go.Ab.look Tryz.prog 74 (ZT C0) (M1 s2)).map (fun zr=>zr.getD ag0)=some (.agg (ar.cells ((ld (fun (za zb:ab)=>((zb.e0 == za.e0) && ((zb.e1 == za.e1) && ((zb.e2 == za.e2) && ((zb.e3 == za.e3) && ((zb.e4 == za.e4) && ((zb.e5 == za.e5) && true))))))) C0 s2).getD ar.d))) from (Xh (fun x=>.agg (ab.cells x)) (fun x=>.agg (ar.cells x)) (d:=ar.d) (fun _ _=>rfl) rfl _ s2)) (pc o1 pn))) ?_
   obtain ⟨c,h⟩:=ae h
   refine cd hE 1 (kp [1,3,5] ++ [(7,.lx ((out ++ ([(((ld (fun (za zb:ab)=>((zb.e0 == za.e0) && ((zb.e1 == za.e1) && ((zb.e2 == za.e2) && ((zb.e3 == za.e3) && ((zb.e4 == za.e4) && ((zb.e5 == za.e5) && true))))))) C0 s2).getD ar.d).yF)]:List av)).length))] ++ kp [8]) (kq [0,1,2,116] ++ [(212,pY 212 av.cells av.d (out ++ ([(((ld (fun (za zb:ab)=>((zb.e0 == za.e0) && ((zb.e1 == za.e1) && ((zb.e2 == za.e2) && ((zb.e3 == za.e3) && ((zb.e4 == za.e4) && ((zb.e5 == za.e5) && true))))))) C0 s2).getD ar.d).yF)]:List av)))]) 244 (pc o1 (pc (Eq.refl out.length) (pc c (pc (z1 1) (pc (oN [[(aI ((((ld (fun (za zb:ab)=>((zb.e0 == za.e0) && ((zb.e1 == za.e1) && ((zb.e2 == za.e2) && ((zb.e3 == za.e3) && ((zb.e4 == za.e4) && ((zb.e5 == za.e5) && true))))))) C0 s2).getD ar.d).yF).dj)),(aB ((((ld (fun (za zb:ab)=>((zb.e0 == za.e0) && ((zb.e1 == za.e1) && ((zb.e2 == za.e2) && ((zb.e3 == za.e3) && ((zb.e4 == za.e4) && ((zb.e5 == za.e5) && true))))))) C0 s2).getD ar.d).yF).Za))]]) (pc (bT out ([(((ld (fun (za zb:ab)=>((zb.e0 == za.e0) && ((zb.e1 == za.e1) && ((zb.e2 == za.e2) && ((zb.e3 == za.e3) && ((zb.e4 == za.e4) && ((zb.e5 == za.e5) && true))))))) C0 s2).getD ar.d).yF)]:List av)) (pc (bT out ([(((ld (fun (za zb:ab)=>((zb.e0 == za.e0) && ((zb.e1 == za.e1) && ((zb.e2 == za.e2) && ((zb.e3 == za.e3) && ((zb.e4 == za.e4) && ((zb.e5 == za.e5) && true))))))) C0 s2).getD ar.d).yF)]:List av)) (pc (Ta av.cells av.d out ([(((ld (fun (za zb:ab)=>((zb.e0 == za.e0) && ((zb.e1 == za.e1) && ((zb.e2 == za.e2) && ((zb.e3 == za.e3) && ((zb.e4 == za.e4) && ((zb.e5 == za.e5) && true))))))) C0 s2).getD ar.d).yF)]:List av)) pn)))))))) <| cd hE 0 (kp [1,3,5,7]) (kq [0,1,2,212]) 292 (pc o1 (pc o1 pn)) <| cy hE 2 (kp [1,3,5,7]) (kq [0,1,2] ++ [(3,.af 212)]) 4 (ih _ _ _ h E hE)
  ·obtain ⟨Th,hr,h⟩:=ax h
   obtain ⟨c2,h⟩:=ae h
   refine bc hE 2 [(1,⟨[3],false,(.tup []),[(0,aO 2 av.cells av.d Th)],0,false,none⟩)] [(7,.lx (Th.length))] (kq [0,3]) 100 (pc (rG _ _ _ hr) (pc (show out.length=Th.length from (Eq.symm c2)) pn)) <| aj hE 1 (kp [6]) (kq [0,3]) 132 ?_
   obtain rfl:=kR h
   exact fw hE 0 Tryz.f28 (kp [6]) (kq [0] ++ [(1,.af 3)]) 132
theorem J9 (N t s C0 r) (h:rD N t s C0=some r):Sd 28 [(.agg (cg.cells t)),(.mp 0),(M1 s)] [(0,⟨false,0,0,true,fun _=>vj (fun x=>.agg (ab.cells x)) (fun x=>.agg (ar.cells x)) C0⟩)] 1 (.os 1 0 r.length) [(0,⟨false,0,0,true,fun _=>vj (fun x=>.agg (ab.cells x)) (fun x=>.agg (ar.cells x)) C0⟩),(1,aO 2 av.cells av.d r)]:=by
 unfold rD at h
 refine sO Tryz.f28 26 fun E hE=>?_
 refine aj hE 1 (kp [1,3,5]) (kq [0,1,17]) 49 <| aj hE 1 (kp [1,3,5,7]) (kq [0,1,17]) 65 <| cy hE 3 (kp [1,3,5] ++ [(7,.sC 3)]) (kq [0,1] ++ [(2,.af 17),(3,.nil 2 (fun zi=>av.cells (([]:List av).getD zi av.d)))]) 4 (FN N _ _ N _ _ _ h E hE)
noncomputable abbrev alM:=bt Tryz.f29
def G9 (N:Nat) (t:cg) (m:av) (K:ab->Option (ab×Bool)):Prop:=∀ (s2:ab) (r:ab×Bool),K s2=some r->∀ E,aP E 0->ay Tryz.prog E 29 46 (aQ E [] (Lx r)) [.code (alM 30),.code (alM 31)] ⟨[(3,(.op 0 0 0)),(4,(.op 1 0 0)),(5,(.op 2 0 0)),(6,(.op 3 0 0))],[(0,vO 18 (cg.cells t)),(1,vO 6 (Ix s2)),(2,vO 2 (av.cells m)),(3,vO 6 [(aI 0),(aI 0),(aI 0),(aI 0),(aI 0),(aI 0)])],4⟩
theorem wO (N t m):G9 N t m (k8 N t m):=by
 intro s2 r h E hE
 unfold k8 at h
 obtain ⟨c2,h⟩:=ae h
 obtain ⟨c3,h⟩:=ae h
 obtain ⟨j4,dy,h⟩:=ax h
 refine bc hE 0 [(13,oT (aB j4))] (kp [6,7]) (kq [3]) 260 (pc o1 (pc o1 (pc c2 (pc o1 (pc o1 (pc o1 (pc c3 (pc (bh _ _ _ _ _ dy) (pc o1 pn))))))))) ?_
 cases h
 exact jn hE 0 Tryz.f29 [] (kp [6,7]) [(16,.af 3)] 260 pn [16] (pc o1 pn)
theorem Ka (N t s m r) (h:qX N t s m=some r):Sd 29 [(.agg (cg.cells t)),(M1 s),(.agg (av.cells m))] [] 0 (Lx r) []:=by
 unfold qX at h
 refine sO Tryz.f29 46 fun E hE=>?_
 refine aj hE 1 LW pN 80 ?_
 obtain ⟨m7,hr,h⟩:=ax h
 refine bc hE 2 [(7,oT (aB m7))] (kp [3,4,5,6,16]) pN 224 (pc o1 (pc o1 (pc (bh _ _ _ _ _ hr) pn))) <| cx 0 16 h (fun cP h=>?_) (fun cP h=>?_)
 ·refine cd hE 1 (kp [6,7]) (kq [48]) 272 (pc o1 (pc o1 pn)) ?_
  cases h
  exact jn hE 0 Tryz.f29 [] (kp [6,7]) [(16,.af 48)] 272 pn [16] (pc o1 pn)
 ·refine cd hE 3 (kp [3,4,5,6,19]) pN 256 (pc o1 pn) <| cx 0 19 h (fun gX h=>?_) (fun gX h=>?_)
  ·obtain ⟨c,h⟩:=ae h
   refine cd hE 0 LW pN 368 (pc o1 (pc c (pc o1 (pc c (pc o1 pn))))) <| cy hE 1 LW Qq 4 (wO N _ _ _ _ h E hE)
  ·obtain ⟨c4,h⟩:=ae h
   refine cd hE 0 LW pN 368 (pc o1 (pc c4 (pc o1 (pc c4 (pc o1 pn))))) <| cy hE 1 LW Qq 4 (wO N _ _ _ _ h E hE)
noncomputable abbrev uc:=bt Tryz.f7
def pP (N:Nat) (p:cQ) (ef:cg×Int) (K:AM->AO->Nat->Nat->Option HA):Prop:=∀ (GD:List Fe) (todo:List ab) (fO:Nat) (MW:Nat) (r:AN×Int),K GD todo fO MW=some r->∀ E,aP E 0->ay Tryz.prog E 7 111 (aQ E [] (Ly r)) [.code (uc 2036),.inLoop (uc 2036),.inBlock 0,.code (uc 255)] ⟨[(3,(.op 0 0 0)),(8,(.op 1 0 0)),(10,(.mp 2)),(11,(.os 3 fO MW))],[(jQ p),(UT ef),(2,⟨false,0,0,true,fun _=>vj (fun x=>.agg (ab.cells x)) (fun x=>.agg (ar.cells x)) GD⟩),(UX todo)],4⟩
def tz (N:Nat) (p:cQ) (ef:cg×Int) (todo:List ab) (fO:Nat) (K:AM->AO->Nat->Nat->Int->Option HA):Prop:=∀ (BK:List Fe) (Ti:List ab) (Lg:Nat) (CM:Nat) (x:Int) (r:AN×Int),K BK Ti Lg CM x=some r->∀ E,aP E 0->ay Tryz.prog E 7 111 (aQ E [] (Ly r)) [.code (uc 521372),.inLoop (uc 521372),.inBlock 2,.inBlock 1,.code (uc 8147),.inLoop (uc 2036),.inBlock 0,.code (uc 255)] ⟨[(3,(.op 0 0 0)),(8,(.op 1 0 0)),(10,(.mp 2)),(11,(.os 3 Lg CM)),(12,(.op 4 0 0)),(ZD p),(65,(aI x))],[(jQ p),(UT ef),(2,⟨false,0,0,true,fun _=>vj (fun x=>.agg (ab.cells x)) (fun x=>.agg (ar.cells x)) BK⟩),(UX Ti),(ZC todo fO)],5⟩
def zf (N:Nat) (p:cQ) (ef:cg×Int) (todo:List ab) (fO:Nat) (x:Int) (K:AM->AO->Nat->Nat->Int->Option HA):Prop:=∀ (gV:List Fe) (mQ:List ab) (jB:Nat) (ln:Nat) (x2:Int) (r:AN×Int),K gV mQ jB ln x2=some r->∀ E,aP E 0->ay Tryz.prog E 7 111 (aQ E [] (Ly r)) [.code (uc 133471436),.inLoop (uc 133471436),.inBlock 4,.inBlock 3,.code (uc 4170983),.inLoop (uc 521372),.inBlock 2,.inBlock 1,.code (uc 8147),.inLoop (uc 2036),.inBlock 0,.code (uc 255)] ⟨[(3,(.op 0 0 0)),(8,(.op 1 0 0)),(10,(.mp 2)),(11,(.os 3 jB ln)),(12,(.op 4 0 0)),(13,(aI x)),(ZD p),(65,(aI x)),(68,(.os 5 0 (([true,false]:List Bool).length))),(69,(aI ((2:Nat):Int))),(70,(aI x2))],[(jQ p),(UT ef),(2,⟨false,0,0,true,fun _=>vj (fun x=>.agg (ab.cells x)) (fun x=>.agg (ar.cells x)) gV⟩),(UX mQ),(ZC todo fO),(5,aO 1 cB false ([true,false]:List Bool))],6⟩
def I1 (N:Nat) (p:cQ) (ef:cg×Int) (todo:List ab) (fO:Nat) (x:Int) (x2:Int) (K:AM->AO->Nat->Nat->Option HA):Prop:=∀ (ET:List Fe) (Xn:List ab) (Py:Nat) (Pz:Nat) (r:AN×Int),K ET Xn Py Pz=some r->∀ E,aP E 0->ay Tryz.prog E 7 111 (aQ E [] (Ly r)) [.code (uc 1067771495),.inLoop (uc 133471436),.inBlock 4,.inBlock 3,.code (uc 4170983),.inLoop (uc 521372),.inBlock 2,.inBlock 1,.code (uc 8147),.inLoop (uc 2036),.inBlock 0,.code (uc 255)] ⟨[(3,(.op 0 0 0)),(8,(.op 1 0 0)),(10,(.mp 2)),(11,(.os 3 Py Pz)),(12,(.op 4 0 0)),(13,(aI x)),(ZD p),(65,(aI x)),(68,(.os 5 0 (([true,false]:List Bool).length))),(69,(aI ((2:Nat):Int))),(70,(aI x2))],[(jQ p),(UT ef),(2,⟨false,0,0,true,fun _=>vj (fun x=>.agg (ab.cells x)) (fun x=>.agg (ar.cells x)) ET⟩),(UX Xn),(ZC todo fO),(5,aO 1 cB false ([true,false]:List Bool))],6⟩
theorem sf (N:Nat) (p:cQ) (ef:cg×Int) (todo:List ab) (fO:Nat) (x:Int) (x2:Int) (pG:AM->AO->Nat->Nat->Int->Option HA) (cN:AM->AO->Nat->Nat->Int->Option HA) (bk:AM->AO->Nat->Nat->Option HA) (Ha:zf N p ef todo fO x pG) (lB:tz N p ef todo fO cN) (ic:pP N p ef bk):I1 N p ef todo fO x x2 (mE N p ef todo fO x x2 pG cN bk):=by
 intro ET Xn Py Pz r h E hE
 unfold mE at h
 refine aj hE 0 IM cY 38 <| cy hE 1 IM cY 6 (Ha _ _ _ _ _ _ h E hE)
theorem Hb (N:Nat) (p:cQ) (ef:cg×Int) (todo:List ab) (fO:Nat) (x:Int) (cN:AM->AO->Nat->Nat->Int->Option HA) (bk:AM->AO->Nat->Nat->Option HA) (lB:tz N p ef todo fO cN) (ic:pP N p ef bk) (fuel:Nat):zf N p ef todo fO x (dH N p ef todo fO x cN bk fuel):=by
 induction fuel with
 | zero=>intro _ _ _ _ _ r h;rw [dH.eq_1] at h;cases h
 | succ fuel ih =>
  intro gV mQ jB ln x2 r h E hE
  rw [dH.eq_2] at h
  refine aj hE 1 (kp [3,8,10,11,12,13,64,65,68,69,70,71]) cY 22 <| cx 1 71 h (fun hq8 h=>?_) (fun hq8 h=>?_)
  ·obtain ⟨c3,h⟩:=ae h
   refine cd hE 4 (kp [3,8,10,11,12,13,15,64,65,68,69,70]) cY 70 (pc c3 (pc (dV c3) pn)) <| cd hE 1 (kp [3,8,10,11,12,13,16,64,65,68,69,70]) (kq [0,1,2,3,4,5,118]) 150 (pc o1 pn) ?_
   obtain ⟨cG,vG,h⟩:=ax h
   refine bc hE 1 [(3,oT (Lx cG))] (kp [3,8,10,11,12,13,16,17,18,64,65,68,69,70]) Z3 310 (pc o1 (pc o1 (pc o1 (pc (Ka _ _ _ _ _ vG) (pc o1 pn))))) <| bc hE 1 [(2,oT (.tup [(.agg (ar.cells ((ld (fun (za zb:ab)=>((zb.e0 == za.e0) && ((zb.e1 == za.e1) && ((zb.e2 == za.e2) && ((zb.e3 == za.e3) && ((zb.e4 == za.e4) && ((zb.e5 == za.e5) && true))))))) gV cG.1).getD ar.d))),(aB ((ld (fun (za zb:ab)=>((zb.e0 == za.e0) && ((zb.e1 == za.e1) && ((zb.e2 == za.e2) && ((zb.e3 == za.e3) && ((zb.e4 == za.e4) && ((zb.e5 == za.e5) && true))))))) gV cG.1).isSome))]))] (kp [3,8,10,11,12,13,16,17,18,20,64,65,68,69,70]) Z3 454 (pc o1 (pc (show (Go.Ab.look Tryz.prog 74 (ZT gV) (.agg (ab.cells cG.1))).map (fun zr=>AV.tup [zr.getD ag0,.atom (.bool zr.isSome)])=some (.tup [(.agg (ar.cells ((ld (fun (za zb:ab)=>((zb.e0 == za.e0) && ((zb.e1 == za.e1) && ((zb.e2 == za.e2) && ((zb.e3 == za.e3) && ((zb.e4 == za.e4) && ((zb.e5 == za.e5) && true))))))) gV cG.1).getD ar.d))),(aB ((ld (fun (za zb:ab)=>((zb.e0 == za.e0) && ((zb.e1 == za.e1) && ((zb.e2 == za.e2) && ((zb.e3 == za.e3) && ((zb.e4 == za.e4) && ((zb.e5 == za.e5) && true))))))) gV cG.1).isSome))]) from (look_ok (fun x=>.agg (ab.cells x)) (fun x=>.agg (ar.cells x)) (d:=ar.d) (fun _ _=>rfl) rfl _ cG.1)) (pc o1 pn))) ?_
   obtain ⟨UC,x6,h⟩:=ax h
   refine bc hE 1 [(8,oT (aB UC))] (kp [3,8,10,11,12,13,16,17,64,65,68,69,70,99]) Z3 614 (pc (fun hg:cG.2=true=>(pc hg pn)) (pc (fun hq:cG.2=true=>(pc hq pn)) (pc (fun hg:(cond cG.2 (!((ld (fun (za zb:ab)=>((zb.e0 == za.e0) && ((zb.e1 == za.e1) && ((zb.e2 == za.e2) && ((zb.e3 == za.e3) && ((zb.e4 == za.e4) && ((zb.e5 == za.e5) && true))))))) gV cG.1).isSome)) false)=true=>(pc o1 pn)) (pc (fun hg:(cond cG.2 (!((ld (fun (za zb:ab)=>((zb.e0 == za.e0) && ((zb.e1 == za.e1) && ((zb.e2 == za.e2) && ((zb.e3 == za.e3) && ((zb.e4 == za.e4) && ((zb.e5 == za.e5) && true))))))) gV cG.1).isSome)) false)=true=>(pc o1 pn)) (pc (fun hg:(cond cG.2 (!((ld (fun (za zb:ab)=>((zb.e0 == za.e0) && ((zb.e1 == za.e1) && ((zb.e2 == za.e2) && ((zb.e3 == za.e3) && ((zb.e4 == za.e4) && ((zb.e5 == za.e5) && true))))))) gV cG.1).isSome)) false)=true=>(pc (Ah _ _ _ _ (aR x6 hg)) (pc hg (pc hg pn)))) (pc (fun hq:(cond cG.2 (!((ld (fun (za zb:ab)=>((zb.e0 == za.e0) && ((zb.e1 == za.e1) && ((zb.e2 == za.e2) && ((zb.e3 == za.e3) && ((zb.e4 == za.e4) && ((zb.e5 == za.e5) && true))))))) gV cG.1).isSome)) false)=true=>(pc hq pn)) pn)))))) <| cx 0 99 h (fun hq9 h=>?_) (fun hq9 h=>?_)
   ·refine bc hE 1 [(5,oT (.tup (vj (fun x=>.agg (ab.cells x)) (fun x=>.agg (ar.cells x)) (CH (fun (za zb:ab)=>((zb.e0 == za.e0) && ((zb.e1 == za.e1) && ((zb.e2 == za.e2) && ((zb.e3 == za.e3) && ((zb.e4 == za.e4) && ((zb.e5 == za.e5) && true))))))) gV cG.1 (aac todo fO x x2)))))] (kp [3,8,10,11,12,13,17,64,65,68,69,70]) (kq [0,1,2,3,4,5,262]) 710 (pc o1 (pc o1 (pc o1 (pc (show Go.Ab.Jy Tryz.prog 74 (ZT gV) (.agg (ab.cells cG.1)) (.agg [(aI ((Tl todo fO).e0)),(aI ((Tl todo fO).e1)),(aI ((Tl todo fO).e2)),(aI ((Tl todo fO).e3)),(aI ((Tl todo fO).e4)),(aI ((Tl todo fO).e5)),(aI x),(aB (([true,false]:List Bool).getD ((x2).toNat) false))])=some (vj (fun x=>.agg (ab.cells x)) (fun x=>.agg (ar.cells x)) (CH (fun (za zb:ab)=>((zb.e0 == za.e0) && ((zb.e1 == za.e1) && ((zb.e2 == za.e2) && ((zb.e3 == za.e3) && ((zb.e4 == za.e4) && ((zb.e5 == za.e5) && true))))))) gV cG.1 (aac todo fO x x2))) from (JH (fun x=>.agg (ab.cells x)) (fun x=>.agg (ar.cells x)) (fun _ _=>rfl) _ cG.1 (aac todo fO x x2))) pn)))) ?_
    obtain ⟨hQ,h⟩:=ae h
    obtain ⟨hA,hB⟩:=adb h
    refine sA 0 [.code (uc 273349502589),.inBlock 5,.code (uc 1067771495),.inLoop (uc 133471436),.inBlock 4,.inBlock 3,.code (uc 4170983),.inLoop (uc 521372),.inBlock 2,.inBlock 1,.code (uc 8147),.inLoop (uc 2036),.inBlock 0,.code (uc 255)] <| ay.split 11 3 jB ln (aO 6 ab.cells ab.d mQ) (by kernel_rfl) (by kernel_rfl) (by kernel_rfl) hQ ?_ ?_
    ·replace h:=hA
     refine bc hE 0 [(3,oF (.nil))] IM (kq [0,1,2] ++ [(3,pY 3 ab.cells ab.d (mQ ++ (LG cG)))] ++ kq [4,5]) 790 (pc o1 (pc (show 0 < 1/\(bB jB ln)+1<=(bB jB ln)+1 from ⟨Nat.one_pos,aN _⟩) (pc (show ∀ zi,zi < (bB jB ln)+1->oZ (if zi < (bB jB ln) then ab.cells (mQ.getD zi ab.d) else S8 6)=true from (ac9 _ (fun _=>rfl))) (pc (z1 1) (pc (oN [[(aI cG.1.e0),(aI cG.1.e1),(aI cG.1.e2),(aI cG.1.e3),(aI cG.1.e4),(aI cG.1.e5)]]) (pc (show (bB jB ln)+1=(mQ ++ (LG cG)).length from (afJ hQ rfl)) (pc (show ∀ zi,zi < (mQ ++ (LG cG)).length->(fun zi=>ab.cells ((mQ ++ (LG cG)).getD zi ab.d)) zi=((fun zm=>if zm < (bB jB ln) then (if zm < (bB jB ln) then ab.cells (mQ.getD zm ab.d) else S8 6) else if zm < (bB jB ln)+1 then (agx cG) (bB 0 (zm - (bB jB ln))) else (if zm < (bB jB ln) then ab.cells (mQ.getD zm ab.d) else S8 6))) zi from (fun zq D6=>afI (g2:=fun zi=>(agv cG).getD zi []) ab.cells ab.d mQ (LG cG) 6 hQ zq D6)) pn))))))) <| cy hE 1 IM cY 6 (sf N _ _ _ _ _ _ _ _ _ ih lB ic _ _ _ _ _ h E hE)
    ·replace h:=hB
     obtain ⟨c4,h⟩:=ae h
     refine bc hE 0 [(3,oF (.tup []))] (kp [3,8,10] ++ [(11,.lx ((Tm mQ jB cG).length))] ++ kp [12,13,64,65,68,69,70]) (kq [0,1,2,4,5] ++ [(758,pY 758 ab.cells ab.d (Tm mQ jB cG))]) 790 (pc o1 (pc (show 0 < 1/\bB jB ln=mQ.length from ⟨Nat.one_pos,hQ⟩) (pc c4 (pc (show ∀ zi,zi < mQ.length->AV.su (ab.cells (mQ.getD zi ab.d))=true from (fun _ _=>rfl)) (pc (z1 1) (pc (oN [[(aI cG.1.e0),(aI cG.1.e1),(aI cG.1.e2),(aI cG.1.e3),(aI cG.1.e4),(aI cG.1.e5)]]) (pc (show (ln+1)=(Tm mQ jB cG).length from (S9 hQ rfl)) (pc (show ln+1=(Tm mQ jB cG).length from (S9 hQ rfl)) (pc (show ∀ zi,zi < (Tm mQ jB cG).length->(fun zi=>ab.cells ((Tm mQ jB cG).getD zi ab.d)) zi=((fun zm=>if zm < ln then ab.cells (mQ.getD (bB jB zm) ab.d) else (agx cG) (bB 0 (zm - ln)))) zi from (fun zq D6=>ada (g2:=fun zi=>(agv cG).getD zi []) ab.cells ab.d mQ (LG cG) hQ zq D6)) pn))))))))) <| cy hE 1 IM (kq [0,1,2] ++ [(3,.af 758)] ++ kq [4,5]) 6 (sf N _ _ _ _ _ _ _ _ _ ih lB ic _ _ _ _ _ h E hE)
   ·exact cy hE 2 IM cY 6 (sf N _ _ _ _ _ _ _ _ _ ih lB ic _ _ _ _ _ h E hE)
  ·refine aj hE 2 Vw Qp 54 <| cy hE 1 Vw Qp 5 (lB _ _ _ _ _ _ h E hE)
theorem Hc (N:Nat) (p:cQ) (ef:cg×Int) (todo:List ab) (fO:Nat) (bk:AM->AO->Nat->Nat->Option HA) (ic:pP N p ef bk) (fuel:Nat):tz N p ef todo fO (gC N p ef todo fO bk fuel):=by
 induction fuel with
 | zero=>intro _ _ _ _ _ r h;rw [gC.eq_1] at h;cases h
 | succ fuel ih =>
  intro BK Ti Lg CM x r h E hE
  rw [gC.eq_2] at h
  refine aj hE 1 (kp [3,8,10,11,12,64,65,66]) Qp 21 <| cx 1 66 h (fun hq7 h=>?_) (fun hq7 h=>?_)
  ·refine aj hE 4 (kp [3,8,10,11,12,13,64,65]) Qp 53 <| cd hE 1 (kp [3,8,10,11,12,13,64,65] ++ [(68,.lx (([true,false]:List Bool).length))] ++ kp [69,70]) (kq [0,1,2,3,4] ++ [(53,pY 53 cB false ([true,false]:List Bool))]) 101 (pc (Eq.refl 2) (pc (Eq.refl 2) (pc (dJ cB false ([true,false]:List Bool)) pn))) <| cy hE 2 IM (kq [0,1,2,3,4] ++ [(5,.af 53)]) 6 (Hb N _ _ _ _ _ _ _ ih ic N _ _ _ _ _ _ h E hE)
  ·obtain ⟨c5,h⟩:=ae h
   refine cd hE 2 (kp [3,8,10,11]) sa 69 (pc c5 (pc (show 0<=(1:Int) by decide) pn)) <| cy hE 1 (kp [3,8,10,11]) sa 4 (ic _ _ _ _ _ h E hE)
theorem Hd (N p ef fuel):pP N p ef (jC N p ef fuel):=by
 induction fuel with
 | zero=>intro _ _ _ _ r h;rw [jC.eq_1] at h;cases h
 | succ fuel ih =>
  intro GD todo fO MW r h E hE
  rw [jC.eq_2] at h
  refine aj hE 2 (kp [3,8,10,11,49]) sa 52 <| cx 0 49 h (fun Ft h=>?_) (fun Ft h=>?_)
  ·obtain ⟨c,h⟩:=ae h
   obtain ⟨c2,h⟩:=ae h
   refine cd hE 4 (kp [3,8,10,11,12]) Z2 132 (pc c (pc (show (bB fO 0) < todo.length by have h1:=c;have h2:=c2;simp only [dc];omega) (pc o1 pn))) ?_
   obtain ⟨afP,kT,h⟩:=ax h
   refine bc hE 2 [(2,oT (aB afP))] (kp [3,8,10,11,12,57]) Z2 180 (pc o1 (pc o1 (pc (Mb _ _ _ _ kT) pn))) <| cx 0 57 h (fun VE h=>?_) (fun VE h=>?_)
   ·obtain ⟨Xo,oW,h⟩:=ax h
    refine bc hE 1 [(3,⟨[2],true,(.os 1 0 Xo.length),[(1,aO 2 av.cells av.d Xo)],0,false,none⟩)] (kp [6,7]) (kq [228]) 276 (pc o1 (pc o1 (pc (J9 _ _ _ _ _ oW) pn))) ?_
    cases h
    exact jn hE 0 Tryz.f7 [228] ([(6,rM av.cells av.d Xo)] ++ kp [7]) [] 276 (pc (Eq.refl Xo.length) (pc (z1 Xo.length) (pc (eZ av.cells av.d Xo) pn))) [] pn
   ·refine cd hE 2 Vw Z2 244 (pc o1 pn) <| cy hE 2 Vw (kq [0,1,2,3] ++ [(4,.af 100)]) 5 (Hc N _ _ _ _ _ ih N _ _ _ _ _ _ h E hE)
  ·refine aj hE 2 (kp [6,7]) [] 84 ?_
   cases h
   exact jn hE 0 Tryz.f7 [] ([(6,rM av.cells av.d ([]:List av))] ++ kp [7]) [] 84 (pc (Eq.refl 0) pn) [] pn
theorem Mc (N p l a r) (h:zY N p l a=some r):Sd 7 [(sH p),(JR l),(.agg (ox.cells a))] [] 0 (Ly r) []:=by
 unfold zY at h
 refine sO Tryz.f7 111 fun E hE=>?_
 refine aj hE 1 (kp [3,4,5]) cC 80 ?_
 obtain ⟨ef,hr,h⟩:=ax h
 refine bc hE 1 [(3,oT (.tup [(.agg (cg.cells ef.1)),(aI ef.2)]))] (kp [3,8,9]) (kq [0,192]) 240 (pc o1 (pc o1 (pc o1 (pc (Se _ _ _ _ _ hr) (pc o1 pn))))) <| aj hE 2 (kp [3,8,9,29]) (kq [0,192]) 272 <| cx 0 29 h (fun cP h=>?_) (fun cP h=>?_)
 ·refine aj hE 1 (kp [6,7]) [] 320 ?_
  cases h
  exact jn hE 0 Tryz.f7 [] ([(6,rM av.cells av.d ([]:List av))] ++ kp [7]) [] 320 (pc (Eq.refl 0) pn) [] pn
 ·obtain ⟨PA,dy,h⟩:=ax h
  refine bc hE 3 [(1,oT (aI PA))] (kp [3,8,33]) (kq [0,192]) 320 (pc o1 (pc (M3 _ _ _ dy) pn)) <| cx 0 33 h (fun gX h=>?_) (fun gX h=>?_)
  ·refine aj hE 1 (kp [6,7]) [] 352 ?_
   cases h
   exact jn hE 0 Tryz.f7 [] ([(6,rM av.cells av.d ([]:List av))] ++ kp [7]) [] 352 (pc (Eq.refl 0) pn) [] pn
  ·obtain ⟨Zh,ia,h⟩:=ax h
   refine bc hE 3 [(3,oT (aB Zh))] (kp [3,8,38]) (kq [0,192]) 400 (pc o1 (pc o1 (pc (Ah _ _ _ _ ia) pn))) <| cx 0 38 h (fun sb h=>?_) (fun sb h=>?_)
   ·refine aj hE 1 (kp [6,7]) [] 432 ?_
    cases h
    exact jn hE 0 Tryz.f7 [] ([(6,rM av.cells av.d ([]:List av))] ++ kp [7]) [] 432 (pc (Eq.refl 0) pn) [] pn
   ·refine bc hE 2 [(4,oT (.tup (vj (fun x=>.agg (ab.cells x)) (fun x=>.agg (ar.cells x)) (CH (fun (za zb:ab)=>((zb.e0 == za.e0) && ((zb.e1 == za.e1) && ((zb.e2 == za.e2) && ((zb.e3 == za.e3) && ((zb.e4 == za.e4) && ((zb.e5 == za.e5) && true))))))) ([]:List Fe) ef.1.ig (⟨(⟨0,0,0,0,0,0⟩:ab),(⟨0,false⟩:av)⟩:ar)))))] (kp [3,8,10]) (kq [0,192,400]) 512 (pc o1 (pc (show Go.Ab.Jy Tryz.prog 74 (vj (fun x=>.agg (ab.cells x)) (fun x=>.agg (ar.cells x)) ([]:List Fe)) (.agg (ab.cells ef.1.ig)) (.agg [(aI 0),(aI 0),(aI 0),(aI 0),(aI 0),(aI 0),(aI 0),(aB false)])=some (vj (fun x=>.agg (ab.cells x)) (fun x=>.agg (ar.cells x)) (CH (fun (za zb:ab)=>((zb.e0 == za.e0) && ((zb.e1 == za.e1) && ((zb.e2 == za.e2) && ((zb.e3 == za.e3) && ((zb.e4 == za.e4) && ((zb.e5 == za.e5) && true))))))) ([]:List Fe) ef.1.ig (⟨(⟨0,0,0,0,0,0⟩:ab),(⟨0,false⟩:av)⟩:ar))) from (JH (fun x=>.agg (ab.cells x)) (fun x=>.agg (ar.cells x)) (fun _ _=>rfl) _ ef.1.ig (⟨(⟨0,0,0,0,0,0⟩:ab),(⟨0,false⟩:av)⟩:ar))) pn)) <| cd hE 2 (kp [3,8,10] ++ [(11,.lx (([ef.1.ig]:List ab).length))]) (kq [0,192,400] ++ [(544,pY 544 ab.cells ab.d ([ef.1.ig]:List ab))]) 576 (pc o1 (pc (Eq.refl 1) (pc (Eq.refl 1) (pc (dJ ab.cells ab.d ([ef.1.ig]:List ab)) pn)))) <| cy hE 2 (kp [3,8,10,11]) (kq [0] ++ [(1,.af 192),(2,.af 400),(3,.af 544)]) 4 (Hd N _ _ N _ _ _ _ _ h E hE)
theorem FO (N l r) (h:nN N l=some r):Sd 35 [(JR l)] [] 0 (aI r) []:=by
 unfold nN at h
 refine sO Tryz.f35 31 fun E hE=>?_
 refine aj hE 1 (kp [1]) (kq [0]) 32 ?_
 obtain ⟨xG,hr,h⟩:=ax h
 obtain ⟨tk,dy,h⟩:=ax h
 obtain ⟨ES,ia,h⟩:=ax h
 obtain ⟨zH,kT,h⟩:=ax h
 obtain ⟨Nk,oW,h⟩:=ax h
 refine bc hE 2 [(2,oT (aB xG)),(7,oT (aB tk)),(13,oT (aB ES)),(19,oT (aB zH)),(25,oT (aB Nk))] (kp [30]) [] 480 (pc o1 (pc (cE _ _ _ _ _ hr) (pc (fun hg:(!(!xG))=true=>(pc hg (pc o1 pn))) (pc (fun hg:(!(!xG))=true=>(pc (cE _ _ _ _ _ (aR dy hg)) (pc hg pn))) (pc (fun hg:(!(!xG))=true=>(pc hg pn)) (pc (fun hq:(!(!xG))=true=>(pc hq pn)) (pc (fun hg:(uS xG tk)=true=>(pc hg (pc o1 pn))) (pc (fun hg:(uS xG tk)=true=>(pc (cE _ _ _ _ _ (aR ia hg)) (pc hg pn))) (pc (fun hg:(uS xG tk)=true=>(pc hg pn)) (pc (fun hq:(uS xG tk)=true=>(pc hq pn)) (pc (fun hg:(Nl xG tk ES)=true=>(pc hg (pc o1 pn))) (pc (fun hg:(Nl xG tk ES)=true=>(pc (cE _ _ _ _ _ (aR kT hg)) (pc hg pn))) (pc (fun hg:(Nl xG tk ES)=true=>(pc hg pn)) (pc (fun hq:(Nl xG tk ES)=true=>(pc hq pn)) (pc (fun hg:(Xr xG tk ES zH)=true=>(pc hg (pc o1 pn))) (pc (fun hg:(Xr xG tk ES zH)=true=>(pc (cE _ _ _ _ _ (aR oW hg)) (pc hg pn))) (pc (fun hg:(Xr xG tk ES zH)=true=>(pc hg pn)) (pc (fun hq:(Xr xG tk ES zH)=true=>(pc hq pn)) pn)))))))))))))))))) <| cx 0 30 h (fun cP h=>?_) (fun cP h=>?_)
 ·refine aj hE 1 (kp [2]) [] 496 ?_
  cases h
  exact fw hE 0 Tryz.f35 (kp [2]) [] 496
 ·refine aj hE 2 (kp [2]) [] 496 ?_
  cases h
  exact fw hE 0 Tryz.f35 (kp [2]) [] 496
noncomputable abbrev ag6:=bt Tryz.f76
def Ee (N:Nat) (p:cQ) (steps:List Int) (K:Int->Option (Int)):Prop:=∀ (i:Int) (r:Int),K i=some r->∀ E,aP E 0->ay Tryz.prog E 76 30 (aQ E [] (aI r)) [.code (ag6 116),.inLoop (ag6 116),.inBlock 0,.code (ag6 15)] ⟨[(vz steps),(2,(.op 0 0 0)),(5,(aI i))],[(jQ p)],1⟩
theorem Dj (N p steps fuel):Ee N p steps (gi N p steps fuel):=by
 induction fuel with
 | zero=>intro _ r h;rw [gi.eq_1] at h;cases h
 | succ fuel ih =>
  intro i r h E hE
  rw [gi.eq_2] at h
  refine aj hE 2 (kp [1,2,5,15]) (kq [0]) 65 <| cx 0 15 h (fun gX h=>?_) (fun gX h=>?_)
  ·obtain ⟨c,h⟩:=ae h
   obtain ⟨c2,h⟩:=ae h
   obtain ⟨xG,hr,h⟩:=ax h
   refine bc hE 4 [(10,oT (aB xG))] (kp [1,2,5,29]) (kq [0]) 257 (pc c (pc o1 (pc c2 (pc (cE _ _ _ _ _ hr) pn)))) <| cx 0 29 h (fun sb h=>?_) (fun sb h=>?_)
   ·refine aj hE 1 (kp [4]) [] 273 ?_
    cases h
    exact fw hE 0 Tryz.f76 (kp [4]) [] 273
   ·refine aj hE 2 LU (kq [0]) 305 <| cy hE 1 LU (kq [0]) 1 (ih _ _ h E hE)
  ·refine aj hE 2 (kp [4]) [] 81 ?_
   cases h
   exact fw hE 0 Tryz.f76 (kp [4]) [] 81
theorem He (N p steps r) (h:oJ N p steps=some r):Sd 76 [(sH p),(b5 cI 0 steps)] [] 0 (aI r) []:=by
 unfold oJ at h
 refine sO Tryz.f76 30 fun E hE=>?_
 refine aj hE 1 (kp [1,2]) (kq [0]) 32 <| cd hE 2 (kp [1,2,11]) (kq [0]) 128 (pc o1 pn) <| cx 0 11 h (fun cP h=>?_) (fun cP h=>?_)
 ·refine aj hE 1 (kp [4]) [] 144 ?_
  cases h
  exact fw hE 0 Tryz.f76 (kp [4]) [] 144
 ·refine aj hE 3 LU (kq [0]) 144 <| cy hE 2 LU (kq [0]) 1 (Dj N _ _ N _ _ h E hE)
theorem Kb (N p a r) (h:ux N p a=some r):Sd 36 [(sH p),(.agg (ox.cells a))] [] 0 (aI r) []:=by
 unfold ux at h
 refine sO Tryz.f36 23 fun E hE=>?_
 refine aj hE 1 (kp [2,3]) fH 48 ?_
 obtain ⟨zZ,hr,h⟩:=ax h
 refine bc hE 2 [(3,oT (aI zZ))] (kp [3,5]) (kq [16]) 128 (pc o1 (pc o1 (pc (He _ _ _ _ hr) pn))) <| aj hE 1 (kp [3,5,11]) (kq [16]) 160 <| cx 0 11 h (fun cP h=>?_) (fun cP h=>?_)
 ·refine aj hE 1 (kp [4]) [] 192 ?_
  obtain rfl:=kR h
  exact fw hE 0 Tryz.f36 (kp [4]) [] 192
 ·obtain ⟨xG,dy,h⟩:=ax h
  obtain ⟨tk,ia,h⟩:=ax h
  refine bc hE 3 [(2,oT (aB xG)),(7,oT (aB tk))] (kp [22]) [] 320 (pc o1 (pc (cE _ _ _ _ _ dy) (pc (fun hg:(!(!xG))=true=>(pc hg (pc o1 pn))) (pc (fun hg:(!(!xG))=true=>(pc (cE _ _ _ _ _ (aR ia hg)) (pc hg pn))) (pc (fun hg:(!(!xG))=true=>(pc hg pn)) (pc (fun hq:(!(!xG))=true=>(pc hq pn)) pn)))))) <| cx 0 22 h (fun gX h=>?_) (fun gX h=>?_)
  ·refine aj hE 1 (kp [4]) [] 336 ?_
   cases h
   exact fw hE 0 Tryz.f36 (kp [4]) [] 336
  ·refine aj hE 2 (kp [4]) [] 336 ?_
   cases h
   exact fw hE 0 Tryz.f36 (kp [4]) [] 336
theorem Hf (N p l a r) (h:mb N p l a=some r):Sd 10 [(sH p),(JR l),(.agg (ox.cells a))] [] 0 (aI r) []:=by
 unfold mb at h
 refine sO Tryz.f10 22 fun E hE=>?_
 refine aj hE 1 (kp [3,4,5]) cC 64 ?_
 obtain ⟨vS,hr,h⟩:=ax h
 refine bc hE 2 [(1,oT (aI vS))] (kp [3,4,5,7]) cC 112 (pc o1 (pc (Ed _ _ _ hr) pn)) <| aj hE 1 (kp [3,4,5,7,12]) cC 144 <| cx 0 12 h (fun cP h=>?_) (fun cP h=>?_)
 ·refine aj hE 1 (kp [6]) [] 176 ?_
  obtain rfl:=kR h
  exact fw hE 0 Tryz.f10 (kp [6]) [] 176
 ·obtain ⟨xW,dy,h⟩:=ax h
  refine bc hE 3 [(1,oT (aI xW))] (kp [3,5,8]) AU 192 (pc o1 (pc (FO _ _ _ dy) pn)) <| aj hE 1 (kp [3,5,8,17]) AU 224 <| cx 0 17 h (fun gX h=>?_) (fun gX h=>?_)
  ·refine aj hE 1 (kp [6]) [] 256 ?_
   obtain rfl:=kR h
   exact fw hE 0 Tryz.f10 (kp [6]) [] 256
  ·obtain ⟨Lh,ia,h⟩:=ax h
   refine bc hE 2 [(2,oT (aI Lh))] (kp [6]) [] 288 (pc o1 (pc o1 (pc (Kb _ _ _ _ ia) pn))) ?_
   obtain rfl:=kR h
   exact fw hE 0 Tryz.f10 (kp [6]) [] 288
noncomputable abbrev ag7:=bt Tryz.f147
def NR (N:Nat) (neg:Bool) (a:List Int) (K:(List Int)->Int->Option (cX)):Prop:=∀ (x:List Int) (i:Int) (r:cX),K x i=some r->∀ E,aP E 0->ay Tryz.prog E 147 31 (aQ E [] (ba r)) [.code (ag7 116),.inLoop (ag7 116),.inBlock 0,.code (ag7 15)] ⟨[(vz a),(4,(.op 0 0 0)),(5,(.op 1 0 0)),(6,(aI i))],[(0,vO 2 [(aB false),.nil]),(1,vN 2 [(aB (cond neg (IC a) false)),(AK x)]),(2,aU x)],3⟩
theorem Md (N neg a fuel):NR N neg a (l4 N neg a fuel):=by
 induction fuel with
 | zero=>intro _ _ r h;rw [l4.eq_1] at h;cases h
 | succ fuel ih =>
  intro x i r h E hE
  rw [l4.eq_2] at h
  refine aj hE 2 (kp [1,4,5,6,17]) cH 67 <| cx 0 17 h (fun cP h=>?_) (fun cP h=>?_)
  ·obtain ⟨c,h⟩:=ae h
   obtain ⟨c2,h⟩:=ae h
   refine cd hE 3 Qe (kq [0] ++ [(1,.var 1 [.af,.lx ((x ++ (PX a i)).length)]),(195,pY 195 (cU .u16) 0 (x ++ (PX a i)))]) 243 (pc o1 (pc c (pc (Eq.refl x.length) (pc c2 (pc (z1 1) (pc (oN [[(Zk (IntKind.u16.wrap ((vt a i))))]]) (pc o1 (pc (bT x (PX a i)) (pc (bT x (PX a i)) (pc (Ta (cU .u16) 0 x (PX a i)) pn)))))))))) <| aj hE 1 Qe (kq [0,1,195]) 291 <| cy hE 1 Qe (kq [0,1] ++ [(2,.af 195)]) 3 (ih _ _ _ h E hE)
  ·refine cd hE 2 (kp [4]) (kq [0,2]) 99 (pc o1 (pc o1 pn)) ?_
   cases h
   exact jn hE 0 Tryz.f147 [2] (kp [4]) [(16,.var 0 [.af,rM (cU .u16) 0 x])] 99 (pc (Eq.refl x.length) (pc (z1 x.length) (pc (eZ (cU .u16) 0 x) pn))) [16] (pc o1 pn)
theorem kC (N neg a r) (h:hH N neg a=some r):Sd 147 [(aB neg),(b5 cI 0 a)] [] 0 (ba r) []:=by
 unfold hH at h
 refine sO Tryz.f147 31 fun E hE=>?_
 refine aj hE 1 IH (kq [0]) 16 <| cd hE 1 (kp [1,4,5]) (kq [0,128]) 160 (pc (fun hg:neg=true=>(pc hg pn)) (pc (fun hg:neg=true=>(pc hg pn)) (pc (fun hq:neg=true=>(pc hq pn)) (pc o1 pn)))) <| aj hE 2 Qe (kq [0,128]) 176 <| cy hE 2 Qe (kq [0] ++ [(1,.var 128 [.af,.sC 2]),(2,.nil 1 (fun zi=>(cU .u16) (([]:List Int).getD zi 0)))]) 3 (Md N _ _ N _ _ _ h E hE)
noncomputable abbrev ag8:=bt Tryz.f142
def Sg (N:Nat) (n:Int) (K:(List Int)->Int->Option (cX)):Prop:=∀ (a:List Int) (u:Int) (r:cX),K a u=some r->∀ E,aP E 0->ay Tryz.prog E 142 25 (aQ E [] (ba r)) [.code (ag8 248),.inLoop (ag8 248),.inBlock 0,.code (ag8 63)] ⟨[(0,(aI n)),(2,(.op 0 0 0)),(3,(rX a)),(4,(wD u))],[(0,vO 2 [(aB false),.nil]),(ey a)],2⟩
theorem FP (N n fuel):Sg N n (nO N n fuel):=by
 induction fuel with
 | zero=>intro _ _ r h;rw [nO.eq_1] at h;cases h
 | succ fuel ih =>
  intro a u r h E hE
  rw [nO.eq_2] at h
  refine aj hE 2 (kp [0,2,3,4,12]) (kq [0,1]) 34 <| cx 0 12 h (fun gX h=>?_) (fun gX h=>?_)
  ·obtain ⟨c,h⟩:=ae h
   refine cd hE 3 (kp [0,2] ++ [(3,.lx ((a ++ (P0 u)).length))] ++ kp [4]) (kq [0] ++ [(114,pY 114 cI 0 (a ++ (P0 u)))]) 146 (pc (show (65536:Int)≠0 by decide) (pc (Eq.refl a.length) (pc c (pc (z1 1) (pc (oN [[(aI (aE ((u.tmod 65536))))]]) (pc (bT a (P0 u)) (pc (bT a (P0 u)) (pc (Ta cI 0 a (P0 u)) pn)))))))) <| cd hE 1 C7 (kq [0,114]) 194 (pc (show (65536:Int)≠0 by decide) pn) <| cy hE 1 C7 (kq [0] ++ [(1,.af 114)]) 2 (ih _ _ _ h E hE)
  ·obtain ⟨uy,hr,h⟩:=ax h
   refine bc hE 2 [(3,⟨[],true,(ba uy),[],0,true,none⟩)] (kp [2]) (kq [0]) 114 (pc (kC _ _ _ _ hr) (pc (z1 a.length) (pc o1 pn))) ?_
   obtain rfl:=kR h
   exact jn hE 0 Tryz.f142 [] (kp [2]) [(16,.af 0)] 114 pn [16] (pc o1 pn)
theorem FQ (N n r) (h:wx N n=some r):Sd 142 [(aI n)] [] 0 (ba r) []:=by
 unfold wx at h
 refine sO Tryz.f142 25 fun E hE=>?_
 refine aj hE 1 (kp [0,2]) (kq [0]) 16 <| aj hE 1 Fj (kq [0]) 32 <| aj hE 1 C7 (kq [0]) 80 <| aj hE 2 (kp [0,2,3,4,8]) (kq [0]) 112 <| cx 0 8 h (fun cP h=>?_) (fun cP h=>?_)
 ·refine aj hE 0 C7 (kq [0]) 160 <| cy hE 3 agE agW 2 (FP N _ N _ _ _ h E hE)
 ·exact cy hE 4 agE agW 2 (FP N _ N _ _ _ h E hE)
theorem lu (N n r) (h:pH N n=some r):Sd 115 [(aI n)] [] 0 (ao r) []:=by
 unfold pH at h
 refine sO Tryz.f115 7 fun E hE=>?_
 refine aj hE 1 (kp [0,2]) (kq [0]) 16 ?_
 obtain ⟨Te,hr,h⟩:=ax h
 obtain ⟨Ze,dy,h⟩:=ax h
 refine bc hE 1 [(1,oT (ba Te)),(2,oT (ba Ze))] (kp [2]) (kq [0]) 96 (pc (FQ _ _ _ hr) (pc (FQ _ _ _ dy) (pc o1 pn))) ?_
 cases h
 exact jn hE 0 Tryz.f115 [] (kp [2]) [(16,.af 0)] 96 pn [16] (pc o1 pn)
noncomputable abbrev ag9:=bt Tryz.f116
def Me (N:Nat) (p:cQ) (steps:List Int) (K:U0->Int->Option (U0)):Prop:=∀ (out:List fy) (i:Int) (r:U0),K out i=some r->∀ E,aP E 0->ay Tryz.prog E 116 45 (aQ E [] (U5 r)) [.code (ag9 116),.inLoop (ag9 116),.inBlock 0,.code (ag9 15)] ⟨[(vz steps),(2,(.op 0 0 0)),(5,(.os 1 0 out.length)),(6,(aI i))],[(jQ p),(1,aO 3 fy.cells fy.d out)],2⟩
theorem Kc (N p steps fuel):Me N p steps (jD N p steps fuel):=by
 induction fuel with
 | zero=>intro _ _ r h;rw [jD.eq_1] at h;cases h
 | succ fuel ih =>
  intro out i r h E hE
  rw [jD.eq_2] at h
  refine aj hE 2 (kp [1,2,5,6,14]) (kq [0,1]) 66 <| cx 0 14 h (fun cP h=>?_) (fun cP h=>?_)
  ·obtain ⟨c2,h⟩:=ae h
   obtain ⟨c3,h⟩:=ae h
   obtain ⟨c4,h⟩:=ae h
   refine cd hE 3 (kp [1,2] ++ [(5,.lx ((aly out p i steps).length))] ++ kp [6]) (kq [0] ++ [(482,pY 482 fy.cells fy.d (aly out p i steps))]) 514 (pc o1 (pc c2 (pc o1 (pc c2 (pc c3 (pc o1 (pc c2 (pc (Eq.refl out.length) (pc c4 (pc (z1 1) (pc (oN [[(aI ((Ic p i).zD)),(aI ((Ic p i).D4)),(aI (aE ((vt steps i) * (Ic p i).wU)))]]) (pc (bT out (ZP p i steps)) (pc (bT out (ZP p i steps)) (pc (Ta fy.cells fy.d out (ZP p i steps)) pn)))))))))))))) <| aj hE 1 C8 (kq [0,482]) 562 <| cy hE 1 C8 (kq [0] ++ [(1,.af 482)]) 2 (ih _ _ _ h E hE)
  ·refine aj hE 2 (kp [4]) (kq [1]) 98 ?_
   obtain rfl:=kR h
   exact jn hE 0 Tryz.f116 [1] [(4,rM fy.cells fy.d out)] [] 98 (pc (Eq.refl out.length) (pc (z1 out.length) (pc (eZ fy.cells fy.d out) pn))) [] pn
theorem QM (N p steps r) (h:wy N p steps=some r):Sd 116 [(sH p),(b5 cI 0 steps)] [] 0 (U5 r) []:=by
 unfold wy at h
 refine sO Tryz.f116 45 fun E hE=>?_
 refine aj hE 1 (kp [1,2]) (kq [0]) 32 ?_
 obtain ⟨c,h⟩:=ae h
 refine cd hE 1 (kp [1,2] ++ [(5,.lx ((abE p).length))]) (kq [0] ++ [(80,pY 80 fy.cells fy.d (abE p))]) 112 (pc o1 (pc (Eq.refl 0) (pc c (pc (show ∀ zi,zi < p.pZ.length->AV.su ((fun zi=>fy.cells (p.pZ.getD zi fy.d)) zi)=true from (fun _ _=>rfl)) (pc (bT ([]:List fy) p.pZ) (pc (bT ([]:List fy) p.pZ) (pc (show ∀ zi,zi < (abE p).length->(fun zi=>fy.cells ((abE p).getD zi fy.d)) zi=((fun zm=>if zm < 0 then (fun _=>[]) zm else (fun zi=>fy.cells (p.pZ.getD zi fy.d)) (zm - 0))) zi from (tK fy.cells fy.d ([]:List fy) p.pZ rfl (fun zq D6=>absurd D6 (fj _)) (fun _ _=>rfl))) pn))))))) <| aj hE 2 C8 (kq [0,80]) 128 <| cy hE 2 C8 (kq [0] ++ [(1,.af 80)]) 2 (Kc N _ _ N _ _ _ h E hE)
noncomputable abbrev aha:=bt Tryz.f164
def NS (N:Nat) (a:List Int) (K:Int->Option l8):Prop:=∀ (n:Int) (r:(List Int)),K n=some r->∀ E,aP E 0->ay Tryz.prog E 164 23 (aQ E [] (b5 cI 0 r)) [.code (aha 56),.inLoop (aha 56),.inBlock 0,.code (aha 15)] ⟨[(vw a),(3,(aI n))],[],0⟩
theorem Mf (N a fuel):NS N a (l5 N a fuel):=by
 induction fuel with
 | zero=>intro _ r h;rw [l5.eq_1] at h;cases h
 | succ fuel ih =>
  intro n r h E hE
  rw [l5.eq_2] at h
  obtain ⟨c,h⟩:=ae h
  refine cd hE 2 (kp [0,3,15]) [] 160 (pc (fun hg:(r7 n)=true=>(pc hg pn)) (pc (fun hg:(r7 n)=true=>(pc hg (pc hg (pc (c hg) pn)))) (pc (fun hg:(r7 n)=true=>(pc hg pn)) (pc (fun hg:(r7 n)=true=>(pc hg pn)) (pc (fun hq:(r7 n)=true=>(pc hq pn)) pn))))) <| cx 0 15 h (fun cP h=>?_) (fun cP h=>?_)
  ·refine aj hE 2 (kp [0,3]) [] 208 <| cy hE 2 (kp [0,3]) [] 0 (ih _ _ h E hE)
  ·obtain ⟨c2,h⟩:=ae h
   obtain ⟨c3,h⟩:=ae h
   obtain ⟨c4,h⟩:=ae h
   refine cd hE 2 [(2,.lx (af9 a n))] [(224,pY 224 cI 0 (PN a n))] 256 (pc c2 (pc c3 (pc (Eq.refl 0) (pc c4 (pc (show ∀ zi,zi < ((n).toNat - 0)->AV.su ((fun zi=>cI (a.getD (bB 0 zi) 0)) zi)=true from (fun _ _=>rfl)) (pc (show (0+((n).toNat - 0))=(PN a n).length from (wo rfl (EF a 0 ((n).toNat) c2))) (pc (show 0+((n).toNat - 0)=(PN a n).length from (wo rfl (EF a 0 ((n).toNat) c2))) (pc (show ∀ zi,zi < (PN a n).length->(fun zi=>cI ((PN a n).getD zi 0)) zi=((fun zm=>if zm < 0 then (fun _=>[]) zm else (fun zi=>cI (a.getD (bB 0 zi) 0)) (zm - 0))) zi from (tK cI 0 ([]:List Int) ((a.take ((n).toNat)).drop 0) rfl (fun zq D6=>absurd D6 (fj _)) (fun zq D6=>Ok cI 0 a 0 ((n).toNat) zq D6))) pn)))))))) ?_
   cases h
   exact jn hE 0 Tryz.f164 [224] [(2,rM cI 0 (PN a n))] [] 256 (pc (Eq.refl (af9 a n)) (pc (z1 (af9 a n)) (pc (eZ cI 0 (PN a n)) pn))) [] pn
theorem qo (N a r) (h:pJ N a=some r):Sd 164 [(b5 cI 0 a)] [] 0 (b5 cI 0 r) []:=by
 unfold pJ at h
 refine sO Tryz.f164 23 fun E hE=>?_
 refine aj hE 1 (kp [0]) [] 16 <| aj hE 1 (kp [0,3]) [] 64 <| cy hE 3 (kp [0,3]) [] 0 (Mf N _ N _ _ h E hE)
noncomputable abbrev ahb:=bt Tryz.f146
def NT (N:Nat) (l:List Int) (K:(List Int)->Int->Option l8):Prop:=∀ (a:List Int) (i:Int) (r:(List Int)),K a i=some r->∀ E,aP E 0->ay Tryz.prog E 146 21 (aQ E [] (b5 cI 0 r)) [.code (ahb 116),.inLoop (ahb 116),.inBlock 0,.code (ahb 15)] ⟨[(0,(bw l)),(3,(lN a)),(4,(aI i))],[(0,aO 1 cI 0 a)],1⟩
theorem Mg (N l fuel):NT N l (l6 N l fuel):=by
 induction fuel with
 | zero=>intro _ _ r h;rw [l6.eq_1] at h;cases h
 | succ fuel ih =>
  intro a i r h E hE
  rw [l6.eq_2] at h
  refine aj hE 2 (kp [0,3,4,8]) (kq [0]) 65 <| cx 0 8 h (fun cP h=>?_) (fun cP h=>?_)
  ·obtain ⟨c,h⟩:=ae h
   obtain ⟨c2,h⟩:=ae h
   refine cd hE 3 (kp [0] ++ [(3,.lx ((a ++ (PZ l i)).length))] ++ kp [4]) [(177,pY 177 cI 0 (a ++ (PZ l i)))] 209 (pc c (pc (Eq.refl a.length) (pc c2 (pc (z1 1) (pc (oN [[(aI (aE ((vt l i))))]]) (pc (bT a (PZ l i)) (pc (bT a (PZ l i)) (pc (Ta cI 0 a (PZ l i)) pn)))))))) <| aj hE 1 Qa (kq [177]) 257 <| cy hE 1 Qa [(0,.af 177)] 1 (ih _ _ _ h E hE)
  ·obtain ⟨bJ,hr,h⟩:=ax h
   refine bc hE 2 [(1,⟨[],true,(b5 cI 0 bJ),[],0,true,none⟩)] (kp [2]) [] 113 (pc (qo _ _ _ hr) (pc (z1 a.length) pn)) ?_
   obtain rfl:=kR h
   exact fw hE 0 Tryz.f146 (kp [2]) [] 113
theorem og (N l r) (h:lp N l=some r):Sd 146 [(bw l)] [] 0 (b5 cI 0 r) []:=by
 unfold lp at h
 refine sO Tryz.f146 21 fun E hE=>?_
 refine aj hE 1 (kp [0]) [] 16 <| aj hE 1 (kp [0,3]) [] 32 <| aj hE 2 Qa [] 48 <| cy hE 2 (kp [0] ++ [(3,.sC 0)] ++ kp [4]) [(0,.nil 1 P2)] 1 (Mg N _ N _ _ _ h E hE)
theorem uJ (N a i r) (h:pe N a i=some r):Sd 165 [(b5 cI 0 a),(aI i)] [] 0 (aI r) []:=by
 unfold pe at h
 refine sO Tryz.f165 13 fun E hE=>?_
 refine aj hE 1 (kp [0,1]) [] 16 <| aj hE 2 (kp [0,1,8]) [] 80 <| cx 0 8 h (fun cP h=>?_) (fun cP h=>?_)
 ·obtain ⟨c,h⟩:=ae h
  refine cd hE 1 (kp [4]) [] 160 (pc c pn) ?_
  cases h
  exact fw hE 0 Tryz.f165 (kp [4]) [] 160
 ·refine aj hE 2 (kp [4]) [] 96 ?_
  cases h
  exact fw hE 0 Tryz.f165 (kp [4]) [] 96
noncomputable abbrev M4:=bt Tryz.f150
def B9 (N:Nat) (a:List Int) (b:List Int) (K:(List Int)->Int->Option l8):Prop:=∀ (out:List Int) (i:Int) (r:(List Int)),K out i=some r->∀ E,aP E 0->ay Tryz.prog E 150 61 (aQ E [] (b5 cI 0 r)) [.code (M4 116),.inLoop (M4 116),.inBlock 0,.code (M4 15)] ⟨[(vw a),(vz b),(5,(lN out)),(6,(aI i))],[(0,aO 1 cI 0 out)],1⟩
def Mh (N:Nat) (a:List Int) (b:List Int) (i:Int) (K:(List Int)->Int->Int->Option l8):Prop:=∀ (eY:List Int) (carry:Int) (k:Int) (r:(List Int)),K eY carry k=some r->∀ E,aP E 0->ay Tryz.prog E 150 61 (aQ E [] (b5 cI 0 r)) [.code (M4 14924),.inLoop (M4 14924),.inBlock 2,.inBlock 1,.code (M4 467),.inLoop (M4 116),.inBlock 0,.code (M4 15)] ⟨[(vw a),(vz b),(5,(lN eY)),(6,(aI i)),(7,(aI carry)),(8,(aI k))],[(0,aO 1 cI 0 eY)],1⟩
theorem Kd (N:Nat) (a:List Int) (b:List Int) (i:Int) (oK:(List Int)->Int->Option l8) (Ke:B9 N a b oK) (fuel:Nat):Mh N a b i (kO N a b i oK fuel):=by
 induction fuel with
 | zero=>intro _ _ _ r h;rw [kO.eq_1] at h;cases h
 | succ fuel ih =>
  intro eY carry k r h E hE
  rw [kO.eq_2] at h
  refine cd hE 2 (kp [0,1,5,6,7,8,30]) (kq [0]) 129 (pc (fun hg:(Xs k b)=true=>(pc hg pn)) (pc (fun hq:(Xs k b)=true=>(pc hq pn)) pn)) <| cx 0 30 h (fun gX h=>?_) (fun gX h=>?_)
  ·obtain ⟨c2,h⟩:=ae h
   obtain ⟨c3,h⟩:=ae h
   obtain ⟨dm,hr,h⟩:=ax h
   refine bc hE 4 [(12,oT (aI dm))] (kp [0,1,5,6,8,9]) (kq [0]) 417 (pc c2 (pc (dV c2) (pc c3 (pc (uJ _ _ _ _ hr) pn)))) <| cd hE 1 (kp [0,1] ++ [(5,.lx ((eY.set (tl i k) (Xz eY i k a dm carry)).length))] ++ kp [6,8,9]) [(0,pY 0 cI 0 (eY.set (tl i k) (Xz eY i k a dm carry)))] 545 (pc (show (65536:Int)≠0 by decide) (pc c2 (pc (dV c2) (pc (az eY (tl i k) (Xz eY i k a dm carry)) (pc (az eY (tl i k) (Xz eY i k a dm carry)) (pc (cF cI 0 eY (tl i k) (Xz eY i k a dm carry)) pn)))))) <| cd hE 0 yY (kq [0]) 593 (pc (show (65536:Int)≠0 by decide) pn) <| aj hE 1 yY (kq [0]) 641 <| cy hE 1 yY (kq [0]) 1 (ih _ _ _ _ h E hE)
  ·refine aj hE 2 tq (kq [0]) 177 <| cy hE 1 tq (kq [0]) 1 (Ke _ _ _ h E hE)
theorem Kf (N a b fuel):B9 N a b (kP N a b fuel):=by
 induction fuel with
 | zero=>intro _ _ r h;rw [kP.eq_1] at h;cases h
 | succ fuel ih =>
  intro out i r h E hE
  rw [kP.eq_2] at h
  refine aj hE 2 (kp [0,1,5,6,20]) (kq [0]) 65 <| cx 0 20 h (fun cP h=>?_) (fun cP h=>?_)
  ·refine aj hE 4 Fi (kq [0]) 81 <| aj hE 1 yY (kq [0]) 97 <| cy hE 2 yY (kq [0]) 1 (Kd N _ _ _ _ ih N _ _ _ _ h E hE)
  ·obtain ⟨bJ,dy,h⟩:=ax h
   refine bc hE 2 [(1,⟨[],true,(b5 cI 0 bJ),[],0,true,none⟩)] (kp [4]) [] 113 (pc (qo _ _ _ dy) (pc (z1 out.length) pn)) ?_
   obtain rfl:=kR h
   exact fw hE 0 Tryz.f150 (kp [4]) [] 113
theorem zg (N a b r) (h:nP N a b=some r):Sd 150 [(b5 cI 0 a),(b5 cI 0 b)] [] 0 (b5 cI 0 r) []:=by
 unfold nP at h
 refine sO Tryz.f150 61 fun E hE=>?_
 refine aj hE 1 (kp [0,1]) [] 16 ?_
 obtain ⟨c,h⟩:=ae h
 refine cd hE 1 (kp [0,1] ++ [(5,.lx ((agr a b).length))]) [(112,pY 112 cI 0 (agr a b))] 144 (pc c.1 (pc (Int.le_refl (Zy a b)) (pc c.2.1 (pc c.2.2 (pc (lR (agh a b) (0:Int)) (pc (lR (agh a b) (0:Int)) (pc (ru cI 0 0 (agh a b)) pn))))))) <| aj hE 2 tq (kq [112]) 160 <| cy hE 2 tq [(0,.af 112)] 1 (Kf N _ _ N _ _ _ h E hE)
noncomputable abbrev ahc:=bt Tryz.f161
def I2 (N:Nat) (a:List Int) (b:List Int) (K:Int->Option (Int)):Prop:=∀ (i:Int) (r:Int),K i=some r->∀ E,aP E 0->ay Tryz.prog E 161 41 (aQ E [] (aI r)) [.code (ahc 116),.inLoop (ahc 116),.inBlock 0,.code (ahc 15)] ⟨[(vw a),(vz b),(5,(aI i))],[],0⟩
theorem Hg (N a b fuel):I2 N a b (ja N a b fuel):=by
 induction fuel with
 | zero=>intro _ r h;rw [ja.eq_1] at h;cases h
 | succ fuel ih =>
  intro i r h E hE
  rw [ja.eq_2] at h
  refine aj hE 2 (kp [0,1,5,20]) [] 32 <| cx 0 20 h (fun gX h=>?_) (fun gX h=>?_)
  ·obtain ⟨c,h⟩:=ae h
   obtain ⟨c2,h⟩:=ae h
   refine cd hE 4 (kp [0,1,5,31]) [] 176 (pc c (pc c2 pn)) <| cx 0 31 h (fun sb h=>?_) (fun sb h=>?_)
   ·refine cd hE 1 (kp [4]) [] 336 (pc c (pc c2 pn)) ?_
    cases h
    exact fw hE 0 Tryz.f161 (kp [4]) [] 336
   ·refine aj hE 2 r9 [] 224 <| cy hE 1 r9 [] 0 (ih _ _ h E hE)
  ·refine aj hE 2 (kp [4]) [] 48 ?_
   cases h
   exact fw hE 0 Tryz.f161 (kp [4]) [] 48
theorem Ca (N a b r) (h:qi N a b=some r):Sd 161 [(b5 cI 0 a),(b5 cI 0 b)] [] 0 (aI r) []:=by
 unfold qi at h
 refine sO Tryz.f161 41 fun E hE=>?_
 refine aj hE 1 (kp [0,1]) [] 16 <| aj hE 2 (kp [0,1,10]) [] 96 <| cx 0 10 h (fun cP h=>?_) (fun cP h=>?_)
 ·refine aj hE 1 (kp [4]) [] 192 ?_
  cases h
  exact fw hE 0 Tryz.f161 (kp [4]) [] 192
 ·refine aj hE 3 r9 [] 160 <| cy hE 2 r9 [] 0 (Hg N _ _ N _ _ h E hE)
noncomputable abbrev QN:=bt Tryz.f162
def Cb (N:Nat) (a:List Int) (b:List Int) (K:(List Int)->Int->Int->Option l8):Prop:=∀ (out:List Int) (borrow:Int) (i:Int) (r:(List Int)),K out borrow i=some r->∀ E,aP E 0->ay Tryz.prog E 162 35 (aQ E [] (b5 cI 0 r)) [.code (QN 244),.inLoop (QN 244),.inBlock 0,.code (QN 31)] ⟨[(vw a),(vz b),(5,(lN out)),(6,(aI borrow)),(7,(aI i))],[(0,aO 1 cI 0 out)],1⟩
def Mi (N:Nat) (a:List Int) (b:List Int) (out:List Int) (i:Int) (K:Int->Int->Option l8):Prop:=∀ (nB:Int) (s:Int) (r:(List Int)),K nB s=some r->∀ E,aP E 0->ay Tryz.prog E 162 35 (aQ E [] (b5 cI 0 r)) [.code (QN 15655),.inBlock 1,.code (QN 979),.inLoop (QN 244),.inBlock 0,.code (QN 31)] ⟨[(vw a),(vz b),(5,(lN out)),(6,(aI nB)),(7,(aI i)),(8,(aI s))],[(0,aO 1 cI 0 out)],1⟩
theorem Ai (N:Nat) (a:List Int) (b:List Int) (out:List Int) (i:Int) (rE:(List Int)->Int->Int->Option l8) (Kg:Cb N a b rE):Mi N a b out i (oL N a b out i rE):=by
 intro nB s r h E hE
 unfold oL at h
 obtain ⟨c2,h⟩:=ae h
 refine cd hE 0 (kp [0,1] ++ [(5,.lx ((out ++ ([s]:List Int)).length))] ++ kp [6,7]) [(49,pY 49 cI 0 (out ++ ([s]:List Int)))] 81 (pc (Eq.refl out.length) (pc c2 (pc (z1 1) (pc (oN [[(aI s)]]) (pc (bT out ([s]:List Int)) (pc (bT out ([s]:List Int)) (pc (Ta cI 0 out ([s]:List Int)) pn))))))) <| aj hE 1 Fi (kq [49]) 129 <| cy hE 1 Fi [(0,.af 49)] 1 (Kg _ _ _ _ h E hE)
theorem Kh (N a b fuel):Cb N a b (iG N a b fuel):=by
 induction fuel with
 | zero=>intro _ _ _ r h;rw [iG.eq_1] at h;cases h
 | succ fuel ih =>
  intro out borrow i r h E hE
  rw [iG.eq_2] at h
  refine aj hE 2 (kp [0,1,5,6,7,12]) (kq [0]) 65 <| cx 0 12 h (fun cP h=>?_) (fun cP h=>?_)
  ·obtain ⟨c,h⟩:=ae h
   obtain ⟨dm,hr,h⟩:=ax h
   refine bc hE 4 [(6,oT (aI dm))] vD (kq [0]) 241 (pc c (pc (uJ _ _ _ _ hr) pn)) <| aj hE 1 yY (kq [0]) 257 <| aj hE 2 (kp [0,1,5,6,7,8,26]) (kq [0]) 289 <| cx 0 26 h (fun gX h=>?_) (fun gX h=>?_)
   ·refine aj hE 1 vD (kq [0]) 337 <| aj hE 0 yY (kq [0]) 353 <| cy hE 0 yY (kq [0]) 1 (Ai N _ _ _ _ _ ih _ _ _ h E hE)
   ·exact cy hE 1 yY (kq [0]) 1 (Ai N _ _ _ _ _ ih _ _ _ h E hE)
  ·obtain ⟨bJ,dy,h⟩:=ax h
   refine bc hE 2 [(1,⟨[],true,(b5 cI 0 bJ),[],0,true,none⟩)] (kp [4]) [] 113 (pc (qo _ _ _ dy) (pc (z1 out.length) pn)) ?_
   obtain rfl:=kR h
   exact fw hE 0 Tryz.f162 (kp [4]) [] 113
theorem zh (N a b r) (h:tP N a b=some r):Sd 162 [(b5 cI 0 a),(b5 cI 0 b)] [] 0 (b5 cI 0 r) []:=by
 unfold tP at h
 refine sO Tryz.f162 35 fun E hE=>?_
 refine aj hE 1 (kp [0,1]) [] 16 <| aj hE 1 r9 [] 32 <| aj hE 1 tq [] 48 <| aj hE 2 Fi [] 64 <| cy hE 2 agD [(0,.nil 1 P2)] 1 (Kh N _ _ N _ _ _ _ h E hE)
noncomputable abbrev DP:=bt Tryz.f149
def xl (N:Nat) (a:List Int) (b:List Int) (K:(List Int)->(List Int)->Int->Option JP):Prop:=∀ (rest:List Int) (q:List Int) (i:Int) (r:(List Int)×(List Int)),K rest q i=some r->∀ E,aP E 0->ay Tryz.prog E 149 63 (aQ E [] (Ik r)) [.code (DP 244),.inLoop (DP 244),.inBlock 0,.code (DP 31)] ⟨[(vw a),(vz b),(6,(b5 cI 0 rest)),(7,(lN q)),(8,(aI i))],[(0,aO 1 cI 0 q)],1⟩
def NU (N:Nat) (a:List Int) (b:List Int) (q:List Int) (i:Int) (bJ:(List Int)) (K:Int->Int->Option JP):Prop:=∀ (lo:Int) (hi:Int) (r:(List Int)×(List Int)),K lo hi=some r->∀ E,aP E 0->ay Tryz.prog E 149 63 (aQ E [] (Ik r)) [.code (DP 62616),.inLoop (DP 62616),.inBlock 2,.code (DP 15655),.inBlock 1,.code (DP 979),.inLoop (DP 244),.inBlock 0,.code (DP 31)] ⟨[(vw a),(vz b),(6,(b5 cI 0 bJ)),(7,(lN q)),(8,(aI i)),(9,(aI lo)),(10,(aI hi))],[(0,aO 1 cI 0 q)],1⟩
def NV (N:Nat) (a:List Int) (b:List Int) (q:List Int) (i:Int) (lo:Int) (K:(List Int)->Option JP):Prop:=∀ (EU:List Int) (r:(List Int)×(List Int)),K EU=some r->∀ E,aP E 0->ay Tryz.prog E 149 63 (aQ E [] (Ik r)) [.code (DP 979),.inLoop (DP 244),.inBlock 0,.code (DP 31)] ⟨[(vw a),(vz b),(6,(b5 cI 0 EU)),(7,(.os 0 0 ((q.set ((i).toNat) lo).length))),(8,(aI i))],[(0,aO 1 cI 0 (q.set ((i).toNat) lo))],1⟩
theorem Cc (N:Nat) (a:List Int) (b:List Int) (q:List Int) (i:Int) (lo:Int) (fm:(List Int)->(List Int)->Int->Option JP) (rH:xl N a b fm):NV N a b q i lo (qj N a b q i lo fm):=by
 intro EU r h E hE
 unfold qj at h
 refine aj hE 0 vE (kq [0]) 49 <| cy hE 1 vE (kq [0]) 1 (rH _ _ _ _ h E hE)
theorem Mj (N:Nat) (a:List Int) (b:List Int) (q:List Int) (i:Int) (bJ:(List Int)) (fm:(List Int)->(List Int)->Int->Option JP) (rH:xl N a b fm) (fuel:Nat):NU N a b q i bJ (kx N a b q i bJ fm fuel):=by
 induction fuel with
 | zero=>intro _ _ r h;rw [kx.eq_1] at h;cases h
 | succ fuel ih =>
  intro lo hi r h E hE
  rw [kx.eq_2] at h
  refine aj hE 2 (kp [0,1,6,7,8,9,10,32]) (kq [0]) 49 <| cx 0 32 h (fun gX h=>?_) (fun gX h=>?_)
  ·refine cd hE 3 (kp [0,1,6,7,8,9,10,11]) (kq [0]) 145 (pc (show (2:Int)≠0 by decide) pn) ?_
   obtain ⟨qu,dy,h⟩:=ax h
   obtain ⟨jx,ia,h⟩:=ax h
   refine bc hE 1 [(3,⟨[],true,(b5 cI 0 qu),[],0,true,none⟩),(5,oT (aI jx))] (kp [0,1,6,7,8,9,10,11,44]) (kq [0]) 257 (pc (show Sd 150 [(b5 cI 0 b),(.sl 1 (fun zi=>(fun zi=>([[(aI (aE ((aE ((aE (lo+hi))+1)).tdiv 2)))]]:List (List AV)).getD zi []) (bB 0 zi)))] [] 0 (b5 cI 0 qu) [] from (Sound.conv (zg _ _ _ _ dy) (.cons (Alike.refl _) (.cons (Alike.sl rfl (dJ cI 0 ([(aE ((aE ((aE (lo+hi))+1)).tdiv 2))]:List Int))) .nil)))) (pc (z1 1) (pc (Ca _ _ _ _ ia) pn))) <| cx 0 44 h (fun sb h=>?_) (fun sb h=>?_)
   ·refine aj hE 0 LL (kq [0]) 289 <| cy hE 2 LL (kq [0]) 1 (ih _ _ _ h E hE)
   ·refine aj hE 0 LL (kq [0]) 305 <| cy hE 2 LL (kq [0]) 1 (ih _ _ _ h E hE)
  ·obtain ⟨c4,h⟩:=ae h
   refine cd hE 2 (kp [0,1,6] ++ [(7,.lx ((q.set ((i).toNat) lo).length))] ++ kp [8,9]) [(0,pY 0 cI 0 (q.set ((i).toNat) lo))] 129 (pc c4 (pc (dV c4) (pc (az q ((i).toNat) lo) (pc (az q ((i).toNat) lo) (pc (cF cI 0 q ((i).toNat) lo) pn))))) <| aj hE 1 (kp [0,1,6,7,8,9,53]) (kq [0]) 161 <| cx 0 53 h (fun Ft h=>?_) (fun Ft h=>?_)
   ·obtain ⟨Om,kT,h⟩:=ax h
    obtain ⟨qP,oW,h⟩:=ax h
    refine bc hE 0 [(4,⟨[],true,(b5 cI 0 Om),[],0,true,none⟩),(5,oT (b5 cI 0 qP))] vE (kq [0]) 273 (pc (show Sd 150 [(b5 cI 0 b),(agk lo)] [] 0 (b5 cI 0 Om) [] from (Sound.conv (zg _ _ _ _ kT) (.cons (Alike.refl _) (.cons (Alike.sl rfl (dJ cI 0 ([lo]:List Int))) .nil)))) (pc (z1 1) (pc (zh _ _ _ _ oW) pn))) <| cy hE 1 vE (kq [0]) 1 (Cc N _ _ _ _ _ _ rH _ _ h E hE)
   ·exact cy hE 2 vE (kq [0]) 1 (Cc N _ _ _ _ _ _ rH _ _ h E hE)
theorem Mk (N a b fuel):xl N a b (ky N a b fuel):=by
 induction fuel with
 | zero=>intro _ _ _ r h;rw [ky.eq_1] at h;cases h
 | succ fuel ih =>
  intro rest q i r h E hE
  rw [ky.eq_2] at h
  refine aj hE 2 (kp [0,1,6,7,8,19]) (kq [0]) 33 <| cx 0 19 h (fun cP h=>?_) (fun cP h=>?_)
  ·obtain ⟨c2,h⟩:=ae h
   obtain ⟨c3,h⟩:=ae h
   obtain ⟨bJ,hr,h⟩:=ax h
   refine bc hE 4 [(7,⟨[],true,(b5 cI 0 bJ),[],0,true,none⟩)] vE (kq [0]) 177 (pc c2 (pc (Eq.refl 1) (pc c3 (pc (show ∀ zi,zi < rest.length->AV.su ((fun zi=>cI (rest.getD zi 0)) zi)=true from (fun _ _=>rfl)) (pc (show Sd 164 [(.sl (1+rest.length) (fun zi=>((fun zm=>if zm < 1 then (fun zi=>([[(aI (xH a i))]]:List (List AV)).getD zi []) zm else (fun zi=>cI (rest.getD zi 0)) (zm - 1))) (bB 0 zi)))] [] 0 (b5 cI 0 bJ) [] from (Sound.conv (qo _ _ _ hr) (.cons (Alike.sl (wo rfl rfl) (tK cI 0 ([(xH a i)]:List Int) rest rfl (dJ cI 0 ([(xH a i)]:List Int)) (eR cI 0 rest))) .nil))) (pc (z1 (1+rest.length)) pn)))))) <| aj hE 1 LL (kq [0]) 209 <| cy hE 3 LL (kq [0]) 1 (Mj N _ _ _ _ _ _ ih N _ _ _ h E hE)
  ·obtain ⟨fJ,vG,h⟩:=ax h
   refine bc hE 2 [(1,⟨[],true,(b5 cI 0 fJ),[],0,true,none⟩)] (kp [4,5]) [] 113 (pc (qo _ _ _ vG) (pc (z1 q.length) pn)) ?_
   cases h
   exact fw hE 0 Tryz.f149 (kp [4,5]) [] 113
theorem Ba (N a b r) (h:qY N a b=some r):Sd 149 [(b5 cI 0 a),(b5 cI 0 b)] [] 0 (Ik r) []:=by
 unfold qY at h
 refine sO Tryz.f149 63 fun E hE=>?_
 refine aj hE 1 (kp [0,1]) [] 32 <| aj hE 1 (kp [0,1,6]) [] 48 ?_
 obtain ⟨c,h⟩:=ae h
 refine cd hE 1 (kp [0,1,6] ++ [(7,.lx (agc a))]) [(80,pY 80 cI 0 (UL a))] 112 (pc c.1 (pc (Int.le_refl (Tn a)) (pc c.2.1 (pc c.2.2 (pc (lR a.length (0:Int)) (pc (lR a.length (0:Int)) (pc (ru cI 0 0 a.length) pn))))))) <| aj hE 2 vE (kq [80]) 176 <| rnW hE 2 [] (kp [0,1] ++ [(6,rM cI 0 ([]:List Int))] ++ kp [7,8]) [(0,.af 80)] 1 (pc (Eq.refl 0) pn) (Mk N _ _ N _ _ _ _ h E hE)
noncomputable abbrev ahd:=bt Tryz.f148
def QO (N:Nat) (K:(List Int)->(List Int)->Option l8):Prop:=∀ (a2:List Int) (b2:List Int) (r:(List Int)),K a2 b2=some r->∀ E,aP E 0->ay Tryz.prog E 148 19 (aQ E [] (b5 cI 0 r)) [.code (ahd 24),.inLoop (ahd 24),.inBlock 0,.code (ahd 7)] ⟨[(vw a2),(vz b2)],[],0⟩
theorem NW (N fuel):QO N (pK N fuel):=by
 induction fuel with
 | zero=>intro _ _ r h;rw [pK.eq_1] at h;cases h
 | succ fuel ih =>
  intro a2 b2 r h E hE
  rw [pK.eq_2] at h
  refine aj hE 2 (kp [0,1,9]) [] 48 <| cx 0 9 h (fun cP h=>?_) (fun cP h=>?_)
  ·obtain ⟨ko,hr,h⟩:=ax h
   refine bc hE 3 [(2,oT (Ik ko))] (kp [1,6]) [] 176 (pc (Ba _ _ _ _ hr) pn) <| aj hE 0 (kp [0,1]) [] 240 <| cy hE 2 (kp [0,1]) [] 0 (ih _ _ _ h E hE)
  ·refine aj hE 2 (kp [4]) [] 80 ?_
   obtain rfl:=kR h
   exact fw hE 0 Tryz.f148 (kp [4]) [] 80
theorem VO (N a b r) (h:GF N a b=some r):Sd 148 [(b5 cI 0 a),(b5 cI 0 b)] [] 0 (b5 cI 0 r) []:=by
 unfold GF at h
 refine sO Tryz.f148 19 fun E hE=>?_
 refine aj hE 1 (kp [0,1]) [] 16 <| cy hE 3 (kp [0,1]) [] 0 (NW N N _ _ _ h E hE)
theorem v7 (N a b r) (h:qZ N a b=some r):Sd 126 [(ba a),(ba b)] [] 0 (ao r) []:=by
 unfold qZ at h
 refine sO Tryz.f126 52 fun E hE=>?_
 refine aj hE 1 kg cC 48 ?_
 obtain ⟨tR,hr,h⟩:=ax h
 obtain ⟨rV,dy,h⟩:=ax h
 refine bc hE 1 [(2,oT (b5 cI 0 tR)),(5,oT (b5 cI 0 rV))] tu cC 176 (pc o1 (pc (og _ _ _ hr) (pc o1 (pc (og _ _ _ dy) pn)))) <| aj hE 2 (kp [2,3,4,5,6,20]) cC 224 <| cx 0 20 h (fun cP h=>?_) (fun cP h=>?_)
 ·obtain ⟨uy,ia,h⟩:=ax h
  obtain ⟨Te,kT,h⟩:=ax h
  refine bc hE 1 [(3,oT (ba uy)),(4,oT (ba Te))] (kp [4]) (kq [32]) 336 (pc o1 (pc (kC _ _ _ _ ia) (pc (FQ _ _ _ kT) (pc o1 pn)))) ?_
  cases h
  exact jn hE 0 Tryz.f126 [] (kp [4]) [(16,.af 32)] 336 pn [16] (pc o1 pn)
 ·obtain ⟨akf,oW,h⟩:=ax h
  refine bc hE 2 [(2,oT (b5 cI 0 akf))] LV cC 288 (pc (VO _ _ _ _ oW) pn) ?_
  obtain ⟨ko,vG,h⟩:=ax h
  refine bc hE 1 [(2,oT (Ik ko))] (kp [2,3,4,6,7,8]) cC 416 (pc (Ba _ _ _ _ vG) pn) ?_
  obtain ⟨mV,x6,h⟩:=ax h
  refine bc hE 1 [(2,oT (Ik mV))] (kp [2,3,4,8,10]) cC 544 (pc (Ba _ _ _ _ x6) pn) ?_
  obtain ⟨H4,IS,h⟩:=ax h
  obtain ⟨H5,IQ,h⟩:=ax h
  refine bc hE 1 [(6,oT (ba H4)),(8,oT (ba H5))] (kp [4]) (kq [32]) 720 (pc o1 (pc o1 (pc (kC _ _ _ _ IS) (pc (kC _ _ _ _ IQ) (pc o1 pn))))) ?_
  cases h
  exact jn hE 0 Tryz.f126 [] (kp [4]) [(16,.af 32)] 720 pn [16] (pc o1 pn)
theorem kj (N x r) (h:jt N x=some r):Sd 125 [(ao x)] [] 0 (ao r) []:=by
 unfold jt at h
 refine sO Tryz.f125 8 fun E hE=>?_
 refine aj hE 1 (kp [1,2]) fH 32 ?_
 obtain ⟨yO,hr,h⟩:=ax h
 refine bc hE 1 [(4,oT (ao yO))] (kp [2]) (kq [16]) 128 (pc o1 (pc o1 (pc (v7 _ _ _ _ hr) (pc o1 pn)))) ?_
 obtain rfl:=kR h
 exact jn hE 0 Tryz.f125 [] (kp [2]) (kq [16]) 128 pn [16] (pc o1 pn)
theorem pQ (N a b r) (h:qk N a b=some r):Sd 127 [(ba a),(ba b)] [] 0 (ba r) []:=by
 unfold qk at h
 refine sO Tryz.f127 18 fun E hE=>?_
 refine aj hE 1 kg cC 48 ?_
 obtain ⟨tR,hr,h⟩:=ax h
 obtain ⟨rV,dy,h⟩:=ax h
 obtain ⟨qu,ia,h⟩:=ax h
 obtain ⟨uy,kT,h⟩:=ax h
 refine bc hE 1 [(7,oT (b5 cI 0 tR)),(10,oT (b5 cI 0 rV)),(11,oT (b5 cI 0 qu)),(12,oT (ba uy))] (kp [4]) (kq [32]) 272 (pc o1 (pc o1 (pc o1 (pc (og _ _ _ hr) (pc o1 (pc (og _ _ _ dy) (pc (zg _ _ _ _ ia) (pc (kC _ _ _ _ kT) (pc o1 pn))))))))) ?_
 obtain rfl:=kR h
 exact jn hE 0 Tryz.f127 [] (kp [4]) [(16,.af 32)] 272 pn [16] (pc o1 pn)
noncomputable abbrev ahe:=bt Tryz.f160
def NX (N:Nat) (a:List Int) (b:List Int) (K:(List Int)->Int->Int->Option l8):Prop:=∀ (out:List Int) (carry:Int) (i:Int) (r:(List Int)),K out carry i=some r->∀ E,aP E 0->ay Tryz.prog E 160 43 (aQ E [] (b5 cI 0 r)) [.code (ahe 244),.inLoop (ahe 244),.inBlock 0,.code (ahe 31)] ⟨[(vw a),(vz b),(5,(lN out)),(6,(aI carry)),(7,(aI i))],[(0,aO 1 cI 0 out)],1⟩
theorem Ml (N a b fuel):NX N a b (l7 N a b fuel):=by
 induction fuel with
 | zero=>intro _ _ _ r h;rw [l7.eq_1] at h;cases h
 | succ fuel ih =>
  intro out carry i r h E hE
  rw [l7.eq_2] at h
  refine cd hE 2 (kp [0,1,5,6,7,22]) (kq [0]) 225 (pc (fun hg:(Xs i a)=true=>(pc hg pn)) (pc (fun hg:(Xs i a)=true=>(pc hg (pc hg pn))) (pc (fun hq:(Xs i a)=true=>(pc hq pn)) (pc (fun hg:(!(cond (PL i a) true (PL i b)))=true=>(pc hg pn)) (pc (fun hq:(!(cond (PL i a) true (PL i b)))=true=>(pc hq pn)) pn))))) <| cx 0 22 h (fun cP h=>?_) (fun cP h=>?_)
  ·obtain ⟨dm,hr,h⟩:=ax h
   obtain ⟨vV,dy,h⟩:=ax h
   refine bc hE 4 [(2,oT (aI dm)),(5,oT (aI vV))] vD (kq [0]) 385 (pc (uJ _ _ _ _ hr) (pc (uJ _ _ _ _ dy) pn)) ?_
   obtain ⟨c,h⟩:=ae h
   refine cd hE 1 (kp [0,1] ++ [(5,.lx ((out ++ (PW dm vV carry)).length))] ++ kp [7,8]) [(449,pY 449 cI 0 (out ++ (PW dm vV carry)))] 481 (pc (show (65536:Int)≠0 by decide) (pc (Eq.refl out.length) (pc c (pc (z1 1) (pc (oN [[(aI ((aE ((aE (dm+vV))+carry)).tmod 65536))]]) (pc (bT out (PW dm vV carry)) (pc (bT out (PW dm vV carry)) (pc (Ta cI 0 out (PW dm vV carry)) pn)))))))) <| cd hE 0 Fi (kq [449]) 529 (pc (show (65536:Int)≠0 by decide) pn) <| aj hE 1 Fi (kq [449]) 577 <| cy hE 1 Fi [(0,.af 449)] 1 (ih _ _ _ _ h E hE)
  ·obtain ⟨bJ,ia,h⟩:=ax h
   refine bc hE 2 [(1,⟨[],true,(b5 cI 0 bJ),[],0,true,none⟩)] (kp [4]) [] 273 (pc (qo _ _ _ ia) (pc (z1 out.length) pn)) ?_
   obtain rfl:=kR h
   exact fw hE 0 Tryz.f160 (kp [4]) [] 273
theorem Sh (N a b r) (h:CN N a b=some r):Sd 160 [(b5 cI 0 a),(b5 cI 0 b)] [] 0 (b5 cI 0 r) []:=by
 unfold CN at h
 refine sO Tryz.f160 43 fun E hE=>?_
 refine aj hE 1 (kp [0,1]) [] 16 <| aj hE 1 r9 [] 32 <| aj hE 1 tq [] 48 <| aj hE 2 Fi [] 64 <| cy hE 2 agD [(0,.nil 1 P2)] 1 (Ml N _ _ N _ _ _ _ h E hE)
theorem VP (N a b r) (h:GG N a b=some r):Sd 143 [(ba a),(ba b)] [] 0 (ba r) []:=by
 unfold GG at h
 refine sO Tryz.f143 40 fun E hE=>?_
 refine aj hE 1 kg cC 48 ?_
 obtain ⟨tR,hr,h⟩:=ax h
 obtain ⟨rV,dy,h⟩:=ax h
 refine bc hE 1 [(2,oT (b5 cI 0 tR)),(5,oT (b5 cI 0 rV))] tu cC 176 (pc o1 (pc (og _ _ _ hr) (pc o1 (pc (og _ _ _ dy) pn)))) <| cd hE 2 ZY cC 256 (pc o1 (pc o1 pn)) <| cx 0 17 h (fun cP h=>?_) (fun cP h=>?_)
 ·obtain ⟨zW,ia,h⟩:=ax h
  obtain ⟨uy,kT,h⟩:=ax h
  refine bc hE 1 [(4,oT (b5 cI 0 zW)),(5,oT (ba uy))] (kp [4]) (kq [32]) 368 (pc o1 (pc (Sh _ _ _ _ ia) (pc (kC _ _ _ _ kT) (pc o1 pn)))) ?_
  obtain rfl:=kR h
  exact jn hE 0 Tryz.f143 [] (kp [4]) [(16,.af 32)] 368 pn [16] (pc o1 pn)
 ·obtain ⟨jx,oW,h⟩:=ax h
  refine bc hE 3 [(2,oT (aI jx))] Z0 cC 320 (pc (Ca _ _ _ _ oW) pn) <| cx 0 27 h (fun gX h=>?_) (fun gX h=>?_)
  ·obtain ⟨qP,vG,h⟩:=ax h
   obtain ⟨H4,x6,h⟩:=ax h
   refine bc hE 1 [(4,oT (b5 cI 0 qP)),(5,oT (ba H4))] (kp [4]) (kq [32]) 432 (pc o1 (pc (zh _ _ _ _ vG) (pc (kC _ _ _ _ x6) (pc o1 pn)))) ?_
   obtain rfl:=kR h
   exact jn hE 0 Tryz.f143 [] (kp [4]) [(16,.af 32)] 432 pn [16] (pc o1 pn)
  ·obtain ⟨xU,IS,h⟩:=ax h
   obtain ⟨H5,IQ,h⟩:=ax h
   refine bc hE 2 [(4,oT (b5 cI 0 xU)),(5,oT (ba H5))] (kp [4]) (kq [32]) 432 (pc o1 (pc (zh _ _ _ _ IS) (pc (kC _ _ _ _ IQ) (pc o1 pn)))) ?_
   obtain rfl:=kR h
   exact jn hE 0 Tryz.f143 [] (kp [4]) [(16,.af 32)] 432 pn [16] (pc o1 pn)
theorem qc (N x y r) (h:nQ N x y=some r):Sd 117 [(ao x),(ao y)] [] 0 (ao r) []:=by
 unfold nQ at h
 refine sO Tryz.f117 28 fun E hE=>?_
 refine aj hE 1 kg cC 48 ?_
 obtain ⟨jb,hr,h⟩:=ax h
 obtain ⟨kf,dy,h⟩:=ax h
 refine bc hE 1 [(1,oT (ao jb)),(3,oT (ao kf))] AS (kq [32,112,128]) 176 (pc o1 (pc (kj _ _ _ hr) (pc o1 (pc (kj _ _ _ dy) (pc o1 (pc o1 pn)))))) ?_
 obtain ⟨uq,ia,h⟩:=ax h
 obtain ⟨nC,kT,h⟩:=ax h
 obtain ⟨Uw,oW,h⟩:=ax h
 obtain ⟨JK,vG,h⟩:=ax h
 obtain ⟨yO,x6,h⟩:=ax h
 refine bc hE 1 [(4,oT (ba uq)),(9,oT (ba nC)),(10,oT (ba Uw)),(15,oT (ba JK)),(16,oT (ao yO))] (kp [4]) (kq [32]) 464 (pc o1 (pc o1 (pc (pQ _ _ _ _ ia) (pc o1 (pc o1 (pc (pQ _ _ _ _ kT) (pc (VP _ _ _ _ oW) (pc o1 (pc o1 (pc (pQ _ _ _ _ vG) (pc (v7 _ _ _ _ x6) (pc o1 pn)))))))))))) ?_
 obtain rfl:=kR h
 exact jn hE 0 Tryz.f117 [] (kp [4]) [(16,.af 32)] 464 pn [16] (pc o1 pn)
theorem jO (N x y r) (h:jE N x y=some r):Sd 83 [(ao x),(ao y)] [] 0 (ao r) []:=by
 unfold jE at h
 refine sO Tryz.f83 22 fun E hE=>?_
 refine aj hE 1 kg cC 48 ?_
 obtain ⟨jb,hr,h⟩:=ax h
 obtain ⟨kf,dy,h⟩:=ax h
 refine bc hE 1 [(1,oT (ao jb)),(3,oT (ao kf))] AS (kq [32,112,128]) 176 (pc o1 (pc (kj _ _ _ hr) (pc o1 (pc (kj _ _ _ dy) (pc o1 (pc o1 pn)))))) ?_
 obtain ⟨uq,ia,h⟩:=ax h
 obtain ⟨nC,kT,h⟩:=ax h
 obtain ⟨yO,oW,h⟩:=ax h
 refine bc hE 1 [(4,oT (ba uq)),(9,oT (ba nC)),(10,oT (ao yO))] (kp [4]) (kq [32]) 368 (pc o1 (pc o1 (pc (pQ _ _ _ _ ia) (pc o1 (pc o1 (pc (pQ _ _ _ _ kT) (pc (v7 _ _ _ _ oW) (pc o1 pn)))))))) ?_
 obtain rfl:=kR h
 exact jn hE 0 Tryz.f83 [] (kp [4]) [(16,.af 32)] 368 pn [16] (pc o1 pn)
noncomputable abbrev ahf:=bt Tryz.f118
def I3 (N:Nat) (l:List Int) (K:aa->Int->Option (aa)):Prop:=∀ (out:aa) (i:Int) (r:aa),K out i=some r->∀ E,aP E 0->ay Tryz.prog E 118 20 (aQ E [] (ao r)) [.code (ahf 116),.inLoop (ahf 116),.inBlock 0,.code (ahf 15)] ⟨[(vw l),(2,(.op 0 0 0)),(3,(.op 1 0 0)),(4,(aI i))],[(0,vO 4 [(aB false),.nil,(aB false),.nil]),(1,vO 4 (xc out))],2⟩
theorem Hh (N l fuel):I3 N l (jc N l fuel):=by
 induction fuel with
 | zero=>intro _ _ r h;rw [jc.eq_1] at h;cases h
 | succ fuel ih =>
  intro out i r h E hE
  rw [jc.eq_2] at h
  refine aj hE 2 (kp [0,2,3,4,9]) (kq [0,1]) 66 <| cx 0 9 h (fun cP h=>?_) (fun cP h=>?_)
  ·obtain ⟨c,h⟩:=ae h
   obtain ⟨rQ2,dy,h⟩:=ax h
   obtain ⟨aY,ia,h⟩:=ax h
   refine bc hE 3 [(5,oT (ao rQ2)),(6,oT (ao aY))] C7 (kq [0,1]) 194 (pc o1 (pc c (pc (lu _ _ _ dy) (pc (jO _ _ _ _ ia) (pc o1 pn))))) <| aj hE 1 C7 (kq [0,1]) 242 <| cy hE 1 C7 (kq [0,1]) 2 (ih _ _ _ h E hE)
  ·refine cd hE 2 (kp [2]) (kq [0]) 98 (pc o1 (pc o1 pn)) ?_
   obtain rfl:=kR h
   exact jn hE 0 Tryz.f118 [] (kp [2]) [(16,.af 0)] 98 pn [16] (pc o1 pn)
theorem md (N l r) (h:kz N l=some r):Sd 118 [(b5 cI 0 l)] [] 0 (ao r) []:=by
 unfold kz at h
 refine sO Tryz.f118 20 fun E hE=>?_
 refine aj hE 1 (kp [0,2]) (kq [0]) 16 ?_
 obtain ⟨rQ,hr,h⟩:=ax h
 refine bc hE 1 [(0,oT (ao rQ))] Fj AU 64 (pc (lu _ _ _ hr) (pc o1 pn)) <| aj hE 2 C7 AU 80 <| cy hE 2 C7 Z9 2 (Hh N _ N _ _ _ h E hE)
theorem Si (N n r) (h:yP N n=some r):Sd 119 [(aI n)] [] 0 (aI r) []:=by
 unfold yP at h
 refine sO Tryz.f119 8 fun E hE=>?_
 refine aj hE 1 (kp [0]) [] 16 <| aj hE 2 (kp [0,4]) [] 48 <| cx 0 4 h (fun cP h=>?_) (fun cP h=>?_)
 ·refine aj hE 1 (kp [2]) [] 96 ?_
  cases h
  exact fw hE 0 Tryz.f119 (kp [2]) [] 96
 ·refine aj hE 2 (kp [2]) [] 80 ?_
  obtain rfl:=kR h
  exact fw hE 0 Tryz.f119 (kp [2]) [] 80
theorem qd (N x y r) (h:nR N x y=some r):Sd 120 [(ao x),(ao y)] [] 0 (ao r) []:=by
 unfold nR at h
 refine sO Tryz.f120 22 fun E hE=>?_
 refine aj hE 1 kg cC 48 ?_
 obtain ⟨jb,hr,h⟩:=ax h
 obtain ⟨kf,dy,h⟩:=ax h
 refine bc hE 1 [(1,oT (ao jb)),(3,oT (ao kf))] AS (kq [32,112,128]) 176 (pc o1 (pc (kj _ _ _ hr) (pc o1 (pc (kj _ _ _ dy) (pc o1 (pc o1 pn)))))) ?_
 obtain ⟨uq,ia,h⟩:=ax h
 obtain ⟨nC,kT,h⟩:=ax h
 obtain ⟨yO,oW,h⟩:=ax h
 refine bc hE 1 [(4,oT (ba uq)),(9,oT (ba nC)),(10,oT (ao yO))] (kp [4]) (kq [32]) 368 (pc o1 (pc o1 (pc (pQ _ _ _ _ ia) (pc o1 (pc o1 (pc (pQ _ _ _ _ kT) (pc (v7 _ _ _ _ oW) (pc o1 pn)))))))) ?_
 obtain rfl:=kR h
 exact jn hE 0 Tryz.f120 [] (kp [4]) [(16,.af 32)] 368 pn [16] (pc o1 pn)
theorem VQ (N a r) (h:GH N a=some r):Sd 145 [(ba a)] [] 0 (ba r) []:=by
 unfold GH at h
 refine sO Tryz.f145 10 fun E hE=>?_
 refine aj hE 1 (kp [1,2]) fH 32 ?_
 obtain ⟨tR,hr,h⟩:=ax h
 obtain ⟨uy,dy,h⟩:=ax h
 refine bc hE 1 [(5,oT (b5 cI 0 tR)),(6,oT (ba uy))] (kp [2]) (kq [16]) 160 (pc o1 (pc o1 (pc (og _ _ _ hr) (pc (kC _ _ _ _ dy) (pc o1 pn))))) ?_
 obtain rfl:=kR h
 exact jn hE 0 Tryz.f145 [] (kp [2]) (kq [16]) 160 pn [16] (pc o1 pn)
theorem NY (N x r) (h:xX N x=some r):Sd 122 [(ao x)] [] 0 (ao r) []:=by
 unfold xX at h
 refine sO Tryz.f122 12 fun E hE=>?_
 refine aj hE 1 (kp [1,2]) fH 32 ?_
 obtain ⟨jb,hr,h⟩:=ax h
 refine bc hE 1 [(1,oT (ao jb))] (kp [2,3]) (kq [16,64]) 96 (pc o1 (pc (kj _ _ _ hr) (pc o1 pn))) ?_
 obtain ⟨amV,dy,h⟩:=ax h
 refine bc hE 1 [(2,oT (ba amV))] (kp [2]) (kq [16]) 208 (pc o1 (pc (VQ _ _ _ dy) (pc o1 (pc o1 pn)))) ?_
 cases h
 exact jn hE 0 Tryz.f122 [] (kp [2]) (kq [16]) 208 pn [16] (pc o1 pn)
theorem xm (N x y r) (h:rF N x y=some r):Sd 81 [(ao x),(ao y)] [] 0 (ao r) []:=by
 unfold rF at h
 refine sO Tryz.f81 9 fun E hE=>?_
 refine aj hE 1 kg cC 48 ?_
 obtain ⟨UD,hr,h⟩:=ax h
 obtain ⟨bQ,dy,h⟩:=ax h
 refine bc hE 1 [(2,oT (ao UD)),(3,oT (ao bQ))] (kp [4]) (kq [32]) 128 (pc o1 (pc o1 (pc (NY _ _ _ hr) (pc (qc _ _ _ _ dy) (pc o1 pn))))) ?_
 obtain rfl:=kR h
 exact jn hE 0 Tryz.f81 [] (kp [4]) [(16,.af 32)] 128 pn [16] (pc o1 pn)
noncomputable abbrev ahg:=bt Tryz.f71
def Mm (N:Nat) (p:cQ) (jF:U0) (K:aa->aa->aa->aa->Int->Option (uY)):Prop:=∀ (H3:aa) (trim:aa) (adh:aa) (ends:aa) (i:Int) (r:uY),K H3 trim adh ends i=some r->∀ E,aP E 0->ay Tryz.prog E 71 132 (aQ E [] (.agg (uY.cells r))) [.code (ahg 244),.inLoop (ahg 244),.inBlock 0,.code (ahg 31)] ⟨[(2,(.op 0 0 0)),(4,(.op 1 0 0)),(5,(.op 2 0 0)),(6,(.op 3 0 0)),(7,(.op 4 0 0)),(8,(.op 5 0 0)),(9,(U5 jF)),(10,(aI i))],[(jQ p),(1,vO 16 [(aB false),.nil,(aB false),.nil,(aB false),.nil,(aB false),.nil,(aB false),.nil,(aB false),.nil,(aB false),.nil,(aB false),.nil]),(LC H3),(3,vO 4 (xc trim)),(4,vO 4 (xc adh)),(5,vO 4 (xc ends))],6⟩
theorem Ki (N p jF fuel):Mm N p jF (kQ N p jF fuel):=by
 induction fuel with
 | zero=>intro _ _ _ _ _ r h;rw [kQ.eq_1] at h;cases h
 | succ fuel ih =>
  intro H3 trim adh ends i r h E hE
  rw [kQ.eq_2] at h
  refine aj hE 2 (kp [2,4,5,6,7,8,9,10,26]) cY 70 <| cx 0 26 h (fun cP h=>?_) (fun cP h=>?_)
  ·obtain ⟨c,h⟩:=ae h
   obtain ⟨rQ5,vG,h⟩:=ax h
   obtain ⟨bQ,x6,h⟩:=ax h
   refine bc hE 4 [(6,oT (ao rQ5)),(7,oT (ao bQ))] Fl cY 214 (pc o1 (pc c (pc (lu _ _ _ vG) (pc (qc _ _ _ _ x6) (pc o1 pn))))) ?_
   obtain ⟨bU,IS,h⟩:=ax h
   obtain ⟨lz,IQ,h⟩:=ax h
   refine bc hE 1 [(12,⟨[],true,(ao bU),[],0,true,none⟩),(13,oT (ao lz))] Fl cY 454 (pc o1 (pc c (pc c (pc (show Sd 118 [(.sl 2 (fun zi=>(fun zi=>([[(aI ((Hy jF i).wU))],[(aI ((Hy jF i).zD))]]:List (List AV)).getD zi []) (bB 0 zi)))] [] 0 (ao bU) [] from (Sound.conv (md _ _ _ IS) (.cons (Alike.sl rfl (dJ cI 0 ([(Hy jF i).wU,(Hy jF i).zD]:List Int))) .nil))) (pc (z1 2) (pc (qc _ _ _ _ IQ) (pc o1 pn))))))) ?_
   obtain ⟨db,Da,h⟩:=ax h
   obtain ⟨sE,IT,h⟩:=ax h
   refine bc hE 1 [(12,⟨[],true,(ao db),[],0,true,none⟩),(13,oT (ao sE))] Fl cY 694 (pc o1 (pc c (pc c (pc (show Sd 118 [(.sl 2 (fun zi=>(fun zi=>([[(aI ((Hy jF i).wU))],[(aI ((Hy jF i).D4))]]:List (List AV)).getD zi []) (bB 0 zi)))] [] 0 (ao db) [] from (Sound.conv (md _ _ _ Da) (.cons (Alike.sl rfl (dJ cI 0 ([(Hy jF i).wU,(Hy jF i).D4]:List Int))) .nil))) (pc (z1 2) (pc (qc _ _ _ _ IT) (pc o1 pn))))))) ?_
   obtain ⟨Xp,VJ,h⟩:=ax h
   obtain ⟨iv,VK,h⟩:=ax h
   obtain ⟨PB,aae,h⟩:=ax h
   refine bc hE 0 [(11,oT (aI Xp)),(13,⟨[],true,(ao iv),[],0,true,none⟩),(14,oT (ao PB))] Fl cY 950 (pc o1 (pc c (pc c (pc (Si _ _ _ VJ) (pc (show Sd 118 [(.sl 2 (fun zi=>(fun zi=>([[(aI ((Hy jF i).wU))],[(aI Xp)]]:List (List AV)).getD zi []) (bB 0 zi)))] [] 0 (ao iv) [] from (Sound.conv (md _ _ _ VK) (.cons (Alike.sl rfl (dJ cI 0 ([(Hy jF i).wU,Xp]:List Int))) .nil))) (pc (z1 2) (pc (qc _ _ _ _ aae) (pc o1 pn)))))))) <| aj hE 1 Fl cY 998 <| cy hE 1 Fl cY 6 (ih _ _ _ _ _ _ h E hE)
  ·refine cd hE 2 (kp [4,5,6,7,8,11,12,13]) (kq [1,2,3,4,5]) 214 (pc o1 (pc o1 (pc o1 pn))) ?_
   obtain ⟨rQ6,ag2,h⟩:=ax h
   refine bc hE 1 [(0,oT (ao rQ6))] (kp [4,5,6,7,8,11,12,13,14]) (kq [1,2,3,4,5,230]) 262 (pc (lu _ _ _ ag2) (pc o1 pn)) ?_
   obtain ⟨rQ7,ag3,h⟩:=ax h
   obtain ⟨aY,ana,h⟩:=ax h
   refine bc hE 1 [(0,oT (ao rQ7)),(2,oT (ao aY))] (kp [4,5,6,7,8,11,12,13,14,15]) (kq [1,2,3,4,5,230,310]) 342 (pc (lu _ _ _ ag3) (pc o1 (pc (jO _ _ _ _ ana) (pc o1 pn)))) ?_
   obtain ⟨gr,anb,h⟩:=ax h
   obtain ⟨iw,anc,h⟩:=ax h
   obtain ⟨vT,arT,h⟩:=ax h
   obtain ⟨yK,arU,h⟩:=ax h
   obtain ⟨GI,arV,h⟩:=ax h
   obtain ⟨PC,arX,h⟩:=ax h
   obtain ⟨PD,arY,h⟩:=ax h
   obtain ⟨GJ,arZ,h⟩:=ax h
   obtain ⟨PE,ar0,h⟩:=ax h
   obtain ⟨rQ8,ar1,h⟩:=ax h
   obtain ⟨PF,ar2,h⟩:=ax h
   obtain ⟨rQ9,ar3,h⟩:=ax h
   obtain ⟨PG,ar4,h⟩:=ax h
   obtain ⟨amW,ar5,h⟩:=ax h
   obtain ⟨PH,ar6,h⟩:=ax h
   obtain ⟨eJ,ar7,h⟩:=ax h
   refine bc hE 1 [(2,oT (ao gr)),(7,⟨[],true,(ao iw),[],0,true,none⟩),(8,oT (ao vT)),(11,oT (ao yK)),(18,⟨[],true,(ao GI),[],0,true,none⟩),(19,oT (ao PC)),(22,oT (ao PD)),(29,⟨[],true,(ao GJ),[],0,true,none⟩),(30,oT (ao PE)),(32,oT (ao rQ8)),(33,oT (ao PF)),(36,oT (ao rQ9)),(37,oT (ao PG)),(38,oT (ao amW)),(39,oT (ao PH)),(40,oT (ao eJ))] (kp [4]) (kq [1]) 1030 (pc o1 (pc o1 (pc (jO _ _ _ _ anb) (pc (show Sd 118 [(.sl 3 (fun zi=>(fun zi=>([[(aI p.er)],[(aI p.oE)],[(aI p.sD)]]:List (List AV)).getD zi []) (bB 0 zi)))] [] 0 (ao iw) [] from (Sound.conv (md _ _ _ anc) (.cons (Alike.sl rfl (dJ cI 0 ([p.er,p.oE,p.sD]:List Int))) .nil))) (pc (z1 3) (pc (qd _ _ _ _ arT) (pc o1 (pc o1 (pc (jO _ _ _ _ arU) (pc (show Sd 118 [(.sl 5 (fun zi=>(fun zi=>([[(aI p.er)],[(aI p.sD)],[(aI p.oE)],[(aI p.oE)],[(aI p.oE)]]:List (List AV)).getD zi []) (bB 0 zi)))] [] 0 (ao GI) [] from (Sound.conv (md _ _ _ arV) (.cons (Alike.sl rfl (dJ cI 0 ([p.er,p.sD,p.oE,p.oE,p.oE]:List Int))) .nil))) (pc (z1 5) (pc (qd _ _ _ _ arX) (pc o1 (pc o1 (pc (jO _ _ _ _ arY) (pc (show Sd 118 [(.sl 5 (fun zi=>(fun zi=>([[(aI p.er)],[(aI p.oE)],[(aI p.sD)],[(aI p.sD)],[(aI p.sD)]]:List (List AV)).getD zi []) (bB 0 zi)))] [] 0 (ao GJ) [] from (Sound.conv (md _ _ _ arZ) (.cons (Alike.sl rfl (dJ cI 0 ([p.er,p.oE,p.sD,p.sD,p.sD]:List Int))) .nil))) (pc (z1 5) (pc (qd _ _ _ _ ar0) (pc o1 (pc (lu _ _ _ ar1) (pc (qd _ _ _ _ ar2) (pc o1 (pc (lu _ _ _ ar3) (pc (jO _ _ _ _ ar4) (pc (lu _ _ _ ar5) (pc (qd _ _ _ _ ar6) (pc (xm _ _ _ _ ar7) (pc o1 pn)))))))))))))))))))))))))))) ?_
   cases h
   exact jn hE 0 Tryz.f71 [] (kp [4]) [(16,.af 1)] 1030 pn [16] (pc o1 pn)
theorem FR (N p steps r) (h:wz N p steps=some r):Sd 71 [(sH p),(b5 cI 0 steps)] [] 0 (.agg (uY.cells r)) []:=by
 unfold wz at h
 refine sO Tryz.f71 132 fun E hE=>?_
 refine aj hE 1 IK fH 32 ?_
 obtain ⟨rQ,hr,h⟩:=ax h
 obtain ⟨rQ2,dy,h⟩:=ax h
 obtain ⟨rQ3,ia,h⟩:=ax h
 obtain ⟨rQ4,kT,h⟩:=ax h
 refine bc hE 1 [(0,oT (ao rQ)),(1,oT (ao rQ2)),(2,oT (ao rQ3)),(3,oT (ao rQ4))] (kp [1,2,4,5,6,7,8]) Z8 224 (pc (lu _ _ _ hr) (pc (lu _ _ _ dy) (pc (lu _ _ _ ia) (pc (lu _ _ _ kT) (pc o1 (pc o1 (pc o1 (pc o1 pn)))))))) ?_
 obtain ⟨jF,oW,h⟩:=ax h
 refine bc hE 1 [(2,oT (U5 jF))] (kp [2,4,5,6,7,8,9]) Z8 288 (pc o1 (pc (QM _ _ _ _ oW) pn)) <| aj hE 2 Fl Z8 304 <| cy hE 2 Fl (kq [0] ++ [(1,.af 16),(2,.af 96),(3,.af 112),(4,.af 128),(5,.af 144)]) 6 (Ki N _ _ N _ _ _ _ _ _ h E hE)
noncomputable abbrev ahh:=bt Tryz.f124
def I4 (N:Nat) (b:j8) (K:Int->Option (Int)):Prop:=∀ (x:Int) (r:Int),K x=some r->∀ E,aP E 0->ay Tryz.prog E 124 60 (aQ E [] (aI r)) [.code (ahh 116),.inLoop (ahh 116),.inBlock 0,.code (ahh 15)] ⟨[(1,(.op 0 0 0)),(11,(ZR b)),(12,(aI (UH b))),(13,(aI x))],[(0,vO 3 (j8.cells b))],1⟩
theorem Hi (N b fuel):I4 N b (oM N b fuel):=by
 induction fuel with
 | zero=>intro _ r h;rw [oM.eq_1] at h;cases h
 | succ fuel ih =>
  intro x r h E hE
  rw [oM.eq_2] at h
  refine aj hE 1 (kp [1,11,12,13,14]) (kq [0]) 17 <| cx 1 14 h (fun gX h=>?_) (fun gX h=>?_)
  ·obtain ⟨c,h⟩:=ae h
   refine cd hE 4 (kp [1,3,4,11,12,13]) LZ 113 (pc c (pc o1 pn)) ?_
   obtain ⟨j4,dy,h⟩:=ax h
   obtain ⟨w8,ia,h⟩:=ax h
   refine bc hE 2 [(2,oT (aB j4)),(7,oT (aB w8))] (kp [1,3,4,11,12,13,27]) LZ 273 (pc o1 (pc (bh _ _ _ _ _ dy) (pc (fun hg:(!(!j4))=true=>(pc hg (pc o1 pn))) (pc (fun hg:(!(!j4))=true=>(pc (bh _ _ _ _ _ (aR ia hg)) (pc hg pn))) (pc (fun hg:(!(!j4))=true=>(pc hg pn)) (pc (fun hq:(!(!j4))=true=>(pc hq pn)) pn)))))) <| cx 0 27 h (fun sb h=>?_) (fun sb h=>?_)
   ·refine aj hE 1 (kp [2]) [] 289 ?_
    cases h
    exact fw hE 0 Tryz.f124 (kp [2]) [] 289
   ·obtain ⟨c2,h⟩:=ae h
    refine cd hE 2 (kp [1,11,12,13,41]) (kq [0]) 497 (pc (fun hg:(r7 x)=true=>(pc hg (pc o1 pn))) (pc (fun hg:(r7 x)=true=>(pc hg (pc o1 pn))) (pc (fun hg:(r7 x)=true=>(pc hg pn)) (pc (fun hg:(r7 x)=true=>(pc hg (pc hg (pc (c2 hg) pn)))) (pc (fun hg:(r7 x)=true=>(pc hg pn)) (pc (fun hg:(r7 x)=true=>(pc hg pn)) (pc (fun hg:(r7 x)=true=>(pc hg (pc hg pn))) (pc (fun hq:(r7 x)=true=>(pc hq pn)) pn)))))))) <| cx 0 41 h (fun Ft h=>?_) (fun Ft h=>?_)
    ·refine aj hE 1 (kp [2]) [] 513 ?_
     cases h
     exact fw hE 0 Tryz.f124 (kp [2]) [] 513
    ·refine aj hE 2 Vj (kq [0]) 529 <| cy hE 1 Vj (kq [0]) 1 (ih _ _ h E hE)
  ·obtain ⟨c3,h⟩:=ae h
   refine cd hE 3 (kp [59]) [] 289 (pc o1 (pc o1 (pc o1 (pc c3 (pc (fun hg:(afY b)=true=>(pc hg (pc o1 pn))) (pc (fun hg:(afY b)=true=>(pc hg pn)) (pc (fun hq:(afY b)=true=>(pc hq pn)) pn))))))) <| cx 0 59 h (fun VE h=>?_) (fun VE h=>?_)
   ·refine aj hE 1 (kp [2]) [] 305 ?_
    cases h
    exact fw hE 0 Tryz.f124 (kp [2]) [] 305
   ·refine aj hE 2 (kp [2]) [] 305 ?_
    cases h
    exact fw hE 0 Tryz.f124 (kp [2]) [] 305
theorem Mn (N b r) (h:AJ N b=some r):Sd 124 [(XA b)] [] 0 (aI r) []:=by
 unfold AJ at h
 refine sO Tryz.f124 60 fun E hE=>?_
 refine aj hE 1 (kp [1]) (kq [0]) 32 ?_
 obtain ⟨m7,hr,h⟩:=ax h
 refine bc hE 2 [(3,oT (aB m7))] (kp [1,9]) (kq [0]) 112 (pc o1 (pc (bh _ _ _ _ _ hr) pn)) <| cx 0 9 h (fun cP h=>?_) (fun cP h=>?_)
 ·refine aj hE 1 (kp [2]) [] 128 ?_
  cases h
  exact fw hE 0 Tryz.f124 (kp [2]) [] 128
 ·refine cd hE 3 Vj (kq [0]) 176 (pc o1 pn) <| cy hE 2 Vj (kq [0]) 1 (Hi N _ N _ _ h E hE)
theorem Kj (N b r) (h:yQ N b=some r):Sd 77 [(XA b)] [] 0 (aI r) []:=by
 unfold yQ at h
 refine sO Tryz.f77 9 fun E hE=>?_
 refine aj hE 1 (kp [1]) (kq [0]) 32 ?_
 obtain ⟨CJ,hr,h⟩:=ax h
 refine bc hE 2 [(2,oT (aB CJ))] (kp [1,6]) (kq [0]) 96 (pc o1 (pc (HG _ _ _ hr) pn)) <| cx 0 6 h (fun cP h=>?_) (fun cP h=>?_)
 ·refine aj hE 1 (kp [2]) [] 112 ?_
  cases h
  exact fw hE 0 Tryz.f77 (kp [2]) [] 112
 ·obtain ⟨H6,dy,h⟩:=ax h
  refine bc hE 2 [(1,oT (aI H6))] (kp [2]) [] 144 (pc o1 (pc (Mn _ _ _ dy) pn)) ?_
  obtain rfl:=kR h
  exact fw hE 0 Tryz.f77 (kp [2]) [] 144
theorem VR (N b r) (h:Li N b=some r):Sd 78 [(XA b)] [] 0 (aI r) []:=by
 unfold Li at h
 refine sO Tryz.f78 8 fun E hE=>?_
 refine aj hE 1 (kp [1]) (kq [0]) 32 ?_
 obtain ⟨c,h⟩:=ae h
 refine cd hE 1 (kp [2]) [] 128 (pc o1 (pc c pn)) ?_
 cases h
 exact fw hE 0 Tryz.f78 (kp [2]) [] 128
noncomputable abbrev QP:=bt Tryz.f79
def DQ (N:Nat) (b:j8) (level:Int) (K:Int->Int->Option (Int)):Prop:=∀ (sum:Int) (x:Int) (r:Int),K sum x=some r->∀ E,aP E 0->ay Tryz.prog E 79 45 (aQ E [] (aI r)) [.code (QP 116),.inLoop (QP 116),.inBlock 0,.code (QP 15)] ⟨[(1,(aI level)),(2,(.op 0 0 0)),(5,(aI sum)),(10,(ZR b)),(11,(aI (UH b))),(12,(aI x))],[(0,vO 3 (j8.cells b))],1⟩
def NZ (N:Nat) (b:j8) (level:Int) (sum:Int) (x:Int) (K:Int->Option (Int)):Prop:=∀ (top:Int) (r:Int),K top=some r->∀ E,aP E 0->ay Tryz.prog E 79 45 (aQ E [] (aI r)) [.code (QP 14951),.inBlock 1,.code (QP 935),.inLoop (QP 116),.inBlock 0,.code (QP 15)] ⟨[(1,(aI level)),(2,(.op 0 0 0)),(5,(aI sum)),(7,(.op 1 0 0)),(8,(aI top)),(10,(ZR b)),(11,(aI (UH b))),(12,(aI x))],[(0,vO 3 (j8.cells b)),(1,vO 2 (lV.cells (b.fT.getD ((x).toNat) lV.d)))],2⟩
theorem Cd (N:Nat) (b:j8) (level:Int) (sum:Int) (x:Int) (sW:Int->Int->Option (Int)) (Mo:DQ N b level sW):NZ N b level sum x (vW N b level sum x sW):=by
 intro top r h E hE
 unfold vW at h
 refine cd hE 0 Qd (kq [0]) 178 (pc o1 (pc o1 pn)) <| aj hE 1 Qd (kq [0]) 210 <| cy hE 1 Qd (kq [0]) 1 (Mo _ _ _ h E hE)
theorem Mp (N b level fuel):DQ N b level (ql N b level fuel):=by
 induction fuel with
 | zero=>intro _ _ r h;rw [ql.eq_1] at h;cases h
 | succ fuel ih =>
  intro sum x r h E hE
  rw [ql.eq_2] at h
  refine aj hE 1 (kp [1,2,5,10,11,12,13]) (kq [0]) 17 <| cx 1 13 h (fun cP h=>?_) (fun cP h=>?_)
  ·obtain ⟨c,h⟩:=ae h
   refine cd hE 4 (kp [1,2,5,6,7,10,11,12]) LZ 113 (pc c (pc o1 pn)) <| aj hE 1 (kp [1,2,5,6,7,8,10,11,12]) LZ 145 <| cd hE 2 (kp [1,2,5,6,7,8,10,11,12,23]) LZ 241 (pc o1 pn) <| cx 0 23 h (fun gX h=>?_) (fun gX h=>?_)
   ·obtain ⟨c2,h⟩:=ae h
    refine cd hE 0 ZW LZ 401 (pc o1 (pc c2 pn)) <| cy hE 0 ZW (kq [0] ++ [(1,.af 65)]) 2 (Cd N _ _ _ _ _ ih _ _ h E hE)
   ·exact cy hE 1 ZW (kq [0] ++ [(1,.af 65)]) 2 (Cd N _ _ _ _ _ ih _ _ h E hE)
  ·refine aj hE 2 (kp [4]) [] 49 ?_
   obtain rfl:=kR h
   exact fw hE 0 Tryz.f79 (kp [4]) [] 49
theorem Sj (N b level r) (h:H7 N b level=some r):Sd 79 [(XA b),(aI level)] [] 0 (aI r) []:=by
 unfold H7 at h
 refine sO Tryz.f79 45 fun E hE=>?_
 refine aj hE 1 (kp [1,2]) (kq [0]) 32 <| aj hE 1 LU (kq [0]) 48 <| cd hE 2 Qd (kq [0]) 112 (pc o1 pn) <| cy hE 2 Qd (kq [0]) 1 (Mp N _ _ N _ _ _ h E hE)
theorem Sk (N b level r) (h:H8 N b level=some r):Sd 37 [(XA b),(aI level)] [] 0 (Ij r) []:=by
 unfold H8 at h
 refine sO Tryz.f37 22 fun E hE=>?_
 refine aj hE 1 (kp [1,2]) (kq [0]) 48 ?_
 obtain ⟨z5,hr,h⟩:=ax h
 refine bc hE 2 [(1,oT (aI z5))] (kp [1,2,6]) (kq [0]) 96 (pc o1 (pc (Kj _ _ _ hr) pn)) <| aj hE 1 (kp [1,2,6,10]) (kq [0]) 128 <| cx 0 10 h (fun cP h=>?_) (fun cP h=>?_)
 ·refine aj hE 1 (kp [4,5]) [] 176 ?_
  cases h
  exact fw hE 0 Tryz.f37 (kp [4,5]) [] 176
 ·obtain ⟨Zi,dy,h⟩:=ax h
  obtain ⟨m7,ia,h⟩:=ax h
  refine bc hE 3 [(2,oT (aI Zi)),(5,oT (aB m7))] (kp [1,2,18]) (kq [0]) 240 (pc o1 (pc (VR _ _ _ dy) (pc o1 (pc (bh _ _ _ _ _ ia) pn)))) <| cx 0 18 h (fun gX h=>?_) (fun gX h=>?_)
  ·refine aj hE 1 (kp [4,5]) [] 272 ?_
   cases h
   exact fw hE 0 Tryz.f37 (kp [4,5]) [] 272
  ·obtain ⟨UE,kT,h⟩:=ax h
   refine bc hE 2 [(2,oT (aI UE))] (kp [4,5]) [] 320 (pc o1 (pc (Sj _ _ _ _ kT) pn)) ?_
   cases h
   exact fw hE 0 Tryz.f37 (kp [4,5]) [] 320
theorem qz (N r) (h:iT N=some r):Sd 12 [] [] 0 (aB r) []:=by
 unfold iT at h
 refine sO Tryz.f12 16 fun E hE=>?_
 refine aj hE 1 [] [] 16 ?_
 obtain ⟨CO,hr,h⟩:=ax h
 refine bc hE 1 [(3,oT (Ij CO))] (kp [1,2]) [] 160 (pc (show Sd 37 [(.agg [(aS (⟨#[65]⟩:ByteArray)),(.sl 1 (fun zi=>(fun zi=>([[(aI 0),(aI 100)]]:List (List AV)).getD zi []) (bB 0 zi))),(aI 50)]),(aI 30)] [] 0 (Ij CO) [] from (Sound.conv (Sk _ _ _ _ hr) (.cons (Alike.agg (.cons (Alike.refl _) (.cons (Alike.sl rfl (dJ lV.cells lV.d ([(⟨0,100⟩:lV)]:List lV))) (.cons (Alike.refl _) .nil)))) (.cons (Alike.refl _) .nil)))) (pc (z1 1) pn)) <| cd hE 1 (kp [0]) [] 272 (pc (fun hg:(CO.2 == 0)=true=>(pc hg pn)) (pc (fun hq:(CO.2 == 0)=true=>(pc hq pn)) pn)) ?_
 cases h
 exact fw hE 0 Tryz.f12 (kp [0]) [] 272
theorem sM (N s p9 r) (h:j5 N s p9=some r):Sd 80 [(.agg (uY.cells s)),(aI p9)] [] 0 (ao r) []:=by
 unfold j5 at h
 refine sO Tryz.f80 16 fun E hE=>?_
 by_cases hs0:p9=0
 ·subst hs0;rw [if_pos rfl] at h
  refine aj hE 1 IK fH 32 <| cd hE 1 (kp [4]) (kq [16]) 224 (pc o1 (pc o1 (pc o1 (pc o1 (pc (show 0<=(0:Int)/\(0:Int) < ((4:Nat):Int) by decide) (pc o1 pn)))))) ?_
  cases h
  exact jn hE 0 Tryz.f80 [] (kp [4]) (kq [16]) 224 pn [16] (pc o1 pn)
 ·rw [if_neg hs0] at h
  by_cases YE:p9=1
  ·subst YE;rw [if_pos rfl] at h
   refine aj hE 1 IK fH 32 <| cd hE 1 (kp [4]) (kq [16]) 224 (pc o1 (pc o1 (pc o1 (pc o1 (pc (show 0<=(1:Int)/\(1:Int) < ((4:Nat):Int) by decide) (pc o1 pn)))))) ?_
   cases h
   exact jn hE 0 Tryz.f80 [] (kp [4]) (kq [16]) 224 pn [16] (pc o1 pn)
  ·rw [if_neg YE] at h
   by_cases hs2:p9=2
   ·subst hs2;rw [if_pos rfl] at h
    refine aj hE 1 IK fH 32 <| cd hE 1 (kp [4]) (kq [16]) 224 (pc o1 (pc o1 (pc o1 (pc o1 (pc (show 0<=(2:Int)/\(2:Int) < ((4:Nat):Int) by decide) (pc o1 pn)))))) ?_
    cases h
    exact jn hE 0 Tryz.f80 [] (kp [4]) (kq [16]) 224 pn [16] (pc o1 pn)
   ·rw [if_neg hs2] at h
    by_cases hs3:p9=3
    ·subst hs3;rw [if_pos rfl] at h
     refine aj hE 1 IK fH 32 <| cd hE 1 (kp [4]) (kq [16]) 224 (pc o1 (pc o1 (pc o1 (pc o1 (pc (show 0<=(3:Int)/\(3:Int) < ((4:Nat):Int) by decide) (pc o1 pn)))))) ?_
     cases h
     exact jn hE 0 Tryz.f80 [] (kp [4]) (kq [16]) 224 pn [16] (pc o1 pn)
    ·rw [if_neg hs3] at h
     cases h
noncomputable abbrev ahi:=bt Tryz.f38
def zk (N:Nat) (p:cQ) (p9:Int) (sX:aa) (K:aK->Int->Option (aa×aK)):Prop:=∀ (out:List aa) (i:Int) (r:aa×aK),K out i=some r->∀ E,aP E 0->ay Tryz.prog E 38 46 (aQ E [] (Lw r)) [.code (ahi 500),.inLoop (ahi 500),.inBlock 0,.code (ahi 63)] ⟨[(1,(aI p9)),(2,(.op 0 0 0)),(4,(.op 1 0 0)),(7,(.op 2 0 0)),(8,(.os 3 0 out.length)),(9,(aI i))],[(jQ p),(1,vO 4 [(aB false),.nil,(aB false),.nil]),(LC sX),(3,aO 4 eT aa.d out)],4⟩
theorem x9 (N p p9 sX fuel):zk N p p9 sX (dq N p p9 sX fuel):=by
 induction fuel with
 | zero=>intro _ _ r h;rw [dq.eq_1] at h;cases h
 | succ fuel ih =>
  intro out i r h E hE
  rw [dq.eq_2] at h
  refine cd hE 2 (kp [1,2,4,7,8,9,24]) sa 84 (pc o1 pn) <| cx 0 24 h (fun cP h=>?_) (fun cP h=>?_)
  ·obtain ⟨c2,h⟩:=ae h
   refine cd hE 4 (kp [1,2,4,7,8,9] ++ [(10,.lx (aga p))]) (kq [0,1,2,3] ++ [(132,pY 132 cI 0 (PU p))]) 164 (pc o1 (pc c2.1 (pc (Int.le_refl (PT p)) (pc c2.2.1 (pc c2.2.2 (pc (lR p.dh.length (0:Int)) (pc (lR p.dh.length (0:Int)) (pc (ru cI 0 0 p.dh.length) pn)))))))) ?_
   obtain ⟨c3,h⟩:=ae h
   refine cd hE 1 (kp [1,2,4,7,8,9] ++ [(10,.lx ((agb p i).length))]) (kq [0,1,2,3] ++ [(132,pY 132 cI 0 (agb p i))]) 228 (pc c3 (pc (dV c3) (pc (az (PU p) ((i).toNat) 1) (pc (az (PU p) ((i).toNat) 1) (pc (cF cI 0 (PU p) ((i).toNat) 1) pn))))) ?_
   obtain ⟨UF,ia,h⟩:=ax h
   obtain ⟨PJ,kT,h⟩:=ax h
   obtain ⟨eJ,oW,h⟩:=ax h
   obtain ⟨c4,h⟩:=ae h
   refine bc hE 0 [(3,⟨[],true,(.agg (uY.cells UF)),[],0,true,none⟩),(5,oT (ao PJ)),(7,oT (ao eJ))] (kp [1,2,4,7] ++ [(8,.lx ((MY out eJ).length))] ++ kp [9]) (kq [0,1,2] ++ [(372,pY 372 eT aa.d (MY out eJ))]) 404 (pc o1 (pc (FR _ _ _ _ ia) (pc (z1 ((agb p i).length)) (pc (sM _ _ _ _ kT) (pc o1 (pc (xm _ _ _ _ oW) (pc (Eq.refl out.length) (pc c4 (pc (z1 1) (pc (oN [[(yU eJ),(yX eJ),(yT eJ),(yW eJ)]]) (pc (bT out (xd eJ)) (pc (bT out (xd eJ)) (pc (Ta eT aa.d out (xd eJ)) pn))))))))))))) <| aj hE 1 ZV (kq [0,1,2,372]) 452 <| cy hE 1 ZV (kq [0,1,2] ++ [(3,.af 372)]) 4 (ih _ _ _ h E hE)
  ·refine cd hE 2 (kp [4,5]) (kq [1,3]) 148 (pc o1 (pc o1 pn)) ?_
   cases h
   exact jn hE 0 Tryz.f38 [3] (kp [4] ++ [(5,rM eT aa.d out)]) [(16,.af 1)] 148 (pc (Eq.refl out.length) (pc (z1 out.length) (pc (eZ eT aa.d out) pn))) [16] (pc o1 pn)
theorem kE (N p p9 r) (h:gk N p p9=some r):Sd 38 [(sH p),(aI p9)] [] 0 (Lw r) []:=by
 unfold gk at h
 refine sO Tryz.f38 46 fun E hE=>?_
 refine aj hE 1 IK fH 48 ?_
 obtain ⟨c,h⟩:=ae h
 refine cd hE 1 (kp [1,2,4] ++ [(6,.lx (aga p))]) (kq [0,16] ++ [(96,pY 96 cI 0 (PU p))]) 128 (pc o1 (pc c.1 (pc (Int.le_refl (PT p)) (pc c.2.1 (pc c.2.2 (pc (lR p.dh.length (0:Int)) (pc (lR p.dh.length (0:Int)) (pc (ru cI 0 0 p.dh.length) pn)))))))) ?_
 obtain ⟨Zj,hr,h⟩:=ax h
 obtain ⟨sX,dy,h⟩:=ax h
 refine bc hE 1 [(2,⟨[],true,(.agg (uY.cells Zj)),[],0,true,none⟩),(4,oT (ao sX))] (kp [1,2,4,7]) (kq [0,16,208]) 240 (pc o1 (pc (FR _ _ _ _ hr) (pc (z1 (aga p)) (pc (sM _ _ _ _ dy) (pc o1 pn))))) <| aj hE 1 (kp [1,2,4,7,8]) (kq [0,16,208]) 256 <| aj hE 2 ZV (kq [0,16,208]) 272 <| cy hE 2 (kp [1,2,4,7] ++ [(8,.sC 3)] ++ kp [9]) (kq [0] ++ [(1,.af 16),(2,.af 208),(3,.nil 4 Va)]) 4 (x9 N _ _ _ N _ _ _ h E hE)
noncomputable abbrev ahj:=bt Tryz.f82
def zM (N:Nat) (l:List aa) (n:Int) (K:aK->Int->Option E1):Prop:=∀ (out:List aa) (i:Int) (r:aK),K out i=some r->∀ E,aP E 0->ay Tryz.prog E 82 24 (aQ E [] (b5 eT aa.d r)) [.code (ahj 116),.inLoop (ahj 116),.inBlock 0,.code (ahj 15)] ⟨[(0,(pM l)),(1,(aI n)),(5,(.os 0 0 out.length)),(6,(aI i))],[(E4 out)],1⟩
theorem zl (N l n fuel):zM N l n (dz N l n fuel):=by
 induction fuel with
 | zero=>intro _ _ r h;rw [dz.eq_1] at h;cases h
 | succ fuel ih =>
  intro out i r h E hE
  rw [dz.eq_2] at h
  refine aj hE 2 (kp [0,1,5,6,10]) (kq [0]) 65 <| cx 0 10 h (fun cP h=>?_) (fun cP h=>?_)
  ·obtain ⟨c,h⟩:=ae h
   obtain ⟨rW,hr,h⟩:=ax h
   obtain ⟨aY,dy,h⟩:=ax h
   obtain ⟨c2,h⟩:=ae h
   refine bc hE 3 [(6,oT (ao rW)),(7,oT (ao aY))] (kp [0,1] ++ [(5,.lx ((MY out aY).length))] ++ kp [6]) [(209,pY 209 eT aa.d (MY out aY))] 241 (pc c (pc (wM _ _ _ hr) (pc (jO _ _ _ _ dy) (pc (Eq.refl out.length) (pc c2 (pc (z1 1) (pc (oN [[(yU aY),(yX aY),(yT aY),(yW aY)]]) (pc (bT out (xd aY)) (pc (bT out (xd aY)) (pc (Ta eT aa.d out (xd aY)) pn)))))))))) <| aj hE 1 tq (kq [209]) 289 <| cy hE 1 tq [(0,.af 209)] 1 (ih _ _ _ h E hE)
  ·refine aj hE 2 (kp [4]) (kq [0]) 97 ?_
   obtain rfl:=kR h
   exact jn hE 0 Tryz.f82 [0] [(4,rM eT aa.d out)] [] 97 (pc (Eq.refl out.length) (pc (z1 out.length) (pc (eZ eT aa.d out) pn))) [] pn
theorem Ce (N l n r) (h:q8 N l n=some r):Sd 82 [(pM l),(aI n)] [] 0 (b5 eT aa.d r) []:=by
 unfold q8 at h
 refine sO Tryz.f82 24 fun E hE=>?_
 refine aj hE 1 (kp [0,1]) [] 16 <| aj hE 1 r9 [] 32 <| aj hE 2 tq [] 48 <| cy hE 2 (kp [0,1] ++ [(5,.sC 0)] ++ kp [6]) [(0,.nil 4 Va)] 1 (zl N _ _ N _ _ _ h E hE)
theorem eS (N zero steps Gz abr r) (h:dI N zero steps Gz abr=some r):Sd 39 [(ao zero),(pM steps),(aI Gz),(aI abr)] [] 0 (E2 r) []:=by
 unfold dI at h
 refine sO Tryz.f39 20 fun E hE=>?_
 refine aj hE 1 (kp [1,2,3,4,8]) fH 32 ?_
 obtain ⟨qu,hr,h⟩:=ax h
 obtain ⟨rW,dy,h⟩:=ax h
 obtain ⟨PK,ia,h⟩:=ax h
 obtain ⟨aY,kT,h⟩:=ax h
 obtain ⟨eJ,oW,h⟩:=ax h
 refine bc hE 1 [(2,oT (b5 eT aa.d qu)),(4,oT (ao rW)),(7,oT (ao PK)),(8,oT (ao aY)),(9,oT (ao eJ))] (kp [8]) (kq [16]) 224 (pc (Ce _ _ _ _ hr) (pc (wM _ _ _ dy) (pc o1 (pc (wM _ _ _ ia) (pc (jO _ _ _ _ kT) (pc (xm _ _ _ _ oW) (pc o1 pn))))))) ?_
 cases h
 exact jn hE 0 Tryz.f39 [] (kp [8]) (kq [16]) 224 pn [16] (pc o1 pn)
noncomputable abbrev ahk:=bt Tryz.f13
def Bb (N:Nat) (p:cQ) (K:U1->Int->Option (U1)):Prop:=∀ (out:List aV) (i:Int) (r:U1),K out i=some r->∀ E,aP E 0->ay Tryz.prog E 13 118 (aQ E [] (U6 r)) [.code (ahk 2036),.inLoop (ahk 2036),.inBlock 0,.code (ahk 255)] ⟨[(2,(.op 0 0 0)),(13,(.os 1 0 out.length)),(14,(aI i))],[(jQ p),(1,aO 5 TWc aV.d out)],2⟩
theorem zN (N p fuel):Bb N p (dK N p fuel):=by
 induction fuel with
 | zero=>intro _ _ r h;rw [dK.eq_1] at h;cases h
 | succ fuel ih =>
  intro out i r h E hE
  rw [dK.eq_2] at h
  refine cd hE 2 (kp [2,13,14,83]) (kq [0,1]) 82 (pc o1 pn) <| cx 0 83 h (fun cP h=>?_) (fun cP h=>?_)
  ·obtain ⟨c,h⟩:=ae h
   refine cd hE 4 (kp [2,13,14] ++ [(15,.lx (abB p)),(16,.lx (abB p))]) (kq [0,1] ++ [(130,.arz 130 (abB p) (U7 p)),(194,.arz 194 (abB p) (U7 p))]) 242 (pc o1 (pc c.1 (pc (Int.le_refl (PT p)) (pc c.2.1 (pc c.2.2 (pc o1 (pc c.1 (pc (Int.le_refl (PT p)) (pc c.2.1 (pc c.2.2 (pc (lR p.dh.length rY) (pc (lR p.dh.length rY) (pc (lQ p.dh.length rY) (pc (show ∀ zi,zi < (Fb p).length->Uj ((fun _=>[(aB false),.nil,(aB false),.nil]) zi) ((U7 p) zi) from (fun zq D6=>qI eT aa.d aa.d p.dh.length zq ⟨.inl rfl,.inr ⟨rfl,_,rfl⟩,.inl rfl,.inr ⟨rfl,_,rfl⟩,trivial⟩ D6)) (pc (lQ p.dh.length rY) (pc (show ∀ zi,zi < (Fb p).length->Uj ((fun _=>[(aB false),.nil,(aB false),.nil]) zi) ((U7 p) zi) from (fun zq D6=>qI eT aa.d aa.d p.dh.length zq ⟨.inl rfl,.inr ⟨rfl,_,rfl⟩,.inl rfl,.inr ⟨rfl,_,rfl⟩,trivial⟩ D6)) pn)))))))))))))))) ?_
   obtain ⟨rW,VK,h⟩:=ax h
   obtain ⟨PK,aae,h⟩:=ax h
   obtain ⟨c2,h⟩:=ae h
   refine bc hE 1 [(4,oT (ao rW)),(5,oT (ao PK))] (kp [2,13,14] ++ [(15,.lx (abx p i rW)),(16,.lx (abx p i PK))]) (kq [0,1] ++ [(130,pY 130 eT aa.d (DE p i rW)),(194,pY 194 eT aa.d (DE p i PK))]) 402 (pc (wM _ _ _ VK) (pc (wM _ _ _ aae) (pc c2 (pc (dV c2) (pc c2 (pc (dV c2) (pc (az (Fb p) ((i).toNat) rW) (pc (az (Fb p) ((i).toNat) PK) (pc (az (Fb p) ((i).toNat) rW) (pc (cF eT aa.d (Fb p) ((i).toNat) rW) (pc (az (Fb p) ((i).toNat) PK) (pc (cF eT aa.d (Fb p) ((i).toNat) PK) pn)))))))))))) ?_
   obtain ⟨c3,h⟩:=ae h
   obtain ⟨rW3,ag2,h⟩:=ax h
   obtain ⟨rW4,ag3,h⟩:=ax h
   obtain ⟨c4,h⟩:=ae h
   refine bc hE 0 [(8,oT (ao rW3)),(11,oT (ao rW4)),(13,⟨[],true,.rk,[(130,aO 4 eT aa.d (DE p i rW)),(194,aO 4 eT aa.d (DE p i PK))],0,true,none⟩)] (kp [2] ++ [(13,.lx ((alz out p i rW rW3 PK rW4).length))] ++ kp [14]) (kq [0] ++ [(626,pY 626 TWc aV.d (alz out p i rW rW3 PK rW4))]) 658 (pc o1 (pc c3 (pc (wM _ _ _ ag2) (pc (wM _ _ _ ag3) (pc (show (DE p i rW).length<=(DE p i rW).length from (aN _)) (pc (eR eT aa.d (DE p i rW)) (pc (show (DE p i PK).length<=(DE p i PK).length from (aN _)) (pc (eR eT aa.d (DE p i PK)) (pc (Eq.refl (abx p i rW)) (pc (Eq.refl (abx p i PK)) (pc (Eq.refl out.length) (pc c4 (pc (z1 2) (pc (oN [[(b5 eT aa.d (DE p i rW)),(yU rW3),(yX rW3),(yT rW3),(yW rW3)],[(b5 eT aa.d (DE p i PK)),(yU rW4),(yX rW4),(yT rW4),(yW rW4)]]) (pc (bT out (ZQ p i rW rW3 PK rW4)) (pc (bT out (ZQ p i rW rW3 PK rW4)) (pc (Ta TWc aV.d out (ZQ p i rW rW3 PK rW4)) pn))))))))))))))))) <| aj hE 1 Vs (kq [0,626]) 706 <| cy hE 1 Vs (kq [0] ++ [(1,.af 626)]) 2 (ih _ _ _ h E hE)
  ·refine aj hE 2 (kp [4]) (kq [1]) 114 ?_
   obtain rfl:=kR h
   exact jn hE 0 Tryz.f13 [1] [(4,rM TWc aV.d out)] [] 114 (pc (Eq.refl out.length) (pc (z1 out.length) (pc (eZ TWc aV.d out) pn))) [] pn
theorem Dk (N p l r) (h:oA N p l=some r):Sd 13 [(sH p),(JR l)] [] 0 (U6 r) []:=by
 unfold oA at h
 refine sO Tryz.f13 118 fun E hE=>?_
 refine aj hE 1 (kp [2,3]) fH 48 ?_
 obtain ⟨GK,hr,h⟩:=ax h
 refine bc hE 1 [(1,oT (Lw GK))] (kp [2,3,5,6]) (kq [0,16,128]) 176 (pc o1 (pc (kE _ _ _ _ hr) (pc o1 pn))) ?_
 obtain ⟨BL,dy,h⟩:=ax h
 refine bc hE 1 [(1,oT (Lw BL))] (kp [2,3,5,6,7,8]) (kq [0,16,128,256]) 304 (pc o1 (pc (kE _ _ _ _ dy) (pc o1 pn))) ?_
 obtain ⟨BM,ia,h⟩:=ax h
 refine bc hE 1 [(1,oT (Lw BM))] (kp [2,3,5,6,7,8,9,10]) (kq [0,16,128,256,384]) 432 (pc o1 (pc (kE _ _ _ _ ia) (pc o1 pn))) ?_
 obtain ⟨BN,kT,h⟩:=ax h
 refine bc hE 1 [(1,oT (Lw BN))] (kp [2,3,5,6,7,8,9,10,11,12]) (kq [0,16,128,256,384,512]) 560 (pc o1 (pc (kE _ _ _ _ kT) (pc o1 pn))) ?_
 obtain ⟨Tj,oW,h⟩:=ax h
 obtain ⟨Lj,vG,h⟩:=ax h
 obtain ⟨Lk,x6,h⟩:=ax h
 obtain ⟨Ll,IS,h⟩:=ax h
 obtain ⟨Lm,IQ,h⟩:=ax h
 obtain ⟨Ln,Da,h⟩:=ax h
 obtain ⟨Lo,IT,h⟩:=ax h
 obtain ⟨Lp,VJ,h⟩:=ax h
 refine bc hE 1 [(4,oT (E2 Tj)),(10,oT (E2 Lj)),(15,oT (E2 Lk)),(20,oT (E2 Ll)),(25,oT (E2 Lm)),(30,oT (E2 Ln)),(35,oT (E2 Lo)),(40,oT (E2 Lp))] (kp [2] ++ [(13,.lx (([Tj,Lj,Lk,Ll,Lm,Ln,Lo,Lp]:List aV).length))]) (kq [0] ++ [(1216,pY 1216 TWc aV.d ([Tj,Lj,Lk,Ll,Lm,Ln,Lo,Lp]:List aV))]) 1248 (pc o1 (pc o1 (pc (eS _ _ _ _ _ _ oW) (pc o1 (pc o1 (pc (eS _ _ _ _ _ _ vG) (pc o1 (pc o1 (pc (eS _ _ _ _ _ _ x6) (pc o1 (pc o1 (pc (eS _ _ _ _ _ _ IS) (pc o1 (pc o1 (pc (eS _ _ _ _ _ _ IQ) (pc o1 (pc o1 (pc (eS _ _ _ _ _ _ Da) (pc o1 (pc o1 (pc (eS _ _ _ _ _ _ IT) (pc o1 (pc o1 (pc (eS _ _ _ _ _ _ VJ) (pc (Eq.refl 8) (pc (Eq.refl 8) (pc (dJ TWc aV.d ([Tj,Lj,Lk,Ll,Lm,Ln,Lo,Lp]:List aV)) pn))))))))))))))))))))))))))) <| aj hE 2 Vs (kq [0,1216]) 1264 <| cy hE 2 Vs (kq [0] ++ [(1,.af 1216)]) 2 (zN N _ N _ _ _ h E hE)
theorem VS (N r) (h:Lq N=some r):Sd 88 [] [] 0 (CY r) []:=by
 unfold Lq at h
 refine sO Tryz.f88 2 fun E hE=>?_
 refine aj hE 1 [] [] 16 <| cd hE 1 [(0,.lx (([(⟨#[100,114,97,117,103,104,116]⟩:ByteArray),(⟨#[116,114,105,109]⟩:ByteArray),(⟨#[104,101,101,108]⟩:ByteArray),(⟨#[104,111,103]⟩:ByteArray)]:List ByteArray).length))] [(16,pY 16 cS ByteArray.empty ([(⟨#[100,114,97,117,103,104,116]⟩:ByteArray),(⟨#[116,114,105,109]⟩:ByteArray),(⟨#[104,101,101,108]⟩:ByteArray),(⟨#[104,111,103]⟩:ByteArray)]:List ByteArray))] 48 (pc (Eq.refl 4) (pc (Eq.refl 4) (pc (dJ cS ByteArray.empty ([(⟨#[100,114,97,117,103,104,116]⟩:ByteArray),(⟨#[116,114,105,109]⟩:ByteArray),(⟨#[104,101,101,108]⟩:ByteArray),(⟨#[104,111,103]⟩:ByteArray)]:List ByteArray)) pn))) ?_
 cases h
 exact jn hE 0 Tryz.f88 [16] [(0,rM cS ByteArray.empty ([(⟨#[100,114,97,117,103,104,116]⟩:ByteArray),(⟨#[116,114,105,109]⟩:ByteArray),(⟨#[104,101,101,108]⟩:ByteArray),(⟨#[104,111,103]⟩:ByteArray)]:List ByteArray))] [] 48 (pc (Eq.refl (([(⟨#[100,114,97,117,103,104,116]⟩:ByteArray),(⟨#[116,114,105,109]⟩:ByteArray),(⟨#[104,101,101,108]⟩:ByteArray),(⟨#[104,111,103]⟩:ByteArray)]:List ByteArray).length)) (pc (z1 (([(⟨#[100,114,97,117,103,104,116]⟩:ByteArray),(⟨#[116,114,105,109]⟩:ByteArray),(⟨#[104,101,101,108]⟩:ByteArray),(⟨#[104,111,103]⟩:ByteArray)]:List ByteArray).length)) (pc (eZ cS ByteArray.empty ([(⟨#[100,114,97,117,103,104,116]⟩:ByteArray),(⟨#[116,114,105,109]⟩:ByteArray),(⟨#[104,101,101,108]⟩:ByteArray),(⟨#[104,111,103]⟩:ByteArray)]:List ByteArray)) pn))) [] pn
noncomputable abbrev Tu:=bt Tryz.f43
def DR (N:Nat) (bits:Int) (iU:tp) (K:tp->Int->Option (tp)):Prop:=∀ (out:List ByteArray) (x:Int) (r:tp),K out x=some r->∀ E,aP E 0->ay Tryz.prog E 43 24 (aQ E [] (CY r)) [.code (Tu 116),.inLoop (Tu 116),.inBlock 0,.code (Tu 15)] ⟨[(0,(aI bits)),(3,(.os 0 0 out.length)),(6,(CY iU)),(7,(aI ((iU.length:Nat):Int))),(8,(aI x))],[(0,aO 1 cS ByteArray.empty out)],1⟩
def N4 (N:Nat) (bits:Int) (iU:tp) (x:Int) (K:tp->Option (tp)):Prop:=∀ (eY:List ByteArray) (r:tp),K eY=some r->∀ E,aP E 0->ay Tryz.prog E 43 24 (aQ E [] (CY r)) [.code (Tu 935),.inLoop (Tu 116),.inBlock 0,.code (Tu 15)] ⟨[(0,(aI bits)),(3,(.os 0 0 eY.length)),(6,(CY iU)),(7,(aI ((iU.length:Nat):Int))),(8,(aI x))],[(0,aO 1 cS ByteArray.empty eY)],1⟩
theorem Cf (N:Nat) (bits:Int) (iU:tp) (x:Int) (sY:tp->Int->Option (tp)) (Mq:DR N bits iU sY):N4 N bits iU x (vX N bits iU x sY):=by
 intro eY r h E hE
 unfold vX at h
 refine aj hE 0 Qb (kq [0]) 33 <| cy hE 1 Qb (kq [0]) 1 (Mq _ _ _ h E hE)
theorem Mr (N bits iU fuel):DR N bits iU (qm N bits iU fuel):=by
 induction fuel with
 | zero=>intro _ _ r h;rw [qm.eq_1] at h;cases h
 | succ fuel ih =>
  intro out x r h E hE
  rw [qm.eq_2] at h
  refine aj hE 1 (kp [0,3,6,7,8,9]) (kq [0]) 17 <| cx 1 9 h (fun cP h=>?_) (fun cP h=>?_)
  ·obtain ⟨c,h⟩:=ae h
   refine cd hE 4 (kp [0,3,4,5,6,7,8]) (kq [0]) 97 (pc c pn) ?_
   obtain ⟨c2,h⟩:=ae h
   refine cd hE 1 (kp [0,3,5,6,7,8,17]) (kq [0]) 177 (pc c2 pn) <| cx 0 17 h (fun gX h=>?_) (fun gX h=>?_)
   ·obtain ⟨c3,h⟩:=ae h
    refine cd hE 0 (kp [0] ++ [(3,.lx ((out ++ (PV iU x)).length))] ++ kp [6,7,8]) [(225,pY 225 cS ByteArray.empty (out ++ (PV iU x)))] 257 (pc (Eq.refl out.length) (pc c3 (pc (z1 1) (pc (oN [[(aS (iU.getD ((x).toNat) ByteArray.empty))]]) (pc (bT out (PV iU x)) (pc (bT out (PV iU x)) (pc (Ta cS ByteArray.empty out (PV iU x)) pn))))))) <| cy hE 1 Qb [(0,.af 225)] 1 (Cf N _ _ _ _ ih _ _ h E hE)
   ·exact cy hE 2 Qb (kq [0]) 1 (Cf N _ _ _ _ ih _ _ h E hE)
  ·refine aj hE 2 (kp [2]) (kq [0]) 49 ?_
   obtain rfl:=kR h
   exact jn hE 0 Tryz.f43 [0] [(2,rM cS ByteArray.empty out)] [] 49 (pc (Eq.refl out.length) (pc (z1 out.length) (pc (eZ cS ByteArray.empty out) pn))) [] pn
theorem HH (N bits r) (h:vq N bits=some r):Sd 43 [(aI bits)] [] 0 (CY r) []:=by
 unfold vq at h
 refine sO Tryz.f43 24 fun E hE=>?_
 refine aj hE 1 (kp [0]) [] 16 <| aj hE 1 (kp [0,3]) [] 32 ?_
 obtain ⟨iU,hr,h⟩:=ax h
 refine bc hE 2 [(0,oT (CY iU))] Qb [] 80 (pc (VS _ _ hr) pn) <| cy hE 2 (kp [0] ++ [(3,.sC 0)] ++ kp [6,7,8]) [(0,.nil 1 (fun zi=>cS (([]:List ByteArray).getD zi ByteArray.empty)))] 1 (Mr N _ _ N _ _ _ h E hE)
theorem N5 (N p l steps r) (h:CP N p l steps=some r):Sd 14 [(sH p),(JR l),(b5 cI 0 steps)] [] 0 (Il r) []:=by
 unfold CP at h
 refine sO Tryz.f14 39 fun E hE=>?_
 refine aj hE 1 kg fH 64 ?_
 obtain ⟨vS,hr,h⟩:=ax h
 refine bc hE 2 [(1,oT (aI vS))] (kp [2,3,4,8]) fH 112 (pc o1 (pc (sd _ _ _ hr) pn)) <| aj hE 1 (kp [2,3,4,8,15]) fH 144 <| cx 0 15 h (fun cP h=>?_) (fun cP h=>?_)
 ·refine aj hE 1 (kp [6,7]) [] 192 ?_
  cases h
  exact jn hE 0 Tryz.f14 [] ([(6,rM cS ByteArray.empty ([]:List ByteArray))] ++ kp [7]) [] 192 (pc (Eq.refl 0) pn) [] pn
 ·obtain ⟨gu,dy,h⟩:=ax h
  refine bc hE 3 [(1,oT (aI gu))] (kp [2,3,4,9]) fH 192 (pc o1 (pc (tw _ _ _ dy) pn)) <| aj hE 1 (kp [2,3,4,9,20]) fH 224 <| cx 0 20 h (fun gX h=>?_) (fun gX h=>?_)
  ·refine aj hE 1 (kp [6,7]) [] 272 ?_
   cases h
   exact jn hE 0 Tryz.f14 [] ([(6,rM cS ByteArray.empty ([]:List ByteArray))] ++ kp [7]) [] 272 (pc (Eq.refl 0) pn) [] pn
  ·obtain ⟨kM,ia,h⟩:=ax h
   refine bc hE 2 [(2,oT (UQ kM))] (kp [3,4,10,11]) (kq [0,16,320]) 368 (pc o1 (pc (Ad _ _ _ _ ia) (pc o1 pn))) <| aj hE 2 (kp [3,4,10,11,29]) (kq [0,16,320]) 400 <| cx 0 29 h (fun sb h=>?_) (fun sb h=>?_)
   ·refine aj hE 1 (kp [6,7]) [] 448 ?_
    cases h
    exact jn hE 0 Tryz.f14 [] ([(6,rM cS ByteArray.empty ([]:List ByteArray))] ++ kp [7]) [] 448 (pc (Eq.refl 0) pn) [] pn
   ·obtain ⟨fU,kT,h⟩:=ax h
    obtain ⟨ot,oW,h⟩:=ax h
    obtain ⟨CQ,vG,h⟩:=ax h
    refine bc hE 2 [(2,oT (XB fU)),(5,oT (aI ot)),(7,oT (CY CQ))] (kp [6,7]) [] 560 (pc o1 (pc o1 (pc (uI _ _ _ _ kT) (pc o1 (pc o1 (pc (tx _ _ _ _ _ oW) (pc (HH _ _ _ vG) pn))))))) ?_
    cases h
    exact fw hE 0 Tryz.f14 (kp [6,7]) [] 560
theorem xn (N n r) (h:fo N n=some r):Sd 96 [(aI n)] [] 0 (ao r) []:=by
 unfold fo at h
 refine sO Tryz.f96 6 fun E hE=>?_
 refine aj hE 1 (kp [0,2]) (kq [0]) 16 ?_
 obtain ⟨Te,hr,h⟩:=ax h
 obtain ⟨lI,dy,h⟩:=ax h
 refine bc hE 1 [(1,oT (ba Te)),(2,⟨[],true,(jr lI),[(0,aU lI.fN.fL),(1,aU lI.fD.fL)],0,false,none⟩)] (kp [2]) (kq [0,48,49]) 80 (pc (FH _ _ _ hr) (pc (zd _ _ _ dy) (pc o1 pn))) ?_
 obtain rfl:=kR h
 exact jn hE 0 Tryz.f96 [48,49] (kp [2]) [(16,.var 0 [.af,rM (cU .u16) 0 lI.fN.fL,.af,rM (cU .u16) 0 lI.fD.fL])] 80 (pc (Eq.refl lI.fN.fL.length) (pc (z1 lI.fN.fL.length) (pc (eZ (cU .u16) 0 lI.fN.fL) (pc (Eq.refl lI.fD.fL.length) (pc (z1 lI.fD.fL.length) (pc (eZ (cU .u16) 0 lI.fD.fL) pn)))))) [16] (pc o1 pn)
noncomputable abbrev ahl:=bt Tryz.f95
def QQ (N:Nat) (c:List aa) (x:List aa) (K:aa->Int->Option (aa)):Prop:=∀ (sum:aa) (x2:Int) (r:aa),K sum x2=some r->∀ E,aP E 0->ay Tryz.prog E 95 26 (aQ E [] (ao r)) [.code (ahl 116),.inLoop (ahl 116),.inBlock 0,.code (ahl 15)] ⟨[(1,(pM x)),(4,(.op 0 0 0)),(5,(.op 1 0 0)),(9,(pM c)),(10,(P1 c)),(11,(aI x2))],[(0,vO 4 [(aB false),.nil,(aB false),.nil]),(1,vO 4 (xc sum))],2⟩
theorem N6 (N c x fuel):QQ N c x (q9 N c x fuel):=by
 induction fuel with
 | zero=>intro _ _ r h;rw [q9.eq_1] at h;cases h
 | succ fuel ih =>
  intro sum x2 r h E hE
  rw [q9.eq_2] at h
  refine aj hE 1 (kp [1,4,5,9,10,11,12]) (kq [0,1]) 18 <| cx 1 12 h (fun cP h=>?_) (fun cP h=>?_)
  ·obtain ⟨c2,h⟩:=ae h
   refine cd hE 4 (kp [1,4,5,6,7,9,10,11]) Vz 114 (pc c2 (pc o1 pn)) ?_
   obtain ⟨c3,h⟩:=ae h
   obtain ⟨aY,dy,h⟩:=ax h
   obtain ⟨bQ,ia,h⟩:=ax h
   refine bc hE 0 [(6,⟨[],true,(jr aY),[(0,aU aY.fN.fL),(1,aU aY.fD.fL)],0,false,none⟩),(7,⟨[],true,(ao bQ),[],0,true,none⟩)] Qf (kq [0,1]) 258 (pc o1 (pc o1 (pc c3 (pc (ta _ _ _ _ dy) (pc (tc _ _ _ _ ia) (pc (z1 aY.fN.fL.length) (pc (z1 aY.fD.fL.length) (pc o1 pn)))))))) <| aj hE 1 Qf (kq [0,1]) 290 <| cy hE 1 Qf (kq [0,1]) 2 (ih _ _ _ h E hE)
  ·refine cd hE 2 (kp [4]) (kq [0]) 50 (pc o1 (pc o1 pn)) ?_
   obtain rfl:=kR h
   exact jn hE 0 Tryz.f95 [] (kp [4]) [(16,.af 0)] 50 pn [16] (pc o1 pn)
theorem VT (N c x r) (h:On N c x=some r):Sd 95 [(pM c),(pM x)] [] 0 (ao r) []:=by
 unfold On at h
 refine sO Tryz.f95 26 fun E hE=>?_
 refine aj hE 1 IH (kq [0]) 16 ?_
 obtain ⟨aw,hr,h⟩:=ax h
 refine bc hE 1 [(0,oT (ao aw))] (kp [0,1,4,5]) AU 64 (pc (xn _ _ _ hr) (pc o1 pn)) <| aj hE 2 Qf AU 112 <| cy hE 2 Qf Z9 2 (N6 N _ _ N _ _ _ h E hE)
theorem FT (N vr C0 r) (h:sZ N vr C0=some r):Sd 93 [(E2 vr),(.op 0 0 0)] [(E5 C0)] 1 (aB r) [(E5 C0)]:=by
 unfold sZ at h
 refine sO Tryz.f93 12 fun E hE=>?_
 refine aj hE 1 (kp [1,2]) (kq [0,1]) 33 ?_
 obtain ⟨amX,hr,h⟩:=ax h
 obtain ⟨pA,dy,h⟩:=ax h
 refine bc hE 1 [(3,oT (ao amX)),(6,oT (aI pA))] (kp [3]) (kq [0]) 177 (pc o1 (pc o1 (pc (VT _ _ _ _ hr) (pc o1 (pc (DN _ _ _ _ dy) pn))))) ?_
 cases h
 exact fw hE 0 Tryz.f93 (kp [3]) (kq [0]) 177
noncomputable abbrev ahm:=bt Tryz.f130
def vH (N:Nat) (s:List aV) (C0:List aa) (K:Int->Option (Int)):Prop:=∀ (x:Int) (r:Int),K x=some r->∀ E,aP E 1->ay Tryz.prog E 130 19 (aQ E [(E5 C0)] (aI r)) [.code (ahm 52),.inLoop (ahm 52),.inBlock 0,.code (ahm 7)] ⟨[(0,(oS s)),(1,(.fn (.func 93) [] [(.op 0 0 0)])),(7,(xe s)),(8,(aI x))],[(E5 C0)],1⟩
theorem uT (N s C0 fuel):vH N s C0 (cl N s C0 fuel):=by
 induction fuel with
 | zero=>intro _ r h;rw [cl.eq_1] at h;cases h
 | succ fuel ih =>
  intro x r h E hE
  rw [cl.eq_2] at h
  refine aj hE 1 P8 (kq [0]) 17 <| cx 1 9 h (fun cP h=>?_) (fun cP h=>?_)
  ·refine aj hE 4 vD (kq [0]) 49 ?_
   obtain ⟨c,h⟩:=ae h
   obtain ⟨EV,hr,h⟩:=ax h
   refine bc hE 1 [(5,⟨[0],true,(aB EV),[],0,false,none⟩)] P6 (kq [0]) 145 (pc c (pc (FT _ _ _ _ hr) pn)) <| cx 0 16 h (fun gX h=>?_) (fun gX h=>?_)
   ·refine aj hE 1 (kp [4]) (kq [0]) 177 ?_
    obtain rfl:=kR h
    exact fw hE 0 Tryz.f130 (kp [4]) (kq [0]) 177
   ·refine aj hE 2 oU (kq [0]) 177 <| cy hE 1 oU (kq [0]) 1 (ih _ _ h E hE)
  ·refine aj hE 2 (kp [4]) (kq [0]) 33 ?_
   cases h
   exact fw hE 0 Tryz.f130 (kp [4]) (kq [0]) 49
theorem xp (N s C0 r) (h:mW N s C0=some r):Sd 130 [(oS s),(.fn (.func 93) [] [(.op 0 0 0)])] [(E5 C0)] 1 (aI r) [(E5 C0)]:=by
 unfold mW at h
 refine sO Tryz.f130 19 fun E hE=>?_
 refine aj hE 1 (kp [0,1]) (kq [0]) 17 <| aj hE 2 oU (kq [0]) 65 <| cy hE 2 oU (kq [0]) 1 (uT N _ _ N _ _ h E hE)
theorem uU (N s C0 r) (h:lr N s C0=some r):Sd 91 [(oS s),(.fn (.func 93) [] [(.op 0 0 0)])] [(E5 C0)] 1 (aB r) [(E5 C0)]:=by
 unfold lr at h
 refine sO Tryz.f91 9 fun E hE=>?_
 refine aj hE 1 (kp [0,1]) (kq [0]) 17 ?_
 obtain ⟨H0,hr,h⟩:=ax h
 refine bc hE 1 [(2,⟨[0],true,(aI H0),[],0,false,none⟩)] (kp [4]) (kq [0]) 97 (pc (xp _ _ _ _ hr) pn) ?_
 cases h
 exact fw hE 0 Tryz.f91 (kp [4]) (kq [0]) 97
theorem Ms (N l pf r) (h:vY N l pf=some r):Sd 48 [(oS l),(pM pf)] [] 0 (aB r) []:=by
 unfold vY at h
 refine sO Tryz.f48 9 fun E hE=>?_
 refine aj hE 1 (kp [0,3]) (kq [0]) 32 ?_
 obtain ⟨H0,hr,h⟩:=ax h
 refine bc hE 1 [(2,⟨[0],true,(aB H0),[],0,false,none⟩)] (kp [4]) [] 112 (pc (uU _ _ _ _ hr) pn) ?_
 cases h
 exact fw hE 0 Tryz.f48 (kp [4]) [] 112
theorem Kk (N l pf r) (h:uz N l pf=some r):Sd 16 [(oS l),(pM pf)] [] 0 (aI r) []:=by
 unfold uz at h
 refine sO Tryz.f16 17 fun E hE=>?_
 refine aj hE 1 (kp [0,1]) [] 16 ?_
 obtain ⟨jA,hr,h⟩:=ax h
 refine bc hE 2 [(3,oT (aI jA))] r9 [] 96 (pc (vF _ _ _ _ hr) pn) <| aj hE 1 (kp [0,1,5,11]) [] 128 <| cx 0 11 h (fun cP h=>?_) (fun cP h=>?_)
 ·refine aj hE 1 (kp [4]) [] 160 ?_
  obtain rfl:=kR h
  exact fw hE 0 Tryz.f16 (kp [4]) [] 160
 ·obtain ⟨H9,dy,h⟩:=ax h
  refine bc hE 3 [(2,oT (aB H9))] (kp [16]) [] 192 (pc (Ms _ _ _ _ dy) pn) <| cx 0 16 h (fun gX h=>?_) (fun gX h=>?_)
  ·refine aj hE 1 (kp [4]) [] 208 ?_
   cases h
   exact fw hE 0 Tryz.f16 (kp [4]) [] 208
  ·refine aj hE 2 (kp [4]) [] 208 ?_
   cases h
   exact fw hE 0 Tryz.f16 (kp [4]) [] 208
noncomputable abbrev ahn:=bt Tryz.f54
def I5 (N:Nat) (p:cQ) (K:ab->Int->Option (ab×Bool)):Prop:=∀ (s2:ab) (x:Int) (r:ab×Bool),K s2 x=some r->∀ E,aP E 0->ay Tryz.prog E 54 32 (aQ E [] (Lx r)) [.code (ahn 52),.inLoop (ahn 52),.inBlock 0,.code (ahn 7)] ⟨[(3,(.op 0 0 0)),(4,(.op 1 0 0)),(9,(ZS p)),(10,(UZ p)),(11,(aI x))],[(0,vO 6 (Ix s2)),(1,vO 6 [(aI 0),(aI 0),(aI 0),(aI 0),(aI 0),(aI 0)])],2⟩
theorem Hj (N p fuel):I5 N p (jd N p fuel):=by
 induction fuel with
 | zero=>intro _ _ r h;rw [jd.eq_1] at h;cases h
 | succ fuel ih =>
  intro s2 x r h E hE
  rw [jd.eq_2] at h
  refine aj hE 1 (kp [3,4,9,10,11,12]) (kq [0,1]) 18 <| cx 1 12 h (fun cP h=>?_) (fun cP h=>?_)
  ·obtain ⟨c,h⟩:=ae h
   refine cd hE 4 (kp [3,4,6,7,9,10,11]) Vz 114 (pc c (pc o1 pn)) ?_
   obtain ⟨c2,h⟩:=ae h
   refine cd hE 2 (kp [3,4,6,9,10,11,21]) (kq [0,1]) 210 (pc c2 (pc o1 (pc o1 pn))) <| cx 0 21 h (fun gX h=>?_) (fun gX h=>?_)
   ·refine cd hE 1 (kp [3,4]) (kq [0,1]) 306 (pc c2 (pc o1 (pc c2 (pc o1 pn)))) <| cd hE 1 (kp [4,5]) (kq [1]) 354 (pc o1 (pc o1 pn)) ?_
    cases h
    exact jn hE 0 Tryz.f54 [] (kp [4,5]) [(16,.af 1)] 354 pn [16] (pc o1 pn)
   ·refine cd hE 1 Qm (kq [0,1]) 258 (pc c2 (pc o1 pn)) <| aj hE 1 Qm (kq [0,1]) 290 <| cy hE 1 Qm (kq [0,1]) 2 (ih _ _ _ h E hE)
  ·refine cd hE 2 (kp [4,5]) (kq [1]) 66 (pc o1 (pc o1 pn)) ?_
   cases h
   exact jn hE 0 Tryz.f54 [] (kp [4,5]) [(16,.af 1)] 66 pn [16] (pc o1 pn)
theorem Mt (N p s r) (h:vZ N p s=some r):Sd 54 [(sH p),(M1 s)] [] 0 (Lx r) []:=by
 unfold vZ at h
 refine sO Tryz.f54 32 fun E hE=>?_
 refine aj hE 1 kg cC 64 <| cd hE 2 Qm (kq [16,32]) 128 (pc o1 pn) <| cy hE 2 Qm [(0,.af 16),(1,.af 32)] 2 (Hj N _ N _ _ _ h E hE)
noncomputable abbrev aho:=bt Tryz.f55
def Hk (N:Nat) (bits:Int) (C0:cR) (K:Int->Option (Bool)):Prop:=∀ (x:Int) (r:Bool),K x=some r->∀ E,aP E 1->ay Tryz.prog E 55 20 (aQ E [(Lz C0)] (aB r)) [.code (aho 52),.inLoop (aho 52),.inBlock 0,.code (aho 7)] ⟨[(0,(aI bits)),(6,(.agg (cR.cells C0))),(7,(aI x))],[(Lz C0)],1⟩
theorem FU (N bits C0 fuel):Hk N bits C0 (il N bits C0 fuel):=by
 induction fuel with
 | zero=>intro _ r h;rw [il.eq_1] at h;cases h
 | succ fuel ih =>
  intro x r h E hE
  rw [il.eq_2] at h
  refine aj hE 1 (kp [0,6,7,8]) (kq [0]) 17 <| cx 1 8 h (fun cP h=>?_) (fun cP h=>?_)
  ·obtain ⟨c,h⟩:=ae h
   refine cd hE 4 (kp [0,4,5,6,7]) (kq [0]) 81 (pc c pn) <| cd hE 1 (kp [0,6,7,18]) (kq [0]) 209 (pc (fun hg:(aab C0 x)=true=>(pc hg (pc hg pn))) (pc (fun hg:(aab C0 x)=true=>(pc hg (pc hg pn))) (pc (fun hq:(aab C0 x)=true=>(pc hq pn)) pn))) <| cx 0 18 h (fun gX h=>?_) (fun gX h=>?_)
   ·refine aj hE 1 (kp [3]) (kq [0]) 225 ?_
    obtain rfl:=kR h
    exact fw hE 0 Tryz.f55 (kp [3]) (kq [0]) 225
   ·refine aj hE 2 LR (kq [0]) 241 <| cy hE 1 LR (kq [0]) 1 (ih _ _ h E hE)
  ·refine aj hE 2 (kp [3]) (kq [0]) 33 ?_
   obtain rfl:=kR h
   exact fw hE 0 Tryz.f55 (kp [3]) (kq [0]) 49
theorem Aj (N bits C0 r) (h:oO N bits C0=some r):Sd 55 [(aI bits),(.op 0 0 0)] [(Lz C0)] 1 (aB r) [(Lz C0)]:=by
 unfold oO at h
 refine sO Tryz.f55 20 fun E hE=>?_
 refine aj hE 1 (kp [0,1]) (kq [0]) 17 <| cd hE 2 LR (kq [0]) 49 (pc o1 pn) <| cy hE 2 LR (kq [0]) 1 (FU N _ _ N _ _ h E hE)
noncomputable abbrev Kl:=bt Tryz.f18
def Hl (N:Nat) (p:cQ) (fU:da) (K:cR->ab->Bool->Option abz):Prop:=∀ (possible:cR) (s:ab) (more:Bool) (r:tp×Int),K possible s more=some r->∀ E,aP E 0->ay Tryz.prog E 18 64 (aQ E [] (Il r)) [.code (Kl 2036),.inLoop (Kl 2036),.inBlock 0,.code (Kl 255)] ⟨[(2,(.op 0 0 0)),(8,(.op 1 0 0)),(9,(.op 2 0 0)),(10,(.op 3 0 0)),(11,(aB more))],[(jQ p),(1,vO 5 (da.cells fU)),(2,vO 16 (cR.cells possible)),(3,vO 6 (Ix s))],4⟩
def xI (N:Nat) (possible:cR) (K:Int->Int->Option abz):Prop:=∀ (rest:Int) (bit:Int) (r:tp×Int),K rest bit=some r->∀ E,aP E 0->ay Tryz.prog E 18 64 (aQ E [] (Il r)) [.code (Kl 32756),.inLoop (Kl 32756),.inBlock 2,.code (Kl 4095)] ⟨[(12,(.fn (.func 55) [] [(.op 0 0 0)])),(13,(aI rest)),(14,(aI bit))],[(Lz possible)],1⟩
def Hm (N:Nat) (possible:cR) (bit:Int) (K:Int->Option abz):Prop:=∀ (EU:Int) (r:tp×Int),K EU=some r->∀ E,aP E 0->ay Tryz.prog E 18 64 (aQ E [] (Il r)) [.code (Kl 131027),.inLoop (Kl 32756),.inBlock 2,.code (Kl 4095)] ⟨[(12,(.fn (.func 55) [] [(.op 0 0 0)])),(13,(aI EU)),(14,(aI bit))],[(Lz possible)],1⟩
theorem wP (N:Nat) (possible:cR) (bit:Int) (oB:Int->Int->Option abz) (FV:xI N possible oB):Hm N possible bit (s5 N possible bit oB):=by
 intro EU r h E hE
 unfold s5 at h
 refine cd hE 0 IL (kq [0]) 49 (pc (show (0:Int)<=1 by decide) pn) <| cy hE 1 IL (kq [0]) 1 (FV _ _ _ h E hE)
theorem FX (N possible fuel):xI N possible (b7 N possible fuel):=by
 induction fuel with
 | zero=>intro _ _ r h;rw [b7.eq_1] at h;cases h
 | succ fuel ih =>
  intro rest bit r h E hE
  rw [b7.eq_2] at h
  refine aj hE 2 (kp [12,13,14,50]) (kq [0]) 33 <| cx 0 50 h (fun hq7 h=>?_) (fun hq7 h=>?_)
  ·obtain ⟨EW,IS,h⟩:=ax h
   refine bc hE 4 [(4,⟨[0],true,(aB EW),[],0,false,none⟩)] (kp [12,13,14,58]) (kq [0]) 129 (pc (Aj _ _ _ _ IS) pn) <| cx 0 58 h (fun hq8 h=>?_) (fun hq8 h=>?_)
   ·refine aj hE 0 IL (kq [0]) 193 <| cy hE 1 IL (kq [0]) 1 (wP N _ _ _ ih _ _ h E hE)
   ·exact cy hE 2 IL (kq [0]) 1 (wP N _ _ _ ih _ _ h E hE)
  ·obtain ⟨CQ,IQ,h⟩:=ax h
   refine bc hE 2 [(1,oT (CY CQ))] (kp [4,5]) [] 97 (pc (HH _ _ _ IQ) pn) ?_
   cases h
   exact fw hE 0 Tryz.f18 (kp [4,5]) [] 97
theorem FY (N p fU fuel):Hl N p fU (fP N p fU fuel):=by
 induction fuel with
 | zero=>intro _ _ _ r h;rw [fP.eq_1] at h;cases h
 | succ fuel ih =>
  intro possible s more r h E hE
  rw [fP.eq_2] at h
  refine aj hE 2 (kp [2,8,9,10,32]) sa 20 <| cx 0 32 h (fun Ft h=>?_) (fun Ft h=>?_)
  ·obtain ⟨ot,oW,h⟩:=ax h
   obtain ⟨c,h⟩:=ae h
   refine bc hE 3 [(3,oT (aI ot))] (kp [2,8,9,10]) sa 116 (pc o1 (pc o1 (pc o1 (pc (tx _ _ _ _ _ oW) (pc c (pc o1 pn)))))) <| cd hE 3 (kp [2,8,9,44]) cH 132 (pc o1 pn) <| cd hE 0 (kp [2,8,9,10]) (kq [0,1,2,132]) 164 (pc o1 pn) ?_
   obtain ⟨CR,vG,h⟩:=ax h
   refine bc hE 0 [(2,oT (Lx CR))] Vv (kq [0,1,2,132]) 292 (pc o1 (pc o1 (pc (Mt _ _ _ _ vG) (pc o1 pn)))) <| cy hE 1 Vv (kq [0,1,2] ++ [(3,.af 132)]) 4 (ih _ _ _ _ h E hE)
  ·refine aj hE 2 (kp [12]) (kq [2]) 52 <| aj hE 1 (kp [12,13]) (kq [2]) 68 ?_
   obtain ⟨Ia,x6,h⟩:=ax h
   refine bc hE 2 [(2,⟨[2],true,(aB Ia),[],0,false,none⟩)] (kp [12,13,48]) (kq [2]) 116 (pc (Aj _ _ _ _ x6) pn) <| cx 0 48 h (fun VE h=>?_) (fun VE h=>?_)
   ·refine aj hE 1 (kp [4,5]) [] 148 ?_
    cases h
    exact jn hE 0 Tryz.f18 [] ([(4,rM cS ByteArray.empty ([]:List ByteArray))] ++ kp [5]) [] 148 (pc (Eq.refl 0) pn) [] pn
   ·refine aj hE 3 IL (kq [2]) 132 <| cy hE 2 IL [(0,.af 2)] 1 (FX N _ N _ _ _ h E hE)
theorem Km (N p l r) (h:xY N p l=some r):Sd 18 [(sH p),(JR l)] [] 0 (Il r) []:=by
 unfold xY at h
 refine sO Tryz.f18 64 fun E hE=>?_
 refine aj hE 1 (kp [2,3]) fH 64 ?_
 obtain ⟨vS,hr,h⟩:=ax h
 refine bc hE 2 [(1,oT (aI vS))] (kp [2,3,6]) fH 112 (pc o1 (pc (sd _ _ _ hr) pn)) <| aj hE 1 (kp [2,3,6,18]) fH 144 <| cx 0 18 h (fun cP h=>?_) (fun cP h=>?_)
 ·refine aj hE 1 (kp [4,5]) [] 192 ?_
  cases h
  exact jn hE 0 Tryz.f18 [] ([(4,rM cS ByteArray.empty ([]:List ByteArray))] ++ kp [5]) [] 192 (pc (Eq.refl 0) pn) [] pn
 ·obtain ⟨gu,dy,h⟩:=ax h
  refine bc hE 3 [(1,oT (aI gu))] (kp [2,3,7]) fH 192 (pc o1 (pc (tw _ _ _ dy) pn)) <| aj hE 1 (kp [2,3,7,23]) fH 224 <| cx 0 23 h (fun gX h=>?_) (fun gX h=>?_)
  ·refine aj hE 1 (kp [4,5]) [] 272 ?_
   cases h
   exact jn hE 0 Tryz.f18 [] ([(4,rM cS ByteArray.empty ([]:List ByteArray))] ++ kp [5]) [] 272 (pc (Eq.refl 0) pn) [] pn
  ·obtain ⟨PA,ia,h⟩:=ax h
   refine bc hE 3 [(1,oT (aI PA))] (kp [2,3,27]) fH 272 (pc o1 (pc (M3 _ _ _ ia) pn)) <| cx 0 27 h (fun sb h=>?_) (fun sb h=>?_)
   ·refine aj hE 1 (kp [4,5]) [] 304 ?_
    cases h
    exact jn hE 0 Tryz.f18 [] ([(4,rM cS ByteArray.empty ([]:List ByteArray))] ++ kp [5]) [] 304 (pc (Eq.refl 0) pn) [] pn
   ·obtain ⟨fU,kT,h⟩:=ax h
    refine bc hE 2 [(2,oT (XB fU))] (kp [2,8]) (kq [0,320]) 352 (pc o1 (pc o1 (pc (uI _ _ _ _ kT) (pc o1 pn)))) <| aj hE 1 (kp [2,8,9]) (kq [0,320,352]) 368 <| cd hE 2 Vv (kq [0,320,352,384]) 432 (pc o1 pn) <| cy hE 2 Vv (kq [0] ++ [(1,.af 320),(2,.af 352),(3,.af 384)]) 4 (FY N _ _ N _ _ _ _ h E hE)
noncomputable abbrev DS:=bt Tryz.f56
def Hn (N:Nat) (n:Int) (l:List aV) (y:List aa) (K:aK->Int->Option abA):Prop:=∀ (Lr:List aa) (x:Int) (r:aK×aa×Bool),K Lr x=some r->∀ E,aP E 0->ay Tryz.prog E 56 78 (aQ E [] (PS r)) [.code (DS 116),.inLoop (DS 116),.inBlock 0,.code (DS 15)] ⟨[(1,(oS l)),(2,(pM y)),(7,(.op 0 0 0)),(9,(.os 1 0 Lr.length)),(19,(agw n)),(20,(aI x))],[(0,vO 4 [(aB false),.nil,(aB false),.nil]),(vA Lr)],2⟩
def xJ (N:Nat) (l:List aV) (y:List aa) (K:aK->aa->Int->Option abA):Prop:=∀ (EX:List aa) (bound:aa) (x2:Int) (r:aK×aa×Bool),K EX bound x2=some r->∀ E,aP E 0->ay Tryz.prog E 56 78 (aQ E [] (PS r)) [.code (DS 500),.inLoop (DS 500),.inBlock 2,.code (DS 63)] ⟨[(2,(pM y)),(7,(.op 0 0 0)),(9,(.os 1 0 EX.length)),(11,(.op 2 0 0)),(29,(oS l)),(30,(xe l)),(31,(aI x2))],[(0,vO 4 [(aB false),.nil,(aB false),.nil]),(vA EX),(LC bound)],3⟩
def Ho (N:Nat) (l:List aV) (y:List aa) (bound:aa) (x2:Int) (K:aK->Int->Option abA):Prop:=∀ (yR:List aa) (x3:Int) (r:aK×aa×Bool),K yR x3=some r->∀ E,aP E 0->ay Tryz.prog E 56 78 (aQ E [] (PS r)) [.code (DS 512820),.inLoop (DS 512820),.inBlock 4,.code (DS 64103),.inBlock 3,.code (DS 4007),.inLoop (DS 500),.inBlock 2,.code (DS 63)] ⟨[(2,(pM y)),(7,(.op 0 0 0)),(9,(.os 1 0 yR.length)),(11,(.op 2 0 0)),(12,(aI x2)),(13,(.op 3 0 0)),(29,(oS l)),(30,(xe l)),(31,(aI x2)),(44,(b5 eT aa.d ((l.getD ((x2).toNat) aV.d).dd))),(45,(aI ((((l.getD ((x2).toNat) aV.d).dd).length:Nat):Int))),(46,(aI x3))],[(0,vO 4 [(aB false),.nil,(aB false),.nil]),(vA yR),(LC bound),(3,vO 5 (TWc (l.getD ((x2).toNat) aV.d)))],4⟩
theorem FZ (N:Nat) (l:List aV) (y:List aa) (bound:aa) (x2:Int) (lA:aK->aa->Int->Option abA) (F0:xJ N l y lA) (fuel:Nat):Ho N l y bound x2 (jM N l y bound x2 lA fuel):=by
 induction fuel with
 | zero=>intro _ _ r h;rw [jM.eq_1] at h;cases h
 | succ fuel ih =>
  intro yR x3 r h E hE
  rw [jM.eq_2] at h
  refine aj hE 1 (kp [2,7,9,11,12,13,29,30,31,44,45,46,47]) sa 20 <| cx 1 47 h (fun Ft h=>?_) (fun Ft h=>?_)
  ·obtain ⟨c5,h⟩:=ae h
   refine cd hE 4 (kp [2,7,9,11,12,13,14,15,29,30,31,44,45,46]) (kq [0,1,2,3,68]) 116 (pc c5 (pc o1 pn)) ?_
   obtain ⟨c6,h⟩:=ae h
   obtain ⟨c7,h⟩:=ae h
   obtain ⟨aY,kT,h⟩:=ax h
   obtain ⟨bQ,oW,h⟩:=ax h
   refine bc hE 0 [(11,⟨[],true,(jr aY),[(0,aU aY.fN.fL),(1,aU aY.fD.fL)],0,false,none⟩),(12,⟨[],true,(ao bQ),[],0,true,none⟩)] (kp [2,7] ++ [(9,.lx (wC yR x3 bQ))] ++ kp [11,12,13,29,30,31,44,45,46]) (kq [0] ++ [(1,pY 1 eT aa.d (yR.set ((x3).toNat) bQ))] ++ kq [2,3]) 356 (pc c6 (pc (dV c6) (pc c7 (pc o1 (pc (ta _ _ _ _ kT) (pc (tc _ _ _ _ oW) (pc (z1 aY.fN.fL.length) (pc (z1 aY.fD.fL.length) (pc c6 (pc (dV c6) (pc (az yR ((x3).toNat) bQ) (pc (az yR ((x3).toNat) bQ) (pc (cF eT aa.d yR ((x3).toNat) bQ) pn))))))))))))) <| aj hE 1 Vu sa 388 <| cy hE 1 Vu sa 4 (ih _ _ _ h E hE)
  ·obtain ⟨c8,h⟩:=ae h
   obtain ⟨gr,vG,h⟩:=ax h
   obtain ⟨lz,x6,h⟩:=ax h
   refine bc hE 1 [(7,⟨[],true,(jr gr),[(0,aU gr.fN.fL),(1,aU gr.fD.fL)],0,false,none⟩),(8,⟨[],true,(ao lz),[],0,true,none⟩)] Qk cH 180 (pc o1 (pc c8 (pc o1 (pc (ta _ _ _ _ vG) (pc (tc _ _ _ _ x6) (pc (z1 gr.fN.fL.length) (pc (z1 gr.fD.fL.length) (pc o1 pn)))))))) <| aj hE 1 Qk cH 212 <| cy hE 1 Qk cH 3 (F0 _ _ _ _ h E hE)
end Go.Den
