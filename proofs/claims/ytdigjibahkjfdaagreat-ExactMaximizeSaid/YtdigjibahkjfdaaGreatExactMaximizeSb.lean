/- Each function of the program does what its Lean function computes (part 2). No conditions. -/
import Derived.Test.YtdigjibahkjfdaaGreatExactMaximizeSa
import Derived.Test.YtdigjibahkjfdaaGreatProg
set_option linter.unusedVariables false
set_option maxRecDepth 100000
namespace Go.Den
open Go.Ab Go.Proofs Go.Ab.az
noncomputable abbrev UZ:=cG Tryz.f76
def sQ (N:Nat) (s:List aa) (K:Int→Option (Int)):Prop:=∀ (x:Int) (r:Int),K x=some r→∀ E,aQ E 0→az Tryz.prog E 76 19 (aY E [] (aI r)) [.code (UZ 52),.inLoop (UZ 52),.inBlock 0,.code (UZ 7)] ⟨[(0,(aN ah aa.d s)),(1,(.fn (.func 77) [] [])),(7,(aI ((s.length:Nat):Int))),(8,(aI x))],[],0⟩
theorem sf (N s fuel):sQ N s (cA N s fuel):=by
 induction fuel with
 | zero=>intro _ r h;rw [cA.eq_1] at h;cases h
 | succ fuel ih =>
  intro x r h E hE
  rw [cA.eq_2] at h
  refine aj hE 1 [] [] (kp [0,1,7,8,9]) [] 16 pn ?_
  refine dS 1 9 h (fun dR h=>?_) (fun dR h=>?_)
  ·refine aj hE 4 [] [] (kp [0,1,5,7,8]) [] 48 pn ?_
   obtain ⟨c,h⟩:=ae h
   obtain ⟨FQ,hr,h⟩:=bt h
   refine aj hE 1 [(5,oT (aB FQ))] [] (kp [0,1,5,7,8,16]) [] 144 (pc c (pc (vV _ _ _ hr) pn)) ?_
   refine dS 0 16 h (fun iU h=>?_) (fun iU h=>?_)
   ·refine aj hE 1 [] [] (kp [4]) [] 176 pn ?_
    obtain rfl:=dx h
    exact dQ hE 0 Tryz.f76 [] (kp [4]) [] 176 pn [] pn
   ·refine aj hE 2 [] [] (kp [0,1,7,8]) [] 176 pn ?_
    exact de hE 1 [] (kp [0,1,7,8]) [] 0 pn (ih _ _ h E hE)
  ·refine aj hE 2 [] [] (kp [4]) [] 32 pn ?_
   obtain rfl:=dx h
   exact dQ hE 0 Tryz.f76 [] (kp [4]) [] 48 pn [] pn
theorem uh (N s r) (h:jz N s=some r):Sd 76 [(aN ah aa.d s),(.fn (.func 77) [] [])] [] 0 (aI r) []:=by
 unfold jz at h
 refine iy (fu:=Tryz.f76) (c:=UZ 1) (nt:=19) (fun hm=>rfl) ?_
 intro E hE
 refine aj hE 1 [] [] (kp [0,1]) [] 16 pn ?_
 refine aj hE 2 [] [] (kp [0,1,7,8]) [] 64 pn ?_
 exact de hE 2 [] (kp [0,1,7,8]) [] 0 pn (sf N _ N _ _ h E hE)
noncomputable abbrev acM:=cG Tryz.f78
theorem tK (N i j C0 r) (h:jb N i j C0=some r):Sd 78 [(.os 0 0 C0.length),(aI i),(aI j)] [(0,aO 1 cI 0 C0)] 1 (.os 0 0 r.2.length) [(0,aO 1 cI 0 r.2)]:=by
 unfold jb at h
 refine iy (fu:=Tryz.f78) (c:=acM 1) (nt:=33) (fun hm=>absurd hm (by decide)) ?_
 intro E hE
 refine aj hE 1 [] [] (kp [0,1,2]) (kq [0]) 17 pn ?_
 obtain ⟨c,h⟩:=ae h
 refine aj hE 1 [(5,oF (.mU))] [] (kp [0,1,2]) (kq [0]) 113 (pc c pn) ?_
 refine aj hE 2 [] [] (kp [0,1,2,16]) (kq [0]) 161 pn ?_
 refine dS 0 16 h (fun dR h=>?_) (fun dR h=>?_)
 ·refine aj hE 1 [] [] (kp [6]) (kq [0]) 193 pn ?_
  obtain rfl:=dx h
  exact dQ hE 0 Tryz.f78 [] (kp [6]) (kq [0]) 193 pn [] pn
 ·refine aj hE 2 [] [] (kp [0,1,2,7]) (kq [0]) 209 pn ?_
  obtain ⟨c2,h⟩:=ae h
  obtain ⟨c3,h⟩:=ae h
  obtain ⟨c4,h⟩:=ae h
  obtain ⟨c5,h⟩:=ae h
  obtain ⟨c6,h⟩:=ae h
  obtain ⟨c7,h⟩:=ae h
  refine aj hE 1 [(6,oF (.mU))] [] (kp [0,7]) [(0,.arr 0 ((kJ C0 ((i).toNat) ((j).toNat)).length) (fun zi=>cI ((kJ C0 ((i).toNat) ((j).toNat)).getD zi 0)))] 337 (pc c2 (pc c3 (pc c4 (pc c5 (pc (show 0 < C0.length∧((i).toNat - 0)+(C0.length - (j).toNat)≤C0.length by have h1:=c6;have h2:=c7;omega) (pc (show (j).toNat+(C0.length - (j).toNat)≤C0.length by have h1:=c6;omega) (pc (show ∀ zi,zi < C0.length→AV.ko (cI (C0.getD zi 0))=true from (fun _ _=>rfl)) (pc (show C0.length=(kJ C0 ((i).toNat) ((j).toNat)).length from (EK c6)) (pc (show ∀ zi,zi < (kJ C0 ((i).toNat) ((j).toNat)).length→(fun zi=>cI ((kJ C0 ((i).toNat) ((j).toNat)).getD zi 0)) zi=((fun zm=>if zm < ((i).toNat - 0) then cI (C0.getD zm 0) else if zm < ((i).toNat - 0)+(C0.length - (j).toNat) then cI (C0.getD (bT (j).toNat (zm - ((i).toNat - 0))) 0) else cI (C0.getD zm 0))) zi from (fun zq j5=>NX cI 0 C0 ((i).toNat) ((j).toNat) c6 zq j5)) pn))))))))) ?_
  obtain ⟨c8,h⟩:=ae h
  obtain ⟨c9,h⟩:=ae h
  refine aj hE 1 [(4,oF (.mU)),(5,oF (.mU))] [] [(0,.lP (((kJ C0 ((i).toNat) ((j).toNat)).take (((i).toNat - 0)+(C0.length - (j).toNat))).length))] [(0,.arr 0 (((kJ C0 ((i).toNat) ((j).toNat)).take (((i).toNat - 0)+(C0.length - (j).toNat))).length) (fun zi=>cI (((kJ C0 ((i).toNat) ((j).toNat)).take (((i).toNat - 0)+(C0.length - (j).toNat))).getD zi 0)))] 433 (pc c8 (pc (show 0≤(((((i).toNat - 0)+(C0.length - (j).toNat)):Nat):Int) from (Int.natCast_nonneg _)) (pc (show 0≤((C0.length:Nat):Int) from (Int.natCast_nonneg _)) (pc c9 (pc (show (((i).toNat - 0)+(C0.length - (j).toNat))=((kJ C0 ((i).toNat) ((j).toNat)).take (((i).toNat - 0)+(C0.length - (j).toNat))).length from (Je c9)) (pc (show (((i).toNat - 0)+(C0.length - (j).toNat))=((kJ C0 ((i).toNat) ((j).toNat)).take (((i).toNat - 0)+(C0.length - (j).toNat))).length from (Je c9)) (pc (show ∀ zi,zi < ((kJ C0 ((i).toNat) ((j).toNat)).take (((i).toNat - 0)+(C0.length - (j).toNat))).length→(fun zi=>cI (((kJ C0 ((i).toNat) ((j).toNat)).take (((i).toNat - 0)+(C0.length - (j).toNat))).getD zi 0)) zi=(fun zi=>cI ((kJ C0 ((i).toNat) ((j).toNat)).getD zi 0)) zi from (fun zq j5=>Rt cI 0 (kJ C0 ((i).toNat) ((j).toNat)) (((i).toNat - 0)+(C0.length - (j).toNat)) zq j5)) pn))))))) ?_
  refine aj hE 1 [] [] (kp [6]) (kq [0]) 465 pn ?_
  obtain rfl:=dx h
  exact dQ hE 0 Tryz.f78 [] (kp [6]) (kq [0]) 465 pn [] pn
noncomputable abbrev acN:=cG Tryz.f79
theorem w8 (N i j C0 r) (h:lB N i j C0=some r):Sd 79 [(.os 0 0 C0.length),(aI i),(aI j)] [(0,aO 4 ah aa.d C0)] 1 (.os 0 0 r.2.length) [(0,aO 4 ah aa.d r.2)]:=by
 unfold lB at h
 refine iy (fu:=Tryz.f79) (c:=acN 1) (nt:=33) (fun hm=>absurd hm (by decide)) ?_
 intro E hE
 refine aj hE 1 [] [] (kp [0,1,2]) (kq [0]) 17 pn ?_
 obtain ⟨c,h⟩:=ae h
 refine aj hE 1 [(5,oF (.mU))] [] (kp [0,1,2]) (kq [0]) 113 (pc c pn) ?_
 refine aj hE 2 [] [] (kp [0,1,2,16]) (kq [0]) 161 pn ?_
 refine dS 0 16 h (fun dR h=>?_) (fun dR h=>?_)
 ·refine aj hE 1 [] [] (kp [6]) (kq [0]) 193 pn ?_
  obtain rfl:=dx h
  exact dQ hE 0 Tryz.f79 [] (kp [6]) (kq [0]) 193 pn [] pn
 ·refine aj hE 2 [] [] (kp [0,1,2,7]) (kq [0]) 209 pn ?_
  obtain ⟨c2,h⟩:=ae h
  obtain ⟨c3,h⟩:=ae h
  obtain ⟨c4,h⟩:=ae h
  obtain ⟨c5,h⟩:=ae h
  obtain ⟨c6,h⟩:=ae h
  obtain ⟨c7,h⟩:=ae h
  refine aj hE 1 [(6,oF (.mU))] [] (kp [0,7]) [(0,.arr 0 ((kJ C0 ((i).toNat) ((j).toNat)).length) (fun zi=>ah ((kJ C0 ((i).toNat) ((j).toNat)).getD zi aa.d)))] 337 (pc c2 (pc c3 (pc c4 (pc c5 (pc (show 0 < C0.length∧((i).toNat - 0)+(C0.length - (j).toNat)≤C0.length by have h1:=c6;have h2:=c7;omega) (pc (show (j).toNat+(C0.length - (j).toNat)≤C0.length by have h1:=c6;omega) (pc (show ∀ zi,zi < C0.length→AV.ko (ah (C0.getD zi aa.d))=true from (fun _ _=>rfl)) (pc (show C0.length=(kJ C0 ((i).toNat) ((j).toNat)).length from (EK c6)) (pc (show ∀ zi,zi < (kJ C0 ((i).toNat) ((j).toNat)).length→(fun zi=>ah ((kJ C0 ((i).toNat) ((j).toNat)).getD zi aa.d)) zi=((fun zm=>if zm < ((i).toNat - 0) then ah (C0.getD zm aa.d) else if zm < ((i).toNat - 0)+(C0.length - (j).toNat) then ah (C0.getD (bT (j).toNat (zm - ((i).toNat - 0))) aa.d) else ah (C0.getD zm aa.d))) zi from (fun zq j5=>NX ah aa.d C0 ((i).toNat) ((j).toNat) c6 zq j5)) pn))))))))) ?_
  obtain ⟨c8,h⟩:=ae h
  obtain ⟨c9,h⟩:=ae h
  refine aj hE 1 [(4,oF (.mU)),(5,oF (.mU))] [] [(0,.lP (((kJ C0 ((i).toNat) ((j).toNat)).take (((i).toNat - 0)+(C0.length - (j).toNat))).length))] [(0,.arr 0 (((kJ C0 ((i).toNat) ((j).toNat)).take (((i).toNat - 0)+(C0.length - (j).toNat))).length) (fun zi=>ah (((kJ C0 ((i).toNat) ((j).toNat)).take (((i).toNat - 0)+(C0.length - (j).toNat))).getD zi aa.d)))] 433 (pc c8 (pc (show 0≤(((((i).toNat - 0)+(C0.length - (j).toNat)):Nat):Int) from (Int.natCast_nonneg _)) (pc (show 0≤((C0.length:Nat):Int) from (Int.natCast_nonneg _)) (pc c9 (pc (show (((i).toNat - 0)+(C0.length - (j).toNat))=((kJ C0 ((i).toNat) ((j).toNat)).take (((i).toNat - 0)+(C0.length - (j).toNat))).length from (Je c9)) (pc (show (((i).toNat - 0)+(C0.length - (j).toNat))=((kJ C0 ((i).toNat) ((j).toNat)).take (((i).toNat - 0)+(C0.length - (j).toNat))).length from (Je c9)) (pc (show ∀ zi,zi < ((kJ C0 ((i).toNat) ((j).toNat)).take (((i).toNat - 0)+(C0.length - (j).toNat))).length→(fun zi=>ah (((kJ C0 ((i).toNat) ((j).toNat)).take (((i).toNat - 0)+(C0.length - (j).toNat))).getD zi aa.d)) zi=(fun zi=>ah ((kJ C0 ((i).toNat) ((j).toNat)).getD zi aa.d)) zi from (fun zq j5=>Rt ah aa.d (kJ C0 ((i).toNat) ((j).toNat)) (((i).toNat - 0)+(C0.length - (j).toNat)) zq j5)) pn))))))) ?_
  refine aj hE 1 [] [] (kp [6]) (kq [0]) 465 pn ?_
  obtain rfl:=dx h
  exact dQ hE 0 Tryz.f79 [] (kp [6]) (kq [0]) 465 pn [] pn
noncomputable abbrev xL:=cG Tryz.f34
def pO (N:Nat) (C0:Int) (bc:Int) (bZ:Bool) (cM:List Int) (cP:Bool) (cQ:List Int) (cg:Int) (C1:List Int) (C2:List Int) (C3:List (List aa)) (C4:List aa) (C5:List aa) (K:Int→Int→Option (Bool×jj×(List Int)×(List Int)×(List (List aa))×(List aa))):Prop:=∀ (low:Int) (x:Int) (r:Bool×jj×(List Int)×(List Int)×(List (List aa))×(List aa)),K low x=some r→∀ E,aQ E 6→az Tryz.prog E 34 177 (aY E [(0,vN 12 [(aI r.2.1.rf),(aI r.2.1.rh),(.os 1 0 r.2.2.1.length),(.os 2 0 r.2.2.2.1.length),(.os 3 0 r.2.2.2.2.1.length),(.os 4 0 r.2.2.2.2.2.length),(.os 6 0 r.2.1.dJ.length),(aB r.2.1.af.fN.fG),(eU r.2.1.af.fN.fL),(aB r.2.1.af.fD.fG),(eU r.2.1.af.fD.fL),(aI r.2.1.bC)]),(1,aO 1 cI 0 r.2.2.1),(2,aO 1 cI 0 r.2.2.2.1),(3,aM 4 ah aa.d r.2.2.2.2.1),(4,aO 4 ah aa.d r.2.2.2.2.2),(6,aO 4 ah aa.d r.2.1.dJ)] (aB r.1)) [.code (xL 116),.inLoop (xL 116),.inBlock 0,.code (xL 15)] ⟨[(0,(.op 0 0 0)),(3,(aI low)),(15,(aI ((C4.length:Nat):Int))),(16,(aI x))],[(0,vN 12 [(aI C0),(aI bc),(.os 1 0 C1.length),(.os 2 0 C2.length),(.os 3 0 C3.length),(.os 4 0 C4.length),(.os 6 0 C5.length),(aB bZ),(eU cM),(aB cP),(eU cQ),(aI cg)]),(1,aO 1 cI 0 C1),(2,aO 1 cI 0 C2),(3,aM 4 ah aa.d C3),(4,aO 4 ah aa.d C4),(6,aO 4 ah aa.d C5)],7⟩
def vW (N:Nat) (C0:Int) (bc:Int) (bZ:Bool) (cM:List Int) (cP:Bool) (cQ:List Int) (cg:Int) (C1:List Int) (C2:List Int) (C3:List (List aa)) (C4:List aa) (C5:List aa) (x:Int) (K:Int→Option (Bool×jj×(List Int)×(List Int)×(List (List aa))×(List aa))):Prop:=∀ (RF:Int) (r:Bool×jj×(List Int)×(List Int)×(List (List aa))×(List aa)),K RF=some r→∀ E,aQ E 6→az Tryz.prog E 34 177 (aY E [(0,vN 12 [(aI r.2.1.rf),(aI r.2.1.rh),(.os 1 0 r.2.2.1.length),(.os 2 0 r.2.2.2.1.length),(.os 3 0 r.2.2.2.2.1.length),(.os 4 0 r.2.2.2.2.2.length),(.os 6 0 r.2.1.dJ.length),(aB r.2.1.af.fN.fG),(eU r.2.1.af.fN.fL),(aB r.2.1.af.fD.fG),(eU r.2.1.af.fD.fL),(aI r.2.1.bC)]),(1,aO 1 cI 0 r.2.2.1),(2,aO 1 cI 0 r.2.2.2.1),(3,aM 4 ah aa.d r.2.2.2.2.1),(4,aO 4 ah aa.d r.2.2.2.2.2),(6,aO 4 ah aa.d r.2.1.dJ)] (aB r.1)) [.code (xL 935),.inLoop (xL 116),.inBlock 0,.code (xL 15)] ⟨[(0,(.op 0 0 0)),(3,(aI RF)),(15,(aI ((C4.length:Nat):Int))),(16,(aI x))],[(0,vN 12 [(aI C0),(aI bc),(.os 1 0 C1.length),(.os 2 0 C2.length),(.os 3 0 C3.length),(.os 4 0 C4.length),(.os 6 0 C5.length),(aB bZ),(eU cM),(aB cP),(eU cQ),(aI cg)]),(1,aO 1 cI 0 C1),(2,aO 1 cI 0 C2),(3,aM 4 ah aa.d C3),(4,aO 4 ah aa.d C4),(6,aO 4 ah aa.d C5)],7⟩
theorem oB (N:Nat) (C0:Int) (bc:Int) (bZ:Bool) (cM:List Int) (cP:Bool) (cQ:List Int) (cg:Int) (C1:List Int) (C2:List Int) (C3:List (List aa)) (C4:List aa) (C5:List aa) (x:Int) (jc:Int→Int→Option (Bool×jj×(List Int)×(List Int)×(List (List aa))×(List aa))) (uW:pO N C0 bc bZ cM cP cQ cg C1 C2 C3 C4 C5 jc):vW N C0 bc bZ cM cP cQ cg C1 C2 C3 C4 C5 x (g8 N C0 bc bZ cM cP cQ cg C1 C2 C3 C4 C5 x jc):=by
 intro RF r h E hE
 unfold g8 at h
 refine aj hE 0 [] [] (kp [0,3,15,16]) (kq [0,1,2,3,4,6]) 39 pn ?_
 exact de hE 1 [] (kp [0,3,15,16]) (kq [0,1,2,3,4,6]) 7 pn (uW _ _ _ h E hE)
def vX (N:Nat) (K:Int→Int→(List Int)→(List Int)→(List (List aa))→(List aa)→(List aa)→Bool→(List Int)→Bool→(List Int)→Int→Option (Bool×jj×(List Int)×(List Int)×(List (List aa))×(List aa))):Prop:=∀ (cd:Int) (mV:Int) (jl:List Int) (mE:List Int) (fh:List (List aa)) (ia:List aa) (mW:List aa) (pR:Bool) (pS:List Int) (sK:Bool) (oe:List Int) (yj:Int) (r:Bool×jj×(List Int)×(List Int)×(List (List aa))×(List aa)),K cd mV jl mE fh ia mW pR pS sK oe yj=some r→∀ E,aQ E 6→az Tryz.prog E 34 177 (aY E [(0,vN 12 [(aI r.2.1.rf),(aI r.2.1.rh),(.os 1 0 r.2.2.1.length),(.os 2 0 r.2.2.2.1.length),(.os 3 0 r.2.2.2.2.1.length),(.os 4 0 r.2.2.2.2.2.length),(.os 6 0 r.2.1.dJ.length),(aB r.2.1.af.fN.fG),(eU r.2.1.af.fN.fL),(aB r.2.1.af.fD.fG),(eU r.2.1.af.fD.fL),(aI r.2.1.bC)]),(1,aO 1 cI 0 r.2.2.1),(2,aO 1 cI 0 r.2.2.2.1),(3,aM 4 ah aa.d r.2.2.2.2.1),(4,aO 4 ah aa.d r.2.2.2.2.2),(6,aO 4 ah aa.d r.2.1.dJ)] (aB r.1)) [.code (xL 252),.code (xL 253),.code (xL 127)] ⟨[(0,(.op 0 0 0))],[(0,vN 12 [(aI cd),(aI mV),(.os 1 0 jl.length),(.os 2 0 mE.length),(.os 3 0 fh.length),(.os 4 0 ia.length),(.os 6 0 mW.length),(aB pR),(eU pS),(aB sK),(eU oe),(aI yj)]),(1,aO 1 cI 0 jl),(2,aO 1 cI 0 mE),(3,aM 4 ah aa.d fh),(4,aO 4 ah aa.d ia),(6,aO 4 ah aa.d mW)],7⟩
def vY (N:Nat) (K:Int→Int→(List Int)→(List Int)→(List (List aa))→(List aa)→(List aa)→Bool→(List Int)→Bool→(List Int)→Int→Option (Bool×jj×(List Int)×(List Int)×(List (List aa))×(List aa))):Prop:=∀ (uQ:Int) (uR:Int) (r8:List Int) (KV:List Int) (AL:List (List aa)) (sa:List aa) (BG:List aa) (vG:Bool) (vH:List Int) (vI:Bool) (vJ:List Int) (ud:Int) (r:Bool×jj×(List Int)×(List Int)×(List (List aa))×(List aa)),K uQ uR r8 KV AL sa BG vG vH vI vJ ud=some r→∀ E,aQ E 6→az Tryz.prog E 34 177 (aY E [(0,vN 12 [(aI r.2.1.rf),(aI r.2.1.rh),(.os 1 0 r.2.2.1.length),(.os 2 0 r.2.2.2.1.length),(.os 3 0 r.2.2.2.2.1.length),(.os 4 0 r.2.2.2.2.2.length),(.os 6 0 r.2.1.dJ.length),(aB r.2.1.af.fN.fG),(eU r.2.1.af.fN.fL),(aB r.2.1.af.fD.fG),(eU r.2.1.af.fD.fL),(aI r.2.1.bC)]),(1,aO 1 cI 0 r.2.2.1),(2,aO 1 cI 0 r.2.2.2.1),(3,aM 4 ah aa.d r.2.2.2.2.1),(4,aO 4 ah aa.d r.2.2.2.2.2),(6,aO 4 ah aa.d r.2.1.dJ)] (aB r.1)) [.code (xL 254),.code (xL 255)] ⟨[(0,(.op 0 0 0))],[(0,vN 12 [(aI uQ),(aI uR),(.os 1 0 r8.length),(.os 2 0 KV.length),(.os 3 0 AL.length),(.os 4 0 sa.length),(.os 6 0 BG.length),(aB vG),(eU vH),(aB vI),(eU vJ),(aI ud)]),(1,aO 1 cI 0 r8),(2,aO 1 cI 0 KV),(3,aM 4 ah aa.d AL),(4,aO 4 ah aa.d sa),(6,aO 4 ah aa.d BG)],7⟩
def vZ (N:Nat) (uQ:Int) (uR:Int) (r8:List Int) (AL:List (List aa)) (sa:List aa) (BG:List aa) (vG:Bool) (vH:List Int) (vI:Bool) (vJ:List Int) (ud:Int) (bB:Int) (cE:(List Int)×(List Int)) (K:(List (List aa))→Int→Option (Bool×jj×(List Int)×(List Int)×(List (List aa))×(List aa))):Prop:=∀ (kV:List (List aa)) (x2:Int) (r:Bool×jj×(List Int)×(List Int)×(List (List aa))×(List aa)),K kV x2=some r→∀ E,aQ E 6→az Tryz.prog E 34 177 (aY E [(0,vN 12 [(aI r.2.1.rf),(aI r.2.1.rh),(.os 1 0 r.2.2.1.length),(.os 2 0 r.2.2.2.1.length),(.os 3 0 r.2.2.2.2.1.length),(.os 4 0 r.2.2.2.2.2.length),(.os 6 0 r.2.1.dJ.length),(aB r.2.1.af.fN.fG),(eU r.2.1.af.fN.fL),(aB r.2.1.af.fD.fG),(eU r.2.1.af.fD.fL),(aI r.2.1.bC)]),(1,aO 1 cI 0 r.2.2.1),(2,aO 1 cI 0 r.2.2.2.1),(3,aM 4 ah aa.d r.2.2.2.2.1),(4,aO 4 ah aa.d r.2.2.2.2.2),(6,aO 4 ah aa.d r.2.1.dJ)] (aB r.1)) [.code (xL 8180),.inLoop (xL 8180),.inBlock 2,.code (xL 1023)] ⟨[(0,(.op 0 0 0)),(8,(aI bB)),(126,(aI ((AL.length:Nat):Int))),(127,(aI x2))],[(0,vN 12 [(aI uQ),(aI uR),(.os 1 0 r8.length),(.os 2 0 cE.2.length),(.os 3 0 kV.length),(.os 4 0 sa.length),(.os 6 0 BG.length),(aB vG),(eU vH),(aB vI),(eU vJ),(aI ud)]),(1,aO 1 cI 0 r8),(2,aO 1 cI 0 cE.2),(3,aM 4 ah aa.d kV),(4,aO 4 ah aa.d sa),(6,aO 4 ah aa.d BG)],7⟩
def v5 (N:Nat) (uQ:Int) (uR:Int) (r8:List Int) (sa:List aa) (vG:Bool) (vH:List Int) (vI:Bool) (vJ:List Int) (ud:Int) (cE:(List Int)×(List Int)) (kV:List (List aa)) (K:(List aa)→Int→Option (Bool×jj×(List Int)×(List Int)×(List (List aa))×(List aa))):Prop:=∀ (BF:List aa) (x3:Int) (r:Bool×jj×(List Int)×(List Int)×(List (List aa))×(List aa)),K BF x3=some r→∀ E,aQ E 6→az Tryz.prog E 34 177 (aY E [(0,vN 12 [(aI r.2.1.rf),(aI r.2.1.rh),(.os 1 0 r.2.2.1.length),(.os 2 0 r.2.2.2.1.length),(.os 3 0 r.2.2.2.2.1.length),(.os 4 0 r.2.2.2.2.2.length),(.os 6 0 r.2.1.dJ.length),(aB r.2.1.af.fN.fG),(eU r.2.1.af.fN.fL),(aB r.2.1.af.fD.fG),(eU r.2.1.af.fD.fL),(aI r.2.1.bC)]),(1,aO 1 cI 0 r.2.2.1),(2,aO 1 cI 0 r.2.2.2.1),(3,aM 4 ah aa.d r.2.2.2.2.1),(4,aO 4 ah aa.d r.2.2.2.2.2),(6,aO 4 ah aa.d r.2.1.dJ)] (aB r.1)) [.code (xL 32756),.inLoop (xL 32756),.inBlock 4,.code (xL 4095)] ⟨[(0,(.op 0 0 0)),(161,(aI (((List.replicate cE.2.length aa.d:List aa).length:Nat):Int))),(162,(aI x3))],[(0,vN 12 [(aI uQ),(aI uR),(.os 1 0 r8.length),(.os 2 0 cE.2.length),(.os 3 0 kV.length),(.os 4 0 sa.length),(.os 6 0 BF.length),(aB vG),(eU vH),(aB vI),(eU vJ),(aI ud)]),(1,aO 1 cI 0 r8),(2,aO 1 cI 0 cE.2),(3,aM 4 ah aa.d kV),(4,aO 4 ah aa.d sa),(6,aO 4 ah aa.d BF)],7⟩
theorem uX (N uQ uR r8 sa vG vH vI vJ ud cE kV fuel):v5 N uQ uR r8 sa vG vH vI vJ ud cE kV (dU N uQ uR r8 sa vG vH vI vJ ud cE kV fuel):=by
 induction fuel with
 | zero=>intro _ _ r h;rw [dU.eq_1] at h;cases h
 | succ fuel ih =>
  intro BF x3 r h E hE
  rw [dU.eq_2] at h
  refine aj hE 1 [] [] (kp [0,161,162,163]) (kq [0,1,2,3,4,6]) 23 pn ?_
  refine dS 1 163 h (fun hq8 h=>?_) (fun hq8 h=>?_)
  ·refine aj hE 4 [] [] (kp [0,10,161,162]) (kq [0,1,2,3,4,6]) 55 pn ?_
   obtain ⟨eZ,M0,h⟩:=bt h
   obtain ⟨XB,h⟩:=ae h
   refine aj hE 0 [(5,oT (.agg (ah eZ)))] [] (kp [0,161,162]) ([(0,.var 0 [.ak,.ak,.ak,.ak,.ak,.ak,.lP ((BF.set ((x3).toNat) eZ).length),.ak,.ak,.ak,.ak,.ak])] ++ kq [1,2,3,4] ++ [(6,.arr 6 ((BF.set ((x3).toNat) eZ).length) (fun zi=>ah ((BF.set ((x3).toNat) eZ).getD zi aa.d)))]) 183 (pc o1 (pc (dL _ _ _ M0) (pc XB (pc (dq XB) (pc (aJ BF ((x3).toNat) eZ) (pc (aJ BF ((x3).toNat) eZ) (pc (cR ah aa.d BF ((x3).toNat) eZ) pn))))))) ?_
   refine aj hE 1 [] [] (kp [0,161,162]) (kq [0,1,2,3,4,6]) 215 pn ?_
   exact de hE 1 [] (kp [0,161,162]) (kq [0,1,2,3,4,6]) 7 pn (ih _ _ _ h E hE)
  ·obtain ⟨b9,M1,h⟩:=bt h
   refine aj hE 2 [(1,oT (.agg (ah b9)))] [] [] (kq [0,1,2,3,4,6]) 103 (pc (dL _ _ _ M1) (pc o1 pn)) ?_
   refine aj hE 1 [] [] (kp [2]) (kq [0,1,2,3,4,6]) 119 pn ?_
   obtain rfl:=dx h
   exact dQ hE 0 Tryz.f34 [] (kp [2]) (kq [0,1,2,3,4,6]) 119 pn [] pn
theorem uY (N uQ uR r8 AL sa BG vG vH vI vJ ud bB cE fuel):vZ N uQ uR r8 AL sa BG vG vH vI vJ ud bB cE (dV N uQ uR r8 AL sa BG vG vH vI vJ ud bB cE fuel):=by
 induction fuel with
 | zero=>intro _ _ r h;rw [dV.eq_1] at h;cases h
 | succ fuel ih =>
  intro kV x2 r h E hE
  rw [dV.eq_2] at h
  refine aj hE 1 [] [] (kp [0,8,126,127,128]) (kq [0,1,2,3,4,6]) 23 pn ?_
  refine dS 1 128 h (fun hq7 h=>?_) (fun hq7 h=>?_)
  ·refine aj hE 4 [] [] (kp [0,8,9,126,127]) (kq [0,1,2,3,4,6]) 55 pn ?_
   obtain ⟨Yx,h⟩:=ae h
   refine Rr 3 ((x2).toNat) 4 ((kV.getD ((x2).toNat) []).length) (fun zi=>ah ((kV.getD ((x2).toNat) []).getD zi aa.d)) (pc Yx (pc (show bk [] (mG kV) ((x2).toNat)=mR 4 ah aa.d (kV.getD ((x2).toNat) []) from rfl) pn)) ?_
   obtain ⟨Yy,h⟩:=ae h
   obtain ⟨p7,MZ,h⟩:=bt h
   refine aj hE 0 [(11,oF (.os 55 0 ((kV.getD ((x2).toNat) []).length))),(15,⟨[55],false,(.os 0 0 p7.2.length),[(0,aO 4 ah aa.d p7.2)],0,false,none⟩)] [] (kp [0,8,126,127]) (kq [0,1,2] ++ [(3,.pz 3 (kV.length) [((x2).toNat,55,p7.2.length)] (mG kV))] ++ kq [4,6,55]) 359 (pc o1 (pc o1 (pc Yy (pc (dq Yy) (pc (show (bk [((x2).toNat,55,(kV.getD ((x2).toNat) []).length)] (mG kV) ((x2).toNat))[0]?=some (.os 55 0 ((kV.getD ((x2).toNat) []).length)) from (gO rfl)) (pc (w8 _ _ _ _ _ MZ) (pc Yy (pc (dq Yy) (pc (Eq.refl kV.length) (pc (show ∀ zm,zm < kV.length→bk [((x2).toNat,55,p7.2.length)] (mG kV) zm=if zm=(x2).toNat then [.os 55 0 p7.2.length] else bk [((x2).toNat,55,(kV.getD ((x2).toNat) []).length)] (mG kV) zm from (UD _ _ _ _ _ rfl)) (pc (iM kV) pn))))))))))) ?_
   refine Pt 3 55 ((x2).toNat) (pc Yx (pc (show bk [((x2).toNat,55,p7.2.length)] (mG kV) ((x2).toNat)=[.os 55 0 p7.2.length] from if_pos rfl) (pc (show ∀ zj,zj < p7.2.length→mL (ah (p7.2.getD zj aa.d))=true from fun _ _=>rfl) pn))) ?_
   refine J7 hE [] (kp [0,8,126,127]) ([(0,.var 0 [.ak,.ak,.ak,.ak,.lP ((kV.set ((x2).toNat) p7.2).length),.ak,.ak,.ak,.ak,.ak,.ak,.ak])] ++ kq [1,2] ++ [(3,.pz 3 ((kV.set ((x2).toNat) p7.2).length) [] (mG (kV.set ((x2).toNat) p7.2)))] ++ kq [4,6]) 359 (pc (aJ kV ((x2).toNat) p7.2) (pc (aJ kV ((x2).toNat) p7.2) (pc (BA (sz:=4) (c:=ah) (d:=aa.d) kV ((x2).toNat) 55 p7.2.length p7.2 [] Yx CO) (pc (iM (kV.set ((x2).toNat) p7.2)) pn)))) ?_
   refine aj hE 1 [] [] (kp [0,8,126,127]) (kq [0,1,2,3,4,6]) 391 pn ?_
   exact de hE 1 [] (kp [0,8,126,127]) (kq [0,1,2,3,4,6]) 7 pn (ih _ _ _ h E hE)
  ·obtain ⟨Yz,h⟩:=ae h
   refine aj hE 2 [] [] (kp [0]) ([(0,.var 0 [.ak,.ak,.ak,.ak,.ak,.ak,.lP ((List.replicate cE.2.length aa.d:List aa).length),.ak,.ak,.ak,.ak,.ak])] ++ kq [1,2,3,4] ++ [(119,.Tz 119 ((List.replicate cE.2.length aa.d:List aa).length) (fun zi=>ah ((List.replicate cE.2.length aa.d:List aa).getD zi aa.d)))]) 183 (pc o1 (pc (show 0≤((cE.2.length:Nat):Int) from Yz.1) (pc (show ((cE.2.length:Nat):Int)≤((cE.2.length:Nat):Int) from (Int.le_refl _)) (pc (show (64:Int) * ((cE.2.length:Nat):Int)≤281474976710656 from Yz.2.1) (pc (show ((cE.2.length:Nat):Int)≤9223372036854775807 from Yz.2.2) (pc o1 (pc (show cE.2.length=(List.replicate cE.2.length aa.d:List aa).length from (dn).symm) (pc (show (List.replicate cE.2.length aa.d:List aa).length≤cE.2.length from (Nat.le_of_eq (Eq.symm ((dn).symm)))) (pc (show ∀ zi,zi < (List.replicate cE.2.length aa.d:List aa).length→KJ ((fun _=>[(aB false),.nil,(aB false),.nil]) zi) ((fun zi=>ah ((List.replicate cE.2.length aa.d:List aa).getD zi aa.d)) zi) from (fun zq j5=>qC ah aa.d aa.d cE.2.length zq ⟨.inl rfl,.inr ⟨rfl,_,rfl⟩,.inl rfl,.inr ⟨rfl,_,rfl⟩,trivial⟩ j5)) pn))))))))) ?_
   refine aj hE 2 [] [] (kp [0,161,162]) (kq [0,1,2,3,4,119]) 279 (pc o1 pn) ?_
   exact de hE 2 [] (kp [0,161,162]) (kq [0,1,2,3,4] ++ [(6,.ak 119)]) 7 pn (uX N _ _ _ _ _ _ _ _ _ _ _ N _ _ _ h E hE)
theorem oC (N):vY N (g9 N):=by
 intro uQ uR r8 KV AL sa BG vG vH vI vJ ud r h E hE
 unfold g9 at h
 obtain ⟨bB,AP,h⟩:=bt h
 refine aj hE 0 [(8,oT (aI bB))] [] (kp [0,8]) (kq [0,1,2,3,4,6]) 167 (pc o1 (pc o1 (pc (dy _ _ _ _ AP) (pc (z1 KV.length) pn)))) ?_
 obtain ⟨cE,Gh,h⟩:=bt h
 refine aj hE 1 [(8,⟨[2],false,(.os 0 0 cE.2.length),[(0,aO 1 cI 0 cE.2)],0,false,none⟩)] [] (kp [0,8]) (kq [0,1,2,3,4,6]) 359 (pc o1 (pc (tK _ _ _ _ _ Gh) (pc o1 pn))) ?_
 refine aj hE 2 [] [] (kp [0,8,126,127]) (kq [0,1,2,3,4,6]) 455 (pc o1 pn) ?_
 exact de hE 2 [] (kp [0,8,126,127]) (kq [0,1,2,3,4,6]) 7 pn (uY N _ _ _ _ _ _ _ _ _ _ _ _ _ N _ _ _ h E hE)
theorem oD (N):vX N (fE N):=by
 intro cd mV jl mE fh ia mW pR pS sK oe yj r h E hE
 unfold fE at h
 obtain ⟨aP,AQ,h⟩:=bt h
 refine aj hE 0 [(8,oT (aI aP))] [] (kp [0,6]) (kq [0,1,2,3,4,6]) 167 (pc o1 (pc o1 (pc (dy _ _ _ _ AQ) (pc (z1 jl.length) pn)))) ?_
 refine aj hE 1 [] [] (kp [0,6,89]) (kq [0,1,2,3,4,6]) 199 pn ?_
 refine dS 0 89 h (fun PD h=>?_) (fun PD h=>?_)
 ·obtain ⟨Xz,h⟩:=ae h
  refine Rr 3 ((aP).toNat) 4 ((fh.getD ((aP).toNat) []).length) (fun zi=>ah ((fh.getD ((aP).toNat) []).getD zi aa.d)) (pc Xz (pc (show bk [] (mG fh) ((aP).toNat)=mR 4 ah aa.d (fh.getD ((aP).toNat) []) from rfl) pn)) ?_
  obtain ⟨RM,h⟩:=ae h
  obtain ⟨Xv,Hv,h⟩:=bt h
  refine aj hE 1 [(6,oF (.os 199 0 ((fh.getD ((aP).toNat) []).length))),(7,oT (aI Xv))] [] (kp [0,6,7]) (kq [0,1,2] ++ [(3,.pz 3 (fh.length) [((aP).toNat,199,(fh.getD ((aP).toNat) []).length)] (mG fh))] ++ kq [4,6,199]) 359 (pc o1 (pc RM (pc (dq RM) (pc (show (bk [((aP).toNat,199,(fh.getD ((aP).toNat) []).length)] (mG fh) ((aP).toNat))[0]?=some (.os 199 0 ((fh.getD ((aP).toNat) []).length)) from (gO rfl)) (pc (uh _ _ _ Hv) (pc (z1 ((fh.getD ((aP).toNat) []).length)) (pc (Eq.refl fh.length) (pc (mC fh [((aP).toNat,199,(fh.getD ((aP).toNat) []).length)]) (pc (iM fh) pn))))))))) ?_
  refine Pt 3 199 ((aP).toNat) (pc Xz (pc (show bk [((aP).toNat,199,(fh.getD ((aP).toNat) []).length)] (mG fh) ((aP).toNat)=[.os 199 0 (fh.getD ((aP).toNat) []).length] from if_pos rfl) (pc (show ∀ zj,zj < (fh.getD ((aP).toNat) []).length→mL (ah ((fh.getD ((aP).toNat) []).getD zj aa.d))=true from fun _ _=>rfl) pn))) ?_
  refine J7 hE [] (kp [0,6,7]) (kq [0,1,2] ++ [(3,.pz 3 (fh.length) [] (mG fh))] ++ kq [4,6]) 359 (pc (Eq.refl (fh.length)) (pc (qY (sz:=4) (c:=ah) (d:=aa.d) fh ((aP).toNat) 199 ((fh.getD ((aP).toNat) []).length) [] CO) (pc (iM fh) pn))) ?_
  obtain ⟨dG,Hu,h⟩:=bt h
  obtain ⟨ZO,h⟩:=ae h
  obtain ⟨c19,h⟩:=ae h
  obtain ⟨ZP,h⟩:=ae h
  obtain ⟨c21,h⟩:=ae h
  obtain ⟨c22,h⟩:=ae h
  refine aj hE 0 [(3,⟨[0,1,2,3,4,6],false,(.tup []),[(0,vN 12 [(aI dG.1.rf),(aI dG.1.rh),(.os 1 0 dG.2.1.length),(.os 2 0 dG.2.2.1.length),(.os 3 0 dG.2.2.2.1.length),(.os 4 0 dG.2.2.2.2.1.length),(.os 5 0 dG.2.2.2.2.2.length),(aB dG.1.af.fN.fG),(eU dG.1.af.fN.fL),(aB dG.1.af.fD.fG),(eU dG.1.af.fD.fL),(aI dG.1.bC)]),(1,aO 1 cI 0 dG.2.1),(2,aO 1 cI 0 dG.2.2.1),(3,aM 4 ah aa.d dG.2.2.2.1),(4,aO 4 ah aa.d dG.2.2.2.2.1),(5,aO 4 ah aa.d dG.2.2.2.2.2)],0,false,none⟩)] [] (kp [0]) (kq [0,1,2,3,4,6]) 423 (pc (nv _ _ _ _ _ _ _ _ _ _ _ _ _ _ _ _ Hu) pn) ?_
  exact de hE 1 [] (kp [0]) (kq [0,1,2,3,4,6]) 7 pn (oC N _ _ _ _ _ _ _ _ _ _ _ _ _ h E hE)
 ·exact de hE 2 [] (kp [0]) (kq [0,1,2,3,4,6]) 7 pn (oC N _ _ _ _ _ _ _ _ _ _ _ _ _ h E hE)
theorem uZ (N C0 bc bZ cM cP cQ cg C1 C2 C3 C4 C5 fuel):pO N C0 bc bZ cM cP cQ cg C1 C2 C3 C4 C5 (bH N C0 bc bZ cM cP cQ cg C1 C2 C3 C4 C5 fuel):=by
 induction fuel with
 | zero=>intro _ _ r h;rw [bH.eq_1] at h;cases h
 | succ fuel ih =>
  intro low x r h E hE
  rw [bH.eq_2] at h
  refine aj hE 1 [] [] (kp [0,3,15,16,17]) (kq [0,1,2,3,4,6]) 23 pn ?_
  refine dS 1 17 h (fun dR h=>?_) (fun dR h=>?_)
  ·refine aj hE 4 [] [] (kp [0,3,4,15,16]) (kq [0,1,2,3,4,6]) 55 pn ?_
   obtain ⟨c,h⟩:=ae h
   obtain ⟨au,hr,h⟩:=bt h
   obtain ⟨c2,h⟩:=ae h
   obtain ⟨c3,h⟩:=ae h
   obtain ⟨l3,eW,h⟩:=bt h
   refine aj hE 1 [(7,oT (aI au)),(27,oT (aI l3))] [] (kp [0,3,4,15,16,49]) (kq [0,1,2,3,4,6]) 551 (pc o1 (pc c (pc (dq c) (pc (ln _ _ _ hr) (pc (fun hg:(decide (au < 0))=true=>(pc hg pn)) (pc (fun hg:((decide (au < 0)) && ((decide (au < 0)) && (!(decide (low < 0)))))=true=>(pc hg pn)) (pc (fun hg:((decide (au < 0)) && ((decide (au < 0)) && (!(decide (low < 0)))))=true=>(pc hg pn)) (pc (fun hg:((decide (au < 0)) && ((decide (au < 0)) && (!(decide (low < 0)))))=true=>(pc hg (pc o1 pn))) (pc (fun hg:((decide (au < 0)) && ((decide (au < 0)) && (!(decide (low < 0)))))=true=>(pc hg (pc hg (pc (c2 hg) pn)))) (pc (fun hg:((decide (au < 0)) && ((decide (au < 0)) && (!(decide (low < 0)))))=true=>(pc hg (pc (dq (c2 hg)) pn))) (pc (fun hg:((decide (au < 0)) && ((decide (au < 0)) && (!(decide (low < 0)))))=true=>(pc hg pn)) (pc (fun hg:((decide (au < 0)) && ((decide (au < 0)) && (!(decide (low < 0)))))=true=>(pc hg pn)) (pc (fun hg:((decide (au < 0)) && ((decide (au < 0)) && (!(decide (low < 0)))))=true=>(pc hg (pc o1 pn))) (pc (fun hg:((decide (au < 0)) && ((decide (au < 0)) && (!(decide (low < 0)))))=true=>(pc hg (pc hg (pc (c3 hg) pn)))) (pc (fun hg:((decide (au < 0)) && ((decide (au < 0)) && (!(decide (low < 0)))))=true=>(pc hg (pc (dq (c3 hg)) pn))) (pc (fun hg:((decide (au < 0)) && ((decide (au < 0)) && (!(decide (low < 0)))))=true=>(pc (Al _ _ _ _ (aG eW hg)) (pc hg (pc hg pn)))) (pc (fun hg:((decide (au < 0)) && ((decide (au < 0)) && (!(decide (low < 0)))))=true=>(pc hg pn)) (pc (fun hg:(decide (au < 0))=true=>(pc hg (pc hg (pc (fun hq:(!(decide (low < 0)))=true=>(pc (show ((decide (au < 0)) && ((decide (au < 0)) && (!(decide (low < 0)))))=true from (Ai hg (Ai hg hq))) pn)) pn)))) (pc (fun hq:(decide (au < 0))=true=>(pc hq pn)) pn))))))))))))))))))) ?_
   refine dS 0 49 h (fun iU h=>?_) (fun iU h=>?_)
   ·refine aj hE 0 [] [] (kp [0,3,15,16]) (kq [0,1,2,3,4,6]) 583 pn ?_
    exact de hE 1 [] (kp [0,3,15,16]) (kq [0,1,2,3,4,6]) 7 pn (oB N _ _ _ _ _ _ _ _ _ _ _ _ _ _ ih _ _ h E hE)
   ·exact de hE 2 [] (kp [0,3,15,16]) (kq [0,1,2,3,4,6]) 7 pn (oB N _ _ _ _ _ _ _ _ _ _ _ _ _ _ ih _ _ h E hE)
  ·refine aj hE 2 [] [] (kp [0,3,5]) (kq [0,1,2,3,4,6]) 135 (pc o1 pn) ?_
   refine aj hE 2 [] [] (kp [0,3,5,59]) (kq [0,1,2,3,4,6]) 167 pn ?_
   refine dS 0 59 h (fun rm h=>?_) (fun rm h=>?_)
   ·obtain ⟨aw,ly,h⟩:=bt h
    obtain ⟨c4,h⟩:=ae h
    refine aj hE 1 [(5,oT (.agg (ah aw)))] [] (kp [0,3,5]) ([(0,.var 0 [.ak,.ak,.ak,.ak,.ak,.ak,.lP ((C5.set ((aq (((C2.length:Nat):Int) - 1)).toNat) aw).length),.ak,.ak,.ak,.ak,.ak])] ++ kq [1,2,3,4] ++ [(6,.arr 6 ((C5.set ((aq (((C2.length:Nat):Int) - 1)).toNat) aw).length) (fun zi=>ah ((C5.set ((aq (((C2.length:Nat):Int) - 1)).toNat) aw).getD zi aa.d)))]) 295 (pc o1 (pc (dL _ _ _ ly) (pc c4 (pc (dq c4) (pc (aJ C5 ((aq (((C2.length:Nat):Int) - 1)).toNat) aw) (pc (aJ C5 ((aq (((C2.length:Nat):Int) - 1)).toNat) aw) (pc (cR ah aa.d C5 ((aq (((C2.length:Nat):Int) - 1)).toNat) aw) pn))))))) ?_
    obtain ⟨bF,oi,h⟩:=bt h
    obtain ⟨c5,h⟩:=ae h
    obtain ⟨c6,h⟩:=ae h
    obtain ⟨c7,h⟩:=ae h
    obtain ⟨c8,h⟩:=ae h
    obtain ⟨c9,h⟩:=ae h
    refine aj hE 1 [(3,⟨[0,1,2,3,4,6],false,(.tup []),[(0,vN 12 [(aI bF.1.rf),(aI bF.1.rh),(.os 1 0 bF.2.1.length),(.os 2 0 bF.2.2.1.length),(.os 3 0 bF.2.2.2.1.length),(.os 4 0 bF.2.2.2.2.1.length),(.os 5 0 bF.2.2.2.2.2.length),(aB bF.1.af.fN.fG),(eU bF.1.af.fN.fL),(aB bF.1.af.fD.fG),(eU bF.1.af.fD.fL),(aI bF.1.bC)]),(1,aO 1 cI 0 bF.2.1),(2,aO 1 cI 0 bF.2.2.1),(3,aM 4 ah aa.d bF.2.2.2.1),(4,aO 4 ah aa.d bF.2.2.2.2.1),(5,aO 4 ah aa.d bF.2.2.2.2.2)],0,false,none⟩)] [] (kp [0]) (kq [0,1,2,3,4,6]) 359 (pc (nv _ _ _ _ _ _ _ _ _ _ _ _ _ _ _ _ oi) pn) ?_
    obtain ⟨aF,tZ,h⟩:=bt h
    obtain ⟨RN,h⟩:=ae h
    obtain ⟨L0,h⟩:=ae h
    obtain ⟨RK,h⟩:=ae h
    obtain ⟨MV,h⟩:=ae h
    obtain ⟨Qf,h⟩:=ae h
    refine aj hE 1 [(1,⟨[0,1,2,3,4,6],false,(aI aF.1),[(0,vN 12 [(aI aF.2.1.rf),(aI aF.2.1.rh),(.os 1 0 aF.2.2.1.length),(.os 2 0 aF.2.2.2.1.length),(.os 3 0 aF.2.2.2.2.1.length),(.os 4 0 aF.2.2.2.2.2.1.length),(.os 5 0 aF.2.2.2.2.2.2.length),(aB aF.2.1.af.fN.fG),(eU aF.2.1.af.fN.fL),(aB aF.2.1.af.fD.fG),(eU aF.2.1.af.fD.fL),(aI aF.2.1.bC)]),(1,aO 1 cI 0 aF.2.2.1),(2,aO 1 cI 0 aF.2.2.2.1),(3,aM 4 ah aa.d aF.2.2.2.2.1),(4,aO 4 ah aa.d aF.2.2.2.2.2.1),(5,aO 4 ah aa.d aF.2.2.2.2.2.2)],0,false,none⟩)] [] (kp [0]) (kq [0,1,2,3,4,6]) 391 (pc (rC _ _ _ _ _ _ _ _ _ _ _ _ _ _ tZ) pn) ?_
    obtain ⟨fS,yu,h⟩:=bt h
    refine aj hE 1 [(4,oT (aB fS))] [] (kp [0,78]) (kq [0,1,2,3,4,6]) 487 (pc o1 (pc (iz _ _ _ yu) pn)) ?_
    refine dS 0 78 h (fun F5 h=>?_) (fun F5 h=>?_)
    ·refine aj hE 1 [] [] (kp [2]) (kq [0,1,2,3,4,6]) 503 pn ?_
     obtain rfl:=dx h
     exact dQ hE 0 Tryz.f34 [] (kp [2]) (kq [0,1,2,3,4,6]) 503 pn [] pn
    ·exact de hE 3 [] (kp [0]) (kq [0,1,2,3,4,6]) 7 pn (oD N _ _ _ _ _ _ _ _ _ _ _ _ _ h E hE)
   ·exact de hE 3 [] (kp [0]) (kq [0,1,2,3,4,6]) 7 pn (oD N _ _ _ _ _ _ _ _ _ _ _ _ _ h E hE)
theorem qo (N C0 bc bZ cM cP cQ cg C1 C2 C3 C4 C5 r) (h:jY N C0 bc bZ cM cP cQ cg C1 C2 C3 C4 C5=some r):Sd 34 [(.op 0 0 0)] [(0,vN 12 [(aI C0),(aI bc),(.os 1 0 C1.length),(.os 2 0 C2.length),(.os 3 0 C3.length),(.os 4 0 C4.length),(.os 5 0 C5.length),(aB bZ),(eU cM),(aB cP),(eU cQ),(aI cg)]),(1,aO 1 cI 0 C1),(2,aO 1 cI 0 C2),(3,aM 4 ah aa.d C3),(4,aO 4 ah aa.d C4),(5,aO 4 ah aa.d C5)] 6 (aB r.1) [(0,vN 12 [(aI r.2.1.rf),(aI r.2.1.rh),(.os 1 0 r.2.2.1.length),(.os 2 0 r.2.2.2.1.length),(.os 3 0 r.2.2.2.2.1.length),(.os 4 0 r.2.2.2.2.2.length),(.os 6 0 r.2.1.dJ.length),(aB r.2.1.af.fN.fG),(eU r.2.1.af.fN.fL),(aB r.2.1.af.fD.fG),(eU r.2.1.af.fD.fL),(aI r.2.1.bC)]),(1,aO 1 cI 0 r.2.2.1),(2,aO 1 cI 0 r.2.2.2.1),(3,aM 4 ah aa.d r.2.2.2.2.1),(4,aO 4 ah aa.d r.2.2.2.2.2),(6,aO 4 ah aa.d r.2.1.dJ)]:=by
 unfold jY at h
 refine iy (fu:=Tryz.f34) (c:=xL 1) (nt:=177) (fun hm=>absurd hm (by decide)) ?_
 intro E hE
 refine aj hE 1 [] [] (kp [0]) (kq [0,1,2,3,4,5]) 22 pn ?_
 refine aj hE 1 [] [] (kp [0,3]) (kq [0,1,2,3,4,5]) 38 pn ?_
 refine aj hE 2 [] [] (kp [0,3,15,16]) (kq [0,1,2,3,4,5]) 134 (pc o1 pn) ?_
 exact de hE 2 [] (kp [0,3,15,16]) (kq [0,1,2,3,4] ++ [(6,.ak 5)]) 7 pn (uZ N _ _ _ _ _ _ _ _ _ _ _ _ N _ _ _ h E hE)
noncomputable abbrev M4:=cG Tryz.f35
def mg (N:Nat) (C0:Int) (bc:Int) (bZ:Bool) (cM:List Int) (cP:Bool) (cQ:List Int) (cg:Int) (C1:List Int) (C2:List Int) (C3:List (List aa)) (C4:List aa) (C5:List aa) (K:(List aa)→Int→Option ((List aa))):Prop:=∀ (out:List aa) (x:Int) (r:(List aa)),K out x=some r→∀ E,aQ E 6→az Tryz.prog E 35 47 (aY E [(0,vN 12 [(aI C0),(aI bc),(.os 1 0 C1.length),(.os 2 0 C2.length),(.os 3 0 C3.length),(.os 4 0 C4.length),(.os 5 0 C5.length),(aB bZ),(eU cM),(aB cP),(eU cQ),(aI cg)]),(1,aO 1 cI 0 C1),(2,aO 1 cI 0 C2),(3,aM 4 ah aa.d C3),(4,aO 4 ah aa.d C4),(5,aO 4 ah aa.d C5),(6,aO 4 ah aa.d r)] (.os 6 0 r.length)) [.code (M4 116),.inLoop (M4 116),.inBlock 0,.code (M4 15)] ⟨[(0,(.op 0 0 0)),(3,(.os 6 0 out.length)),(12,(aI (((List.replicate ((bc).toNat) aa.d:List aa).length:Nat):Int))),(13,(aI x))],[(0,vN 12 [(aI C0),(aI bc),(.os 1 0 C1.length),(.os 2 0 C2.length),(.os 3 0 C3.length),(.os 4 0 C4.length),(.os 5 0 C5.length),(aB bZ),(eU cM),(aB cP),(eU cQ),(aI cg)]),(1,aO 1 cI 0 C1),(2,aO 1 cI 0 C2),(3,aM 4 ah aa.d C3),(4,aO 4 ah aa.d C4),(5,aO 4 ah aa.d C5),(6,aO 4 ah aa.d out)],7⟩
def si (N:Nat) (C0:Int) (bc:Int) (bZ:Bool) (cM:List Int) (cP:Bool) (cQ:List Int) (cg:Int) (C1:List Int) (C2:List Int) (C3:List (List aa)) (C4:List aa) (C5:List aa) (x:Int) (K:(List aa)→Option ((List aa))):Prop:=∀ (fX:List aa) (r:(List aa)),K fX=some r→∀ E,aQ E 6→az Tryz.prog E 35 47 (aY E [(0,vN 12 [(aI C0),(aI bc),(.os 1 0 C1.length),(.os 2 0 C2.length),(.os 3 0 C3.length),(.os 4 0 C4.length),(.os 5 0 C5.length),(aB bZ),(eU cM),(aB cP),(eU cQ),(aI cg)]),(1,aO 1 cI 0 C1),(2,aO 1 cI 0 C2),(3,aM 4 ah aa.d C3),(4,aO 4 ah aa.d C4),(5,aO 4 ah aa.d C5),(6,aO 4 ah aa.d r)] (.os 6 0 r.length)) [.code (M4 935),.inLoop (M4 116),.inBlock 0,.code (M4 15)] ⟨[(0,(.op 0 0 0)),(3,(.os 6 0 fX.length)),(12,(aI (((List.replicate ((bc).toNat) aa.d:List aa).length:Nat):Int))),(13,(aI x))],[(0,vN 12 [(aI C0),(aI bc),(.os 1 0 C1.length),(.os 2 0 C2.length),(.os 3 0 C3.length),(.os 4 0 C4.length),(.os 5 0 C5.length),(aB bZ),(eU cM),(aB cP),(eU cQ),(aI cg)]),(1,aO 1 cI 0 C1),(2,aO 1 cI 0 C2),(3,aM 4 ah aa.d C3),(4,aO 4 ah aa.d C4),(5,aO 4 ah aa.d C5),(6,aO 4 ah aa.d fX)],7⟩
theorem lS (N:Nat) (C0:Int) (bc:Int) (bZ:Bool) (cM:List Int) (cP:Bool) (cQ:List Int) (cg:Int) (C1:List Int) (C2:List Int) (C3:List (List aa)) (C4:List aa) (C5:List aa) (x:Int) (fT:(List aa)→Int→Option ((List aa))) (rD:mg N C0 bc bZ cM cP cQ cg C1 C2 C3 C4 C5 fT):si N C0 bc bZ cM cP cQ cg C1 C2 C3 C4 C5 x (fa N C0 bc bZ cM cP cQ cg C1 C2 C3 C4 C5 x fT):=by
 intro fX r h E hE
 unfold fa at h
 refine aj hE 0 [] [] (kp [0,3,12,13]) (kq [0,1,2,3,4,5,6]) 39 pn ?_
 exact de hE 1 [] (kp [0,3,12,13]) (kq [0,1,2,3,4,5,6]) 7 pn (rD _ _ _ h E hE)
theorem rE (N C0 bc bZ cM cP cQ cg C1 C2 C3 C4 C5 fuel):mg N C0 bc bZ cM cP cQ cg C1 C2 C3 C4 C5 (bU N C0 bc bZ cM cP cQ cg C1 C2 C3 C4 C5 fuel):=by
 induction fuel with
 | zero=>intro _ _ r h;rw [bU.eq_1] at h;cases h
 | succ fuel ih =>
  intro out x r h E hE
  rw [bU.eq_2] at h
  refine aj hE 1 [] [] (kp [0,3,12,13,14]) (kq [0,1,2,3,4,5,6]) 23 pn ?_
  refine dS 1 14 h (fun dR h=>?_) (fun dR h=>?_)
  ·refine aj hE 4 [] [] (kp [0,3,4,12,13]) (kq [0,1,2,3,4,5,6]) 55 pn ?_
   obtain ⟨aw,hr,h⟩:=bt h
   obtain ⟨c2,h⟩:=ae h
   refine aj hE 1 [(2,oT (.agg (ah aw)))] [] (kp [0] ++ [(3,.lP ((out.set ((x).toNat) aw).length))] ++ kp [4,12,13]) (kq [0,1,2,3,4,5] ++ [(6,.arr 6 ((out.set ((x).toNat) aw).length) (fun zi=>ah ((out.set ((x).toNat) aw).getD zi aa.d)))]) 135 (pc (dL _ _ _ hr) (pc c2 (pc (dq c2) (pc (aJ out ((x).toNat) aw) (pc (aJ out ((x).toNat) aw) (pc (cR ah aa.d out ((x).toNat) aw) pn)))))) ?_
   obtain ⟨aP,eW,h⟩:=bt h
   refine aj hE 1 [(11,oT (aI aP))] [] (kp [0,3,4,5,12,13]) (kq [0,1,2,3,4,5,6]) 343 (pc o1 (pc o1 (pc (dy _ _ _ _ eW) (pc (z1 C2.length) pn)))) ?_
   refine aj hE 1 [] [] (kp [0,3,4,5,12,13,33]) (kq [0,1,2,3,4,5,6]) 375 pn ?_
   refine dS 0 33 h (fun iU h=>?_) (fun iU h=>?_)
   ·obtain ⟨c3,h⟩:=ae h
    obtain ⟨aV,ly,h⟩:=bt h
    obtain ⟨c4,h⟩:=ae h
    refine aj hE 0 [(9,oT (.agg (ah aV)))] [] (kp [0] ++ [(3,.lP (((out.set ((x).toNat) aw).set ((x).toNat) aV).length))] ++ kp [12,13]) (kq [0,1,2,3,4,5] ++ [(6,.arr 6 (((out.set ((x).toNat) aw).set ((x).toNat) aV).length) (fun zi=>ah (((out.set ((x).toNat) aw).set ((x).toNat) aV).getD zi aa.d)))]) 567 (pc o1 (pc c3 (pc (dq c3) (pc (gU _ _ _ ly) (pc c4 (pc (dq c4) (pc (aJ (out.set ((x).toNat) aw) ((x).toNat) aV) (pc (aJ (out.set ((x).toNat) aw) ((x).toNat) aV) (pc (cR ah aa.d (out.set ((x).toNat) aw) ((x).toNat) aV) pn))))))))) ?_
    exact de hE 1 [] (kp [0,3,12,13]) (kq [0,1,2,3,4,5,6]) 7 pn (lS N _ _ _ _ _ _ _ _ _ _ _ _ _ _ ih _ _ h E hE)
   ·exact de hE 2 [] (kp [0,3,12,13]) (kq [0,1,2,3,4,5,6]) 7 pn (lS N _ _ _ _ _ _ _ _ _ _ _ _ _ _ ih _ _ h E hE)
  ·refine aj hE 2 [] [] (kp [2]) (kq [0,1,2,3,4,5,6]) 55 pn ?_
   obtain rfl:=dx h
   exact dQ hE 0 Tryz.f35 [] (kp [2]) (kq [0,1,2,3,4,5,6]) 55 pn [] pn
theorem j6 (N C0 bc bZ cM cP cQ cg C1 C2 C3 C4 C5 r) (h:dY N C0 bc bZ cM cP cQ cg C1 C2 C3 C4 C5=some r):Sd 35 [(.op 0 0 0)] [(0,vN 12 [(aI C0),(aI bc),(.os 1 0 C1.length),(.os 2 0 C2.length),(.os 3 0 C3.length),(.os 4 0 C4.length),(.os 5 0 C5.length),(aB bZ),(eU cM),(aB cP),(eU cQ),(aI cg)]),(1,aO 1 cI 0 C1),(2,aO 1 cI 0 C2),(3,aM 4 ah aa.d C3),(4,aO 4 ah aa.d C4),(5,aO 4 ah aa.d C5)] 6 (.os 6 0 r.length) [(0,vN 12 [(aI C0),(aI bc),(.os 1 0 C1.length),(.os 2 0 C2.length),(.os 3 0 C3.length),(.os 4 0 C4.length),(.os 5 0 C5.length),(aB bZ),(eU cM),(aB cP),(eU cQ),(aI cg)]),(1,aO 1 cI 0 C1),(2,aO 1 cI 0 C2),(3,aM 4 ah aa.d C3),(4,aO 4 ah aa.d C4),(5,aO 4 ah aa.d C5),(6,aO 4 ah aa.d r)]:=by
 unfold dY at h
 refine iy (fu:=Tryz.f35) (c:=M4 1) (nt:=47) (fun hm=>absurd hm (by decide)) ?_
 intro E hE
 refine aj hE 1 [] [] (kp [0]) (kq [0,1,2,3,4,5]) 22 pn ?_
 obtain ⟨c,h⟩:=ae h
 refine aj hE 1 [] [] (kp [0] ++ [(3,.lP ((List.replicate ((bc).toNat) aa.d:List aa).length))]) (kq [0,1,2,3,4,5] ++ [(86,.Tz 86 ((List.replicate ((bc).toNat) aa.d:List aa).length) (fun zi=>ah ((List.replicate ((bc).toNat) aa.d:List aa).getD zi aa.d)))]) 118 (pc o1 (pc (show 0≤bc from c.1) (pc (show bc≤bc from (Int.le_refl _)) (pc (show (64:Int) * bc≤281474976710656 from c.2.1) (pc (show bc≤9223372036854775807 from c.2.2) (pc (show (bc).toNat=(List.replicate ((bc).toNat) aa.d:List aa).length from (dn).symm) (pc (show (List.replicate ((bc).toNat) aa.d:List aa).length≤(bc).toNat from (Nat.le_of_eq (Eq.symm ((dn).symm)))) (pc (show ∀ zi,zi < (List.replicate ((bc).toNat) aa.d:List aa).length→KJ ((fun _=>[(aB false),.nil,(aB false),.nil]) zi) ((fun zi=>ah ((List.replicate ((bc).toNat) aa.d:List aa).getD zi aa.d)) zi) from (fun zq j5=>qC ah aa.d aa.d ((bc).toNat) zq ⟨.inl rfl,.inr ⟨rfl,_,rfl⟩,.inl rfl,.inr ⟨rfl,_,rfl⟩,trivial⟩ j5)) pn)))))))) ?_
 refine aj hE 2 [] [] (kp [0,3,12,13]) (kq [0,1,2,3,4,5,86]) 166 pn ?_
 exact de hE 2 [] (kp [0,3,12,13]) (kq [0,1,2,3,4,5] ++ [(6,.ak 86)]) 7 pn (rE N _ _ _ _ _ _ _ _ _ _ _ _ N _ _ _ h E hE)
noncomputable abbrev acO:=cG Tryz.f40
theorem uA (N mm C0 bc bZ cM cP cQ cg C1 C2 C3 C4 C5 r) (h:ni N mm C0 bc bZ cM cP cQ cg C1 C2 C3 C4 C5=some r):Sd 40 [(.op 0 0 0),(aI mm)] [(0,vN 12 [(aI C0),(aI bc),(.os 1 0 C1.length),(.os 2 0 C2.length),(.os 3 0 C3.length),(.os 4 0 C4.length),(.os 5 0 C5.length),(aB bZ),(eU cM),(aB cP),(eU cQ),(aI cg)]),(1,aO 1 cI 0 C1),(2,aO 1 cI 0 C2),(3,aM 4 ah aa.d C3),(4,aO 4 ah aa.d C4),(5,aO 4 ah aa.d C5)] 6 (.agg (ah r)) [(0,vN 12 [(aI C0),(aI bc),(.os 1 0 C1.length),(.os 2 0 C2.length),(.os 3 0 C3.length),(.os 4 0 C4.length),(.os 5 0 C5.length),(aB bZ),(eU cM),(aB cP),(eU cQ),(aI cg)]),(1,aO 1 cI 0 C1),(2,aO 1 cI 0 C2),(3,aM 4 ah aa.d C3),(4,aO 4 ah aa.d C4),(5,aO 4 ah aa.d C5)]:=by
 unfold ni at h
 refine iy (fu:=Tryz.f40) (c:=acO 1) (nt:=22) (fun hm=>absurd hm (by decide)) ?_
 intro E hE
 refine aj hE 1 [] [] (kp [0,1,4]) (kq [0,1,2,3,4,5,6]) 22 pn ?_
 obtain ⟨aP,hr,h⟩:=bt h
 refine aj hE 2 [(5,oT (aI aP))] [] (kp [0,4,5]) (kq [0,1,2,3,4,5,6]) 134 (pc o1 (pc (dy _ _ _ _ hr) (pc (z1 C1.length) pn))) ?_
 refine aj hE 1 [] [] (kp [0,4,5,13]) (kq [0,1,2,3,4,5,6]) 166 pn ?_
 refine dS 0 13 h (fun dR h=>?_) (fun dR h=>?_)
 ·obtain ⟨c,h⟩:=ae h
  refine aj hE 1 [] [] (kp [4]) (kq [0,1,2,3,4,5,6]) 294 (pc o1 (pc c (pc (dq c) (pc o1 pn)))) ?_
  obtain rfl:=dx h
  exact dQ hE 0 Tryz.f40 [] (kp [4]) (kq [0,1,2,3,4,5] ++ [(22,.ak 6)]) 294 pn [22] (pc o1 pn)
 ·obtain ⟨aw,eW,h⟩:=bt h
  refine aj hE 2 [(0,oT (.agg (ah aw)))] [] (kp [4]) (kq [0,1,2,3,4,5,6]) 198 (pc (dL _ _ _ eW) (pc o1 pn)) ?_
  obtain rfl:=dx h
  exact dQ hE 0 Tryz.f40 [] (kp [4]) (kq [0,1,2,3,4,5] ++ [(22,.ak 6)]) 198 pn [22] (pc o1 pn)
noncomputable abbrev U0:=cG Tryz.f38
def w9 (N:Nat) (C0:Int) (bc:Int) (bZ:Bool) (cM:List Int) (cP:Bool) (cQ:List Int) (cg:Int) (C1:List Int) (C2:List Int) (C3:List (List aa)) (C4:List aa) (C5:List aa) (K:(List aa)→Int→Option ((List aa))):Prop:=∀ (out:List aa) (x:Int) (r:(List aa)),K out x=some r→∀ E,aQ E 6→az Tryz.prog E 38 34 (aY E [(0,vN 12 [(aI C0),(aI bc),(.os 1 0 C1.length),(.os 2 0 C2.length),(.os 3 0 C3.length),(.os 4 0 C4.length),(.os 5 0 C5.length),(aB bZ),(eU cM),(aB cP),(eU cQ),(aI cg)]),(1,aO 1 cI 0 C1),(2,aO 1 cI 0 C2),(3,aM 4 ah aa.d C3),(4,aO 4 ah aa.d C4),(5,aO 4 ah aa.d C5),(6,aO 4 ah aa.d r)] (.os 6 0 r.length)) [.code (U0 116),.inLoop (U0 116),.inBlock 0,.code (U0 15)] ⟨[(0,(.op 0 0 0)),(1,(.fn (.func 40) [(.op 0 0 0)] [])),(5,(.os 6 0 out.length)),(13,(aI (((List.replicate ((C0).toNat) aa.d:List aa).length:Nat):Int))),(14,(aI x))],[(0,vN 12 [(aI C0),(aI bc),(.os 1 0 C1.length),(.os 2 0 C2.length),(.os 3 0 C3.length),(.os 4 0 C4.length),(.os 5 0 C5.length),(aB bZ),(eU cM),(aB cP),(eU cQ),(aI cg)]),(1,aO 1 cI 0 C1),(2,aO 1 cI 0 C2),(3,aM 4 ah aa.d C3),(4,aO 4 ah aa.d C4),(5,aO 4 ah aa.d C5),(6,aO 4 ah aa.d out)],7⟩
theorem v7 (N C0 bc bZ cM cP cQ cg C1 C2 C3 C4 C5 fuel):w9 N C0 bc bZ cM cP cQ cg C1 C2 C3 C4 C5 (ec N C0 bc bZ cM cP cQ cg C1 C2 C3 C4 C5 fuel):=by
 induction fuel with
 | zero=>intro _ _ r h;rw [ec.eq_1] at h;cases h
 | succ fuel ih =>
  intro out x r h E hE
  rw [ec.eq_2] at h
  refine aj hE 1 [] [] (kp [0,1,5,13,14,15]) (kq [0,1,2,3,4,5,6]) 23 pn ?_
  refine dS 1 15 h (fun dR h=>?_) (fun dR h=>?_)
  ·refine aj hE 4 [] [] (kp [0,1,5,6,13,14]) (kq [0,1,2,3,4,5,6]) 55 pn ?_
   obtain ⟨rat,hr,h⟩:=bt h
   obtain ⟨Xw,eW,h⟩:=bt h
   obtain ⟨dc,ly,h⟩:=bt h
   obtain ⟨c2,h⟩:=ae h
   refine aj hE 0 [(4,⟨[0,1,2,3,4,5],true,(.agg (ah rat)),[],0,false,none⟩),(12,⟨[0,1,2,3,4,5],true,(.agg (ah Xw)),[],0,false,none⟩),(13,oT (.agg (ah dc)))] [] (kp [0,1] ++ [(5,.lP ((out.set ((x).toNat) dc).length))] ++ kp [13,14]) (kq [0,1,2,3,4,5] ++ [(6,.arr 6 ((out.set ((x).toNat) dc).length) (fun zi=>ah ((out.set ((x).toNat) dc).getD zi aa.d)))]) 311 (pc (uA _ _ _ _ _ _ _ _ _ _ _ _ _ _ _ hr) (pc (iM C3) (pc o1 (pc (uA _ _ _ _ _ _ _ _ _ _ _ _ _ _ _ eW) (pc (iM C3) (pc (my _ _ _ _ ly) (pc c2 (pc (dq c2) (pc (aJ out ((x).toNat) dc) (pc (aJ out ((x).toNat) dc) (pc (cR ah aa.d out ((x).toNat) dc) pn))))))))))) ?_
   refine aj hE 1 [] [] (kp [0,1,5,13,14]) (kq [0,1,2,3,4,5,6]) 343 pn ?_
   exact de hE 1 [] (kp [0,1,5,13,14]) (kq [0,1,2,3,4,5,6]) 7 pn (ih _ _ _ h E hE)
  ·refine aj hE 2 [] [] (kp [4]) (kq [0,1,2,3,4,5,6]) 55 pn ?_
   obtain rfl:=dx h
   exact dQ hE 0 Tryz.f38 [] (kp [4]) (kq [0,1,2,3,4,5,6]) 55 pn [] pn
theorem rF (N C0 bc bZ cM cP cQ cg C1 C2 C3 C4 C5 r) (h:jd N C0 bc bZ cM cP cQ cg C1 C2 C3 C4 C5=some r):Sd 38 [(.op 0 0 0),(.fn (.func 40) [(.op 0 0 0)] [])] [(0,vN 12 [(aI C0),(aI bc),(.os 1 0 C1.length),(.os 2 0 C2.length),(.os 3 0 C3.length),(.os 4 0 C4.length),(.os 5 0 C5.length),(aB bZ),(eU cM),(aB cP),(eU cQ),(aI cg)]),(1,aO 1 cI 0 C1),(2,aO 1 cI 0 C2),(3,aM 4 ah aa.d C3),(4,aO 4 ah aa.d C4),(5,aO 4 ah aa.d C5)] 6 (.os 6 0 r.length) [(0,vN 12 [(aI C0),(aI bc),(.os 1 0 C1.length),(.os 2 0 C2.length),(.os 3 0 C3.length),(.os 4 0 C4.length),(.os 5 0 C5.length),(aB bZ),(eU cM),(aB cP),(eU cQ),(aI cg)]),(1,aO 1 cI 0 C1),(2,aO 1 cI 0 C2),(3,aM 4 ah aa.d C3),(4,aO 4 ah aa.d C4),(5,aO 4 ah aa.d C5),(6,aO 4 ah aa.d r)]:=by
 unfold jd at h
 refine iy (fu:=Tryz.f38) (c:=U0 1) (nt:=34) (fun hm=>absurd hm (by decide)) ?_
 intro E hE
 refine aj hE 1 [] [] (kp [0,1]) (kq [0,1,2,3,4,5]) 22 pn ?_
 obtain ⟨c,h⟩:=ae h
 refine aj hE 1 [] [] (kp [0,1] ++ [(5,.lP ((List.replicate ((C0).toNat) aa.d:List aa).length))]) (kq [0,1,2,3,4,5] ++ [(86,.Tz 86 ((List.replicate ((C0).toNat) aa.d:List aa).length) (fun zi=>ah ((List.replicate ((C0).toNat) aa.d:List aa).getD zi aa.d)))]) 118 (pc o1 (pc (show 0≤C0 from c.1) (pc (show C0≤C0 from (Int.le_refl _)) (pc (show (64:Int) * C0≤281474976710656 from c.2.1) (pc (show C0≤9223372036854775807 from c.2.2) (pc (show (C0).toNat=(List.replicate ((C0).toNat) aa.d:List aa).length from (dn).symm) (pc (show (List.replicate ((C0).toNat) aa.d:List aa).length≤(C0).toNat from (Nat.le_of_eq (Eq.symm ((dn).symm)))) (pc (show ∀ zi,zi < (List.replicate ((C0).toNat) aa.d:List aa).length→KJ ((fun _=>[(aB false),.nil,(aB false),.nil]) zi) ((fun zi=>ah ((List.replicate ((C0).toNat) aa.d:List aa).getD zi aa.d)) zi) from (fun zq j5=>qC ah aa.d aa.d ((C0).toNat) zq ⟨.inl rfl,.inr ⟨rfl,_,rfl⟩,.inl rfl,.inr ⟨rfl,_,rfl⟩,trivial⟩ j5)) pn)))))))) ?_
 refine aj hE 2 [] [] (kp [0,1,5,13,14]) (kq [0,1,2,3,4,5,86]) 166 pn ?_
 exact de hE 2 [] (kp [0,1,5,13,14]) (kq [0,1,2,3,4,5] ++ [(6,.ak 86)]) 7 pn (v7 N _ _ _ _ _ _ _ _ _ _ _ _ N _ _ _ h E hE)
noncomputable abbrev C_0:=cG Tryz.f14
theorem En (N n l r) (h:kW N n l=some r):Sd 14 [(aI n),(aN Aj aH.d l)] [] 0 (.tup [(aN ah aa.d r.1),(aN ah aa.d r.2.1),(aI r.2.2)]) []:=by
 unfold kW at h
 refine iy (fu:=Tryz.f14) (c:=C_0 1) (nt:=27) (fun hm=>rfl) ?_
 intro E hE
 refine aj hE 1 [] [] (kp [0,1]) [] 48 pn ?_
 obtain ⟨bP,hr,h⟩:=bt h
 refine aj hE 2 [(2,oT (aI bP))] [] (kp [0,1,7]) [] 112 (pc (vL _ _ _ _ hr) pn) ?_
 refine aj hE 1 [] [] (kp [0,1,7,13]) [] 144 pn ?_
 refine dS 0 13 h (fun dR h=>?_) (fun dR h=>?_)
 ·refine aj hE 1 [] [] (kp [4,5,6]) [] 208 pn ?_
  obtain rfl:=dx h
  exact dQ hE 0 Tryz.f14 [] ([(4,.sl (([]:List aa).length) (fun zi=>ah (([]:List aa).getD zi aa.d))),(5,.sl (([]:List aa).length) (fun zi=>ah (([]:List aa).getD zi aa.d)))] ++ kp [6]) [] 208 (pc (Eq.refl 0) (pc (Eq.refl 0) pn)) [] pn
 ·obtain ⟨bQ,eW,h⟩:=bt h
  refine aj hE 2 [(2,⟨[],true,(.op 0 0 0),[(0,vN 12 [(aI bQ.rf),(aI bQ.rh),(.os 1 0 bQ.gY.length),(.os 2 0 bQ.lF.length),(.os 3 0 bQ.Hd.length),(.os 4 0 bQ.He.length),(.os 5 0 bQ.dJ.length),(aB bQ.af.fN.fG),(eU bQ.af.fN.fL),(aB bQ.af.fD.fG),(eU bQ.af.fD.fL),(aI bQ.bC)]),(1,aO 1 cI 0 bQ.gY),(2,aO 1 cI 0 bQ.lF),(3,aM 4 ah aa.d bQ.Hd),(4,aO 4 ah aa.d bQ.He),(5,aO 4 ah aa.d bQ.dJ)],0,false,none⟩)] [] (kp [8]) (kq [176,177,178,179,180,181]) 208 (pc (BL _ _ _ _ eW) pn) ?_
  obtain ⟨ay,ly,h⟩:=bt h
  obtain ⟨c,h⟩:=ae h
  obtain ⟨c2,h⟩:=ae h
  obtain ⟨c3,h⟩:=ae h
  refine aj hE 2 [(1,⟨[176,177,178,179,180,181],false,(aB ay.1),[(0,vN 12 [(aI ay.2.1.rf),(aI ay.2.1.rh),(.os 1 0 ay.2.2.1.length),(.os 2 0 ay.2.2.2.1.length),(.os 3 0 ay.2.2.2.2.1.length),(.os 4 0 ay.2.2.2.2.2.length),(.os 6 0 ay.2.1.dJ.length),(aB ay.2.1.af.fN.fG),(eU ay.2.1.af.fN.fL),(aB ay.2.1.af.fD.fG),(eU ay.2.1.af.fD.fL),(aI ay.2.1.bC)]),(1,aO 1 cI 0 ay.2.2.1),(2,aO 1 cI 0 ay.2.2.2.1),(3,aM 4 ah aa.d ay.2.2.2.2.1),(4,aO 4 ah aa.d ay.2.2.2.2.2),(6,aO 4 ah aa.d ay.2.1.dJ)],0,false,none⟩)] [] (kp [8,20]) (kq [176,177,178,179,180,224]) 256 (pc (qo _ _ _ _ _ _ _ _ _ _ _ _ _ _ ly) pn) ?_
  refine dS 0 20 h (fun iU h=>?_) (fun iU h=>?_)
  ·obtain ⟨cJ,oi,h⟩:=bt h
   refine aj hE 1 [(1,⟨[176,177,178,179,180,224],true,(.os 6 0 cJ.length),[(6,aO 4 ah aa.d cJ)],0,false,none⟩)] [] (kp [4,5,6]) (kq [272]) 336 (pc (j6 _ _ _ _ _ _ _ _ _ _ _ _ _ _ oi) (pc (iM ay.2.2.2.2.1) pn)) ?_
   obtain rfl:=dx h
   exact dQ hE 0 Tryz.f14 [272] ([(4,.sl (([]:List aa).length) (fun zi=>ah (([]:List aa).getD zi aa.d))),(5,.sl (cJ.length) (fun zi=>ah (cJ.getD zi aa.d)))] ++ kp [6]) [] 336 (pc (Eq.refl 0) (pc (Eq.refl cJ.length) (pc (z1 cJ.length) (pc (aZ cJ.length (fun zi=>ah (cJ.getD zi aa.d))) pn)))) [] pn
  ·obtain ⟨jZ,tZ,h⟩:=bt h
   refine aj hE 2 [(3,⟨[176,177,178,179,180,224],true,(.os 6 0 jZ.length),[(6,aO 4 ah aa.d jZ)],0,false,none⟩)] [] (kp [4,5,6]) (kq [304]) 368 (pc (rF _ _ _ _ _ _ _ _ _ _ _ _ _ _ tZ) (pc (iM ay.2.2.2.2.1) pn)) ?_
   obtain rfl:=dx h
   exact dQ hE 0 Tryz.f14 [304] ([(4,.sl (jZ.length) (fun zi=>ah (jZ.getD zi aa.d))),(5,.sl (([]:List aa).length) (fun zi=>ah (([]:List aa).getD zi aa.d)))] ++ kp [6]) [] 368 (pc (Eq.refl jZ.length) (pc (z1 jZ.length) (pc (aZ jZ.length (fun zi=>ah (jZ.getD zi aa.d))) (pc (Eq.refl 0) pn)))) [] pn
noncomputable abbrev U1:=cG Tryz.f9
def yC (N:Nat) (n:Int) (l:List aH) (K:Int→Option (Int)):Prop:=∀ (i:Int) (r:Int),K i=some r→∀ E,aQ E 0→az Tryz.prog E 9 29 (aY E [] (aI r)) [.code (U1 244),.inLoop (U1 244),.inBlock 0,.code (U1 31)] ⟨[(0,(aI n)),(1,(aN Aj aH.d l)),(5,(aI i))],[],0⟩
theorem xM (N n l fuel):yC N n l (fb N n l fuel):=by
 induction fuel with
 | zero=>intro _ r h;rw [fb.eq_1] at h;cases h
 | succ fuel ih =>
  intro i r h E hE
  rw [fb.eq_2] at h
  refine aj hE 2 [] [] (kp [0,1,5,18]) [] 64 pn ?_
  refine dS 0 18 h (fun rm h=>?_) (fun rm h=>?_)
  ·obtain ⟨c,h⟩:=ae h
   refine aj hE 4 [] [] (kp [0,1,5,28]) [] 192 (pc c pn) ?_
   refine dS 0 28 h (fun F5 h=>?_) (fun F5 h=>?_)
   ·refine aj hE 1 [] [] (kp [4]) [] 208 pn ?_
    obtain rfl:=dx h
    exact dQ hE 0 Tryz.f9 [] (kp [4]) [] 208 pn [] pn
   ·refine aj hE 2 [] [] (kp [0,1,5]) [] 240 pn ?_
    exact de hE 1 [] (kp [0,1,5]) [] 0 pn (ih _ _ h E hE)
  ·refine aj hE 2 [] [] (kp [4]) [] 80 pn ?_
   obtain rfl:=dx h
   exact dQ hE 0 Tryz.f9 [] (kp [4]) [] 80 pn [] pn
theorem tL (N n l r) (h:kD N n l=some r):Sd 9 [(aI n),(aN Aj aH.d l)] [] 0 (aI r) []:=by
 unfold kD at h
 refine iy (fu:=Tryz.f9) (c:=U1 1) (nt:=29) (fun hm=>rfl) ?_
 intro E hE
 refine aj hE 1 [] [] (kp [0,1]) [] 16 pn ?_
 refine aj hE 2 [] [] (kp [0,1,11]) [] 112 (pc (fun hg:(!(decide (n < 0)))=true=>(pc hg pn)) (pc (fun hq:(!(decide (n < 0)))=true=>(pc hq pn)) pn)) ?_
 refine dS 0 11 h (fun dR h=>?_) (fun dR h=>?_)
 ·refine aj hE 1 [] [] (kp [4]) [] 128 pn ?_
  obtain rfl:=dx h
  exact dQ hE 0 Tryz.f9 [] (kp [4]) [] 128 pn [] pn
 ·refine aj hE 3 [] [] (kp [0,1,14]) [] 160 pn ?_
  refine dS 0 14 h (fun iU h=>?_) (fun iU h=>?_)
  ·refine aj hE 1 [] [] (kp [4]) [] 176 pn ?_
   obtain rfl:=dx h
   exact dQ hE 0 Tryz.f9 [] (kp [4]) [] 176 pn [] pn
  ·refine aj hE 3 [] [] (kp [0,1,5]) [] 176 pn ?_
   exact de hE 2 [] (kp [0,1,5]) [] 0 pn (xM N _ _ N _ _ h E hE)
noncomputable abbrev Jy:=cG Tryz.f5
def n9 (N:Nat) (p:cT) (K:Int→Option (Bool)):Prop:=∀ (i:Int) (r:Bool),K i=some r→∀ E,aQ E 0→az Tryz.prog E 5 104 (aY E [] (aB r)) [.code (Jy 116),.inLoop (Jy 116),.inBlock 0,.code (Jy 15)] ⟨[(1,(.op 0 0 0)),(3,(aI i))],[(0,vO 2 (cT.cells p))],1⟩
def ui (N:Nat) (p:cT) (i:Int) (K:Int→Option (Bool)):Prop:=∀ (j:Int) (r:Bool),K j=some r→∀ E,aQ E 0→az Tryz.prog E 5 104 (aY E [] (aB r)) [.code (Jy 14924),.inLoop (Jy 14924),.inBlock 2,.inBlock 1,.code (Jy 467),.inLoop (Jy 116),.inBlock 0,.code (Jy 15)] ⟨[(1,(.op 0 0 0)),(3,(aI i)),(4,(aI j))],[(0,vO 2 (cT.cells p))],1⟩
theorem tM (N:Nat) (p:cT) (i:Int) (fq:Int→Option (Bool)) (tN:n9 N p fq) (fuel:Nat):ui N p i (bO N p i fq fuel):=by
 induction fuel with
 | zero=>intro _ r h;rw [bO.eq_1] at h;cases h
 | succ fuel ih =>
  intro j r h E hE
  rw [bO.eq_2] at h
  obtain ⟨c4,h⟩:=ae h
  refine aj hE 2 [] [] (kp [1,3,4,56]) (kq [0]) 145 (pc o1 (pc c4 pn)) ?_
  refine dS 0 56 h (fun F5 h=>?_) (fun F5 h=>?_)
  ·obtain ⟨c5,h⟩:=ae h
   obtain ⟨c6,h⟩:=ae h
   obtain ⟨c7,h⟩:=ae h
   refine aj hE 4 [] [] (kp [1,3,4,86]) (kq [0]) 593 (pc o1 (pc c4 (pc c5 (pc (fun hg:(!(decide ((((((((p.jM.getD ((i).toNat) aH.d).bu).getD ((j).toNat) aa.d).fN).fL).length:Nat):Int) > 2)))=true=>(pc hg (pc o1 pn))) (pc (fun hg:(!(decide ((((((((p.jM.getD ((i).toNat) aH.d).bu).getD ((j).toNat) aa.d).fN).fL).length:Nat):Int) > 2)))=true=>(pc hg (pc hg (pc (c6 hg) pn)))) (pc (fun hg:(!(decide ((((((((p.jM.getD ((i).toNat) aH.d).bu).getD ((j).toNat) aa.d).fN).fL).length:Nat):Int) > 2)))=true=>(pc hg pn)) (pc (fun hg:(!(decide ((((((((p.jM.getD ((i).toNat) aH.d).bu).getD ((j).toNat) aa.d).fN).fL).length:Nat):Int) > 2)))=true=>(pc hg pn)) (pc (fun hg:(!(decide ((((((((p.jM.getD ((i).toNat) aH.d).bu).getD ((j).toNat) aa.d).fN).fL).length:Nat):Int) > 2)))=true=>(pc hg (pc hg (pc (c7 hg) pn)))) (pc (fun hg:(!(decide ((((((((p.jM.getD ((i).toNat) aH.d).bu).getD ((j).toNat) aa.d).fN).fL).length:Nat):Int) > 2)))=true=>(pc hg pn)) (pc (fun hg:(!(decide ((((((((p.jM.getD ((i).toNat) aH.d).bu).getD ((j).toNat) aa.d).fN).fL).length:Nat):Int) > 2)))=true=>(pc hg pn)) (pc (fun hg:(!(decide ((((((((p.jM.getD ((i).toNat) aH.d).bu).getD ((j).toNat) aa.d).fN).fL).length:Nat):Int) > 2)))=true=>(pc hg pn)) (pc (fun hg:(!(decide ((((((((p.jM.getD ((i).toNat) aH.d).bu).getD ((j).toNat) aa.d).fN).fL).length:Nat):Int) > 2)))=true=>(pc hg pn)) (pc (fun hg:(!(decide ((((((((p.jM.getD ((i).toNat) aH.d).bu).getD ((j).toNat) aa.d).fN).fL).length:Nat):Int) > 2)))=true=>(pc hg pn)) (pc (fun hq:(!(decide ((((((((p.jM.getD ((i).toNat) aH.d).bu).getD ((j).toNat) aa.d).fN).fL).length:Nat):Int) > 2)))=true=>(pc hq pn)) pn)))))))))))))) ?_
   refine dS 0 86 h (fun PD h=>?_) (fun PD h=>?_)
   ·refine aj hE 1 [] [] (kp [2]) [] 609 pn ?_
    obtain rfl:=dx h
    exact dQ hE 0 Tryz.f5 [] (kp [2]) [] 609 pn [] pn
   ·refine aj hE 2 [] [] (kp [1,3,4]) (kq [0]) 641 pn ?_
    exact de hE 1 [] (kp [1,3,4]) (kq [0]) 1 pn (ih _ _ h E hE)
  ·refine aj hE 2 [] [] (kp [1,3]) (kq [0]) 193 pn ?_
   exact de hE 1 [] (kp [1,3]) (kq [0]) 1 pn (tN _ _ h E hE)
theorem tO (N p fuel):n9 N p (bw N p fuel):=by
 induction fuel with
 | zero=>intro _ r h;rw [bw.eq_1] at h;cases h
 | succ fuel ih =>
  intro i r h E hE
  rw [bw.eq_2] at h
  refine aj hE 2 [] [] (kp [1,3,13]) (kq [0]) 81 (pc o1 pn) ?_
  refine dS 0 13 h (fun iU h=>?_) (fun iU h=>?_)
  ·obtain ⟨c,h⟩:=ae h
   obtain ⟨c2,h⟩:=ae h
   obtain ⟨c3,h⟩:=ae h
   refine aj hE 5 [] [] (kp [1,3,47]) (kq [0]) 593 (pc o1 (pc c (pc (fun hg:(!(decide (((((((p.jM.getD ((i).toNat) aH.d).b6).fN).fL).length:Nat):Int) > 2)))=true=>(pc hg (pc o1 pn))) (pc (fun hg:(!(decide (((((((p.jM.getD ((i).toNat) aH.d).b6).fN).fL).length:Nat):Int) > 2)))=true=>(pc hg (pc hg (pc (c2 hg) pn)))) (pc (fun hg:(!(decide (((((((p.jM.getD ((i).toNat) aH.d).b6).fN).fL).length:Nat):Int) > 2)))=true=>(pc hg pn)) (pc (fun hg:(!(decide (((((((p.jM.getD ((i).toNat) aH.d).b6).fN).fL).length:Nat):Int) > 2)))=true=>(pc hg pn)) (pc (fun hg:(!(decide (((((((p.jM.getD ((i).toNat) aH.d).b6).fN).fL).length:Nat):Int) > 2)))=true=>(pc hg pn)) (pc (fun hg:(!(decide (((((((p.jM.getD ((i).toNat) aH.d).b6).fN).fL).length:Nat):Int) > 2)))=true=>(pc hg pn)) (pc (fun hg:(!(decide (((((((p.jM.getD ((i).toNat) aH.d).b6).fN).fL).length:Nat):Int) > 2)))=true=>(pc hg pn)) (pc (fun hg:(!(decide (((((((p.jM.getD ((i).toNat) aH.d).b6).fN).fL).length:Nat):Int) > 2)))=true=>(pc hg pn)) (pc (fun hq:(!(decide (((((((p.jM.getD ((i).toNat) aH.d).b6).fN).fL).length:Nat):Int) > 2)))=true=>(pc hq pn)) (pc (fun hg:(!(cond (decide (((((((p.jM.getD ((i).toNat) aH.d).b6).fN).fL).length:Nat):Int) > 2)) true (decide (((((((p.jM.getD ((i).toNat) aH.d).b6).fD).fL).length:Nat):Int) > 2))))=true=>(pc hg (pc o1 pn))) (pc (fun hg:(!(cond (decide (((((((p.jM.getD ((i).toNat) aH.d).b6).fN).fL).length:Nat):Int) > 2)) true (decide (((((((p.jM.getD ((i).toNat) aH.d).b6).fD).fL).length:Nat):Int) > 2))))=true=>(pc hg (pc hg (pc (c3 hg) pn)))) (pc (fun hg:(!(cond (decide (((((((p.jM.getD ((i).toNat) aH.d).b6).fN).fL).length:Nat):Int) > 2)) true (decide (((((((p.jM.getD ((i).toNat) aH.d).b6).fD).fL).length:Nat):Int) > 2))))=true=>(pc hg pn)) (pc (fun hg:(!(cond (decide (((((((p.jM.getD ((i).toNat) aH.d).b6).fN).fL).length:Nat):Int) > 2)) true (decide (((((((p.jM.getD ((i).toNat) aH.d).b6).fD).fL).length:Nat):Int) > 2))))=true=>(pc hg pn)) (pc (fun hg:(!(cond (decide (((((((p.jM.getD ((i).toNat) aH.d).b6).fN).fL).length:Nat):Int) > 2)) true (decide (((((((p.jM.getD ((i).toNat) aH.d).b6).fD).fL).length:Nat):Int) > 2))))=true=>(pc hg pn)) (pc (fun hg:(!(cond (decide (((((((p.jM.getD ((i).toNat) aH.d).b6).fN).fL).length:Nat):Int) > 2)) true (decide (((((((p.jM.getD ((i).toNat) aH.d).b6).fD).fL).length:Nat):Int) > 2))))=true=>(pc hg pn)) (pc (fun hq:(!(cond (decide (((((((p.jM.getD ((i).toNat) aH.d).b6).fN).fL).length:Nat):Int) > 2)) true (decide (((((((p.jM.getD ((i).toNat) aH.d).b6).fD).fL).length:Nat):Int) > 2))))=true=>(pc hq pn)) pn)))))))))))))))))) ?_
   refine dS 0 47 h (fun rm h=>?_) (fun rm h=>?_)
   ·refine aj hE 1 [] [] (kp [2]) [] 609 pn ?_
    obtain rfl:=dx h
    exact dQ hE 0 Tryz.f5 [] (kp [2]) [] 609 pn [] pn
   ·refine aj hE 2 [] [] (kp [1,3,4]) (kq [0]) 609 pn ?_
    exact de hE 2 [] (kp [1,3,4]) (kq [0]) 1 pn (tM N _ _ _ ih N _ _ h E hE)
  ·obtain ⟨bP,hr,h⟩:=bt h
   refine aj hE 2 [(4,oT (aI bP))] [] (kp [2]) [] 369 (pc o1 (pc o1 (pc (tL _ _ _ _ hr) (pc (fun hg:(!(bP != 0))=true=>(pc hg (pc o1 pn))) (pc (fun hg:(!(bP != 0))=true=>(pc hg pn)) (pc (fun hg:((!(bP != 0)) && ((!(bP != 0)) && (decide (p.J8≤4))))=true=>(pc hg (pc o1 pn))) (pc (fun hg:((!(bP != 0)) && ((!(bP != 0)) && (decide (p.J8≤4))))=true=>(pc hg pn)) (pc (fun hg:((!(bP != 0)) && ((!(bP != 0)) && (decide (p.J8≤4))))=true=>(pc hg pn)) (pc (fun hg:(!(bP != 0))=true=>(pc hg (pc hg (pc (fun hq:(decide (p.J8≤4))=true=>(pc (show ((!(bP != 0)) && ((!(bP != 0)) && (decide (p.J8≤4))))=true from (Ai hg (Ai hg hq))) pn)) pn)))) (pc (fun hq:(!(bP != 0))=true=>(pc hq pn)) pn)))))))))) ?_
   obtain rfl:=dx h
   exact dQ hE 0 Tryz.f5 [] (kp [2]) [] 369 pn [] pn
theorem v8 (N p r) (h:iI N p=some r):Sd 5 [(.agg (cT.cells p))] [] 0 (aB r) []:=by
 unfold iI at h
 refine iy (fu:=Tryz.f5) (c:=Jy 1) (nt:=104) (fun hm=>rfl) ?_
 intro E hE
 refine aj hE 1 [] [] (kp [1]) (kq [0]) 32 pn ?_
 refine aj hE 2 [] [] (kp [1,8]) (kq [0]) 96 (pc o1 pn) ?_
 refine dS 0 8 h (fun dR h=>?_) (fun dR h=>?_)
 ·refine aj hE 1 [] [] (kp [2]) [] 112 pn ?_
  obtain rfl:=dx h
  exact dQ hE 0 Tryz.f5 [] (kp [2]) [] 112 pn [] pn
 ·refine aj hE 3 [] [] (kp [1,3]) (kq [0]) 112 pn ?_
  exact de hE 2 [] (kp [1,3]) (kq [0]) 1 pn (tO N _ N _ _ h E hE)
noncomputable abbrev acP:=cG Tryz.f17
theorem HC (N x r) (h:qE N x=some r):Sd 17 [(.agg (ah x))] [] 0 (aB r) []:=by
 unfold qE at h
 refine iy (fu:=Tryz.f17) (c:=acP 1) (nt:=15) (fun hm=>rfl) ?_
 intro E hE
 refine aj hE 1 [] [] (kp [1]) (kq [0]) 32 pn ?_
 refine aj hE 1 [] [] (kp [2]) [] 240 (pc o1 (pc (fun hg:(!(decide (((x.fN.fL.length:Nat):Int) > 12)))=true=>(pc hg pn)) (pc (fun hg:(!(decide (((x.fN.fL.length:Nat):Int) > 12)))=true=>(pc hg (pc o1 pn))) (pc (fun hg:(!(decide (((x.fN.fL.length:Nat):Int) > 12)))=true=>(pc hg pn)) (pc (fun hg:(!(decide (((x.fN.fL.length:Nat):Int) > 12)))=true=>(pc hg pn)) (pc (fun hq:(!(decide (((x.fN.fL.length:Nat):Int) > 12)))=true=>(pc hq pn)) pn)))))) ?_
 obtain rfl:=dx h
 exact dQ hE 0 Tryz.f17 [] (kp [2]) [] 240 pn [] pn
noncomputable abbrev U2:=cG Tryz.f6
def AS (N:Nat) (l:List aa) (K:Int→Option (Bool)):Prop:=∀ (i:Int) (r:Bool),K i=some r→∀ E,aQ E 0→az Tryz.prog E 6 21 (aY E [] (aB r)) [.code (U2 116),.inLoop (U2 116),.inBlock 0,.code (U2 15)] ⟨[(0,(aN ah aa.d l)),(5,(aI i))],[],0⟩
theorem zX (N l fuel):AS N l (dA N l fuel):=by
 induction fuel with
 | zero=>intro _ r h;rw [dA.eq_1] at h;cases h
 | succ fuel ih =>
  intro i r h E hE
  rw [dA.eq_2] at h
  refine aj hE 2 [] [] (kp [0,5,13]) [] 64 pn ?_
  refine dS 0 13 h (fun iU h=>?_) (fun iU h=>?_)
  ·obtain ⟨c,h⟩:=ae h
   obtain ⟨RG,hr,h⟩:=bt h
   refine aj hE 4 [(4,oT (aB RG))] [] (kp [0,5,20]) [] 144 (pc c (pc (HC _ _ _ hr) pn)) ?_
   refine dS 0 20 h (fun rm h=>?_) (fun rm h=>?_)
   ·refine aj hE 1 [] [] (kp [4]) [] 160 pn ?_
    obtain rfl:=dx h
    exact dQ hE 0 Tryz.f6 [] (kp [4]) [] 160 pn [] pn
   ·refine aj hE 2 [] [] (kp [0,5]) [] 192 pn ?_
    exact de hE 1 [] (kp [0,5]) [] 0 pn (ih _ _ h E hE)
  ·refine aj hE 2 [] [] (kp [4]) [] 80 pn ?_
   obtain rfl:=dx h
   exact dQ hE 0 Tryz.f6 [] (kp [4]) [] 80 pn [] pn
theorem Dc (N l most r) (h:oy N l most=some r):Sd 6 [(aN ah aa.d l),(aI most)] [] 0 (aB r) []:=by
 unfold oy at h
 refine iy (fu:=Tryz.f6) (c:=U2 1) (nt:=21) (fun hm=>rfl) ?_
 intro E hE
 refine aj hE 1 [] [] (kp [0,1]) [] 16 pn ?_
 refine aj hE 2 [] [] (kp [0,9]) [] 80 pn ?_
 refine dS 0 9 h (fun dR h=>?_) (fun dR h=>?_)
 ·refine aj hE 1 [] [] (kp [4]) [] 96 pn ?_
  obtain rfl:=dx h
  exact dQ hE 0 Tryz.f6 [] (kp [4]) [] 96 pn [] pn
 ·refine aj hE 3 [] [] (kp [0,5]) [] 96 pn ?_
  exact de hE 2 [] (kp [0,5]) [] 0 pn (zX N _ N _ _ h E hE)
noncomputable abbrev U3:=cG Tryz.f62
def Gi (N:Nat) (K:Int→(List Int)→Option ((List Int))):Prop:=∀ (n2:Int) (out:List Int) (r:(List Int)),K n2 out=some r→∀ E,aQ E 0→az Tryz.prog E 62 15 (aY E [] (eU r)) [.code (U3 56),.inLoop (U3 56),.inBlock 0,.code (U3 15)] ⟨[(0,(Is n2)),(3,(.os 0 0 out.length))],[(0,aU out)],1⟩
theorem Eo (N fuel):Gi N (l4 N fuel):=by
 induction fuel with
 | zero=>intro _ _ r h;rw [l4.eq_1] at h;cases h
 | succ fuel ih =>
  intro n2 out r h E hE
  rw [l4.eq_2] at h
  refine aj hE 2 [] [] (kp [0,3,5]) (kq [0]) 33 pn ?_
  refine dS 0 5 h (fun dR h=>?_) (fun dR h=>?_)
  ·obtain ⟨c,h⟩:=ae h
   refine aj hE 3 [] [] (kp [0] ++ [(3,.lP ((out ++ ([(IntKind.u16.wrap ((vA .u64 n2 65535)))]:List Int)).length))]) [(113,.arr 113 ((out ++ ([(IntKind.u16.wrap ((vA .u64 n2 65535)))]:List Int)).length) (fun zi=>(cU .u16) ((out ++ ([(IntKind.u16.wrap ((vA .u64 n2 65535)))]:List Int)).getD zi 0)))] 145 (pc (Eq.refl out.length) (pc c (pc (z1 1) (pc (show ∀ zi,zi < 1→AV.ko ((fun zi=>([[(wq (IntKind.u16.wrap ((vA .u64 n2 65535))))]]:List (List AV)).getD zi []) (bT 0 zi))=true from (zT rfl)) (pc (show (out.length+1)=(out ++ ([(IntKind.u16.wrap ((vA .u64 n2 65535)))]:List Int)).length from (bA rfl rfl)) (pc (show out.length+1=(out ++ ([(IntKind.u16.wrap ((vA .u64 n2 65535)))]:List Int)).length from (bA rfl rfl)) (pc (show ∀ zi,zi < (out ++ ([(IntKind.u16.wrap ((vA .u64 n2 65535)))]:List Int)).length→(fun zi=>(cU .u16) ((out ++ ([(IntKind.u16.wrap ((vA .u64 n2 65535)))]:List Int)).getD zi 0)) zi=((fun zm=>if zm < out.length then (fun zi=>(cU .u16) (out.getD zi 0)) zm else (fun zi=>([[(wq (IntKind.u16.wrap ((vA .u64 n2 65535))))]]:List (List AV)).getD zi []) (zm - out.length))) zi from (dT (cU .u16) 0 out ([(IntKind.u16.wrap ((vA .u64 n2 65535)))]:List Int) rfl (fun _ _=>rfl) (fun zq j5=>dP (cU .u16) 0 ([(IntKind.u16.wrap ((vA .u64 n2 65535)))]:List Int) zq j5))) pn))))))) ?_
   refine aj hE 1 [] [] (kp [0,3]) (kq [113]) 193 (pc (show (0:Int)≤16 by decide) pn) ?_
   exact de hE 1 [] (kp [0,3]) [(0,.ak 113)] 1 pn (ih _ _ _ h E hE)
  ·refine aj hE 2 [] [] (kp [2]) (kq [0]) 65 pn ?_
   obtain rfl:=dx h
   exact dQ hE 0 Tryz.f62 [0] [(2,.sl (out.length) (fun zi=>(cU .u16) (out.getD zi 0)))] [] 65 (pc (Eq.refl out.length) (pc (z1 out.length) (pc (aZ out.length (fun zi=>(cU .u16) (out.getD zi 0))) pn))) [] pn
theorem BN (N n r) (h:tf N n=some r):Sd 62 [(Is n)] [] 0 (eU r) []:=by
 unfold tf at h
 refine iy (fu:=Tryz.f62) (c:=U3 1) (nt:=15) (fun hm=>rfl) ?_
 intro E hE
 refine aj hE 1 [] [] (kp [0]) [] 16 pn ?_
 refine aj hE 1 [] [] (kp [0,3]) [] 32 pn ?_
 exact de hE 3 [] (kp [0] ++ [(3,.sD 0)]) [(0,.nil 1 (fun zi=>(cU .u16) (([]:List Int).getD zi 0)))] 1 pn (Eo N N _ _ _ h E hE)
noncomputable abbrev acQ:=cG Tryz.f25
theorem rG (N n r) (h:xt N n=some r):Sd 25 [(aI n)] [] 0 (.agg (im r)) []:=by
 unfold xt at h
 refine iy (fu:=Tryz.f25) (c:=acQ 1) (nt:=16) (fun hm=>rfl) ?_
 intro E hE
 refine aj hE 1 [] [] (kp [0,2]) (kq [0]) 16 pn ?_
 refine aj hE 2 [] [] (kp [0,2,4]) (kq [0]) 48 pn ?_
 refine dS 0 4 h (fun dR h=>?_) (fun dR h=>?_)
 ·obtain ⟨MR,hr,h⟩:=bt h
  refine aj hE 1 [(5,oT (eU MR))] [] (kp [2]) (kq [0]) 176 (pc (BN _ _ _ hr) (pc o1 pn)) ?_
  obtain rfl:=dx h
  exact dQ hE 0 Tryz.f25 [] (kp [2]) [(16,.ak 0)] 176 pn [16] (pc o1 pn)
 ·obtain ⟨Jn,eW,h⟩:=bt h
  refine aj hE 2 [(2,oT (eU Jn))] [] (kp [2]) (kq [0]) 128 (pc (BN _ _ _ eW) (pc o1 pn)) ?_
  obtain rfl:=dx h
  exact dQ hE 0 Tryz.f25 [] (kp [2]) [(16,.ak 0)] 128 pn [16] (pc o1 pn)
noncomputable abbrev XI:=cG Tryz.f24
def Ep (N:Nat) (a:bM) (b:bM) (K:(List Int)→(List Int)→Option (bM×bM×Int)):Prop:=∀ (n:List Int) (rest:List Int) (r:bM×bM×Int),K n rest=some r→∀ E,aQ E 0→az Tryz.prog E 24 50 (aY E [] (.tup [(.agg (im r.1)),(.agg (im r.2.1)),(aI r.2.2)])) [.code (XI 126),.code (XI 127)] ⟨[(2,(.op 0 0 0)),(3,(.op 1 0 0)),(4,(.op 2 0 0)),(5,(.op 3 0 0)),(9,(eU n)),(10,(eU rest))],[(0,vO 2 (im a)),(1,vO 2 (im b)),(2,vO 2 [(aB false),.nil]),(3,vO 2 [(aB false),.nil])],4⟩
theorem v9 (N a b):Ep N a b (oz N a b):=by
 intro n rest r h E hE
 unfold oz at h
 obtain ⟨Jm,yu,h⟩:=bt h
 obtain ⟨AJ,AQ,h⟩:=bt h
 refine aj hE 0 [(6,oT (.agg (im Jm))),(8,oT (.agg (im AJ)))] [] (kp [4,5,6]) (kq [2,3]) 196 (pc o1 (pc o1 (pc (gz _ _ _ _ yu) (pc (gz _ _ _ _ AQ) (pc o1 (pc o1 pn)))))) ?_
 obtain rfl:=dx h
 exact dQ hE 0 Tryz.f24 [] (kp [4,5,6]) [(16,.ak 2),(17,.ak 3)] 196 pn [16,17] (pc o1 (pc o1 pn))
theorem HD (N a b r) (h:wT N a b=some r):Sd 24 [(.agg (im a)),(.agg (im b))] [] 0 (.tup [(.agg (im r.1)),(.agg (im r.2.1)),(aI r.2.2)]) []:=by
 unfold wT at h
 refine iy (fu:=Tryz.f24) (c:=XI 1) (nt:=50) (fun hm=>rfl) ?_
 intro E hE
 refine aj hE 1 [] [] (kp [2,3,4,5]) (kq [0,16,32,48]) 80 pn ?_
 obtain ⟨b8,hr,h⟩:=bt h
 obtain ⟨gq,eW,h⟩:=bt h
 refine aj hE 1 [(2,oT (eU b8)),(5,oT (eU gq))] [] (kp [2,3,4,5,7,8]) (kq [0,16,32,48]) 208 (pc o1 (pc (ef _ _ _ hr) (pc o1 (pc (ef _ _ _ eW) pn)))) ?_
 refine aj hE 2 [] [] (kp [2,3,4,5,7,8,19]) (kq [0,16,32,48]) 256 pn ?_
 refine dS 0 19 h (fun dR h=>?_) (fun dR h=>?_)
 ·refine aj hE 1 [] [] (kp [4,5,6]) (kq [32,48]) 336 (pc o1 (pc o1 pn)) ?_
  obtain rfl:=dx h
  exact dQ hE 0 Tryz.f24 [] (kp [4,5,6]) [(16,.var 32 [.ak,.sl (([]:List Int).length) (fun zi=>(cU .u16) (([]:List Int).getD zi 0))]),(17,.var 48 [.ak,.sl (([]:List Int).length) (fun zi=>(cU .u16) (([]:List Int).getD zi 0))])] 336 (pc (Eq.refl 0) (pc (Eq.refl 0) pn)) [16,17] (pc o1 (pc o1 pn))
 ·obtain ⟨jt,ly,h⟩:=bt h
  refine aj hE 2 [(2,oT (.tup [(eU jt.1),(eU jt.2)]))] [] (kp [2,3,4,5,8,9,10]) (kq [0,16,32,48]) 384 (pc (qN _ _ _ _ ly) pn) ?_
  refine aj hE 2 [] [] (kp [2,3,4,5,8,9,10,34]) (kq [0,16,32,48]) 496 (pc o1 (pc (fun hg:a.fG=true=>(pc hg pn)) (pc (fun hg:a.fG=true=>(pc hg pn)) (pc (fun hq:a.fG=true=>(pc hq pn)) pn)))) ?_
  refine dS 0 34 h (fun iU h=>?_) (fun iU h=>?_)
  ·obtain ⟨xr,oi,h⟩:=bt h
   obtain ⟨pa,tZ,h⟩:=bt h
   refine aj hE 0 [(2,⟨[],true,(eU xr),[],0,true,none⟩),(5,oT (eU pa))] [] (kp [2,3,4,5,9,10]) (kq [0,16,32,48]) 624 (pc (show Sd 59 [(eU jt.1),(.sl 1 (fun zi=>(fun zi=>([[(wq 1)]]:List (List AV)).getD zi []) (bT 0 zi)))] [] 0 (eU xr) [] from (Sound.conv (DN _ _ _ _ oi) (.cons (Alike.refl _) (.cons (Alike.sl rfl (fun zq j5=>dP (cU .u16) 0 ([1]:List Int) zq j5)) .nil)))) (pc (z1 1) (pc (wX _ _ _ _ tZ) pn))) ?_
   exact de hE 1 [] (kp [2,3,4,5,9,10]) (kq [0] ++ [(1,.ak 16),(2,.ak 32),(3,.ak 48)]) 4 pn (v9 N _ _ _ _ _ h E hE)
  ·exact de hE 2 [] (kp [2,3,4,5,9,10]) (kq [0] ++ [(1,.ak 16),(2,.ak 32),(3,.ak 48)]) 4 pn (v9 N _ _ _ _ _ h E hE)
noncomputable abbrev acR:=cG Tryz.f26
theorem Jz (N a b r) (h:zC N a b=some r):Sd 26 [(aI a),(aI b)] [] 0 (.tup [(.agg (ah r.1)),(aI r.2)]) []:=by
 unfold zC at h
 refine iy (fu:=Tryz.f26) (c:=acR 1) (nt:=14) (fun hm=>rfl) ?_
 intro E hE
 refine aj hE 1 [] [] (kp [0,1,4]) (kq [0]) 32 pn ?_
 refine aj hE 2 [] [] (kp [0,1,4,7]) (kq [0]) 64 pn ?_
 refine dS 0 7 h (fun dR h=>?_) (fun dR h=>?_)
 ·refine aj hE 1 [] [] (kp [4,5]) (kq [0]) 112 (pc o1 pn) ?_
  obtain rfl:=dx h
  exact dQ hE 0 Tryz.f26 [] (kp [4,5]) [(16,.var 0 [.ak,.sl (([]:List Int).length) (fun zi=>(cU .u16) (([]:List Int).getD zi 0)),.ak,.sl (([]:List Int).length) (fun zi=>(cU .u16) (([]:List Int).getD zi 0))])] 112 (pc (Eq.refl 0) (pc (Eq.refl 0) pn)) [16] (pc o1 pn)
 ·obtain ⟨J9,hr,h⟩:=bt h
  obtain ⟨MT,eW,h⟩:=bt h
  obtain ⟨Cg,ly,h⟩:=bt h
  refine aj hE 2 [(1,oT (.agg (im J9))),(3,oT (.agg (im MT))),(4,oT (.agg (ah Cg)))] [] (kp [4,5]) (kq [0]) 176 (pc (CW _ _ _ hr) (pc (CW _ _ _ eW) (pc (jh _ _ _ _ ly) (pc o1 pn)))) ?_
  obtain rfl:=dx h
  exact dQ hE 0 Tryz.f26 [] (kp [4,5]) [(16,.ak 0)] 176 pn [16] (pc o1 pn)
noncomputable abbrev acS:=cG Tryz.f29
theorem Gj (N n r) (h:Ir N n=some r):Sd 29 [(aI n)] [] 0 (.agg (ah r)) []:=by
 unfold Ir at h
 refine iy (fu:=Tryz.f29) (c:=acS 1) (nt:=7) (fun hm=>rfl) ?_
 intro E hE
 refine aj hE 1 [] [] (kp [0,2]) (kq [0]) 16 pn ?_
 obtain ⟨rZ,hr,h⟩:=bt h
 obtain ⟨RH,eW,h⟩:=bt h
 refine aj hE 1 [(1,oT (.agg (im rZ))),(2,oT (.agg (im RH)))] [] (kp [2]) (kq [0]) 96 (pc (rG _ _ _ hr) (pc (rG _ _ _ eW) (pc o1 pn))) ?_
 obtain rfl:=dx h
 exact dQ hE 0 Tryz.f29 [] (kp [2]) [(16,.ak 0)] 96 pn [16] (pc o1 pn)
noncomputable abbrev U4:=cG Tryz.f27
def KY (N:Nat) (l:List Int) (K:(List aa)→Int→Option ((List aa))):Prop:=∀ (out:List aa) (i:Int) (r:(List aa)),K out i=some r→∀ E,aQ E 0→az Tryz.prog E 27 20 (aY E [] (aN ah aa.d r)) [.code (U4 116),.inLoop (U4 116),.inBlock 0,.code (U4 15)] ⟨[(0,(aN cI 0 l)),(3,(.os 0 0 out.length)),(4,(aI i))],[(0,aO 4 ah aa.d out)],1⟩
theorem JA (N l fuel):KY N l (pG N l fuel):=by
 induction fuel with
 | zero=>intro _ _ r h;rw [pG.eq_1] at h;cases h
 | succ fuel ih =>
  intro out i r h E hE
  rw [pG.eq_2] at h
  refine aj hE 2 [] [] (kp [0,3,4,8]) (kq [0]) 65 pn ?_
  refine dS 0 8 h (fun dR h=>?_) (fun dR h=>?_)
  ·obtain ⟨c,h⟩:=ae h
   obtain ⟨rW,hr,h⟩:=bt h
   obtain ⟨c2,h⟩:=ae h
   refine aj hE 3 [(5,oT (.agg (ah rW)))] [] (kp [0] ++ [(3,.lP ((out ++ ([rW]:List aa)).length))] ++ kp [4]) [(177,.arr 177 ((out ++ ([rW]:List aa)).length) (fun zi=>ah ((out ++ ([rW]:List aa)).getD zi aa.d)))] 209 (pc c (pc (Gj _ _ _ hr) (pc (Eq.refl out.length) (pc c2 (pc (z1 1) (pc (show ∀ zi,zi < 1→AV.ko ((fun zi=>([[(aB rW.fN.fG),(eU rW.fN.fL),(aB rW.fD.fG),(eU rW.fD.fL)]]:List (List AV)).getD zi []) (bT 0 zi))=true from (zT rfl)) (pc (show (out.length+1)=(out ++ ([rW]:List aa)).length from (bA rfl rfl)) (pc (show out.length+1=(out ++ ([rW]:List aa)).length from (bA rfl rfl)) (pc (show ∀ zi,zi < (out ++ ([rW]:List aa)).length→(fun zi=>ah ((out ++ ([rW]:List aa)).getD zi aa.d)) zi=((fun zm=>if zm < out.length then (fun zi=>ah (out.getD zi aa.d)) zm else (fun zi=>([[(aB rW.fN.fG),(eU rW.fN.fL),(aB rW.fD.fG),(eU rW.fD.fL)]]:List (List AV)).getD zi []) (zm - out.length))) zi from (dT ah aa.d out ([rW]:List aa) rfl (fun _ _=>rfl) (fun zq j5=>dP ah aa.d ([rW]:List aa) zq j5))) pn))))))))) ?_
   refine aj hE 1 [] [] (kp [0,3,4]) (kq [177]) 257 pn ?_
   exact de hE 1 [] (kp [0,3,4]) [(0,.ak 177)] 1 pn (ih _ _ _ h E hE)
  ·refine aj hE 2 [] [] (kp [2]) (kq [0]) 97 pn ?_
   obtain rfl:=dx h
   exact dQ hE 0 Tryz.f27 [0] [(2,.sl (out.length) (fun zi=>ah (out.getD zi aa.d)))] [] 97 (pc (Eq.refl out.length) (pc (z1 out.length) (pc (aZ out.length (fun zi=>ah (out.getD zi aa.d))) pn))) [] pn
theorem PF (N l r) (h:FR N l=some r):Sd 27 [(aN cI 0 l)] [] 0 (aN ah aa.d r) []:=by
 unfold FR at h
 refine iy (fu:=Tryz.f27) (c:=U4 1) (nt:=20) (fun hm=>rfl) ?_
 intro E hE
 refine aj hE 1 [] [] (kp [0]) [] 16 pn ?_
 refine aj hE 1 [] [] (kp [0,3]) [] 32 pn ?_
 refine aj hE 2 [] [] (kp [0,3,4]) [] 48 pn ?_
 exact de hE 2 [] (kp [0] ++ [(3,.sD 0)] ++ kp [4]) [(0,.nil 4 (fun zi=>ah (([]:List aa).getD zi aa.d)))] 1 pn (JA N _ N _ _ _ h E hE)
noncomputable abbrev U5:=cG Tryz.f65
def zY (N:Nat) (c:fk) (K:Int→Option (Int)):Prop:=∀ (x:Int) (r:Int),K x=some r→∀ E,aQ E 0→az Tryz.prog E 65 52 (aY E [] (aI r)) [.code (U5 244),.inLoop (U5 244),.inBlock 0,.code (U5 31)] ⟨[(1,(.op 0 0 0)),(17,(aN cI 0 c.ax)),(18,(aI ((c.ax.length:Nat):Int))),(19,(aI x))],[(0,vO 2 (xH c))],1⟩
theorem yD (N c fuel):zY N c (fz N c fuel):=by
 induction fuel with
 | zero=>intro _ r h;rw [fz.eq_1] at h;cases h
 | succ fuel ih =>
  intro x r h E hE
  rw [fz.eq_2] at h
  refine aj hE 1 [] [] (kp [1,17,18,19,20]) (kq [0]) 17 pn ?_
  refine dS 1 20 h (fun rm h=>?_) (fun rm h=>?_)
  ·obtain ⟨c2,h⟩:=ae h
   refine aj hE 4 [] [] (kp [1,3,4,17,18,19]) (kq [0]) 97 (pc c2 pn) ?_
   obtain ⟨c3,h⟩:=ae h
   obtain ⟨au,hr,h⟩:=bt h
   refine aj hE 2 [(12,oT (aI au))] [] (kp [1,3,4,17,18,19,38]) (kq [0]) 337 (pc (fun hg:(!(decide ((c.ax.getD ((x).toNat) 0) < (-10000000))))=true=>(pc hg pn)) (pc (fun hq:(!(decide ((c.ax.getD ((x).toNat) 0) < (-10000000))))=true=>(pc hq pn)) (pc (fun hg:(!(cond (decide ((c.ax.getD ((x).toNat) 0) < (-10000000))) true (decide ((c.ax.getD ((x).toNat) 0) > 10000000))))=true=>(pc hg (pc o1 pn))) (pc (fun hg:(!(cond (decide ((c.ax.getD ((x).toNat) 0) < (-10000000))) true (decide ((c.ax.getD ((x).toNat) 0) > 10000000))))=true=>(pc hg (pc hg (pc (c3 hg) pn)))) (pc (fun hg:(!(cond (decide ((c.ax.getD ((x).toNat) 0) < (-10000000))) true (decide ((c.ax.getD ((x).toNat) 0) > 10000000))))=true=>(pc hg pn)) (pc (fun hg:(!(cond (decide ((c.ax.getD ((x).toNat) 0) < (-10000000))) true (decide ((c.ax.getD ((x).toNat) 0) > 10000000))))=true=>(pc (ln _ _ _ (aG hr hg)) (pc hg pn))) (pc (fun hg:(!(cond (decide ((c.ax.getD ((x).toNat) 0) < (-10000000))) true (decide ((c.ax.getD ((x).toNat) 0) > 10000000))))=true=>(pc hg pn)) (pc (fun hq:(!(cond (decide ((c.ax.getD ((x).toNat) 0) < (-10000000))) true (decide ((c.ax.getD ((x).toNat) 0) > 10000000))))=true=>(pc hq pn)) pn)))))))) ?_
   refine dS 0 38 h (fun F5 h=>?_) (fun F5 h=>?_)
   ·refine aj hE 1 [] [] (kp [2]) [] 353 pn ?_
    obtain rfl:=dx h
    exact dQ hE 0 Tryz.f65 [] (kp [2]) [] 353 pn [] pn
   ·obtain ⟨c4,h⟩:=ae h
    refine aj hE 2 [] [] (kp [1,17,18,19,50]) (kq [0]) 529 (pc (fun hg:(decide (x > 0))=true=>(pc hg (pc o1 pn))) (pc (fun hg:(decide (x > 0))=true=>(pc hg pn)) (pc (fun hg:(decide (x > 0))=true=>(pc hg (pc hg (pc (c4 hg) pn)))) (pc (fun hg:(decide (x > 0))=true=>(pc hg pn)) (pc (fun hg:(decide (x > 0))=true=>(pc hg (pc hg pn))) (pc (fun hq:(decide (x > 0))=true=>(pc hq pn)) pn)))))) ?_
    refine dS 0 50 h (fun PD h=>?_) (fun PD h=>?_)
    ·refine aj hE 1 [] [] (kp [2]) [] 545 pn ?_
     obtain rfl:=dx h
     exact dQ hE 0 Tryz.f65 [] (kp [2]) [] 545 pn [] pn
    ·refine aj hE 2 [] [] (kp [1,17,18,19]) (kq [0]) 561 pn ?_
     exact de hE 1 [] (kp [1,17,18,19]) (kq [0]) 1 pn (ih _ _ h E hE)
  ·refine aj hE 2 [] [] (kp [2]) [] 33 pn ?_
   obtain rfl:=dx h
   exact dQ hE 0 Tryz.f65 [] (kp [2]) [] 48 pn [] pn
theorem BO (N c r) (h:nj N c=some r):Sd 65 [(.agg (xH c))] [] 0 (aI r) []:=by
 unfold nj at h
 refine iy (fu:=Tryz.f65) (c:=U5 1) (nt:=52) (fun hm=>rfl) ?_
 intro E hE
 refine aj hE 1 [] [] (kp [1]) (kq [0]) 32 pn ?_
 refine aj hE 2 [] [] (kp [1,8]) (kq [0]) 96 (pc o1 pn) ?_
 refine dS 0 8 h (fun dR h=>?_) (fun dR h=>?_)
 ·refine aj hE 1 [] [] (kp [2]) [] 112 pn ?_
  obtain rfl:=dx h
  exact dQ hE 0 Tryz.f65 [] (kp [2]) [] 112 pn [] pn
 ·refine aj hE 3 [] [] (kp [1,15]) (kq [0]) 208 (pc o1 (pc o1 pn)) ?_
  refine dS 0 15 h (fun iU h=>?_) (fun iU h=>?_)
  ·refine aj hE 1 [] [] (kp [2]) [] 224 pn ?_
   obtain rfl:=dx h
   exact dQ hE 0 Tryz.f65 [] (kp [2]) [] 224 pn [] pn
  ·refine aj hE 3 [] [] (kp [1,17,18,19]) (kq [0]) 272 (pc o1 pn) ?_
   exact de hE 2 [] (kp [1,17,18,19]) (kq [0]) 1 pn (yD N _ N _ _ h E hE)
noncomputable abbrev acT:=cG Tryz.f67
theorem JB (N c y r) (h:CT N c y=some r):Sd 67 [(.agg (xH c)),(.agg (ah y))] [] 0 (.fn (.func 104) [] [(.op 0 0 0),(.op 1 0 0)]) [(0,vO 2 (xH r.1)),(1,vO 4 (ah r.2))]:=by
 unfold CT at h
 refine iy (fu:=Tryz.f67) (c:=acT 1) (nt:=6) (fun hm=>rfl) ?_
 intro E hE
 refine aj hE 1 [] [] (kp [2,3]) (kq [0,16]) 48 pn ?_
 refine aj hE 1 [] [] (kp [4]) (kq [0,16]) 80 pn ?_
 obtain rfl:=dx h
 exact dQ hE 0 Tryz.f67 [] (kp [4]) (kq [0] ++ [(1,.ak 16)]) 80 pn [] pn
noncomputable abbrev gu:=cG Tryz.f104
theorem BP (N RD C1 C2 fuel):∀ (bc:aa) (before:aa) (x:Int) (r:aa),gL N RD C1 C2 fuel bc before x=some r→∀ E,aQ E 3→∀ lY,(∀ (Wg:aa) (Wh:aa) (yx yr:aa),RD Wg Wh yx=some yr→WY Tryz.prog E ⟨lY,[.agg (ah Wg),.agg (ah Wh)],0,vO 4 (ah yx),vO 4 (ah yr)⟩)→az Tryz.prog E 104 43 (aY E [(0,vO 4 (ah r)),(1,vO 2 (xH C1)),(2,vO 4 (ah C2))] (.tup [])) [.code (gu 28),.inLoop (gu 28),.inBlock 0] ⟨[(0,(.atom (.func (.yield lY) #[] #[]))),(1,(.op 1 0 0)),(2,(.op 2 0 0)),(4,(.op 3 0 0)),(10,(aN cI 0 C1.ax)),(11,(aI ((C1.ax.length:Nat):Int))),(12,(aI x))],[(0,vO 4 (ah bc)),(1,vO 2 (xH C1)),(2,vO 4 (ah C2)),(3,vO 4 (ah before))],4⟩:=by
 induction fuel with
 | zero=>intro _ _ _ r h;rw [gL.eq_1] at h;cases h
 | succ fuel ih =>
  intro bc before x r h E hE lY hY
  rw [gL.eq_2] at h
  refine sA 1 [.code (gu 56),.code (gu 57),.inLoop (gu 28),.inBlock 0] ?_
  refine sR hE ⟨[(0,(.atom (.func (.yield lY) #[] #[]))),(1,(.op 1 0 0)),(2,(.op 2 0 0)),(4,(.op 3 0 0)),(10,(aN cI 0 C1.ax)),(11,(aI ((C1.ax.length:Nat):Int))),(12,(aI x)),(13,(aB (decide (x < ((C1.ax.length:Nat):Int)))))],[(0,vO 4 (ah bc)),(1,vO 2 (xH C1)),(2,vO 4 (ah C2)),(3,vO 4 (ah before))],20⟩ (gu 56) [] [] (kp [0,1,2,4,10,11,12,13]) (kq [0,1,2,3]) 20 [] trivial ?_
  refine sA 1 [.code (gu 114),.code (gu 115),.inLoop (gu 28),.inBlock 0] ?_
  refine sC 13 (gu 228) (gu 229) (decide (x < ((C1.ax.length:Nat):Int))) (fun dR=>?_) (fun dR=>?_)
  ·have h:=aG h dR
   refine sA 4 [.code (gu 920),.code (gu 921),.inBlock 1,.code (gu 231),.inLoop (gu 28),.inBlock 0] ?_
   obtain ⟨c,h⟩:=ae h
   refine sR hE ⟨[(0,(.atom (.func (.yield lY) #[] #[]))),(1,(.op 1 0 0)),(2,(.op 2 0 0)),(4,(.op 3 0 0)),(5,(aI x)),(6,(aI (C1.ax.getD ((x).toNat) 0))),(10,(aN cI 0 C1.ax)),(11,(aI ((C1.ax.length:Nat):Int))),(12,(aI x))],[(0,vO 4 (ah bc)),(1,vO 2 (xH C1)),(2,vO 4 (ah C2)),(3,vO 4 (ah before))],100⟩ (gu 920) [] [] (kp [0,1,2,4,5,6,10,11,12]) (kq [0,1,2,3]) 100 [0≤x∧x < ((C1.ax.length:Nat):Int)] ⟨c,trivial⟩ ?_
   refine sA 1 [.code (gu 1842),.code (gu 1843),.inBlock 1,.code (gu 231),.inLoop (gu 28),.inBlock 0] ?_
   obtain ⟨eZ,eW,h⟩:=bt h
   obtain ⟨dc,ly,h⟩:=bt h
   refine sR hE ⟨[(0,(.atom (.func (.yield lY) #[] #[]))),(1,(.op 1 0 0)),(2,(.op 2 0 0)),(4,(.op 3 0 0)),(5,(aI x)),(7,(.op 164 0 0)),(10,(aN cI 0 C1.ax)),(11,(aI ((C1.ax.length:Nat):Int))),(12,(aI x))],[(0,vO 4 (ah bc)),(1,vO 2 (xH C1)),(2,vO 4 (ah C2)),(3,vO 4 (ah before)),(164,vO 4 (ah dc))],196⟩ (gu 1842) [(2,oT (.agg (ah eZ))),(3,oT (.agg (ah dc)))] [] (kp [0,1,2,4,5,7,10,11,12]) (kq [0,1,2,3,164]) 196 [0 < 1,Sd 66 [(aI (C1.ax.getD ((x).toNat) 0))] [] 0 (.agg (ah eZ)) [],Sd 56 [(.agg (ah C2)),(.agg (ah eZ))] [] 0 (.agg (ah dc)) [],0 < 1] ⟨o1,(dL _ _ _ eW),(my _ _ _ _ ly),o1,trivial⟩ ?_
   refine sA 2 [.code (gu 7372),.code (gu 7373),.code (gu 3687),.inBlock 1,.code (gu 231),.inLoop (gu 28),.inBlock 0] ?_
   obtain ⟨au,oi,h⟩:=bt h
   obtain ⟨c2,h⟩:=ae h
   obtain ⟨oA,tZ,h⟩:=bt h
   rcases condSplit h with ⟨hG,h⟩ | ⟨hG,h⟩
   ·obtain ⟨ry,hry,h⟩:=bt h
    refine sRY hE ⟨[(0,(.atom (.func (.yield lY) #[] #[]))),(1,(.op 1 0 0)),(2,(.op 2 0 0)),(4,(.op 3 0 0)),(5,(aI x)),(10,(aN cI 0 C1.ax)),(11,(aI ((C1.ax.length:Nat):Int))),(12,(aI x)),(36,(aB (cond (decide (au < 0)) true (!true))))],[(0,vO 4 (ah ry)),(1,vO 2 (xH C1)),(2,vO 4 (ah C2)),(3,vO 4 (ah before))],452⟩ (gu 7372) [(1,oT (aI au)),(11,oT (.agg (ah oA))),(13,⟨[],true,.mU,[],1,false,some ⟨lY,[(.agg (ah oA)),(.agg (ah dc))],0,vO 4 (ah bc),vO 4 (ah ry)⟩⟩),(14,⟨[],true,.mU,[],1,false,none⟩)] [] (kp [0,1,2,4,5,10,11,12,36]) (kq [0,1,2,3]) 452 [0 < 1,Sd 47 [(.agg (ah dc))] [] 0 (aI au) [],(!(decide (au < 0)))=true→aX [(!(decide (au < 0)))=true,0 < 1],(!(decide (au < 0)))=true→aX [(!(decide (au < 0)))=true,(!(decide (au < 0)))=true,0≤x∧x < ((C1.ba.length:Nat):Int)],(!(decide (au < 0)))=true→aX [(!(decide (au < 0)))=true],(!(decide (au < 0)))=true→aX [0 < 1],(!(decide (au < 0)))=true→aX [Sd 56 [(.agg [(aB (((C1.ba.getD ((x).toNat) aa.d).fN).fG)),(eU (((C1.ba.getD ((x).toNat) aa.d).fN).fL)),(aB (((C1.ba.getD ((x).toNat) aa.d).fD).fG)),(eU (((C1.ba.getD ((x).toNat) aa.d).fD).fL))]),(.agg (ah before))] [] 0 (.agg (ah oA)) [],(!(decide (au < 0)))=true,(!(decide (au < 0)))=true],(!(decide (au < 0)))=true→aX [0 < 1],(!(decide (au < 0)))=true,(lY=lY∧(#[]:Array Value)=#[]∧(#[]:Array Value)=#[]∧([(.agg (ah oA)),(.agg (ah dc))]:List AV)=[(.agg (ah oA)),(.agg (ah dc))]∧(vO 4 (ah bc):Ob)=vO 4 (ah bc)),(!(decide (au < 0)))=true,(!(decide (au < 0)))=true,(!(decide (au < 0)))=true,(!(decide (au < 0)))=true] ⟨o1,(ln _ _ _ oi),(fun hg=>⟨hg,o1,trivial⟩),(fun hg=>⟨hg,hg,(c2 hg),trivial⟩),(fun hg=>⟨hg,trivial⟩),(fun hg=>⟨o1,trivial⟩),(fun hg=>⟨(my _ _ _ _ (aG tZ hg)),hg,hg,trivial⟩),(fun hg=>⟨o1,trivial⟩),hG,⟨rfl,rfl,rfl,rfl,rfl⟩,hG,hG,hG,hG,trivial⟩ ⟨trivial,⟨trivial,⟨hY oA dc bc ry hry,⟨trivial,trivial⟩⟩⟩⟩ ?_
    refine sC 36 (gu 14746) (gu 14747) (cond (decide (au < 0)) true (!true)) (fun iU=>?_) (fun iU=>?_)
    ·have h:=aG h iU
     obtain rfl:=dx h
     refine sW hE ⟨[],[(0,vO 4 (ah ry)),(1,vO 2 (xH C1)),(2,vO 4 (ah C2))],452⟩ [] [] (kq [0,1,2]) 452 [] trivial ?_
     exact sT Tryz.f104 [] [] trivial
    ·have h:=bg h iU
     refine sA 1 [.code (gu 3687),.inBlock 1,.code (gu 231),.inLoop (gu 28),.inBlock 0] ?_
     obtain ⟨c3,h⟩:=ae h
     refine sR hE ⟨[(0,(.atom (.func (.yield lY) #[] #[]))),(1,(.op 1 0 0)),(2,(.op 2 0 0)),(4,(.op 3 0 0)),(10,(aN cI 0 C1.ax)),(11,(aI ((C1.ax.length:Nat):Int))),(12,(aI x))],[(0,vO 4 (ah ry)),(1,vO 2 (xH C1)),(2,vO 4 (ah C2)),(3,vO 4 [(aB (((C1.ba.getD ((x).toNat) aa.d).fN).fG)),(eU (((C1.ba.getD ((x).toNat) aa.d).fN).fL)),(aB (((C1.ba.getD ((x).toNat) aa.d).fD).fG)),(eU (((C1.ba.getD ((x).toNat) aa.d).fD).fL))])],548⟩ (gu 3687) [] [] (kp [0,1,2,4,10,11,12]) (kq [0,1,2,3]) 548 [0 < 1,0≤x∧x < ((C1.ba.length:Nat):Int),0 < 1] ⟨o1,c3,o1,trivial⟩ ?_
     refine sA 1 [.code (gu 231),.inLoop (gu 28),.inBlock 0] ?_
     refine sR hE ⟨[(0,(.atom (.func (.yield lY) #[] #[]))),(1,(.op 1 0 0)),(2,(.op 2 0 0)),(4,(.op 3 0 0)),(10,(aN cI 0 C1.ax)),(11,(aI ((C1.ax.length:Nat):Int))),(12,(aI (aq (x+1))))],[(0,vO 4 (ah ry)),(1,vO 2 (xH C1)),(2,vO 4 (ah C2)),(3,vO 4 [(aB (((C1.ba.getD ((x).toNat) aa.d).fN).fG)),(eU (((C1.ba.getD ((x).toNat) aa.d).fN).fL)),(aB (((C1.ba.getD ((x).toNat) aa.d).fD).fG)),(eU (((C1.ba.getD ((x).toNat) aa.d).fD).fL))])],580⟩ (gu 231) [] [] (kp [0,1,2,4,10,11,12]) (kq [0,1,2,3]) 580 [] trivial ?_
     refine sA 1 [.code (gu 28),.inLoop (gu 28),.inBlock 0] ?_
     exact sW hE _ [] (kp [0,1,2,4,10,11,12]) (kq [0,1,2,3]) 4 [] trivial (ih ry (⟨((C1.ba.getD ((x).toNat) aa.d).fN),((C1.ba.getD ((x).toNat) aa.d).fD)⟩:aa) (aq (x+1)) _ h E hE lY hY)
   ·refine sR hE ⟨[(0,(.atom (.func (.yield lY) #[] #[]))),(1,(.op 1 0 0)),(2,(.op 2 0 0)),(4,(.op 3 0 0)),(5,(aI x)),(10,(aN cI 0 C1.ax)),(11,(aI ((C1.ax.length:Nat):Int))),(12,(aI x)),(36,(aB (cond (decide (au < 0)) true false)))],[(0,vO 4 (ah bc)),(1,vO 2 (xH C1)),(2,vO 4 (ah C2)),(3,vO 4 (ah before))],452⟩ (gu 7372) [(1,oT (aI au)),(11,oT (.agg (ah oA))),(13,⟨[],true,(aB false),[],2,false,none⟩),(14,⟨[],true,(aB false),[],2,false,none⟩)] [] (kp [0,1,2,4,5,10,11,12,36]) (kq [0,1,2,3]) 452 [0 < 1,Sd 47 [(.agg (ah dc))] [] 0 (aI au) [],(!(decide (au < 0)))=true→aX [(!(decide (au < 0)))=true,0 < 1],(!(decide (au < 0)))=true→aX [(!(decide (au < 0)))=true,(!(decide (au < 0)))=true,0≤x∧x < ((C1.ba.length:Nat):Int)],(!(decide (au < 0)))=true→aX [(!(decide (au < 0)))=true],(!(decide (au < 0)))=true→aX [0 < 1],(!(decide (au < 0)))=true→aX [Sd 56 [(.agg [(aB (((C1.ba.getD ((x).toNat) aa.d).fN).fG)),(eU (((C1.ba.getD ((x).toNat) aa.d).fN).fL)),(aB (((C1.ba.getD ((x).toNat) aa.d).fD).fG)),(eU (((C1.ba.getD ((x).toNat) aa.d).fD).fL))]),(.agg (ah before))] [] 0 (.agg (ah oA)) [],(!(decide (au < 0)))=true,(!(decide (au < 0)))=true],(!(decide (au < 0)))=true→aX [0 < 1],(!(decide (au < 0)))=false,(!(decide (au < 0)))=false,(!(decide (au < 0)))=true→aX [(!(decide (au < 0)))=true]] ⟨o1,(ln _ _ _ oi),(fun hg=>⟨hg,o1,trivial⟩),(fun hg=>⟨hg,hg,(c2 hg),trivial⟩),(fun hg=>⟨hg,trivial⟩),(fun hg=>⟨o1,trivial⟩),(fun hg=>⟨(my _ _ _ _ (aG tZ hg)),hg,hg,trivial⟩),(fun hg=>⟨o1,trivial⟩),hG,hG,(fun hq=>⟨hq,trivial⟩),trivial⟩ ?_
    refine sC 36 (gu 14746) (gu 14747) (cond (decide (au < 0)) true false) (fun rm=>?_) (fun rm=>?_)
    ·have h:=aG h rm
     obtain rfl:=dx h
     refine sW hE ⟨[],[(0,vO 4 (ah bc)),(1,vO 2 (xH C1)),(2,vO 4 (ah C2))],452⟩ [] [] (kq [0,1,2]) 452 [] trivial ?_
     exact sT Tryz.f104 [] [] trivial
    ·have h:=bg h rm
     refine sA 1 [.code (gu 3687),.inBlock 1,.code (gu 231),.inLoop (gu 28),.inBlock 0] ?_
     obtain ⟨c4,h⟩:=ae h
     refine sR hE ⟨[(0,(.atom (.func (.yield lY) #[] #[]))),(1,(.op 1 0 0)),(2,(.op 2 0 0)),(4,(.op 3 0 0)),(10,(aN cI 0 C1.ax)),(11,(aI ((C1.ax.length:Nat):Int))),(12,(aI x))],[(0,vO 4 (ah bc)),(1,vO 2 (xH C1)),(2,vO 4 (ah C2)),(3,vO 4 [(aB (((C1.ba.getD ((x).toNat) aa.d).fN).fG)),(eU (((C1.ba.getD ((x).toNat) aa.d).fN).fL)),(aB (((C1.ba.getD ((x).toNat) aa.d).fD).fG)),(eU (((C1.ba.getD ((x).toNat) aa.d).fD).fL))])],548⟩ (gu 3687) [] [] (kp [0,1,2,4,10,11,12]) (kq [0,1,2,3]) 548 [0 < 1,0≤x∧x < ((C1.ba.length:Nat):Int),0 < 1] ⟨o1,c4,o1,trivial⟩ ?_
     refine sA 1 [.code (gu 231),.inLoop (gu 28),.inBlock 0] ?_
     refine sR hE ⟨[(0,(.atom (.func (.yield lY) #[] #[]))),(1,(.op 1 0 0)),(2,(.op 2 0 0)),(4,(.op 3 0 0)),(10,(aN cI 0 C1.ax)),(11,(aI ((C1.ax.length:Nat):Int))),(12,(aI (aq (x+1))))],[(0,vO 4 (ah bc)),(1,vO 2 (xH C1)),(2,vO 4 (ah C2)),(3,vO 4 [(aB (((C1.ba.getD ((x).toNat) aa.d).fN).fG)),(eU (((C1.ba.getD ((x).toNat) aa.d).fN).fL)),(aB (((C1.ba.getD ((x).toNat) aa.d).fD).fG)),(eU (((C1.ba.getD ((x).toNat) aa.d).fD).fL))])],580⟩ (gu 231) [] [] (kp [0,1,2,4,10,11,12]) (kq [0,1,2,3]) 580 [] trivial ?_
     refine sA 1 [.code (gu 28),.inLoop (gu 28),.inBlock 0] ?_
     exact sW hE _ [] (kp [0,1,2,4,10,11,12]) (kq [0,1,2,3]) 4 [] trivial (ih bc (⟨((C1.ba.getD ((x).toNat) aa.d).fN),((C1.ba.getD ((x).toNat) aa.d).fD)⟩:aa) (aq (x+1)) _ h E hE lY hY)
  ·have h:=bg h dR
   refine sA 1 [] ?_
   obtain rfl:=dx h
   refine sW hE ⟨[],[(0,vO 4 (ah bc)),(1,vO 2 (xH C1)),(2,vO 4 (ah C2))],51⟩ [] [] (kq [0,1,2]) 51 [] trivial ?_
   exact sF Tryz.f104 [] [] trivial
theorem Gk (N RD C0 C1 C2 r) (h:uw N RD C0 C1 C2=some r):∀ E,aQ E 3→∀ lY,(∀ (Wg:aa) (Wh:aa) (yx yr:aa),RD Wg Wh yx=some yr→WY Tryz.prog E ⟨lY,[.agg (ah Wg),.agg (ah Wh)],0,vO 4 (ah yx),vO 4 (ah yr)⟩)→az Tryz.prog E 104 43 (aY E [(0,vO 4 (ah r)),(1,vO 2 (xH C1)),(2,vO 4 (ah C2))] (.tup [])) [.code (gu 1)] ⟨tu [(.atom (.func (.yield lY) #[] #[])),(.op 1 0 0),(.op 2 0 0)] 0,[(0,vO 4 (ah C0)),(1,vO 2 (xH C1)),(2,vO 4 (ah C2))],3⟩:=by
 intro E hE lY hY
 unfold uw at h
 refine sA 1 [.code (gu 2),.code (gu 3)] ?_
 obtain ⟨aw,hr,h⟩:=bt h
 refine sR hE ⟨[(0,(.atom (.func (.yield lY) #[] #[]))),(1,(.op 1 0 0)),(2,(.op 2 0 0)),(4,(.op 19 0 0))],[(0,vO 4 (ah C0)),(1,vO 2 (xH C1)),(2,vO 4 (ah C2)),(19,vO 4 (ah aw))],51⟩ (gu 2) [(0,oT (.agg (ah aw)))] [] (kp [0,1,2,4]) (kq [0,1,2,19]) 51 [Sd 66 [(aI 0)] [] 0 (.agg (ah aw)) [],0 < 1] ⟨(dL _ _ _ hr),o1,trivial⟩ ?_
 refine sA 1 [.code (gu 6),.code (gu 7)] ?_
 refine sR hE ⟨[(0,(.atom (.func (.yield lY) #[] #[]))),(1,(.op 1 0 0)),(2,(.op 2 0 0)),(4,(.op 19 0 0)),(10,(aN cI 0 C1.ax)),(11,(aI ((C1.ax.length:Nat):Int))),(12,(aI 0))],[(0,vO 4 (ah C0)),(1,vO 2 (xH C1)),(2,vO 4 (ah C2)),(19,vO 4 (ah aw))],115⟩ (gu 6) [] [] (kp [0,1,2,4,10,11,12]) (kq [0,1,2,19]) 115 [0 < 1] ⟨o1,trivial⟩ ?_
 refine sA 2 [.code (gu 28),.inLoop (gu 28),.inBlock 0] ?_
 exact sW hE _ [] (kp [0,1,2,4,10,11,12]) (kq [0,1,2] ++ [(3,.ak 19)]) 4 [] trivial (BP N RD C1 C2 N C0 aw 0 _ h E hE lY hY)
noncomputable abbrev mh:=cG Tryz.f28
theorem Gl (N:Nat) (change:aa) (Qe:aa) (sum:aa) (r:aa) (h:rj N change Qe sum=some r):∀ E,aQ E 1 →
  WI Tryz.prog E 28 (Zy (mh 122)) ⟨[(7,(.op 0 0 0)),(20,(.agg (ah change))),(21,(.agg (ah Qe)))],[(0,vO 4 (ah sum))],1⟩ ⟨[(7,(.op 0 0 0)),(8,(.op 1 0 0)),(9,(.op 33 0 0))],[(0,vO 4 (ah sum)),(1,vO 4 (ah change)),(33,vO 4 (ah Qe))],65⟩∧WI Tryz.prog E 28 (rfB (mh 122)) ⟨[(7,(.op 0 0 0)),(8,(.op 1 0 0)),(9,(.op 33 0 0))],[(0,vO 4 (ah sum)),(1,vO 4 (ah change)),(33,vO 4 (ah Qe))],65⟩ ⟨[],[(0,vO 4 (ah r))],161⟩:=by
 unfold rj at h
 obtain ⟨cy,hr,h⟩:=bt h
 obtain ⟨bz,eW,h⟩:=bt h
 obtain rfl:=dx h
 exact fun E hE=>⟨(WI.sS (cat (Zy (mh 122)) (Xh 2)) (cat (Zy (mh 122)) (Xh 3)) (WI.sR hE ⟨[(7,(.op 0 0 0)),(20,(.agg (ah change))),(21,(.agg (ah Qe)))],[(0,vO 4 (ah sum))],1⟩ ⟨[(7,(.op 0 0 0)),(8,(.op 1 0 0)),(21,(.agg (ah Qe)))],[(0,vO 4 (ah sum)),(1,vO 4 (ah change))],33⟩ (cat (Zy (mh 122)) (Xh 2)) [] [] (kp [7,8,21]) (kq [0,1]) 33 [0 < 1] ⟨o1,trivial⟩) (WI.sR hE ⟨[(7,(.op 0 0 0)),(8,(.op 1 0 0)),(21,(.agg (ah Qe)))],[(0,vO 4 (ah sum)),(1,vO 4 (ah change))],33⟩ ⟨[(7,(.op 0 0 0)),(8,(.op 1 0 0)),(9,(.op 33 0 0))],[(0,vO 4 (ah sum)),(1,vO 4 (ah change)),(33,vO 4 (ah Qe))],65⟩ (cat (Zy (mh 122)) (Xh 3)) [] [] (kp [7,8,9]) (kq [0,1,33]) 65 [0 < 1] ⟨o1,trivial⟩)),(WI.sB 1 (cat (rfB (mh 122)) (Xh 2)) (WI.sR hE ⟨[(7,(.op 0 0 0)),(8,(.op 1 0 0)),(9,(.op 33 0 0))],[(0,vO 4 (ah sum)),(1,vO 4 (ah change)),(33,vO 4 (ah Qe))],65⟩ ⟨[],[(0,vO 4 (ah bz))],161⟩ (cat (rfB (mh 122)) (Xh 2)) [(3,oT (.agg (ah cy))),(4,oT (.agg (ah bz)))] [] [] (kq [0]) 161 [0 < 1,0 < 1,0 < 1,Sd 69 [(.agg (ah change)),(.agg (ah Qe))] [] 0 (.agg (ah cy)) [],Sd 68 [(.agg (ah sum)),(.agg (ah cy))] [] 0 (.agg (ah bz)) [],0 < 1] ⟨o1,o1,o1,(gD _ _ _ _ hr),(gC _ _ _ _ eW),o1,trivial⟩))⟩
theorem JC (N c y r) (h:zD N c y=some r):Sd 28 [(.agg (xH c)),(.agg (ah y))] [] 0 (.tup [(.agg (ah r.1)),(aI r.2)]) []:=by
 unfold zD at h
 refine iy (fu:=Tryz.f28) (c:=mh 1) (nt:=28) (fun hm=>rfl) ?_
 intro E hE
 refine sA 1 [.code (mh 2),.code (mh 3)] ?_
 refine sR hE ⟨[(2,(.op 0 0 0)),(3,(.op 16 0 0)),(4,(.op 32 0 0))],[(0,vO 2 (xH c)),(16,vO 4 (ah y)),(32,vO 4 [(aB false),.nil,(aB false),.nil])],64⟩ (mh 2) [] [] (kp [2,3,4]) (kq [0,16,32]) 64 [] trivial ?_
 refine sA 2 [.code (mh 12),.code (mh 13),.code (mh 7)] ?_
 obtain ⟨iJ,hr,h⟩:=bt h
 refine sR hE ⟨[(2,(.op 0 0 0)),(3,(.op 16 0 0)),(4,(.op 32 0 0)),(6,(aI iJ))],[(0,vO 2 (xH c)),(16,vO 4 (ah y)),(32,vO 4 [(aB false),.nil,(aB false),.nil])],112⟩ (mh 12) [(1,oT (aI iJ))] [] (kp [2,3,4,6]) (kq [0,16,32]) 112 [0 < 1,Sd 65 [(.agg (xH c))] [] 0 (aI iJ) []] ⟨o1,(BO _ _ _ hr),trivial⟩ ?_
 refine sA 1 [.code (mh 26),.code (mh 27),.code (mh 7)] ?_
 refine sR hE ⟨[(2,(.op 0 0 0)),(3,(.op 16 0 0)),(4,(.op 32 0 0)),(6,(aI iJ)),(13,(aB (iJ != 0)))],[(0,vO 2 (xH c)),(16,vO 4 (ah y)),(32,vO 4 [(aB false),.nil,(aB false),.nil])],144⟩ (mh 26) [] [] (kp [2,3,4,6,13]) (kq [0,16,32]) 144 [] trivial ?_
 refine sC 13 (mh 54) (mh 55) (iJ != 0) (fun dR=>?_) (fun dR=>?_)
 ·have h:=aG h dR
  refine sA 1 [.code (mh 108),.code (mh 109),.code (mh 7)] ?_
  refine sR hE ⟨[(4,(.op 32 0 0)),(5,(aI iJ))],[(32,vO 4 [(aB false),.nil,(aB false),.nil])],208⟩ (mh 108) [] [] (kp [4,5]) (kq [32]) 208 [0 < 1] ⟨o1,trivial⟩ ?_
  obtain rfl:=dx h
  refine sW hE ⟨[(4,(.op 16 0 0)),(5,(aI iJ))],[(16,vO 4 [(aB false),(eU ([]:List Int)),(aB false),(eU ([]:List Int))])],208⟩ [] (kp [4,5]) [(16,.var 32 [.ak,.sl (([]:List Int).length) (fun zi=>(cU .u16) (([]:List Int).getD zi 0)),.ak,.sl (([]:List Int).length) (fun zi=>(cU .u16) (([]:List Int).getD zi 0))])] 208 [([]:List Int).length=0,([]:List Int).length=0] ⟨rfl,rfl,trivial⟩ ?_
  exact sT Tryz.f28 [16] [0 < 1] ⟨o1,trivial⟩
 ·have h:=bg h dR
  refine sA 2 [.code (mh 14),.code (mh 15)] ?_
  obtain ⟨aw,eW,h⟩:=bt h
  refine sR hE ⟨[(2,(.op 0 0 0)),(3,(.op 16 0 0)),(4,(.op 32 0 0)),(7,(.op 160 0 0))],[(0,vO 2 (xH c)),(16,vO 4 (ah y)),(32,vO 4 [(aB false),.nil,(aB false),.nil]),(160,vO 4 (ah aw))],192⟩ (mh 14) [(0,oT (.agg (ah aw)))] [] (kp [2,3,4,7]) (kq [0,16,32,160]) 192 [Sd 66 [(aI 0)] [] 0 (.agg (ah aw)) [],0 < 1] ⟨(dL _ _ _ eW),o1,trivial⟩ ?_
  refine sA 2 [.code (mh 60),.code (mh 61),.code (mh 31)] ?_
  obtain ⟨lk,ly,h⟩:=bt h
  refine sR hE ⟨[(4,(.op 32 0 0)),(7,(.op 160 0 0)),(19,(.fn (.func 104) [] [(.op 224 0 0),(.op 225 0 0)]))],[(32,vO 4 [(aB false),.nil,(aB false),.nil]),(160,vO 4 (ah aw)),(224,vO 2 (xH lk.1)),(225,vO 4 (ah lk.2))],240⟩ (mh 60) [(2,⟨[],false,(.fn (.func 104) [] [(.op 0 0 0),(.op 1 0 0)]),[(0,vO 2 (xH lk.1)),(1,vO 4 (ah lk.2))],0,false,none⟩)] [] (kp [4,7,19]) (kq [32,160,224,225]) 240 [0 < 1,0 < 1,Sd 67 [(.agg (xH c)),(.agg (ah y))] [] 0 (.fn (.func 104) [] [(.op 0 0 0),(.op 1 0 0)]) [(0,vO 2 (xH lk.1)),(1,vO 4 (ah lk.2))]] ⟨o1,o1,(JB _ _ _ _ ly),trivial⟩ ?_
  refine sA 1 [.code (mh 122),.inBlock 0,.code (mh 31)] ?_
  obtain ⟨rr,hrr,h⟩:=bt h
  refine az.range (m1:=3) (m9:=1) (nt1:=43) (orc:=⟨[160,224,225],false,.tup [],[(0,vO 4 (ah rr)),(1,vO 2 (xH lk.1)),(2,vO 4 (ah lk.2))],0,false,none⟩) (avs:=fun l=>[.atom (.func (.yield l) #[] #[]),.op 1 0 0,.op 2 0 0]) (rP:=[(0,vO 4 (ah aw)),(1,vO 2 (xH lk.1)),(2,vO 4 (ah lk.2))]) (dr:=[(0,vO 4 (ah rr)),(1,vO 2 (xH lk.1)),(2,vO 4 (ah lk.2))]) (res:=.tup []) (x:=.tup []) (gid:=104) (fu:=Tryz.f104) (c1:=gu 1) (rds:=[160,224,225]) (upd:=x5 [160,224,225] 240 [(0,vO 4 (ah rr)),(1,vO 2 (xH lk.1)),(2,vO 4 (ah lk.2))] 0 [160,224,225] ++ (Ay [160,224,225] 240 [(0,vO 4 (ah rr)),(1,vO 2 (xH lk.1)),(2,vO 4 (ah lk.2))] ++ [])) hE rfl rfl (by kernel_rfl) (by kernel_rfl) (by kernel_rfl) (fun _=>by kernel_rfl) (fun l=>by kernel_rfl) (fun E1 l rq hm hl Hk y8 Qb VZ has O5 kj hsn=>?_) (by decide) (by decide) (by show (1:Nat)≤256;decide) (fun E9 D hE9 HB Zu hD Hk Zv=>?_)
  ·refine Gk N (rj N) aw lk.1 lk.2 rr hrr E1 ⟨hm,fun h=>absurd h (by decide)⟩ l (fun Wg Wh yx yr hy=>?_)
   have W:=Gl N Wg Wh yx yr hy
   refine Xj (nt:=28) hl Hk y8 Qb (by rw [hm];decide) rfl rfl (by show (4:Nat)≠0;decide) rfl (by rw [VZ];rfl) (st0:=⟨[(7,(.op 0 0 0)),(20,(.agg (ah Wg))),(21,(.agg (ah Wh)))],[(0,vO 4 (ah yx))],1⟩) rfl rfl ?_ ?_ (fun E' hE'=>by rw [has];exact (W E' hE').1) (fun E' hE'=>by rw [O5];exact (W E' hE').2)
   ·rfl
   ·intro w S μ vs Pc G7;exact Pw VZ kj (by decide) (by decide) (by decide) (by decide) (by decide) (hsn 7) Pc G7
  ·refine gh.sA 2 [.code (mh 62),.code (mh 63)] ?_
   refine gh.sR hE9 ⟨[(4,(.op 32 0 0)),(5,(aI 0))],[(32,vO 4 (ah rr))],304⟩ (mh 62) [] [] (kp [4,5]) (kq [32]) 304 [0 < 1,0 < 1] ⟨o1,o1,trivial⟩ ?_
   obtain rfl:=dx h
   refine gh.sW hE9 ⟨[(4,(.op 16 0 0)),(5,(aI 0))],[(16,vO 4 (ah rr))],304⟩ [] (kp [4,5]) [(16,.ak 32)] 304 [] trivial ?_
   exact gh.sT HB Zu hD Hk Zv Tryz.f28 [16] [0 < 1] ⟨o1,trivial⟩
noncomputable abbrev U6:=cG Tryz.f30
def Dd (N:Nat) (a:bM) (b:bM) (K:Int→Option (Bool)):Prop:=∀ (i:Int) (r:Bool),K i=some r→∀ E,aQ E 0→az Tryz.prog E 30 38 (aY E [] (aB r)) [.code (U6 116),.inLoop (U6 116),.inBlock 0,.code (U6 15)] ⟨[(2,(.op 0 0 0)),(3,(.op 1 0 0)),(5,(aI i))],[(0,vO 2 (im a)),(1,vO 2 (im b))],2⟩
theorem BQ (N a b fuel):Dd N a b (iK N a b fuel):=by
 induction fuel with
 | zero=>intro _ r h;rw [iK.eq_1] at h;cases h
 | succ fuel ih =>
  intro i r h E hE
  rw [iK.eq_2] at h
  refine aj hE 2 [] [] (kp [2,3,5,24]) (kq [0,1]) 82 (pc o1 pn) ?_
  refine dS 0 24 h (fun iU h=>?_) (fun iU h=>?_)
  ·obtain ⟨c,h⟩:=ae h
   obtain ⟨c2,h⟩:=ae h
   refine aj hE 4 [] [] (kp [2,3,5,37]) (kq [0,1]) 258 (pc o1 (pc c (pc o1 (pc c2 pn)))) ?_
   refine dS 0 37 h (fun rm h=>?_) (fun rm h=>?_)
   ·refine aj hE 1 [] [] (kp [4]) [] 274 pn ?_
    obtain rfl:=dx h
    exact dQ hE 0 Tryz.f30 [] (kp [4]) [] 274 pn [] pn
   ·refine aj hE 2 [] [] (kp [2,3,5]) (kq [0,1]) 306 pn ?_
    exact de hE 1 [] (kp [2,3,5]) (kq [0,1]) 2 pn (ih _ _ h E hE)
  ·refine aj hE 2 [] [] (kp [4]) [] 98 pn ?_
   obtain rfl:=dx h
   exact dQ hE 0 Tryz.f30 [] (kp [4]) [] 98 pn [] pn
theorem qd (N a b r) (h:kX N a b=some r):Sd 30 [(.agg (im a)),(.agg (im b))] [] 0 (aB r) []:=by
 unfold kX at h
 refine iy (fu:=Tryz.f30) (c:=U6 1) (nt:=38) (fun hm=>rfl) ?_
 intro E hE
 refine aj hE 1 [] [] (kp [2,3]) (kq [0,16]) 48 pn ?_
 refine aj hE 2 [] [] (kp [2,3,19]) (kq [0,16]) 272 (pc o1 (pc o1 (pc (fun hg:(!(!(a.fG == b.fG)))=true=>(pc hg (pc o1 pn))) (pc (fun hg:(!(!(a.fG == b.fG)))=true=>(pc hg pn)) (pc (fun hg:(!(!(a.fG == b.fG)))=true=>(pc hg (pc o1 pn))) (pc (fun hg:(!(!(a.fG == b.fG)))=true=>(pc hg pn)) (pc (fun hg:(!(!(a.fG == b.fG)))=true=>(pc hg (pc hg pn))) (pc (fun hq:(!(!(a.fG == b.fG)))=true=>(pc hq pn)) pn)))))))) ?_
 refine dS 0 19 h (fun dR h=>?_) (fun dR h=>?_)
 ·refine aj hE 1 [] [] (kp [4]) [] 288 pn ?_
  obtain rfl:=dx h
  exact dQ hE 0 Tryz.f30 [] (kp [4]) [] 288 pn [] pn
 ·refine aj hE 3 [] [] (kp [2,3,5]) (kq [0,16]) 288 pn ?_
  exact de hE 2 [] (kp [2,3,5]) (kq [0] ++ [(1,.ak 16)]) 2 pn (BQ N _ _ N _ _ h E hE)
noncomputable abbrev PG:=cG Tryz.f31
def M5 (N:Nat) (K:Int→Int→Option (aa)):Prop:=∀ (a2:Int) (b2:Int) (r:aa),K a2 b2=some r→∀ E,aQ E 0→az Tryz.prog E 31 34 (aY E [] (.agg (ah r))) [.code (PG 14),.code (PG 15)] ⟨[(0,(aI a2)),(1,(aI b2)),(4,(.op 0 0 0))],[(0,vO 4 [(aB false),.nil,(aB false),.nil])],1⟩
def M6 (N:Nat) (a2:Int) (b2:Int) (K:Int→Int→Option (aa)):Prop:=∀ (x:Int) (y:Int) (r:aa),K x y=some r→∀ E,aQ E 0→az Tryz.prog E 31 34 (aY E [] (.agg (ah r))) [.code (PG 248),.inLoop (PG 248),.inBlock 0,.code (PG 63)] ⟨[(0,(aI a2)),(1,(aI b2)),(4,(.op 0 0 0)),(5,(aI x)),(6,(aI y))],[(0,vO 4 [(aB false),.nil,(aB false),.nil])],1⟩
theorem DP (N a2 b2 fuel):M6 N a2 b2 (p8 N a2 b2 fuel):=by
 induction fuel with
 | zero=>intro _ _ r h;rw [p8.eq_1] at h;cases h
 | succ fuel ih =>
  intro x y r h E hE
  rw [p8.eq_2] at h
  refine aj hE 2 [] [] (kp [0,1,4,5,6,20]) (kq [0]) 33 pn ?_
  refine dS 0 20 h (fun rm h=>?_) (fun rm h=>?_)
  ·obtain ⟨c,h⟩:=ae h
   refine aj hE 2 [] [] (kp [0,1,4,5,6]) (kq [0]) 129 (pc c pn) ?_
   exact de hE 2 [] (kp [0,1,4,5,6]) (kq [0]) 1 pn (ih _ _ _ h E hE)
  ·obtain ⟨c2,h⟩:=ae h
   obtain ⟨rZ,hr,h⟩:=bt h
   obtain ⟨RH,eW,h⟩:=bt h
   refine aj hE 2 [(3,oT (.agg (im rZ))),(7,oT (.agg (im RH)))] [] (kp [4]) (kq [0]) 193 (pc c2 (pc (rG _ _ _ hr) (pc c2 (pc (rG _ _ _ eW) (pc o1 pn))))) ?_
   obtain rfl:=dx h
   exact dQ hE 0 Tryz.f31 [] (kp [4]) [(16,.ak 0)] 193 pn [16] (pc o1 pn)
theorem DQ (N):M5 N (yk N):=by
 intro a2 b2 r h E hE
 unfold yk at h
 refine aj hE 0 [] [] (kp [0,1,4,5,6]) (kq [0]) 65 pn ?_
 refine aj hE 2 [] [] (kp [0,1,4,5,6,16]) (kq [0]) 97 pn ?_
 refine dS 0 16 h (fun iU h=>?_) (fun iU h=>?_)
 ·refine aj hE 0 [] [] (kp [0,1,4,5,6]) (kq [0]) 145 pn ?_
  exact de hE 3 [] (kp [0,1,4,5,6]) (kq [0]) 1 pn (DP N _ _ N _ _ _ h E hE)
 ·exact de hE 4 [] (kp [0,1,4,5,6]) (kq [0]) 1 pn (DP N _ _ N _ _ _ h E hE)
theorem RU (N a b r) (h:KW N a b=some r):Sd 31 [(aI a),(aI b)] [] 0 (.agg (ah r)) []:=by
 unfold KW at h
 refine iy (fu:=Tryz.f31) (c:=PG 1) (nt:=34) (fun hm=>rfl) ?_
 intro E hE
 refine aj hE 1 [] [] (kp [0,1,4]) (kq [0]) 16 pn ?_
 refine aj hE 2 [] [] (kp [0,1,4,8]) (kq [0]) 48 pn ?_
 refine dS 0 8 h (fun dR h=>?_) (fun dR h=>?_)
 ·refine aj hE 0 [] [] (kp [0,1,4]) (kq [0]) 144 pn ?_
  exact de hE 1 [] (kp [0,1,4]) (kq [0]) 1 pn (DQ N _ _ _ h E hE)
 ·exact de hE 2 [] (kp [0,1,4]) (kq [0]) 1 pn (DQ N _ _ _ h E hE)
noncomputable abbrev acV:=cG Tryz.f10
theorem lK (N a b r) (h:iL N a b=some r):Sd 10 [(.agg (ah a)),(.agg (ah b))] [] 0 (aB r) []:=by
 unfold iL at h
 refine iy (fu:=Tryz.f10) (c:=acV 1) (nt:=17) (fun hm=>rfl) ?_
 intro E hE
 refine aj hE 1 [] [] (kp [2,3]) (kq [0,16]) 48 pn ?_
 obtain ⟨cW,hr,h⟩:=bt h
 obtain ⟨dZ,eW,h⟩:=bt h
 refine aj hE 1 [(4,oT (aB cW)),(10,oT (aB dZ))] [] (kp [4]) [] 256 (pc o1 (pc o1 (pc (qd _ _ _ _ hr) (pc (fun hg:cW=true=>(pc hg (pc o1 pn))) (pc (fun hg:cW=true=>(pc hg (pc o1 pn))) (pc (fun hg:cW=true=>(pc (qd _ _ _ _ (aG eW hg)) (pc hg (pc hg pn)))) (pc (fun hq:cW=true=>(pc hq pn)) pn))))))) ?_
 obtain rfl:=dx h
 exact dQ hE 0 Tryz.f10 [] (kp [4]) [] 256 pn [] pn
noncomputable abbrev acW:=cG Tryz.f7
theorem ny (N r) (h:kY N=some r):Sd 7 [] [] 0 (aB r) []:=by
 unfold kY at h
 refine iy (fu:=Tryz.f7) (c:=acW 1) (nt:=60) (fun hm=>rfl) ?_
 intro E hE
 refine aj hE 1 [] [] [] [] 16 pn ?_
 obtain ⟨rZ,hr,h⟩:=bt h
 obtain ⟨RH,eW,h⟩:=bt h
 obtain ⟨dH,ly,h⟩:=bt h
 refine aj hE 1 [(0,oT (.agg (im rZ))),(1,oT (.agg (im RH))),(2,oT (.tup [(.agg (im dH.1)),(.agg (im dH.2.1)),(aI dH.2.2)]))] [] (kp [1,2,3]) (kq [128,144]) 208 (pc (rG _ _ _ hr) (pc (rG _ _ _ eW) (pc (HD _ _ _ _ ly) (pc o1 (pc o1 pn))))) ?_
 obtain ⟨l5,oi,h⟩:=bt h
 refine aj hE 1 [(0,oT (.tup [(.agg (ah l5.1)),(aI l5.2)]))] [] (kp [1,2,3,4,5]) (kq [128,144,272]) 320 (pc (Jz _ _ _ _ oi) (pc o1 pn)) ?_
 obtain ⟨rWs,tZ,h⟩:=bt h
 refine aj hE 1 [(2,⟨[],true,(aN ah aa.d rWs),[],0,true,none⟩)] [] (kp [1,2,3,4,5,6]) (kq [128,144,272] ++ [(320,.arr 320 (([0,10]:List Int).length) (fun zi=>cI (([0,10]:List Int).getD zi 0))),(384,.var 384 [.lP (([0,10]:List Int).length),.ak])]) 416 (pc (show Sd 27 [(.sl 2 (fun zi=>(fun zi=>([[(aI 2)],[(aI 0)]]:List (List AV)).getD zi []) (bT 0 zi)))] [] 0 (aN ah aa.d rWs) [] from (Sound.conv (PF _ _ _ tZ) (.cons (Alike.sl rfl (fun zq j5=>dP cI 0 ([2,0]:List Int) zq j5)) .nil))) (pc (z1 2) (pc o1 (pc (Eq.refl 2) (pc (show ∀ zi,zi < ([0,10]:List Int).length→(fun zi=>cI (([0,10]:List Int).getD zi 0)) zi=(fun zi=>([[(aI 0)],[(aI 10)]]:List (List AV)).getD zi []) zi from (fun zq j5=>dP cI 0 ([0,10]:List Int) zq j5)) (pc (Eq.refl 2) pn)))))) ?_
 obtain ⟨rW,yu,h⟩:=bt h
 obtain ⟨tD,AQ,h⟩:=bt h
 refine aj hE 1 [(1,oT (.agg (ah rW))),(2,⟨[],true,(.tup [(.agg (ah tD.1)),(aI tD.2)]),[],0,true,none⟩)] [] (kp [1,2,3,4,5,7,8]) (kq [128,144,272,512]) 560 (pc o1 (pc (Gj _ _ _ yu) (pc (JC _ _ _ _ AQ) (pc (z1 (([0,10]:List Int).length)) (pc o1 pn))))) ?_
 obtain ⟨rZ3,Hv,h⟩:=bt h
 obtain ⟨cW,Hu,h⟩:=bt h
 obtain ⟨rZ4,AP,h⟩:=bt h
 obtain ⟨dZ,Gh,h⟩:=bt h
 obtain ⟨rQ,MZ,h⟩:=bt h
 obtain ⟨fJ,M0,h⟩:=bt h
 obtain ⟨rW2,M1,h⟩:=bt h
 obtain ⟨mn,RR,h⟩:=bt h
 refine aj hE 1 [(4,oT (.agg (im rZ3))),(5,oT (aB cW)),(9,oT (.agg (im rZ4))),(10,oT (aB dZ)),(18,oT (.agg (ah rQ))),(19,oT (aB fJ)),(27,oT (.agg (ah rW2))),(28,oT (aB mn))] [] (kp [0]) [] 1056 (pc (fun hg:(dH.2.2 == 0)=true=>(pc o1 pn)) (pc (fun hg:(dH.2.2 == 0)=true=>(pc (rG _ _ _ (aG Hv hg)) pn)) (pc (fun hg:(dH.2.2 == 0)=true=>(pc (qd _ _ _ _ (aG Hu hg)) (pc hg (pc hg pn)))) (pc (fun hq:(dH.2.2 == 0)=true=>(pc hq pn)) (pc (fun hg:(cond (dH.2.2 == 0) cW false)=true=>(pc o1 pn)) (pc (fun hg:(cond (dH.2.2 == 0) cW false)=true=>(pc (rG _ _ _ (aG AP hg)) pn)) (pc (fun hg:(cond (dH.2.2 == 0) cW false)=true=>(pc (qd _ _ _ _ (aG Gh hg)) (pc hg (pc hg pn)))) (pc (fun hq:(cond (dH.2.2 == 0) cW false)=true=>(pc hq pn)) (pc (fun hg:(cond (cond (dH.2.2 == 0) cW false) dZ false)=true=>(pc hg pn)) (pc (fun hq:(cond (cond (dH.2.2 == 0) cW false) dZ false)=true=>(pc hq pn)) (pc (fun hg:(cond (cond (cond (dH.2.2 == 0) cW false) dZ false) (l5.2 == 0) false)=true=>(pc o1 pn)) (pc (fun hg:(cond (cond (cond (dH.2.2 == 0) cW false) dZ false) (l5.2 == 0) false)=true=>(pc (RU _ _ _ _ (aG MZ hg)) pn)) (pc (fun hg:(cond (cond (cond (dH.2.2 == 0) cW false) dZ false) (l5.2 == 0) false)=true=>(pc (lK _ _ _ _ (aG M0 hg)) (pc hg (pc hg pn)))) (pc (fun hq:(cond (cond (cond (dH.2.2 == 0) cW false) dZ false) (l5.2 == 0) false)=true=>(pc hq pn)) (pc (fun hg:(cond (cond (cond (cond (dH.2.2 == 0) cW false) dZ false) (l5.2 == 0) false) fJ false)=true=>(pc hg pn)) (pc (fun hq:(cond (cond (cond (cond (dH.2.2 == 0) cW false) dZ false) (l5.2 == 0) false) fJ false)=true=>(pc hq pn)) (pc (fun hg:(cond (cond (cond (cond (cond (dH.2.2 == 0) cW false) dZ false) (l5.2 == 0) false) fJ false) (tD.2 == 0) false)=true=>(pc o1 pn)) (pc (fun hg:(cond (cond (cond (cond (cond (dH.2.2 == 0) cW false) dZ false) (l5.2 == 0) false) fJ false) (tD.2 == 0) false)=true=>(pc (Gj _ _ _ (aG M1 hg)) pn)) (pc (fun hg:(cond (cond (cond (cond (cond (dH.2.2 == 0) cW false) dZ false) (l5.2 == 0) false) fJ false) (tD.2 == 0) false)=true=>(pc (lK _ _ _ _ (aG RR hg)) (pc hg (pc hg pn)))) (pc (fun hq:(cond (cond (cond (cond (cond (dH.2.2 == 0) cW false) dZ false) (l5.2 == 0) false) fJ false) (tD.2 == 0) false)=true=>(pc hq pn)) pn)))))))))))))))))))) ?_
 obtain rfl:=dx h
 exact dQ hE 0 Tryz.f7 [] (kp [0]) [] 1056 pn [] pn
noncomputable abbrev rH:=cG Tryz.f36
def nz (N:Nat) (ab:List aa) (C0:Int) (bc:Int) (cg:Int) (C1:List Int) (C2:List Int) (C3:List (List aa)) (C4:List aa) (K:(List aa)→Bool→(List Int)→Bool→(List Int)→Int→Option (jj×(List aa))):Prop:=∀ (cd:List aa) (mV:Bool) (jl:List Int) (mE:Bool) (fh:List Int) (x:Int) (r:jj×(List aa)),K cd mV jl mE fh x=some r→∀ E,aQ E 6→az Tryz.prog E 36 119 (aY E [(0,vN 12 [(aI r.1.rf),(aI r.1.rh),(.os 1 0 C1.length),(.os 2 0 C2.length),(.os 3 0 C3.length),(.os 4 0 C4.length),(.os 5 0 r.2.length),(aB r.1.af.fN.fG),(eU r.1.af.fN.fL),(aB r.1.af.fD.fG),(eU r.1.af.fD.fL),(aI r.1.bC)]),(1,aO 1 cI 0 C1),(2,aO 1 cI 0 C2),(3,aM 4 ah aa.d C3),(4,aO 4 ah aa.d C4),(5,aO 4 ah aa.d r.2)] (.tup [])) [.code (rH 12),.inLoop (rH 12),.inBlock 0] ⟨[(0,(.op 0 0 0)),(11,(aN ah aa.d ab)),(12,(aI ((ab.length:Nat):Int))),(13,(aI x))],[(0,vN 12 [(aI C0),(aI bc),(.os 1 0 C1.length),(.os 2 0 C2.length),(.os 3 0 C3.length),(.os 4 0 C4.length),(.os 5 0 cd.length),(aB mV),(eU jl),(aB mE),(eU fh),(aI cg)]),(1,aO 1 cI 0 C1),(2,aO 1 cI 0 C2),(3,aM 4 ah aa.d C3),(4,aO 4 ah aa.d C4),(5,aO 4 ah aa.d cd)],6⟩
def rI (N:Nat) (ab:List aa) (C0:Int) (bc:Int) (cg:Int) (C1:List Int) (C2:List Int) (C3:List (List aa)) (C4:List aa) (x:Int) (K:(List aa)→Bool→(List Int)→Bool→(List Int)→(List (Int×aa))→Option (jj×(List aa))):Prop:=∀ (ia:List aa) (mW:Bool) (pR:List Int) (pS:Bool) (sK:List Int) (rem:List (Int×aa)) (r:jj×(List aa)),K ia mW pR pS sK rem=some r→∀ E,aQ E 6→∀ E0 lI,Jh E0 E lI aI (fun x=>.agg (ah x)) none rem→az Tryz.prog E 36 119 (aY E0 [(0,vN 12 [(aI r.1.rf),(aI r.1.rh),(.os 1 0 C1.length),(.os 2 0 C2.length),(.os 3 0 C3.length),(.os 4 0 C4.length),(.os 5 0 r.2.length),(aB r.1.af.fN.fG),(eU r.1.af.fN.fL),(aB r.1.af.fD.fG),(eU r.1.af.fD.fL),(aI r.1.bC)]),(1,aO 1 cI 0 C1),(2,aO 1 cI 0 C2),(3,aM 4 ah aa.d C3),(4,aO 4 ah aa.d C4),(5,aO 4 ah aa.d r.2)] (.tup [])) [.code (rH 3276),.inLoop (rH 3276),.inBlock 2,.inBlock 1,.code (rH 103),.inLoop (rH 12),.inBlock 0] ⟨[(0,(.op 0 0 0)),(11,(aN ah aa.d ab)),(12,(aI ((ab.length:Nat):Int))),(13,(aI x)),(31,(.atom (.pointer (some ⟨lI,0,none⟩))))],[(0,vN 12 [(aI C0),(aI bc),(.os 1 0 C1.length),(.os 2 0 C2.length),(.os 3 0 C3.length),(.os 4 0 C4.length),(.os 5 0 ia.length),(aB mW),(eU pR),(aB pS),(eU sK),(aI cg)]),(1,aO 1 cI 0 C1),(2,aO 1 cI 0 C2),(3,aM 4 ah aa.d C3),(4,aO 4 ah aa.d C4),(5,aO 4 ah aa.d ia)],6⟩
def yE (N:Nat) (ab:List aa) (C0:Int) (bc:Int) (cg:Int) (C1:List Int) (C2:List Int) (C3:List (List aa)) (C4:List aa) (x:Int) (ia:List aa) (Ch:Int×aa) (left:List (Int×aa)) (bB:Int) (dg:aa) (K:(List aa)→Int→Option (jj×(List aa))):Prop:=∀ (oe:List aa) (x2:Int) (r:jj×(List aa)),K oe x2=some r→∀ E,aQ E 6→∀ E0 lI,Jh E0 E lI aI (fun x=>.agg (ah x)) none left→az Tryz.prog E 36 119 (aY E0 [(0,vN 12 [(aI r.1.rf),(aI r.1.rh),(.os 1 0 C1.length),(.os 2 0 C2.length),(.os 3 0 C3.length),(.os 4 0 C4.length),(.os 5 0 r.2.length),(aB r.1.af.fN.fG),(eU r.1.af.fN.fL),(aB r.1.af.fD.fG),(eU r.1.af.fD.fL),(aI r.1.bC)]),(1,aO 1 cI 0 C1),(2,aO 1 cI 0 C2),(3,aM 4 ah aa.d C3),(4,aO 4 ah aa.d C4),(5,aO 4 ah aa.d r.2)] (.tup [])) [.code (rH 3355516),.inLoop (rH 3355516),.inBlock 4,.inBlock 3,.inLoop (rH 3276),.inBlock 2,.inBlock 1,.code (rH 103),.inLoop (rH 12),.inBlock 0] ⟨[(0,(.op 0 0 0)),(7,(.op 6 0 0)),(9,(aI bB)),(11,(aN ah aa.d ab)),(12,(aI ((ab.length:Nat):Int))),(13,(aI x)),(31,(.atom (.pointer (some ⟨lI,0,none⟩)))),(87,(aI ((ia.length:Nat):Int))),(88,(aI x2))],[(0,vN 12 [(aI C0),(aI bc),(.os 1 0 C1.length),(.os 2 0 C2.length),(.os 3 0 C3.length),(.os 4 0 C4.length),(.os 5 0 oe.length),(aB dg.fN.fG),(eU dg.fN.fL),(aB dg.fD.fG),(eU dg.fD.fL),(aI cg)]),(1,aO 1 cI 0 C1),(2,aO 1 cI 0 C2),(3,aM 4 ah aa.d C3),(4,aO 4 ah aa.d C4),(5,aO 4 ah aa.d oe),(6,vO 4 (ah Ch.2))],7⟩
theorem xN (N:Nat) (ab:List aa) (C0:Int) (bc:Int) (cg:Int) (C1:List Int) (C2:List Int) (C3:List (List aa)) (C4:List aa) (x:Int) (ia:List aa) (Ch:Int×aa) (left:List (Int×aa)) (bB:Int) (dg:aa) (iP:(List aa)→Bool→(List Int)→Bool→(List Int)→(List (Int×aa))→Option (jj×(List aa))) (cw:(List aa)→Bool→(List Int)→Bool→(List Int)→Int→Option (jj×(List aa))) (xO:rI N ab C0 bc cg C1 C2 C3 C4 x iP) (mI:nz N ab C0 bc cg C1 C2 C3 C4 cw) (fuel:Nat):yE N ab C0 bc cg C1 C2 C3 C4 x ia Ch left bB dg (ey N ab C0 bc cg C1 C2 C3 C4 x ia Ch left bB dg iP cw fuel):=by
 induction fuel with
 | zero=>intro _ _ r h;rw [ey.eq_1] at h;cases h
 | succ fuel ih =>
  intro oe x2 r h E hE E0 lI hI
  rw [ey.eq_2] at h
  refine aj hE 1 [] [] (kp [0,7,9,11,12,13,31,87,88,89]) (kq [0,1,2,3,4,5,6]) 23 pn ?_
  refine dS 1 89 h (fun rm h=>?_) (fun rm h=>?_)
  ·refine aj hE 4 [] [] (kp [0,7,9,10,11,12,13,31,87,88]) (kq [0,1,2,3,4,5,6]) 55 pn ?_
   obtain ⟨c6,h⟩:=ae h
   refine Rr 3 ((bB).toNat) 4 ((C3.getD ((bB).toNat) []).length) (fun zi=>ah ((C3.getD ((bB).toNat) []).getD zi aa.d)) (pc c6 (pc (show bk [] (mG C3) ((bB).toNat)=mR 4 ah aa.d (C3.getD ((bB).toNat) []) from rfl) pn)) ?_
   obtain ⟨c7,h⟩:=ae h
   obtain ⟨c8,h⟩:=ae h
   obtain ⟨c9,h⟩:=ae h
   obtain ⟨gK,AP,h⟩:=bt h
   obtain ⟨jm,Gh,h⟩:=bt h
   refine aj hE 0 [(19,oF (.os 55 0 ((C3.getD ((bB).toNat) []).length))),(23,oT (.agg (ah gK))),(24,oT (.agg (ah jm)))] [] (kp [0,7,9,11,12,13,31,87,88]) ([(0,.var 0 [.ak,.ak,.ak,.ak,.ak,.ak,.lP ((oe.set ((x2).toNat) jm).length),.ak,.ak,.ak,.ak,.ak])] ++ kq [1,2] ++ [(3,.pz 3 (C3.length) [((bB).toNat,55,(C3.getD ((bB).toNat) []).length)] (mG C3))] ++ kq [4] ++ [(5,.arr 5 ((oe.set ((x2).toNat) jm).length) (fun zi=>ah ((oe.set ((x2).toNat) jm).getD zi aa.d)))] ++ kq [6,55]) 503 (pc o1 (pc o1 (pc c7 (pc (dq c7) (pc o1 (pc o1 (pc c8 (pc (dq c8) (pc (show (bk [((bB).toNat,55,(C3.getD ((bB).toNat) []).length)] (mG C3) ((bB).toNat))[0]?=some (.os 55 0 ((C3.getD ((bB).toNat) []).length)) from (gO rfl)) (pc c9 (pc (dq c9) (pc (gD _ _ _ _ AP) (pc (gC _ _ _ _ Gh) (pc c7 (pc (dq c7) (pc (aJ oe ((x2).toNat) jm) (pc (Eq.refl C3.length) (pc (mC C3 [((bB).toNat,55,(C3.getD ((bB).toNat) []).length)]) (pc (iM C3) (pc (aJ oe ((x2).toNat) jm) (pc (cR ah aa.d oe ((x2).toNat) jm) pn))))))))))))))))))))) ?_
   refine Pt 3 55 ((bB).toNat) (pc c6 (pc (show bk [((bB).toNat,55,(C3.getD ((bB).toNat) []).length)] (mG C3) ((bB).toNat)=[.os 55 0 (C3.getD ((bB).toNat) []).length] from if_pos rfl) (pc (show ∀ zj,zj < (C3.getD ((bB).toNat) []).length→mL (ah ((C3.getD ((bB).toNat) []).getD zj aa.d))=true from fun _ _=>rfl) pn))) ?_
   refine J7 hE [] (kp [0,7,9,11,12,13,31,87,88]) (kq [0,1,2] ++ [(3,.pz 3 (C3.length) [] (mG C3))] ++ kq [4,5,6]) 503 (pc (Eq.refl (C3.length)) (pc (qY (sz:=4) (c:=ah) (d:=aa.d) C3 ((bB).toNat) 55 ((C3.getD ((bB).toNat) []).length) [] CO) (pc (iM C3) pn))) ?_
   refine aj hE 1 [] [] (kp [0,7,9,11,12,13,31,87,88]) (kq [0,1,2,3,4,5,6]) 535 pn ?_
   exact de hE 1 [] (kp [0,7,9,11,12,13,31,87,88]) (kq [0,1,2,3,4,5,6]) 7 pn (ih _ _ _ h E hE _ lI hI.forget)
  ·exact de hE 3 [] (kp [0,11,12,13,31]) (kq [0,1,2,3,4,5]) 6 pn (xO _ _ _ _ _ _ _ h E hE _ lI hI.forget)
theorem qp (N:Nat) (ab:List aa) (C0:Int) (bc:Int) (cg:Int) (C1:List Int) (C2:List Int) (C3:List (List aa)) (C4:List aa) (x:Int) (cw:(List aa)→Bool→(List Int)→Bool→(List Int)→Int→Option (jj×(List aa))) (mI:nz N ab C0 bc cg C1 C2 C3 C4 cw) (fuel:Nat):rI N ab C0 bc cg C1 C2 C3 C4 x (b5 N ab C0 bc cg C1 C2 C3 C4 x cw fuel):=by
 induction fuel with
 | zero=>intro _ _ _ _ _ _ r h;rw [b5.eq_1] at h;cases h
 | succ fuel ih =>
  intro ia mW pR pS sK rem r h E hE E0 lI hI
  rw [b5.eq_2] at h
  refine az.nN hE hI 1 32 31 h (fun h=>?_) (fun Ch left h E hE hI=>?_)
  ·refine J7 hE [] (kp [0,11,12,13,31,33]) (kq [0,1,2,3,4,5]) 38 pn ?_
   refine sA 1 [.code (rH 13106),.code (rH 13107),.inLoop (rH 3276),.inBlock 2,.inBlock 1,.code (rH 103),.inLoop (rH 12),.inBlock 0] ?_
   refine sC 33 (rH 26212) (rH 26213) false (fun hq=>absurd hq (by decide)) (fun _=>?_) 
   refine aj hE 2 [] [] (kp [0,11,12,13]) (kq [0,1,2,3,4,5]) 70 pn ?_
   exact de hE 1 [] (kp [0,11,12,13]) (kq [0,1,2,3,4,5]) 6 pn (mI _ _ _ _ _ _ _ h E hE)
  ·refine J7 hE [] (kp [0,11,12,13,31,33]) (kq [0,1,2,3,4,5]) 38 pn ?_
   refine sA 1 [.code (rH 13106),.code (rH 13107),.inLoop (rH 3276),.inBlock 2,.inBlock 1,.code (rH 103),.inLoop (rH 12),.inBlock 0] ?_
   refine sC 33 (rH 26212) (rH 26213) true (fun _=>?_) (fun hq=>absurd hq (by decide)) 
   refine az.nY hI 3 34 31 (pc o1 pn) ?_
   refine J7 hE [] (kp [0,6,7,11,12,13,31]) (kq [0,1,2,3,4,5,86]) 134 pn ?_
   obtain ⟨aP,tZ,h⟩:=bt h
   refine aj hE 2 [(5,oT (aI aP))] [] (kp [0,6,7,8,11,12,13,31]) (kq [0,1,2,3,4,5,86]) 246 (pc o1 (pc (dy _ _ _ _ tZ) (pc (z1 C2.length) pn))) ?_
   refine aj hE 1 [] [] (kp [0,6,7,8,11,12,13,31,44]) (kq [0,1,2,3,4,5,86]) 278 pn ?_
   refine dS 0 44 h (fun iU h=>?_) (fun iU h=>?_)
   ·obtain ⟨c2,h⟩:=ae h
    obtain ⟨bz,yu,h⟩:=bt h
    refine aj hE 1 [(13,oT (.agg (ah bz)))] [] (kp [0,11,12,13,31]) ([(0,.var 0 [.ak,.ak,.ak,.ak,.ak,.ak,.lP ((ia.set ((aP).toNat) bz).length),.ak,.ak,.ak,.ak,.ak])] ++ kq [1,2,3,4] ++ [(5,.arr 5 ((ia.set ((aP).toNat) bz).length) (fun zi=>ah ((ia.set ((aP).toNat) bz).getD zi aa.d)))]) 534 (pc o1 (pc o1 (pc c2 (pc (dq c2) (pc o1 (pc (gC _ _ _ _ yu) (pc c2 (pc (dq c2) (pc (aJ ia ((aP).toNat) bz) (pc (aJ ia ((aP).toNat) bz) (pc (cR ah aa.d ia ((aP).toNat) bz) pn))))))))))) ?_
    exact de hE 2 [] (kp [0,11,12,13,31]) (kq [0,1,2,3,4,5]) 6 pn (ih _ _ _ _ _ _ _ h E hE _ lI hI.forget)
   ·obtain ⟨bB,AQ,h⟩:=bt h
    refine aj hE 2 [(5,oT (aI bB))] [] (kp [0,7,9,11,12,13,31]) (kq [0,1,2,3,4,5,86]) 390 (pc o1 (pc (dy _ _ _ _ AQ) (pc (z1 C1.length) pn))) ?_
    obtain ⟨c3,h⟩:=ae h
    obtain ⟨cy,Hv,h⟩:=bt h
    obtain ⟨dg,Hu,h⟩:=bt h
    refine aj hE 1 [(13,oT (.agg (ah cy))),(14,oT (.agg (ah dg)))] [] (kp [0,7,9,11,12,13,31]) (kq [0,1,2,3,4,5,86]) 678 (pc o1 (pc o1 (pc o1 (pc c3 (pc (dq c3) (pc (gD _ _ _ _ Hv) (pc (gC _ _ _ _ Hu) (pc o1 pn)))))))) ?_
    refine aj hE 1 [] [] (kp [0,7,9,11,12,13,31,87,88]) (kq [0,1,2,3,4,5,86]) 774 (pc o1 pn) ?_
    exact de hE 2 [] (kp [0,7,9,11,12,13,31,87,88]) (kq [0,1,2,3,4,5] ++ [(6,.ak 86)]) 7 pn (xN N _ _ _ _ _ _ _ _ _ _ _ _ _ _ _ _ ih mI N _ _ _ h E hE _ lI hI.forget)
theorem xP (N ab C0 bc cg C1 C2 C3 C4 fuel):nz N ab C0 bc cg C1 C2 C3 C4 (eC N ab C0 bc cg C1 C2 C3 C4 fuel):=by
 induction fuel with
 | zero=>intro _ _ _ _ _ _ r h;rw [eC.eq_1] at h;cases h
 | succ fuel ih =>
  intro cd mV jl mE fh x r h E hE
  rw [eC.eq_2] at h
  refine aj hE 1 [] [] (kp [0,11,12,13,14]) (kq [0,1,2,3,4,5]) 22 pn ?_
  refine dS 1 14 h (fun dR h=>?_) (fun dR h=>?_)
  ·obtain ⟨c,h⟩:=ae h
   refine aj hE 4 [] [] (kp [0,4,5,11,12,13]) (kq [0,1,2,3,4,5,70]) 118 (pc c (pc o1 pn)) ?_
   obtain ⟨jv,hr,h⟩:=bt h
   obtain ⟨aV,eW,h⟩:=bt h
   obtain ⟨df,ly,h⟩:=bt h
   obtain ⟨dK,oi,h⟩:=bt h
   obtain ⟨hA,hB⟩:=Pu h
   refine az.nG hE 1 4 13 [0,1,2,3,4,5,6,7,8,9,10,11,12,13,14,15] [0,1,2,3,5,6,7,8,9,10,11,12,13,4,14,15] [(3,oT (.agg (ah jv))),(4,oT (.tup (q0 aI (fun x=>.agg (ah x)) (o9 (fun za zb=>za == zb) ([]:List (Int×aa)) x jv)))),(12,oT (.agg (ah aV))),(13,oT (.tup (q0 aI (fun x=>.agg (ah x)) (o9 (fun za zb=>za == zb) (o9 (fun za zb=>za == zb) ([]:List (Int×aa)) x jv) (aq (C0+x)) aV))))] [(3,oT (.agg (ah df))),(11,oT (.agg (ah dK))),(12,oT (.tup (q0 aI (fun x=>.agg (ah x)) (o9 (fun za zb=>za == zb) ([]:List (Int×aa)) (aq (C0+x)) dK)))),(13,oT (.tup (q0 aI (fun x=>.agg (ah x)) (o9 (fun za zb=>za == zb) (o9 (fun za zb=>za == zb) ([]:List (Int×aa)) (aq (C0+x)) dK) x df))))] 107 3 32 31 30 118 118 aI (fun x=>.agg (ah x)) (o9 (fun za zb=>za == zb) (o9 (fun za zb=>za == zb) ([]:List (Int×aa)) x jv) (aq (C0+x)) aV) (o9 (fun za zb=>za == zb) (o9 (fun za zb=>za == zb) ([]:List (Int×aa)) (aq (C0+x)) dK) x df) (pc o1 (pc (mw _ _ _ hr) (pc (show Go.Ab.Az Tryz.prog 3 (q0 aI (fun x=>.agg (ah x)) ([]:List (Int×aa))) (aI x) (.agg (ah jv))=some (q0 aI (fun x=>.agg (ah x)) (o9 (fun za zb=>za == zb) ([]:List (Int×aa)) x jv)) from (yg aI (fun x=>.agg (ah x)) (UE .i64) _ _ jv)) (pc o1 (pc o1 (pc (gU _ _ _ eW) (pc (show Go.Ab.Az Tryz.prog 3 (q0 aI (fun x=>.agg (ah x)) (o9 (fun za zb=>za == zb) ([]:List (Int×aa)) x jv)) (aI (aq (C0+x))) (.agg (ah aV))=some (q0 aI (fun x=>.agg (ah x)) (o9 (fun za zb=>za == zb) (o9 (fun za zb=>za == zb) ([]:List (Int×aa)) x jv) (aq (C0+x)) aV)) from (yg aI (fun x=>.agg (ah x)) (UE .i64) _ _ aV)) pn))))))) (pc o1 (pc (mw _ _ _ ly) (pc o1 (pc o1 (pc (gU _ _ _ oi) (pc (show Go.Ab.Az Tryz.prog 3 (q0 aI (fun x=>.agg (ah x)) ([]:List (Int×aa))) (aI (aq (C0+x))) (.agg (ah dK))=some (q0 aI (fun x=>.agg (ah x)) (o9 (fun za zb=>za == zb) ([]:List (Int×aa)) (aq (C0+x)) dK)) from (yg aI (fun x=>.agg (ah x)) (UE .i64) _ _ dK)) (pc (show Go.Ab.Az Tryz.prog 3 (q0 aI (fun x=>.agg (ah x)) (o9 (fun za zb=>za == zb) ([]:List (Int×aa)) (aq (C0+x)) dK)) (aI x) (.agg (ah df))=some (q0 aI (fun x=>.agg (ah x)) (o9 (fun za zb=>za == zb) (o9 (fun za zb=>za == zb) ([]:List (Int×aa)) (aq (C0+x)) dK) x df)) from (yg aI (fun x=>.agg (ah x)) (UE .i64) _ _ df)) pn))))))) (fun E lI hE hI=>?_) (fun E lI hE hI=>?_)
   ·replace h:=hA
    refine J7 hE [] (kp [0,11,12,13,31]) (kq [0,1,2,3,4,5]) 374 pn ?_
    exact de hE 2 [] (kp [0,11,12,13,31]) (kq [0,1,2,3,4,5]) 6 pn (qp N _ _ _ _ _ _ _ _ _ _ ih N _ _ _ _ _ _ _ h E hE _ lI hI.forget)
   ·replace h:=hB
    refine J7 hE [] (kp [0,11,12,13,31]) (kq [0,1,2,3,4,5]) 374 pn ?_
    exact de hE 2 [] (kp [0,11,12,13,31]) (kq [0,1,2,3,4,5]) 6 pn (qp N _ _ _ _ _ _ _ _ _ _ ih N _ _ _ _ _ _ _ h E hE _ lI hI.forget)
  ·obtain rfl:=dx h
   exact rnF hE 1 Tryz.f36 [] [] (kq [0,1,2,3,4,5]) 54 pn [] pn
theorem AU (N ab C0 bc bZ cM cP cQ cg C1 C2 C3 C4 C5 r) (h:oU N ab C0 bc bZ cM cP cQ cg C1 C2 C3 C4 C5=some r):Sd 36 [(.op 0 0 0),(aN ah aa.d ab)] [(0,vN 12 [(aI C0),(aI bc),(.os 1 0 C1.length),(.os 2 0 C2.length),(.os 3 0 C3.length),(.os 4 0 C4.length),(.os 5 0 C5.length),(aB bZ),(eU cM),(aB cP),(eU cQ),(aI cg)]),(1,aO 1 cI 0 C1),(2,aO 1 cI 0 C2),(3,aM 4 ah aa.d C3),(4,aO 4 ah aa.d C4),(5,aO 4 ah aa.d C5)] 6 (.tup []) [(0,vN 12 [(aI r.1.rf),(aI r.1.rh),(.os 1 0 C1.length),(.os 2 0 C2.length),(.os 3 0 C3.length),(.os 4 0 C4.length),(.os 5 0 r.2.length),(aB r.1.af.fN.fG),(eU r.1.af.fN.fL),(aB r.1.af.fD.fG),(eU r.1.af.fD.fL),(aI r.1.bC)]),(1,aO 1 cI 0 C1),(2,aO 1 cI 0 C2),(3,aM 4 ah aa.d C3),(4,aO 4 ah aa.d C4),(5,aO 4 ah aa.d r.2)]:=by
 unfold oU at h
 refine iy (fu:=Tryz.f36) (c:=rH 1) (nt:=119) (fun hm=>absurd hm (by decide)) ?_
 intro E hE
 refine aj hE 1 [] [] (kp [0,11,12,13]) (kq [0,1,2,3,4,5]) 54 pn ?_
 exact de hE 2 [] (kp [0,11,12,13]) (kq [0,1,2,3,4,5]) 6 pn (xP N _ _ _ _ _ _ _ _ N _ _ _ _ _ _ _ h E hE)
noncomputable abbrev acX:=cG Tryz.f39
theorem yF (N j C0 bc bZ cM cP cQ cg C1 C2 C3 C4 C5 r) (h:mN N j C0 bc bZ cM cP cQ cg C1 C2 C3 C4 C5=some r):Sd 39 [(.op 0 0 0),(aI j)] [(0,vN 12 [(aI C0),(aI bc),(.os 1 0 C1.length),(.os 2 0 C2.length),(.os 3 0 C3.length),(.os 4 0 C4.length),(.os 5 0 C5.length),(aB bZ),(eU cM),(aB cP),(eU cQ),(aI cg)]),(1,aO 1 cI 0 C1),(2,aO 1 cI 0 C2),(3,aM 4 ah aa.d C3),(4,aO 4 ah aa.d C4),(5,aO 4 ah aa.d C5)] 6 (.fn (.func 82) [] [(.op 6 0 0),(.op 7 0 0)]) [(0,vN 12 [(aI C0),(aI bc),(.os 1 0 C1.length),(.os 2 0 C2.length),(.os 3 0 C3.length),(.os 4 0 C4.length),(.os 5 0 C5.length),(aB bZ),(eU cM),(aB cP),(eU cQ),(aI cg)]),(1,aO 1 cI 0 C1),(2,aO 1 cI 0 C2),(3,aM 4 ah aa.d C3),(4,aO 4 ah aa.d C4),(5,aO 4 ah aa.d C5),(6,vN 1 [(.op 0 0 0)]),(7,vO 1 [(aI r)])]:=by
 unfold mN at h
 refine iy (fu:=Tryz.f39) (c:=acX 1) (nt:=6) (fun hm=>absurd hm (by decide)) ?_
 intro E hE
 refine aj hE 1 [] [] (kp [2,3]) (kq [0,1,2,3,4,5,6,22]) 54 pn ?_
 refine aj hE 1 [] [] (kp [4]) (kq [0,1,2,3,4,5,6,22]) 86 pn ?_
 obtain rfl:=dx h
 exact dQ hE 0 Tryz.f39 [] (kp [4]) (kq [0,1,2,3,4,5,6] ++ [(7,.ak 22)]) 86 pn [] pn
noncomputable abbrev acY:=cG Tryz.f82
theorem qe (N mm C1 C12 C13 C14 C15 C16 C17 C2 C3 C4 C5 C6 C7 r) (h:jn N mm C1 C12 C13 C14 C15 C16 C17 C2 C3 C4 C5 C6 C7=some r):Sd 82 [(aI mm),(.op 0 0 0),(.op 7 0 0)] [(0,vN 1 [(.op 1 0 0)]),(1,vN 12 [(aI C1),(aI C12),(.os 2 0 C2.length),(.os 3 0 C3.length),(.os 4 0 C4.length),(.os 5 0 C5.length),(.os 6 0 C6.length),(aB C13),(eU C14),(aB C15),(eU C16),(aI C17)]),(2,aO 1 cI 0 C2),(3,aO 1 cI 0 C3),(4,aM 4 ah aa.d C4),(5,aO 4 ah aa.d C5),(6,aO 4 ah aa.d C6),(7,vO 1 [(aI C7)])] 8 (.agg (ah r)) [(0,vN 1 [(.op 1 0 0)]),(1,vN 12 [(aI C1),(aI C12),(.os 2 0 C2.length),(.os 3 0 C3.length),(.os 4 0 C4.length),(.os 5 0 C5.length),(.os 6 0 C6.length),(aB C13),(eU C14),(aB C15),(eU C16),(aI C17)]),(2,aO 1 cI 0 C2),(3,aO 1 cI 0 C3),(4,aM 4 ah aa.d C4),(5,aO 4 ah aa.d C5),(6,aO 4 ah aa.d C6),(7,vO 1 [(aI C7)])]:=by
 unfold jn at h
 refine iy (fu:=Tryz.f82) (c:=acY 1) (nt:=35) (fun hm=>absurd hm (by decide)) ?_
 intro E hE
 refine aj hE 1 [] [] (kp [0,1,2,4]) (kq [0,1,2,3,4,5,6,7,8]) 24 pn ?_
 obtain ⟨c,h⟩:=ae h
 refine aj hE 2 [] [] (kp [0,1,2,4,14]) (kq [0,1,2,3,4,5,6,7,8]) 168 (pc o1 (pc o1 (pc o1 (pc c (pc (dq c) pn))))) ?_
 refine dS 0 14 h (fun dR h=>?_) (fun dR h=>?_)
 ·obtain ⟨aw,hr,h⟩:=bt h
  refine aj hE 1 [(0,oT (.agg (ah aw)))] [] (kp [4]) (kq [0,1,2,3,4,5,6,7,8]) 200 (pc (dL _ _ _ hr) (pc o1 pn)) ?_
  obtain rfl:=dx h
  exact dQ hE 0 Tryz.f82 [] (kp [4]) (kq [0,1,2,3,4,5,6,7] ++ [(24,.ak 8)]) 200 pn [24] (pc o1 pn)
 ·obtain ⟨aP,eW,h⟩:=bt h
  refine aj hE 3 [(5,oT (aI aP))] [] (kp [1,2,4,5]) (kq [0,1,2,3,4,5,6,7,8]) 280 (pc o1 (pc o1 (pc (dy _ _ _ _ eW) (pc (z1 C2.length) pn)))) ?_
  refine aj hE 1 [] [] (kp [1,2,4,5,23]) (kq [0,1,2,3,4,5,6,7,8]) 312 pn ?_
  refine dS 0 23 h (fun iU h=>?_) (fun iU h=>?_)
  ·obtain ⟨c3,h⟩:=ae h
   refine Rr 4 ((aP).toNat) 4 ((C4.getD ((aP).toNat) []).length) (fun zi=>ah ((C4.getD ((aP).toNat) []).getD zi aa.d)) (pc c3 (pc (show bk [] (mG C4) ((aP).toNat)=mR 4 ah aa.d (C4.getD ((aP).toNat) []) from rfl) pn)) ?_
   obtain ⟨c4,h⟩:=ae h
   obtain ⟨c5,h⟩:=ae h
   refine aj hE 1 [(6,oF (.os 312 0 ((C4.getD ((aP).toNat) []).length)))] [] (kp [4]) (kq [0,1,2,3] ++ [(4,.pz 4 (C4.length) [((aP).toNat,312,(C4.getD ((aP).toNat) []).length)] (mG C4))] ++ kq [5,6,7,8,312]) 504 (pc o1 (pc o1 (pc c4 (pc (dq c4) (pc (show (bk [((aP).toNat,312,(C4.getD ((aP).toNat) []).length)] (mG C4) ((aP).toNat))[0]?=some (.os 312 0 ((C4.getD ((aP).toNat) []).length)) from (gO rfl)) (pc o1 (pc c5 (pc (dq c5) (pc o1 (pc (Eq.refl C4.length) (pc (mC C4 [((aP).toNat,312,(C4.getD ((aP).toNat) []).length)]) (pc (iM C4) pn)))))))))))) ?_
   refine Pt 4 312 ((aP).toNat) (pc c3 (pc (show bk [((aP).toNat,312,(C4.getD ((aP).toNat) []).length)] (mG C4) ((aP).toNat)=[.os 312 0 (C4.getD ((aP).toNat) []).length] from if_pos rfl) (pc (show ∀ zj,zj < (C4.getD ((aP).toNat) []).length→mL (ah ((C4.getD ((aP).toNat) []).getD zj aa.d))=true from fun _ _=>rfl) pn))) ?_
   refine J7 hE [] (kp [4]) (kq [0,1,2,3] ++ [(4,.pz 4 (C4.length) [] (mG C4))] ++ kq [5,6,7,8]) 504 (pc (Eq.refl (C4.length)) (pc (qY (sz:=4) (c:=ah) (d:=aa.d) C4 ((aP).toNat) 312 ((C4.getD ((aP).toNat) []).length) [] CO) (pc (iM C4) pn))) ?_
   obtain rfl:=dx h
   exact dQ hE 0 Tryz.f82 [] (kp [4]) (kq [0,1,2,3,4,5,6,7] ++ [(24,.ak 8)]) 504 pn [24] (pc o1 pn)
  ·obtain ⟨eZ,ly,h⟩:=bt h
   refine aj hE 2 [(0,oT (.agg (ah eZ)))] [] (kp [4]) (kq [0,1,2,3,4,5,6,7,8]) 344 (pc (dL _ _ _ ly) (pc o1 pn)) ?_
   obtain rfl:=dx h
   exact dQ hE 0 Tryz.f82 [] (kp [4]) (kq [0,1,2,3,4,5,6,7] ++ [(24,.ak 8)]) 344 pn [24] (pc o1 pn)
noncomputable abbrev U7:=cG Tryz.f38
def uj (N:Nat) (C0:Int) (bc:Int) (bZ:Bool) (cM:List Int) (cP:Bool) (cQ:List Int) (cg:Int) (C1:List Int) (C2:List Int) (C3:List (List aa)) (C4:List aa) (C5:List aa) (C7:Int) (K:(List aa)→Int→Option ((List aa))):Prop:=∀ (out:List aa) (x:Int) (r:(List aa)),K out x=some r→∀ E,aQ E 8→az Tryz.prog E 38 34 (aY E [(0,vN 12 [(aI C0),(aI bc),(.os 1 0 C1.length),(.os 2 0 C2.length),(.os 3 0 C3.length),(.os 4 0 C4.length),(.os 5 0 C5.length),(aB bZ),(eU cM),(aB cP),(eU cQ),(aI cg)]),(1,aO 1 cI 0 C1),(2,aO 1 cI 0 C2),(3,aM 4 ah aa.d C3),(4,aO 4 ah aa.d C4),(5,aO 4 ah aa.d C5),(6,vN 1 [(.op 0 0 0)]),(7,vO 1 [(aI C7)]),(8,aO 4 ah aa.d r)] (.os 8 0 r.length)) [.code (U7 116),.inLoop (U7 116),.inBlock 0,.code (U7 15)] ⟨[(0,(.op 0 0 0)),(1,(.fn (.func 82) [] [(.op 6 0 0),(.op 7 0 0)])),(5,(.os 8 0 out.length)),(13,(aI (((List.replicate ((C0).toNat) aa.d:List aa).length:Nat):Int))),(14,(aI x))],[(0,vN 12 [(aI C0),(aI bc),(.os 1 0 C1.length),(.os 2 0 C2.length),(.os 3 0 C3.length),(.os 4 0 C4.length),(.os 5 0 C5.length),(aB bZ),(eU cM),(aB cP),(eU cQ),(aI cg)]),(1,aO 1 cI 0 C1),(2,aO 1 cI 0 C2),(3,aM 4 ah aa.d C3),(4,aO 4 ah aa.d C4),(5,aO 4 ah aa.d C5),(6,vN 1 [(.op 0 0 0)]),(7,vO 1 [(aI C7)]),(8,aO 4 ah aa.d out)],9⟩
theorem tP (N C0 bc bZ cM cP cQ cg C1 C2 C3 C4 C5 C7 fuel):uj N C0 bc bZ cM cP cQ cg C1 C2 C3 C4 C5 C7 (dm N C0 bc bZ cM cP cQ cg C1 C2 C3 C4 C5 C7 fuel):=by
 induction fuel with
 | zero=>intro _ _ r h;rw [dm.eq_1] at h;cases h
 | succ fuel ih =>
  intro out x r h E hE
  rw [dm.eq_2] at h
  refine aj hE 1 [] [] (kp [0,1,5,13,14,15]) (kq [0,1,2,3,4,5,6,7,8]) 25 pn ?_
  refine dS 1 15 h (fun dR h=>?_) (fun dR h=>?_)
  ·refine aj hE 4 [] [] (kp [0,1,5,6,13,14]) (kq [0,1,2,3,4,5,6,7,8]) 57 pn ?_
   obtain ⟨Jo,hr,h⟩:=bt h
   obtain ⟨FT,eW,h⟩:=bt h
   obtain ⟨dc,ly,h⟩:=bt h
   obtain ⟨c2,h⟩:=ae h
   refine aj hE 0 [(4,⟨[6,0,1,2,3,4,5,7],true,(.agg (ah Jo)),[],0,false,none⟩),(12,⟨[6,0,1,2,3,4,5,7],true,(.agg (ah FT)),[],0,false,none⟩),(13,oT (.agg (ah dc)))] [] (kp [0,1] ++ [(5,.lP ((out.set ((x).toNat) dc).length))] ++ kp [13,14]) (kq [0,1,2,3,4,5,6,7] ++ [(8,.arr 8 ((out.set ((x).toNat) dc).length) (fun zi=>ah ((out.set ((x).toNat) dc).getD zi aa.d)))]) 313 (pc (qe _ _ _ _ _ _ _ _ _ _ _ _ _ _ _ _ hr) (pc (iM C3) (pc o1 (pc (qe _ _ _ _ _ _ _ _ _ _ _ _ _ _ _ _ eW) (pc (iM C3) (pc (my _ _ _ _ ly) (pc c2 (pc (dq c2) (pc (aJ out ((x).toNat) dc) (pc (aJ out ((x).toNat) dc) (pc (cR ah aa.d out ((x).toNat) dc) pn))))))))))) ?_
   refine aj hE 1 [] [] (kp [0,1,5,13,14]) (kq [0,1,2,3,4,5,6,7,8]) 345 pn ?_
   exact de hE 1 [] (kp [0,1,5,13,14]) (kq [0,1,2,3,4,5,6,7,8]) 9 pn (ih _ _ _ h E hE)
  ·refine aj hE 2 [] [] (kp [4]) (kq [0,1,2,3,4,5,6,7,8]) 57 pn ?_
   obtain rfl:=dx h
   exact dQ hE 0 Tryz.f38 [] (kp [4]) (kq [0,1,2,3,4,5,6,7,8]) 57 pn [] pn
theorem wa (N C0 bc bZ cM cP cQ cg C1 C2 C3 C4 C5 C7 r) (h:iQ N C0 bc bZ cM cP cQ cg C1 C2 C3 C4 C5 C7=some r):Sd 38 [(.op 0 0 0),(.fn (.func 82) [] [(.op 6 0 0),(.op 7 0 0)])] [(0,vN 12 [(aI C0),(aI bc),(.os 1 0 C1.length),(.os 2 0 C2.length),(.os 3 0 C3.length),(.os 4 0 C4.length),(.os 5 0 C5.length),(aB bZ),(eU cM),(aB cP),(eU cQ),(aI cg)]),(1,aO 1 cI 0 C1),(2,aO 1 cI 0 C2),(3,aM 4 ah aa.d C3),(4,aO 4 ah aa.d C4),(5,aO 4 ah aa.d C5),(6,vN 1 [(.op 0 0 0)]),(7,vO 1 [(aI C7)])] 8 (.os 8 0 r.length) [(0,vN 12 [(aI C0),(aI bc),(.os 1 0 C1.length),(.os 2 0 C2.length),(.os 3 0 C3.length),(.os 4 0 C4.length),(.os 5 0 C5.length),(aB bZ),(eU cM),(aB cP),(eU cQ),(aI cg)]),(1,aO 1 cI 0 C1),(2,aO 1 cI 0 C2),(3,aM 4 ah aa.d C3),(4,aO 4 ah aa.d C4),(5,aO 4 ah aa.d C5),(6,vN 1 [(.op 0 0 0)]),(7,vO 1 [(aI C7)]),(8,aO 4 ah aa.d r)]:=by
 unfold iQ at h
 refine iy (fu:=Tryz.f38) (c:=U7 1) (nt:=34) (fun hm=>absurd hm (by decide)) ?_
 intro E hE
 refine aj hE 1 [] [] (kp [0,1]) (kq [0,1,2,3,4,5,6,7]) 24 pn ?_
 obtain ⟨c,h⟩:=ae h
 refine aj hE 1 [] [] (kp [0,1] ++ [(5,.lP ((List.replicate ((C0).toNat) aa.d:List aa).length))]) (kq [0,1,2,3,4,5,6,7] ++ [(88,.Tz 88 ((List.replicate ((C0).toNat) aa.d:List aa).length) (fun zi=>ah ((List.replicate ((C0).toNat) aa.d:List aa).getD zi aa.d)))]) 120 (pc o1 (pc (show 0≤C0 from c.1) (pc (show C0≤C0 from (Int.le_refl _)) (pc (show (64:Int) * C0≤281474976710656 from c.2.1) (pc (show C0≤9223372036854775807 from c.2.2) (pc (show (C0).toNat=(List.replicate ((C0).toNat) aa.d:List aa).length from (dn).symm) (pc (show (List.replicate ((C0).toNat) aa.d:List aa).length≤(C0).toNat from (Nat.le_of_eq (Eq.symm ((dn).symm)))) (pc (show ∀ zi,zi < (List.replicate ((C0).toNat) aa.d:List aa).length→KJ ((fun _=>[(aB false),.nil,(aB false),.nil]) zi) ((fun zi=>ah ((List.replicate ((C0).toNat) aa.d:List aa).getD zi aa.d)) zi) from (fun zq j5=>qC ah aa.d aa.d ((C0).toNat) zq ⟨.inl rfl,.inr ⟨rfl,_,rfl⟩,.inl rfl,.inr ⟨rfl,_,rfl⟩,trivial⟩ j5)) pn)))))))) ?_
 refine aj hE 2 [] [] (kp [0,1,5,13,14]) (kq [0,1,2,3,4,5,6,7,88]) 168 pn ?_
 exact de hE 2 [] (kp [0,1,5,13,14]) (kq [0,1,2,3,4,5,6,7] ++ [(8,.ak 88)]) 9 pn (tP N _ _ _ _ _ _ _ _ _ _ _ _ _ N _ _ _ h E hE)
noncomputable abbrev acZ:=cG Tryz.f8
theorem Er (N ab l r) (h:kZ N ab l=some r):Sd 8 [(aN ah aa.d ab),(aN Aj aH.d l)] [] 0 (.tup [(.agg (n6.cells r.1)),(aI r.2)]) []:=by
 unfold kZ at h
 refine iy (fu:=Tryz.f8) (c:=acZ 1) (nt:=51) (fun hm=>rfl) ?_
 intro E hE
 refine aj hE 1 [] [] (kp [0,1,4]) (kq [0]) 32 pn ?_
 obtain ⟨bP,hr,h⟩:=bt h
 refine aj hE 2 [(3,oT (aI bP))] [] (kp [0,1,4,6]) (kq [0]) 112 (pc (vL _ _ _ _ hr) pn) ?_
 refine aj hE 1 [] [] (kp [0,1,4,6,14]) (kq [0]) 144 pn ?_
 refine dS 0 14 h (fun dR h=>?_) (fun dR h=>?_)
 ·refine aj hE 1 [] [] (kp [4,5]) (kq [0]) 208 (pc o1 pn) ?_
  obtain rfl:=dx h
  exact dQ hE 0 Tryz.f8 [] (kp [4,5]) [(16,.var 0 [.ak,.sl (([]:List Int).length) (fun zi=>(cU .u16) (([]:List Int).getD zi 0)),.ak,.sl (([]:List Int).length) (fun zi=>(cU .u16) (([]:List Int).getD zi 0)),.sl (([]:List aa).length) (fun zi=>ah (([]:List aa).getD zi aa.d)),.sl (([]:List aa).length) (fun zi=>ah (([]:List aa).getD zi aa.d))])] 208 (pc (Eq.refl 0) (pc (Eq.refl 0) (pc (Eq.refl 0) (pc (Eq.refl 0) pn)))) [16] (pc o1 pn)
 ·obtain ⟨bQ,eW,h⟩:=bt h
  refine aj hE 2 [(3,⟨[],true,(.op 0 0 0),[(0,vN 12 [(aI bQ.rf),(aI bQ.rh),(.os 1 0 bQ.gY.length),(.os 2 0 bQ.lF.length),(.os 3 0 bQ.Hd.length),(.os 4 0 bQ.He.length),(.os 5 0 bQ.dJ.length),(aB bQ.af.fN.fG),(eU bQ.af.fN.fL),(aB bQ.af.fD.fG),(eU bQ.af.fD.fL),(aI bQ.bC)]),(1,aO 1 cI 0 bQ.gY),(2,aO 1 cI 0 bQ.lF),(3,aM 4 ah aa.d bQ.Hd),(4,aO 4 ah aa.d bQ.He),(5,aO 4 ah aa.d bQ.dJ)],0,false,none⟩)] [] (kp [0,4,7]) (kq [0,192,193,194,195,196,197]) 224 (pc (BL _ _ _ _ eW) pn) ?_
  obtain ⟨ay,ly,h⟩:=bt h
  obtain ⟨c,h⟩:=ae h
  obtain ⟨c2,h⟩:=ae h
  obtain ⟨c3,h⟩:=ae h
  refine aj hE 2 [(1,⟨[192,193,194,195,196,197],false,(aB ay.1),[(0,vN 12 [(aI ay.2.1.rf),(aI ay.2.1.rh),(.os 1 0 ay.2.2.1.length),(.os 2 0 ay.2.2.2.1.length),(.os 3 0 ay.2.2.2.2.1.length),(.os 4 0 ay.2.2.2.2.2.length),(.os 6 0 ay.2.1.dJ.length),(aB ay.2.1.af.fN.fG),(eU ay.2.1.af.fN.fL),(aB ay.2.1.af.fD.fG),(eU ay.2.1.af.fD.fL),(aI ay.2.1.bC)]),(1,aO 1 cI 0 ay.2.2.1),(2,aO 1 cI 0 ay.2.2.2.1),(3,aM 4 ah aa.d ay.2.2.2.2.1),(4,aO 4 ah aa.d ay.2.2.2.2.2),(6,aO 4 ah aa.d ay.2.1.dJ)],0,false,none⟩)] [] (kp [0,4,7,23]) (kq [0,192,193,194,195,196,240]) 272 (pc (qo _ _ _ _ _ _ _ _ _ _ _ _ _ _ ly) pn) ?_
  refine dS 0 23 h (fun iU h=>?_) (fun iU h=>?_)
  ·obtain ⟨cJ,oi,h⟩:=bt h
   refine aj hE 1 [(1,⟨[192,193,194,195,196,240],true,(.os 6 0 cJ.length),[(6,aO 4 ah aa.d cJ)],0,false,none⟩)] [] (kp [4,5]) (kq [0,288]) 352 (pc (j6 _ _ _ _ _ _ _ _ _ _ _ _ _ _ oi) (pc (iM ay.2.2.2.2.1) (pc o1 pn))) ?_
   obtain rfl:=dx h
   exact dQ hE 0 Tryz.f8 [288] (kp [4,5]) [(16,.var 0 [.ak,.sl (([]:List Int).length) (fun zi=>(cU .u16) (([]:List Int).getD zi 0)),.ak,.sl (([]:List Int).length) (fun zi=>(cU .u16) (([]:List Int).getD zi 0)),.sl (([]:List aa).length) (fun zi=>ah (([]:List aa).getD zi aa.d)),.sl (cJ.length) (fun zi=>ah (cJ.getD zi aa.d))])] 352 (pc (Eq.refl 0) (pc (Eq.refl 0) (pc (Eq.refl 0) (pc (Eq.refl cJ.length) (pc (z1 cJ.length) (pc (aZ cJ.length (fun zi=>ah (cJ.getD zi aa.d))) pn)))))) [16] (pc o1 pn)
  ·obtain ⟨vK,tZ,h⟩:=bt h
   obtain ⟨c4,h⟩:=ae h
   refine aj hE 2 [(2,⟨[192,193,194,195,196,240],false,(.tup []),[(0,vN 12 [(aI vK.1.rf),(aI vK.1.rh),(.os 1 0 ay.2.2.1.length),(.os 2 0 ay.2.2.2.1.length),(.os 3 0 ay.2.2.2.2.1.length),(.os 4 0 ay.2.2.2.2.2.length),(.os 5 0 vK.2.length),(aB vK.1.af.fN.fG),(eU vK.1.af.fN.fL),(aB vK.1.af.fD.fG),(eU vK.1.af.fD.fL),(aI vK.1.bC)]),(1,aO 1 cI 0 ay.2.2.1),(2,aO 1 cI 0 ay.2.2.2.1),(3,aM 4 ah aa.d ay.2.2.2.2.1),(4,aO 4 ah aa.d ay.2.2.2.2.2),(5,aO 4 ah aa.d vK.2)],0,false,none⟩)] [] (kp [4,7]) (kq [0,192,193,194,195,196,240]) 320 (pc (AU _ _ _ _ _ _ _ _ _ _ _ _ _ _ _ tZ) pn) ?_
   obtain ⟨aF,yu,h⟩:=bt h
   obtain ⟨c5,h⟩:=ae h
   obtain ⟨c6,h⟩:=ae h
   obtain ⟨c7,h⟩:=ae h
   obtain ⟨c8,h⟩:=ae h
   obtain ⟨c9,h⟩:=ae h
   refine aj hE 2 [(1,⟨[192,193,194,195,196,240],false,(aI aF.1),[(0,vN 12 [(aI aF.2.1.rf),(aI aF.2.1.rh),(.os 1 0 aF.2.2.1.length),(.os 2 0 aF.2.2.2.1.length),(.os 3 0 aF.2.2.2.2.1.length),(.os 4 0 aF.2.2.2.2.2.1.length),(.os 5 0 aF.2.2.2.2.2.2.length),(aB aF.2.1.af.fN.fG),(eU aF.2.1.af.fN.fL),(aB aF.2.1.af.fD.fG),(eU aF.2.1.af.fD.fL),(aI aF.2.1.bC)]),(1,aO 1 cI 0 aF.2.2.1),(2,aO 1 cI 0 aF.2.2.2.1),(3,aM 4 ah aa.d aF.2.2.2.2.1),(4,aO 4 ah aa.d aF.2.2.2.2.2.1),(5,aO 4 ah aa.d aF.2.2.2.2.2.2)],0,false,none⟩)] [] (kp [4,7,8]) (kq [0,192,193,194,195,196,240]) 368 (pc (rC _ _ _ _ _ _ _ _ _ _ _ _ _ _ yu) pn) ?_
   refine aj hE 1 [] [] (kp [4,7,8,33]) (kq [0,192,193,194,195,196,240]) 400 pn ?_
   refine dS 0 33 h (fun rm h=>?_) (fun rm h=>?_)
   ·obtain ⟨FU,AQ,h⟩:=bt h
    obtain ⟨jZ,Hv,h⟩:=bt h
    refine aj hE 1 [(3,⟨[192,193,194,195,196,240],true,(.fn (.func 82) [] [(.op 6 0 0),(.op 7 0 0)]),[(6,vN 1 [(.op 0 0 0)]),(7,vO 1 [(aI FU)])],0,false,none⟩),(4,⟨[192,193,194,195,196,240,448,449],true,(.os 8 0 jZ.length),[(8,aO 4 ah aa.d jZ)],0,false,none⟩)] [] (kp [4,5]) (kq [0,464]) 528 (pc (yF _ _ _ _ _ _ _ _ _ _ _ _ _ _ _ AQ) (pc (iM aF.2.2.2.2.1) (pc (wa _ _ _ _ _ _ _ _ _ _ _ _ _ _ _ Hv) (pc (iM aF.2.2.2.2.1) (pc o1 pn))))) ?_
    obtain rfl:=dx h
    exact dQ hE 0 Tryz.f8 [464] (kp [4,5]) [(16,.var 0 [.ak,.sl (([]:List Int).length) (fun zi=>(cU .u16) (([]:List Int).getD zi 0)),.ak,.sl (([]:List Int).length) (fun zi=>(cU .u16) (([]:List Int).getD zi 0)),.sl (jZ.length) (fun zi=>ah (jZ.getD zi aa.d)),.sl (([]:List aa).length) (fun zi=>ah (([]:List aa).getD zi aa.d))])] 528 (pc (Eq.refl 0) (pc (Eq.refl 0) (pc (Eq.refl jZ.length) (pc (z1 jZ.length) (pc (aZ jZ.length (fun zi=>ah (jZ.getD zi aa.d))) (pc (Eq.refl 0) pn)))))) [16] (pc o1 pn)
   ·obtain ⟨oV,Hu,h⟩:=bt h
    obtain ⟨fg,AP,h⟩:=bt h
    refine aj hE 2 [(7,⟨[192,193,194,195,196,240],true,(.os 6 0 oV.length),[(6,aO 4 ah aa.d oV)],0,false,none⟩),(9,⟨[192,193,194,195,196,240],true,(.os 6 0 fg.length),[(6,aO 4 ah aa.d fg)],0,false,none⟩)] [] (kp [4,5]) (kq [0,512,544]) 608 (pc o1 (pc (rF _ _ _ _ _ _ _ _ _ _ _ _ _ _ Hu) (pc (iM aF.2.2.2.2.1) (pc (j6 _ _ _ _ _ _ _ _ _ _ _ _ _ _ AP) (pc (iM aF.2.2.2.2.1) (pc o1 pn)))))) ?_
    obtain rfl:=dx h
    exact dQ hE 0 Tryz.f8 [512,544] (kp [4,5]) [(16,.var 0 [.ak,.ak,.ak,.ak,.sl (oV.length) (fun zi=>ah (oV.getD zi aa.d)),.sl (fg.length) (fun zi=>ah (fg.getD zi aa.d))])] 608 (pc (Eq.refl oV.length) (pc (z1 oV.length) (pc (aZ oV.length (fun zi=>ah (oV.getD zi aa.d))) (pc (Eq.refl fg.length) (pc (z1 fg.length) (pc (aZ fg.length (fun zi=>ah (fg.getD zi aa.d))) pn)))))) [16] (pc o1 pn)
noncomputable abbrev U8:=cG Tryz.f84
def Es (N:Nat) (neg:Bool) (a:List Int) (K:(List Int)→Int→Option (bM)):Prop:=∀ (x:List Int) (i:Int) (r:bM),K x i=some r→∀ E,aQ E 0→az Tryz.prog E 84 31 (aY E [] (.agg (im r))) [.code (U8 116),.inLoop (U8 116),.inBlock 0,.code (U8 15)] ⟨[(1,(aN cI 0 a)),(4,(.op 0 0 0)),(5,(.op 1 0 0)),(6,(aI i))],[(0,vO 2 [(aB false),.nil]),(1,vN 2 [(aB (cond neg (decide (((a.length:Nat):Int) > 0)) false)),(.os 2 0 x.length)]),(2,aU x)],3⟩
theorem De (N neg a fuel):Es N neg a (jG N neg a fuel):=by
 induction fuel with
 | zero=>intro _ _ r h;rw [jG.eq_1] at h;cases h
 | succ fuel ih =>
  intro x i r h E hE
  rw [jG.eq_2] at h
  refine aj hE 2 [] [] (kp [1,4,5,6,17]) (kq [0,1,2]) 67 pn ?_
  refine dS 0 17 h (fun dR h=>?_) (fun dR h=>?_)
  ·obtain ⟨c,h⟩:=ae h
   obtain ⟨c2,h⟩:=ae h
   refine aj hE 3 [] [] (kp [1,4,5,6]) (kq [0] ++ [(1,.var 1 [.ak,.lP ((x ++ ([(IntKind.u16.wrap ((a.getD ((i).toNat) 0)))]:List Int)).length)]),(195,.arr 195 ((x ++ ([(IntKind.u16.wrap ((a.getD ((i).toNat) 0)))]:List Int)).length) (fun zi=>(cU .u16) ((x ++ ([(IntKind.u16.wrap ((a.getD ((i).toNat) 0)))]:List Int)).getD zi 0)))]) 243 (pc o1 (pc c (pc (Eq.refl x.length) (pc c2 (pc (z1 1) (pc (show ∀ zi,zi < 1→AV.ko ((fun zi=>([[(wq (IntKind.u16.wrap ((a.getD ((i).toNat) 0))))]]:List (List AV)).getD zi []) (bT 0 zi))=true from (zT rfl)) (pc o1 (pc (show (x.length+1)=(x ++ ([(IntKind.u16.wrap ((a.getD ((i).toNat) 0)))]:List Int)).length from (bA rfl rfl)) (pc (show x.length+1=(x ++ ([(IntKind.u16.wrap ((a.getD ((i).toNat) 0)))]:List Int)).length from (bA rfl rfl)) (pc (show ∀ zi,zi < (x ++ ([(IntKind.u16.wrap ((a.getD ((i).toNat) 0)))]:List Int)).length→(fun zi=>(cU .u16) ((x ++ ([(IntKind.u16.wrap ((a.getD ((i).toNat) 0)))]:List Int)).getD zi 0)) zi=((fun zm=>if zm < x.length then (fun zi=>(cU .u16) (x.getD zi 0)) zm else (fun zi=>([[(wq (IntKind.u16.wrap ((a.getD ((i).toNat) 0))))]]:List (List AV)).getD zi []) (zm - x.length))) zi from (dT (cU .u16) 0 x ([(IntKind.u16.wrap ((a.getD ((i).toNat) 0)))]:List Int) rfl (fun _ _=>rfl) (fun zq j5=>dP (cU .u16) 0 ([(IntKind.u16.wrap ((a.getD ((i).toNat) 0)))]:List Int) zq j5))) pn)))))))))) ?_
   refine aj hE 1 [] [] (kp [1,4,5,6]) (kq [0,1,195]) 291 pn ?_
   exact de hE 1 [] (kp [1,4,5,6]) (kq [0,1] ++ [(2,.ak 195)]) 3 pn (ih _ _ _ h E hE)
  ·refine aj hE 2 [] [] (kp [4]) (kq [0,2]) 99 (pc o1 (pc o1 pn)) ?_
   obtain rfl:=dx h
   exact dQ hE 0 Tryz.f84 [2] (kp [4]) [(16,.var 0 [.ak,.sl (x.length) (fun zi=>(cU .u16) (x.getD zi 0))])] 99 (pc (Eq.refl x.length) (pc (z1 x.length) (pc (aZ x.length (fun zi=>(cU .u16) (x.getD zi 0))) pn))) [16] (pc o1 pn)
theorem iA (N neg a r) (h:fy N neg a=some r):Sd 84 [(aB neg),(aN cI 0 a)] [] 0 (.agg (im r)) []:=by
 unfold fy at h
 refine iy (fu:=Tryz.f84) (c:=U8 1) (nt:=31) (fun hm=>rfl) ?_
 intro E hE
 refine aj hE 1 [] [] (kp [0,1,4]) (kq [0]) 16 pn ?_
 refine aj hE 1 [] [] (kp [1,4,5]) (kq [0,128]) 160 (pc (fun hg:neg=true=>(pc hg pn)) (pc (fun hg:neg=true=>(pc hg pn)) (pc (fun hq:neg=true=>(pc hq pn)) (pc o1 pn)))) ?_
 refine aj hE 2 [] [] (kp [1,4,5,6]) (kq [0,128]) 176 pn ?_
 exact de hE 2 [] (kp [1,4,5,6]) (kq [0] ++ [(1,.var 128 [.ak,.sD 2]),(2,.nil 1 (fun zi=>(cU .u16) (([]:List Int).getD zi 0)))]) 3 pn (De N _ _ N _ _ _ h E hE)
noncomputable abbrev U9:=cG Tryz.f85
def HE (N:Nat) (n:Int) (K:(List Int)→Int→Option (bM)):Prop:=∀ (a:List Int) (u:Int) (r:bM),K a u=some r→∀ E,aQ E 0→az Tryz.prog E 85 25 (aY E [] (.agg (im r))) [.code (U9 248),.inLoop (U9 248),.inBlock 0,.code (U9 63)] ⟨[(0,(aI n)),(2,(.op 0 0 0)),(3,(.os 1 0 a.length)),(4,(Is u))],[(0,vO 2 [(aB false),.nil]),(1,aO 1 cI 0 a)],2⟩
theorem yG (N n fuel):HE N n (k5 N n fuel):=by
 induction fuel with
 | zero=>intro _ _ r h;rw [k5.eq_1] at h;cases h
 | succ fuel ih =>
  intro a u r h E hE
  rw [k5.eq_2] at h
  refine aj hE 2 [] [] (kp [0,2,3,4,12]) (kq [0,1]) 34 pn ?_
  refine dS 0 12 h (fun iU h=>?_) (fun iU h=>?_)
  ·obtain ⟨c,h⟩:=ae h
   refine aj hE 3 [] [] (kp [0,2] ++ [(3,.lP ((a ++ ([(aq ((u.tmod 65536)))]:List Int)).length))] ++ kp [4]) (kq [0] ++ [(114,.arr 114 ((a ++ ([(aq ((u.tmod 65536)))]:List Int)).length) (fun zi=>cI ((a ++ ([(aq ((u.tmod 65536)))]:List Int)).getD zi 0)))]) 146 (pc (show (65536:Int)≠0 by decide) (pc (Eq.refl a.length) (pc c (pc (z1 1) (pc (show ∀ zi,zi < 1→AV.ko ((fun zi=>([[(aI (aq ((u.tmod 65536))))]]:List (List AV)).getD zi []) (bT 0 zi))=true from (zT rfl)) (pc (show (a.length+1)=(a ++ ([(aq ((u.tmod 65536)))]:List Int)).length from (bA rfl rfl)) (pc (show a.length+1=(a ++ ([(aq ((u.tmod 65536)))]:List Int)).length from (bA rfl rfl)) (pc (show ∀ zi,zi < (a ++ ([(aq ((u.tmod 65536)))]:List Int)).length→(fun zi=>cI ((a ++ ([(aq ((u.tmod 65536)))]:List Int)).getD zi 0)) zi=((fun zm=>if zm < a.length then (fun zi=>cI (a.getD zi 0)) zm else (fun zi=>([[(aI (aq ((u.tmod 65536))))]]:List (List AV)).getD zi []) (zm - a.length))) zi from (dT cI 0 a ([(aq ((u.tmod 65536)))]:List Int) rfl (fun _ _=>rfl) (fun zq j5=>dP cI 0 ([(aq ((u.tmod 65536)))]:List Int) zq j5))) pn)))))))) ?_
   refine aj hE 1 [] [] (kp [0,2,3,4]) (kq [0,114]) 194 (pc (show (65536:Int)≠0 by decide) pn) ?_
   exact de hE 1 [] (kp [0,2,3,4]) (kq [0] ++ [(1,.ak 114)]) 2 pn (ih _ _ _ h E hE)
  ·obtain ⟨p9,hr,h⟩:=bt h
   refine aj hE 2 [(3,⟨[],true,(.agg (im p9)),[],0,true,none⟩)] [] (kp [2]) (kq [0]) 114 (pc (iA _ _ _ _ hr) (pc (z1 a.length) (pc o1 pn))) ?_
   obtain rfl:=dx h
   exact dQ hE 0 Tryz.f85 [] (kp [2]) [(16,.ak 0)] 114 pn [16] (pc o1 pn)
theorem yH (N n r) (h:rk N n=some r):Sd 85 [(aI n)] [] 0 (.agg (im r)) []:=by
 unfold rk at h
 refine iy (fu:=Tryz.f85) (c:=U9 1) (nt:=25) (fun hm=>rfl) ?_
 intro E hE
 refine aj hE 1 [] [] (kp [0,2]) (kq [0]) 16 pn ?_
 refine aj hE 1 [] [] (kp [0,2,3]) (kq [0]) 32 pn ?_
 refine aj hE 1 [] [] (kp [0,2,3,4]) (kq [0]) 80 pn ?_
 refine aj hE 2 [] [] (kp [0,2,3,4,8]) (kq [0]) 112 pn ?_
 refine dS 0 8 h (fun dR h=>?_) (fun dR h=>?_)
 ·refine aj hE 0 [] [] (kp [0,2,3,4]) (kq [0]) 160 pn ?_
  exact de hE 3 [] (kp [0,2] ++ [(3,.sD 1)] ++ kp [4]) (kq [0] ++ [(1,.nil 1 (fun zi=>cI (([]:List Int).getD zi 0)))]) 2 pn (yG N _ N _ _ _ h E hE)
 ·exact de hE 4 [] (kp [0,2] ++ [(3,.sD 1)] ++ kp [4]) (kq [0] ++ [(1,.nil 1 (fun zi=>cI (([]:List Int).getD zi 0)))]) 2 pn (yG N _ N _ _ _ h E hE)
noncomputable abbrev ac0:=cG Tryz.f51
theorem AW (N n r) (h:ux N n=some r):Sd 51 [(aI n)] [] 0 (.agg (ah r)) []:=by
 unfold ux at h
 refine iy (fu:=Tryz.f51) (c:=ac0 1) (nt:=7) (fun hm=>rfl) ?_
 intro E hE
 refine aj hE 1 [] [] (kp [0,2]) (kq [0]) 16 pn ?_
 obtain ⟨J9,hr,h⟩:=bt h
 obtain ⟨MT,eW,h⟩:=bt h
 refine aj hE 1 [(1,oT (.agg (im J9))),(2,oT (.agg (im MT)))] [] (kp [2]) (kq [0]) 96 (pc (yH _ _ _ hr) (pc (yH _ _ _ eW) (pc o1 pn))) ?_
 obtain rfl:=dx h
 exact dQ hE 0 Tryz.f51 [] (kp [2]) [(16,.ak 0)] 96 pn [16] (pc o1 pn)
noncomputable abbrev Va:=cG Tryz.f111
def Et (N:Nat) (a:List Int) (K:Int→Option ((List Int))):Prop:=∀ (n:Int) (r:(List Int)),K n=some r→∀ E,aQ E 0→az Tryz.prog E 111 23 (aY E [] (aN cI 0 r)) [.code (Va 56),.inLoop (Va 56),.inBlock 0,.code (Va 15)] ⟨[(0,(aN cI 0 a)),(3,(aI n))],[],0⟩
theorem Df (N a fuel):Et N a (jH N a fuel):=by
 induction fuel with
 | zero=>intro _ r h;rw [jH.eq_1] at h;cases h
 | succ fuel ih =>
  intro n r h E hE
  rw [jH.eq_2] at h
  obtain ⟨c,h⟩:=ae h
  refine aj hE 2 [] [] (kp [0,3,15]) [] 160 (pc (fun hg:(decide (n > 0))=true=>(pc hg pn)) (pc (fun hg:(decide (n > 0))=true=>(pc hg (pc hg (pc (c hg) pn)))) (pc (fun hg:(decide (n > 0))=true=>(pc hg pn)) (pc (fun hg:(decide (n > 0))=true=>(pc hg pn)) (pc (fun hq:(decide (n > 0))=true=>(pc hq pn)) pn))))) ?_
  refine dS 0 15 h (fun dR h=>?_) (fun dR h=>?_)
  ·refine aj hE 2 [] [] (kp [0,3]) [] 208 pn ?_
   exact de hE 2 [] (kp [0,3]) [] 0 pn (ih _ _ h E hE)
  ·obtain ⟨c2,h⟩:=ae h
   obtain ⟨c3,h⟩:=ae h
   obtain ⟨c4,h⟩:=ae h
   refine aj hE 2 [] [] [(2,.lP ((([]:List Int) ++ ((a.take ((n).toNat)).drop 0)).length))] [(224,.arr 224 ((([]:List Int) ++ ((a.take ((n).toNat)).drop 0)).length) (fun zi=>cI ((([]:List Int) ++ ((a.take ((n).toNat)).drop 0)).getD zi 0)))] 256 (pc c2 (pc c3 (pc (Eq.refl 0) (pc c4 (pc (show ∀ zi,zi < ((n).toNat - 0)→AV.ko ((fun zi=>cI (a.getD (bT 0 zi) 0)) zi)=true from (fun _ _=>rfl)) (pc (show (0+((n).toNat - 0))=(([]:List Int) ++ ((a.take ((n).toNat)).drop 0)).length from (bA rfl (Bz a 0 ((n).toNat) c2))) (pc (show 0+((n).toNat - 0)=(([]:List Int) ++ ((a.take ((n).toNat)).drop 0)).length from (bA rfl (Bz a 0 ((n).toNat) c2))) (pc (show ∀ zi,zi < (([]:List Int) ++ ((a.take ((n).toNat)).drop 0)).length→(fun zi=>cI ((([]:List Int) ++ ((a.take ((n).toNat)).drop 0)).getD zi 0)) zi=((fun zm=>if zm < 0 then (fun _=>[]) zm else (fun zi=>cI (a.getD (bT 0 zi) 0)) (zm - 0))) zi from (dT cI 0 ([]:List Int) ((a.take ((n).toNat)).drop 0) rfl (fun zq j5=>absurd j5 (dN _)) (fun zq j5=>Jd cI 0 a 0 ((n).toNat) zq j5))) pn)))))))) ?_
   obtain rfl:=dx h
   exact dQ hE 0 Tryz.f111 [224] [(2,.sl ((([]:List Int) ++ ((a.take ((n).toNat)).drop 0)).length) (fun zi=>cI ((([]:List Int) ++ ((a.take ((n).toNat)).drop 0)).getD zi 0)))] [] 256 (pc (Eq.refl ((([]:List Int) ++ ((a.take ((n).toNat)).drop 0)).length)) (pc (z1 ((([]:List Int) ++ ((a.take ((n).toNat)).drop 0)).length)) (pc (aZ ((([]:List Int) ++ ((a.take ((n).toNat)).drop 0)).length) (fun zi=>cI ((([]:List Int) ++ ((a.take ((n).toNat)).drop 0)).getD zi 0))) pn))) [] pn
theorem mz (N a r) (h:l6 N a=some r):Sd 111 [(aN cI 0 a)] [] 0 (aN cI 0 r) []:=by
 unfold l6 at h
 refine iy (fu:=Tryz.f111) (c:=Va 1) (nt:=23) (fun hm=>rfl) ?_
 intro E hE
 refine aj hE 1 [] [] (kp [0]) [] 16 pn ?_
 refine aj hE 1 [] [] (kp [0,3]) [] 64 pn ?_
 exact de hE 3 [] (kp [0,3]) [] 0 pn (Df N _ N _ _ h E hE)
noncomputable abbrev Vb:=cG Tryz.f83
def Eu (N:Nat) (l:List Int) (K:(List Int)→Int→Option ((List Int))):Prop:=∀ (a:List Int) (i:Int) (r:(List Int)),K a i=some r→∀ E,aQ E 0→az Tryz.prog E 83 21 (aY E [] (aN cI 0 r)) [.code (Vb 116),.inLoop (Vb 116),.inBlock 0,.code (Vb 15)] ⟨[(0,(eU l)),(3,(.os 0 0 a.length)),(4,(aI i))],[(0,aO 1 cI 0 a)],1⟩
theorem Dg (N l fuel):Eu N l (jI N l fuel):=by
 induction fuel with
 | zero=>intro _ _ r h;rw [jI.eq_1] at h;cases h
 | succ fuel ih =>
  intro a i r h E hE
  rw [jI.eq_2] at h
  refine aj hE 2 [] [] (kp [0,3,4,8]) (kq [0]) 65 pn ?_
  refine dS 0 8 h (fun dR h=>?_) (fun dR h=>?_)
  ·obtain ⟨c,h⟩:=ae h
   obtain ⟨c2,h⟩:=ae h
   refine aj hE 3 [] [] (kp [0] ++ [(3,.lP ((a ++ ([(aq ((l.getD ((i).toNat) 0)))]:List Int)).length))] ++ kp [4]) [(177,.arr 177 ((a ++ ([(aq ((l.getD ((i).toNat) 0)))]:List Int)).length) (fun zi=>cI ((a ++ ([(aq ((l.getD ((i).toNat) 0)))]:List Int)).getD zi 0)))] 209 (pc c (pc (Eq.refl a.length) (pc c2 (pc (z1 1) (pc (show ∀ zi,zi < 1→AV.ko ((fun zi=>([[(aI (aq ((l.getD ((i).toNat) 0))))]]:List (List AV)).getD zi []) (bT 0 zi))=true from (zT rfl)) (pc (show (a.length+1)=(a ++ ([(aq ((l.getD ((i).toNat) 0)))]:List Int)).length from (bA rfl rfl)) (pc (show a.length+1=(a ++ ([(aq ((l.getD ((i).toNat) 0)))]:List Int)).length from (bA rfl rfl)) (pc (show ∀ zi,zi < (a ++ ([(aq ((l.getD ((i).toNat) 0)))]:List Int)).length→(fun zi=>cI ((a ++ ([(aq ((l.getD ((i).toNat) 0)))]:List Int)).getD zi 0)) zi=((fun zm=>if zm < a.length then (fun zi=>cI (a.getD zi 0)) zm else (fun zi=>([[(aI (aq ((l.getD ((i).toNat) 0))))]]:List (List AV)).getD zi []) (zm - a.length))) zi from (dT cI 0 a ([(aq ((l.getD ((i).toNat) 0)))]:List Int) rfl (fun _ _=>rfl) (fun zq j5=>dP cI 0 ([(aq ((l.getD ((i).toNat) 0)))]:List Int) zq j5))) pn)))))))) ?_
   refine aj hE 1 [] [] (kp [0,3,4]) (kq [177]) 257 pn ?_
   exact de hE 1 [] (kp [0,3,4]) [(0,.ak 177)] 1 pn (ih _ _ _ h E hE)
  ·obtain ⟨b8,hr,h⟩:=bt h
   refine aj hE 2 [(1,⟨[],true,(aN cI 0 b8),[],0,true,none⟩)] [] (kp [2]) [] 113 (pc (mz _ _ _ hr) (pc (z1 a.length) pn)) ?_
   obtain rfl:=dx h
   exact dQ hE 0 Tryz.f83 [] (kp [2]) [] 113 pn [] pn
theorem jK (N l r) (h:ic N l=some r):Sd 83 [(eU l)] [] 0 (aN cI 0 r) []:=by
 unfold ic at h
 refine iy (fu:=Tryz.f83) (c:=Vb 1) (nt:=21) (fun hm=>rfl) ?_
 intro E hE
 refine aj hE 1 [] [] (kp [0]) [] 16 pn ?_
 refine aj hE 1 [] [] (kp [0,3]) [] 32 pn ?_
 refine aj hE 2 [] [] (kp [0,3,4]) [] 48 pn ?_
 exact de hE 2 [] (kp [0] ++ [(3,.sD 0)] ++ kp [4]) [(0,.nil 1 (fun zi=>cI (([]:List Int).getD zi 0)))] 1 pn (Dg N _ N _ _ _ h E hE)
noncomputable abbrev ac1:=cG Tryz.f120
theorem qf (N a i r) (h:lR N a i=some r):Sd 120 [(aN cI 0 a),(aI i)] [] 0 (aI r) []:=by
 unfold lR at h
 refine iy (fu:=Tryz.f120) (c:=ac1 1) (nt:=13) (fun hm=>rfl) ?_
 intro E hE
 refine aj hE 1 [] [] (kp [0,1]) [] 16 pn ?_
 refine aj hE 2 [] [] (kp [0,1,8]) [] 80 pn ?_
 refine dS 0 8 h (fun dR h=>?_) (fun dR h=>?_)
 ·obtain ⟨c,h⟩:=ae h
  refine aj hE 1 [] [] (kp [4]) [] 160 (pc c pn) ?_
  obtain rfl:=dx h
  exact dQ hE 0 Tryz.f120 [] (kp [4]) [] 160 pn [] pn
 ·refine aj hE 2 [] [] (kp [4]) [] 96 pn ?_
  obtain rfl:=dx h
  exact dQ hE 0 Tryz.f120 [] (kp [4]) [] 96 pn [] pn
noncomputable abbrev JD:=cG Tryz.f113
def wb (N:Nat) (a:List Int) (b:List Int) (K:(List Int)→Int→Option ((List Int))):Prop:=∀ (out:List Int) (i:Int) (r:(List Int)),K out i=some r→∀ E,aQ E 0→az Tryz.prog E 113 61 (aY E [] (aN cI 0 r)) [.code (JD 116),.inLoop (JD 116),.inBlock 0,.code (JD 15)] ⟨[(0,(aN cI 0 a)),(1,(aN cI 0 b)),(5,(.os 0 0 out.length)),(6,(aI i))],[(0,aO 1 cI 0 out)],1⟩
def Dh (N:Nat) (a:List Int) (b:List Int) (i:Int) (K:(List Int)→Int→Int→Option ((List Int))):Prop:=∀ (fX:List Int) (carry:Int) (k:Int) (r:(List Int)),K fX carry k=some r→∀ E,aQ E 0→az Tryz.prog E 113 61 (aY E [] (aN cI 0 r)) [.code (JD 14924),.inLoop (JD 14924),.inBlock 2,.inBlock 1,.code (JD 467),.inLoop (JD 116),.inBlock 0,.code (JD 15)] ⟨[(0,(aN cI 0 a)),(1,(aN cI 0 b)),(5,(.os 0 0 fX.length)),(6,(aI i)),(7,(aI carry)),(8,(aI k))],[(0,aO 1 cI 0 fX)],1⟩
theorem BR (N:Nat) (a:List Int) (b:List Int) (i:Int) (lG:(List Int)→Int→Option ((List Int))) (BS:wb N a b lG) (fuel:Nat):Dh N a b i (iR N a b i lG fuel):=by
 induction fuel with
 | zero=>intro _ _ _ r h;rw [iR.eq_1] at h;cases h
 | succ fuel ih =>
  intro fX carry k r h E hE
  rw [iR.eq_2] at h
  refine aj hE 2 [] [] (kp [0,1,5,6,7,8,30]) (kq [0]) 129 (pc (fun hg:(!(decide (k < ((b.length:Nat):Int))))=true=>(pc hg pn)) (pc (fun hq:(!(decide (k < ((b.length:Nat):Int))))=true=>(pc hq pn)) pn)) ?_
  refine dS 0 30 h (fun iU h=>?_) (fun iU h=>?_)
  ·obtain ⟨c2,h⟩:=ae h
   obtain ⟨c3,h⟩:=ae h
   obtain ⟨da,hr,h⟩:=bt h
   refine aj hE 4 [(12,oT (aI da))] [] (kp [0,1,5,6,8,9]) (kq [0]) 417 (pc c2 (pc (dq c2) (pc c3 (pc (qf _ _ _ _ hr) pn)))) ?_
   refine aj hE 1 [] [] (kp [0,1] ++ [(5,.lP ((fX.set ((aq (i+k)).toNat) ((aq ((aq ((fX.getD ((aq (i+k)).toNat) 0)+(aq ((a.getD ((i).toNat) 0) * da))))+carry)).tmod 65536)).length))] ++ kp [6,8,9]) [(0,.arr 0 ((fX.set ((aq (i+k)).toNat) ((aq ((aq ((fX.getD ((aq (i+k)).toNat) 0)+(aq ((a.getD ((i).toNat) 0) * da))))+carry)).tmod 65536)).length) (fun zi=>cI ((fX.set ((aq (i+k)).toNat) ((aq ((aq ((fX.getD ((aq (i+k)).toNat) 0)+(aq ((a.getD ((i).toNat) 0) * da))))+carry)).tmod 65536)).getD zi 0)))] 545 (pc (show (65536:Int)≠0 by decide) (pc c2 (pc (dq c2) (pc (aJ fX ((aq (i+k)).toNat) ((aq ((aq ((fX.getD ((aq (i+k)).toNat) 0)+(aq ((a.getD ((i).toNat) 0) * da))))+carry)).tmod 65536)) (pc (aJ fX ((aq (i+k)).toNat) ((aq ((aq ((fX.getD ((aq (i+k)).toNat) 0)+(aq ((a.getD ((i).toNat) 0) * da))))+carry)).tmod 65536)) (pc (cR cI 0 fX ((aq (i+k)).toNat) ((aq ((aq ((fX.getD ((aq (i+k)).toNat) 0)+(aq ((a.getD ((i).toNat) 0) * da))))+carry)).tmod 65536)) pn)))))) ?_
   refine aj hE 0 [] [] (kp [0,1,5,6,7,8]) (kq [0]) 593 (pc (show (65536:Int)≠0 by decide) pn) ?_
   refine aj hE 1 [] [] (kp [0,1,5,6,7,8]) (kq [0]) 641 pn ?_
   exact de hE 1 [] (kp [0,1,5,6,7,8]) (kq [0]) 1 pn (ih _ _ _ _ h E hE)
  ·refine aj hE 2 [] [] (kp [0,1,5,6]) (kq [0]) 177 pn ?_
   exact de hE 1 [] (kp [0,1,5,6]) (kq [0]) 1 pn (BS _ _ _ h E hE)
theorem BT (N a b fuel):wb N a b (iS N a b fuel):=by
 induction fuel with
 | zero=>intro _ _ r h;rw [iS.eq_1] at h;cases h
 | succ fuel ih =>
  intro out i r h E hE
  rw [iS.eq_2] at h
  refine aj hE 2 [] [] (kp [0,1,5,6,20]) (kq [0]) 65 pn ?_
  refine dS 0 20 h (fun dR h=>?_) (fun dR h=>?_)
  ·refine aj hE 4 [] [] (kp [0,1,5,6,7]) (kq [0]) 81 pn ?_
   refine aj hE 1 [] [] (kp [0,1,5,6,7,8]) (kq [0]) 97 pn ?_
   exact de hE 2 [] (kp [0,1,5,6,7,8]) (kq [0]) 1 pn (BR N _ _ _ _ ih N _ _ _ _ h E hE)
  ·obtain ⟨b8,eW,h⟩:=bt h
   refine aj hE 2 [(1,⟨[],true,(aN cI 0 b8),[],0,true,none⟩)] [] (kp [4]) [] 113 (pc (mz _ _ _ eW) (pc (z1 out.length) pn)) ?_
   obtain rfl:=dx h
   exact dQ hE 0 Tryz.f113 [] (kp [4]) [] 113 pn [] pn
theorem tQ (N a b r) (h:k6 N a b=some r):Sd 113 [(aN cI 0 a),(aN cI 0 b)] [] 0 (aN cI 0 r) []:=by
 unfold k6 at h
 refine iy (fu:=Tryz.f113) (c:=JD 1) (nt:=61) (fun hm=>rfl) ?_
 intro E hE
 refine aj hE 1 [] [] (kp [0,1]) [] 16 pn ?_
 obtain ⟨c,h⟩:=ae h
 refine aj hE 1 [] [] (kp [0,1] ++ [(5,.lP ((List.replicate ((aq ((aq (((a.length:Nat):Int)+((b.length:Nat):Int)))+1)).toNat) 0:List Int).length))]) [(112,.arr 112 ((List.replicate ((aq ((aq (((a.length:Nat):Int)+((b.length:Nat):Int)))+1)).toNat) 0:List Int).length) (fun zi=>cI ((List.replicate ((aq ((aq (((a.length:Nat):Int)+((b.length:Nat):Int)))+1)).toNat) 0:List Int).getD zi 0)))] 144 (pc (show 0≤(aq ((aq (((a.length:Nat):Int)+((b.length:Nat):Int)))+1)) from c.1) (pc (show (aq ((aq (((a.length:Nat):Int)+((b.length:Nat):Int)))+1))≤(aq ((aq (((a.length:Nat):Int)+((b.length:Nat):Int)))+1)) from (Int.le_refl _)) (pc (show (8:Int) * (aq ((aq (((a.length:Nat):Int)+((b.length:Nat):Int)))+1))≤281474976710656 from c.2.1) (pc (show (aq ((aq (((a.length:Nat):Int)+((b.length:Nat):Int)))+1))≤9223372036854775807 from c.2.2) (pc (show (aq ((aq (((a.length:Nat):Int)+((b.length:Nat):Int)))+1)).toNat=(List.replicate ((aq ((aq (((a.length:Nat):Int)+((b.length:Nat):Int)))+1)).toNat) 0:List Int).length from (dn).symm) (pc (show (aq ((aq (((a.length:Nat):Int)+((b.length:Nat):Int)))+1)).toNat=(List.replicate ((aq ((aq (((a.length:Nat):Int)+((b.length:Nat):Int)))+1)).toNat) 0:List Int).length from (dn).symm) (pc (show ∀ zi,zi < (List.replicate ((aq ((aq (((a.length:Nat):Int)+((b.length:Nat):Int)))+1)).toNat) 0:List Int).length→(fun zi=>cI ((List.replicate ((aq ((aq (((a.length:Nat):Int)+((b.length:Nat):Int)))+1)).toNat) 0:List Int).getD zi 0)) zi=(fun _=>[(aI 0)]) zi from (fun zq j5=>qK cI 0 0 ((aq ((aq (((a.length:Nat):Int)+((b.length:Nat):Int)))+1)).toNat) zq j5)) pn))))))) ?_
 refine aj hE 2 [] [] (kp [0,1,5,6]) (kq [112]) 160 pn ?_
 exact de hE 2 [] (kp [0,1,5,6]) [(0,.ak 112)] 1 pn (BT N _ _ N _ _ _ h E hE)
noncomputable abbrev Vc:=cG Tryz.f112
def AX (N:Nat) (a:List Int) (b:List Int) (K:Int→Option (Int)):Prop:=∀ (i:Int) (r:Int),K i=some r→∀ E,aQ E 0→az Tryz.prog E 112 41 (aY E [] (aI r)) [.code (Vc 116),.inLoop (Vc 116),.inBlock 0,.code (Vc 15)] ⟨[(0,(aN cI 0 a)),(1,(aN cI 0 b)),(5,(aI i))],[],0⟩
theorem zZ (N a b fuel):AX N a b (gk N a b fuel):=by
 induction fuel with
 | zero=>intro _ r h;rw [gk.eq_1] at h;cases h
 | succ fuel ih =>
  intro i r h E hE
  rw [gk.eq_2] at h
  refine aj hE 2 [] [] (kp [0,1,5,20]) [] 32 pn ?_
  refine dS 0 20 h (fun iU h=>?_) (fun iU h=>?_)
  ·obtain ⟨c,h⟩:=ae h
   obtain ⟨c2,h⟩:=ae h
   refine aj hE 4 [] [] (kp [0,1,5,31]) [] 176 (pc c (pc c2 pn)) ?_
   refine dS 0 31 h (fun rm h=>?_) (fun rm h=>?_)
   ·refine aj hE 1 [] [] (kp [4]) [] 336 (pc c (pc c2 pn)) ?_
    obtain rfl:=dx h
    exact dQ hE 0 Tryz.f112 [] (kp [4]) [] 336 pn [] pn
   ·refine aj hE 2 [] [] (kp [0,1,5]) [] 224 pn ?_
    exact de hE 1 [] (kp [0,1,5]) [] 0 pn (ih _ _ h E hE)
  ·refine aj hE 2 [] [] (kp [4]) [] 48 pn ?_
   obtain rfl:=dx h
   exact dQ hE 0 Tryz.f112 [] (kp [4]) [] 48 pn [] pn
theorem wc (N a b r) (h:mo N a b=some r):Sd 112 [(aN cI 0 a),(aN cI 0 b)] [] 0 (aI r) []:=by
 unfold mo at h
 refine iy (fu:=Tryz.f112) (c:=Vc 1) (nt:=41) (fun hm=>rfl) ?_
 intro E hE
 refine aj hE 1 [] [] (kp [0,1]) [] 16 pn ?_
 refine aj hE 2 [] [] (kp [0,1,10]) [] 96 pn ?_
 refine dS 0 10 h (fun dR h=>?_) (fun dR h=>?_)
 ·refine aj hE 1 [] [] (kp [4]) [] 192 pn ?_
  obtain rfl:=dx h
  exact dQ hE 0 Tryz.f112 [] (kp [4]) [] 192 pn [] pn
 ·refine aj hE 3 [] [] (kp [0,1,5]) [] 160 pn ?_
  exact de hE 2 [] (kp [0,1,5]) [] 0 pn (zZ N _ _ N _ _ h E hE)
noncomputable abbrev KZ:=cG Tryz.f114
def we (N:Nat) (a:List Int) (b:List Int) (K:(List Int)→Int→Int→Option ((List Int))):Prop:=∀ (out:List Int) (borrow:Int) (i:Int) (r:(List Int)),K out borrow i=some r→∀ E,aQ E 0→az Tryz.prog E 114 35 (aY E [] (aN cI 0 r)) [.code (KZ 244),.inLoop (KZ 244),.inBlock 0,.code (KZ 31)] ⟨[(0,(aN cI 0 a)),(1,(aN cI 0 b)),(5,(.os 0 0 out.length)),(6,(aI borrow)),(7,(aI i))],[(0,aO 1 cI 0 out)],1⟩
def Di (N:Nat) (a:List Int) (b:List Int) (out:List Int) (i:Int) (K:Int→Int→Option ((List Int))):Prop:=∀ (kg:Int) (s:Int) (r:(List Int)),K kg s=some r→∀ E,aQ E 0→az Tryz.prog E 114 35 (aY E [] (aN cI 0 r)) [.code (KZ 15655),.inBlock 1,.code (KZ 979),.inLoop (KZ 244),.inBlock 0,.code (KZ 31)] ⟨[(0,(aN cI 0 a)),(1,(aN cI 0 b)),(5,(.os 0 0 out.length)),(6,(aI kg)),(7,(aI i)),(8,(aI s))],[(0,aO 1 cI 0 out)],1⟩
theorem uB (N:Nat) (a:List Int) (b:List Int) (out:List Int) (i:Int) (nT:(List Int)→Int→Int→Option ((List Int))) (BU:we N a b nT):Di N a b out i (lH N a b out i nT):=by
 intro kg s r h E hE
 unfold lH at h
 obtain ⟨c2,h⟩:=ae h
 refine aj hE 0 [] [] (kp [0,1] ++ [(5,.lP ((out ++ ([s]:List Int)).length))] ++ kp [6,7]) [(49,.arr 49 ((out ++ ([s]:List Int)).length) (fun zi=>cI ((out ++ ([s]:List Int)).getD zi 0)))] 81 (pc (Eq.refl out.length) (pc c2 (pc (z1 1) (pc (show ∀ zi,zi < 1→AV.ko ((fun zi=>([[(aI s)]]:List (List AV)).getD zi []) (bT 0 zi))=true from (zT rfl)) (pc (show (out.length+1)=(out ++ ([s]:List Int)).length from (bA rfl rfl)) (pc (show out.length+1=(out ++ ([s]:List Int)).length from (bA rfl rfl)) (pc (show ∀ zi,zi < (out ++ ([s]:List Int)).length→(fun zi=>cI ((out ++ ([s]:List Int)).getD zi 0)) zi=((fun zm=>if zm < out.length then (fun zi=>cI (out.getD zi 0)) zm else (fun zi=>([[(aI s)]]:List (List AV)).getD zi []) (zm - out.length))) zi from (dT cI 0 out ([s]:List Int) rfl (fun _ _=>rfl) (fun zq j5=>dP cI 0 ([s]:List Int) zq j5))) pn))))))) ?_
 refine aj hE 1 [] [] (kp [0,1,5,6,7]) (kq [49]) 129 pn ?_
 exact de hE 1 [] (kp [0,1,5,6,7]) [(0,.ak 49)] 1 pn (BU _ _ _ _ h E hE)
theorem BV (N a b fuel):we N a b (fK N a b fuel):=by
 induction fuel with
 | zero=>intro _ _ _ r h;rw [fK.eq_1] at h;cases h
 | succ fuel ih =>
  intro out borrow i r h E hE
  rw [fK.eq_2] at h
  refine aj hE 2 [] [] (kp [0,1,5,6,7,12]) (kq [0]) 65 pn ?_
  refine dS 0 12 h (fun dR h=>?_) (fun dR h=>?_)
  ·obtain ⟨c,h⟩:=ae h
   obtain ⟨da,hr,h⟩:=bt h
   refine aj hE 4 [(6,oT (aI da))] [] (kp [0,1,5,7,8]) (kq [0]) 241 (pc c (pc (qf _ _ _ _ hr) pn)) ?_
   refine aj hE 1 [] [] (kp [0,1,5,6,7,8]) (kq [0]) 257 pn ?_
   refine aj hE 2 [] [] (kp [0,1,5,6,7,8,26]) (kq [0]) 289 pn ?_
   refine dS 0 26 h (fun iU h=>?_) (fun iU h=>?_)
   ·refine aj hE 1 [] [] (kp [0,1,5,7,8]) (kq [0]) 337 pn ?_
    refine aj hE 0 [] [] (kp [0,1,5,6,7,8]) (kq [0]) 353 pn ?_
    exact de hE 0 [] (kp [0,1,5,6,7,8]) (kq [0]) 1 pn (uB N _ _ _ _ _ ih _ _ _ h E hE)
   ·exact de hE 1 [] (kp [0,1,5,6,7,8]) (kq [0]) 1 pn (uB N _ _ _ _ _ ih _ _ _ h E hE)
  ·obtain ⟨b8,eW,h⟩:=bt h
   refine aj hE 2 [(1,⟨[],true,(aN cI 0 b8),[],0,true,none⟩)] [] (kp [4]) [] 113 (pc (mz _ _ _ eW) (pc (z1 out.length) pn)) ?_
   obtain rfl:=dx h
   exact dQ hE 0 Tryz.f114 [] (kp [4]) [] 113 pn [] pn
theorem tR (N a b r) (h:pH N a b=some r):Sd 114 [(aN cI 0 a),(aN cI 0 b)] [] 0 (aN cI 0 r) []:=by
 unfold pH at h
 refine iy (fu:=Tryz.f114) (c:=KZ 1) (nt:=35) (fun hm=>rfl) ?_
 intro E hE
 refine aj hE 1 [] [] (kp [0,1]) [] 16 pn ?_
 refine aj hE 1 [] [] (kp [0,1,5]) [] 32 pn ?_
 refine aj hE 1 [] [] (kp [0,1,5,6]) [] 48 pn ?_
 refine aj hE 2 [] [] (kp [0,1,5,6,7]) [] 64 pn ?_
 exact de hE 2 [] (kp [0,1] ++ [(5,.sD 0)] ++ kp [6,7]) [(0,.nil 1 (fun zi=>cI (([]:List Int).getD zi 0)))] 1 pn (BV N _ _ N _ _ _ _ h E hE)
noncomputable abbrev Dj:=cG Tryz.f87
def sj (N:Nat) (a:List Int) (b:List Int) (K:(List Int)→(List Int)→Int→Option ((List Int)×(List Int))):Prop:=∀ (rest:List Int) (q:List Int) (i:Int) (r:(List Int)×(List Int)),K rest q i=some r→∀ E,aQ E 0→az Tryz.prog E 87 63 (aY E [] (.tup [(aN cI 0 r.1),(aN cI 0 r.2)])) [.code (Dj 244),.inLoop (Dj 244),.inBlock 0,.code (Dj 31)] ⟨[(0,(aN cI 0 a)),(1,(aN cI 0 b)),(6,(aN cI 0 rest)),(7,(.os 0 0 q.length)),(8,(aI i))],[(0,aO 1 cI 0 q)],1⟩
def Ew (N:Nat) (a:List Int) (b:List Int) (q:List Int) (i:Int) (b8:(List Int)) (K:Int→Int→Option ((List Int)×(List Int))):Prop:=∀ (lo:Int) (hi:Int) (r:(List Int)×(List Int)),K lo hi=some r→∀ E,aQ E 0→az Tryz.prog E 87 63 (aY E [] (.tup [(aN cI 0 r.1),(aN cI 0 r.2)])) [.code (Dj 62616),.inLoop (Dj 62616),.inBlock 2,.code (Dj 15655),.inBlock 1,.code (Dj 979),.inLoop (Dj 244),.inBlock 0,.code (Dj 31)] ⟨[(0,(aN cI 0 a)),(1,(aN cI 0 b)),(6,(aN cI 0 b8)),(7,(.os 0 0 q.length)),(8,(aI i)),(9,(aI lo)),(10,(aI hi))],[(0,aO 1 cI 0 q)],1⟩
def Ex (N:Nat) (a:List Int) (b:List Int) (q:List Int) (i:Int) (lo:Int) (K:(List Int)→Option ((List Int)×(List Int))):Prop:=∀ (KX:List Int) (r:(List Int)×(List Int)),K KX=some r→∀ E,aQ E 0→az Tryz.prog E 87 63 (aY E [] (.tup [(aN cI 0 r.1),(aN cI 0 r.2)])) [.code (Dj 979),.inLoop (Dj 244),.inBlock 0,.code (Dj 31)] ⟨[(0,(aN cI 0 a)),(1,(aN cI 0 b)),(6,(aN cI 0 KX)),(7,(.os 0 0 ((q.set ((i).toNat) lo).length))),(8,(aI i))],[(0,aO 1 cI 0 (q.set ((i).toNat) lo))],1⟩
theorem wg (N:Nat) (a:List Int) (b:List Int) (q:List Int) (i:Int) (lo:Int) (dX:(List Int)→(List Int)→Int→Option ((List Int)×(List Int))) (nX:sj N a b dX):Ex N a b q i lo (mq N a b q i lo dX):=by
 intro KX r h E hE
 unfold mq at h
 refine aj hE 0 [] [] (kp [0,1,6,7,8]) (kq [0]) 49 pn ?_
 exact de hE 1 [] (kp [0,1,6,7,8]) (kq [0]) 1 pn (nX _ _ _ _ h E hE)
theorem Dk (N:Nat) (a:List Int) (b:List Int) (q:List Int) (i:Int) (b8:(List Int)) (dX:(List Int)→(List Int)→Int→Option ((List Int)×(List Int))) (nX:sj N a b dX) (fuel:Nat):Ew N a b q i b8 (iv N a b q i b8 dX fuel):=by
 induction fuel with
 | zero=>intro _ _ r h;rw [iv.eq_1] at h;cases h
 | succ fuel ih =>
  intro lo hi r h E hE
  rw [iv.eq_2] at h
  refine aj hE 2 [] [] (kp [0,1,6,7,8,9,10,32]) (kq [0]) 49 pn ?_
  refine dS 0 32 h (fun iU h=>?_) (fun iU h=>?_)
  ·refine aj hE 3 [] [] (kp [0,1,6,7,8,9,10,11]) (kq [0]) 145 (pc (show (2:Int)≠0 by decide) pn) ?_
   obtain ⟨rY,eW,h⟩:=bt h
   obtain ⟨jV,ly,h⟩:=bt h
   refine aj hE 1 [(3,⟨[],true,(aN cI 0 rY),[],0,true,none⟩),(5,oT (aI jV))] [] (kp [0,1,6,7,8,9,10,11,44]) (kq [0]) 257 (pc (show Sd 113 [(aN cI 0 b),(.sl 1 (fun zi=>(fun zi=>([[(aI (aq ((aq ((aq (lo+hi))+1)).tdiv 2)))]]:List (List AV)).getD zi []) (bT 0 zi)))] [] 0 (aN cI 0 rY) [] from (Sound.conv (tQ _ _ _ _ eW) (.cons (Alike.refl _) (.cons (Alike.sl rfl (fun zq j5=>dP cI 0 ([(aq ((aq ((aq (lo+hi))+1)).tdiv 2))]:List Int) zq j5)) .nil)))) (pc (z1 1) (pc (wc _ _ _ _ ly) pn))) ?_
   refine dS 0 44 h (fun rm h=>?_) (fun rm h=>?_)
   ·refine aj hE 0 [] [] (kp [0,1,6,7,8,9,10]) (kq [0]) 289 pn ?_
    exact de hE 2 [] (kp [0,1,6,7,8,9,10]) (kq [0]) 1 pn (ih _ _ _ h E hE)
   ·refine aj hE 0 [] [] (kp [0,1,6,7,8,9,10]) (kq [0]) 305 pn ?_
    exact de hE 2 [] (kp [0,1,6,7,8,9,10]) (kq [0]) 1 pn (ih _ _ _ h E hE)
  ·obtain ⟨c4,h⟩:=ae h
   refine aj hE 2 [] [] (kp [0,1,6] ++ [(7,.lP ((q.set ((i).toNat) lo).length))] ++ kp [8,9]) [(0,.arr 0 ((q.set ((i).toNat) lo).length) (fun zi=>cI ((q.set ((i).toNat) lo).getD zi 0)))] 129 (pc c4 (pc (dq c4) (pc (aJ q ((i).toNat) lo) (pc (aJ q ((i).toNat) lo) (pc (cR cI 0 q ((i).toNat) lo) pn))))) ?_
   refine aj hE 1 [] [] (kp [0,1,6,7,8,9,53]) (kq [0]) 161 pn ?_
   refine dS 0 53 h (fun F5 h=>?_) (fun F5 h=>?_)
   ·obtain ⟨EN,oi,h⟩:=bt h
    obtain ⟨pa,tZ,h⟩:=bt h
    refine aj hE 0 [(4,⟨[],true,(aN cI 0 EN),[],0,true,none⟩),(5,oT (aN cI 0 pa))] [] (kp [0,1,6,7,8]) (kq [0]) 273 (pc (show Sd 113 [(aN cI 0 b),(.sl 1 (fun zi=>(fun zi=>([[(aI lo)]]:List (List AV)).getD zi []) (bT 0 zi)))] [] 0 (aN cI 0 EN) [] from (Sound.conv (tQ _ _ _ _ oi) (.cons (Alike.refl _) (.cons (Alike.sl rfl (fun zq j5=>dP cI 0 ([lo]:List Int) zq j5)) .nil)))) (pc (z1 1) (pc (tR _ _ _ _ tZ) pn))) ?_
    exact de hE 1 [] (kp [0,1,6,7,8]) (kq [0]) 1 pn (wg N _ _ _ _ _ _ nX _ _ h E hE)
   ·exact de hE 2 [] (kp [0,1,6,7,8]) (kq [0]) 1 pn (wg N _ _ _ _ _ _ nX _ _ h E hE)
theorem Dl (N a b fuel):sj N a b (iw N a b fuel):=by
 induction fuel with
 | zero=>intro _ _ _ r h;rw [iw.eq_1] at h;cases h
 | succ fuel ih =>
  intro rest q i r h E hE
  rw [iw.eq_2] at h
  refine aj hE 2 [] [] (kp [0,1,6,7,8,19]) (kq [0]) 33 pn ?_
  refine dS 0 19 h (fun dR h=>?_) (fun dR h=>?_)
  ·obtain ⟨c2,h⟩:=ae h
   obtain ⟨c3,h⟩:=ae h
   obtain ⟨b8,hr,h⟩:=bt h
   refine aj hE 4 [(7,⟨[],true,(aN cI 0 b8),[],0,true,none⟩)] [] (kp [0,1,6,7,8]) (kq [0]) 177 (pc c2 (pc (Eq.refl 1) (pc c3 (pc (show ∀ zi,zi < rest.length→AV.ko ((fun zi=>cI (rest.getD zi 0)) zi)=true from (fun _ _=>rfl)) (pc (show Sd 111 [(.sl (1+rest.length) (fun zi=>((fun zm=>if zm < 1 then (fun zi=>([[(aI (a.getD ((i).toNat) 0))]]:List (List AV)).getD zi []) zm else (fun zi=>cI (rest.getD zi 0)) (zm - 1))) (bT 0 zi)))] [] 0 (aN cI 0 b8) [] from (Sound.conv (mz _ _ _ hr) (.cons (Alike.sl (bA rfl rfl) (dT cI 0 ([(a.getD ((i).toNat) 0)]:List Int) rest rfl (fun zq j5=>dP cI 0 ([(a.getD ((i).toNat) 0)]:List Int) zq j5) (fun _ _=>rfl))) .nil))) (pc (z1 (1+rest.length)) pn)))))) ?_
   refine aj hE 1 [] [] (kp [0,1,6,7,8,9,10]) (kq [0]) 209 pn ?_
   exact de hE 3 [] (kp [0,1,6,7,8,9,10]) (kq [0]) 1 pn (Dk N _ _ _ _ _ _ ih N _ _ _ h E hE)
  ·obtain ⟨gq,yu,h⟩:=bt h
   refine aj hE 2 [(1,⟨[],true,(aN cI 0 gq),[],0,true,none⟩)] [] (kp [4,5]) [] 113 (pc (mz _ _ _ yu) (pc (z1 q.length) pn)) ?_
   obtain rfl:=dx h
   exact dQ hE 0 Tryz.f87 [] (kp [4,5]) [] 113 pn [] pn
theorem u5 (N a b r) (h:nm N a b=some r):Sd 87 [(aN cI 0 a),(aN cI 0 b)] [] 0 (.tup [(aN cI 0 r.1),(aN cI 0 r.2)]) []:=by
 unfold nm at h
 refine iy (fu:=Tryz.f87) (c:=Dj 1) (nt:=63) (fun hm=>rfl) ?_
 intro E hE
 refine aj hE 1 [] [] (kp [0,1]) [] 32 pn ?_
 refine aj hE 1 [] [] (kp [0,1,6]) [] 48 pn ?_
 obtain ⟨c,h⟩:=ae h
 refine aj hE 1 [] [] (kp [0,1,6] ++ [(7,.lP ((List.replicate a.length 0:List Int).length))]) [(80,.arr 80 ((List.replicate a.length 0:List Int).length) (fun zi=>cI ((List.replicate a.length 0:List Int).getD zi 0)))] 112 (pc (show 0≤((a.length:Nat):Int) from c.1) (pc (show ((a.length:Nat):Int)≤((a.length:Nat):Int) from (Int.le_refl _)) (pc (show (8:Int) * ((a.length:Nat):Int)≤281474976710656 from c.2.1) (pc (show ((a.length:Nat):Int)≤9223372036854775807 from c.2.2) (pc (show a.length=(List.replicate a.length 0:List Int).length from (dn).symm) (pc (show a.length=(List.replicate a.length 0:List Int).length from (dn).symm) (pc (show ∀ zi,zi < (List.replicate a.length 0:List Int).length→(fun zi=>cI ((List.replicate a.length 0:List Int).getD zi 0)) zi=(fun _=>[(aI 0)]) zi from (fun zq j5=>qK cI 0 0 a.length zq j5)) pn))))))) ?_
 refine aj hE 2 [] [] (kp [0,1,6,7,8]) (kq [80]) 176 pn ?_
 exact de hE 2 [] (kp [0,1] ++ [(6,.sl (([]:List Int).length) (fun zi=>cI (([]:List Int).getD zi 0)))] ++ kp [7,8]) [(0,.ak 80)] 1 (pc (Eq.refl 0) pn) (Dl N _ _ N _ _ _ _ h E hE)
noncomputable abbrev Vd:=cG Tryz.f86
def Gm (N:Nat) (K:(List Int)→(List Int)→Option ((List Int))):Prop:=∀ (a2:List Int) (b2:List Int) (r:(List Int)),K a2 b2=some r→∀ E,aQ E 0→az Tryz.prog E 86 19 (aY E [] (aN cI 0 r)) [.code (Vd 24),.inLoop (Vd 24),.inBlock 0,.code (Vd 7)] ⟨[(0,(aN cI 0 a2)),(1,(aN cI 0 b2))],[],0⟩
theorem Ey (N fuel):Gm N (l7 N fuel):=by
 induction fuel with
 | zero=>intro _ _ r h;rw [l7.eq_1] at h;cases h
 | succ fuel ih =>
  intro a2 b2 r h E hE
  rw [l7.eq_2] at h
  refine aj hE 2 [] [] (kp [0,1,9]) [] 48 pn ?_
  refine dS 0 9 h (fun dR h=>?_) (fun dR h=>?_)
  ·obtain ⟨kn,hr,h⟩:=bt h
   refine aj hE 3 [(2,oT (.tup [(aN cI 0 kn.1),(aN cI 0 kn.2)]))] [] (kp [1,6]) [] 176 (pc (u5 _ _ _ _ hr) pn) ?_
   refine aj hE 0 [] [] (kp [0,1]) [] 240 pn ?_
   exact de hE 2 [] (kp [0,1]) [] 0 pn (ih _ _ _ h E hE)
  ·refine aj hE 2 [] [] (kp [4]) [] 80 pn ?_
   obtain rfl:=dx h
   exact dQ hE 0 Tryz.f86 [] (kp [4]) [] 80 pn [] pn
theorem JE (N a b r) (h:zE N a b=some r):Sd 86 [(aN cI 0 a),(aN cI 0 b)] [] 0 (aN cI 0 r) []:=by
 unfold zE at h
 refine iy (fu:=Tryz.f86) (c:=Vd 1) (nt:=19) (fun hm=>rfl) ?_
 intro E hE
 refine aj hE 1 [] [] (kp [0,1]) [] 16 pn ?_
 exact de hE 3 [] (kp [0,1]) [] 0 pn (Ey N N _ _ _ h E hE)
noncomputable abbrev ac2:=cG Tryz.f43
theorem u6 (N a b r) (h:pf N a b=some r):Sd 43 [(.agg (im a)),(.agg (im b))] [] 0 (.agg (ah r)) []:=by
 unfold pf at h
 refine iy (fu:=Tryz.f43) (c:=ac2 1) (nt:=52) (fun hm=>rfl) ?_
 intro E hE
 refine aj hE 1 [] [] (kp [2,3,4]) (kq [0,16,32]) 48 pn ?_
 obtain ⟨mO,hr,h⟩:=bt h
 obtain ⟨og,eW,h⟩:=bt h
 refine aj hE 1 [(2,oT (aN cI 0 mO)),(5,oT (aN cI 0 og))] [] (kp [2,3,4,5,6]) (kq [0,16,32]) 176 (pc o1 (pc (jK _ _ _ hr) (pc o1 (pc (jK _ _ _ eW) pn)))) ?_
 refine aj hE 2 [] [] (kp [2,3,4,5,6,20]) (kq [0,16,32]) 224 pn ?_
 refine dS 0 20 h (fun dR h=>?_) (fun dR h=>?_)
 ·obtain ⟨p9,ly,h⟩:=bt h
  obtain ⟨J9,oi,h⟩:=bt h
  refine aj hE 1 [(3,oT (.agg (im p9))),(4,oT (.agg (im J9)))] [] (kp [4]) (kq [32]) 336 (pc o1 (pc (iA _ _ _ _ ly) (pc (yH _ _ _ oi) (pc o1 pn)))) ?_
  obtain rfl:=dx h
  exact dQ hE 0 Tryz.f43 [] (kp [4]) [(16,.ak 32)] 336 pn [16] (pc o1 pn)
 ·obtain ⟨UQ,tZ,h⟩:=bt h
  refine aj hE 2 [(2,oT (aN cI 0 UQ))] [] (kp [2,3,4,5,6,7]) (kq [0,16,32]) 288 (pc (JE _ _ _ _ tZ) pn) ?_
  obtain ⟨kn,yu,h⟩:=bt h
  refine aj hE 1 [(2,oT (.tup [(aN cI 0 kn.1),(aN cI 0 kn.2)]))] [] (kp [2,3,4,6,7,8]) (kq [0,16,32]) 416 (pc (u5 _ _ _ _ yu) pn) ?_
  obtain ⟨kx,AQ,h⟩:=bt h
  refine aj hE 1 [(2,oT (.tup [(aN cI 0 kx.1),(aN cI 0 kx.2)]))] [] (kp [2,3,4,8,10]) (kq [0,16,32]) 544 (pc (u5 _ _ _ _ AQ) pn) ?_
  obtain ⟨AM,Hv,h⟩:=bt h
  obtain ⟨AN,Hu,h⟩:=bt h
  refine aj hE 1 [(6,oT (.agg (im AM))),(8,oT (.agg (im AN)))] [] (kp [4]) (kq [32]) 720 (pc o1 (pc o1 (pc (iA _ _ _ _ Hv) (pc (iA _ _ _ _ Hu) (pc o1 pn))))) ?_
  obtain rfl:=dx h
  exact dQ hE 0 Tryz.f43 [] (kp [4]) [(16,.ak 32)] 720 pn [16] (pc o1 pn)
noncomputable abbrev ac3:=cG Tryz.f12
theorem ig (N x r) (h:fM N x=some r):Sd 12 [(.agg (ah x))] [] 0 (.agg (ah r)) []:=by
 unfold fM at h
 refine iy (fu:=Tryz.f12) (c:=ac3 1) (nt:=8) (fun hm=>rfl) ?_
 intro E hE
 refine aj hE 1 [] [] (kp [1,2]) (kq [0,16]) 32 pn ?_
 obtain ⟨yl,hr,h⟩:=bt h
 refine aj hE 1 [(4,oT (.agg (ah yl)))] [] (kp [2]) (kq [16]) 128 (pc o1 (pc o1 (pc (u6 _ _ _ _ hr) (pc o1 pn)))) ?_
 obtain rfl:=dx h
 exact dQ hE 0 Tryz.f12 [] (kp [2]) (kq [16]) 128 pn [16] (pc o1 pn)
noncomputable abbrev ac4:=cG Tryz.f93
theorem qg (N a b r) (h:pJ N a b=some r):Sd 93 [(.agg (im a)),(.agg (im b))] [] 0 (.agg (im r)) []:=by
 unfold pJ at h
 refine iy (fu:=Tryz.f93) (c:=ac4 1) (nt:=18) (fun hm=>rfl) ?_
 intro E hE
 refine aj hE 1 [] [] (kp [2,3,4]) (kq [0,16,32]) 48 pn ?_
 obtain ⟨mO,hr,h⟩:=bt h
 obtain ⟨og,eW,h⟩:=bt h
 obtain ⟨rY,ly,h⟩:=bt h
 obtain ⟨p9,oi,h⟩:=bt h
 refine aj hE 1 [(7,oT (aN cI 0 mO)),(10,oT (aN cI 0 og)),(11,oT (aN cI 0 rY)),(12,oT (.agg (im p9)))] [] (kp [4]) (kq [32]) 272 (pc o1 (pc o1 (pc o1 (pc (jK _ _ _ hr) (pc o1 (pc (jK _ _ _ eW) (pc (tQ _ _ _ _ ly) (pc (iA _ _ _ _ oi) (pc o1 pn))))))))) ?_
 obtain rfl:=dx h
 exact dQ hE 0 Tryz.f93 [] (kp [4]) [(16,.ak 32)] 272 pn [16] (pc o1 pn)
noncomputable abbrev ac5:=cG Tryz.f53
theorem sm (N x y r) (h:l8 N x y=some r):Sd 53 [(.agg (ah x)),(.agg (ah y))] [] 0 (.agg (ah r)) []:=by
 unfold l8 at h
 refine iy (fu:=Tryz.f53) (c:=ac5 1) (nt:=22) (fun hm=>rfl) ?_
 intro E hE
 refine aj hE 1 [] [] (kp [2,3,4]) (kq [0,16,32]) 48 pn ?_
 obtain ⟨fc,hr,h⟩:=bt h
 obtain ⟨mv,eW,h⟩:=bt h
 refine aj hE 1 [(1,oT (.agg (ah fc))),(3,oT (.agg (ah mv)))] [] (kp [4,5,6]) (kq [32,112,128]) 176 (pc o1 (pc (ig _ _ _ hr) (pc o1 (pc (ig _ _ _ eW) (pc o1 (pc o1 pn)))))) ?_
 obtain ⟨wS,ly,h⟩:=bt h
 obtain ⟨pZ,oi,h⟩:=bt h
 obtain ⟨yl,tZ,h⟩:=bt h
 refine aj hE 1 [(4,oT (.agg (im wS))),(9,oT (.agg (im pZ))),(10,oT (.agg (ah yl)))] [] (kp [4]) (kq [32]) 368 (pc o1 (pc o1 (pc (qg _ _ _ _ ly) (pc o1 (pc o1 (pc (qg _ _ _ _ oi) (pc (u6 _ _ _ _ tZ) (pc o1 pn)))))))) ?_
 obtain rfl:=dx h
 exact dQ hE 0 Tryz.f53 [] (kp [4]) [(16,.ak 32)] 368 pn [16] (pc o1 pn)
noncomputable abbrev Ve:=cG Tryz.f115
def Ez (N:Nat) (a:List Int) (b:List Int) (K:(List Int)→Int→Int→Option ((List Int))):Prop:=∀ (out:List Int) (carry:Int) (i:Int) (r:(List Int)),K out carry i=some r→∀ E,aQ E 0→az Tryz.prog E 115 43 (aY E [] (aN cI 0 r)) [.code (Ve 244),.inLoop (Ve 244),.inBlock 0,.code (Ve 31)] ⟨[(0,(aN cI 0 a)),(1,(aN cI 0 b)),(5,(.os 0 0 out.length)),(6,(aI carry)),(7,(aI i))],[(0,aO 1 cI 0 out)],1⟩
theorem Dm (N a b fuel):Ez N a b (jJ N a b fuel):=by
 induction fuel with
 | zero=>intro _ _ _ r h;rw [jJ.eq_1] at h;cases h
 | succ fuel ih =>
  intro out carry i r h E hE
  rw [jJ.eq_2] at h
  refine aj hE 2 [] [] (kp [0,1,5,6,7,22]) (kq [0]) 225 (pc (fun hg:(!(decide (i < ((a.length:Nat):Int))))=true=>(pc hg pn)) (pc (fun hg:(!(decide (i < ((a.length:Nat):Int))))=true=>(pc hg (pc hg pn))) (pc (fun hq:(!(decide (i < ((a.length:Nat):Int))))=true=>(pc hq pn)) (pc (fun hg:(!(cond (decide (i < ((a.length:Nat):Int))) true (decide (i < ((b.length:Nat):Int)))))=true=>(pc hg pn)) (pc (fun hq:(!(cond (decide (i < ((a.length:Nat):Int))) true (decide (i < ((b.length:Nat):Int)))))=true=>(pc hq pn)) pn))))) ?_
  refine dS 0 22 h (fun dR h=>?_) (fun dR h=>?_)
  ·obtain ⟨da,hr,h⟩:=bt h
   obtain ⟨l9,eW,h⟩:=bt h
   refine aj hE 4 [(2,oT (aI da)),(5,oT (aI l9))] [] (kp [0,1,5,7,8]) (kq [0]) 385 (pc (qf _ _ _ _ hr) (pc (qf _ _ _ _ eW) pn)) ?_
   obtain ⟨c,h⟩:=ae h
   refine aj hE 1 [] [] (kp [0,1] ++ [(5,.lP ((out ++ ([((aq ((aq (da+l9))+carry)).tmod 65536)]:List Int)).length))] ++ kp [7,8]) [(449,.arr 449 ((out ++ ([((aq ((aq (da+l9))+carry)).tmod 65536)]:List Int)).length) (fun zi=>cI ((out ++ ([((aq ((aq (da+l9))+carry)).tmod 65536)]:List Int)).getD zi 0)))] 481 (pc (show (65536:Int)≠0 by decide) (pc (Eq.refl out.length) (pc c (pc (z1 1) (pc (show ∀ zi,zi < 1→AV.ko ((fun zi=>([[(aI ((aq ((aq (da+l9))+carry)).tmod 65536))]]:List (List AV)).getD zi []) (bT 0 zi))=true from (zT rfl)) (pc (show (out.length+1)=(out ++ ([((aq ((aq (da+l9))+carry)).tmod 65536)]:List Int)).length from (bA rfl rfl)) (pc (show out.length+1=(out ++ ([((aq ((aq (da+l9))+carry)).tmod 65536)]:List Int)).length from (bA rfl rfl)) (pc (show ∀ zi,zi < (out ++ ([((aq ((aq (da+l9))+carry)).tmod 65536)]:List Int)).length→(fun zi=>cI ((out ++ ([((aq ((aq (da+l9))+carry)).tmod 65536)]:List Int)).getD zi 0)) zi=((fun zm=>if zm < out.length then (fun zi=>cI (out.getD zi 0)) zm else (fun zi=>([[(aI ((aq ((aq (da+l9))+carry)).tmod 65536))]]:List (List AV)).getD zi []) (zm - out.length))) zi from (dT cI 0 out ([((aq ((aq (da+l9))+carry)).tmod 65536)]:List Int) rfl (fun _ _=>rfl) (fun zq j5=>dP cI 0 ([((aq ((aq (da+l9))+carry)).tmod 65536)]:List Int) zq j5))) pn)))))))) ?_
   refine aj hE 0 [] [] (kp [0,1,5,6,7]) (kq [449]) 529 (pc (show (65536:Int)≠0 by decide) pn) ?_
   refine aj hE 1 [] [] (kp [0,1,5,6,7]) (kq [449]) 577 pn ?_
   exact de hE 1 [] (kp [0,1,5,6,7]) [(0,.ak 449)] 1 pn (ih _ _ _ _ h E hE)
  ·obtain ⟨b8,ly,h⟩:=bt h
   refine aj hE 2 [(1,⟨[],true,(aN cI 0 b8),[],0,true,none⟩)] [] (kp [4]) [] 273 (pc (mz _ _ _ ly) (pc (z1 out.length) pn)) ?_
   obtain rfl:=dx h
   exact dQ hE 0 Tryz.f115 [] (kp [4]) [] 273 pn [] pn
theorem HF (N a b r) (h:wU N a b=some r):Sd 115 [(aN cI 0 a),(aN cI 0 b)] [] 0 (aN cI 0 r) []:=by
 unfold wU at h
 refine iy (fu:=Tryz.f115) (c:=Ve 1) (nt:=43) (fun hm=>rfl) ?_
 intro E hE
 refine aj hE 1 [] [] (kp [0,1]) [] 16 pn ?_
 refine aj hE 1 [] [] (kp [0,1,5]) [] 32 pn ?_
 refine aj hE 1 [] [] (kp [0,1,5,6]) [] 48 pn ?_
 refine aj hE 2 [] [] (kp [0,1,5,6,7]) [] 64 pn ?_
 exact de hE 2 [] (kp [0,1] ++ [(5,.sD 0)] ++ kp [6,7]) [(0,.nil 1 (fun zi=>cI (([]:List Int).getD zi 0)))] 1 pn (Dm N _ _ N _ _ _ _ h E hE)
noncomputable abbrev ac6:=cG Tryz.f92
theorem JF (N a b r) (h:zF N a b=some r):Sd 92 [(.agg (im a)),(.agg (im b))] [] 0 (.agg (im r)) []:=by
 unfold zF at h
 refine iy (fu:=Tryz.f92) (c:=ac6 1) (nt:=40) (fun hm=>rfl) ?_
 intro E hE
 refine aj hE 1 [] [] (kp [2,3,4]) (kq [0,16,32]) 48 pn ?_
 obtain ⟨mO,hr,h⟩:=bt h
 obtain ⟨og,eW,h⟩:=bt h
 refine aj hE 1 [(2,oT (aN cI 0 mO)),(5,oT (aN cI 0 og))] [] (kp [2,3,4,5,6]) (kq [0,16,32]) 176 (pc o1 (pc (jK _ _ _ hr) (pc o1 (pc (jK _ _ _ eW) pn)))) ?_
 refine aj hE 2 [] [] (kp [2,3,4,5,6,17]) (kq [0,16,32]) 256 (pc o1 (pc o1 pn)) ?_
 refine dS 0 17 h (fun dR h=>?_) (fun dR h=>?_)
 ·obtain ⟨xr,ly,h⟩:=bt h
  obtain ⟨p9,oi,h⟩:=bt h
  refine aj hE 1 [(4,oT (aN cI 0 xr)),(5,oT (.agg (im p9)))] [] (kp [4]) (kq [32]) 368 (pc o1 (pc (HF _ _ _ _ ly) (pc (iA _ _ _ _ oi) (pc o1 pn)))) ?_
  obtain rfl:=dx h
  exact dQ hE 0 Tryz.f92 [] (kp [4]) [(16,.ak 32)] 368 pn [16] (pc o1 pn)
 ·obtain ⟨jV,tZ,h⟩:=bt h
  refine aj hE 3 [(2,oT (aI jV))] [] (kp [2,3,4,5,6,27]) (kq [0,16,32]) 320 (pc (wc _ _ _ _ tZ) pn) ?_
  refine dS 0 27 h (fun iU h=>?_) (fun iU h=>?_)
  ·obtain ⟨pa,yu,h⟩:=bt h
   obtain ⟨AM,AQ,h⟩:=bt h
   refine aj hE 1 [(4,oT (aN cI 0 pa)),(5,oT (.agg (im AM)))] [] (kp [4]) (kq [32]) 432 (pc o1 (pc (tR _ _ _ _ yu) (pc (iA _ _ _ _ AQ) (pc o1 pn)))) ?_
   obtain rfl:=dx h
   exact dQ hE 0 Tryz.f92 [] (kp [4]) [(16,.ak 32)] 432 pn [16] (pc o1 pn)
  ·obtain ⟨wR,Hv,h⟩:=bt h
   obtain ⟨AN,Hu,h⟩:=bt h
   refine aj hE 2 [(4,oT (aN cI 0 wR)),(5,oT (.agg (im AN)))] [] (kp [4]) (kq [32]) 432 (pc o1 (pc (tR _ _ _ _ Hv) (pc (iA _ _ _ _ Hu) (pc o1 pn)))) ?_
   obtain rfl:=dx h
   exact dQ hE 0 Tryz.f92 [] (kp [4]) [(16,.ak 32)] 432 pn [16] (pc o1 pn)
noncomputable abbrev ac7:=cG Tryz.f52
theorem oY (N x y r) (h:ma N x y=some r):Sd 52 [(.agg (ah x)),(.agg (ah y))] [] 0 (.agg (ah r)) []:=by
 unfold ma at h
 refine iy (fu:=Tryz.f52) (c:=ac7 1) (nt:=28) (fun hm=>rfl) ?_
 intro E hE
 refine aj hE 1 [] [] (kp [2,3,4]) (kq [0,16,32]) 48 pn ?_
 obtain ⟨fc,hr,h⟩:=bt h
 obtain ⟨mv,eW,h⟩:=bt h
 refine aj hE 1 [(1,oT (.agg (ah fc))),(3,oT (.agg (ah mv)))] [] (kp [4,5,6]) (kq [32,112,128]) 176 (pc o1 (pc (ig _ _ _ hr) (pc o1 (pc (ig _ _ _ eW) (pc o1 (pc o1 pn)))))) ?_
 obtain ⟨wS,ly,h⟩:=bt h
 obtain ⟨pZ,oi,h⟩:=bt h
 obtain ⟨MP,tZ,h⟩:=bt h
 obtain ⟨FK,yu,h⟩:=bt h
 obtain ⟨yl,AQ,h⟩:=bt h
 refine aj hE 1 [(4,oT (.agg (im wS))),(9,oT (.agg (im pZ))),(10,oT (.agg (im MP))),(15,oT (.agg (im FK))),(16,oT (.agg (ah yl)))] [] (kp [4]) (kq [32]) 464 (pc o1 (pc o1 (pc (qg _ _ _ _ ly) (pc o1 (pc o1 (pc (qg _ _ _ _ oi) (pc (JF _ _ _ _ tZ) (pc o1 (pc o1 (pc (qg _ _ _ _ yu) (pc (u6 _ _ _ _ AQ) (pc o1 pn)))))))))))) ?_
 obtain rfl:=dx h
 exact dQ hE 0 Tryz.f52 [] (kp [4]) [(16,.ak 32)] 464 pn [16] (pc o1 pn)
end Go.Den
