/- Each function of the program does what its Lean function computes (part 3). No conditions. -/
import Derived.Test.YthiklnjjabfjlaaBerthTidesSb
import Derived.Test.YthiklnjjabfjlaaProg
set_option linter.unusedVariables false
set_option maxRecDepth 100000
namespace Go.Den
open Go.Ab Go.Proofs
noncomputable def C_83 (n:Nat):Code:=cat (bodyOf Try.f72) (pth n)
theorem g_r06_CheckCalls_L1_ok (N:Nat) (c:List TCall) (fuel:Nat):∀ (i:Int) (r:Int),g_r06_CheckCalls_L1 N c fuel i=some r→∀ E,EnvOk E 0→Runs Try.prog E 72 72 (SPost E [] (aI r)) [.code (C_83 116),.inLoop (C_83 116),.inBlock 0,.code (C_83 15)] ⟨[(0,(encL TCall.cells TCall.d c)),(3,(aI i))],[],0⟩:=by
 induction fuel with
 | zero=>intro _ r h;rw [g_r06_CheckCalls_L1.eq_1] at h;cases h
 | succ fuel ih =>
  intro i r h E hE
  rw [g_r06_CheckCalls_L1.eq_2] at h
  refine Runs.sA 2 [.code (C_83 464),.code (C_83 465),.code (C_83 233),.inLoop (C_83 116),.inBlock 0,.code (C_83 15)] ?_
  refine Runs.sR hE ⟨[(0,(encL TCall.cells TCall.d c)),(3,(aI i)),(11,(aB (decide (i < ((c.length:Nat):Int)))))],[],64⟩ (C_83 464) [] [] (kp [0,3,11]) [] 64 [] trivial ?_
  refine Runs.sC 11 (C_83 930) (C_83 931) (decide (i < ((c.length:Nat):Int))) (fun hq3=>?_) (fun hq3=>?_)
  ·have h:=condT h hq3
   refine Runs.sA 4 [.code (C_83 1864),.code (C_83 1865),.inBlock 1,.code (C_83 467),.inLoop (C_83 116),.inBlock 0,.code (C_83 15)] ?_
   obtain ⟨c2,h⟩:=ifSome h
   refine Runs.sR hE ⟨[(0,(encL TCall.cells TCall.d c)),(3,(aI i)),(4,(.op 128 0 0))],[(128,vO 9 (TCall.cells (c.getD ((i).toNat) TCall.d)))],160⟩ (C_83 1864) [] [] (kp [0,3,4]) (kq [128]) 160 [0≤i∧i < ((c.length:Nat):Int),0 < 1] ⟨c2,o1,trivial⟩ ?_
   refine Runs.sA 2 [.code (C_83 7460),.code (C_83 7461),.code (C_83 3731),.inBlock 1,.code (C_83 467),.inLoop (C_83 116),.inBlock 0,.code (C_83 15)] ?_
   obtain ⟨rIsName,hr,h⟩:=bindSome h
   refine Runs.sR hE ⟨[(0,(encL TCall.cells TCall.d c)),(3,(aI i)),(4,(.op 128 0 0)),(21,(aB (!rIsName)))],[(128,vO 9 (TCall.cells (c.getD ((i).toNat) TCall.d)))],224⟩ (C_83 7460) [(2,⟨[],true,(aB rIsName),[],0,false,none⟩)] [] (kp [0,3,4,21]) (kq [128]) 224 [0 < 1,Sound Try.prog 101 [(aS ((c.getD ((i).toNat) TCall.d).f_Name))] [] 0 (aB rIsName) []] ⟨o1,(g_b_IsName_ok N ((c.getD ((i).toNat) TCall.d).f_Name) rIsName hr),trivial⟩ ?_
   refine Runs.sC 21 (C_83 14922) (C_83 14923) (!rIsName) (fun hq4=>?_) (fun hq4=>?_)
   ·have h:=condT h hq4
    refine Runs.sA 1 [.code (C_83 29844),.code (C_83 29845),.code (C_83 3731),.inBlock 1,.code (C_83 467),.inLoop (C_83 116),.inBlock 0,.code (C_83 15)] ?_
    refine Runs.sR hE ⟨[(2,(aI 4))],[],240⟩ (C_83 29844) [] [] (kp [2]) [] 240 [] trivial ?_
    obtain rfl:=Option.some.inj h
    refine Runs.sW hE ⟨[(2,(aI 4))],[],240⟩ [] (kp [2]) [] 240 [] trivial ?_
    exact Runs.sT Try.f72 [] [] trivial
   ·have h:=condF h hq4
    refine Runs.sA 3 [.code (C_83 14924),.code (C_83 14925),.code (C_83 7463),.inBlock 1,.code (C_83 467),.inLoop (C_83 116),.inBlock 0,.code (C_83 15)] ?_
    obtain ⟨rCallOf,hr2,h⟩:=bindSome h
    refine Runs.sR hE ⟨[(0,(encL TCall.cells TCall.d c)),(3,(aI i)),(4,(.op 128 0 0)),(27,(aB (rCallOf != i)))],[(128,vO 9 (TCall.cells (c.getD ((i).toNat) TCall.d)))],320⟩ (C_83 14924) [(3,⟨[],true,(aI rCallOf),[],0,false,none⟩)] [] (kp [0,3,4,27]) (kq [128]) 320 [0 < 1,Sound Try.prog 46 [(encL TCall.cells TCall.d c),(aS ((c.getD ((i).toNat) TCall.d).f_Name))] [] 0 (aI rCallOf) []] ⟨o1,(g_r06_CallOf_ok N c ((c.getD ((i).toNat) TCall.d).f_Name) rCallOf hr2),trivial⟩ ?_
    refine Runs.sC 27 (C_83 29850) (C_83 29851) (rCallOf != i) (fun hq5=>?_) (fun hq5=>?_)
    ·have h:=condT h hq5
     refine Runs.sA 1 [.code (C_83 59700),.code (C_83 59701),.code (C_83 7463),.inBlock 1,.code (C_83 467),.inLoop (C_83 116),.inBlock 0,.code (C_83 15)] ?_
     refine Runs.sR hE ⟨[(2,(aI 5))],[],336⟩ (C_83 59700) [] [] (kp [2]) [] 336 [] trivial ?_
     obtain rfl:=Option.some.inj h
     refine Runs.sW hE ⟨[(2,(aI 5))],[],336⟩ [] (kp [2]) [] 336 [] trivial ?_
     exact Runs.sT Try.f72 [] [] trivial
    ·have h:=condF h hq5
     refine Runs.sA 3 [.code (C_83 29852),.code (C_83 29853),.code (C_83 14927),.inBlock 1,.code (C_83 467),.inLoop (C_83 116),.inBlock 0,.code (C_83 15)] ?_
     obtain ⟨rinside,hr3,h⟩:=bindSome h
     obtain ⟨rinside2,hr4,h⟩:=bindSome h
     obtain ⟨rinside3,hr5,h⟩:=bindSome h
     obtain ⟨rinside4,hr6,h⟩:=bindSome h
     refine Runs.sR hE ⟨[(0,(encL TCall.cells TCall.d c)),(3,(aI i)),(4,(.op 128 0 0)),(49,(aB (cond (cond (cond (!rinside) true (!rinside2)) true (!rinside3)) true (!rinside4))))],[(128,vO 9 (TCall.cells (c.getD ((i).toNat) TCall.d)))],672⟩ (C_83 29852) [(2,⟨[],true,(aB rinside),[],0,false,none⟩),(7,⟨[],true,(aB rinside2),[],0,false,none⟩),(13,⟨[],true,(aB rinside3),[],0,false,none⟩),(19,⟨[],true,(aB rinside4),[],0,false,none⟩)] [] (kp [0,3,4,49]) (kq [128]) 672 [0 < 1,Sound Try.prog 73 [(aI ((c.getD ((i).toNat) TCall.d).f_Length)),(aI 1),(aI 1000000)] [] 0 (aB rinside) [],(!(!rinside))=true→AllP [(!(!rinside))=true,0 < 1],(!(!rinside))=true→AllP [Sound Try.prog 73 [(aI ((c.getD ((i).toNat) TCall.d).f_Beam)),(aI 1),(aI 1000000)] [] 0 (aB rinside2) [],(!(!rinside))=true],(!(!rinside))=true→AllP [(!(!rinside))=true],(!(!rinside))=true→AllP [(!(!rinside))=true],(!(cond (!rinside) true (!rinside2)))=true→AllP [(!(cond (!rinside) true (!rinside2)))=true,0 < 1],(!(cond (!rinside) true (!rinside2)))=true→AllP [Sound Try.prog 73 [(aI ((c.getD ((i).toNat) TCall.d).f_Draught)),(aI 0),(aI 1000000)] [] 0 (aB rinside3) [],(!(cond (!rinside) true (!rinside2)))=true],(!(cond (!rinside) true (!rinside2)))=true→AllP [(!(cond (!rinside) true (!rinside2)))=true],(!(cond (!rinside) true (!rinside2)))=true→AllP [(!(cond (!rinside) true (!rinside2)))=true],(!(cond (cond (!rinside) true (!rinside2)) true (!rinside3)))=true→AllP [(!(cond (cond (!rinside) true (!rinside2)) true (!rinside3)))=true,0 < 1],(!(cond (cond (!rinside) true (!rinside2)) true (!rinside3)))=true→AllP [Sound Try.prog 73 [(aI ((c.getD ((i).toNat) TCall.d).f_Under)),(aI 0),(aI 1000000)] [] 0 (aB rinside4) [],(!(cond (cond (!rinside) true (!rinside2)) true (!rinside3)))=true],(!(cond (cond (!rinside) true (!rinside2)) true (!rinside3)))=true→AllP [(!(cond (cond (!rinside) true (!rinside2)) true (!rinside3)))=true],(!(cond (cond (!rinside) true (!rinside2)) true (!rinside3)))=true→AllP [(!(cond (cond (!rinside) true (!rinside2)) true (!rinside3)))=true]] ⟨o1,(g_r06_inside_ok N ((c.getD ((i).toNat) TCall.d).f_Length) 1 1000000 rinside hr3),(fun hg=>⟨hg,o1,trivial⟩),(fun hg=>⟨(g_r06_inside_ok N ((c.getD ((i).toNat) TCall.d).f_Beam) 1 1000000 rinside2 (condT hr4 hg)),hg,trivial⟩),(fun hg=>⟨hg,trivial⟩),(fun hq=>⟨hq,trivial⟩),(fun hg=>⟨hg,o1,trivial⟩),(fun hg=>⟨(g_r06_inside_ok N ((c.getD ((i).toNat) TCall.d).f_Draught) 0 1000000 rinside3 (condT hr5 hg)),hg,trivial⟩),(fun hg=>⟨hg,trivial⟩),(fun hq=>⟨hq,trivial⟩),(fun hg=>⟨hg,o1,trivial⟩),(fun hg=>⟨(g_r06_inside_ok N ((c.getD ((i).toNat) TCall.d).f_Under) 0 1000000 rinside4 (condT hr6 hg)),hg,trivial⟩),(fun hg=>⟨hg,trivial⟩),(fun hq=>⟨hq,trivial⟩),trivial⟩ ?_
     refine Runs.sC 49 (C_83 59706) (C_83 59707) (cond (cond (cond (!rinside) true (!rinside2)) true (!rinside3)) true (!rinside4)) (fun hq6=>?_) (fun hq6=>?_)
     ·have h:=condT h hq6
      refine Runs.sA 1 [.code (C_83 119412),.code (C_83 119413),.code (C_83 14927),.inBlock 1,.code (C_83 467),.inLoop (C_83 116),.inBlock 0,.code (C_83 15)] ?_
      refine Runs.sR hE ⟨[(2,(aI 2))],[],688⟩ (C_83 119412) [] [] (kp [2]) [] 688 [] trivial ?_
      obtain rfl:=Option.some.inj h
      refine Runs.sW hE ⟨[(2,(aI 2))],[],688⟩ [] (kp [2]) [] 688 [] trivial ?_
      exact Runs.sT Try.f72 [] [] trivial
     ·have h:=condF h hq6
      refine Runs.sA 2 [.code (C_83 29854),.code (C_83 29855),.inBlock 1,.code (C_83 467),.inLoop (C_83 116),.inBlock 0,.code (C_83 15)] ?_
      obtain ⟨rinside5,hr7,h⟩:=bindSome h
      obtain ⟨rinside6,hr8,h⟩:=bindSome h
      obtain ⟨rinside7,hr9,h⟩:=bindSome h
      obtain ⟨rinside8,hr10,h⟩:=bindSome h
      refine Runs.sR hE ⟨[(0,(encL TCall.cells TCall.d c)),(3,(aI i)),(71,(aB (cond (cond (cond (!rinside5) true (!rinside6)) true (!rinside7)) true (!rinside8))))],[],1024⟩ (C_83 29854) [(2,⟨[],true,(aB rinside5),[],0,false,none⟩),(7,⟨[],true,(aB rinside6),[],0,false,none⟩),(13,⟨[],true,(aB rinside7),[],0,false,none⟩),(19,⟨[],true,(aB rinside8),[],0,false,none⟩)] [] (kp [0,3,71]) [] 1024 [0 < 1,Sound Try.prog 73 [(aI ((c.getD ((i).toNat) TCall.d).f_Arrive)),(aI 0),(aI 400)] [] 0 (aB rinside5) [],(!(!rinside5))=true→AllP [(!(!rinside5))=true,0 < 1],(!(!rinside5))=true→AllP [Sound Try.prog 73 [(aI ((c.getD ((i).toNat) TCall.d).f_Due)),(aI 0),(aI 400)] [] 0 (aB rinside6) [],(!(!rinside5))=true],(!(!rinside5))=true→AllP [(!(!rinside5))=true],(!(!rinside5))=true→AllP [(!(!rinside5))=true],(!(cond (!rinside5) true (!rinside6)))=true→AllP [(!(cond (!rinside5) true (!rinside6)))=true,0 < 1],(!(cond (!rinside5) true (!rinside6)))=true→AllP [Sound Try.prog 73 [(aI ((c.getD ((i).toNat) TCall.d).f_Work)),(aI 1),(aI 1000)] [] 0 (aB rinside7) [],(!(cond (!rinside5) true (!rinside6)))=true],(!(cond (!rinside5) true (!rinside6)))=true→AllP [(!(cond (!rinside5) true (!rinside6)))=true],(!(cond (!rinside5) true (!rinside6)))=true→AllP [(!(cond (!rinside5) true (!rinside6)))=true],(!(cond (cond (!rinside5) true (!rinside6)) true (!rinside7)))=true→AllP [(!(cond (cond (!rinside5) true (!rinside6)) true (!rinside7)))=true,0 < 1],(!(cond (cond (!rinside5) true (!rinside6)) true (!rinside7)))=true→AllP [Sound Try.prog 73 [(aI ((c.getD ((i).toNat) TCall.d).f_Late)),(aI 0),(aI 1000000000)] [] 0 (aB rinside8) [],(!(cond (cond (!rinside5) true (!rinside6)) true (!rinside7)))=true],(!(cond (cond (!rinside5) true (!rinside6)) true (!rinside7)))=true→AllP [(!(cond (cond (!rinside5) true (!rinside6)) true (!rinside7)))=true],(!(cond (cond (!rinside5) true (!rinside6)) true (!rinside7)))=true→AllP [(!(cond (cond (!rinside5) true (!rinside6)) true (!rinside7)))=true]] ⟨o1,(g_r06_inside_ok N ((c.getD ((i).toNat) TCall.d).f_Arrive) 0 400 rinside5 hr7),(fun hg=>⟨hg,o1,trivial⟩),(fun hg=>⟨(g_r06_inside_ok N ((c.getD ((i).toNat) TCall.d).f_Due) 0 400 rinside6 (condT hr8 hg)),hg,trivial⟩),(fun hg=>⟨hg,trivial⟩),(fun hq=>⟨hq,trivial⟩),(fun hg=>⟨hg,o1,trivial⟩),(fun hg=>⟨(g_r06_inside_ok N ((c.getD ((i).toNat) TCall.d).f_Work) 1 1000 rinside7 (condT hr9 hg)),hg,trivial⟩),(fun hg=>⟨hg,trivial⟩),(fun hq=>⟨hq,trivial⟩),(fun hg=>⟨hg,o1,trivial⟩),(fun hg=>⟨(g_r06_inside_ok N ((c.getD ((i).toNat) TCall.d).f_Late) 0 1000000000 rinside8 (condT hr10 hg)),hg,trivial⟩),(fun hg=>⟨hg,trivial⟩),(fun hq=>⟨hq,trivial⟩),trivial⟩ ?_
      refine Runs.sC 71 (C_83 59710) (C_83 59711) (cond (cond (cond (!rinside5) true (!rinside6)) true (!rinside7)) true (!rinside8)) (fun hq7=>?_) (fun hq7=>?_)
      ·have h:=condT h hq7
       refine Runs.sA 1 [.code (C_83 119420),.code (C_83 119421),.inBlock 1,.code (C_83 467),.inLoop (C_83 116),.inBlock 0,.code (C_83 15)] ?_
       refine Runs.sR hE ⟨[(2,(aI 2))],[],1040⟩ (C_83 119420) [] [] (kp [2]) [] 1040 [] trivial ?_
       obtain rfl:=Option.some.inj h
       refine Runs.sW hE ⟨[(2,(aI 2))],[],1040⟩ [] (kp [2]) [] 1040 [] trivial ?_
       exact Runs.sT Try.f72 [] [] trivial
      ·have h:=condF h hq7
       refine Runs.sA 2 [.code (C_83 467),.inLoop (C_83 116),.inBlock 0,.code (C_83 15)] ?_
       refine Runs.sR hE ⟨[(0,(encL TCall.cells TCall.d c)),(3,(aI (w64 (i+1))))],[],1072⟩ (C_83 467) [] [] (kp [0,3]) [] 1072 [] trivial ?_
       refine Runs.sA 1 [.code (C_83 116),.inLoop (C_83 116),.inBlock 0,.code (C_83 15)] ?_
       exact Runs.sW hE _ [] (kp [0,3]) [] 0 [] trivial (ih (w64 (i+1)) _ h E hE)
  ·have h:=condF h hq3
   refine Runs.sA 2 [.code (C_83 30),.code (C_83 31)] ?_
   refine Runs.sR hE ⟨[(2,(aI 0))],[],80⟩ (C_83 30) [] [] (kp [2]) [] 80 [] trivial ?_
   obtain rfl:=Option.some.inj h
   refine Runs.sW hE ⟨[(2,(aI 0))],[],80⟩ [] (kp [2]) [] 80 [] trivial ?_
   exact Runs.sT Try.f72 [] [] trivial
theorem g_r06_CheckCalls_ok (N:Nat) (c:List TCall) (r:Int) (h:g_r06_CheckCalls N c=some r):Sound Try.prog 72 [(encL TCall.cells TCall.d c)] [] 0 (aI r) []:=by
 unfold g_r06_CheckCalls at h
 refine Sound.of_runs (fu:=Try.f72) (c:=C_83 1) (nt:=72) (by kernel_rfl) (by kernel_rfl) (by kernel_rfl) (by kernel_rfl) (fun hm=>rfl) ?_
 intro E hE
 refine Runs.sA 1 [.code (C_83 2),.code (C_83 3)] ?_
 refine Runs.sR hE ⟨[(0,(encL TCall.cells TCall.d c))],[],16⟩ (C_83 2) [] [] (kp [0]) [] 16 [] trivial ?_
 refine Runs.sA 2 [.code (C_83 12),.code (C_83 13),.code (C_83 7)] ?_
 refine Runs.sR hE ⟨[(0,(encL TCall.cells TCall.d c)),(7,(aB (decide (((c.length:Nat):Int) > 8))))],[],64⟩ (C_83 12) [] [] (kp [0,7]) [] 64 [] trivial ?_
 refine Runs.sC 7 (C_83 26) (C_83 27) (decide (((c.length:Nat):Int) > 8)) (fun hq2=>?_) (fun hq2=>?_)
 ·have h:=condT h hq2
  refine Runs.sA 1 [.code (C_83 52),.code (C_83 53),.code (C_83 7)] ?_
  refine Runs.sR hE ⟨[(2,(aI 8))],[],80⟩ (C_83 52) [] [] (kp [2]) [] 80 [] trivial ?_
  obtain rfl:=Option.some.inj h
  refine Runs.sW hE ⟨[(2,(aI 8))],[],80⟩ [] (kp [2]) [] 80 [] trivial ?_
  exact Runs.sT Try.f72 [] [] trivial
 ·have h:=condF h hq2
  refine Runs.sA 3 [.code (C_83 28),.code (C_83 29),.code (C_83 15)] ?_
  refine Runs.sR hE ⟨[(0,(encL TCall.cells TCall.d c)),(3,(aI 0))],[],80⟩ (C_83 28) [] [] (kp [0,3]) [] 80 [] trivial ?_
  refine Runs.sA 2 [.code (C_83 116),.inLoop (C_83 116),.inBlock 0,.code (C_83 15)] ?_
  exact Runs.sW hE _ [] (kp [0,3]) [] 0 [] trivial (g_r06_CheckCalls_L1_ok N c N 0 _ h E hE)
noncomputable def C_78 (n:Nat):Code:=cat (bodyOf Try.f44) (pth n)
theorem g_r06_CheckBoth_ok (N:Nat) (d:TDock) (c:List TCall) (r:Int) (h:g_r06_CheckBoth N d c=some r):Sound Try.prog 44 [(.agg (TDock.cells d)),(encL TCall.cells TCall.d c)] [] 0 (aI r) []:=by
 unfold g_r06_CheckBoth at h
 refine Sound.of_runs (fu:=Try.f44) (c:=C_78 1) (nt:=14) (by kernel_rfl) (by kernel_rfl) (by kernel_rfl) (by kernel_rfl) (fun hm=>rfl) ?_
 intro E hE
 refine Runs.sA 1 [.code (C_78 2),.code (C_78 3)] ?_
 refine Runs.sR hE ⟨[(1,(encL TCall.cells TCall.d c)),(2,(.op 0 0 0))],[(0,vO 6 (TDock.cells d))],32⟩ (C_78 2) [] [] (kp [1,2]) (kq [0]) 32 [] trivial ?_
 refine Runs.sA 2 [.code (C_78 12),.code (C_78 13),.code (C_78 7)] ?_
 obtain ⟨rCheckDocks,hr,h⟩:=bindSome h
 refine Runs.sR hE ⟨[(1,(encL TCall.cells TCall.d c)),(5,(aI rCheckDocks))],[],96⟩ (C_78 12) [(2,⟨[],true,(aI rCheckDocks),[],0,false,none⟩)] [] (kp [1,5]) [] 96 [0 < 1,Sound Try.prog 71 [(.sl 1 (fun zi=>(fun zi=>([[(aS d.f_Name),(aI d.f_Length),(aI d.f_Width),(aI d.f_Sill),(aI d.f_Floor),(aI d.f_Gap)]]:List (List AV)).getD zi []) (addz 0 zi)))] [] 0 (aI rCheckDocks) [],0+1≤1] ⟨o1,(Sound.conv (g_r06_CheckDocks_ok N ([d]:List TDock) rCheckDocks hr) (.cons (Alike.sl rfl (fun zq hzq=>get_chunk TDock.cells TDock.d ([d]:List TDock) zq hzq)) .nil)),z0,trivial⟩ ?_
 refine Runs.sA 1 [.code (C_78 26),.code (C_78 27),.code (C_78 7)] ?_
 refine Runs.sR hE ⟨[(1,(encL TCall.cells TCall.d c)),(5,(aI rCheckDocks)),(10,(aB (rCheckDocks != 0)))],[],128⟩ (C_78 26) [] [] (kp [1,5,10]) [] 128 [] trivial ?_
 refine Runs.sC 10 (C_78 54) (C_78 55) (rCheckDocks != 0) (fun hq2=>?_) (fun hq2=>?_)
 ·have h:=condT h hq2
  refine Runs.sA 1 [.code (C_78 108),.code (C_78 109),.code (C_78 7)] ?_
  refine Runs.sR hE ⟨[(4,(aI rCheckDocks))],[],160⟩ (C_78 108) [] [] (kp [4]) [] 160 [] trivial ?_
  obtain rfl:=Option.some.inj h
  refine Runs.sW hE ⟨[(4,(aI rCheckDocks))],[],160⟩ [] (kp [4]) [] 160 [] trivial ?_
  exact Runs.sT Try.f44 [] [] trivial
 ·have h:=condF h hq2
  refine Runs.sA 2 [.code (C_78 14),.code (C_78 15)] ?_
  obtain ⟨rCheckCalls,hr2,h⟩:=bindSome h
  refine Runs.sR hE ⟨[(4,(aI rCheckCalls))],[],176⟩ (C_78 14) [(1,⟨[],true,(aI rCheckCalls),[],0,false,none⟩)] [] (kp [4]) [] 176 [Sound Try.prog 72 [(encL TCall.cells TCall.d c)] [] 0 (aI rCheckCalls) []] ⟨(g_r06_CheckCalls_ok N c rCheckCalls hr2),trivial⟩ ?_
  obtain rfl:=Option.some.inj h
  refine Runs.sW hE ⟨[(4,(aI rCheckCalls))],[],176⟩ [] (kp [4]) [] 176 [] trivial ?_
  exact Runs.sT Try.f44 [] [] trivial
noncomputable def C_77 (n:Nat):Code:=cat (bodyOf Try.f14) (pth n)
theorem g_r06_CheckTide_ok (N:Nat) (d:TDock) (c:TCall) (sea:List TMark) (r:Int) (h:g_r06_CheckTide N d c sea=some r):Sound Try.prog 14 [(.agg (TDock.cells d)),(.agg (TCall.cells c)),(encL TMark.cells TMark.d sea)] [] 0 (aI r) []:=by
 unfold g_r06_CheckTide at h
 refine Sound.of_runs (fu:=Try.f14) (c:=C_77 1) (nt:=24) (by kernel_rfl) (by kernel_rfl) (by kernel_rfl) (by kernel_rfl) (fun hm=>rfl) ?_
 intro E hE
 refine Runs.sA 1 [.code (C_77 2),.code (C_77 3)] ?_
 refine Runs.sR hE ⟨[(2,(encL TMark.cells TMark.d sea)),(3,(.op 0 0 0)),(4,(.op 16 0 0))],[(0,vO 6 (TDock.cells d)),(16,vO 9 (TCall.cells c))],48⟩ (C_77 2) [] [] (kp [2,3,4]) (kq [0,16]) 48 [] trivial ?_
 refine Runs.sA 2 [.code (C_77 12),.code (C_77 13),.code (C_77 7)] ?_
 obtain ⟨rCheckBoth,hr,h⟩:=bindSome h
 refine Runs.sR hE ⟨[(2,(encL TMark.cells TMark.d sea)),(7,(aI rCheckBoth))],[],128⟩ (C_77 12) [(3,⟨[],true,(aI rCheckBoth),[],0,false,none⟩)] [] (kp [2,7]) [] 128 [0 < 1,0 < 1,Sound Try.prog 44 [(.agg (TDock.cells d)),(.sl 1 (fun zi=>(fun zi=>([[(aS c.f_Name),(aI c.f_Length),(aI c.f_Beam),(aI c.f_Draught),(aI c.f_Under),(aI c.f_Arrive),(aI c.f_Work),(aI c.f_Due),(aI c.f_Late)]]:List (List AV)).getD zi []) (addz 0 zi)))] [] 0 (aI rCheckBoth) [],0+1≤1] ⟨o1,o1,(Sound.conv (g_r06_CheckBoth_ok N d ([c]:List TCall) rCheckBoth hr) (.cons (Alike.refl _) (.cons (Alike.sl rfl (fun zq hzq=>get_chunk TCall.cells TCall.d ([c]:List TCall) zq hzq)) .nil))),z0,trivial⟩ ?_
 refine Runs.sA 1 [.code (C_77 26),.code (C_77 27),.code (C_77 7)] ?_
 refine Runs.sR hE ⟨[(2,(encL TMark.cells TMark.d sea)),(7,(aI rCheckBoth)),(14,(aB (rCheckBoth != 0)))],[],160⟩ (C_77 26) [] [] (kp [2,7,14]) [] 160 [] trivial ?_
 refine Runs.sC 14 (C_77 54) (C_77 55) (rCheckBoth != 0) (fun hq2=>?_) (fun hq2=>?_)
 ·have h:=condT h hq2
  refine Runs.sA 1 [.code (C_77 108),.code (C_77 109),.code (C_77 7)] ?_
  refine Runs.sR hE ⟨[(6,(aI rCheckBoth))],[],192⟩ (C_77 108) [] [] (kp [6]) [] 192 [] trivial ?_
  obtain rfl:=Option.some.inj h
  refine Runs.sW hE ⟨[(6,(aI rCheckBoth))],[],192⟩ [] (kp [6]) [] 192 [] trivial ?_
  exact Runs.sT Try.f14 [] [] trivial
 ·have h:=condF h hq2
  refine Runs.sA 3 [.code (C_77 28),.code (C_77 29),.code (C_77 15)] ?_
  obtain ⟨rCheckSea,hr2,h⟩:=bindSome h
  refine Runs.sR hE ⟨[(2,(encL TMark.cells TMark.d sea)),(8,(aI rCheckSea))],[],208⟩ (C_77 28) [(1,⟨[],true,(aI rCheckSea),[],0,false,none⟩)] [] (kp [2,8]) [] 208 [Sound Try.prog 36 [(encL TMark.cells TMark.d sea)] [] 0 (aI rCheckSea) []] ⟨(g_r05_CheckSea_ok N sea rCheckSea hr2),trivial⟩ ?_
  refine Runs.sA 1 [.code (C_77 58),.code (C_77 59),.code (C_77 15)] ?_
  refine Runs.sR hE ⟨[(2,(encL TMark.cells TMark.d sea)),(8,(aI rCheckSea)),(19,(aB (rCheckSea != 0)))],[],240⟩ (C_77 58) [] [] (kp [2,8,19]) [] 240 [] trivial ?_
  refine Runs.sC 19 (C_77 118) (C_77 119) (rCheckSea != 0) (fun hq3=>?_) (fun hq3=>?_)
  ·have h:=condT h hq3
   refine Runs.sA 1 [.code (C_77 236),.code (C_77 237),.code (C_77 15)] ?_
   refine Runs.sR hE ⟨[(6,(aI rCheckSea))],[],272⟩ (C_77 236) [] [] (kp [6]) [] 272 [] trivial ?_
   obtain rfl:=Option.some.inj h
   refine Runs.sW hE ⟨[(6,(aI rCheckSea))],[],272⟩ [] (kp [6]) [] 272 [] trivial ?_
   exact Runs.sT Try.f14 [] [] trivial
  ·have h:=condF h hq3
   refine Runs.sA 3 [.code (C_77 60),.code (C_77 61),.code (C_77 31)] ?_
   refine Runs.sR hE ⟨[(23,(aB (((sea.length:Nat):Int) == 0)))],[],288⟩ (C_77 60) [] [] (kp [23]) [] 288 [] trivial ?_
   refine Runs.sC 23 (C_77 122) (C_77 123) (((sea.length:Nat):Int) == 0) (fun hq4=>?_) (fun hq4=>?_)
   ·have h:=condT h hq4
    refine Runs.sA 1 [.code (C_77 244),.code (C_77 245),.code (C_77 31)] ?_
    refine Runs.sR hE ⟨[(6,(aI 29))],[],304⟩ (C_77 244) [] [] (kp [6]) [] 304 [] trivial ?_
    obtain rfl:=Option.some.inj h
    refine Runs.sW hE ⟨[(6,(aI 29))],[],304⟩ [] (kp [6]) [] 304 [] trivial ?_
    exact Runs.sT Try.f14 [] [] trivial
   ·have h:=condF h hq4
    refine Runs.sA 2 [.code (C_77 62),.code (C_77 63)] ?_
    refine Runs.sR hE ⟨[(6,(aI 0))],[],304⟩ (C_77 62) [] [] (kp [6]) [] 304 [] trivial ?_
    obtain rfl:=Option.some.inj h
    refine Runs.sW hE ⟨[(6,(aI 0))],[],304⟩ [] (kp [6]) [] 304 [] trivial ?_
    exact Runs.sT Try.f14 [] [] trivial
noncomputable def C_85 (n:Nat):Code:=cat (bodyOf Try.f15) (pth n)
theorem g_r06_Passages_ok (N:Nat) (d:TDock) (c:TCall) (sea:List TMark) (r:(List TS__2_int)) (h:g_r06_Passages N d c sea=some r):Sound Try.prog 15 [(.agg (TDock.cells d)),(.agg (TCall.cells c)),(encL TMark.cells TMark.d sea)] [] 0 (encL TS__2_int.cells TS__2_int.d r) []:=by
 unfold g_r06_Passages at h
 refine Sound.of_runs (fu:=Try.f15) (c:=C_85 1) (nt:=34) (by kernel_rfl) (by kernel_rfl) (by kernel_rfl) (by kernel_rfl) (fun hm=>rfl) ?_
 intro E hE
 refine Runs.sA 1 [.code (C_85 2),.code (C_85 3)] ?_
 refine Runs.sR hE ⟨[(2,(encL TMark.cells TMark.d sea)),(3,(.op 0 0 0)),(4,(.op 16 0 0))],[(0,vO 6 (TDock.cells d)),(16,vO 9 (TCall.cells c))],48⟩ (C_85 2) [] [] (kp [2,3,4]) (kq [0,16]) 48 [] trivial ?_
 refine Runs.sA 1 [.code (C_85 6),.code (C_85 7)] ?_
 refine Runs.sR hE ⟨[(2,(encL TMark.cells TMark.d sea)),(7,(aI (w64 ((w64 (d.f_Sill+c.f_Draught))+c.f_Under))))],[],192⟩ (C_85 6) [] [] (kp [2,7]) [] 192 [0 < 1,0 < 1,0 < 1] ⟨o1,o1,o1,trivial⟩ ?_
 refine Runs.sA 2 [.code (C_85 28),.code (C_85 29),.code (C_85 15)] ?_
 refine Runs.sR hE ⟨[(2,(encL TMark.cells TMark.d sea)),(7,(aI (w64 ((w64 (d.f_Sill+c.f_Draught))+c.f_Under)))),(19,(aB (decide ((w64 ((w64 (d.f_Sill+c.f_Draught))+c.f_Under)) > 1000000))))],[],224⟩ (C_85 28) [] [] (kp [2,7,19]) [] 224 [] trivial ?_
 refine Runs.sC 19 (C_85 58) (C_85 59) (decide ((w64 ((w64 (d.f_Sill+c.f_Draught))+c.f_Under)) > 1000000)) (fun hq2=>?_) (fun hq2=>?_)
 ·have h:=condT h hq2
  refine Runs.sA 1 [.code (C_85 116),.code (C_85 117),.code (C_85 15)] ?_
  refine Runs.sR hE ⟨[(6,.nil)],[],240⟩ (C_85 116) [] [] (kp [6]) [] 240 [] trivial ?_
  obtain rfl:=Option.some.inj h
  refine Runs.sW hE ⟨[(6,(encL TS__2_int.cells TS__2_int.d ([]:List TS__2_int)))],[],240⟩ [] [(6,.sl (([]:List TS__2_int).length) (fun zi=>TS__2_int.cells (([]:List TS__2_int).getD zi TS__2_int.d)))] [] 240 [([]:List TS__2_int).length=0] ⟨rfl,trivial⟩ ?_
  exact Runs.sT Try.f15 [] [] trivial
 ·have h:=condF h hq2
  refine Runs.sA 2 [.code (C_85 30),.code (C_85 31)] ?_
  obtain ⟨c2,h⟩:=ifSome h
  obtain ⟨rAbove,hr,h⟩:=bindSome h
  refine Runs.sR hE ⟨[(8,(encL TS__2_int.cells TS__2_int.d rAbove.1))],[],464⟩ (C_85 30) [(9,⟨[],true,(.tup [(encL TS__2_int.cells TS__2_int.d rAbove.1),(aI rAbove.2)]),[],0,false,none⟩)] [] (kp [8]) [] 464 [0≤(w64 (((sea.length:Nat):Int) - 1))∧(w64 (((sea.length:Nat):Int) - 1)) < ((sea.length:Nat):Int),Sound Try.prog 8 [(encL TMark.cells TMark.d sea),(aI (w64 ((w64 (d.f_Sill+c.f_Draught))+c.f_Under))),(aI 0),(aI ((sea.getD ((w64 (((sea.length:Nat):Int) - 1)).toNat) TMark.d).f_Minute))] [] 0 (.tup [(encL TS__2_int.cells TS__2_int.d rAbove.1),(aI rAbove.2)]) []] ⟨c2,(g_r05_Above_ok N sea (w64 ((w64 (d.f_Sill+c.f_Draught))+c.f_Under)) 0 ((sea.getD ((w64 (((sea.length:Nat):Int) - 1)).toNat) TMark.d).f_Minute) rAbove hr),trivial⟩ ?_
  refine Runs.sA 1 [.code (C_85 62),.code (C_85 63)] ?_
  refine Runs.sR hE ⟨[(6,(encL TS__2_int.cells TS__2_int.d rAbove.1))],[],496⟩ (C_85 62) [] [] (kp [6]) [] 496 [] trivial ?_
  obtain rfl:=Option.some.inj h
  refine Runs.sW hE ⟨[(6,(encL TS__2_int.cells TS__2_int.d rAbove.1))],[],496⟩ [] (kp [6]) [] 496 [] trivial ?_
  exact Runs.sT Try.f15 [] [] trivial
noncomputable def C_86 (n:Nat):Code:=cat (bodyOf Try.f17) (pth n)
theorem g_r06_Days_J3_ok (N:Nat) (sea:List TMark) (rPassages:(List TS__2_int)) (day:Int) (K_g_r06_Days_L1:(List Int)→Int→Option ((List Int)))
  (hK_g_r06_Days_L1:∀ (out:List Int) (day:Int) (r:(List Int)),K_g_r06_Days_L1 out day=some r→∀ E,EnvOk E 0→Runs Try.prog E 17 58 (SPost E [] (encL cI 0 r)) [.code (C_86 244),.inLoop (C_86 244),.inBlock 0,.code (C_86 31)] ⟨[(2,(encL TMark.cells TMark.d sea)),(7,(encL TS__2_int.cells TS__2_int.d rPassages)),(8,(.os 0 0 out.length)),(9,(aI day))],[(0,aO 1 cI 0 out)],1⟩) (out2:List Int) (r:(List Int)) (h:g_r06_Days_J3 N sea rPassages day K_g_r06_Days_L1 out2=some r):∀ E,EnvOk E 0→Runs Try.prog E 17 58 (SPost E [] (encL cI 0 r)) [.code (C_86 979),.inLoop (C_86 244),.inBlock 0,.code (C_86 31)] ⟨[(2,(encL TMark.cells TMark.d sea)),(7,(encL TS__2_int.cells TS__2_int.d rPassages)),(8,(.os 0 0 out2.length)),(9,(aI day))],[(0,aO 1 cI 0 out2)],1⟩:=by
 intro E hE
 unfold g_r06_Days_J3 at h
 refine Runs.sR hE ⟨[(2,(encL TMark.cells TMark.d sea)),(7,(encL TS__2_int.cells TS__2_int.d rPassages)),(8,(.os 0 0 out2.length)),(9,(aI (w64 (day+1))))],[(0,aO 1 cI 0 out2)],49⟩ (C_86 979) [] [] (kp [2,7,8,9]) (kq [0]) 49 [] trivial ?_
 refine Runs.sA 1 [.code (C_86 244),.inLoop (C_86 244),.inBlock 0,.code (C_86 31)] ?_
 exact Runs.sW hE _ [] (kp [2,7,8,9]) (kq [0]) 1 [] trivial (hK_g_r06_Days_L1 out2 (w64 (day+1)) _ h E hE)
theorem g_r06_Days_L2_ok (N:Nat) (sea:List TMark) (rPassages:(List TS__2_int)) (out:List Int) (day:Int) (K_g_r06_Days_L1:(List Int)→Int→Option ((List Int)))
  (hK_g_r06_Days_L1:∀ (out:List Int) (day:Int) (r:(List Int)),K_g_r06_Days_L1 out day=some r→∀ E,EnvOk E 0→Runs Try.prog E 17 58 (SPost E [] (encL cI 0 r)) [.code (C_86 244),.inLoop (C_86 244),.inBlock 0,.code (C_86 31)] ⟨[(2,(encL TMark.cells TMark.d sea)),(7,(encL TS__2_int.cells TS__2_int.d rPassages)),(8,(.os 0 0 out.length)),(9,(aI day))],[(0,aO 1 cI 0 out)],1⟩) (fuel:Nat):∀ (i:Int) (r:(List Int)),g_r06_Days_L2 N sea rPassages out day K_g_r06_Days_L1 fuel i=some r→∀ E,EnvOk E 0→Runs Try.prog E 17 58 (SPost E [] (encL cI 0 r)) [.code (C_86 15652),.inLoop (C_86 15652),.inBlock 2,.inBlock 1,.code (C_86 979),.inLoop (C_86 244),.inBlock 0,.code (C_86 31)] ⟨[(2,(encL TMark.cells TMark.d sea)),(7,(encL TS__2_int.cells TS__2_int.d rPassages)),(8,(.os 0 0 out.length)),(9,(aI day)),(10,(aI i))],[(0,aO 1 cI 0 out)],1⟩:=by
 induction fuel with
 | zero=>intro _ r h;rw [g_r06_Days_L2.eq_1] at h;cases h
 | succ fuel ih =>
  intro i r h E hE
  rw [g_r06_Days_L2.eq_2] at h
  refine Runs.sA 2 [.code (C_86 62608),.code (C_86 62609),.code (C_86 31305),.inLoop (C_86 15652),.inBlock 2,.inBlock 1,.code (C_86 979),.inLoop (C_86 244),.inBlock 0,.code (C_86 31)] ?_
  refine Runs.sR hE ⟨[(2,(encL TMark.cells TMark.d sea)),(7,(encL TS__2_int.cells TS__2_int.d rPassages)),(8,(.os 0 0 out.length)),(9,(aI day)),(10,(aI i)),(30,(aB (decide (i < ((rPassages.length:Nat):Int)))))],[(0,aO 1 cI 0 out)],65⟩ (C_86 62608) [] [] (kp [2,7,8,9,10,30]) (kq [0]) 65 [] trivial ?_
  refine Runs.sC 30 (C_86 125218) (C_86 125219) (decide (i < ((rPassages.length:Nat):Int))) (fun hq3=>?_) (fun hq3=>?_)
  ·have h:=condT h hq3
   refine Runs.sA 4 [.code (C_86 250440),.code (C_86 250441),.inBlock 3,.code (C_86 62611),.inLoop (C_86 15652),.inBlock 2,.inBlock 1,.code (C_86 979),.inLoop (C_86 244),.inBlock 0,.code (C_86 31)] ?_
   obtain ⟨c3,h⟩:=ifSome h
   refine Runs.sR hE ⟨[(2,(encL TMark.cells TMark.d sea)),(7,(encL TS__2_int.cells TS__2_int.d rPassages)),(8,(.os 0 0 out.length)),(9,(aI day)),(10,(aI i)),(52,(aB (decide ((w64 ((w64 ((if (w64 ((w64 (1440 * day))+1439)) < (rPassages.getD ((i).toNat) TS__2_int.d).e1 then (w64 ((w64 (1440 * day))+1439)) else (rPassages.getD ((i).toNat) TS__2_int.d).e1) - (if (w64 (1440 * day)) > (rPassages.getD ((i).toNat) TS__2_int.d).e0 then (w64 (1440 * day)) else (rPassages.getD ((i).toNat) TS__2_int.d).e0)))+1))≥30))))],[(0,aO 1 cI 0 out)],385⟩ (C_86 250440) [] [] (kp [2,7,8,9,10,52]) (kq [0]) 385 [0≤i∧i < ((rPassages.length:Nat):Int),0≤(1:Int)∧(1:Int) < 2,0≤i∧i < ((rPassages.length:Nat):Int),0≤(0:Int)∧(0:Int) < 2] ⟨c3,(by decide),c3,(by decide),trivial⟩ ?_
   refine Runs.sC 52 (C_86 500882) (C_86 500883) (decide ((w64 ((w64 ((if (w64 ((w64 (1440 * day))+1439)) < (rPassages.getD ((i).toNat) TS__2_int.d).e1 then (w64 ((w64 (1440 * day))+1439)) else (rPassages.getD ((i).toNat) TS__2_int.d).e1) - (if (w64 (1440 * day)) > (rPassages.getD ((i).toNat) TS__2_int.d).e0 then (w64 (1440 * day)) else (rPassages.getD ((i).toNat) TS__2_int.d).e0)))+1))≥30)) (fun hq4=>?_) (fun hq4=>?_)
   ·have h:=condT h hq4
    refine Runs.sA 1 [.code (C_86 1001764),.code (C_86 1001765),.inBlock 3,.code (C_86 62611),.inLoop (C_86 15652),.inBlock 2,.inBlock 1,.code (C_86 979),.inLoop (C_86 244),.inBlock 0,.code (C_86 31)] ?_
    obtain ⟨c4,h⟩:=ifSome h
    refine Runs.sR hE ⟨[(2,(encL TMark.cells TMark.d sea)),(7,(encL TS__2_int.cells TS__2_int.d rPassages)),(8,(.os 433 0 ((out ++ ([day]:List Int)).length))),(9,(aI day))],[(433,aO 1 cI 0 (out ++ ([day]:List Int)))],465⟩ (C_86 1001764) [] [] (kp [2,7] ++ [(8,.osl ((out ++ ([day]:List Int)).length))] ++ kp [9]) [(433,.arr 433 ((out ++ ([day]:List Int)).length) (fun zi=>cI ((out ++ ([day]:List Int)).getD zi 0)))] 465 [out.length=out.length,(out.length+1) * 8≤140737488355328,0+1≤1,∀ zi,zi < 1→AV.oneL ((fun zi=>([[(aI day)]]:List (List AV)).getD zi []) (addz 0 zi))=true,(out.length+1)=(out ++ ([day]:List Int)).length,out.length+1=(out ++ ([day]:List Int)).length,∀ zi,zi < (out ++ ([day]:List Int)).length→(fun zi=>cI ((out ++ ([day]:List Int)).getD zi 0)) zi=((fun zm=>if zm < out.length then (fun zi=>cI (out.getD zi 0)) zm else (fun zi=>([[(aI day)]]:List (List AV)).getD zi []) (zm - out.length))) zi] ⟨rfl,c4,z0,(oneN rfl),(len_app_raw rfl rfl),(len_app_raw rfl rfl),(get_app_raw cI 0 out ([day]:List Int) rfl (fun _ _=>rfl) (fun zq hzq=>get_chunk cI 0 ([day]:List Int) zq hzq)),trivial⟩ ?_
    refine Runs.sA 2 [.code (C_86 979),.inLoop (C_86 244),.inBlock 0,.code (C_86 31)] ?_
    exact Runs.sW hE _ [] (kp [2,7,8,9]) [(0,.keep 433)] 1 [] trivial (g_r06_Days_J3_ok N sea rPassages day K_g_r06_Days_L1 hK_g_r06_Days_L1 (out ++ ([day]:List Int)) _ h E hE)
   ·have h:=condF h hq4
    refine Runs.sA 2 [.code (C_86 62611),.inLoop (C_86 15652),.inBlock 2,.inBlock 1,.code (C_86 979),.inLoop (C_86 244),.inBlock 0,.code (C_86 31)] ?_
    refine Runs.sR hE ⟨[(2,(encL TMark.cells TMark.d sea)),(7,(encL TS__2_int.cells TS__2_int.d rPassages)),(8,(.os 0 0 out.length)),(9,(aI day)),(10,(aI (w64 (i+1))))],[(0,aO 1 cI 0 out)],433⟩ (C_86 62611) [] [] (kp [2,7,8,9,10]) (kq [0]) 433 [] trivial ?_
    refine Runs.sA 1 [.code (C_86 15652),.inLoop (C_86 15652),.inBlock 2,.inBlock 1,.code (C_86 979),.inLoop (C_86 244),.inBlock 0,.code (C_86 31)] ?_
    exact Runs.sW hE _ [] (kp [2,7,8,9,10]) (kq [0]) 1 [] trivial (ih (w64 (i+1)) _ h E hE)
  ·have h:=condF h hq3
   refine Runs.sA 2 [.code (C_86 979),.inLoop (C_86 244),.inBlock 0,.code (C_86 31)] ?_
   exact Runs.sW hE _ [] (kp [2,7,8,9]) (kq [0]) 1 [] trivial (g_r06_Days_J3_ok N sea rPassages day K_g_r06_Days_L1 hK_g_r06_Days_L1 out _ h E hE)
theorem g_r06_Days_L1_ok (N:Nat) (sea:List TMark) (rPassages:(List TS__2_int)) (fuel:Nat):∀ (out:List Int) (day:Int) (r:(List Int)),g_r06_Days_L1 N sea rPassages fuel out day=some r→∀ E,EnvOk E 0→Runs Try.prog E 17 58 (SPost E [] (encL cI 0 r)) [.code (C_86 244),.inLoop (C_86 244),.inBlock 0,.code (C_86 31)] ⟨[(2,(encL TMark.cells TMark.d sea)),(7,(encL TS__2_int.cells TS__2_int.d rPassages)),(8,(.os 0 0 out.length)),(9,(aI day))],[(0,aO 1 cI 0 out)],1⟩:=by
 induction fuel with
 | zero=>intro _ _ r h;rw [g_r06_Days_L1.eq_1] at h;cases h
 | succ fuel ih =>
  intro out day r h E hE
  rw [g_r06_Days_L1.eq_2] at h
  refine Runs.sA 2 [.code (C_86 976),.code (C_86 977),.code (C_86 489),.inLoop (C_86 244),.inBlock 0,.code (C_86 31)] ?_
  obtain ⟨c2,h⟩:=ifSome h
  refine Runs.sR hE ⟨[(2,(encL TMark.cells TMark.d sea)),(7,(encL TS__2_int.cells TS__2_int.d rPassages)),(8,(.os 0 0 out.length)),(9,(aI day)),(24,(aB (decide (day≤(w64 (((sea.getD ((w64 (((sea.length:Nat):Int) - 1)).toNat) TMark.d).f_Minute).tdiv 1440))))))],[(0,aO 1 cI 0 out)],161⟩ (C_86 976) [] [] (kp [2,7,8,9,24]) (kq [0]) 161 [0≤(w64 (((sea.length:Nat):Int) - 1))∧(w64 (((sea.length:Nat):Int) - 1)) < ((sea.length:Nat):Int),(1440:Int)≠0] ⟨c2,(by decide),trivial⟩ ?_
  refine Runs.sC 24 (C_86 1954) (C_86 1955) (decide (day≤(w64 (((sea.getD ((w64 (((sea.length:Nat):Int) - 1)).toNat) TMark.d).f_Minute).tdiv 1440)))) (fun hq2=>?_) (fun hq2=>?_)
  ·have h:=condT h hq2
   refine Runs.sA 4 [.code (C_86 3912),.code (C_86 3913),.inBlock 1,.code (C_86 979),.inLoop (C_86 244),.inBlock 0,.code (C_86 31)] ?_
   refine Runs.sR hE ⟨[(2,(encL TMark.cells TMark.d sea)),(7,(encL TS__2_int.cells TS__2_int.d rPassages)),(8,(.os 0 0 out.length)),(9,(aI day)),(10,(aI 0))],[(0,aO 1 cI 0 out)],177⟩ (C_86 3912) [] [] (kp [2,7,8,9,10]) (kq [0]) 177 [] trivial ?_
   refine Runs.sA 2 [.code (C_86 15652),.inLoop (C_86 15652),.inBlock 2,.inBlock 1,.code (C_86 979),.inLoop (C_86 244),.inBlock 0,.code (C_86 31)] ?_
   exact Runs.sW hE _ [] (kp [2,7,8,9,10]) (kq [0]) 1 [] trivial (g_r06_Days_L2_ok N sea rPassages out day (g_r06_Days_L1 N sea rPassages fuel) ih N 0 _ h E hE)
  ·have h:=condF h hq2
   refine Runs.sA 2 [.code (C_86 62),.code (C_86 63)] ?_
   refine Runs.sR hE ⟨[(6,(.os 0 0 out.length))],[(0,aO 1 cI 0 out)],193⟩ (C_86 62) [] [] (kp [6]) (kq [0]) 193 [] trivial ?_
   obtain rfl:=Option.some.inj h
   refine Runs.sW hE ⟨[(6,(encL cI 0 out))],[],193⟩ [0] [(6,.sl (out.length) (fun zi=>cI (out.getD zi 0)))] [] 193 [out.length=out.length,0+out.length≤out.length,∀ zi,zi < out.length→(fun zi=>cI (out.getD zi 0)) zi=(fun zi=>cI (out.getD zi 0)) (addz 0 zi)] ⟨rfl,z0,(fun _ _=>rfl),trivial⟩ ?_
   exact Runs.sT Try.f17 [] [] trivial
theorem g_r06_Days_ok (N:Nat) (d:TDock) (c:TCall) (sea:List TMark) (r:(List Int)) (h:g_r06_Days N d c sea=some r):Sound Try.prog 17 [(.agg (TDock.cells d)),(.agg (TCall.cells c)),(encL TMark.cells TMark.d sea)] [] 0 (encL cI 0 r) []:=by
 unfold g_r06_Days at h
 refine Sound.of_runs (fu:=Try.f17) (c:=C_86 1) (nt:=58) (by kernel_rfl) (by kernel_rfl) (by kernel_rfl) (by kernel_rfl) (fun hm=>rfl) ?_
 intro E hE
 refine Runs.sA 1 [.code (C_86 2),.code (C_86 3)] ?_
 refine Runs.sR hE ⟨[(2,(encL TMark.cells TMark.d sea)),(3,(.op 0 0 0)),(4,(.op 16 0 0))],[(0,vO 6 (TDock.cells d)),(16,vO 9 (TCall.cells c))],48⟩ (C_86 2) [] [] (kp [2,3,4]) (kq [0,16]) 48 [] trivial ?_
 refine Runs.sA 1 [.code (C_86 6),.code (C_86 7)] ?_
 obtain ⟨rPassages,hr,h⟩:=bindSome h
 refine Runs.sR hE ⟨[(2,(encL TMark.cells TMark.d sea)),(7,(encL TS__2_int.cells TS__2_int.d rPassages))],[],128⟩ (C_86 6) [(3,⟨[],true,(encL TS__2_int.cells TS__2_int.d rPassages),[],0,false,none⟩)] [] (kp [2,7]) [] 128 [0 < 1,0 < 1,Sound Try.prog 15 [(.agg (TDock.cells d)),(.agg (TCall.cells c)),(encL TMark.cells TMark.d sea)] [] 0 (encL TS__2_int.cells TS__2_int.d rPassages) []] ⟨o1,o1,(g_r06_Passages_ok N d c sea rPassages hr),trivial⟩ ?_
 refine Runs.sA 1 [.code (C_86 14),.code (C_86 15)] ?_
 refine Runs.sR hE ⟨[(2,(encL TMark.cells TMark.d sea)),(7,(encL TS__2_int.cells TS__2_int.d rPassages)),(8,.nil)],[],144⟩ (C_86 14) [] [] (kp [2,7,8]) [] 144 [] trivial ?_
 refine Runs.sA 2 [.code (C_86 60),.code (C_86 61),.code (C_86 31)] ?_
 refine Runs.sR hE ⟨[(2,(encL TMark.cells TMark.d sea)),(7,(encL TS__2_int.cells TS__2_int.d rPassages)),(8,.nil),(9,(aI 0))],[],160⟩ (C_86 60) [] [] (kp [2,7,8,9]) [] 160 [] trivial ?_
 refine Runs.sA 2 [.code (C_86 244),.inLoop (C_86 244),.inBlock 0,.code (C_86 31)] ?_
 exact Runs.sW hE _ [] (kp [2,7] ++ [(8,.nilos 0)] ++ kp [9]) [(0,.nil 1 (fun zi=>cI (([]:List Int).getD zi 0)))] 1 [] trivial (g_r06_Days_L1_ok N sea rPassages N ([]:List Int) 0 _ h E hE)
noncomputable def C_87 (n:Nat):Code:=cat (bodyOf Try.f16) (pth n)
theorem g_b_Ints_L1_ok (N:Nat) (a:List Int) (b:List Int) (fuel:Nat):∀ (i:Int) (r:Bool),g_b_Ints_L1 N a b fuel i=some r→∀ E,EnvOk E 0→Runs Try.prog E 16 26 (SPost E [] (aB r)) [.code (C_87 116),.inLoop (C_87 116),.inBlock 0,.code (C_87 15)] ⟨[(0,(encL cI 0 a)),(1,(encL cI 0 b)),(5,(aI i))],[],0⟩:=by
 induction fuel with
 | zero=>intro _ r h;rw [g_b_Ints_L1.eq_1] at h;cases h
 | succ fuel ih =>
  intro i r h E hE
  rw [g_b_Ints_L1.eq_2] at h
  refine Runs.sA 2 [.code (C_87 464),.code (C_87 465),.code (C_87 233),.inLoop (C_87 116),.inBlock 0,.code (C_87 15)] ?_
  refine Runs.sR hE ⟨[(0,(encL cI 0 a)),(1,(encL cI 0 b)),(5,(aI i)),(14,(aB (decide (i < ((a.length:Nat):Int)))))],[],64⟩ (C_87 464) [] [] (kp [0,1,5,14]) [] 64 [] trivial ?_
  refine Runs.sC 14 (C_87 930) (C_87 931) (decide (i < ((a.length:Nat):Int))) (fun hq3=>?_) (fun hq3=>?_)
  ·have h:=condT h hq3
   refine Runs.sA 4 [.code (C_87 1864),.code (C_87 1865),.inBlock 1,.code (C_87 467),.inLoop (C_87 116),.inBlock 0,.code (C_87 15)] ?_
   obtain ⟨c,h⟩:=ifSome h
   obtain ⟨c2,h⟩:=ifSome h
   refine Runs.sR hE ⟨[(0,(encL cI 0 a)),(1,(encL cI 0 b)),(5,(aI i)),(25,(aB ((a.getD ((i).toNat) 0) != (b.getD ((i).toNat) 0))))],[],208⟩ (C_87 1864) [] [] (kp [0,1,5,25]) [] 208 [0≤i∧i < ((a.length:Nat):Int),0≤i∧i < ((b.length:Nat):Int)] ⟨c,c2,trivial⟩ ?_
   refine Runs.sC 25 (C_87 3730) (C_87 3731) ((a.getD ((i).toNat) 0) != (b.getD ((i).toNat) 0)) (fun hq4=>?_) (fun hq4=>?_)
   ·have h:=condT h hq4
    refine Runs.sA 1 [.code (C_87 7460),.code (C_87 7461),.inBlock 1,.code (C_87 467),.inLoop (C_87 116),.inBlock 0,.code (C_87 15)] ?_
    refine Runs.sR hE ⟨[(4,(aB false))],[],224⟩ (C_87 7460) [] [] (kp [4]) [] 224 [] trivial ?_
    obtain rfl:=Option.some.inj h
    refine Runs.sW hE ⟨[(4,(aB false))],[],224⟩ [] (kp [4]) [] 224 [] trivial ?_
    exact Runs.sT Try.f16 [] [] trivial
   ·have h:=condF h hq4
    refine Runs.sA 2 [.code (C_87 467),.inLoop (C_87 116),.inBlock 0,.code (C_87 15)] ?_
    refine Runs.sR hE ⟨[(0,(encL cI 0 a)),(1,(encL cI 0 b)),(5,(aI (w64 (i+1))))],[],256⟩ (C_87 467) [] [] (kp [0,1,5]) [] 256 [] trivial ?_
    refine Runs.sA 1 [.code (C_87 116),.inLoop (C_87 116),.inBlock 0,.code (C_87 15)] ?_
    exact Runs.sW hE _ [] (kp [0,1,5]) [] 0 [] trivial (ih (w64 (i+1)) _ h E hE)
  ·have h:=condF h hq3
   refine Runs.sA 2 [.code (C_87 30),.code (C_87 31)] ?_
   refine Runs.sR hE ⟨[(4,(aB true))],[],80⟩ (C_87 30) [] [] (kp [4]) [] 80 [] trivial ?_
   obtain rfl:=Option.some.inj h
   refine Runs.sW hE ⟨[(4,(aB true))],[],80⟩ [] (kp [4]) [] 80 [] trivial ?_
   exact Runs.sT Try.f16 [] [] trivial
theorem g_b_Ints_ok (N:Nat) (a:List Int) (b:List Int) (r:Bool) (h:g_b_Ints N a b=some r):Sound Try.prog 16 [(encL cI 0 a),(encL cI 0 b)] [] 0 (aB r) []:=by
 unfold g_b_Ints at h
 refine Sound.of_runs (fu:=Try.f16) (c:=C_87 1) (nt:=26) (by kernel_rfl) (by kernel_rfl) (by kernel_rfl) (by kernel_rfl) (fun hm=>rfl) ?_
 intro E hE
 refine Runs.sA 1 [.code (C_87 2),.code (C_87 3)] ?_
 refine Runs.sR hE ⟨[(0,(encL cI 0 a)),(1,(encL cI 0 b))],[],16⟩ (C_87 2) [] [] (kp [0,1]) [] 16 [] trivial ?_
 refine Runs.sA 2 [.code (C_87 12),.code (C_87 13),.code (C_87 7)] ?_
 refine Runs.sR hE ⟨[(0,(encL cI 0 a)),(1,(encL cI 0 b)),(10,(aB (((a.length:Nat):Int) != ((b.length:Nat):Int))))],[],96⟩ (C_87 12) [] [] (kp [0,1,10]) [] 96 [] trivial ?_
 refine Runs.sC 10 (C_87 26) (C_87 27) (((a.length:Nat):Int) != ((b.length:Nat):Int)) (fun hq2=>?_) (fun hq2=>?_)
 ·have h:=condT h hq2
  refine Runs.sA 1 [.code (C_87 52),.code (C_87 53),.code (C_87 7)] ?_
  refine Runs.sR hE ⟨[(4,(aB false))],[],112⟩ (C_87 52) [] [] (kp [4]) [] 112 [] trivial ?_
  obtain rfl:=Option.some.inj h
  refine Runs.sW hE ⟨[(4,(aB false))],[],112⟩ [] (kp [4]) [] 112 [] trivial ?_
  exact Runs.sT Try.f16 [] [] trivial
 ·have h:=condF h hq2
  refine Runs.sA 3 [.code (C_87 28),.code (C_87 29),.code (C_87 15)] ?_
  refine Runs.sR hE ⟨[(0,(encL cI 0 a)),(1,(encL cI 0 b)),(5,(aI 0))],[],112⟩ (C_87 28) [] [] (kp [0,1,5]) [] 112 [] trivial ?_
  refine Runs.sA 2 [.code (C_87 116),.inLoop (C_87 116),.inBlock 0,.code (C_87 15)] ?_
  exact Runs.sW hE _ [] (kp [0,1,5]) [] 0 [] trivial (g_b_Ints_L1_ok N a b N 0 _ h E hE)
noncomputable def C_48 (n:Nat):Code:=cat (bodyOf Try.f4) (pth n)
theorem g_w06_BerthTides_L1_ok (N:Nat) (rPassages:(List TS__2_int)×Int) (rPassages2:(List TS__2_int)) (fuel:Nat):∀ (i:Int) (r:Bool),g_w06_BerthTides_L1 N rPassages rPassages2 fuel i=some r→∀ E,EnvOk E 0→Runs Try.prog E 4 106 (SPost E [] (aB r)) [.code (C_48 8180),.inLoop (C_48 8180),.inBlock 0,.code (C_48 1023)] ⟨[(7,(encL TS__2_int.cells TS__2_int.d rPassages.1)),(12,(encL TS__2_int.cells TS__2_int.d rPassages2)),(13,(aI i))],[],0⟩:=by
 induction fuel with
 | zero=>intro _ r h;rw [g_w06_BerthTides_L1.eq_1] at h;cases h
 | succ fuel ih =>
  intro i r h E hE
  rw [g_w06_BerthTides_L1.eq_2] at h
  refine Runs.sA 2 [.code (C_48 32720),.code (C_48 32721),.code (C_48 16361),.inLoop (C_48 8180),.inBlock 0,.code (C_48 1023)] ?_
  refine Runs.sR hE ⟨[(7,(encL TS__2_int.cells TS__2_int.d rPassages.1)),(12,(encL TS__2_int.cells TS__2_int.d rPassages2)),(13,(aI i)),(94,(aB (decide (i < ((rPassages.1.length:Nat):Int)))))],[],64⟩ (C_48 32720) [] [] (kp [7,12,13,94]) [] 64 [] trivial ?_
  refine Runs.sC 94 (C_48 65442) (C_48 65443) (decide (i < ((rPassages.1.length:Nat):Int))) (fun hq6=>?_) (fun hq6=>?_)
  ·have h:=condT h hq6
   refine Runs.sA 4 [.code (C_48 130888),.code (C_48 130889),.inBlock 1,.code (C_48 32723),.inLoop (C_48 8180),.inBlock 0,.code (C_48 1023)] ?_
   obtain ⟨c2,h⟩:=ifSome h
   obtain ⟨c3,h⟩:=ifSome h
   refine Runs.sR hE ⟨[(7,(encL TS__2_int.cells TS__2_int.d rPassages.1)),(12,(encL TS__2_int.cells TS__2_int.d rPassages2)),(13,(aI i)),(105,(aB (!(((rPassages.1.getD ((i).toNat) TS__2_int.d).e0 == (rPassages2.getD ((i).toNat) TS__2_int.d).e0) && (((rPassages.1.getD ((i).toNat) TS__2_int.d).e1 == (rPassages2.getD ((i).toNat) TS__2_int.d).e1) && true)))))],[],208⟩ (C_48 130888) [] [] (kp [7,12,13,105]) [] 208 [0≤i∧i < ((rPassages.1.length:Nat):Int),0≤i∧i < ((rPassages2.length:Nat):Int)] ⟨c2,c3,trivial⟩ ?_
   refine Runs.sC 105 (C_48 261778) (C_48 261779) (!(((rPassages.1.getD ((i).toNat) TS__2_int.d).e0 == (rPassages2.getD ((i).toNat) TS__2_int.d).e0) && (((rPassages.1.getD ((i).toNat) TS__2_int.d).e1 == (rPassages2.getD ((i).toNat) TS__2_int.d).e1) && true))) (fun hq7=>?_) (fun hq7=>?_)
   ·have h:=condT h hq7
    refine Runs.sA 1 [.code (C_48 523556),.code (C_48 523557),.inBlock 1,.code (C_48 32723),.inLoop (C_48 8180),.inBlock 0,.code (C_48 1023)] ?_
    refine Runs.sR hE ⟨[(6,(aB false))],[],224⟩ (C_48 523556) [] [] (kp [6]) [] 224 [] trivial ?_
    obtain rfl:=Option.some.inj h
    refine Runs.sW hE ⟨[(6,(aB false))],[],224⟩ [] (kp [6]) [] 224 [] trivial ?_
    exact Runs.sT Try.f4 [] [] trivial
   ·have h:=condF h hq7
    refine Runs.sA 2 [.code (C_48 32723),.inLoop (C_48 8180),.inBlock 0,.code (C_48 1023)] ?_
    refine Runs.sR hE ⟨[(7,(encL TS__2_int.cells TS__2_int.d rPassages.1)),(12,(encL TS__2_int.cells TS__2_int.d rPassages2)),(13,(aI (w64 (i+1))))],[],256⟩ (C_48 32723) [] [] (kp [7,12,13]) [] 256 [] trivial ?_
    refine Runs.sA 1 [.code (C_48 8180),.inLoop (C_48 8180),.inBlock 0,.code (C_48 1023)] ?_
    exact Runs.sW hE _ [] (kp [7,12,13]) [] 0 [] trivial (ih (w64 (i+1)) _ h E hE)
  ·have h:=condF h hq6
   refine Runs.sA 2 [.code (C_48 2046),.code (C_48 2047)] ?_
   refine Runs.sR hE ⟨[(6,(aB true))],[],80⟩ (C_48 2046) [] [] (kp [6]) [] 80 [] trivial ?_
   obtain rfl:=Option.some.inj h
   refine Runs.sW hE ⟨[(6,(aB true))],[],80⟩ [] (kp [6]) [] 80 [] trivial ?_
   exact Runs.sT Try.f4 [] [] trivial
theorem g_w06_BerthTides_ok (N:Nat) (d:TDock) (c:TCall) (sea:List TMark) (r:Bool) (h:g_w06_BerthTides N d c sea=some r):Sound Try.prog 4 [(.agg (TDock.cells d)),(.agg (TCall.cells c)),(encL TMark.cells TMark.d sea)] [] 0 (aB r) []:=by
 unfold g_w06_BerthTides at h
 refine Sound.of_runs (fu:=Try.f4) (c:=C_48 1) (nt:=106) (by kernel_rfl) (by kernel_rfl) (by kernel_rfl) (by kernel_rfl) (fun hm=>rfl) ?_
 intro E hE
 refine Runs.sA 1 [.code (C_48 2),.code (C_48 3)] ?_
 refine Runs.sR hE ⟨[(2,(encL TMark.cells TMark.d sea)),(3,(.op 0 0 0)),(4,(.op 16 0 0))],[(0,vO 6 (TDock.cells d)),(16,vO 9 (TCall.cells c))],48⟩ (C_48 2) [] [] (kp [2,3,4]) (kq [0,16]) 48 [] trivial ?_
 refine Runs.sA 2 [.code (C_48 12),.code (C_48 13),.code (C_48 7)] ?_
 obtain ⟨rawake,hr,h⟩:=bindSome h
 refine Runs.sR hE ⟨[(2,(encL TMark.cells TMark.d sea)),(3,(.op 0 0 0)),(4,(.op 16 0 0)),(15,(aB (!rawake)))],[(0,vO 6 (TDock.cells d)),(16,vO 9 (TCall.cells c))],80⟩ (C_48 12) [(0,⟨[],true,(aB rawake),[],0,false,none⟩)] [] (kp [2,3,4,15]) (kq [0,16]) 80 [Sound Try.prog 9 [] [] 0 (aB rawake) []] ⟨(g_w06_awake_ok N rawake hr),trivial⟩ ?_
 refine Runs.sC 15 (C_48 26) (C_48 27) (!rawake) (fun hq2=>?_) (fun hq2=>?_)
 ·have h:=condT h hq2
  refine Runs.sA 1 [.code (C_48 52),.code (C_48 53),.code (C_48 7)] ?_
  refine Runs.sR hE ⟨[(6,(aB false))],[],96⟩ (C_48 52) [] [] (kp [6]) [] 96 [] trivial ?_
  obtain rfl:=Option.some.inj h
  refine Runs.sW hE ⟨[(6,(aB false))],[],96⟩ [] (kp [6]) [] 96 [] trivial ?_
  exact Runs.sT Try.f4 [] [] trivial
 ·have h:=condF h hq2
  refine Runs.sA 3 [.code (C_48 28),.code (C_48 29),.code (C_48 15)] ?_
  obtain ⟨rNames,hr2,h⟩:=bindSome h
  obtain ⟨rcalm,hr3,h⟩:=bindSome h
  refine Runs.sR hE ⟨[(2,(encL TMark.cells TMark.d sea)),(3,(.op 0 0 0)),(4,(.op 16 0 0)),(26,(aB (cond (!rNames) true (!rcalm))))],[(0,vO 6 (TDock.cells d)),(16,vO 9 (TCall.cells c))],256⟩ (C_48 28) [(4,⟨[],true,(aB rNames),[],0,false,none⟩),(8,⟨[],true,(aB rcalm),[],0,false,none⟩)] [] (kp [2,3,4,26]) (kq [0,16]) 256 [0 < 1,0 < 1,Sound Try.prog 10 [(.sl 1 (fun zi=>(fun zi=>([[(aS d.f_Name),(aI d.f_Length),(aI d.f_Width),(aI d.f_Sill),(aI d.f_Floor),(aI d.f_Gap)]]:List (List AV)).getD zi []) (addz 0 zi))),(.sl 1 (fun zi=>(fun zi=>([[(aS c.f_Name),(aI c.f_Length),(aI c.f_Beam),(aI c.f_Draught),(aI c.f_Under),(aI c.f_Arrive),(aI c.f_Work),(aI c.f_Due),(aI c.f_Late)]]:List (List AV)).getD zi []) (addz 0 zi)))] [] 0 (aB rNames) [],0+1≤1,0+1≤1,(!(!rNames))=true→AllP [Sound Try.prog 11 [(encL TMark.cells TMark.d sea),(aI 5760)] [] 0 (aB rcalm) [],(!(!rNames))=true],(!(!rNames))=true→AllP [(!(!rNames))=true],(!(!rNames))=true→AllP [(!(!rNames))=true]] ⟨o1,o1,(Sound.conv (g_w06_Names_ok N ([d]:List TDock) ([c]:List TCall) rNames hr2) (.cons (Alike.sl rfl (fun zq hzq=>get_chunk TDock.cells TDock.d ([d]:List TDock) zq hzq)) (.cons (Alike.sl rfl (fun zq hzq=>get_chunk TCall.cells TCall.d ([c]:List TCall) zq hzq)) .nil))),z0,z0,(fun hg=>⟨(g_w06_calm_ok N sea 5760 rcalm (condT hr3 hg)),hg,trivial⟩),(fun hg=>⟨hg,trivial⟩),(fun hq=>⟨hq,trivial⟩),trivial⟩ ?_
  refine Runs.sC 26 (C_48 58) (C_48 59) (cond (!rNames) true (!rcalm)) (fun hq3=>?_) (fun hq3=>?_)
  ·have h:=condT h hq3
   refine Runs.sA 1 [.code (C_48 116),.code (C_48 117),.code (C_48 15)] ?_
   refine Runs.sR hE ⟨[(6,(aB true))],[],272⟩ (C_48 116) [] [] (kp [6]) [] 272 [] trivial ?_
   obtain rfl:=Option.some.inj h
   refine Runs.sW hE ⟨[(6,(aB true))],[],272⟩ [] (kp [6]) [] 272 [] trivial ?_
   exact Runs.sT Try.f4 [] [] trivial
  ·have h:=condF h hq3
   refine Runs.sA 2 [.code (C_48 30),.code (C_48 31)] ?_
   obtain ⟨rPassages,hr4,h⟩:=bindSome h
   refine Runs.sR hE ⟨[(2,(encL TMark.cells TMark.d sea)),(3,(.op 0 0 0)),(4,(.op 16 0 0)),(7,(encL TS__2_int.cells TS__2_int.d rPassages.1)),(8,(aI rPassages.2))],[(0,vO 6 (TDock.cells d)),(16,vO 9 (TCall.cells c))],400⟩ (C_48 30) [(3,⟨[],true,(.tup [(encL TS__2_int.cells TS__2_int.d rPassages.1),(aI rPassages.2)]),[],0,false,none⟩)] [] (kp [2,3,4,7,8]) (kq [0,16]) 400 [0 < 1,0 < 1,Sound Try.prog 12 [(.agg (TDock.cells d)),(.agg (TCall.cells c)),(encL TMark.cells TMark.d sea)] [] 0 (.tup [(encL TS__2_int.cells TS__2_int.d rPassages.1),(aI rPassages.2)]) []] ⟨o1,o1,(g_berth_Passages_ok N d c sea rPassages hr4),trivial⟩ ?_
   refine Runs.sA 1 [.code (C_48 62),.code (C_48 63)] ?_
   obtain ⟨rDays,hr5,h⟩:=bindSome h
   refine Runs.sR hE ⟨[(2,(encL TMark.cells TMark.d sea)),(3,(.op 0 0 0)),(4,(.op 16 0 0)),(7,(encL TS__2_int.cells TS__2_int.d rPassages.1)),(8,(aI rPassages.2)),(9,(encL cI 0 rDays.1)),(10,(aI rDays.2))],[(0,vO 6 (TDock.cells d)),(16,vO 9 (TCall.cells c))],544⟩ (C_48 62) [(3,⟨[],true,(.tup [(encL cI 0 rDays.1),(aI rDays.2)]),[],0,false,none⟩)] [] (kp [2,3,4,7,8,9,10]) (kq [0,16]) 544 [0 < 1,0 < 1,Sound Try.prog 13 [(.agg (TDock.cells d)),(.agg (TCall.cells c)),(encL TMark.cells TMark.d sea)] [] 0 (.tup [(encL cI 0 rDays.1),(aI rDays.2)]) []] ⟨o1,o1,(g_berth_Days_ok N d c sea rDays hr5),trivial⟩ ?_
   refine Runs.sA 2 [.code (C_48 252),.code (C_48 253),.code (C_48 127)] ?_
   obtain ⟨rCheckTide,hr6,h⟩:=bindSome h
   refine Runs.sR hE ⟨[(2,(encL TMark.cells TMark.d sea)),(3,(.op 0 0 0)),(4,(.op 16 0 0)),(7,(encL TS__2_int.cells TS__2_int.d rPassages.1)),(8,(aI rPassages.2)),(9,(encL cI 0 rDays.1)),(10,(aI rDays.2)),(11,(aI rCheckTide))],[(0,vO 6 (TDock.cells d)),(16,vO 9 (TCall.cells c))],624⟩ (C_48 252) [(3,⟨[],true,(aI rCheckTide),[],0,false,none⟩)] [] (kp [2,3,4,7,8,9,10,11]) (kq [0,16]) 624 [0 < 1,0 < 1,Sound Try.prog 14 [(.agg (TDock.cells d)),(.agg (TCall.cells c)),(encL TMark.cells TMark.d sea)] [] 0 (aI rCheckTide) []] ⟨o1,o1,(g_r06_CheckTide_ok N d c sea rCheckTide hr6),trivial⟩ ?_
   refine Runs.sA 1 [.code (C_48 506),.code (C_48 507),.code (C_48 127)] ?_
   refine Runs.sR hE ⟨[(2,(encL TMark.cells TMark.d sea)),(3,(.op 0 0 0)),(4,(.op 16 0 0)),(7,(encL TS__2_int.cells TS__2_int.d rPassages.1)),(8,(aI rPassages.2)),(9,(encL cI 0 rDays.1)),(10,(aI rDays.2)),(11,(aI rCheckTide)),(46,(aB (rCheckTide != 0)))],[(0,vO 6 (TDock.cells d)),(16,vO 9 (TCall.cells c))],656⟩ (C_48 506) [] [] (kp [2,3,4,7,8,9,10,11,46]) (kq [0,16]) 656 [] trivial ?_
   refine Runs.sC 46 (C_48 1014) (C_48 1015) (rCheckTide != 0) (fun hq4=>?_) (fun hq4=>?_)
   ·have h:=condT h hq4
    refine Runs.sA 1 [.code (C_48 2028),.code (C_48 2029),.code (C_48 127)] ?_
    refine Runs.sR hE ⟨[(6,(aB (cond (cond (cond (rPassages.2 == rCheckTide) (rDays.2 == rCheckTide) false) (((rPassages.1.length:Nat):Int) == 0) false) (((rDays.1.length:Nat):Int) == 0) false)))],[],960⟩ (C_48 2028) [] [] (kp [6]) [] 960 [(rPassages.2 == rCheckTide)=true→AllP [(rPassages.2 == rCheckTide)=true,(rPassages.2 == rCheckTide)=true],(rPassages.2 == rCheckTide)=true→AllP [(rPassages.2 == rCheckTide)=true],(cond (rPassages.2 == rCheckTide) (rDays.2 == rCheckTide) false)=true→AllP [(cond (rPassages.2 == rCheckTide) (rDays.2 == rCheckTide) false)=true],(cond (rPassages.2 == rCheckTide) (rDays.2 == rCheckTide) false)=true→AllP [(cond (rPassages.2 == rCheckTide) (rDays.2 == rCheckTide) false)=true],(cond (rPassages.2 == rCheckTide) (rDays.2 == rCheckTide) false)=true→AllP [(cond (rPassages.2 == rCheckTide) (rDays.2 == rCheckTide) false)=true],(cond (cond (rPassages.2 == rCheckTide) (rDays.2 == rCheckTide) false) (((rPassages.1.length:Nat):Int) == 0) false)=true→AllP [(cond (cond (rPassages.2 == rCheckTide) (rDays.2 == rCheckTide) false) (((rPassages.1.length:Nat):Int) == 0) false)=true],(cond (cond (rPassages.2 == rCheckTide) (rDays.2 == rCheckTide) false) (((rPassages.1.length:Nat):Int) == 0) false)=true→AllP [(cond (cond (rPassages.2 == rCheckTide) (rDays.2 == rCheckTide) false) (((rPassages.1.length:Nat):Int) == 0) false)=true],(cond (cond (rPassages.2 == rCheckTide) (rDays.2 == rCheckTide) false) (((rPassages.1.length:Nat):Int) == 0) false)=true→AllP [(cond (cond (rPassages.2 == rCheckTide) (rDays.2 == rCheckTide) false) (((rPassages.1.length:Nat):Int) == 0) false)=true]] ⟨(fun hg=>⟨hg,hg,trivial⟩),(fun hq=>⟨hq,trivial⟩),(fun hg=>⟨hg,trivial⟩),(fun hg=>⟨hg,trivial⟩),(fun hq=>⟨hq,trivial⟩),(fun hg=>⟨hg,trivial⟩),(fun hg=>⟨hg,trivial⟩),(fun hq=>⟨hq,trivial⟩),trivial⟩ ?_
    obtain rfl:=Option.some.inj h
    refine Runs.sW hE ⟨[(6,(aB (cond (cond (cond (rPassages.2 == rCheckTide) (rDays.2 == rCheckTide) false) (((rPassages.1.length:Nat):Int) == 0) false) (((rDays.1.length:Nat):Int) == 0) false)))],[],960⟩ [] (kp [6]) [] 960 [] trivial ?_
    exact Runs.sT Try.f4 [] [] trivial
   ·have h:=condF h hq4
    refine Runs.sA 2 [.code (C_48 254),.code (C_48 255)] ?_
    obtain ⟨rPassages2,hr7,h⟩:=bindSome h
    refine Runs.sR hE ⟨[(2,(encL TMark.cells TMark.d sea)),(3,(.op 0 0 0)),(4,(.op 16 0 0)),(7,(encL TS__2_int.cells TS__2_int.d rPassages.1)),(8,(aI rPassages.2)),(9,(encL cI 0 rDays.1)),(10,(aI rDays.2)),(12,(encL TS__2_int.cells TS__2_int.d rPassages2))],[(0,vO 6 (TDock.cells d)),(16,vO 9 (TCall.cells c))],736⟩ (C_48 254) [(3,⟨[],true,(encL TS__2_int.cells TS__2_int.d rPassages2),[],0,false,none⟩)] [] (kp [2,3,4,7,8,9,10,12]) (kq [0,16]) 736 [0 < 1,0 < 1,Sound Try.prog 15 [(.agg (TDock.cells d)),(.agg (TCall.cells c)),(encL TMark.cells TMark.d sea)] [] 0 (encL TS__2_int.cells TS__2_int.d rPassages2) []] ⟨o1,o1,(g_r06_Passages_ok N d c sea rPassages2 hr7),trivial⟩ ?_
    refine Runs.sA 2 [.code (C_48 1020),.code (C_48 1021),.code (C_48 511)] ?_
    obtain ⟨rDays2,hr8,h⟩:=bindSome h
    obtain ⟨rInts,hr9,h⟩:=bindSome h
    refine Runs.sR hE ⟨[(7,(encL TS__2_int.cells TS__2_int.d rPassages.1)),(12,(encL TS__2_int.cells TS__2_int.d rPassages2)),(90,(aB (cond (cond (cond (rPassages.2 != 0) true (rDays.2 != 0)) true (((rPassages.1.length:Nat):Int) != ((rPassages2.length:Nat):Int))) true (!rInts))))],[],1088⟩ (C_48 1020) [(18,⟨[],true,(encL cI 0 rDays2),[],0,false,none⟩),(19,⟨[],true,(aB rInts),[],0,false,none⟩)] [] (kp [7,12,90]) [] 1088 [(!(rPassages.2 != 0))=true→AllP [(!(rPassages.2 != 0))=true],(!(rPassages.2 != 0))=true→AllP [(!(rPassages.2 != 0))=true],(!(cond (rPassages.2 != 0) true (rDays.2 != 0)))=true→AllP [(!(cond (rPassages.2 != 0) true (rDays.2 != 0)))=true],(!(cond (rPassages.2 != 0) true (rDays.2 != 0)))=true→AllP [(!(cond (rPassages.2 != 0) true (rDays.2 != 0)))=true],(!(cond (rPassages.2 != 0) true (rDays.2 != 0)))=true→AllP [(!(cond (rPassages.2 != 0) true (rDays.2 != 0)))=true,(!(cond (rPassages.2 != 0) true (rDays.2 != 0)))=true],(!(cond (rPassages.2 != 0) true (rDays.2 != 0)))=true→AllP [(!(cond (rPassages.2 != 0) true (rDays.2 != 0)))=true],(!(cond (cond (rPassages.2 != 0) true (rDays.2 != 0)) true (((rPassages.1.length:Nat):Int) != ((rPassages2.length:Nat):Int))))=true→AllP [0 < 1],(!(cond (cond (rPassages.2 != 0) true (rDays.2 != 0)) true (((rPassages.1.length:Nat):Int) != ((rPassages2.length:Nat):Int))))=true→AllP [0 < 1],(!(cond (cond (rPassages.2 != 0) true (rDays.2 != 0)) true (((rPassages.1.length:Nat):Int) != ((rPassages2.length:Nat):Int))))=true→AllP [Sound Try.prog 17 [(.agg (TDock.cells d)),(.agg (TCall.cells c)),(encL TMark.cells TMark.d sea)] [] 0 (encL cI 0 rDays2) [],(!(cond (cond (rPassages.2 != 0) true (rDays.2 != 0)) true (((rPassages.1.length:Nat):Int) != ((rPassages2.length:Nat):Int))))=true,(!(cond (cond (rPassages.2 != 0) true (rDays.2 != 0)) true (((rPassages.1.length:Nat):Int) != ((rPassages2.length:Nat):Int))))=true,(!(cond (cond (rPassages.2 != 0) true (rDays.2 != 0)) true (((rPassages.1.length:Nat):Int) != ((rPassages2.length:Nat):Int))))=true],(!(cond (cond (rPassages.2 != 0) true (rDays.2 != 0)) true (((rPassages.1.length:Nat):Int) != ((rPassages2.length:Nat):Int))))=true→AllP [Sound Try.prog 16 [(encL cI 0 rDays.1),(encL cI 0 rDays2)] [] 0 (aB rInts) [],(!(cond (cond (rPassages.2 != 0) true (rDays.2 != 0)) true (((rPassages.1.length:Nat):Int) != ((rPassages2.length:Nat):Int))))=true,(!(cond (cond (rPassages.2 != 0) true (rDays.2 != 0)) true (((rPassages.1.length:Nat):Int) != ((rPassages2.length:Nat):Int))))=true],(!(cond (cond (rPassages.2 != 0) true (rDays.2 != 0)) true (((rPassages.1.length:Nat):Int) != ((rPassages2.length:Nat):Int))))=true→AllP [(!(cond (cond (rPassages.2 != 0) true (rDays.2 != 0)) true (((rPassages.1.length:Nat):Int) != ((rPassages2.length:Nat):Int))))=true],(!(cond (cond (rPassages.2 != 0) true (rDays.2 != 0)) true (((rPassages.1.length:Nat):Int) != ((rPassages2.length:Nat):Int))))=true→AllP [(!(cond (cond (rPassages.2 != 0) true (rDays.2 != 0)) true (((rPassages.1.length:Nat):Int) != ((rPassages2.length:Nat):Int))))=true]] ⟨(fun hg=>⟨hg,trivial⟩),(fun hq=>⟨hq,trivial⟩),(fun hg=>⟨hg,trivial⟩),(fun hg=>⟨hg,trivial⟩),(fun hg=>⟨hg,hg,trivial⟩),(fun hq=>⟨hq,trivial⟩),(fun hg=>⟨o1,trivial⟩),(fun hg=>⟨o1,trivial⟩),(fun hg=>⟨(g_r06_Days_ok N d c sea rDays2 (condT hr8 hg)),hg,hg,hg,trivial⟩),(fun hg=>⟨(g_b_Ints_ok N rDays.1 rDays2 rInts (condT hr9 hg)),hg,hg,trivial⟩),(fun hg=>⟨hg,trivial⟩),(fun hq=>⟨hq,trivial⟩),trivial⟩ ?_
    refine Runs.sC 90 (C_48 2042) (C_48 2043) (cond (cond (cond (rPassages.2 != 0) true (rDays.2 != 0)) true (((rPassages.1.length:Nat):Int) != ((rPassages2.length:Nat):Int))) true (!rInts)) (fun hq5=>?_) (fun hq5=>?_)
    ·have h:=condT h hq5
     refine Runs.sA 1 [.code (C_48 4084),.code (C_48 4085),.code (C_48 511)] ?_
     refine Runs.sR hE ⟨[(6,(aB false))],[],1104⟩ (C_48 4084) [] [] (kp [6]) [] 1104 [] trivial ?_
     obtain rfl:=Option.some.inj h
     refine Runs.sW hE ⟨[(6,(aB false))],[],1104⟩ [] (kp [6]) [] 1104 [] trivial ?_
     exact Runs.sT Try.f4 [] [] trivial
    ·have h:=condF h hq5
     refine Runs.sA 3 [.code (C_48 2044),.code (C_48 2045),.code (C_48 1023)] ?_
     refine Runs.sR hE ⟨[(7,(encL TS__2_int.cells TS__2_int.d rPassages.1)),(12,(encL TS__2_int.cells TS__2_int.d rPassages2)),(13,(aI 0))],[],1104⟩ (C_48 2044) [] [] (kp [7,12,13]) [] 1104 [] trivial ?_
     refine Runs.sA 2 [.code (C_48 8180),.inLoop (C_48 8180),.inBlock 0,.code (C_48 1023)] ?_
     exact Runs.sW hE _ [] (kp [7,12,13]) [] 0 [] trivial (g_w06_BerthTides_L1_ok N rPassages rPassages2 N 0 _ h E hE)
end Go.Den
