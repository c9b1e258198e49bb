/- Each function of the program does what its Lean function computes (part 3). No conditions. -/
import Derived.Test.YthiklnjjabfjlaaBerthStaysSb
import Derived.Test.YthiklnjjabfjlaaProg
set_option linter.unusedVariables false
set_option maxRecDepth 100000
namespace Go.Den
open Go.Ab Go.Proofs
noncomputable def C_83 (n:Nat):Code:=cat (bodyOf Try.f72) (pth n)
theorem g_r06_CheckCalls_L1_ok (N:Nat) (c:List TCall) (fuel:Nat):∀ (i:Int) (r:Int),g_r06_CheckCalls_L1 N c fuel i=some r→∀ E,EnvOk E 0→Runs Try.prog E 72 72 (SPost E [] (aI r)) [.code (C_83 116),.inLoop (C_83 116),.inBlock 0,.code (C_83 15)] ⟨[(0,(encL TCall.cells TCall.d c)),(3,(aI i))],[],0⟩:=by
 induction fuel with
 | zero=>intro _ r h;rw [g_r06_CheckCalls_L1.eq_1] at h;cases h
 | succ fuel ih =>
  intro i r h E hE
  rw [g_r06_CheckCalls_L1.eq_2] at h
  refine Runs.sA 2 [.code (C_83 464),.code (C_83 465),.code (C_83 233),.inLoop (C_83 116),.inBlock 0,.code (C_83 15)] ?_
  refine Runs.sR hE ⟨[(0,(encL TCall.cells TCall.d c)),(3,(aI i)),(11,(aB (decide (i < ((c.length:Nat):Int)))))],[],64⟩ (C_83 464) [] [] (kp [0,3,11]) [] 64 [] trivial ?_
  refine Runs.sC 11 (C_83 930) (C_83 931) (decide (i < ((c.length:Nat):Int))) (fun hq3=>?_) (fun hq3=>?_)
  ·have h:=condT h hq3
   refine Runs.sA 4 [.code (C_83 1864),.code (C_83 1865),.inBlock 1,.code (C_83 467),.inLoop (C_83 116),.inBlock 0,.code (C_83 15)] ?_
   obtain ⟨c2,h⟩:=ifSome h
   refine Runs.sR hE ⟨[(0,(encL TCall.cells TCall.d c)),(3,(aI i)),(4,(.op 128 0 0))],[(128,vO 9 (TCall.cells (c.getD ((i).toNat) TCall.d)))],160⟩ (C_83 1864) [] [] (kp [0,3,4]) (kq [128]) 160 [0≤i∧i < ((c.length:Nat):Int),0 < 1] ⟨c2,o1,trivial⟩ ?_
   refine Runs.sA 2 [.code (C_83 7460),.code (C_83 7461),.code (C_83 3731),.inBlock 1,.code (C_83 467),.inLoop (C_83 116),.inBlock 0,.code (C_83 15)] ?_
   obtain ⟨rIsName,hr,h⟩:=bindSome h
   refine Runs.sR hE ⟨[(0,(encL TCall.cells TCall.d c)),(3,(aI i)),(4,(.op 128 0 0)),(21,(aB (!rIsName)))],[(128,vO 9 (TCall.cells (c.getD ((i).toNat) TCall.d)))],224⟩ (C_83 7460) [(2,⟨[],true,(aB rIsName),[],0,false,none⟩)] [] (kp [0,3,4,21]) (kq [128]) 224 [0 < 1,Sound Try.prog 101 [(aS ((c.getD ((i).toNat) TCall.d).f_Name))] [] 0 (aB rIsName) []] ⟨o1,(g_b_IsName_ok N ((c.getD ((i).toNat) TCall.d).f_Name) rIsName hr),trivial⟩ ?_
   refine Runs.sC 21 (C_83 14922) (C_83 14923) (!rIsName) (fun hq4=>?_) (fun hq4=>?_)
   ·have h:=condT h hq4
    refine Runs.sA 1 [.code (C_83 29844),.code (C_83 29845),.code (C_83 3731),.inBlock 1,.code (C_83 467),.inLoop (C_83 116),.inBlock 0,.code (C_83 15)] ?_
    refine Runs.sR hE ⟨[(2,(aI 4))],[],240⟩ (C_83 29844) [] [] (kp [2]) [] 240 [] trivial ?_
    obtain rfl:=Option.some.inj h
    refine Runs.sW hE ⟨[(2,(aI 4))],[],240⟩ [] (kp [2]) [] 240 [] trivial ?_
    exact Runs.sT Try.f72 [] [] trivial
   ·have h:=condF h hq4
    refine Runs.sA 3 [.code (C_83 14924),.code (C_83 14925),.code (C_83 7463),.inBlock 1,.code (C_83 467),.inLoop (C_83 116),.inBlock 0,.code (C_83 15)] ?_
    obtain ⟨rCallOf,hr2,h⟩:=bindSome h
    refine Runs.sR hE ⟨[(0,(encL TCall.cells TCall.d c)),(3,(aI i)),(4,(.op 128 0 0)),(27,(aB (rCallOf != i)))],[(128,vO 9 (TCall.cells (c.getD ((i).toNat) TCall.d)))],320⟩ (C_83 14924) [(3,⟨[],true,(aI rCallOf),[],0,false,none⟩)] [] (kp [0,3,4,27]) (kq [128]) 320 [0 < 1,Sound Try.prog 46 [(encL TCall.cells TCall.d c),(aS ((c.getD ((i).toNat) TCall.d).f_Name))] [] 0 (aI rCallOf) []] ⟨o1,(g_r06_CallOf_ok N c ((c.getD ((i).toNat) TCall.d).f_Name) rCallOf hr2),trivial⟩ ?_
    refine Runs.sC 27 (C_83 29850) (C_83 29851) (rCallOf != i) (fun hq5=>?_) (fun hq5=>?_)
    ·have h:=condT h hq5
     refine Runs.sA 1 [.code (C_83 59700),.code (C_83 59701),.code (C_83 7463),.inBlock 1,.code (C_83 467),.inLoop (C_83 116),.inBlock 0,.code (C_83 15)] ?_
     refine Runs.sR hE ⟨[(2,(aI 5))],[],336⟩ (C_83 59700) [] [] (kp [2]) [] 336 [] trivial ?_
     obtain rfl:=Option.some.inj h
     refine Runs.sW hE ⟨[(2,(aI 5))],[],336⟩ [] (kp [2]) [] 336 [] trivial ?_
     exact Runs.sT Try.f72 [] [] trivial
    ·have h:=condF h hq5
     refine Runs.sA 3 [.code (C_83 29852),.code (C_83 29853),.code (C_83 14927),.inBlock 1,.code (C_83 467),.inLoop (C_83 116),.inBlock 0,.code (C_83 15)] ?_
     obtain ⟨rinside,hr3,h⟩:=bindSome h
     obtain ⟨rinside2,hr4,h⟩:=bindSome h
     obtain ⟨rinside3,hr5,h⟩:=bindSome h
     obtain ⟨rinside4,hr6,h⟩:=bindSome h
     refine Runs.sR hE ⟨[(0,(encL TCall.cells TCall.d c)),(3,(aI i)),(4,(.op 128 0 0)),(49,(aB (cond (cond (cond (!rinside) true (!rinside2)) true (!rinside3)) true (!rinside4))))],[(128,vO 9 (TCall.cells (c.getD ((i).toNat) TCall.d)))],672⟩ (C_83 29852) [(2,⟨[],true,(aB rinside),[],0,false,none⟩),(7,⟨[],true,(aB rinside2),[],0,false,none⟩),(13,⟨[],true,(aB rinside3),[],0,false,none⟩),(19,⟨[],true,(aB rinside4),[],0,false,none⟩)] [] (kp [0,3,4,49]) (kq [128]) 672 [0 < 1,Sound Try.prog 73 [(aI ((c.getD ((i).toNat) TCall.d).f_Length)),(aI 1),(aI 1000000)] [] 0 (aB rinside) [],(!(!rinside))=true→AllP [(!(!rinside))=true,0 < 1],(!(!rinside))=true→AllP [Sound Try.prog 73 [(aI ((c.getD ((i).toNat) TCall.d).f_Beam)),(aI 1),(aI 1000000)] [] 0 (aB rinside2) [],(!(!rinside))=true],(!(!rinside))=true→AllP [(!(!rinside))=true],(!(!rinside))=true→AllP [(!(!rinside))=true],(!(cond (!rinside) true (!rinside2)))=true→AllP [(!(cond (!rinside) true (!rinside2)))=true,0 < 1],(!(cond (!rinside) true (!rinside2)))=true→AllP [Sound Try.prog 73 [(aI ((c.getD ((i).toNat) TCall.d).f_Draught)),(aI 0),(aI 1000000)] [] 0 (aB rinside3) [],(!(cond (!rinside) true (!rinside2)))=true],(!(cond (!rinside) true (!rinside2)))=true→AllP [(!(cond (!rinside) true (!rinside2)))=true],(!(cond (!rinside) true (!rinside2)))=true→AllP [(!(cond (!rinside) true (!rinside2)))=true],(!(cond (cond (!rinside) true (!rinside2)) true (!rinside3)))=true→AllP [(!(cond (cond (!rinside) true (!rinside2)) true (!rinside3)))=true,0 < 1],(!(cond (cond (!rinside) true (!rinside2)) true (!rinside3)))=true→AllP [Sound Try.prog 73 [(aI ((c.getD ((i).toNat) TCall.d).f_Under)),(aI 0),(aI 1000000)] [] 0 (aB rinside4) [],(!(cond (cond (!rinside) true (!rinside2)) true (!rinside3)))=true],(!(cond (cond (!rinside) true (!rinside2)) true (!rinside3)))=true→AllP [(!(cond (cond (!rinside) true (!rinside2)) true (!rinside3)))=true],(!(cond (cond (!rinside) true (!rinside2)) true (!rinside3)))=true→AllP [(!(cond (cond (!rinside) true (!rinside2)) true (!rinside3)))=true]] ⟨o1,(g_r06_inside_ok N ((c.getD ((i).toNat) TCall.d).f_Length) 1 1000000 rinside hr3),(fun hg=>⟨hg,o1,trivial⟩),(fun hg=>⟨(g_r06_inside_ok N ((c.getD ((i).toNat) TCall.d).f_Beam) 1 1000000 rinside2 (condT hr4 hg)),hg,trivial⟩),(fun hg=>⟨hg,trivial⟩),(fun hq=>⟨hq,trivial⟩),(fun hg=>⟨hg,o1,trivial⟩),(fun hg=>⟨(g_r06_inside_ok N ((c.getD ((i).toNat) TCall.d).f_Draught) 0 1000000 rinside3 (condT hr5 hg)),hg,trivial⟩),(fun hg=>⟨hg,trivial⟩),(fun hq=>⟨hq,trivial⟩),(fun hg=>⟨hg,o1,trivial⟩),(fun hg=>⟨(g_r06_inside_ok N ((c.getD ((i).toNat) TCall.d).f_Under) 0 1000000 rinside4 (condT hr6 hg)),hg,trivial⟩),(fun hg=>⟨hg,trivial⟩),(fun hq=>⟨hq,trivial⟩),trivial⟩ ?_
     refine Runs.sC 49 (C_83 59706) (C_83 59707) (cond (cond (cond (!rinside) true (!rinside2)) true (!rinside3)) true (!rinside4)) (fun hq6=>?_) (fun hq6=>?_)
     ·have h:=condT h hq6
      refine Runs.sA 1 [.code (C_83 119412),.code (C_83 119413),.code (C_83 14927),.inBlock 1,.code (C_83 467),.inLoop (C_83 116),.inBlock 0,.code (C_83 15)] ?_
      refine Runs.sR hE ⟨[(2,(aI 2))],[],688⟩ (C_83 119412) [] [] (kp [2]) [] 688 [] trivial ?_
      obtain rfl:=Option.some.inj h
      refine Runs.sW hE ⟨[(2,(aI 2))],[],688⟩ [] (kp [2]) [] 688 [] trivial ?_
      exact Runs.sT Try.f72 [] [] trivial
     ·have h:=condF h hq6
      refine Runs.sA 2 [.code (C_83 29854),.code (C_83 29855),.inBlock 1,.code (C_83 467),.inLoop (C_83 116),.inBlock 0,.code (C_83 15)] ?_
      obtain ⟨rinside5,hr7,h⟩:=bindSome h
      obtain ⟨rinside6,hr8,h⟩:=bindSome h
      obtain ⟨rinside7,hr9,h⟩:=bindSome h
      obtain ⟨rinside8,hr10,h⟩:=bindSome h
      refine Runs.sR hE ⟨[(0,(encL TCall.cells TCall.d c)),(3,(aI i)),(71,(aB (cond (cond (cond (!rinside5) true (!rinside6)) true (!rinside7)) true (!rinside8))))],[],1024⟩ (C_83 29854) [(2,⟨[],true,(aB rinside5),[],0,false,none⟩),(7,⟨[],true,(aB rinside6),[],0,false,none⟩),(13,⟨[],true,(aB rinside7),[],0,false,none⟩),(19,⟨[],true,(aB rinside8),[],0,false,none⟩)] [] (kp [0,3,71]) [] 1024 [0 < 1,Sound Try.prog 73 [(aI ((c.getD ((i).toNat) TCall.d).f_Arrive)),(aI 0),(aI 400)] [] 0 (aB rinside5) [],(!(!rinside5))=true→AllP [(!(!rinside5))=true,0 < 1],(!(!rinside5))=true→AllP [Sound Try.prog 73 [(aI ((c.getD ((i).toNat) TCall.d).f_Due)),(aI 0),(aI 400)] [] 0 (aB rinside6) [],(!(!rinside5))=true],(!(!rinside5))=true→AllP [(!(!rinside5))=true],(!(!rinside5))=true→AllP [(!(!rinside5))=true],(!(cond (!rinside5) true (!rinside6)))=true→AllP [(!(cond (!rinside5) true (!rinside6)))=true,0 < 1],(!(cond (!rinside5) true (!rinside6)))=true→AllP [Sound Try.prog 73 [(aI ((c.getD ((i).toNat) TCall.d).f_Work)),(aI 1),(aI 1000)] [] 0 (aB rinside7) [],(!(cond (!rinside5) true (!rinside6)))=true],(!(cond (!rinside5) true (!rinside6)))=true→AllP [(!(cond (!rinside5) true (!rinside6)))=true],(!(cond (!rinside5) true (!rinside6)))=true→AllP [(!(cond (!rinside5) true (!rinside6)))=true],(!(cond (cond (!rinside5) true (!rinside6)) true (!rinside7)))=true→AllP [(!(cond (cond (!rinside5) true (!rinside6)) true (!rinside7)))=true,0 < 1],(!(cond (cond (!rinside5) true (!rinside6)) true (!rinside7)))=true→AllP [Sound Try.prog 73 [(aI ((c.getD ((i).toNat) TCall.d).f_Late)),(aI 0),(aI 1000000000)] [] 0 (aB rinside8) [],(!(cond (cond (!rinside5) true (!rinside6)) true (!rinside7)))=true],(!(cond (cond (!rinside5) true (!rinside6)) true (!rinside7)))=true→AllP [(!(cond (cond (!rinside5) true (!rinside6)) true (!rinside7)))=true],(!(cond (cond (!rinside5) true (!rinside6)) true (!rinside7)))=true→AllP [(!(cond (cond (!rinside5) true (!rinside6)) true (!rinside7)))=true]] ⟨o1,(g_r06_inside_ok N ((c.getD ((i).toNat) TCall.d).f_Arrive) 0 400 rinside5 hr7),(fun hg=>⟨hg,o1,trivial⟩),(fun hg=>⟨(g_r06_inside_ok N ((c.getD ((i).toNat) TCall.d).f_Due) 0 400 rinside6 (condT hr8 hg)),hg,trivial⟩),(fun hg=>⟨hg,trivial⟩),(fun hq=>⟨hq,trivial⟩),(fun hg=>⟨hg,o1,trivial⟩),(fun hg=>⟨(g_r06_inside_ok N ((c.getD ((i).toNat) TCall.d).f_Work) 1 1000 rinside7 (condT hr9 hg)),hg,trivial⟩),(fun hg=>⟨hg,trivial⟩),(fun hq=>⟨hq,trivial⟩),(fun hg=>⟨hg,o1,trivial⟩),(fun hg=>⟨(g_r06_inside_ok N ((c.getD ((i).toNat) TCall.d).f_Late) 0 1000000000 rinside8 (condT hr10 hg)),hg,trivial⟩),(fun hg=>⟨hg,trivial⟩),(fun hq=>⟨hq,trivial⟩),trivial⟩ ?_
      refine Runs.sC 71 (C_83 59710) (C_83 59711) (cond (cond (cond (!rinside5) true (!rinside6)) true (!rinside7)) true (!rinside8)) (fun hq7=>?_) (fun hq7=>?_)
      ·have h:=condT h hq7
       refine Runs.sA 1 [.code (C_83 119420),.code (C_83 119421),.inBlock 1,.code (C_83 467),.inLoop (C_83 116),.inBlock 0,.code (C_83 15)] ?_
       refine Runs.sR hE ⟨[(2,(aI 2))],[],1040⟩ (C_83 119420) [] [] (kp [2]) [] 1040 [] trivial ?_
       obtain rfl:=Option.some.inj h
       refine Runs.sW hE ⟨[(2,(aI 2))],[],1040⟩ [] (kp [2]) [] 1040 [] trivial ?_
       exact Runs.sT Try.f72 [] [] trivial
      ·have h:=condF h hq7
       refine Runs.sA 2 [.code (C_83 467),.inLoop (C_83 116),.inBlock 0,.code (C_83 15)] ?_
       refine Runs.sR hE ⟨[(0,(encL TCall.cells TCall.d c)),(3,(aI (w64 (i+1))))],[],1072⟩ (C_83 467) [] [] (kp [0,3]) [] 1072 [] trivial ?_
       refine Runs.sA 1 [.code (C_83 116),.inLoop (C_83 116),.inBlock 0,.code (C_83 15)] ?_
       exact Runs.sW hE _ [] (kp [0,3]) [] 0 [] trivial (ih (w64 (i+1)) _ h E hE)
  ·have h:=condF h hq3
   refine Runs.sA 2 [.code (C_83 30),.code (C_83 31)] ?_
   refine Runs.sR hE ⟨[(2,(aI 0))],[],80⟩ (C_83 30) [] [] (kp [2]) [] 80 [] trivial ?_
   obtain rfl:=Option.some.inj h
   refine Runs.sW hE ⟨[(2,(aI 0))],[],80⟩ [] (kp [2]) [] 80 [] trivial ?_
   exact Runs.sT Try.f72 [] [] trivial
theorem g_r06_CheckCalls_ok (N:Nat) (c:List TCall) (r:Int) (h:g_r06_CheckCalls N c=some r):Sound Try.prog 72 [(encL TCall.cells TCall.d c)] [] 0 (aI r) []:=by
 unfold g_r06_CheckCalls at h
 refine Sound.of_runs (fu:=Try.f72) (c:=C_83 1) (nt:=72) (by kernel_rfl) (by kernel_rfl) (by kernel_rfl) (by kernel_rfl) (fun hm=>rfl) ?_
 intro E hE
 refine Runs.sA 1 [.code (C_83 2),.code (C_83 3)] ?_
 refine Runs.sR hE ⟨[(0,(encL TCall.cells TCall.d c))],[],16⟩ (C_83 2) [] [] (kp [0]) [] 16 [] trivial ?_
 refine Runs.sA 2 [.code (C_83 12),.code (C_83 13),.code (C_83 7)] ?_
 refine Runs.sR hE ⟨[(0,(encL TCall.cells TCall.d c)),(7,(aB (decide (((c.length:Nat):Int) > 8))))],[],64⟩ (C_83 12) [] [] (kp [0,7]) [] 64 [] trivial ?_
 refine Runs.sC 7 (C_83 26) (C_83 27) (decide (((c.length:Nat):Int) > 8)) (fun hq2=>?_) (fun hq2=>?_)
 ·have h:=condT h hq2
  refine Runs.sA 1 [.code (C_83 52),.code (C_83 53),.code (C_83 7)] ?_
  refine Runs.sR hE ⟨[(2,(aI 8))],[],80⟩ (C_83 52) [] [] (kp [2]) [] 80 [] trivial ?_
  obtain rfl:=Option.some.inj h
  refine Runs.sW hE ⟨[(2,(aI 8))],[],80⟩ [] (kp [2]) [] 80 [] trivial ?_
  exact Runs.sT Try.f72 [] [] trivial
 ·have h:=condF h hq2
  refine Runs.sA 3 [.code (C_83 28),.code (C_83 29),.code (C_83 15)] ?_
  refine Runs.sR hE ⟨[(0,(encL TCall.cells TCall.d c)),(3,(aI 0))],[],80⟩ (C_83 28) [] [] (kp [0,3]) [] 80 [] trivial ?_
  refine Runs.sA 2 [.code (C_83 116),.inLoop (C_83 116),.inBlock 0,.code (C_83 15)] ?_
  exact Runs.sW hE _ [] (kp [0,3]) [] 0 [] trivial (g_r06_CheckCalls_L1_ok N c N 0 _ h E hE)
noncomputable def C_85 (n:Nat):Code:=cat (bodyOf Try.f15) (pth n)
theorem g_r06_Passages_ok (N:Nat) (d:TDock) (c:TCall) (sea:List TMark) (r:(List TS__2_int)) (h:g_r06_Passages N d c sea=some r):Sound Try.prog 15 [(.agg (TDock.cells d)),(.agg (TCall.cells c)),(encL TMark.cells TMark.d sea)] [] 0 (encL TS__2_int.cells TS__2_int.d r) []:=by
 unfold g_r06_Passages at h
 refine Sound.of_runs (fu:=Try.f15) (c:=C_85 1) (nt:=34) (by kernel_rfl) (by kernel_rfl) (by kernel_rfl) (by kernel_rfl) (fun hm=>rfl) ?_
 intro E hE
 refine Runs.sA 1 [.code (C_85 2),.code (C_85 3)] ?_
 refine Runs.sR hE ⟨[(2,(encL TMark.cells TMark.d sea)),(3,(.op 0 0 0)),(4,(.op 16 0 0))],[(0,vO 6 (TDock.cells d)),(16,vO 9 (TCall.cells c))],48⟩ (C_85 2) [] [] (kp [2,3,4]) (kq [0,16]) 48 [] trivial ?_
 refine Runs.sA 1 [.code (C_85 6),.code (C_85 7)] ?_
 refine Runs.sR hE ⟨[(2,(encL TMark.cells TMark.d sea)),(7,(aI (w64 ((w64 (d.f_Sill+c.f_Draught))+c.f_Under))))],[],192⟩ (C_85 6) [] [] (kp [2,7]) [] 192 [0 < 1,0 < 1,0 < 1] ⟨o1,o1,o1,trivial⟩ ?_
 refine Runs.sA 2 [.code (C_85 28),.code (C_85 29),.code (C_85 15)] ?_
 refine Runs.sR hE ⟨[(2,(encL TMark.cells TMark.d sea)),(7,(aI (w64 ((w64 (d.f_Sill+c.f_Draught))+c.f_Under)))),(19,(aB (decide ((w64 ((w64 (d.f_Sill+c.f_Draught))+c.f_Under)) > 1000000))))],[],224⟩ (C_85 28) [] [] (kp [2,7,19]) [] 224 [] trivial ?_
 refine Runs.sC 19 (C_85 58) (C_85 59) (decide ((w64 ((w64 (d.f_Sill+c.f_Draught))+c.f_Under)) > 1000000)) (fun hq2=>?_) (fun hq2=>?_)
 ·have h:=condT h hq2
  refine Runs.sA 1 [.code (C_85 116),.code (C_85 117),.code (C_85 15)] ?_
  refine Runs.sR hE ⟨[(6,.nil)],[],240⟩ (C_85 116) [] [] (kp [6]) [] 240 [] trivial ?_
  obtain rfl:=Option.some.inj h
  refine Runs.sW hE ⟨[(6,(encL TS__2_int.cells TS__2_int.d ([]:List TS__2_int)))],[],240⟩ [] [(6,.sl (([]:List TS__2_int).length) (fun zi=>TS__2_int.cells (([]:List TS__2_int).getD zi TS__2_int.d)))] [] 240 [([]:List TS__2_int).length=0] ⟨rfl,trivial⟩ ?_
  exact Runs.sT Try.f15 [] [] trivial
 ·have h:=condF h hq2
  refine Runs.sA 2 [.code (C_85 30),.code (C_85 31)] ?_
  obtain ⟨c2,h⟩:=ifSome h
  obtain ⟨rAbove,hr,h⟩:=bindSome h
  refine Runs.sR hE ⟨[(8,(encL TS__2_int.cells TS__2_int.d rAbove.1))],[],464⟩ (C_85 30) [(9,⟨[],true,(.tup [(encL TS__2_int.cells TS__2_int.d rAbove.1),(aI rAbove.2)]),[],0,false,none⟩)] [] (kp [8]) [] 464 [0≤(w64 (((sea.length:Nat):Int) - 1))∧(w64 (((sea.length:Nat):Int) - 1)) < ((sea.length:Nat):Int),Sound Try.prog 8 [(encL TMark.cells TMark.d sea),(aI (w64 ((w64 (d.f_Sill+c.f_Draught))+c.f_Under))),(aI 0),(aI ((sea.getD ((w64 (((sea.length:Nat):Int) - 1)).toNat) TMark.d).f_Minute))] [] 0 (.tup [(encL TS__2_int.cells TS__2_int.d rAbove.1),(aI rAbove.2)]) []] ⟨c2,(g_r05_Above_ok N sea (w64 ((w64 (d.f_Sill+c.f_Draught))+c.f_Under)) 0 ((sea.getD ((w64 (((sea.length:Nat):Int) - 1)).toNat) TMark.d).f_Minute) rAbove hr),trivial⟩ ?_
  refine Runs.sA 1 [.code (C_85 62),.code (C_85 63)] ?_
  refine Runs.sR hE ⟨[(6,(encL TS__2_int.cells TS__2_int.d rAbove.1))],[],496⟩ (C_85 62) [] [] (kp [6]) [] 496 [] trivial ?_
  obtain rfl:=Option.some.inj h
  refine Runs.sW hE ⟨[(6,(encL TS__2_int.cells TS__2_int.d rAbove.1))],[],496⟩ [] (kp [6]) [] 496 [] trivial ?_
  exact Runs.sT Try.f15 [] [] trivial
noncomputable def C_86 (n:Nat):Code:=cat (bodyOf Try.f17) (pth n)
theorem g_r06_Days_J3_ok (N:Nat) (sea:List TMark) (rPassages:(List TS__2_int)) (day:Int) (K_g_r06_Days_L1:(List Int)→Int→Option ((List Int)))
  (hK_g_r06_Days_L1:∀ (out:List Int) (day:Int) (r:(List Int)),K_g_r06_Days_L1 out day=some r→∀ E,EnvOk E 0→Runs Try.prog E 17 58 (SPost E [] (encL cI 0 r)) [.code (C_86 244),.inLoop (C_86 244),.inBlock 0,.code (C_86 31)] ⟨[(2,(encL TMark.cells TMark.d sea)),(7,(encL TS__2_int.cells TS__2_int.d rPassages)),(8,(.os 0 0 out.length)),(9,(aI day))],[(0,aO 1 cI 0 out)],1⟩) (out2:List Int) (r:(List Int)) (h:g_r06_Days_J3 N sea rPassages day K_g_r06_Days_L1 out2=some r):∀ E,EnvOk E 0→Runs Try.prog E 17 58 (SPost E [] (encL cI 0 r)) [.code (C_86 979),.inLoop (C_86 244),.inBlock 0,.code (C_86 31)] ⟨[(2,(encL TMark.cells TMark.d sea)),(7,(encL TS__2_int.cells TS__2_int.d rPassages)),(8,(.os 0 0 out2.length)),(9,(aI day))],[(0,aO 1 cI 0 out2)],1⟩:=by
 intro E hE
 unfold g_r06_Days_J3 at h
 refine Runs.sR hE ⟨[(2,(encL TMark.cells TMark.d sea)),(7,(encL TS__2_int.cells TS__2_int.d rPassages)),(8,(.os 0 0 out2.length)),(9,(aI (w64 (day+1))))],[(0,aO 1 cI 0 out2)],49⟩ (C_86 979) [] [] (kp [2,7,8,9]) (kq [0]) 49 [] trivial ?_
 refine Runs.sA 1 [.code (C_86 244),.inLoop (C_86 244),.inBlock 0,.code (C_86 31)] ?_
 exact Runs.sW hE _ [] (kp [2,7,8,9]) (kq [0]) 1 [] trivial (hK_g_r06_Days_L1 out2 (w64 (day+1)) _ h E hE)
theorem g_r06_Days_L2_ok (N:Nat) (sea:List TMark) (rPassages:(List TS__2_int)) (out:List Int) (day:Int) (K_g_r06_Days_L1:(List Int)→Int→Option ((List Int)))
  (hK_g_r06_Days_L1:∀ (out:List Int) (day:Int) (r:(List Int)),K_g_r06_Days_L1 out day=some r→∀ E,EnvOk E 0→Runs Try.prog E 17 58 (SPost E [] (encL cI 0 r)) [.code (C_86 244),.inLoop (C_86 244),.inBlock 0,.code (C_86 31)] ⟨[(2,(encL TMark.cells TMark.d sea)),(7,(encL TS__2_int.cells TS__2_int.d rPassages)),(8,(.os 0 0 out.length)),(9,(aI day))],[(0,aO 1 cI 0 out)],1⟩) (fuel:Nat):∀ (i:Int) (r:(List Int)),g_r06_Days_L2 N sea rPassages out day K_g_r06_Days_L1 fuel i=some r→∀ E,EnvOk E 0→Runs Try.prog E 17 58 (SPost E [] (encL cI 0 r)) [.code (C_86 15652),.inLoop (C_86 15652),.inBlock 2,.inBlock 1,.code (C_86 979),.inLoop (C_86 244),.inBlock 0,.code (C_86 31)] ⟨[(2,(encL TMark.cells TMark.d sea)),(7,(encL TS__2_int.cells TS__2_int.d rPassages)),(8,(.os 0 0 out.length)),(9,(aI day)),(10,(aI i))],[(0,aO 1 cI 0 out)],1⟩:=by
 induction fuel with
 | zero=>intro _ r h;rw [g_r06_Days_L2.eq_1] at h;cases h
 | succ fuel ih =>
  intro i r h E hE
  rw [g_r06_Days_L2.eq_2] at h
  refine Runs.sA 2 [.code (C_86 62608),.code (C_86 62609),.code (C_86 31305),.inLoop (C_86 15652),.inBlock 2,.inBlock 1,.code (C_86 979),.inLoop (C_86 244),.inBlock 0,.code (C_86 31)] ?_
  refine Runs.sR hE ⟨[(2,(encL TMark.cells TMark.d sea)),(7,(encL TS__2_int.cells TS__2_int.d rPassages)),(8,(.os 0 0 out.length)),(9,(aI day)),(10,(aI i)),(30,(aB (decide (i < ((rPassages.length:Nat):Int)))))],[(0,aO 1 cI 0 out)],65⟩ (C_86 62608) [] [] (kp [2,7,8,9,10,30]) (kq [0]) 65 [] trivial ?_
  refine Runs.sC 30 (C_86 125218) (C_86 125219) (decide (i < ((rPassages.length:Nat):Int))) (fun hq3=>?_) (fun hq3=>?_)
  ·have h:=condT h hq3
   refine Runs.sA 4 [.code (C_86 250440),.code (C_86 250441),.inBlock 3,.code (C_86 62611),.inLoop (C_86 15652),.inBlock 2,.inBlock 1,.code (C_86 979),.inLoop (C_86 244),.inBlock 0,.code (C_86 31)] ?_
   obtain ⟨c3,h⟩:=ifSome h
   refine Runs.sR hE ⟨[(2,(encL TMark.cells TMark.d sea)),(7,(encL TS__2_int.cells TS__2_int.d rPassages)),(8,(.os 0 0 out.length)),(9,(aI day)),(10,(aI i)),(52,(aB (decide ((w64 ((w64 ((if (w64 ((w64 (1440 * day))+1439)) < (rPassages.getD ((i).toNat) TS__2_int.d).e1 then (w64 ((w64 (1440 * day))+1439)) else (rPassages.getD ((i).toNat) TS__2_int.d).e1) - (if (w64 (1440 * day)) > (rPassages.getD ((i).toNat) TS__2_int.d).e0 then (w64 (1440 * day)) else (rPassages.getD ((i).toNat) TS__2_int.d).e0)))+1))≥30))))],[(0,aO 1 cI 0 out)],385⟩ (C_86 250440) [] [] (kp [2,7,8,9,10,52]) (kq [0]) 385 [0≤i∧i < ((rPassages.length:Nat):Int),0≤(1:Int)∧(1:Int) < 2,0≤i∧i < ((rPassages.length:Nat):Int),0≤(0:Int)∧(0:Int) < 2] ⟨c3,(by decide),c3,(by decide),trivial⟩ ?_
   refine Runs.sC 52 (C_86 500882) (C_86 500883) (decide ((w64 ((w64 ((if (w64 ((w64 (1440 * day))+1439)) < (rPassages.getD ((i).toNat) TS__2_int.d).e1 then (w64 ((w64 (1440 * day))+1439)) else (rPassages.getD ((i).toNat) TS__2_int.d).e1) - (if (w64 (1440 * day)) > (rPassages.getD ((i).toNat) TS__2_int.d).e0 then (w64 (1440 * day)) else (rPassages.getD ((i).toNat) TS__2_int.d).e0)))+1))≥30)) (fun hq4=>?_) (fun hq4=>?_)
   ·have h:=condT h hq4
    refine Runs.sA 1 [.code (C_86 1001764),.code (C_86 1001765),.inBlock 3,.code (C_86 62611),.inLoop (C_86 15652),.inBlock 2,.inBlock 1,.code (C_86 979),.inLoop (C_86 244),.inBlock 0,.code (C_86 31)] ?_
    obtain ⟨c4,h⟩:=ifSome h
    refine Runs.sR hE ⟨[(2,(encL TMark.cells TMark.d sea)),(7,(encL TS__2_int.cells TS__2_int.d rPassages)),(8,(.os 433 0 ((out ++ ([day]:List Int)).length))),(9,(aI day))],[(433,aO 1 cI 0 (out ++ ([day]:List Int)))],465⟩ (C_86 1001764) [] [] (kp [2,7] ++ [(8,.osl ((out ++ ([day]:List Int)).length))] ++ kp [9]) [(433,.arr 433 ((out ++ ([day]:List Int)).length) (fun zi=>cI ((out ++ ([day]:List Int)).getD zi 0)))] 465 [out.length=out.length,(out.length+1) * 8≤140737488355328,0+1≤1,∀ zi,zi < 1→AV.oneL ((fun zi=>([[(aI day)]]:List (List AV)).getD zi []) (addz 0 zi))=true,(out.length+1)=(out ++ ([day]:List Int)).length,out.length+1=(out ++ ([day]:List Int)).length,∀ zi,zi < (out ++ ([day]:List Int)).length→(fun zi=>cI ((out ++ ([day]:List Int)).getD zi 0)) zi=((fun zm=>if zm < out.length then (fun zi=>cI (out.getD zi 0)) zm else (fun zi=>([[(aI day)]]:List (List AV)).getD zi []) (zm - out.length))) zi] ⟨rfl,c4,z0,(oneN rfl),(len_app_raw rfl rfl),(len_app_raw rfl rfl),(get_app_raw cI 0 out ([day]:List Int) rfl (fun _ _=>rfl) (fun zq hzq=>get_chunk cI 0 ([day]:List Int) zq hzq)),trivial⟩ ?_
    refine Runs.sA 2 [.code (C_86 979),.inLoop (C_86 244),.inBlock 0,.code (C_86 31)] ?_
    exact Runs.sW hE _ [] (kp [2,7,8,9]) [(0,.keep 433)] 1 [] trivial (g_r06_Days_J3_ok N sea rPassages day K_g_r06_Days_L1 hK_g_r06_Days_L1 (out ++ ([day]:List Int)) _ h E hE)
   ·have h:=condF h hq4
    refine Runs.sA 2 [.code (C_86 62611),.inLoop (C_86 15652),.inBlock 2,.inBlock 1,.code (C_86 979),.inLoop (C_86 244),.inBlock 0,.code (C_86 31)] ?_
    refine Runs.sR hE ⟨[(2,(encL TMark.cells TMark.d sea)),(7,(encL TS__2_int.cells TS__2_int.d rPassages)),(8,(.os 0 0 out.length)),(9,(aI day)),(10,(aI (w64 (i+1))))],[(0,aO 1 cI 0 out)],433⟩ (C_86 62611) [] [] (kp [2,7,8,9,10]) (kq [0]) 433 [] trivial ?_
    refine Runs.sA 1 [.code (C_86 15652),.inLoop (C_86 15652),.inBlock 2,.inBlock 1,.code (C_86 979),.inLoop (C_86 244),.inBlock 0,.code (C_86 31)] ?_
    exact Runs.sW hE _ [] (kp [2,7,8,9,10]) (kq [0]) 1 [] trivial (ih (w64 (i+1)) _ h E hE)
  ·have h:=condF h hq3
   refine Runs.sA 2 [.code (C_86 979),.inLoop (C_86 244),.inBlock 0,.code (C_86 31)] ?_
   exact Runs.sW hE _ [] (kp [2,7,8,9]) (kq [0]) 1 [] trivial (g_r06_Days_J3_ok N sea rPassages day K_g_r06_Days_L1 hK_g_r06_Days_L1 out _ h E hE)
theorem g_r06_Days_L1_ok (N:Nat) (sea:List TMark) (rPassages:(List TS__2_int)) (fuel:Nat):∀ (out:List Int) (day:Int) (r:(List Int)),g_r06_Days_L1 N sea rPassages fuel out day=some r→∀ E,EnvOk E 0→Runs Try.prog E 17 58 (SPost E [] (encL cI 0 r)) [.code (C_86 244),.inLoop (C_86 244),.inBlock 0,.code (C_86 31)] ⟨[(2,(encL TMark.cells TMark.d sea)),(7,(encL TS__2_int.cells TS__2_int.d rPassages)),(8,(.os 0 0 out.length)),(9,(aI day))],[(0,aO 1 cI 0 out)],1⟩:=by
 induction fuel with
 | zero=>intro _ _ r h;rw [g_r06_Days_L1.eq_1] at h;cases h
 | succ fuel ih =>
  intro out day r h E hE
  rw [g_r06_Days_L1.eq_2] at h
  refine Runs.sA 2 [.code (C_86 976),.code (C_86 977),.code (C_86 489),.inLoop (C_86 244),.inBlock 0,.code (C_86 31)] ?_
  obtain ⟨c2,h⟩:=ifSome h
  refine Runs.sR hE ⟨[(2,(encL TMark.cells TMark.d sea)),(7,(encL TS__2_int.cells TS__2_int.d rPassages)),(8,(.os 0 0 out.length)),(9,(aI day)),(24,(aB (decide (day≤(w64 (((sea.getD ((w64 (((sea.length:Nat):Int) - 1)).toNat) TMark.d).f_Minute).tdiv 1440))))))],[(0,aO 1 cI 0 out)],161⟩ (C_86 976) [] [] (kp [2,7,8,9,24]) (kq [0]) 161 [0≤(w64 (((sea.length:Nat):Int) - 1))∧(w64 (((sea.length:Nat):Int) - 1)) < ((sea.length:Nat):Int),(1440:Int)≠0] ⟨c2,(by decide),trivial⟩ ?_
  refine Runs.sC 24 (C_86 1954) (C_86 1955) (decide (day≤(w64 (((sea.getD ((w64 (((sea.length:Nat):Int) - 1)).toNat) TMark.d).f_Minute).tdiv 1440)))) (fun hq2=>?_) (fun hq2=>?_)
  ·have h:=condT h hq2
   refine Runs.sA 4 [.code (C_86 3912),.code (C_86 3913),.inBlock 1,.code (C_86 979),.inLoop (C_86 244),.inBlock 0,.code (C_86 31)] ?_
   refine Runs.sR hE ⟨[(2,(encL TMark.cells TMark.d sea)),(7,(encL TS__2_int.cells TS__2_int.d rPassages)),(8,(.os 0 0 out.length)),(9,(aI day)),(10,(aI 0))],[(0,aO 1 cI 0 out)],177⟩ (C_86 3912) [] [] (kp [2,7,8,9,10]) (kq [0]) 177 [] trivial ?_
   refine Runs.sA 2 [.code (C_86 15652),.inLoop (C_86 15652),.inBlock 2,.inBlock 1,.code (C_86 979),.inLoop (C_86 244),.inBlock 0,.code (C_86 31)] ?_
   exact Runs.sW hE _ [] (kp [2,7,8,9,10]) (kq [0]) 1 [] trivial (g_r06_Days_L2_ok N sea rPassages out day (g_r06_Days_L1 N sea rPassages fuel) ih N 0 _ h E hE)
  ·have h:=condF h hq2
   refine Runs.sA 2 [.code (C_86 62),.code (C_86 63)] ?_
   refine Runs.sR hE ⟨[(6,(.os 0 0 out.length))],[(0,aO 1 cI 0 out)],193⟩ (C_86 62) [] [] (kp [6]) (kq [0]) 193 [] trivial ?_
   obtain rfl:=Option.some.inj h
   refine Runs.sW hE ⟨[(6,(encL cI 0 out))],[],193⟩ [0] [(6,.sl (out.length) (fun zi=>cI (out.getD zi 0)))] [] 193 [out.length=out.length,0+out.length≤out.length,∀ zi,zi < out.length→(fun zi=>cI (out.getD zi 0)) zi=(fun zi=>cI (out.getD zi 0)) (addz 0 zi)] ⟨rfl,z0,(fun _ _=>rfl),trivial⟩ ?_
   exact Runs.sT Try.f17 [] [] trivial
theorem g_r06_Days_ok (N:Nat) (d:TDock) (c:TCall) (sea:List TMark) (r:(List Int)) (h:g_r06_Days N d c sea=some r):Sound Try.prog 17 [(.agg (TDock.cells d)),(.agg (TCall.cells c)),(encL TMark.cells TMark.d sea)] [] 0 (encL cI 0 r) []:=by
 unfold g_r06_Days at h
 refine Sound.of_runs (fu:=Try.f17) (c:=C_86 1) (nt:=58) (by kernel_rfl) (by kernel_rfl) (by kernel_rfl) (by kernel_rfl) (fun hm=>rfl) ?_
 intro E hE
 refine Runs.sA 1 [.code (C_86 2),.code (C_86 3)] ?_
 refine Runs.sR hE ⟨[(2,(encL TMark.cells TMark.d sea)),(3,(.op 0 0 0)),(4,(.op 16 0 0))],[(0,vO 6 (TDock.cells d)),(16,vO 9 (TCall.cells c))],48⟩ (C_86 2) [] [] (kp [2,3,4]) (kq [0,16]) 48 [] trivial ?_
 refine Runs.sA 1 [.code (C_86 6),.code (C_86 7)] ?_
 obtain ⟨rPassages,hr,h⟩:=bindSome h
 refine Runs.sR hE ⟨[(2,(encL TMark.cells TMark.d sea)),(7,(encL TS__2_int.cells TS__2_int.d rPassages))],[],128⟩ (C_86 6) [(3,⟨[],true,(encL TS__2_int.cells TS__2_int.d rPassages),[],0,false,none⟩)] [] (kp [2,7]) [] 128 [0 < 1,0 < 1,Sound Try.prog 15 [(.agg (TDock.cells d)),(.agg (TCall.cells c)),(encL TMark.cells TMark.d sea)] [] 0 (encL TS__2_int.cells TS__2_int.d rPassages) []] ⟨o1,o1,(g_r06_Passages_ok N d c sea rPassages hr),trivial⟩ ?_
 refine Runs.sA 1 [.code (C_86 14),.code (C_86 15)] ?_
 refine Runs.sR hE ⟨[(2,(encL TMark.cells TMark.d sea)),(7,(encL TS__2_int.cells TS__2_int.d rPassages)),(8,.nil)],[],144⟩ (C_86 14) [] [] (kp [2,7,8]) [] 144 [] trivial ?_
 refine Runs.sA 2 [.code (C_86 60),.code (C_86 61),.code (C_86 31)] ?_
 refine Runs.sR hE ⟨[(2,(encL TMark.cells TMark.d sea)),(7,(encL TS__2_int.cells TS__2_int.d rPassages)),(8,.nil),(9,(aI 0))],[],160⟩ (C_86 60) [] [] (kp [2,7,8,9]) [] 160 [] trivial ?_
 refine Runs.sA 2 [.code (C_86 244),.inLoop (C_86 244),.inBlock 0,.code (C_86 31)] ?_
 exact Runs.sW hE _ [] (kp [2,7] ++ [(8,.nilos 0)] ++ kp [9]) [(0,.nil 1 (fun zi=>cI (([]:List Int).getD zi 0)))] 1 [] trivial (g_r06_Days_L1_ok N sea rPassages N ([]:List Int) 0 _ h E hE)
noncomputable def C_89 (n:Nat):Code:=cat (bodyOf Try.f18) (pth n)
theorem g_w06_quiet_ok (N:Nat) (y:TYard) (r:Bool) (h:g_w06_quiet N y=some r):Sound Try.prog 18 [(.agg (TYard.cells y))] [] 0 (aB r) []:=by
 unfold g_w06_quiet at h
 refine Sound.of_runs (fu:=Try.f18) (c:=C_89 1) (nt:=13) (by kernel_rfl) (by kernel_rfl) (by kernel_rfl) (by kernel_rfl) (fun hm=>rfl) ?_
 intro E hE
 refine Runs.sA 1 [.code (C_89 2),.code (C_89 3)] ?_
 refine Runs.sR hE ⟨[(1,(.op 0 0 0))],[(0,vO 4 (TYard.cells y))],32⟩ (C_89 2) [] [] (kp [1]) (kq [0]) 32 [] trivial ?_
 refine Runs.sA 1 [.code (C_89 6),.code (C_89 7)] ?_
 obtain ⟨rNames,hr,h⟩:=bindSome h
 obtain ⟨rcalm,hr2,h⟩:=bindSome h
 refine Runs.sR hE ⟨[(2,(aB (cond rNames rcalm false)))],[],208⟩ (C_89 6) [(4,⟨[],true,(aB rNames),[],0,false,none⟩),(8,⟨[],true,(aB rcalm),[],0,false,none⟩)] [] (kp [2]) [] 208 [0 < 1,0 < 1,Sound Try.prog 10 [(encL TDock.cells TDock.d y.f_Docks),(encL TCall.cells TCall.d y.f_Calls)] [] 0 (aB rNames) [],rNames=true→AllP [rNames=true,0 < 1],rNames=true→AllP [Sound Try.prog 11 [(encL TMark.cells TMark.d y.f_Sea),(aI 17280)] [] 0 (aB rcalm) [],rNames=true],rNames=true→AllP [rNames=true]] ⟨o1,o1,(g_w06_Names_ok N y.f_Docks y.f_Calls rNames hr),(fun hg=>⟨hg,o1,trivial⟩),(fun hg=>⟨(g_w06_calm_ok N y.f_Sea 17280 rcalm (condT hr2 hg)),hg,trivial⟩),(fun hq=>⟨hq,trivial⟩),trivial⟩ ?_
 obtain rfl:=Option.some.inj h
 refine Runs.sW hE ⟨[(2,(aB (cond rNames rcalm false)))],[],208⟩ [] (kp [2]) [] 208 [] trivial ?_
 exact Runs.sT Try.f18 [] [] trivial
noncomputable def C_90 (n:Nat):Code:=cat (bodyOf Try.f19) (pth n)
theorem g_w06_names_L1_ok (N:Nat) (s:List TStay) (fuel:Nat):∀ (i:Int) (r:Bool),g_w06_names_L1 N s fuel i=some r→∀ E,EnvOk E 0→Runs Try.prog E 19 29 (SPost E [] (aB r)) [.code (C_90 52),.inLoop (C_90 52),.inBlock 0,.code (C_90 7)] ⟨[(0,(encL TStay.cells TStay.d s)),(3,(aI i))],[],0⟩:=by
 induction fuel with
 | zero=>intro _ r h;rw [g_w06_names_L1.eq_1] at h;cases h
 | succ fuel ih =>
  intro i r h E hE
  rw [g_w06_names_L1.eq_2] at h
  refine Runs.sA 2 [.code (C_90 208),.code (C_90 209),.code (C_90 105),.inLoop (C_90 52),.inBlock 0,.code (C_90 7)] ?_
  refine Runs.sR hE ⟨[(0,(encL TStay.cells TStay.d s)),(3,(aI i)),(7,(aB (decide (i < ((s.length:Nat):Int)))))],[],64⟩ (C_90 208) [] [] (kp [0,3,7]) [] 64 [] trivial ?_
  refine Runs.sC 7 (C_90 418) (C_90 419) (decide (i < ((s.length:Nat):Int))) (fun hq2=>?_) (fun hq2=>?_)
  ·have h:=condT h hq2
   refine Runs.sA 4 [.code (C_90 840),.code (C_90 841),.inBlock 1,.code (C_90 211),.inLoop (C_90 52),.inBlock 0,.code (C_90 7)] ?_
   obtain ⟨c,h⟩:=ifSome h
   obtain ⟨c2,h⟩:=ifSome h
   refine Runs.sR hE ⟨[(0,(encL TStay.cells TStay.d s)),(3,(aI i)),(25,(aB (cond (decide (((((s.getD ((i).toNat) TStay.d).f_Call).size:Nat):Int) > 40)) true (decide (((((s.getD ((i).toNat) TStay.d).f_Dock).size:Nat):Int) > 40)))))],[],320⟩ (C_90 840) [] [] (kp [0,3,25]) [] 320 [0≤i∧i < ((s.length:Nat):Int),(!(decide (((((s.getD ((i).toNat) TStay.d).f_Call).size:Nat):Int) > 40)))=true→AllP [(!(decide (((((s.getD ((i).toNat) TStay.d).f_Call).size:Nat):Int) > 40)))=true,(!(decide (((((s.getD ((i).toNat) TStay.d).f_Call).size:Nat):Int) > 40)))=true,0≤i∧i < ((s.length:Nat):Int)],(!(decide (((((s.getD ((i).toNat) TStay.d).f_Call).size:Nat):Int) > 40)))=true→AllP [(!(decide (((((s.getD ((i).toNat) TStay.d).f_Call).size:Nat):Int) > 40)))=true],(!(decide (((((s.getD ((i).toNat) TStay.d).f_Call).size:Nat):Int) > 40)))=true→AllP [(!(decide (((((s.getD ((i).toNat) TStay.d).f_Call).size:Nat):Int) > 40)))=true],(!(decide (((((s.getD ((i).toNat) TStay.d).f_Call).size:Nat):Int) > 40)))=true→AllP [(!(decide (((((s.getD ((i).toNat) TStay.d).f_Call).size:Nat):Int) > 40)))=true],(!(decide (((((s.getD ((i).toNat) TStay.d).f_Call).size:Nat):Int) > 40)))=true→AllP [(!(decide (((((s.getD ((i).toNat) TStay.d).f_Call).size:Nat):Int) > 40)))=true],(!(decide (((((s.getD ((i).toNat) TStay.d).f_Call).size:Nat):Int) > 40)))=true→AllP [(!(decide (((((s.getD ((i).toNat) TStay.d).f_Call).size:Nat):Int) > 40)))=true]] ⟨c,(fun hg=>⟨hg,hg,(c2 hg),trivial⟩),(fun hg=>⟨hg,trivial⟩),(fun hg=>⟨hg,trivial⟩),(fun hg=>⟨hg,trivial⟩),(fun hg=>⟨hg,trivial⟩),(fun hq=>⟨hq,trivial⟩),trivial⟩ ?_
   refine Runs.sC 25 (C_90 1682) (C_90 1683) (cond (decide (((((s.getD ((i).toNat) TStay.d).f_Call).size:Nat):Int) > 40)) true (decide (((((s.getD ((i).toNat) TStay.d).f_Dock).size:Nat):Int) > 40))) (fun hq3=>?_) (fun hq3=>?_)
   ·have h:=condT h hq3
    refine Runs.sA 1 [.code (C_90 3364),.code (C_90 3365),.inBlock 1,.code (C_90 211),.inLoop (C_90 52),.inBlock 0,.code (C_90 7)] ?_
    refine Runs.sR hE ⟨[(2,(aB false))],[],336⟩ (C_90 3364) [] [] (kp [2]) [] 336 [] trivial ?_
    obtain rfl:=Option.some.inj h
    refine Runs.sW hE ⟨[(2,(aB false))],[],336⟩ [] (kp [2]) [] 336 [] trivial ?_
    exact Runs.sT Try.f19 [] [] trivial
   ·have h:=condF h hq3
    refine Runs.sA 2 [.code (C_90 211),.inLoop (C_90 52),.inBlock 0,.code (C_90 7)] ?_
    refine Runs.sR hE ⟨[(0,(encL TStay.cells TStay.d s)),(3,(aI (w64 (i+1))))],[],368⟩ (C_90 211) [] [] (kp [0,3]) [] 368 [] trivial ?_
    refine Runs.sA 1 [.code (C_90 52),.inLoop (C_90 52),.inBlock 0,.code (C_90 7)] ?_
    exact Runs.sW hE _ [] (kp [0,3]) [] 0 [] trivial (ih (w64 (i+1)) _ h E hE)
  ·have h:=condF h hq2
   refine Runs.sA 2 [.code (C_90 14),.code (C_90 15)] ?_
   refine Runs.sR hE ⟨[(2,(aB (decide (((s.length:Nat):Int)≤12))))],[],128⟩ (C_90 14) [] [] (kp [2]) [] 128 [] trivial ?_
   obtain rfl:=Option.some.inj h
   refine Runs.sW hE ⟨[(2,(aB (decide (((s.length:Nat):Int)≤12))))],[],128⟩ [] (kp [2]) [] 128 [] trivial ?_
   exact Runs.sT Try.f19 [] [] trivial
theorem g_w06_names_ok (N:Nat) (s:List TStay) (r:Bool) (h:g_w06_names N s=some r):Sound Try.prog 19 [(encL TStay.cells TStay.d s)] [] 0 (aB r) []:=by
 unfold g_w06_names at h
 refine Sound.of_runs (fu:=Try.f19) (c:=C_90 1) (nt:=29) (by kernel_rfl) (by kernel_rfl) (by kernel_rfl) (by kernel_rfl) (fun hm=>rfl) ?_
 intro E hE
 refine Runs.sA 1 [.code (C_90 2),.code (C_90 3)] ?_
 refine Runs.sR hE ⟨[(0,(encL TStay.cells TStay.d s))],[],16⟩ (C_90 2) [] [] (kp [0]) [] 16 [] trivial ?_
 refine Runs.sA 2 [.code (C_90 12),.code (C_90 13),.code (C_90 7)] ?_
 refine Runs.sR hE ⟨[(0,(encL TStay.cells TStay.d s)),(3,(aI 0))],[],32⟩ (C_90 12) [] [] (kp [0,3]) [] 32 [] trivial ?_
 refine Runs.sA 2 [.code (C_90 52),.inLoop (C_90 52),.inBlock 0,.code (C_90 7)] ?_
 exact Runs.sW hE _ [] (kp [0,3]) [] 0 [] trivial (g_w06_names_L1_ok N s N 0 _ h E hE)
noncomputable def C_92 (n:Nat):Code:=cat (bodyOf Try.f45) (pth n)
theorem g_r06_CheckYard_ok (N:Nat) (y:TYard) (r:Int) (h:g_r06_CheckYard N y=some r):Sound Try.prog 45 [(.agg (TYard.cells y))] [] 0 (aI r) []:=by
 unfold g_r06_CheckYard at h
 refine Sound.of_runs (fu:=Try.f45) (c:=C_92 1) (nt:=32) (by kernel_rfl) (by kernel_rfl) (by kernel_rfl) (by kernel_rfl) (fun hm=>rfl) ?_
 intro E hE
 refine Runs.sA 1 [.code (C_92 2),.code (C_92 3)] ?_
 refine Runs.sR hE ⟨[(1,(.op 0 0 0))],[(0,vO 4 (TYard.cells y))],32⟩ (C_92 2) [] [] (kp [1]) (kq [0]) 32 [] trivial ?_
 refine Runs.sA 2 [.code (C_92 12),.code (C_92 13),.code (C_92 7)] ?_
 obtain ⟨rCheckDocks,hr,h⟩:=bindSome h
 refine Runs.sR hE ⟨[(1,(.op 0 0 0)),(3,(aI rCheckDocks))],[(0,vO 4 (TYard.cells y))],96⟩ (C_92 12) [(2,⟨[],true,(aI rCheckDocks),[],0,false,none⟩)] [] (kp [1,3]) (kq [0]) 96 [0 < 1,Sound Try.prog 71 [(encL TDock.cells TDock.d y.f_Docks)] [] 0 (aI rCheckDocks) []] ⟨o1,(g_r06_CheckDocks_ok N y.f_Docks rCheckDocks hr),trivial⟩ ?_
 refine Runs.sA 1 [.code (C_92 26),.code (C_92 27),.code (C_92 7)] ?_
 refine Runs.sR hE ⟨[(1,(.op 0 0 0)),(3,(aI rCheckDocks)),(10,(aB (rCheckDocks != 0)))],[(0,vO 4 (TYard.cells y))],128⟩ (C_92 26) [] [] (kp [1,3,10]) (kq [0]) 128 [] trivial ?_
 refine Runs.sC 10 (C_92 54) (C_92 55) (rCheckDocks != 0) (fun hq2=>?_) (fun hq2=>?_)
 ·have h:=condT h hq2
  refine Runs.sA 1 [.code (C_92 108),.code (C_92 109),.code (C_92 7)] ?_
  refine Runs.sR hE ⟨[(2,(aI rCheckDocks))],[],160⟩ (C_92 108) [] [] (kp [2]) [] 160 [] trivial ?_
  obtain rfl:=Option.some.inj h
  refine Runs.sW hE ⟨[(2,(aI rCheckDocks))],[],160⟩ [] (kp [2]) [] 160 [] trivial ?_
  exact Runs.sT Try.f45 [] [] trivial
 ·have h:=condF h hq2
  refine Runs.sA 3 [.code (C_92 28),.code (C_92 29),.code (C_92 15)] ?_
  obtain ⟨rCheckCalls,hr2,h⟩:=bindSome h
  refine Runs.sR hE ⟨[(1,(.op 0 0 0)),(4,(aI rCheckCalls))],[(0,vO 4 (TYard.cells y))],192⟩ (C_92 28) [(2,⟨[],true,(aI rCheckCalls),[],0,false,none⟩)] [] (kp [1,4]) (kq [0]) 192 [0 < 1,Sound Try.prog 72 [(encL TCall.cells TCall.d y.f_Calls)] [] 0 (aI rCheckCalls) []] ⟨o1,(g_r06_CheckCalls_ok N y.f_Calls rCheckCalls hr2),trivial⟩ ?_
  refine Runs.sA 1 [.code (C_92 58),.code (C_92 59),.code (C_92 15)] ?_
  refine Runs.sR hE ⟨[(1,(.op 0 0 0)),(4,(aI rCheckCalls)),(16,(aB (rCheckCalls != 0)))],[(0,vO 4 (TYard.cells y))],224⟩ (C_92 58) [] [] (kp [1,4,16]) (kq [0]) 224 [] trivial ?_
  refine Runs.sC 16 (C_92 118) (C_92 119) (rCheckCalls != 0) (fun hq3=>?_) (fun hq3=>?_)
  ·have h:=condT h hq3
   refine Runs.sA 1 [.code (C_92 236),.code (C_92 237),.code (C_92 15)] ?_
   refine Runs.sR hE ⟨[(2,(aI rCheckCalls))],[],256⟩ (C_92 236) [] [] (kp [2]) [] 256 [] trivial ?_
   obtain rfl:=Option.some.inj h
   refine Runs.sW hE ⟨[(2,(aI rCheckCalls))],[],256⟩ [] (kp [2]) [] 256 [] trivial ?_
   exact Runs.sT Try.f45 [] [] trivial
  ·have h:=condF h hq3
   refine Runs.sA 3 [.code (C_92 60),.code (C_92 61),.code (C_92 31)] ?_
   obtain ⟨rCheckSea,hr3,h⟩:=bindSome h
   refine Runs.sR hE ⟨[(1,(.op 0 0 0)),(5,(aI rCheckSea))],[(0,vO 4 (TYard.cells y))],288⟩ (C_92 60) [(2,⟨[],true,(aI rCheckSea),[],0,false,none⟩)] [] (kp [1,5]) (kq [0]) 288 [0 < 1,Sound Try.prog 36 [(encL TMark.cells TMark.d y.f_Sea)] [] 0 (aI rCheckSea) []] ⟨o1,(g_r05_CheckSea_ok N y.f_Sea rCheckSea hr3),trivial⟩ ?_
   refine Runs.sA 1 [.code (C_92 122),.code (C_92 123),.code (C_92 31)] ?_
   refine Runs.sR hE ⟨[(1,(.op 0 0 0)),(5,(aI rCheckSea)),(22,(aB (rCheckSea != 0)))],[(0,vO 4 (TYard.cells y))],320⟩ (C_92 122) [] [] (kp [1,5,22]) (kq [0]) 320 [] trivial ?_
   refine Runs.sC 22 (C_92 246) (C_92 247) (rCheckSea != 0) (fun hq4=>?_) (fun hq4=>?_)
   ·have h:=condT h hq4
    refine Runs.sA 1 [.code (C_92 492),.code (C_92 493),.code (C_92 31)] ?_
    refine Runs.sR hE ⟨[(2,(aI rCheckSea))],[],352⟩ (C_92 492) [] [] (kp [2]) [] 352 [] trivial ?_
    obtain rfl:=Option.some.inj h
    refine Runs.sW hE ⟨[(2,(aI rCheckSea))],[],352⟩ [] (kp [2]) [] 352 [] trivial ?_
    exact Runs.sT Try.f45 [] [] trivial
   ·have h:=condF h hq4
    refine Runs.sA 3 [.code (C_92 124),.code (C_92 125),.code (C_92 63)] ?_
    refine Runs.sR hE ⟨[(1,(.op 0 0 0)),(27,(aB (((y.f_Sea.length:Nat):Int) == 0)))],[(0,vO 4 (TYard.cells y))],384⟩ (C_92 124) [] [] (kp [1,27]) (kq [0]) 384 [0 < 1] ⟨o1,trivial⟩ ?_
    refine Runs.sC 27 (C_92 250) (C_92 251) (((y.f_Sea.length:Nat):Int) == 0) (fun hq5=>?_) (fun hq5=>?_)
    ·have h:=condT h hq5
     refine Runs.sA 1 [.code (C_92 500),.code (C_92 501),.code (C_92 63)] ?_
     refine Runs.sR hE ⟨[(2,(aI 29))],[],400⟩ (C_92 500) [] [] (kp [2]) [] 400 [] trivial ?_
     obtain rfl:=Option.some.inj h
     refine Runs.sW hE ⟨[(2,(aI 29))],[],400⟩ [] (kp [2]) [] 400 [] trivial ?_
     exact Runs.sT Try.f45 [] [] trivial
    ·have h:=condF h hq5
     refine Runs.sA 3 [.code (C_92 252),.code (C_92 253),.code (C_92 127)] ?_
     obtain ⟨rinside,hr4,h⟩:=bindSome h
     refine Runs.sR hE ⟨[(31,(aB (!rinside)))],[],448⟩ (C_92 252) [(2,⟨[],true,(aB rinside),[],0,false,none⟩)] [] (kp [31]) [] 448 [0 < 1,Sound Try.prog 73 [(aI y.f_Last),(aI 0),(aI 400)] [] 0 (aB rinside) []] ⟨o1,(g_r06_inside_ok N y.f_Last 0 400 rinside hr4),trivial⟩ ?_
     refine Runs.sC 31 (C_92 506) (C_92 507) (!rinside) (fun hq6=>?_) (fun hq6=>?_)
     ·have h:=condT h hq6
      refine Runs.sA 1 [.code (C_92 1012),.code (C_92 1013),.code (C_92 127)] ?_
      refine Runs.sR hE ⟨[(2,(aI 2))],[],464⟩ (C_92 1012) [] [] (kp [2]) [] 464 [] trivial ?_
      obtain rfl:=Option.some.inj h
      refine Runs.sW hE ⟨[(2,(aI 2))],[],464⟩ [] (kp [2]) [] 464 [] trivial ?_
      exact Runs.sT Try.f45 [] [] trivial
     ·have h:=condF h hq6
      refine Runs.sA 2 [.code (C_92 254),.code (C_92 255)] ?_
      refine Runs.sR hE ⟨[(2,(aI 0))],[],464⟩ (C_92 254) [] [] (kp [2]) [] 464 [] trivial ?_
      obtain rfl:=Option.some.inj h
      refine Runs.sW hE ⟨[(2,(aI 0))],[],464⟩ [] (kp [2]) [] 464 [] trivial ?_
      exact Runs.sT Try.f45 [] [] trivial
noncomputable def C_94 (n:Nat):Code:=cat (bodyOf Try.f74) (pth n)
theorem g_r06_Fits_ok (N:Nat) (d:TDock) (c:TCall) (r:Bool) (h:g_r06_Fits N d c=some r):Sound Try.prog 74 [(.agg (TDock.cells d)),(.agg (TCall.cells c))] [] 0 (aB r) []:=by
 unfold g_r06_Fits at h
 refine Sound.of_runs (fu:=Try.f74) (c:=C_94 1) (nt:=25) (by kernel_rfl) (by kernel_rfl) (by kernel_rfl) (by kernel_rfl) (fun hm=>rfl) ?_
 intro E hE
 refine Runs.sA 1 [.code (C_94 2),.code (C_94 3)] ?_
 refine Runs.sR hE ⟨[(2,(.op 0 0 0)),(3,(.op 16 0 0))],[(0,vO 6 (TDock.cells d)),(16,vO 9 (TCall.cells c))],48⟩ (C_94 2) [] [] (kp [2,3]) (kq [0,16]) 48 [] trivial ?_
 refine Runs.sA 1 [.code (C_94 6),.code (C_94 7)] ?_
 refine Runs.sR hE ⟨[(4,(aB (cond (decide ((w64 (c.f_Length+(w64 (2 * d.f_Gap))))≤d.f_Length)) (decide ((w64 (c.f_Beam+(w64 (2 * d.f_Gap))))≤d.f_Width)) false)))],[],384⟩ (C_94 6) [] [] (kp [4]) [] 384 [0 < 1,0 < 1,0 < 1,(decide ((w64 (c.f_Length+(w64 (2 * d.f_Gap))))≤d.f_Length))=true→AllP [(decide ((w64 (c.f_Length+(w64 (2 * d.f_Gap))))≤d.f_Length))=true,0 < 1],(decide ((w64 (c.f_Length+(w64 (2 * d.f_Gap))))≤d.f_Length))=true→AllP [(decide ((w64 (c.f_Length+(w64 (2 * d.f_Gap))))≤d.f_Length))=true,0 < 1],(decide ((w64 (c.f_Length+(w64 (2 * d.f_Gap))))≤d.f_Length))=true→AllP [(decide ((w64 (c.f_Length+(w64 (2 * d.f_Gap))))≤d.f_Length))=true],(decide ((w64 (c.f_Length+(w64 (2 * d.f_Gap))))≤d.f_Length))=true→AllP [(decide ((w64 (c.f_Length+(w64 (2 * d.f_Gap))))≤d.f_Length))=true,(decide ((w64 (c.f_Length+(w64 (2 * d.f_Gap))))≤d.f_Length))=true],(decide ((w64 (c.f_Length+(w64 (2 * d.f_Gap))))≤d.f_Length))=true→AllP [(decide ((w64 (c.f_Length+(w64 (2 * d.f_Gap))))≤d.f_Length))=true,0 < 1],(decide ((w64 (c.f_Length+(w64 (2 * d.f_Gap))))≤d.f_Length))=true→AllP [(decide ((w64 (c.f_Length+(w64 (2 * d.f_Gap))))≤d.f_Length))=true,(decide ((w64 (c.f_Length+(w64 (2 * d.f_Gap))))≤d.f_Length))=true],(decide ((w64 (c.f_Length+(w64 (2 * d.f_Gap))))≤d.f_Length))=true→AllP [(decide ((w64 (c.f_Length+(w64 (2 * d.f_Gap))))≤d.f_Length))=true]] ⟨o1,o1,o1,(fun hg=>⟨hg,o1,trivial⟩),(fun hg=>⟨hg,o1,trivial⟩),(fun hg=>⟨hg,trivial⟩),(fun hg=>⟨hg,hg,trivial⟩),(fun hg=>⟨hg,o1,trivial⟩),(fun hg=>⟨hg,hg,trivial⟩),(fun hq=>⟨hq,trivial⟩),trivial⟩ ?_
 obtain rfl:=Option.some.inj h
 refine Runs.sW hE ⟨[(4,(aB (cond (decide ((w64 (c.f_Length+(w64 (2 * d.f_Gap))))≤d.f_Length)) (decide ((w64 (c.f_Beam+(w64 (2 * d.f_Gap))))≤d.f_Width)) false)))],[],384⟩ [] (kp [4]) [] 384 [] trivial ?_
 exact Runs.sT Try.f74 [] [] trivial
noncomputable def C_95 (n:Nat):Code:=cat (bodyOf Try.f75) (pth n)
theorem g_r06_among_L1_ok (N:Nat) (l:List Int) (n:Int) (fuel:Nat):∀ (i:Int) (r:Bool),g_r06_among_L1 N l n fuel i=some r→∀ E,EnvOk E 0→Runs Try.prog E 75 18 (SPost E [] (aB r)) [.code (C_95 52),.inLoop (C_95 52),.inBlock 0,.code (C_95 7)] ⟨[(0,(encL cI 0 l)),(1,(aI n)),(5,(aI i))],[],0⟩:=by
 induction fuel with
 | zero=>intro _ r h;rw [g_r06_among_L1.eq_1] at h;cases h
 | succ fuel ih =>
  intro i r h E hE
  rw [g_r06_among_L1.eq_2] at h
  refine Runs.sA 2 [.code (C_95 208),.code (C_95 209),.code (C_95 105),.inLoop (C_95 52),.inBlock 0,.code (C_95 7)] ?_
  refine Runs.sR hE ⟨[(0,(encL cI 0 l)),(1,(aI n)),(5,(aI i)),(9,(aB (decide (i < ((l.length:Nat):Int)))))],[],64⟩ (C_95 208) [] [] (kp [0,1,5,9]) [] 64 [] trivial ?_
  refine Runs.sC 9 (C_95 418) (C_95 419) (decide (i < ((l.length:Nat):Int))) (fun hq2=>?_) (fun hq2=>?_)
  ·have h:=condT h hq2
   refine Runs.sA 4 [.code (C_95 840),.code (C_95 841),.inBlock 1,.code (C_95 211),.inLoop (C_95 52),.inBlock 0,.code (C_95 7)] ?_
   obtain ⟨c,h⟩:=ifSome h
   refine Runs.sR hE ⟨[(0,(encL cI 0 l)),(1,(aI n)),(5,(aI i)),(17,(aB ((l.getD ((i).toNat) 0) == n)))],[],160⟩ (C_95 840) [] [] (kp [0,1,5,17]) [] 160 [0≤i∧i < ((l.length:Nat):Int)] ⟨c,trivial⟩ ?_
   refine Runs.sC 17 (C_95 1682) (C_95 1683) ((l.getD ((i).toNat) 0) == n) (fun hq3=>?_) (fun hq3=>?_)
   ·have h:=condT h hq3
    refine Runs.sA 1 [.code (C_95 3364),.code (C_95 3365),.inBlock 1,.code (C_95 211),.inLoop (C_95 52),.inBlock 0,.code (C_95 7)] ?_
    refine Runs.sR hE ⟨[(4,(aB true))],[],176⟩ (C_95 3364) [] [] (kp [4]) [] 176 [] trivial ?_
    obtain rfl:=Option.some.inj h
    refine Runs.sW hE ⟨[(4,(aB true))],[],176⟩ [] (kp [4]) [] 176 [] trivial ?_
    exact Runs.sT Try.f75 [] [] trivial
   ·have h:=condF h hq3
    refine Runs.sA 2 [.code (C_95 211),.inLoop (C_95 52),.inBlock 0,.code (C_95 7)] ?_
    refine Runs.sR hE ⟨[(0,(encL cI 0 l)),(1,(aI n)),(5,(aI (w64 (i+1))))],[],208⟩ (C_95 211) [] [] (kp [0,1,5]) [] 208 [] trivial ?_
    refine Runs.sA 1 [.code (C_95 52),.inLoop (C_95 52),.inBlock 0,.code (C_95 7)] ?_
    exact Runs.sW hE _ [] (kp [0,1,5]) [] 0 [] trivial (ih (w64 (i+1)) _ h E hE)
  ·have h:=condF h hq2
   refine Runs.sA 2 [.code (C_95 14),.code (C_95 15)] ?_
   refine Runs.sR hE ⟨[(4,(aB false))],[],80⟩ (C_95 14) [] [] (kp [4]) [] 80 [] trivial ?_
   obtain rfl:=Option.some.inj h
   refine Runs.sW hE ⟨[(4,(aB false))],[],80⟩ [] (kp [4]) [] 80 [] trivial ?_
   exact Runs.sT Try.f75 [] [] trivial
theorem g_r06_among_ok (N:Nat) (l:List Int) (n:Int) (r:Bool) (h:g_r06_among N l n=some r):Sound Try.prog 75 [(encL cI 0 l),(aI n)] [] 0 (aB r) []:=by
 unfold g_r06_among at h
 refine Sound.of_runs (fu:=Try.f75) (c:=C_95 1) (nt:=18) (by kernel_rfl) (by kernel_rfl) (by kernel_rfl) (by kernel_rfl) (fun hm=>rfl) ?_
 intro E hE
 refine Runs.sA 1 [.code (C_95 2),.code (C_95 3)] ?_
 refine Runs.sR hE ⟨[(0,(encL cI 0 l)),(1,(aI n))],[],16⟩ (C_95 2) [] [] (kp [0,1]) [] 16 [] trivial ?_
 refine Runs.sA 2 [.code (C_95 12),.code (C_95 13),.code (C_95 7)] ?_
 refine Runs.sR hE ⟨[(0,(encL cI 0 l)),(1,(aI n)),(5,(aI 0))],[],32⟩ (C_95 12) [] [] (kp [0,1,5]) [] 32 [] trivial ?_
 refine Runs.sA 2 [.code (C_95 52),.inLoop (C_95 52),.inBlock 0,.code (C_95 7)] ?_
 exact Runs.sW hE _ [] (kp [0,1,5]) [] 0 [] trivial (g_r06_among_L1_ok N l n N 0 _ h E hE)
noncomputable def C_93 (n:Nat):Code:=cat (bodyOf Try.f48) (pth n)
theorem g_r06_own_ok (N:Nat) (y:TYard) (c:TCall) (d:TDock) (day:Int) (r:Int) (h:g_r06_own N y c d day=some r):Sound Try.prog 48 [(.agg (TYard.cells y)),(.agg (TCall.cells c)),(.agg (TDock.cells d)),(aI day)] [] 0 (aI r) []:=by
 unfold g_r06_own at h
 refine Sound.of_runs (fu:=Try.f48) (c:=C_93 1) (nt:=43) (by kernel_rfl) (by kernel_rfl) (by kernel_rfl) (by kernel_rfl) (fun hm=>rfl) ?_
 intro E hE
 refine Runs.sA 1 [.code (C_93 2),.code (C_93 3)] ?_
 refine Runs.sR hE ⟨[(3,(aI day)),(4,(.op 0 0 0)),(5,(.op 16 0 0)),(6,(.op 32 0 0))],[(0,vO 4 (TYard.cells y)),(16,vO 9 (TCall.cells c)),(32,vO 6 (TDock.cells d))],64⟩ (C_93 2) [] [] (kp [3,4,5,6]) (kq [0,16,32]) 64 [] trivial ?_
 refine Runs.sA 2 [.code (C_93 12),.code (C_93 13),.code (C_93 7)] ?_
 obtain ⟨rFits,hr,h⟩:=bindSome h
 refine Runs.sR hE ⟨[(3,(aI day)),(4,(.op 0 0 0)),(5,(.op 16 0 0)),(6,(.op 32 0 0)),(13,(aB (!rFits)))],[(0,vO 4 (TYard.cells y)),(16,vO 9 (TCall.cells c)),(32,vO 6 (TDock.cells d))],128⟩ (C_93 12) [(2,⟨[],true,(aB rFits),[],0,false,none⟩)] [] (kp [3,4,5,6,13]) (kq [0,16,32]) 128 [0 < 1,0 < 1,Sound Try.prog 74 [(.agg (TDock.cells d)),(.agg (TCall.cells c))] [] 0 (aB rFits) []] ⟨o1,o1,(g_r06_Fits_ok N d c rFits hr),trivial⟩ ?_
 refine Runs.sC 13 (C_93 26) (C_93 27) (!rFits) (fun hq2=>?_) (fun hq2=>?_)
 ·have h:=condT h hq2
  refine Runs.sA 1 [.code (C_93 52),.code (C_93 53),.code (C_93 7)] ?_
  refine Runs.sR hE ⟨[(8,(aI 16))],[],144⟩ (C_93 52) [] [] (kp [8]) [] 144 [] trivial ?_
  obtain rfl:=Option.some.inj h
  refine Runs.sW hE ⟨[(8,(aI 16))],[],144⟩ [] (kp [8]) [] 144 [] trivial ?_
  exact Runs.sT Try.f48 [] [] trivial
 ·have h:=condF h hq2
  refine Runs.sA 3 [.code (C_93 28),.code (C_93 29),.code (C_93 15)] ?_
  refine Runs.sR hE ⟨[(3,(aI day)),(4,(.op 0 0 0)),(5,(.op 16 0 0)),(6,(.op 32 0 0)),(17,(aB (decide (day < c.f_Arrive))))],[(0,vO 4 (TYard.cells y)),(16,vO 9 (TCall.cells c)),(32,vO 6 (TDock.cells d))],192⟩ (C_93 28) [] [] (kp [3,4,5,6,17]) (kq [0,16,32]) 192 [0 < 1] ⟨o1,trivial⟩ ?_
  refine Runs.sC 17 (C_93 58) (C_93 59) (decide (day < c.f_Arrive)) (fun hq3=>?_) (fun hq3=>?_)
  ·have h:=condT h hq3
   refine Runs.sA 1 [.code (C_93 116),.code (C_93 117),.code (C_93 15)] ?_
   refine Runs.sR hE ⟨[(8,(aI 18))],[],208⟩ (C_93 116) [] [] (kp [8]) [] 208 [] trivial ?_
   obtain rfl:=Option.some.inj h
   refine Runs.sW hE ⟨[(8,(aI 18))],[],208⟩ [] (kp [8]) [] 208 [] trivial ?_
   exact Runs.sT Try.f48 [] [] trivial
  ·have h:=condF h hq3
   refine Runs.sA 3 [.code (C_93 60),.code (C_93 61),.code (C_93 31)] ?_
   refine Runs.sR hE ⟨[(3,(aI day)),(4,(.op 0 0 0)),(5,(.op 16 0 0)),(6,(.op 32 0 0)),(24,(aB (decide (day > (w64 (y.f_Last - c.f_Work))))))],[(0,vO 4 (TYard.cells y)),(16,vO 9 (TCall.cells c)),(32,vO 6 (TDock.cells d))],304⟩ (C_93 60) [] [] (kp [3,4,5,6,24]) (kq [0,16,32]) 304 [0 < 1,0 < 1] ⟨o1,o1,trivial⟩ ?_
   refine Runs.sC 24 (C_93 122) (C_93 123) (decide (day > (w64 (y.f_Last - c.f_Work)))) (fun hq4=>?_) (fun hq4=>?_)
   ·have h:=condT h hq4
    refine Runs.sA 1 [.code (C_93 244),.code (C_93 245),.code (C_93 31)] ?_
    refine Runs.sR hE ⟨[(8,(aI 2))],[],320⟩ (C_93 244) [] [] (kp [8]) [] 320 [] trivial ?_
    obtain rfl:=Option.some.inj h
    refine Runs.sW hE ⟨[(8,(aI 2))],[],320⟩ [] (kp [8]) [] 320 [] trivial ?_
    exact Runs.sT Try.f48 [] [] trivial
   ·have h:=condF h hq4
    refine Runs.sA 2 [.code (C_93 62),.code (C_93 63)] ?_
    obtain ⟨rDays,hr2,h⟩:=bindSome h
    refine Runs.sR hE ⟨[(3,(aI day)),(5,(.op 16 0 0)),(9,(encL cI 0 rDays))],[(16,vO 9 (TCall.cells c))],400⟩ (C_93 62) [(4,⟨[],true,(encL cI 0 rDays),[],0,false,none⟩)] [] (kp [3,5,9]) (kq [16]) 400 [0 < 1,0 < 1,0 < 1,Sound Try.prog 17 [(.agg (TDock.cells d)),(.agg (TCall.cells c)),(encL TMark.cells TMark.d y.f_Sea)] [] 0 (encL cI 0 rDays) []] ⟨o1,o1,o1,(g_r06_Days_ok N d c y.f_Sea rDays hr2),trivial⟩ ?_
    refine Runs.sA 2 [.code (C_93 252),.code (C_93 253),.code (C_93 127)] ?_
    obtain ⟨ramong,hr3,h⟩:=bindSome h
    obtain ⟨ramong2,hr4,h⟩:=bindSome h
    refine Runs.sR hE ⟨[(42,(aB (cond (!ramong) true (!ramong2))))],[],608⟩ (C_93 252) [(2,⟨[],true,(aB ramong),[],0,false,none⟩),(10,⟨[],true,(aB ramong2),[],0,false,none⟩)] [] (kp [42]) [] 608 [Sound Try.prog 75 [(encL cI 0 rDays),(aI day)] [] 0 (aB ramong) [],(!(!ramong))=true→AllP [(!(!ramong))=true,0 < 1],(!(!ramong))=true→AllP [(!(!ramong))=true,(!(!ramong))=true],(!(!ramong))=true→AllP [Sound Try.prog 75 [(encL cI 0 rDays),(aI (w64 (day+c.f_Work)))] [] 0 (aB ramong2) [],(!(!ramong))=true,(!(!ramong))=true],(!(!ramong))=true→AllP [(!(!ramong))=true],(!(!ramong))=true→AllP [(!(!ramong))=true]] ⟨(g_r06_among_ok N rDays day ramong hr3),(fun hg=>⟨hg,o1,trivial⟩),(fun hg=>⟨hg,hg,trivial⟩),(fun hg=>⟨(g_r06_among_ok N rDays (w64 (day+c.f_Work)) ramong2 (condT hr4 hg)),hg,hg,trivial⟩),(fun hg=>⟨hg,trivial⟩),(fun hq=>⟨hq,trivial⟩),trivial⟩ ?_
    refine Runs.sC 42 (C_93 506) (C_93 507) (cond (!ramong) true (!ramong2)) (fun hq5=>?_) (fun hq5=>?_)
    ·have h:=condT h hq5
     refine Runs.sA 1 [.code (C_93 1012),.code (C_93 1013),.code (C_93 127)] ?_
     refine Runs.sR hE ⟨[(8,(aI 29))],[],624⟩ (C_93 1012) [] [] (kp [8]) [] 624 [] trivial ?_
     obtain rfl:=Option.some.inj h
     refine Runs.sW hE ⟨[(8,(aI 29))],[],624⟩ [] (kp [8]) [] 624 [] trivial ?_
     exact Runs.sT Try.f48 [] [] trivial
    ·have h:=condF h hq5
     refine Runs.sA 2 [.code (C_93 254),.code (C_93 255)] ?_
     refine Runs.sR hE ⟨[(8,(aI 0))],[],624⟩ (C_93 254) [] [] (kp [8]) [] 624 [] trivial ?_
     obtain rfl:=Option.some.inj h
     refine Runs.sW hE ⟨[(8,(aI 0))],[],624⟩ [] (kp [8]) [] 624 [] trivial ?_
     exact Runs.sT Try.f48 [] [] trivial
noncomputable def C_96 (n:Nat):Code:=cat (bodyOf Try.f49) (pth n)
theorem g_r06_overlap_ok (N:Nat) (y:TYard) (s:TStay) (t:TStay) (r:Bool) (h:g_r06_overlap N y s t=some r):Sound Try.prog 49 [(.agg (TYard.cells y)),(.agg (TStay.cells s)),(.agg (TStay.cells t))] [] 0 (aB r) []:=by
 unfold g_r06_overlap at h
 refine Sound.of_runs (fu:=Try.f49) (c:=C_96 1) (nt:=52) (by kernel_rfl) (by kernel_rfl) (by kernel_rfl) (by kernel_rfl) (fun hm=>rfl) ?_
 intro E hE
 refine Runs.sA 1 [.code (C_96 2),.code (C_96 3)] ?_
 refine Runs.sR hE ⟨[(3,(.op 0 0 0)),(4,(.op 16 0 0)),(5,(.op 32 0 0))],[(0,vO 4 (TYard.cells y)),(16,vO 3 (TStay.cells s)),(32,vO 3 (TStay.cells t))],64⟩ (C_96 2) [] [] (kp [3,4,5]) (kq [0,16,32]) 64 [] trivial ?_
 refine Runs.sA 1 [.code (C_96 6),.code (C_96 7)] ?_
 obtain ⟨rCallOf,hr,h⟩:=bindSome h
 obtain ⟨c,h⟩:=ifSome h
 obtain ⟨rCallOf2,hr2,h⟩:=bindSome h
 obtain ⟨c2,h⟩:=ifSome h
 refine Runs.sR hE ⟨[(4,(.op 16 0 0)),(5,(.op 32 0 0)),(7,(.op 352 0 0)),(8,(.op 368 0 0))],[(16,vO 3 (TStay.cells s)),(32,vO 3 (TStay.cells t)),(352,vO 9 (TCall.cells (y.f_Calls.getD ((rCallOf).toNat) TCall.d))),(368,vO 9 (TCall.cells (y.f_Calls.getD ((rCallOf2).toNat) TCall.d)))],416⟩ (C_96 6) [(6,⟨[],true,(aI rCallOf),[],0,false,none⟩),(15,⟨[],true,(aI rCallOf2),[],0,false,none⟩)] [] (kp [4,5,7,8]) (kq [16,32,352,368]) 416 [0 < 1,0 < 1,0 < 1,Sound Try.prog 46 [(encL TCall.cells TCall.d y.f_Calls),(aS s.f_Call)] [] 0 (aI rCallOf) [],0≤rCallOf∧rCallOf < ((y.f_Calls.length:Nat):Int),0 < 1,0 < 1,0 < 1,Sound Try.prog 46 [(encL TCall.cells TCall.d y.f_Calls),(aS t.f_Call)] [] 0 (aI rCallOf2) [],0≤rCallOf2∧rCallOf2 < ((y.f_Calls.length:Nat):Int),0 < 1,0 < 1] ⟨o1,o1,o1,(g_r06_CallOf_ok N y.f_Calls s.f_Call rCallOf hr),c,o1,o1,o1,(g_r06_CallOf_ok N y.f_Calls t.f_Call rCallOf2 hr2),c2,o1,o1,trivial⟩ ?_
 refine Runs.sA 1 [.code (C_96 14),.code (C_96 15)] ?_
 refine Runs.sR hE ⟨[(6,(aB (cond (cond (streq s.f_Dock t.f_Dock) (decide (s.f_Day < (w64 (t.f_Day+(y.f_Calls.getD ((rCallOf2).toNat) TCall.d).f_Work)))) false) (decide (t.f_Day < (w64 (s.f_Day+(y.f_Calls.getD ((rCallOf).toNat) TCall.d).f_Work)))) false)))],[],832⟩ (C_96 14) [] [] (kp [6]) [] 832 [0 < 1,0 < 1,(streq s.f_Dock t.f_Dock)=true→AllP [(streq s.f_Dock t.f_Dock)=true,0 < 1],(streq s.f_Dock t.f_Dock)=true→AllP [(streq s.f_Dock t.f_Dock)=true,0 < 1],(streq s.f_Dock t.f_Dock)=true→AllP [(streq s.f_Dock t.f_Dock)=true,0 < 1],(streq s.f_Dock t.f_Dock)=true→AllP [(streq s.f_Dock t.f_Dock)=true,(streq s.f_Dock t.f_Dock)=true],(streq s.f_Dock t.f_Dock)=true→AllP [(streq s.f_Dock t.f_Dock)=true,(streq s.f_Dock t.f_Dock)=true],(streq s.f_Dock t.f_Dock)=true→AllP [(streq s.f_Dock t.f_Dock)=true],(cond (streq s.f_Dock t.f_Dock) (decide (s.f_Day < (w64 (t.f_Day+(y.f_Calls.getD ((rCallOf2).toNat) TCall.d).f_Work)))) false)=true→AllP [(cond (streq s.f_Dock t.f_Dock) (decide (s.f_Day < (w64 (t.f_Day+(y.f_Calls.getD ((rCallOf2).toNat) TCall.d).f_Work)))) false)=true,0 < 1],(cond (streq s.f_Dock t.f_Dock) (decide (s.f_Day < (w64 (t.f_Day+(y.f_Calls.getD ((rCallOf2).toNat) TCall.d).f_Work)))) false)=true→AllP [(cond (streq s.f_Dock t.f_Dock) (decide (s.f_Day < (w64 (t.f_Day+(y.f_Calls.getD ((rCallOf2).toNat) TCall.d).f_Work)))) false)=true,0 < 1],(cond (streq s.f_Dock t.f_Dock) (decide (s.f_Day < (w64 (t.f_Day+(y.f_Calls.getD ((rCallOf2).toNat) TCall.d).f_Work)))) false)=true→AllP [(cond (streq s.f_Dock t.f_Dock) (decide (s.f_Day < (w64 (t.f_Day+(y.f_Calls.getD ((rCallOf2).toNat) TCall.d).f_Work)))) false)=true,0 < 1],(cond (streq s.f_Dock t.f_Dock) (decide (s.f_Day < (w64 (t.f_Day+(y.f_Calls.getD ((rCallOf2).toNat) TCall.d).f_Work)))) false)=true→AllP [(cond (streq s.f_Dock t.f_Dock) (decide (s.f_Day < (w64 (t.f_Day+(y.f_Calls.getD ((rCallOf2).toNat) TCall.d).f_Work)))) false)=true,(cond (streq s.f_Dock t.f_Dock) (decide (s.f_Day < (w64 (t.f_Day+(y.f_Calls.getD ((rCallOf2).toNat) TCall.d).f_Work)))) false)=true],(cond (streq s.f_Dock t.f_Dock) (decide (s.f_Day < (w64 (t.f_Day+(y.f_Calls.getD ((rCallOf2).toNat) TCall.d).f_Work)))) false)=true→AllP [(cond (streq s.f_Dock t.f_Dock) (decide (s.f_Day < (w64 (t.f_Day+(y.f_Calls.getD ((rCallOf2).toNat) TCall.d).f_Work)))) false)=true,(cond (streq s.f_Dock t.f_Dock) (decide (s.f_Day < (w64 (t.f_Day+(y.f_Calls.getD ((rCallOf2).toNat) TCall.d).f_Work)))) false)=true],(cond (streq s.f_Dock t.f_Dock) (decide (s.f_Day < (w64 (t.f_Day+(y.f_Calls.getD ((rCallOf2).toNat) TCall.d).f_Work)))) false)=true→AllP [(cond (streq s.f_Dock t.f_Dock) (decide (s.f_Day < (w64 (t.f_Day+(y.f_Calls.getD ((rCallOf2).toNat) TCall.d).f_Work)))) false)=true]] ⟨o1,o1,(fun hg=>⟨hg,o1,trivial⟩),(fun hg=>⟨hg,o1,trivial⟩),(fun hg=>⟨hg,o1,trivial⟩),(fun hg=>⟨hg,hg,trivial⟩),(fun hg=>⟨hg,hg,trivial⟩),(fun hq=>⟨hq,trivial⟩),(fun hg=>⟨hg,o1,trivial⟩),(fun hg=>⟨hg,o1,trivial⟩),(fun hg=>⟨hg,o1,trivial⟩),(fun hg=>⟨hg,hg,trivial⟩),(fun hg=>⟨hg,hg,trivial⟩),(fun hq=>⟨hq,trivial⟩),trivial⟩ ?_
 obtain rfl:=Option.some.inj h
 refine Runs.sW hE ⟨[(6,(aB (cond (cond (streq s.f_Dock t.f_Dock) (decide (s.f_Day < (w64 (t.f_Day+(y.f_Calls.getD ((rCallOf2).toNat) TCall.d).f_Work)))) false) (decide (t.f_Day < (w64 (s.f_Day+(y.f_Calls.getD ((rCallOf).toNat) TCall.d).f_Work)))) false)))],[],832⟩ [] (kp [6]) [] 832 [] trivial ?_
 exact Runs.sT Try.f49 [] [] trivial
noncomputable def C_91 (n:Nat):Code:=cat (bodyOf Try.f20) (pth n)
theorem g_r06_CheckStays_L2_ok (N:Nat) (y:TYard) (s:List TStay) (i:Int) (rCallOf:Int) (rDockOf:Int) (K_g_r06_CheckStays_L1:Int→Option (Int))
  (hK_g_r06_CheckStays_L1:∀ (i:Int) (r:Int),K_g_r06_CheckStays_L1 i=some r→∀ E,EnvOk E 0→Runs Try.prog E 20 109 (SPost E [] (aI r)) [.code (C_91 244),.inLoop (C_91 244),.inBlock 0,.code (C_91 31)] ⟨[(1,(encL TStay.cells TStay.d s)),(2,(.op 0 0 0)),(6,(aI i))],[(0,vO 4 (TYard.cells y))],1⟩) (fuel:Nat):∀ (j:Int) (r:Int),g_r06_CheckStays_L2 N y s i rCallOf rDockOf K_g_r06_CheckStays_L1 fuel j=some r→∀ E,EnvOk E 0→Runs Try.prog E 20 109 (SPost E [] (aI r)) [.code (C_91 125236),.inLoop (C_91 125236),.inBlock 2,.code (C_91 15655),.inBlock 1,.code (C_91 979),.inLoop (C_91 244),.inBlock 0,.code (C_91 31)] ⟨[(1,(encL TStay.cells TStay.d s)),(2,(.op 0 0 0)),(6,(aI i)),(7,(aI rCallOf)),(8,(aI rDockOf)),(9,(aI j))],[(0,vO 4 (TYard.cells y))],1⟩:=by
 induction fuel with
 | zero=>intro _ r h;rw [g_r06_CheckStays_L2.eq_1] at h;cases h
 | succ fuel ih =>
  intro j r h E hE
  rw [g_r06_CheckStays_L2.eq_2] at h
  refine Runs.sA 2 [.code (C_91 500944),.code (C_91 500945),.code (C_91 250473),.inLoop (C_91 125236),.inBlock 2,.code (C_91 15655),.inBlock 1,.code (C_91 979),.inLoop (C_91 244),.inBlock 0,.code (C_91 31)] ?_
  refine Runs.sR hE ⟨[(1,(encL TStay.cells TStay.d s)),(2,(.op 0 0 0)),(6,(aI i)),(7,(aI rCallOf)),(8,(aI rDockOf)),(9,(aI j)),(54,(aB (decide (j < i))))],[(0,vO 4 (TYard.cells y))],49⟩ (C_91 500944) [] [] (kp [1,2,6,7,8,9,54]) (kq [0]) 49 [] trivial ?_
  refine Runs.sC 54 (C_91 1001890) (C_91 1001891) (decide (j < i)) (fun hq6=>?_) (fun hq6=>?_)
  ·have h:=condT h hq6
   refine Runs.sA 4 [.code (C_91 2003784),.code (C_91 2003785),.inBlock 3,.code (C_91 500947),.inLoop (C_91 125236),.inBlock 2,.code (C_91 15655),.inBlock 1,.code (C_91 979),.inLoop (C_91 244),.inBlock 0,.code (C_91 31)] ?_
   obtain ⟨c2,h⟩:=ifSome h
   obtain ⟨c3,h⟩:=ifSome h
   refine Runs.sR hE ⟨[(1,(encL TStay.cells TStay.d s)),(2,(.op 0 0 0)),(6,(aI i)),(7,(aI rCallOf)),(8,(aI rDockOf)),(9,(aI j)),(67,(aB (streq ((s.getD ((j).toNat) TStay.d).f_Call) ((s.getD ((i).toNat) TStay.d).f_Call))))],[(0,vO 4 (TYard.cells y))],225⟩ (C_91 2003784) [] [] (kp [1,2,6,7,8,9,67]) (kq [0]) 225 [0≤j∧j < ((s.length:Nat):Int),0≤i∧i < ((s.length:Nat):Int)] ⟨c2,c3,trivial⟩ ?_
   refine Runs.sC 67 (C_91 4007570) (C_91 4007571) (streq ((s.getD ((j).toNat) TStay.d).f_Call) ((s.getD ((i).toNat) TStay.d).f_Call)) (fun hq7=>?_) (fun hq7=>?_)
   ·have h:=condT h hq7
    refine Runs.sA 1 [.code (C_91 8015140),.code (C_91 8015141),.inBlock 3,.code (C_91 500947),.inLoop (C_91 125236),.inBlock 2,.code (C_91 15655),.inBlock 1,.code (C_91 979),.inLoop (C_91 244),.inBlock 0,.code (C_91 31)] ?_
    refine Runs.sR hE ⟨[(4,(aI 5))],[],241⟩ (C_91 8015140) [] [] (kp [4]) [] 241 [] trivial ?_
    obtain rfl:=Option.some.inj h
    refine Runs.sW hE ⟨[(4,(aI 5))],[],241⟩ [] (kp [4]) [] 241 [] trivial ?_
    exact Runs.sT Try.f20 [] [] trivial
   ·have h:=condF h hq7
    refine Runs.sA 2 [.code (C_91 500947),.inLoop (C_91 125236),.inBlock 2,.code (C_91 15655),.inBlock 1,.code (C_91 979),.inLoop (C_91 244),.inBlock 0,.code (C_91 31)] ?_
    refine Runs.sR hE ⟨[(1,(encL TStay.cells TStay.d s)),(2,(.op 0 0 0)),(6,(aI i)),(7,(aI rCallOf)),(8,(aI rDockOf)),(9,(aI (w64 (j+1))))],[(0,vO 4 (TYard.cells y))],273⟩ (C_91 500947) [] [] (kp [1,2,6,7,8,9]) (kq [0]) 273 [] trivial ?_
    refine Runs.sA 1 [.code (C_91 125236),.inLoop (C_91 125236),.inBlock 2,.code (C_91 15655),.inBlock 1,.code (C_91 979),.inLoop (C_91 244),.inBlock 0,.code (C_91 31)] ?_
    exact Runs.sW hE _ [] (kp [1,2,6,7,8,9]) (kq [0]) 1 [] trivial (ih (w64 (j+1)) _ h E hE)
  ·have h:=condF h hq6
   refine Runs.sA 2 [.code (C_91 31310),.code (C_91 31311),.inBlock 1,.code (C_91 979),.inLoop (C_91 244),.inBlock 0,.code (C_91 31)] ?_
   obtain ⟨c4,h⟩:=ifSome h
   obtain ⟨c5,h⟩:=ifSome h
   obtain ⟨c6,h⟩:=ifSome h
   obtain ⟨rown,hr4,h⟩:=bindSome h
   refine Runs.sR hE ⟨[(1,(encL TStay.cells TStay.d s)),(2,(.op 0 0 0)),(6,(aI i)),(10,(aI rown))],[(0,vO 4 (TYard.cells y))],337⟩ (C_91 31310) [(16,⟨[],true,(aI rown),[],0,false,none⟩)] [] (kp [1,2,6,10]) (kq [0]) 337 [0 < 1,0 < 1,0≤rCallOf∧rCallOf < ((y.f_Calls.length:Nat):Int),0 < 1,0≤rDockOf∧rDockOf < ((y.f_Docks.length:Nat):Int),0≤i∧i < ((s.length:Nat):Int),Sound Try.prog 48 [(.agg (TYard.cells y)),(.agg (TCall.cells (y.f_Calls.getD ((rCallOf).toNat) TCall.d))),(.agg (TDock.cells (y.f_Docks.getD ((rDockOf).toNat) TDock.d))),(aI ((s.getD ((i).toNat) TStay.d).f_Day))] [] 0 (aI rown) []] ⟨o1,o1,c4,o1,c5,c6,(g_r06_own_ok N y (y.f_Calls.getD ((rCallOf).toNat) TCall.d) (y.f_Docks.getD ((rDockOf).toNat) TDock.d) ((s.getD ((i).toNat) TStay.d).f_Day) rown hr4),trivial⟩ ?_
   refine Runs.sA 1 [.code (C_91 62622),.code (C_91 62623),.inBlock 1,.code (C_91 979),.inLoop (C_91 244),.inBlock 0,.code (C_91 31)] ?_
   refine Runs.sR hE ⟨[(1,(encL TStay.cells TStay.d s)),(2,(.op 0 0 0)),(6,(aI i)),(10,(aI rown)),(86,(aB (rown != 0)))],[(0,vO 4 (TYard.cells y))],369⟩ (C_91 62622) [] [] (kp [1,2,6,10,86]) (kq [0]) 369 [] trivial ?_
   refine Runs.sC 86 (C_91 125246) (C_91 125247) (rown != 0) (fun hq8=>?_) (fun hq8=>?_)
   ·have h:=condT h hq8
    refine Runs.sA 1 [.code (C_91 250492),.code (C_91 250493),.inBlock 1,.code (C_91 979),.inLoop (C_91 244),.inBlock 0,.code (C_91 31)] ?_
    refine Runs.sR hE ⟨[(4,(aI rown))],[],401⟩ (C_91 250492) [] [] (kp [4]) [] 401 [] trivial ?_
    obtain rfl:=Option.some.inj h
    refine Runs.sW hE ⟨[(4,(aI rown))],[],401⟩ [] (kp [4]) [] 401 [] trivial ?_
    exact Runs.sT Try.f20 [] [] trivial
   ·have h:=condF h hq8
    refine Runs.sA 2 [.code (C_91 979),.inLoop (C_91 244),.inBlock 0,.code (C_91 31)] ?_
    refine Runs.sR hE ⟨[(1,(encL TStay.cells TStay.d s)),(2,(.op 0 0 0)),(6,(aI (w64 (i+1))))],[(0,vO 4 (TYard.cells y))],417⟩ (C_91 979) [] [] (kp [1,2,6]) (kq [0]) 417 [] trivial ?_
    refine Runs.sA 1 [.code (C_91 244),.inLoop (C_91 244),.inBlock 0,.code (C_91 31)] ?_
    exact Runs.sW hE _ [] (kp [1,2,6]) (kq [0]) 1 [] trivial (hK_g_r06_CheckStays_L1 (w64 (i+1)) _ h E hE)
theorem g_r06_CheckStays_L4_ok (N:Nat) (y:TYard) (s:List TStay) (i2:Int) (K_g_r06_CheckStays_L3:Int→Option (Int))
  (hK_g_r06_CheckStays_L3:∀ (i2:Int) (r:Int),K_g_r06_CheckStays_L3 i2=some r→∀ E,EnvOk E 0→Runs Try.prog E 20 109 (SPost E [] (aI r)) [.code (C_91 500),.inLoop (C_91 500),.inBlock 4,.code (C_91 63)] ⟨[(1,(encL TStay.cells TStay.d s)),(2,(.op 0 0 0)),(11,(aI i2))],[(0,vO 4 (TYard.cells y))],1⟩) (fuel:Nat):∀ (j2:Int) (r:Int),g_r06_CheckStays_L4 N y s i2 K_g_r06_CheckStays_L3 fuel j2=some r→∀ E,EnvOk E 0→Runs Try.prog E 20 109 (SPost E [] (aI r)) [.code (C_91 32036),.inLoop (C_91 32036),.inBlock 6,.inBlock 5,.code (C_91 2003),.inLoop (C_91 500),.inBlock 4,.code (C_91 63)] ⟨[(1,(encL TStay.cells TStay.d s)),(2,(.op 0 0 0)),(11,(aI i2)),(12,(aI j2))],[(0,vO 4 (TYard.cells y))],1⟩:=by
 induction fuel with
 | zero=>intro _ r h;rw [g_r06_CheckStays_L4.eq_1] at h;cases h
 | succ fuel ih =>
  intro j2 r h E hE
  rw [g_r06_CheckStays_L4.eq_2] at h
  refine Runs.sA 2 [.code (C_91 128144),.code (C_91 128145),.code (C_91 64073),.inLoop (C_91 32036),.inBlock 6,.inBlock 5,.code (C_91 2003),.inLoop (C_91 500),.inBlock 4,.code (C_91 63)] ?_
  refine Runs.sR hE ⟨[(1,(encL TStay.cells TStay.d s)),(2,(.op 0 0 0)),(11,(aI i2)),(12,(aI j2)),(96,(aB (decide (j2 < i2))))],[(0,vO 4 (TYard.cells y))],49⟩ (C_91 128144) [] [] (kp [1,2,11,12,96]) (kq [0]) 49 [] trivial ?_
  refine Runs.sC 96 (C_91 256290) (C_91 256291) (decide (j2 < i2)) (fun hq10=>?_) (fun hq10=>?_)
  ·have h:=condT h hq10
   refine Runs.sA 4 [.code (C_91 512584),.code (C_91 512585),.inBlock 7,.code (C_91 128147),.inLoop (C_91 32036),.inBlock 6,.inBlock 5,.code (C_91 2003),.inLoop (C_91 500),.inBlock 4,.code (C_91 63)] ?_
   obtain ⟨c7,h⟩:=ifSome h
   obtain ⟨c8,h⟩:=ifSome h
   obtain ⟨roverlap,hr5,h⟩:=bindSome h
   refine Runs.sR hE ⟨[(1,(encL TStay.cells TStay.d s)),(2,(.op 0 0 0)),(11,(aI i2)),(12,(aI j2)),(108,(aB roverlap))],[(0,vO 4 (TYard.cells y))],209⟩ (C_91 512584) [(9,⟨[],true,(aB roverlap),[],0,false,none⟩)] [] (kp [1,2,11,12,108]) (kq [0]) 209 [0 < 1,0≤i2∧i2 < ((s.length:Nat):Int),0≤j2∧j2 < ((s.length:Nat):Int),Sound Try.prog 49 [(.agg (TYard.cells y)),(.agg (TStay.cells (s.getD ((i2).toNat) TStay.d))),(.agg (TStay.cells (s.getD ((j2).toNat) TStay.d)))] [] 0 (aB roverlap) []] ⟨o1,c7,c8,(g_r06_overlap_ok N y (s.getD ((i2).toNat) TStay.d) (s.getD ((j2).toNat) TStay.d) roverlap hr5),trivial⟩ ?_
   refine Runs.sC 108 (C_91 1025170) (C_91 1025171) roverlap (fun hq11=>?_) (fun hq11=>?_)
   ·have h:=condT h hq11
    refine Runs.sA 1 [.code (C_91 2050340),.code (C_91 2050341),.inBlock 7,.code (C_91 128147),.inLoop (C_91 32036),.inBlock 6,.inBlock 5,.code (C_91 2003),.inLoop (C_91 500),.inBlock 4,.code (C_91 63)] ?_
    refine Runs.sR hE ⟨[(4,(aI 17))],[],225⟩ (C_91 2050340) [] [] (kp [4]) [] 225 [] trivial ?_
    obtain rfl:=Option.some.inj h
    refine Runs.sW hE ⟨[(4,(aI 17))],[],225⟩ [] (kp [4]) [] 225 [] trivial ?_
    exact Runs.sT Try.f20 [] [] trivial
   ·have h:=condF h hq11
    refine Runs.sA 2 [.code (C_91 128147),.inLoop (C_91 32036),.inBlock 6,.inBlock 5,.code (C_91 2003),.inLoop (C_91 500),.inBlock 4,.code (C_91 63)] ?_
    refine Runs.sR hE ⟨[(1,(encL TStay.cells TStay.d s)),(2,(.op 0 0 0)),(11,(aI i2)),(12,(aI (w64 (j2+1))))],[(0,vO 4 (TYard.cells y))],257⟩ (C_91 128147) [] [] (kp [1,2,11,12]) (kq [0]) 257 [] trivial ?_
    refine Runs.sA 1 [.code (C_91 32036),.inLoop (C_91 32036),.inBlock 6,.inBlock 5,.code (C_91 2003),.inLoop (C_91 500),.inBlock 4,.code (C_91 63)] ?_
    exact Runs.sW hE _ [] (kp [1,2,11,12]) (kq [0]) 1 [] trivial (ih (w64 (j2+1)) _ h E hE)
  ·have h:=condF h hq10
   refine Runs.sA 2 [.code (C_91 2003),.inLoop (C_91 500),.inBlock 4,.code (C_91 63)] ?_
   refine Runs.sR hE ⟨[(1,(encL TStay.cells TStay.d s)),(2,(.op 0 0 0)),(11,(aI (w64 (i2+1))))],[(0,vO 4 (TYard.cells y))],97⟩ (C_91 2003) [] [] (kp [1,2,11]) (kq [0]) 97 [] trivial ?_
   refine Runs.sA 1 [.code (C_91 500),.inLoop (C_91 500),.inBlock 4,.code (C_91 63)] ?_
   exact Runs.sW hE _ [] (kp [1,2,11]) (kq [0]) 1 [] trivial (hK_g_r06_CheckStays_L3 (w64 (i2+1)) _ h E hE)
theorem g_r06_CheckStays_L3_ok (N:Nat) (y:TYard) (s:List TStay) (fuel:Nat):∀ (i2:Int) (r:Int),g_r06_CheckStays_L3 N y s fuel i2=some r→∀ E,EnvOk E 0→Runs Try.prog E 20 109 (SPost E [] (aI r)) [.code (C_91 500),.inLoop (C_91 500),.inBlock 4,.code (C_91 63)] ⟨[(1,(encL TStay.cells TStay.d s)),(2,(.op 0 0 0)),(11,(aI i2))],[(0,vO 4 (TYard.cells y))],1⟩:=by
 induction fuel with
 | zero=>intro _ r h;rw [g_r06_CheckStays_L3.eq_1] at h;cases h
 | succ fuel ih =>
  intro i2 r h E hE
  rw [g_r06_CheckStays_L3.eq_2] at h
  refine Runs.sA 2 [.code (C_91 2000),.code (C_91 2001),.code (C_91 1001),.inLoop (C_91 500),.inBlock 4,.code (C_91 63)] ?_
  refine Runs.sR hE ⟨[(1,(encL TStay.cells TStay.d s)),(2,(.op 0 0 0)),(11,(aI i2)),(91,(aB (decide (i2 < ((s.length:Nat):Int)))))],[(0,vO 4 (TYard.cells y))],65⟩ (C_91 2000) [] [] (kp [1,2,11,91]) (kq [0]) 65 [] trivial ?_
  refine Runs.sC 91 (C_91 4002) (C_91 4003) (decide (i2 < ((s.length:Nat):Int))) (fun hq9=>?_) (fun hq9=>?_)
  ·have h:=condT h hq9
   refine Runs.sA 4 [.code (C_91 8008),.code (C_91 8009),.inBlock 5,.code (C_91 2003),.inLoop (C_91 500),.inBlock 4,.code (C_91 63)] ?_
   refine Runs.sR hE ⟨[(1,(encL TStay.cells TStay.d s)),(2,(.op 0 0 0)),(11,(aI i2)),(12,(aI 0))],[(0,vO 4 (TYard.cells y))],81⟩ (C_91 8008) [] [] (kp [1,2,11,12]) (kq [0]) 81 [] trivial ?_
   refine Runs.sA 2 [.code (C_91 32036),.inLoop (C_91 32036),.inBlock 6,.inBlock 5,.code (C_91 2003),.inLoop (C_91 500),.inBlock 4,.code (C_91 63)] ?_
   exact Runs.sW hE _ [] (kp [1,2,11,12]) (kq [0]) 1 [] trivial (g_r06_CheckStays_L4_ok N y s i2 (g_r06_CheckStays_L3 N y s fuel) ih N 0 _ h E hE)
  ·have h:=condF h hq9
   refine Runs.sA 2 [.code (C_91 126),.code (C_91 127)] ?_
   refine Runs.sR hE ⟨[(4,(aI 0))],[],81⟩ (C_91 126) [] [] (kp [4]) [] 81 [] trivial ?_
   obtain rfl:=Option.some.inj h
   refine Runs.sW hE ⟨[(4,(aI 0))],[],81⟩ [] (kp [4]) [] 81 [] trivial ?_
   exact Runs.sT Try.f20 [] [] trivial
theorem g_r06_CheckStays_L1_ok (N:Nat) (y:TYard) (s:List TStay) (fuel:Nat):∀ (i:Int) (r:Int),g_r06_CheckStays_L1 N y s fuel i=some r→∀ E,EnvOk E 0→Runs Try.prog E 20 109 (SPost E [] (aI r)) [.code (C_91 244),.inLoop (C_91 244),.inBlock 0,.code (C_91 31)] ⟨[(1,(encL TStay.cells TStay.d s)),(2,(.op 0 0 0)),(6,(aI i))],[(0,vO 4 (TYard.cells y))],1⟩:=by
 induction fuel with
 | zero=>intro _ r h;rw [g_r06_CheckStays_L1.eq_1] at h;cases h
 | succ fuel ih =>
  intro i r h E hE
  rw [g_r06_CheckStays_L1.eq_2] at h
  refine Runs.sA 2 [.code (C_91 976),.code (C_91 977),.code (C_91 489),.inLoop (C_91 244),.inBlock 0,.code (C_91 31)] ?_
  refine Runs.sR hE ⟨[(1,(encL TStay.cells TStay.d s)),(2,(.op 0 0 0)),(6,(aI i)),(27,(aB (decide (i < ((s.length:Nat):Int)))))],[(0,vO 4 (TYard.cells y))],65⟩ (C_91 976) [] [] (kp [1,2,6,27]) (kq [0]) 65 [] trivial ?_
  refine Runs.sC 27 (C_91 1954) (C_91 1955) (decide (i < ((s.length:Nat):Int))) (fun hq4=>?_) (fun hq4=>?_)
  ·have h:=condT h hq4
   refine Runs.sA 4 [.code (C_91 3912),.code (C_91 3913),.inBlock 1,.code (C_91 979),.inLoop (C_91 244),.inBlock 0,.code (C_91 31)] ?_
   obtain ⟨c,h⟩:=ifSome h
   obtain ⟨rCallOf,hr2,h⟩:=bindSome h
   obtain ⟨rDockOf,hr3,h⟩:=bindSome h
   refine Runs.sR hE ⟨[(1,(encL TStay.cells TStay.d s)),(2,(.op 0 0 0)),(6,(aI i)),(7,(aI rCallOf)),(8,(aI rDockOf))],[(0,vO 4 (TYard.cells y))],353⟩ (C_91 3912) [(7,⟨[],true,(aI rCallOf),[],0,false,none⟩),(15,⟨[],true,(aI rDockOf),[],0,false,none⟩)] [] (kp [1,2,6,7,8]) (kq [0]) 353 [0 < 1,0≤i∧i < ((s.length:Nat):Int),Sound Try.prog 46 [(encL TCall.cells TCall.d y.f_Calls),(aS ((s.getD ((i).toNat) TStay.d).f_Call))] [] 0 (aI rCallOf) [],0 < 1,0≤i∧i < ((s.length:Nat):Int),Sound Try.prog 47 [(encL TDock.cells TDock.d y.f_Docks),(aS ((s.getD ((i).toNat) TStay.d).f_Dock))] [] 0 (aI rDockOf) []] ⟨o1,c,(g_r06_CallOf_ok N y.f_Calls ((s.getD ((i).toNat) TStay.d).f_Call) rCallOf hr2),o1,c,(g_r06_DockOf_ok N y.f_Docks ((s.getD ((i).toNat) TStay.d).f_Dock) rDockOf hr3),trivial⟩ ?_
   refine Runs.sA 2 [.code (C_91 15652),.code (C_91 15653),.code (C_91 7827),.inBlock 1,.code (C_91 979),.inLoop (C_91 244),.inBlock 0,.code (C_91 31)] ?_
   refine Runs.sR hE ⟨[(1,(encL TStay.cells TStay.d s)),(2,(.op 0 0 0)),(6,(aI i)),(7,(aI rCallOf)),(8,(aI rDockOf)),(51,(aB (cond (decide (rCallOf < 0)) true (decide (rDockOf < 0)))))],[(0,vO 4 (TYard.cells y))],449⟩ (C_91 15652) [] [] (kp [1,2,6,7,8,51]) (kq [0]) 449 [(!(decide (rCallOf < 0)))=true→AllP [(!(decide (rCallOf < 0)))=true],(!(decide (rCallOf < 0)))=true→AllP [(!(decide (rCallOf < 0)))=true]] ⟨(fun hg=>⟨hg,trivial⟩),(fun hq=>⟨hq,trivial⟩),trivial⟩ ?_
   refine Runs.sC 51 (C_91 31306) (C_91 31307) (cond (decide (rCallOf < 0)) true (decide (rDockOf < 0))) (fun hq5=>?_) (fun hq5=>?_)
   ·have h:=condT h hq5
    refine Runs.sA 1 [.code (C_91 62612),.code (C_91 62613),.code (C_91 7827),.inBlock 1,.code (C_91 979),.inLoop (C_91 244),.inBlock 0,.code (C_91 31)] ?_
    refine Runs.sR hE ⟨[(4,(aI 6))],[],465⟩ (C_91 62612) [] [] (kp [4]) [] 465 [] trivial ?_
    obtain rfl:=Option.some.inj h
    refine Runs.sW hE ⟨[(4,(aI 6))],[],465⟩ [] (kp [4]) [] 465 [] trivial ?_
    exact Runs.sT Try.f20 [] [] trivial
   ·have h:=condF h hq5
    refine Runs.sA 3 [.code (C_91 31308),.code (C_91 31309),.code (C_91 15655),.inBlock 1,.code (C_91 979),.inLoop (C_91 244),.inBlock 0,.code (C_91 31)] ?_
    refine Runs.sR hE ⟨[(1,(encL TStay.cells TStay.d s)),(2,(.op 0 0 0)),(6,(aI i)),(7,(aI rCallOf)),(8,(aI rDockOf)),(9,(aI 0))],[(0,vO 4 (TYard.cells y))],465⟩ (C_91 31308) [] [] (kp [1,2,6,7,8,9]) (kq [0]) 465 [] trivial ?_
    refine Runs.sA 2 [.code (C_91 125236),.inLoop (C_91 125236),.inBlock 2,.code (C_91 15655),.inBlock 1,.code (C_91 979),.inLoop (C_91 244),.inBlock 0,.code (C_91 31)] ?_
    exact Runs.sW hE _ [] (kp [1,2,6,7,8,9]) (kq [0]) 1 [] trivial (g_r06_CheckStays_L2_ok N y s i rCallOf rDockOf (g_r06_CheckStays_L1 N y s fuel) ih N 0 _ h E hE)
  ·have h:=condF h hq4
   refine Runs.sA 3 [.code (C_91 124),.code (C_91 125),.code (C_91 63)] ?_
   refine Runs.sR hE ⟨[(1,(encL TStay.cells TStay.d s)),(2,(.op 0 0 0)),(11,(aI 0))],[(0,vO 4 (TYard.cells y))],81⟩ (C_91 124) [] [] (kp [1,2,11]) (kq [0]) 81 [] trivial ?_
   refine Runs.sA 2 [.code (C_91 500),.inLoop (C_91 500),.inBlock 4,.code (C_91 63)] ?_
   exact Runs.sW hE _ [] (kp [1,2,11]) (kq [0]) 1 [] trivial (g_r06_CheckStays_L3_ok N y s N 0 _ h E hE)
theorem g_r06_CheckStays_ok (N:Nat) (y:TYard) (s:List TStay) (r:Int) (h:g_r06_CheckStays N y s=some r):Sound Try.prog 20 [(.agg (TYard.cells y)),(encL TStay.cells TStay.d s)] [] 0 (aI r) []:=by
 unfold g_r06_CheckStays at h
 refine Sound.of_runs (fu:=Try.f20) (c:=C_91 1) (nt:=109) (by kernel_rfl) (by kernel_rfl) (by kernel_rfl) (by kernel_rfl) (fun hm=>rfl) ?_
 intro E hE
 refine Runs.sA 1 [.code (C_91 2),.code (C_91 3)] ?_
 refine Runs.sR hE ⟨[(1,(encL TStay.cells TStay.d s)),(2,(.op 0 0 0))],[(0,vO 4 (TYard.cells y))],32⟩ (C_91 2) [] [] (kp [1,2]) (kq [0]) 32 [] trivial ?_
 refine Runs.sA 2 [.code (C_91 12),.code (C_91 13),.code (C_91 7)] ?_
 obtain ⟨rCheckYard,hr,h⟩:=bindSome h
 refine Runs.sR hE ⟨[(1,(encL TStay.cells TStay.d s)),(2,(.op 0 0 0)),(5,(aI rCheckYard))],[(0,vO 4 (TYard.cells y))],80⟩ (C_91 12) [(1,⟨[],true,(aI rCheckYard),[],0,false,none⟩)] [] (kp [1,2,5]) (kq [0]) 80 [0 < 1,Sound Try.prog 45 [(.agg (TYard.cells y))] [] 0 (aI rCheckYard) []] ⟨o1,(g_r06_CheckYard_ok N y rCheckYard hr),trivial⟩ ?_
 refine Runs.sA 1 [.code (C_91 26),.code (C_91 27),.code (C_91 7)] ?_
 refine Runs.sR hE ⟨[(1,(encL TStay.cells TStay.d s)),(2,(.op 0 0 0)),(5,(aI rCheckYard)),(16,(aB (rCheckYard != 0)))],[(0,vO 4 (TYard.cells y))],112⟩ (C_91 26) [] [] (kp [1,2,5,16]) (kq [0]) 112 [] trivial ?_
 refine Runs.sC 16 (C_91 54) (C_91 55) (rCheckYard != 0) (fun hq2=>?_) (fun hq2=>?_)
 ·have h:=condT h hq2
  refine Runs.sA 1 [.code (C_91 108),.code (C_91 109),.code (C_91 7)] ?_
  refine Runs.sR hE ⟨[(4,(aI rCheckYard))],[],144⟩ (C_91 108) [] [] (kp [4]) [] 144 [] trivial ?_
  obtain rfl:=Option.some.inj h
  refine Runs.sW hE ⟨[(4,(aI rCheckYard))],[],144⟩ [] (kp [4]) [] 144 [] trivial ?_
  exact Runs.sT Try.f20 [] [] trivial
 ·have h:=condF h hq2
  refine Runs.sA 3 [.code (C_91 28),.code (C_91 29),.code (C_91 15)] ?_
  refine Runs.sR hE ⟨[(1,(encL TStay.cells TStay.d s)),(2,(.op 0 0 0)),(23,(aB (((s.length:Nat):Int) != ((y.f_Calls.length:Nat):Int))))],[(0,vO 4 (TYard.cells y))],208⟩ (C_91 28) [] [] (kp [1,2,23]) (kq [0]) 208 [0 < 1] ⟨o1,trivial⟩ ?_
  refine Runs.sC 23 (C_91 58) (C_91 59) (((s.length:Nat):Int) != ((y.f_Calls.length:Nat):Int)) (fun hq3=>?_) (fun hq3=>?_)
  ·have h:=condT h hq3
   refine Runs.sA 1 [.code (C_91 116),.code (C_91 117),.code (C_91 15)] ?_
   refine Runs.sR hE ⟨[(4,(aI 11))],[],224⟩ (C_91 116) [] [] (kp [4]) [] 224 [] trivial ?_
   obtain rfl:=Option.some.inj h
   refine Runs.sW hE ⟨[(4,(aI 11))],[],224⟩ [] (kp [4]) [] 224 [] trivial ?_
   exact Runs.sT Try.f20 [] [] trivial
  ·have h:=condF h hq3
   refine Runs.sA 3 [.code (C_91 60),.code (C_91 61),.code (C_91 31)] ?_
   refine Runs.sR hE ⟨[(1,(encL TStay.cells TStay.d s)),(2,(.op 0 0 0)),(6,(aI 0))],[(0,vO 4 (TYard.cells y))],224⟩ (C_91 60) [] [] (kp [1,2,6]) (kq [0]) 224 [] trivial ?_
   refine Runs.sA 2 [.code (C_91 244),.inLoop (C_91 244),.inBlock 0,.code (C_91 31)] ?_
   exact Runs.sW hE _ [] (kp [1,2,6]) (kq [0]) 1 [] trivial (g_r06_CheckStays_L1_ok N y s N 0 _ h E hE)
noncomputable def C_99 (n:Nat):Code:=cat (bodyOf Try.f52) (pth n)
theorem g_berth_checkYard_ok (N:Nat) (y:TYard) (r:Int) (h:g_berth_checkYard N y=some r):Sound Try.prog 52 [(.agg (TYard.cells y))] [] 0 (aI r) []:=by
 unfold g_berth_checkYard at h
 refine Sound.of_runs (fu:=Try.f52) (c:=C_99 1) (nt:=28) (by kernel_rfl) (by kernel_rfl) (by kernel_rfl) (by kernel_rfl) (fun hm=>rfl) ?_
 intro E hE
 refine Runs.sA 1 [.code (C_99 2),.code (C_99 3)] ?_
 refine Runs.sR hE ⟨[(1,(.op 0 0 0))],[(0,vO 4 (TYard.cells y))],32⟩ (C_99 2) [] [] (kp [1]) (kq [0]) 32 [] trivial ?_
 refine Runs.sA 2 [.code (C_99 12),.code (C_99 13),.code (C_99 7)] ?_
 obtain ⟨rCheckDocks,hr,h⟩:=bindSome h
 refine Runs.sR hE ⟨[(1,(.op 0 0 0)),(3,(aI rCheckDocks))],[(0,vO 4 (TYard.cells y))],96⟩ (C_99 12) [(2,⟨[],true,(aI rCheckDocks),[],0,false,none⟩)] [] (kp [1,3]) (kq [0]) 96 [0 < 1,Sound Try.prog 69 [(encL TDock.cells TDock.d y.f_Docks)] [] 0 (aI rCheckDocks) []] ⟨o1,(g_berth_CheckDocks_ok N y.f_Docks rCheckDocks hr),trivial⟩ ?_
 refine Runs.sA 1 [.code (C_99 26),.code (C_99 27),.code (C_99 7)] ?_
 refine Runs.sR hE ⟨[(1,(.op 0 0 0)),(3,(aI rCheckDocks)),(10,(aB (rCheckDocks != 0)))],[(0,vO 4 (TYard.cells y))],128⟩ (C_99 26) [] [] (kp [1,3,10]) (kq [0]) 128 [] trivial ?_
 refine Runs.sC 10 (C_99 54) (C_99 55) (rCheckDocks != 0) (fun hq2=>?_) (fun hq2=>?_)
 ·have h:=condT h hq2
  refine Runs.sA 1 [.code (C_99 108),.code (C_99 109),.code (C_99 7)] ?_
  refine Runs.sR hE ⟨[(2,(aI rCheckDocks))],[],160⟩ (C_99 108) [] [] (kp [2]) [] 160 [] trivial ?_
  obtain rfl:=Option.some.inj h
  refine Runs.sW hE ⟨[(2,(aI rCheckDocks))],[],160⟩ [] (kp [2]) [] 160 [] trivial ?_
  exact Runs.sT Try.f52 [] [] trivial
 ·have h:=condF h hq2
  refine Runs.sA 3 [.code (C_99 28),.code (C_99 29),.code (C_99 15)] ?_
  obtain ⟨rCheckCalls,hr2,h⟩:=bindSome h
  refine Runs.sR hE ⟨[(1,(.op 0 0 0)),(4,(aI rCheckCalls))],[(0,vO 4 (TYard.cells y))],192⟩ (C_99 28) [(2,⟨[],true,(aI rCheckCalls),[],0,false,none⟩)] [] (kp [1,4]) (kq [0]) 192 [0 < 1,Sound Try.prog 70 [(encL TCall.cells TCall.d y.f_Calls)] [] 0 (aI rCheckCalls) []] ⟨o1,(g_berth_CheckCalls_ok N y.f_Calls rCheckCalls hr2),trivial⟩ ?_
  refine Runs.sA 1 [.code (C_99 58),.code (C_99 59),.code (C_99 15)] ?_
  refine Runs.sR hE ⟨[(1,(.op 0 0 0)),(4,(aI rCheckCalls)),(16,(aB (rCheckCalls != 0)))],[(0,vO 4 (TYard.cells y))],224⟩ (C_99 58) [] [] (kp [1,4,16]) (kq [0]) 224 [] trivial ?_
  refine Runs.sC 16 (C_99 118) (C_99 119) (rCheckCalls != 0) (fun hq3=>?_) (fun hq3=>?_)
  ·have h:=condT h hq3
   refine Runs.sA 1 [.code (C_99 236),.code (C_99 237),.code (C_99 15)] ?_
   refine Runs.sR hE ⟨[(2,(aI rCheckCalls))],[],256⟩ (C_99 236) [] [] (kp [2]) [] 256 [] trivial ?_
   obtain rfl:=Option.some.inj h
   refine Runs.sW hE ⟨[(2,(aI rCheckCalls))],[],256⟩ [] (kp [2]) [] 256 [] trivial ?_
   exact Runs.sT Try.f52 [] [] trivial
  ·have h:=condF h hq3
   refine Runs.sA 3 [.code (C_99 60),.code (C_99 61),.code (C_99 31)] ?_
   obtain ⟨rtides,hr3,h⟩:=bindSome h
   refine Runs.sR hE ⟨[(1,(.op 0 0 0)),(5,(aI rtides))],[(0,vO 4 (TYard.cells y))],288⟩ (C_99 60) [(2,⟨[],true,(aI rtides),[],0,false,none⟩)] [] (kp [1,5]) (kq [0]) 288 [0 < 1,Sound Try.prog 41 [(encL TMark.cells TMark.d y.f_Sea)] [] 0 (aI rtides) []] ⟨o1,(g_berth_tides_ok N y.f_Sea rtides hr3),trivial⟩ ?_
   refine Runs.sA 1 [.code (C_99 122),.code (C_99 123),.code (C_99 31)] ?_
   refine Runs.sR hE ⟨[(1,(.op 0 0 0)),(5,(aI rtides)),(22,(aB (rtides != 0)))],[(0,vO 4 (TYard.cells y))],320⟩ (C_99 122) [] [] (kp [1,5,22]) (kq [0]) 320 [] trivial ?_
   refine Runs.sC 22 (C_99 246) (C_99 247) (rtides != 0) (fun hq4=>?_) (fun hq4=>?_)
   ·have h:=condT h hq4
    refine Runs.sA 1 [.code (C_99 492),.code (C_99 493),.code (C_99 31)] ?_
    refine Runs.sR hE ⟨[(2,(aI rtides))],[],352⟩ (C_99 492) [] [] (kp [2]) [] 352 [] trivial ?_
    obtain rfl:=Option.some.inj h
    refine Runs.sW hE ⟨[(2,(aI rtides))],[],352⟩ [] (kp [2]) [] 352 [] trivial ?_
    exact Runs.sT Try.f52 [] [] trivial
   ·have h:=condF h hq4
    refine Runs.sA 2 [.code (C_99 62),.code (C_99 63)] ?_
    obtain ⟨routside,hr4,h⟩:=bindSome h
    obtain ⟨rranged,hr5,h⟩:=bindSome h
    refine Runs.sR hE ⟨[(2,(aI rranged))],[],400⟩ (C_99 62) [(2,⟨[],true,(aB routside),[],0,false,none⟩),(3,⟨[],true,(aI rranged),[],0,false,none⟩)] [] (kp [2]) [] 400 [0 < 1,Sound Try.prog 79 [(aI y.f_Last),(aI 0),(aI 400)] [] 0 (aB routside) [],Sound Try.prog 78 [(aB routside)] [] 0 (aI rranged) []] ⟨o1,(g_berth_outside_ok N y.f_Last 0 400 routside hr4),(g_berth_ranged_ok N routside rranged hr5),trivial⟩ ?_
    obtain rfl:=Option.some.inj h
    refine Runs.sW hE ⟨[(2,(aI rranged))],[],400⟩ [] (kp [2]) [] 400 [] trivial ?_
    exact Runs.sT Try.f52 [] [] trivial
noncomputable def C_102 (n:Nat):Code:=cat (bodyOf Try.f77) (pth n)
theorem g_berth_called_1_ok (N:Nat) (x:TCall) (cap0:ByteArray) (r:Bool) (h:g_berth_called_1 N x cap0=some r):Sound Try.prog 77 [(.agg (TCall.cells x)),(.op 0 0 0)] [(0,vO 1 [(aS cap0)])] 1 (aB r) [(0,vO 1 [(aS cap0)])]:=by
 unfold g_berth_called_1 at h
 refine Sound.of_runs (fu:=Try.f77) (c:=C_102 1) (nt:=8) (by kernel_rfl) (by kernel_rfl) (by kernel_rfl) (by kernel_rfl) (fun hm=>absurd hm (by decide)) ?_
 intro E hE
 refine Runs.sA 1 [.code (C_102 2),.code (C_102 3)] ?_
 refine Runs.sR hE ⟨[(1,(.op 0 0 0)),(2,(.op 1 0 0))],[(0,vO 1 [(aS cap0)]),(1,vO 9 (TCall.cells x))],33⟩ (C_102 2) [] [] (kp [1,2]) (kq [0,1]) 33 [] trivial ?_
 refine Runs.sA 1 [.code (C_102 6),.code (C_102 7)] ?_
 refine Runs.sR hE ⟨[(3,(aB (streq x.f_Name cap0)))],[(0,vO 1 [(aS cap0)])],113⟩ (C_102 6) [] [] (kp [3]) (kq [0]) 113 [0 < 1,0 < 1] ⟨o1,o1,trivial⟩ ?_
 obtain rfl:=Option.some.inj h
 refine Runs.sW hE ⟨[(3,(aB (streq x.f_Name cap0)))],[(0,vO 1 [(aS cap0)])],113⟩ [] (kp [3]) (kq [0]) 113 [] trivial ?_
 exact Runs.sT Try.f77 [] [] trivial
noncomputable def C_101 (n:Nat):Code:=cat (bodyOf Try.f76) (pth n)
theorem g_slices_IndexFunc_api_Call_api_Call_v2_L1_ok (N:Nat) (s:List TCall) (cap0:ByteArray) (fuel:Nat):∀ (x:Int) (r:Int),g_slices_IndexFunc_api_Call_api_Call_v2_L1 N s cap0 fuel x=some r→∀ E,EnvOk E 1→Runs Try.prog E 76 19 (SPost E [(0,vO 1 [(aS cap0)])] (aI r)) [.code (C_101 52),.inLoop (C_101 52),.inBlock 0,.code (C_101 7)] ⟨[(0,(encL TCall.cells TCall.d s)),(1,(.fn (.func 77) [] [(.op 0 0 0)])),(7,(aI ((s.length:Nat):Int))),(8,(aI x))],[(0,vO 1 [(aS cap0)])],1⟩:=by
 induction fuel with
 | zero=>intro _ r h;rw [g_slices_IndexFunc_api_Call_api_Call_v2_L1.eq_1] at h;cases h
 | succ fuel ih =>
  intro x r h E hE
  rw [g_slices_IndexFunc_api_Call_api_Call_v2_L1.eq_2] at h
  refine Runs.sA 1 [.code (C_101 104),.code (C_101 105),.inLoop (C_101 52),.inBlock 0,.code (C_101 7)] ?_
  refine Runs.sR hE ⟨[(0,(encL TCall.cells TCall.d s)),(1,(.fn (.func 77) [] [(.op 0 0 0)])),(7,(aI ((s.length:Nat):Int))),(8,(aI x)),(9,(aB (decide (x < ((s.length:Nat):Int)))))],[(0,vO 1 [(aS cap0)])],17⟩ (C_101 104) [] [] (kp [0,1,7,8,9]) (kq [0]) 17 [] trivial ?_
  refine Runs.sA 1 [.code (C_101 210),.code (C_101 211),.inLoop (C_101 52),.inBlock 0,.code (C_101 7)] ?_
  refine Runs.sC 9 (C_101 420) (C_101 421) (decide (x < ((s.length:Nat):Int))) (fun hq2=>?_) (fun hq2=>?_)
  ·have h:=condT h hq2
   refine Runs.sA 4 [.code (C_101 1688),.code (C_101 1689),.inBlock 1,.code (C_101 423),.inLoop (C_101 52),.inBlock 0,.code (C_101 7)] ?_
   refine Runs.sR hE ⟨[(0,(encL TCall.cells TCall.d s)),(1,(.fn (.func 77) [] [(.op 0 0 0)])),(5,(aI x)),(7,(aI ((s.length:Nat):Int))),(8,(aI x))],[(0,vO 1 [(aS cap0)])],49⟩ (C_101 1688) [] [] (kp [0,1,5,7,8]) (kq [0]) 49 [] trivial ?_
   refine Runs.sA 1 [.code (C_101 3378),.code (C_101 3379),.inBlock 1,.code (C_101 423),.inLoop (C_101 52),.inBlock 0,.code (C_101 7)] ?_
   obtain ⟨c,h⟩:=ifSome h
   obtain ⟨rcalled1,hr,h⟩:=bindSome h
   refine Runs.sR hE ⟨[(0,(encL TCall.cells TCall.d s)),(1,(.fn (.func 77) [] [(.op 0 0 0)])),(5,(aI x)),(7,(aI ((s.length:Nat):Int))),(8,(aI x)),(16,(aB rcalled1))],[(0,vO 1 [(aS cap0)])],145⟩ (C_101 3378) [(5,⟨[0],true,(aB rcalled1),[],0,false,none⟩)] [] (kp [0,1,5,7,8,16]) (kq [0]) 145 [0≤x∧x < ((s.length:Nat):Int),Sound Try.prog 77 [(.agg (TCall.cells (s.getD ((x).toNat) TCall.d))),(.op 0 0 0)] [(0,vO 1 [(aS cap0)])] 1 (aB rcalled1) [(0,vO 1 [(aS cap0)])]] ⟨c,(g_berth_called_1_ok N (s.getD ((x).toNat) TCall.d) cap0 rcalled1 hr),trivial⟩ ?_
   refine Runs.sC 16 (C_101 6758) (C_101 6759) rcalled1 (fun hq3=>?_) (fun hq3=>?_)
   ·have h:=condT h hq3
    refine Runs.sA 1 [.code (C_101 13516),.code (C_101 13517),.inBlock 1,.code (C_101 423),.inLoop (C_101 52),.inBlock 0,.code (C_101 7)] ?_
    refine Runs.sR hE ⟨[(4,(aI x))],[(0,vO 1 [(aS cap0)])],177⟩ (C_101 13516) [] [] (kp [4]) (kq [0]) 177 [] trivial ?_
    obtain rfl:=Option.some.inj h
    refine Runs.sW hE ⟨[(4,(aI x))],[(0,vO 1 [(aS cap0)])],177⟩ [] (kp [4]) (kq [0]) 177 [] trivial ?_
    exact Runs.sT Try.f76 [] [] trivial
   ·have h:=condF h hq3
    refine Runs.sA 2 [.code (C_101 423),.inLoop (C_101 52),.inBlock 0,.code (C_101 7)] ?_
    refine Runs.sR hE ⟨[(0,(encL TCall.cells TCall.d s)),(1,(.fn (.func 77) [] [(.op 0 0 0)])),(7,(aI ((s.length:Nat):Int))),(8,(aI (w64 (x+1))))],[(0,vO 1 [(aS cap0)])],177⟩ (C_101 423) [] [] (kp [0,1,7,8]) (kq [0]) 177 [] trivial ?_
    refine Runs.sA 1 [.code (C_101 52),.inLoop (C_101 52),.inBlock 0,.code (C_101 7)] ?_
    exact Runs.sW hE _ [] (kp [0,1,7,8]) (kq [0]) 1 [] trivial (ih (w64 (x+1)) _ h E hE)
  ·have h:=condF h hq2
   refine Runs.sA 2 [.code (C_101 14),.code (C_101 15)] ?_
   refine Runs.sR hE ⟨[(4,(aI (-1)))],[(0,vO 1 [(aS cap0)])],33⟩ (C_101 14) [] [] (kp [4]) (kq [0]) 33 [] trivial ?_
   obtain rfl:=Option.some.inj h
   refine Runs.sW hE ⟨[(4,(aI (-1)))],[(0,vO 1 [(aS cap0)])],49⟩ [] (kp [4]) (kq [0]) 49 [] trivial ?_
   exact Runs.sT Try.f76 [] [] trivial
theorem g_slices_IndexFunc_api_Call_api_Call_v2_ok (N:Nat) (s:List TCall) (cap0:ByteArray) (r:Int) (h:g_slices_IndexFunc_api_Call_api_Call_v2 N s cap0=some r):Sound Try.prog 76 [(encL TCall.cells TCall.d s),(.fn (.func 77) [] [(.op 0 0 0)])] [(0,vO 1 [(aS cap0)])] 1 (aI r) [(0,vO 1 [(aS cap0)])]:=by
 unfold g_slices_IndexFunc_api_Call_api_Call_v2 at h
 refine Sound.of_runs (fu:=Try.f76) (c:=C_101 1) (nt:=19) (by kernel_rfl) (by kernel_rfl) (by kernel_rfl) (by kernel_rfl) (fun hm=>absurd hm (by decide)) ?_
 intro E hE
 refine Runs.sA 1 [.code (C_101 2),.code (C_101 3)] ?_
 refine Runs.sR hE ⟨[(0,(encL TCall.cells TCall.d s)),(1,(.fn (.func 77) [] [(.op 0 0 0)]))],[(0,vO 1 [(aS cap0)])],17⟩ (C_101 2) [] [] (kp [0,1]) (kq [0]) 17 [] trivial ?_
 refine Runs.sA 2 [.code (C_101 12),.code (C_101 13),.code (C_101 7)] ?_
 refine Runs.sR hE ⟨[(0,(encL TCall.cells TCall.d s)),(1,(.fn (.func 77) [] [(.op 0 0 0)])),(7,(aI ((s.length:Nat):Int))),(8,(aI 0))],[(0,vO 1 [(aS cap0)])],65⟩ (C_101 12) [] [] (kp [0,1,7,8]) (kq [0]) 65 [] trivial ?_
 refine Runs.sA 2 [.code (C_101 52),.inLoop (C_101 52),.inBlock 0,.code (C_101 7)] ?_
 exact Runs.sW hE _ [] (kp [0,1,7,8]) (kq [0]) 1 [] trivial (g_slices_IndexFunc_api_Call_api_Call_v2_L1_ok N s cap0 N 0 _ h E hE)
noncomputable def C_100 (n:Nat):Code:=cat (bodyOf Try.f51) (pth n)
theorem g_berth_called_ok (N:Nat) (c:List TCall) (name:ByteArray) (r:Int) (h:g_berth_called N c name=some r):Sound Try.prog 51 [(encL TCall.cells TCall.d c),(aS name)] [] 0 (aI r) []:=by
 unfold g_berth_called at h
 refine Sound.of_runs (fu:=Try.f51) (c:=C_100 1) (nt:=8) (by kernel_rfl) (by kernel_rfl) (by kernel_rfl) (by kernel_rfl) (fun hm=>rfl) ?_
 intro E hE
 refine Runs.sA 1 [.code (C_100 2),.code (C_100 3)] ?_
 refine Runs.sR hE ⟨[(0,(encL TCall.cells TCall.d c)),(3,(.op 0 0 0))],[(0,vO 1 [(aS name)])],32⟩ (C_100 2) [] [] (kp [0,3]) (kq [0]) 32 [] trivial ?_
 refine Runs.sA 1 [.code (C_100 6),.code (C_100 7)] ?_
 obtain ⟨rCall,hr,h⟩:=bindSome h
 refine Runs.sR hE ⟨[(4,(aI rCall))],[],96⟩ (C_100 6) [(2,⟨[0],true,(aI rCall),[],0,false,none⟩)] [] (kp [4]) [] 96 [Sound Try.prog 76 [(encL TCall.cells TCall.d c),(.fn (.func 77) [] [(.op 0 0 0)])] [(0,vO 1 [(aS name)])] 1 (aI rCall) [(0,vO 1 [(aS name)])]] ⟨(g_slices_IndexFunc_api_Call_api_Call_v2_ok N c name rCall hr),trivial⟩ ?_
 obtain rfl:=Option.some.inj h
 refine Runs.sW hE ⟨[(4,(aI rCall))],[],96⟩ [] (kp [4]) [] 96 [] trivial ?_
 exact Runs.sT Try.f51 [] [] trivial
noncomputable def C_104 (n:Nat):Code:=cat (bodyOf Try.f54) (pth n)
theorem g_berth_CheckStays_1_ok (N:Nat) (d:TDock) (cap0:TStay) (r:Bool) (h:g_berth_CheckStays_1 N d cap0=some r):Sound Try.prog 54 [(.agg (TDock.cells d)),(.op 0 0 0)] [(0,vO 3 (TStay.cells cap0))] 1 (aB r) [(0,vO 3 (TStay.cells cap0))]:=by
 unfold g_berth_CheckStays_1 at h
 refine Sound.of_runs (fu:=Try.f54) (c:=C_104 1) (nt:=9) (by kernel_rfl) (by kernel_rfl) (by kernel_rfl) (by kernel_rfl) (fun hm=>absurd hm (by decide)) ?_
 intro E hE
 refine Runs.sA 1 [.code (C_104 2),.code (C_104 3)] ?_
 refine Runs.sR hE ⟨[(1,(.op 0 0 0)),(2,(.op 1 0 0))],[(0,vO 3 (TStay.cells cap0)),(1,vO 6 (TDock.cells d))],33⟩ (C_104 2) [] [] (kp [1,2]) (kq [0,1]) 33 [] trivial ?_
 refine Runs.sA 1 [.code (C_104 6),.code (C_104 7)] ?_
 refine Runs.sR hE ⟨[(3,(aB (streq d.f_Name cap0.f_Dock)))],[(0,vO 3 (TStay.cells cap0))],129⟩ (C_104 6) [] [] (kp [3]) (kq [0]) 129 [0 < 1,0 < 1] ⟨o1,o1,trivial⟩ ?_
 obtain rfl:=Option.some.inj h
 refine Runs.sW hE ⟨[(3,(aB (streq d.f_Name cap0.f_Dock)))],[(0,vO 3 (TStay.cells cap0))],129⟩ [] (kp [3]) (kq [0]) 129 [] trivial ?_
 exact Runs.sT Try.f54 [] [] trivial
noncomputable def C_103 (n:Nat):Code:=cat (bodyOf Try.f53) (pth n)
theorem g_slices_IndexFunc_api_Dock_api_Dock_v2_L1_ok (N:Nat) (s:List TDock) (cap0:TStay) (fuel:Nat):∀ (x:Int) (r:Int),g_slices_IndexFunc_api_Dock_api_Dock_v2_L1 N s cap0 fuel x=some r→∀ E,EnvOk E 1→Runs Try.prog E 53 19 (SPost E [(0,vO 3 (TStay.cells cap0))] (aI r)) [.code (C_103 52),.inLoop (C_103 52),.inBlock 0,.code (C_103 7)] ⟨[(0,(encL TDock.cells TDock.d s)),(1,(.fn (.func 54) [] [(.op 0 0 0)])),(7,(aI ((s.length:Nat):Int))),(8,(aI x))],[(0,vO 3 (TStay.cells cap0))],1⟩:=by
 induction fuel with
 | zero=>intro _ r h;rw [g_slices_IndexFunc_api_Dock_api_Dock_v2_L1.eq_1] at h;cases h
 | succ fuel ih =>
  intro x r h E hE
  rw [g_slices_IndexFunc_api_Dock_api_Dock_v2_L1.eq_2] at h
  refine Runs.sA 1 [.code (C_103 104),.code (C_103 105),.inLoop (C_103 52),.inBlock 0,.code (C_103 7)] ?_
  refine Runs.sR hE ⟨[(0,(encL TDock.cells TDock.d s)),(1,(.fn (.func 54) [] [(.op 0 0 0)])),(7,(aI ((s.length:Nat):Int))),(8,(aI x)),(9,(aB (decide (x < ((s.length:Nat):Int)))))],[(0,vO 3 (TStay.cells cap0))],17⟩ (C_103 104) [] [] (kp [0,1,7,8,9]) (kq [0]) 17 [] trivial ?_
  refine Runs.sA 1 [.code (C_103 210),.code (C_103 211),.inLoop (C_103 52),.inBlock 0,.code (C_103 7)] ?_
  refine Runs.sC 9 (C_103 420) (C_103 421) (decide (x < ((s.length:Nat):Int))) (fun hq2=>?_) (fun hq2=>?_)
  ·have h:=condT h hq2
   refine Runs.sA 4 [.code (C_103 1688),.code (C_103 1689),.inBlock 1,.code (C_103 423),.inLoop (C_103 52),.inBlock 0,.code (C_103 7)] ?_
   refine Runs.sR hE ⟨[(0,(encL TDock.cells TDock.d s)),(1,(.fn (.func 54) [] [(.op 0 0 0)])),(5,(aI x)),(7,(aI ((s.length:Nat):Int))),(8,(aI x))],[(0,vO 3 (TStay.cells cap0))],49⟩ (C_103 1688) [] [] (kp [0,1,5,7,8]) (kq [0]) 49 [] trivial ?_
   refine Runs.sA 1 [.code (C_103 3378),.code (C_103 3379),.inBlock 1,.code (C_103 423),.inLoop (C_103 52),.inBlock 0,.code (C_103 7)] ?_
   obtain ⟨c,h⟩:=ifSome h
   obtain ⟨rCheckStays1,hr,h⟩:=bindSome h
   refine Runs.sR hE ⟨[(0,(encL TDock.cells TDock.d s)),(1,(.fn (.func 54) [] [(.op 0 0 0)])),(5,(aI x)),(7,(aI ((s.length:Nat):Int))),(8,(aI x)),(16,(aB rCheckStays1))],[(0,vO 3 (TStay.cells cap0))],145⟩ (C_103 3378) [(5,⟨[0],true,(aB rCheckStays1),[],0,false,none⟩)] [] (kp [0,1,5,7,8,16]) (kq [0]) 145 [0≤x∧x < ((s.length:Nat):Int),Sound Try.prog 54 [(.agg (TDock.cells (s.getD ((x).toNat) TDock.d))),(.op 0 0 0)] [(0,vO 3 (TStay.cells cap0))] 1 (aB rCheckStays1) [(0,vO 3 (TStay.cells cap0))]] ⟨c,(g_berth_CheckStays_1_ok N (s.getD ((x).toNat) TDock.d) cap0 rCheckStays1 hr),trivial⟩ ?_
   refine Runs.sC 16 (C_103 6758) (C_103 6759) rCheckStays1 (fun hq3=>?_) (fun hq3=>?_)
   ·have h:=condT h hq3
    refine Runs.sA 1 [.code (C_103 13516),.code (C_103 13517),.inBlock 1,.code (C_103 423),.inLoop (C_103 52),.inBlock 0,.code (C_103 7)] ?_
    refine Runs.sR hE ⟨[(4,(aI x))],[(0,vO 3 (TStay.cells cap0))],177⟩ (C_103 13516) [] [] (kp [4]) (kq [0]) 177 [] trivial ?_
    obtain rfl:=Option.some.inj h
    refine Runs.sW hE ⟨[(4,(aI x))],[(0,vO 3 (TStay.cells cap0))],177⟩ [] (kp [4]) (kq [0]) 177 [] trivial ?_
    exact Runs.sT Try.f53 [] [] trivial
   ·have h:=condF h hq3
    refine Runs.sA 2 [.code (C_103 423),.inLoop (C_103 52),.inBlock 0,.code (C_103 7)] ?_
    refine Runs.sR hE ⟨[(0,(encL TDock.cells TDock.d s)),(1,(.fn (.func 54) [] [(.op 0 0 0)])),(7,(aI ((s.length:Nat):Int))),(8,(aI (w64 (x+1))))],[(0,vO 3 (TStay.cells cap0))],177⟩ (C_103 423) [] [] (kp [0,1,7,8]) (kq [0]) 177 [] trivial ?_
    refine Runs.sA 1 [.code (C_103 52),.inLoop (C_103 52),.inBlock 0,.code (C_103 7)] ?_
    exact Runs.sW hE _ [] (kp [0,1,7,8]) (kq [0]) 1 [] trivial (ih (w64 (x+1)) _ h E hE)
  ·have h:=condF h hq2
   refine Runs.sA 2 [.code (C_103 14),.code (C_103 15)] ?_
   refine Runs.sR hE ⟨[(4,(aI (-1)))],[(0,vO 3 (TStay.cells cap0))],33⟩ (C_103 14) [] [] (kp [4]) (kq [0]) 33 [] trivial ?_
   obtain rfl:=Option.some.inj h
   refine Runs.sW hE ⟨[(4,(aI (-1)))],[(0,vO 3 (TStay.cells cap0))],49⟩ [] (kp [4]) (kq [0]) 49 [] trivial ?_
   exact Runs.sT Try.f53 [] [] trivial
theorem g_slices_IndexFunc_api_Dock_api_Dock_v2_ok (N:Nat) (s:List TDock) (cap0:TStay) (r:Int) (h:g_slices_IndexFunc_api_Dock_api_Dock_v2 N s cap0=some r):Sound Try.prog 53 [(encL TDock.cells TDock.d s),(.fn (.func 54) [] [(.op 0 0 0)])] [(0,vO 3 (TStay.cells cap0))] 1 (aI r) [(0,vO 3 (TStay.cells cap0))]:=by
 unfold g_slices_IndexFunc_api_Dock_api_Dock_v2 at h
 refine Sound.of_runs (fu:=Try.f53) (c:=C_103 1) (nt:=19) (by kernel_rfl) (by kernel_rfl) (by kernel_rfl) (by kernel_rfl) (fun hm=>absurd hm (by decide)) ?_
 intro E hE
 refine Runs.sA 1 [.code (C_103 2),.code (C_103 3)] ?_
 refine Runs.sR hE ⟨[(0,(encL TDock.cells TDock.d s)),(1,(.fn (.func 54) [] [(.op 0 0 0)]))],[(0,vO 3 (TStay.cells cap0))],17⟩ (C_103 2) [] [] (kp [0,1]) (kq [0]) 17 [] trivial ?_
 refine Runs.sA 2 [.code (C_103 12),.code (C_103 13),.code (C_103 7)] ?_
 refine Runs.sR hE ⟨[(0,(encL TDock.cells TDock.d s)),(1,(.fn (.func 54) [] [(.op 0 0 0)])),(7,(aI ((s.length:Nat):Int))),(8,(aI 0))],[(0,vO 3 (TStay.cells cap0))],65⟩ (C_103 12) [] [] (kp [0,1,7,8]) (kq [0]) 65 [] trivial ?_
 refine Runs.sA 2 [.code (C_103 52),.inLoop (C_103 52),.inBlock 0,.code (C_103 7)] ?_
 exact Runs.sW hE _ [] (kp [0,1,7,8]) (kq [0]) 1 [] trivial (g_slices_IndexFunc_api_Dock_api_Dock_v2_L1_ok N s cap0 N 0 _ h E hE)
noncomputable def C_107 (n:Nat):Code:=cat (bodyOf Try.f56) (pth n)
theorem g_berth_CheckStays_2_ok (N:Nat) (z:TStay) (cap0:TStay) (r:Bool) (h:g_berth_CheckStays_2 N z cap0=some r):Sound Try.prog 56 [(.agg (TStay.cells z)),(.op 0 0 0)] [(0,vO 3 (TStay.cells cap0))] 1 (aB r) [(0,vO 3 (TStay.cells cap0))]:=by
 unfold g_berth_CheckStays_2 at h
 refine Sound.of_runs (fu:=Try.f56) (c:=C_107 1) (nt:=9) (by kernel_rfl) (by kernel_rfl) (by kernel_rfl) (by kernel_rfl) (fun hm=>absurd hm (by decide)) ?_
 intro E hE
 refine Runs.sA 1 [.code (C_107 2),.code (C_107 3)] ?_
 refine Runs.sR hE ⟨[(1,(.op 0 0 0)),(2,(.op 1 0 0))],[(0,vO 3 (TStay.cells cap0)),(1,vO 3 (TStay.cells z))],33⟩ (C_107 2) [] [] (kp [1,2]) (kq [0,1]) 33 [] trivial ?_
 refine Runs.sA 1 [.code (C_107 6),.code (C_107 7)] ?_
 refine Runs.sR hE ⟨[(3,(aB (streq z.f_Call cap0.f_Call)))],[(0,vO 3 (TStay.cells cap0))],129⟩ (C_107 6) [] [] (kp [3]) (kq [0]) 129 [0 < 1,0 < 1] ⟨o1,o1,trivial⟩ ?_
 obtain rfl:=Option.some.inj h
 refine Runs.sW hE ⟨[(3,(aB (streq z.f_Call cap0.f_Call)))],[(0,vO 3 (TStay.cells cap0))],129⟩ [] (kp [3]) (kq [0]) 129 [] trivial ?_
 exact Runs.sT Try.f56 [] [] trivial
noncomputable def C_106 (n:Nat):Code:=cat (bodyOf Try.f80) (pth n)
theorem g_slices_IndexFunc_api_Stay_api_Stay_L1_ok (N:Nat) (s:List TStay) (cap0:TStay) (fuel:Nat):∀ (x:Int) (r:Int),g_slices_IndexFunc_api_Stay_api_Stay_L1 N s cap0 fuel x=some r→∀ E,EnvOk E 1→Runs Try.prog E 80 19 (SPost E [(0,vO 3 (TStay.cells cap0))] (aI r)) [.code (C_106 52),.inLoop (C_106 52),.inBlock 0,.code (C_106 7)] ⟨[(0,(encL TStay.cells TStay.d s)),(1,(.fn (.func 56) [] [(.op 0 0 0)])),(7,(aI ((s.length:Nat):Int))),(8,(aI x))],[(0,vO 3 (TStay.cells cap0))],1⟩:=by
 induction fuel with
 | zero=>intro _ r h;rw [g_slices_IndexFunc_api_Stay_api_Stay_L1.eq_1] at h;cases h
 | succ fuel ih =>
  intro x r h E hE
  rw [g_slices_IndexFunc_api_Stay_api_Stay_L1.eq_2] at h
  refine Runs.sA 1 [.code (C_106 104),.code (C_106 105),.inLoop (C_106 52),.inBlock 0,.code (C_106 7)] ?_
  refine Runs.sR hE ⟨[(0,(encL TStay.cells TStay.d s)),(1,(.fn (.func 56) [] [(.op 0 0 0)])),(7,(aI ((s.length:Nat):Int))),(8,(aI x)),(9,(aB (decide (x < ((s.length:Nat):Int)))))],[(0,vO 3 (TStay.cells cap0))],17⟩ (C_106 104) [] [] (kp [0,1,7,8,9]) (kq [0]) 17 [] trivial ?_
  refine Runs.sA 1 [.code (C_106 210),.code (C_106 211),.inLoop (C_106 52),.inBlock 0,.code (C_106 7)] ?_
  refine Runs.sC 9 (C_106 420) (C_106 421) (decide (x < ((s.length:Nat):Int))) (fun hq2=>?_) (fun hq2=>?_)
  ·have h:=condT h hq2
   refine Runs.sA 4 [.code (C_106 1688),.code (C_106 1689),.inBlock 1,.code (C_106 423),.inLoop (C_106 52),.inBlock 0,.code (C_106 7)] ?_
   refine Runs.sR hE ⟨[(0,(encL TStay.cells TStay.d s)),(1,(.fn (.func 56) [] [(.op 0 0 0)])),(5,(aI x)),(7,(aI ((s.length:Nat):Int))),(8,(aI x))],[(0,vO 3 (TStay.cells cap0))],49⟩ (C_106 1688) [] [] (kp [0,1,5,7,8]) (kq [0]) 49 [] trivial ?_
   refine Runs.sA 1 [.code (C_106 3378),.code (C_106 3379),.inBlock 1,.code (C_106 423),.inLoop (C_106 52),.inBlock 0,.code (C_106 7)] ?_
   obtain ⟨c,h⟩:=ifSome h
   obtain ⟨rCheckStays2,hr,h⟩:=bindSome h
   refine Runs.sR hE ⟨[(0,(encL TStay.cells TStay.d s)),(1,(.fn (.func 56) [] [(.op 0 0 0)])),(5,(aI x)),(7,(aI ((s.length:Nat):Int))),(8,(aI x)),(16,(aB rCheckStays2))],[(0,vO 3 (TStay.cells cap0))],145⟩ (C_106 3378) [(5,⟨[0],true,(aB rCheckStays2),[],0,false,none⟩)] [] (kp [0,1,5,7,8,16]) (kq [0]) 145 [0≤x∧x < ((s.length:Nat):Int),Sound Try.prog 56 [(.agg (TStay.cells (s.getD ((x).toNat) TStay.d))),(.op 0 0 0)] [(0,vO 3 (TStay.cells cap0))] 1 (aB rCheckStays2) [(0,vO 3 (TStay.cells cap0))]] ⟨c,(g_berth_CheckStays_2_ok N (s.getD ((x).toNat) TStay.d) cap0 rCheckStays2 hr),trivial⟩ ?_
   refine Runs.sC 16 (C_106 6758) (C_106 6759) rCheckStays2 (fun hq3=>?_) (fun hq3=>?_)
   ·have h:=condT h hq3
    refine Runs.sA 1 [.code (C_106 13516),.code (C_106 13517),.inBlock 1,.code (C_106 423),.inLoop (C_106 52),.inBlock 0,.code (C_106 7)] ?_
    refine Runs.sR hE ⟨[(4,(aI x))],[(0,vO 3 (TStay.cells cap0))],177⟩ (C_106 13516) [] [] (kp [4]) (kq [0]) 177 [] trivial ?_
    obtain rfl:=Option.some.inj h
    refine Runs.sW hE ⟨[(4,(aI x))],[(0,vO 3 (TStay.cells cap0))],177⟩ [] (kp [4]) (kq [0]) 177 [] trivial ?_
    exact Runs.sT Try.f80 [] [] trivial
   ·have h:=condF h hq3
    refine Runs.sA 2 [.code (C_106 423),.inLoop (C_106 52),.inBlock 0,.code (C_106 7)] ?_
    refine Runs.sR hE ⟨[(0,(encL TStay.cells TStay.d s)),(1,(.fn (.func 56) [] [(.op 0 0 0)])),(7,(aI ((s.length:Nat):Int))),(8,(aI (w64 (x+1))))],[(0,vO 3 (TStay.cells cap0))],177⟩ (C_106 423) [] [] (kp [0,1,7,8]) (kq [0]) 177 [] trivial ?_
    refine Runs.sA 1 [.code (C_106 52),.inLoop (C_106 52),.inBlock 0,.code (C_106 7)] ?_
    exact Runs.sW hE _ [] (kp [0,1,7,8]) (kq [0]) 1 [] trivial (ih (w64 (x+1)) _ h E hE)
  ·have h:=condF h hq2
   refine Runs.sA 2 [.code (C_106 14),.code (C_106 15)] ?_
   refine Runs.sR hE ⟨[(4,(aI (-1)))],[(0,vO 3 (TStay.cells cap0))],33⟩ (C_106 14) [] [] (kp [4]) (kq [0]) 33 [] trivial ?_
   obtain rfl:=Option.some.inj h
   refine Runs.sW hE ⟨[(4,(aI (-1)))],[(0,vO 3 (TStay.cells cap0))],49⟩ [] (kp [4]) (kq [0]) 49 [] trivial ?_
   exact Runs.sT Try.f80 [] [] trivial
theorem g_slices_IndexFunc_api_Stay_api_Stay_ok (N:Nat) (s:List TStay) (cap0:TStay) (r:Int) (h:g_slices_IndexFunc_api_Stay_api_Stay N s cap0=some r):Sound Try.prog 80 [(encL TStay.cells TStay.d s),(.fn (.func 56) [] [(.op 0 0 0)])] [(0,vO 3 (TStay.cells cap0))] 1 (aI r) [(0,vO 3 (TStay.cells cap0))]:=by
 unfold g_slices_IndexFunc_api_Stay_api_Stay at h
 refine Sound.of_runs (fu:=Try.f80) (c:=C_106 1) (nt:=19) (by kernel_rfl) (by kernel_rfl) (by kernel_rfl) (by kernel_rfl) (fun hm=>absurd hm (by decide)) ?_
 intro E hE
 refine Runs.sA 1 [.code (C_106 2),.code (C_106 3)] ?_
 refine Runs.sR hE ⟨[(0,(encL TStay.cells TStay.d s)),(1,(.fn (.func 56) [] [(.op 0 0 0)]))],[(0,vO 3 (TStay.cells cap0))],17⟩ (C_106 2) [] [] (kp [0,1]) (kq [0]) 17 [] trivial ?_
 refine Runs.sA 2 [.code (C_106 12),.code (C_106 13),.code (C_106 7)] ?_
 refine Runs.sR hE ⟨[(0,(encL TStay.cells TStay.d s)),(1,(.fn (.func 56) [] [(.op 0 0 0)])),(7,(aI ((s.length:Nat):Int))),(8,(aI 0))],[(0,vO 3 (TStay.cells cap0))],65⟩ (C_106 12) [] [] (kp [0,1,7,8]) (kq [0]) 65 [] trivial ?_
 refine Runs.sA 2 [.code (C_106 52),.inLoop (C_106 52),.inBlock 0,.code (C_106 7)] ?_
 exact Runs.sW hE _ [] (kp [0,1,7,8]) (kq [0]) 1 [] trivial (g_slices_IndexFunc_api_Stay_api_Stay_L1_ok N s cap0 N 0 _ h E hE)
noncomputable def C_105 (n:Nat):Code:=cat (bodyOf Try.f55) (pth n)
theorem g_slices_ContainsFunc_api_Stay_api_Stay_ok (N:Nat) (s:List TStay) (cap0:TStay) (r:Bool) (h:g_slices_ContainsFunc_api_Stay_api_Stay N s cap0=some r):Sound Try.prog 55 [(encL TStay.cells TStay.d s),(.fn (.func 56) [] [(.op 0 0 0)])] [(0,vO 3 (TStay.cells cap0))] 1 (aB r) [(0,vO 3 (TStay.cells cap0))]:=by
 unfold g_slices_ContainsFunc_api_Stay_api_Stay at h
 refine Sound.of_runs (fu:=Try.f55) (c:=C_105 1) (nt:=9) (by kernel_rfl) (by kernel_rfl) (by kernel_rfl) (by kernel_rfl) (fun hm=>absurd hm (by decide)) ?_
 intro E hE
 refine Runs.sA 1 [.code (C_105 2),.code (C_105 3)] ?_
 refine Runs.sR hE ⟨[(0,(encL TStay.cells TStay.d s)),(1,(.fn (.func 56) [] [(.op 0 0 0)]))],[(0,vO 3 (TStay.cells cap0))],17⟩ (C_105 2) [] [] (kp [0,1]) (kq [0]) 17 [] trivial ?_
 refine Runs.sA 1 [.code (C_105 6),.code (C_105 7)] ?_
 obtain ⟨rStay,hr,h⟩:=bindSome h
 refine Runs.sR hE ⟨[(4,(aB (decide (rStay≥0))))],[(0,vO 3 (TStay.cells cap0))],97⟩ (C_105 6) [(2,⟨[0],true,(aI rStay),[],0,false,none⟩)] [] (kp [4]) (kq [0]) 97 [Sound Try.prog 80 [(encL TStay.cells TStay.d s),(.fn (.func 56) [] [(.op 0 0 0)])] [(0,vO 3 (TStay.cells cap0))] 1 (aI rStay) [(0,vO 3 (TStay.cells cap0))]] ⟨(g_slices_IndexFunc_api_Stay_api_Stay_ok N s cap0 rStay hr),trivial⟩ ?_
 obtain rfl:=Option.some.inj h
 refine Runs.sW hE ⟨[(4,(aB (decide (rStay≥0))))],[(0,vO 3 (TStay.cells cap0))],97⟩ [] (kp [4]) (kq [0]) 97 [] trivial ?_
 exact Runs.sT Try.f55 [] [] trivial
noncomputable def C_109 (n:Nat):Code:=cat (bodyOf Try.f81) (pth n)
theorem g_slices_Index_int_int_L1_ok (N:Nat) (s:List Int) (v:Int) (fuel:Nat):∀ (x:Int) (r:Int),g_slices_Index_int_int_L1 N s v fuel x=some r→∀ E,EnvOk E 0→Runs Try.prog E 81 19 (SPost E [] (aI r)) [.code (C_109 52),.inLoop (C_109 52),.inBlock 0,.code (C_109 7)] ⟨[(0,(encL cI 0 s)),(1,(aI v)),(7,(aI ((s.length:Nat):Int))),(8,(aI x))],[],0⟩:=by
 induction fuel with
 | zero=>intro _ r h;rw [g_slices_Index_int_int_L1.eq_1] at h;cases h
 | succ fuel ih =>
  intro x r h E hE
  rw [g_slices_Index_int_int_L1.eq_2] at h
  refine Runs.sA 1 [.code (C_109 104),.code (C_109 105),.inLoop (C_109 52),.inBlock 0,.code (C_109 7)] ?_
  refine Runs.sR hE ⟨[(0,(encL cI 0 s)),(1,(aI v)),(7,(aI ((s.length:Nat):Int))),(8,(aI x)),(9,(aB (decide (x < ((s.length:Nat):Int)))))],[],16⟩ (C_109 104) [] [] (kp [0,1,7,8,9]) [] 16 [] trivial ?_
  refine Runs.sA 1 [.code (C_109 210),.code (C_109 211),.inLoop (C_109 52),.inBlock 0,.code (C_109 7)] ?_
  refine Runs.sC 9 (C_109 420) (C_109 421) (decide (x < ((s.length:Nat):Int))) (fun hq2=>?_) (fun hq2=>?_)
  ·have h:=condT h hq2
   refine Runs.sA 4 [.code (C_109 1688),.code (C_109 1689),.inBlock 1,.code (C_109 423),.inLoop (C_109 52),.inBlock 0,.code (C_109 7)] ?_
   refine Runs.sR hE ⟨[(0,(encL cI 0 s)),(1,(aI v)),(5,(aI x)),(7,(aI ((s.length:Nat):Int))),(8,(aI x))],[],48⟩ (C_109 1688) [] [] (kp [0,1,5,7,8]) [] 48 [] trivial ?_
   refine Runs.sA 1 [.code (C_109 3378),.code (C_109 3379),.inBlock 1,.code (C_109 423),.inLoop (C_109 52),.inBlock 0,.code (C_109 7)] ?_
   obtain ⟨c,h⟩:=ifSome h
   refine Runs.sR hE ⟨[(0,(encL cI 0 s)),(1,(aI v)),(5,(aI x)),(7,(aI ((s.length:Nat):Int))),(8,(aI x)),(16,(aB (v == (s.getD ((x).toNat) 0))))],[],144⟩ (C_109 3378) [] [] (kp [0,1,5,7,8,16]) [] 144 [0≤x∧x < ((s.length:Nat):Int)] ⟨c,trivial⟩ ?_
   refine Runs.sC 16 (C_109 6758) (C_109 6759) (v == (s.getD ((x).toNat) 0)) (fun hq3=>?_) (fun hq3=>?_)
   ·have h:=condT h hq3
    refine Runs.sA 1 [.code (C_109 13516),.code (C_109 13517),.inBlock 1,.code (C_109 423),.inLoop (C_109 52),.inBlock 0,.code (C_109 7)] ?_
    refine Runs.sR hE ⟨[(4,(aI x))],[],176⟩ (C_109 13516) [] [] (kp [4]) [] 176 [] trivial ?_
    obtain rfl:=Option.some.inj h
    refine Runs.sW hE ⟨[(4,(aI x))],[],176⟩ [] (kp [4]) [] 176 [] trivial ?_
    exact Runs.sT Try.f81 [] [] trivial
   ·have h:=condF h hq3
    refine Runs.sA 2 [.code (C_109 423),.inLoop (C_109 52),.inBlock 0,.code (C_109 7)] ?_
    refine Runs.sR hE ⟨[(0,(encL cI 0 s)),(1,(aI v)),(7,(aI ((s.length:Nat):Int))),(8,(aI (w64 (x+1))))],[],176⟩ (C_109 423) [] [] (kp [0,1,7,8]) [] 176 [] trivial ?_
    refine Runs.sA 1 [.code (C_109 52),.inLoop (C_109 52),.inBlock 0,.code (C_109 7)] ?_
    exact Runs.sW hE _ [] (kp [0,1,7,8]) [] 0 [] trivial (ih (w64 (x+1)) _ h E hE)
  ·have h:=condF h hq2
   refine Runs.sA 2 [.code (C_109 14),.code (C_109 15)] ?_
   refine Runs.sR hE ⟨[(4,(aI (-1)))],[],32⟩ (C_109 14) [] [] (kp [4]) [] 32 [] trivial ?_
   obtain rfl:=Option.some.inj h
   refine Runs.sW hE ⟨[(4,(aI (-1)))],[],48⟩ [] (kp [4]) [] 48 [] trivial ?_
   exact Runs.sT Try.f81 [] [] trivial
theorem g_slices_Index_int_int_ok (N:Nat) (s:List Int) (v:Int) (r:Int) (h:g_slices_Index_int_int N s v=some r):Sound Try.prog 81 [(encL cI 0 s),(aI v)] [] 0 (aI r) []:=by
 unfold g_slices_Index_int_int at h
 refine Sound.of_runs (fu:=Try.f81) (c:=C_109 1) (nt:=19) (by kernel_rfl) (by kernel_rfl) (by kernel_rfl) (by kernel_rfl) (fun hm=>rfl) ?_
 intro E hE
 refine Runs.sA 1 [.code (C_109 2),.code (C_109 3)] ?_
 refine Runs.sR hE ⟨[(0,(encL cI 0 s)),(1,(aI v))],[],16⟩ (C_109 2) [] [] (kp [0,1]) [] 16 [] trivial ?_
 refine Runs.sA 2 [.code (C_109 12),.code (C_109 13),.code (C_109 7)] ?_
 refine Runs.sR hE ⟨[(0,(encL cI 0 s)),(1,(aI v)),(7,(aI ((s.length:Nat):Int))),(8,(aI 0))],[],64⟩ (C_109 12) [] [] (kp [0,1,7,8]) [] 64 [] trivial ?_
 refine Runs.sA 2 [.code (C_109 52),.inLoop (C_109 52),.inBlock 0,.code (C_109 7)] ?_
 exact Runs.sW hE _ [] (kp [0,1,7,8]) [] 0 [] trivial (g_slices_Index_int_int_L1_ok N s v N 0 _ h E hE)
noncomputable def C_108 (n:Nat):Code:=cat (bodyOf Try.f58) (pth n)
theorem g_slices_Contains_int_int_ok (N:Nat) (s:List Int) (v:Int) (r:Bool) (h:g_slices_Contains_int_int N s v=some r):Sound Try.prog 58 [(encL cI 0 s),(aI v)] [] 0 (aB r) []:=by
 unfold g_slices_Contains_int_int at h
 refine Sound.of_runs (fu:=Try.f58) (c:=C_108 1) (nt:=9) (by kernel_rfl) (by kernel_rfl) (by kernel_rfl) (by kernel_rfl) (fun hm=>rfl) ?_
 intro E hE
 refine Runs.sA 1 [.code (C_108 2),.code (C_108 3)] ?_
 refine Runs.sR hE ⟨[(0,(encL cI 0 s)),(1,(aI v))],[],16⟩ (C_108 2) [] [] (kp [0,1]) [] 16 [] trivial ?_
 refine Runs.sA 1 [.code (C_108 6),.code (C_108 7)] ?_
 obtain ⟨rIndex,hr,h⟩:=bindSome h
 refine Runs.sR hE ⟨[(4,(aB (decide (rIndex≥0))))],[],96⟩ (C_108 6) [(2,⟨[],true,(aI rIndex),[],0,false,none⟩)] [] (kp [4]) [] 96 [Sound Try.prog 81 [(encL cI 0 s),(aI v)] [] 0 (aI rIndex) []] ⟨(g_slices_Index_int_int_ok N s v rIndex hr),trivial⟩ ?_
 obtain rfl:=Option.some.inj h
 refine Runs.sW hE ⟨[(4,(aB (decide (rIndex≥0))))],[],96⟩ [] (kp [4]) [] 96 [] trivial ?_
 exact Runs.sT Try.f58 [] [] trivial
noncomputable def C_110 (n:Nat):Code:=cat (bodyOf Try.f59) (pth n)
theorem g_berth_overlap_ok (N:Nat) (y:TYard) (a:TStay) (b:TStay) (r:Bool) (h:g_berth_overlap N y a b=some r):Sound Try.prog 59 [(.agg (TYard.cells y)),(.agg (TStay.cells a)),(.agg (TStay.cells b))] [] 0 (aB r) []:=by
 unfold g_berth_overlap at h
 refine Sound.of_runs (fu:=Try.f59) (c:=C_110 1) (nt:=48) (by kernel_rfl) (by kernel_rfl) (by kernel_rfl) (by kernel_rfl) (fun hm=>rfl) ?_
 intro E hE
 refine Runs.sA 1 [.code (C_110 2),.code (C_110 3)] ?_
 refine Runs.sR hE ⟨[(3,(.op 0 0 0)),(4,(.op 16 0 0)),(5,(.op 32 0 0))],[(0,vO 4 (TYard.cells y)),(16,vO 3 (TStay.cells a)),(32,vO 3 (TStay.cells b))],64⟩ (C_110 2) [] [] (kp [3,4,5]) (kq [0,16,32]) 64 [] trivial ?_
 refine Runs.sA 1 [.code (C_110 6),.code (C_110 7)] ?_
 obtain ⟨rcalled,hr,h⟩:=bindSome h
 obtain ⟨c,h⟩:=ifSome h
 obtain ⟨rcalled2,hr2,h⟩:=bindSome h
 obtain ⟨c2,h⟩:=ifSome h
 refine Runs.sR hE ⟨[(6,(aB (cond (cond (streq a.f_Dock b.f_Dock) (decide (a.f_Day < (w64 (b.f_Day+(y.f_Calls.getD ((rcalled).toNat) TCall.d).f_Work)))) false) (decide (b.f_Day < (w64 (a.f_Day+(y.f_Calls.getD ((rcalled2).toNat) TCall.d).f_Work)))) false)))],[],736⟩ (C_110 6) [(16,⟨[],true,(aI rcalled),[],0,false,none⟩),(34,⟨[],true,(aI rcalled2),[],0,false,none⟩)] [] (kp [6]) [] 736 [0 < 1,0 < 1,(streq a.f_Dock b.f_Dock)=true→AllP [(streq a.f_Dock b.f_Dock)=true,0 < 1],(streq a.f_Dock b.f_Dock)=true→AllP [(streq a.f_Dock b.f_Dock)=true,0 < 1],(streq a.f_Dock b.f_Dock)=true→AllP [(streq a.f_Dock b.f_Dock)=true,0 < 1],(streq a.f_Dock b.f_Dock)=true→AllP [(streq a.f_Dock b.f_Dock)=true,0 < 1],(streq a.f_Dock b.f_Dock)=true→AllP [(streq a.f_Dock b.f_Dock)=true,0 < 1],(streq a.f_Dock b.f_Dock)=true→AllP [Sound Try.prog 51 [(encL TCall.cells TCall.d y.f_Calls),(aS b.f_Call)] [] 0 (aI rcalled) [],(streq a.f_Dock b.f_Dock)=true,(streq a.f_Dock b.f_Dock)=true],(streq a.f_Dock b.f_Dock)=true→AllP [(streq a.f_Dock b.f_Dock)=true,(streq a.f_Dock b.f_Dock)=true,0≤rcalled∧rcalled < ((y.f_Calls.length:Nat):Int)],(streq a.f_Dock b.f_Dock)=true→AllP [(streq a.f_Dock b.f_Dock)=true],(streq a.f_Dock b.f_Dock)=true→AllP [(streq a.f_Dock b.f_Dock)=true],(streq a.f_Dock b.f_Dock)=true→AllP [(streq a.f_Dock b.f_Dock)=true,(streq a.f_Dock b.f_Dock)=true],(streq a.f_Dock b.f_Dock)=true→AllP [(streq a.f_Dock b.f_Dock)=true,(streq a.f_Dock b.f_Dock)=true],(streq a.f_Dock b.f_Dock)=true→AllP [(streq a.f_Dock b.f_Dock)=true],(cond (streq a.f_Dock b.f_Dock) (decide (a.f_Day < (w64 (b.f_Day+(y.f_Calls.getD ((rcalled).toNat) TCall.d).f_Work)))) false)=true→AllP [(cond (streq a.f_Dock b.f_Dock) (decide (a.f_Day < (w64 (b.f_Day+(y.f_Calls.getD ((rcalled).toNat) TCall.d).f_Work)))) false)=true,0 < 1],(cond (streq a.f_Dock b.f_Dock) (decide (a.f_Day < (w64 (b.f_Day+(y.f_Calls.getD ((rcalled).toNat) TCall.d).f_Work)))) false)=true→AllP [(cond (streq a.f_Dock b.f_Dock) (decide (a.f_Day < (w64 (b.f_Day+(y.f_Calls.getD ((rcalled).toNat) TCall.d).f_Work)))) false)=true,0 < 1],(cond (streq a.f_Dock b.f_Dock) (decide (a.f_Day < (w64 (b.f_Day+(y.f_Calls.getD ((rcalled).toNat) TCall.d).f_Work)))) false)=true→AllP [(cond (streq a.f_Dock b.f_Dock) (decide (a.f_Day < (w64 (b.f_Day+(y.f_Calls.getD ((rcalled).toNat) TCall.d).f_Work)))) false)=true,0 < 1],(cond (streq a.f_Dock b.f_Dock) (decide (a.f_Day < (w64 (b.f_Day+(y.f_Calls.getD ((rcalled).toNat) TCall.d).f_Work)))) false)=true→AllP [(cond (streq a.f_Dock b.f_Dock) (decide (a.f_Day < (w64 (b.f_Day+(y.f_Calls.getD ((rcalled).toNat) TCall.d).f_Work)))) false)=true,0 < 1],(cond (streq a.f_Dock b.f_Dock) (decide (a.f_Day < (w64 (b.f_Day+(y.f_Calls.getD ((rcalled).toNat) TCall.d).f_Work)))) false)=true→AllP [(cond (streq a.f_Dock b.f_Dock) (decide (a.f_Day < (w64 (b.f_Day+(y.f_Calls.getD ((rcalled).toNat) TCall.d).f_Work)))) false)=true,0 < 1],(cond (streq a.f_Dock b.f_Dock) (decide (a.f_Day < (w64 (b.f_Day+(y.f_Calls.getD ((rcalled).toNat) TCall.d).f_Work)))) false)=true→AllP [Sound Try.prog 51 [(encL TCall.cells TCall.d y.f_Calls),(aS a.f_Call)] [] 0 (aI rcalled2) [],(cond (streq a.f_Dock b.f_Dock) (decide (a.f_Day < (w64 (b.f_Day+(y.f_Calls.getD ((rcalled).toNat) TCall.d).f_Work)))) false)=true,(cond (streq a.f_Dock b.f_Dock) (decide (a.f_Day < (w64 (b.f_Day+(y.f_Calls.getD ((rcalled).toNat) TCall.d).f_Work)))) false)=true],(cond (streq a.f_Dock b.f_Dock) (decide (a.f_Day < (w64 (b.f_Day+(y.f_Calls.getD ((rcalled).toNat) TCall.d).f_Work)))) false)=true→AllP [(cond (streq a.f_Dock b.f_Dock) (decide (a.f_Day < (w64 (b.f_Day+(y.f_Calls.getD ((rcalled).toNat) TCall.d).f_Work)))) false)=true,(cond (streq a.f_Dock b.f_Dock) (decide (a.f_Day < (w64 (b.f_Day+(y.f_Calls.getD ((rcalled).toNat) TCall.d).f_Work)))) false)=true,0≤rcalled2∧rcalled2 < ((y.f_Calls.length:Nat):Int)],(cond (streq a.f_Dock b.f_Dock) (decide (a.f_Day < (w64 (b.f_Day+(y.f_Calls.getD ((rcalled).toNat) TCall.d).f_Work)))) false)=true→AllP [(cond (streq a.f_Dock b.f_Dock) (decide (a.f_Day < (w64 (b.f_Day+(y.f_Calls.getD ((rcalled).toNat) TCall.d).f_Work)))) false)=true],(cond (streq a.f_Dock b.f_Dock) (decide (a.f_Day < (w64 (b.f_Day+(y.f_Calls.getD ((rcalled).toNat) TCall.d).f_Work)))) false)=true→AllP [(cond (streq a.f_Dock b.f_Dock) (decide (a.f_Day < (w64 (b.f_Day+(y.f_Calls.getD ((rcalled).toNat) TCall.d).f_Work)))) false)=true],(cond (streq a.f_Dock b.f_Dock) (decide (a.f_Day < (w64 (b.f_Day+(y.f_Calls.getD ((rcalled).toNat) TCall.d).f_Work)))) false)=true→AllP [(cond (streq a.f_Dock b.f_Dock) (decide (a.f_Day < (w64 (b.f_Day+(y.f_Calls.getD ((rcalled).toNat) TCall.d).f_Work)))) false)=true,(cond (streq a.f_Dock b.f_Dock) (decide (a.f_Day < (w64 (b.f_Day+(y.f_Calls.getD ((rcalled).toNat) TCall.d).f_Work)))) false)=true],(cond (streq a.f_Dock b.f_Dock) (decide (a.f_Day < (w64 (b.f_Day+(y.f_Calls.getD ((rcalled).toNat) TCall.d).f_Work)))) false)=true→AllP [(cond (streq a.f_Dock b.f_Dock) (decide (a.f_Day < (w64 (b.f_Day+(y.f_Calls.getD ((rcalled).toNat) TCall.d).f_Work)))) false)=true,(cond (streq a.f_Dock b.f_Dock) (decide (a.f_Day < (w64 (b.f_Day+(y.f_Calls.getD ((rcalled).toNat) TCall.d).f_Work)))) false)=true],(cond (streq a.f_Dock b.f_Dock) (decide (a.f_Day < (w64 (b.f_Day+(y.f_Calls.getD ((rcalled).toNat) TCall.d).f_Work)))) false)=true→AllP [(cond (streq a.f_Dock b.f_Dock) (decide (a.f_Day < (w64 (b.f_Day+(y.f_Calls.getD ((rcalled).toNat) TCall.d).f_Work)))) false)=true]] ⟨o1,o1,(fun hg=>⟨hg,o1,trivial⟩),(fun hg=>⟨hg,o1,trivial⟩),(fun hg=>⟨hg,o1,trivial⟩),(fun hg=>⟨hg,o1,trivial⟩),(fun hg=>⟨hg,o1,trivial⟩),(fun hg=>⟨(g_berth_called_ok N y.f_Calls b.f_Call rcalled (condT hr hg)),hg,hg,trivial⟩),(fun hg=>⟨hg,hg,(c hg),trivial⟩),(fun hg=>⟨hg,trivial⟩),(fun hg=>⟨hg,trivial⟩),(fun hg=>⟨hg,hg,trivial⟩),(fun hg=>⟨hg,hg,trivial⟩),(fun hq=>⟨hq,trivial⟩),(fun hg=>⟨hg,o1,trivial⟩),(fun hg=>⟨hg,o1,trivial⟩),(fun hg=>⟨hg,o1,trivial⟩),(fun hg=>⟨hg,o1,trivial⟩),(fun hg=>⟨hg,o1,trivial⟩),(fun hg=>⟨(g_berth_called_ok N y.f_Calls a.f_Call rcalled2 (condT hr2 hg)),hg,hg,trivial⟩),(fun hg=>⟨hg,hg,(c2 hg),trivial⟩),(fun hg=>⟨hg,trivial⟩),(fun hg=>⟨hg,trivial⟩),(fun hg=>⟨hg,hg,trivial⟩),(fun hg=>⟨hg,hg,trivial⟩),(fun hq=>⟨hq,trivial⟩),trivial⟩ ?_
 obtain rfl:=Option.some.inj h
 refine Runs.sW hE ⟨[(6,(aB (cond (cond (streq a.f_Dock b.f_Dock) (decide (a.f_Day < (w64 (b.f_Day+(y.f_Calls.getD ((rcalled).toNat) TCall.d).f_Work)))) false) (decide (b.f_Day < (w64 (a.f_Day+(y.f_Calls.getD ((rcalled2).toNat) TCall.d).f_Work)))) false)))],[],736⟩ [] (kp [6]) [] 736 [] trivial ?_
 exact Runs.sT Try.f59 [] [] trivial
noncomputable def C_98 (n:Nat):Code:=cat (bodyOf Try.f22) (pth n)
theorem g_berth_CheckStays_L3_ok (N:Nat) (y:TYard) (s:List TStay) (x2:Int) (K_g_berth_CheckStays_L2:Int→Option (Int))
  (hK_g_berth_CheckStays_L2:∀ (x2:Int) (r:Int),K_g_berth_CheckStays_L2 x2=some r→∀ E,EnvOk E 0→Runs Try.prog E 22 135 (SPost E [] (aI r)) [.code (C_98 500),.inLoop (C_98 500),.inBlock 3,.code (C_98 63)] ⟨[(1,(encL TStay.cells TStay.d s)),(2,(.op 0 0 0)),(114,(encL TStay.cells TStay.d s)),(115,(aI ((s.length:Nat):Int))),(116,(aI x2))],[(0,vO 4 (TYard.cells y))],1⟩) (fuel:Nat):∀ (x3:Int) (r:Int),g_berth_CheckStays_L3 N y s x2 K_g_berth_CheckStays_L2 fuel x3=some r→∀ E,EnvOk E 0→Runs Try.prog E 22 135 (SPost E [] (aI r)) [.code (C_98 128204),.inLoop (C_98 128204),.inBlock 5,.inBlock 4,.code (C_98 4007),.inLoop (C_98 500),.inBlock 3,.code (C_98 63)] ⟨[(1,(encL TStay.cells TStay.d s)),(2,(.op 0 0 0)),(14,(.op 1 0 0)),(114,(encL TStay.cells TStay.d s)),(115,(aI ((s.length:Nat):Int))),(116,(aI x2)),(123,(encL TStay.cells TStay.d ((s.take ((x2).toNat)).drop 0))),(124,(aI (((x2).toNat - 0:Nat):Int))),(125,(aI x3))],[(0,vO 4 (TYard.cells y)),(1,vO 3 (TStay.cells (s.getD ((x2).toNat) TStay.d)))],2⟩:=by
 induction fuel with
 | zero=>intro _ r h;rw [g_berth_CheckStays_L3.eq_1] at h;cases h
 | succ fuel ih =>
  intro x3 r h E hE
  rw [g_berth_CheckStays_L3.eq_2] at h
  refine Runs.sA 1 [.code (C_98 256408),.code (C_98 256409),.inLoop (C_98 128204),.inBlock 5,.inBlock 4,.code (C_98 4007),.inLoop (C_98 500),.inBlock 3,.code (C_98 63)] ?_
  refine Runs.sR hE ⟨[(1,(encL TStay.cells TStay.d s)),(2,(.op 0 0 0)),(14,(.op 1 0 0)),(114,(encL TStay.cells TStay.d s)),(115,(aI ((s.length:Nat):Int))),(116,(aI x2)),(123,(encL TStay.cells TStay.d ((s.take ((x2).toNat)).drop 0))),(124,(aI (((x2).toNat - 0:Nat):Int))),(125,(aI x3)),(126,(aB (decide (x3 < (((x2).toNat - 0:Nat):Int)))))],[(0,vO 4 (TYard.cells y)),(1,vO 3 (TStay.cells (s.getD ((x2).toNat) TStay.d)))],18⟩ (C_98 256408) [] [] (kp [1,2,14,114,115,116,123,124,125,126]) (kq [0,1]) 18 [] trivial ?_
  refine Runs.sA 1 [.code (C_98 512818),.code (C_98 512819),.inLoop (C_98 128204),.inBlock 5,.inBlock 4,.code (C_98 4007),.inLoop (C_98 500),.inBlock 3,.code (C_98 63)] ?_
  refine Runs.sC 126 (C_98 1025636) (C_98 1025637) (decide (x3 < (((x2).toNat - 0:Nat):Int))) (fun hq12=>?_) (fun hq12=>?_)
  ·have h:=condT h hq12
   refine Runs.sA 4 [.code (C_98 4102552),.code (C_98 4102553),.inBlock 6,.code (C_98 1025639),.inLoop (C_98 128204),.inBlock 5,.inBlock 4,.code (C_98 4007),.inLoop (C_98 500),.inBlock 3,.code (C_98 63)] ?_
   obtain ⟨c9,h⟩:=ifSome h
   refine Runs.sR hE ⟨[(1,(encL TStay.cells TStay.d s)),(2,(.op 0 0 0)),(14,(.op 1 0 0)),(16,(.op 50 0 0)),(114,(encL TStay.cells TStay.d s)),(115,(aI ((s.length:Nat):Int))),(116,(aI x2)),(123,(encL TStay.cells TStay.d ((s.take ((x2).toNat)).drop 0))),(124,(aI (((x2).toNat - 0:Nat):Int))),(125,(aI x3))],[(0,vO 4 (TYard.cells y)),(1,vO 3 (TStay.cells (s.getD ((x2).toNat) TStay.d))),(50,vO 3 (TStay.cells (((s.take ((x2).toNat)).drop 0).getD ((x3).toNat) TStay.d)))],82⟩ (C_98 4102552) [] [] (kp [1,2,14,16,114,115,116,123,124,125]) (kq [0,1,50]) 82 [0≤x3∧x3 < ((((s.take ((x2).toNat)).drop 0).length:Nat):Int),0 < 1] ⟨c9,o1,trivial⟩ ?_
   refine Runs.sA 1 [.code (C_98 8205106),.code (C_98 8205107),.inBlock 6,.code (C_98 1025639),.inLoop (C_98 128204),.inBlock 5,.inBlock 4,.code (C_98 4007),.inLoop (C_98 500),.inBlock 3,.code (C_98 63)] ?_
   obtain ⟨roverlap,hr9,h⟩:=bindSome h
   refine Runs.sR hE ⟨[(1,(encL TStay.cells TStay.d s)),(2,(.op 0 0 0)),(14,(.op 1 0 0)),(114,(encL TStay.cells TStay.d s)),(115,(aI ((s.length:Nat):Int))),(116,(aI x2)),(123,(encL TStay.cells TStay.d ((s.take ((x2).toNat)).drop 0))),(124,(aI (((x2).toNat - 0:Nat):Int))),(125,(aI x3)),(132,(aB roverlap))],[(0,vO 4 (TYard.cells y)),(1,vO 3 (TStay.cells (s.getD ((x2).toNat) TStay.d)))],146⟩ (C_98 8205106) [(3,⟨[],true,(aB roverlap),[],0,false,none⟩)] [] (kp [1,2,14,114,115,116,123,124,125,132]) (kq [0,1]) 146 [0 < 1,0 < 1,0 < 1,Sound Try.prog 59 [(.agg (TYard.cells y)),(.agg (TStay.cells (s.getD ((x2).toNat) TStay.d))),(.agg (TStay.cells (((s.take ((x2).toNat)).drop 0).getD ((x3).toNat) TStay.d)))] [] 0 (aB roverlap) []] ⟨o1,o1,o1,(g_berth_overlap_ok N y (s.getD ((x2).toNat) TStay.d) (((s.take ((x2).toNat)).drop 0).getD ((x3).toNat) TStay.d) roverlap hr9),trivial⟩ ?_
   refine Runs.sC 132 (C_98 16410214) (C_98 16410215) roverlap (fun hq13=>?_) (fun hq13=>?_)
   ·have h:=condT h hq13
    refine Runs.sA 1 [.code (C_98 32820428),.code (C_98 32820429),.inBlock 6,.code (C_98 1025639),.inLoop (C_98 128204),.inBlock 5,.inBlock 4,.code (C_98 4007),.inLoop (C_98 500),.inBlock 3,.code (C_98 63)] ?_
    refine Runs.sR hE ⟨[(4,(aI 17))],[],162⟩ (C_98 32820428) [] [] (kp [4]) [] 162 [] trivial ?_
    obtain rfl:=Option.some.inj h
    refine Runs.sW hE ⟨[(4,(aI 17))],[],162⟩ [] (kp [4]) [] 162 [] trivial ?_
    exact Runs.sT Try.f22 [] [] trivial
   ·have h:=condF h hq13
    refine Runs.sA 2 [.code (C_98 1025639),.inLoop (C_98 128204),.inBlock 5,.inBlock 4,.code (C_98 4007),.inLoop (C_98 500),.inBlock 3,.code (C_98 63)] ?_
    refine Runs.sR hE ⟨[(1,(encL TStay.cells TStay.d s)),(2,(.op 0 0 0)),(14,(.op 1 0 0)),(114,(encL TStay.cells TStay.d s)),(115,(aI ((s.length:Nat):Int))),(116,(aI x2)),(123,(encL TStay.cells TStay.d ((s.take ((x2).toNat)).drop 0))),(124,(aI (((x2).toNat - 0:Nat):Int))),(125,(aI (w64 (x3+1))))],[(0,vO 4 (TYard.cells y)),(1,vO 3 (TStay.cells (s.getD ((x2).toNat) TStay.d)))],178⟩ (C_98 1025639) [] [] (kp [1,2,14,114,115,116,123,124,125]) (kq [0,1]) 178 [] trivial ?_
    refine Runs.sA 1 [.code (C_98 128204),.inLoop (C_98 128204),.inBlock 5,.inBlock 4,.code (C_98 4007),.inLoop (C_98 500),.inBlock 3,.code (C_98 63)] ?_
    exact Runs.sW hE _ [] (kp [1,2,14,114,115,116,123,124,125]) (kq [0,1]) 2 [] trivial (ih (w64 (x3+1)) _ h E hE)
  ·have h:=condF h hq12
   refine Runs.sA 2 [.code (C_98 4007),.inLoop (C_98 500),.inBlock 3,.code (C_98 63)] ?_
   refine Runs.sR hE ⟨[(1,(encL TStay.cells TStay.d s)),(2,(.op 0 0 0)),(114,(encL TStay.cells TStay.d s)),(115,(aI ((s.length:Nat):Int))),(116,(aI (w64 (x2+1))))],[(0,vO 4 (TYard.cells y))],50⟩ (C_98 4007) [] [] (kp [1,2,114,115,116]) (kq [0]) 50 [] trivial ?_
   refine Runs.sA 1 [.code (C_98 500),.inLoop (C_98 500),.inBlock 3,.code (C_98 63)] ?_
   exact Runs.sW hE _ [] (kp [1,2,114,115,116]) (kq [0]) 1 [] trivial (hK_g_berth_CheckStays_L2 (w64 (x2+1)) _ h E hE)
theorem g_berth_CheckStays_L2_ok (N:Nat) (y:TYard) (s:List TStay) (fuel:Nat):∀ (x2:Int) (r:Int),g_berth_CheckStays_L2 N y s fuel x2=some r→∀ E,EnvOk E 0→Runs Try.prog E 22 135 (SPost E [] (aI r)) [.code (C_98 500),.inLoop (C_98 500),.inBlock 3,.code (C_98 63)] ⟨[(1,(encL TStay.cells TStay.d s)),(2,(.op 0 0 0)),(114,(encL TStay.cells TStay.d s)),(115,(aI ((s.length:Nat):Int))),(116,(aI x2))],[(0,vO 4 (TYard.cells y))],1⟩:=by
 induction fuel with
 | zero=>intro _ r h;rw [g_berth_CheckStays_L2.eq_1] at h;cases h
 | succ fuel ih =>
  intro x2 r h E hE
  rw [g_berth_CheckStays_L2.eq_2] at h
  refine Runs.sA 1 [.code (C_98 1000),.code (C_98 1001),.inLoop (C_98 500),.inBlock 3,.code (C_98 63)] ?_
  refine Runs.sR hE ⟨[(1,(encL TStay.cells TStay.d s)),(2,(.op 0 0 0)),(114,(encL TStay.cells TStay.d s)),(115,(aI ((s.length:Nat):Int))),(116,(aI x2)),(117,(aB (decide (x2 < ((s.length:Nat):Int)))))],[(0,vO 4 (TYard.cells y))],17⟩ (C_98 1000) [] [] (kp [1,2,114,115,116,117]) (kq [0]) 17 [] trivial ?_
  refine Runs.sA 1 [.code (C_98 2002),.code (C_98 2003),.inLoop (C_98 500),.inBlock 3,.code (C_98 63)] ?_
  refine Runs.sC 117 (C_98 4004) (C_98 4005) (decide (x2 < ((s.length:Nat):Int))) (fun hq11=>?_) (fun hq11=>?_)
  ·have h:=condT h hq11
   refine Runs.sA 4 [.code (C_98 16024),.code (C_98 16025),.inBlock 4,.code (C_98 4007),.inLoop (C_98 500),.inBlock 3,.code (C_98 63)] ?_
   obtain ⟨c6,h⟩:=ifSome h
   refine Runs.sR hE ⟨[(1,(encL TStay.cells TStay.d s)),(2,(.op 0 0 0)),(13,(aI x2)),(14,(.op 65 0 0)),(114,(encL TStay.cells TStay.d s)),(115,(aI ((s.length:Nat):Int))),(116,(aI x2))],[(0,vO 4 (TYard.cells y)),(65,vO 3 (TStay.cells (s.getD ((x2).toNat) TStay.d)))],113⟩ (C_98 16024) [] [] (kp [1,2,13,14,114,115,116]) (kq [0,65]) 113 [0≤x2∧x2 < ((s.length:Nat):Int),0 < 1] ⟨c6,o1,trivial⟩ ?_
   refine Runs.sA 1 [.code (C_98 32050),.code (C_98 32051),.inBlock 4,.code (C_98 4007),.inLoop (C_98 500),.inBlock 3,.code (C_98 63)] ?_
   obtain ⟨c7,h⟩:=ifSome h
   obtain ⟨c8,h⟩:=ifSome h
   refine Runs.sR hE ⟨[(1,(encL TStay.cells TStay.d s)),(2,(.op 0 0 0)),(14,(.op 65 0 0)),(114,(encL TStay.cells TStay.d s)),(115,(aI ((s.length:Nat):Int))),(116,(aI x2)),(123,(encL TStay.cells TStay.d ((s.take ((x2).toNat)).drop 0))),(124,(aI (((x2).toNat - 0:Nat):Int))),(125,(aI 0))],[(0,vO 4 (TYard.cells y)),(65,vO 3 (TStay.cells (s.getD ((x2).toNat) TStay.d)))],193⟩ (C_98 32050) [] [] (kp [1,2,14,114,115,116] ++ [(123,.sl (((s.take ((x2).toNat)).drop 0).length) (fun zi=>TStay.cells (((s.take ((x2).toNat)).drop 0).getD zi TStay.d)))] ++ kp [124,125]) (kq [0,65]) 193 [0≤(x2).toNat∧(x2).toNat≤s.length,0≤x2,(x2).toNat - 0=((s.take ((x2).toNat)).drop 0).length,∀ zi,zi < ((s.take ((x2).toNat)).drop 0).length→(fun zi=>TStay.cells (((s.take ((x2).toNat)).drop 0).getD zi TStay.d)) zi=(fun zi=>TStay.cells (s.getD (addz 0 zi) TStay.d)) zi] ⟨c7,c8,(len_ext' s 0 ((x2).toNat) c7),(fun zq hzq=>get_ext TStay.cells TStay.d s 0 ((x2).toNat) zq hzq),trivial⟩ ?_
   refine Runs.sA 2 [.code (C_98 128204),.inLoop (C_98 128204),.inBlock 5,.inBlock 4,.code (C_98 4007),.inLoop (C_98 500),.inBlock 3,.code (C_98 63)] ?_
   exact Runs.sW hE _ [] (kp [1,2,14,114,115,116,123,124,125]) (kq [0] ++ [(1,.keep 65)]) 2 [] trivial (g_berth_CheckStays_L3_ok N y s x2 (g_berth_CheckStays_L2 N y s fuel) ih N 0 _ h E hE)
  ·have h:=condF h hq11
   refine Runs.sA 2 [.code (C_98 126),.code (C_98 127)] ?_
   refine Runs.sR hE ⟨[(4,(aI 0))],[],33⟩ (C_98 126) [] [] (kp [4]) [] 33 [] trivial ?_
   obtain rfl:=Option.some.inj h
   refine Runs.sW hE ⟨[(4,(aI 0))],[],48⟩ [] (kp [4]) [] 48 [] trivial ?_
   exact Runs.sT Try.f22 [] [] trivial
theorem g_berth_CheckStays_L1_ok (N:Nat) (y:TYard) (s:List TStay) (fuel:Nat):∀ (x:Int) (r:Int),g_berth_CheckStays_L1 N y s fuel x=some r→∀ E,EnvOk E 0→Runs Try.prog E 22 135 (SPost E [] (aI r)) [.code (C_98 244),.inLoop (C_98 244),.inBlock 0,.code (C_98 31)] ⟨[(1,(encL TStay.cells TStay.d s)),(2,(.op 0 0 0)),(28,(encL TStay.cells TStay.d s)),(29,(aI ((s.length:Nat):Int))),(30,(aI x))],[(0,vO 4 (TYard.cells y))],1⟩:=by
 induction fuel with
 | zero=>intro _ r h;rw [g_berth_CheckStays_L1.eq_1] at h;cases h
 | succ fuel ih =>
  intro x r h E hE
  rw [g_berth_CheckStays_L1.eq_2] at h
  refine Runs.sA 1 [.code (C_98 488),.code (C_98 489),.inLoop (C_98 244),.inBlock 0,.code (C_98 31)] ?_
  refine Runs.sR hE ⟨[(1,(encL TStay.cells TStay.d s)),(2,(.op 0 0 0)),(28,(encL TStay.cells TStay.d s)),(29,(aI ((s.length:Nat):Int))),(30,(aI x)),(31,(aB (decide (x < ((s.length:Nat):Int)))))],[(0,vO 4 (TYard.cells y))],17⟩ (C_98 488) [] [] (kp [1,2,28,29,30,31]) (kq [0]) 17 [] trivial ?_
  refine Runs.sA 1 [.code (C_98 978),.code (C_98 979),.inLoop (C_98 244),.inBlock 0,.code (C_98 31)] ?_
  refine Runs.sC 31 (C_98 1956) (C_98 1957) (decide (x < ((s.length:Nat):Int))) (fun hq4=>?_) (fun hq4=>?_)
  ·have h:=condT h hq4
   refine Runs.sA 4 [.code (C_98 7832),.code (C_98 7833),.inBlock 1,.code (C_98 1959),.inLoop (C_98 244),.inBlock 0,.code (C_98 31)] ?_
   obtain ⟨c,h⟩:=ifSome h
   refine Runs.sR hE ⟨[(1,(encL TStay.cells TStay.d s)),(2,(.op 0 0 0)),(6,(aI x)),(7,(.op 65 0 0)),(28,(encL TStay.cells TStay.d s)),(29,(aI ((s.length:Nat):Int))),(30,(aI x))],[(0,vO 4 (TYard.cells y)),(65,vO 3 (TStay.cells (s.getD ((x).toNat) TStay.d)))],113⟩ (C_98 7832) [] [] (kp [1,2,6,7,28,29,30]) (kq [0,65]) 113 [0≤x∧x < ((s.length:Nat):Int),0 < 1] ⟨c,o1,trivial⟩ ?_
   refine Runs.sA 1 [.code (C_98 15666),.code (C_98 15667),.inBlock 1,.code (C_98 1959),.inLoop (C_98 244),.inBlock 0,.code (C_98 31)] ?_
   obtain ⟨rcalled,hr2,h⟩:=bindSome h
   refine Runs.sR hE ⟨[(1,(encL TStay.cells TStay.d s)),(2,(.op 0 0 0)),(6,(aI x)),(7,(.op 65 0 0)),(8,(aI rcalled)),(28,(encL TStay.cells TStay.d s)),(29,(aI ((s.length:Nat):Int))),(30,(aI x))],[(0,vO 4 (TYard.cells y)),(65,vO 3 (TStay.cells (s.getD ((x).toNat) TStay.d)))],209⟩ (C_98 15666) [(4,⟨[],true,(aI rcalled),[],0,false,none⟩)] [] (kp [1,2,6,7,8,28,29,30]) (kq [0,65]) 209 [0 < 1,0 < 1,Sound Try.prog 51 [(encL TCall.cells TCall.d y.f_Calls),(aS ((s.getD ((x).toNat) TStay.d).f_Call))] [] 0 (aI rcalled) []] ⟨o1,o1,(g_berth_called_ok N y.f_Calls ((s.getD ((x).toNat) TStay.d).f_Call) rcalled hr2),trivial⟩ ?_
   refine Runs.sA 1 [.code (C_98 31334),.code (C_98 31335),.inBlock 1,.code (C_98 1959),.inLoop (C_98 244),.inBlock 0,.code (C_98 31)] ?_
   obtain ⟨rDock,hr3,h⟩:=bindSome h
   refine Runs.sR hE ⟨[(1,(encL TStay.cells TStay.d s)),(2,(.op 0 0 0)),(6,(aI x)),(7,(.op 65 0 0)),(8,(aI rcalled)),(9,(aI rDock)),(28,(encL TStay.cells TStay.d s)),(29,(aI ((s.length:Nat):Int))),(30,(aI x))],[(0,vO 4 (TYard.cells y)),(65,vO 3 (TStay.cells (s.getD ((x).toNat) TStay.d)))],289⟩ (C_98 31334) [(3,⟨[65],true,(aI rDock),[],0,false,none⟩)] [] (kp [1,2,6,7,8,9,28,29,30]) (kq [0,65]) 289 [0 < 1,Sound Try.prog 53 [(encL TDock.cells TDock.d y.f_Docks),(.fn (.func 54) [] [(.op 0 0 0)])] [(0,vO 3 (TStay.cells (s.getD ((x).toNat) TStay.d)))] 1 (aI rDock) [(0,vO 3 (TStay.cells (s.getD ((x).toNat) TStay.d)))]] ⟨o1,(g_slices_IndexFunc_api_Dock_api_Dock_v2_ok N y.f_Docks (s.getD ((x).toNat) TStay.d) rDock hr3),trivial⟩ ?_
   refine Runs.sA 2 [.code (C_98 125340),.code (C_98 125341),.code (C_98 62671),.inBlock 1,.code (C_98 1959),.inLoop (C_98 244),.inBlock 0,.code (C_98 31)] ?_
   refine Runs.sR hE ⟨[(1,(encL TStay.cells TStay.d s)),(2,(.op 0 0 0)),(6,(aI x)),(7,(.op 65 0 0)),(8,(aI rcalled)),(9,(aI rDock)),(28,(encL TStay.cells TStay.d s)),(29,(aI ((s.length:Nat):Int))),(30,(aI x)),(49,(aB (cond (decide (rcalled < 0)) true (decide (rDock < 0)))))],[(0,vO 4 (TYard.cells y)),(65,vO 3 (TStay.cells (s.getD ((x).toNat) TStay.d)))],385⟩ (C_98 125340) [] [] (kp [1,2,6,7,8,9,28,29,30,49]) (kq [0,65]) 385 [(!(decide (rcalled < 0)))=true→AllP [(!(decide (rcalled < 0)))=true],(!(decide (rcalled < 0)))=true→AllP [(!(decide (rcalled < 0)))=true]] ⟨(fun hg=>⟨hg,trivial⟩),(fun hq=>⟨hq,trivial⟩),trivial⟩ ?_
   refine Runs.sC 49 (C_98 250682) (C_98 250683) (cond (decide (rcalled < 0)) true (decide (rDock < 0))) (fun hq5=>?_) (fun hq5=>?_)
   ·have h:=condT h hq5
    refine Runs.sA 1 [.code (C_98 501364),.code (C_98 501365),.code (C_98 62671),.inBlock 1,.code (C_98 1959),.inLoop (C_98 244),.inBlock 0,.code (C_98 31)] ?_
    refine Runs.sR hE ⟨[(4,(aI 6))],[],401⟩ (C_98 501364) [] [] (kp [4]) [] 401 [] trivial ?_
    obtain rfl:=Option.some.inj h
    refine Runs.sW hE ⟨[(4,(aI 6))],[],401⟩ [] (kp [4]) [] 401 [] trivial ?_
    exact Runs.sT Try.f22 [] [] trivial
   ·have h:=condF h hq5
    refine Runs.sA 2 [.code (C_98 125342),.code (C_98 125343),.inBlock 1,.code (C_98 1959),.inLoop (C_98 244),.inBlock 0,.code (C_98 31)] ?_
    obtain ⟨c2,h⟩:=ifSome h
    obtain ⟨c3,h⟩:=ifSome h
    refine Runs.sR hE ⟨[(1,(encL TStay.cells TStay.d s)),(2,(.op 0 0 0)),(6,(aI x)),(7,(.op 65 0 0)),(10,(.op 545 0 0)),(11,(.op 561 0 0)),(28,(encL TStay.cells TStay.d s)),(29,(aI ((s.length:Nat):Int))),(30,(aI x))],[(0,vO 4 (TYard.cells y)),(65,vO 3 (TStay.cells (s.getD ((x).toNat) TStay.d))),(545,vO 9 (TCall.cells (y.f_Calls.getD ((rcalled).toNat) TCall.d))),(561,vO 6 (TDock.cells (y.f_Docks.getD ((rDock).toNat) TDock.d)))],609⟩ (C_98 125342) [] [] (kp [1,2,6,7,10,11,28,29,30]) (kq [0,65,545,561]) 609 [0 < 1,0≤rcalled∧rcalled < ((y.f_Calls.length:Nat):Int),0 < 1,0≤rDock∧rDock < ((y.f_Docks.length:Nat):Int),0 < 1,0 < 1] ⟨o1,c2,o1,c3,o1,o1,trivial⟩ ?_
    refine Runs.sA 3 [.code (C_98 1002744),.code (C_98 1002745),.inBlock 2,.code (C_98 250687),.inBlock 1,.code (C_98 1959),.inLoop (C_98 244),.inBlock 0,.code (C_98 31)] ?_
    obtain ⟨c4,h⟩:=ifSome h
    obtain ⟨c5,h⟩:=ifSome h
    obtain ⟨rStay,hr4,h⟩:=bindSome h
    refine Runs.sR hE ⟨[(1,(encL TStay.cells TStay.d s)),(2,(.op 0 0 0)),(7,(.op 65 0 0)),(10,(.op 545 0 0)),(11,(.op 561 0 0)),(28,(encL TStay.cells TStay.d s)),(29,(aI ((s.length:Nat):Int))),(30,(aI x)),(60,(aB rStay))],[(0,vO 4 (TYard.cells y)),(65,vO 3 (TStay.cells (s.getD ((x).toNat) TStay.d))),(545,vO 9 (TCall.cells (y.f_Calls.getD ((rcalled).toNat) TCall.d))),(561,vO 6 (TDock.cells (y.f_Docks.getD ((rDock).toNat) TDock.d)))],705⟩ (C_98 1002744) [(4,⟨[65],true,(aB rStay),[],0,false,none⟩)] [] (kp [1,2,7,10,11,28,29,30,60]) (kq [0,65,545,561]) 705 [0≤(x).toNat∧(x).toNat≤s.length,0≤x,Sound Try.prog 55 [(.sl ((x).toNat - 0) (fun zi=>TStay.cells (s.getD (addz 0 zi) TStay.d))),(.fn (.func 56) [] [(.op 0 0 0)])] [(0,vO 3 (TStay.cells (s.getD ((x).toNat) TStay.d)))] 1 (aB rStay) [(0,vO 3 (TStay.cells (s.getD ((x).toNat) TStay.d)))]] ⟨c4,c5,(Sound.conv (g_slices_ContainsFunc_api_Stay_api_Stay_ok N ((s.take ((x).toNat)).drop 0) (s.getD ((x).toNat) TStay.d) rStay hr4) (.cons (Alike.sl (len_ext' s 0 ((x).toNat) c4) (fun zq hzq=>get_ext TStay.cells TStay.d s 0 ((x).toNat) zq hzq)) (.cons (Alike.refl _) .nil))),trivial⟩ ?_
    refine Runs.sC 60 (C_98 2005490) (C_98 2005491) rStay (fun hq6=>?_) (fun hq6=>?_)
    ·have h:=condT h hq6
     refine Runs.sA 1 [.code (C_98 4010980),.code (C_98 4010981),.inBlock 2,.code (C_98 250687),.inBlock 1,.code (C_98 1959),.inLoop (C_98 244),.inBlock 0,.code (C_98 31)] ?_
     refine Runs.sR hE ⟨[(4,(aI 5))],[],721⟩ (C_98 4010980) [] [] (kp [4]) [] 721 [] trivial ?_
     obtain rfl:=Option.some.inj h
     refine Runs.sW hE ⟨[(4,(aI 5))],[],721⟩ [] (kp [4]) [] 721 [] trivial ?_
     exact Runs.sT Try.f22 [] [] trivial
    ·have h:=condF h hq6
     refine Runs.sA 1 [.code (C_98 4010982),.code (C_98 4010983),.inBlock 2,.code (C_98 250687),.inBlock 1,.code (C_98 1959),.inLoop (C_98 244),.inBlock 0,.code (C_98 31)] ?_
     obtain ⟨rfits,hr5,h⟩:=bindSome h
     refine Runs.sR hE ⟨[(1,(encL TStay.cells TStay.d s)),(2,(.op 0 0 0)),(7,(.op 65 0 0)),(10,(.op 545 0 0)),(11,(.op 561 0 0)),(28,(encL TStay.cells TStay.d s)),(29,(aI ((s.length:Nat):Int))),(30,(aI x)),(66,(aB (!rfits)))],[(0,vO 4 (TYard.cells y)),(65,vO 3 (TStay.cells (s.getD ((x).toNat) TStay.d))),(545,vO 9 (TCall.cells (y.f_Calls.getD ((rcalled).toNat) TCall.d))),(561,vO 6 (TDock.cells (y.f_Docks.getD ((rDock).toNat) TDock.d)))],785⟩ (C_98 4010982) [(2,⟨[],true,(aB rfits),[],0,false,none⟩)] [] (kp [1,2,7,10,11,28,29,30,66]) (kq [0,65,545,561]) 785 [0 < 1,0 < 1,Sound Try.prog 57 [(.agg (TDock.cells (y.f_Docks.getD ((rDock).toNat) TDock.d))),(.agg (TCall.cells (y.f_Calls.getD ((rcalled).toNat) TCall.d)))] [] 0 (aB rfits) []] ⟨o1,o1,(g_berth_fits_ok N (y.f_Docks.getD ((rDock).toNat) TDock.d) (y.f_Calls.getD ((rcalled).toNat) TCall.d) rfits hr5),trivial⟩ ?_
     refine Runs.sC 66 (C_98 8021966) (C_98 8021967) (!rfits) (fun hq7=>?_) (fun hq7=>?_)
     ·have h:=condT h hq7
      refine Runs.sA 1 [.code (C_98 16043932),.code (C_98 16043933),.inBlock 2,.code (C_98 250687),.inBlock 1,.code (C_98 1959),.inLoop (C_98 244),.inBlock 0,.code (C_98 31)] ?_
      refine Runs.sR hE ⟨[(4,(aI 16))],[],801⟩ (C_98 16043932) [] [] (kp [4]) [] 801 [] trivial ?_
      obtain rfl:=Option.some.inj h
      refine Runs.sW hE ⟨[(4,(aI 16))],[],801⟩ [] (kp [4]) [] 801 [] trivial ?_
      exact Runs.sT Try.f22 [] [] trivial
     ·have h:=condF h hq7
      refine Runs.sA 1 [.code (C_98 16043934),.code (C_98 16043935),.inBlock 2,.code (C_98 250687),.inBlock 1,.code (C_98 1959),.inLoop (C_98 244),.inBlock 0,.code (C_98 31)] ?_
      refine Runs.sR hE ⟨[(1,(encL TStay.cells TStay.d s)),(2,(.op 0 0 0)),(7,(.op 65 0 0)),(10,(.op 545 0 0)),(11,(.op 561 0 0)),(28,(encL TStay.cells TStay.d s)),(29,(aI ((s.length:Nat):Int))),(30,(aI x)),(71,(aB (decide ((s.getD ((x).toNat) TStay.d).f_Day < (y.f_Calls.getD ((rcalled).toNat) TCall.d).f_Arrive))))],[(0,vO 4 (TYard.cells y)),(65,vO 3 (TStay.cells (s.getD ((x).toNat) TStay.d))),(545,vO 9 (TCall.cells (y.f_Calls.getD ((rcalled).toNat) TCall.d))),(561,vO 6 (TDock.cells (y.f_Docks.getD ((rDock).toNat) TDock.d)))],881⟩ (C_98 16043934) [] [] (kp [1,2,7,10,11,28,29,30,71]) (kq [0,65,545,561]) 881 [0 < 1,0 < 1] ⟨o1,o1,trivial⟩ ?_
      refine Runs.sC 71 (C_98 32087870) (C_98 32087871) (decide ((s.getD ((x).toNat) TStay.d).f_Day < (y.f_Calls.getD ((rcalled).toNat) TCall.d).f_Arrive)) (fun hq8=>?_) (fun hq8=>?_)
      ·have h:=condT h hq8
       refine Runs.sA 1 [.code (C_98 64175740),.code (C_98 64175741),.inBlock 2,.code (C_98 250687),.inBlock 1,.code (C_98 1959),.inLoop (C_98 244),.inBlock 0,.code (C_98 31)] ?_
       refine Runs.sR hE ⟨[(4,(aI 18))],[],897⟩ (C_98 64175740) [] [] (kp [4]) [] 897 [] trivial ?_
       obtain rfl:=Option.some.inj h
       refine Runs.sW hE ⟨[(4,(aI 18))],[],897⟩ [] (kp [4]) [] 897 [] trivial ?_
       exact Runs.sT Try.f22 [] [] trivial
      ·have h:=condF h hq8
       refine Runs.sA 1 [.code (C_98 64175742),.code (C_98 64175743),.inBlock 2,.code (C_98 250687),.inBlock 1,.code (C_98 1959),.inLoop (C_98 244),.inBlock 0,.code (C_98 31)] ?_
       refine Runs.sR hE ⟨[(1,(encL TStay.cells TStay.d s)),(2,(.op 0 0 0)),(7,(.op 65 0 0)),(10,(.op 545 0 0)),(11,(.op 561 0 0)),(28,(encL TStay.cells TStay.d s)),(29,(aI ((s.length:Nat):Int))),(30,(aI x)),(77,(aB (cond (decide ((s.getD ((x).toNat) TStay.d).f_Day > y.f_Last)) true (decide ((w64 ((s.getD ((x).toNat) TStay.d).f_Day+(y.f_Calls.getD ((rcalled).toNat) TCall.d).f_Work)) > y.f_Last)))))],[(0,vO 4 (TYard.cells y)),(65,vO 3 (TStay.cells (s.getD ((x).toNat) TStay.d))),(545,vO 9 (TCall.cells (y.f_Calls.getD ((rcalled).toNat) TCall.d))),(561,vO 6 (TDock.cells (y.f_Docks.getD ((rDock).toNat) TDock.d)))],1137⟩ (C_98 64175742) [] [] (kp [1,2,7,10,11,28,29,30,77]) (kq [0,65,545,561]) 1137 [0 < 1,0 < 1,(!(decide ((s.getD ((x).toNat) TStay.d).f_Day > y.f_Last)))=true→AllP [(!(decide ((s.getD ((x).toNat) TStay.d).f_Day > y.f_Last)))=true,0 < 1],(!(decide ((s.getD ((x).toNat) TStay.d).f_Day > y.f_Last)))=true→AllP [(!(decide ((s.getD ((x).toNat) TStay.d).f_Day > y.f_Last)))=true,0 < 1],(!(decide ((s.getD ((x).toNat) TStay.d).f_Day > y.f_Last)))=true→AllP [(!(decide ((s.getD ((x).toNat) TStay.d).f_Day > y.f_Last)))=true,(!(decide ((s.getD ((x).toNat) TStay.d).f_Day > y.f_Last)))=true],(!(decide ((s.getD ((x).toNat) TStay.d).f_Day > y.f_Last)))=true→AllP [(!(decide ((s.getD ((x).toNat) TStay.d).f_Day > y.f_Last)))=true,0 < 1],(!(decide ((s.getD ((x).toNat) TStay.d).f_Day > y.f_Last)))=true→AllP [(!(decide ((s.getD ((x).toNat) TStay.d).f_Day > y.f_Last)))=true,(!(decide ((s.getD ((x).toNat) TStay.d).f_Day > y.f_Last)))=true],(!(decide ((s.getD ((x).toNat) TStay.d).f_Day > y.f_Last)))=true→AllP [(!(decide ((s.getD ((x).toNat) TStay.d).f_Day > y.f_Last)))=true]] ⟨o1,o1,(fun hg=>⟨hg,o1,trivial⟩),(fun hg=>⟨hg,o1,trivial⟩),(fun hg=>⟨hg,hg,trivial⟩),(fun hg=>⟨hg,o1,trivial⟩),(fun hg=>⟨hg,hg,trivial⟩),(fun hq=>⟨hq,trivial⟩),trivial⟩ ?_
       refine Runs.sC 77 (C_98 128351486) (C_98 128351487) (cond (decide ((s.getD ((x).toNat) TStay.d).f_Day > y.f_Last)) true (decide ((w64 ((s.getD ((x).toNat) TStay.d).f_Day+(y.f_Calls.getD ((rcalled).toNat) TCall.d).f_Work)) > y.f_Last))) (fun hq9=>?_) (fun hq9=>?_)
       ·have h:=condT h hq9
        refine Runs.sA 1 [.code (C_98 256702972),.code (C_98 256702973),.inBlock 2,.code (C_98 250687),.inBlock 1,.code (C_98 1959),.inLoop (C_98 244),.inBlock 0,.code (C_98 31)] ?_
        refine Runs.sR hE ⟨[(4,(aI 2))],[],1153⟩ (C_98 256702972) [] [] (kp [4]) [] 1153 [] trivial ?_
        obtain rfl:=Option.some.inj h
        refine Runs.sW hE ⟨[(4,(aI 2))],[],1153⟩ [] (kp [4]) [] 1153 [] trivial ?_
        exact Runs.sT Try.f22 [] [] trivial
       ·have h:=condF h hq9
        refine Runs.sA 3 [.code (C_98 501374),.code (C_98 501375),.inBlock 1,.code (C_98 1959),.inLoop (C_98 244),.inBlock 0,.code (C_98 31)] ?_
        obtain ⟨rdays,hr6,h⟩:=bindSome h
        refine Runs.sR hE ⟨[(1,(encL TStay.cells TStay.d s)),(2,(.op 0 0 0)),(7,(.op 65 0 0)),(10,(.op 545 0 0)),(12,(encL cI 0 rdays)),(28,(encL TStay.cells TStay.d s)),(29,(aI ((s.length:Nat):Int))),(30,(aI x))],[(0,vO 4 (TYard.cells y)),(65,vO 3 (TStay.cells (s.getD ((x).toNat) TStay.d))),(545,vO 9 (TCall.cells (y.f_Calls.getD ((rcalled).toNat) TCall.d)))],1233⟩ (C_98 501374) [(4,⟨[],true,(encL cI 0 rdays),[],0,false,none⟩)] [] (kp [1,2,7,10,12,28,29,30]) (kq [0,65,545]) 1233 [0 < 1,0 < 1,0 < 1,Sound Try.prog 43 [(.agg (TDock.cells (y.f_Docks.getD ((rDock).toNat) TDock.d))),(.agg (TCall.cells (y.f_Calls.getD ((rcalled).toNat) TCall.d))),(encL TMark.cells TMark.d y.f_Sea)] [] 0 (encL cI 0 rdays) []] ⟨o1,o1,o1,(g_berth_days_ok N (y.f_Docks.getD ((rDock).toNat) TDock.d) (y.f_Calls.getD ((rcalled).toNat) TCall.d) y.f_Sea rdays hr6),trivial⟩ ?_
        refine Runs.sA 1 [.code (C_98 1002750),.code (C_98 1002751),.inBlock 1,.code (C_98 1959),.inLoop (C_98 244),.inBlock 0,.code (C_98 31)] ?_
        obtain ⟨rContains,hr7,h⟩:=bindSome h
        obtain ⟨rContains2,hr8,h⟩:=bindSome h
        refine Runs.sR hE ⟨[(1,(encL TStay.cells TStay.d s)),(2,(.op 0 0 0)),(28,(encL TStay.cells TStay.d s)),(29,(aI ((s.length:Nat):Int))),(30,(aI x)),(112,(aB (cond (!rContains) true (!rContains2))))],[(0,vO 4 (TYard.cells y))],1473⟩ (C_98 1002750) [(3,⟨[],true,(aB rContains),[],0,false,none⟩),(12,⟨[],true,(aB rContains2),[],0,false,none⟩)] [] (kp [1,2,28,29,30,112]) (kq [0]) 1473 [0 < 1,Sound Try.prog 58 [(encL cI 0 rdays),(aI ((s.getD ((x).toNat) TStay.d).f_Day))] [] 0 (aB rContains) [],(!(!rContains))=true→AllP [(!(!rContains))=true,0 < 1],(!(!rContains))=true→AllP [(!(!rContains))=true,0 < 1],(!(!rContains))=true→AllP [(!(!rContains))=true,(!(!rContains))=true],(!(!rContains))=true→AllP [Sound Try.prog 58 [(encL cI 0 rdays),(aI (w64 ((s.getD ((x).toNat) TStay.d).f_Day+(y.f_Calls.getD ((rcalled).toNat) TCall.d).f_Work)))] [] 0 (aB rContains2) [],(!(!rContains))=true,(!(!rContains))=true],(!(!rContains))=true→AllP [(!(!rContains))=true],(!(!rContains))=true→AllP [(!(!rContains))=true]] ⟨o1,(g_slices_Contains_int_int_ok N rdays ((s.getD ((x).toNat) TStay.d).f_Day) rContains hr7),(fun hg=>⟨hg,o1,trivial⟩),(fun hg=>⟨hg,o1,trivial⟩),(fun hg=>⟨hg,hg,trivial⟩),(fun hg=>⟨(g_slices_Contains_int_int_ok N rdays (w64 ((s.getD ((x).toNat) TStay.d).f_Day+(y.f_Calls.getD ((rcalled).toNat) TCall.d).f_Work)) rContains2 (condT hr8 hg)),hg,hg,trivial⟩),(fun hg=>⟨hg,trivial⟩),(fun hq=>⟨hq,trivial⟩),trivial⟩ ?_
        refine Runs.sC 112 (C_98 2005502) (C_98 2005503) (cond (!rContains) true (!rContains2)) (fun hq10=>?_) (fun hq10=>?_)
        ·have h:=condT h hq10
         refine Runs.sA 1 [.code (C_98 4011004),.code (C_98 4011005),.inBlock 1,.code (C_98 1959),.inLoop (C_98 244),.inBlock 0,.code (C_98 31)] ?_
         refine Runs.sR hE ⟨[(4,(aI 29))],[],1489⟩ (C_98 4011004) [] [] (kp [4]) [] 1489 [] trivial ?_
         obtain rfl:=Option.some.inj h
         refine Runs.sW hE ⟨[(4,(aI 29))],[],1489⟩ [] (kp [4]) [] 1489 [] trivial ?_
         exact Runs.sT Try.f22 [] [] trivial
        ·have h:=condF h hq10
         refine Runs.sA 2 [.code (C_98 1959),.inLoop (C_98 244),.inBlock 0,.code (C_98 31)] ?_
         refine Runs.sR hE ⟨[(1,(encL TStay.cells TStay.d s)),(2,(.op 0 0 0)),(28,(encL TStay.cells TStay.d s)),(29,(aI ((s.length:Nat):Int))),(30,(aI (w64 (x+1))))],[(0,vO 4 (TYard.cells y))],1505⟩ (C_98 1959) [] [] (kp [1,2,28,29,30]) (kq [0]) 1505 [] trivial ?_
         refine Runs.sA 1 [.code (C_98 244),.inLoop (C_98 244),.inBlock 0,.code (C_98 31)] ?_
         exact Runs.sW hE _ [] (kp [1,2,28,29,30]) (kq [0]) 1 [] trivial (ih (w64 (x+1)) _ h E hE)
  ·have h:=condF h hq4
   refine Runs.sA 3 [.code (C_98 124),.code (C_98 125),.code (C_98 63)] ?_
   refine Runs.sR hE ⟨[(1,(encL TStay.cells TStay.d s)),(2,(.op 0 0 0)),(114,(encL TStay.cells TStay.d s)),(115,(aI ((s.length:Nat):Int))),(116,(aI 0))],[(0,vO 4 (TYard.cells y))],65⟩ (C_98 124) [] [] (kp [1,2,114,115,116]) (kq [0]) 65 [] trivial ?_
   refine Runs.sA 2 [.code (C_98 500),.inLoop (C_98 500),.inBlock 3,.code (C_98 63)] ?_
   exact Runs.sW hE _ [] (kp [1,2,114,115,116]) (kq [0]) 1 [] trivial (g_berth_CheckStays_L2_ok N y s N 0 _ h E hE)
theorem g_berth_CheckStays_ok (N:Nat) (y:TYard) (s:List TStay) (r:Int) (h:g_berth_CheckStays N y s=some r):Sound Try.prog 22 [(.agg (TYard.cells y)),(encL TStay.cells TStay.d s)] [] 0 (aI r) []:=by
 unfold g_berth_CheckStays at h
 refine Sound.of_runs (fu:=Try.f22) (c:=C_98 1) (nt:=135) (by kernel_rfl) (by kernel_rfl) (by kernel_rfl) (by kernel_rfl) (fun hm=>rfl) ?_
 intro E hE
 refine Runs.sA 1 [.code (C_98 2),.code (C_98 3)] ?_
 refine Runs.sR hE ⟨[(1,(encL TStay.cells TStay.d s)),(2,(.op 0 0 0))],[(0,vO 4 (TYard.cells y))],32⟩ (C_98 2) [] [] (kp [1,2]) (kq [0]) 32 [] trivial ?_
 refine Runs.sA 2 [.code (C_98 12),.code (C_98 13),.code (C_98 7)] ?_
 obtain ⟨rcheckYard,hr,h⟩:=bindSome h
 refine Runs.sR hE ⟨[(1,(encL TStay.cells TStay.d s)),(2,(.op 0 0 0)),(5,(aI rcheckYard))],[(0,vO 4 (TYard.cells y))],80⟩ (C_98 12) [(1,⟨[],true,(aI rcheckYard),[],0,false,none⟩)] [] (kp [1,2,5]) (kq [0]) 80 [0 < 1,Sound Try.prog 52 [(.agg (TYard.cells y))] [] 0 (aI rcheckYard) []] ⟨o1,(g_berth_checkYard_ok N y rcheckYard hr),trivial⟩ ?_
 refine Runs.sA 1 [.code (C_98 26),.code (C_98 27),.code (C_98 7)] ?_
 refine Runs.sR hE ⟨[(1,(encL TStay.cells TStay.d s)),(2,(.op 0 0 0)),(5,(aI rcheckYard)),(20,(aB (rcheckYard != 0)))],[(0,vO 4 (TYard.cells y))],112⟩ (C_98 26) [] [] (kp [1,2,5,20]) (kq [0]) 112 [] trivial ?_
 refine Runs.sC 20 (C_98 54) (C_98 55) (rcheckYard != 0) (fun hq2=>?_) (fun hq2=>?_)
 ·have h:=condT h hq2
  refine Runs.sA 1 [.code (C_98 108),.code (C_98 109),.code (C_98 7)] ?_
  refine Runs.sR hE ⟨[(4,(aI rcheckYard))],[],144⟩ (C_98 108) [] [] (kp [4]) [] 144 [] trivial ?_
  obtain rfl:=Option.some.inj h
  refine Runs.sW hE ⟨[(4,(aI rcheckYard))],[],144⟩ [] (kp [4]) [] 144 [] trivial ?_
  exact Runs.sT Try.f22 [] [] trivial
 ·have h:=condF h hq2
  refine Runs.sA 3 [.code (C_98 28),.code (C_98 29),.code (C_98 15)] ?_
  refine Runs.sR hE ⟨[(1,(encL TStay.cells TStay.d s)),(2,(.op 0 0 0)),(27,(aB (((s.length:Nat):Int) != ((y.f_Calls.length:Nat):Int))))],[(0,vO 4 (TYard.cells y))],208⟩ (C_98 28) [] [] (kp [1,2,27]) (kq [0]) 208 [0 < 1] ⟨o1,trivial⟩ ?_
  refine Runs.sC 27 (C_98 58) (C_98 59) (((s.length:Nat):Int) != ((y.f_Calls.length:Nat):Int)) (fun hq3=>?_) (fun hq3=>?_)
  ·have h:=condT h hq3
   refine Runs.sA 1 [.code (C_98 116),.code (C_98 117),.code (C_98 15)] ?_
   refine Runs.sR hE ⟨[(4,(aI 11))],[],224⟩ (C_98 116) [] [] (kp [4]) [] 224 [] trivial ?_
   obtain rfl:=Option.some.inj h
   refine Runs.sW hE ⟨[(4,(aI 11))],[],224⟩ [] (kp [4]) [] 224 [] trivial ?_
   exact Runs.sT Try.f22 [] [] trivial
  ·have h:=condF h hq3
   refine Runs.sA 3 [.code (C_98 60),.code (C_98 61),.code (C_98 31)] ?_
   refine Runs.sR hE ⟨[(1,(encL TStay.cells TStay.d s)),(2,(.op 0 0 0)),(28,(encL TStay.cells TStay.d s)),(29,(aI ((s.length:Nat):Int))),(30,(aI 0))],[(0,vO 4 (TYard.cells y))],256⟩ (C_98 60) [] [] (kp [1,2,28,29,30]) (kq [0]) 256 [] trivial ?_
   refine Runs.sA 2 [.code (C_98 244),.inLoop (C_98 244),.inBlock 0,.code (C_98 31)] ?_
   exact Runs.sW hE _ [] (kp [1,2,28,29,30]) (kq [0]) 1 [] trivial (g_berth_CheckStays_L1_ok N y s N 0 _ h E hE)
noncomputable def C_111 (n:Nat):Code:=cat (bodyOf Try.f50) (pth n)
theorem g_berth_late_ok (N:Nat) (c:TCall) (day:Int) (r:Int) (h:g_berth_late N c day=some r):Sound Try.prog 50 [(.agg (TCall.cells c)),(aI day)] [] 0 (aI r) []:=by
 unfold g_berth_late at h
 refine Sound.of_runs (fu:=Try.f50) (c:=C_111 1) (nt:=16) (by kernel_rfl) (by kernel_rfl) (by kernel_rfl) (by kernel_rfl) (fun hm=>rfl) ?_
 intro E hE
 refine Runs.sA 1 [.code (C_111 2),.code (C_111 3)] ?_
 refine Runs.sR hE ⟨[(1,(aI day)),(2,(.op 0 0 0))],[(0,vO 9 (TCall.cells c))],32⟩ (C_111 2) [] [] (kp [1,2]) (kq [0]) 32 [] trivial ?_
 refine Runs.sA 1 [.code (C_111 6),.code (C_111 7)] ?_
 refine Runs.sR hE ⟨[(4,(aI (w64 (c.f_Late * (if (w64 ((w64 (day+c.f_Work)) - c.f_Due)) > 0 then (w64 ((w64 (day+c.f_Work)) - c.f_Due)) else 0)))))],[],224⟩ (C_111 6) [] [] (kp [4]) [] 224 [0 < 1,0 < 1,0 < 1] ⟨o1,o1,o1,trivial⟩ ?_
 obtain rfl:=Option.some.inj h
 refine Runs.sW hE ⟨[(4,(aI (w64 (c.f_Late * (if (w64 ((w64 (day+c.f_Work)) - c.f_Due)) > 0 then (w64 ((w64 (day+c.f_Work)) - c.f_Due)) else 0)))))],[],224⟩ [] (kp [4]) [] 224 [] trivial ?_
 exact Runs.sT Try.f50 [] [] trivial
noncomputable def C_97 (n:Nat):Code:=cat (bodyOf Try.f21) (pth n)
theorem g_berth_Cost_L1_ok (N:Nat) (y:TYard) (s:List TStay) (fuel:Nat):∀ (sum:Int) (x:Int) (r:Int×Int),g_berth_Cost_L1 N y s fuel sum x=some r→∀ E,EnvOk E 0→Runs Try.prog E 21 38 (SPost E [] (.tup [(aI r.1),(aI r.2)])) [.code (C_97 244),.inLoop (C_97 244),.inBlock 0,.code (C_97 31)] ⟨[(2,(.op 0 0 0)),(7,(aI sum)),(16,(encL TStay.cells TStay.d s)),(17,(aI ((s.length:Nat):Int))),(18,(aI x))],[(0,vO 4 (TYard.cells y))],1⟩:=by
 induction fuel with
 | zero=>intro _ _ r h;rw [g_berth_Cost_L1.eq_1] at h;cases h
 | succ fuel ih =>
  intro sum x r h E hE
  rw [g_berth_Cost_L1.eq_2] at h
  refine Runs.sA 1 [.code (C_97 488),.code (C_97 489),.inLoop (C_97 244),.inBlock 0,.code (C_97 31)] ?_
  refine Runs.sR hE ⟨[(2,(.op 0 0 0)),(7,(aI sum)),(16,(encL TStay.cells TStay.d s)),(17,(aI ((s.length:Nat):Int))),(18,(aI x)),(19,(aB (decide (x < ((s.length:Nat):Int)))))],[(0,vO 4 (TYard.cells y))],17⟩ (C_97 488) [] [] (kp [2,7,16,17,18,19]) (kq [0]) 17 [] trivial ?_
  refine Runs.sA 1 [.code (C_97 978),.code (C_97 979),.inLoop (C_97 244),.inBlock 0,.code (C_97 31)] ?_
  refine Runs.sC 19 (C_97 1956) (C_97 1957) (decide (x < ((s.length:Nat):Int))) (fun hq3=>?_) (fun hq3=>?_)
  ·have h:=condT h hq3
   refine Runs.sA 4 [.code (C_97 7832),.code (C_97 7833),.inBlock 1,.code (C_97 1959),.inLoop (C_97 244),.inBlock 0,.code (C_97 31)] ?_
   obtain ⟨c,h⟩:=ifSome h
   refine Runs.sR hE ⟨[(2,(.op 0 0 0)),(7,(aI sum)),(9,(.op 49 0 0)),(16,(encL TStay.cells TStay.d s)),(17,(aI ((s.length:Nat):Int))),(18,(aI x))],[(0,vO 4 (TYard.cells y)),(49,vO 3 (TStay.cells (s.getD ((x).toNat) TStay.d)))],81⟩ (C_97 7832) [] [] (kp [2,7,9,16,17,18]) (kq [0,49]) 81 [0≤x∧x < ((s.length:Nat):Int),0 < 1] ⟨c,o1,trivial⟩ ?_
   obtain ⟨rcalled,hr2,h⟩:=bindSome h
   obtain ⟨c2,h⟩:=ifSome h
   obtain ⟨rlate,hr3,h⟩:=bindSome h
   refine Runs.sR hE ⟨[(2,(.op 0 0 0)),(7,(aI (w64 (sum+rlate)))),(16,(encL TStay.cells TStay.d s)),(17,(aI ((s.length:Nat):Int))),(18,(aI x))],[(0,vO 4 (TYard.cells y))],321⟩ (C_97 7833) [(7,⟨[],true,(aI rcalled),[],0,false,none⟩),(12,⟨[],true,(aI rlate),[],0,false,none⟩)] [] (kp [2,7,16,17,18]) (kq [0]) 321 [0 < 1,0 < 1,0 < 1,Sound Try.prog 51 [(encL TCall.cells TCall.d y.f_Calls),(aS ((s.getD ((x).toNat) TStay.d).f_Call))] [] 0 (aI rcalled) [],0≤rcalled∧rcalled < ((y.f_Calls.length:Nat):Int),0 < 1,Sound Try.prog 50 [(.agg (TCall.cells (y.f_Calls.getD ((rcalled).toNat) TCall.d))),(aI ((s.getD ((x).toNat) TStay.d).f_Day))] [] 0 (aI rlate) []] ⟨o1,o1,o1,(g_berth_called_ok N y.f_Calls ((s.getD ((x).toNat) TStay.d).f_Call) rcalled hr2),c2,o1,(g_berth_late_ok N (y.f_Calls.getD ((rcalled).toNat) TCall.d) ((s.getD ((x).toNat) TStay.d).f_Day) rlate hr3),trivial⟩ ?_
   refine Runs.sA 1 [.code (C_97 1959),.inLoop (C_97 244),.inBlock 0,.code (C_97 31)] ?_
   refine Runs.sR hE ⟨[(2,(.op 0 0 0)),(7,(aI (w64 (sum+rlate)))),(16,(encL TStay.cells TStay.d s)),(17,(aI ((s.length:Nat):Int))),(18,(aI (w64 (x+1))))],[(0,vO 4 (TYard.cells y))],353⟩ (C_97 1959) [] [] (kp [2,7,16,17,18]) (kq [0]) 353 [] trivial ?_
   refine Runs.sA 1 [.code (C_97 244),.inLoop (C_97 244),.inBlock 0,.code (C_97 31)] ?_
   exact Runs.sW hE _ [] (kp [2,7,16,17,18]) (kq [0]) 1 [] trivial (ih (w64 (sum+rlate)) (w64 (x+1)) _ h E hE)
  ·have h:=condF h hq3
   refine Runs.sA 2 [.code (C_97 62),.code (C_97 63)] ?_
   refine Runs.sR hE ⟨[(4,(aI sum)),(5,(aI 0))],[],65⟩ (C_97 62) [] [] (kp [4,5]) [] 65 [] trivial ?_
   obtain rfl:=Option.some.inj h
   refine Runs.sW hE ⟨[(4,(aI sum)),(5,(aI 0))],[],65⟩ [] (kp [4,5]) [] 65 [] trivial ?_
   exact Runs.sT Try.f21 [] [] trivial
theorem g_berth_Cost_ok (N:Nat) (y:TYard) (s:List TStay) (r:Int×Int) (h:g_berth_Cost N y s=some r):Sound Try.prog 21 [(.agg (TYard.cells y)),(encL TStay.cells TStay.d s)] [] 0 (.tup [(aI r.1),(aI r.2)]) []:=by
 unfold g_berth_Cost at h
 refine Sound.of_runs (fu:=Try.f21) (c:=C_97 1) (nt:=38) (by kernel_rfl) (by kernel_rfl) (by kernel_rfl) (by kernel_rfl) (fun hm=>rfl) ?_
 intro E hE
 refine Runs.sA 1 [.code (C_97 2),.code (C_97 3)] ?_
 refine Runs.sR hE ⟨[(1,(encL TStay.cells TStay.d s)),(2,(.op 0 0 0))],[(0,vO 4 (TYard.cells y))],48⟩ (C_97 2) [] [] (kp [1,2]) (kq [0]) 48 [] trivial ?_
 refine Runs.sA 2 [.code (C_97 12),.code (C_97 13),.code (C_97 7)] ?_
 obtain ⟨rCheckStays,hr,h⟩:=bindSome h
 refine Runs.sR hE ⟨[(1,(encL TStay.cells TStay.d s)),(2,(.op 0 0 0)),(6,(aI rCheckStays))],[(0,vO 4 (TYard.cells y))],112⟩ (C_97 12) [(2,⟨[],true,(aI rCheckStays),[],0,false,none⟩)] [] (kp [1,2,6]) (kq [0]) 112 [0 < 1,Sound Try.prog 22 [(.agg (TYard.cells y)),(encL TStay.cells TStay.d s)] [] 0 (aI rCheckStays) []] ⟨o1,(g_berth_CheckStays_ok N y s rCheckStays hr),trivial⟩ ?_
 refine Runs.sA 1 [.code (C_97 26),.code (C_97 27),.code (C_97 7)] ?_
 refine Runs.sR hE ⟨[(1,(encL TStay.cells TStay.d s)),(2,(.op 0 0 0)),(6,(aI rCheckStays)),(14,(aB (rCheckStays != 0)))],[(0,vO 4 (TYard.cells y))],144⟩ (C_97 26) [] [] (kp [1,2,6,14]) (kq [0]) 144 [] trivial ?_
 refine Runs.sC 14 (C_97 54) (C_97 55) (rCheckStays != 0) (fun hq2=>?_) (fun hq2=>?_)
 ·have h:=condT h hq2
  refine Runs.sA 1 [.code (C_97 108),.code (C_97 109),.code (C_97 7)] ?_
  refine Runs.sR hE ⟨[(4,(aI 0)),(5,(aI rCheckStays))],[],192⟩ (C_97 108) [] [] (kp [4,5]) [] 192 [] trivial ?_
  obtain rfl:=Option.some.inj h
  refine Runs.sW hE ⟨[(4,(aI 0)),(5,(aI rCheckStays))],[],192⟩ [] (kp [4,5]) [] 192 [] trivial ?_
  exact Runs.sT Try.f21 [] [] trivial
 ·have h:=condF h hq2
  refine Runs.sA 2 [.code (C_97 14),.code (C_97 15)] ?_
  refine Runs.sR hE ⟨[(1,(encL TStay.cells TStay.d s)),(2,(.op 0 0 0)),(7,(aI 0))],[(0,vO 4 (TYard.cells y))],160⟩ (C_97 14) [] [] (kp [1,2,7]) (kq [0]) 160 [] trivial ?_
  refine Runs.sA 2 [.code (C_97 60),.code (C_97 61),.code (C_97 31)] ?_
  refine Runs.sR hE ⟨[(2,(.op 0 0 0)),(7,(aI 0)),(16,(encL TStay.cells TStay.d s)),(17,(aI ((s.length:Nat):Int))),(18,(aI 0))],[(0,vO 4 (TYard.cells y))],208⟩ (C_97 60) [] [] (kp [2,7,16,17,18]) (kq [0]) 208 [] trivial ?_
  refine Runs.sA 2 [.code (C_97 244),.inLoop (C_97 244),.inBlock 0,.code (C_97 31)] ?_
  exact Runs.sW hE _ [] (kp [2,7,16,17,18]) (kq [0]) 1 [] trivial (g_berth_Cost_L1_ok N y s N 0 0 _ h E hE)
noncomputable def C_113 (n:Nat):Code:=cat (bodyOf Try.f60) (pth n)
theorem g_r06_Price_ok (N:Nat) (y:TYard) (s:TStay) (r:Int) (h:g_r06_Price N y s=some r):Sound Try.prog 60 [(.agg (TYard.cells y)),(.agg (TStay.cells s))] [] 0 (aI r) []:=by
 unfold g_r06_Price at h
 refine Sound.of_runs (fu:=Try.f60) (c:=C_113 1) (nt:=27) (by kernel_rfl) (by kernel_rfl) (by kernel_rfl) (by kernel_rfl) (fun hm=>rfl) ?_
 intro E hE
 refine Runs.sA 1 [.code (C_113 2),.code (C_113 3)] ?_
 refine Runs.sR hE ⟨[(2,(.op 0 0 0)),(3,(.op 16 0 0))],[(0,vO 4 (TYard.cells y)),(16,vO 3 (TStay.cells s))],48⟩ (C_113 2) [] [] (kp [2,3]) (kq [0,16]) 48 [] trivial ?_
 refine Runs.sA 1 [.code (C_113 6),.code (C_113 7)] ?_
 obtain ⟨rCallOf,hr,h⟩:=bindSome h
 obtain ⟨c,h⟩:=ifSome h
 refine Runs.sR hE ⟨[(3,(.op 16 0 0)),(5,(.op 192 0 0))],[(16,vO 3 (TStay.cells s)),(192,vO 9 (TCall.cells (y.f_Calls.getD ((rCallOf).toNat) TCall.d)))],224⟩ (C_113 6) [(6,⟨[],true,(aI rCallOf),[],0,false,none⟩)] [] (kp [3,5]) (kq [16,192]) 224 [0 < 1,0 < 1,0 < 1,Sound Try.prog 46 [(encL TCall.cells TCall.d y.f_Calls),(aS s.f_Call)] [] 0 (aI rCallOf) [],0≤rCallOf∧rCallOf < ((y.f_Calls.length:Nat):Int),0 < 1] ⟨o1,o1,o1,(g_r06_CallOf_ok N y.f_Calls s.f_Call rCallOf hr),c,o1,trivial⟩ ?_
 refine Runs.sA 1 [.code (C_113 14),.code (C_113 15)] ?_
 refine Runs.sR hE ⟨[(4,(aI (w64 ((y.f_Calls.getD ((rCallOf).toNat) TCall.d).f_Late * (if (w64 ((w64 (s.f_Day+(y.f_Calls.getD ((rCallOf).toNat) TCall.d).f_Work)) - (y.f_Calls.getD ((rCallOf).toNat) TCall.d).f_Due)) > 0 then (w64 ((w64 (s.f_Day+(y.f_Calls.getD ((rCallOf).toNat) TCall.d).f_Work)) - (y.f_Calls.getD ((rCallOf).toNat) TCall.d).f_Due)) else 0)))))],[],432⟩ (C_113 14) [] [] (kp [4]) [] 432 [0 < 1,0 < 1,0 < 1,0 < 1] ⟨o1,o1,o1,o1,trivial⟩ ?_
 obtain rfl:=Option.some.inj h
 refine Runs.sW hE ⟨[(4,(aI (w64 ((y.f_Calls.getD ((rCallOf).toNat) TCall.d).f_Late * (if (w64 ((w64 (s.f_Day+(y.f_Calls.getD ((rCallOf).toNat) TCall.d).f_Work)) - (y.f_Calls.getD ((rCallOf).toNat) TCall.d).f_Due)) > 0 then (w64 ((w64 (s.f_Day+(y.f_Calls.getD ((rCallOf).toNat) TCall.d).f_Work)) - (y.f_Calls.getD ((rCallOf).toNat) TCall.d).f_Due)) else 0)))))],[],432⟩ [] (kp [4]) [] 432 [] trivial ?_
 exact Runs.sT Try.f60 [] [] trivial
noncomputable def C_112 (n:Nat):Code:=cat (bodyOf Try.f23) (pth n)
theorem g_r06_Cost_L1_ok (N:Nat) (y:TYard) (s:List TStay) (fuel:Nat):∀ (sum:Int) (i:Int) (r:Int),g_r06_Cost_L1 N y s fuel sum i=some r→∀ E,EnvOk E 0→Runs Try.prog E 23 22 (SPost E [] (aI r)) [.code (C_112 116),.inLoop (C_112 116),.inBlock 0,.code (C_112 15)] ⟨[(1,(encL TStay.cells TStay.d s)),(2,(.op 0 0 0)),(5,(aI sum)),(6,(aI i))],[(0,vO 4 (TYard.cells y))],1⟩:=by
 induction fuel with
 | zero=>intro _ _ r h;rw [g_r06_Cost_L1.eq_1] at h;cases h
 | succ fuel ih =>
  intro sum i r h E hE
  rw [g_r06_Cost_L1.eq_2] at h
  refine Runs.sA 2 [.code (C_112 464),.code (C_112 465),.code (C_112 233),.inLoop (C_112 116),.inBlock 0,.code (C_112 15)] ?_
  refine Runs.sR hE ⟨[(1,(encL TStay.cells TStay.d s)),(2,(.op 0 0 0)),(5,(aI sum)),(6,(aI i)),(10,(aB (decide (i < ((s.length:Nat):Int)))))],[(0,vO 4 (TYard.cells y))],65⟩ (C_112 464) [] [] (kp [1,2,5,6,10]) (kq [0]) 65 [] trivial ?_
  refine Runs.sC 10 (C_112 930) (C_112 931) (decide (i < ((s.length:Nat):Int))) (fun hq2=>?_) (fun hq2=>?_)
  ·have h:=condT h hq2
   refine Runs.sA 3 [.code (C_112 932),.inBlock 1,.code (C_112 467),.inLoop (C_112 116),.inBlock 0,.code (C_112 15)] ?_
   obtain ⟨c,h⟩:=ifSome h
   obtain ⟨rPrice,hr,h⟩:=bindSome h
   refine Runs.sR hE ⟨[(1,(encL TStay.cells TStay.d s)),(2,(.op 0 0 0)),(5,(aI (w64 (sum+rPrice)))),(6,(aI i))],[(0,vO 4 (TYard.cells y))],209⟩ (C_112 932) [(6,⟨[],true,(aI rPrice),[],0,false,none⟩)] [] (kp [1,2,5,6]) (kq [0]) 209 [0 < 1,0≤i∧i < ((s.length:Nat):Int),Sound Try.prog 60 [(.agg (TYard.cells y)),(.agg (TStay.cells (s.getD ((i).toNat) TStay.d)))] [] 0 (aI rPrice) []] ⟨o1,c,(g_r06_Price_ok N y (s.getD ((i).toNat) TStay.d) rPrice hr),trivial⟩ ?_
   refine Runs.sA 1 [.code (C_112 467),.inLoop (C_112 116),.inBlock 0,.code (C_112 15)] ?_
   refine Runs.sR hE ⟨[(1,(encL TStay.cells TStay.d s)),(2,(.op 0 0 0)),(5,(aI (w64 (sum+rPrice)))),(6,(aI (w64 (i+1))))],[(0,vO 4 (TYard.cells y))],257⟩ (C_112 467) [] [] (kp [1,2,5,6]) (kq [0]) 257 [] trivial ?_
   refine Runs.sA 1 [.code (C_112 116),.inLoop (C_112 116),.inBlock 0,.code (C_112 15)] ?_
   exact Runs.sW hE _ [] (kp [1,2,5,6]) (kq [0]) 1 [] trivial (ih (w64 (sum+rPrice)) (w64 (i+1)) _ h E hE)
  ·have h:=condF h hq2
   refine Runs.sA 2 [.code (C_112 30),.code (C_112 31)] ?_
   refine Runs.sR hE ⟨[(4,(aI sum))],[],97⟩ (C_112 30) [] [] (kp [4]) [] 97 [] trivial ?_
   obtain rfl:=Option.some.inj h
   refine Runs.sW hE ⟨[(4,(aI sum))],[],97⟩ [] (kp [4]) [] 97 [] trivial ?_
   exact Runs.sT Try.f23 [] [] trivial
theorem g_r06_Cost_ok (N:Nat) (y:TYard) (s:List TStay) (r:Int) (h:g_r06_Cost N y s=some r):Sound Try.prog 23 [(.agg (TYard.cells y)),(encL TStay.cells TStay.d s)] [] 0 (aI r) []:=by
 unfold g_r06_Cost at h
 refine Sound.of_runs (fu:=Try.f23) (c:=C_112 1) (nt:=22) (by kernel_rfl) (by kernel_rfl) (by kernel_rfl) (by kernel_rfl) (fun hm=>rfl) ?_
 intro E hE
 refine Runs.sA 1 [.code (C_112 2),.code (C_112 3)] ?_
 refine Runs.sR hE ⟨[(1,(encL TStay.cells TStay.d s)),(2,(.op 0 0 0))],[(0,vO 4 (TYard.cells y))],32⟩ (C_112 2) [] [] (kp [1,2]) (kq [0]) 32 [] trivial ?_
 refine Runs.sA 1 [.code (C_112 6),.code (C_112 7)] ?_
 refine Runs.sR hE ⟨[(1,(encL TStay.cells TStay.d s)),(2,(.op 0 0 0)),(5,(aI 0))],[(0,vO 4 (TYard.cells y))],48⟩ (C_112 6) [] [] (kp [1,2,5]) (kq [0]) 48 [] trivial ?_
 refine Runs.sA 2 [.code (C_112 28),.code (C_112 29),.code (C_112 15)] ?_
 refine Runs.sR hE ⟨[(1,(encL TStay.cells TStay.d s)),(2,(.op 0 0 0)),(5,(aI 0)),(6,(aI 0))],[(0,vO 4 (TYard.cells y))],64⟩ (C_112 28) [] [] (kp [1,2,5,6]) (kq [0]) 64 [] trivial ?_
 refine Runs.sA 2 [.code (C_112 116),.inLoop (C_112 116),.inBlock 0,.code (C_112 15)] ?_
 exact Runs.sW hE _ [] (kp [1,2,5,6]) (kq [0]) 1 [] trivial (g_r06_Cost_L1_ok N y s N 0 0 _ h E hE)
noncomputable def C_88 (n:Nat):Code:=cat (bodyOf Try.f5) (pth n)
theorem g_w06_BerthStays_ok (N:Nat) (y:TYard) (s:List TStay) (r:Bool) (h:g_w06_BerthStays N y s=some r):Sound Try.prog 5 [(.agg (TYard.cells y)),(encL TStay.cells TStay.d s)] [] 0 (aB r) []:=by
 unfold g_w06_BerthStays at h
 refine Sound.of_runs (fu:=Try.f5) (c:=C_88 1) (nt:=54) (by kernel_rfl) (by kernel_rfl) (by kernel_rfl) (by kernel_rfl) (fun hm=>rfl) ?_
 intro E hE
 refine Runs.sA 1 [.code (C_88 2),.code (C_88 3)] ?_
 refine Runs.sR hE ⟨[(1,(encL TStay.cells TStay.d s)),(2,(.op 0 0 0))],[(0,vO 4 (TYard.cells y))],32⟩ (C_88 2) [] [] (kp [1,2]) (kq [0]) 32 [] trivial ?_
 refine Runs.sA 2 [.code (C_88 12),.code (C_88 13),.code (C_88 7)] ?_
 obtain ⟨rawake,hr,h⟩:=bindSome h
 refine Runs.sR hE ⟨[(1,(encL TStay.cells TStay.d s)),(2,(.op 0 0 0)),(9,(aB (!rawake)))],[(0,vO 4 (TYard.cells y))],64⟩ (C_88 12) [(0,⟨[],true,(aB rawake),[],0,false,none⟩)] [] (kp [1,2,9]) (kq [0]) 64 [Sound Try.prog 9 [] [] 0 (aB rawake) []] ⟨(g_w06_awake_ok N rawake hr),trivial⟩ ?_
 refine Runs.sC 9 (C_88 26) (C_88 27) (!rawake) (fun hq2=>?_) (fun hq2=>?_)
 ·have h:=condT h hq2
  refine Runs.sA 1 [.code (C_88 52),.code (C_88 53),.code (C_88 7)] ?_
  refine Runs.sR hE ⟨[(4,(aB false))],[],80⟩ (C_88 52) [] [] (kp [4]) [] 80 [] trivial ?_
  obtain rfl:=Option.some.inj h
  refine Runs.sW hE ⟨[(4,(aB false))],[],80⟩ [] (kp [4]) [] 80 [] trivial ?_
  exact Runs.sT Try.f5 [] [] trivial
 ·have h:=condF h hq2
  refine Runs.sA 3 [.code (C_88 28),.code (C_88 29),.code (C_88 15)] ?_
  obtain ⟨rquiet,hr2,h⟩:=bindSome h
  obtain ⟨rnames,hr3,h⟩:=bindSome h
  refine Runs.sR hE ⟨[(1,(encL TStay.cells TStay.d s)),(2,(.op 0 0 0)),(17,(aB (cond (!rquiet) true (!rnames))))],[(0,vO 4 (TYard.cells y))],192⟩ (C_88 28) [(1,⟨[],true,(aB rquiet),[],0,false,none⟩),(5,⟨[],true,(aB rnames),[],0,false,none⟩)] [] (kp [1,2,17]) (kq [0]) 192 [0 < 1,Sound Try.prog 18 [(.agg (TYard.cells y))] [] 0 (aB rquiet) [],(!(!rquiet))=true→AllP [Sound Try.prog 19 [(encL TStay.cells TStay.d s)] [] 0 (aB rnames) [],(!(!rquiet))=true],(!(!rquiet))=true→AllP [(!(!rquiet))=true],(!(!rquiet))=true→AllP [(!(!rquiet))=true]] ⟨o1,(g_w06_quiet_ok N y rquiet hr2),(fun hg=>⟨(g_w06_names_ok N s rnames (condT hr3 hg)),hg,trivial⟩),(fun hg=>⟨hg,trivial⟩),(fun hq=>⟨hq,trivial⟩),trivial⟩ ?_
  refine Runs.sC 17 (C_88 58) (C_88 59) (cond (!rquiet) true (!rnames)) (fun hq3=>?_) (fun hq3=>?_)
  ·have h:=condT h hq3
   refine Runs.sA 1 [.code (C_88 116),.code (C_88 117),.code (C_88 15)] ?_
   refine Runs.sR hE ⟨[(4,(aB true))],[],208⟩ (C_88 116) [] [] (kp [4]) [] 208 [] trivial ?_
   obtain rfl:=Option.some.inj h
   refine Runs.sW hE ⟨[(4,(aB true))],[],208⟩ [] (kp [4]) [] 208 [] trivial ?_
   exact Runs.sT Try.f5 [] [] trivial
  ·have h:=condF h hq3
   refine Runs.sA 2 [.code (C_88 30),.code (C_88 31)] ?_
   obtain ⟨rCheckStays,hr4,h⟩:=bindSome h
   refine Runs.sR hE ⟨[(1,(encL TStay.cells TStay.d s)),(2,(.op 0 0 0)),(5,(aI rCheckStays))],[(0,vO 4 (TYard.cells y))],256⟩ (C_88 30) [(2,⟨[],true,(aI rCheckStays),[],0,false,none⟩)] [] (kp [1,2,5]) (kq [0]) 256 [0 < 1,Sound Try.prog 20 [(.agg (TYard.cells y)),(encL TStay.cells TStay.d s)] [] 0 (aI rCheckStays) []] ⟨o1,(g_r06_CheckStays_ok N y s rCheckStays hr4),trivial⟩ ?_
   refine Runs.sA 1 [.code (C_88 62),.code (C_88 63)] ?_
   obtain ⟨rCost,hr5,h⟩:=bindSome h
   refine Runs.sR hE ⟨[(1,(encL TStay.cells TStay.d s)),(2,(.op 0 0 0)),(5,(aI rCheckStays)),(6,(aI rCost.1)),(7,(aI rCost.2))],[(0,vO 4 (TYard.cells y))],384⟩ (C_88 62) [(2,⟨[],true,(.tup [(aI rCost.1),(aI rCost.2)]),[],0,false,none⟩)] [] (kp [1,2,5,6,7]) (kq [0]) 384 [0 < 1,Sound Try.prog 21 [(.agg (TYard.cells y)),(encL TStay.cells TStay.d s)] [] 0 (.tup [(aI rCost.1),(aI rCost.2)]) []] ⟨o1,(g_berth_Cost_ok N y s rCost hr5),trivial⟩ ?_
   refine Runs.sA 2 [.code (C_88 252),.code (C_88 253),.code (C_88 127)] ?_
   obtain ⟨rCheckStays2,hr6,h⟩:=bindSome h
   refine Runs.sR hE ⟨[(1,(encL TStay.cells TStay.d s)),(2,(.op 0 0 0)),(5,(aI rCheckStays)),(6,(aI rCost.1)),(36,(aB (cond (rCheckStays2 != rCheckStays) true (rCost.2 != rCheckStays))))],[(0,vO 4 (TYard.cells y))],544⟩ (C_88 252) [(2,⟨[],true,(aI rCheckStays2),[],0,false,none⟩)] [] (kp [1,2,5,6,36]) (kq [0]) 544 [0 < 1,Sound Try.prog 22 [(.agg (TYard.cells y)),(encL TStay.cells TStay.d s)] [] 0 (aI rCheckStays2) [],(!(rCheckStays2 != rCheckStays))=true→AllP [(!(rCheckStays2 != rCheckStays))=true,(!(rCheckStays2 != rCheckStays))=true],(!(rCheckStays2 != rCheckStays))=true→AllP [(!(rCheckStays2 != rCheckStays))=true]] ⟨o1,(g_berth_CheckStays_ok N y s rCheckStays2 hr6),(fun hg=>⟨hg,hg,trivial⟩),(fun hq=>⟨hq,trivial⟩),trivial⟩ ?_
   refine Runs.sC 36 (C_88 506) (C_88 507) (cond (rCheckStays2 != rCheckStays) true (rCost.2 != rCheckStays)) (fun hq4=>?_) (fun hq4=>?_)
   ·have h:=condT h hq4
    refine Runs.sA 1 [.code (C_88 1012),.code (C_88 1013),.code (C_88 127)] ?_
    refine Runs.sR hE ⟨[(4,(aB false))],[],560⟩ (C_88 1012) [] [] (kp [4]) [] 560 [] trivial ?_
    obtain rfl:=Option.some.inj h
    refine Runs.sW hE ⟨[(4,(aB false))],[],560⟩ [] (kp [4]) [] 560 [] trivial ?_
    exact Runs.sT Try.f5 [] [] trivial
   ·have h:=condF h hq4
    refine Runs.sA 2 [.code (C_88 254),.code (C_88 255)] ?_
    obtain ⟨rCost2,hr7,h⟩:=bindSome h
    refine Runs.sR hE ⟨[(4,(aB (cond (cond (rCheckStays != 0) (rCost.1 == 0) false) true (cond (rCheckStays == 0) (rCost.1 == rCost2) false))))],[],832⟩ (C_88 254) [(13,⟨[],true,(aI rCost2),[],0,false,none⟩)] [] (kp [4]) [] 832 [(rCheckStays != 0)=true→AllP [(rCheckStays != 0)=true],(rCheckStays != 0)=true→AllP [(rCheckStays != 0)=true],(!(cond (rCheckStays != 0) (rCost.1 == 0) false))=true→AllP [(!(cond (rCheckStays != 0) (rCost.1 == 0) false))=true],((!(cond (rCheckStays != 0) (rCost.1 == 0) false)) && ((!(cond (rCheckStays != 0) (rCost.1 == 0) false)) && (rCheckStays == 0)))=true→AllP [0 < 1],((!(cond (rCheckStays != 0) (rCost.1 == 0) false)) && ((!(cond (rCheckStays != 0) (rCost.1 == 0) false)) && (rCheckStays == 0)))=true→AllP [Sound Try.prog 23 [(.agg (TYard.cells y)),(encL TStay.cells TStay.d s)] [] 0 (aI rCost2) [],((!(cond (rCheckStays != 0) (rCost.1 == 0) false)) && ((!(cond (rCheckStays != 0) (rCost.1 == 0) false)) && (rCheckStays == 0)))=true,((!(cond (rCheckStays != 0) (rCost.1 == 0) false)) && ((!(cond (rCheckStays != 0) (rCost.1 == 0) false)) && (rCheckStays == 0)))=true],((!(cond (rCheckStays != 0) (rCost.1 == 0) false)) && ((!(cond (rCheckStays != 0) (rCost.1 == 0) false)) && (rCheckStays == 0)))=true→AllP [((!(cond (rCheckStays != 0) (rCost.1 == 0) false)) && ((!(cond (rCheckStays != 0) (rCost.1 == 0) false)) && (rCheckStays == 0)))=true,((!(cond (rCheckStays != 0) (rCost.1 == 0) false)) && ((!(cond (rCheckStays != 0) (rCost.1 == 0) false)) && (rCheckStays == 0)))=true],(!(cond (rCheckStays != 0) (rCost.1 == 0) false))=true→AllP [(!(cond (rCheckStays != 0) (rCost.1 == 0) false))=true,(!(cond (rCheckStays != 0) (rCost.1 == 0) false))=true,(rCheckStays == 0)=true→AllP [((!(cond (rCheckStays != 0) (rCost.1 == 0) false)) && ((!(cond (rCheckStays != 0) (rCost.1 == 0) false)) && (rCheckStays == 0)))=true]],(!(cond (rCheckStays != 0) (rCost.1 == 0) false))=true→AllP [(!(cond (rCheckStays != 0) (rCost.1 == 0) false))=true]] ⟨(fun hg=>⟨hg,trivial⟩),(fun hq=>⟨hq,trivial⟩),(fun hg=>⟨hg,trivial⟩),(fun hg=>⟨o1,trivial⟩),(fun hg=>⟨(g_r06_Cost_ok N y s rCost2 (condT hr7 hg)),hg,hg,trivial⟩),(fun hg=>⟨hg,hg,trivial⟩),(fun hg=>⟨hg,hg,(fun hq=>⟨(andI' hg (andI' hg hq)),trivial⟩),trivial⟩),(fun hq=>⟨hq,trivial⟩),trivial⟩ ?_
    obtain rfl:=Option.some.inj h
    refine Runs.sW hE ⟨[(4,(aB (cond (cond (rCheckStays != 0) (rCost.1 == 0) false) true (cond (rCheckStays == 0) (rCost.1 == rCost2) false))))],[],832⟩ [] (kp [4]) [] 832 [] trivial ?_
    exact Runs.sT Try.f5 [] [] trivial
end Go.Den
