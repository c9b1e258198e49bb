/- Each function of the program does what its Lean function computes (part 3). No conditions. -/
import Derived.Test.YtefejfclhhbbnaaGreatWaterPosesSb
import Derived.Test.YtefejfclhhbbnaaGreatProg
set_option linter.unusedVariables false
set_option maxRecDepth 100000
namespace Go.Den
open Go.Ab Go.Proofs
noncomputable def C_72 (n:Nat):Code:=cat (bodyOf Tryz.f12) (pth n)
theorem g_r05_CheckSteps_L1_ok (N:Nat) (p:TPontoon) (steps:List Int) (fuel:Nat):∀ (i:Int) (r:Int),g_r05_CheckSteps_L1 N p steps fuel i = some r→∀ E,EnvOk E 0→Runs Tryz.prog E 12 30 (SPost E [] (aI r)) [.code (C_72 116),.inLoop (C_72 116),.inBlock 0,.code (C_72 15)] ⟨[(1,(encL cI 0 steps)),(2,(.op 0 0 0)),(5,(aI i))],[(0,vO 5 (TPontoon.cells p))],1⟩:=by
  induction fuel with
  | zero=>intro _ r h; rw [g_r05_CheckSteps_L1.eq_1] at h; cases h
  | succ fuel ih =>
    intro i r h E hE
    rw [g_r05_CheckSteps_L1.eq_2] at h
    refine Runs.sA 2 [.code (C_72 464),.code (C_72 465),.code (C_72 233),.inLoop (C_72 116),.inBlock 0,.code (C_72 15)] ?_
    refine Runs.sR hE ⟨[(1,(encL cI 0 steps)),(2,(.op 0 0 0)),(5,(aI i)),(15,(aB (decide (i < ((steps.length:Nat):Int)))))],[(0,vO 5 (TPontoon.cells p))],65⟩ (C_72 464) [] [] (kp [1,2,5,15]) (kq [0]) 65 [] trivial ?_
    refine Runs.sC 15 (C_72 930) (C_72 931) (decide (i < ((steps.length:Nat):Int))) (fun hq3=>?_) (fun hq3=>?_)
    · have h:=condT h hq3
      refine Runs.sA 4 [.code (C_72 1864),.code (C_72 1865),.inBlock 1,.code (C_72 467),.inLoop (C_72 116),.inBlock 0,.code (C_72 15)] ?_
      obtain ⟨c,h⟩:=ifSome h
      obtain ⟨c2,h⟩:=ifSome h
      obtain ⟨rinside,hr,h⟩:=bindSome h
      refine Runs.sR hE ⟨[(1,(encL cI 0 steps)),(2,(.op 0 0 0)),(5,(aI i)),(29,(aB (!rinside)))],[(0,vO 5 (TPontoon.cells p))],257⟩ (C_72 1864) [(10,⟨[],true,(aB rinside),[],0,false,none⟩)] [] (kp [1,2,5,29]) (kq [0]) 257 [0≤i∧i < ((steps.length:Nat):Int),0 < 1,0≤i∧i < ((p.f_Tanks.length:Nat):Int),Sound Tryz.prog 22 [(aI (steps.getD ((i).toNat) 0)),(aI 0),(aI ((p.f_Tanks.getD ((i).toNat) TTank.d).f_Steps))] [] 0 (aB rinside) []] ⟨c,o1,c2,(g_r05_inside_ok N (steps.getD ((i).toNat) 0) 0 ((p.f_Tanks.getD ((i).toNat) TTank.d).f_Steps) rinside hr),trivial⟩ ?_
      refine Runs.sC 29 (C_72 3730) (C_72 3731) (!rinside) (fun hq4=>?_) (fun hq4=>?_)
      · have h:=condT h hq4
        refine Runs.sA 1 [.code (C_72 7460),.code (C_72 7461),.inBlock 1,.code (C_72 467),.inLoop (C_72 116),.inBlock 0,.code (C_72 15)] ?_
        refine Runs.sR hE ⟨[(4,(aI 2))],[],273⟩ (C_72 7460) [] [] (kp [4]) [] 273 [] trivial ?_
        obtain rfl:=Option.some.inj h
        refine Runs.sW hE ⟨[(4,(aI 2))],[],273⟩ [] (kp [4]) [] 273 [] trivial ?_
        exact Runs.sT Tryz.f12 [] [] trivial
      · have h:=condF h hq4
        refine Runs.sA 2 [.code (C_72 467),.inLoop (C_72 116),.inBlock 0,.code (C_72 15)] ?_
        refine Runs.sR hE ⟨[(1,(encL cI 0 steps)),(2,(.op 0 0 0)),(5,(aI (w64 (i+1))))],[(0,vO 5 (TPontoon.cells p))],305⟩ (C_72 467) [] [] (kp [1,2,5]) (kq [0]) 305 [] trivial ?_
        refine Runs.sA 1 [.code (C_72 116),.inLoop (C_72 116),.inBlock 0,.code (C_72 15)] ?_
        exact Runs.sW hE _ [] (kp [1,2,5]) (kq [0]) 1 [] trivial (ih (w64 (i+1)) _ h E hE)
    · have h:=condF h hq3
      refine Runs.sA 2 [.code (C_72 30),.code (C_72 31)] ?_
      refine Runs.sR hE ⟨[(4,(aI 0))],[],81⟩ (C_72 30) [] [] (kp [4]) [] 81 [] trivial ?_
      obtain rfl:=Option.some.inj h
      refine Runs.sW hE ⟨[(4,(aI 0))],[],81⟩ [] (kp [4]) [] 81 [] trivial ?_
      exact Runs.sT Tryz.f12 [] [] trivial
theorem g_r05_CheckSteps_ok (N:Nat) (p:TPontoon) (steps:List Int) (r:Int) (h:g_r05_CheckSteps N p steps = some r):Sound Tryz.prog 12 [(.agg (TPontoon.cells p)),(encL cI 0 steps)] [] 0 (aI r) []:=by
  unfold g_r05_CheckSteps at h
  refine Sound.of_runs (fu:=Tryz.f12) (c:=C_72 1) (nt:=30) (by kernel_rfl) (by kernel_rfl) (by kernel_rfl) (by kernel_rfl) (fun hm=>rfl) ?_
  intro E hE
  refine Runs.sA 1 [.code (C_72 2),.code (C_72 3)] ?_
  refine Runs.sR hE ⟨[(1,(encL cI 0 steps)),(2,(.op 0 0 0))],[(0,vO 5 (TPontoon.cells p))],32⟩ (C_72 2) [] [] (kp [1,2]) (kq [0]) 32 [] trivial ?_
  refine Runs.sA 2 [.code (C_72 12),.code (C_72 13),.code (C_72 7)] ?_
  refine Runs.sR hE ⟨[(1,(encL cI 0 steps)),(2,(.op 0 0 0)),(11,(aB (((steps.length:Nat):Int) != ((p.f_Tanks.length:Nat):Int))))],[(0,vO 5 (TPontoon.cells p))],128⟩ (C_72 12) [] [] (kp [1,2,11]) (kq [0]) 128 [0 < 1] ⟨o1,trivial⟩ ?_
  refine Runs.sC 11 (C_72 26) (C_72 27) (((steps.length:Nat):Int) != ((p.f_Tanks.length:Nat):Int)) (fun hq2=>?_) (fun hq2=>?_)
  · have h:=condT h hq2
    refine Runs.sA 1 [.code (C_72 52),.code (C_72 53),.code (C_72 7)] ?_
    refine Runs.sR hE ⟨[(4,(aI 11))],[],144⟩ (C_72 52) [] [] (kp [4]) [] 144 [] trivial ?_
    obtain rfl:=Option.some.inj h
    refine Runs.sW hE ⟨[(4,(aI 11))],[],144⟩ [] (kp [4]) [] 144 [] trivial ?_
    exact Runs.sT Tryz.f12 [] [] trivial
  · have h:=condF h hq2
    refine Runs.sA 3 [.code (C_72 28),.code (C_72 29),.code (C_72 15)] ?_
    refine Runs.sR hE ⟨[(1,(encL cI 0 steps)),(2,(.op 0 0 0)),(5,(aI 0))],[(0,vO 5 (TPontoon.cells p))],144⟩ (C_72 28) [] [] (kp [1,2,5]) (kq [0]) 144 [] trivial ?_
    refine Runs.sA 2 [.code (C_72 116),.inLoop (C_72 116),.inBlock 0,.code (C_72 15)] ?_
    exact Runs.sW hE _ [] (kp [1,2,5]) (kq [0]) 1 [] trivial (g_r05_CheckSteps_L1_ok N p steps N 0 _ h E hE)
noncomputable def C_73 (n:Nat):Code:=cat (bodyOf Tryz.f13) (pth n)
theorem g_r05_CheckLimits_ok (N:Nat) (l:TLimits) (r:Int) (h:g_r05_CheckLimits N l = some r):Sound Tryz.prog 13 [(.agg (TLimits.cells l))] [] 0 (aI r) []:=by
  unfold g_r05_CheckLimits at h
  refine Sound.of_runs (fu:=Tryz.f13) (c:=C_73 1) (nt:=31) (by kernel_rfl) (by kernel_rfl) (by kernel_rfl) (by kernel_rfl) (fun hm=>rfl) ?_
  intro E hE
  refine Runs.sA 1 [.code (C_73 2),.code (C_73 3)] ?_
  refine Runs.sR hE ⟨[(1,(.op 0 0 0))],[(0,vO 5 (TLimits.cells l))],32⟩ (C_73 2) [] [] (kp [1]) (kq [0]) 32 [] trivial ?_
  refine Runs.sA 2 [.code (C_73 12),.code (C_73 13),.code (C_73 7)] ?_
  obtain ⟨rinside,hr,h⟩:=bindSome h
  obtain ⟨rinside2,hr2,h⟩:=bindSome h
  obtain ⟨rinside3,hr3,h⟩:=bindSome h
  obtain ⟨rinside4,hr4,h⟩:=bindSome h
  obtain ⟨rinside5,hr5,h⟩:=bindSome h
  refine Runs.sR hE ⟨[(30,(aB (cond (cond (cond (cond (!rinside) true (!rinside2)) true (!rinside3)) true (!rinside4)) true (!rinside5))))],[],480⟩ (C_73 12) [(2,⟨[],true,(aB rinside),[],0,false,none⟩),(7,⟨[],true,(aB rinside2),[],0,false,none⟩),(13,⟨[],true,(aB rinside3),[],0,false,none⟩),(19,⟨[],true,(aB rinside4),[],0,false,none⟩),(25,⟨[],true,(aB rinside5),[],0,false,none⟩)] [] (kp [30]) [] 480 [0 < 1,Sound Tryz.prog 22 [(aI l.f_DraughtLeast),(aI 0),(aI 1000000)] [] 0 (aB rinside) [],(!(!rinside)) = true→AllP [(!(!rinside)) = true,0 < 1],(!(!rinside)) = true→AllP [Sound Tryz.prog 22 [(aI l.f_DraughtMost),(aI 0),(aI 1000000)] [] 0 (aB rinside2) [],(!(!rinside)) = true],(!(!rinside)) = true→AllP [(!(!rinside)) = true],(!(!rinside)) = true→AllP [(!(!rinside)) = true],(!(cond (!rinside) true (!rinside2))) = true→AllP [(!(cond (!rinside) true (!rinside2))) = true,0 < 1],(!(cond (!rinside) true (!rinside2))) = true→AllP [Sound Tryz.prog 22 [(aI l.f_TrimMost),(aI 0),(aI 1000)] [] 0 (aB rinside3) [],(!(cond (!rinside) true (!rinside2))) = true],(!(cond (!rinside) true (!rinside2))) = true→AllP [(!(cond (!rinside) true (!rinside2))) = true],(!(cond (!rinside) true (!rinside2))) = true→AllP [(!(cond (!rinside) true (!rinside2))) = true],(!(cond (cond (!rinside) true (!rinside2)) true (!rinside3))) = true→AllP [(!(cond (cond (!rinside) true (!rinside2)) true (!rinside3))) = true,0 < 1],(!(cond (cond (!rinside) true (!rinside2)) true (!rinside3))) = true→AllP [Sound Tryz.prog 22 [(aI l.f_HeelMost),(aI 0),(aI 1000)] [] 0 (aB rinside4) [],(!(cond (cond (!rinside) true (!rinside2)) true (!rinside3))) = true],(!(cond (cond (!rinside) true (!rinside2)) true (!rinside3))) = true→AllP [(!(cond (cond (!rinside) true (!rinside2)) true (!rinside3))) = true],(!(cond (cond (!rinside) true (!rinside2)) true (!rinside3))) = true→AllP [(!(cond (cond (!rinside) true (!rinside2)) true (!rinside3))) = true],(!(cond (cond (cond (!rinside) true (!rinside2)) true (!rinside3)) true (!rinside4))) = true→AllP [(!(cond (cond (cond (!rinside) true (!rinside2)) true (!rinside3)) true (!rinside4))) = true,0 < 1],(!(cond (cond (cond (!rinside) true (!rinside2)) true (!rinside3)) true (!rinside4))) = true→AllP [Sound Tryz.prog 22 [(aI l.f_HogMost),(aI 0),(aI 1000000000000000000)] [] 0 (aB rinside5) [],(!(cond (cond (cond (!rinside) true (!rinside2)) true (!rinside3)) true (!rinside4))) = true],(!(cond (cond (cond (!rinside) true (!rinside2)) true (!rinside3)) true (!rinside4))) = true→AllP [(!(cond (cond (cond (!rinside) true (!rinside2)) true (!rinside3)) true (!rinside4))) = true],(!(cond (cond (cond (!rinside) true (!rinside2)) true (!rinside3)) true (!rinside4))) = true→AllP [(!(cond (cond (cond (!rinside) true (!rinside2)) true (!rinside3)) true (!rinside4))) = true]] ⟨o1,(g_r05_inside_ok N l.f_DraughtLeast 0 1000000 rinside hr),(fun hg=>⟨hg,o1,trivial⟩),(fun hg=>⟨(g_r05_inside_ok N l.f_DraughtMost 0 1000000 rinside2 (condT hr2 hg)),hg,trivial⟩),(fun hg=>⟨hg,trivial⟩),(fun hq=>⟨hq,trivial⟩),(fun hg=>⟨hg,o1,trivial⟩),(fun hg=>⟨(g_r05_inside_ok N l.f_TrimMost 0 1000 rinside3 (condT hr3 hg)),hg,trivial⟩),(fun hg=>⟨hg,trivial⟩),(fun hq=>⟨hq,trivial⟩),(fun hg=>⟨hg,o1,trivial⟩),(fun hg=>⟨(g_r05_inside_ok N l.f_HeelMost 0 1000 rinside4 (condT hr4 hg)),hg,trivial⟩),(fun hg=>⟨hg,trivial⟩),(fun hq=>⟨hq,trivial⟩),(fun hg=>⟨hg,o1,trivial⟩),(fun hg=>⟨(g_r05_inside_ok N l.f_HogMost 0 1000000000000000000 rinside5 (condT hr5 hg)),hg,trivial⟩),(fun hg=>⟨hg,trivial⟩),(fun hq=>⟨hq,trivial⟩),trivial⟩ ?_
  refine Runs.sC 30 (C_73 26) (C_73 27) (cond (cond (cond (cond (!rinside) true (!rinside2)) true (!rinside3)) true (!rinside4)) true (!rinside5)) (fun hq2=>?_) (fun hq2=>?_)
  · have h:=condT h hq2
    refine Runs.sA 1 [.code (C_73 52),.code (C_73 53),.code (C_73 7)] ?_
    refine Runs.sR hE ⟨[(2,(aI 2))],[],496⟩ (C_73 52) [] [] (kp [2]) [] 496 [] trivial ?_
    obtain rfl:=Option.some.inj h
    refine Runs.sW hE ⟨[(2,(aI 2))],[],496⟩ [] (kp [2]) [] 496 [] trivial ?_
    exact Runs.sT Tryz.f13 [] [] trivial
  · have h:=condF h hq2
    refine Runs.sA 2 [.code (C_73 14),.code (C_73 15)] ?_
    refine Runs.sR hE ⟨[(2,(aI 0))],[],496⟩ (C_73 14) [] [] (kp [2]) [] 496 [] trivial ?_
    obtain rfl:=Option.some.inj h
    refine Runs.sW hE ⟨[(2,(aI 0))],[],496⟩ [] (kp [2]) [] 496 [] trivial ?_
    exact Runs.sT Tryz.f13 [] [] trivial
noncomputable def C_78 (n:Nat):Code:=cat (bodyOf Tryz.f91) (pth n)
theorem g_r01_made_L1_ok (N:Nat) (neg:Bool) (a:List Int) (fuel:Nat):∀ (x:List Int) (i:Int) (r:TInt),g_r01_made_L1 N neg a fuel x i = some r→∀ E,EnvOk E 0→Runs Tryz.prog E 91 31 (SPost E [] (.agg (TInt.cells r))) [.code (C_78 116),.inLoop (C_78 116),.inBlock 0,.code (C_78 15)] ⟨[(1,(encL cI 0 a)),(4,(.op 0 0 0)),(5,(.op 1 0 0)),(6,(aI i))],[(0,vO 2 [(aB false),.nil]),(1,vN 2 [(aB (cond neg (decide (((a.length:Nat):Int) > 0)) false)),(.os 2 0 x.length)]),(2,aO 1 (cU .u16) 0 x)],3⟩:=by
  induction fuel with
  | zero=>intro _ _ r h; rw [g_r01_made_L1.eq_1] at h; cases h
  | succ fuel ih =>
    intro x i r h E hE
    rw [g_r01_made_L1.eq_2] at h
    refine Runs.sA 2 [.code (C_78 464),.code (C_78 465),.code (C_78 233),.inLoop (C_78 116),.inBlock 0,.code (C_78 15)] ?_
    refine Runs.sR hE ⟨[(1,(encL cI 0 a)),(4,(.op 0 0 0)),(5,(.op 1 0 0)),(6,(aI i)),(17,(aB (decide (i < ((a.length:Nat):Int)))))],[(0,vO 2 [(aB false),.nil]),(1,vN 2 [(aB (cond neg (decide (((a.length:Nat):Int) > 0)) false)),(.os 2 0 x.length)]),(2,aO 1 (cU .u16) 0 x)],67⟩ (C_78 464) [] [] (kp [1,4,5,6,17]) (kq [0,1,2]) 67 [] trivial ?_
    refine Runs.sC 17 (C_78 930) (C_78 931) (decide (i < ((a.length:Nat):Int))) (fun hq2=>?_) (fun hq2=>?_)
    · have h:=condT h hq2
      refine Runs.sA 3 [.code (C_78 932),.inBlock 1,.code (C_78 467),.inLoop (C_78 116),.inBlock 0,.code (C_78 15)] ?_
      obtain ⟨c,h⟩:=ifSome h
      obtain ⟨c2,h⟩:=ifSome h
      refine Runs.sR hE ⟨[(1,(encL cI 0 a)),(4,(.op 0 0 0)),(5,(.op 1 0 0)),(6,(aI i))],[(0,vO 2 [(aB false),.nil]),(1,vN 2 [(aB (cond neg (decide (((a.length:Nat):Int) > 0)) false)),(.os 195 0 ((x ++ ([(IntKind.u16.wrap ((a.getD ((i).toNat) 0)))]:List Int)).length))]),(195,aO 1 (cU .u16) 0 (x ++ ([(IntKind.u16.wrap ((a.getD ((i).toNat) 0)))]:List Int)))],243⟩ (C_78 932) [] [] (kp [1,4,5,6]) (kq [0] ++ [(1,.var 1 [.keep,.osl ((x ++ ([(IntKind.u16.wrap ((a.getD ((i).toNat) 0)))]:List Int)).length)]),(195,.arr 195 ((x ++ ([(IntKind.u16.wrap ((a.getD ((i).toNat) 0)))]:List Int)).length) (fun zi=>(cU .u16) ((x ++ ([(IntKind.u16.wrap ((a.getD ((i).toNat) 0)))]:List Int)).getD zi 0)))]) 243 [0 < 1,0≤i∧i < ((a.length:Nat):Int),x.length = x.length,(x.length+1) * 2≤140737488355328,0+1≤1,∀ zi,zi < 1→AV.oneL ((fun zi=>([[(.atom (.int .u16 (IntKind.u16.wrap ((a.getD ((i).toNat) 0)))))]]:List (List AV)).getD zi []) (addz 0 zi)) = true,0 < 1,(x.length+1) = (x ++ ([(IntKind.u16.wrap ((a.getD ((i).toNat) 0)))]:List Int)).length,x.length+1 = (x ++ ([(IntKind.u16.wrap ((a.getD ((i).toNat) 0)))]:List Int)).length,∀ zi,zi < (x ++ ([(IntKind.u16.wrap ((a.getD ((i).toNat) 0)))]:List Int)).length→(fun zi=>(cU .u16) ((x ++ ([(IntKind.u16.wrap ((a.getD ((i).toNat) 0)))]:List Int)).getD zi 0)) zi = ((fun zm=>if zm < x.length then (fun zi=>(cU .u16) (x.getD zi 0)) zm else (fun zi=>([[(.atom (.int .u16 (IntKind.u16.wrap ((a.getD ((i).toNat) 0)))))]]:List (List AV)).getD zi []) (zm - x.length))) zi] ⟨o1,c,rfl,c2,z0,(oneN rfl),o1,(len_app_raw rfl rfl),(len_app_raw rfl rfl),(get_app_raw (cU .u16) 0 x ([(IntKind.u16.wrap ((a.getD ((i).toNat) 0)))]:List Int) rfl (fun _ _=>rfl) (fun zq hzq=>get_chunk (cU .u16) 0 ([(IntKind.u16.wrap ((a.getD ((i).toNat) 0)))]:List Int) zq hzq)),trivial⟩ ?_
      refine Runs.sA 1 [.code (C_78 467),.inLoop (C_78 116),.inBlock 0,.code (C_78 15)] ?_
      refine Runs.sR hE ⟨[(1,(encL cI 0 a)),(4,(.op 0 0 0)),(5,(.op 1 0 0)),(6,(aI (w64 (i+1))))],[(0,vO 2 [(aB false),.nil]),(1,vN 2 [(aB (cond neg (decide (((a.length:Nat):Int) > 0)) false)),(.os 195 0 ((x ++ ([(IntKind.u16.wrap ((a.getD ((i).toNat) 0)))]:List Int)).length))]),(195,aO 1 (cU .u16) 0 (x ++ ([(IntKind.u16.wrap ((a.getD ((i).toNat) 0)))]:List Int)))],291⟩ (C_78 467) [] [] (kp [1,4,5,6]) (kq [0,1,195]) 291 [] trivial ?_
      refine Runs.sA 1 [.code (C_78 116),.inLoop (C_78 116),.inBlock 0,.code (C_78 15)] ?_
      exact Runs.sW hE _ [] (kp [1,4,5,6]) (kq [0,1] ++ [(2,.keep 195)]) 3 [] trivial (ih (x ++ ([(IntKind.u16.wrap ((a.getD ((i).toNat) 0)))]:List Int)) (w64 (i+1)) _ h E hE)
    · have h:=condF h hq2
      refine Runs.sA 2 [.code (C_78 30),.code (C_78 31)] ?_
      refine Runs.sR hE ⟨[(4,(.op 0 0 0))],[(0,vN 2 [(aB (cond neg (decide (((a.length:Nat):Int) > 0)) false)),(.os 2 0 x.length)]),(2,aO 1 (cU .u16) 0 x)],99⟩ (C_78 30) [] [] (kp [4]) (kq [0,2]) 99 [0 < 1,0 < 1] ⟨o1,o1,trivial⟩ ?_
      obtain rfl:=Option.some.inj h
      refine Runs.sW hE ⟨[(4,(.op 16 0 0))],[(16,vO 2 [(aB (cond neg (decide (((a.length:Nat):Int) > 0)) false)),(encL (cU .u16) 0 x)])],99⟩ [2] (kp [4]) [(16,.var 0 [.keep,.sl (x.length) (fun zi=>(cU .u16) (x.getD zi 0))])] 99 [x.length = x.length,0+x.length≤x.length,∀ zi,zi < x.length→(fun zi=>(cU .u16) (x.getD zi 0)) zi = (fun zi=>(cU .u16) (x.getD zi 0)) (addz 0 zi)] ⟨rfl,z0,(fun _ _=>rfl),trivial⟩ ?_
      exact Runs.sT Tryz.f91 [16] [0 < 1] ⟨o1,trivial⟩
theorem g_r01_made_ok (N:Nat) (neg:Bool) (a:List Int) (r:TInt) (h:g_r01_made N neg a = some r):Sound Tryz.prog 91 [(aB neg),(encL cI 0 a)] [] 0 (.agg (TInt.cells r)) []:=by
  unfold g_r01_made at h
  refine Sound.of_runs (fu:=Tryz.f91) (c:=C_78 1) (nt:=31) (by kernel_rfl) (by kernel_rfl) (by kernel_rfl) (by kernel_rfl) (fun hm=>rfl) ?_
  intro E hE
  refine Runs.sA 1 [.code (C_78 2),.code (C_78 3)] ?_
  refine Runs.sR hE ⟨[(0,(aB neg)),(1,(encL cI 0 a)),(4,(.op 0 0 0))],[(0,vO 2 [(aB false),.nil])],16⟩ (C_78 2) [] [] (kp [0,1,4]) (kq [0]) 16 [] trivial ?_
  refine Runs.sA 1 [.code (C_78 6),.code (C_78 7)] ?_
  refine Runs.sR hE ⟨[(1,(encL cI 0 a)),(4,(.op 0 0 0)),(5,(.op 128 0 0))],[(0,vO 2 [(aB false),.nil]),(128,vO 2 [(aB (cond neg (decide (((a.length:Nat):Int) > 0)) false)),.nil])],160⟩ (C_78 6) [] [] (kp [1,4,5]) (kq [0,128]) 160 [neg = true→AllP [neg = true],neg = true→AllP [neg = true],neg = true→AllP [neg = true],0 < 1] ⟨(fun hg=>⟨hg,trivial⟩),(fun hg=>⟨hg,trivial⟩),(fun hq=>⟨hq,trivial⟩),o1,trivial⟩ ?_
  refine Runs.sA 2 [.code (C_78 28),.code (C_78 29),.code (C_78 15)] ?_
  refine Runs.sR hE ⟨[(1,(encL cI 0 a)),(4,(.op 0 0 0)),(5,(.op 128 0 0)),(6,(aI 0))],[(0,vO 2 [(aB false),.nil]),(128,vO 2 [(aB (cond neg (decide (((a.length:Nat):Int) > 0)) false)),.nil])],176⟩ (C_78 28) [] [] (kp [1,4,5,6]) (kq [0,128]) 176 [] trivial ?_
  refine Runs.sA 2 [.code (C_78 116),.inLoop (C_78 116),.inBlock 0,.code (C_78 15)] ?_
  exact Runs.sW hE _ [] (kp [1,4,5,6]) (kq [0] ++ [(1,.var 128 [.keep,.nilos 2]),(2,.nil 1 (fun zi=>(cU .u16) (([]:List Int).getD zi 0)))]) 3 [] trivial (g_r01_made_L1_ok N neg a N ([]:List Int) 0 _ h E hE)
noncomputable def C_77 (n:Nat):Code:=cat (bodyOf Tryz.f68) (pth n)
theorem g_r01_Of_L1_ok (N:Nat) (n:Int) (fuel:Nat):∀ (a:List Int) (u:Int) (r:TInt),g_r01_Of_L1 N n fuel a u = some r→∀ E,EnvOk E 0→Runs Tryz.prog E 68 25 (SPost E [] (.agg (TInt.cells r))) [.code (C_77 248),.inLoop (C_77 248),.inBlock 0,.code (C_77 63)] ⟨[(0,(aI n)),(2,(.op 0 0 0)),(3,(.os 1 0 a.length)),(4,(.atom (.int .u64 u)))],[(0,vO 2 [(aB false),.nil]),(1,aO 1 cI 0 a)],2⟩:=by
  induction fuel with
  | zero=>intro _ _ r h; rw [g_r01_Of_L1.eq_1] at h; cases h
  | succ fuel ih =>
    intro a u r h E hE
    rw [g_r01_Of_L1.eq_2] at h
    refine Runs.sA 2 [.code (C_77 992),.code (C_77 993),.code (C_77 497),.inLoop (C_77 248),.inBlock 0,.code (C_77 63)] ?_
    refine Runs.sR hE ⟨[(0,(aI n)),(2,(.op 0 0 0)),(3,(.os 1 0 a.length)),(4,(.atom (.int .u64 u))),(12,(aB (decide (u > 0))))],[(0,vO 2 [(aB false),.nil]),(1,aO 1 cI 0 a)],34⟩ (C_77 992) [] [] (kp [0,2,3,4,12]) (kq [0,1]) 34 [] trivial ?_
    refine Runs.sC 12 (C_77 1986) (C_77 1987) (decide (u > 0)) (fun hq3=>?_) (fun hq3=>?_)
    · have h:=condT h hq3
      refine Runs.sA 3 [.code (C_77 1988),.inBlock 1,.code (C_77 995),.inLoop (C_77 248),.inBlock 0,.code (C_77 63)] ?_
      obtain ⟨c,h⟩:=ifSome h
      refine Runs.sR hE ⟨[(0,(aI n)),(2,(.op 0 0 0)),(3,(.os 114 0 ((a ++ ([(w64 ((u.tmod 65536)))]:List Int)).length))),(4,(.atom (.int .u64 u)))],[(0,vO 2 [(aB false),.nil]),(114,aO 1 cI 0 (a ++ ([(w64 ((u.tmod 65536)))]:List Int)))],146⟩ (C_77 1988) [] [] (kp [0,2] ++ [(3,.osl ((a ++ ([(w64 ((u.tmod 65536)))]:List Int)).length))] ++ kp [4]) (kq [0] ++ [(114,.arr 114 ((a ++ ([(w64 ((u.tmod 65536)))]:List Int)).length) (fun zi=>cI ((a ++ ([(w64 ((u.tmod 65536)))]:List Int)).getD zi 0)))]) 146 [(65536:Int) ≠ 0,a.length = a.length,(a.length+1) * 8≤140737488355328,0+1≤1,∀ zi,zi < 1→AV.oneL ((fun zi=>([[(aI (w64 ((u.tmod 65536))))]]:List (List AV)).getD zi []) (addz 0 zi)) = true,(a.length+1) = (a ++ ([(w64 ((u.tmod 65536)))]:List Int)).length,a.length+1 = (a ++ ([(w64 ((u.tmod 65536)))]:List Int)).length,∀ zi,zi < (a ++ ([(w64 ((u.tmod 65536)))]:List Int)).length→(fun zi=>cI ((a ++ ([(w64 ((u.tmod 65536)))]:List Int)).getD zi 0)) zi = ((fun zm=>if zm < a.length then (fun zi=>cI (a.getD zi 0)) zm else (fun zi=>([[(aI (w64 ((u.tmod 65536))))]]:List (List AV)).getD zi []) (zm - a.length))) zi] ⟨(by decide),rfl,c,z0,(oneN rfl),(len_app_raw rfl rfl),(len_app_raw rfl rfl),(get_app_raw cI 0 a ([(w64 ((u.tmod 65536)))]:List Int) rfl (fun _ _=>rfl) (fun zq hzq=>get_chunk cI 0 ([(w64 ((u.tmod 65536)))]:List Int) zq hzq)),trivial⟩ ?_
      refine Runs.sA 1 [.code (C_77 995),.inLoop (C_77 248),.inBlock 0,.code (C_77 63)] ?_
      refine Runs.sR hE ⟨[(0,(aI n)),(2,(.op 0 0 0)),(3,(.os 114 0 ((a ++ ([(w64 ((u.tmod 65536)))]:List Int)).length))),(4,(.atom (.int .u64 (IntKind.u64.wrap (u.tdiv 65536)))))],[(0,vO 2 [(aB false),.nil]),(114,aO 1 cI 0 (a ++ ([(w64 ((u.tmod 65536)))]:List Int)))],194⟩ (C_77 995) [] [] (kp [0,2,3,4]) (kq [0,114]) 194 [(65536:Int) ≠ 0] ⟨(by decide),trivial⟩ ?_
      refine Runs.sA 1 [.code (C_77 248),.inLoop (C_77 248),.inBlock 0,.code (C_77 63)] ?_
      exact Runs.sW hE _ [] (kp [0,2,3,4]) (kq [0] ++ [(1,.keep 114)]) 2 [] trivial (ih (a ++ ([(w64 ((u.tmod 65536)))]:List Int)) (IntKind.u64.wrap (u.tdiv 65536)) _ h E hE)
    · have h:=condF h hq3
      refine Runs.sA 2 [.code (C_77 126),.code (C_77 127)] ?_
      obtain ⟨rmade,hr,h⟩:=bindSome h
      refine Runs.sR hE ⟨[(2,(.op 0 0 0))],[(0,vO 2 (TInt.cells rmade))],114⟩ (C_77 126) [(3,⟨[],true,(.agg (TInt.cells rmade)),[],0,true,none⟩)] [] (kp [2]) (kq [0]) 114 [Sound Tryz.prog 91 [(aB (decide (n < 0))),(encL cI 0 a)] [] 0 (.agg (TInt.cells rmade)) [],0+a.length≤a.length,0 < 1] ⟨(g_r01_made_ok N (decide (n < 0)) a rmade hr),z0,o1,trivial⟩ ?_
      obtain rfl:=Option.some.inj h
      refine Runs.sW hE ⟨[(2,(.op 16 0 0))],[(16,vO 2 (TInt.cells rmade))],114⟩ [] (kp [2]) [(16,.keep 0)] 114 [] trivial ?_
      exact Runs.sT Tryz.f68 [16] [0 < 1] ⟨o1,trivial⟩
theorem g_r01_Of_ok (N:Nat) (n:Int) (r:TInt) (h:g_r01_Of N n = some r):Sound Tryz.prog 68 [(aI n)] [] 0 (.agg (TInt.cells r)) []:=by
  unfold g_r01_Of at h
  refine Sound.of_runs (fu:=Tryz.f68) (c:=C_77 1) (nt:=25) (by kernel_rfl) (by kernel_rfl) (by kernel_rfl) (by kernel_rfl) (fun hm=>rfl) ?_
  intro E hE
  refine Runs.sA 1 [.code (C_77 2),.code (C_77 3)] ?_
  refine Runs.sR hE ⟨[(0,(aI n)),(2,(.op 0 0 0))],[(0,vO 2 [(aB false),.nil])],16⟩ (C_77 2) [] [] (kp [0,2]) (kq [0]) 16 [] trivial ?_
  refine Runs.sA 1 [.code (C_77 6),.code (C_77 7)] ?_
  refine Runs.sR hE ⟨[(0,(aI n)),(2,(.op 0 0 0)),(3,.nil)],[(0,vO 2 [(aB false),.nil])],32⟩ (C_77 6) [] [] (kp [0,2,3]) (kq [0]) 32 [] trivial ?_
  refine Runs.sA 1 [.code (C_77 14),.code (C_77 15)] ?_
  refine Runs.sR hE ⟨[(0,(aI n)),(2,(.op 0 0 0)),(3,.nil),(4,(.atom (.int .u64 (IntKind.u64.wrap (n)))))],[(0,vO 2 [(aB false),.nil])],80⟩ (C_77 14) [] [] (kp [0,2,3,4]) (kq [0]) 80 [] trivial ?_
  refine Runs.sA 2 [.code (C_77 60),.code (C_77 61),.code (C_77 31)] ?_
  refine Runs.sR hE ⟨[(0,(aI n)),(2,(.op 0 0 0)),(3,.nil),(4,(.atom (.int .u64 (IntKind.u64.wrap (n))))),(8,(aB (decide (n < 0))))],[(0,vO 2 [(aB false),.nil])],112⟩ (C_77 60) [] [] (kp [0,2,3,4,8]) (kq [0]) 112 [] trivial ?_
  refine Runs.sC 8 (C_77 122) (C_77 123) (decide (n < 0)) (fun hq2=>?_) (fun hq2=>?_)
  · have h:=condT h hq2
    refine Runs.sR hE ⟨[(0,(aI n)),(2,(.op 0 0 0)),(3,.nil),(4,(.atom (.int .u64 (IntKind.u64.wrap (0 - (IntKind.u64.wrap (n)))))))],[(0,vO 2 [(aB false),.nil])],160⟩ (C_77 122) [] [] (kp [0,2,3,4]) (kq [0]) 160 [] trivial ?_
    refine Runs.sA 3 [.code (C_77 248),.inLoop (C_77 248),.inBlock 0,.code (C_77 63)] ?_
    exact Runs.sW hE _ [] (kp [0,2] ++ [(3,.nilos 1)] ++ kp [4]) (kq [0] ++ [(1,.nil 1 (fun zi=>cI (([]:List Int).getD zi 0)))]) 2 [] trivial (g_r01_Of_L1_ok N n N ([]:List Int) (IntKind.u64.wrap (0 - (IntKind.u64.wrap (n)))) _ h E hE)
  · have h:=condF h hq2
    refine Runs.sA 4 [.code (C_77 248),.inLoop (C_77 248),.inBlock 0,.code (C_77 63)] ?_
    exact Runs.sW hE _ [] (kp [0,2] ++ [(3,.nilos 1)] ++ kp [4]) (kq [0] ++ [(1,.nil 1 (fun zi=>cI (([]:List Int).getD zi 0)))]) 2 [] trivial (g_r01_Of_L1_ok N n N ([]:List Int) (IntKind.u64.wrap (n)) _ h E hE)
noncomputable def C_76 (n:Nat):Code:=cat (bodyOf Tryz.f38) (pth n)
theorem g_r01_Q_ok (N:Nat) (n:Int) (r:TRat) (h:g_r01_Q N n = some r):Sound Tryz.prog 38 [(aI n)] [] 0 (.agg (TRat.cells r)) []:=by
  unfold g_r01_Q at h
  refine Sound.of_runs (fu:=Tryz.f38) (c:=C_76 1) (nt:=7) (by kernel_rfl) (by kernel_rfl) (by kernel_rfl) (by kernel_rfl) (fun hm=>rfl) ?_
  intro E hE
  refine Runs.sA 1 [.code (C_76 2),.code (C_76 3)] ?_
  refine Runs.sR hE ⟨[(0,(aI n)),(2,(.op 0 0 0))],[(0,vO 4 [(aB false),.nil,(aB false),.nil])],16⟩ (C_76 2) [] [] (kp [0,2]) (kq [0]) 16 [] trivial ?_
  refine Runs.sA 1 [.code (C_76 6),.code (C_76 7)] ?_
  obtain ⟨rOf,hr,h⟩:=bindSome h
  obtain ⟨rOf2,hr2,h⟩:=bindSome h
  refine Runs.sR hE ⟨[(2,(.op 0 0 0))],[(0,vO 4 [(aB rOf.f_Neg),(encL (cU .u16) 0 rOf.f_Limbs),(aB rOf2.f_Neg),(encL (cU .u16) 0 rOf2.f_Limbs)])],96⟩ (C_76 6) [(1,⟨[],true,(.agg (TInt.cells rOf)),[],0,false,none⟩),(2,⟨[],true,(.agg (TInt.cells rOf2)),[],0,false,none⟩)] [] (kp [2]) (kq [0]) 96 [Sound Tryz.prog 68 [(aI n)] [] 0 (.agg (TInt.cells rOf)) [],Sound Tryz.prog 68 [(aI 1)] [] 0 (.agg (TInt.cells rOf2)) [],0 < 1] ⟨(g_r01_Of_ok N n rOf hr),(g_r01_Of_ok N 1 rOf2 hr2),o1,trivial⟩ ?_
  obtain rfl:=Option.some.inj h
  refine Runs.sW hE ⟨[(2,(.op 16 0 0))],[(16,vO 4 [(aB rOf.f_Neg),(encL (cU .u16) 0 rOf.f_Limbs),(aB rOf2.f_Neg),(encL (cU .u16) 0 rOf2.f_Limbs)])],96⟩ [] (kp [2]) [(16,.keep 0)] 96 [] trivial ?_
  exact Runs.sT Tryz.f38 [16] [0 < 1] ⟨o1,trivial⟩
noncomputable def C_79 (n:Nat):Code:=cat (bodyOf Tryz.f39) (pth n)
theorem g_r05_loads_L1_ok (N:Nat) (p:TPontoon) (steps:List Int) (fuel:Nat):∀ (out:List TPointMass) (i:Int) (r:(List TPointMass)),g_r05_loads_L1 N p steps fuel out i = some r→∀ E,EnvOk E 0→Runs Tryz.prog E 39 45 (SPost E [] (encL TPointMass.cells TPointMass.d r)) [.code (C_79 116),.inLoop (C_79 116),.inBlock 0,.code (C_79 15)] ⟨[(1,(encL cI 0 steps)),(2,(.op 0 0 0)),(5,(.os 1 0 out.length)),(6,(aI i))],[(0,vO 5 (TPontoon.cells p)),(1,aO 3 TPointMass.cells TPointMass.d out)],2⟩:=by
  induction fuel with
  | zero=>intro _ _ r h; rw [g_r05_loads_L1.eq_1] at h; cases h
  | succ fuel ih =>
    intro out i r h E hE
    rw [g_r05_loads_L1.eq_2] at h
    refine Runs.sA 2 [.code (C_79 464),.code (C_79 465),.code (C_79 233),.inLoop (C_79 116),.inBlock 0,.code (C_79 15)] ?_
    refine Runs.sR hE ⟨[(1,(encL cI 0 steps)),(2,(.op 0 0 0)),(5,(.os 1 0 out.length)),(6,(aI i)),(14,(aB (decide (i < ((steps.length:Nat):Int)))))],[(0,vO 5 (TPontoon.cells p)),(1,aO 3 TPointMass.cells TPointMass.d out)],66⟩ (C_79 464) [] [] (kp [1,2,5,6,14]) (kq [0,1]) 66 [] trivial ?_
    refine Runs.sC 14 (C_79 930) (C_79 931) (decide (i < ((steps.length:Nat):Int))) (fun hq2=>?_) (fun hq2=>?_)
    · have h:=condT h hq2
      refine Runs.sA 3 [.code (C_79 932),.inBlock 1,.code (C_79 467),.inLoop (C_79 116),.inBlock 0,.code (C_79 15)] ?_
      obtain ⟨c2,h⟩:=ifSome h
      obtain ⟨c3,h⟩:=ifSome h
      obtain ⟨c4,h⟩:=ifSome h
      refine Runs.sR hE ⟨[(1,(encL cI 0 steps)),(2,(.op 0 0 0)),(5,(.os 482 0 ((out ++ ([(⟨(p.f_Tanks.getD ((i).toNat) TTank.d).f_X,(p.f_Tanks.getD ((i).toNat) TTank.d).f_Y,(w64 ((steps.getD ((i).toNat) 0) * (p.f_Tanks.getD ((i).toNat) TTank.d).f_Mass))⟩:TPointMass)]:List TPointMass)).length))),(6,(aI i))],[(0,vO 5 (TPontoon.cells p)),(482,aO 3 TPointMass.cells TPointMass.d (out ++ ([(⟨(p.f_Tanks.getD ((i).toNat) TTank.d).f_X,(p.f_Tanks.getD ((i).toNat) TTank.d).f_Y,(w64 ((steps.getD ((i).toNat) 0) * (p.f_Tanks.getD ((i).toNat) TTank.d).f_Mass))⟩:TPointMass)]:List TPointMass)))],514⟩ (C_79 932) [] [] (kp [1,2] ++ [(5,.osl ((out ++ ([(⟨(p.f_Tanks.getD ((i).toNat) TTank.d).f_X,(p.f_Tanks.getD ((i).toNat) TTank.d).f_Y,(w64 ((steps.getD ((i).toNat) 0) * (p.f_Tanks.getD ((i).toNat) TTank.d).f_Mass))⟩:TPointMass)]:List TPointMass)).length))] ++ kp [6]) (kq [0] ++ [(482,.arr 482 ((out ++ ([(⟨(p.f_Tanks.getD ((i).toNat) TTank.d).f_X,(p.f_Tanks.getD ((i).toNat) TTank.d).f_Y,(w64 ((steps.getD ((i).toNat) 0) * (p.f_Tanks.getD ((i).toNat) TTank.d).f_Mass))⟩:TPointMass)]:List TPointMass)).length) (fun zi=>TPointMass.cells ((out ++ ([(⟨(p.f_Tanks.getD ((i).toNat) TTank.d).f_X,(p.f_Tanks.getD ((i).toNat) TTank.d).f_Y,(w64 ((steps.getD ((i).toNat) 0) * (p.f_Tanks.getD ((i).toNat) TTank.d).f_Mass))⟩:TPointMass)]:List TPointMass)).getD zi TPointMass.d)))]) 514 [0 < 1,0≤i∧i < ((p.f_Tanks.length:Nat):Int),0 < 1,0≤i∧i < ((p.f_Tanks.length:Nat):Int),0≤i∧i < ((steps.length:Nat):Int),0 < 1,0≤i∧i < ((p.f_Tanks.length:Nat):Int),out.length = out.length,(out.length+1) * 24≤140737488355328,0+1≤1,∀ zi,zi < 1→AV.oneL ((fun zi=>([[(aI ((p.f_Tanks.getD ((i).toNat) TTank.d).f_X)),(aI ((p.f_Tanks.getD ((i).toNat) TTank.d).f_Y)),(aI (w64 ((steps.getD ((i).toNat) 0) * (p.f_Tanks.getD ((i).toNat) TTank.d).f_Mass)))]]:List (List AV)).getD zi []) (addz 0 zi)) = true,(out.length+1) = (out ++ ([(⟨(p.f_Tanks.getD ((i).toNat) TTank.d).f_X,(p.f_Tanks.getD ((i).toNat) TTank.d).f_Y,(w64 ((steps.getD ((i).toNat) 0) * (p.f_Tanks.getD ((i).toNat) TTank.d).f_Mass))⟩:TPointMass)]:List TPointMass)).length,out.length+1 = (out ++ ([(⟨(p.f_Tanks.getD ((i).toNat) TTank.d).f_X,(p.f_Tanks.getD ((i).toNat) TTank.d).f_Y,(w64 ((steps.getD ((i).toNat) 0) * (p.f_Tanks.getD ((i).toNat) TTank.d).f_Mass))⟩:TPointMass)]:List TPointMass)).length,∀ zi,zi < (out ++ ([(⟨(p.f_Tanks.getD ((i).toNat) TTank.d).f_X,(p.f_Tanks.getD ((i).toNat) TTank.d).f_Y,(w64 ((steps.getD ((i).toNat) 0) * (p.f_Tanks.getD ((i).toNat) TTank.d).f_Mass))⟩:TPointMass)]:List TPointMass)).length→(fun zi=>TPointMass.cells ((out ++ ([(⟨(p.f_Tanks.getD ((i).toNat) TTank.d).f_X,(p.f_Tanks.getD ((i).toNat) TTank.d).f_Y,(w64 ((steps.getD ((i).toNat) 0) * (p.f_Tanks.getD ((i).toNat) TTank.d).f_Mass))⟩:TPointMass)]:List TPointMass)).getD zi TPointMass.d)) zi = ((fun zm=>if zm < out.length then (fun zi=>TPointMass.cells (out.getD zi TPointMass.d)) zm else (fun zi=>([[(aI ((p.f_Tanks.getD ((i).toNat) TTank.d).f_X)),(aI ((p.f_Tanks.getD ((i).toNat) TTank.d).f_Y)),(aI (w64 ((steps.getD ((i).toNat) 0) * (p.f_Tanks.getD ((i).toNat) TTank.d).f_Mass)))]]:List (List AV)).getD zi []) (zm - out.length))) zi] ⟨o1,c2,o1,c2,c3,o1,c2,rfl,c4,z0,(oneN rfl),(len_app_raw rfl rfl),(len_app_raw rfl rfl),(get_app_raw TPointMass.cells TPointMass.d out ([(⟨(p.f_Tanks.getD ((i).toNat) TTank.d).f_X,(p.f_Tanks.getD ((i).toNat) TTank.d).f_Y,(w64 ((steps.getD ((i).toNat) 0) * (p.f_Tanks.getD ((i).toNat) TTank.d).f_Mass))⟩:TPointMass)]:List TPointMass) rfl (fun _ _=>rfl) (fun zq hzq=>get_chunk TPointMass.cells TPointMass.d ([(⟨(p.f_Tanks.getD ((i).toNat) TTank.d).f_X,(p.f_Tanks.getD ((i).toNat) TTank.d).f_Y,(w64 ((steps.getD ((i).toNat) 0) * (p.f_Tanks.getD ((i).toNat) TTank.d).f_Mass))⟩:TPointMass)]:List TPointMass) zq hzq)),trivial⟩ ?_
      refine Runs.sA 1 [.code (C_79 467),.inLoop (C_79 116),.inBlock 0,.code (C_79 15)] ?_
      refine Runs.sR hE ⟨[(1,(encL cI 0 steps)),(2,(.op 0 0 0)),(5,(.os 482 0 ((out ++ ([(⟨(p.f_Tanks.getD ((i).toNat) TTank.d).f_X,(p.f_Tanks.getD ((i).toNat) TTank.d).f_Y,(w64 ((steps.getD ((i).toNat) 0) * (p.f_Tanks.getD ((i).toNat) TTank.d).f_Mass))⟩:TPointMass)]:List TPointMass)).length))),(6,(aI (w64 (i+1))))],[(0,vO 5 (TPontoon.cells p)),(482,aO 3 TPointMass.cells TPointMass.d (out ++ ([(⟨(p.f_Tanks.getD ((i).toNat) TTank.d).f_X,(p.f_Tanks.getD ((i).toNat) TTank.d).f_Y,(w64 ((steps.getD ((i).toNat) 0) * (p.f_Tanks.getD ((i).toNat) TTank.d).f_Mass))⟩:TPointMass)]:List TPointMass)))],562⟩ (C_79 467) [] [] (kp [1,2,5,6]) (kq [0,482]) 562 [] trivial ?_
      refine Runs.sA 1 [.code (C_79 116),.inLoop (C_79 116),.inBlock 0,.code (C_79 15)] ?_
      exact Runs.sW hE _ [] (kp [1,2,5,6]) (kq [0] ++ [(1,.keep 482)]) 2 [] trivial (ih (out ++ ([(⟨(p.f_Tanks.getD ((i).toNat) TTank.d).f_X,(p.f_Tanks.getD ((i).toNat) TTank.d).f_Y,(w64 ((steps.getD ((i).toNat) 0) * (p.f_Tanks.getD ((i).toNat) TTank.d).f_Mass))⟩:TPointMass)]:List TPointMass)) (w64 (i+1)) _ h E hE)
    · have h:=condF h hq2
      refine Runs.sA 2 [.code (C_79 30),.code (C_79 31)] ?_
      refine Runs.sR hE ⟨[(4,(.os 1 0 out.length))],[(1,aO 3 TPointMass.cells TPointMass.d out)],98⟩ (C_79 30) [] [] (kp [4]) (kq [1]) 98 [] trivial ?_
      obtain rfl:=Option.some.inj h
      refine Runs.sW hE ⟨[(4,(encL TPointMass.cells TPointMass.d out))],[],98⟩ [1] [(4,.sl (out.length) (fun zi=>TPointMass.cells (out.getD zi TPointMass.d)))] [] 98 [out.length = out.length,0+out.length≤out.length,∀ zi,zi < out.length→(fun zi=>TPointMass.cells (out.getD zi TPointMass.d)) zi = (fun zi=>TPointMass.cells (out.getD zi TPointMass.d)) (addz 0 zi)] ⟨rfl,z0,(fun _ _=>rfl),trivial⟩ ?_
      exact Runs.sT Tryz.f39 [] [] trivial
theorem g_r05_loads_ok (N:Nat) (p:TPontoon) (steps:List Int) (r:(List TPointMass)) (h:g_r05_loads N p steps = some r):Sound Tryz.prog 39 [(.agg (TPontoon.cells p)),(encL cI 0 steps)] [] 0 (encL TPointMass.cells TPointMass.d r) []:=by
  unfold g_r05_loads at h
  refine Sound.of_runs (fu:=Tryz.f39) (c:=C_79 1) (nt:=45) (by kernel_rfl) (by kernel_rfl) (by kernel_rfl) (by kernel_rfl) (fun hm=>rfl) ?_
  intro E hE
  refine Runs.sA 1 [.code (C_79 2),.code (C_79 3)] ?_
  refine Runs.sR hE ⟨[(1,(encL cI 0 steps)),(2,(.op 0 0 0))],[(0,vO 5 (TPontoon.cells p))],32⟩ (C_79 2) [] [] (kp [1,2]) (kq [0]) 32 [] trivial ?_
  refine Runs.sA 1 [.code (C_79 6),.code (C_79 7)] ?_
  obtain ⟨c,h⟩:=ifSome h
  refine Runs.sR hE ⟨[(1,(encL cI 0 steps)),(2,(.op 0 0 0)),(5,(.os 80 0 ((([]:List TPointMass) ++ p.f_Masses).length)))],[(0,vO 5 (TPontoon.cells p)),(80,aO 3 TPointMass.cells TPointMass.d (([]:List TPointMass) ++ p.f_Masses))],112⟩ (C_79 6) [] [] (kp [1,2] ++ [(5,.osl ((([]:List TPointMass) ++ p.f_Masses).length))]) (kq [0] ++ [(80,.arr 80 ((([]:List TPointMass) ++ p.f_Masses).length) (fun zi=>TPointMass.cells ((([]:List TPointMass) ++ p.f_Masses).getD zi TPointMass.d)))]) 112 [0 < 1,0 = 0,(0+p.f_Masses.length) * 24≤140737488355328,∀ zi,zi < p.f_Masses.length→AV.oneL ((fun zi=>TPointMass.cells (p.f_Masses.getD zi TPointMass.d)) zi) = true,(0+p.f_Masses.length) = (([]:List TPointMass) ++ p.f_Masses).length,0+p.f_Masses.length = (([]:List TPointMass) ++ p.f_Masses).length,∀ zi,zi < (([]:List TPointMass) ++ p.f_Masses).length→(fun zi=>TPointMass.cells ((([]:List TPointMass) ++ p.f_Masses).getD zi TPointMass.d)) zi = ((fun zm=>if zm < 0 then (fun _=>[]) zm else (fun zi=>TPointMass.cells (p.f_Masses.getD zi TPointMass.d)) (zm - 0))) zi] ⟨o1,rfl,c,(fun _ _=>rfl),(len_app_raw rfl rfl),(len_app_raw rfl rfl),(get_app_raw TPointMass.cells TPointMass.d ([]:List TPointMass) p.f_Masses rfl (fun zq hzq=>absurd hzq (Nat.not_lt_zero _)) (fun _ _=>rfl)),trivial⟩ ?_
  refine Runs.sA 2 [.code (C_79 28),.code (C_79 29),.code (C_79 15)] ?_
  refine Runs.sR hE ⟨[(1,(encL cI 0 steps)),(2,(.op 0 0 0)),(5,(.os 80 0 ((([]:List TPointMass) ++ p.f_Masses).length))),(6,(aI 0))],[(0,vO 5 (TPontoon.cells p)),(80,aO 3 TPointMass.cells TPointMass.d (([]:List TPointMass) ++ p.f_Masses))],128⟩ (C_79 28) [] [] (kp [1,2,5,6]) (kq [0,80]) 128 [] trivial ?_
  refine Runs.sA 2 [.code (C_79 116),.inLoop (C_79 116),.inBlock 0,.code (C_79 15)] ?_
  exact Runs.sW hE _ [] (kp [1,2,5,6]) (kq [0] ++ [(1,.keep 80)]) 2 [] trivial (g_r05_loads_L1_ok N p steps N (([]:List TPointMass) ++ p.f_Masses) 0 _ h E hE)
noncomputable def C_84 (n:Nat):Code:=cat (bodyOf Tryz.f113) (pth n)
theorem g_r01_trim_L1_ok (N:Nat) (a:List Int) (fuel:Nat):∀ (n:Int) (r:(List Int)),g_r01_trim_L1 N a fuel n = some r→∀ E,EnvOk E 0→Runs Tryz.prog E 113 23 (SPost E [] (encL cI 0 r)) [.code (C_84 56),.inLoop (C_84 56),.inBlock 0,.code (C_84 15)] ⟨[(0,(encL cI 0 a)),(3,(aI n))],[],0⟩:=by
  induction fuel with
  | zero=>intro _ r h; rw [g_r01_trim_L1.eq_1] at h; cases h
  | succ fuel ih =>
    intro n r h E hE
    rw [g_r01_trim_L1.eq_2] at h
    refine Runs.sA 2 [.code (C_84 224),.code (C_84 225),.code (C_84 113),.inLoop (C_84 56),.inBlock 0,.code (C_84 15)] ?_
    obtain ⟨c,h⟩:=ifSome h
    refine Runs.sR hE ⟨[(0,(encL cI 0 a)),(3,(aI n)),(15,(aB (cond (decide (n > 0)) ((a.getD ((w64 (n - 1)).toNat) 0) == 0) false)))],[],160⟩ (C_84 224) [] [] (kp [0,3,15]) [] 160 [(decide (n > 0)) = true→AllP [(decide (n > 0)) = true],(decide (n > 0)) = true→AllP [(decide (n > 0)) = true,(decide (n > 0)) = true,0≤(w64 (n - 1))∧(w64 (n - 1)) < ((a.length:Nat):Int)],(decide (n > 0)) = true→AllP [(decide (n > 0)) = true],(decide (n > 0)) = true→AllP [(decide (n > 0)) = true],(decide (n > 0)) = true→AllP [(decide (n > 0)) = true]] ⟨(fun hg=>⟨hg,trivial⟩),(fun hg=>⟨hg,hg,(c hg),trivial⟩),(fun hg=>⟨hg,trivial⟩),(fun hg=>⟨hg,trivial⟩),(fun hq=>⟨hq,trivial⟩),trivial⟩ ?_
    refine Runs.sC 15 (C_84 450) (C_84 451) (cond (decide (n > 0)) ((a.getD ((w64 (n - 1)).toNat) 0) == 0) false) (fun hq2=>?_) (fun hq2=>?_)
    · have h:=condT h hq2
      refine Runs.sA 2 [.code (C_84 226),.inBlock 1,.inLoop (C_84 56),.inBlock 0,.code (C_84 15)] ?_
      refine Runs.sR hE ⟨[(0,(encL cI 0 a)),(3,(aI (w64 (n - 1))))],[],208⟩ (C_84 226) [] [] (kp [0,3]) [] 208 [] trivial ?_
      refine Runs.sA 2 [.code (C_84 56),.inLoop (C_84 56),.inBlock 0,.code (C_84 15)] ?_
      exact Runs.sW hE _ [] (kp [0,3]) [] 0 [] trivial (ih (w64 (n - 1)) _ h E hE)
    · have h:=condF h hq2
      refine Runs.sA 2 [.code (C_84 30),.code (C_84 31)] ?_
      obtain ⟨c2,h⟩:=ifSome h
      obtain ⟨c3,h⟩:=ifSome h
      obtain ⟨c4,h⟩:=ifSome h
      refine Runs.sR hE ⟨[(2,(.os 224 0 ((([]:List Int) ++ ((a.take ((n).toNat)).drop 0)).length)))],[(224,aO 1 cI 0 (([]:List Int) ++ ((a.take ((n).toNat)).drop 0)))],256⟩ (C_84 30) [] [] [(2,.osl ((([]:List Int) ++ ((a.take ((n).toNat)).drop 0)).length))] [(224,.arr 224 ((([]:List Int) ++ ((a.take ((n).toNat)).drop 0)).length) (fun zi=>cI ((([]:List Int) ++ ((a.take ((n).toNat)).drop 0)).getD zi 0)))] 256 [0≤(n).toNat∧(n).toNat≤a.length,0≤n,0 = 0,(0+(n).toNat - 0) * 8≤140737488355328,∀ zi,zi < (n).toNat - 0→AV.oneL ((fun zi=>cI (a.getD (addz 0 zi) 0)) zi) = true,(0+(n).toNat - 0) = (([]:List Int) ++ ((a.take ((n).toNat)).drop 0)).length,0+(n).toNat - 0 = (([]:List Int) ++ ((a.take ((n).toNat)).drop 0)).length,∀ zi,zi < (([]:List Int) ++ ((a.take ((n).toNat)).drop 0)).length→(fun zi=>cI ((([]:List Int) ++ ((a.take ((n).toNat)).drop 0)).getD zi 0)) zi = ((fun zm=>if zm < 0 then (fun _=>[]) zm else (fun zi=>cI (a.getD (addz 0 zi) 0)) (zm - 0))) zi] ⟨c2,c3,rfl,c4,(fun _ _=>rfl),(len_app_raw rfl (len_ext' a 0 ((n).toNat) c2)),(len_app_raw rfl (len_ext' a 0 ((n).toNat) c2)),(get_app_raw cI 0 ([]:List Int) ((a.take ((n).toNat)).drop 0) rfl (fun zq hzq=>absurd hzq (Nat.not_lt_zero _)) (fun zq hzq=>get_ext cI 0 a 0 ((n).toNat) zq hzq)),trivial⟩ ?_
      obtain rfl:=Option.some.inj h
      refine Runs.sW hE ⟨[(2,(encL cI 0 (([]:List Int) ++ ((a.take ((n).toNat)).drop 0))))],[],256⟩ [224] [(2,.sl ((([]:List Int) ++ ((a.take ((n).toNat)).drop 0)).length) (fun zi=>cI ((([]:List Int) ++ ((a.take ((n).toNat)).drop 0)).getD zi 0)))] [] 256 [(([]:List Int) ++ ((a.take ((n).toNat)).drop 0)).length = (([]:List Int) ++ ((a.take ((n).toNat)).drop 0)).length,0+(([]:List Int) ++ ((a.take ((n).toNat)).drop 0)).length≤(([]:List Int) ++ ((a.take ((n).toNat)).drop 0)).length,∀ zi,zi < (([]:List Int) ++ ((a.take ((n).toNat)).drop 0)).length→(fun zi=>cI ((([]:List Int) ++ ((a.take ((n).toNat)).drop 0)).getD zi 0)) zi = (fun zi=>cI ((([]:List Int) ++ ((a.take ((n).toNat)).drop 0)).getD zi 0)) (addz 0 zi)] ⟨rfl,z0,(fun _ _=>rfl),trivial⟩ ?_
      exact Runs.sT Tryz.f113 [] [] trivial
theorem g_r01_trim_ok (N:Nat) (a:List Int) (r:(List Int)) (h:g_r01_trim N a = some r):Sound Tryz.prog 113 [(encL cI 0 a)] [] 0 (encL cI 0 r) []:=by
  unfold g_r01_trim at h
  refine Sound.of_runs (fu:=Tryz.f113) (c:=C_84 1) (nt:=23) (by kernel_rfl) (by kernel_rfl) (by kernel_rfl) (by kernel_rfl) (fun hm=>rfl) ?_
  intro E hE
  refine Runs.sA 1 [.code (C_84 2),.code (C_84 3)] ?_
  refine Runs.sR hE ⟨[(0,(encL cI 0 a))],[],16⟩ (C_84 2) [] [] (kp [0]) [] 16 [] trivial ?_
  refine Runs.sA 1 [.code (C_84 6),.code (C_84 7)] ?_
  refine Runs.sR hE ⟨[(0,(encL cI 0 a)),(3,(aI ((a.length:Nat):Int)))],[],64⟩ (C_84 6) [] [] (kp [0,3]) [] 64 [] trivial ?_
  refine Runs.sA 3 [.code (C_84 56),.inLoop (C_84 56),.inBlock 0,.code (C_84 15)] ?_
  exact Runs.sW hE _ [] (kp [0,3]) [] 0 [] trivial (g_r01_trim_L1_ok N a N ((a.length:Nat):Int) _ h E hE)
noncomputable def C_83 (n:Nat):Code:=cat (bodyOf Tryz.f92) (pth n)
theorem g_r01_read_L1_ok (N:Nat) (l:List Int) (fuel:Nat):∀ (a:List Int) (i:Int) (r:(List Int)),g_r01_read_L1 N l fuel a i = some r→∀ E,EnvOk E 0→Runs Tryz.prog E 92 21 (SPost E [] (encL cI 0 r)) [.code (C_83 116),.inLoop (C_83 116),.inBlock 0,.code (C_83 15)] ⟨[(0,(encL (cU .u16) 0 l)),(3,(.os 0 0 a.length)),(4,(aI i))],[(0,aO 1 cI 0 a)],1⟩:=by
  induction fuel with
  | zero=>intro _ _ r h; rw [g_r01_read_L1.eq_1] at h; cases h
  | succ fuel ih =>
    intro a i r h E hE
    rw [g_r01_read_L1.eq_2] at h
    refine Runs.sA 2 [.code (C_83 464),.code (C_83 465),.code (C_83 233),.inLoop (C_83 116),.inBlock 0,.code (C_83 15)] ?_
    refine Runs.sR hE ⟨[(0,(encL (cU .u16) 0 l)),(3,(.os 0 0 a.length)),(4,(aI i)),(8,(aB (decide (i < ((l.length:Nat):Int)))))],[(0,aO 1 cI 0 a)],65⟩ (C_83 464) [] [] (kp [0,3,4,8]) (kq [0]) 65 [] trivial ?_
    refine Runs.sC 8 (C_83 930) (C_83 931) (decide (i < ((l.length:Nat):Int))) (fun hq2=>?_) (fun hq2=>?_)
    · have h:=condT h hq2
      refine Runs.sA 3 [.code (C_83 932),.inBlock 1,.code (C_83 467),.inLoop (C_83 116),.inBlock 0,.code (C_83 15)] ?_
      obtain ⟨c,h⟩:=ifSome h
      obtain ⟨c2,h⟩:=ifSome h
      refine Runs.sR hE ⟨[(0,(encL (cU .u16) 0 l)),(3,(.os 177 0 ((a ++ ([(w64 ((l.getD ((i).toNat) 0)))]:List Int)).length))),(4,(aI i))],[(177,aO 1 cI 0 (a ++ ([(w64 ((l.getD ((i).toNat) 0)))]:List Int)))],209⟩ (C_83 932) [] [] (kp [0] ++ [(3,.osl ((a ++ ([(w64 ((l.getD ((i).toNat) 0)))]:List Int)).length))] ++ kp [4]) [(177,.arr 177 ((a ++ ([(w64 ((l.getD ((i).toNat) 0)))]:List Int)).length) (fun zi=>cI ((a ++ ([(w64 ((l.getD ((i).toNat) 0)))]:List Int)).getD zi 0)))] 209 [0≤i∧i < ((l.length:Nat):Int),a.length = a.length,(a.length+1) * 8≤140737488355328,0+1≤1,∀ zi,zi < 1→AV.oneL ((fun zi=>([[(aI (w64 ((l.getD ((i).toNat) 0))))]]:List (List AV)).getD zi []) (addz 0 zi)) = true,(a.length+1) = (a ++ ([(w64 ((l.getD ((i).toNat) 0)))]:List Int)).length,a.length+1 = (a ++ ([(w64 ((l.getD ((i).toNat) 0)))]:List Int)).length,∀ zi,zi < (a ++ ([(w64 ((l.getD ((i).toNat) 0)))]:List Int)).length→(fun zi=>cI ((a ++ ([(w64 ((l.getD ((i).toNat) 0)))]:List Int)).getD zi 0)) zi = ((fun zm=>if zm < a.length then (fun zi=>cI (a.getD zi 0)) zm else (fun zi=>([[(aI (w64 ((l.getD ((i).toNat) 0))))]]:List (List AV)).getD zi []) (zm - a.length))) zi] ⟨c,rfl,c2,z0,(oneN rfl),(len_app_raw rfl rfl),(len_app_raw rfl rfl),(get_app_raw cI 0 a ([(w64 ((l.getD ((i).toNat) 0)))]:List Int) rfl (fun _ _=>rfl) (fun zq hzq=>get_chunk cI 0 ([(w64 ((l.getD ((i).toNat) 0)))]:List Int) zq hzq)),trivial⟩ ?_
      refine Runs.sA 1 [.code (C_83 467),.inLoop (C_83 116),.inBlock 0,.code (C_83 15)] ?_
      refine Runs.sR hE ⟨[(0,(encL (cU .u16) 0 l)),(3,(.os 177 0 ((a ++ ([(w64 ((l.getD ((i).toNat) 0)))]:List Int)).length))),(4,(aI (w64 (i+1))))],[(177,aO 1 cI 0 (a ++ ([(w64 ((l.getD ((i).toNat) 0)))]:List Int)))],257⟩ (C_83 467) [] [] (kp [0,3,4]) (kq [177]) 257 [] trivial ?_
      refine Runs.sA 1 [.code (C_83 116),.inLoop (C_83 116),.inBlock 0,.code (C_83 15)] ?_
      exact Runs.sW hE _ [] (kp [0,3,4]) [(0,.keep 177)] 1 [] trivial (ih (a ++ ([(w64 ((l.getD ((i).toNat) 0)))]:List Int)) (w64 (i+1)) _ h E hE)
    · have h:=condF h hq2
      refine Runs.sA 2 [.code (C_83 30),.code (C_83 31)] ?_
      obtain ⟨rtrim,hr,h⟩:=bindSome h
      refine Runs.sR hE ⟨[(2,(encL cI 0 rtrim))],[],113⟩ (C_83 30) [(1,⟨[],true,(encL cI 0 rtrim),[],0,true,none⟩)] [] (kp [2]) [] 113 [Sound Tryz.prog 113 [(encL cI 0 a)] [] 0 (encL cI 0 rtrim) [],0+a.length≤a.length] ⟨(g_r01_trim_ok N a rtrim hr),z0,trivial⟩ ?_
      obtain rfl:=Option.some.inj h
      refine Runs.sW hE ⟨[(2,(encL cI 0 rtrim))],[],113⟩ [] (kp [2]) [] 113 [] trivial ?_
      exact Runs.sT Tryz.f92 [] [] trivial
theorem g_r01_read_ok (N:Nat) (l:List Int) (r:(List Int)) (h:g_r01_read N l = some r):Sound Tryz.prog 92 [(encL (cU .u16) 0 l)] [] 0 (encL cI 0 r) []:=by
  unfold g_r01_read at h
  refine Sound.of_runs (fu:=Tryz.f92) (c:=C_83 1) (nt:=21) (by kernel_rfl) (by kernel_rfl) (by kernel_rfl) (by kernel_rfl) (fun hm=>rfl) ?_
  intro E hE
  refine Runs.sA 1 [.code (C_83 2),.code (C_83 3)] ?_
  refine Runs.sR hE ⟨[(0,(encL (cU .u16) 0 l))],[],16⟩ (C_83 2) [] [] (kp [0]) [] 16 [] trivial ?_
  refine Runs.sA 1 [.code (C_83 6),.code (C_83 7)] ?_
  refine Runs.sR hE ⟨[(0,(encL (cU .u16) 0 l)),(3,.nil)],[],32⟩ (C_83 6) [] [] (kp [0,3]) [] 32 [] trivial ?_
  refine Runs.sA 2 [.code (C_83 28),.code (C_83 29),.code (C_83 15)] ?_
  refine Runs.sR hE ⟨[(0,(encL (cU .u16) 0 l)),(3,.nil),(4,(aI 0))],[],48⟩ (C_83 28) [] [] (kp [0,3,4]) [] 48 [] trivial ?_
  refine Runs.sA 2 [.code (C_83 116),.inLoop (C_83 116),.inBlock 0,.code (C_83 15)] ?_
  exact Runs.sW hE _ [] (kp [0] ++ [(3,.nilos 0)] ++ kp [4]) [(0,.nil 1 (fun zi=>cI (([]:List Int).getD zi 0)))] 1 [] trivial (g_r01_read_L1_ok N l N ([]:List Int) 0 _ h E hE)
noncomputable def C_88 (n:Nat):Code:=cat (bodyOf Tryz.f114) (pth n)
theorem g_r01_digit_ok (N:Nat) (a:List Int) (i:Int) (r:Int) (h:g_r01_digit N a i = some r):Sound Tryz.prog 114 [(encL cI 0 a),(aI i)] [] 0 (aI r) []:=by
  unfold g_r01_digit at h
  refine Sound.of_runs (fu:=Tryz.f114) (c:=C_88 1) (nt:=13) (by kernel_rfl) (by kernel_rfl) (by kernel_rfl) (by kernel_rfl) (fun hm=>rfl) ?_
  intro E hE
  refine Runs.sA 1 [.code (C_88 2),.code (C_88 3)] ?_
  refine Runs.sR hE ⟨[(0,(encL cI 0 a)),(1,(aI i))],[],16⟩ (C_88 2) [] [] (kp [0,1]) [] 16 [] trivial ?_
  refine Runs.sA 2 [.code (C_88 12),.code (C_88 13),.code (C_88 7)] ?_
  refine Runs.sR hE ⟨[(0,(encL cI 0 a)),(1,(aI i)),(8,(aB (decide (i < ((a.length:Nat):Int)))))],[],80⟩ (C_88 12) [] [] (kp [0,1,8]) [] 80 [] trivial ?_
  refine Runs.sC 8 (C_88 26) (C_88 27) (decide (i < ((a.length:Nat):Int))) (fun hq2=>?_) (fun hq2=>?_)
  · have h:=condT h hq2
    refine Runs.sA 1 [.code (C_88 52),.code (C_88 53),.code (C_88 7)] ?_
    obtain ⟨c,h⟩:=ifSome h
    refine Runs.sR hE ⟨[(4,(aI (a.getD ((i).toNat) 0)))],[],160⟩ (C_88 52) [] [] (kp [4]) [] 160 [0≤i∧i < ((a.length:Nat):Int)] ⟨c,trivial⟩ ?_
    obtain rfl:=Option.some.inj h
    refine Runs.sW hE ⟨[(4,(aI (a.getD ((i).toNat) 0)))],[],160⟩ [] (kp [4]) [] 160 [] trivial ?_
    exact Runs.sT Tryz.f114 [] [] trivial
  · have h:=condF h hq2
    refine Runs.sA 2 [.code (C_88 14),.code (C_88 15)] ?_
    refine Runs.sR hE ⟨[(4,(aI 0))],[],96⟩ (C_88 14) [] [] (kp [4]) [] 96 [] trivial ?_
    obtain rfl:=Option.some.inj h
    refine Runs.sW hE ⟨[(4,(aI 0))],[],96⟩ [] (kp [4]) [] 96 [] trivial ?_
    exact Runs.sT Tryz.f114 [] [] trivial
noncomputable def C_87 (n:Nat):Code:=cat (bodyOf Tryz.f98) (pth n)
theorem g_r01_times_L2_ok (N:Nat) (a:List Int) (b:List Int) (i:Int) (K_g_r01_times_L1:(List Int)→Int→Option ((List Int)))
    (hK_g_r01_times_L1:∀ (out:List Int) (i:Int) (r:(List Int)),K_g_r01_times_L1 out i = some r→∀ E,EnvOk E 0→Runs Tryz.prog E 98 61 (SPost E [] (encL cI 0 r)) [.code (C_87 116),.inLoop (C_87 116),.inBlock 0,.code (C_87 15)] ⟨[(0,(encL cI 0 a)),(1,(encL cI 0 b)),(5,(.os 0 0 out.length)),(6,(aI i))],[(0,aO 1 cI 0 out)],1⟩) (fuel:Nat):∀ (out2:List Int) (carry:Int) (k:Int) (r:(List Int)),g_r01_times_L2 N a b i K_g_r01_times_L1 fuel out2 carry k = some r→∀ E,EnvOk E 0→Runs Tryz.prog E 98 61 (SPost E [] (encL cI 0 r)) [.code (C_87 14924),.inLoop (C_87 14924),.inBlock 2,.inBlock 1,.code (C_87 467),.inLoop (C_87 116),.inBlock 0,.code (C_87 15)] ⟨[(0,(encL cI 0 a)),(1,(encL cI 0 b)),(5,(.os 0 0 out2.length)),(6,(aI i)),(7,(aI carry)),(8,(aI k))],[(0,aO 1 cI 0 out2)],1⟩:=by
  induction fuel with
  | zero=>intro _ _ _ r h; rw [g_r01_times_L2.eq_1] at h; cases h
  | succ fuel ih =>
    intro out2 carry k r h E hE
    rw [g_r01_times_L2.eq_2] at h
    refine Runs.sA 2 [.code (C_87 59696),.code (C_87 59697),.code (C_87 29849),.inLoop (C_87 14924),.inBlock 2,.inBlock 1,.code (C_87 467),.inLoop (C_87 116),.inBlock 0,.code (C_87 15)] ?_
    refine Runs.sR hE ⟨[(0,(encL cI 0 a)),(1,(encL cI 0 b)),(5,(.os 0 0 out2.length)),(6,(aI i)),(7,(aI carry)),(8,(aI k)),(30,(aB (cond (decide (k < ((b.length:Nat):Int))) true (decide (carry > 0)))))],[(0,aO 1 cI 0 out2)],129⟩ (C_87 59696) [] [] (kp [0,1,5,6,7,8,30]) (kq [0]) 129 [(!(decide (k < ((b.length:Nat):Int)))) = true→AllP [(!(decide (k < ((b.length:Nat):Int)))) = true],(!(decide (k < ((b.length:Nat):Int)))) = true→AllP [(!(decide (k < ((b.length:Nat):Int)))) = true]] ⟨(fun hg=>⟨hg,trivial⟩),(fun hq=>⟨hq,trivial⟩),trivial⟩ ?_
    refine Runs.sC 30 (C_87 119394) (C_87 119395) (cond (decide (k < ((b.length:Nat):Int))) true (decide (carry > 0))) (fun hq3=>?_) (fun hq3=>?_)
    · have h:=condT h hq3
      refine Runs.sA 4 [.code (C_87 238792),.code (C_87 238793),.inBlock 3,.code (C_87 59699),.inLoop (C_87 14924),.inBlock 2,.inBlock 1,.code (C_87 467),.inLoop (C_87 116),.inBlock 0,.code (C_87 15)] ?_
      obtain ⟨c2,h⟩:=ifSome h
      obtain ⟨c3,h⟩:=ifSome h
      obtain ⟨rdigit,hr,h⟩:=bindSome h
      refine Runs.sR hE ⟨[(0,(encL cI 0 a)),(1,(encL cI 0 b)),(5,(.os 0 0 out2.length)),(6,(aI i)),(8,(aI k)),(9,(aI (w64 ((w64 ((out2.getD ((w64 (i+k)).toNat) 0)+(w64 ((a.getD ((i).toNat) 0) * rdigit))))+carry))))],[(0,aO 1 cI 0 out2)],417⟩ (C_87 238792) [(12,⟨[],true,(aI rdigit),[],0,false,none⟩)] [] (kp [0,1,5,6,8,9]) (kq [0]) 417 [0≤(w64 (i+k))∧(w64 (i+k)) < ((out2.length:Nat):Int),(w64 (i+k)).toNat < out2.length,0≤i∧i < ((a.length:Nat):Int),Sound Tryz.prog 114 [(encL cI 0 b),(aI k)] [] 0 (aI rdigit) []] ⟨c2,(ltOf c2),c3,(g_r01_digit_ok N b k rdigit hr),trivial⟩ ?_
      refine Runs.sA 1 [.code (C_87 477586),.code (C_87 477587),.inBlock 3,.code (C_87 59699),.inLoop (C_87 14924),.inBlock 2,.inBlock 1,.code (C_87 467),.inLoop (C_87 116),.inBlock 0,.code (C_87 15)] ?_
      refine Runs.sR hE ⟨[(0,(encL cI 0 a)),(1,(encL cI 0 b)),(5,(.os 0 0 ((out2.set ((w64 (i+k)).toNat) ((w64 ((w64 ((out2.getD ((w64 (i+k)).toNat) 0)+(w64 ((a.getD ((i).toNat) 0) * rdigit))))+carry)).tmod 65536)).length))),(6,(aI i)),(8,(aI k)),(9,(aI (w64 ((w64 ((out2.getD ((w64 (i+k)).toNat) 0)+(w64 ((a.getD ((i).toNat) 0) * rdigit))))+carry))))],[(0,aO 1 cI 0 (out2.set ((w64 (i+k)).toNat) ((w64 ((w64 ((out2.getD ((w64 (i+k)).toNat) 0)+(w64 ((a.getD ((i).toNat) 0) * rdigit))))+carry)).tmod 65536)))],545⟩ (C_87 477586) [] [] (kp [0,1] ++ [(5,.osl ((out2.set ((w64 (i+k)).toNat) ((w64 ((w64 ((out2.getD ((w64 (i+k)).toNat) 0)+(w64 ((a.getD ((i).toNat) 0) * rdigit))))+carry)).tmod 65536)).length))] ++ kp [6,8,9]) [(0,.arr 0 ((out2.set ((w64 (i+k)).toNat) ((w64 ((w64 ((out2.getD ((w64 (i+k)).toNat) 0)+(w64 ((a.getD ((i).toNat) 0) * rdigit))))+carry)).tmod 65536)).length) (fun zi=>cI ((out2.set ((w64 (i+k)).toNat) ((w64 ((w64 ((out2.getD ((w64 (i+k)).toNat) 0)+(w64 ((a.getD ((i).toNat) 0) * rdigit))))+carry)).tmod 65536)).getD zi 0)))] 545 [(65536:Int) ≠ 0,0≤(w64 (i+k))∧(w64 (i+k)) < ((out2.length:Nat):Int),(w64 (i+k)).toNat < out2.length,out2.length = (out2.set ((w64 (i+k)).toNat) ((w64 ((w64 ((out2.getD ((w64 (i+k)).toNat) 0)+(w64 ((a.getD ((i).toNat) 0) * rdigit))))+carry)).tmod 65536)).length,out2.length = (out2.set ((w64 (i+k)).toNat) ((w64 ((w64 ((out2.getD ((w64 (i+k)).toNat) 0)+(w64 ((a.getD ((i).toNat) 0) * rdigit))))+carry)).tmod 65536)).length,∀ zi,zi < (out2.set ((w64 (i+k)).toNat) ((w64 ((w64 ((out2.getD ((w64 (i+k)).toNat) 0)+(w64 ((a.getD ((i).toNat) 0) * rdigit))))+carry)).tmod 65536)).length→(fun zi=>cI ((out2.set ((w64 (i+k)).toNat) ((w64 ((w64 ((out2.getD ((w64 (i+k)).toNat) 0)+(w64 ((a.getD ((i).toNat) 0) * rdigit))))+carry)).tmod 65536)).getD zi 0)) zi = ((fun zm=>if zm = (w64 (i+k)).toNat then [(aI ((w64 ((w64 ((out2.getD ((w64 (i+k)).toNat) 0)+(w64 ((a.getD ((i).toNat) 0) * rdigit))))+carry)).tmod 65536))] else (fun zi=>cI (out2.getD zi 0)) zm)) zi] ⟨(by decide),c2,(ltOf c2),(len_set_raw rfl),(len_set_raw rfl),(get_set_raw cI 0 out2 ((w64 (i+k)).toNat) ((w64 ((w64 ((out2.getD ((w64 (i+k)).toNat) 0)+(w64 ((a.getD ((i).toNat) 0) * rdigit))))+carry)).tmod 65536) (fun _ _=>rfl)),trivial⟩ ?_
      refine Runs.sR hE ⟨[(0,(encL cI 0 a)),(1,(encL cI 0 b)),(5,(.os 0 0 ((out2.set ((w64 (i+k)).toNat) ((w64 ((w64 ((out2.getD ((w64 (i+k)).toNat) 0)+(w64 ((a.getD ((i).toNat) 0) * rdigit))))+carry)).tmod 65536)).length))),(6,(aI i)),(7,(aI (w64 ((w64 ((w64 ((out2.getD ((w64 (i+k)).toNat) 0)+(w64 ((a.getD ((i).toNat) 0) * rdigit))))+carry)).tdiv 65536)))),(8,(aI k))],[(0,aO 1 cI 0 (out2.set ((w64 (i+k)).toNat) ((w64 ((w64 ((out2.getD ((w64 (i+k)).toNat) 0)+(w64 ((a.getD ((i).toNat) 0) * rdigit))))+carry)).tmod 65536)))],593⟩ (C_87 477587) [] [] (kp [0,1,5,6,7,8]) (kq [0]) 593 [(65536:Int) ≠ 0] ⟨(by decide),trivial⟩ ?_
      refine Runs.sA 1 [.code (C_87 59699),.inLoop (C_87 14924),.inBlock 2,.inBlock 1,.code (C_87 467),.inLoop (C_87 116),.inBlock 0,.code (C_87 15)] ?_
      refine Runs.sR hE ⟨[(0,(encL cI 0 a)),(1,(encL cI 0 b)),(5,(.os 0 0 ((out2.set ((w64 (i+k)).toNat) ((w64 ((w64 ((out2.getD ((w64 (i+k)).toNat) 0)+(w64 ((a.getD ((i).toNat) 0) * rdigit))))+carry)).tmod 65536)).length))),(6,(aI i)),(7,(aI (w64 ((w64 ((w64 ((out2.getD ((w64 (i+k)).toNat) 0)+(w64 ((a.getD ((i).toNat) 0) * rdigit))))+carry)).tdiv 65536)))),(8,(aI (w64 (k+1))))],[(0,aO 1 cI 0 (out2.set ((w64 (i+k)).toNat) ((w64 ((w64 ((out2.getD ((w64 (i+k)).toNat) 0)+(w64 ((a.getD ((i).toNat) 0) * rdigit))))+carry)).tmod 65536)))],641⟩ (C_87 59699) [] [] (kp [0,1,5,6,7,8]) (kq [0]) 641 [] trivial ?_
      refine Runs.sA 1 [.code (C_87 14924),.inLoop (C_87 14924),.inBlock 2,.inBlock 1,.code (C_87 467),.inLoop (C_87 116),.inBlock 0,.code (C_87 15)] ?_
      exact Runs.sW hE _ [] (kp [0,1,5,6,7,8]) (kq [0]) 1 [] trivial (ih (out2.set ((w64 (i+k)).toNat) ((w64 ((w64 ((out2.getD ((w64 (i+k)).toNat) 0)+(w64 ((a.getD ((i).toNat) 0) * rdigit))))+carry)).tmod 65536)) (w64 ((w64 ((w64 ((out2.getD ((w64 (i+k)).toNat) 0)+(w64 ((a.getD ((i).toNat) 0) * rdigit))))+carry)).tdiv 65536)) (w64 (k+1)) _ h E hE)
    · have h:=condF h hq3
      refine Runs.sA 2 [.code (C_87 467),.inLoop (C_87 116),.inBlock 0,.code (C_87 15)] ?_
      refine Runs.sR hE ⟨[(0,(encL cI 0 a)),(1,(encL cI 0 b)),(5,(.os 0 0 out2.length)),(6,(aI (w64 (i+1))))],[(0,aO 1 cI 0 out2)],177⟩ (C_87 467) [] [] (kp [0,1,5,6]) (kq [0]) 177 [] trivial ?_
      refine Runs.sA 1 [.code (C_87 116),.inLoop (C_87 116),.inBlock 0,.code (C_87 15)] ?_
      exact Runs.sW hE _ [] (kp [0,1,5,6]) (kq [0]) 1 [] trivial (hK_g_r01_times_L1 out2 (w64 (i+1)) _ h E hE)
theorem g_r01_times_L1_ok (N:Nat) (a:List Int) (b:List Int) (fuel:Nat):∀ (out:List Int) (i:Int) (r:(List Int)),g_r01_times_L1 N a b fuel out i = some r→∀ E,EnvOk E 0→Runs Tryz.prog E 98 61 (SPost E [] (encL cI 0 r)) [.code (C_87 116),.inLoop (C_87 116),.inBlock 0,.code (C_87 15)] ⟨[(0,(encL cI 0 a)),(1,(encL cI 0 b)),(5,(.os 0 0 out.length)),(6,(aI i))],[(0,aO 1 cI 0 out)],1⟩:=by
  induction fuel with
  | zero=>intro _ _ r h; rw [g_r01_times_L1.eq_1] at h; cases h
  | succ fuel ih =>
    intro out i r h E hE
    rw [g_r01_times_L1.eq_2] at h
    refine Runs.sA 2 [.code (C_87 464),.code (C_87 465),.code (C_87 233),.inLoop (C_87 116),.inBlock 0,.code (C_87 15)] ?_
    refine Runs.sR hE ⟨[(0,(encL cI 0 a)),(1,(encL cI 0 b)),(5,(.os 0 0 out.length)),(6,(aI i)),(20,(aB (decide (i < ((a.length:Nat):Int)))))],[(0,aO 1 cI 0 out)],65⟩ (C_87 464) [] [] (kp [0,1,5,6,20]) (kq [0]) 65 [] trivial ?_
    refine Runs.sC 20 (C_87 930) (C_87 931) (decide (i < ((a.length:Nat):Int))) (fun hq2=>?_) (fun hq2=>?_)
    · have h:=condT h hq2
      refine Runs.sA 4 [.code (C_87 1864),.code (C_87 1865),.inBlock 1,.code (C_87 467),.inLoop (C_87 116),.inBlock 0,.code (C_87 15)] ?_
      refine Runs.sR hE ⟨[(0,(encL cI 0 a)),(1,(encL cI 0 b)),(5,(.os 0 0 out.length)),(6,(aI i)),(7,(aI 0))],[(0,aO 1 cI 0 out)],81⟩ (C_87 1864) [] [] (kp [0,1,5,6,7]) (kq [0]) 81 [] trivial ?_
      refine Runs.sA 1 [.code (C_87 3730),.code (C_87 3731),.inBlock 1,.code (C_87 467),.inLoop (C_87 116),.inBlock 0,.code (C_87 15)] ?_
      refine Runs.sR hE ⟨[(0,(encL cI 0 a)),(1,(encL cI 0 b)),(5,(.os 0 0 out.length)),(6,(aI i)),(7,(aI 0)),(8,(aI 0))],[(0,aO 1 cI 0 out)],97⟩ (C_87 3730) [] [] (kp [0,1,5,6,7,8]) (kq [0]) 97 [] trivial ?_
      refine Runs.sA 2 [.code (C_87 14924),.inLoop (C_87 14924),.inBlock 2,.inBlock 1,.code (C_87 467),.inLoop (C_87 116),.inBlock 0,.code (C_87 15)] ?_
      exact Runs.sW hE _ [] (kp [0,1,5,6,7,8]) (kq [0]) 1 [] trivial (g_r01_times_L2_ok N a b i (g_r01_times_L1 N a b fuel) ih N out 0 0 _ h E hE)
    · have h:=condF h hq2
      refine Runs.sA 2 [.code (C_87 30),.code (C_87 31)] ?_
      obtain ⟨rtrim,hr2,h⟩:=bindSome h
      refine Runs.sR hE ⟨[(4,(encL cI 0 rtrim))],[],113⟩ (C_87 30) [(1,⟨[],true,(encL cI 0 rtrim),[],0,true,none⟩)] [] (kp [4]) [] 113 [Sound Tryz.prog 113 [(encL cI 0 out)] [] 0 (encL cI 0 rtrim) [],0+out.length≤out.length] ⟨(g_r01_trim_ok N out rtrim hr2),z0,trivial⟩ ?_
      obtain rfl:=Option.some.inj h
      refine Runs.sW hE ⟨[(4,(encL cI 0 rtrim))],[],113⟩ [] (kp [4]) [] 113 [] trivial ?_
      exact Runs.sT Tryz.f98 [] [] trivial
theorem g_r01_times_ok (N:Nat) (a:List Int) (b:List Int) (r:(List Int)) (h:g_r01_times N a b = some r):Sound Tryz.prog 98 [(encL cI 0 a),(encL cI 0 b)] [] 0 (encL cI 0 r) []:=by
  unfold g_r01_times at h
  refine Sound.of_runs (fu:=Tryz.f98) (c:=C_87 1) (nt:=61) (by kernel_rfl) (by kernel_rfl) (by kernel_rfl) (by kernel_rfl) (fun hm=>rfl) ?_
  intro E hE
  refine Runs.sA 1 [.code (C_87 2),.code (C_87 3)] ?_
  refine Runs.sR hE ⟨[(0,(encL cI 0 a)),(1,(encL cI 0 b))],[],16⟩ (C_87 2) [] [] (kp [0,1]) [] 16 [] trivial ?_
  refine Runs.sA 1 [.code (C_87 6),.code (C_87 7)] ?_
  obtain ⟨c,h⟩:=ifSome h
  refine Runs.sR hE ⟨[(0,(encL cI 0 a)),(1,(encL cI 0 b)),(5,(.os 112 0 ((List.replicate ((w64 ((w64 (((a.length:Nat):Int)+((b.length:Nat):Int)))+1)).toNat) 0:List Int).length)))],[(112,aO 1 cI 0 (List.replicate ((w64 ((w64 (((a.length:Nat):Int)+((b.length:Nat):Int)))+1)).toNat) 0:List Int))],144⟩ (C_87 6) [] [] (kp [0,1] ++ [(5,.osl ((List.replicate ((w64 ((w64 (((a.length:Nat):Int)+((b.length:Nat):Int)))+1)).toNat) 0:List Int).length))]) [(112,.arr 112 ((List.replicate ((w64 ((w64 (((a.length:Nat):Int)+((b.length:Nat):Int)))+1)).toNat) 0:List Int).length) (fun zi=>cI ((List.replicate ((w64 ((w64 (((a.length:Nat):Int)+((b.length:Nat):Int)))+1)).toNat) 0:List Int).getD zi 0)))] 144 [0≤(w64 ((w64 (((a.length:Nat):Int)+((b.length:Nat):Int)))+1)),(w64 ((w64 (((a.length:Nat):Int)+((b.length:Nat):Int)))+1))≤(w64 ((w64 (((a.length:Nat):Int)+((b.length:Nat):Int)))+1)),(8:Int) * (w64 ((w64 (((a.length:Nat):Int)+((b.length:Nat):Int)))+1))≤281474976710656,(w64 ((w64 (((a.length:Nat):Int)+((b.length:Nat):Int)))+1))≤9223372036854775807,(w64 ((w64 (((a.length:Nat):Int)+((b.length:Nat):Int)))+1)).toNat = (List.replicate ((w64 ((w64 (((a.length:Nat):Int)+((b.length:Nat):Int)))+1)).toNat) 0:List Int).length,(w64 ((w64 (((a.length:Nat):Int)+((b.length:Nat):Int)))+1)).toNat = (List.replicate ((w64 ((w64 (((a.length:Nat):Int)+((b.length:Nat):Int)))+1)).toNat) 0:List Int).length,∀ zi,zi < (List.replicate ((w64 ((w64 (((a.length:Nat):Int)+((b.length:Nat):Int)))+1)).toNat) 0:List Int).length→(fun zi=>cI ((List.replicate ((w64 ((w64 (((a.length:Nat):Int)+((b.length:Nat):Int)))+1)).toNat) 0:List Int).getD zi 0)) zi = (fun _=>[(aI 0)]) zi] ⟨c.1,(Int.le_refl _),c.2.1,c.2.2,(List.length_replicate).symm,(List.length_replicate).symm,(fun zq hzq=>get_rep cI 0 0 ((w64 ((w64 (((a.length:Nat):Int)+((b.length:Nat):Int)))+1)).toNat) zq hzq),trivial⟩ ?_
  refine Runs.sA 2 [.code (C_87 28),.code (C_87 29),.code (C_87 15)] ?_
  refine Runs.sR hE ⟨[(0,(encL cI 0 a)),(1,(encL cI 0 b)),(5,(.os 112 0 ((List.replicate ((w64 ((w64 (((a.length:Nat):Int)+((b.length:Nat):Int)))+1)).toNat) 0:List Int).length))),(6,(aI 0))],[(112,aO 1 cI 0 (List.replicate ((w64 ((w64 (((a.length:Nat):Int)+((b.length:Nat):Int)))+1)).toNat) 0:List Int))],160⟩ (C_87 28) [] [] (kp [0,1,5,6]) (kq [112]) 160 [] trivial ?_
  refine Runs.sA 2 [.code (C_87 116),.inLoop (C_87 116),.inBlock 0,.code (C_87 15)] ?_
  exact Runs.sW hE _ [] (kp [0,1,5,6]) [(0,.keep 112)] 1 [] trivial (g_r01_times_L1_ok N a b N (List.replicate ((w64 ((w64 (((a.length:Nat):Int)+((b.length:Nat):Int)))+1)).toNat) 0:List Int) 0 _ h E hE)
noncomputable def C_89 (n:Nat):Code:=cat (bodyOf Tryz.f96) (pth n)
theorem g_r01_compare_L1_ok (N:Nat) (a:List Int) (b:List Int) (fuel:Nat):∀ (i:Int) (r:Int),g_r01_compare_L1 N a b fuel i = some r→∀ E,EnvOk E 0→Runs Tryz.prog E 96 41 (SPost E [] (aI r)) [.code (C_89 116),.inLoop (C_89 116),.inBlock 0,.code (C_89 15)] ⟨[(0,(encL cI 0 a)),(1,(encL cI 0 b)),(5,(aI i))],[],0⟩:=by
  induction fuel with
  | zero=>intro _ r h; rw [g_r01_compare_L1.eq_1] at h; cases h
  | succ fuel ih =>
    intro i r h E hE
    rw [g_r01_compare_L1.eq_2] at h
    refine Runs.sA 2 [.code (C_89 464),.code (C_89 465),.code (C_89 233),.inLoop (C_89 116),.inBlock 0,.code (C_89 15)] ?_
    refine Runs.sR hE ⟨[(0,(encL cI 0 a)),(1,(encL cI 0 b)),(5,(aI i)),(20,(aB (decide (i ≥ 0))))],[],32⟩ (C_89 464) [] [] (kp [0,1,5,20]) [] 32 [] trivial ?_
    refine Runs.sC 20 (C_89 930) (C_89 931) (decide (i ≥ 0)) (fun hq3=>?_) (fun hq3=>?_)
    · have h:=condT h hq3
      refine Runs.sA 4 [.code (C_89 1864),.code (C_89 1865),.inBlock 1,.code (C_89 467),.inLoop (C_89 116),.inBlock 0,.code (C_89 15)] ?_
      obtain ⟨c,h⟩:=ifSome h
      obtain ⟨c2,h⟩:=ifSome h
      refine Runs.sR hE ⟨[(0,(encL cI 0 a)),(1,(encL cI 0 b)),(5,(aI i)),(31,(aB ((a.getD ((i).toNat) 0) != (b.getD ((i).toNat) 0))))],[],176⟩ (C_89 1864) [] [] (kp [0,1,5,31]) [] 176 [0≤i∧i < ((a.length:Nat):Int),0≤i∧i < ((b.length:Nat):Int)] ⟨c,c2,trivial⟩ ?_
      refine Runs.sC 31 (C_89 3730) (C_89 3731) ((a.getD ((i).toNat) 0) != (b.getD ((i).toNat) 0)) (fun hq4=>?_) (fun hq4=>?_)
      · have h:=condT h hq4
        refine Runs.sA 1 [.code (C_89 7460),.code (C_89 7461),.inBlock 1,.code (C_89 467),.inLoop (C_89 116),.inBlock 0,.code (C_89 15)] ?_
        refine Runs.sR hE ⟨[(4,(aI (w64 ((a.getD ((i).toNat) 0) - (b.getD ((i).toNat) 0)))))],[],336⟩ (C_89 7460) [] [] (kp [4]) [] 336 [0≤i∧i < ((a.length:Nat):Int),0≤i∧i < ((b.length:Nat):Int)] ⟨c,c2,trivial⟩ ?_
        obtain rfl:=Option.some.inj h
        refine Runs.sW hE ⟨[(4,(aI (w64 ((a.getD ((i).toNat) 0) - (b.getD ((i).toNat) 0)))))],[],336⟩ [] (kp [4]) [] 336 [] trivial ?_
        exact Runs.sT Tryz.f96 [] [] trivial
      · have h:=condF h hq4
        refine Runs.sA 2 [.code (C_89 467),.inLoop (C_89 116),.inBlock 0,.code (C_89 15)] ?_
        refine Runs.sR hE ⟨[(0,(encL cI 0 a)),(1,(encL cI 0 b)),(5,(aI (w64 (i - 1))))],[],224⟩ (C_89 467) [] [] (kp [0,1,5]) [] 224 [] trivial ?_
        refine Runs.sA 1 [.code (C_89 116),.inLoop (C_89 116),.inBlock 0,.code (C_89 15)] ?_
        exact Runs.sW hE _ [] (kp [0,1,5]) [] 0 [] trivial (ih (w64 (i - 1)) _ h E hE)
    · have h:=condF h hq3
      refine Runs.sA 2 [.code (C_89 30),.code (C_89 31)] ?_
      refine Runs.sR hE ⟨[(4,(aI 0))],[],48⟩ (C_89 30) [] [] (kp [4]) [] 48 [] trivial ?_
      obtain rfl:=Option.some.inj h
      refine Runs.sW hE ⟨[(4,(aI 0))],[],48⟩ [] (kp [4]) [] 48 [] trivial ?_
      exact Runs.sT Tryz.f96 [] [] trivial
theorem g_r01_compare_ok (N:Nat) (a:List Int) (b:List Int) (r:Int) (h:g_r01_compare N a b = some r):Sound Tryz.prog 96 [(encL cI 0 a),(encL cI 0 b)] [] 0 (aI r) []:=by
  unfold g_r01_compare at h
  refine Sound.of_runs (fu:=Tryz.f96) (c:=C_89 1) (nt:=41) (by kernel_rfl) (by kernel_rfl) (by kernel_rfl) (by kernel_rfl) (fun hm=>rfl) ?_
  intro E hE
  refine Runs.sA 1 [.code (C_89 2),.code (C_89 3)] ?_
  refine Runs.sR hE ⟨[(0,(encL cI 0 a)),(1,(encL cI 0 b))],[],16⟩ (C_89 2) [] [] (kp [0,1]) [] 16 [] trivial ?_
  refine Runs.sA 2 [.code (C_89 12),.code (C_89 13),.code (C_89 7)] ?_
  refine Runs.sR hE ⟨[(0,(encL cI 0 a)),(1,(encL cI 0 b)),(10,(aB (((a.length:Nat):Int) != ((b.length:Nat):Int))))],[],96⟩ (C_89 12) [] [] (kp [0,1,10]) [] 96 [] trivial ?_
  refine Runs.sC 10 (C_89 26) (C_89 27) (((a.length:Nat):Int) != ((b.length:Nat):Int)) (fun hq2=>?_) (fun hq2=>?_)
  · have h:=condT h hq2
    refine Runs.sA 1 [.code (C_89 52),.code (C_89 53),.code (C_89 7)] ?_
    refine Runs.sR hE ⟨[(4,(aI (w64 (((a.length:Nat):Int) - ((b.length:Nat):Int)))))],[],192⟩ (C_89 52) [] [] (kp [4]) [] 192 [] trivial ?_
    obtain rfl:=Option.some.inj h
    refine Runs.sW hE ⟨[(4,(aI (w64 (((a.length:Nat):Int) - ((b.length:Nat):Int)))))],[],192⟩ [] (kp [4]) [] 192 [] trivial ?_
    exact Runs.sT Tryz.f96 [] [] trivial
  · have h:=condF h hq2
    refine Runs.sA 3 [.code (C_89 28),.code (C_89 29),.code (C_89 15)] ?_
    refine Runs.sR hE ⟨[(0,(encL cI 0 a)),(1,(encL cI 0 b)),(5,(aI (w64 (((a.length:Nat):Int) - 1))))],[],160⟩ (C_89 28) [] [] (kp [0,1,5]) [] 160 [] trivial ?_
    refine Runs.sA 2 [.code (C_89 116),.inLoop (C_89 116),.inBlock 0,.code (C_89 15)] ?_
    exact Runs.sW hE _ [] (kp [0,1,5]) [] 0 [] trivial (g_r01_compare_L1_ok N a b N (w64 (((a.length:Nat):Int) - 1)) _ h E hE)
noncomputable def C_90 (n:Nat):Code:=cat (bodyOf Tryz.f97) (pth n)
theorem g_r01_minus_J2_ok (N:Nat) (a:List Int) (b:List Int) (out:List Int) (i:Int) (K_g_r01_minus_L1:(List Int)→Int→Int→Option ((List Int)))
    (hK_g_r01_minus_L1:∀ (out:List Int) (borrow:Int) (i:Int) (r:(List Int)),K_g_r01_minus_L1 out borrow i = some r→∀ E,EnvOk E 0→Runs Tryz.prog E 97 35 (SPost E [] (encL cI 0 r)) [.code (C_90 244),.inLoop (C_90 244),.inBlock 0,.code (C_90 31)] ⟨[(0,(encL cI 0 a)),(1,(encL cI 0 b)),(5,(.os 0 0 out.length)),(6,(aI borrow)),(7,(aI i))],[(0,aO 1 cI 0 out)],1⟩) (borrow2:Int) (s:Int) (r:(List Int)) (h:g_r01_minus_J2 N a b out i K_g_r01_minus_L1 borrow2 s = some r):∀ E,EnvOk E 0→Runs Tryz.prog E 97 35 (SPost E [] (encL cI 0 r)) [.code (C_90 15655),.inBlock 1,.code (C_90 979),.inLoop (C_90 244),.inBlock 0,.code (C_90 31)] ⟨[(0,(encL cI 0 a)),(1,(encL cI 0 b)),(5,(.os 0 0 out.length)),(6,(aI borrow2)),(7,(aI i)),(8,(aI s))],[(0,aO 1 cI 0 out)],1⟩:=by
  intro E hE
  unfold g_r01_minus_J2 at h
  obtain ⟨c2,h⟩:=ifSome h
  refine Runs.sR hE ⟨[(0,(encL cI 0 a)),(1,(encL cI 0 b)),(5,(.os 49 0 ((out ++ ([s]:List Int)).length))),(6,(aI borrow2)),(7,(aI i))],[(49,aO 1 cI 0 (out ++ ([s]:List Int)))],81⟩ (C_90 15655) [] [] (kp [0,1] ++ [(5,.osl ((out ++ ([s]:List Int)).length))] ++ kp [6,7]) [(49,.arr 49 ((out ++ ([s]:List Int)).length) (fun zi=>cI ((out ++ ([s]:List Int)).getD zi 0)))] 81 [out.length = out.length,(out.length+1) * 8≤140737488355328,0+1≤1,∀ zi,zi < 1→AV.oneL ((fun zi=>([[(aI s)]]:List (List AV)).getD zi []) (addz 0 zi)) = true,(out.length+1) = (out ++ ([s]:List Int)).length,out.length+1 = (out ++ ([s]:List Int)).length,∀ zi,zi < (out ++ ([s]:List Int)).length→(fun zi=>cI ((out ++ ([s]:List Int)).getD zi 0)) zi = ((fun zm=>if zm < out.length then (fun zi=>cI (out.getD zi 0)) zm else (fun zi=>([[(aI s)]]:List (List AV)).getD zi []) (zm - out.length))) zi] ⟨rfl,c2,z0,(oneN rfl),(len_app_raw rfl rfl),(len_app_raw rfl rfl),(get_app_raw cI 0 out ([s]:List Int) rfl (fun _ _=>rfl) (fun zq hzq=>get_chunk cI 0 ([s]:List Int) zq hzq)),trivial⟩ ?_
  refine Runs.sA 1 [.code (C_90 979),.inLoop (C_90 244),.inBlock 0,.code (C_90 31)] ?_
  refine Runs.sR hE ⟨[(0,(encL cI 0 a)),(1,(encL cI 0 b)),(5,(.os 49 0 ((out ++ ([s]:List Int)).length))),(6,(aI borrow2)),(7,(aI (w64 (i+1))))],[(49,aO 1 cI 0 (out ++ ([s]:List Int)))],129⟩ (C_90 979) [] [] (kp [0,1,5,6,7]) (kq [49]) 129 [] trivial ?_
  refine Runs.sA 1 [.code (C_90 244),.inLoop (C_90 244),.inBlock 0,.code (C_90 31)] ?_
  exact Runs.sW hE _ [] (kp [0,1,5,6,7]) [(0,.keep 49)] 1 [] trivial (hK_g_r01_minus_L1 (out ++ ([s]:List Int)) borrow2 (w64 (i+1)) _ h E hE)
theorem g_r01_minus_L1_ok (N:Nat) (a:List Int) (b:List Int) (fuel:Nat):∀ (out:List Int) (borrow:Int) (i:Int) (r:(List Int)),g_r01_minus_L1 N a b fuel out borrow i = some r→∀ E,EnvOk E 0→Runs Tryz.prog E 97 35 (SPost E [] (encL cI 0 r)) [.code (C_90 244),.inLoop (C_90 244),.inBlock 0,.code (C_90 31)] ⟨[(0,(encL cI 0 a)),(1,(encL cI 0 b)),(5,(.os 0 0 out.length)),(6,(aI borrow)),(7,(aI i))],[(0,aO 1 cI 0 out)],1⟩:=by
  induction fuel with
  | zero=>intro _ _ _ r h; rw [g_r01_minus_L1.eq_1] at h; cases h
  | succ fuel ih =>
    intro out borrow i r h E hE
    rw [g_r01_minus_L1.eq_2] at h
    refine Runs.sA 2 [.code (C_90 976),.code (C_90 977),.code (C_90 489),.inLoop (C_90 244),.inBlock 0,.code (C_90 31)] ?_
    refine Runs.sR hE ⟨[(0,(encL cI 0 a)),(1,(encL cI 0 b)),(5,(.os 0 0 out.length)),(6,(aI borrow)),(7,(aI i)),(12,(aB (decide (i < ((a.length:Nat):Int)))))],[(0,aO 1 cI 0 out)],65⟩ (C_90 976) [] [] (kp [0,1,5,6,7,12]) (kq [0]) 65 [] trivial ?_
    refine Runs.sC 12 (C_90 1954) (C_90 1955) (decide (i < ((a.length:Nat):Int))) (fun hq2=>?_) (fun hq2=>?_)
    · have h:=condT h hq2
      refine Runs.sA 4 [.code (C_90 3912),.code (C_90 3913),.inBlock 1,.code (C_90 979),.inLoop (C_90 244),.inBlock 0,.code (C_90 31)] ?_
      obtain ⟨c,h⟩:=ifSome h
      obtain ⟨rdigit,hr,h⟩:=bindSome h
      refine Runs.sR hE ⟨[(0,(encL cI 0 a)),(1,(encL cI 0 b)),(5,(.os 0 0 out.length)),(7,(aI i)),(8,(aI (w64 ((w64 ((a.getD ((i).toNat) 0) - rdigit)) - borrow))))],[(0,aO 1 cI 0 out)],241⟩ (C_90 3912) [(6,⟨[],true,(aI rdigit),[],0,false,none⟩)] [] (kp [0,1,5,7,8]) (kq [0]) 241 [0≤i∧i < ((a.length:Nat):Int),Sound Tryz.prog 114 [(encL cI 0 b),(aI i)] [] 0 (aI rdigit) []] ⟨c,(g_r01_digit_ok N b i rdigit hr),trivial⟩ ?_
      refine Runs.sA 1 [.code (C_90 7826),.code (C_90 7827),.inBlock 1,.code (C_90 979),.inLoop (C_90 244),.inBlock 0,.code (C_90 31)] ?_
      refine Runs.sR hE ⟨[(0,(encL cI 0 a)),(1,(encL cI 0 b)),(5,(.os 0 0 out.length)),(6,(aI 0)),(7,(aI i)),(8,(aI (w64 ((w64 ((a.getD ((i).toNat) 0) - rdigit)) - borrow))))],[(0,aO 1 cI 0 out)],257⟩ (C_90 7826) [] [] (kp [0,1,5,6,7,8]) (kq [0]) 257 [] trivial ?_
      refine Runs.sA 2 [.code (C_90 31308),.code (C_90 31309),.code (C_90 15655),.inBlock 1,.code (C_90 979),.inLoop (C_90 244),.inBlock 0,.code (C_90 31)] ?_
      refine Runs.sR hE ⟨[(0,(encL cI 0 a)),(1,(encL cI 0 b)),(5,(.os 0 0 out.length)),(6,(aI 0)),(7,(aI i)),(8,(aI (w64 ((w64 ((a.getD ((i).toNat) 0) - rdigit)) - borrow)))),(26,(aB (decide ((w64 ((w64 ((a.getD ((i).toNat) 0) - rdigit)) - borrow)) < 0))))],[(0,aO 1 cI 0 out)],289⟩ (C_90 31308) [] [] (kp [0,1,5,6,7,8,26]) (kq [0]) 289 [] trivial ?_
      refine Runs.sC 26 (C_90 62618) (C_90 62619) (decide ((w64 ((w64 ((a.getD ((i).toNat) 0) - rdigit)) - borrow)) < 0)) (fun hq3=>?_) (fun hq3=>?_)
      · have h:=condT h hq3
        refine Runs.sA 1 [.code (C_90 125236),.code (C_90 125237),.code (C_90 15655),.inBlock 1,.code (C_90 979),.inLoop (C_90 244),.inBlock 0,.code (C_90 31)] ?_
        refine Runs.sR hE ⟨[(0,(encL cI 0 a)),(1,(encL cI 0 b)),(5,(.os 0 0 out.length)),(7,(aI i)),(8,(aI (w64 ((w64 ((w64 ((a.getD ((i).toNat) 0) - rdigit)) - borrow))+65536))))],[(0,aO 1 cI 0 out)],337⟩ (C_90 125236) [] [] (kp [0,1,5,7,8]) (kq [0]) 337 [] trivial ?_
        refine Runs.sR hE ⟨[(0,(encL cI 0 a)),(1,(encL cI 0 b)),(5,(.os 0 0 out.length)),(6,(aI 1)),(7,(aI i)),(8,(aI (w64 ((w64 ((w64 ((a.getD ((i).toNat) 0) - rdigit)) - borrow))+65536))))],[(0,aO 1 cI 0 out)],353⟩ (C_90 125237) [] [] (kp [0,1,5,6,7,8]) (kq [0]) 353 [] trivial ?_
        exact Runs.sW hE _ [] (kp [0,1,5,6,7,8]) (kq [0]) 1 [] trivial (g_r01_minus_J2_ok N a b out i (g_r01_minus_L1 N a b fuel) ih 1 (w64 ((w64 ((w64 ((a.getD ((i).toNat) 0) - rdigit)) - borrow))+65536)) _ h E hE)
      · have h:=condF h hq3
        refine Runs.sA 1 [.code (C_90 15655),.inBlock 1,.code (C_90 979),.inLoop (C_90 244),.inBlock 0,.code (C_90 31)] ?_
        exact Runs.sW hE _ [] (kp [0,1,5,6,7,8]) (kq [0]) 1 [] trivial (g_r01_minus_J2_ok N a b out i (g_r01_minus_L1 N a b fuel) ih 0 (w64 ((w64 ((a.getD ((i).toNat) 0) - rdigit)) - borrow)) _ h E hE)
    · have h:=condF h hq2
      refine Runs.sA 2 [.code (C_90 62),.code (C_90 63)] ?_
      obtain ⟨rtrim,hr2,h⟩:=bindSome h
      refine Runs.sR hE ⟨[(4,(encL cI 0 rtrim))],[],113⟩ (C_90 62) [(1,⟨[],true,(encL cI 0 rtrim),[],0,true,none⟩)] [] (kp [4]) [] 113 [Sound Tryz.prog 113 [(encL cI 0 out)] [] 0 (encL cI 0 rtrim) [],0+out.length≤out.length] ⟨(g_r01_trim_ok N out rtrim hr2),z0,trivial⟩ ?_
      obtain rfl:=Option.some.inj h
      refine Runs.sW hE ⟨[(4,(encL cI 0 rtrim))],[],113⟩ [] (kp [4]) [] 113 [] trivial ?_
      exact Runs.sT Tryz.f97 [] [] trivial
theorem g_r01_minus_ok (N:Nat) (a:List Int) (b:List Int) (r:(List Int)) (h:g_r01_minus N a b = some r):Sound Tryz.prog 97 [(encL cI 0 a),(encL cI 0 b)] [] 0 (encL cI 0 r) []:=by
  unfold g_r01_minus at h
  refine Sound.of_runs (fu:=Tryz.f97) (c:=C_90 1) (nt:=35) (by kernel_rfl) (by kernel_rfl) (by kernel_rfl) (by kernel_rfl) (fun hm=>rfl) ?_
  intro E hE
  refine Runs.sA 1 [.code (C_90 2),.code (C_90 3)] ?_
  refine Runs.sR hE ⟨[(0,(encL cI 0 a)),(1,(encL cI 0 b))],[],16⟩ (C_90 2) [] [] (kp [0,1]) [] 16 [] trivial ?_
  refine Runs.sA 1 [.code (C_90 6),.code (C_90 7)] ?_
  refine Runs.sR hE ⟨[(0,(encL cI 0 a)),(1,(encL cI 0 b)),(5,.nil)],[],32⟩ (C_90 6) [] [] (kp [0,1,5]) [] 32 [] trivial ?_
  refine Runs.sA 1 [.code (C_90 14),.code (C_90 15)] ?_
  refine Runs.sR hE ⟨[(0,(encL cI 0 a)),(1,(encL cI 0 b)),(5,.nil),(6,(aI 0))],[],48⟩ (C_90 14) [] [] (kp [0,1,5,6]) [] 48 [] trivial ?_
  refine Runs.sA 2 [.code (C_90 60),.code (C_90 61),.code (C_90 31)] ?_
  refine Runs.sR hE ⟨[(0,(encL cI 0 a)),(1,(encL cI 0 b)),(5,.nil),(6,(aI 0)),(7,(aI 0))],[],64⟩ (C_90 60) [] [] (kp [0,1,5,6,7]) [] 64 [] trivial ?_
  refine Runs.sA 2 [.code (C_90 244),.inLoop (C_90 244),.inBlock 0,.code (C_90 31)] ?_
  exact Runs.sW hE _ [] (kp [0,1] ++ [(5,.nilos 0)] ++ kp [6,7]) [(0,.nil 1 (fun zi=>cI (([]:List Int).getD zi 0)))] 1 [] trivial (g_r01_minus_L1_ok N a b N ([]:List Int) 0 0 _ h E hE)
noncomputable def C_86 (n:Nat):Code:=cat (bodyOf Tryz.f94) (pth n)
theorem g_r01_over_J3_ok (N:Nat) (a:List Int) (b:List Int) (q:List Int) (i:Int) (lo:Int) (K_g_r01_over_L1:(List Int)→(List Int)→Int→Option ((List Int) × (List Int)))
    (hK_g_r01_over_L1:∀ (rest:List Int) (q:List Int) (i:Int) (r:(List Int) × (List Int)),K_g_r01_over_L1 rest q i = some r→∀ E,EnvOk E 0→Runs Tryz.prog E 94 63 (SPost E [] (.tup [(encL cI 0 r.1),(encL cI 0 r.2)])) [.code (C_86 244),.inLoop (C_86 244),.inBlock 0,.code (C_86 31)] ⟨[(0,(encL cI 0 a)),(1,(encL cI 0 b)),(6,(encL cI 0 rest)),(7,(.os 0 0 q.length)),(8,(aI i))],[(0,aO 1 cI 0 q)],1⟩) (rest2:List Int) (r:(List Int) × (List Int)) (h:g_r01_over_J3 N a b q i lo K_g_r01_over_L1 rest2 = some r):∀ E,EnvOk E 0→Runs Tryz.prog E 94 63 (SPost E [] (.tup [(encL cI 0 r.1),(encL cI 0 r.2)])) [.code (C_86 979),.inLoop (C_86 244),.inBlock 0,.code (C_86 31)] ⟨[(0,(encL cI 0 a)),(1,(encL cI 0 b)),(6,(encL cI 0 rest2)),(7,(.os 0 0 ((q.set ((i).toNat) lo).length))),(8,(aI i))],[(0,aO 1 cI 0 (q.set ((i).toNat) lo))],1⟩:=by
  intro E hE
  unfold g_r01_over_J3 at h
  refine Runs.sR hE ⟨[(0,(encL cI 0 a)),(1,(encL cI 0 b)),(6,(encL cI 0 rest2)),(7,(.os 0 0 ((q.set ((i).toNat) lo).length))),(8,(aI (w64 (i - 1))))],[(0,aO 1 cI 0 (q.set ((i).toNat) lo))],49⟩ (C_86 979) [] [] (kp [0,1,6,7,8]) (kq [0]) 49 [] trivial ?_
  refine Runs.sA 1 [.code (C_86 244),.inLoop (C_86 244),.inBlock 0,.code (C_86 31)] ?_
  exact Runs.sW hE _ [] (kp [0,1,6,7,8]) (kq [0]) 1 [] trivial (hK_g_r01_over_L1 rest2 (q.set ((i).toNat) lo) (w64 (i - 1)) _ h E hE)
theorem g_r01_over_L2_ok (N:Nat) (a:List Int) (b:List Int) (q:List Int) (i:Int) (rtrim:(List Int)) (K_g_r01_over_L1:(List Int)→(List Int)→Int→Option ((List Int) × (List Int)))
    (hK_g_r01_over_L1:∀ (rest:List Int) (q:List Int) (i:Int) (r:(List Int) × (List Int)),K_g_r01_over_L1 rest q i = some r→∀ E,EnvOk E 0→Runs Tryz.prog E 94 63 (SPost E [] (.tup [(encL cI 0 r.1),(encL cI 0 r.2)])) [.code (C_86 244),.inLoop (C_86 244),.inBlock 0,.code (C_86 31)] ⟨[(0,(encL cI 0 a)),(1,(encL cI 0 b)),(6,(encL cI 0 rest)),(7,(.os 0 0 q.length)),(8,(aI i))],[(0,aO 1 cI 0 q)],1⟩) (fuel:Nat):∀ (lo:Int) (hi:Int) (r:(List Int) × (List Int)),g_r01_over_L2 N a b q i rtrim K_g_r01_over_L1 fuel lo hi = some r→∀ E,EnvOk E 0→Runs Tryz.prog E 94 63 (SPost E [] (.tup [(encL cI 0 r.1),(encL cI 0 r.2)])) [.code (C_86 62616),.inLoop (C_86 62616),.inBlock 2,.code (C_86 15655),.inBlock 1,.code (C_86 979),.inLoop (C_86 244),.inBlock 0,.code (C_86 31)] ⟨[(0,(encL cI 0 a)),(1,(encL cI 0 b)),(6,(encL cI 0 rtrim)),(7,(.os 0 0 q.length)),(8,(aI i)),(9,(aI lo)),(10,(aI hi))],[(0,aO 1 cI 0 q)],1⟩:=by
  induction fuel with
  | zero=>intro _ _ r h; rw [g_r01_over_L2.eq_1] at h; cases h
  | succ fuel ih =>
    intro lo hi r h E hE
    rw [g_r01_over_L2.eq_2] at h
    refine Runs.sA 2 [.code (C_86 250464),.code (C_86 250465),.code (C_86 125233),.inLoop (C_86 62616),.inBlock 2,.code (C_86 15655),.inBlock 1,.code (C_86 979),.inLoop (C_86 244),.inBlock 0,.code (C_86 31)] ?_
    refine Runs.sR hE ⟨[(0,(encL cI 0 a)),(1,(encL cI 0 b)),(6,(encL cI 0 rtrim)),(7,(.os 0 0 q.length)),(8,(aI i)),(9,(aI lo)),(10,(aI hi)),(32,(aB (decide (lo < hi))))],[(0,aO 1 cI 0 q)],49⟩ (C_86 250464) [] [] (kp [0,1,6,7,8,9,10,32]) (kq [0]) 49 [] trivial ?_
    refine Runs.sC 32 (C_86 500930) (C_86 500931) (decide (lo < hi)) (fun hq3=>?_) (fun hq3=>?_)
    · have h:=condT h hq3
      refine Runs.sA 3 [.code (C_86 500932),.code (C_86 500933),.inBlock 3,.inLoop (C_86 62616),.inBlock 2,.code (C_86 15655),.inBlock 1,.code (C_86 979),.inLoop (C_86 244),.inBlock 0,.code (C_86 31)] ?_
      refine Runs.sR hE ⟨[(0,(encL cI 0 a)),(1,(encL cI 0 b)),(6,(encL cI 0 rtrim)),(7,(.os 0 0 q.length)),(8,(aI i)),(9,(aI lo)),(10,(aI hi)),(11,(aI (w64 ((w64 ((w64 (lo+hi))+1)).tdiv 2))))],[(0,aO 1 cI 0 q)],145⟩ (C_86 500932) [] [] (kp [0,1,6,7,8,9,10,11]) (kq [0]) 145 [(2:Int) ≠ 0] ⟨(by decide),trivial⟩ ?_
      refine Runs.sA 1 [.code (C_86 1001866),.code (C_86 1001867),.inBlock 3,.inLoop (C_86 62616),.inBlock 2,.code (C_86 15655),.inBlock 1,.code (C_86 979),.inLoop (C_86 244),.inBlock 0,.code (C_86 31)] ?_
      obtain ⟨rtimes,hr2,h⟩:=bindSome h
      obtain ⟨rcompare,hr3,h⟩:=bindSome h
      refine Runs.sR hE ⟨[(0,(encL cI 0 a)),(1,(encL cI 0 b)),(6,(encL cI 0 rtrim)),(7,(.os 0 0 q.length)),(8,(aI i)),(9,(aI lo)),(10,(aI hi)),(11,(aI (w64 ((w64 ((w64 (lo+hi))+1)).tdiv 2)))),(44,(aB (decide (rcompare≤0))))],[(0,aO 1 cI 0 q)],257⟩ (C_86 1001866) [(3,⟨[],true,(encL cI 0 rtimes),[],0,true,none⟩),(5,⟨[],true,(aI rcompare),[],0,false,none⟩)] [] (kp [0,1,6,7,8,9,10,11,44]) (kq [0]) 257 [Sound Tryz.prog 98 [(encL cI 0 b),(.sl 1 (fun zi=>(fun zi=>([[(aI (w64 ((w64 ((w64 (lo+hi))+1)).tdiv 2)))]]:List (List AV)).getD zi []) (addz 0 zi)))] [] 0 (encL cI 0 rtimes) [],0+1≤1,Sound Tryz.prog 96 [(encL cI 0 rtimes),(encL cI 0 rtrim)] [] 0 (aI rcompare) []] ⟨(Sound.conv (g_r01_times_ok N b ([(w64 ((w64 ((w64 (lo+hi))+1)).tdiv 2))]:List Int) rtimes hr2) (.cons (Alike.refl _) (.cons (Alike.sl rfl (fun zq hzq=>get_chunk cI 0 ([(w64 ((w64 ((w64 (lo+hi))+1)).tdiv 2))]:List Int) zq hzq)) .nil))),z0,(g_r01_compare_ok N rtimes rtrim rcompare hr3),trivial⟩ ?_
      refine Runs.sC 44 (C_86 2003734) (C_86 2003735) (decide (rcompare≤0)) (fun hq4=>?_) (fun hq4=>?_)
      · have h:=condT h hq4
        refine Runs.sR hE ⟨[(0,(encL cI 0 a)),(1,(encL cI 0 b)),(6,(encL cI 0 rtrim)),(7,(.os 0 0 q.length)),(8,(aI i)),(9,(aI (w64 ((w64 ((w64 (lo+hi))+1)).tdiv 2)))),(10,(aI hi))],[(0,aO 1 cI 0 q)],289⟩ (C_86 2003734) [] [] (kp [0,1,6,7,8,9,10]) (kq [0]) 289 [] trivial ?_
        refine Runs.sA 2 [.code (C_86 62616),.inLoop (C_86 62616),.inBlock 2,.code (C_86 15655),.inBlock 1,.code (C_86 979),.inLoop (C_86 244),.inBlock 0,.code (C_86 31)] ?_
        exact Runs.sW hE _ [] (kp [0,1,6,7,8,9,10]) (kq [0]) 1 [] trivial (ih (w64 ((w64 ((w64 (lo+hi))+1)).tdiv 2)) hi _ h E hE)
      · have h:=condF h hq4
        refine Runs.sR hE ⟨[(0,(encL cI 0 a)),(1,(encL cI 0 b)),(6,(encL cI 0 rtrim)),(7,(.os 0 0 q.length)),(8,(aI i)),(9,(aI lo)),(10,(aI (w64 ((w64 ((w64 ((w64 (lo+hi))+1)).tdiv 2)) - 1))))],[(0,aO 1 cI 0 q)],305⟩ (C_86 2003735) [] [] (kp [0,1,6,7,8,9,10]) (kq [0]) 305 [] trivial ?_
        refine Runs.sA 2 [.code (C_86 62616),.inLoop (C_86 62616),.inBlock 2,.code (C_86 15655),.inBlock 1,.code (C_86 979),.inLoop (C_86 244),.inBlock 0,.code (C_86 31)] ?_
        exact Runs.sW hE _ [] (kp [0,1,6,7,8,9,10]) (kq [0]) 1 [] trivial (ih lo (w64 ((w64 ((w64 ((w64 (lo+hi))+1)).tdiv 2)) - 1)) _ h E hE)
    · have h:=condF h hq3
      refine Runs.sA 2 [.code (C_86 31310),.code (C_86 31311),.inBlock 1,.code (C_86 979),.inLoop (C_86 244),.inBlock 0,.code (C_86 31)] ?_
      obtain ⟨c4,h⟩:=ifSome h
      refine Runs.sR hE ⟨[(0,(encL cI 0 a)),(1,(encL cI 0 b)),(6,(encL cI 0 rtrim)),(7,(.os 0 0 ((q.set ((i).toNat) lo).length))),(8,(aI i)),(9,(aI lo))],[(0,aO 1 cI 0 (q.set ((i).toNat) lo))],129⟩ (C_86 31310) [] [] (kp [0,1,6] ++ [(7,.osl ((q.set ((i).toNat) lo).length))] ++ kp [8,9]) [(0,.arr 0 ((q.set ((i).toNat) lo).length) (fun zi=>cI ((q.set ((i).toNat) lo).getD zi 0)))] 129 [0≤i∧i < ((q.length:Nat):Int),(i).toNat < q.length,q.length = (q.set ((i).toNat) lo).length,q.length = (q.set ((i).toNat) lo).length,∀ zi,zi < (q.set ((i).toNat) lo).length→(fun zi=>cI ((q.set ((i).toNat) lo).getD zi 0)) zi = ((fun zm=>if zm = (i).toNat then [(aI lo)] else (fun zi=>cI (q.getD zi 0)) zm)) zi] ⟨c4,(ltOf c4),(len_set_raw rfl),(len_set_raw rfl),(get_set_raw cI 0 q ((i).toNat) lo (fun _ _=>rfl)),trivial⟩ ?_
      refine Runs.sA 1 [.code (C_86 62622),.code (C_86 62623),.inBlock 1,.code (C_86 979),.inLoop (C_86 244),.inBlock 0,.code (C_86 31)] ?_
      refine Runs.sR hE ⟨[(0,(encL cI 0 a)),(1,(encL cI 0 b)),(6,(encL cI 0 rtrim)),(7,(.os 0 0 ((q.set ((i).toNat) lo).length))),(8,(aI i)),(9,(aI lo)),(53,(aB (decide (lo > 0))))],[(0,aO 1 cI 0 (q.set ((i).toNat) lo))],161⟩ (C_86 62622) [] [] (kp [0,1,6,7,8,9,53]) (kq [0]) 161 [] trivial ?_
      refine Runs.sC 53 (C_86 125246) (C_86 125247) (decide (lo > 0)) (fun hq5=>?_) (fun hq5=>?_)
      · have h:=condT h hq5
        obtain ⟨rtimes2,hr4,h⟩:=bindSome h
        obtain ⟨rminus,hr5,h⟩:=bindSome h
        refine Runs.sR hE ⟨[(0,(encL cI 0 a)),(1,(encL cI 0 b)),(6,(encL cI 0 rminus)),(7,(.os 0 0 ((q.set ((i).toNat) lo).length))),(8,(aI i))],[(0,aO 1 cI 0 (q.set ((i).toNat) lo))],273⟩ (C_86 125246) [(4,⟨[],true,(encL cI 0 rtimes2),[],0,true,none⟩),(5,⟨[],true,(encL cI 0 rminus),[],0,false,none⟩)] [] (kp [0,1,6,7,8]) (kq [0]) 273 [Sound Tryz.prog 98 [(encL cI 0 b),(.sl 1 (fun zi=>(fun zi=>([[(aI lo)]]:List (List AV)).getD zi []) (addz 0 zi)))] [] 0 (encL cI 0 rtimes2) [],0+1≤1,Sound Tryz.prog 97 [(encL cI 0 rtrim),(encL cI 0 rtimes2)] [] 0 (encL cI 0 rminus) []] ⟨(Sound.conv (g_r01_times_ok N b ([lo]:List Int) rtimes2 hr4) (.cons (Alike.refl _) (.cons (Alike.sl rfl (fun zq hzq=>get_chunk cI 0 ([lo]:List Int) zq hzq)) .nil))),z0,(g_r01_minus_ok N rtrim rtimes2 rminus hr5),trivial⟩ ?_
        refine Runs.sA 1 [.code (C_86 979),.inLoop (C_86 244),.inBlock 0,.code (C_86 31)] ?_
        exact Runs.sW hE _ [] (kp [0,1,6,7,8]) (kq [0]) 1 [] trivial (g_r01_over_J3_ok N a b q i lo K_g_r01_over_L1 hK_g_r01_over_L1 rminus _ h E hE)
      · have h:=condF h hq5
        refine Runs.sA 2 [.code (C_86 979),.inLoop (C_86 244),.inBlock 0,.code (C_86 31)] ?_
        exact Runs.sW hE _ [] (kp [0,1,6,7,8]) (kq [0]) 1 [] trivial (g_r01_over_J3_ok N a b q i lo K_g_r01_over_L1 hK_g_r01_over_L1 rtrim _ h E hE)
theorem g_r01_over_L1_ok (N:Nat) (a:List Int) (b:List Int) (fuel:Nat):∀ (rest:List Int) (q:List Int) (i:Int) (r:(List Int) × (List Int)),g_r01_over_L1 N a b fuel rest q i = some r→∀ E,EnvOk E 0→Runs Tryz.prog E 94 63 (SPost E [] (.tup [(encL cI 0 r.1),(encL cI 0 r.2)])) [.code (C_86 244),.inLoop (C_86 244),.inBlock 0,.code (C_86 31)] ⟨[(0,(encL cI 0 a)),(1,(encL cI 0 b)),(6,(encL cI 0 rest)),(7,(.os 0 0 q.length)),(8,(aI i))],[(0,aO 1 cI 0 q)],1⟩:=by
  induction fuel with
  | zero=>intro _ _ _ r h; rw [g_r01_over_L1.eq_1] at h; cases h
  | succ fuel ih =>
    intro rest q i r h E hE
    rw [g_r01_over_L1.eq_2] at h
    refine Runs.sA 2 [.code (C_86 976),.code (C_86 977),.code (C_86 489),.inLoop (C_86 244),.inBlock 0,.code (C_86 31)] ?_
    refine Runs.sR hE ⟨[(0,(encL cI 0 a)),(1,(encL cI 0 b)),(6,(encL cI 0 rest)),(7,(.os 0 0 q.length)),(8,(aI i)),(19,(aB (decide (i ≥ 0))))],[(0,aO 1 cI 0 q)],33⟩ (C_86 976) [] [] (kp [0,1,6,7,8,19]) (kq [0]) 33 [] trivial ?_
    refine Runs.sC 19 (C_86 1954) (C_86 1955) (decide (i ≥ 0)) (fun hq2=>?_) (fun hq2=>?_)
    · have h:=condT h hq2
      refine Runs.sA 4 [.code (C_86 3912),.code (C_86 3913),.inBlock 1,.code (C_86 979),.inLoop (C_86 244),.inBlock 0,.code (C_86 31)] ?_
      obtain ⟨c2,h⟩:=ifSome h
      obtain ⟨c3,h⟩:=ifSome h
      obtain ⟨rtrim,hr,h⟩:=bindSome h
      refine Runs.sR hE ⟨[(0,(encL cI 0 a)),(1,(encL cI 0 b)),(6,(encL cI 0 rtrim)),(7,(.os 0 0 q.length)),(8,(aI i))],[(0,aO 1 cI 0 q)],177⟩ (C_86 3912) [(7,⟨[],true,(encL cI 0 rtrim),[],0,true,none⟩)] [] (kp [0,1,6,7,8]) (kq [0]) 177 [0≤i∧i < ((a.length:Nat):Int),1 = 1,(1+rest.length) * 8≤140737488355328,∀ zi,zi < rest.length→AV.oneL ((fun zi=>cI (rest.getD zi 0)) zi) = true,Sound Tryz.prog 113 [(.sl (1+rest.length) (fun zi=>((fun zm=>if zm < 1 then (fun zi=>([[(aI (a.getD ((i).toNat) 0))]]:List (List AV)).getD zi []) zm else (fun zi=>cI (rest.getD zi 0)) (zm - 1))) (addz 0 zi)))] [] 0 (encL cI 0 rtrim) [],0+(1+rest.length)≤1+rest.length] ⟨c2,rfl,c3,(fun _ _=>rfl),(Sound.conv (g_r01_trim_ok N (([(a.getD ((i).toNat) 0)]:List Int) ++ rest) rtrim hr) (.cons (Alike.sl (len_app_raw rfl rfl) (get_app_raw cI 0 ([(a.getD ((i).toNat) 0)]:List Int) rest rfl (fun zq hzq=>get_chunk cI 0 ([(a.getD ((i).toNat) 0)]:List Int) zq hzq) (fun _ _=>rfl))) .nil)),z0,trivial⟩ ?_
      refine Runs.sA 1 [.code (C_86 7826),.code (C_86 7827),.inBlock 1,.code (C_86 979),.inLoop (C_86 244),.inBlock 0,.code (C_86 31)] ?_
      refine Runs.sR hE ⟨[(0,(encL cI 0 a)),(1,(encL cI 0 b)),(6,(encL cI 0 rtrim)),(7,(.os 0 0 q.length)),(8,(aI i)),(9,(aI 0)),(10,(aI 65535))],[(0,aO 1 cI 0 q)],209⟩ (C_86 7826) [] [] (kp [0,1,6,7,8,9,10]) (kq [0]) 209 [] trivial ?_
      refine Runs.sA 3 [.code (C_86 62616),.inLoop (C_86 62616),.inBlock 2,.code (C_86 15655),.inBlock 1,.code (C_86 979),.inLoop (C_86 244),.inBlock 0,.code (C_86 31)] ?_
      exact Runs.sW hE _ [] (kp [0,1,6,7,8,9,10]) (kq [0]) 1 [] trivial (g_r01_over_L2_ok N a b q i rtrim (g_r01_over_L1 N a b fuel) ih N 0 65535 _ h E hE)
    · have h:=condF h hq2
      refine Runs.sA 2 [.code (C_86 62),.code (C_86 63)] ?_
      obtain ⟨rtrim2,hr6,h⟩:=bindSome h
      refine Runs.sR hE ⟨[(4,(encL cI 0 rtrim2)),(5,(encL cI 0 rest))],[],113⟩ (C_86 62) [(1,⟨[],true,(encL cI 0 rtrim2),[],0,true,none⟩)] [] (kp [4,5]) [] 113 [Sound Tryz.prog 113 [(encL cI 0 q)] [] 0 (encL cI 0 rtrim2) [],0+q.length≤q.length] ⟨(g_r01_trim_ok N q rtrim2 hr6),z0,trivial⟩ ?_
      obtain rfl:=Option.some.inj h
      refine Runs.sW hE ⟨[(4,(encL cI 0 rtrim2)),(5,(encL cI 0 rest))],[],113⟩ [] (kp [4,5]) [] 113 [] trivial ?_
      exact Runs.sT Tryz.f94 [] [] trivial
theorem g_r01_over_ok (N:Nat) (a:List Int) (b:List Int) (r:(List Int) × (List Int)) (h:g_r01_over N a b = some r):Sound Tryz.prog 94 [(encL cI 0 a),(encL cI 0 b)] [] 0 (.tup [(encL cI 0 r.1),(encL cI 0 r.2)]) []:=by
  unfold g_r01_over at h
  refine Sound.of_runs (fu:=Tryz.f94) (c:=C_86 1) (nt:=63) (by kernel_rfl) (by kernel_rfl) (by kernel_rfl) (by kernel_rfl) (fun hm=>rfl) ?_
  intro E hE
  refine Runs.sA 1 [.code (C_86 2),.code (C_86 3)] ?_
  refine Runs.sR hE ⟨[(0,(encL cI 0 a)),(1,(encL cI 0 b))],[],32⟩ (C_86 2) [] [] (kp [0,1]) [] 32 [] trivial ?_
  refine Runs.sA 1 [.code (C_86 6),.code (C_86 7)] ?_
  refine Runs.sR hE ⟨[(0,(encL cI 0 a)),(1,(encL cI 0 b)),(6,.nil)],[],48⟩ (C_86 6) [] [] (kp [0,1,6]) [] 48 [] trivial ?_
  refine Runs.sA 1 [.code (C_86 14),.code (C_86 15)] ?_
  obtain ⟨c,h⟩:=ifSome h
  refine Runs.sR hE ⟨[(0,(encL cI 0 a)),(1,(encL cI 0 b)),(6,.nil),(7,(.os 80 0 ((List.replicate a.length 0:List Int).length)))],[(80,aO 1 cI 0 (List.replicate a.length 0:List Int))],112⟩ (C_86 14) [] [] (kp [0,1,6] ++ [(7,.osl ((List.replicate a.length 0:List Int).length))]) [(80,.arr 80 ((List.replicate a.length 0:List Int).length) (fun zi=>cI ((List.replicate a.length 0:List Int).getD zi 0)))] 112 [0≤((a.length:Nat):Int),((a.length:Nat):Int)≤((a.length:Nat):Int),(8:Int) * ((a.length:Nat):Int)≤281474976710656,((a.length:Nat):Int)≤9223372036854775807,a.length = (List.replicate a.length 0:List Int).length,a.length = (List.replicate a.length 0:List Int).length,∀ zi,zi < (List.replicate a.length 0:List Int).length→(fun zi=>cI ((List.replicate a.length 0:List Int).getD zi 0)) zi = (fun _=>[(aI 0)]) zi] ⟨c.1,(Int.le_refl _),c.2.1,c.2.2,(List.length_replicate).symm,(List.length_replicate).symm,(fun zq hzq=>get_rep cI 0 0 a.length zq hzq),trivial⟩ ?_
  refine Runs.sA 2 [.code (C_86 60),.code (C_86 61),.code (C_86 31)] ?_
  refine Runs.sR hE ⟨[(0,(encL cI 0 a)),(1,(encL cI 0 b)),(6,.nil),(7,(.os 80 0 ((List.replicate a.length 0:List Int).length))),(8,(aI (w64 (((a.length:Nat):Int) - 1))))],[(80,aO 1 cI 0 (List.replicate a.length 0:List Int))],176⟩ (C_86 60) [] [] (kp [0,1,6,7,8]) (kq [80]) 176 [] trivial ?_
  refine Runs.sA 2 [.code (C_86 244),.inLoop (C_86 244),.inBlock 0,.code (C_86 31)] ?_
  exact Runs.sW hE _ [] (kp [0,1] ++ [(6,.sl (([]:List Int).length) (fun zi=>cI (([]:List Int).getD zi 0)))] ++ kp [7,8]) [(0,.keep 80)] 1 [([]:List Int).length = 0] ⟨rfl,trivial⟩ (g_r01_over_L1_ok N a b N ([]:List Int) (List.replicate a.length 0:List Int) (w64 (((a.length:Nat):Int) - 1)) _ h E hE)
noncomputable def C_85 (n:Nat):Code:=cat (bodyOf Tryz.f93) (pth n)
theorem g_r01_gcd_L1_ok (N:Nat) (fuel:Nat):∀ (a2:List Int) (b2:List Int) (r:(List Int)),g_r01_gcd_L1 N fuel a2 b2 = some r→∀ E,EnvOk E 0→Runs Tryz.prog E 93 19 (SPost E [] (encL cI 0 r)) [.code (C_85 24),.inLoop (C_85 24),.inBlock 0,.code (C_85 7)] ⟨[(0,(encL cI 0 a2)),(1,(encL cI 0 b2))],[],0⟩:=by
  induction fuel with
  | zero=>intro _ _ r h; rw [g_r01_gcd_L1.eq_1] at h; cases h
  | succ fuel ih =>
    intro a2 b2 r h E hE
    rw [g_r01_gcd_L1.eq_2] at h
    refine Runs.sA 2 [.code (C_85 96),.code (C_85 97),.code (C_85 49),.inLoop (C_85 24),.inBlock 0,.code (C_85 7)] ?_
    refine Runs.sR hE ⟨[(0,(encL cI 0 a2)),(1,(encL cI 0 b2)),(9,(aB (decide (((b2.length:Nat):Int) > 0))))],[],48⟩ (C_85 96) [] [] (kp [0,1,9]) [] 48 [] trivial ?_
    refine Runs.sC 9 (C_85 194) (C_85 195) (decide (((b2.length:Nat):Int) > 0)) (fun hq2=>?_) (fun hq2=>?_)
    · have h:=condT h hq2
      refine Runs.sA 3 [.code (C_85 196),.code (C_85 197),.inBlock 1,.inLoop (C_85 24),.inBlock 0,.code (C_85 7)] ?_
      obtain ⟨rover,hr,h⟩:=bindSome h
      refine Runs.sR hE ⟨[(1,(encL cI 0 b2)),(6,(encL cI 0 rover.2))],[],176⟩ (C_85 196) [(2,⟨[],true,(.tup [(encL cI 0 rover.1),(encL cI 0 rover.2)]),[],0,false,none⟩)] [] (kp [1,6]) [] 176 [Sound Tryz.prog 94 [(encL cI 0 a2),(encL cI 0 b2)] [] 0 (.tup [(encL cI 0 rover.1),(encL cI 0 rover.2)]) []] ⟨(g_r01_over_ok N a2 b2 rover hr),trivial⟩ ?_
      refine Runs.sR hE ⟨[(0,(encL cI 0 b2)),(1,(encL cI 0 rover.2))],[],240⟩ (C_85 197) [] [] (kp [0,1]) [] 240 [] trivial ?_
      refine Runs.sA 2 [.code (C_85 24),.inLoop (C_85 24),.inBlock 0,.code (C_85 7)] ?_
      exact Runs.sW hE _ [] (kp [0,1]) [] 0 [] trivial (ih b2 rover.2 _ h E hE)
    · have h:=condF h hq2
      refine Runs.sA 2 [.code (C_85 14),.code (C_85 15)] ?_
      refine Runs.sR hE ⟨[(4,(encL cI 0 a2))],[],80⟩ (C_85 14) [] [] (kp [4]) [] 80 [] trivial ?_
      obtain rfl:=Option.some.inj h
      refine Runs.sW hE ⟨[(4,(encL cI 0 a2))],[],80⟩ [] (kp [4]) [] 80 [] trivial ?_
      exact Runs.sT Tryz.f93 [] [] trivial
theorem g_r01_gcd_ok (N:Nat) (a:List Int) (b:List Int) (r:(List Int)) (h:g_r01_gcd N a b = some r):Sound Tryz.prog 93 [(encL cI 0 a),(encL cI 0 b)] [] 0 (encL cI 0 r) []:=by
  unfold g_r01_gcd at h
  refine Sound.of_runs (fu:=Tryz.f93) (c:=C_85 1) (nt:=19) (by kernel_rfl) (by kernel_rfl) (by kernel_rfl) (by kernel_rfl) (fun hm=>rfl) ?_
  intro E hE
  refine Runs.sA 1 [.code (C_85 2),.code (C_85 3)] ?_
  refine Runs.sR hE ⟨[(0,(encL cI 0 a)),(1,(encL cI 0 b))],[],16⟩ (C_85 2) [] [] (kp [0,1]) [] 16 [] trivial ?_
  refine Runs.sA 3 [.code (C_85 24),.inLoop (C_85 24),.inBlock 0,.code (C_85 7)] ?_
  exact Runs.sW hE _ [] (kp [0,1]) [] 0 [] trivial (g_r01_gcd_L1_ok N N a b _ h E hE)
noncomputable def C_82 (n:Nat):Code:=cat (bodyOf Tryz.f70) (pth n)
theorem g_r01_Over_ok (N:Nat) (a:TInt) (b:TInt) (r:TRat) (h:g_r01_Over N a b = some r):Sound Tryz.prog 70 [(.agg (TInt.cells a)),(.agg (TInt.cells b))] [] 0 (.agg (TRat.cells r)) []:=by
  unfold g_r01_Over at h
  refine Sound.of_runs (fu:=Tryz.f70) (c:=C_82 1) (nt:=52) (by kernel_rfl) (by kernel_rfl) (by kernel_rfl) (by kernel_rfl) (fun hm=>rfl) ?_
  intro E hE
  refine Runs.sA 1 [.code (C_82 2),.code (C_82 3)] ?_
  refine Runs.sR hE ⟨[(2,(.op 0 0 0)),(3,(.op 16 0 0)),(4,(.op 32 0 0))],[(0,vO 2 (TInt.cells a)),(16,vO 2 (TInt.cells b)),(32,vO 4 [(aB false),.nil,(aB false),.nil])],48⟩ (C_82 2) [] [] (kp [2,3,4]) (kq [0,16,32]) 48 [] trivial ?_
  refine Runs.sA 1 [.code (C_82 6),.code (C_82 7)] ?_
  obtain ⟨rread,hr,h⟩:=bindSome h
  obtain ⟨rread2,hr2,h⟩:=bindSome h
  refine Runs.sR hE ⟨[(2,(.op 0 0 0)),(3,(.op 16 0 0)),(4,(.op 32 0 0)),(5,(encL cI 0 rread)),(6,(encL cI 0 rread2))],[(0,vO 2 (TInt.cells a)),(16,vO 2 (TInt.cells b)),(32,vO 4 [(aB false),.nil,(aB false),.nil])],176⟩ (C_82 6) [(2,⟨[],true,(encL cI 0 rread),[],0,false,none⟩),(5,⟨[],true,(encL cI 0 rread2),[],0,false,none⟩)] [] (kp [2,3,4,5,6]) (kq [0,16,32]) 176 [0 < 1,Sound Tryz.prog 92 [(encL (cU .u16) 0 a.f_Limbs)] [] 0 (encL cI 0 rread) [],0 < 1,Sound Tryz.prog 92 [(encL (cU .u16) 0 b.f_Limbs)] [] 0 (encL cI 0 rread2) []] ⟨o1,(g_r01_read_ok N a.f_Limbs rread hr),o1,(g_r01_read_ok N b.f_Limbs rread2 hr2),trivial⟩ ?_
  refine Runs.sA 2 [.code (C_82 28),.code (C_82 29),.code (C_82 15)] ?_
  refine Runs.sR hE ⟨[(2,(.op 0 0 0)),(3,(.op 16 0 0)),(4,(.op 32 0 0)),(5,(encL cI 0 rread)),(6,(encL cI 0 rread2)),(20,(aB (((rread2.length:Nat):Int) == 0)))],[(0,vO 2 (TInt.cells a)),(16,vO 2 (TInt.cells b)),(32,vO 4 [(aB false),.nil,(aB false),.nil])],224⟩ (C_82 28) [] [] (kp [2,3,4,5,6,20]) (kq [0,16,32]) 224 [] trivial ?_
  refine Runs.sC 20 (C_82 58) (C_82 59) (((rread2.length:Nat):Int) == 0) (fun hq2=>?_) (fun hq2=>?_)
  · have h:=condT h hq2
    refine Runs.sA 1 [.code (C_82 116),.code (C_82 117),.code (C_82 15)] ?_
    obtain ⟨rmade,hr3,h⟩:=bindSome h
    obtain ⟨rOf,hr4,h⟩:=bindSome h
    refine Runs.sR hE ⟨[(4,(.op 32 0 0))],[(32,vO 4 [(aB rmade.f_Neg),(encL (cU .u16) 0 rmade.f_Limbs),(aB rOf.f_Neg),(encL (cU .u16) 0 rOf.f_Limbs)])],336⟩ (C_82 116) [(3,⟨[],true,(.agg (TInt.cells rmade)),[],0,false,none⟩),(4,⟨[],true,(.agg (TInt.cells rOf)),[],0,false,none⟩)] [] (kp [4]) (kq [32]) 336 [0 < 1,Sound Tryz.prog 91 [(aB a.f_Neg),(encL cI 0 rread)] [] 0 (.agg (TInt.cells rmade)) [],Sound Tryz.prog 68 [(aI 1)] [] 0 (.agg (TInt.cells rOf)) [],0 < 1] ⟨o1,(g_r01_made_ok N a.f_Neg rread rmade hr3),(g_r01_Of_ok N 1 rOf hr4),o1,trivial⟩ ?_
    obtain rfl:=Option.some.inj h
    refine Runs.sW hE ⟨[(4,(.op 16 0 0))],[(16,vO 4 [(aB rmade.f_Neg),(encL (cU .u16) 0 rmade.f_Limbs),(aB rOf.f_Neg),(encL (cU .u16) 0 rOf.f_Limbs)])],336⟩ [] (kp [4]) [(16,.keep 32)] 336 [] trivial ?_
    exact Runs.sT Tryz.f70 [16] [0 < 1] ⟨o1,trivial⟩
  · have h:=condF h hq2
    refine Runs.sA 2 [.code (C_82 30),.code (C_82 31)] ?_
    obtain ⟨rgcd,hr5,h⟩:=bindSome h
    refine Runs.sR hE ⟨[(2,(.op 0 0 0)),(3,(.op 16 0 0)),(4,(.op 32 0 0)),(5,(encL cI 0 rread)),(6,(encL cI 0 rread2)),(7,(encL cI 0 rgcd))],[(0,vO 2 (TInt.cells a)),(16,vO 2 (TInt.cells b)),(32,vO 4 [(aB false),.nil,(aB false),.nil])],288⟩ (C_82 30) [(2,⟨[],true,(encL cI 0 rgcd),[],0,false,none⟩)] [] (kp [2,3,4,5,6,7]) (kq [0,16,32]) 288 [Sound Tryz.prog 93 [(encL cI 0 rread),(encL cI 0 rread2)] [] 0 (encL cI 0 rgcd) []] ⟨(g_r01_gcd_ok N rread rread2 rgcd hr5),trivial⟩ ?_
    refine Runs.sA 1 [.code (C_82 62),.code (C_82 63)] ?_
    obtain ⟨rover,hr6,h⟩:=bindSome h
    refine Runs.sR hE ⟨[(2,(.op 0 0 0)),(3,(.op 16 0 0)),(4,(.op 32 0 0)),(6,(encL cI 0 rread2)),(7,(encL cI 0 rgcd)),(8,(encL cI 0 rover.1))],[(0,vO 2 (TInt.cells a)),(16,vO 2 (TInt.cells b)),(32,vO 4 [(aB false),.nil,(aB false),.nil])],416⟩ (C_82 62) [(2,⟨[],true,(.tup [(encL cI 0 rover.1),(encL cI 0 rover.2)]),[],0,false,none⟩)] [] (kp [2,3,4,6,7,8]) (kq [0,16,32]) 416 [Sound Tryz.prog 94 [(encL cI 0 rread),(encL cI 0 rgcd)] [] 0 (.tup [(encL cI 0 rover.1),(encL cI 0 rover.2)]) []] ⟨(g_r01_over_ok N rread rgcd rover hr6),trivial⟩ ?_
    refine Runs.sA 1 [.code (C_82 126),.code (C_82 127)] ?_
    obtain ⟨rover2,hr7,h⟩:=bindSome h
    refine Runs.sR hE ⟨[(2,(.op 0 0 0)),(3,(.op 16 0 0)),(4,(.op 32 0 0)),(8,(encL cI 0 rover.1)),(10,(encL cI 0 rover2.1))],[(0,vO 2 (TInt.cells a)),(16,vO 2 (TInt.cells b)),(32,vO 4 [(aB false),.nil,(aB false),.nil])],544⟩ (C_82 126) [(2,⟨[],true,(.tup [(encL cI 0 rover2.1),(encL cI 0 rover2.2)]),[],0,false,none⟩)] [] (kp [2,3,4,8,10]) (kq [0,16,32]) 544 [Sound Tryz.prog 94 [(encL cI 0 rread2),(encL cI 0 rgcd)] [] 0 (.tup [(encL cI 0 rover2.1),(encL cI 0 rover2.2)]) []] ⟨(g_r01_over_ok N rread2 rgcd rover2 hr7),trivial⟩ ?_
    refine Runs.sA 1 [.code (C_82 254),.code (C_82 255)] ?_
    obtain ⟨rmade2,hr8,h⟩:=bindSome h
    obtain ⟨rmade3,hr9,h⟩:=bindSome h
    refine Runs.sR hE ⟨[(4,(.op 32 0 0))],[(32,vO 4 [(aB rmade2.f_Neg),(encL (cU .u16) 0 rmade2.f_Limbs),(aB rmade3.f_Neg),(encL (cU .u16) 0 rmade3.f_Limbs)])],720⟩ (C_82 254) [(6,⟨[],true,(.agg (TInt.cells rmade2)),[],0,false,none⟩),(8,⟨[],true,(.agg (TInt.cells rmade3)),[],0,false,none⟩)] [] (kp [4]) (kq [32]) 720 [0 < 1,0 < 1,Sound Tryz.prog 91 [(aB (!(a.f_Neg == b.f_Neg))),(encL cI 0 rover.1)] [] 0 (.agg (TInt.cells rmade2)) [],Sound Tryz.prog 91 [(aB false),(encL cI 0 rover2.1)] [] 0 (.agg (TInt.cells rmade3)) [],0 < 1] ⟨o1,o1,(g_r01_made_ok N (!(a.f_Neg == b.f_Neg)) rover.1 rmade2 hr8),(g_r01_made_ok N false rover2.1 rmade3 hr9),o1,trivial⟩ ?_
    obtain rfl:=Option.some.inj h
    refine Runs.sW hE ⟨[(4,(.op 16 0 0))],[(16,vO 4 [(aB rmade2.f_Neg),(encL (cU .u16) 0 rmade2.f_Limbs),(aB rmade3.f_Neg),(encL (cU .u16) 0 rmade3.f_Limbs)])],720⟩ [] (kp [4]) [(16,.keep 32)] 720 [] trivial ?_
    exact Runs.sT Tryz.f70 [16] [0 < 1] ⟨o1,trivial⟩
noncomputable def C_81 (n:Nat):Code:=cat (bodyOf Tryz.f69) (pth n)
theorem g_r01_NormRat_ok (N:Nat) (x:TRat) (r:TRat) (h:g_r01_NormRat N x = some r):Sound Tryz.prog 69 [(.agg (TRat.cells x))] [] 0 (.agg (TRat.cells r)) []:=by
  unfold g_r01_NormRat at h
  refine Sound.of_runs (fu:=Tryz.f69) (c:=C_81 1) (nt:=8) (by kernel_rfl) (by kernel_rfl) (by kernel_rfl) (by kernel_rfl) (fun hm=>rfl) ?_
  intro E hE
  refine Runs.sA 1 [.code (C_81 2),.code (C_81 3)] ?_
  refine Runs.sR hE ⟨[(1,(.op 0 0 0)),(2,(.op 16 0 0))],[(0,vO 4 (TRat.cells x)),(16,vO 4 [(aB false),.nil,(aB false),.nil])],32⟩ (C_81 2) [] [] (kp [1,2]) (kq [0,16]) 32 [] trivial ?_
  refine Runs.sA 1 [.code (C_81 6),.code (C_81 7)] ?_
  obtain ⟨rOver,hr,h⟩:=bindSome h
  refine Runs.sR hE ⟨[(2,(.op 16 0 0))],[(16,vO 4 (TRat.cells rOver))],128⟩ (C_81 6) [(4,⟨[],true,(.agg (TRat.cells rOver)),[],0,false,none⟩)] [] (kp [2]) (kq [16]) 128 [0 < 1,0 < 1,Sound Tryz.prog 70 [(.agg (TInt.cells x.f_Num)),(.agg (TInt.cells x.f_Den))] [] 0 (.agg (TRat.cells rOver)) [],0 < 1] ⟨o1,o1,(g_r01_Over_ok N x.f_Num x.f_Den rOver hr),o1,trivial⟩ ?_
  obtain rfl:=Option.some.inj h
  refine Runs.sW hE ⟨[(2,(.op 16 0 0))],[(16,vO 4 (TRat.cells rOver))],128⟩ [] (kp [2]) (kq [16]) 128 [] trivial ?_
  exact Runs.sT Tryz.f69 [16] [0 < 1] ⟨o1,trivial⟩
noncomputable def C_91 (n:Nat):Code:=cat (bodyOf Tryz.f72) (pth n)
theorem g_r01_Mul_ok (N:Nat) (a:TInt) (b:TInt) (r:TInt) (h:g_r01_Mul N a b = some r):Sound Tryz.prog 72 [(.agg (TInt.cells a)),(.agg (TInt.cells b))] [] 0 (.agg (TInt.cells r)) []:=by
  unfold g_r01_Mul at h
  refine Sound.of_runs (fu:=Tryz.f72) (c:=C_91 1) (nt:=18) (by kernel_rfl) (by kernel_rfl) (by kernel_rfl) (by kernel_rfl) (fun hm=>rfl) ?_
  intro E hE
  refine Runs.sA 1 [.code (C_91 2),.code (C_91 3)] ?_
  refine Runs.sR hE ⟨[(2,(.op 0 0 0)),(3,(.op 16 0 0)),(4,(.op 32 0 0))],[(0,vO 2 (TInt.cells a)),(16,vO 2 (TInt.cells b)),(32,vO 2 [(aB false),.nil])],48⟩ (C_91 2) [] [] (kp [2,3,4]) (kq [0,16,32]) 48 [] trivial ?_
  refine Runs.sA 1 [.code (C_91 6),.code (C_91 7)] ?_
  obtain ⟨rread,hr,h⟩:=bindSome h
  obtain ⟨rread2,hr2,h⟩:=bindSome h
  obtain ⟨rtimes,hr3,h⟩:=bindSome h
  obtain ⟨rmade,hr4,h⟩:=bindSome h
  refine Runs.sR hE ⟨[(4,(.op 32 0 0))],[(32,vO 2 (TInt.cells rmade))],272⟩ (C_91 6) [(7,⟨[],true,(encL cI 0 rread),[],0,false,none⟩),(10,⟨[],true,(encL cI 0 rread2),[],0,false,none⟩),(11,⟨[],true,(encL cI 0 rtimes),[],0,false,none⟩),(12,⟨[],true,(.agg (TInt.cells rmade)),[],0,false,none⟩)] [] (kp [4]) (kq [32]) 272 [0 < 1,0 < 1,0 < 1,Sound Tryz.prog 92 [(encL (cU .u16) 0 a.f_Limbs)] [] 0 (encL cI 0 rread) [],0 < 1,Sound Tryz.prog 92 [(encL (cU .u16) 0 b.f_Limbs)] [] 0 (encL cI 0 rread2) [],Sound Tryz.prog 98 [(encL cI 0 rread),(encL cI 0 rread2)] [] 0 (encL cI 0 rtimes) [],Sound Tryz.prog 91 [(aB (!(a.f_Neg == b.f_Neg))),(encL cI 0 rtimes)] [] 0 (.agg (TInt.cells rmade)) [],0 < 1] ⟨o1,o1,o1,(g_r01_read_ok N a.f_Limbs rread hr),o1,(g_r01_read_ok N b.f_Limbs rread2 hr2),(g_r01_times_ok N rread rread2 rtimes hr3),(g_r01_made_ok N (!(a.f_Neg == b.f_Neg)) rtimes rmade hr4),o1,trivial⟩ ?_
  obtain rfl:=Option.some.inj h
  refine Runs.sW hE ⟨[(4,(.op 16 0 0))],[(16,vO 2 (TInt.cells rmade))],272⟩ [] (kp [4]) [(16,.keep 32)] 272 [] trivial ?_
  exact Runs.sT Tryz.f72 [16] [0 < 1] ⟨o1,trivial⟩
noncomputable def C_93 (n:Nat):Code:=cat (bodyOf Tryz.f95) (pth n)
theorem g_r01_plus_L1_ok (N:Nat) (a:List Int) (b:List Int) (fuel:Nat):∀ (out:List Int) (carry:Int) (i:Int) (r:(List Int)),g_r01_plus_L1 N a b fuel out carry i = some r→∀ E,EnvOk E 0→Runs Tryz.prog E 95 43 (SPost E [] (encL cI 0 r)) [.code (C_93 244),.inLoop (C_93 244),.inBlock 0,.code (C_93 31)] ⟨[(0,(encL cI 0 a)),(1,(encL cI 0 b)),(5,(.os 0 0 out.length)),(6,(aI carry)),(7,(aI i))],[(0,aO 1 cI 0 out)],1⟩:=by
  induction fuel with
  | zero=>intro _ _ _ r h; rw [g_r01_plus_L1.eq_1] at h; cases h
  | succ fuel ih =>
    intro out carry i r h E hE
    rw [g_r01_plus_L1.eq_2] at h
    refine Runs.sA 2 [.code (C_93 976),.code (C_93 977),.code (C_93 489),.inLoop (C_93 244),.inBlock 0,.code (C_93 31)] ?_
    refine Runs.sR hE ⟨[(0,(encL cI 0 a)),(1,(encL cI 0 b)),(5,(.os 0 0 out.length)),(6,(aI carry)),(7,(aI i)),(22,(aB (cond (cond (decide (i < ((a.length:Nat):Int))) true (decide (i < ((b.length:Nat):Int)))) true (decide (carry > 0)))))],[(0,aO 1 cI 0 out)],225⟩ (C_93 976) [] [] (kp [0,1,5,6,7,22]) (kq [0]) 225 [(!(decide (i < ((a.length:Nat):Int)))) = true→AllP [(!(decide (i < ((a.length:Nat):Int)))) = true],(!(decide (i < ((a.length:Nat):Int)))) = true→AllP [(!(decide (i < ((a.length:Nat):Int)))) = true,(!(decide (i < ((a.length:Nat):Int)))) = true],(!(decide (i < ((a.length:Nat):Int)))) = true→AllP [(!(decide (i < ((a.length:Nat):Int)))) = true],(!(cond (decide (i < ((a.length:Nat):Int))) true (decide (i < ((b.length:Nat):Int))))) = true→AllP [(!(cond (decide (i < ((a.length:Nat):Int))) true (decide (i < ((b.length:Nat):Int))))) = true],(!(cond (decide (i < ((a.length:Nat):Int))) true (decide (i < ((b.length:Nat):Int))))) = true→AllP [(!(cond (decide (i < ((a.length:Nat):Int))) true (decide (i < ((b.length:Nat):Int))))) = true]] ⟨(fun hg=>⟨hg,trivial⟩),(fun hg=>⟨hg,hg,trivial⟩),(fun hq=>⟨hq,trivial⟩),(fun hg=>⟨hg,trivial⟩),(fun hq=>⟨hq,trivial⟩),trivial⟩ ?_
    refine Runs.sC 22 (C_93 1954) (C_93 1955) (cond (cond (decide (i < ((a.length:Nat):Int))) true (decide (i < ((b.length:Nat):Int)))) true (decide (carry > 0))) (fun hq2=>?_) (fun hq2=>?_)
    · have h:=condT h hq2
      refine Runs.sA 4 [.code (C_93 3912),.code (C_93 3913),.inBlock 1,.code (C_93 979),.inLoop (C_93 244),.inBlock 0,.code (C_93 31)] ?_
      obtain ⟨rdigit,hr,h⟩:=bindSome h
      obtain ⟨rdigit2,hr2,h⟩:=bindSome h
      refine Runs.sR hE ⟨[(0,(encL cI 0 a)),(1,(encL cI 0 b)),(5,(.os 0 0 out.length)),(7,(aI i)),(8,(aI (w64 ((w64 (rdigit+rdigit2))+carry))))],[(0,aO 1 cI 0 out)],385⟩ (C_93 3912) [(2,⟨[],true,(aI rdigit),[],0,false,none⟩),(5,⟨[],true,(aI rdigit2),[],0,false,none⟩)] [] (kp [0,1,5,7,8]) (kq [0]) 385 [Sound Tryz.prog 114 [(encL cI 0 a),(aI i)] [] 0 (aI rdigit) [],Sound Tryz.prog 114 [(encL cI 0 b),(aI i)] [] 0 (aI rdigit2) []] ⟨(g_r01_digit_ok N a i rdigit hr),(g_r01_digit_ok N b i rdigit2 hr2),trivial⟩ ?_
      refine Runs.sA 1 [.code (C_93 7826),.code (C_93 7827),.inBlock 1,.code (C_93 979),.inLoop (C_93 244),.inBlock 0,.code (C_93 31)] ?_
      obtain ⟨c,h⟩:=ifSome h
      refine Runs.sR hE ⟨[(0,(encL cI 0 a)),(1,(encL cI 0 b)),(5,(.os 449 0 ((out ++ ([((w64 ((w64 (rdigit+rdigit2))+carry)).tmod 65536)]:List Int)).length))),(7,(aI i)),(8,(aI (w64 ((w64 (rdigit+rdigit2))+carry))))],[(449,aO 1 cI 0 (out ++ ([((w64 ((w64 (rdigit+rdigit2))+carry)).tmod 65536)]:List Int)))],481⟩ (C_93 7826) [] [] (kp [0,1] ++ [(5,.osl ((out ++ ([((w64 ((w64 (rdigit+rdigit2))+carry)).tmod 65536)]:List Int)).length))] ++ kp [7,8]) [(449,.arr 449 ((out ++ ([((w64 ((w64 (rdigit+rdigit2))+carry)).tmod 65536)]:List Int)).length) (fun zi=>cI ((out ++ ([((w64 ((w64 (rdigit+rdigit2))+carry)).tmod 65536)]:List Int)).getD zi 0)))] 481 [(65536:Int) ≠ 0,out.length = out.length,(out.length+1) * 8≤140737488355328,0+1≤1,∀ zi,zi < 1→AV.oneL ((fun zi=>([[(aI ((w64 ((w64 (rdigit+rdigit2))+carry)).tmod 65536))]]:List (List AV)).getD zi []) (addz 0 zi)) = true,(out.length+1) = (out ++ ([((w64 ((w64 (rdigit+rdigit2))+carry)).tmod 65536)]:List Int)).length,out.length+1 = (out ++ ([((w64 ((w64 (rdigit+rdigit2))+carry)).tmod 65536)]:List Int)).length,∀ zi,zi < (out ++ ([((w64 ((w64 (rdigit+rdigit2))+carry)).tmod 65536)]:List Int)).length→(fun zi=>cI ((out ++ ([((w64 ((w64 (rdigit+rdigit2))+carry)).tmod 65536)]:List Int)).getD zi 0)) zi = ((fun zm=>if zm < out.length then (fun zi=>cI (out.getD zi 0)) zm else (fun zi=>([[(aI ((w64 ((w64 (rdigit+rdigit2))+carry)).tmod 65536))]]:List (List AV)).getD zi []) (zm - out.length))) zi] ⟨(by decide),rfl,c,z0,(oneN rfl),(len_app_raw rfl rfl),(len_app_raw rfl rfl),(get_app_raw cI 0 out ([((w64 ((w64 (rdigit+rdigit2))+carry)).tmod 65536)]:List Int) rfl (fun _ _=>rfl) (fun zq hzq=>get_chunk cI 0 ([((w64 ((w64 (rdigit+rdigit2))+carry)).tmod 65536)]:List Int) zq hzq)),trivial⟩ ?_
      refine Runs.sR hE ⟨[(0,(encL cI 0 a)),(1,(encL cI 0 b)),(5,(.os 449 0 ((out ++ ([((w64 ((w64 (rdigit+rdigit2))+carry)).tmod 65536)]:List Int)).length))),(6,(aI (w64 ((w64 ((w64 (rdigit+rdigit2))+carry)).tdiv 65536)))),(7,(aI i))],[(449,aO 1 cI 0 (out ++ ([((w64 ((w64 (rdigit+rdigit2))+carry)).tmod 65536)]:List Int)))],529⟩ (C_93 7827) [] [] (kp [0,1,5,6,7]) (kq [449]) 529 [(65536:Int) ≠ 0] ⟨(by decide),trivial⟩ ?_
      refine Runs.sA 1 [.code (C_93 979),.inLoop (C_93 244),.inBlock 0,.code (C_93 31)] ?_
      refine Runs.sR hE ⟨[(0,(encL cI 0 a)),(1,(encL cI 0 b)),(5,(.os 449 0 ((out ++ ([((w64 ((w64 (rdigit+rdigit2))+carry)).tmod 65536)]:List Int)).length))),(6,(aI (w64 ((w64 ((w64 (rdigit+rdigit2))+carry)).tdiv 65536)))),(7,(aI (w64 (i+1))))],[(449,aO 1 cI 0 (out ++ ([((w64 ((w64 (rdigit+rdigit2))+carry)).tmod 65536)]:List Int)))],577⟩ (C_93 979) [] [] (kp [0,1,5,6,7]) (kq [449]) 577 [] trivial ?_
      refine Runs.sA 1 [.code (C_93 244),.inLoop (C_93 244),.inBlock 0,.code (C_93 31)] ?_
      exact Runs.sW hE _ [] (kp [0,1,5,6,7]) [(0,.keep 449)] 1 [] trivial (ih (out ++ ([((w64 ((w64 (rdigit+rdigit2))+carry)).tmod 65536)]:List Int)) (w64 ((w64 ((w64 (rdigit+rdigit2))+carry)).tdiv 65536)) (w64 (i+1)) _ h E hE)
    · have h:=condF h hq2
      refine Runs.sA 2 [.code (C_93 62),.code (C_93 63)] ?_
      obtain ⟨rtrim,hr3,h⟩:=bindSome h
      refine Runs.sR hE ⟨[(4,(encL cI 0 rtrim))],[],273⟩ (C_93 62) [(1,⟨[],true,(encL cI 0 rtrim),[],0,true,none⟩)] [] (kp [4]) [] 273 [Sound Tryz.prog 113 [(encL cI 0 out)] [] 0 (encL cI 0 rtrim) [],0+out.length≤out.length] ⟨(g_r01_trim_ok N out rtrim hr3),z0,trivial⟩ ?_
      obtain rfl:=Option.some.inj h
      refine Runs.sW hE ⟨[(4,(encL cI 0 rtrim))],[],273⟩ [] (kp [4]) [] 273 [] trivial ?_
      exact Runs.sT Tryz.f95 [] [] trivial
theorem g_r01_plus_ok (N:Nat) (a:List Int) (b:List Int) (r:(List Int)) (h:g_r01_plus N a b = some r):Sound Tryz.prog 95 [(encL cI 0 a),(encL cI 0 b)] [] 0 (encL cI 0 r) []:=by
  unfold g_r01_plus at h
  refine Sound.of_runs (fu:=Tryz.f95) (c:=C_93 1) (nt:=43) (by kernel_rfl) (by kernel_rfl) (by kernel_rfl) (by kernel_rfl) (fun hm=>rfl) ?_
  intro E hE
  refine Runs.sA 1 [.code (C_93 2),.code (C_93 3)] ?_
  refine Runs.sR hE ⟨[(0,(encL cI 0 a)),(1,(encL cI 0 b))],[],16⟩ (C_93 2) [] [] (kp [0,1]) [] 16 [] trivial ?_
  refine Runs.sA 1 [.code (C_93 6),.code (C_93 7)] ?_
  refine Runs.sR hE ⟨[(0,(encL cI 0 a)),(1,(encL cI 0 b)),(5,.nil)],[],32⟩ (C_93 6) [] [] (kp [0,1,5]) [] 32 [] trivial ?_
  refine Runs.sA 1 [.code (C_93 14),.code (C_93 15)] ?_
  refine Runs.sR hE ⟨[(0,(encL cI 0 a)),(1,(encL cI 0 b)),(5,.nil),(6,(aI 0))],[],48⟩ (C_93 14) [] [] (kp [0,1,5,6]) [] 48 [] trivial ?_
  refine Runs.sA 2 [.code (C_93 60),.code (C_93 61),.code (C_93 31)] ?_
  refine Runs.sR hE ⟨[(0,(encL cI 0 a)),(1,(encL cI 0 b)),(5,.nil),(6,(aI 0)),(7,(aI 0))],[],64⟩ (C_93 60) [] [] (kp [0,1,5,6,7]) [] 64 [] trivial ?_
  refine Runs.sA 2 [.code (C_93 244),.inLoop (C_93 244),.inBlock 0,.code (C_93 31)] ?_
  exact Runs.sW hE _ [] (kp [0,1] ++ [(5,.nilos 0)] ++ kp [6,7]) [(0,.nil 1 (fun zi=>cI (([]:List Int).getD zi 0)))] 1 [] trivial (g_r01_plus_L1_ok N a b N ([]:List Int) 0 0 _ h E hE)
noncomputable def C_92 (n:Nat):Code:=cat (bodyOf Tryz.f71) (pth n)
theorem g_r01_Add_ok (N:Nat) (a:TInt) (b:TInt) (r:TInt) (h:g_r01_Add N a b = some r):Sound Tryz.prog 71 [(.agg (TInt.cells a)),(.agg (TInt.cells b))] [] 0 (.agg (TInt.cells r)) []:=by
  unfold g_r01_Add at h
  refine Sound.of_runs (fu:=Tryz.f71) (c:=C_92 1) (nt:=40) (by kernel_rfl) (by kernel_rfl) (by kernel_rfl) (by kernel_rfl) (fun hm=>rfl) ?_
  intro E hE
  refine Runs.sA 1 [.code (C_92 2),.code (C_92 3)] ?_
  refine Runs.sR hE ⟨[(2,(.op 0 0 0)),(3,(.op 16 0 0)),(4,(.op 32 0 0))],[(0,vO 2 (TInt.cells a)),(16,vO 2 (TInt.cells b)),(32,vO 2 [(aB false),.nil])],48⟩ (C_92 2) [] [] (kp [2,3,4]) (kq [0,16,32]) 48 [] trivial ?_
  refine Runs.sA 1 [.code (C_92 6),.code (C_92 7)] ?_
  obtain ⟨rread,hr,h⟩:=bindSome h
  obtain ⟨rread2,hr2,h⟩:=bindSome h
  refine Runs.sR hE ⟨[(2,(.op 0 0 0)),(3,(.op 16 0 0)),(4,(.op 32 0 0)),(5,(encL cI 0 rread)),(6,(encL cI 0 rread2))],[(0,vO 2 (TInt.cells a)),(16,vO 2 (TInt.cells b)),(32,vO 2 [(aB false),.nil])],176⟩ (C_92 6) [(2,⟨[],true,(encL cI 0 rread),[],0,false,none⟩),(5,⟨[],true,(encL cI 0 rread2),[],0,false,none⟩)] [] (kp [2,3,4,5,6]) (kq [0,16,32]) 176 [0 < 1,Sound Tryz.prog 92 [(encL (cU .u16) 0 a.f_Limbs)] [] 0 (encL cI 0 rread) [],0 < 1,Sound Tryz.prog 92 [(encL (cU .u16) 0 b.f_Limbs)] [] 0 (encL cI 0 rread2) []] ⟨o1,(g_r01_read_ok N a.f_Limbs rread hr),o1,(g_r01_read_ok N b.f_Limbs rread2 hr2),trivial⟩ ?_
  refine Runs.sA 2 [.code (C_92 28),.code (C_92 29),.code (C_92 15)] ?_
  refine Runs.sR hE ⟨[(2,(.op 0 0 0)),(3,(.op 16 0 0)),(4,(.op 32 0 0)),(5,(encL cI 0 rread)),(6,(encL cI 0 rread2)),(17,(aB (a.f_Neg == b.f_Neg)))],[(0,vO 2 (TInt.cells a)),(16,vO 2 (TInt.cells b)),(32,vO 2 [(aB false),.nil])],256⟩ (C_92 28) [] [] (kp [2,3,4,5,6,17]) (kq [0,16,32]) 256 [0 < 1,0 < 1] ⟨o1,o1,trivial⟩ ?_
  refine Runs.sC 17 (C_92 58) (C_92 59) (a.f_Neg == b.f_Neg) (fun hq2=>?_) (fun hq2=>?_)
  · have h:=condT h hq2
    refine Runs.sA 1 [.code (C_92 116),.code (C_92 117),.code (C_92 15)] ?_
    obtain ⟨rplus,hr3,h⟩:=bindSome h
    obtain ⟨rmade,hr4,h⟩:=bindSome h
    refine Runs.sR hE ⟨[(4,(.op 32 0 0))],[(32,vO 2 (TInt.cells rmade))],368⟩ (C_92 116) [(4,⟨[],true,(encL cI 0 rplus),[],0,false,none⟩),(5,⟨[],true,(.agg (TInt.cells rmade)),[],0,false,none⟩)] [] (kp [4]) (kq [32]) 368 [0 < 1,Sound Tryz.prog 95 [(encL cI 0 rread),(encL cI 0 rread2)] [] 0 (encL cI 0 rplus) [],Sound Tryz.prog 91 [(aB a.f_Neg),(encL cI 0 rplus)] [] 0 (.agg (TInt.cells rmade)) [],0 < 1] ⟨o1,(g_r01_plus_ok N rread rread2 rplus hr3),(g_r01_made_ok N a.f_Neg rplus rmade hr4),o1,trivial⟩ ?_
    obtain rfl:=Option.some.inj h
    refine Runs.sW hE ⟨[(4,(.op 16 0 0))],[(16,vO 2 (TInt.cells rmade))],368⟩ [] (kp [4]) [(16,.keep 32)] 368 [] trivial ?_
    exact Runs.sT Tryz.f71 [16] [0 < 1] ⟨o1,trivial⟩
  · have h:=condF h hq2
    refine Runs.sA 3 [.code (C_92 60),.code (C_92 61),.code (C_92 31)] ?_
    obtain ⟨rcompare,hr5,h⟩:=bindSome h
    refine Runs.sR hE ⟨[(2,(.op 0 0 0)),(3,(.op 16 0 0)),(4,(.op 32 0 0)),(5,(encL cI 0 rread)),(6,(encL cI 0 rread2)),(27,(aB (decide (rcompare ≥ 0))))],[(0,vO 2 (TInt.cells a)),(16,vO 2 (TInt.cells b)),(32,vO 2 [(aB false),.nil])],320⟩ (C_92 60) [(2,⟨[],true,(aI rcompare),[],0,false,none⟩)] [] (kp [2,3,4,5,6,27]) (kq [0,16,32]) 320 [Sound Tryz.prog 96 [(encL cI 0 rread),(encL cI 0 rread2)] [] 0 (aI rcompare) []] ⟨(g_r01_compare_ok N rread rread2 rcompare hr5),trivial⟩ ?_
    refine Runs.sC 27 (C_92 122) (C_92 123) (decide (rcompare ≥ 0)) (fun hq3=>?_) (fun hq3=>?_)
    · have h:=condT h hq3
      refine Runs.sA 1 [.code (C_92 244),.code (C_92 245),.code (C_92 31)] ?_
      obtain ⟨rminus,hr6,h⟩:=bindSome h
      obtain ⟨rmade2,hr7,h⟩:=bindSome h
      refine Runs.sR hE ⟨[(4,(.op 32 0 0))],[(32,vO 2 (TInt.cells rmade2))],432⟩ (C_92 244) [(4,⟨[],true,(encL cI 0 rminus),[],0,false,none⟩),(5,⟨[],true,(.agg (TInt.cells rmade2)),[],0,false,none⟩)] [] (kp [4]) (kq [32]) 432 [0 < 1,Sound Tryz.prog 97 [(encL cI 0 rread),(encL cI 0 rread2)] [] 0 (encL cI 0 rminus) [],Sound Tryz.prog 91 [(aB a.f_Neg),(encL cI 0 rminus)] [] 0 (.agg (TInt.cells rmade2)) [],0 < 1] ⟨o1,(g_r01_minus_ok N rread rread2 rminus hr6),(g_r01_made_ok N a.f_Neg rminus rmade2 hr7),o1,trivial⟩ ?_
      obtain rfl:=Option.some.inj h
      refine Runs.sW hE ⟨[(4,(.op 16 0 0))],[(16,vO 2 (TInt.cells rmade2))],432⟩ [] (kp [4]) [(16,.keep 32)] 432 [] trivial ?_
      exact Runs.sT Tryz.f71 [16] [0 < 1] ⟨o1,trivial⟩
    · have h:=condF h hq3
      refine Runs.sA 2 [.code (C_92 62),.code (C_92 63)] ?_
      obtain ⟨rminus2,hr8,h⟩:=bindSome h
      obtain ⟨rmade3,hr9,h⟩:=bindSome h
      refine Runs.sR hE ⟨[(4,(.op 32 0 0))],[(32,vO 2 (TInt.cells rmade3))],432⟩ (C_92 62) [(4,⟨[],true,(encL cI 0 rminus2),[],0,false,none⟩),(5,⟨[],true,(.agg (TInt.cells rmade3)),[],0,false,none⟩)] [] (kp [4]) (kq [32]) 432 [0 < 1,Sound Tryz.prog 97 [(encL cI 0 rread2),(encL cI 0 rread)] [] 0 (encL cI 0 rminus2) [],Sound Tryz.prog 91 [(aB b.f_Neg),(encL cI 0 rminus2)] [] 0 (.agg (TInt.cells rmade3)) [],0 < 1] ⟨o1,(g_r01_minus_ok N rread2 rread rminus2 hr8),(g_r01_made_ok N b.f_Neg rminus2 rmade3 hr9),o1,trivial⟩ ?_
      obtain rfl:=Option.some.inj h
      refine Runs.sW hE ⟨[(4,(.op 16 0 0))],[(16,vO 2 (TInt.cells rmade3))],432⟩ [] (kp [4]) [(16,.keep 32)] 432 [] trivial ?_
      exact Runs.sT Tryz.f71 [16] [0 < 1] ⟨o1,trivial⟩
noncomputable def C_80 (n:Nat):Code:=cat (bodyOf Tryz.f40) (pth n)
theorem g_r01_AddRat_ok (N:Nat) (x:TRat) (y:TRat) (r:TRat) (h:g_r01_AddRat N x y = some r):Sound Tryz.prog 40 [(.agg (TRat.cells x)),(.agg (TRat.cells y))] [] 0 (.agg (TRat.cells r)) []:=by
  unfold g_r01_AddRat at h
  refine Sound.of_runs (fu:=Tryz.f40) (c:=C_80 1) (nt:=28) (by kernel_rfl) (by kernel_rfl) (by kernel_rfl) (by kernel_rfl) (fun hm=>rfl) ?_
  intro E hE
  refine Runs.sA 1 [.code (C_80 2),.code (C_80 3)] ?_
  refine Runs.sR hE ⟨[(2,(.op 0 0 0)),(3,(.op 16 0 0)),(4,(.op 32 0 0))],[(0,vO 4 (TRat.cells x)),(16,vO 4 (TRat.cells y)),(32,vO 4 [(aB false),.nil,(aB false),.nil])],48⟩ (C_80 2) [] [] (kp [2,3,4]) (kq [0,16,32]) 48 [] trivial ?_
  refine Runs.sA 1 [.code (C_80 6),.code (C_80 7)] ?_
  obtain ⟨rNormRat,hr,h⟩:=bindSome h
  obtain ⟨rNormRat2,hr2,h⟩:=bindSome h
  refine Runs.sR hE ⟨[(4,(.op 32 0 0)),(5,(.op 112 0 0)),(6,(.op 128 0 0))],[(32,vO 4 [(aB false),.nil,(aB false),.nil]),(112,vO 4 (TRat.cells rNormRat)),(128,vO 4 (TRat.cells rNormRat2))],176⟩ (C_80 6) [(1,⟨[],true,(.agg (TRat.cells rNormRat)),[],0,false,none⟩),(3,⟨[],true,(.agg (TRat.cells rNormRat2)),[],0,false,none⟩)] [] (kp [4,5,6]) (kq [32,112,128]) 176 [0 < 1,Sound Tryz.prog 69 [(.agg (TRat.cells x))] [] 0 (.agg (TRat.cells rNormRat)) [],0 < 1,Sound Tryz.prog 69 [(.agg (TRat.cells y))] [] 0 (.agg (TRat.cells rNormRat2)) [],0 < 1,0 < 1] ⟨o1,(g_r01_NormRat_ok N x rNormRat hr),o1,(g_r01_NormRat_ok N y rNormRat2 hr2),o1,o1,trivial⟩ ?_
  refine Runs.sA 1 [.code (C_80 14),.code (C_80 15)] ?_
  obtain ⟨rMul,hr3,h⟩:=bindSome h
  obtain ⟨rMul2,hr4,h⟩:=bindSome h
  obtain ⟨rAdd,hr5,h⟩:=bindSome h
  obtain ⟨rMul3,hr6,h⟩:=bindSome h
  obtain ⟨rOver,hr7,h⟩:=bindSome h
  refine Runs.sR hE ⟨[(4,(.op 32 0 0))],[(32,vO 4 (TRat.cells rOver))],464⟩ (C_80 14) [(4,⟨[],true,(.agg (TInt.cells rMul)),[],0,false,none⟩),(9,⟨[],true,(.agg (TInt.cells rMul2)),[],0,false,none⟩),(10,⟨[],true,(.agg (TInt.cells rAdd)),[],0,false,none⟩),(15,⟨[],true,(.agg (TInt.cells rMul3)),[],0,false,none⟩),(16,⟨[],true,(.agg (TRat.cells rOver)),[],0,false,none⟩)] [] (kp [4]) (kq [32]) 464 [0 < 1,0 < 1,Sound Tryz.prog 72 [(.agg (TInt.cells rNormRat.f_Num)),(.agg (TInt.cells rNormRat2.f_Den))] [] 0 (.agg (TInt.cells rMul)) [],0 < 1,0 < 1,Sound Tryz.prog 72 [(.agg (TInt.cells rNormRat2.f_Num)),(.agg (TInt.cells rNormRat.f_Den))] [] 0 (.agg (TInt.cells rMul2)) [],Sound Tryz.prog 71 [(.agg (TInt.cells rMul)),(.agg (TInt.cells rMul2))] [] 0 (.agg (TInt.cells rAdd)) [],0 < 1,0 < 1,Sound Tryz.prog 72 [(.agg (TInt.cells rNormRat.f_Den)),(.agg (TInt.cells rNormRat2.f_Den))] [] 0 (.agg (TInt.cells rMul3)) [],Sound Tryz.prog 70 [(.agg (TInt.cells rAdd)),(.agg (TInt.cells rMul3))] [] 0 (.agg (TRat.cells rOver)) [],0 < 1] ⟨o1,o1,(g_r01_Mul_ok N rNormRat.f_Num rNormRat2.f_Den rMul hr3),o1,o1,(g_r01_Mul_ok N rNormRat2.f_Num rNormRat.f_Den rMul2 hr4),(g_r01_Add_ok N rMul rMul2 rAdd hr5),o1,o1,(g_r01_Mul_ok N rNormRat.f_Den rNormRat2.f_Den rMul3 hr6),(g_r01_Over_ok N rAdd rMul3 rOver hr7),o1,trivial⟩ ?_
  obtain rfl:=Option.some.inj h
  refine Runs.sW hE ⟨[(4,(.op 16 0 0))],[(16,vO 4 (TRat.cells rOver))],464⟩ [] (kp [4]) [(16,.keep 32)] 464 [] trivial ?_
  exact Runs.sT Tryz.f40 [16] [0 < 1] ⟨o1,trivial⟩
noncomputable def C_95 (n:Nat):Code:=cat (bodyOf Tryz.f43) (pth n)
theorem g_r01_MulRat_ok (N:Nat) (x:TRat) (y:TRat) (r:TRat) (h:g_r01_MulRat N x y = some r):Sound Tryz.prog 43 [(.agg (TRat.cells x)),(.agg (TRat.cells y))] [] 0 (.agg (TRat.cells r)) []:=by
  unfold g_r01_MulRat at h
  refine Sound.of_runs (fu:=Tryz.f43) (c:=C_95 1) (nt:=22) (by kernel_rfl) (by kernel_rfl) (by kernel_rfl) (by kernel_rfl) (fun hm=>rfl) ?_
  intro E hE
  refine Runs.sA 1 [.code (C_95 2),.code (C_95 3)] ?_
  refine Runs.sR hE ⟨[(2,(.op 0 0 0)),(3,(.op 16 0 0)),(4,(.op 32 0 0))],[(0,vO 4 (TRat.cells x)),(16,vO 4 (TRat.cells y)),(32,vO 4 [(aB false),.nil,(aB false),.nil])],48⟩ (C_95 2) [] [] (kp [2,3,4]) (kq [0,16,32]) 48 [] trivial ?_
  refine Runs.sA 1 [.code (C_95 6),.code (C_95 7)] ?_
  obtain ⟨rNormRat,hr,h⟩:=bindSome h
  obtain ⟨rNormRat2,hr2,h⟩:=bindSome h
  refine Runs.sR hE ⟨[(4,(.op 32 0 0)),(5,(.op 112 0 0)),(6,(.op 128 0 0))],[(32,vO 4 [(aB false),.nil,(aB false),.nil]),(112,vO 4 (TRat.cells rNormRat)),(128,vO 4 (TRat.cells rNormRat2))],176⟩ (C_95 6) [(1,⟨[],true,(.agg (TRat.cells rNormRat)),[],0,false,none⟩),(3,⟨[],true,(.agg (TRat.cells rNormRat2)),[],0,false,none⟩)] [] (kp [4,5,6]) (kq [32,112,128]) 176 [0 < 1,Sound Tryz.prog 69 [(.agg (TRat.cells x))] [] 0 (.agg (TRat.cells rNormRat)) [],0 < 1,Sound Tryz.prog 69 [(.agg (TRat.cells y))] [] 0 (.agg (TRat.cells rNormRat2)) [],0 < 1,0 < 1] ⟨o1,(g_r01_NormRat_ok N x rNormRat hr),o1,(g_r01_NormRat_ok N y rNormRat2 hr2),o1,o1,trivial⟩ ?_
  refine Runs.sA 1 [.code (C_95 14),.code (C_95 15)] ?_
  obtain ⟨rMul,hr3,h⟩:=bindSome h
  obtain ⟨rMul2,hr4,h⟩:=bindSome h
  obtain ⟨rOver,hr5,h⟩:=bindSome h
  refine Runs.sR hE ⟨[(4,(.op 32 0 0))],[(32,vO 4 (TRat.cells rOver))],368⟩ (C_95 14) [(4,⟨[],true,(.agg (TInt.cells rMul)),[],0,false,none⟩),(9,⟨[],true,(.agg (TInt.cells rMul2)),[],0,false,none⟩),(10,⟨[],true,(.agg (TRat.cells rOver)),[],0,false,none⟩)] [] (kp [4]) (kq [32]) 368 [0 < 1,0 < 1,Sound Tryz.prog 72 [(.agg (TInt.cells rNormRat.f_Num)),(.agg (TInt.cells rNormRat2.f_Num))] [] 0 (.agg (TInt.cells rMul)) [],0 < 1,0 < 1,Sound Tryz.prog 72 [(.agg (TInt.cells rNormRat.f_Den)),(.agg (TInt.cells rNormRat2.f_Den))] [] 0 (.agg (TInt.cells rMul2)) [],Sound Tryz.prog 70 [(.agg (TInt.cells rMul)),(.agg (TInt.cells rMul2))] [] 0 (.agg (TRat.cells rOver)) [],0 < 1] ⟨o1,o1,(g_r01_Mul_ok N rNormRat.f_Num rNormRat2.f_Num rMul hr3),o1,o1,(g_r01_Mul_ok N rNormRat.f_Den rNormRat2.f_Den rMul2 hr4),(g_r01_Over_ok N rMul rMul2 rOver hr5),o1,trivial⟩ ?_
  obtain rfl:=Option.some.inj h
  refine Runs.sW hE ⟨[(4,(.op 16 0 0))],[(16,vO 4 (TRat.cells rOver))],368⟩ [] (kp [4]) [(16,.keep 32)] 368 [] trivial ?_
  exact Runs.sT Tryz.f43 [16] [0 < 1] ⟨o1,trivial⟩
noncomputable def C_94 (n:Nat):Code:=cat (bodyOf Tryz.f41) (pth n)
theorem g_r05_product_L1_ok (N:Nat) (l:List Int) (fuel:Nat):∀ (out:TRat) (i:Int) (r:TRat),g_r05_product_L1 N l fuel out i = some r→∀ E,EnvOk E 0→Runs Tryz.prog E 41 20 (SPost E [] (.agg (TRat.cells r))) [.code (C_94 116),.inLoop (C_94 116),.inBlock 0,.code (C_94 15)] ⟨[(0,(encL cI 0 l)),(2,(.op 0 0 0)),(3,(.op 1 0 0)),(4,(aI i))],[(0,vO 4 [(aB false),.nil,(aB false),.nil]),(1,vO 4 (TRat.cells out))],2⟩:=by
  induction fuel with
  | zero=>intro _ _ r h; rw [g_r05_product_L1.eq_1] at h; cases h
  | succ fuel ih =>
    intro out i r h E hE
    rw [g_r05_product_L1.eq_2] at h
    refine Runs.sA 2 [.code (C_94 464),.code (C_94 465),.code (C_94 233),.inLoop (C_94 116),.inBlock 0,.code (C_94 15)] ?_
    refine Runs.sR hE ⟨[(0,(encL cI 0 l)),(2,(.op 0 0 0)),(3,(.op 1 0 0)),(4,(aI i)),(9,(aB (decide (i < ((l.length:Nat):Int)))))],[(0,vO 4 [(aB false),.nil,(aB false),.nil]),(1,vO 4 (TRat.cells out))],66⟩ (C_94 464) [] [] (kp [0,2,3,4,9]) (kq [0,1]) 66 [] trivial ?_
    refine Runs.sC 9 (C_94 930) (C_94 931) (decide (i < ((l.length:Nat):Int))) (fun hq2=>?_) (fun hq2=>?_)
    · have h:=condT h hq2
      refine Runs.sA 3 [.code (C_94 932),.inBlock 1,.code (C_94 467),.inLoop (C_94 116),.inBlock 0,.code (C_94 15)] ?_
      obtain ⟨c,h⟩:=ifSome h
      obtain ⟨rQ2,hr2,h⟩:=bindSome h
      obtain ⟨rMulRat,hr3,h⟩:=bindSome h
      refine Runs.sR hE ⟨[(0,(encL cI 0 l)),(2,(.op 0 0 0)),(3,(.op 1 0 0)),(4,(aI i))],[(0,vO 4 [(aB false),.nil,(aB false),.nil]),(1,vO 4 (TRat.cells rMulRat))],194⟩ (C_94 932) [(5,⟨[],true,(.agg (TRat.cells rQ2)),[],0,false,none⟩),(6,⟨[],true,(.agg (TRat.cells rMulRat)),[],0,false,none⟩)] [] (kp [0,2,3,4]) (kq [0,1]) 194 [0 < 1,0≤i∧i < ((l.length:Nat):Int),Sound Tryz.prog 38 [(aI (l.getD ((i).toNat) 0))] [] 0 (.agg (TRat.cells rQ2)) [],Sound Tryz.prog 43 [(.agg (TRat.cells out)),(.agg (TRat.cells rQ2))] [] 0 (.agg (TRat.cells rMulRat)) [],0 < 1] ⟨o1,c,(g_r01_Q_ok N (l.getD ((i).toNat) 0) rQ2 hr2),(g_r01_MulRat_ok N out rQ2 rMulRat hr3),o1,trivial⟩ ?_
      refine Runs.sA 1 [.code (C_94 467),.inLoop (C_94 116),.inBlock 0,.code (C_94 15)] ?_
      refine Runs.sR hE ⟨[(0,(encL cI 0 l)),(2,(.op 0 0 0)),(3,(.op 1 0 0)),(4,(aI (w64 (i+1))))],[(0,vO 4 [(aB false),.nil,(aB false),.nil]),(1,vO 4 (TRat.cells rMulRat))],242⟩ (C_94 467) [] [] (kp [0,2,3,4]) (kq [0,1]) 242 [] trivial ?_
      refine Runs.sA 1 [.code (C_94 116),.inLoop (C_94 116),.inBlock 0,.code (C_94 15)] ?_
      exact Runs.sW hE _ [] (kp [0,2,3,4]) (kq [0,1]) 2 [] trivial (ih rMulRat (w64 (i+1)) _ h E hE)
    · have h:=condF h hq2
      refine Runs.sA 2 [.code (C_94 30),.code (C_94 31)] ?_
      refine Runs.sR hE ⟨[(2,(.op 0 0 0))],[(0,vO 4 (TRat.cells out))],98⟩ (C_94 30) [] [] (kp [2]) (kq [0]) 98 [0 < 1,0 < 1] ⟨o1,o1,trivial⟩ ?_
      obtain rfl:=Option.some.inj h
      refine Runs.sW hE ⟨[(2,(.op 16 0 0))],[(16,vO 4 (TRat.cells out))],98⟩ [] (kp [2]) [(16,.keep 0)] 98 [] trivial ?_
      exact Runs.sT Tryz.f41 [16] [0 < 1] ⟨o1,trivial⟩
theorem g_r05_product_ok (N:Nat) (l:List Int) (r:TRat) (h:g_r05_product N l = some r):Sound Tryz.prog 41 [(encL cI 0 l)] [] 0 (.agg (TRat.cells r)) []:=by
  unfold g_r05_product at h
  refine Sound.of_runs (fu:=Tryz.f41) (c:=C_94 1) (nt:=20) (by kernel_rfl) (by kernel_rfl) (by kernel_rfl) (by kernel_rfl) (fun hm=>rfl) ?_
  intro E hE
  refine Runs.sA 1 [.code (C_94 2),.code (C_94 3)] ?_
  refine Runs.sR hE ⟨[(0,(encL cI 0 l)),(2,(.op 0 0 0))],[(0,vO 4 [(aB false),.nil,(aB false),.nil])],16⟩ (C_94 2) [] [] (kp [0,2]) (kq [0]) 16 [] trivial ?_
  refine Runs.sA 1 [.code (C_94 6),.code (C_94 7)] ?_
  obtain ⟨rQ,hr,h⟩:=bindSome h
  refine Runs.sR hE ⟨[(0,(encL cI 0 l)),(2,(.op 0 0 0)),(3,(.op 32 0 0))],[(0,vO 4 [(aB false),.nil,(aB false),.nil]),(32,vO 4 (TRat.cells rQ))],64⟩ (C_94 6) [(0,⟨[],true,(.agg (TRat.cells rQ)),[],0,false,none⟩)] [] (kp [0,2,3]) (kq [0,32]) 64 [Sound Tryz.prog 38 [(aI 1)] [] 0 (.agg (TRat.cells rQ)) [],0 < 1] ⟨(g_r01_Q_ok N 1 rQ hr),o1,trivial⟩ ?_
  refine Runs.sA 2 [.code (C_94 28),.code (C_94 29),.code (C_94 15)] ?_
  refine Runs.sR hE ⟨[(0,(encL cI 0 l)),(2,(.op 0 0 0)),(3,(.op 32 0 0)),(4,(aI 0))],[(0,vO 4 [(aB false),.nil,(aB false),.nil]),(32,vO 4 (TRat.cells rQ))],80⟩ (C_94 28) [] [] (kp [0,2,3,4]) (kq [0,32]) 80 [] trivial ?_
  refine Runs.sA 2 [.code (C_94 116),.inLoop (C_94 116),.inBlock 0,.code (C_94 15)] ?_
  exact Runs.sW hE _ [] (kp [0,2,3,4]) (kq [0] ++ [(1,.keep 32)]) 2 [] trivial (g_r05_product_L1_ok N l N rQ 0 _ h E hE)
noncomputable def C_96 (n:Nat):Code:=cat (bodyOf Tryz.f42) (pth n)
theorem g_r05_size_ok (N:Nat) (n:Int) (r:Int) (h:g_r05_size N n = some r):Sound Tryz.prog 42 [(aI n)] [] 0 (aI r) []:=by
  unfold g_r05_size at h
  refine Sound.of_runs (fu:=Tryz.f42) (c:=C_96 1) (nt:=8) (by kernel_rfl) (by kernel_rfl) (by kernel_rfl) (by kernel_rfl) (fun hm=>rfl) ?_
  intro E hE
  refine Runs.sA 1 [.code (C_96 2),.code (C_96 3)] ?_
  refine Runs.sR hE ⟨[(0,(aI n))],[],16⟩ (C_96 2) [] [] (kp [0]) [] 16 [] trivial ?_
  refine Runs.sA 2 [.code (C_96 12),.code (C_96 13),.code (C_96 7)] ?_
  refine Runs.sR hE ⟨[(0,(aI n)),(4,(aB (decide (n < 0))))],[],48⟩ (C_96 12) [] [] (kp [0,4]) [] 48 [] trivial ?_
  refine Runs.sC 4 (C_96 26) (C_96 27) (decide (n < 0)) (fun hq2=>?_) (fun hq2=>?_)
  · have h:=condT h hq2
    refine Runs.sA 1 [.code (C_96 52),.code (C_96 53),.code (C_96 7)] ?_
    refine Runs.sR hE ⟨[(2,(aI (w64 (0 - n))))],[],96⟩ (C_96 52) [] [] (kp [2]) [] 96 [] trivial ?_
    obtain rfl:=Option.some.inj h
    refine Runs.sW hE ⟨[(2,(aI (w64 (0 - n))))],[],96⟩ [] (kp [2]) [] 96 [] trivial ?_
    exact Runs.sT Tryz.f42 [] [] trivial
  · have h:=condF h hq2
    refine Runs.sA 2 [.code (C_96 14),.code (C_96 15)] ?_
    refine Runs.sR hE ⟨[(2,(aI n))],[],80⟩ (C_96 14) [] [] (kp [2]) [] 80 [] trivial ?_
    obtain rfl:=Option.some.inj h
    refine Runs.sW hE ⟨[(2,(aI n))],[],80⟩ [] (kp [2]) [] 80 [] trivial ?_
    exact Runs.sT Tryz.f42 [] [] trivial
noncomputable def C_97 (n:Nat):Code:=cat (bodyOf Tryz.f44) (pth n)
theorem g_r01_QuoRat_ok (N:Nat) (x:TRat) (y:TRat) (r:TRat) (h:g_r01_QuoRat N x y = some r):Sound Tryz.prog 44 [(.agg (TRat.cells x)),(.agg (TRat.cells y))] [] 0 (.agg (TRat.cells r)) []:=by
  unfold g_r01_QuoRat at h
  refine Sound.of_runs (fu:=Tryz.f44) (c:=C_97 1) (nt:=22) (by kernel_rfl) (by kernel_rfl) (by kernel_rfl) (by kernel_rfl) (fun hm=>rfl) ?_
  intro E hE
  refine Runs.sA 1 [.code (C_97 2),.code (C_97 3)] ?_
  refine Runs.sR hE ⟨[(2,(.op 0 0 0)),(3,(.op 16 0 0)),(4,(.op 32 0 0))],[(0,vO 4 (TRat.cells x)),(16,vO 4 (TRat.cells y)),(32,vO 4 [(aB false),.nil,(aB false),.nil])],48⟩ (C_97 2) [] [] (kp [2,3,4]) (kq [0,16,32]) 48 [] trivial ?_
  refine Runs.sA 1 [.code (C_97 6),.code (C_97 7)] ?_
  obtain ⟨rNormRat,hr,h⟩:=bindSome h
  obtain ⟨rNormRat2,hr2,h⟩:=bindSome h
  refine Runs.sR hE ⟨[(4,(.op 32 0 0)),(5,(.op 112 0 0)),(6,(.op 128 0 0))],[(32,vO 4 [(aB false),.nil,(aB false),.nil]),(112,vO 4 (TRat.cells rNormRat)),(128,vO 4 (TRat.cells rNormRat2))],176⟩ (C_97 6) [(1,⟨[],true,(.agg (TRat.cells rNormRat)),[],0,false,none⟩),(3,⟨[],true,(.agg (TRat.cells rNormRat2)),[],0,false,none⟩)] [] (kp [4,5,6]) (kq [32,112,128]) 176 [0 < 1,Sound Tryz.prog 69 [(.agg (TRat.cells x))] [] 0 (.agg (TRat.cells rNormRat)) [],0 < 1,Sound Tryz.prog 69 [(.agg (TRat.cells y))] [] 0 (.agg (TRat.cells rNormRat2)) [],0 < 1,0 < 1] ⟨o1,(g_r01_NormRat_ok N x rNormRat hr),o1,(g_r01_NormRat_ok N y rNormRat2 hr2),o1,o1,trivial⟩ ?_
  refine Runs.sA 1 [.code (C_97 14),.code (C_97 15)] ?_
  obtain ⟨rMul,hr3,h⟩:=bindSome h
  obtain ⟨rMul2,hr4,h⟩:=bindSome h
  obtain ⟨rOver,hr5,h⟩:=bindSome h
  refine Runs.sR hE ⟨[(4,(.op 32 0 0))],[(32,vO 4 (TRat.cells rOver))],368⟩ (C_97 14) [(4,⟨[],true,(.agg (TInt.cells rMul)),[],0,false,none⟩),(9,⟨[],true,(.agg (TInt.cells rMul2)),[],0,false,none⟩),(10,⟨[],true,(.agg (TRat.cells rOver)),[],0,false,none⟩)] [] (kp [4]) (kq [32]) 368 [0 < 1,0 < 1,Sound Tryz.prog 72 [(.agg (TInt.cells rNormRat.f_Num)),(.agg (TInt.cells rNormRat2.f_Den))] [] 0 (.agg (TInt.cells rMul)) [],0 < 1,0 < 1,Sound Tryz.prog 72 [(.agg (TInt.cells rNormRat.f_Den)),(.agg (TInt.cells rNormRat2.f_Num))] [] 0 (.agg (TInt.cells rMul2)) [],Sound Tryz.prog 70 [(.agg (TInt.cells rMul)),(.agg (TInt.cells rMul2))] [] 0 (.agg (TRat.cells rOver)) [],0 < 1] ⟨o1,o1,(g_r01_Mul_ok N rNormRat.f_Num rNormRat2.f_Den rMul hr3),o1,o1,(g_r01_Mul_ok N rNormRat.f_Den rNormRat2.f_Num rMul2 hr4),(g_r01_Over_ok N rMul rMul2 rOver hr5),o1,trivial⟩ ?_
  obtain rfl:=Option.some.inj h
  refine Runs.sW hE ⟨[(4,(.op 16 0 0))],[(16,vO 4 (TRat.cells rOver))],368⟩ [] (kp [4]) [(16,.keep 32)] 368 [] trivial ?_
  exact Runs.sT Tryz.f44 [16] [0 < 1] ⟨o1,trivial⟩
noncomputable def C_100 (n:Nat):Code:=cat (bodyOf Tryz.f99) (pth n)
theorem g_r01_Neg_ok (N:Nat) (a:TInt) (r:TInt) (h:g_r01_Neg N a = some r):Sound Tryz.prog 99 [(.agg (TInt.cells a))] [] 0 (.agg (TInt.cells r)) []:=by
  unfold g_r01_Neg at h
  refine Sound.of_runs (fu:=Tryz.f99) (c:=C_100 1) (nt:=10) (by kernel_rfl) (by kernel_rfl) (by kernel_rfl) (by kernel_rfl) (fun hm=>rfl) ?_
  intro E hE
  refine Runs.sA 1 [.code (C_100 2),.code (C_100 3)] ?_
  refine Runs.sR hE ⟨[(1,(.op 0 0 0)),(2,(.op 16 0 0))],[(0,vO 2 (TInt.cells a)),(16,vO 2 [(aB false),.nil])],32⟩ (C_100 2) [] [] (kp [1,2]) (kq [0,16]) 32 [] trivial ?_
  refine Runs.sA 1 [.code (C_100 6),.code (C_100 7)] ?_
  obtain ⟨rread,hr,h⟩:=bindSome h
  obtain ⟨rmade,hr2,h⟩:=bindSome h
  refine Runs.sR hE ⟨[(2,(.op 16 0 0))],[(16,vO 2 (TInt.cells rmade))],160⟩ (C_100 6) [(5,⟨[],true,(encL cI 0 rread),[],0,false,none⟩),(6,⟨[],true,(.agg (TInt.cells rmade)),[],0,false,none⟩)] [] (kp [2]) (kq [16]) 160 [0 < 1,0 < 1,Sound Tryz.prog 92 [(encL (cU .u16) 0 a.f_Limbs)] [] 0 (encL cI 0 rread) [],Sound Tryz.prog 91 [(aB (!a.f_Neg)),(encL cI 0 rread)] [] 0 (.agg (TInt.cells rmade)) [],0 < 1] ⟨o1,o1,(g_r01_read_ok N a.f_Limbs rread hr),(g_r01_made_ok N (!a.f_Neg) rread rmade hr2),o1,trivial⟩ ?_
  obtain rfl:=Option.some.inj h
  refine Runs.sW hE ⟨[(2,(.op 16 0 0))],[(16,vO 2 (TInt.cells rmade))],160⟩ [] (kp [2]) (kq [16]) 160 [] trivial ?_
  exact Runs.sT Tryz.f99 [16] [0 < 1] ⟨o1,trivial⟩
noncomputable def C_99 (n:Nat):Code:=cat (bodyOf Tryz.f73) (pth n)
theorem g_r01_NegRat_ok (N:Nat) (x:TRat) (r:TRat) (h:g_r01_NegRat N x = some r):Sound Tryz.prog 73 [(.agg (TRat.cells x))] [] 0 (.agg (TRat.cells r)) []:=by
  unfold g_r01_NegRat at h
  refine Sound.of_runs (fu:=Tryz.f73) (c:=C_99 1) (nt:=12) (by kernel_rfl) (by kernel_rfl) (by kernel_rfl) (by kernel_rfl) (fun hm=>rfl) ?_
  intro E hE
  refine Runs.sA 1 [.code (C_99 2),.code (C_99 3)] ?_
  refine Runs.sR hE ⟨[(1,(.op 0 0 0)),(2,(.op 16 0 0))],[(0,vO 4 (TRat.cells x)),(16,vO 4 [(aB false),.nil,(aB false),.nil])],32⟩ (C_99 2) [] [] (kp [1,2]) (kq [0,16]) 32 [] trivial ?_
  refine Runs.sA 1 [.code (C_99 6),.code (C_99 7)] ?_
  obtain ⟨rNormRat,hr,h⟩:=bindSome h
  refine Runs.sR hE ⟨[(2,(.op 16 0 0)),(3,(.op 64 0 0))],[(16,vO 4 [(aB false),.nil,(aB false),.nil]),(64,vO 4 (TRat.cells rNormRat))],96⟩ (C_99 6) [(1,⟨[],true,(.agg (TRat.cells rNormRat)),[],0,false,none⟩)] [] (kp [2,3]) (kq [16,64]) 96 [0 < 1,Sound Tryz.prog 69 [(.agg (TRat.cells x))] [] 0 (.agg (TRat.cells rNormRat)) [],0 < 1] ⟨o1,(g_r01_NormRat_ok N x rNormRat hr),o1,trivial⟩ ?_
  refine Runs.sA 1 [.code (C_99 14),.code (C_99 15)] ?_
  obtain ⟨rNeg,hr2,h⟩:=bindSome h
  refine Runs.sR hE ⟨[(2,(.op 16 0 0))],[(16,vO 4 [(aB rNeg.f_Neg),(encL (cU .u16) 0 rNeg.f_Limbs),(aB rNormRat.f_Den.f_Neg),(encL (cU .u16) 0 rNormRat.f_Den.f_Limbs)])],208⟩ (C_99 14) [(2,⟨[],true,(.agg (TInt.cells rNeg)),[],0,false,none⟩)] [] (kp [2]) (kq [16]) 208 [0 < 1,Sound Tryz.prog 99 [(.agg (TInt.cells rNormRat.f_Num))] [] 0 (.agg (TInt.cells rNeg)) [],0 < 1,0 < 1] ⟨o1,(g_r01_Neg_ok N rNormRat.f_Num rNeg hr2),o1,o1,trivial⟩ ?_
  obtain rfl:=Option.some.inj h
  refine Runs.sW hE ⟨[(2,(.op 16 0 0))],[(16,vO 4 [(aB rNeg.f_Neg),(encL (cU .u16) 0 rNeg.f_Limbs),(aB rNormRat.f_Den.f_Neg),(encL (cU .u16) 0 rNormRat.f_Den.f_Limbs)])],208⟩ [] (kp [2]) (kq [16]) 208 [] trivial ?_
  exact Runs.sT Tryz.f73 [16] [0 < 1] ⟨o1,trivial⟩
noncomputable def C_98 (n:Nat):Code:=cat (bodyOf Tryz.f45) (pth n)
theorem g_r01_SubRat_ok (N:Nat) (x:TRat) (y:TRat) (r:TRat) (h:g_r01_SubRat N x y = some r):Sound Tryz.prog 45 [(.agg (TRat.cells x)),(.agg (TRat.cells y))] [] 0 (.agg (TRat.cells r)) []:=by
  unfold g_r01_SubRat at h
  refine Sound.of_runs (fu:=Tryz.f45) (c:=C_98 1) (nt:=9) (by kernel_rfl) (by kernel_rfl) (by kernel_rfl) (by kernel_rfl) (fun hm=>rfl) ?_
  intro E hE
  refine Runs.sA 1 [.code (C_98 2),.code (C_98 3)] ?_
  refine Runs.sR hE ⟨[(2,(.op 0 0 0)),(3,(.op 16 0 0)),(4,(.op 32 0 0))],[(0,vO 4 (TRat.cells x)),(16,vO 4 (TRat.cells y)),(32,vO 4 [(aB false),.nil,(aB false),.nil])],48⟩ (C_98 2) [] [] (kp [2,3,4]) (kq [0,16,32]) 48 [] trivial ?_
  refine Runs.sA 1 [.code (C_98 6),.code (C_98 7)] ?_
  obtain ⟨rNegRat,hr,h⟩:=bindSome h
  obtain ⟨rAddRat,hr2,h⟩:=bindSome h
  refine Runs.sR hE ⟨[(4,(.op 32 0 0))],[(32,vO 4 (TRat.cells rAddRat))],128⟩ (C_98 6) [(2,⟨[],true,(.agg (TRat.cells rNegRat)),[],0,false,none⟩),(3,⟨[],true,(.agg (TRat.cells rAddRat)),[],0,false,none⟩)] [] (kp [4]) (kq [32]) 128 [0 < 1,0 < 1,Sound Tryz.prog 73 [(.agg (TRat.cells y))] [] 0 (.agg (TRat.cells rNegRat)) [],Sound Tryz.prog 40 [(.agg (TRat.cells x)),(.agg (TRat.cells rNegRat))] [] 0 (.agg (TRat.cells rAddRat)) [],0 < 1] ⟨o1,o1,(g_r01_NegRat_ok N y rNegRat hr),(g_r01_AddRat_ok N x rNegRat rAddRat hr2),o1,trivial⟩ ?_
  obtain rfl:=Option.some.inj h
  refine Runs.sW hE ⟨[(4,(.op 16 0 0))],[(16,vO 4 (TRat.cells rAddRat))],128⟩ [] (kp [4]) [(16,.keep 32)] 128 [] trivial ?_
  exact Runs.sT Tryz.f45 [16] [0 < 1] ⟨o1,trivial⟩
noncomputable def C_75 (n:Nat):Code:=cat (bodyOf Tryz.f15) (pth n)
theorem g_r05_Float_L1_ok (N:Nat) (p:TPontoon) (rloads:(List TPointMass)) (fuel:Nat):∀ (mass:TRat) (trim:TRat) (heel:TRat) (ends:TRat) (i:Int) (r:TPose),g_r05_Float_L1 N p rloads fuel mass trim heel ends i = some r→∀ E,EnvOk E 0→Runs Tryz.prog E 15 132 (SPost E [] (.agg (TPose.cells r))) [.code (C_75 244),.inLoop (C_75 244),.inBlock 0,.code (C_75 31)] ⟨[(2,(.op 0 0 0)),(4,(.op 1 0 0)),(5,(.op 2 0 0)),(6,(.op 3 0 0)),(7,(.op 4 0 0)),(8,(.op 5 0 0)),(9,(encL TPointMass.cells TPointMass.d rloads)),(10,(aI i))],[(0,vO 5 (TPontoon.cells p)),(1,vO 16 [(aB false),.nil,(aB false),.nil,(aB false),.nil,(aB false),.nil,(aB false),.nil,(aB false),.nil,(aB false),.nil,(aB false),.nil]),(2,vO 4 (TRat.cells mass)),(3,vO 4 (TRat.cells trim)),(4,vO 4 (TRat.cells heel)),(5,vO 4 (TRat.cells ends))],6⟩:=by
  induction fuel with
  | zero=>intro _ _ _ _ _ r h; rw [g_r05_Float_L1.eq_1] at h; cases h
  | succ fuel ih =>
    intro mass trim heel ends i r h E hE
    rw [g_r05_Float_L1.eq_2] at h
    refine Runs.sA 2 [.code (C_75 976),.code (C_75 977),.code (C_75 489),.inLoop (C_75 244),.inBlock 0,.code (C_75 31)] ?_
    refine Runs.sR hE ⟨[(2,(.op 0 0 0)),(4,(.op 1 0 0)),(5,(.op 2 0 0)),(6,(.op 3 0 0)),(7,(.op 4 0 0)),(8,(.op 5 0 0)),(9,(encL TPointMass.cells TPointMass.d rloads)),(10,(aI i)),(26,(aB (decide (i < ((rloads.length:Nat):Int)))))],[(0,vO 5 (TPontoon.cells p)),(1,vO 16 [(aB false),.nil,(aB false),.nil,(aB false),.nil,(aB false),.nil,(aB false),.nil,(aB false),.nil,(aB false),.nil,(aB false),.nil]),(2,vO 4 (TRat.cells mass)),(3,vO 4 (TRat.cells trim)),(4,vO 4 (TRat.cells heel)),(5,vO 4 (TRat.cells ends))],70⟩ (C_75 976) [] [] (kp [2,4,5,6,7,8,9,10,26]) (kq [0,1,2,3,4,5]) 70 [] trivial ?_
    refine Runs.sC 26 (C_75 1954) (C_75 1955) (decide (i < ((rloads.length:Nat):Int))) (fun hq2=>?_) (fun hq2=>?_)
    · have h:=condT h hq2
      refine Runs.sA 4 [.code (C_75 3912),.code (C_75 3913),.inBlock 1,.code (C_75 979),.inLoop (C_75 244),.inBlock 0,.code (C_75 31)] ?_
      obtain ⟨c,h⟩:=ifSome h
      obtain ⟨rQ5,hr6,h⟩:=bindSome h
      obtain ⟨rAddRat,hr7,h⟩:=bindSome h
      refine Runs.sR hE ⟨[(2,(.op 0 0 0)),(4,(.op 1 0 0)),(5,(.op 2 0 0)),(6,(.op 3 0 0)),(7,(.op 4 0 0)),(8,(.op 5 0 0)),(9,(encL TPointMass.cells TPointMass.d rloads)),(10,(aI i))],[(0,vO 5 (TPontoon.cells p)),(1,vO 16 [(aB false),.nil,(aB false),.nil,(aB false),.nil,(aB false),.nil,(aB false),.nil,(aB false),.nil,(aB false),.nil,(aB false),.nil]),(2,vO 4 (TRat.cells rAddRat)),(3,vO 4 (TRat.cells trim)),(4,vO 4 (TRat.cells heel)),(5,vO 4 (TRat.cells ends))],214⟩ (C_75 3912) [(6,⟨[],true,(.agg (TRat.cells rQ5)),[],0,false,none⟩),(7,⟨[],true,(.agg (TRat.cells rAddRat)),[],0,false,none⟩)] [] (kp [2,4,5,6,7,8,9,10]) (kq [0,1,2,3,4,5]) 214 [0 < 1,0≤i∧i < ((rloads.length:Nat):Int),Sound Tryz.prog 38 [(aI ((rloads.getD ((i).toNat) TPointMass.d).f_Mass))] [] 0 (.agg (TRat.cells rQ5)) [],Sound Tryz.prog 40 [(.agg (TRat.cells mass)),(.agg (TRat.cells rQ5))] [] 0 (.agg (TRat.cells rAddRat)) [],0 < 1] ⟨o1,c,(g_r01_Q_ok N ((rloads.getD ((i).toNat) TPointMass.d).f_Mass) rQ5 hr6),(g_r01_AddRat_ok N mass rQ5 rAddRat hr7),o1,trivial⟩ ?_
      refine Runs.sA 1 [.code (C_75 7826),.code (C_75 7827),.inBlock 1,.code (C_75 979),.inLoop (C_75 244),.inBlock 0,.code (C_75 31)] ?_
      obtain ⟨rproduct,hr8,h⟩:=bindSome h
      obtain ⟨rAddRat2,hr9,h⟩:=bindSome h
      refine Runs.sR hE ⟨[(2,(.op 0 0 0)),(4,(.op 1 0 0)),(5,(.op 2 0 0)),(6,(.op 3 0 0)),(7,(.op 4 0 0)),(8,(.op 5 0 0)),(9,(encL TPointMass.cells TPointMass.d rloads)),(10,(aI i))],[(0,vO 5 (TPontoon.cells p)),(1,vO 16 [(aB false),.nil,(aB false),.nil,(aB false),.nil,(aB false),.nil,(aB false),.nil,(aB false),.nil,(aB false),.nil,(aB false),.nil]),(2,vO 4 (TRat.cells rAddRat)),(3,vO 4 (TRat.cells rAddRat2)),(4,vO 4 (TRat.cells heel)),(5,vO 4 (TRat.cells ends))],454⟩ (C_75 7826) [(12,⟨[],true,(.agg (TRat.cells rproduct)),[],0,true,none⟩),(13,⟨[],true,(.agg (TRat.cells rAddRat2)),[],0,false,none⟩)] [] (kp [2,4,5,6,7,8,9,10]) (kq [0,1,2,3,4,5]) 454 [0 < 1,0≤i∧i < ((rloads.length:Nat):Int),0≤i∧i < ((rloads.length:Nat):Int),Sound Tryz.prog 41 [(.sl 2 (fun zi=>(fun zi=>([[(aI ((rloads.getD ((i).toNat) TPointMass.d).f_Mass))],[(aI ((rloads.getD ((i).toNat) TPointMass.d).f_X))]]:List (List AV)).getD zi []) (addz 0 zi)))] [] 0 (.agg (TRat.cells rproduct)) [],0+2≤2,Sound Tryz.prog 40 [(.agg (TRat.cells trim)),(.agg (TRat.cells rproduct))] [] 0 (.agg (TRat.cells rAddRat2)) [],0 < 1] ⟨o1,c,c,(Sound.conv (g_r05_product_ok N ([(rloads.getD ((i).toNat) TPointMass.d).f_Mass,(rloads.getD ((i).toNat) TPointMass.d).f_X]:List Int) rproduct hr8) (.cons (Alike.sl rfl (fun zq hzq=>get_chunk cI 0 ([(rloads.getD ((i).toNat) TPointMass.d).f_Mass,(rloads.getD ((i).toNat) TPointMass.d).f_X]:List Int) zq hzq)) .nil)),z0,(g_r01_AddRat_ok N trim rproduct rAddRat2 hr9),o1,trivial⟩ ?_
      refine Runs.sA 1 [.code (C_75 15654),.code (C_75 15655),.inBlock 1,.code (C_75 979),.inLoop (C_75 244),.inBlock 0,.code (C_75 31)] ?_
      obtain ⟨rproduct2,hr10,h⟩:=bindSome h
      obtain ⟨rAddRat3,hr11,h⟩:=bindSome h
      refine Runs.sR hE ⟨[(2,(.op 0 0 0)),(4,(.op 1 0 0)),(5,(.op 2 0 0)),(6,(.op 3 0 0)),(7,(.op 4 0 0)),(8,(.op 5 0 0)),(9,(encL TPointMass.cells TPointMass.d rloads)),(10,(aI i))],[(0,vO 5 (TPontoon.cells p)),(1,vO 16 [(aB false),.nil,(aB false),.nil,(aB false),.nil,(aB false),.nil,(aB false),.nil,(aB false),.nil,(aB false),.nil,(aB false),.nil]),(2,vO 4 (TRat.cells rAddRat)),(3,vO 4 (TRat.cells rAddRat2)),(4,vO 4 (TRat.cells rAddRat3)),(5,vO 4 (TRat.cells ends))],694⟩ (C_75 15654) [(12,⟨[],true,(.agg (TRat.cells rproduct2)),[],0,true,none⟩),(13,⟨[],true,(.agg (TRat.cells rAddRat3)),[],0,false,none⟩)] [] (kp [2,4,5,6,7,8,9,10]) (kq [0,1,2,3,4,5]) 694 [0 < 1,0≤i∧i < ((rloads.length:Nat):Int),0≤i∧i < ((rloads.length:Nat):Int),Sound Tryz.prog 41 [(.sl 2 (fun zi=>(fun zi=>([[(aI ((rloads.getD ((i).toNat) TPointMass.d).f_Mass))],[(aI ((rloads.getD ((i).toNat) TPointMass.d).f_Y))]]:List (List AV)).getD zi []) (addz 0 zi)))] [] 0 (.agg (TRat.cells rproduct2)) [],0+2≤2,Sound Tryz.prog 40 [(.agg (TRat.cells heel)),(.agg (TRat.cells rproduct2))] [] 0 (.agg (TRat.cells rAddRat3)) [],0 < 1] ⟨o1,c,c,(Sound.conv (g_r05_product_ok N ([(rloads.getD ((i).toNat) TPointMass.d).f_Mass,(rloads.getD ((i).toNat) TPointMass.d).f_Y]:List Int) rproduct2 hr10) (.cons (Alike.sl rfl (fun zq hzq=>get_chunk cI 0 ([(rloads.getD ((i).toNat) TPointMass.d).f_Mass,(rloads.getD ((i).toNat) TPointMass.d).f_Y]:List Int) zq hzq)) .nil)),z0,(g_r01_AddRat_ok N heel rproduct2 rAddRat3 hr11),o1,trivial⟩ ?_
      obtain ⟨rsize,hr12,h⟩:=bindSome h
      obtain ⟨rproduct3,hr13,h⟩:=bindSome h
      obtain ⟨rAddRat4,hr14,h⟩:=bindSome h
      refine Runs.sR hE ⟨[(2,(.op 0 0 0)),(4,(.op 1 0 0)),(5,(.op 2 0 0)),(6,(.op 3 0 0)),(7,(.op 4 0 0)),(8,(.op 5 0 0)),(9,(encL TPointMass.cells TPointMass.d rloads)),(10,(aI i))],[(0,vO 5 (TPontoon.cells p)),(1,vO 16 [(aB false),.nil,(aB false),.nil,(aB false),.nil,(aB false),.nil,(aB false),.nil,(aB false),.nil,(aB false),.nil,(aB false),.nil]),(2,vO 4 (TRat.cells rAddRat)),(3,vO 4 (TRat.cells rAddRat2)),(4,vO 4 (TRat.cells rAddRat3)),(5,vO 4 (TRat.cells rAddRat4))],950⟩ (C_75 15655) [(11,⟨[],true,(aI rsize),[],0,false,none⟩),(13,⟨[],true,(.agg (TRat.cells rproduct3)),[],0,true,none⟩),(14,⟨[],true,(.agg (TRat.cells rAddRat4)),[],0,false,none⟩)] [] (kp [2,4,5,6,7,8,9,10]) (kq [0,1,2,3,4,5]) 950 [0 < 1,0≤i∧i < ((rloads.length:Nat):Int),0≤i∧i < ((rloads.length:Nat):Int),Sound Tryz.prog 42 [(aI ((rloads.getD ((i).toNat) TPointMass.d).f_X))] [] 0 (aI rsize) [],Sound Tryz.prog 41 [(.sl 2 (fun zi=>(fun zi=>([[(aI ((rloads.getD ((i).toNat) TPointMass.d).f_Mass))],[(aI rsize)]]:List (List AV)).getD zi []) (addz 0 zi)))] [] 0 (.agg (TRat.cells rproduct3)) [],0+2≤2,Sound Tryz.prog 40 [(.agg (TRat.cells ends)),(.agg (TRat.cells rproduct3))] [] 0 (.agg (TRat.cells rAddRat4)) [],0 < 1] ⟨o1,c,c,(g_r05_size_ok N ((rloads.getD ((i).toNat) TPointMass.d).f_X) rsize hr12),(Sound.conv (g_r05_product_ok N ([(rloads.getD ((i).toNat) TPointMass.d).f_Mass,rsize]:List Int) rproduct3 hr13) (.cons (Alike.sl rfl (fun zq hzq=>get_chunk cI 0 ([(rloads.getD ((i).toNat) TPointMass.d).f_Mass,rsize]:List Int) zq hzq)) .nil)),z0,(g_r01_AddRat_ok N ends rproduct3 rAddRat4 hr14),o1,trivial⟩ ?_
      refine Runs.sA 1 [.code (C_75 979),.inLoop (C_75 244),.inBlock 0,.code (C_75 31)] ?_
      refine Runs.sR hE ⟨[(2,(.op 0 0 0)),(4,(.op 1 0 0)),(5,(.op 2 0 0)),(6,(.op 3 0 0)),(7,(.op 4 0 0)),(8,(.op 5 0 0)),(9,(encL TPointMass.cells TPointMass.d rloads)),(10,(aI (w64 (i+1))))],[(0,vO 5 (TPontoon.cells p)),(1,vO 16 [(aB false),.nil,(aB false),.nil,(aB false),.nil,(aB false),.nil,(aB false),.nil,(aB false),.nil,(aB false),.nil,(aB false),.nil]),(2,vO 4 (TRat.cells rAddRat)),(3,vO 4 (TRat.cells rAddRat2)),(4,vO 4 (TRat.cells rAddRat3)),(5,vO 4 (TRat.cells rAddRat4))],998⟩ (C_75 979) [] [] (kp [2,4,5,6,7,8,9,10]) (kq [0,1,2,3,4,5]) 998 [] trivial ?_
      refine Runs.sA 1 [.code (C_75 244),.inLoop (C_75 244),.inBlock 0,.code (C_75 31)] ?_
      exact Runs.sW hE _ [] (kp [2,4,5,6,7,8,9,10]) (kq [0,1,2,3,4,5]) 6 [] trivial (ih rAddRat rAddRat2 rAddRat3 rAddRat4 (w64 (i+1)) _ h E hE)
    · have h:=condF h hq2
      refine Runs.sA 2 [.code (C_75 62),.code (C_75 63)] ?_
      refine Runs.sR hE ⟨[(4,(.op 1 0 0)),(5,(.op 2 0 0)),(6,(.op 3 0 0)),(7,(.op 4 0 0)),(8,(.op 5 0 0)),(11,(aI p.f_Length)),(12,(aI p.f_Breadth)),(13,(aI p.f_Density))],[(1,vO 16 [(aB false),.nil,(aB false),.nil,(aB false),.nil,(aB false),.nil,(aB false),.nil,(aB false),.nil,(aB false),.nil,(aB false),.nil]),(2,vO 4 (TRat.cells mass)),(3,vO 4 (TRat.cells trim)),(4,vO 4 (TRat.cells heel)),(5,vO 4 (TRat.cells ends))],214⟩ (C_75 62) [] [] (kp [4,5,6,7,8,11,12,13]) (kq [1,2,3,4,5]) 214 [0 < 1,0 < 1,0 < 1] ⟨o1,o1,o1,trivial⟩ ?_
      refine Runs.sA 1 [.code (C_75 126),.code (C_75 127)] ?_
      obtain ⟨rQ6,hr15,h⟩:=bindSome h
      refine Runs.sR hE ⟨[(4,(.op 1 0 0)),(5,(.op 2 0 0)),(6,(.op 3 0 0)),(7,(.op 4 0 0)),(8,(.op 5 0 0)),(11,(aI p.f_Length)),(12,(aI p.f_Breadth)),(13,(aI p.f_Density)),(14,(.op 230 0 0))],[(1,vO 16 [(aB false),.nil,(aB false),.nil,(aB false),.nil,(aB false),.nil,(aB false),.nil,(aB false),.nil,(aB false),.nil,(aB false),.nil]),(2,vO 4 (TRat.cells mass)),(3,vO 4 (TRat.cells trim)),(4,vO 4 (TRat.cells heel)),(5,vO 4 (TRat.cells ends)),(230,vO 4 (TRat.cells rQ6))],262⟩ (C_75 126) [(0,⟨[],true,(.agg (TRat.cells rQ6)),[],0,false,none⟩)] [] (kp [4,5,6,7,8,11,12,13,14]) (kq [1,2,3,4,5,230]) 262 [Sound Tryz.prog 38 [(aI 1000000000)] [] 0 (.agg (TRat.cells rQ6)) [],0 < 1] ⟨(g_r01_Q_ok N 1000000000 rQ6 hr15),o1,trivial⟩ ?_
      refine Runs.sA 1 [.code (C_75 254),.code (C_75 255)] ?_
      obtain ⟨rQ7,hr16,h⟩:=bindSome h
      obtain ⟨rMulRat,hr17,h⟩:=bindSome h
      refine Runs.sR hE ⟨[(4,(.op 1 0 0)),(5,(.op 2 0 0)),(6,(.op 3 0 0)),(7,(.op 4 0 0)),(8,(.op 5 0 0)),(11,(aI p.f_Length)),(12,(aI p.f_Breadth)),(13,(aI p.f_Density)),(14,(.op 230 0 0)),(15,(.op 310 0 0))],[(1,vO 16 [(aB false),.nil,(aB false),.nil,(aB false),.nil,(aB false),.nil,(aB false),.nil,(aB false),.nil,(aB false),.nil,(aB false),.nil]),(2,vO 4 (TRat.cells mass)),(3,vO 4 (TRat.cells trim)),(4,vO 4 (TRat.cells heel)),(5,vO 4 (TRat.cells ends)),(230,vO 4 (TRat.cells rQ6)),(310,vO 4 (TRat.cells rMulRat))],342⟩ (C_75 254) [(0,⟨[],true,(.agg (TRat.cells rQ7)),[],0,false,none⟩),(2,⟨[],true,(.agg (TRat.cells rMulRat)),[],0,false,none⟩)] [] (kp [4,5,6,7,8,11,12,13,14,15]) (kq [1,2,3,4,5,230,310]) 342 [Sound Tryz.prog 38 [(aI 12)] [] 0 (.agg (TRat.cells rQ7)) [],0 < 1,Sound Tryz.prog 43 [(.agg (TRat.cells rQ7)),(.agg (TRat.cells rQ6))] [] 0 (.agg (TRat.cells rMulRat)) [],0 < 1] ⟨(g_r01_Q_ok N 12 rQ7 hr16),o1,(g_r01_MulRat_ok N rQ7 rQ6 rMulRat hr17),o1,trivial⟩ ?_
      refine Runs.sA 1 [.code (C_75 510),.code (C_75 511)] ?_
      obtain ⟨rMulRat2,hr18,h⟩:=bindSome h
      obtain ⟨rproduct4,hr19,h⟩:=bindSome h
      obtain ⟨rQuoRat,hr20,h⟩:=bindSome h
      obtain ⟨rMulRat3,hr21,h⟩:=bindSome h
      obtain ⟨rproduct5,hr22,h⟩:=bindSome h
      obtain ⟨rQuoRat2,hr23,h⟩:=bindSome h
      obtain ⟨rMulRat4,hr24,h⟩:=bindSome h
      obtain ⟨rproduct6,hr25,h⟩:=bindSome h
      obtain ⟨rQuoRat3,hr26,h⟩:=bindSome h
      obtain ⟨rQ8,hr27,h⟩:=bindSome h
      obtain ⟨rQuoRat4,hr28,h⟩:=bindSome h
      obtain ⟨rQ9,hr29,h⟩:=bindSome h
      obtain ⟨rMulRat5,hr30,h⟩:=bindSome h
      obtain ⟨rQ10,hr31,h⟩:=bindSome h
      obtain ⟨rQuoRat5,hr32,h⟩:=bindSome h
      obtain ⟨rSubRat,hr33,h⟩:=bindSome h
      refine Runs.sR hE ⟨[(4,(.op 1 0 0))],[(1,vO 16 [(aB rQuoRat.f_Num.f_Neg),(encL (cU .u16) 0 rQuoRat.f_Num.f_Limbs),(aB rQuoRat.f_Den.f_Neg),(encL (cU .u16) 0 rQuoRat.f_Den.f_Limbs),(aB rQuoRat2.f_Num.f_Neg),(encL (cU .u16) 0 rQuoRat2.f_Num.f_Limbs),(aB rQuoRat2.f_Den.f_Neg),(encL (cU .u16) 0 rQuoRat2.f_Den.f_Limbs),(aB rQuoRat3.f_Num.f_Neg),(encL (cU .u16) 0 rQuoRat3.f_Num.f_Limbs),(aB rQuoRat3.f_Den.f_Neg),(encL (cU .u16) 0 rQuoRat3.f_Den.f_Limbs),(aB rSubRat.f_Num.f_Neg),(encL (cU .u16) 0 rSubRat.f_Num.f_Limbs),(aB rSubRat.f_Den.f_Neg),(encL (cU .u16) 0 rSubRat.f_Den.f_Limbs)])],1030⟩ (C_75 510) [(2,⟨[],true,(.agg (TRat.cells rMulRat2)),[],0,false,none⟩),(7,⟨[],true,(.agg (TRat.cells rproduct4)),[],0,true,none⟩),(8,⟨[],true,(.agg (TRat.cells rQuoRat)),[],0,false,none⟩),(11,⟨[],true,(.agg (TRat.cells rMulRat3)),[],0,false,none⟩),(18,⟨[],true,(.agg (TRat.cells rproduct5)),[],0,true,none⟩),(19,⟨[],true,(.agg (TRat.cells rQuoRat2)),[],0,false,none⟩),(22,⟨[],true,(.agg (TRat.cells rMulRat4)),[],0,false,none⟩),(29,⟨[],true,(.agg (TRat.cells rproduct6)),[],0,true,none⟩),(30,⟨[],true,(.agg (TRat.cells rQuoRat3)),[],0,false,none⟩),(32,⟨[],true,(.agg (TRat.cells rQ8)),[],0,false,none⟩),(33,⟨[],true,(.agg (TRat.cells rQuoRat4)),[],0,false,none⟩),(36,⟨[],true,(.agg (TRat.cells rQ9)),[],0,false,none⟩),(37,⟨[],true,(.agg (TRat.cells rMulRat5)),[],0,false,none⟩),(38,⟨[],true,(.agg (TRat.cells rQ10)),[],0,false,none⟩),(39,⟨[],true,(.agg (TRat.cells rQuoRat5)),[],0,false,none⟩),(40,⟨[],true,(.agg (TRat.cells rSubRat)),[],0,false,none⟩)] [] (kp [4]) (kq [1]) 1030 [0 < 1,0 < 1,Sound Tryz.prog 43 [(.agg (TRat.cells rQ6)),(.agg (TRat.cells mass))] [] 0 (.agg (TRat.cells rMulRat2)) [],Sound Tryz.prog 41 [(.sl 3 (fun zi=>(fun zi=>([[(aI p.f_Density)],[(aI p.f_Length)],[(aI p.f_Breadth)]]:List (List AV)).getD zi []) (addz 0 zi)))] [] 0 (.agg (TRat.cells rproduct4)) [],0+3≤3,Sound Tryz.prog 44 [(.agg (TRat.cells rMulRat2)),(.agg (TRat.cells rproduct4))] [] 0 (.agg (TRat.cells rQuoRat)) [],0 < 1,0 < 1,Sound Tryz.prog 43 [(.agg (TRat.cells rMulRat)),(.agg (TRat.cells trim))] [] 0 (.agg (TRat.cells rMulRat3)) [],Sound Tryz.prog 41 [(.sl 5 (fun zi=>(fun zi=>([[(aI p.f_Density)],[(aI p.f_Breadth)],[(aI p.f_Length)],[(aI p.f_Length)],[(aI p.f_Length)]]:List (List AV)).getD zi []) (addz 0 zi)))] [] 0 (.agg (TRat.cells rproduct5)) [],0+5≤5,Sound Tryz.prog 44 [(.agg (TRat.cells rMulRat3)),(.agg (TRat.cells rproduct5))] [] 0 (.agg (TRat.cells rQuoRat2)) [],0 < 1,0 < 1,Sound Tryz.prog 43 [(.agg (TRat.cells rMulRat)),(.agg (TRat.cells heel))] [] 0 (.agg (TRat.cells rMulRat4)) [],Sound Tryz.prog 41 [(.sl 5 (fun zi=>(fun zi=>([[(aI p.f_Density)],[(aI p.f_Length)],[(aI p.f_Breadth)],[(aI p.f_Breadth)],[(aI p.f_Breadth)]]:List (List AV)).getD zi []) (addz 0 zi)))] [] 0 (.agg (TRat.cells rproduct6)) [],0+5≤5,Sound Tryz.prog 44 [(.agg (TRat.cells rMulRat4)),(.agg (TRat.cells rproduct6))] [] 0 (.agg (TRat.cells rQuoRat3)) [],0 < 1,Sound Tryz.prog 38 [(aI 2)] [] 0 (.agg (TRat.cells rQ8)) [],Sound Tryz.prog 44 [(.agg (TRat.cells ends)),(.agg (TRat.cells rQ8))] [] 0 (.agg (TRat.cells rQuoRat4)) [],0 < 1,Sound Tryz.prog 38 [(aI p.f_Length)] [] 0 (.agg (TRat.cells rQ9)) [],Sound Tryz.prog 43 [(.agg (TRat.cells mass)),(.agg (TRat.cells rQ9))] [] 0 (.agg (TRat.cells rMulRat5)) [],Sound Tryz.prog 38 [(aI 8)] [] 0 (.agg (TRat.cells rQ10)) [],Sound Tryz.prog 44 [(.agg (TRat.cells rMulRat5)),(.agg (TRat.cells rQ10))] [] 0 (.agg (TRat.cells rQuoRat5)) [],Sound Tryz.prog 45 [(.agg (TRat.cells rQuoRat4)),(.agg (TRat.cells rQuoRat5))] [] 0 (.agg (TRat.cells rSubRat)) [],0 < 1] ⟨o1,o1,(g_r01_MulRat_ok N rQ6 mass rMulRat2 hr18),(Sound.conv (g_r05_product_ok N ([p.f_Density,p.f_Length,p.f_Breadth]:List Int) rproduct4 hr19) (.cons (Alike.sl rfl (fun zq hzq=>get_chunk cI 0 ([p.f_Density,p.f_Length,p.f_Breadth]:List Int) zq hzq)) .nil)),z0,(g_r01_QuoRat_ok N rMulRat2 rproduct4 rQuoRat hr20),o1,o1,(g_r01_MulRat_ok N rMulRat trim rMulRat3 hr21),(Sound.conv (g_r05_product_ok N ([p.f_Density,p.f_Breadth,p.f_Length,p.f_Length,p.f_Length]:List Int) rproduct5 hr22) (.cons (Alike.sl rfl (fun zq hzq=>get_chunk cI 0 ([p.f_Density,p.f_Breadth,p.f_Length,p.f_Length,p.f_Length]:List Int) zq hzq)) .nil)),z0,(g_r01_QuoRat_ok N rMulRat3 rproduct5 rQuoRat2 hr23),o1,o1,(g_r01_MulRat_ok N rMulRat heel rMulRat4 hr24),(Sound.conv (g_r05_product_ok N ([p.f_Density,p.f_Length,p.f_Breadth,p.f_Breadth,p.f_Breadth]:List Int) rproduct6 hr25) (.cons (Alike.sl rfl (fun zq hzq=>get_chunk cI 0 ([p.f_Density,p.f_Length,p.f_Breadth,p.f_Breadth,p.f_Breadth]:List Int) zq hzq)) .nil)),z0,(g_r01_QuoRat_ok N rMulRat4 rproduct6 rQuoRat3 hr26),o1,(g_r01_Q_ok N 2 rQ8 hr27),(g_r01_QuoRat_ok N ends rQ8 rQuoRat4 hr28),o1,(g_r01_Q_ok N p.f_Length rQ9 hr29),(g_r01_MulRat_ok N mass rQ9 rMulRat5 hr30),(g_r01_Q_ok N 8 rQ10 hr31),(g_r01_QuoRat_ok N rMulRat5 rQ10 rQuoRat5 hr32),(g_r01_SubRat_ok N rQuoRat4 rQuoRat5 rSubRat hr33),o1,trivial⟩ ?_
      obtain rfl:=Option.some.inj h
      refine Runs.sW hE ⟨[(4,(.op 16 0 0))],[(16,vO 16 [(aB rQuoRat.f_Num.f_Neg),(encL (cU .u16) 0 rQuoRat.f_Num.f_Limbs),(aB rQuoRat.f_Den.f_Neg),(encL (cU .u16) 0 rQuoRat.f_Den.f_Limbs),(aB rQuoRat2.f_Num.f_Neg),(encL (cU .u16) 0 rQuoRat2.f_Num.f_Limbs),(aB rQuoRat2.f_Den.f_Neg),(encL (cU .u16) 0 rQuoRat2.f_Den.f_Limbs),(aB rQuoRat3.f_Num.f_Neg),(encL (cU .u16) 0 rQuoRat3.f_Num.f_Limbs),(aB rQuoRat3.f_Den.f_Neg),(encL (cU .u16) 0 rQuoRat3.f_Den.f_Limbs),(aB rSubRat.f_Num.f_Neg),(encL (cU .u16) 0 rSubRat.f_Num.f_Limbs),(aB rSubRat.f_Den.f_Neg),(encL (cU .u16) 0 rSubRat.f_Den.f_Limbs)])],1030⟩ [] (kp [4]) [(16,.keep 1)] 1030 [] trivial ?_
      exact Runs.sT Tryz.f15 [16] [0 < 1] ⟨o1,trivial⟩
theorem g_r05_Float_ok (N:Nat) (p:TPontoon) (steps:List Int) (r:TPose) (h:g_r05_Float N p steps = some r):Sound Tryz.prog 15 [(.agg (TPontoon.cells p)),(encL cI 0 steps)] [] 0 (.agg (TPose.cells r)) []:=by
  unfold g_r05_Float at h
  refine Sound.of_runs (fu:=Tryz.f15) (c:=C_75 1) (nt:=132) (by kernel_rfl) (by kernel_rfl) (by kernel_rfl) (by kernel_rfl) (fun hm=>rfl) ?_
  intro E hE
  refine Runs.sA 1 [.code (C_75 2),.code (C_75 3)] ?_
  refine Runs.sR hE ⟨[(1,(encL cI 0 steps)),(2,(.op 0 0 0)),(4,(.op 16 0 0))],[(0,vO 5 (TPontoon.cells p)),(16,vO 16 [(aB false),.nil,(aB false),.nil,(aB false),.nil,(aB false),.nil,(aB false),.nil,(aB false),.nil,(aB false),.nil,(aB false),.nil])],32⟩ (C_75 2) [] [] (kp [1,2,4]) (kq [0,16]) 32 [] trivial ?_
  refine Runs.sA 1 [.code (C_75 6),.code (C_75 7)] ?_
  obtain ⟨rQ,hr,h⟩:=bindSome h
  obtain ⟨rQ2,hr2,h⟩:=bindSome h
  obtain ⟨rQ3,hr3,h⟩:=bindSome h
  obtain ⟨rQ4,hr4,h⟩:=bindSome h
  refine Runs.sR hE ⟨[(1,(encL cI 0 steps)),(2,(.op 0 0 0)),(4,(.op 16 0 0)),(5,(.op 96 0 0)),(6,(.op 112 0 0)),(7,(.op 128 0 0)),(8,(.op 144 0 0))],[(0,vO 5 (TPontoon.cells p)),(16,vO 16 [(aB false),.nil,(aB false),.nil,(aB false),.nil,(aB false),.nil,(aB false),.nil,(aB false),.nil,(aB false),.nil,(aB false),.nil]),(96,vO 4 (TRat.cells rQ)),(112,vO 4 (TRat.cells rQ2)),(128,vO 4 (TRat.cells rQ3)),(144,vO 4 (TRat.cells rQ4))],224⟩ (C_75 6) [(0,⟨[],true,(.agg (TRat.cells rQ)),[],0,false,none⟩),(1,⟨[],true,(.agg (TRat.cells rQ2)),[],0,false,none⟩),(2,⟨[],true,(.agg (TRat.cells rQ3)),[],0,false,none⟩),(3,⟨[],true,(.agg (TRat.cells rQ4)),[],0,false,none⟩)] [] (kp [1,2,4,5,6,7,8]) (kq [0,16,96,112,128,144]) 224 [Sound Tryz.prog 38 [(aI 0)] [] 0 (.agg (TRat.cells rQ)) [],Sound Tryz.prog 38 [(aI 0)] [] 0 (.agg (TRat.cells rQ2)) [],Sound Tryz.prog 38 [(aI 0)] [] 0 (.agg (TRat.cells rQ3)) [],Sound Tryz.prog 38 [(aI 0)] [] 0 (.agg (TRat.cells rQ4)) [],0 < 1,0 < 1,0 < 1,0 < 1] ⟨(g_r01_Q_ok N 0 rQ hr),(g_r01_Q_ok N 0 rQ2 hr2),(g_r01_Q_ok N 0 rQ3 hr3),(g_r01_Q_ok N 0 rQ4 hr4),o1,o1,o1,o1,trivial⟩ ?_
  refine Runs.sA 1 [.code (C_75 14),.code (C_75 15)] ?_
  obtain ⟨rloads,hr5,h⟩:=bindSome h
  refine Runs.sR hE ⟨[(2,(.op 0 0 0)),(4,(.op 16 0 0)),(5,(.op 96 0 0)),(6,(.op 112 0 0)),(7,(.op 128 0 0)),(8,(.op 144 0 0)),(9,(encL TPointMass.cells TPointMass.d rloads))],[(0,vO 5 (TPontoon.cells p)),(16,vO 16 [(aB false),.nil,(aB false),.nil,(aB false),.nil,(aB false),.nil,(aB false),.nil,(aB false),.nil,(aB false),.nil,(aB false),.nil]),(96,vO 4 (TRat.cells rQ)),(112,vO 4 (TRat.cells rQ2)),(128,vO 4 (TRat.cells rQ3)),(144,vO 4 (TRat.cells rQ4))],288⟩ (C_75 14) [(2,⟨[],true,(encL TPointMass.cells TPointMass.d rloads),[],0,false,none⟩)] [] (kp [2,4,5,6,7,8,9]) (kq [0,16,96,112,128,144]) 288 [0 < 1,Sound Tryz.prog 39 [(.agg (TPontoon.cells p)),(encL cI 0 steps)] [] 0 (encL TPointMass.cells TPointMass.d rloads) []] ⟨o1,(g_r05_loads_ok N p steps rloads hr5),trivial⟩ ?_
  refine Runs.sA 2 [.code (C_75 60),.code (C_75 61),.code (C_75 31)] ?_
  refine Runs.sR hE ⟨[(2,(.op 0 0 0)),(4,(.op 16 0 0)),(5,(.op 96 0 0)),(6,(.op 112 0 0)),(7,(.op 128 0 0)),(8,(.op 144 0 0)),(9,(encL TPointMass.cells TPointMass.d rloads)),(10,(aI 0))],[(0,vO 5 (TPontoon.cells p)),(16,vO 16 [(aB false),.nil,(aB false),.nil,(aB false),.nil,(aB false),.nil,(aB false),.nil,(aB false),.nil,(aB false),.nil,(aB false),.nil]),(96,vO 4 (TRat.cells rQ)),(112,vO 4 (TRat.cells rQ2)),(128,vO 4 (TRat.cells rQ3)),(144,vO 4 (TRat.cells rQ4))],304⟩ (C_75 60) [] [] (kp [2,4,5,6,7,8,9,10]) (kq [0,16,96,112,128,144]) 304 [] trivial ?_
  refine Runs.sA 2 [.code (C_75 244),.inLoop (C_75 244),.inBlock 0,.code (C_75 31)] ?_
  exact Runs.sW hE _ [] (kp [2,4,5,6,7,8,9,10]) (kq [0] ++ [(1,.keep 16),(2,.keep 96),(3,.keep 112),(4,.keep 128),(5,.keep 144)]) 6 [] trivial (g_r05_Float_L1_ok N p rloads N rQ rQ2 rQ3 rQ4 0 _ h E hE)
noncomputable def C_104 (n:Nat):Code:=cat (bodyOf Tryz.f115) (pth n)
theorem g_r01_Sign_ok (N:Nat) (a:TInt) (r:Int) (h:g_r01_Sign N a = some r):Sound Tryz.prog 115 [(.agg (TInt.cells a))] [] 0 (aI r) []:=by
  unfold g_r01_Sign at h
  refine Sound.of_runs (fu:=Tryz.f115) (c:=C_104 1) (nt:=10) (by kernel_rfl) (by kernel_rfl) (by kernel_rfl) (by kernel_rfl) (fun hm=>rfl) ?_
  intro E hE
  refine Runs.sA 1 [.code (C_104 2),.code (C_104 3)] ?_
  refine Runs.sR hE ⟨[(1,(.op 0 0 0))],[(0,vO 2 (TInt.cells a))],32⟩ (C_104 2) [] [] (kp [1]) (kq [0]) 32 [] trivial ?_
  refine Runs.sA 2 [.code (C_104 12),.code (C_104 13),.code (C_104 7)] ?_
  obtain ⟨rread,hr,h⟩:=bindSome h
  refine Runs.sR hE ⟨[(1,(.op 0 0 0)),(7,(aB (((rread.length:Nat):Int) == 0)))],[(0,vO 2 (TInt.cells a))],112⟩ (C_104 12) [(2,⟨[],true,(encL cI 0 rread),[],0,false,none⟩)] [] (kp [1,7]) (kq [0]) 112 [0 < 1,Sound Tryz.prog 92 [(encL (cU .u16) 0 a.f_Limbs)] [] 0 (encL cI 0 rread) []] ⟨o1,(g_r01_read_ok N a.f_Limbs rread hr),trivial⟩ ?_
  refine Runs.sC 7 (C_104 26) (C_104 27) (((rread.length:Nat):Int) == 0) (fun hq2=>?_) (fun hq2=>?_)
  · have h:=condT h hq2
    refine Runs.sA 1 [.code (C_104 52),.code (C_104 53),.code (C_104 7)] ?_
    refine Runs.sR hE ⟨[(2,(aI 0))],[],128⟩ (C_104 52) [] [] (kp [2]) [] 128 [] trivial ?_
    obtain rfl:=Option.some.inj h
    refine Runs.sW hE ⟨[(2,(aI 0))],[],128⟩ [] (kp [2]) [] 128 [] trivial ?_
    exact Runs.sT Tryz.f115 [] [] trivial
  · have h:=condF h hq2
    refine Runs.sA 3 [.code (C_104 28),.code (C_104 29),.code (C_104 15)] ?_
    refine Runs.sR hE ⟨[(9,(aB a.f_Neg))],[],144⟩ (C_104 28) [] [] (kp [9]) [] 144 [0 < 1] ⟨o1,trivial⟩ ?_
    refine Runs.sC 9 (C_104 58) (C_104 59) a.f_Neg (fun hq3=>?_) (fun hq3=>?_)
    · have h:=condT h hq3
      refine Runs.sA 1 [.code (C_104 116),.code (C_104 117),.code (C_104 15)] ?_
      refine Runs.sR hE ⟨[(2,(aI (-1)))],[],160⟩ (C_104 116) [] [] (kp [2]) [] 160 [] trivial ?_
      obtain rfl:=Option.some.inj h
      refine Runs.sW hE ⟨[(2,(aI (-1)))],[],160⟩ [] (kp [2]) [] 160 [] trivial ?_
      exact Runs.sT Tryz.f115 [] [] trivial
    · have h:=condF h hq3
      refine Runs.sA 2 [.code (C_104 30),.code (C_104 31)] ?_
      refine Runs.sR hE ⟨[(2,(aI 1))],[],160⟩ (C_104 30) [] [] (kp [2]) [] 160 [] trivial ?_
      obtain rfl:=Option.some.inj h
      refine Runs.sW hE ⟨[(2,(aI 1))],[],160⟩ [] (kp [2]) [] 160 [] trivial ?_
      exact Runs.sT Tryz.f115 [] [] trivial
noncomputable def C_103 (n:Nat):Code:=cat (bodyOf Tryz.f100) (pth n)
theorem g_r01_SignRat_ok (N:Nat) (x:TRat) (r:Int) (h:g_r01_SignRat N x = some r):Sound Tryz.prog 100 [(.agg (TRat.cells x))] [] 0 (aI r) []:=by
  unfold g_r01_SignRat at h
  refine Sound.of_runs (fu:=Tryz.f100) (c:=C_103 1) (nt:=7) (by kernel_rfl) (by kernel_rfl) (by kernel_rfl) (by kernel_rfl) (fun hm=>rfl) ?_
  intro E hE
  refine Runs.sA 1 [.code (C_103 2),.code (C_103 3)] ?_
  refine Runs.sR hE ⟨[(1,(.op 0 0 0))],[(0,vO 4 (TRat.cells x))],32⟩ (C_103 2) [] [] (kp [1]) (kq [0]) 32 [] trivial ?_
  refine Runs.sA 1 [.code (C_103 6),.code (C_103 7)] ?_
  obtain ⟨rNormRat,hr,h⟩:=bindSome h
  obtain ⟨rSign,hr2,h⟩:=bindSome h
  refine Runs.sR hE ⟨[(2,(aI rSign))],[],112⟩ (C_103 6) [(1,⟨[],true,(.agg (TRat.cells rNormRat)),[],0,false,none⟩),(3,⟨[],true,(aI rSign),[],0,false,none⟩)] [] (kp [2]) [] 112 [0 < 1,Sound Tryz.prog 69 [(.agg (TRat.cells x))] [] 0 (.agg (TRat.cells rNormRat)) [],Sound Tryz.prog 115 [(.agg (TInt.cells rNormRat.f_Num))] [] 0 (aI rSign) []] ⟨o1,(g_r01_NormRat_ok N x rNormRat hr),(g_r01_Sign_ok N rNormRat.f_Num rSign hr2),trivial⟩ ?_
  obtain rfl:=Option.some.inj h
  refine Runs.sW hE ⟨[(2,(aI rSign))],[],112⟩ [] (kp [2]) [] 112 [] trivial ?_
  exact Runs.sT Tryz.f100 [] [] trivial
noncomputable def C_102 (n:Nat):Code:=cat (bodyOf Tryz.f74) (pth n)
theorem g_r01_CmpRat_ok (N:Nat) (x:TRat) (y:TRat) (r:Int) (h:g_r01_CmpRat N x y = some r):Sound Tryz.prog 74 [(.agg (TRat.cells x)),(.agg (TRat.cells y))] [] 0 (aI r) []:=by
  unfold g_r01_CmpRat at h
  refine Sound.of_runs (fu:=Tryz.f74) (c:=C_102 1) (nt:=9) (by kernel_rfl) (by kernel_rfl) (by kernel_rfl) (by kernel_rfl) (fun hm=>rfl) ?_
  intro E hE
  refine Runs.sA 1 [.code (C_102 2),.code (C_102 3)] ?_
  refine Runs.sR hE ⟨[(2,(.op 0 0 0)),(3,(.op 16 0 0))],[(0,vO 4 (TRat.cells x)),(16,vO 4 (TRat.cells y))],48⟩ (C_102 2) [] [] (kp [2,3]) (kq [0,16]) 48 [] trivial ?_
  refine Runs.sA 1 [.code (C_102 6),.code (C_102 7)] ?_
  obtain ⟨rSubRat,hr,h⟩:=bindSome h
  obtain ⟨rSignRat,hr2,h⟩:=bindSome h
  refine Runs.sR hE ⟨[(4,(aI rSignRat))],[],128⟩ (C_102 6) [(2,⟨[],true,(.agg (TRat.cells rSubRat)),[],0,false,none⟩),(3,⟨[],true,(aI rSignRat),[],0,false,none⟩)] [] (kp [4]) [] 128 [0 < 1,0 < 1,Sound Tryz.prog 45 [(.agg (TRat.cells x)),(.agg (TRat.cells y))] [] 0 (.agg (TRat.cells rSubRat)) [],Sound Tryz.prog 100 [(.agg (TRat.cells rSubRat))] [] 0 (aI rSignRat) []] ⟨o1,o1,(g_r01_SubRat_ok N x y rSubRat hr),(g_r01_SignRat_ok N rSubRat rSignRat hr2),trivial⟩ ?_
  obtain rfl:=Option.some.inj h
  refine Runs.sW hE ⟨[(4,(aI rSignRat))],[],128⟩ [] (kp [4]) [] 128 [] trivial ?_
  exact Runs.sT Tryz.f74 [] [] trivial
noncomputable def C_101 (n:Nat):Code:=cat (bodyOf Tryz.f46) (pth n)
theorem g_r05_between_ok (N:Nat) (x:TRat) (low:Int) (high:Int) (r:Bool) (h:g_r05_between N x low high = some r):Sound Tryz.prog 46 [(.agg (TRat.cells x)),(aI low),(aI high)] [] 0 (aB r) []:=by
  unfold g_r05_between at h
  refine Sound.of_runs (fu:=Tryz.f46) (c:=C_101 1) (nt:=19) (by kernel_rfl) (by kernel_rfl) (by kernel_rfl) (by kernel_rfl) (fun hm=>rfl) ?_
  intro E hE
  refine Runs.sA 1 [.code (C_101 2),.code (C_101 3)] ?_
  refine Runs.sR hE ⟨[(1,(aI low)),(2,(aI high)),(3,(.op 0 0 0))],[(0,vO 4 (TRat.cells x))],32⟩ (C_101 2) [] [] (kp [1,2,3]) (kq [0]) 32 [] trivial ?_
  refine Runs.sA 1 [.code (C_101 6),.code (C_101 7)] ?_
  obtain ⟨rQ,hr,h⟩:=bindSome h
  obtain ⟨rCmpRat,hr2,h⟩:=bindSome h
  obtain ⟨rQ2,hr3,h⟩:=bindSome h
  obtain ⟨rCmpRat2,hr4,h⟩:=bindSome h
  refine Runs.sR hE ⟨[(6,(aB (cond (decide (rCmpRat ≥ 0)) (decide (rCmpRat2≤0)) false)))],[],240⟩ (C_101 6) [(2,⟨[],true,(.agg (TRat.cells rQ)),[],0,false,none⟩),(3,⟨[],true,(aI rCmpRat),[],0,false,none⟩),(8,⟨[],true,(.agg (TRat.cells rQ2)),[],0,false,none⟩),(9,⟨[],true,(aI rCmpRat2),[],0,false,none⟩)] [] (kp [6]) [] 240 [0 < 1,Sound Tryz.prog 38 [(aI low)] [] 0 (.agg (TRat.cells rQ)) [],Sound Tryz.prog 74 [(.agg (TRat.cells x)),(.agg (TRat.cells rQ))] [] 0 (aI rCmpRat) [],(decide (rCmpRat ≥ 0)) = true→AllP [0 < 1],(decide (rCmpRat ≥ 0)) = true→AllP [Sound Tryz.prog 38 [(aI high)] [] 0 (.agg (TRat.cells rQ2)) [],(decide (rCmpRat ≥ 0)) = true],(decide (rCmpRat ≥ 0)) = true→AllP [Sound Tryz.prog 74 [(.agg (TRat.cells x)),(.agg (TRat.cells rQ2))] [] 0 (aI rCmpRat2) [],(decide (rCmpRat ≥ 0)) = true,(decide (rCmpRat ≥ 0)) = true],(decide (rCmpRat ≥ 0)) = true→AllP [(decide (rCmpRat ≥ 0)) = true],(decide (rCmpRat ≥ 0)) = true→AllP [(decide (rCmpRat ≥ 0)) = true]] ⟨o1,(g_r01_Q_ok N low rQ hr),(g_r01_CmpRat_ok N x rQ rCmpRat hr2),(fun hg=>⟨o1,trivial⟩),(fun hg=>⟨(g_r01_Q_ok N high rQ2 (condT hr3 hg)),hg,trivial⟩),(fun hg=>⟨(g_r01_CmpRat_ok N x rQ2 rCmpRat2 (condT hr4 hg)),hg,hg,trivial⟩),(fun hg=>⟨hg,trivial⟩),(fun hq=>⟨hq,trivial⟩),trivial⟩ ?_
  obtain rfl:=Option.some.inj h
  refine Runs.sW hE ⟨[(6,(aB (cond (decide (rCmpRat ≥ 0)) (decide (rCmpRat2≤0)) false)))],[],240⟩ [] (kp [6]) [] 240 [] trivial ?_
  exact Runs.sT Tryz.f46 [] [] trivial
noncomputable def C_105 (n:Nat):Code:=cat (bodyOf Tryz.f47) (pth n)
theorem g_r05_atMost_ok (N:Nat) (x:TRat) (vby:Int) (most:Int) (r:Bool) (h:g_r05_atMost N x vby most = some r):Sound Tryz.prog 47 [(.agg (TRat.cells x)),(aI vby),(aI most)] [] 0 (aB r) []:=by
  unfold g_r05_atMost at h
  refine Sound.of_runs (fu:=Tryz.f47) (c:=C_105 1) (nt:=25) (by kernel_rfl) (by kernel_rfl) (by kernel_rfl) (by kernel_rfl) (fun hm=>rfl) ?_
  intro E hE
  refine Runs.sA 1 [.code (C_105 2),.code (C_105 3)] ?_
  refine Runs.sR hE ⟨[(1,(aI vby)),(2,(aI most)),(3,(.op 0 0 0))],[(0,vO 4 (TRat.cells x))],32⟩ (C_105 2) [] [] (kp [1,2,3]) (kq [0]) 32 [] trivial ?_
  refine Runs.sA 1 [.code (C_105 6),.code (C_105 7)] ?_
  obtain ⟨rQ,hr,h⟩:=bindSome h
  obtain ⟨rMulRat,hr2,h⟩:=bindSome h
  refine Runs.sR hE ⟨[(2,(aI most)),(7,(.op 96 0 0))],[(96,vO 4 (TRat.cells rMulRat))],128⟩ (C_105 6) [(2,⟨[],true,(.agg (TRat.cells rQ)),[],0,false,none⟩),(3,⟨[],true,(.agg (TRat.cells rMulRat)),[],0,false,none⟩)] [] (kp [2,7]) (kq [96]) 128 [0 < 1,Sound Tryz.prog 38 [(aI vby)] [] 0 (.agg (TRat.cells rQ)) [],Sound Tryz.prog 43 [(.agg (TRat.cells x)),(.agg (TRat.cells rQ))] [] 0 (.agg (TRat.cells rMulRat)) [],0 < 1] ⟨o1,(g_r01_Q_ok N vby rQ hr),(g_r01_MulRat_ok N x rQ rMulRat hr2),o1,trivial⟩ ?_
  refine Runs.sA 1 [.code (C_105 14),.code (C_105 15)] ?_
  obtain ⟨rQ2,hr3,h⟩:=bindSome h
  obtain ⟨rCmpRat,hr4,h⟩:=bindSome h
  obtain ⟨rNegRat,hr5,h⟩:=bindSome h
  obtain ⟨rQ3,hr6,h⟩:=bindSome h
  obtain ⟨rCmpRat2,hr7,h⟩:=bindSome h
  refine Runs.sR hE ⟨[(6,(aB (cond (decide (rCmpRat≤0)) (decide (rCmpRat2≤0)) false)))],[],352⟩ (C_105 14) [(2,⟨[],true,(.agg (TRat.cells rQ2)),[],0,false,none⟩),(3,⟨[],true,(aI rCmpRat),[],0,false,none⟩),(7,⟨[],true,(.agg (TRat.cells rNegRat)),[],0,false,none⟩),(9,⟨[],true,(.agg (TRat.cells rQ3)),[],0,false,none⟩),(10,⟨[],true,(aI rCmpRat2),[],0,false,none⟩)] [] (kp [6]) [] 352 [0 < 1,Sound Tryz.prog 38 [(aI most)] [] 0 (.agg (TRat.cells rQ2)) [],Sound Tryz.prog 74 [(.agg (TRat.cells rMulRat)),(.agg (TRat.cells rQ2))] [] 0 (aI rCmpRat) [],(decide (rCmpRat≤0)) = true→AllP [0 < 1],(decide (rCmpRat≤0)) = true→AllP [Sound Tryz.prog 73 [(.agg (TRat.cells rMulRat))] [] 0 (.agg (TRat.cells rNegRat)) [],(decide (rCmpRat≤0)) = true],(decide (rCmpRat≤0)) = true→AllP [Sound Tryz.prog 38 [(aI most)] [] 0 (.agg (TRat.cells rQ3)) [],(decide (rCmpRat≤0)) = true],(decide (rCmpRat≤0)) = true→AllP [Sound Tryz.prog 74 [(.agg (TRat.cells rNegRat)),(.agg (TRat.cells rQ3))] [] 0 (aI rCmpRat2) [],(decide (rCmpRat≤0)) = true,(decide (rCmpRat≤0)) = true],(decide (rCmpRat≤0)) = true→AllP [(decide (rCmpRat≤0)) = true],(decide (rCmpRat≤0)) = true→AllP [(decide (rCmpRat≤0)) = true]] ⟨o1,(g_r01_Q_ok N most rQ2 hr3),(g_r01_CmpRat_ok N rMulRat rQ2 rCmpRat hr4),(fun hg=>⟨o1,trivial⟩),(fun hg=>⟨(g_r01_NegRat_ok N rMulRat rNegRat (condT hr5 hg)),hg,trivial⟩),(fun hg=>⟨(g_r01_Q_ok N most rQ3 (condT hr6 hg)),hg,trivial⟩),(fun hg=>⟨(g_r01_CmpRat_ok N rNegRat rQ3 rCmpRat2 (condT hr7 hg)),hg,hg,trivial⟩),(fun hg=>⟨hg,trivial⟩),(fun hq=>⟨hq,trivial⟩),trivial⟩ ?_
  obtain rfl:=Option.some.inj h
  refine Runs.sW hE ⟨[(6,(aB (cond (decide (rCmpRat≤0)) (decide (rCmpRat2≤0)) false)))],[],352⟩ [] (kp [6]) [] 352 [] trivial ?_
  exact Runs.sT Tryz.f47 [] [] trivial
noncomputable def C_74 (n:Nat):Code:=cat (bodyOf Tryz.f17) (pth n)
theorem g_r05_Broken_J4_ok (N:Nat) (out4:List ByteArray) (r:(List ByteArray)) (h:g_r05_Broken_J4 N out4 = some r):∀ E,EnvOk E 0→Runs Tryz.prog E 17 51 (SPost E [] (encL cS ByteArray.empty r)) [.code (C_74 510),.code (C_74 511)] ⟨[(8,(.os 0 0 out4.length))],[(0,aO 1 cS ByteArray.empty out4)],1⟩:=by
  intro E hE
  unfold g_r05_Broken_J4 at h
  refine Runs.sR hE ⟨[(6,(.os 0 0 out4.length))],[(0,aO 1 cS ByteArray.empty out4)],33⟩ (C_74 510) [] [] (kp [6]) (kq [0]) 33 [] trivial ?_
  obtain rfl:=Option.some.inj h
  refine Runs.sW hE ⟨[(6,(encL cS ByteArray.empty out4))],[],48⟩ [0] [(6,.sl (out4.length) (fun zi=>cS (out4.getD zi ByteArray.empty)))] [] 48 [out4.length = out4.length,0+out4.length≤out4.length,∀ zi,zi < out4.length→(fun zi=>cS (out4.getD zi ByteArray.empty)) zi = (fun zi=>cS (out4.getD zi ByteArray.empty)) (addz 0 zi)] ⟨rfl,z0,(fun _ _=>rfl),trivial⟩ ?_
  exact Runs.sT Tryz.f17 [] [] trivial
theorem g_r05_Broken_J3_ok (N:Nat) (l:TLimits) (rFloat:TPose) (out3:List ByteArray) (r:(List ByteArray)) (h:g_r05_Broken_J3 N l rFloat out3 = some r):∀ E,EnvOk E 0→Runs Tryz.prog E 17 51 (SPost E [] (encL cS ByteArray.empty r)) [.code (C_74 508),.code (C_74 509),.code (C_74 255)] ⟨[(4,(.op 0 0 0)),(7,(.op 1 0 0)),(8,(.os 2 0 out3.length))],[(0,vO 5 (TLimits.cells l)),(1,vO 16 (TPose.cells rFloat)),(2,aO 1 cS ByteArray.empty out3)],3⟩:=by
  intro E hE
  unfold g_r05_Broken_J3 at h
  obtain ⟨ratMost3,hr5,h⟩:=bindSome h
  refine Runs.sR hE ⟨[(8,(.os 2 0 out3.length)),(46,(aB (!ratMost3)))],[(2,aO 1 cS ByteArray.empty out3)],99⟩ (C_74 508) [(4,⟨[],true,(aB ratMost3),[],0,false,none⟩)] [] (kp [8,46]) (kq [2]) 99 [0 < 1,0 < 1,Sound Tryz.prog 47 [(.agg (TRat.cells rFloat.f_Hog)),(aI 1),(aI l.f_HogMost)] [] 0 (aB ratMost3) []] ⟨o1,o1,(g_r05_atMost_ok N rFloat.f_Hog 1 l.f_HogMost ratMost3 hr5),trivial⟩ ?_
  refine Runs.sC 46 (C_74 1018) (C_74 1019) (!ratMost3) (fun hq5=>?_) (fun hq5=>?_)
  · have h:=condT h hq5
    obtain ⟨c3,h⟩:=ifSome h
    refine Runs.sR hE ⟨[(8,(.os 131 0 ((out3 ++ ([(⟨#[104,111,103]⟩:ByteArray)]:List ByteArray)).length)))],[(131,aO 1 cS ByteArray.empty (out3 ++ ([(⟨#[104,111,103]⟩:ByteArray)]:List ByteArray)))],163⟩ (C_74 1018) [] [] [(8,.osl ((out3 ++ ([(⟨#[104,111,103]⟩:ByteArray)]:List ByteArray)).length))] [(131,.arr 131 ((out3 ++ ([(⟨#[104,111,103]⟩:ByteArray)]:List ByteArray)).length) (fun zi=>cS ((out3 ++ ([(⟨#[104,111,103]⟩:ByteArray)]:List ByteArray)).getD zi ByteArray.empty)))] 163 [out3.length = out3.length,(out3.length+1) * 16≤140737488355328,0+1≤1,∀ zi,zi < 1→AV.oneL ((fun zi=>([[(aS (⟨#[104,111,103]⟩:ByteArray))]]:List (List AV)).getD zi []) (addz 0 zi)) = true,(out3.length+1) = (out3 ++ ([(⟨#[104,111,103]⟩:ByteArray)]:List ByteArray)).length,out3.length+1 = (out3 ++ ([(⟨#[104,111,103]⟩:ByteArray)]:List ByteArray)).length,∀ zi,zi < (out3 ++ ([(⟨#[104,111,103]⟩:ByteArray)]:List ByteArray)).length→(fun zi=>cS ((out3 ++ ([(⟨#[104,111,103]⟩:ByteArray)]:List ByteArray)).getD zi ByteArray.empty)) zi = ((fun zm=>if zm < out3.length then (fun zi=>cS (out3.getD zi ByteArray.empty)) zm else (fun zi=>([[(aS (⟨#[104,111,103]⟩:ByteArray))]]:List (List AV)).getD zi []) (zm - out3.length))) zi] ⟨rfl,c3,z0,(oneN rfl),(len_app_raw rfl rfl),(len_app_raw rfl rfl),(get_app_raw cS ByteArray.empty out3 ([(⟨#[104,111,103]⟩:ByteArray)]:List ByteArray) rfl (fun _ _=>rfl) (fun zq hzq=>get_chunk cS ByteArray.empty ([(⟨#[104,111,103]⟩:ByteArray)]:List ByteArray) zq hzq)),trivial⟩ ?_
    refine Runs.sA 1 [.code (C_74 510),.code (C_74 511)] ?_
    exact Runs.sW hE _ [] (kp [8]) [(0,.keep 131)] 1 [] trivial (g_r05_Broken_J4_ok N (out3 ++ ([(⟨#[104,111,103]⟩:ByteArray)]:List ByteArray)) _ h E hE)
  · have h:=condF h hq5
    refine Runs.sA 2 [.code (C_74 510),.code (C_74 511)] ?_
    exact Runs.sW hE _ [] (kp [8]) [(0,.keep 2)] 1 [] trivial (g_r05_Broken_J4_ok N out3 _ h E hE)
theorem g_r05_Broken_J2_ok (N:Nat) (l:TLimits) (rFloat:TPose) (out2:List ByteArray) (r:(List ByteArray)) (h:g_r05_Broken_J2 N l rFloat out2 = some r):∀ E,EnvOk E 0→Runs Tryz.prog E 17 51 (SPost E [] (encL cS ByteArray.empty r)) [.code (C_74 252),.code (C_74 253),.code (C_74 127)] ⟨[(4,(.op 0 0 0)),(7,(.op 1 0 0)),(8,(.os 2 0 out2.length))],[(0,vO 5 (TLimits.cells l)),(1,vO 16 (TPose.cells rFloat)),(2,aO 1 cS ByteArray.empty out2)],3⟩:=by
  intro E hE
  unfold g_r05_Broken_J2 at h
  obtain ⟨ratMost2,hr4,h⟩:=bindSome h
  refine Runs.sR hE ⟨[(4,(.op 0 0 0)),(7,(.op 1 0 0)),(8,(.os 2 0 out2.length)),(37,(aB (!ratMost2)))],[(0,vO 5 (TLimits.cells l)),(1,vO 16 (TPose.cells rFloat)),(2,aO 1 cS ByteArray.empty out2)],99⟩ (C_74 252) [(4,⟨[],true,(aB ratMost2),[],0,false,none⟩)] [] (kp [4,7,8,37]) (kq [0,1,2]) 99 [0 < 1,0 < 1,Sound Tryz.prog 47 [(.agg (TRat.cells rFloat.f_Heel)),(aI 1000),(aI l.f_HeelMost)] [] 0 (aB ratMost2) []] ⟨o1,o1,(g_r05_atMost_ok N rFloat.f_Heel 1000 l.f_HeelMost ratMost2 hr4),trivial⟩ ?_
  refine Runs.sC 37 (C_74 506) (C_74 507) (!ratMost2) (fun hq4=>?_) (fun hq4=>?_)
  · have h:=condT h hq4
    obtain ⟨c2,h⟩:=ifSome h
    refine Runs.sR hE ⟨[(4,(.op 0 0 0)),(7,(.op 1 0 0)),(8,(.os 131 0 ((out2 ++ ([(⟨#[104,101,101,108]⟩:ByteArray)]:List ByteArray)).length)))],[(0,vO 5 (TLimits.cells l)),(1,vO 16 (TPose.cells rFloat)),(131,aO 1 cS ByteArray.empty (out2 ++ ([(⟨#[104,101,101,108]⟩:ByteArray)]:List ByteArray)))],163⟩ (C_74 506) [] [] (kp [4,7] ++ [(8,.osl ((out2 ++ ([(⟨#[104,101,101,108]⟩:ByteArray)]:List ByteArray)).length))]) (kq [0,1] ++ [(131,.arr 131 ((out2 ++ ([(⟨#[104,101,101,108]⟩:ByteArray)]:List ByteArray)).length) (fun zi=>cS ((out2 ++ ([(⟨#[104,101,101,108]⟩:ByteArray)]:List ByteArray)).getD zi ByteArray.empty)))]) 163 [out2.length = out2.length,(out2.length+1) * 16≤140737488355328,0+1≤1,∀ zi,zi < 1→AV.oneL ((fun zi=>([[(aS (⟨#[104,101,101,108]⟩:ByteArray))]]:List (List AV)).getD zi []) (addz 0 zi)) = true,(out2.length+1) = (out2 ++ ([(⟨#[104,101,101,108]⟩:ByteArray)]:List ByteArray)).length,out2.length+1 = (out2 ++ ([(⟨#[104,101,101,108]⟩:ByteArray)]:List ByteArray)).length,∀ zi,zi < (out2 ++ ([(⟨#[104,101,101,108]⟩:ByteArray)]:List ByteArray)).length→(fun zi=>cS ((out2 ++ ([(⟨#[104,101,101,108]⟩:ByteArray)]:List ByteArray)).getD zi ByteArray.empty)) zi = ((fun zm=>if zm < out2.length then (fun zi=>cS (out2.getD zi ByteArray.empty)) zm else (fun zi=>([[(aS (⟨#[104,101,101,108]⟩:ByteArray))]]:List (List AV)).getD zi []) (zm - out2.length))) zi] ⟨rfl,c2,z0,(oneN rfl),(len_app_raw rfl rfl),(len_app_raw rfl rfl),(get_app_raw cS ByteArray.empty out2 ([(⟨#[104,101,101,108]⟩:ByteArray)]:List ByteArray) rfl (fun _ _=>rfl) (fun zq hzq=>get_chunk cS ByteArray.empty ([(⟨#[104,101,101,108]⟩:ByteArray)]:List ByteArray) zq hzq)),trivial⟩ ?_
    refine Runs.sA 2 [.code (C_74 508),.code (C_74 509),.code (C_74 255)] ?_
    exact Runs.sW hE _ [] (kp [4,7,8]) (kq [0,1] ++ [(2,.keep 131)]) 3 [] trivial (g_r05_Broken_J3_ok N l rFloat (out2 ++ ([(⟨#[104,101,101,108]⟩:ByteArray)]:List ByteArray)) _ h E hE)
  · have h:=condF h hq4
    refine Runs.sA 3 [.code (C_74 508),.code (C_74 509),.code (C_74 255)] ?_
    exact Runs.sW hE _ [] (kp [4,7,8]) (kq [0,1,2]) 3 [] trivial (g_r05_Broken_J3_ok N l rFloat out2 _ h E hE)
theorem g_r05_Broken_J1_ok (N:Nat) (l:TLimits) (rFloat:TPose) (out:List ByteArray) (r:(List ByteArray)) (h:g_r05_Broken_J1 N l rFloat out = some r):∀ E,EnvOk E 0→Runs Tryz.prog E 17 51 (SPost E [] (encL cS ByteArray.empty r)) [.code (C_74 124),.code (C_74 125),.code (C_74 63)] ⟨[(4,(.op 0 0 0)),(7,(.op 1 0 0)),(8,(.os 2 0 out.length))],[(0,vO 5 (TLimits.cells l)),(1,vO 16 (TPose.cells rFloat)),(2,aO 1 cS ByteArray.empty out)],3⟩:=by
  intro E hE
  unfold g_r05_Broken_J1 at h
  obtain ⟨ratMost,hr3,h⟩:=bindSome h
  refine Runs.sR hE ⟨[(4,(.op 0 0 0)),(7,(.op 1 0 0)),(8,(.os 2 0 out.length)),(28,(aB (!ratMost)))],[(0,vO 5 (TLimits.cells l)),(1,vO 16 (TPose.cells rFloat)),(2,aO 1 cS ByteArray.empty out)],99⟩ (C_74 124) [(4,⟨[],true,(aB ratMost),[],0,false,none⟩)] [] (kp [4,7,8,28]) (kq [0,1,2]) 99 [0 < 1,0 < 1,Sound Tryz.prog 47 [(.agg (TRat.cells rFloat.f_Trim)),(aI 1000),(aI l.f_TrimMost)] [] 0 (aB ratMost) []] ⟨o1,o1,(g_r05_atMost_ok N rFloat.f_Trim 1000 l.f_TrimMost ratMost hr3),trivial⟩ ?_
  refine Runs.sC 28 (C_74 250) (C_74 251) (!ratMost) (fun hq3=>?_) (fun hq3=>?_)
  · have h:=condT h hq3
    obtain ⟨c,h⟩:=ifSome h
    refine Runs.sR hE ⟨[(4,(.op 0 0 0)),(7,(.op 1 0 0)),(8,(.os 131 0 ((out ++ ([(⟨#[116,114,105,109]⟩:ByteArray)]:List ByteArray)).length)))],[(0,vO 5 (TLimits.cells l)),(1,vO 16 (TPose.cells rFloat)),(131,aO 1 cS ByteArray.empty (out ++ ([(⟨#[116,114,105,109]⟩:ByteArray)]:List ByteArray)))],163⟩ (C_74 250) [] [] (kp [4,7] ++ [(8,.osl ((out ++ ([(⟨#[116,114,105,109]⟩:ByteArray)]:List ByteArray)).length))]) (kq [0,1] ++ [(131,.arr 131 ((out ++ ([(⟨#[116,114,105,109]⟩:ByteArray)]:List ByteArray)).length) (fun zi=>cS ((out ++ ([(⟨#[116,114,105,109]⟩:ByteArray)]:List ByteArray)).getD zi ByteArray.empty)))]) 163 [out.length = out.length,(out.length+1) * 16≤140737488355328,0+1≤1,∀ zi,zi < 1→AV.oneL ((fun zi=>([[(aS (⟨#[116,114,105,109]⟩:ByteArray))]]:List (List AV)).getD zi []) (addz 0 zi)) = true,(out.length+1) = (out ++ ([(⟨#[116,114,105,109]⟩:ByteArray)]:List ByteArray)).length,out.length+1 = (out ++ ([(⟨#[116,114,105,109]⟩:ByteArray)]:List ByteArray)).length,∀ zi,zi < (out ++ ([(⟨#[116,114,105,109]⟩:ByteArray)]:List ByteArray)).length→(fun zi=>cS ((out ++ ([(⟨#[116,114,105,109]⟩:ByteArray)]:List ByteArray)).getD zi ByteArray.empty)) zi = ((fun zm=>if zm < out.length then (fun zi=>cS (out.getD zi ByteArray.empty)) zm else (fun zi=>([[(aS (⟨#[116,114,105,109]⟩:ByteArray))]]:List (List AV)).getD zi []) (zm - out.length))) zi] ⟨rfl,c,z0,(oneN rfl),(len_app_raw rfl rfl),(len_app_raw rfl rfl),(get_app_raw cS ByteArray.empty out ([(⟨#[116,114,105,109]⟩:ByteArray)]:List ByteArray) rfl (fun _ _=>rfl) (fun zq hzq=>get_chunk cS ByteArray.empty ([(⟨#[116,114,105,109]⟩:ByteArray)]:List ByteArray) zq hzq)),trivial⟩ ?_
    refine Runs.sA 2 [.code (C_74 252),.code (C_74 253),.code (C_74 127)] ?_
    exact Runs.sW hE _ [] (kp [4,7,8]) (kq [0,1] ++ [(2,.keep 131)]) 3 [] trivial (g_r05_Broken_J2_ok N l rFloat (out ++ ([(⟨#[116,114,105,109]⟩:ByteArray)]:List ByteArray)) _ h E hE)
  · have h:=condF h hq3
    refine Runs.sA 3 [.code (C_74 252),.code (C_74 253),.code (C_74 127)] ?_
    exact Runs.sW hE _ [] (kp [4,7,8]) (kq [0,1,2]) 3 [] trivial (g_r05_Broken_J2_ok N l rFloat out _ h E hE)
theorem g_r05_Broken_ok (N:Nat) (p:TPontoon) (l:TLimits) (steps:List Int) (r:(List ByteArray)) (h:g_r05_Broken N p l steps = some r):Sound Tryz.prog 17 [(.agg (TPontoon.cells p)),(.agg (TLimits.cells l)),(encL cI 0 steps)] [] 0 (encL cS ByteArray.empty r) []:=by
  unfold g_r05_Broken at h
  refine Sound.of_runs (fu:=Tryz.f17) (c:=C_74 1) (nt:=51) (by kernel_rfl) (by kernel_rfl) (by kernel_rfl) (by kernel_rfl) (fun hm=>rfl) ?_
  intro E hE
  refine Runs.sA 1 [.code (C_74 2),.code (C_74 3)] ?_
  refine Runs.sR hE ⟨[(2,(encL cI 0 steps)),(3,(.op 0 0 0)),(4,(.op 16 0 0))],[(0,vO 5 (TPontoon.cells p)),(16,vO 5 (TLimits.cells l))],48⟩ (C_74 2) [] [] (kp [2,3,4]) (kq [0,16]) 48 [] trivial ?_
  refine Runs.sA 1 [.code (C_74 6),.code (C_74 7)] ?_
  obtain ⟨rFloat,hr,h⟩:=bindSome h
  refine Runs.sR hE ⟨[(4,(.op 16 0 0)),(7,(.op 96 0 0))],[(16,vO 5 (TLimits.cells l)),(96,vO 16 (TPose.cells rFloat))],128⟩ (C_74 6) [(2,⟨[],true,(.agg (TPose.cells rFloat)),[],0,false,none⟩)] [] (kp [4,7]) (kq [16,96]) 128 [0 < 1,Sound Tryz.prog 15 [(.agg (TPontoon.cells p)),(encL cI 0 steps)] [] 0 (.agg (TPose.cells rFloat)) [],0 < 1] ⟨o1,(g_r05_Float_ok N p steps rFloat hr),o1,trivial⟩ ?_
  refine Runs.sA 1 [.code (C_74 14),.code (C_74 15)] ?_
  refine Runs.sR hE ⟨[(4,(.op 16 0 0)),(7,(.op 96 0 0)),(8,.nil)],[(16,vO 5 (TLimits.cells l)),(96,vO 16 (TPose.cells rFloat))],144⟩ (C_74 14) [] [] (kp [4,7,8]) (kq [16,96]) 144 [] trivial ?_
  refine Runs.sA 2 [.code (C_74 60),.code (C_74 61),.code (C_74 31)] ?_
  obtain ⟨rbetween,hr2,h⟩:=bindSome h
  refine Runs.sR hE ⟨[(4,(.op 16 0 0)),(7,(.op 96 0 0)),(8,.nil),(19,(aB (!rbetween)))],[(16,vO 5 (TLimits.cells l)),(96,vO 16 (TPose.cells rFloat))],272⟩ (C_74 60) [(6,⟨[],true,(aB rbetween),[],0,false,none⟩)] [] (kp [4,7,8,19]) (kq [16,96]) 272 [0 < 1,0 < 1,0 < 1,Sound Tryz.prog 46 [(.agg (TRat.cells rFloat.f_Draught)),(aI l.f_DraughtLeast),(aI l.f_DraughtMost)] [] 0 (aB rbetween) []] ⟨o1,o1,o1,(g_r05_between_ok N rFloat.f_Draught l.f_DraughtLeast l.f_DraughtMost rbetween hr2),trivial⟩ ?_
  refine Runs.sC 19 (C_74 122) (C_74 123) (!rbetween) (fun hq2=>?_) (fun hq2=>?_)
  · have h:=condT h hq2
    refine Runs.sR hE ⟨[(4,(.op 16 0 0)),(7,(.op 96 0 0)),(8,(.os 304 0 (([(⟨#[100,114,97,117,103,104,116]⟩:ByteArray)]:List ByteArray).length)))],[(16,vO 5 (TLimits.cells l)),(96,vO 16 (TPose.cells rFloat)),(304,aO 1 cS ByteArray.empty ([(⟨#[100,114,97,117,103,104,116]⟩:ByteArray)]:List ByteArray))],336⟩ (C_74 122) [] [] (kp [4,7] ++ [(8,.osl (([(⟨#[100,114,97,117,103,104,116]⟩:ByteArray)]:List ByteArray).length))]) (kq [16,96] ++ [(304,.arr 304 (([(⟨#[100,114,97,117,103,104,116]⟩:ByteArray)]:List ByteArray).length) (fun zi=>cS (([(⟨#[100,114,97,117,103,104,116]⟩:ByteArray)]:List ByteArray).getD zi ByteArray.empty)))]) 336 [1 * 16≤140737488355328,0+1≤1,∀ zi,zi < 1→AV.oneL ((fun zi=>([[(aS (⟨#[100,114,97,117,103,104,116]⟩:ByteArray))]]:List (List AV)).getD zi []) (addz 0 zi)) = true,1 = ([(⟨#[100,114,97,117,103,104,116]⟩:ByteArray)]:List ByteArray).length,1 = ([(⟨#[100,114,97,117,103,104,116]⟩:ByteArray)]:List ByteArray).length,∀ zi,zi < ([(⟨#[100,114,97,117,103,104,116]⟩:ByteArray)]:List ByteArray).length→(fun zi=>cS (([(⟨#[100,114,97,117,103,104,116]⟩:ByteArray)]:List ByteArray).getD zi ByteArray.empty)) zi = (fun zi=>([[(aS (⟨#[100,114,97,117,103,104,116]⟩:ByteArray))]]:List (List AV)).getD zi []) zi] ⟨(by decide),z0,(oneN rfl),rfl,rfl,(fun zq hzq=>get_chunk cS ByteArray.empty ([(⟨#[100,114,97,117,103,104,116]⟩:ByteArray)]:List ByteArray) zq hzq),trivial⟩ ?_
    refine Runs.sA 2 [.code (C_74 124),.code (C_74 125),.code (C_74 63)] ?_
    exact Runs.sW hE _ [] (kp [4,7,8]) [(0,.keep 16),(1,.keep 96),(2,.keep 304)] 3 [] trivial (g_r05_Broken_J1_ok N l rFloat ([(⟨#[100,114,97,117,103,104,116]⟩:ByteArray)]:List ByteArray) _ h E hE)
  · have h:=condF h hq2
    refine Runs.sA 3 [.code (C_74 124),.code (C_74 125),.code (C_74 63)] ?_
    exact Runs.sW hE _ [] (kp [4,7] ++ [(8,.nilos 2)]) [(0,.keep 16),(1,.keep 96),(2,.nil 1 (fun zi=>cS (([]:List ByteArray).getD zi ByteArray.empty)))] 3 [] trivial (g_r05_Broken_J1_ok N l rFloat ([]:List ByteArray) _ h E hE)
noncomputable def C_106 (n:Nat):Code:=cat (bodyOf Tryz.f16) (pth n)
theorem g_b_Texts_L1_ok (N:Nat) (a:List ByteArray) (b:List ByteArray) (fuel:Nat):∀ (i:Int) (r:Bool),g_b_Texts_L1 N a b fuel i = some r→∀ E,EnvOk E 0→Runs Tryz.prog E 16 26 (SPost E [] (aB r)) [.code (C_106 116),.inLoop (C_106 116),.inBlock 0,.code (C_106 15)] ⟨[(0,(encL cS ByteArray.empty a)),(1,(encL cS ByteArray.empty b)),(5,(aI i))],[],0⟩:=by
  induction fuel with
  | zero=>intro _ r h; rw [g_b_Texts_L1.eq_1] at h; cases h
  | succ fuel ih =>
    intro i r h E hE
    rw [g_b_Texts_L1.eq_2] at h
    refine Runs.sA 2 [.code (C_106 464),.code (C_106 465),.code (C_106 233),.inLoop (C_106 116),.inBlock 0,.code (C_106 15)] ?_
    refine Runs.sR hE ⟨[(0,(encL cS ByteArray.empty a)),(1,(encL cS ByteArray.empty b)),(5,(aI i)),(14,(aB (decide (i < ((a.length:Nat):Int)))))],[],64⟩ (C_106 464) [] [] (kp [0,1,5,14]) [] 64 [] trivial ?_
    refine Runs.sC 14 (C_106 930) (C_106 931) (decide (i < ((a.length:Nat):Int))) (fun hq3=>?_) (fun hq3=>?_)
    · have h:=condT h hq3
      refine Runs.sA 4 [.code (C_106 1864),.code (C_106 1865),.inBlock 1,.code (C_106 467),.inLoop (C_106 116),.inBlock 0,.code (C_106 15)] ?_
      obtain ⟨c,h⟩:=ifSome h
      obtain ⟨c2,h⟩:=ifSome h
      refine Runs.sR hE ⟨[(0,(encL cS ByteArray.empty a)),(1,(encL cS ByteArray.empty b)),(5,(aI i)),(25,(aB (!(streq (a.getD ((i).toNat) ByteArray.empty) (b.getD ((i).toNat) ByteArray.empty)))))],[],208⟩ (C_106 1864) [] [] (kp [0,1,5,25]) [] 208 [0≤i∧i < ((a.length:Nat):Int),0≤i∧i < ((b.length:Nat):Int)] ⟨c,c2,trivial⟩ ?_
      refine Runs.sC 25 (C_106 3730) (C_106 3731) (!(streq (a.getD ((i).toNat) ByteArray.empty) (b.getD ((i).toNat) ByteArray.empty))) (fun hq4=>?_) (fun hq4=>?_)
      · have h:=condT h hq4
        refine Runs.sA 1 [.code (C_106 7460),.code (C_106 7461),.inBlock 1,.code (C_106 467),.inLoop (C_106 116),.inBlock 0,.code (C_106 15)] ?_
        refine Runs.sR hE ⟨[(4,(aB false))],[],224⟩ (C_106 7460) [] [] (kp [4]) [] 224 [] trivial ?_
        obtain rfl:=Option.some.inj h
        refine Runs.sW hE ⟨[(4,(aB false))],[],224⟩ [] (kp [4]) [] 224 [] trivial ?_
        exact Runs.sT Tryz.f16 [] [] trivial
      · have h:=condF h hq4
        refine Runs.sA 2 [.code (C_106 467),.inLoop (C_106 116),.inBlock 0,.code (C_106 15)] ?_
        refine Runs.sR hE ⟨[(0,(encL cS ByteArray.empty a)),(1,(encL cS ByteArray.empty b)),(5,(aI (w64 (i+1))))],[],256⟩ (C_106 467) [] [] (kp [0,1,5]) [] 256 [] trivial ?_
        refine Runs.sA 1 [.code (C_106 116),.inLoop (C_106 116),.inBlock 0,.code (C_106 15)] ?_
        exact Runs.sW hE _ [] (kp [0,1,5]) [] 0 [] trivial (ih (w64 (i+1)) _ h E hE)
    · have h:=condF h hq3
      refine Runs.sA 2 [.code (C_106 30),.code (C_106 31)] ?_
      refine Runs.sR hE ⟨[(4,(aB true))],[],80⟩ (C_106 30) [] [] (kp [4]) [] 80 [] trivial ?_
      obtain rfl:=Option.some.inj h
      refine Runs.sW hE ⟨[(4,(aB true))],[],80⟩ [] (kp [4]) [] 80 [] trivial ?_
      exact Runs.sT Tryz.f16 [] [] trivial
theorem g_b_Texts_ok (N:Nat) (a:List ByteArray) (b:List ByteArray) (r:Bool) (h:g_b_Texts N a b = some r):Sound Tryz.prog 16 [(encL cS ByteArray.empty a),(encL cS ByteArray.empty b)] [] 0 (aB r) []:=by
  unfold g_b_Texts at h
  refine Sound.of_runs (fu:=Tryz.f16) (c:=C_106 1) (nt:=26) (by kernel_rfl) (by kernel_rfl) (by kernel_rfl) (by kernel_rfl) (fun hm=>rfl) ?_
  intro E hE
  refine Runs.sA 1 [.code (C_106 2),.code (C_106 3)] ?_
  refine Runs.sR hE ⟨[(0,(encL cS ByteArray.empty a)),(1,(encL cS ByteArray.empty b))],[],16⟩ (C_106 2) [] [] (kp [0,1]) [] 16 [] trivial ?_
  refine Runs.sA 2 [.code (C_106 12),.code (C_106 13),.code (C_106 7)] ?_
  refine Runs.sR hE ⟨[(0,(encL cS ByteArray.empty a)),(1,(encL cS ByteArray.empty b)),(10,(aB (((a.length:Nat):Int) != ((b.length:Nat):Int))))],[],96⟩ (C_106 12) [] [] (kp [0,1,10]) [] 96 [] trivial ?_
  refine Runs.sC 10 (C_106 26) (C_106 27) (((a.length:Nat):Int) != ((b.length:Nat):Int)) (fun hq2=>?_) (fun hq2=>?_)
  · have h:=condT h hq2
    refine Runs.sA 1 [.code (C_106 52),.code (C_106 53),.code (C_106 7)] ?_
    refine Runs.sR hE ⟨[(4,(aB false))],[],112⟩ (C_106 52) [] [] (kp [4]) [] 112 [] trivial ?_
    obtain rfl:=Option.some.inj h
    refine Runs.sW hE ⟨[(4,(aB false))],[],112⟩ [] (kp [4]) [] 112 [] trivial ?_
    exact Runs.sT Tryz.f16 [] [] trivial
  · have h:=condF h hq2
    refine Runs.sA 3 [.code (C_106 28),.code (C_106 29),.code (C_106 15)] ?_
    refine Runs.sR hE ⟨[(0,(encL cS ByteArray.empty a)),(1,(encL cS ByteArray.empty b)),(5,(aI 0))],[],112⟩ (C_106 28) [] [] (kp [0,1,5]) [] 112 [] trivial ?_
    refine Runs.sA 2 [.code (C_106 116),.inLoop (C_106 116),.inBlock 0,.code (C_106 15)] ?_
    exact Runs.sW hE _ [] (kp [0,1,5]) [] 0 [] trivial (g_b_Texts_L1_ok N a b N 0 _ h E hE)
noncomputable def C_0 (n:Nat):Code:=cat (bodyOf Tryz.f3) (pth n)
theorem g_w05_WaterPoses_J2_ok (N:Nat) (p:TPontoon) (l:TLimits) (steps:List Int) (rBroken:(List ByteArray) × Int) (d:Int) (r:Bool) (h:g_w05_WaterPoses_J2 N p l steps rBroken d = some r):∀ E,EnvOk E 0→Runs Tryz.prog E 3 109 (SPost E [] (aB r)) [.code (C_0 16380),.code (C_0 16381),.code (C_0 8191)] ⟨[(2,(encL cI 0 steps)),(3,(.op 0 0 0)),(4,(.op 1 0 0)),(10,(encL cS ByteArray.empty rBroken.1)),(11,(aI rBroken.2)),(12,(aI d))],[(0,vO 5 (TPontoon.cells p)),(1,vO 5 (TLimits.cells l))],2⟩:=by
  intro E hE
  unfold g_w05_WaterPoses_J2 at h
  refine Runs.sR hE ⟨[(2,(encL cI 0 steps)),(3,(.op 0 0 0)),(4,(.op 1 0 0)),(10,(encL cS ByteArray.empty rBroken.1)),(11,(aI rBroken.2)),(12,(aI d)),(90,(aB (d != 0)))],[(0,vO 5 (TPontoon.cells p)),(1,vO 5 (TLimits.cells l))],34⟩ (C_0 16380) [] [] (kp [2,3,4,10,11,12,90]) (kq [0,1]) 34 [] trivial ?_
  refine Runs.sC 90 (C_0 32762) (C_0 32763) (d != 0) (fun hq9=>?_) (fun hq9=>?_)
  · have h:=condT h hq9
    refine Runs.sA 1 [.code (C_0 65524),.code (C_0 65525),.code (C_0 8191)] ?_
    refine Runs.sR hE ⟨[(6,(aB (cond (rBroken.2 == d) (((rBroken.1.length:Nat):Int) == 0) false)))],[],178⟩ (C_0 65524) [] [] (kp [6]) [] 178 [(rBroken.2 == d) = true→AllP [(rBroken.2 == d) = true],(rBroken.2 == d) = true→AllP [(rBroken.2 == d) = true],(rBroken.2 == d) = true→AllP [(rBroken.2 == d) = true]] ⟨(fun hg=>⟨hg,trivial⟩),(fun hg=>⟨hg,trivial⟩),(fun hq=>⟨hq,trivial⟩),trivial⟩ ?_
    obtain rfl:=Option.some.inj h
    refine Runs.sW hE ⟨[(6,(aB (cond (rBroken.2 == d) (((rBroken.1.length:Nat):Int) == 0) false)))],[],178⟩ [] (kp [6]) [] 178 [] trivial ?_
    exact Runs.sT Tryz.f3 [] [] trivial
  · have h:=condF h hq9
    refine Runs.sA 2 [.code (C_0 16382),.code (C_0 16383)] ?_
    obtain ⟨rBroken2,hr11,h⟩:=bindSome h
    obtain ⟨rTexts,hr12,h⟩:=bindSome h
    refine Runs.sR hE ⟨[(6,(aB (cond (rBroken.2 == 0) rTexts false)))],[],210⟩ (C_0 16382) [(7,⟨[],true,(encL cS ByteArray.empty rBroken2),[],0,false,none⟩),(8,⟨[],true,(aB rTexts),[],0,false,none⟩)] [] (kp [6]) [] 210 [(rBroken.2 == 0) = true→AllP [0 < 1],(rBroken.2 == 0) = true→AllP [0 < 1],(rBroken.2 == 0) = true→AllP [Sound Tryz.prog 17 [(.agg (TPontoon.cells p)),(.agg (TLimits.cells l)),(encL cI 0 steps)] [] 0 (encL cS ByteArray.empty rBroken2) [],(rBroken.2 == 0) = true,(rBroken.2 == 0) = true,(rBroken.2 == 0) = true],(rBroken.2 == 0) = true→AllP [Sound Tryz.prog 16 [(encL cS ByteArray.empty rBroken.1),(encL cS ByteArray.empty rBroken2)] [] 0 (aB rTexts) [],(rBroken.2 == 0) = true,(rBroken.2 == 0) = true],(rBroken.2 == 0) = true→AllP [(rBroken.2 == 0) = true]] ⟨(fun hg=>⟨o1,trivial⟩),(fun hg=>⟨o1,trivial⟩),(fun hg=>⟨(g_r05_Broken_ok N p l steps rBroken2 (condT hr11 hg)),hg,hg,hg,trivial⟩),(fun hg=>⟨(g_b_Texts_ok N rBroken.1 rBroken2 rTexts (condT hr12 hg)),hg,hg,trivial⟩),(fun hq=>⟨hq,trivial⟩),trivial⟩ ?_
    obtain rfl:=Option.some.inj h
    refine Runs.sW hE ⟨[(6,(aB (cond (rBroken.2 == 0) rTexts false)))],[],210⟩ [] (kp [6]) [] 210 [] trivial ?_
    exact Runs.sT Tryz.f3 [] [] trivial
theorem g_w05_WaterPoses_J1_ok (N:Nat) (p:TPontoon) (l:TLimits) (steps:List Int) (rBroken:(List ByteArray) × Int) (rCheckSteps:Int) (rCheckLimits:Int) (r:Bool) (h:g_w05_WaterPoses_J1 N p l steps rBroken rCheckSteps rCheckLimits = some r):∀ E,EnvOk E 0→Runs Tryz.prog E 3 109 (SPost E [] (aB r)) [.code (C_0 8188),.code (C_0 8189),.code (C_0 4095)] ⟨[(2,(encL cI 0 steps)),(3,(.op 0 0 0)),(4,(.op 1 0 0)),(7,(aI rCheckSteps)),(10,(encL cS ByteArray.empty rBroken.1)),(11,(aI rBroken.2)),(12,(aI rCheckLimits))],[(0,vO 5 (TPontoon.cells p)),(1,vO 5 (TLimits.cells l))],2⟩:=by
  intro E hE
  unfold g_w05_WaterPoses_J1 at h
  refine Runs.sR hE ⟨[(2,(encL cI 0 steps)),(3,(.op 0 0 0)),(4,(.op 1 0 0)),(7,(aI rCheckSteps)),(10,(encL cS ByteArray.empty rBroken.1)),(11,(aI rBroken.2)),(12,(aI rCheckLimits)),(87,(aB (rCheckLimits == 0)))],[(0,vO 5 (TPontoon.cells p)),(1,vO 5 (TLimits.cells l))],34⟩ (C_0 8188) [] [] (kp [2,3,4,7,10,11,12,87]) (kq [0,1]) 34 [] trivial ?_
  refine Runs.sC 87 (C_0 16378) (C_0 16379) (rCheckLimits == 0) (fun hq8=>?_) (fun hq8=>?_)
  · have h:=condT h hq8
    refine Runs.sR hE ⟨[(2,(encL cI 0 steps)),(3,(.op 0 0 0)),(4,(.op 1 0 0)),(10,(encL cS ByteArray.empty rBroken.1)),(11,(aI rBroken.2)),(12,(aI rCheckSteps))],[(0,vO 5 (TPontoon.cells p)),(1,vO 5 (TLimits.cells l))],66⟩ (C_0 16378) [] [] (kp [2,3,4,10,11,12]) (kq [0,1]) 66 [] trivial ?_
    refine Runs.sA 2 [.code (C_0 16380),.code (C_0 16381),.code (C_0 8191)] ?_
    exact Runs.sW hE _ [] (kp [2,3,4,10,11,12]) (kq [0,1]) 2 [] trivial (g_w05_WaterPoses_J2_ok N p l steps rBroken rCheckSteps _ h E hE)
  · have h:=condF h hq8
    refine Runs.sA 3 [.code (C_0 16380),.code (C_0 16381),.code (C_0 8191)] ?_
    exact Runs.sW hE _ [] (kp [2,3,4,10,11,12]) (kq [0,1]) 2 [] trivial (g_w05_WaterPoses_J2_ok N p l steps rBroken rCheckLimits _ h E hE)
theorem g_w05_WaterPoses_ok (N:Nat) (p:TPontoon) (l:TLimits) (steps:List Int) (r:Bool) (h:g_w05_WaterPoses N p l steps = some r):Sound Tryz.prog 3 [(.agg (TPontoon.cells p)),(.agg (TLimits.cells l)),(encL cI 0 steps)] [] 0 (aB r) []:=by
  unfold g_w05_WaterPoses at h
  refine Sound.of_runs (fu:=Tryz.f3) (c:=C_0 1) (nt:=109) (by kernel_rfl) (by kernel_rfl) (by kernel_rfl) (by kernel_rfl) (fun hm=>rfl) ?_
  intro E hE
  refine Runs.sA 1 [.code (C_0 2),.code (C_0 3)] ?_
  refine Runs.sR hE ⟨[(2,(encL cI 0 steps)),(3,(.op 0 0 0)),(4,(.op 16 0 0))],[(0,vO 5 (TPontoon.cells p)),(16,vO 5 (TLimits.cells l))],48⟩ (C_0 2) [] [] (kp [2,3,4]) (kq [0,16]) 48 [] trivial ?_
  refine Runs.sA 2 [.code (C_0 12),.code (C_0 13),.code (C_0 7)] ?_
  obtain ⟨rafloat,hr,h⟩:=bindSome h
  refine Runs.sR hE ⟨[(2,(encL cI 0 steps)),(3,(.op 0 0 0)),(4,(.op 16 0 0)),(14,(aB (!rafloat)))],[(0,vO 5 (TPontoon.cells p)),(16,vO 5 (TLimits.cells l))],80⟩ (C_0 12) [(0,⟨[],true,(aB rafloat),[],0,false,none⟩)] [] (kp [2,3,4,14]) (kq [0,16]) 80 [Sound Tryz.prog 5 [] [] 0 (aB rafloat) []] ⟨(g_w05_afloat_ok N rafloat hr),trivial⟩ ?_
  refine Runs.sC 14 (C_0 26) (C_0 27) (!rafloat) (fun hq2=>?_) (fun hq2=>?_)
  · have h:=condT h hq2
    refine Runs.sA 1 [.code (C_0 52),.code (C_0 53),.code (C_0 7)] ?_
    refine Runs.sR hE ⟨[(6,(aB false))],[],96⟩ (C_0 52) [] [] (kp [6]) [] 96 [] trivial ?_
    obtain rfl:=Option.some.inj h
    refine Runs.sW hE ⟨[(6,(aB false))],[],96⟩ [] (kp [6]) [] 96 [] trivial ?_
    exact Runs.sT Tryz.f3 [] [] trivial
  · have h:=condF h hq2
    refine Runs.sA 3 [.code (C_0 28),.code (C_0 29),.code (C_0 15)] ?_
    obtain ⟨rfewMasses,hr2,h⟩:=bindSome h
    refine Runs.sR hE ⟨[(2,(encL cI 0 steps)),(3,(.op 0 0 0)),(4,(.op 16 0 0)),(22,(aB (cond (!rfewMasses) true (decide (((steps.length:Nat):Int) > 20)))))],[(0,vO 5 (TPontoon.cells p)),(16,vO 5 (TLimits.cells l))],208⟩ (C_0 28) [(1,⟨[],true,(aB rfewMasses),[],0,false,none⟩)] [] (kp [2,3,4,22]) (kq [0,16]) 208 [0 < 1,Sound Tryz.prog 6 [(.agg (TPontoon.cells p))] [] 0 (aB rfewMasses) [],(!(!rfewMasses)) = true→AllP [(!(!rfewMasses)) = true],(!(!rfewMasses)) = true→AllP [(!(!rfewMasses)) = true],(!(!rfewMasses)) = true→AllP [(!(!rfewMasses)) = true]] ⟨o1,(g_w05_fewMasses_ok N p rfewMasses hr2),(fun hg=>⟨hg,trivial⟩),(fun hg=>⟨hg,trivial⟩),(fun hq=>⟨hq,trivial⟩),trivial⟩ ?_
    refine Runs.sC 22 (C_0 58) (C_0 59) (cond (!rfewMasses) true (decide (((steps.length:Nat):Int) > 20))) (fun hq3=>?_) (fun hq3=>?_)
    · have h:=condT h hq3
      refine Runs.sA 1 [.code (C_0 116),.code (C_0 117),.code (C_0 15)] ?_
      refine Runs.sR hE ⟨[(6,(aB true))],[],224⟩ (C_0 116) [] [] (kp [6]) [] 224 [] trivial ?_
      obtain rfl:=Option.some.inj h
      refine Runs.sW hE ⟨[(6,(aB true))],[],224⟩ [] (kp [6]) [] 224 [] trivial ?_
      exact Runs.sT Tryz.f3 [] [] trivial
    · have h:=condF h hq3
      refine Runs.sA 2 [.code (C_0 30),.code (C_0 31)] ?_
      obtain ⟨rCheckPontoon,hr3,h⟩:=bindSome h
      refine Runs.sR hE ⟨[(2,(encL cI 0 steps)),(3,(.op 0 0 0)),(4,(.op 16 0 0)),(7,(aI rCheckPontoon))],[(0,vO 5 (TPontoon.cells p)),(16,vO 5 (TLimits.cells l))],256⟩ (C_0 30) [(1,⟨[],true,(aI rCheckPontoon),[],0,false,none⟩)] [] (kp [2,3,4,7]) (kq [0,16]) 256 [0 < 1,Sound Tryz.prog 7 [(.agg (TPontoon.cells p))] [] 0 (aI rCheckPontoon) []] ⟨o1,(g_r05_CheckPontoon_ok N p rCheckPontoon hr3),trivial⟩ ?_
      refine Runs.sA 1 [.code (C_0 62),.code (C_0 63)] ?_
      obtain ⟨rFloat,hr4,h⟩:=bindSome h
      refine Runs.sR hE ⟨[(2,(encL cI 0 steps)),(3,(.op 0 0 0)),(4,(.op 16 0 0)),(7,(aI rCheckPontoon)),(8,(.op 352 0 0)),(9,(aI rFloat.2))],[(0,vO 5 (TPontoon.cells p)),(16,vO 5 (TLimits.cells l)),(352,vO 16 (TPose.cells rFloat.1))],400⟩ (C_0 62) [(2,⟨[],true,(.tup [(.agg (TPose.cells rFloat.1)),(aI rFloat.2)]),[],0,false,none⟩)] [] (kp [2,3,4,7,8,9]) (kq [0,16,352]) 400 [0 < 1,Sound Tryz.prog 8 [(.agg (TPontoon.cells p)),(encL cI 0 steps)] [] 0 (.tup [(.agg (TPose.cells rFloat.1)),(aI rFloat.2)]) [],0 < 1] ⟨o1,(g_water_Float_ok N p steps rFloat hr4),o1,trivial⟩ ?_
      refine Runs.sA 1 [.code (C_0 126),.code (C_0 127)] ?_
      obtain ⟨rBroken,hr5,h⟩:=bindSome h
      refine Runs.sR hE ⟨[(2,(encL cI 0 steps)),(3,(.op 0 0 0)),(4,(.op 16 0 0)),(7,(aI rCheckPontoon)),(8,(.op 352 0 0)),(9,(aI rFloat.2)),(10,(encL cS ByteArray.empty rBroken.1)),(11,(aI rBroken.2))],[(0,vO 5 (TPontoon.cells p)),(16,vO 5 (TLimits.cells l)),(352,vO 16 (TPose.cells rFloat.1))],544⟩ (C_0 126) [(3,⟨[],true,(.tup [(encL cS ByteArray.empty rBroken.1),(aI rBroken.2)]),[],0,false,none⟩)] [] (kp [2,3,4,7,8,9,10,11]) (kq [0,16,352]) 544 [0 < 1,0 < 1,Sound Tryz.prog 9 [(.agg (TPontoon.cells p)),(.agg (TLimits.cells l)),(encL cI 0 steps)] [] 0 (.tup [(encL cS ByteArray.empty rBroken.1),(aI rBroken.2)]) []] ⟨o1,o1,(g_water_Broken_ok N p l steps rBroken hr5),trivial⟩ ?_
      refine Runs.sA 2 [.code (C_0 508),.code (C_0 509),.code (C_0 255)] ?_
      obtain ⟨rCheckPontoon2,hr6,h⟩:=bindSome h
      refine Runs.sR hE ⟨[(2,(encL cI 0 steps)),(3,(.op 0 0 0)),(4,(.op 16 0 0)),(7,(aI rCheckPontoon)),(8,(.op 352 0 0)),(9,(aI rFloat.2)),(10,(encL cS ByteArray.empty rBroken.1)),(11,(aI rBroken.2)),(41,(aB (rCheckPontoon2 != rCheckPontoon)))],[(0,vO 5 (TPontoon.cells p)),(16,vO 5 (TLimits.cells l)),(352,vO 16 (TPose.cells rFloat.1))],608⟩ (C_0 508) [(1,⟨[],true,(aI rCheckPontoon2),[],0,false,none⟩)] [] (kp [2,3,4,7,8,9,10,11,41]) (kq [0,16,352]) 608 [0 < 1,Sound Tryz.prog 10 [(.agg (TPontoon.cells p))] [] 0 (aI rCheckPontoon2) []] ⟨o1,(g_water_CheckPontoon_ok N p rCheckPontoon2 hr6),trivial⟩ ?_
      refine Runs.sC 41 (C_0 1018) (C_0 1019) (rCheckPontoon2 != rCheckPontoon) (fun hq4=>?_) (fun hq4=>?_)
      · have h:=condT h hq4
        refine Runs.sA 1 [.code (C_0 2036),.code (C_0 2037),.code (C_0 255)] ?_
        refine Runs.sR hE ⟨[(6,(aB false))],[],624⟩ (C_0 2036) [] [] (kp [6]) [] 624 [] trivial ?_
        obtain rfl:=Option.some.inj h
        refine Runs.sW hE ⟨[(6,(aB false))],[],624⟩ [] (kp [6]) [] 624 [] trivial ?_
        exact Runs.sT Tryz.f3 [] [] trivial
      · have h:=condF h hq4
        refine Runs.sA 3 [.code (C_0 1020),.code (C_0 1021),.code (C_0 511)] ?_
        refine Runs.sR hE ⟨[(2,(encL cI 0 steps)),(3,(.op 0 0 0)),(4,(.op 16 0 0)),(7,(aI rCheckPontoon)),(8,(.op 352 0 0)),(9,(aI rFloat.2)),(10,(encL cS ByteArray.empty rBroken.1)),(11,(aI rBroken.2)),(43,(aB (rCheckPontoon != 0)))],[(0,vO 5 (TPontoon.cells p)),(16,vO 5 (TLimits.cells l)),(352,vO 16 (TPose.cells rFloat.1))],640⟩ (C_0 1020) [] [] (kp [2,3,4,7,8,9,10,11,43]) (kq [0,16,352]) 640 [] trivial ?_
        refine Runs.sC 43 (C_0 2042) (C_0 2043) (rCheckPontoon != 0) (fun hq5=>?_) (fun hq5=>?_)
        · have h:=condT h hq5
          refine Runs.sA 1 [.code (C_0 4084),.code (C_0 4085),.code (C_0 511)] ?_
          obtain ⟨rstill,hr7,h⟩:=bindSome h
          refine Runs.sR hE ⟨[(6,(aB (cond (cond (cond (rFloat.2 == rCheckPontoon) (rBroken.2 == rCheckPontoon) false) rstill false) (((rBroken.1.length:Nat):Int) == 0) false)))],[],928⟩ (C_0 4084) [(10,⟨[],true,(aB rstill),[],0,false,none⟩)] [] (kp [6]) [] 928 [(rFloat.2 == rCheckPontoon) = true→AllP [(rFloat.2 == rCheckPontoon) = true,(rFloat.2 == rCheckPontoon) = true],(rFloat.2 == rCheckPontoon) = true→AllP [(rFloat.2 == rCheckPontoon) = true],(cond (rFloat.2 == rCheckPontoon) (rBroken.2 == rCheckPontoon) false) = true→AllP [0 < 1],(cond (rFloat.2 == rCheckPontoon) (rBroken.2 == rCheckPontoon) false) = true→AllP [Sound Tryz.prog 11 [(.agg (TPose.cells rFloat.1))] [] 0 (aB rstill) [],(cond (rFloat.2 == rCheckPontoon) (rBroken.2 == rCheckPontoon) false) = true],(cond (rFloat.2 == rCheckPontoon) (rBroken.2 == rCheckPontoon) false) = true→AllP [(cond (rFloat.2 == rCheckPontoon) (rBroken.2 == rCheckPontoon) false) = true],(cond (cond (rFloat.2 == rCheckPontoon) (rBroken.2 == rCheckPontoon) false) rstill false) = true→AllP [(cond (cond (rFloat.2 == rCheckPontoon) (rBroken.2 == rCheckPontoon) false) rstill false) = true],(cond (cond (rFloat.2 == rCheckPontoon) (rBroken.2 == rCheckPontoon) false) rstill false) = true→AllP [(cond (cond (rFloat.2 == rCheckPontoon) (rBroken.2 == rCheckPontoon) false) rstill false) = true],(cond (cond (rFloat.2 == rCheckPontoon) (rBroken.2 == rCheckPontoon) false) rstill false) = true→AllP [(cond (cond (rFloat.2 == rCheckPontoon) (rBroken.2 == rCheckPontoon) false) rstill false) = true]] ⟨(fun hg=>⟨hg,hg,trivial⟩),(fun hq=>⟨hq,trivial⟩),(fun hg=>⟨o1,trivial⟩),(fun hg=>⟨(g_w05_still_ok N rFloat.1 rstill (condT hr7 hg)),hg,trivial⟩),(fun hq=>⟨hq,trivial⟩),(fun hg=>⟨hg,trivial⟩),(fun hg=>⟨hg,trivial⟩),(fun hq=>⟨hq,trivial⟩),trivial⟩ ?_
          obtain rfl:=Option.some.inj h
          refine Runs.sW hE ⟨[(6,(aB (cond (cond (cond (rFloat.2 == rCheckPontoon) (rBroken.2 == rCheckPontoon) false) rstill false) (((rBroken.1.length:Nat):Int) == 0) false)))],[],928⟩ [] (kp [6]) [] 928 [] trivial ?_
          exact Runs.sT Tryz.f3 [] [] trivial
        · have h:=condF h hq5
          refine Runs.sA 2 [.code (C_0 1022),.code (C_0 1023)] ?_
          obtain ⟨rCheckSteps,hr8,h⟩:=bindSome h
          obtain ⟨rCheckLimits,hr9,h⟩:=bindSome h
          refine Runs.sR hE ⟨[(2,(encL cI 0 steps)),(3,(.op 0 0 0)),(4,(.op 16 0 0)),(7,(aI rCheckSteps)),(8,(.op 352 0 0)),(9,(aI rFloat.2)),(10,(encL cS ByteArray.empty rBroken.1)),(11,(aI rBroken.2)),(12,(aI rCheckLimits))],[(0,vO 5 (TPontoon.cells p)),(16,vO 5 (TLimits.cells l)),(352,vO 16 (TPose.cells rFloat.1))],752⟩ (C_0 1022) [(2,⟨[],true,(aI rCheckSteps),[],0,false,none⟩),(4,⟨[],true,(aI rCheckLimits),[],0,false,none⟩)] [] (kp [2,3,4,7,8,9,10,11,12]) (kq [0,16,352]) 752 [0 < 1,Sound Tryz.prog 12 [(.agg (TPontoon.cells p)),(encL cI 0 steps)] [] 0 (aI rCheckSteps) [],0 < 1,Sound Tryz.prog 13 [(.agg (TLimits.cells l))] [] 0 (aI rCheckLimits) []] ⟨o1,(g_r05_CheckSteps_ok N p steps rCheckSteps hr8),o1,(g_r05_CheckLimits_ok N l rCheckLimits hr9),trivial⟩ ?_
          refine Runs.sA 2 [.code (C_0 4092),.code (C_0 4093),.code (C_0 2047)] ?_
          refine Runs.sR hE ⟨[(2,(encL cI 0 steps)),(3,(.op 0 0 0)),(4,(.op 16 0 0)),(7,(aI rCheckSteps)),(8,(.op 352 0 0)),(9,(aI rFloat.2)),(10,(encL cS ByteArray.empty rBroken.1)),(11,(aI rBroken.2)),(12,(aI rCheckLimits)),(67,(aB (rCheckSteps != 0)))],[(0,vO 5 (TPontoon.cells p)),(16,vO 5 (TLimits.cells l)),(352,vO 16 (TPose.cells rFloat.1))],784⟩ (C_0 4092) [] [] (kp [2,3,4,7,8,9,10,11,12,67]) (kq [0,16,352]) 784 [] trivial ?_
          refine Runs.sC 67 (C_0 8186) (C_0 8187) (rCheckSteps != 0) (fun hq6=>?_) (fun hq6=>?_)
          · have h:=condT h hq6
            refine Runs.sA 1 [.code (C_0 16372),.code (C_0 16373),.code (C_0 2047)] ?_
            obtain ⟨rstill2,hr10,h⟩:=bindSome h
            refine Runs.sR hE ⟨[(2,(encL cI 0 steps)),(3,(.op 0 0 0)),(4,(.op 16 0 0)),(7,(aI rCheckSteps)),(10,(encL cS ByteArray.empty rBroken.1)),(11,(aI rBroken.2)),(12,(aI rCheckLimits)),(75,(aB (cond (rFloat.2 != rCheckSteps) true (!rstill2))))],[(0,vO 5 (TPontoon.cells p)),(16,vO 5 (TLimits.cells l))],912⟩ (C_0 16372) [(5,⟨[],true,(aB rstill2),[],0,false,none⟩)] [] (kp [2,3,4,7,10,11,12,75]) (kq [0,16]) 912 [(!(rFloat.2 != rCheckSteps)) = true→AllP [0 < 1],(!(rFloat.2 != rCheckSteps)) = true→AllP [Sound Tryz.prog 11 [(.agg (TPose.cells rFloat.1))] [] 0 (aB rstill2) [],(!(rFloat.2 != rCheckSteps)) = true],(!(rFloat.2 != rCheckSteps)) = true→AllP [(!(rFloat.2 != rCheckSteps)) = true],(!(rFloat.2 != rCheckSteps)) = true→AllP [(!(rFloat.2 != rCheckSteps)) = true]] ⟨(fun hg=>⟨o1,trivial⟩),(fun hg=>⟨(g_w05_still_ok N rFloat.1 rstill2 (condT hr10 hg)),hg,trivial⟩),(fun hg=>⟨hg,trivial⟩),(fun hq=>⟨hq,trivial⟩),trivial⟩ ?_
            refine Runs.sC 75 (C_0 32746) (C_0 32747) (cond (rFloat.2 != rCheckSteps) true (!rstill2)) (fun hq7=>?_) (fun hq7=>?_)
            · have h:=condT h hq7
              refine Runs.sA 1 [.code (C_0 65492),.code (C_0 65493),.code (C_0 2047)] ?_
              refine Runs.sR hE ⟨[(6,(aB false))],[],928⟩ (C_0 65492) [] [] (kp [6]) [] 928 [] trivial ?_
              obtain rfl:=Option.some.inj h
              refine Runs.sW hE ⟨[(6,(aB false))],[],928⟩ [] (kp [6]) [] 928 [] trivial ?_
              exact Runs.sT Tryz.f3 [] [] trivial
            · have h:=condF h hq7
              refine Runs.sA 3 [.code (C_0 8188),.code (C_0 8189),.code (C_0 4095)] ?_
              exact Runs.sW hE _ [] (kp [2,3,4,7,10,11,12]) (kq [0] ++ [(1,.keep 16)]) 2 [] trivial (g_w05_WaterPoses_J1_ok N p l steps rBroken rCheckSteps rCheckLimits _ h E hE)
          · have h:=condF h hq6
            refine Runs.sA 1 [.code (C_0 16374),.code (C_0 16375),.code (C_0 2047)] ?_
            obtain ⟨rFloat2,hr13,h⟩:=bindSome h
            obtain ⟨rsamePose,hr14,h⟩:=bindSome h
            refine Runs.sR hE ⟨[(2,(encL cI 0 steps)),(3,(.op 0 0 0)),(4,(.op 16 0 0)),(7,(aI rCheckSteps)),(10,(encL cS ByteArray.empty rBroken.1)),(11,(aI rBroken.2)),(12,(aI rCheckLimits)),(85,(aB (cond (rFloat.2 != 0) true (!rsamePose))))],[(0,vO 5 (TPontoon.cells p)),(16,vO 5 (TLimits.cells l))],944⟩ (C_0 16374) [(6,⟨[],true,(.agg (TPose.cells rFloat2)),[],0,false,none⟩),(7,⟨[],true,(aB rsamePose),[],0,false,none⟩)] [] (kp [2,3,4,7,10,11,12,85]) (kq [0,16]) 944 [(!(rFloat.2 != 0)) = true→AllP [0 < 1],(!(rFloat.2 != 0)) = true→AllP [0 < 1],(!(rFloat.2 != 0)) = true→AllP [Sound Tryz.prog 15 [(.agg (TPontoon.cells p)),(encL cI 0 steps)] [] 0 (.agg (TPose.cells rFloat2)) [],(!(rFloat.2 != 0)) = true,(!(rFloat.2 != 0)) = true],(!(rFloat.2 != 0)) = true→AllP [Sound Tryz.prog 14 [(.agg (TPose.cells rFloat.1)),(.agg (TPose.cells rFloat2))] [] 0 (aB rsamePose) [],(!(rFloat.2 != 0)) = true,(!(rFloat.2 != 0)) = true],(!(rFloat.2 != 0)) = true→AllP [(!(rFloat.2 != 0)) = true],(!(rFloat.2 != 0)) = true→AllP [(!(rFloat.2 != 0)) = true]] ⟨(fun hg=>⟨o1,trivial⟩),(fun hg=>⟨o1,trivial⟩),(fun hg=>⟨(g_r05_Float_ok N p steps rFloat2 (condT hr13 hg)),hg,hg,trivial⟩),(fun hg=>⟨(g_w05_samePose_ok N rFloat.1 rFloat2 rsamePose (condT hr14 hg)),hg,hg,trivial⟩),(fun hg=>⟨hg,trivial⟩),(fun hq=>⟨hq,trivial⟩),trivial⟩ ?_
            refine Runs.sC 85 (C_0 32750) (C_0 32751) (cond (rFloat.2 != 0) true (!rsamePose)) (fun hq10=>?_) (fun hq10=>?_)
            · have h:=condT h hq10
              refine Runs.sA 1 [.code (C_0 65500),.code (C_0 65501),.code (C_0 2047)] ?_
              refine Runs.sR hE ⟨[(6,(aB false))],[],960⟩ (C_0 65500) [] [] (kp [6]) [] 960 [] trivial ?_
              obtain rfl:=Option.some.inj h
              refine Runs.sW hE ⟨[(6,(aB false))],[],960⟩ [] (kp [6]) [] 960 [] trivial ?_
              exact Runs.sT Tryz.f3 [] [] trivial
            · have h:=condF h hq10
              refine Runs.sA 3 [.code (C_0 8188),.code (C_0 8189),.code (C_0 4095)] ?_
              exact Runs.sW hE _ [] (kp [2,3,4,7,10,11,12]) (kq [0] ++ [(1,.keep 16)]) 2 [] trivial (g_w05_WaterPoses_J1_ok N p l steps rBroken rCheckSteps rCheckLimits _ h E hE)
end Go.Den
