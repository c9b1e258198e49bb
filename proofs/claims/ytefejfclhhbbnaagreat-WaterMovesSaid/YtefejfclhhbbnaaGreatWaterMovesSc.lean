/- Each function of the program does what its Lean function computes (part 3). No conditions. -/
import Derived.Test.YtefejfclhhbbnaaGreatWaterMovesSb
import Derived.Test.YtefejfclhhbbnaaGreatProg
set_option linter.unusedVariables false
set_option maxRecDepth 100000
namespace Go.Den
open Go.Ab Go.Proofs
noncomputable def C_79 (n:Nat):Code:=cat (bodyOf Tryz.f39) (pth n)
theorem g_r05_loads_L1_ok (N:Nat) (p:TPn) (steps:List Int) (fuel:Nat):∀ (out:List TPm) (i:Int) (r:(List TPm)),g_r05_loads_L1 N p steps fuel out i = some r→∀ E,EnvOk E 0→Runs Tryz.prog E 39 45 (SPost E [] (encL TPm.cells TPm.d r)) [.code (C_79 116),.inLoop (C_79 116),.inBlock 0,.code (C_79 15)] ⟨[(1,(encL cI 0 steps)),(2,(.op 0 0 0)),(5,(.os 1 0 out.length)),(6,(aI i))],[(0,vO 5 (TPn.cells p)),(1,aO 3 TPm.cells TPm.d out)],2⟩:=by
  induction fuel with
  | zero=>intro _ _ r h; rw [g_r05_loads_L1.eq_1] at h; cases h
  | succ fuel ih =>
    intro out i r h E hE
    rw [g_r05_loads_L1.eq_2] at h
    refine Runs.sA 2 [.code (C_79 464),.code (C_79 465),.code (C_79 233),.inLoop (C_79 116),.inBlock 0,.code (C_79 15)] ?_
    refine Runs.sR hE ⟨[(1,(encL cI 0 steps)),(2,(.op 0 0 0)),(5,(.os 1 0 out.length)),(6,(aI i)),(14,(aB (decide (i < ((steps.length:Nat):Int)))))],[(0,vO 5 (TPn.cells p)),(1,aO 3 TPm.cells TPm.d out)],66⟩ (C_79 464) [] [] (kp [1,2,5,6,14]) (kq [0,1]) 66 [] trivial ?_
    refine Runs.sC 14 (C_79 930) (C_79 931) (decide (i < ((steps.length:Nat):Int))) (fun hq2=>?_) (fun hq2=>?_)
    · have h:=condT h hq2
      refine Runs.sA 3 [.code (C_79 932),.inBlock 1,.code (C_79 467),.inLoop (C_79 116),.inBlock 0,.code (C_79 15)] ?_
      obtain ⟨c2,h⟩:=ifSome h
      obtain ⟨c3,h⟩:=ifSome h
      obtain ⟨c4,h⟩:=ifSome h
      refine Runs.sR hE ⟨[(1,(encL cI 0 steps)),(2,(.op 0 0 0)),(5,(.os 482 0 ((out ++ ([(⟨(p.fTk.getD ((i).toNat) TTank.d).f_X,(p.fTk.getD ((i).toNat) TTank.d).f_Y,(w64 ((steps.getD ((i).toNat) 0) * (p.fTk.getD ((i).toNat) TTank.d).fMa))⟩:TPm)]:List TPm)).length))),(6,(aI i))],[(0,vO 5 (TPn.cells p)),(482,aO 3 TPm.cells TPm.d (out ++ ([(⟨(p.fTk.getD ((i).toNat) TTank.d).f_X,(p.fTk.getD ((i).toNat) TTank.d).f_Y,(w64 ((steps.getD ((i).toNat) 0) * (p.fTk.getD ((i).toNat) TTank.d).fMa))⟩:TPm)]:List TPm)))],514⟩ (C_79 932) [] [] (kp [1,2] ++ [(5,.osl ((out ++ ([(⟨(p.fTk.getD ((i).toNat) TTank.d).f_X,(p.fTk.getD ((i).toNat) TTank.d).f_Y,(w64 ((steps.getD ((i).toNat) 0) * (p.fTk.getD ((i).toNat) TTank.d).fMa))⟩:TPm)]:List TPm)).length))] ++ kp [6]) (kq [0] ++ [(482,.arr 482 ((out ++ ([(⟨(p.fTk.getD ((i).toNat) TTank.d).f_X,(p.fTk.getD ((i).toNat) TTank.d).f_Y,(w64 ((steps.getD ((i).toNat) 0) * (p.fTk.getD ((i).toNat) TTank.d).fMa))⟩:TPm)]:List TPm)).length) (fun zi=>TPm.cells ((out ++ ([(⟨(p.fTk.getD ((i).toNat) TTank.d).f_X,(p.fTk.getD ((i).toNat) TTank.d).f_Y,(w64 ((steps.getD ((i).toNat) 0) * (p.fTk.getD ((i).toNat) TTank.d).fMa))⟩:TPm)]:List TPm)).getD zi TPm.d)))]) 514 [0 < 1,0≤i∧i < ((p.fTk.length:Nat):Int),0 < 1,0≤i∧i < ((p.fTk.length:Nat):Int),0≤i∧i < ((steps.length:Nat):Int),0 < 1,0≤i∧i < ((p.fTk.length:Nat):Int),out.length = out.length,(out.length+1) * 24≤140737488355328,0+1≤1,∀ zi,zi < 1→AV.oneL ((fun zi=>([[(aI ((p.fTk.getD ((i).toNat) TTank.d).f_X)),(aI ((p.fTk.getD ((i).toNat) TTank.d).f_Y)),(aI (w64 ((steps.getD ((i).toNat) 0) * (p.fTk.getD ((i).toNat) TTank.d).fMa)))]]:List (List AV)).getD zi []) (addz 0 zi)) = true,(out.length+1) = (out ++ ([(⟨(p.fTk.getD ((i).toNat) TTank.d).f_X,(p.fTk.getD ((i).toNat) TTank.d).f_Y,(w64 ((steps.getD ((i).toNat) 0) * (p.fTk.getD ((i).toNat) TTank.d).fMa))⟩:TPm)]:List TPm)).length,out.length+1 = (out ++ ([(⟨(p.fTk.getD ((i).toNat) TTank.d).f_X,(p.fTk.getD ((i).toNat) TTank.d).f_Y,(w64 ((steps.getD ((i).toNat) 0) * (p.fTk.getD ((i).toNat) TTank.d).fMa))⟩:TPm)]:List TPm)).length,∀ zi,zi < (out ++ ([(⟨(p.fTk.getD ((i).toNat) TTank.d).f_X,(p.fTk.getD ((i).toNat) TTank.d).f_Y,(w64 ((steps.getD ((i).toNat) 0) * (p.fTk.getD ((i).toNat) TTank.d).fMa))⟩:TPm)]:List TPm)).length→(fun zi=>TPm.cells ((out ++ ([(⟨(p.fTk.getD ((i).toNat) TTank.d).f_X,(p.fTk.getD ((i).toNat) TTank.d).f_Y,(w64 ((steps.getD ((i).toNat) 0) * (p.fTk.getD ((i).toNat) TTank.d).fMa))⟩:TPm)]:List TPm)).getD zi TPm.d)) zi = ((fun zm=>if zm < out.length then (fun zi=>TPm.cells (out.getD zi TPm.d)) zm else (fun zi=>([[(aI ((p.fTk.getD ((i).toNat) TTank.d).f_X)),(aI ((p.fTk.getD ((i).toNat) TTank.d).f_Y)),(aI (w64 ((steps.getD ((i).toNat) 0) * (p.fTk.getD ((i).toNat) TTank.d).fMa)))]]:List (List AV)).getD zi []) (zm - out.length))) zi] ⟨o1,c2,o1,c2,c3,o1,c2,rfl,c4,z0,(oneN rfl),(len_app_raw rfl rfl),(len_app_raw rfl rfl),(get_app_raw TPm.cells TPm.d out ([(⟨(p.fTk.getD ((i).toNat) TTank.d).f_X,(p.fTk.getD ((i).toNat) TTank.d).f_Y,(w64 ((steps.getD ((i).toNat) 0) * (p.fTk.getD ((i).toNat) TTank.d).fMa))⟩:TPm)]:List TPm) rfl (fun _ _=>rfl) (fun zq hzq=>get_chunk TPm.cells TPm.d ([(⟨(p.fTk.getD ((i).toNat) TTank.d).f_X,(p.fTk.getD ((i).toNat) TTank.d).f_Y,(w64 ((steps.getD ((i).toNat) 0) * (p.fTk.getD ((i).toNat) TTank.d).fMa))⟩:TPm)]:List TPm) zq hzq)),trivial⟩ ?_
      refine Runs.sA 1 [.code (C_79 467),.inLoop (C_79 116),.inBlock 0,.code (C_79 15)] ?_
      refine Runs.sR hE ⟨[(1,(encL cI 0 steps)),(2,(.op 0 0 0)),(5,(.os 482 0 ((out ++ ([(⟨(p.fTk.getD ((i).toNat) TTank.d).f_X,(p.fTk.getD ((i).toNat) TTank.d).f_Y,(w64 ((steps.getD ((i).toNat) 0) * (p.fTk.getD ((i).toNat) TTank.d).fMa))⟩:TPm)]:List TPm)).length))),(6,(aI (w64 (i+1))))],[(0,vO 5 (TPn.cells p)),(482,aO 3 TPm.cells TPm.d (out ++ ([(⟨(p.fTk.getD ((i).toNat) TTank.d).f_X,(p.fTk.getD ((i).toNat) TTank.d).f_Y,(w64 ((steps.getD ((i).toNat) 0) * (p.fTk.getD ((i).toNat) TTank.d).fMa))⟩:TPm)]:List TPm)))],562⟩ (C_79 467) [] [] (kp [1,2,5,6]) (kq [0,482]) 562 [] trivial ?_
      refine Runs.sA 1 [.code (C_79 116),.inLoop (C_79 116),.inBlock 0,.code (C_79 15)] ?_
      exact Runs.sW hE _ [] (kp [1,2,5,6]) (kq [0] ++ [(1,.keep 482)]) 2 [] trivial (ih (out ++ ([(⟨(p.fTk.getD ((i).toNat) TTank.d).f_X,(p.fTk.getD ((i).toNat) TTank.d).f_Y,(w64 ((steps.getD ((i).toNat) 0) * (p.fTk.getD ((i).toNat) TTank.d).fMa))⟩:TPm)]:List TPm)) (w64 (i+1)) _ h E hE)
    · have h:=condF h hq2
      refine Runs.sA 2 [.code (C_79 30),.code (C_79 31)] ?_
      refine Runs.sR hE ⟨[(4,(.os 1 0 out.length))],[(1,aO 3 TPm.cells TPm.d out)],98⟩ (C_79 30) [] [] (kp [4]) (kq [1]) 98 [] trivial ?_
      obtain rfl:=Option.some.inj h
      refine Runs.sW hE ⟨[(4,(encL TPm.cells TPm.d out))],[],98⟩ [1] [(4,.sl (out.length) (fun zi=>TPm.cells (out.getD zi TPm.d)))] [] 98 [out.length = out.length,0+out.length≤out.length,∀ zi,zi < out.length→(fun zi=>TPm.cells (out.getD zi TPm.d)) zi = (fun zi=>TPm.cells (out.getD zi TPm.d)) (addz 0 zi)] ⟨rfl,z0,(fun _ _=>rfl),trivial⟩ ?_
      exact Runs.sT Tryz.f39 [] [] trivial
theorem g_r05_loads_ok (N:Nat) (p:TPn) (steps:List Int) (r:(List TPm)) (h:g_r05_loads N p steps = some r):Sound Tryz.prog 39 [(.agg (TPn.cells p)),(encL cI 0 steps)] [] 0 (encL TPm.cells TPm.d r) []:=by
  unfold g_r05_loads at h
  refine Sound.of_runs (fu:=Tryz.f39) (c:=C_79 1) (nt:=45) (by kernel_rfl) (by kernel_rfl) (by kernel_rfl) (by kernel_rfl) (fun hm=>rfl) ?_
  intro E hE
  refine Runs.sA 1 [.code (C_79 2),.code (C_79 3)] ?_
  refine Runs.sR hE ⟨[(1,(encL cI 0 steps)),(2,(.op 0 0 0))],[(0,vO 5 (TPn.cells p))],32⟩ (C_79 2) [] [] (kp [1,2]) (kq [0]) 32 [] trivial ?_
  refine Runs.sA 1 [.code (C_79 6),.code (C_79 7)] ?_
  obtain ⟨c,h⟩:=ifSome h
  refine Runs.sR hE ⟨[(1,(encL cI 0 steps)),(2,(.op 0 0 0)),(5,(.os 80 0 ((([]:List TPm) ++ p.fMs).length)))],[(0,vO 5 (TPn.cells p)),(80,aO 3 TPm.cells TPm.d (([]:List TPm) ++ p.fMs))],112⟩ (C_79 6) [] [] (kp [1,2] ++ [(5,.osl ((([]:List TPm) ++ p.fMs).length))]) (kq [0] ++ [(80,.arr 80 ((([]:List TPm) ++ p.fMs).length) (fun zi=>TPm.cells ((([]:List TPm) ++ p.fMs).getD zi TPm.d)))]) 112 [0 < 1,0 = 0,(0+p.fMs.length) * 24≤140737488355328,∀ zi,zi < p.fMs.length→AV.oneL ((fun zi=>TPm.cells (p.fMs.getD zi TPm.d)) zi) = true,(0+p.fMs.length) = (([]:List TPm) ++ p.fMs).length,0+p.fMs.length = (([]:List TPm) ++ p.fMs).length,∀ zi,zi < (([]:List TPm) ++ p.fMs).length→(fun zi=>TPm.cells ((([]:List TPm) ++ p.fMs).getD zi TPm.d)) zi = ((fun zm=>if zm < 0 then (fun _=>[]) zm else (fun zi=>TPm.cells (p.fMs.getD zi TPm.d)) (zm - 0))) zi] ⟨o1,rfl,c,(fun _ _=>rfl),(len_app_raw rfl rfl),(len_app_raw rfl rfl),(get_app_raw TPm.cells TPm.d ([]:List TPm) p.fMs rfl (fun zq hzq=>absurd hzq (Nat.not_lt_zero _)) (fun _ _=>rfl)),trivial⟩ ?_
  refine Runs.sA 2 [.code (C_79 28),.code (C_79 29),.code (C_79 15)] ?_
  refine Runs.sR hE ⟨[(1,(encL cI 0 steps)),(2,(.op 0 0 0)),(5,(.os 80 0 ((([]:List TPm) ++ p.fMs).length))),(6,(aI 0))],[(0,vO 5 (TPn.cells p)),(80,aO 3 TPm.cells TPm.d (([]:List TPm) ++ p.fMs))],128⟩ (C_79 28) [] [] (kp [1,2,5,6]) (kq [0,80]) 128 [] trivial ?_
  refine Runs.sA 2 [.code (C_79 116),.inLoop (C_79 116),.inBlock 0,.code (C_79 15)] ?_
  exact Runs.sW hE _ [] (kp [1,2,5,6]) (kq [0] ++ [(1,.keep 80)]) 2 [] trivial (g_r05_loads_L1_ok N p steps N (([]:List TPm) ++ p.fMs) 0 _ h E hE)
noncomputable def C_84 (n:Nat):Code:=cat (bodyOf Tryz.f113) (pth n)
theorem g_r01_trim_L1_ok (N:Nat) (a:List Int) (fuel:Nat):∀ (n:Int) (r:(List Int)),g_r01_trim_L1 N a fuel n = some r→∀ E,EnvOk E 0→Runs Tryz.prog E 113 23 (SPost E [] (encL cI 0 r)) [.code (C_84 56),.inLoop (C_84 56),.inBlock 0,.code (C_84 15)] ⟨[(0,(encL cI 0 a)),(3,(aI n))],[],0⟩:=by
  induction fuel with
  | zero=>intro _ r h; rw [g_r01_trim_L1.eq_1] at h; cases h
  | succ fuel ih =>
    intro n r h E hE
    rw [g_r01_trim_L1.eq_2] at h
    refine Runs.sA 2 [.code (C_84 224),.code (C_84 225),.code (C_84 113),.inLoop (C_84 56),.inBlock 0,.code (C_84 15)] ?_
    obtain ⟨c,h⟩:=ifSome h
    refine Runs.sR hE ⟨[(0,(encL cI 0 a)),(3,(aI n)),(15,(aB (cond (decide (n > 0)) ((a.getD ((w64 (n - 1)).toNat) 0) == 0) false)))],[],160⟩ (C_84 224) [] [] (kp [0,3,15]) [] 160 [(decide (n > 0)) = true→AllP [(decide (n > 0)) = true],(decide (n > 0)) = true→AllP [(decide (n > 0)) = true,(decide (n > 0)) = true,0≤(w64 (n - 1))∧(w64 (n - 1)) < ((a.length:Nat):Int)],(decide (n > 0)) = true→AllP [(decide (n > 0)) = true],(decide (n > 0)) = true→AllP [(decide (n > 0)) = true],(decide (n > 0)) = true→AllP [(decide (n > 0)) = true]] ⟨(fun hg=>⟨hg,trivial⟩),(fun hg=>⟨hg,hg,(c hg),trivial⟩),(fun hg=>⟨hg,trivial⟩),(fun hg=>⟨hg,trivial⟩),(fun hq=>⟨hq,trivial⟩),trivial⟩ ?_
    refine Runs.sC 15 (C_84 450) (C_84 451) (cond (decide (n > 0)) ((a.getD ((w64 (n - 1)).toNat) 0) == 0) false) (fun hq2=>?_) (fun hq2=>?_)
    · have h:=condT h hq2
      refine Runs.sA 2 [.code (C_84 226),.inBlock 1,.inLoop (C_84 56),.inBlock 0,.code (C_84 15)] ?_
      refine Runs.sR hE ⟨[(0,(encL cI 0 a)),(3,(aI (w64 (n - 1))))],[],208⟩ (C_84 226) [] [] (kp [0,3]) [] 208 [] trivial ?_
      refine Runs.sA 2 [.code (C_84 56),.inLoop (C_84 56),.inBlock 0,.code (C_84 15)] ?_
      exact Runs.sW hE _ [] (kp [0,3]) [] 0 [] trivial (ih (w64 (n - 1)) _ h E hE)
    · have h:=condF h hq2
      refine Runs.sA 2 [.code (C_84 30),.code (C_84 31)] ?_
      obtain ⟨c2,h⟩:=ifSome h
      obtain ⟨c3,h⟩:=ifSome h
      obtain ⟨c4,h⟩:=ifSome h
      refine Runs.sR hE ⟨[(2,(.os 224 0 ((([]:List Int) ++ ((a.take ((n).toNat)).drop 0)).length)))],[(224,aO 1 cI 0 (([]:List Int) ++ ((a.take ((n).toNat)).drop 0)))],256⟩ (C_84 30) [] [] [(2,.osl ((([]:List Int) ++ ((a.take ((n).toNat)).drop 0)).length))] [(224,.arr 224 ((([]:List Int) ++ ((a.take ((n).toNat)).drop 0)).length) (fun zi=>cI ((([]:List Int) ++ ((a.take ((n).toNat)).drop 0)).getD zi 0)))] 256 [0≤(n).toNat∧(n).toNat≤a.length,0≤n,0 = 0,(0+(n).toNat - 0) * 8≤140737488355328,∀ zi,zi < (n).toNat - 0→AV.oneL ((fun zi=>cI (a.getD (addz 0 zi) 0)) zi) = true,(0+(n).toNat - 0) = (([]:List Int) ++ ((a.take ((n).toNat)).drop 0)).length,0+(n).toNat - 0 = (([]:List Int) ++ ((a.take ((n).toNat)).drop 0)).length,∀ zi,zi < (([]:List Int) ++ ((a.take ((n).toNat)).drop 0)).length→(fun zi=>cI ((([]:List Int) ++ ((a.take ((n).toNat)).drop 0)).getD zi 0)) zi = ((fun zm=>if zm < 0 then (fun _=>[]) zm else (fun zi=>cI (a.getD (addz 0 zi) 0)) (zm - 0))) zi] ⟨c2,c3,rfl,c4,(fun _ _=>rfl),(len_app_raw rfl (len_ext' a 0 ((n).toNat) c2)),(len_app_raw rfl (len_ext' a 0 ((n).toNat) c2)),(get_app_raw cI 0 ([]:List Int) ((a.take ((n).toNat)).drop 0) rfl (fun zq hzq=>absurd hzq (Nat.not_lt_zero _)) (fun zq hzq=>get_ext cI 0 a 0 ((n).toNat) zq hzq)),trivial⟩ ?_
      obtain rfl:=Option.some.inj h
      refine Runs.sW hE ⟨[(2,(encL cI 0 (([]:List Int) ++ ((a.take ((n).toNat)).drop 0))))],[],256⟩ [224] [(2,.sl ((([]:List Int) ++ ((a.take ((n).toNat)).drop 0)).length) (fun zi=>cI ((([]:List Int) ++ ((a.take ((n).toNat)).drop 0)).getD zi 0)))] [] 256 [(([]:List Int) ++ ((a.take ((n).toNat)).drop 0)).length = (([]:List Int) ++ ((a.take ((n).toNat)).drop 0)).length,0+(([]:List Int) ++ ((a.take ((n).toNat)).drop 0)).length≤(([]:List Int) ++ ((a.take ((n).toNat)).drop 0)).length,∀ zi,zi < (([]:List Int) ++ ((a.take ((n).toNat)).drop 0)).length→(fun zi=>cI ((([]:List Int) ++ ((a.take ((n).toNat)).drop 0)).getD zi 0)) zi = (fun zi=>cI ((([]:List Int) ++ ((a.take ((n).toNat)).drop 0)).getD zi 0)) (addz 0 zi)] ⟨rfl,z0,(fun _ _=>rfl),trivial⟩ ?_
      exact Runs.sT Tryz.f113 [] [] trivial
theorem g_r01_trim_ok (N:Nat) (a:List Int) (r:(List Int)) (h:g_r01_trim N a = some r):Sound Tryz.prog 113 [(encL cI 0 a)] [] 0 (encL cI 0 r) []:=by
  unfold g_r01_trim at h
  refine Sound.of_runs (fu:=Tryz.f113) (c:=C_84 1) (nt:=23) (by kernel_rfl) (by kernel_rfl) (by kernel_rfl) (by kernel_rfl) (fun hm=>rfl) ?_
  intro E hE
  refine Runs.sA 1 [.code (C_84 2),.code (C_84 3)] ?_
  refine Runs.sR hE ⟨[(0,(encL cI 0 a))],[],16⟩ (C_84 2) [] [] (kp [0]) [] 16 [] trivial ?_
  refine Runs.sA 1 [.code (C_84 6),.code (C_84 7)] ?_
  refine Runs.sR hE ⟨[(0,(encL cI 0 a)),(3,(aI ((a.length:Nat):Int)))],[],64⟩ (C_84 6) [] [] (kp [0,3]) [] 64 [] trivial ?_
  refine Runs.sA 3 [.code (C_84 56),.inLoop (C_84 56),.inBlock 0,.code (C_84 15)] ?_
  exact Runs.sW hE _ [] (kp [0,3]) [] 0 [] trivial (g_r01_trim_L1_ok N a N ((a.length:Nat):Int) _ h E hE)
noncomputable def C_83 (n:Nat):Code:=cat (bodyOf Tryz.f92) (pth n)
theorem g_r01_read_L1_ok (N:Nat) (l:List Int) (fuel:Nat):∀ (a:List Int) (i:Int) (r:(List Int)),g_r01_read_L1 N l fuel a i = some r→∀ E,EnvOk E 0→Runs Tryz.prog E 92 21 (SPost E [] (encL cI 0 r)) [.code (C_83 116),.inLoop (C_83 116),.inBlock 0,.code (C_83 15)] ⟨[(0,(encL (cU .u16) 0 l)),(3,(.os 0 0 a.length)),(4,(aI i))],[(0,aO 1 cI 0 a)],1⟩:=by
  induction fuel with
  | zero=>intro _ _ r h; rw [g_r01_read_L1.eq_1] at h; cases h
  | succ fuel ih =>
    intro a i r h E hE
    rw [g_r01_read_L1.eq_2] at h
    refine Runs.sA 2 [.code (C_83 464),.code (C_83 465),.code (C_83 233),.inLoop (C_83 116),.inBlock 0,.code (C_83 15)] ?_
    refine Runs.sR hE ⟨[(0,(encL (cU .u16) 0 l)),(3,(.os 0 0 a.length)),(4,(aI i)),(8,(aB (decide (i < ((l.length:Nat):Int)))))],[(0,aO 1 cI 0 a)],65⟩ (C_83 464) [] [] (kp [0,3,4,8]) (kq [0]) 65 [] trivial ?_
    refine Runs.sC 8 (C_83 930) (C_83 931) (decide (i < ((l.length:Nat):Int))) (fun hq2=>?_) (fun hq2=>?_)
    · have h:=condT h hq2
      refine Runs.sA 3 [.code (C_83 932),.inBlock 1,.code (C_83 467),.inLoop (C_83 116),.inBlock 0,.code (C_83 15)] ?_
      obtain ⟨c,h⟩:=ifSome h
      obtain ⟨c2,h⟩:=ifSome h
      refine Runs.sR hE ⟨[(0,(encL (cU .u16) 0 l)),(3,(.os 177 0 ((a ++ ([(w64 ((l.getD ((i).toNat) 0)))]:List Int)).length))),(4,(aI i))],[(177,aO 1 cI 0 (a ++ ([(w64 ((l.getD ((i).toNat) 0)))]:List Int)))],209⟩ (C_83 932) [] [] (kp [0] ++ [(3,.osl ((a ++ ([(w64 ((l.getD ((i).toNat) 0)))]:List Int)).length))] ++ kp [4]) [(177,.arr 177 ((a ++ ([(w64 ((l.getD ((i).toNat) 0)))]:List Int)).length) (fun zi=>cI ((a ++ ([(w64 ((l.getD ((i).toNat) 0)))]:List Int)).getD zi 0)))] 209 [0≤i∧i < ((l.length:Nat):Int),a.length = a.length,(a.length+1) * 8≤140737488355328,0+1≤1,∀ zi,zi < 1→AV.oneL ((fun zi=>([[(aI (w64 ((l.getD ((i).toNat) 0))))]]:List (List AV)).getD zi []) (addz 0 zi)) = true,(a.length+1) = (a ++ ([(w64 ((l.getD ((i).toNat) 0)))]:List Int)).length,a.length+1 = (a ++ ([(w64 ((l.getD ((i).toNat) 0)))]:List Int)).length,∀ zi,zi < (a ++ ([(w64 ((l.getD ((i).toNat) 0)))]:List Int)).length→(fun zi=>cI ((a ++ ([(w64 ((l.getD ((i).toNat) 0)))]:List Int)).getD zi 0)) zi = ((fun zm=>if zm < a.length then (fun zi=>cI (a.getD zi 0)) zm else (fun zi=>([[(aI (w64 ((l.getD ((i).toNat) 0))))]]:List (List AV)).getD zi []) (zm - a.length))) zi] ⟨c,rfl,c2,z0,(oneN rfl),(len_app_raw rfl rfl),(len_app_raw rfl rfl),(get_app_raw cI 0 a ([(w64 ((l.getD ((i).toNat) 0)))]:List Int) rfl (fun _ _=>rfl) (fun zq hzq=>get_chunk cI 0 ([(w64 ((l.getD ((i).toNat) 0)))]:List Int) zq hzq)),trivial⟩ ?_
      refine Runs.sA 1 [.code (C_83 467),.inLoop (C_83 116),.inBlock 0,.code (C_83 15)] ?_
      refine Runs.sR hE ⟨[(0,(encL (cU .u16) 0 l)),(3,(.os 177 0 ((a ++ ([(w64 ((l.getD ((i).toNat) 0)))]:List Int)).length))),(4,(aI (w64 (i+1))))],[(177,aO 1 cI 0 (a ++ ([(w64 ((l.getD ((i).toNat) 0)))]:List Int)))],257⟩ (C_83 467) [] [] (kp [0,3,4]) (kq [177]) 257 [] trivial ?_
      refine Runs.sA 1 [.code (C_83 116),.inLoop (C_83 116),.inBlock 0,.code (C_83 15)] ?_
      exact Runs.sW hE _ [] (kp [0,3,4]) [(0,.keep 177)] 1 [] trivial (ih (a ++ ([(w64 ((l.getD ((i).toNat) 0)))]:List Int)) (w64 (i+1)) _ h E hE)
    · have h:=condF h hq2
      refine Runs.sA 2 [.code (C_83 30),.code (C_83 31)] ?_
      obtain ⟨rtrim,hr,h⟩:=bindSome h
      refine Runs.sR hE ⟨[(2,(encL cI 0 rtrim))],[],113⟩ (C_83 30) [(1,⟨[],true,(encL cI 0 rtrim),[],0,true,none⟩)] [] (kp [2]) [] 113 [Sound Tryz.prog 113 [(encL cI 0 a)] [] 0 (encL cI 0 rtrim) [],0+a.length≤a.length] ⟨(g_r01_trim_ok N a rtrim hr),z0,trivial⟩ ?_
      obtain rfl:=Option.some.inj h
      refine Runs.sW hE ⟨[(2,(encL cI 0 rtrim))],[],113⟩ [] (kp [2]) [] 113 [] trivial ?_
      exact Runs.sT Tryz.f92 [] [] trivial
theorem g_r01_read_ok (N:Nat) (l:List Int) (r:(List Int)) (h:g_r01_read N l = some r):Sound Tryz.prog 92 [(encL (cU .u16) 0 l)] [] 0 (encL cI 0 r) []:=by
  unfold g_r01_read at h
  refine Sound.of_runs (fu:=Tryz.f92) (c:=C_83 1) (nt:=21) (by kernel_rfl) (by kernel_rfl) (by kernel_rfl) (by kernel_rfl) (fun hm=>rfl) ?_
  intro E hE
  refine Runs.sA 1 [.code (C_83 2),.code (C_83 3)] ?_
  refine Runs.sR hE ⟨[(0,(encL (cU .u16) 0 l))],[],16⟩ (C_83 2) [] [] (kp [0]) [] 16 [] trivial ?_
  refine Runs.sA 1 [.code (C_83 6),.code (C_83 7)] ?_
  refine Runs.sR hE ⟨[(0,(encL (cU .u16) 0 l)),(3,.nil)],[],32⟩ (C_83 6) [] [] (kp [0,3]) [] 32 [] trivial ?_
  refine Runs.sA 2 [.code (C_83 28),.code (C_83 29),.code (C_83 15)] ?_
  refine Runs.sR hE ⟨[(0,(encL (cU .u16) 0 l)),(3,.nil),(4,(aI 0))],[],48⟩ (C_83 28) [] [] (kp [0,3,4]) [] 48 [] trivial ?_
  refine Runs.sA 2 [.code (C_83 116),.inLoop (C_83 116),.inBlock 0,.code (C_83 15)] ?_
  exact Runs.sW hE _ [] (kp [0] ++ [(3,.nilos 0)] ++ kp [4]) [(0,.nil 1 (fun zi=>cI (([]:List Int).getD zi 0)))] 1 [] trivial (g_r01_read_L1_ok N l N ([]:List Int) 0 _ h E hE)
noncomputable def C_88 (n:Nat):Code:=cat (bodyOf Tryz.f114) (pth n)
theorem g_r01_digit_ok (N:Nat) (a:List Int) (i:Int) (r:Int) (h:g_r01_digit N a i = some r):Sound Tryz.prog 114 [(encL cI 0 a),(aI i)] [] 0 (aI r) []:=by
  unfold g_r01_digit at h
  refine Sound.of_runs (fu:=Tryz.f114) (c:=C_88 1) (nt:=13) (by kernel_rfl) (by kernel_rfl) (by kernel_rfl) (by kernel_rfl) (fun hm=>rfl) ?_
  intro E hE
  refine Runs.sA 1 [.code (C_88 2),.code (C_88 3)] ?_
  refine Runs.sR hE ⟨[(0,(encL cI 0 a)),(1,(aI i))],[],16⟩ (C_88 2) [] [] (kp [0,1]) [] 16 [] trivial ?_
  refine Runs.sA 2 [.code (C_88 12),.code (C_88 13),.code (C_88 7)] ?_
  refine Runs.sR hE ⟨[(0,(encL cI 0 a)),(1,(aI i)),(8,(aB (decide (i < ((a.length:Nat):Int)))))],[],80⟩ (C_88 12) [] [] (kp [0,1,8]) [] 80 [] trivial ?_
  refine Runs.sC 8 (C_88 26) (C_88 27) (decide (i < ((a.length:Nat):Int))) (fun hq2=>?_) (fun hq2=>?_)
  · have h:=condT h hq2
    refine Runs.sA 1 [.code (C_88 52),.code (C_88 53),.code (C_88 7)] ?_
    obtain ⟨c,h⟩:=ifSome h
    refine Runs.sR hE ⟨[(4,(aI (a.getD ((i).toNat) 0)))],[],160⟩ (C_88 52) [] [] (kp [4]) [] 160 [0≤i∧i < ((a.length:Nat):Int)] ⟨c,trivial⟩ ?_
    obtain rfl:=Option.some.inj h
    refine Runs.sW hE ⟨[(4,(aI (a.getD ((i).toNat) 0)))],[],160⟩ [] (kp [4]) [] 160 [] trivial ?_
    exact Runs.sT Tryz.f114 [] [] trivial
  · have h:=condF h hq2
    refine Runs.sA 2 [.code (C_88 14),.code (C_88 15)] ?_
    refine Runs.sR hE ⟨[(4,(aI 0))],[],96⟩ (C_88 14) [] [] (kp [4]) [] 96 [] trivial ?_
    obtain rfl:=Option.some.inj h
    refine Runs.sW hE ⟨[(4,(aI 0))],[],96⟩ [] (kp [4]) [] 96 [] trivial ?_
    exact Runs.sT Tryz.f114 [] [] trivial
noncomputable def C_87 (n:Nat):Code:=cat (bodyOf Tryz.f98) (pth n)
theorem g_r01_times_L2_ok (N:Nat) (a:List Int) (b:List Int) (i:Int) (K_g_r01_times_L1:(List Int)→Int→Option ((List Int)))
    (hK_g_r01_times_L1:∀ (out:List Int) (i:Int) (r:(List Int)),K_g_r01_times_L1 out i = some r→∀ E,EnvOk E 0→Runs Tryz.prog E 98 61 (SPost E [] (encL cI 0 r)) [.code (C_87 116),.inLoop (C_87 116),.inBlock 0,.code (C_87 15)] ⟨[(0,(encL cI 0 a)),(1,(encL cI 0 b)),(5,(.os 0 0 out.length)),(6,(aI i))],[(0,aO 1 cI 0 out)],1⟩) (fuel:Nat):∀ (out2:List Int) (carry:Int) (k:Int) (r:(List Int)),g_r01_times_L2 N a b i K_g_r01_times_L1 fuel out2 carry k = some r→∀ E,EnvOk E 0→Runs Tryz.prog E 98 61 (SPost E [] (encL cI 0 r)) [.code (C_87 14924),.inLoop (C_87 14924),.inBlock 2,.inBlock 1,.code (C_87 467),.inLoop (C_87 116),.inBlock 0,.code (C_87 15)] ⟨[(0,(encL cI 0 a)),(1,(encL cI 0 b)),(5,(.os 0 0 out2.length)),(6,(aI i)),(7,(aI carry)),(8,(aI k))],[(0,aO 1 cI 0 out2)],1⟩:=by
  induction fuel with
  | zero=>intro _ _ _ r h; rw [g_r01_times_L2.eq_1] at h; cases h
  | succ fuel ih =>
    intro out2 carry k r h E hE
    rw [g_r01_times_L2.eq_2] at h
    refine Runs.sA 2 [.code (C_87 59696),.code (C_87 59697),.code (C_87 29849),.inLoop (C_87 14924),.inBlock 2,.inBlock 1,.code (C_87 467),.inLoop (C_87 116),.inBlock 0,.code (C_87 15)] ?_
    refine Runs.sR hE ⟨[(0,(encL cI 0 a)),(1,(encL cI 0 b)),(5,(.os 0 0 out2.length)),(6,(aI i)),(7,(aI carry)),(8,(aI k)),(30,(aB (cond (decide (k < ((b.length:Nat):Int))) true (decide (carry > 0)))))],[(0,aO 1 cI 0 out2)],129⟩ (C_87 59696) [] [] (kp [0,1,5,6,7,8,30]) (kq [0]) 129 [(!(decide (k < ((b.length:Nat):Int)))) = true→AllP [(!(decide (k < ((b.length:Nat):Int)))) = true],(!(decide (k < ((b.length:Nat):Int)))) = true→AllP [(!(decide (k < ((b.length:Nat):Int)))) = true]] ⟨(fun hg=>⟨hg,trivial⟩),(fun hq=>⟨hq,trivial⟩),trivial⟩ ?_
    refine Runs.sC 30 (C_87 119394) (C_87 119395) (cond (decide (k < ((b.length:Nat):Int))) true (decide (carry > 0))) (fun hq3=>?_) (fun hq3=>?_)
    · have h:=condT h hq3
      refine Runs.sA 4 [.code (C_87 238792),.code (C_87 238793),.inBlock 3,.code (C_87 59699),.inLoop (C_87 14924),.inBlock 2,.inBlock 1,.code (C_87 467),.inLoop (C_87 116),.inBlock 0,.code (C_87 15)] ?_
      obtain ⟨c2,h⟩:=ifSome h
      obtain ⟨c3,h⟩:=ifSome h
      obtain ⟨rdigit,hr,h⟩:=bindSome h
      refine Runs.sR hE ⟨[(0,(encL cI 0 a)),(1,(encL cI 0 b)),(5,(.os 0 0 out2.length)),(6,(aI i)),(8,(aI k)),(9,(aI (w64 ((w64 ((out2.getD ((w64 (i+k)).toNat) 0)+(w64 ((a.getD ((i).toNat) 0) * rdigit))))+carry))))],[(0,aO 1 cI 0 out2)],417⟩ (C_87 238792) [(12,⟨[],true,(aI rdigit),[],0,false,none⟩)] [] (kp [0,1,5,6,8,9]) (kq [0]) 417 [0≤(w64 (i+k))∧(w64 (i+k)) < ((out2.length:Nat):Int),(w64 (i+k)).toNat < out2.length,0≤i∧i < ((a.length:Nat):Int),Sound Tryz.prog 114 [(encL cI 0 b),(aI k)] [] 0 (aI rdigit) []] ⟨c2,(ltOf c2),c3,(g_r01_digit_ok N b k rdigit hr),trivial⟩ ?_
      refine Runs.sA 1 [.code (C_87 477586),.code (C_87 477587),.inBlock 3,.code (C_87 59699),.inLoop (C_87 14924),.inBlock 2,.inBlock 1,.code (C_87 467),.inLoop (C_87 116),.inBlock 0,.code (C_87 15)] ?_
      refine Runs.sR hE ⟨[(0,(encL cI 0 a)),(1,(encL cI 0 b)),(5,(.os 0 0 ((out2.set ((w64 (i+k)).toNat) ((w64 ((w64 ((out2.getD ((w64 (i+k)).toNat) 0)+(w64 ((a.getD ((i).toNat) 0) * rdigit))))+carry)).tmod 65536)).length))),(6,(aI i)),(8,(aI k)),(9,(aI (w64 ((w64 ((out2.getD ((w64 (i+k)).toNat) 0)+(w64 ((a.getD ((i).toNat) 0) * rdigit))))+carry))))],[(0,aO 1 cI 0 (out2.set ((w64 (i+k)).toNat) ((w64 ((w64 ((out2.getD ((w64 (i+k)).toNat) 0)+(w64 ((a.getD ((i).toNat) 0) * rdigit))))+carry)).tmod 65536)))],545⟩ (C_87 477586) [] [] (kp [0,1] ++ [(5,.osl ((out2.set ((w64 (i+k)).toNat) ((w64 ((w64 ((out2.getD ((w64 (i+k)).toNat) 0)+(w64 ((a.getD ((i).toNat) 0) * rdigit))))+carry)).tmod 65536)).length))] ++ kp [6,8,9]) [(0,.arr 0 ((out2.set ((w64 (i+k)).toNat) ((w64 ((w64 ((out2.getD ((w64 (i+k)).toNat) 0)+(w64 ((a.getD ((i).toNat) 0) * rdigit))))+carry)).tmod 65536)).length) (fun zi=>cI ((out2.set ((w64 (i+k)).toNat) ((w64 ((w64 ((out2.getD ((w64 (i+k)).toNat) 0)+(w64 ((a.getD ((i).toNat) 0) * rdigit))))+carry)).tmod 65536)).getD zi 0)))] 545 [(65536:Int) ≠ 0,0≤(w64 (i+k))∧(w64 (i+k)) < ((out2.length:Nat):Int),(w64 (i+k)).toNat < out2.length,out2.length = (out2.set ((w64 (i+k)).toNat) ((w64 ((w64 ((out2.getD ((w64 (i+k)).toNat) 0)+(w64 ((a.getD ((i).toNat) 0) * rdigit))))+carry)).tmod 65536)).length,out2.length = (out2.set ((w64 (i+k)).toNat) ((w64 ((w64 ((out2.getD ((w64 (i+k)).toNat) 0)+(w64 ((a.getD ((i).toNat) 0) * rdigit))))+carry)).tmod 65536)).length,∀ zi,zi < (out2.set ((w64 (i+k)).toNat) ((w64 ((w64 ((out2.getD ((w64 (i+k)).toNat) 0)+(w64 ((a.getD ((i).toNat) 0) * rdigit))))+carry)).tmod 65536)).length→(fun zi=>cI ((out2.set ((w64 (i+k)).toNat) ((w64 ((w64 ((out2.getD ((w64 (i+k)).toNat) 0)+(w64 ((a.getD ((i).toNat) 0) * rdigit))))+carry)).tmod 65536)).getD zi 0)) zi = ((fun zm=>if zm = (w64 (i+k)).toNat then [(aI ((w64 ((w64 ((out2.getD ((w64 (i+k)).toNat) 0)+(w64 ((a.getD ((i).toNat) 0) * rdigit))))+carry)).tmod 65536))] else (fun zi=>cI (out2.getD zi 0)) zm)) zi] ⟨(by decide),c2,(ltOf c2),(len_set_raw rfl),(len_set_raw rfl),(get_set_raw cI 0 out2 ((w64 (i+k)).toNat) ((w64 ((w64 ((out2.getD ((w64 (i+k)).toNat) 0)+(w64 ((a.getD ((i).toNat) 0) * rdigit))))+carry)).tmod 65536) (fun _ _=>rfl)),trivial⟩ ?_
      refine Runs.sR hE ⟨[(0,(encL cI 0 a)),(1,(encL cI 0 b)),(5,(.os 0 0 ((out2.set ((w64 (i+k)).toNat) ((w64 ((w64 ((out2.getD ((w64 (i+k)).toNat) 0)+(w64 ((a.getD ((i).toNat) 0) * rdigit))))+carry)).tmod 65536)).length))),(6,(aI i)),(7,(aI (w64 ((w64 ((w64 ((out2.getD ((w64 (i+k)).toNat) 0)+(w64 ((a.getD ((i).toNat) 0) * rdigit))))+carry)).tdiv 65536)))),(8,(aI k))],[(0,aO 1 cI 0 (out2.set ((w64 (i+k)).toNat) ((w64 ((w64 ((out2.getD ((w64 (i+k)).toNat) 0)+(w64 ((a.getD ((i).toNat) 0) * rdigit))))+carry)).tmod 65536)))],593⟩ (C_87 477587) [] [] (kp [0,1,5,6,7,8]) (kq [0]) 593 [(65536:Int) ≠ 0] ⟨(by decide),trivial⟩ ?_
      refine Runs.sA 1 [.code (C_87 59699),.inLoop (C_87 14924),.inBlock 2,.inBlock 1,.code (C_87 467),.inLoop (C_87 116),.inBlock 0,.code (C_87 15)] ?_
      refine Runs.sR hE ⟨[(0,(encL cI 0 a)),(1,(encL cI 0 b)),(5,(.os 0 0 ((out2.set ((w64 (i+k)).toNat) ((w64 ((w64 ((out2.getD ((w64 (i+k)).toNat) 0)+(w64 ((a.getD ((i).toNat) 0) * rdigit))))+carry)).tmod 65536)).length))),(6,(aI i)),(7,(aI (w64 ((w64 ((w64 ((out2.getD ((w64 (i+k)).toNat) 0)+(w64 ((a.getD ((i).toNat) 0) * rdigit))))+carry)).tdiv 65536)))),(8,(aI (w64 (k+1))))],[(0,aO 1 cI 0 (out2.set ((w64 (i+k)).toNat) ((w64 ((w64 ((out2.getD ((w64 (i+k)).toNat) 0)+(w64 ((a.getD ((i).toNat) 0) * rdigit))))+carry)).tmod 65536)))],641⟩ (C_87 59699) [] [] (kp [0,1,5,6,7,8]) (kq [0]) 641 [] trivial ?_
      refine Runs.sA 1 [.code (C_87 14924),.inLoop (C_87 14924),.inBlock 2,.inBlock 1,.code (C_87 467),.inLoop (C_87 116),.inBlock 0,.code (C_87 15)] ?_
      exact Runs.sW hE _ [] (kp [0,1,5,6,7,8]) (kq [0]) 1 [] trivial (ih (out2.set ((w64 (i+k)).toNat) ((w64 ((w64 ((out2.getD ((w64 (i+k)).toNat) 0)+(w64 ((a.getD ((i).toNat) 0) * rdigit))))+carry)).tmod 65536)) (w64 ((w64 ((w64 ((out2.getD ((w64 (i+k)).toNat) 0)+(w64 ((a.getD ((i).toNat) 0) * rdigit))))+carry)).tdiv 65536)) (w64 (k+1)) _ h E hE)
    · have h:=condF h hq3
      refine Runs.sA 2 [.code (C_87 467),.inLoop (C_87 116),.inBlock 0,.code (C_87 15)] ?_
      refine Runs.sR hE ⟨[(0,(encL cI 0 a)),(1,(encL cI 0 b)),(5,(.os 0 0 out2.length)),(6,(aI (w64 (i+1))))],[(0,aO 1 cI 0 out2)],177⟩ (C_87 467) [] [] (kp [0,1,5,6]) (kq [0]) 177 [] trivial ?_
      refine Runs.sA 1 [.code (C_87 116),.inLoop (C_87 116),.inBlock 0,.code (C_87 15)] ?_
      exact Runs.sW hE _ [] (kp [0,1,5,6]) (kq [0]) 1 [] trivial (hK_g_r01_times_L1 out2 (w64 (i+1)) _ h E hE)
theorem g_r01_times_L1_ok (N:Nat) (a:List Int) (b:List Int) (fuel:Nat):∀ (out:List Int) (i:Int) (r:(List Int)),g_r01_times_L1 N a b fuel out i = some r→∀ E,EnvOk E 0→Runs Tryz.prog E 98 61 (SPost E [] (encL cI 0 r)) [.code (C_87 116),.inLoop (C_87 116),.inBlock 0,.code (C_87 15)] ⟨[(0,(encL cI 0 a)),(1,(encL cI 0 b)),(5,(.os 0 0 out.length)),(6,(aI i))],[(0,aO 1 cI 0 out)],1⟩:=by
  induction fuel with
  | zero=>intro _ _ r h; rw [g_r01_times_L1.eq_1] at h; cases h
  | succ fuel ih =>
    intro out i r h E hE
    rw [g_r01_times_L1.eq_2] at h
    refine Runs.sA 2 [.code (C_87 464),.code (C_87 465),.code (C_87 233),.inLoop (C_87 116),.inBlock 0,.code (C_87 15)] ?_
    refine Runs.sR hE ⟨[(0,(encL cI 0 a)),(1,(encL cI 0 b)),(5,(.os 0 0 out.length)),(6,(aI i)),(20,(aB (decide (i < ((a.length:Nat):Int)))))],[(0,aO 1 cI 0 out)],65⟩ (C_87 464) [] [] (kp [0,1,5,6,20]) (kq [0]) 65 [] trivial ?_
    refine Runs.sC 20 (C_87 930) (C_87 931) (decide (i < ((a.length:Nat):Int))) (fun hq2=>?_) (fun hq2=>?_)
    · have h:=condT h hq2
      refine Runs.sA 4 [.code (C_87 1864),.code (C_87 1865),.inBlock 1,.code (C_87 467),.inLoop (C_87 116),.inBlock 0,.code (C_87 15)] ?_
      refine Runs.sR hE ⟨[(0,(encL cI 0 a)),(1,(encL cI 0 b)),(5,(.os 0 0 out.length)),(6,(aI i)),(7,(aI 0))],[(0,aO 1 cI 0 out)],81⟩ (C_87 1864) [] [] (kp [0,1,5,6,7]) (kq [0]) 81 [] trivial ?_
      refine Runs.sA 1 [.code (C_87 3730),.code (C_87 3731),.inBlock 1,.code (C_87 467),.inLoop (C_87 116),.inBlock 0,.code (C_87 15)] ?_
      refine Runs.sR hE ⟨[(0,(encL cI 0 a)),(1,(encL cI 0 b)),(5,(.os 0 0 out.length)),(6,(aI i)),(7,(aI 0)),(8,(aI 0))],[(0,aO 1 cI 0 out)],97⟩ (C_87 3730) [] [] (kp [0,1,5,6,7,8]) (kq [0]) 97 [] trivial ?_
      refine Runs.sA 2 [.code (C_87 14924),.inLoop (C_87 14924),.inBlock 2,.inBlock 1,.code (C_87 467),.inLoop (C_87 116),.inBlock 0,.code (C_87 15)] ?_
      exact Runs.sW hE _ [] (kp [0,1,5,6,7,8]) (kq [0]) 1 [] trivial (g_r01_times_L2_ok N a b i (g_r01_times_L1 N a b fuel) ih N out 0 0 _ h E hE)
    · have h:=condF h hq2
      refine Runs.sA 2 [.code (C_87 30),.code (C_87 31)] ?_
      obtain ⟨rtrim,hr2,h⟩:=bindSome h
      refine Runs.sR hE ⟨[(4,(encL cI 0 rtrim))],[],113⟩ (C_87 30) [(1,⟨[],true,(encL cI 0 rtrim),[],0,true,none⟩)] [] (kp [4]) [] 113 [Sound Tryz.prog 113 [(encL cI 0 out)] [] 0 (encL cI 0 rtrim) [],0+out.length≤out.length] ⟨(g_r01_trim_ok N out rtrim hr2),z0,trivial⟩ ?_
      obtain rfl:=Option.some.inj h
      refine Runs.sW hE ⟨[(4,(encL cI 0 rtrim))],[],113⟩ [] (kp [4]) [] 113 [] trivial ?_
      exact Runs.sT Tryz.f98 [] [] trivial
theorem g_r01_times_ok (N:Nat) (a:List Int) (b:List Int) (r:(List Int)) (h:g_r01_times N a b = some r):Sound Tryz.prog 98 [(encL cI 0 a),(encL cI 0 b)] [] 0 (encL cI 0 r) []:=by
  unfold g_r01_times at h
  refine Sound.of_runs (fu:=Tryz.f98) (c:=C_87 1) (nt:=61) (by kernel_rfl) (by kernel_rfl) (by kernel_rfl) (by kernel_rfl) (fun hm=>rfl) ?_
  intro E hE
  refine Runs.sA 1 [.code (C_87 2),.code (C_87 3)] ?_
  refine Runs.sR hE ⟨[(0,(encL cI 0 a)),(1,(encL cI 0 b))],[],16⟩ (C_87 2) [] [] (kp [0,1]) [] 16 [] trivial ?_
  refine Runs.sA 1 [.code (C_87 6),.code (C_87 7)] ?_
  obtain ⟨c,h⟩:=ifSome h
  refine Runs.sR hE ⟨[(0,(encL cI 0 a)),(1,(encL cI 0 b)),(5,(.os 112 0 ((List.replicate ((w64 ((w64 (((a.length:Nat):Int)+((b.length:Nat):Int)))+1)).toNat) 0:List Int).length)))],[(112,aO 1 cI 0 (List.replicate ((w64 ((w64 (((a.length:Nat):Int)+((b.length:Nat):Int)))+1)).toNat) 0:List Int))],144⟩ (C_87 6) [] [] (kp [0,1] ++ [(5,.osl ((List.replicate ((w64 ((w64 (((a.length:Nat):Int)+((b.length:Nat):Int)))+1)).toNat) 0:List Int).length))]) [(112,.arr 112 ((List.replicate ((w64 ((w64 (((a.length:Nat):Int)+((b.length:Nat):Int)))+1)).toNat) 0:List Int).length) (fun zi=>cI ((List.replicate ((w64 ((w64 (((a.length:Nat):Int)+((b.length:Nat):Int)))+1)).toNat) 0:List Int).getD zi 0)))] 144 [0≤(w64 ((w64 (((a.length:Nat):Int)+((b.length:Nat):Int)))+1)),(w64 ((w64 (((a.length:Nat):Int)+((b.length:Nat):Int)))+1))≤(w64 ((w64 (((a.length:Nat):Int)+((b.length:Nat):Int)))+1)),(8:Int) * (w64 ((w64 (((a.length:Nat):Int)+((b.length:Nat):Int)))+1))≤281474976710656,(w64 ((w64 (((a.length:Nat):Int)+((b.length:Nat):Int)))+1))≤9223372036854775807,(w64 ((w64 (((a.length:Nat):Int)+((b.length:Nat):Int)))+1)).toNat = (List.replicate ((w64 ((w64 (((a.length:Nat):Int)+((b.length:Nat):Int)))+1)).toNat) 0:List Int).length,(w64 ((w64 (((a.length:Nat):Int)+((b.length:Nat):Int)))+1)).toNat = (List.replicate ((w64 ((w64 (((a.length:Nat):Int)+((b.length:Nat):Int)))+1)).toNat) 0:List Int).length,∀ zi,zi < (List.replicate ((w64 ((w64 (((a.length:Nat):Int)+((b.length:Nat):Int)))+1)).toNat) 0:List Int).length→(fun zi=>cI ((List.replicate ((w64 ((w64 (((a.length:Nat):Int)+((b.length:Nat):Int)))+1)).toNat) 0:List Int).getD zi 0)) zi = (fun _=>[(aI 0)]) zi] ⟨c.1,(Int.le_refl _),c.2.1,c.2.2,(List.length_replicate).symm,(List.length_replicate).symm,(fun zq hzq=>get_rep cI 0 0 ((w64 ((w64 (((a.length:Nat):Int)+((b.length:Nat):Int)))+1)).toNat) zq hzq),trivial⟩ ?_
  refine Runs.sA 2 [.code (C_87 28),.code (C_87 29),.code (C_87 15)] ?_
  refine Runs.sR hE ⟨[(0,(encL cI 0 a)),(1,(encL cI 0 b)),(5,(.os 112 0 ((List.replicate ((w64 ((w64 (((a.length:Nat):Int)+((b.length:Nat):Int)))+1)).toNat) 0:List Int).length))),(6,(aI 0))],[(112,aO 1 cI 0 (List.replicate ((w64 ((w64 (((a.length:Nat):Int)+((b.length:Nat):Int)))+1)).toNat) 0:List Int))],160⟩ (C_87 28) [] [] (kp [0,1,5,6]) (kq [112]) 160 [] trivial ?_
  refine Runs.sA 2 [.code (C_87 116),.inLoop (C_87 116),.inBlock 0,.code (C_87 15)] ?_
  exact Runs.sW hE _ [] (kp [0,1,5,6]) [(0,.keep 112)] 1 [] trivial (g_r01_times_L1_ok N a b N (List.replicate ((w64 ((w64 (((a.length:Nat):Int)+((b.length:Nat):Int)))+1)).toNat) 0:List Int) 0 _ h E hE)
noncomputable def C_89 (n:Nat):Code:=cat (bodyOf Tryz.f96) (pth n)
theorem g_r01_compare_L1_ok (N:Nat) (a:List Int) (b:List Int) (fuel:Nat):∀ (i:Int) (r:Int),g_r01_compare_L1 N a b fuel i = some r→∀ E,EnvOk E 0→Runs Tryz.prog E 96 41 (SPost E [] (aI r)) [.code (C_89 116),.inLoop (C_89 116),.inBlock 0,.code (C_89 15)] ⟨[(0,(encL cI 0 a)),(1,(encL cI 0 b)),(5,(aI i))],[],0⟩:=by
  induction fuel with
  | zero=>intro _ r h; rw [g_r01_compare_L1.eq_1] at h; cases h
  | succ fuel ih =>
    intro i r h E hE
    rw [g_r01_compare_L1.eq_2] at h
    refine Runs.sA 2 [.code (C_89 464),.code (C_89 465),.code (C_89 233),.inLoop (C_89 116),.inBlock 0,.code (C_89 15)] ?_
    refine Runs.sR hE ⟨[(0,(encL cI 0 a)),(1,(encL cI 0 b)),(5,(aI i)),(20,(aB (decide (i ≥ 0))))],[],32⟩ (C_89 464) [] [] (kp [0,1,5,20]) [] 32 [] trivial ?_
    refine Runs.sC 20 (C_89 930) (C_89 931) (decide (i ≥ 0)) (fun hq3=>?_) (fun hq3=>?_)
    · have h:=condT h hq3
      refine Runs.sA 4 [.code (C_89 1864),.code (C_89 1865),.inBlock 1,.code (C_89 467),.inLoop (C_89 116),.inBlock 0,.code (C_89 15)] ?_
      obtain ⟨c,h⟩:=ifSome h
      obtain ⟨c2,h⟩:=ifSome h
      refine Runs.sR hE ⟨[(0,(encL cI 0 a)),(1,(encL cI 0 b)),(5,(aI i)),(31,(aB ((a.getD ((i).toNat) 0) != (b.getD ((i).toNat) 0))))],[],176⟩ (C_89 1864) [] [] (kp [0,1,5,31]) [] 176 [0≤i∧i < ((a.length:Nat):Int),0≤i∧i < ((b.length:Nat):Int)] ⟨c,c2,trivial⟩ ?_
      refine Runs.sC 31 (C_89 3730) (C_89 3731) ((a.getD ((i).toNat) 0) != (b.getD ((i).toNat) 0)) (fun hq4=>?_) (fun hq4=>?_)
      · have h:=condT h hq4
        refine Runs.sA 1 [.code (C_89 7460),.code (C_89 7461),.inBlock 1,.code (C_89 467),.inLoop (C_89 116),.inBlock 0,.code (C_89 15)] ?_
        refine Runs.sR hE ⟨[(4,(aI (w64 ((a.getD ((i).toNat) 0) - (b.getD ((i).toNat) 0)))))],[],336⟩ (C_89 7460) [] [] (kp [4]) [] 336 [0≤i∧i < ((a.length:Nat):Int),0≤i∧i < ((b.length:Nat):Int)] ⟨c,c2,trivial⟩ ?_
        obtain rfl:=Option.some.inj h
        refine Runs.sW hE ⟨[(4,(aI (w64 ((a.getD ((i).toNat) 0) - (b.getD ((i).toNat) 0)))))],[],336⟩ [] (kp [4]) [] 336 [] trivial ?_
        exact Runs.sT Tryz.f96 [] [] trivial
      · have h:=condF h hq4
        refine Runs.sA 2 [.code (C_89 467),.inLoop (C_89 116),.inBlock 0,.code (C_89 15)] ?_
        refine Runs.sR hE ⟨[(0,(encL cI 0 a)),(1,(encL cI 0 b)),(5,(aI (w64 (i - 1))))],[],224⟩ (C_89 467) [] [] (kp [0,1,5]) [] 224 [] trivial ?_
        refine Runs.sA 1 [.code (C_89 116),.inLoop (C_89 116),.inBlock 0,.code (C_89 15)] ?_
        exact Runs.sW hE _ [] (kp [0,1,5]) [] 0 [] trivial (ih (w64 (i - 1)) _ h E hE)
    · have h:=condF h hq3
      refine Runs.sA 2 [.code (C_89 30),.code (C_89 31)] ?_
      refine Runs.sR hE ⟨[(4,(aI 0))],[],48⟩ (C_89 30) [] [] (kp [4]) [] 48 [] trivial ?_
      obtain rfl:=Option.some.inj h
      refine Runs.sW hE ⟨[(4,(aI 0))],[],48⟩ [] (kp [4]) [] 48 [] trivial ?_
      exact Runs.sT Tryz.f96 [] [] trivial
theorem g_r01_compare_ok (N:Nat) (a:List Int) (b:List Int) (r:Int) (h:g_r01_compare N a b = some r):Sound Tryz.prog 96 [(encL cI 0 a),(encL cI 0 b)] [] 0 (aI r) []:=by
  unfold g_r01_compare at h
  refine Sound.of_runs (fu:=Tryz.f96) (c:=C_89 1) (nt:=41) (by kernel_rfl) (by kernel_rfl) (by kernel_rfl) (by kernel_rfl) (fun hm=>rfl) ?_
  intro E hE
  refine Runs.sA 1 [.code (C_89 2),.code (C_89 3)] ?_
  refine Runs.sR hE ⟨[(0,(encL cI 0 a)),(1,(encL cI 0 b))],[],16⟩ (C_89 2) [] [] (kp [0,1]) [] 16 [] trivial ?_
  refine Runs.sA 2 [.code (C_89 12),.code (C_89 13),.code (C_89 7)] ?_
  refine Runs.sR hE ⟨[(0,(encL cI 0 a)),(1,(encL cI 0 b)),(10,(aB (((a.length:Nat):Int) != ((b.length:Nat):Int))))],[],96⟩ (C_89 12) [] [] (kp [0,1,10]) [] 96 [] trivial ?_
  refine Runs.sC 10 (C_89 26) (C_89 27) (((a.length:Nat):Int) != ((b.length:Nat):Int)) (fun hq2=>?_) (fun hq2=>?_)
  · have h:=condT h hq2
    refine Runs.sA 1 [.code (C_89 52),.code (C_89 53),.code (C_89 7)] ?_
    refine Runs.sR hE ⟨[(4,(aI (w64 (((a.length:Nat):Int) - ((b.length:Nat):Int)))))],[],192⟩ (C_89 52) [] [] (kp [4]) [] 192 [] trivial ?_
    obtain rfl:=Option.some.inj h
    refine Runs.sW hE ⟨[(4,(aI (w64 (((a.length:Nat):Int) - ((b.length:Nat):Int)))))],[],192⟩ [] (kp [4]) [] 192 [] trivial ?_
    exact Runs.sT Tryz.f96 [] [] trivial
  · have h:=condF h hq2
    refine Runs.sA 3 [.code (C_89 28),.code (C_89 29),.code (C_89 15)] ?_
    refine Runs.sR hE ⟨[(0,(encL cI 0 a)),(1,(encL cI 0 b)),(5,(aI (w64 (((a.length:Nat):Int) - 1))))],[],160⟩ (C_89 28) [] [] (kp [0,1,5]) [] 160 [] trivial ?_
    refine Runs.sA 2 [.code (C_89 116),.inLoop (C_89 116),.inBlock 0,.code (C_89 15)] ?_
    exact Runs.sW hE _ [] (kp [0,1,5]) [] 0 [] trivial (g_r01_compare_L1_ok N a b N (w64 (((a.length:Nat):Int) - 1)) _ h E hE)
noncomputable def C_90 (n:Nat):Code:=cat (bodyOf Tryz.f97) (pth n)
theorem g_r01_minus_J2_ok (N:Nat) (a:List Int) (b:List Int) (out:List Int) (i:Int) (K_g_r01_minus_L1:(List Int)→Int→Int→Option ((List Int)))
    (hK_g_r01_minus_L1:∀ (out:List Int) (borrow:Int) (i:Int) (r:(List Int)),K_g_r01_minus_L1 out borrow i = some r→∀ E,EnvOk E 0→Runs Tryz.prog E 97 35 (SPost E [] (encL cI 0 r)) [.code (C_90 244),.inLoop (C_90 244),.inBlock 0,.code (C_90 31)] ⟨[(0,(encL cI 0 a)),(1,(encL cI 0 b)),(5,(.os 0 0 out.length)),(6,(aI borrow)),(7,(aI i))],[(0,aO 1 cI 0 out)],1⟩) (borrow2:Int) (s:Int) (r:(List Int)) (h:g_r01_minus_J2 N a b out i K_g_r01_minus_L1 borrow2 s = some r):∀ E,EnvOk E 0→Runs Tryz.prog E 97 35 (SPost E [] (encL cI 0 r)) [.code (C_90 15655),.inBlock 1,.code (C_90 979),.inLoop (C_90 244),.inBlock 0,.code (C_90 31)] ⟨[(0,(encL cI 0 a)),(1,(encL cI 0 b)),(5,(.os 0 0 out.length)),(6,(aI borrow2)),(7,(aI i)),(8,(aI s))],[(0,aO 1 cI 0 out)],1⟩:=by
  intro E hE
  unfold g_r01_minus_J2 at h
  obtain ⟨c2,h⟩:=ifSome h
  refine Runs.sR hE ⟨[(0,(encL cI 0 a)),(1,(encL cI 0 b)),(5,(.os 49 0 ((out ++ ([s]:List Int)).length))),(6,(aI borrow2)),(7,(aI i))],[(49,aO 1 cI 0 (out ++ ([s]:List Int)))],81⟩ (C_90 15655) [] [] (kp [0,1] ++ [(5,.osl ((out ++ ([s]:List Int)).length))] ++ kp [6,7]) [(49,.arr 49 ((out ++ ([s]:List Int)).length) (fun zi=>cI ((out ++ ([s]:List Int)).getD zi 0)))] 81 [out.length = out.length,(out.length+1) * 8≤140737488355328,0+1≤1,∀ zi,zi < 1→AV.oneL ((fun zi=>([[(aI s)]]:List (List AV)).getD zi []) (addz 0 zi)) = true,(out.length+1) = (out ++ ([s]:List Int)).length,out.length+1 = (out ++ ([s]:List Int)).length,∀ zi,zi < (out ++ ([s]:List Int)).length→(fun zi=>cI ((out ++ ([s]:List Int)).getD zi 0)) zi = ((fun zm=>if zm < out.length then (fun zi=>cI (out.getD zi 0)) zm else (fun zi=>([[(aI s)]]:List (List AV)).getD zi []) (zm - out.length))) zi] ⟨rfl,c2,z0,(oneN rfl),(len_app_raw rfl rfl),(len_app_raw rfl rfl),(get_app_raw cI 0 out ([s]:List Int) rfl (fun _ _=>rfl) (fun zq hzq=>get_chunk cI 0 ([s]:List Int) zq hzq)),trivial⟩ ?_
  refine Runs.sA 1 [.code (C_90 979),.inLoop (C_90 244),.inBlock 0,.code (C_90 31)] ?_
  refine Runs.sR hE ⟨[(0,(encL cI 0 a)),(1,(encL cI 0 b)),(5,(.os 49 0 ((out ++ ([s]:List Int)).length))),(6,(aI borrow2)),(7,(aI (w64 (i+1))))],[(49,aO 1 cI 0 (out ++ ([s]:List Int)))],129⟩ (C_90 979) [] [] (kp [0,1,5,6,7]) (kq [49]) 129 [] trivial ?_
  refine Runs.sA 1 [.code (C_90 244),.inLoop (C_90 244),.inBlock 0,.code (C_90 31)] ?_
  exact Runs.sW hE _ [] (kp [0,1,5,6,7]) [(0,.keep 49)] 1 [] trivial (hK_g_r01_minus_L1 (out ++ ([s]:List Int)) borrow2 (w64 (i+1)) _ h E hE)
theorem g_r01_minus_L1_ok (N:Nat) (a:List Int) (b:List Int) (fuel:Nat):∀ (out:List Int) (borrow:Int) (i:Int) (r:(List Int)),g_r01_minus_L1 N a b fuel out borrow i = some r→∀ E,EnvOk E 0→Runs Tryz.prog E 97 35 (SPost E [] (encL cI 0 r)) [.code (C_90 244),.inLoop (C_90 244),.inBlock 0,.code (C_90 31)] ⟨[(0,(encL cI 0 a)),(1,(encL cI 0 b)),(5,(.os 0 0 out.length)),(6,(aI borrow)),(7,(aI i))],[(0,aO 1 cI 0 out)],1⟩:=by
  induction fuel with
  | zero=>intro _ _ _ r h; rw [g_r01_minus_L1.eq_1] at h; cases h
  | succ fuel ih =>
    intro out borrow i r h E hE
    rw [g_r01_minus_L1.eq_2] at h
    refine Runs.sA 2 [.code (C_90 976),.code (C_90 977),.code (C_90 489),.inLoop (C_90 244),.inBlock 0,.code (C_90 31)] ?_
    refine Runs.sR hE ⟨[(0,(encL cI 0 a)),(1,(encL cI 0 b)),(5,(.os 0 0 out.length)),(6,(aI borrow)),(7,(aI i)),(12,(aB (decide (i < ((a.length:Nat):Int)))))],[(0,aO 1 cI 0 out)],65⟩ (C_90 976) [] [] (kp [0,1,5,6,7,12]) (kq [0]) 65 [] trivial ?_
    refine Runs.sC 12 (C_90 1954) (C_90 1955) (decide (i < ((a.length:Nat):Int))) (fun hq2=>?_) (fun hq2=>?_)
    · have h:=condT h hq2
      refine Runs.sA 4 [.code (C_90 3912),.code (C_90 3913),.inBlock 1,.code (C_90 979),.inLoop (C_90 244),.inBlock 0,.code (C_90 31)] ?_
      obtain ⟨c,h⟩:=ifSome h
      obtain ⟨rdigit,hr,h⟩:=bindSome h
      refine Runs.sR hE ⟨[(0,(encL cI 0 a)),(1,(encL cI 0 b)),(5,(.os 0 0 out.length)),(7,(aI i)),(8,(aI (w64 ((w64 ((a.getD ((i).toNat) 0) - rdigit)) - borrow))))],[(0,aO 1 cI 0 out)],241⟩ (C_90 3912) [(6,⟨[],true,(aI rdigit),[],0,false,none⟩)] [] (kp [0,1,5,7,8]) (kq [0]) 241 [0≤i∧i < ((a.length:Nat):Int),Sound Tryz.prog 114 [(encL cI 0 b),(aI i)] [] 0 (aI rdigit) []] ⟨c,(g_r01_digit_ok N b i rdigit hr),trivial⟩ ?_
      refine Runs.sA 1 [.code (C_90 7826),.code (C_90 7827),.inBlock 1,.code (C_90 979),.inLoop (C_90 244),.inBlock 0,.code (C_90 31)] ?_
      refine Runs.sR hE ⟨[(0,(encL cI 0 a)),(1,(encL cI 0 b)),(5,(.os 0 0 out.length)),(6,(aI 0)),(7,(aI i)),(8,(aI (w64 ((w64 ((a.getD ((i).toNat) 0) - rdigit)) - borrow))))],[(0,aO 1 cI 0 out)],257⟩ (C_90 7826) [] [] (kp [0,1,5,6,7,8]) (kq [0]) 257 [] trivial ?_
      refine Runs.sA 2 [.code (C_90 31308),.code (C_90 31309),.code (C_90 15655),.inBlock 1,.code (C_90 979),.inLoop (C_90 244),.inBlock 0,.code (C_90 31)] ?_
      refine Runs.sR hE ⟨[(0,(encL cI 0 a)),(1,(encL cI 0 b)),(5,(.os 0 0 out.length)),(6,(aI 0)),(7,(aI i)),(8,(aI (w64 ((w64 ((a.getD ((i).toNat) 0) - rdigit)) - borrow)))),(26,(aB (decide ((w64 ((w64 ((a.getD ((i).toNat) 0) - rdigit)) - borrow)) < 0))))],[(0,aO 1 cI 0 out)],289⟩ (C_90 31308) [] [] (kp [0,1,5,6,7,8,26]) (kq [0]) 289 [] trivial ?_
      refine Runs.sC 26 (C_90 62618) (C_90 62619) (decide ((w64 ((w64 ((a.getD ((i).toNat) 0) - rdigit)) - borrow)) < 0)) (fun hq3=>?_) (fun hq3=>?_)
      · have h:=condT h hq3
        refine Runs.sA 1 [.code (C_90 125236),.code (C_90 125237),.code (C_90 15655),.inBlock 1,.code (C_90 979),.inLoop (C_90 244),.inBlock 0,.code (C_90 31)] ?_
        refine Runs.sR hE ⟨[(0,(encL cI 0 a)),(1,(encL cI 0 b)),(5,(.os 0 0 out.length)),(7,(aI i)),(8,(aI (w64 ((w64 ((w64 ((a.getD ((i).toNat) 0) - rdigit)) - borrow))+65536))))],[(0,aO 1 cI 0 out)],337⟩ (C_90 125236) [] [] (kp [0,1,5,7,8]) (kq [0]) 337 [] trivial ?_
        refine Runs.sR hE ⟨[(0,(encL cI 0 a)),(1,(encL cI 0 b)),(5,(.os 0 0 out.length)),(6,(aI 1)),(7,(aI i)),(8,(aI (w64 ((w64 ((w64 ((a.getD ((i).toNat) 0) - rdigit)) - borrow))+65536))))],[(0,aO 1 cI 0 out)],353⟩ (C_90 125237) [] [] (kp [0,1,5,6,7,8]) (kq [0]) 353 [] trivial ?_
        exact Runs.sW hE _ [] (kp [0,1,5,6,7,8]) (kq [0]) 1 [] trivial (g_r01_minus_J2_ok N a b out i (g_r01_minus_L1 N a b fuel) ih 1 (w64 ((w64 ((w64 ((a.getD ((i).toNat) 0) - rdigit)) - borrow))+65536)) _ h E hE)
      · have h:=condF h hq3
        refine Runs.sA 1 [.code (C_90 15655),.inBlock 1,.code (C_90 979),.inLoop (C_90 244),.inBlock 0,.code (C_90 31)] ?_
        exact Runs.sW hE _ [] (kp [0,1,5,6,7,8]) (kq [0]) 1 [] trivial (g_r01_minus_J2_ok N a b out i (g_r01_minus_L1 N a b fuel) ih 0 (w64 ((w64 ((a.getD ((i).toNat) 0) - rdigit)) - borrow)) _ h E hE)
    · have h:=condF h hq2
      refine Runs.sA 2 [.code (C_90 62),.code (C_90 63)] ?_
      obtain ⟨rtrim,hr2,h⟩:=bindSome h
      refine Runs.sR hE ⟨[(4,(encL cI 0 rtrim))],[],113⟩ (C_90 62) [(1,⟨[],true,(encL cI 0 rtrim),[],0,true,none⟩)] [] (kp [4]) [] 113 [Sound Tryz.prog 113 [(encL cI 0 out)] [] 0 (encL cI 0 rtrim) [],0+out.length≤out.length] ⟨(g_r01_trim_ok N out rtrim hr2),z0,trivial⟩ ?_
      obtain rfl:=Option.some.inj h
      refine Runs.sW hE ⟨[(4,(encL cI 0 rtrim))],[],113⟩ [] (kp [4]) [] 113 [] trivial ?_
      exact Runs.sT Tryz.f97 [] [] trivial
theorem g_r01_minus_ok (N:Nat) (a:List Int) (b:List Int) (r:(List Int)) (h:g_r01_minus N a b = some r):Sound Tryz.prog 97 [(encL cI 0 a),(encL cI 0 b)] [] 0 (encL cI 0 r) []:=by
  unfold g_r01_minus at h
  refine Sound.of_runs (fu:=Tryz.f97) (c:=C_90 1) (nt:=35) (by kernel_rfl) (by kernel_rfl) (by kernel_rfl) (by kernel_rfl) (fun hm=>rfl) ?_
  intro E hE
  refine Runs.sA 1 [.code (C_90 2),.code (C_90 3)] ?_
  refine Runs.sR hE ⟨[(0,(encL cI 0 a)),(1,(encL cI 0 b))],[],16⟩ (C_90 2) [] [] (kp [0,1]) [] 16 [] trivial ?_
  refine Runs.sA 1 [.code (C_90 6),.code (C_90 7)] ?_
  refine Runs.sR hE ⟨[(0,(encL cI 0 a)),(1,(encL cI 0 b)),(5,.nil)],[],32⟩ (C_90 6) [] [] (kp [0,1,5]) [] 32 [] trivial ?_
  refine Runs.sA 1 [.code (C_90 14),.code (C_90 15)] ?_
  refine Runs.sR hE ⟨[(0,(encL cI 0 a)),(1,(encL cI 0 b)),(5,.nil),(6,(aI 0))],[],48⟩ (C_90 14) [] [] (kp [0,1,5,6]) [] 48 [] trivial ?_
  refine Runs.sA 2 [.code (C_90 60),.code (C_90 61),.code (C_90 31)] ?_
  refine Runs.sR hE ⟨[(0,(encL cI 0 a)),(1,(encL cI 0 b)),(5,.nil),(6,(aI 0)),(7,(aI 0))],[],64⟩ (C_90 60) [] [] (kp [0,1,5,6,7]) [] 64 [] trivial ?_
  refine Runs.sA 2 [.code (C_90 244),.inLoop (C_90 244),.inBlock 0,.code (C_90 31)] ?_
  exact Runs.sW hE _ [] (kp [0,1] ++ [(5,.nilos 0)] ++ kp [6,7]) [(0,.nil 1 (fun zi=>cI (([]:List Int).getD zi 0)))] 1 [] trivial (g_r01_minus_L1_ok N a b N ([]:List Int) 0 0 _ h E hE)
noncomputable def C_86 (n:Nat):Code:=cat (bodyOf Tryz.f94) (pth n)
theorem g_r01_over_J3_ok (N:Nat) (a:List Int) (b:List Int) (q:List Int) (i:Int) (lo:Int) (K_g_r01_over_L1:(List Int)→(List Int)→Int→Option ((List Int) × (List Int)))
    (hK_g_r01_over_L1:∀ (rest:List Int) (q:List Int) (i:Int) (r:(List Int) × (List Int)),K_g_r01_over_L1 rest q i = some r→∀ E,EnvOk E 0→Runs Tryz.prog E 94 63 (SPost E [] (.tup [(encL cI 0 r.1),(encL cI 0 r.2)])) [.code (C_86 244),.inLoop (C_86 244),.inBlock 0,.code (C_86 31)] ⟨[(0,(encL cI 0 a)),(1,(encL cI 0 b)),(6,(encL cI 0 rest)),(7,(.os 0 0 q.length)),(8,(aI i))],[(0,aO 1 cI 0 q)],1⟩) (rest2:List Int) (r:(List Int) × (List Int)) (h:g_r01_over_J3 N a b q i lo K_g_r01_over_L1 rest2 = some r):∀ E,EnvOk E 0→Runs Tryz.prog E 94 63 (SPost E [] (.tup [(encL cI 0 r.1),(encL cI 0 r.2)])) [.code (C_86 979),.inLoop (C_86 244),.inBlock 0,.code (C_86 31)] ⟨[(0,(encL cI 0 a)),(1,(encL cI 0 b)),(6,(encL cI 0 rest2)),(7,(.os 0 0 ((q.set ((i).toNat) lo).length))),(8,(aI i))],[(0,aO 1 cI 0 (q.set ((i).toNat) lo))],1⟩:=by
  intro E hE
  unfold g_r01_over_J3 at h
  refine Runs.sR hE ⟨[(0,(encL cI 0 a)),(1,(encL cI 0 b)),(6,(encL cI 0 rest2)),(7,(.os 0 0 ((q.set ((i).toNat) lo).length))),(8,(aI (w64 (i - 1))))],[(0,aO 1 cI 0 (q.set ((i).toNat) lo))],49⟩ (C_86 979) [] [] (kp [0,1,6,7,8]) (kq [0]) 49 [] trivial ?_
  refine Runs.sA 1 [.code (C_86 244),.inLoop (C_86 244),.inBlock 0,.code (C_86 31)] ?_
  exact Runs.sW hE _ [] (kp [0,1,6,7,8]) (kq [0]) 1 [] trivial (hK_g_r01_over_L1 rest2 (q.set ((i).toNat) lo) (w64 (i - 1)) _ h E hE)
theorem g_r01_over_L2_ok (N:Nat) (a:List Int) (b:List Int) (q:List Int) (i:Int) (rtrim:(List Int)) (K_g_r01_over_L1:(List Int)→(List Int)→Int→Option ((List Int) × (List Int)))
    (hK_g_r01_over_L1:∀ (rest:List Int) (q:List Int) (i:Int) (r:(List Int) × (List Int)),K_g_r01_over_L1 rest q i = some r→∀ E,EnvOk E 0→Runs Tryz.prog E 94 63 (SPost E [] (.tup [(encL cI 0 r.1),(encL cI 0 r.2)])) [.code (C_86 244),.inLoop (C_86 244),.inBlock 0,.code (C_86 31)] ⟨[(0,(encL cI 0 a)),(1,(encL cI 0 b)),(6,(encL cI 0 rest)),(7,(.os 0 0 q.length)),(8,(aI i))],[(0,aO 1 cI 0 q)],1⟩) (fuel:Nat):∀ (lo:Int) (hi:Int) (r:(List Int) × (List Int)),g_r01_over_L2 N a b q i rtrim K_g_r01_over_L1 fuel lo hi = some r→∀ E,EnvOk E 0→Runs Tryz.prog E 94 63 (SPost E [] (.tup [(encL cI 0 r.1),(encL cI 0 r.2)])) [.code (C_86 62616),.inLoop (C_86 62616),.inBlock 2,.code (C_86 15655),.inBlock 1,.code (C_86 979),.inLoop (C_86 244),.inBlock 0,.code (C_86 31)] ⟨[(0,(encL cI 0 a)),(1,(encL cI 0 b)),(6,(encL cI 0 rtrim)),(7,(.os 0 0 q.length)),(8,(aI i)),(9,(aI lo)),(10,(aI hi))],[(0,aO 1 cI 0 q)],1⟩:=by
  induction fuel with
  | zero=>intro _ _ r h; rw [g_r01_over_L2.eq_1] at h; cases h
  | succ fuel ih =>
    intro lo hi r h E hE
    rw [g_r01_over_L2.eq_2] at h
    refine Runs.sA 2 [.code (C_86 250464),.code (C_86 250465),.code (C_86 125233),.inLoop (C_86 62616),.inBlock 2,.code (C_86 15655),.inBlock 1,.code (C_86 979),.inLoop (C_86 244),.inBlock 0,.code (C_86 31)] ?_
    refine Runs.sR hE ⟨[(0,(encL cI 0 a)),(1,(encL cI 0 b)),(6,(encL cI 0 rtrim)),(7,(.os 0 0 q.length)),(8,(aI i)),(9,(aI lo)),(10,(aI hi)),(32,(aB (decide (lo < hi))))],[(0,aO 1 cI 0 q)],49⟩ (C_86 250464) [] [] (kp [0,1,6,7,8,9,10,32]) (kq [0]) 49 [] trivial ?_
    refine Runs.sC 32 (C_86 500930) (C_86 500931) (decide (lo < hi)) (fun hq3=>?_) (fun hq3=>?_)
    · have h:=condT h hq3
      refine Runs.sA 3 [.code (C_86 500932),.code (C_86 500933),.inBlock 3,.inLoop (C_86 62616),.inBlock 2,.code (C_86 15655),.inBlock 1,.code (C_86 979),.inLoop (C_86 244),.inBlock 0,.code (C_86 31)] ?_
      refine Runs.sR hE ⟨[(0,(encL cI 0 a)),(1,(encL cI 0 b)),(6,(encL cI 0 rtrim)),(7,(.os 0 0 q.length)),(8,(aI i)),(9,(aI lo)),(10,(aI hi)),(11,(aI (w64 ((w64 ((w64 (lo+hi))+1)).tdiv 2))))],[(0,aO 1 cI 0 q)],145⟩ (C_86 500932) [] [] (kp [0,1,6,7,8,9,10,11]) (kq [0]) 145 [(2:Int) ≠ 0] ⟨(by decide),trivial⟩ ?_
      refine Runs.sA 1 [.code (C_86 1001866),.code (C_86 1001867),.inBlock 3,.inLoop (C_86 62616),.inBlock 2,.code (C_86 15655),.inBlock 1,.code (C_86 979),.inLoop (C_86 244),.inBlock 0,.code (C_86 31)] ?_
      obtain ⟨rtimes,hr2,h⟩:=bindSome h
      obtain ⟨rcompare,hr3,h⟩:=bindSome h
      refine Runs.sR hE ⟨[(0,(encL cI 0 a)),(1,(encL cI 0 b)),(6,(encL cI 0 rtrim)),(7,(.os 0 0 q.length)),(8,(aI i)),(9,(aI lo)),(10,(aI hi)),(11,(aI (w64 ((w64 ((w64 (lo+hi))+1)).tdiv 2)))),(44,(aB (decide (rcompare≤0))))],[(0,aO 1 cI 0 q)],257⟩ (C_86 1001866) [(3,⟨[],true,(encL cI 0 rtimes),[],0,true,none⟩),(5,⟨[],true,(aI rcompare),[],0,false,none⟩)] [] (kp [0,1,6,7,8,9,10,11,44]) (kq [0]) 257 [Sound Tryz.prog 98 [(encL cI 0 b),(.sl 1 (fun zi=>(fun zi=>([[(aI (w64 ((w64 ((w64 (lo+hi))+1)).tdiv 2)))]]:List (List AV)).getD zi []) (addz 0 zi)))] [] 0 (encL cI 0 rtimes) [],0+1≤1,Sound Tryz.prog 96 [(encL cI 0 rtimes),(encL cI 0 rtrim)] [] 0 (aI rcompare) []] ⟨(Sound.conv (g_r01_times_ok N b ([(w64 ((w64 ((w64 (lo+hi))+1)).tdiv 2))]:List Int) rtimes hr2) (.cons (Alike.refl _) (.cons (Alike.sl rfl (fun zq hzq=>get_chunk cI 0 ([(w64 ((w64 ((w64 (lo+hi))+1)).tdiv 2))]:List Int) zq hzq)) .nil))),z0,(g_r01_compare_ok N rtimes rtrim rcompare hr3),trivial⟩ ?_
      refine Runs.sC 44 (C_86 2003734) (C_86 2003735) (decide (rcompare≤0)) (fun hq4=>?_) (fun hq4=>?_)
      · have h:=condT h hq4
        refine Runs.sR hE ⟨[(0,(encL cI 0 a)),(1,(encL cI 0 b)),(6,(encL cI 0 rtrim)),(7,(.os 0 0 q.length)),(8,(aI i)),(9,(aI (w64 ((w64 ((w64 (lo+hi))+1)).tdiv 2)))),(10,(aI hi))],[(0,aO 1 cI 0 q)],289⟩ (C_86 2003734) [] [] (kp [0,1,6,7,8,9,10]) (kq [0]) 289 [] trivial ?_
        refine Runs.sA 2 [.code (C_86 62616),.inLoop (C_86 62616),.inBlock 2,.code (C_86 15655),.inBlock 1,.code (C_86 979),.inLoop (C_86 244),.inBlock 0,.code (C_86 31)] ?_
        exact Runs.sW hE _ [] (kp [0,1,6,7,8,9,10]) (kq [0]) 1 [] trivial (ih (w64 ((w64 ((w64 (lo+hi))+1)).tdiv 2)) hi _ h E hE)
      · have h:=condF h hq4
        refine Runs.sR hE ⟨[(0,(encL cI 0 a)),(1,(encL cI 0 b)),(6,(encL cI 0 rtrim)),(7,(.os 0 0 q.length)),(8,(aI i)),(9,(aI lo)),(10,(aI (w64 ((w64 ((w64 ((w64 (lo+hi))+1)).tdiv 2)) - 1))))],[(0,aO 1 cI 0 q)],305⟩ (C_86 2003735) [] [] (kp [0,1,6,7,8,9,10]) (kq [0]) 305 [] trivial ?_
        refine Runs.sA 2 [.code (C_86 62616),.inLoop (C_86 62616),.inBlock 2,.code (C_86 15655),.inBlock 1,.code (C_86 979),.inLoop (C_86 244),.inBlock 0,.code (C_86 31)] ?_
        exact Runs.sW hE _ [] (kp [0,1,6,7,8,9,10]) (kq [0]) 1 [] trivial (ih lo (w64 ((w64 ((w64 ((w64 (lo+hi))+1)).tdiv 2)) - 1)) _ h E hE)
    · have h:=condF h hq3
      refine Runs.sA 2 [.code (C_86 31310),.code (C_86 31311),.inBlock 1,.code (C_86 979),.inLoop (C_86 244),.inBlock 0,.code (C_86 31)] ?_
      obtain ⟨c4,h⟩:=ifSome h
      refine Runs.sR hE ⟨[(0,(encL cI 0 a)),(1,(encL cI 0 b)),(6,(encL cI 0 rtrim)),(7,(.os 0 0 ((q.set ((i).toNat) lo).length))),(8,(aI i)),(9,(aI lo))],[(0,aO 1 cI 0 (q.set ((i).toNat) lo))],129⟩ (C_86 31310) [] [] (kp [0,1,6] ++ [(7,.osl ((q.set ((i).toNat) lo).length))] ++ kp [8,9]) [(0,.arr 0 ((q.set ((i).toNat) lo).length) (fun zi=>cI ((q.set ((i).toNat) lo).getD zi 0)))] 129 [0≤i∧i < ((q.length:Nat):Int),(i).toNat < q.length,q.length = (q.set ((i).toNat) lo).length,q.length = (q.set ((i).toNat) lo).length,∀ zi,zi < (q.set ((i).toNat) lo).length→(fun zi=>cI ((q.set ((i).toNat) lo).getD zi 0)) zi = ((fun zm=>if zm = (i).toNat then [(aI lo)] else (fun zi=>cI (q.getD zi 0)) zm)) zi] ⟨c4,(ltOf c4),(len_set_raw rfl),(len_set_raw rfl),(get_set_raw cI 0 q ((i).toNat) lo (fun _ _=>rfl)),trivial⟩ ?_
      refine Runs.sA 1 [.code (C_86 62622),.code (C_86 62623),.inBlock 1,.code (C_86 979),.inLoop (C_86 244),.inBlock 0,.code (C_86 31)] ?_
      refine Runs.sR hE ⟨[(0,(encL cI 0 a)),(1,(encL cI 0 b)),(6,(encL cI 0 rtrim)),(7,(.os 0 0 ((q.set ((i).toNat) lo).length))),(8,(aI i)),(9,(aI lo)),(53,(aB (decide (lo > 0))))],[(0,aO 1 cI 0 (q.set ((i).toNat) lo))],161⟩ (C_86 62622) [] [] (kp [0,1,6,7,8,9,53]) (kq [0]) 161 [] trivial ?_
      refine Runs.sC 53 (C_86 125246) (C_86 125247) (decide (lo > 0)) (fun hq5=>?_) (fun hq5=>?_)
      · have h:=condT h hq5
        obtain ⟨rtimes2,hr4,h⟩:=bindSome h
        obtain ⟨rminus,hr5,h⟩:=bindSome h
        refine Runs.sR hE ⟨[(0,(encL cI 0 a)),(1,(encL cI 0 b)),(6,(encL cI 0 rminus)),(7,(.os 0 0 ((q.set ((i).toNat) lo).length))),(8,(aI i))],[(0,aO 1 cI 0 (q.set ((i).toNat) lo))],273⟩ (C_86 125246) [(4,⟨[],true,(encL cI 0 rtimes2),[],0,true,none⟩),(5,⟨[],true,(encL cI 0 rminus),[],0,false,none⟩)] [] (kp [0,1,6,7,8]) (kq [0]) 273 [Sound Tryz.prog 98 [(encL cI 0 b),(.sl 1 (fun zi=>(fun zi=>([[(aI lo)]]:List (List AV)).getD zi []) (addz 0 zi)))] [] 0 (encL cI 0 rtimes2) [],0+1≤1,Sound Tryz.prog 97 [(encL cI 0 rtrim),(encL cI 0 rtimes2)] [] 0 (encL cI 0 rminus) []] ⟨(Sound.conv (g_r01_times_ok N b ([lo]:List Int) rtimes2 hr4) (.cons (Alike.refl _) (.cons (Alike.sl rfl (fun zq hzq=>get_chunk cI 0 ([lo]:List Int) zq hzq)) .nil))),z0,(g_r01_minus_ok N rtrim rtimes2 rminus hr5),trivial⟩ ?_
        refine Runs.sA 1 [.code (C_86 979),.inLoop (C_86 244),.inBlock 0,.code (C_86 31)] ?_
        exact Runs.sW hE _ [] (kp [0,1,6,7,8]) (kq [0]) 1 [] trivial (g_r01_over_J3_ok N a b q i lo K_g_r01_over_L1 hK_g_r01_over_L1 rminus _ h E hE)
      · have h:=condF h hq5
        refine Runs.sA 2 [.code (C_86 979),.inLoop (C_86 244),.inBlock 0,.code (C_86 31)] ?_
        exact Runs.sW hE _ [] (kp [0,1,6,7,8]) (kq [0]) 1 [] trivial (g_r01_over_J3_ok N a b q i lo K_g_r01_over_L1 hK_g_r01_over_L1 rtrim _ h E hE)
theorem g_r01_over_L1_ok (N:Nat) (a:List Int) (b:List Int) (fuel:Nat):∀ (rest:List Int) (q:List Int) (i:Int) (r:(List Int) × (List Int)),g_r01_over_L1 N a b fuel rest q i = some r→∀ E,EnvOk E 0→Runs Tryz.prog E 94 63 (SPost E [] (.tup [(encL cI 0 r.1),(encL cI 0 r.2)])) [.code (C_86 244),.inLoop (C_86 244),.inBlock 0,.code (C_86 31)] ⟨[(0,(encL cI 0 a)),(1,(encL cI 0 b)),(6,(encL cI 0 rest)),(7,(.os 0 0 q.length)),(8,(aI i))],[(0,aO 1 cI 0 q)],1⟩:=by
  induction fuel with
  | zero=>intro _ _ _ r h; rw [g_r01_over_L1.eq_1] at h; cases h
  | succ fuel ih =>
    intro rest q i r h E hE
    rw [g_r01_over_L1.eq_2] at h
    refine Runs.sA 2 [.code (C_86 976),.code (C_86 977),.code (C_86 489),.inLoop (C_86 244),.inBlock 0,.code (C_86 31)] ?_
    refine Runs.sR hE ⟨[(0,(encL cI 0 a)),(1,(encL cI 0 b)),(6,(encL cI 0 rest)),(7,(.os 0 0 q.length)),(8,(aI i)),(19,(aB (decide (i ≥ 0))))],[(0,aO 1 cI 0 q)],33⟩ (C_86 976) [] [] (kp [0,1,6,7,8,19]) (kq [0]) 33 [] trivial ?_
    refine Runs.sC 19 (C_86 1954) (C_86 1955) (decide (i ≥ 0)) (fun hq2=>?_) (fun hq2=>?_)
    · have h:=condT h hq2
      refine Runs.sA 4 [.code (C_86 3912),.code (C_86 3913),.inBlock 1,.code (C_86 979),.inLoop (C_86 244),.inBlock 0,.code (C_86 31)] ?_
      obtain ⟨c2,h⟩:=ifSome h
      obtain ⟨c3,h⟩:=ifSome h
      obtain ⟨rtrim,hr,h⟩:=bindSome h
      refine Runs.sR hE ⟨[(0,(encL cI 0 a)),(1,(encL cI 0 b)),(6,(encL cI 0 rtrim)),(7,(.os 0 0 q.length)),(8,(aI i))],[(0,aO 1 cI 0 q)],177⟩ (C_86 3912) [(7,⟨[],true,(encL cI 0 rtrim),[],0,true,none⟩)] [] (kp [0,1,6,7,8]) (kq [0]) 177 [0≤i∧i < ((a.length:Nat):Int),1 = 1,(1+rest.length) * 8≤140737488355328,∀ zi,zi < rest.length→AV.oneL ((fun zi=>cI (rest.getD zi 0)) zi) = true,Sound Tryz.prog 113 [(.sl (1+rest.length) (fun zi=>((fun zm=>if zm < 1 then (fun zi=>([[(aI (a.getD ((i).toNat) 0))]]:List (List AV)).getD zi []) zm else (fun zi=>cI (rest.getD zi 0)) (zm - 1))) (addz 0 zi)))] [] 0 (encL cI 0 rtrim) [],0+(1+rest.length)≤1+rest.length] ⟨c2,rfl,c3,(fun _ _=>rfl),(Sound.conv (g_r01_trim_ok N (([(a.getD ((i).toNat) 0)]:List Int) ++ rest) rtrim hr) (.cons (Alike.sl (len_app_raw rfl rfl) (get_app_raw cI 0 ([(a.getD ((i).toNat) 0)]:List Int) rest rfl (fun zq hzq=>get_chunk cI 0 ([(a.getD ((i).toNat) 0)]:List Int) zq hzq) (fun _ _=>rfl))) .nil)),z0,trivial⟩ ?_
      refine Runs.sA 1 [.code (C_86 7826),.code (C_86 7827),.inBlock 1,.code (C_86 979),.inLoop (C_86 244),.inBlock 0,.code (C_86 31)] ?_
      refine Runs.sR hE ⟨[(0,(encL cI 0 a)),(1,(encL cI 0 b)),(6,(encL cI 0 rtrim)),(7,(.os 0 0 q.length)),(8,(aI i)),(9,(aI 0)),(10,(aI 65535))],[(0,aO 1 cI 0 q)],209⟩ (C_86 7826) [] [] (kp [0,1,6,7,8,9,10]) (kq [0]) 209 [] trivial ?_
      refine Runs.sA 3 [.code (C_86 62616),.inLoop (C_86 62616),.inBlock 2,.code (C_86 15655),.inBlock 1,.code (C_86 979),.inLoop (C_86 244),.inBlock 0,.code (C_86 31)] ?_
      exact Runs.sW hE _ [] (kp [0,1,6,7,8,9,10]) (kq [0]) 1 [] trivial (g_r01_over_L2_ok N a b q i rtrim (g_r01_over_L1 N a b fuel) ih N 0 65535 _ h E hE)
    · have h:=condF h hq2
      refine Runs.sA 2 [.code (C_86 62),.code (C_86 63)] ?_
      obtain ⟨rtrim2,hr6,h⟩:=bindSome h
      refine Runs.sR hE ⟨[(4,(encL cI 0 rtrim2)),(5,(encL cI 0 rest))],[],113⟩ (C_86 62) [(1,⟨[],true,(encL cI 0 rtrim2),[],0,true,none⟩)] [] (kp [4,5]) [] 113 [Sound Tryz.prog 113 [(encL cI 0 q)] [] 0 (encL cI 0 rtrim2) [],0+q.length≤q.length] ⟨(g_r01_trim_ok N q rtrim2 hr6),z0,trivial⟩ ?_
      obtain rfl:=Option.some.inj h
      refine Runs.sW hE ⟨[(4,(encL cI 0 rtrim2)),(5,(encL cI 0 rest))],[],113⟩ [] (kp [4,5]) [] 113 [] trivial ?_
      exact Runs.sT Tryz.f94 [] [] trivial
theorem g_r01_over_ok (N:Nat) (a:List Int) (b:List Int) (r:(List Int) × (List Int)) (h:g_r01_over N a b = some r):Sound Tryz.prog 94 [(encL cI 0 a),(encL cI 0 b)] [] 0 (.tup [(encL cI 0 r.1),(encL cI 0 r.2)]) []:=by
  unfold g_r01_over at h
  refine Sound.of_runs (fu:=Tryz.f94) (c:=C_86 1) (nt:=63) (by kernel_rfl) (by kernel_rfl) (by kernel_rfl) (by kernel_rfl) (fun hm=>rfl) ?_
  intro E hE
  refine Runs.sA 1 [.code (C_86 2),.code (C_86 3)] ?_
  refine Runs.sR hE ⟨[(0,(encL cI 0 a)),(1,(encL cI 0 b))],[],32⟩ (C_86 2) [] [] (kp [0,1]) [] 32 [] trivial ?_
  refine Runs.sA 1 [.code (C_86 6),.code (C_86 7)] ?_
  refine Runs.sR hE ⟨[(0,(encL cI 0 a)),(1,(encL cI 0 b)),(6,.nil)],[],48⟩ (C_86 6) [] [] (kp [0,1,6]) [] 48 [] trivial ?_
  refine Runs.sA 1 [.code (C_86 14),.code (C_86 15)] ?_
  obtain ⟨c,h⟩:=ifSome h
  refine Runs.sR hE ⟨[(0,(encL cI 0 a)),(1,(encL cI 0 b)),(6,.nil),(7,(.os 80 0 ((List.replicate a.length 0:List Int).length)))],[(80,aO 1 cI 0 (List.replicate a.length 0:List Int))],112⟩ (C_86 14) [] [] (kp [0,1,6] ++ [(7,.osl ((List.replicate a.length 0:List Int).length))]) [(80,.arr 80 ((List.replicate a.length 0:List Int).length) (fun zi=>cI ((List.replicate a.length 0:List Int).getD zi 0)))] 112 [0≤((a.length:Nat):Int),((a.length:Nat):Int)≤((a.length:Nat):Int),(8:Int) * ((a.length:Nat):Int)≤281474976710656,((a.length:Nat):Int)≤9223372036854775807,a.length = (List.replicate a.length 0:List Int).length,a.length = (List.replicate a.length 0:List Int).length,∀ zi,zi < (List.replicate a.length 0:List Int).length→(fun zi=>cI ((List.replicate a.length 0:List Int).getD zi 0)) zi = (fun _=>[(aI 0)]) zi] ⟨c.1,(Int.le_refl _),c.2.1,c.2.2,(List.length_replicate).symm,(List.length_replicate).symm,(fun zq hzq=>get_rep cI 0 0 a.length zq hzq),trivial⟩ ?_
  refine Runs.sA 2 [.code (C_86 60),.code (C_86 61),.code (C_86 31)] ?_
  refine Runs.sR hE ⟨[(0,(encL cI 0 a)),(1,(encL cI 0 b)),(6,.nil),(7,(.os 80 0 ((List.replicate a.length 0:List Int).length))),(8,(aI (w64 (((a.length:Nat):Int) - 1))))],[(80,aO 1 cI 0 (List.replicate a.length 0:List Int))],176⟩ (C_86 60) [] [] (kp [0,1,6,7,8]) (kq [80]) 176 [] trivial ?_
  refine Runs.sA 2 [.code (C_86 244),.inLoop (C_86 244),.inBlock 0,.code (C_86 31)] ?_
  exact Runs.sW hE _ [] (kp [0,1] ++ [(6,.sl (([]:List Int).length) (fun zi=>cI (([]:List Int).getD zi 0)))] ++ kp [7,8]) [(0,.keep 80)] 1 [([]:List Int).length = 0] ⟨rfl,trivial⟩ (g_r01_over_L1_ok N a b N ([]:List Int) (List.replicate a.length 0:List Int) (w64 (((a.length:Nat):Int) - 1)) _ h E hE)
noncomputable def C_85 (n:Nat):Code:=cat (bodyOf Tryz.f93) (pth n)
theorem g_r01_gcd_L1_ok (N:Nat) (fuel:Nat):∀ (a2:List Int) (b2:List Int) (r:(List Int)),g_r01_gcd_L1 N fuel a2 b2 = some r→∀ E,EnvOk E 0→Runs Tryz.prog E 93 19 (SPost E [] (encL cI 0 r)) [.code (C_85 24),.inLoop (C_85 24),.inBlock 0,.code (C_85 7)] ⟨[(0,(encL cI 0 a2)),(1,(encL cI 0 b2))],[],0⟩:=by
  induction fuel with
  | zero=>intro _ _ r h; rw [g_r01_gcd_L1.eq_1] at h; cases h
  | succ fuel ih =>
    intro a2 b2 r h E hE
    rw [g_r01_gcd_L1.eq_2] at h
    refine Runs.sA 2 [.code (C_85 96),.code (C_85 97),.code (C_85 49),.inLoop (C_85 24),.inBlock 0,.code (C_85 7)] ?_
    refine Runs.sR hE ⟨[(0,(encL cI 0 a2)),(1,(encL cI 0 b2)),(9,(aB (decide (((b2.length:Nat):Int) > 0))))],[],48⟩ (C_85 96) [] [] (kp [0,1,9]) [] 48 [] trivial ?_
    refine Runs.sC 9 (C_85 194) (C_85 195) (decide (((b2.length:Nat):Int) > 0)) (fun hq2=>?_) (fun hq2=>?_)
    · have h:=condT h hq2
      refine Runs.sA 3 [.code (C_85 196),.code (C_85 197),.inBlock 1,.inLoop (C_85 24),.inBlock 0,.code (C_85 7)] ?_
      obtain ⟨rover,hr,h⟩:=bindSome h
      refine Runs.sR hE ⟨[(1,(encL cI 0 b2)),(6,(encL cI 0 rover.2))],[],176⟩ (C_85 196) [(2,⟨[],true,(.tup [(encL cI 0 rover.1),(encL cI 0 rover.2)]),[],0,false,none⟩)] [] (kp [1,6]) [] 176 [Sound Tryz.prog 94 [(encL cI 0 a2),(encL cI 0 b2)] [] 0 (.tup [(encL cI 0 rover.1),(encL cI 0 rover.2)]) []] ⟨(g_r01_over_ok N a2 b2 rover hr),trivial⟩ ?_
      refine Runs.sR hE ⟨[(0,(encL cI 0 b2)),(1,(encL cI 0 rover.2))],[],240⟩ (C_85 197) [] [] (kp [0,1]) [] 240 [] trivial ?_
      refine Runs.sA 2 [.code (C_85 24),.inLoop (C_85 24),.inBlock 0,.code (C_85 7)] ?_
      exact Runs.sW hE _ [] (kp [0,1]) [] 0 [] trivial (ih b2 rover.2 _ h E hE)
    · have h:=condF h hq2
      refine Runs.sA 2 [.code (C_85 14),.code (C_85 15)] ?_
      refine Runs.sR hE ⟨[(4,(encL cI 0 a2))],[],80⟩ (C_85 14) [] [] (kp [4]) [] 80 [] trivial ?_
      obtain rfl:=Option.some.inj h
      refine Runs.sW hE ⟨[(4,(encL cI 0 a2))],[],80⟩ [] (kp [4]) [] 80 [] trivial ?_
      exact Runs.sT Tryz.f93 [] [] trivial
theorem g_r01_gcd_ok (N:Nat) (a:List Int) (b:List Int) (r:(List Int)) (h:g_r01_gcd N a b = some r):Sound Tryz.prog 93 [(encL cI 0 a),(encL cI 0 b)] [] 0 (encL cI 0 r) []:=by
  unfold g_r01_gcd at h
  refine Sound.of_runs (fu:=Tryz.f93) (c:=C_85 1) (nt:=19) (by kernel_rfl) (by kernel_rfl) (by kernel_rfl) (by kernel_rfl) (fun hm=>rfl) ?_
  intro E hE
  refine Runs.sA 1 [.code (C_85 2),.code (C_85 3)] ?_
  refine Runs.sR hE ⟨[(0,(encL cI 0 a)),(1,(encL cI 0 b))],[],16⟩ (C_85 2) [] [] (kp [0,1]) [] 16 [] trivial ?_
  refine Runs.sA 3 [.code (C_85 24),.inLoop (C_85 24),.inBlock 0,.code (C_85 7)] ?_
  exact Runs.sW hE _ [] (kp [0,1]) [] 0 [] trivial (g_r01_gcd_L1_ok N N a b _ h E hE)
noncomputable def C_82 (n:Nat):Code:=cat (bodyOf Tryz.f70) (pth n)
theorem g_r01_Over_ok (N:Nat) (a:TInt) (b:TInt) (r:TRat) (h:g_r01_Over N a b = some r):Sound Tryz.prog 70 [(.agg (TInt.cells a)),(.agg (TInt.cells b))] [] 0 (.agg (TRat.cells r)) []:=by
  unfold g_r01_Over at h
  refine Sound.of_runs (fu:=Tryz.f70) (c:=C_82 1) (nt:=52) (by kernel_rfl) (by kernel_rfl) (by kernel_rfl) (by kernel_rfl) (fun hm=>rfl) ?_
  intro E hE
  refine Runs.sA 1 [.code (C_82 2),.code (C_82 3)] ?_
  refine Runs.sR hE ⟨[(2,(.op 0 0 0)),(3,(.op 16 0 0)),(4,(.op 32 0 0))],[(0,vO 2 (TInt.cells a)),(16,vO 2 (TInt.cells b)),(32,vO 4 [(aB false),.nil,(aB false),.nil])],48⟩ (C_82 2) [] [] (kp [2,3,4]) (kq [0,16,32]) 48 [] trivial ?_
  refine Runs.sA 1 [.code (C_82 6),.code (C_82 7)] ?_
  obtain ⟨rread,hr,h⟩:=bindSome h
  obtain ⟨rread2,hr2,h⟩:=bindSome h
  refine Runs.sR hE ⟨[(2,(.op 0 0 0)),(3,(.op 16 0 0)),(4,(.op 32 0 0)),(5,(encL cI 0 rread)),(6,(encL cI 0 rread2))],[(0,vO 2 (TInt.cells a)),(16,vO 2 (TInt.cells b)),(32,vO 4 [(aB false),.nil,(aB false),.nil])],176⟩ (C_82 6) [(2,⟨[],true,(encL cI 0 rread),[],0,false,none⟩),(5,⟨[],true,(encL cI 0 rread2),[],0,false,none⟩)] [] (kp [2,3,4,5,6]) (kq [0,16,32]) 176 [0 < 1,Sound Tryz.prog 92 [(encL (cU .u16) 0 a.fL)] [] 0 (encL cI 0 rread) [],0 < 1,Sound Tryz.prog 92 [(encL (cU .u16) 0 b.fL)] [] 0 (encL cI 0 rread2) []] ⟨o1,(g_r01_read_ok N a.fL rread hr),o1,(g_r01_read_ok N b.fL rread2 hr2),trivial⟩ ?_
  refine Runs.sA 2 [.code (C_82 28),.code (C_82 29),.code (C_82 15)] ?_
  refine Runs.sR hE ⟨[(2,(.op 0 0 0)),(3,(.op 16 0 0)),(4,(.op 32 0 0)),(5,(encL cI 0 rread)),(6,(encL cI 0 rread2)),(20,(aB (((rread2.length:Nat):Int) == 0)))],[(0,vO 2 (TInt.cells a)),(16,vO 2 (TInt.cells b)),(32,vO 4 [(aB false),.nil,(aB false),.nil])],224⟩ (C_82 28) [] [] (kp [2,3,4,5,6,20]) (kq [0,16,32]) 224 [] trivial ?_
  refine Runs.sC 20 (C_82 58) (C_82 59) (((rread2.length:Nat):Int) == 0) (fun hq2=>?_) (fun hq2=>?_)
  · have h:=condT h hq2
    refine Runs.sA 1 [.code (C_82 116),.code (C_82 117),.code (C_82 15)] ?_
    obtain ⟨rmade,hr3,h⟩:=bindSome h
    obtain ⟨rOf,hr4,h⟩:=bindSome h
    refine Runs.sR hE ⟨[(4,(.op 32 0 0))],[(32,vO 4 [(aB rmade.fG),(encL (cU .u16) 0 rmade.fL),(aB rOf.fG),(encL (cU .u16) 0 rOf.fL)])],336⟩ (C_82 116) [(3,⟨[],true,(.agg (TInt.cells rmade)),[],0,false,none⟩),(4,⟨[],true,(.agg (TInt.cells rOf)),[],0,false,none⟩)] [] (kp [4]) (kq [32]) 336 [0 < 1,Sound Tryz.prog 91 [(aB a.fG),(encL cI 0 rread)] [] 0 (.agg (TInt.cells rmade)) [],Sound Tryz.prog 68 [(aI 1)] [] 0 (.agg (TInt.cells rOf)) [],0 < 1] ⟨o1,(g_r01_made_ok N a.fG rread rmade hr3),(g_r01_Of_ok N 1 rOf hr4),o1,trivial⟩ ?_
    obtain rfl:=Option.some.inj h
    refine Runs.sW hE ⟨[(4,(.op 16 0 0))],[(16,vO 4 [(aB rmade.fG),(encL (cU .u16) 0 rmade.fL),(aB rOf.fG),(encL (cU .u16) 0 rOf.fL)])],336⟩ [] (kp [4]) [(16,.keep 32)] 336 [] trivial ?_
    exact Runs.sT Tryz.f70 [16] [0 < 1] ⟨o1,trivial⟩
  · have h:=condF h hq2
    refine Runs.sA 2 [.code (C_82 30),.code (C_82 31)] ?_
    obtain ⟨rgcd,hr5,h⟩:=bindSome h
    refine Runs.sR hE ⟨[(2,(.op 0 0 0)),(3,(.op 16 0 0)),(4,(.op 32 0 0)),(5,(encL cI 0 rread)),(6,(encL cI 0 rread2)),(7,(encL cI 0 rgcd))],[(0,vO 2 (TInt.cells a)),(16,vO 2 (TInt.cells b)),(32,vO 4 [(aB false),.nil,(aB false),.nil])],288⟩ (C_82 30) [(2,⟨[],true,(encL cI 0 rgcd),[],0,false,none⟩)] [] (kp [2,3,4,5,6,7]) (kq [0,16,32]) 288 [Sound Tryz.prog 93 [(encL cI 0 rread),(encL cI 0 rread2)] [] 0 (encL cI 0 rgcd) []] ⟨(g_r01_gcd_ok N rread rread2 rgcd hr5),trivial⟩ ?_
    refine Runs.sA 1 [.code (C_82 62),.code (C_82 63)] ?_
    obtain ⟨rover,hr6,h⟩:=bindSome h
    refine Runs.sR hE ⟨[(2,(.op 0 0 0)),(3,(.op 16 0 0)),(4,(.op 32 0 0)),(6,(encL cI 0 rread2)),(7,(encL cI 0 rgcd)),(8,(encL cI 0 rover.1))],[(0,vO 2 (TInt.cells a)),(16,vO 2 (TInt.cells b)),(32,vO 4 [(aB false),.nil,(aB false),.nil])],416⟩ (C_82 62) [(2,⟨[],true,(.tup [(encL cI 0 rover.1),(encL cI 0 rover.2)]),[],0,false,none⟩)] [] (kp [2,3,4,6,7,8]) (kq [0,16,32]) 416 [Sound Tryz.prog 94 [(encL cI 0 rread),(encL cI 0 rgcd)] [] 0 (.tup [(encL cI 0 rover.1),(encL cI 0 rover.2)]) []] ⟨(g_r01_over_ok N rread rgcd rover hr6),trivial⟩ ?_
    refine Runs.sA 1 [.code (C_82 126),.code (C_82 127)] ?_
    obtain ⟨rover2,hr7,h⟩:=bindSome h
    refine Runs.sR hE ⟨[(2,(.op 0 0 0)),(3,(.op 16 0 0)),(4,(.op 32 0 0)),(8,(encL cI 0 rover.1)),(10,(encL cI 0 rover2.1))],[(0,vO 2 (TInt.cells a)),(16,vO 2 (TInt.cells b)),(32,vO 4 [(aB false),.nil,(aB false),.nil])],544⟩ (C_82 126) [(2,⟨[],true,(.tup [(encL cI 0 rover2.1),(encL cI 0 rover2.2)]),[],0,false,none⟩)] [] (kp [2,3,4,8,10]) (kq [0,16,32]) 544 [Sound Tryz.prog 94 [(encL cI 0 rread2),(encL cI 0 rgcd)] [] 0 (.tup [(encL cI 0 rover2.1),(encL cI 0 rover2.2)]) []] ⟨(g_r01_over_ok N rread2 rgcd rover2 hr7),trivial⟩ ?_
    refine Runs.sA 1 [.code (C_82 254),.code (C_82 255)] ?_
    obtain ⟨rmade2,hr8,h⟩:=bindSome h
    obtain ⟨rmade3,hr9,h⟩:=bindSome h
    refine Runs.sR hE ⟨[(4,(.op 32 0 0))],[(32,vO 4 [(aB rmade2.fG),(encL (cU .u16) 0 rmade2.fL),(aB rmade3.fG),(encL (cU .u16) 0 rmade3.fL)])],720⟩ (C_82 254) [(6,⟨[],true,(.agg (TInt.cells rmade2)),[],0,false,none⟩),(8,⟨[],true,(.agg (TInt.cells rmade3)),[],0,false,none⟩)] [] (kp [4]) (kq [32]) 720 [0 < 1,0 < 1,Sound Tryz.prog 91 [(aB (!(a.fG == b.fG))),(encL cI 0 rover.1)] [] 0 (.agg (TInt.cells rmade2)) [],Sound Tryz.prog 91 [(aB false),(encL cI 0 rover2.1)] [] 0 (.agg (TInt.cells rmade3)) [],0 < 1] ⟨o1,o1,(g_r01_made_ok N (!(a.fG == b.fG)) rover.1 rmade2 hr8),(g_r01_made_ok N false rover2.1 rmade3 hr9),o1,trivial⟩ ?_
    obtain rfl:=Option.some.inj h
    refine Runs.sW hE ⟨[(4,(.op 16 0 0))],[(16,vO 4 [(aB rmade2.fG),(encL (cU .u16) 0 rmade2.fL),(aB rmade3.fG),(encL (cU .u16) 0 rmade3.fL)])],720⟩ [] (kp [4]) [(16,.keep 32)] 720 [] trivial ?_
    exact Runs.sT Tryz.f70 [16] [0 < 1] ⟨o1,trivial⟩
noncomputable def C_81 (n:Nat):Code:=cat (bodyOf Tryz.f69) (pth n)
theorem g_r01_NormRat_ok (N:Nat) (x:TRat) (r:TRat) (h:g_r01_NormRat N x = some r):Sound Tryz.prog 69 [(.agg (TRat.cells x))] [] 0 (.agg (TRat.cells r)) []:=by
  unfold g_r01_NormRat at h
  refine Sound.of_runs (fu:=Tryz.f69) (c:=C_81 1) (nt:=8) (by kernel_rfl) (by kernel_rfl) (by kernel_rfl) (by kernel_rfl) (fun hm=>rfl) ?_
  intro E hE
  refine Runs.sA 1 [.code (C_81 2),.code (C_81 3)] ?_
  refine Runs.sR hE ⟨[(1,(.op 0 0 0)),(2,(.op 16 0 0))],[(0,vO 4 (TRat.cells x)),(16,vO 4 [(aB false),.nil,(aB false),.nil])],32⟩ (C_81 2) [] [] (kp [1,2]) (kq [0,16]) 32 [] trivial ?_
  refine Runs.sA 1 [.code (C_81 6),.code (C_81 7)] ?_
  obtain ⟨rOver,hr,h⟩:=bindSome h
  refine Runs.sR hE ⟨[(2,(.op 16 0 0))],[(16,vO 4 (TRat.cells rOver))],128⟩ (C_81 6) [(4,⟨[],true,(.agg (TRat.cells rOver)),[],0,false,none⟩)] [] (kp [2]) (kq [16]) 128 [0 < 1,0 < 1,Sound Tryz.prog 70 [(.agg (TInt.cells x.fN)),(.agg (TInt.cells x.fD))] [] 0 (.agg (TRat.cells rOver)) [],0 < 1] ⟨o1,o1,(g_r01_Over_ok N x.fN x.fD rOver hr),o1,trivial⟩ ?_
  obtain rfl:=Option.some.inj h
  refine Runs.sW hE ⟨[(2,(.op 16 0 0))],[(16,vO 4 (TRat.cells rOver))],128⟩ [] (kp [2]) (kq [16]) 128 [] trivial ?_
  exact Runs.sT Tryz.f69 [16] [0 < 1] ⟨o1,trivial⟩
noncomputable def C_91 (n:Nat):Code:=cat (bodyOf Tryz.f72) (pth n)
theorem g_r01_Mul_ok (N:Nat) (a:TInt) (b:TInt) (r:TInt) (h:g_r01_Mul N a b = some r):Sound Tryz.prog 72 [(.agg (TInt.cells a)),(.agg (TInt.cells b))] [] 0 (.agg (TInt.cells r)) []:=by
  unfold g_r01_Mul at h
  refine Sound.of_runs (fu:=Tryz.f72) (c:=C_91 1) (nt:=18) (by kernel_rfl) (by kernel_rfl) (by kernel_rfl) (by kernel_rfl) (fun hm=>rfl) ?_
  intro E hE
  refine Runs.sA 1 [.code (C_91 2),.code (C_91 3)] ?_
  refine Runs.sR hE ⟨[(2,(.op 0 0 0)),(3,(.op 16 0 0)),(4,(.op 32 0 0))],[(0,vO 2 (TInt.cells a)),(16,vO 2 (TInt.cells b)),(32,vO 2 [(aB false),.nil])],48⟩ (C_91 2) [] [] (kp [2,3,4]) (kq [0,16,32]) 48 [] trivial ?_
  refine Runs.sA 1 [.code (C_91 6),.code (C_91 7)] ?_
  obtain ⟨rread,hr,h⟩:=bindSome h
  obtain ⟨rread2,hr2,h⟩:=bindSome h
  obtain ⟨rtimes,hr3,h⟩:=bindSome h
  obtain ⟨rmade,hr4,h⟩:=bindSome h
  refine Runs.sR hE ⟨[(4,(.op 32 0 0))],[(32,vO 2 (TInt.cells rmade))],272⟩ (C_91 6) [(7,⟨[],true,(encL cI 0 rread),[],0,false,none⟩),(10,⟨[],true,(encL cI 0 rread2),[],0,false,none⟩),(11,⟨[],true,(encL cI 0 rtimes),[],0,false,none⟩),(12,⟨[],true,(.agg (TInt.cells rmade)),[],0,false,none⟩)] [] (kp [4]) (kq [32]) 272 [0 < 1,0 < 1,0 < 1,Sound Tryz.prog 92 [(encL (cU .u16) 0 a.fL)] [] 0 (encL cI 0 rread) [],0 < 1,Sound Tryz.prog 92 [(encL (cU .u16) 0 b.fL)] [] 0 (encL cI 0 rread2) [],Sound Tryz.prog 98 [(encL cI 0 rread),(encL cI 0 rread2)] [] 0 (encL cI 0 rtimes) [],Sound Tryz.prog 91 [(aB (!(a.fG == b.fG))),(encL cI 0 rtimes)] [] 0 (.agg (TInt.cells rmade)) [],0 < 1] ⟨o1,o1,o1,(g_r01_read_ok N a.fL rread hr),o1,(g_r01_read_ok N b.fL rread2 hr2),(g_r01_times_ok N rread rread2 rtimes hr3),(g_r01_made_ok N (!(a.fG == b.fG)) rtimes rmade hr4),o1,trivial⟩ ?_
  obtain rfl:=Option.some.inj h
  refine Runs.sW hE ⟨[(4,(.op 16 0 0))],[(16,vO 2 (TInt.cells rmade))],272⟩ [] (kp [4]) [(16,.keep 32)] 272 [] trivial ?_
  exact Runs.sT Tryz.f72 [16] [0 < 1] ⟨o1,trivial⟩
noncomputable def C_93 (n:Nat):Code:=cat (bodyOf Tryz.f95) (pth n)
theorem g_r01_plus_L1_ok (N:Nat) (a:List Int) (b:List Int) (fuel:Nat):∀ (out:List Int) (carry:Int) (i:Int) (r:(List Int)),g_r01_plus_L1 N a b fuel out carry i = some r→∀ E,EnvOk E 0→Runs Tryz.prog E 95 43 (SPost E [] (encL cI 0 r)) [.code (C_93 244),.inLoop (C_93 244),.inBlock 0,.code (C_93 31)] ⟨[(0,(encL cI 0 a)),(1,(encL cI 0 b)),(5,(.os 0 0 out.length)),(6,(aI carry)),(7,(aI i))],[(0,aO 1 cI 0 out)],1⟩:=by
  induction fuel with
  | zero=>intro _ _ _ r h; rw [g_r01_plus_L1.eq_1] at h; cases h
  | succ fuel ih =>
    intro out carry i r h E hE
    rw [g_r01_plus_L1.eq_2] at h
    refine Runs.sA 2 [.code (C_93 976),.code (C_93 977),.code (C_93 489),.inLoop (C_93 244),.inBlock 0,.code (C_93 31)] ?_
    refine Runs.sR hE ⟨[(0,(encL cI 0 a)),(1,(encL cI 0 b)),(5,(.os 0 0 out.length)),(6,(aI carry)),(7,(aI i)),(22,(aB (cond (cond (decide (i < ((a.length:Nat):Int))) true (decide (i < ((b.length:Nat):Int)))) true (decide (carry > 0)))))],[(0,aO 1 cI 0 out)],225⟩ (C_93 976) [] [] (kp [0,1,5,6,7,22]) (kq [0]) 225 [(!(decide (i < ((a.length:Nat):Int)))) = true→AllP [(!(decide (i < ((a.length:Nat):Int)))) = true],(!(decide (i < ((a.length:Nat):Int)))) = true→AllP [(!(decide (i < ((a.length:Nat):Int)))) = true,(!(decide (i < ((a.length:Nat):Int)))) = true],(!(decide (i < ((a.length:Nat):Int)))) = true→AllP [(!(decide (i < ((a.length:Nat):Int)))) = true],(!(cond (decide (i < ((a.length:Nat):Int))) true (decide (i < ((b.length:Nat):Int))))) = true→AllP [(!(cond (decide (i < ((a.length:Nat):Int))) true (decide (i < ((b.length:Nat):Int))))) = true],(!(cond (decide (i < ((a.length:Nat):Int))) true (decide (i < ((b.length:Nat):Int))))) = true→AllP [(!(cond (decide (i < ((a.length:Nat):Int))) true (decide (i < ((b.length:Nat):Int))))) = true]] ⟨(fun hg=>⟨hg,trivial⟩),(fun hg=>⟨hg,hg,trivial⟩),(fun hq=>⟨hq,trivial⟩),(fun hg=>⟨hg,trivial⟩),(fun hq=>⟨hq,trivial⟩),trivial⟩ ?_
    refine Runs.sC 22 (C_93 1954) (C_93 1955) (cond (cond (decide (i < ((a.length:Nat):Int))) true (decide (i < ((b.length:Nat):Int)))) true (decide (carry > 0))) (fun hq2=>?_) (fun hq2=>?_)
    · have h:=condT h hq2
      refine Runs.sA 4 [.code (C_93 3912),.code (C_93 3913),.inBlock 1,.code (C_93 979),.inLoop (C_93 244),.inBlock 0,.code (C_93 31)] ?_
      obtain ⟨rdigit,hr,h⟩:=bindSome h
      obtain ⟨rdigit2,hr2,h⟩:=bindSome h
      refine Runs.sR hE ⟨[(0,(encL cI 0 a)),(1,(encL cI 0 b)),(5,(.os 0 0 out.length)),(7,(aI i)),(8,(aI (w64 ((w64 (rdigit+rdigit2))+carry))))],[(0,aO 1 cI 0 out)],385⟩ (C_93 3912) [(2,⟨[],true,(aI rdigit),[],0,false,none⟩),(5,⟨[],true,(aI rdigit2),[],0,false,none⟩)] [] (kp [0,1,5,7,8]) (kq [0]) 385 [Sound Tryz.prog 114 [(encL cI 0 a),(aI i)] [] 0 (aI rdigit) [],Sound Tryz.prog 114 [(encL cI 0 b),(aI i)] [] 0 (aI rdigit2) []] ⟨(g_r01_digit_ok N a i rdigit hr),(g_r01_digit_ok N b i rdigit2 hr2),trivial⟩ ?_
      refine Runs.sA 1 [.code (C_93 7826),.code (C_93 7827),.inBlock 1,.code (C_93 979),.inLoop (C_93 244),.inBlock 0,.code (C_93 31)] ?_
      obtain ⟨c,h⟩:=ifSome h
      refine Runs.sR hE ⟨[(0,(encL cI 0 a)),(1,(encL cI 0 b)),(5,(.os 449 0 ((out ++ ([((w64 ((w64 (rdigit+rdigit2))+carry)).tmod 65536)]:List Int)).length))),(7,(aI i)),(8,(aI (w64 ((w64 (rdigit+rdigit2))+carry))))],[(449,aO 1 cI 0 (out ++ ([((w64 ((w64 (rdigit+rdigit2))+carry)).tmod 65536)]:List Int)))],481⟩ (C_93 7826) [] [] (kp [0,1] ++ [(5,.osl ((out ++ ([((w64 ((w64 (rdigit+rdigit2))+carry)).tmod 65536)]:List Int)).length))] ++ kp [7,8]) [(449,.arr 449 ((out ++ ([((w64 ((w64 (rdigit+rdigit2))+carry)).tmod 65536)]:List Int)).length) (fun zi=>cI ((out ++ ([((w64 ((w64 (rdigit+rdigit2))+carry)).tmod 65536)]:List Int)).getD zi 0)))] 481 [(65536:Int) ≠ 0,out.length = out.length,(out.length+1) * 8≤140737488355328,0+1≤1,∀ zi,zi < 1→AV.oneL ((fun zi=>([[(aI ((w64 ((w64 (rdigit+rdigit2))+carry)).tmod 65536))]]:List (List AV)).getD zi []) (addz 0 zi)) = true,(out.length+1) = (out ++ ([((w64 ((w64 (rdigit+rdigit2))+carry)).tmod 65536)]:List Int)).length,out.length+1 = (out ++ ([((w64 ((w64 (rdigit+rdigit2))+carry)).tmod 65536)]:List Int)).length,∀ zi,zi < (out ++ ([((w64 ((w64 (rdigit+rdigit2))+carry)).tmod 65536)]:List Int)).length→(fun zi=>cI ((out ++ ([((w64 ((w64 (rdigit+rdigit2))+carry)).tmod 65536)]:List Int)).getD zi 0)) zi = ((fun zm=>if zm < out.length then (fun zi=>cI (out.getD zi 0)) zm else (fun zi=>([[(aI ((w64 ((w64 (rdigit+rdigit2))+carry)).tmod 65536))]]:List (List AV)).getD zi []) (zm - out.length))) zi] ⟨(by decide),rfl,c,z0,(oneN rfl),(len_app_raw rfl rfl),(len_app_raw rfl rfl),(get_app_raw cI 0 out ([((w64 ((w64 (rdigit+rdigit2))+carry)).tmod 65536)]:List Int) rfl (fun _ _=>rfl) (fun zq hzq=>get_chunk cI 0 ([((w64 ((w64 (rdigit+rdigit2))+carry)).tmod 65536)]:List Int) zq hzq)),trivial⟩ ?_
      refine Runs.sR hE ⟨[(0,(encL cI 0 a)),(1,(encL cI 0 b)),(5,(.os 449 0 ((out ++ ([((w64 ((w64 (rdigit+rdigit2))+carry)).tmod 65536)]:List Int)).length))),(6,(aI (w64 ((w64 ((w64 (rdigit+rdigit2))+carry)).tdiv 65536)))),(7,(aI i))],[(449,aO 1 cI 0 (out ++ ([((w64 ((w64 (rdigit+rdigit2))+carry)).tmod 65536)]:List Int)))],529⟩ (C_93 7827) [] [] (kp [0,1,5,6,7]) (kq [449]) 529 [(65536:Int) ≠ 0] ⟨(by decide),trivial⟩ ?_
      refine Runs.sA 1 [.code (C_93 979),.inLoop (C_93 244),.inBlock 0,.code (C_93 31)] ?_
      refine Runs.sR hE ⟨[(0,(encL cI 0 a)),(1,(encL cI 0 b)),(5,(.os 449 0 ((out ++ ([((w64 ((w64 (rdigit+rdigit2))+carry)).tmod 65536)]:List Int)).length))),(6,(aI (w64 ((w64 ((w64 (rdigit+rdigit2))+carry)).tdiv 65536)))),(7,(aI (w64 (i+1))))],[(449,aO 1 cI 0 (out ++ ([((w64 ((w64 (rdigit+rdigit2))+carry)).tmod 65536)]:List Int)))],577⟩ (C_93 979) [] [] (kp [0,1,5,6,7]) (kq [449]) 577 [] trivial ?_
      refine Runs.sA 1 [.code (C_93 244),.inLoop (C_93 244),.inBlock 0,.code (C_93 31)] ?_
      exact Runs.sW hE _ [] (kp [0,1,5,6,7]) [(0,.keep 449)] 1 [] trivial (ih (out ++ ([((w64 ((w64 (rdigit+rdigit2))+carry)).tmod 65536)]:List Int)) (w64 ((w64 ((w64 (rdigit+rdigit2))+carry)).tdiv 65536)) (w64 (i+1)) _ h E hE)
    · have h:=condF h hq2
      refine Runs.sA 2 [.code (C_93 62),.code (C_93 63)] ?_
      obtain ⟨rtrim,hr3,h⟩:=bindSome h
      refine Runs.sR hE ⟨[(4,(encL cI 0 rtrim))],[],273⟩ (C_93 62) [(1,⟨[],true,(encL cI 0 rtrim),[],0,true,none⟩)] [] (kp [4]) [] 273 [Sound Tryz.prog 113 [(encL cI 0 out)] [] 0 (encL cI 0 rtrim) [],0+out.length≤out.length] ⟨(g_r01_trim_ok N out rtrim hr3),z0,trivial⟩ ?_
      obtain rfl:=Option.some.inj h
      refine Runs.sW hE ⟨[(4,(encL cI 0 rtrim))],[],273⟩ [] (kp [4]) [] 273 [] trivial ?_
      exact Runs.sT Tryz.f95 [] [] trivial
theorem g_r01_plus_ok (N:Nat) (a:List Int) (b:List Int) (r:(List Int)) (h:g_r01_plus N a b = some r):Sound Tryz.prog 95 [(encL cI 0 a),(encL cI 0 b)] [] 0 (encL cI 0 r) []:=by
  unfold g_r01_plus at h
  refine Sound.of_runs (fu:=Tryz.f95) (c:=C_93 1) (nt:=43) (by kernel_rfl) (by kernel_rfl) (by kernel_rfl) (by kernel_rfl) (fun hm=>rfl) ?_
  intro E hE
  refine Runs.sA 1 [.code (C_93 2),.code (C_93 3)] ?_
  refine Runs.sR hE ⟨[(0,(encL cI 0 a)),(1,(encL cI 0 b))],[],16⟩ (C_93 2) [] [] (kp [0,1]) [] 16 [] trivial ?_
  refine Runs.sA 1 [.code (C_93 6),.code (C_93 7)] ?_
  refine Runs.sR hE ⟨[(0,(encL cI 0 a)),(1,(encL cI 0 b)),(5,.nil)],[],32⟩ (C_93 6) [] [] (kp [0,1,5]) [] 32 [] trivial ?_
  refine Runs.sA 1 [.code (C_93 14),.code (C_93 15)] ?_
  refine Runs.sR hE ⟨[(0,(encL cI 0 a)),(1,(encL cI 0 b)),(5,.nil),(6,(aI 0))],[],48⟩ (C_93 14) [] [] (kp [0,1,5,6]) [] 48 [] trivial ?_
  refine Runs.sA 2 [.code (C_93 60),.code (C_93 61),.code (C_93 31)] ?_
  refine Runs.sR hE ⟨[(0,(encL cI 0 a)),(1,(encL cI 0 b)),(5,.nil),(6,(aI 0)),(7,(aI 0))],[],64⟩ (C_93 60) [] [] (kp [0,1,5,6,7]) [] 64 [] trivial ?_
  refine Runs.sA 2 [.code (C_93 244),.inLoop (C_93 244),.inBlock 0,.code (C_93 31)] ?_
  exact Runs.sW hE _ [] (kp [0,1] ++ [(5,.nilos 0)] ++ kp [6,7]) [(0,.nil 1 (fun zi=>cI (([]:List Int).getD zi 0)))] 1 [] trivial (g_r01_plus_L1_ok N a b N ([]:List Int) 0 0 _ h E hE)
noncomputable def C_92 (n:Nat):Code:=cat (bodyOf Tryz.f71) (pth n)
theorem g_r01_Add_ok (N:Nat) (a:TInt) (b:TInt) (r:TInt) (h:g_r01_Add N a b = some r):Sound Tryz.prog 71 [(.agg (TInt.cells a)),(.agg (TInt.cells b))] [] 0 (.agg (TInt.cells r)) []:=by
  unfold g_r01_Add at h
  refine Sound.of_runs (fu:=Tryz.f71) (c:=C_92 1) (nt:=40) (by kernel_rfl) (by kernel_rfl) (by kernel_rfl) (by kernel_rfl) (fun hm=>rfl) ?_
  intro E hE
  refine Runs.sA 1 [.code (C_92 2),.code (C_92 3)] ?_
  refine Runs.sR hE ⟨[(2,(.op 0 0 0)),(3,(.op 16 0 0)),(4,(.op 32 0 0))],[(0,vO 2 (TInt.cells a)),(16,vO 2 (TInt.cells b)),(32,vO 2 [(aB false),.nil])],48⟩ (C_92 2) [] [] (kp [2,3,4]) (kq [0,16,32]) 48 [] trivial ?_
  refine Runs.sA 1 [.code (C_92 6),.code (C_92 7)] ?_
  obtain ⟨rread,hr,h⟩:=bindSome h
  obtain ⟨rread2,hr2,h⟩:=bindSome h
  refine Runs.sR hE ⟨[(2,(.op 0 0 0)),(3,(.op 16 0 0)),(4,(.op 32 0 0)),(5,(encL cI 0 rread)),(6,(encL cI 0 rread2))],[(0,vO 2 (TInt.cells a)),(16,vO 2 (TInt.cells b)),(32,vO 2 [(aB false),.nil])],176⟩ (C_92 6) [(2,⟨[],true,(encL cI 0 rread),[],0,false,none⟩),(5,⟨[],true,(encL cI 0 rread2),[],0,false,none⟩)] [] (kp [2,3,4,5,6]) (kq [0,16,32]) 176 [0 < 1,Sound Tryz.prog 92 [(encL (cU .u16) 0 a.fL)] [] 0 (encL cI 0 rread) [],0 < 1,Sound Tryz.prog 92 [(encL (cU .u16) 0 b.fL)] [] 0 (encL cI 0 rread2) []] ⟨o1,(g_r01_read_ok N a.fL rread hr),o1,(g_r01_read_ok N b.fL rread2 hr2),trivial⟩ ?_
  refine Runs.sA 2 [.code (C_92 28),.code (C_92 29),.code (C_92 15)] ?_
  refine Runs.sR hE ⟨[(2,(.op 0 0 0)),(3,(.op 16 0 0)),(4,(.op 32 0 0)),(5,(encL cI 0 rread)),(6,(encL cI 0 rread2)),(17,(aB (a.fG == b.fG)))],[(0,vO 2 (TInt.cells a)),(16,vO 2 (TInt.cells b)),(32,vO 2 [(aB false),.nil])],256⟩ (C_92 28) [] [] (kp [2,3,4,5,6,17]) (kq [0,16,32]) 256 [0 < 1,0 < 1] ⟨o1,o1,trivial⟩ ?_
  refine Runs.sC 17 (C_92 58) (C_92 59) (a.fG == b.fG) (fun hq2=>?_) (fun hq2=>?_)
  · have h:=condT h hq2
    refine Runs.sA 1 [.code (C_92 116),.code (C_92 117),.code (C_92 15)] ?_
    obtain ⟨rplus,hr3,h⟩:=bindSome h
    obtain ⟨rmade,hr4,h⟩:=bindSome h
    refine Runs.sR hE ⟨[(4,(.op 32 0 0))],[(32,vO 2 (TInt.cells rmade))],368⟩ (C_92 116) [(4,⟨[],true,(encL cI 0 rplus),[],0,false,none⟩),(5,⟨[],true,(.agg (TInt.cells rmade)),[],0,false,none⟩)] [] (kp [4]) (kq [32]) 368 [0 < 1,Sound Tryz.prog 95 [(encL cI 0 rread),(encL cI 0 rread2)] [] 0 (encL cI 0 rplus) [],Sound Tryz.prog 91 [(aB a.fG),(encL cI 0 rplus)] [] 0 (.agg (TInt.cells rmade)) [],0 < 1] ⟨o1,(g_r01_plus_ok N rread rread2 rplus hr3),(g_r01_made_ok N a.fG rplus rmade hr4),o1,trivial⟩ ?_
    obtain rfl:=Option.some.inj h
    refine Runs.sW hE ⟨[(4,(.op 16 0 0))],[(16,vO 2 (TInt.cells rmade))],368⟩ [] (kp [4]) [(16,.keep 32)] 368 [] trivial ?_
    exact Runs.sT Tryz.f71 [16] [0 < 1] ⟨o1,trivial⟩
  · have h:=condF h hq2
    refine Runs.sA 3 [.code (C_92 60),.code (C_92 61),.code (C_92 31)] ?_
    obtain ⟨rcompare,hr5,h⟩:=bindSome h
    refine Runs.sR hE ⟨[(2,(.op 0 0 0)),(3,(.op 16 0 0)),(4,(.op 32 0 0)),(5,(encL cI 0 rread)),(6,(encL cI 0 rread2)),(27,(aB (decide (rcompare ≥ 0))))],[(0,vO 2 (TInt.cells a)),(16,vO 2 (TInt.cells b)),(32,vO 2 [(aB false),.nil])],320⟩ (C_92 60) [(2,⟨[],true,(aI rcompare),[],0,false,none⟩)] [] (kp [2,3,4,5,6,27]) (kq [0,16,32]) 320 [Sound Tryz.prog 96 [(encL cI 0 rread),(encL cI 0 rread2)] [] 0 (aI rcompare) []] ⟨(g_r01_compare_ok N rread rread2 rcompare hr5),trivial⟩ ?_
    refine Runs.sC 27 (C_92 122) (C_92 123) (decide (rcompare ≥ 0)) (fun hq3=>?_) (fun hq3=>?_)
    · have h:=condT h hq3
      refine Runs.sA 1 [.code (C_92 244),.code (C_92 245),.code (C_92 31)] ?_
      obtain ⟨rminus,hr6,h⟩:=bindSome h
      obtain ⟨rmade2,hr7,h⟩:=bindSome h
      refine Runs.sR hE ⟨[(4,(.op 32 0 0))],[(32,vO 2 (TInt.cells rmade2))],432⟩ (C_92 244) [(4,⟨[],true,(encL cI 0 rminus),[],0,false,none⟩),(5,⟨[],true,(.agg (TInt.cells rmade2)),[],0,false,none⟩)] [] (kp [4]) (kq [32]) 432 [0 < 1,Sound Tryz.prog 97 [(encL cI 0 rread),(encL cI 0 rread2)] [] 0 (encL cI 0 rminus) [],Sound Tryz.prog 91 [(aB a.fG),(encL cI 0 rminus)] [] 0 (.agg (TInt.cells rmade2)) [],0 < 1] ⟨o1,(g_r01_minus_ok N rread rread2 rminus hr6),(g_r01_made_ok N a.fG rminus rmade2 hr7),o1,trivial⟩ ?_
      obtain rfl:=Option.some.inj h
      refine Runs.sW hE ⟨[(4,(.op 16 0 0))],[(16,vO 2 (TInt.cells rmade2))],432⟩ [] (kp [4]) [(16,.keep 32)] 432 [] trivial ?_
      exact Runs.sT Tryz.f71 [16] [0 < 1] ⟨o1,trivial⟩
    · have h:=condF h hq3
      refine Runs.sA 2 [.code (C_92 62),.code (C_92 63)] ?_
      obtain ⟨rminus2,hr8,h⟩:=bindSome h
      obtain ⟨rmade3,hr9,h⟩:=bindSome h
      refine Runs.sR hE ⟨[(4,(.op 32 0 0))],[(32,vO 2 (TInt.cells rmade3))],432⟩ (C_92 62) [(4,⟨[],true,(encL cI 0 rminus2),[],0,false,none⟩),(5,⟨[],true,(.agg (TInt.cells rmade3)),[],0,false,none⟩)] [] (kp [4]) (kq [32]) 432 [0 < 1,Sound Tryz.prog 97 [(encL cI 0 rread2),(encL cI 0 rread)] [] 0 (encL cI 0 rminus2) [],Sound Tryz.prog 91 [(aB b.fG),(encL cI 0 rminus2)] [] 0 (.agg (TInt.cells rmade3)) [],0 < 1] ⟨o1,(g_r01_minus_ok N rread2 rread rminus2 hr8),(g_r01_made_ok N b.fG rminus2 rmade3 hr9),o1,trivial⟩ ?_
      obtain rfl:=Option.some.inj h
      refine Runs.sW hE ⟨[(4,(.op 16 0 0))],[(16,vO 2 (TInt.cells rmade3))],432⟩ [] (kp [4]) [(16,.keep 32)] 432 [] trivial ?_
      exact Runs.sT Tryz.f71 [16] [0 < 1] ⟨o1,trivial⟩
noncomputable def C_80 (n:Nat):Code:=cat (bodyOf Tryz.f40) (pth n)
theorem g_r01_AddRat_ok (N:Nat) (x:TRat) (y:TRat) (r:TRat) (h:g_r01_AddRat N x y = some r):Sound Tryz.prog 40 [(.agg (TRat.cells x)),(.agg (TRat.cells y))] [] 0 (.agg (TRat.cells r)) []:=by
  unfold g_r01_AddRat at h
  refine Sound.of_runs (fu:=Tryz.f40) (c:=C_80 1) (nt:=28) (by kernel_rfl) (by kernel_rfl) (by kernel_rfl) (by kernel_rfl) (fun hm=>rfl) ?_
  intro E hE
  refine Runs.sA 1 [.code (C_80 2),.code (C_80 3)] ?_
  refine Runs.sR hE ⟨[(2,(.op 0 0 0)),(3,(.op 16 0 0)),(4,(.op 32 0 0))],[(0,vO 4 (TRat.cells x)),(16,vO 4 (TRat.cells y)),(32,vO 4 [(aB false),.nil,(aB false),.nil])],48⟩ (C_80 2) [] [] (kp [2,3,4]) (kq [0,16,32]) 48 [] trivial ?_
  refine Runs.sA 1 [.code (C_80 6),.code (C_80 7)] ?_
  obtain ⟨rNormRat,hr,h⟩:=bindSome h
  obtain ⟨rNormRat2,hr2,h⟩:=bindSome h
  refine Runs.sR hE ⟨[(4,(.op 32 0 0)),(5,(.op 112 0 0)),(6,(.op 128 0 0))],[(32,vO 4 [(aB false),.nil,(aB false),.nil]),(112,vO 4 (TRat.cells rNormRat)),(128,vO 4 (TRat.cells rNormRat2))],176⟩ (C_80 6) [(1,⟨[],true,(.agg (TRat.cells rNormRat)),[],0,false,none⟩),(3,⟨[],true,(.agg (TRat.cells rNormRat2)),[],0,false,none⟩)] [] (kp [4,5,6]) (kq [32,112,128]) 176 [0 < 1,Sound Tryz.prog 69 [(.agg (TRat.cells x))] [] 0 (.agg (TRat.cells rNormRat)) [],0 < 1,Sound Tryz.prog 69 [(.agg (TRat.cells y))] [] 0 (.agg (TRat.cells rNormRat2)) [],0 < 1,0 < 1] ⟨o1,(g_r01_NormRat_ok N x rNormRat hr),o1,(g_r01_NormRat_ok N y rNormRat2 hr2),o1,o1,trivial⟩ ?_
  refine Runs.sA 1 [.code (C_80 14),.code (C_80 15)] ?_
  obtain ⟨rMul,hr3,h⟩:=bindSome h
  obtain ⟨rMul2,hr4,h⟩:=bindSome h
  obtain ⟨rAdd,hr5,h⟩:=bindSome h
  obtain ⟨rMul3,hr6,h⟩:=bindSome h
  obtain ⟨rOver,hr7,h⟩:=bindSome h
  refine Runs.sR hE ⟨[(4,(.op 32 0 0))],[(32,vO 4 (TRat.cells rOver))],464⟩ (C_80 14) [(4,⟨[],true,(.agg (TInt.cells rMul)),[],0,false,none⟩),(9,⟨[],true,(.agg (TInt.cells rMul2)),[],0,false,none⟩),(10,⟨[],true,(.agg (TInt.cells rAdd)),[],0,false,none⟩),(15,⟨[],true,(.agg (TInt.cells rMul3)),[],0,false,none⟩),(16,⟨[],true,(.agg (TRat.cells rOver)),[],0,false,none⟩)] [] (kp [4]) (kq [32]) 464 [0 < 1,0 < 1,Sound Tryz.prog 72 [(.agg (TInt.cells rNormRat.fN)),(.agg (TInt.cells rNormRat2.fD))] [] 0 (.agg (TInt.cells rMul)) [],0 < 1,0 < 1,Sound Tryz.prog 72 [(.agg (TInt.cells rNormRat2.fN)),(.agg (TInt.cells rNormRat.fD))] [] 0 (.agg (TInt.cells rMul2)) [],Sound Tryz.prog 71 [(.agg (TInt.cells rMul)),(.agg (TInt.cells rMul2))] [] 0 (.agg (TInt.cells rAdd)) [],0 < 1,0 < 1,Sound Tryz.prog 72 [(.agg (TInt.cells rNormRat.fD)),(.agg (TInt.cells rNormRat2.fD))] [] 0 (.agg (TInt.cells rMul3)) [],Sound Tryz.prog 70 [(.agg (TInt.cells rAdd)),(.agg (TInt.cells rMul3))] [] 0 (.agg (TRat.cells rOver)) [],0 < 1] ⟨o1,o1,(g_r01_Mul_ok N rNormRat.fN rNormRat2.fD rMul hr3),o1,o1,(g_r01_Mul_ok N rNormRat2.fN rNormRat.fD rMul2 hr4),(g_r01_Add_ok N rMul rMul2 rAdd hr5),o1,o1,(g_r01_Mul_ok N rNormRat.fD rNormRat2.fD rMul3 hr6),(g_r01_Over_ok N rAdd rMul3 rOver hr7),o1,trivial⟩ ?_
  obtain rfl:=Option.some.inj h
  refine Runs.sW hE ⟨[(4,(.op 16 0 0))],[(16,vO 4 (TRat.cells rOver))],464⟩ [] (kp [4]) [(16,.keep 32)] 464 [] trivial ?_
  exact Runs.sT Tryz.f40 [16] [0 < 1] ⟨o1,trivial⟩
noncomputable def C_95 (n:Nat):Code:=cat (bodyOf Tryz.f43) (pth n)
theorem g_r01_MulRat_ok (N:Nat) (x:TRat) (y:TRat) (r:TRat) (h:g_r01_MulRat N x y = some r):Sound Tryz.prog 43 [(.agg (TRat.cells x)),(.agg (TRat.cells y))] [] 0 (.agg (TRat.cells r)) []:=by
  unfold g_r01_MulRat at h
  refine Sound.of_runs (fu:=Tryz.f43) (c:=C_95 1) (nt:=22) (by kernel_rfl) (by kernel_rfl) (by kernel_rfl) (by kernel_rfl) (fun hm=>rfl) ?_
  intro E hE
  refine Runs.sA 1 [.code (C_95 2),.code (C_95 3)] ?_
  refine Runs.sR hE ⟨[(2,(.op 0 0 0)),(3,(.op 16 0 0)),(4,(.op 32 0 0))],[(0,vO 4 (TRat.cells x)),(16,vO 4 (TRat.cells y)),(32,vO 4 [(aB false),.nil,(aB false),.nil])],48⟩ (C_95 2) [] [] (kp [2,3,4]) (kq [0,16,32]) 48 [] trivial ?_
  refine Runs.sA 1 [.code (C_95 6),.code (C_95 7)] ?_
  obtain ⟨rNormRat,hr,h⟩:=bindSome h
  obtain ⟨rNormRat2,hr2,h⟩:=bindSome h
  refine Runs.sR hE ⟨[(4,(.op 32 0 0)),(5,(.op 112 0 0)),(6,(.op 128 0 0))],[(32,vO 4 [(aB false),.nil,(aB false),.nil]),(112,vO 4 (TRat.cells rNormRat)),(128,vO 4 (TRat.cells rNormRat2))],176⟩ (C_95 6) [(1,⟨[],true,(.agg (TRat.cells rNormRat)),[],0,false,none⟩),(3,⟨[],true,(.agg (TRat.cells rNormRat2)),[],0,false,none⟩)] [] (kp [4,5,6]) (kq [32,112,128]) 176 [0 < 1,Sound Tryz.prog 69 [(.agg (TRat.cells x))] [] 0 (.agg (TRat.cells rNormRat)) [],0 < 1,Sound Tryz.prog 69 [(.agg (TRat.cells y))] [] 0 (.agg (TRat.cells rNormRat2)) [],0 < 1,0 < 1] ⟨o1,(g_r01_NormRat_ok N x rNormRat hr),o1,(g_r01_NormRat_ok N y rNormRat2 hr2),o1,o1,trivial⟩ ?_
  refine Runs.sA 1 [.code (C_95 14),.code (C_95 15)] ?_
  obtain ⟨rMul,hr3,h⟩:=bindSome h
  obtain ⟨rMul2,hr4,h⟩:=bindSome h
  obtain ⟨rOver,hr5,h⟩:=bindSome h
  refine Runs.sR hE ⟨[(4,(.op 32 0 0))],[(32,vO 4 (TRat.cells rOver))],368⟩ (C_95 14) [(4,⟨[],true,(.agg (TInt.cells rMul)),[],0,false,none⟩),(9,⟨[],true,(.agg (TInt.cells rMul2)),[],0,false,none⟩),(10,⟨[],true,(.agg (TRat.cells rOver)),[],0,false,none⟩)] [] (kp [4]) (kq [32]) 368 [0 < 1,0 < 1,Sound Tryz.prog 72 [(.agg (TInt.cells rNormRat.fN)),(.agg (TInt.cells rNormRat2.fN))] [] 0 (.agg (TInt.cells rMul)) [],0 < 1,0 < 1,Sound Tryz.prog 72 [(.agg (TInt.cells rNormRat.fD)),(.agg (TInt.cells rNormRat2.fD))] [] 0 (.agg (TInt.cells rMul2)) [],Sound Tryz.prog 70 [(.agg (TInt.cells rMul)),(.agg (TInt.cells rMul2))] [] 0 (.agg (TRat.cells rOver)) [],0 < 1] ⟨o1,o1,(g_r01_Mul_ok N rNormRat.fN rNormRat2.fN rMul hr3),o1,o1,(g_r01_Mul_ok N rNormRat.fD rNormRat2.fD rMul2 hr4),(g_r01_Over_ok N rMul rMul2 rOver hr5),o1,trivial⟩ ?_
  obtain rfl:=Option.some.inj h
  refine Runs.sW hE ⟨[(4,(.op 16 0 0))],[(16,vO 4 (TRat.cells rOver))],368⟩ [] (kp [4]) [(16,.keep 32)] 368 [] trivial ?_
  exact Runs.sT Tryz.f43 [16] [0 < 1] ⟨o1,trivial⟩
noncomputable def C_94 (n:Nat):Code:=cat (bodyOf Tryz.f41) (pth n)
theorem g_r05_product_L1_ok (N:Nat) (l:List Int) (fuel:Nat):∀ (out:TRat) (i:Int) (r:TRat),g_r05_product_L1 N l fuel out i = some r→∀ E,EnvOk E 0→Runs Tryz.prog E 41 20 (SPost E [] (.agg (TRat.cells r))) [.code (C_94 116),.inLoop (C_94 116),.inBlock 0,.code (C_94 15)] ⟨[(0,(encL cI 0 l)),(2,(.op 0 0 0)),(3,(.op 1 0 0)),(4,(aI i))],[(0,vO 4 [(aB false),.nil,(aB false),.nil]),(1,vO 4 (TRat.cells out))],2⟩:=by
  induction fuel with
  | zero=>intro _ _ r h; rw [g_r05_product_L1.eq_1] at h; cases h
  | succ fuel ih =>
    intro out i r h E hE
    rw [g_r05_product_L1.eq_2] at h
    refine Runs.sA 2 [.code (C_94 464),.code (C_94 465),.code (C_94 233),.inLoop (C_94 116),.inBlock 0,.code (C_94 15)] ?_
    refine Runs.sR hE ⟨[(0,(encL cI 0 l)),(2,(.op 0 0 0)),(3,(.op 1 0 0)),(4,(aI i)),(9,(aB (decide (i < ((l.length:Nat):Int)))))],[(0,vO 4 [(aB false),.nil,(aB false),.nil]),(1,vO 4 (TRat.cells out))],66⟩ (C_94 464) [] [] (kp [0,2,3,4,9]) (kq [0,1]) 66 [] trivial ?_
    refine Runs.sC 9 (C_94 930) (C_94 931) (decide (i < ((l.length:Nat):Int))) (fun hq2=>?_) (fun hq2=>?_)
    · have h:=condT h hq2
      refine Runs.sA 3 [.code (C_94 932),.inBlock 1,.code (C_94 467),.inLoop (C_94 116),.inBlock 0,.code (C_94 15)] ?_
      obtain ⟨c,h⟩:=ifSome h
      obtain ⟨rQ2,hr2,h⟩:=bindSome h
      obtain ⟨rMulRat,hr3,h⟩:=bindSome h
      refine Runs.sR hE ⟨[(0,(encL cI 0 l)),(2,(.op 0 0 0)),(3,(.op 1 0 0)),(4,(aI i))],[(0,vO 4 [(aB false),.nil,(aB false),.nil]),(1,vO 4 (TRat.cells rMulRat))],194⟩ (C_94 932) [(5,⟨[],true,(.agg (TRat.cells rQ2)),[],0,false,none⟩),(6,⟨[],true,(.agg (TRat.cells rMulRat)),[],0,false,none⟩)] [] (kp [0,2,3,4]) (kq [0,1]) 194 [0 < 1,0≤i∧i < ((l.length:Nat):Int),Sound Tryz.prog 38 [(aI (l.getD ((i).toNat) 0))] [] 0 (.agg (TRat.cells rQ2)) [],Sound Tryz.prog 43 [(.agg (TRat.cells out)),(.agg (TRat.cells rQ2))] [] 0 (.agg (TRat.cells rMulRat)) [],0 < 1] ⟨o1,c,(g_r01_Q_ok N (l.getD ((i).toNat) 0) rQ2 hr2),(g_r01_MulRat_ok N out rQ2 rMulRat hr3),o1,trivial⟩ ?_
      refine Runs.sA 1 [.code (C_94 467),.inLoop (C_94 116),.inBlock 0,.code (C_94 15)] ?_
      refine Runs.sR hE ⟨[(0,(encL cI 0 l)),(2,(.op 0 0 0)),(3,(.op 1 0 0)),(4,(aI (w64 (i+1))))],[(0,vO 4 [(aB false),.nil,(aB false),.nil]),(1,vO 4 (TRat.cells rMulRat))],242⟩ (C_94 467) [] [] (kp [0,2,3,4]) (kq [0,1]) 242 [] trivial ?_
      refine Runs.sA 1 [.code (C_94 116),.inLoop (C_94 116),.inBlock 0,.code (C_94 15)] ?_
      exact Runs.sW hE _ [] (kp [0,2,3,4]) (kq [0,1]) 2 [] trivial (ih rMulRat (w64 (i+1)) _ h E hE)
    · have h:=condF h hq2
      refine Runs.sA 2 [.code (C_94 30),.code (C_94 31)] ?_
      refine Runs.sR hE ⟨[(2,(.op 0 0 0))],[(0,vO 4 (TRat.cells out))],98⟩ (C_94 30) [] [] (kp [2]) (kq [0]) 98 [0 < 1,0 < 1] ⟨o1,o1,trivial⟩ ?_
      obtain rfl:=Option.some.inj h
      refine Runs.sW hE ⟨[(2,(.op 16 0 0))],[(16,vO 4 (TRat.cells out))],98⟩ [] (kp [2]) [(16,.keep 0)] 98 [] trivial ?_
      exact Runs.sT Tryz.f41 [16] [0 < 1] ⟨o1,trivial⟩
theorem g_r05_product_ok (N:Nat) (l:List Int) (r:TRat) (h:g_r05_product N l = some r):Sound Tryz.prog 41 [(encL cI 0 l)] [] 0 (.agg (TRat.cells r)) []:=by
  unfold g_r05_product at h
  refine Sound.of_runs (fu:=Tryz.f41) (c:=C_94 1) (nt:=20) (by kernel_rfl) (by kernel_rfl) (by kernel_rfl) (by kernel_rfl) (fun hm=>rfl) ?_
  intro E hE
  refine Runs.sA 1 [.code (C_94 2),.code (C_94 3)] ?_
  refine Runs.sR hE ⟨[(0,(encL cI 0 l)),(2,(.op 0 0 0))],[(0,vO 4 [(aB false),.nil,(aB false),.nil])],16⟩ (C_94 2) [] [] (kp [0,2]) (kq [0]) 16 [] trivial ?_
  refine Runs.sA 1 [.code (C_94 6),.code (C_94 7)] ?_
  obtain ⟨rQ,hr,h⟩:=bindSome h
  refine Runs.sR hE ⟨[(0,(encL cI 0 l)),(2,(.op 0 0 0)),(3,(.op 32 0 0))],[(0,vO 4 [(aB false),.nil,(aB false),.nil]),(32,vO 4 (TRat.cells rQ))],64⟩ (C_94 6) [(0,⟨[],true,(.agg (TRat.cells rQ)),[],0,false,none⟩)] [] (kp [0,2,3]) (kq [0,32]) 64 [Sound Tryz.prog 38 [(aI 1)] [] 0 (.agg (TRat.cells rQ)) [],0 < 1] ⟨(g_r01_Q_ok N 1 rQ hr),o1,trivial⟩ ?_
  refine Runs.sA 2 [.code (C_94 28),.code (C_94 29),.code (C_94 15)] ?_
  refine Runs.sR hE ⟨[(0,(encL cI 0 l)),(2,(.op 0 0 0)),(3,(.op 32 0 0)),(4,(aI 0))],[(0,vO 4 [(aB false),.nil,(aB false),.nil]),(32,vO 4 (TRat.cells rQ))],80⟩ (C_94 28) [] [] (kp [0,2,3,4]) (kq [0,32]) 80 [] trivial ?_
  refine Runs.sA 2 [.code (C_94 116),.inLoop (C_94 116),.inBlock 0,.code (C_94 15)] ?_
  exact Runs.sW hE _ [] (kp [0,2,3,4]) (kq [0] ++ [(1,.keep 32)]) 2 [] trivial (g_r05_product_L1_ok N l N rQ 0 _ h E hE)
noncomputable def C_96 (n:Nat):Code:=cat (bodyOf Tryz.f42) (pth n)
theorem g_r05_size_ok (N:Nat) (n:Int) (r:Int) (h:g_r05_size N n = some r):Sound Tryz.prog 42 [(aI n)] [] 0 (aI r) []:=by
  unfold g_r05_size at h
  refine Sound.of_runs (fu:=Tryz.f42) (c:=C_96 1) (nt:=8) (by kernel_rfl) (by kernel_rfl) (by kernel_rfl) (by kernel_rfl) (fun hm=>rfl) ?_
  intro E hE
  refine Runs.sA 1 [.code (C_96 2),.code (C_96 3)] ?_
  refine Runs.sR hE ⟨[(0,(aI n))],[],16⟩ (C_96 2) [] [] (kp [0]) [] 16 [] trivial ?_
  refine Runs.sA 2 [.code (C_96 12),.code (C_96 13),.code (C_96 7)] ?_
  refine Runs.sR hE ⟨[(0,(aI n)),(4,(aB (decide (n < 0))))],[],48⟩ (C_96 12) [] [] (kp [0,4]) [] 48 [] trivial ?_
  refine Runs.sC 4 (C_96 26) (C_96 27) (decide (n < 0)) (fun hq2=>?_) (fun hq2=>?_)
  · have h:=condT h hq2
    refine Runs.sA 1 [.code (C_96 52),.code (C_96 53),.code (C_96 7)] ?_
    refine Runs.sR hE ⟨[(2,(aI (w64 (0 - n))))],[],96⟩ (C_96 52) [] [] (kp [2]) [] 96 [] trivial ?_
    obtain rfl:=Option.some.inj h
    refine Runs.sW hE ⟨[(2,(aI (w64 (0 - n))))],[],96⟩ [] (kp [2]) [] 96 [] trivial ?_
    exact Runs.sT Tryz.f42 [] [] trivial
  · have h:=condF h hq2
    refine Runs.sA 2 [.code (C_96 14),.code (C_96 15)] ?_
    refine Runs.sR hE ⟨[(2,(aI n))],[],80⟩ (C_96 14) [] [] (kp [2]) [] 80 [] trivial ?_
    obtain rfl:=Option.some.inj h
    refine Runs.sW hE ⟨[(2,(aI n))],[],80⟩ [] (kp [2]) [] 80 [] trivial ?_
    exact Runs.sT Tryz.f42 [] [] trivial
noncomputable def C_97 (n:Nat):Code:=cat (bodyOf Tryz.f44) (pth n)
theorem g_r01_QuoRat_ok (N:Nat) (x:TRat) (y:TRat) (r:TRat) (h:g_r01_QuoRat N x y = some r):Sound Tryz.prog 44 [(.agg (TRat.cells x)),(.agg (TRat.cells y))] [] 0 (.agg (TRat.cells r)) []:=by
  unfold g_r01_QuoRat at h
  refine Sound.of_runs (fu:=Tryz.f44) (c:=C_97 1) (nt:=22) (by kernel_rfl) (by kernel_rfl) (by kernel_rfl) (by kernel_rfl) (fun hm=>rfl) ?_
  intro E hE
  refine Runs.sA 1 [.code (C_97 2),.code (C_97 3)] ?_
  refine Runs.sR hE ⟨[(2,(.op 0 0 0)),(3,(.op 16 0 0)),(4,(.op 32 0 0))],[(0,vO 4 (TRat.cells x)),(16,vO 4 (TRat.cells y)),(32,vO 4 [(aB false),.nil,(aB false),.nil])],48⟩ (C_97 2) [] [] (kp [2,3,4]) (kq [0,16,32]) 48 [] trivial ?_
  refine Runs.sA 1 [.code (C_97 6),.code (C_97 7)] ?_
  obtain ⟨rNormRat,hr,h⟩:=bindSome h
  obtain ⟨rNormRat2,hr2,h⟩:=bindSome h
  refine Runs.sR hE ⟨[(4,(.op 32 0 0)),(5,(.op 112 0 0)),(6,(.op 128 0 0))],[(32,vO 4 [(aB false),.nil,(aB false),.nil]),(112,vO 4 (TRat.cells rNormRat)),(128,vO 4 (TRat.cells rNormRat2))],176⟩ (C_97 6) [(1,⟨[],true,(.agg (TRat.cells rNormRat)),[],0,false,none⟩),(3,⟨[],true,(.agg (TRat.cells rNormRat2)),[],0,false,none⟩)] [] (kp [4,5,6]) (kq [32,112,128]) 176 [0 < 1,Sound Tryz.prog 69 [(.agg (TRat.cells x))] [] 0 (.agg (TRat.cells rNormRat)) [],0 < 1,Sound Tryz.prog 69 [(.agg (TRat.cells y))] [] 0 (.agg (TRat.cells rNormRat2)) [],0 < 1,0 < 1] ⟨o1,(g_r01_NormRat_ok N x rNormRat hr),o1,(g_r01_NormRat_ok N y rNormRat2 hr2),o1,o1,trivial⟩ ?_
  refine Runs.sA 1 [.code (C_97 14),.code (C_97 15)] ?_
  obtain ⟨rMul,hr3,h⟩:=bindSome h
  obtain ⟨rMul2,hr4,h⟩:=bindSome h
  obtain ⟨rOver,hr5,h⟩:=bindSome h
  refine Runs.sR hE ⟨[(4,(.op 32 0 0))],[(32,vO 4 (TRat.cells rOver))],368⟩ (C_97 14) [(4,⟨[],true,(.agg (TInt.cells rMul)),[],0,false,none⟩),(9,⟨[],true,(.agg (TInt.cells rMul2)),[],0,false,none⟩),(10,⟨[],true,(.agg (TRat.cells rOver)),[],0,false,none⟩)] [] (kp [4]) (kq [32]) 368 [0 < 1,0 < 1,Sound Tryz.prog 72 [(.agg (TInt.cells rNormRat.fN)),(.agg (TInt.cells rNormRat2.fD))] [] 0 (.agg (TInt.cells rMul)) [],0 < 1,0 < 1,Sound Tryz.prog 72 [(.agg (TInt.cells rNormRat.fD)),(.agg (TInt.cells rNormRat2.fN))] [] 0 (.agg (TInt.cells rMul2)) [],Sound Tryz.prog 70 [(.agg (TInt.cells rMul)),(.agg (TInt.cells rMul2))] [] 0 (.agg (TRat.cells rOver)) [],0 < 1] ⟨o1,o1,(g_r01_Mul_ok N rNormRat.fN rNormRat2.fD rMul hr3),o1,o1,(g_r01_Mul_ok N rNormRat.fD rNormRat2.fN rMul2 hr4),(g_r01_Over_ok N rMul rMul2 rOver hr5),o1,trivial⟩ ?_
  obtain rfl:=Option.some.inj h
  refine Runs.sW hE ⟨[(4,(.op 16 0 0))],[(16,vO 4 (TRat.cells rOver))],368⟩ [] (kp [4]) [(16,.keep 32)] 368 [] trivial ?_
  exact Runs.sT Tryz.f44 [16] [0 < 1] ⟨o1,trivial⟩
noncomputable def C_100 (n:Nat):Code:=cat (bodyOf Tryz.f99) (pth n)
theorem g_r01_Neg_ok (N:Nat) (a:TInt) (r:TInt) (h:g_r01_Neg N a = some r):Sound Tryz.prog 99 [(.agg (TInt.cells a))] [] 0 (.agg (TInt.cells r)) []:=by
  unfold g_r01_Neg at h
  refine Sound.of_runs (fu:=Tryz.f99) (c:=C_100 1) (nt:=10) (by kernel_rfl) (by kernel_rfl) (by kernel_rfl) (by kernel_rfl) (fun hm=>rfl) ?_
  intro E hE
  refine Runs.sA 1 [.code (C_100 2),.code (C_100 3)] ?_
  refine Runs.sR hE ⟨[(1,(.op 0 0 0)),(2,(.op 16 0 0))],[(0,vO 2 (TInt.cells a)),(16,vO 2 [(aB false),.nil])],32⟩ (C_100 2) [] [] (kp [1,2]) (kq [0,16]) 32 [] trivial ?_
  refine Runs.sA 1 [.code (C_100 6),.code (C_100 7)] ?_
  obtain ⟨rread,hr,h⟩:=bindSome h
  obtain ⟨rmade,hr2,h⟩:=bindSome h
  refine Runs.sR hE ⟨[(2,(.op 16 0 0))],[(16,vO 2 (TInt.cells rmade))],160⟩ (C_100 6) [(5,⟨[],true,(encL cI 0 rread),[],0,false,none⟩),(6,⟨[],true,(.agg (TInt.cells rmade)),[],0,false,none⟩)] [] (kp [2]) (kq [16]) 160 [0 < 1,0 < 1,Sound Tryz.prog 92 [(encL (cU .u16) 0 a.fL)] [] 0 (encL cI 0 rread) [],Sound Tryz.prog 91 [(aB (!a.fG)),(encL cI 0 rread)] [] 0 (.agg (TInt.cells rmade)) [],0 < 1] ⟨o1,o1,(g_r01_read_ok N a.fL rread hr),(g_r01_made_ok N (!a.fG) rread rmade hr2),o1,trivial⟩ ?_
  obtain rfl:=Option.some.inj h
  refine Runs.sW hE ⟨[(2,(.op 16 0 0))],[(16,vO 2 (TInt.cells rmade))],160⟩ [] (kp [2]) (kq [16]) 160 [] trivial ?_
  exact Runs.sT Tryz.f99 [16] [0 < 1] ⟨o1,trivial⟩
noncomputable def C_99 (n:Nat):Code:=cat (bodyOf Tryz.f73) (pth n)
theorem g_r01_NegRat_ok (N:Nat) (x:TRat) (r:TRat) (h:g_r01_NegRat N x = some r):Sound Tryz.prog 73 [(.agg (TRat.cells x))] [] 0 (.agg (TRat.cells r)) []:=by
  unfold g_r01_NegRat at h
  refine Sound.of_runs (fu:=Tryz.f73) (c:=C_99 1) (nt:=12) (by kernel_rfl) (by kernel_rfl) (by kernel_rfl) (by kernel_rfl) (fun hm=>rfl) ?_
  intro E hE
  refine Runs.sA 1 [.code (C_99 2),.code (C_99 3)] ?_
  refine Runs.sR hE ⟨[(1,(.op 0 0 0)),(2,(.op 16 0 0))],[(0,vO 4 (TRat.cells x)),(16,vO 4 [(aB false),.nil,(aB false),.nil])],32⟩ (C_99 2) [] [] (kp [1,2]) (kq [0,16]) 32 [] trivial ?_
  refine Runs.sA 1 [.code (C_99 6),.code (C_99 7)] ?_
  obtain ⟨rNormRat,hr,h⟩:=bindSome h
  refine Runs.sR hE ⟨[(2,(.op 16 0 0)),(3,(.op 64 0 0))],[(16,vO 4 [(aB false),.nil,(aB false),.nil]),(64,vO 4 (TRat.cells rNormRat))],96⟩ (C_99 6) [(1,⟨[],true,(.agg (TRat.cells rNormRat)),[],0,false,none⟩)] [] (kp [2,3]) (kq [16,64]) 96 [0 < 1,Sound Tryz.prog 69 [(.agg (TRat.cells x))] [] 0 (.agg (TRat.cells rNormRat)) [],0 < 1] ⟨o1,(g_r01_NormRat_ok N x rNormRat hr),o1,trivial⟩ ?_
  refine Runs.sA 1 [.code (C_99 14),.code (C_99 15)] ?_
  obtain ⟨rNeg,hr2,h⟩:=bindSome h
  refine Runs.sR hE ⟨[(2,(.op 16 0 0))],[(16,vO 4 [(aB rNeg.fG),(encL (cU .u16) 0 rNeg.fL),(aB rNormRat.fD.fG),(encL (cU .u16) 0 rNormRat.fD.fL)])],208⟩ (C_99 14) [(2,⟨[],true,(.agg (TInt.cells rNeg)),[],0,false,none⟩)] [] (kp [2]) (kq [16]) 208 [0 < 1,Sound Tryz.prog 99 [(.agg (TInt.cells rNormRat.fN))] [] 0 (.agg (TInt.cells rNeg)) [],0 < 1,0 < 1] ⟨o1,(g_r01_Neg_ok N rNormRat.fN rNeg hr2),o1,o1,trivial⟩ ?_
  obtain rfl:=Option.some.inj h
  refine Runs.sW hE ⟨[(2,(.op 16 0 0))],[(16,vO 4 [(aB rNeg.fG),(encL (cU .u16) 0 rNeg.fL),(aB rNormRat.fD.fG),(encL (cU .u16) 0 rNormRat.fD.fL)])],208⟩ [] (kp [2]) (kq [16]) 208 [] trivial ?_
  exact Runs.sT Tryz.f73 [16] [0 < 1] ⟨o1,trivial⟩
noncomputable def C_98 (n:Nat):Code:=cat (bodyOf Tryz.f45) (pth n)
theorem g_r01_SubRat_ok (N:Nat) (x:TRat) (y:TRat) (r:TRat) (h:g_r01_SubRat N x y = some r):Sound Tryz.prog 45 [(.agg (TRat.cells x)),(.agg (TRat.cells y))] [] 0 (.agg (TRat.cells r)) []:=by
  unfold g_r01_SubRat at h
  refine Sound.of_runs (fu:=Tryz.f45) (c:=C_98 1) (nt:=9) (by kernel_rfl) (by kernel_rfl) (by kernel_rfl) (by kernel_rfl) (fun hm=>rfl) ?_
  intro E hE
  refine Runs.sA 1 [.code (C_98 2),.code (C_98 3)] ?_
  refine Runs.sR hE ⟨[(2,(.op 0 0 0)),(3,(.op 16 0 0)),(4,(.op 32 0 0))],[(0,vO 4 (TRat.cells x)),(16,vO 4 (TRat.cells y)),(32,vO 4 [(aB false),.nil,(aB false),.nil])],48⟩ (C_98 2) [] [] (kp [2,3,4]) (kq [0,16,32]) 48 [] trivial ?_
  refine Runs.sA 1 [.code (C_98 6),.code (C_98 7)] ?_
  obtain ⟨rNegRat,hr,h⟩:=bindSome h
  obtain ⟨rAddRat,hr2,h⟩:=bindSome h
  refine Runs.sR hE ⟨[(4,(.op 32 0 0))],[(32,vO 4 (TRat.cells rAddRat))],128⟩ (C_98 6) [(2,⟨[],true,(.agg (TRat.cells rNegRat)),[],0,false,none⟩),(3,⟨[],true,(.agg (TRat.cells rAddRat)),[],0,false,none⟩)] [] (kp [4]) (kq [32]) 128 [0 < 1,0 < 1,Sound Tryz.prog 73 [(.agg (TRat.cells y))] [] 0 (.agg (TRat.cells rNegRat)) [],Sound Tryz.prog 40 [(.agg (TRat.cells x)),(.agg (TRat.cells rNegRat))] [] 0 (.agg (TRat.cells rAddRat)) [],0 < 1] ⟨o1,o1,(g_r01_NegRat_ok N y rNegRat hr),(g_r01_AddRat_ok N x rNegRat rAddRat hr2),o1,trivial⟩ ?_
  obtain rfl:=Option.some.inj h
  refine Runs.sW hE ⟨[(4,(.op 16 0 0))],[(16,vO 4 (TRat.cells rAddRat))],128⟩ [] (kp [4]) [(16,.keep 32)] 128 [] trivial ?_
  exact Runs.sT Tryz.f45 [16] [0 < 1] ⟨o1,trivial⟩
noncomputable def C_75 (n:Nat):Code:=cat (bodyOf Tryz.f15) (pth n)
theorem g_r05_Float_L1_ok (N:Nat) (p:TPn) (rloads:(List TPm)) (fuel:Nat):∀ (mass:TRat) (trim:TRat) (heel:TRat) (ends:TRat) (i:Int) (r:TPose),g_r05_Float_L1 N p rloads fuel mass trim heel ends i = some r→∀ E,EnvOk E 0→Runs Tryz.prog E 15 132 (SPost E [] (.agg (TPose.cells r))) [.code (C_75 244),.inLoop (C_75 244),.inBlock 0,.code (C_75 31)] ⟨[(2,(.op 0 0 0)),(4,(.op 1 0 0)),(5,(.op 2 0 0)),(6,(.op 3 0 0)),(7,(.op 4 0 0)),(8,(.op 5 0 0)),(9,(encL TPm.cells TPm.d rloads)),(10,(aI i))],[(0,vO 5 (TPn.cells p)),(1,vO 16 [(aB false),.nil,(aB false),.nil,(aB false),.nil,(aB false),.nil,(aB false),.nil,(aB false),.nil,(aB false),.nil,(aB false),.nil]),(2,vO 4 (TRat.cells mass)),(3,vO 4 (TRat.cells trim)),(4,vO 4 (TRat.cells heel)),(5,vO 4 (TRat.cells ends))],6⟩:=by
  induction fuel with
  | zero=>intro _ _ _ _ _ r h; rw [g_r05_Float_L1.eq_1] at h; cases h
  | succ fuel ih =>
    intro mass trim heel ends i r h E hE
    rw [g_r05_Float_L1.eq_2] at h
    refine Runs.sA 2 [.code (C_75 976),.code (C_75 977),.code (C_75 489),.inLoop (C_75 244),.inBlock 0,.code (C_75 31)] ?_
    refine Runs.sR hE ⟨[(2,(.op 0 0 0)),(4,(.op 1 0 0)),(5,(.op 2 0 0)),(6,(.op 3 0 0)),(7,(.op 4 0 0)),(8,(.op 5 0 0)),(9,(encL TPm.cells TPm.d rloads)),(10,(aI i)),(26,(aB (decide (i < ((rloads.length:Nat):Int)))))],[(0,vO 5 (TPn.cells p)),(1,vO 16 [(aB false),.nil,(aB false),.nil,(aB false),.nil,(aB false),.nil,(aB false),.nil,(aB false),.nil,(aB false),.nil,(aB false),.nil]),(2,vO 4 (TRat.cells mass)),(3,vO 4 (TRat.cells trim)),(4,vO 4 (TRat.cells heel)),(5,vO 4 (TRat.cells ends))],70⟩ (C_75 976) [] [] (kp [2,4,5,6,7,8,9,10,26]) (kq [0,1,2,3,4,5]) 70 [] trivial ?_
    refine Runs.sC 26 (C_75 1954) (C_75 1955) (decide (i < ((rloads.length:Nat):Int))) (fun hq2=>?_) (fun hq2=>?_)
    · have h:=condT h hq2
      refine Runs.sA 4 [.code (C_75 3912),.code (C_75 3913),.inBlock 1,.code (C_75 979),.inLoop (C_75 244),.inBlock 0,.code (C_75 31)] ?_
      obtain ⟨c,h⟩:=ifSome h
      obtain ⟨rQ5,hr6,h⟩:=bindSome h
      obtain ⟨rAddRat,hr7,h⟩:=bindSome h
      refine Runs.sR hE ⟨[(2,(.op 0 0 0)),(4,(.op 1 0 0)),(5,(.op 2 0 0)),(6,(.op 3 0 0)),(7,(.op 4 0 0)),(8,(.op 5 0 0)),(9,(encL TPm.cells TPm.d rloads)),(10,(aI i))],[(0,vO 5 (TPn.cells p)),(1,vO 16 [(aB false),.nil,(aB false),.nil,(aB false),.nil,(aB false),.nil,(aB false),.nil,(aB false),.nil,(aB false),.nil,(aB false),.nil]),(2,vO 4 (TRat.cells rAddRat)),(3,vO 4 (TRat.cells trim)),(4,vO 4 (TRat.cells heel)),(5,vO 4 (TRat.cells ends))],214⟩ (C_75 3912) [(6,⟨[],true,(.agg (TRat.cells rQ5)),[],0,false,none⟩),(7,⟨[],true,(.agg (TRat.cells rAddRat)),[],0,false,none⟩)] [] (kp [2,4,5,6,7,8,9,10]) (kq [0,1,2,3,4,5]) 214 [0 < 1,0≤i∧i < ((rloads.length:Nat):Int),Sound Tryz.prog 38 [(aI ((rloads.getD ((i).toNat) TPm.d).fMa))] [] 0 (.agg (TRat.cells rQ5)) [],Sound Tryz.prog 40 [(.agg (TRat.cells mass)),(.agg (TRat.cells rQ5))] [] 0 (.agg (TRat.cells rAddRat)) [],0 < 1] ⟨o1,c,(g_r01_Q_ok N ((rloads.getD ((i).toNat) TPm.d).fMa) rQ5 hr6),(g_r01_AddRat_ok N mass rQ5 rAddRat hr7),o1,trivial⟩ ?_
      refine Runs.sA 1 [.code (C_75 7826),.code (C_75 7827),.inBlock 1,.code (C_75 979),.inLoop (C_75 244),.inBlock 0,.code (C_75 31)] ?_
      obtain ⟨rproduct,hr8,h⟩:=bindSome h
      obtain ⟨rAddRat2,hr9,h⟩:=bindSome h
      refine Runs.sR hE ⟨[(2,(.op 0 0 0)),(4,(.op 1 0 0)),(5,(.op 2 0 0)),(6,(.op 3 0 0)),(7,(.op 4 0 0)),(8,(.op 5 0 0)),(9,(encL TPm.cells TPm.d rloads)),(10,(aI i))],[(0,vO 5 (TPn.cells p)),(1,vO 16 [(aB false),.nil,(aB false),.nil,(aB false),.nil,(aB false),.nil,(aB false),.nil,(aB false),.nil,(aB false),.nil,(aB false),.nil]),(2,vO 4 (TRat.cells rAddRat)),(3,vO 4 (TRat.cells rAddRat2)),(4,vO 4 (TRat.cells heel)),(5,vO 4 (TRat.cells ends))],454⟩ (C_75 7826) [(12,⟨[],true,(.agg (TRat.cells rproduct)),[],0,true,none⟩),(13,⟨[],true,(.agg (TRat.cells rAddRat2)),[],0,false,none⟩)] [] (kp [2,4,5,6,7,8,9,10]) (kq [0,1,2,3,4,5]) 454 [0 < 1,0≤i∧i < ((rloads.length:Nat):Int),0≤i∧i < ((rloads.length:Nat):Int),Sound Tryz.prog 41 [(.sl 2 (fun zi=>(fun zi=>([[(aI ((rloads.getD ((i).toNat) TPm.d).fMa))],[(aI ((rloads.getD ((i).toNat) TPm.d).f_X))]]:List (List AV)).getD zi []) (addz 0 zi)))] [] 0 (.agg (TRat.cells rproduct)) [],0+2≤2,Sound Tryz.prog 40 [(.agg (TRat.cells trim)),(.agg (TRat.cells rproduct))] [] 0 (.agg (TRat.cells rAddRat2)) [],0 < 1] ⟨o1,c,c,(Sound.conv (g_r05_product_ok N ([(rloads.getD ((i).toNat) TPm.d).fMa,(rloads.getD ((i).toNat) TPm.d).f_X]:List Int) rproduct hr8) (.cons (Alike.sl rfl (fun zq hzq=>get_chunk cI 0 ([(rloads.getD ((i).toNat) TPm.d).fMa,(rloads.getD ((i).toNat) TPm.d).f_X]:List Int) zq hzq)) .nil)),z0,(g_r01_AddRat_ok N trim rproduct rAddRat2 hr9),o1,trivial⟩ ?_
      refine Runs.sA 1 [.code (C_75 15654),.code (C_75 15655),.inBlock 1,.code (C_75 979),.inLoop (C_75 244),.inBlock 0,.code (C_75 31)] ?_
      obtain ⟨rproduct2,hr10,h⟩:=bindSome h
      obtain ⟨rAddRat3,hr11,h⟩:=bindSome h
      refine Runs.sR hE ⟨[(2,(.op 0 0 0)),(4,(.op 1 0 0)),(5,(.op 2 0 0)),(6,(.op 3 0 0)),(7,(.op 4 0 0)),(8,(.op 5 0 0)),(9,(encL TPm.cells TPm.d rloads)),(10,(aI i))],[(0,vO 5 (TPn.cells p)),(1,vO 16 [(aB false),.nil,(aB false),.nil,(aB false),.nil,(aB false),.nil,(aB false),.nil,(aB false),.nil,(aB false),.nil,(aB false),.nil]),(2,vO 4 (TRat.cells rAddRat)),(3,vO 4 (TRat.cells rAddRat2)),(4,vO 4 (TRat.cells rAddRat3)),(5,vO 4 (TRat.cells ends))],694⟩ (C_75 15654) [(12,⟨[],true,(.agg (TRat.cells rproduct2)),[],0,true,none⟩),(13,⟨[],true,(.agg (TRat.cells rAddRat3)),[],0,false,none⟩)] [] (kp [2,4,5,6,7,8,9,10]) (kq [0,1,2,3,4,5]) 694 [0 < 1,0≤i∧i < ((rloads.length:Nat):Int),0≤i∧i < ((rloads.length:Nat):Int),Sound Tryz.prog 41 [(.sl 2 (fun zi=>(fun zi=>([[(aI ((rloads.getD ((i).toNat) TPm.d).fMa))],[(aI ((rloads.getD ((i).toNat) TPm.d).f_Y))]]:List (List AV)).getD zi []) (addz 0 zi)))] [] 0 (.agg (TRat.cells rproduct2)) [],0+2≤2,Sound Tryz.prog 40 [(.agg (TRat.cells heel)),(.agg (TRat.cells rproduct2))] [] 0 (.agg (TRat.cells rAddRat3)) [],0 < 1] ⟨o1,c,c,(Sound.conv (g_r05_product_ok N ([(rloads.getD ((i).toNat) TPm.d).fMa,(rloads.getD ((i).toNat) TPm.d).f_Y]:List Int) rproduct2 hr10) (.cons (Alike.sl rfl (fun zq hzq=>get_chunk cI 0 ([(rloads.getD ((i).toNat) TPm.d).fMa,(rloads.getD ((i).toNat) TPm.d).f_Y]:List Int) zq hzq)) .nil)),z0,(g_r01_AddRat_ok N heel rproduct2 rAddRat3 hr11),o1,trivial⟩ ?_
      obtain ⟨rsize,hr12,h⟩:=bindSome h
      obtain ⟨rproduct3,hr13,h⟩:=bindSome h
      obtain ⟨rAddRat4,hr14,h⟩:=bindSome h
      refine Runs.sR hE ⟨[(2,(.op 0 0 0)),(4,(.op 1 0 0)),(5,(.op 2 0 0)),(6,(.op 3 0 0)),(7,(.op 4 0 0)),(8,(.op 5 0 0)),(9,(encL TPm.cells TPm.d rloads)),(10,(aI i))],[(0,vO 5 (TPn.cells p)),(1,vO 16 [(aB false),.nil,(aB false),.nil,(aB false),.nil,(aB false),.nil,(aB false),.nil,(aB false),.nil,(aB false),.nil,(aB false),.nil]),(2,vO 4 (TRat.cells rAddRat)),(3,vO 4 (TRat.cells rAddRat2)),(4,vO 4 (TRat.cells rAddRat3)),(5,vO 4 (TRat.cells rAddRat4))],950⟩ (C_75 15655) [(11,⟨[],true,(aI rsize),[],0,false,none⟩),(13,⟨[],true,(.agg (TRat.cells rproduct3)),[],0,true,none⟩),(14,⟨[],true,(.agg (TRat.cells rAddRat4)),[],0,false,none⟩)] [] (kp [2,4,5,6,7,8,9,10]) (kq [0,1,2,3,4,5]) 950 [0 < 1,0≤i∧i < ((rloads.length:Nat):Int),0≤i∧i < ((rloads.length:Nat):Int),Sound Tryz.prog 42 [(aI ((rloads.getD ((i).toNat) TPm.d).f_X))] [] 0 (aI rsize) [],Sound Tryz.prog 41 [(.sl 2 (fun zi=>(fun zi=>([[(aI ((rloads.getD ((i).toNat) TPm.d).fMa))],[(aI rsize)]]:List (List AV)).getD zi []) (addz 0 zi)))] [] 0 (.agg (TRat.cells rproduct3)) [],0+2≤2,Sound Tryz.prog 40 [(.agg (TRat.cells ends)),(.agg (TRat.cells rproduct3))] [] 0 (.agg (TRat.cells rAddRat4)) [],0 < 1] ⟨o1,c,c,(g_r05_size_ok N ((rloads.getD ((i).toNat) TPm.d).f_X) rsize hr12),(Sound.conv (g_r05_product_ok N ([(rloads.getD ((i).toNat) TPm.d).fMa,rsize]:List Int) rproduct3 hr13) (.cons (Alike.sl rfl (fun zq hzq=>get_chunk cI 0 ([(rloads.getD ((i).toNat) TPm.d).fMa,rsize]:List Int) zq hzq)) .nil)),z0,(g_r01_AddRat_ok N ends rproduct3 rAddRat4 hr14),o1,trivial⟩ ?_
      refine Runs.sA 1 [.code (C_75 979),.inLoop (C_75 244),.inBlock 0,.code (C_75 31)] ?_
      refine Runs.sR hE ⟨[(2,(.op 0 0 0)),(4,(.op 1 0 0)),(5,(.op 2 0 0)),(6,(.op 3 0 0)),(7,(.op 4 0 0)),(8,(.op 5 0 0)),(9,(encL TPm.cells TPm.d rloads)),(10,(aI (w64 (i+1))))],[(0,vO 5 (TPn.cells p)),(1,vO 16 [(aB false),.nil,(aB false),.nil,(aB false),.nil,(aB false),.nil,(aB false),.nil,(aB false),.nil,(aB false),.nil,(aB false),.nil]),(2,vO 4 (TRat.cells rAddRat)),(3,vO 4 (TRat.cells rAddRat2)),(4,vO 4 (TRat.cells rAddRat3)),(5,vO 4 (TRat.cells rAddRat4))],998⟩ (C_75 979) [] [] (kp [2,4,5,6,7,8,9,10]) (kq [0,1,2,3,4,5]) 998 [] trivial ?_
      refine Runs.sA 1 [.code (C_75 244),.inLoop (C_75 244),.inBlock 0,.code (C_75 31)] ?_
      exact Runs.sW hE _ [] (kp [2,4,5,6,7,8,9,10]) (kq [0,1,2,3,4,5]) 6 [] trivial (ih rAddRat rAddRat2 rAddRat3 rAddRat4 (w64 (i+1)) _ h E hE)
    · have h:=condF h hq2
      refine Runs.sA 2 [.code (C_75 62),.code (C_75 63)] ?_
      refine Runs.sR hE ⟨[(4,(.op 1 0 0)),(5,(.op 2 0 0)),(6,(.op 3 0 0)),(7,(.op 4 0 0)),(8,(.op 5 0 0)),(11,(aI p.fLn)),(12,(aI p.fBr)),(13,(aI p.fDsity))],[(1,vO 16 [(aB false),.nil,(aB false),.nil,(aB false),.nil,(aB false),.nil,(aB false),.nil,(aB false),.nil,(aB false),.nil,(aB false),.nil]),(2,vO 4 (TRat.cells mass)),(3,vO 4 (TRat.cells trim)),(4,vO 4 (TRat.cells heel)),(5,vO 4 (TRat.cells ends))],214⟩ (C_75 62) [] [] (kp [4,5,6,7,8,11,12,13]) (kq [1,2,3,4,5]) 214 [0 < 1,0 < 1,0 < 1] ⟨o1,o1,o1,trivial⟩ ?_
      refine Runs.sA 1 [.code (C_75 126),.code (C_75 127)] ?_
      obtain ⟨rQ6,hr15,h⟩:=bindSome h
      refine Runs.sR hE ⟨[(4,(.op 1 0 0)),(5,(.op 2 0 0)),(6,(.op 3 0 0)),(7,(.op 4 0 0)),(8,(.op 5 0 0)),(11,(aI p.fLn)),(12,(aI p.fBr)),(13,(aI p.fDsity)),(14,(.op 230 0 0))],[(1,vO 16 [(aB false),.nil,(aB false),.nil,(aB false),.nil,(aB false),.nil,(aB false),.nil,(aB false),.nil,(aB false),.nil,(aB false),.nil]),(2,vO 4 (TRat.cells mass)),(3,vO 4 (TRat.cells trim)),(4,vO 4 (TRat.cells heel)),(5,vO 4 (TRat.cells ends)),(230,vO 4 (TRat.cells rQ6))],262⟩ (C_75 126) [(0,⟨[],true,(.agg (TRat.cells rQ6)),[],0,false,none⟩)] [] (kp [4,5,6,7,8,11,12,13,14]) (kq [1,2,3,4,5,230]) 262 [Sound Tryz.prog 38 [(aI 1000000000)] [] 0 (.agg (TRat.cells rQ6)) [],0 < 1] ⟨(g_r01_Q_ok N 1000000000 rQ6 hr15),o1,trivial⟩ ?_
      refine Runs.sA 1 [.code (C_75 254),.code (C_75 255)] ?_
      obtain ⟨rQ7,hr16,h⟩:=bindSome h
      obtain ⟨rMulRat,hr17,h⟩:=bindSome h
      refine Runs.sR hE ⟨[(4,(.op 1 0 0)),(5,(.op 2 0 0)),(6,(.op 3 0 0)),(7,(.op 4 0 0)),(8,(.op 5 0 0)),(11,(aI p.fLn)),(12,(aI p.fBr)),(13,(aI p.fDsity)),(14,(.op 230 0 0)),(15,(.op 310 0 0))],[(1,vO 16 [(aB false),.nil,(aB false),.nil,(aB false),.nil,(aB false),.nil,(aB false),.nil,(aB false),.nil,(aB false),.nil,(aB false),.nil]),(2,vO 4 (TRat.cells mass)),(3,vO 4 (TRat.cells trim)),(4,vO 4 (TRat.cells heel)),(5,vO 4 (TRat.cells ends)),(230,vO 4 (TRat.cells rQ6)),(310,vO 4 (TRat.cells rMulRat))],342⟩ (C_75 254) [(0,⟨[],true,(.agg (TRat.cells rQ7)),[],0,false,none⟩),(2,⟨[],true,(.agg (TRat.cells rMulRat)),[],0,false,none⟩)] [] (kp [4,5,6,7,8,11,12,13,14,15]) (kq [1,2,3,4,5,230,310]) 342 [Sound Tryz.prog 38 [(aI 12)] [] 0 (.agg (TRat.cells rQ7)) [],0 < 1,Sound Tryz.prog 43 [(.agg (TRat.cells rQ7)),(.agg (TRat.cells rQ6))] [] 0 (.agg (TRat.cells rMulRat)) [],0 < 1] ⟨(g_r01_Q_ok N 12 rQ7 hr16),o1,(g_r01_MulRat_ok N rQ7 rQ6 rMulRat hr17),o1,trivial⟩ ?_
      refine Runs.sA 1 [.code (C_75 510),.code (C_75 511)] ?_
      obtain ⟨rMulRat2,hr18,h⟩:=bindSome h
      obtain ⟨rproduct4,hr19,h⟩:=bindSome h
      obtain ⟨rQuoRat,hr20,h⟩:=bindSome h
      obtain ⟨rMulRat3,hr21,h⟩:=bindSome h
      obtain ⟨rproduct5,hr22,h⟩:=bindSome h
      obtain ⟨rQuoRat2,hr23,h⟩:=bindSome h
      obtain ⟨rMulRat4,hr24,h⟩:=bindSome h
      obtain ⟨rproduct6,hr25,h⟩:=bindSome h
      obtain ⟨rQuoRat3,hr26,h⟩:=bindSome h
      obtain ⟨rQ8,hr27,h⟩:=bindSome h
      obtain ⟨rQuoRat4,hr28,h⟩:=bindSome h
      obtain ⟨rQ9,hr29,h⟩:=bindSome h
      obtain ⟨rMulRat5,hr30,h⟩:=bindSome h
      obtain ⟨rQ10,hr31,h⟩:=bindSome h
      obtain ⟨rQuoRat5,hr32,h⟩:=bindSome h
      obtain ⟨rSubRat,hr33,h⟩:=bindSome h
      refine Runs.sR hE ⟨[(4,(.op 1 0 0))],[(1,vO 16 [(aB rQuoRat.fN.fG),(encL (cU .u16) 0 rQuoRat.fN.fL),(aB rQuoRat.fD.fG),(encL (cU .u16) 0 rQuoRat.fD.fL),(aB rQuoRat2.fN.fG),(encL (cU .u16) 0 rQuoRat2.fN.fL),(aB rQuoRat2.fD.fG),(encL (cU .u16) 0 rQuoRat2.fD.fL),(aB rQuoRat3.fN.fG),(encL (cU .u16) 0 rQuoRat3.fN.fL),(aB rQuoRat3.fD.fG),(encL (cU .u16) 0 rQuoRat3.fD.fL),(aB rSubRat.fN.fG),(encL (cU .u16) 0 rSubRat.fN.fL),(aB rSubRat.fD.fG),(encL (cU .u16) 0 rSubRat.fD.fL)])],1030⟩ (C_75 510) [(2,⟨[],true,(.agg (TRat.cells rMulRat2)),[],0,false,none⟩),(7,⟨[],true,(.agg (TRat.cells rproduct4)),[],0,true,none⟩),(8,⟨[],true,(.agg (TRat.cells rQuoRat)),[],0,false,none⟩),(11,⟨[],true,(.agg (TRat.cells rMulRat3)),[],0,false,none⟩),(18,⟨[],true,(.agg (TRat.cells rproduct5)),[],0,true,none⟩),(19,⟨[],true,(.agg (TRat.cells rQuoRat2)),[],0,false,none⟩),(22,⟨[],true,(.agg (TRat.cells rMulRat4)),[],0,false,none⟩),(29,⟨[],true,(.agg (TRat.cells rproduct6)),[],0,true,none⟩),(30,⟨[],true,(.agg (TRat.cells rQuoRat3)),[],0,false,none⟩),(32,⟨[],true,(.agg (TRat.cells rQ8)),[],0,false,none⟩),(33,⟨[],true,(.agg (TRat.cells rQuoRat4)),[],0,false,none⟩),(36,⟨[],true,(.agg (TRat.cells rQ9)),[],0,false,none⟩),(37,⟨[],true,(.agg (TRat.cells rMulRat5)),[],0,false,none⟩),(38,⟨[],true,(.agg (TRat.cells rQ10)),[],0,false,none⟩),(39,⟨[],true,(.agg (TRat.cells rQuoRat5)),[],0,false,none⟩),(40,⟨[],true,(.agg (TRat.cells rSubRat)),[],0,false,none⟩)] [] (kp [4]) (kq [1]) 1030 [0 < 1,0 < 1,Sound Tryz.prog 43 [(.agg (TRat.cells rQ6)),(.agg (TRat.cells mass))] [] 0 (.agg (TRat.cells rMulRat2)) [],Sound Tryz.prog 41 [(.sl 3 (fun zi=>(fun zi=>([[(aI p.fDsity)],[(aI p.fLn)],[(aI p.fBr)]]:List (List AV)).getD zi []) (addz 0 zi)))] [] 0 (.agg (TRat.cells rproduct4)) [],0+3≤3,Sound Tryz.prog 44 [(.agg (TRat.cells rMulRat2)),(.agg (TRat.cells rproduct4))] [] 0 (.agg (TRat.cells rQuoRat)) [],0 < 1,0 < 1,Sound Tryz.prog 43 [(.agg (TRat.cells rMulRat)),(.agg (TRat.cells trim))] [] 0 (.agg (TRat.cells rMulRat3)) [],Sound Tryz.prog 41 [(.sl 5 (fun zi=>(fun zi=>([[(aI p.fDsity)],[(aI p.fBr)],[(aI p.fLn)],[(aI p.fLn)],[(aI p.fLn)]]:List (List AV)).getD zi []) (addz 0 zi)))] [] 0 (.agg (TRat.cells rproduct5)) [],0+5≤5,Sound Tryz.prog 44 [(.agg (TRat.cells rMulRat3)),(.agg (TRat.cells rproduct5))] [] 0 (.agg (TRat.cells rQuoRat2)) [],0 < 1,0 < 1,Sound Tryz.prog 43 [(.agg (TRat.cells rMulRat)),(.agg (TRat.cells heel))] [] 0 (.agg (TRat.cells rMulRat4)) [],Sound Tryz.prog 41 [(.sl 5 (fun zi=>(fun zi=>([[(aI p.fDsity)],[(aI p.fLn)],[(aI p.fBr)],[(aI p.fBr)],[(aI p.fBr)]]:List (List AV)).getD zi []) (addz 0 zi)))] [] 0 (.agg (TRat.cells rproduct6)) [],0+5≤5,Sound Tryz.prog 44 [(.agg (TRat.cells rMulRat4)),(.agg (TRat.cells rproduct6))] [] 0 (.agg (TRat.cells rQuoRat3)) [],0 < 1,Sound Tryz.prog 38 [(aI 2)] [] 0 (.agg (TRat.cells rQ8)) [],Sound Tryz.prog 44 [(.agg (TRat.cells ends)),(.agg (TRat.cells rQ8))] [] 0 (.agg (TRat.cells rQuoRat4)) [],0 < 1,Sound Tryz.prog 38 [(aI p.fLn)] [] 0 (.agg (TRat.cells rQ9)) [],Sound Tryz.prog 43 [(.agg (TRat.cells mass)),(.agg (TRat.cells rQ9))] [] 0 (.agg (TRat.cells rMulRat5)) [],Sound Tryz.prog 38 [(aI 8)] [] 0 (.agg (TRat.cells rQ10)) [],Sound Tryz.prog 44 [(.agg (TRat.cells rMulRat5)),(.agg (TRat.cells rQ10))] [] 0 (.agg (TRat.cells rQuoRat5)) [],Sound Tryz.prog 45 [(.agg (TRat.cells rQuoRat4)),(.agg (TRat.cells rQuoRat5))] [] 0 (.agg (TRat.cells rSubRat)) [],0 < 1] ⟨o1,o1,(g_r01_MulRat_ok N rQ6 mass rMulRat2 hr18),(Sound.conv (g_r05_product_ok N ([p.fDsity,p.fLn,p.fBr]:List Int) rproduct4 hr19) (.cons (Alike.sl rfl (fun zq hzq=>get_chunk cI 0 ([p.fDsity,p.fLn,p.fBr]:List Int) zq hzq)) .nil)),z0,(g_r01_QuoRat_ok N rMulRat2 rproduct4 rQuoRat hr20),o1,o1,(g_r01_MulRat_ok N rMulRat trim rMulRat3 hr21),(Sound.conv (g_r05_product_ok N ([p.fDsity,p.fBr,p.fLn,p.fLn,p.fLn]:List Int) rproduct5 hr22) (.cons (Alike.sl rfl (fun zq hzq=>get_chunk cI 0 ([p.fDsity,p.fBr,p.fLn,p.fLn,p.fLn]:List Int) zq hzq)) .nil)),z0,(g_r01_QuoRat_ok N rMulRat3 rproduct5 rQuoRat2 hr23),o1,o1,(g_r01_MulRat_ok N rMulRat heel rMulRat4 hr24),(Sound.conv (g_r05_product_ok N ([p.fDsity,p.fLn,p.fBr,p.fBr,p.fBr]:List Int) rproduct6 hr25) (.cons (Alike.sl rfl (fun zq hzq=>get_chunk cI 0 ([p.fDsity,p.fLn,p.fBr,p.fBr,p.fBr]:List Int) zq hzq)) .nil)),z0,(g_r01_QuoRat_ok N rMulRat4 rproduct6 rQuoRat3 hr26),o1,(g_r01_Q_ok N 2 rQ8 hr27),(g_r01_QuoRat_ok N ends rQ8 rQuoRat4 hr28),o1,(g_r01_Q_ok N p.fLn rQ9 hr29),(g_r01_MulRat_ok N mass rQ9 rMulRat5 hr30),(g_r01_Q_ok N 8 rQ10 hr31),(g_r01_QuoRat_ok N rMulRat5 rQ10 rQuoRat5 hr32),(g_r01_SubRat_ok N rQuoRat4 rQuoRat5 rSubRat hr33),o1,trivial⟩ ?_
      obtain rfl:=Option.some.inj h
      refine Runs.sW hE ⟨[(4,(.op 16 0 0))],[(16,vO 16 [(aB rQuoRat.fN.fG),(encL (cU .u16) 0 rQuoRat.fN.fL),(aB rQuoRat.fD.fG),(encL (cU .u16) 0 rQuoRat.fD.fL),(aB rQuoRat2.fN.fG),(encL (cU .u16) 0 rQuoRat2.fN.fL),(aB rQuoRat2.fD.fG),(encL (cU .u16) 0 rQuoRat2.fD.fL),(aB rQuoRat3.fN.fG),(encL (cU .u16) 0 rQuoRat3.fN.fL),(aB rQuoRat3.fD.fG),(encL (cU .u16) 0 rQuoRat3.fD.fL),(aB rSubRat.fN.fG),(encL (cU .u16) 0 rSubRat.fN.fL),(aB rSubRat.fD.fG),(encL (cU .u16) 0 rSubRat.fD.fL)])],1030⟩ [] (kp [4]) [(16,.keep 1)] 1030 [] trivial ?_
      exact Runs.sT Tryz.f15 [16] [0 < 1] ⟨o1,trivial⟩
theorem g_r05_Float_ok (N:Nat) (p:TPn) (steps:List Int) (r:TPose) (h:g_r05_Float N p steps = some r):Sound Tryz.prog 15 [(.agg (TPn.cells p)),(encL cI 0 steps)] [] 0 (.agg (TPose.cells r)) []:=by
  unfold g_r05_Float at h
  refine Sound.of_runs (fu:=Tryz.f15) (c:=C_75 1) (nt:=132) (by kernel_rfl) (by kernel_rfl) (by kernel_rfl) (by kernel_rfl) (fun hm=>rfl) ?_
  intro E hE
  refine Runs.sA 1 [.code (C_75 2),.code (C_75 3)] ?_
  refine Runs.sR hE ⟨[(1,(encL cI 0 steps)),(2,(.op 0 0 0)),(4,(.op 16 0 0))],[(0,vO 5 (TPn.cells p)),(16,vO 16 [(aB false),.nil,(aB false),.nil,(aB false),.nil,(aB false),.nil,(aB false),.nil,(aB false),.nil,(aB false),.nil,(aB false),.nil])],32⟩ (C_75 2) [] [] (kp [1,2,4]) (kq [0,16]) 32 [] trivial ?_
  refine Runs.sA 1 [.code (C_75 6),.code (C_75 7)] ?_
  obtain ⟨rQ,hr,h⟩:=bindSome h
  obtain ⟨rQ2,hr2,h⟩:=bindSome h
  obtain ⟨rQ3,hr3,h⟩:=bindSome h
  obtain ⟨rQ4,hr4,h⟩:=bindSome h
  refine Runs.sR hE ⟨[(1,(encL cI 0 steps)),(2,(.op 0 0 0)),(4,(.op 16 0 0)),(5,(.op 96 0 0)),(6,(.op 112 0 0)),(7,(.op 128 0 0)),(8,(.op 144 0 0))],[(0,vO 5 (TPn.cells p)),(16,vO 16 [(aB false),.nil,(aB false),.nil,(aB false),.nil,(aB false),.nil,(aB false),.nil,(aB false),.nil,(aB false),.nil,(aB false),.nil]),(96,vO 4 (TRat.cells rQ)),(112,vO 4 (TRat.cells rQ2)),(128,vO 4 (TRat.cells rQ3)),(144,vO 4 (TRat.cells rQ4))],224⟩ (C_75 6) [(0,⟨[],true,(.agg (TRat.cells rQ)),[],0,false,none⟩),(1,⟨[],true,(.agg (TRat.cells rQ2)),[],0,false,none⟩),(2,⟨[],true,(.agg (TRat.cells rQ3)),[],0,false,none⟩),(3,⟨[],true,(.agg (TRat.cells rQ4)),[],0,false,none⟩)] [] (kp [1,2,4,5,6,7,8]) (kq [0,16,96,112,128,144]) 224 [Sound Tryz.prog 38 [(aI 0)] [] 0 (.agg (TRat.cells rQ)) [],Sound Tryz.prog 38 [(aI 0)] [] 0 (.agg (TRat.cells rQ2)) [],Sound Tryz.prog 38 [(aI 0)] [] 0 (.agg (TRat.cells rQ3)) [],Sound Tryz.prog 38 [(aI 0)] [] 0 (.agg (TRat.cells rQ4)) [],0 < 1,0 < 1,0 < 1,0 < 1] ⟨(g_r01_Q_ok N 0 rQ hr),(g_r01_Q_ok N 0 rQ2 hr2),(g_r01_Q_ok N 0 rQ3 hr3),(g_r01_Q_ok N 0 rQ4 hr4),o1,o1,o1,o1,trivial⟩ ?_
  refine Runs.sA 1 [.code (C_75 14),.code (C_75 15)] ?_
  obtain ⟨rloads,hr5,h⟩:=bindSome h
  refine Runs.sR hE ⟨[(2,(.op 0 0 0)),(4,(.op 16 0 0)),(5,(.op 96 0 0)),(6,(.op 112 0 0)),(7,(.op 128 0 0)),(8,(.op 144 0 0)),(9,(encL TPm.cells TPm.d rloads))],[(0,vO 5 (TPn.cells p)),(16,vO 16 [(aB false),.nil,(aB false),.nil,(aB false),.nil,(aB false),.nil,(aB false),.nil,(aB false),.nil,(aB false),.nil,(aB false),.nil]),(96,vO 4 (TRat.cells rQ)),(112,vO 4 (TRat.cells rQ2)),(128,vO 4 (TRat.cells rQ3)),(144,vO 4 (TRat.cells rQ4))],288⟩ (C_75 14) [(2,⟨[],true,(encL TPm.cells TPm.d rloads),[],0,false,none⟩)] [] (kp [2,4,5,6,7,8,9]) (kq [0,16,96,112,128,144]) 288 [0 < 1,Sound Tryz.prog 39 [(.agg (TPn.cells p)),(encL cI 0 steps)] [] 0 (encL TPm.cells TPm.d rloads) []] ⟨o1,(g_r05_loads_ok N p steps rloads hr5),trivial⟩ ?_
  refine Runs.sA 2 [.code (C_75 60),.code (C_75 61),.code (C_75 31)] ?_
  refine Runs.sR hE ⟨[(2,(.op 0 0 0)),(4,(.op 16 0 0)),(5,(.op 96 0 0)),(6,(.op 112 0 0)),(7,(.op 128 0 0)),(8,(.op 144 0 0)),(9,(encL TPm.cells TPm.d rloads)),(10,(aI 0))],[(0,vO 5 (TPn.cells p)),(16,vO 16 [(aB false),.nil,(aB false),.nil,(aB false),.nil,(aB false),.nil,(aB false),.nil,(aB false),.nil,(aB false),.nil,(aB false),.nil]),(96,vO 4 (TRat.cells rQ)),(112,vO 4 (TRat.cells rQ2)),(128,vO 4 (TRat.cells rQ3)),(144,vO 4 (TRat.cells rQ4))],304⟩ (C_75 60) [] [] (kp [2,4,5,6,7,8,9,10]) (kq [0,16,96,112,128,144]) 304 [] trivial ?_
  refine Runs.sA 2 [.code (C_75 244),.inLoop (C_75 244),.inBlock 0,.code (C_75 31)] ?_
  exact Runs.sW hE _ [] (kp [2,4,5,6,7,8,9,10]) (kq [0] ++ [(1,.keep 16),(2,.keep 96),(3,.keep 112),(4,.keep 128),(5,.keep 144)]) 6 [] trivial (g_r05_Float_L1_ok N p rloads N rQ rQ2 rQ3 rQ4 0 _ h E hE)
noncomputable def C_104 (n:Nat):Code:=cat (bodyOf Tryz.f115) (pth n)
theorem g_r01_Sign_ok (N:Nat) (a:TInt) (r:Int) (h:g_r01_Sign N a = some r):Sound Tryz.prog 115 [(.agg (TInt.cells a))] [] 0 (aI r) []:=by
  unfold g_r01_Sign at h
  refine Sound.of_runs (fu:=Tryz.f115) (c:=C_104 1) (nt:=10) (by kernel_rfl) (by kernel_rfl) (by kernel_rfl) (by kernel_rfl) (fun hm=>rfl) ?_
  intro E hE
  refine Runs.sA 1 [.code (C_104 2),.code (C_104 3)] ?_
  refine Runs.sR hE ⟨[(1,(.op 0 0 0))],[(0,vO 2 (TInt.cells a))],32⟩ (C_104 2) [] [] (kp [1]) (kq [0]) 32 [] trivial ?_
  refine Runs.sA 2 [.code (C_104 12),.code (C_104 13),.code (C_104 7)] ?_
  obtain ⟨rread,hr,h⟩:=bindSome h
  refine Runs.sR hE ⟨[(1,(.op 0 0 0)),(7,(aB (((rread.length:Nat):Int) == 0)))],[(0,vO 2 (TInt.cells a))],112⟩ (C_104 12) [(2,⟨[],true,(encL cI 0 rread),[],0,false,none⟩)] [] (kp [1,7]) (kq [0]) 112 [0 < 1,Sound Tryz.prog 92 [(encL (cU .u16) 0 a.fL)] [] 0 (encL cI 0 rread) []] ⟨o1,(g_r01_read_ok N a.fL rread hr),trivial⟩ ?_
  refine Runs.sC 7 (C_104 26) (C_104 27) (((rread.length:Nat):Int) == 0) (fun hq2=>?_) (fun hq2=>?_)
  · have h:=condT h hq2
    refine Runs.sA 1 [.code (C_104 52),.code (C_104 53),.code (C_104 7)] ?_
    refine Runs.sR hE ⟨[(2,(aI 0))],[],128⟩ (C_104 52) [] [] (kp [2]) [] 128 [] trivial ?_
    obtain rfl:=Option.some.inj h
    refine Runs.sW hE ⟨[(2,(aI 0))],[],128⟩ [] (kp [2]) [] 128 [] trivial ?_
    exact Runs.sT Tryz.f115 [] [] trivial
  · have h:=condF h hq2
    refine Runs.sA 3 [.code (C_104 28),.code (C_104 29),.code (C_104 15)] ?_
    refine Runs.sR hE ⟨[(9,(aB a.fG))],[],144⟩ (C_104 28) [] [] (kp [9]) [] 144 [0 < 1] ⟨o1,trivial⟩ ?_
    refine Runs.sC 9 (C_104 58) (C_104 59) a.fG (fun hq3=>?_) (fun hq3=>?_)
    · have h:=condT h hq3
      refine Runs.sA 1 [.code (C_104 116),.code (C_104 117),.code (C_104 15)] ?_
      refine Runs.sR hE ⟨[(2,(aI (-1)))],[],160⟩ (C_104 116) [] [] (kp [2]) [] 160 [] trivial ?_
      obtain rfl:=Option.some.inj h
      refine Runs.sW hE ⟨[(2,(aI (-1)))],[],160⟩ [] (kp [2]) [] 160 [] trivial ?_
      exact Runs.sT Tryz.f115 [] [] trivial
    · have h:=condF h hq3
      refine Runs.sA 2 [.code (C_104 30),.code (C_104 31)] ?_
      refine Runs.sR hE ⟨[(2,(aI 1))],[],160⟩ (C_104 30) [] [] (kp [2]) [] 160 [] trivial ?_
      obtain rfl:=Option.some.inj h
      refine Runs.sW hE ⟨[(2,(aI 1))],[],160⟩ [] (kp [2]) [] 160 [] trivial ?_
      exact Runs.sT Tryz.f115 [] [] trivial
noncomputable def C_103 (n:Nat):Code:=cat (bodyOf Tryz.f100) (pth n)
theorem g_r01_SignRat_ok (N:Nat) (x:TRat) (r:Int) (h:g_r01_SignRat N x = some r):Sound Tryz.prog 100 [(.agg (TRat.cells x))] [] 0 (aI r) []:=by
  unfold g_r01_SignRat at h
  refine Sound.of_runs (fu:=Tryz.f100) (c:=C_103 1) (nt:=7) (by kernel_rfl) (by kernel_rfl) (by kernel_rfl) (by kernel_rfl) (fun hm=>rfl) ?_
  intro E hE
  refine Runs.sA 1 [.code (C_103 2),.code (C_103 3)] ?_
  refine Runs.sR hE ⟨[(1,(.op 0 0 0))],[(0,vO 4 (TRat.cells x))],32⟩ (C_103 2) [] [] (kp [1]) (kq [0]) 32 [] trivial ?_
  refine Runs.sA 1 [.code (C_103 6),.code (C_103 7)] ?_
  obtain ⟨rNormRat,hr,h⟩:=bindSome h
  obtain ⟨rSign,hr2,h⟩:=bindSome h
  refine Runs.sR hE ⟨[(2,(aI rSign))],[],112⟩ (C_103 6) [(1,⟨[],true,(.agg (TRat.cells rNormRat)),[],0,false,none⟩),(3,⟨[],true,(aI rSign),[],0,false,none⟩)] [] (kp [2]) [] 112 [0 < 1,Sound Tryz.prog 69 [(.agg (TRat.cells x))] [] 0 (.agg (TRat.cells rNormRat)) [],Sound Tryz.prog 115 [(.agg (TInt.cells rNormRat.fN))] [] 0 (aI rSign) []] ⟨o1,(g_r01_NormRat_ok N x rNormRat hr),(g_r01_Sign_ok N rNormRat.fN rSign hr2),trivial⟩ ?_
  obtain rfl:=Option.some.inj h
  refine Runs.sW hE ⟨[(2,(aI rSign))],[],112⟩ [] (kp [2]) [] 112 [] trivial ?_
  exact Runs.sT Tryz.f100 [] [] trivial
noncomputable def C_102 (n:Nat):Code:=cat (bodyOf Tryz.f74) (pth n)
theorem g_r01_CmpRat_ok (N:Nat) (x:TRat) (y:TRat) (r:Int) (h:g_r01_CmpRat N x y = some r):Sound Tryz.prog 74 [(.agg (TRat.cells x)),(.agg (TRat.cells y))] [] 0 (aI r) []:=by
  unfold g_r01_CmpRat at h
  refine Sound.of_runs (fu:=Tryz.f74) (c:=C_102 1) (nt:=9) (by kernel_rfl) (by kernel_rfl) (by kernel_rfl) (by kernel_rfl) (fun hm=>rfl) ?_
  intro E hE
  refine Runs.sA 1 [.code (C_102 2),.code (C_102 3)] ?_
  refine Runs.sR hE ⟨[(2,(.op 0 0 0)),(3,(.op 16 0 0))],[(0,vO 4 (TRat.cells x)),(16,vO 4 (TRat.cells y))],48⟩ (C_102 2) [] [] (kp [2,3]) (kq [0,16]) 48 [] trivial ?_
  refine Runs.sA 1 [.code (C_102 6),.code (C_102 7)] ?_
  obtain ⟨rSubRat,hr,h⟩:=bindSome h
  obtain ⟨rSignRat,hr2,h⟩:=bindSome h
  refine Runs.sR hE ⟨[(4,(aI rSignRat))],[],128⟩ (C_102 6) [(2,⟨[],true,(.agg (TRat.cells rSubRat)),[],0,false,none⟩),(3,⟨[],true,(aI rSignRat),[],0,false,none⟩)] [] (kp [4]) [] 128 [0 < 1,0 < 1,Sound Tryz.prog 45 [(.agg (TRat.cells x)),(.agg (TRat.cells y))] [] 0 (.agg (TRat.cells rSubRat)) [],Sound Tryz.prog 100 [(.agg (TRat.cells rSubRat))] [] 0 (aI rSignRat) []] ⟨o1,o1,(g_r01_SubRat_ok N x y rSubRat hr),(g_r01_SignRat_ok N rSubRat rSignRat hr2),trivial⟩ ?_
  obtain rfl:=Option.some.inj h
  refine Runs.sW hE ⟨[(4,(aI rSignRat))],[],128⟩ [] (kp [4]) [] 128 [] trivial ?_
  exact Runs.sT Tryz.f74 [] [] trivial
noncomputable def C_101 (n:Nat):Code:=cat (bodyOf Tryz.f46) (pth n)
theorem g_r05_between_ok (N:Nat) (x:TRat) (low:Int) (high:Int) (r:Bool) (h:g_r05_between N x low high = some r):Sound Tryz.prog 46 [(.agg (TRat.cells x)),(aI low),(aI high)] [] 0 (aB r) []:=by
  unfold g_r05_between at h
  refine Sound.of_runs (fu:=Tryz.f46) (c:=C_101 1) (nt:=19) (by kernel_rfl) (by kernel_rfl) (by kernel_rfl) (by kernel_rfl) (fun hm=>rfl) ?_
  intro E hE
  refine Runs.sA 1 [.code (C_101 2),.code (C_101 3)] ?_
  refine Runs.sR hE ⟨[(1,(aI low)),(2,(aI high)),(3,(.op 0 0 0))],[(0,vO 4 (TRat.cells x))],32⟩ (C_101 2) [] [] (kp [1,2,3]) (kq [0]) 32 [] trivial ?_
  refine Runs.sA 1 [.code (C_101 6),.code (C_101 7)] ?_
  obtain ⟨rQ,hr,h⟩:=bindSome h
  obtain ⟨rCmpRat,hr2,h⟩:=bindSome h
  obtain ⟨rQ2,hr3,h⟩:=bindSome h
  obtain ⟨rCmpRat2,hr4,h⟩:=bindSome h
  refine Runs.sR hE ⟨[(6,(aB (cond (decide (rCmpRat ≥ 0)) (decide (rCmpRat2≤0)) false)))],[],240⟩ (C_101 6) [(2,⟨[],true,(.agg (TRat.cells rQ)),[],0,false,none⟩),(3,⟨[],true,(aI rCmpRat),[],0,false,none⟩),(8,⟨[],true,(.agg (TRat.cells rQ2)),[],0,false,none⟩),(9,⟨[],true,(aI rCmpRat2),[],0,false,none⟩)] [] (kp [6]) [] 240 [0 < 1,Sound Tryz.prog 38 [(aI low)] [] 0 (.agg (TRat.cells rQ)) [],Sound Tryz.prog 74 [(.agg (TRat.cells x)),(.agg (TRat.cells rQ))] [] 0 (aI rCmpRat) [],(decide (rCmpRat ≥ 0)) = true→AllP [0 < 1],(decide (rCmpRat ≥ 0)) = true→AllP [Sound Tryz.prog 38 [(aI high)] [] 0 (.agg (TRat.cells rQ2)) [],(decide (rCmpRat ≥ 0)) = true],(decide (rCmpRat ≥ 0)) = true→AllP [Sound Tryz.prog 74 [(.agg (TRat.cells x)),(.agg (TRat.cells rQ2))] [] 0 (aI rCmpRat2) [],(decide (rCmpRat ≥ 0)) = true,(decide (rCmpRat ≥ 0)) = true],(decide (rCmpRat ≥ 0)) = true→AllP [(decide (rCmpRat ≥ 0)) = true],(decide (rCmpRat ≥ 0)) = true→AllP [(decide (rCmpRat ≥ 0)) = true]] ⟨o1,(g_r01_Q_ok N low rQ hr),(g_r01_CmpRat_ok N x rQ rCmpRat hr2),(fun hg=>⟨o1,trivial⟩),(fun hg=>⟨(g_r01_Q_ok N high rQ2 (condT hr3 hg)),hg,trivial⟩),(fun hg=>⟨(g_r01_CmpRat_ok N x rQ2 rCmpRat2 (condT hr4 hg)),hg,hg,trivial⟩),(fun hg=>⟨hg,trivial⟩),(fun hq=>⟨hq,trivial⟩),trivial⟩ ?_
  obtain rfl:=Option.some.inj h
  refine Runs.sW hE ⟨[(6,(aB (cond (decide (rCmpRat ≥ 0)) (decide (rCmpRat2≤0)) false)))],[],240⟩ [] (kp [6]) [] 240 [] trivial ?_
  exact Runs.sT Tryz.f46 [] [] trivial
noncomputable def C_105 (n:Nat):Code:=cat (bodyOf Tryz.f47) (pth n)
theorem g_r05_atMost_ok (N:Nat) (x:TRat) (vby:Int) (most:Int) (r:Bool) (h:g_r05_atMost N x vby most = some r):Sound Tryz.prog 47 [(.agg (TRat.cells x)),(aI vby),(aI most)] [] 0 (aB r) []:=by
  unfold g_r05_atMost at h
  refine Sound.of_runs (fu:=Tryz.f47) (c:=C_105 1) (nt:=25) (by kernel_rfl) (by kernel_rfl) (by kernel_rfl) (by kernel_rfl) (fun hm=>rfl) ?_
  intro E hE
  refine Runs.sA 1 [.code (C_105 2),.code (C_105 3)] ?_
  refine Runs.sR hE ⟨[(1,(aI vby)),(2,(aI most)),(3,(.op 0 0 0))],[(0,vO 4 (TRat.cells x))],32⟩ (C_105 2) [] [] (kp [1,2,3]) (kq [0]) 32 [] trivial ?_
  refine Runs.sA 1 [.code (C_105 6),.code (C_105 7)] ?_
  obtain ⟨rQ,hr,h⟩:=bindSome h
  obtain ⟨rMulRat,hr2,h⟩:=bindSome h
  refine Runs.sR hE ⟨[(2,(aI most)),(7,(.op 96 0 0))],[(96,vO 4 (TRat.cells rMulRat))],128⟩ (C_105 6) [(2,⟨[],true,(.agg (TRat.cells rQ)),[],0,false,none⟩),(3,⟨[],true,(.agg (TRat.cells rMulRat)),[],0,false,none⟩)] [] (kp [2,7]) (kq [96]) 128 [0 < 1,Sound Tryz.prog 38 [(aI vby)] [] 0 (.agg (TRat.cells rQ)) [],Sound Tryz.prog 43 [(.agg (TRat.cells x)),(.agg (TRat.cells rQ))] [] 0 (.agg (TRat.cells rMulRat)) [],0 < 1] ⟨o1,(g_r01_Q_ok N vby rQ hr),(g_r01_MulRat_ok N x rQ rMulRat hr2),o1,trivial⟩ ?_
  refine Runs.sA 1 [.code (C_105 14),.code (C_105 15)] ?_
  obtain ⟨rQ2,hr3,h⟩:=bindSome h
  obtain ⟨rCmpRat,hr4,h⟩:=bindSome h
  obtain ⟨rNegRat,hr5,h⟩:=bindSome h
  obtain ⟨rQ3,hr6,h⟩:=bindSome h
  obtain ⟨rCmpRat2,hr7,h⟩:=bindSome h
  refine Runs.sR hE ⟨[(6,(aB (cond (decide (rCmpRat≤0)) (decide (rCmpRat2≤0)) false)))],[],352⟩ (C_105 14) [(2,⟨[],true,(.agg (TRat.cells rQ2)),[],0,false,none⟩),(3,⟨[],true,(aI rCmpRat),[],0,false,none⟩),(7,⟨[],true,(.agg (TRat.cells rNegRat)),[],0,false,none⟩),(9,⟨[],true,(.agg (TRat.cells rQ3)),[],0,false,none⟩),(10,⟨[],true,(aI rCmpRat2),[],0,false,none⟩)] [] (kp [6]) [] 352 [0 < 1,Sound Tryz.prog 38 [(aI most)] [] 0 (.agg (TRat.cells rQ2)) [],Sound Tryz.prog 74 [(.agg (TRat.cells rMulRat)),(.agg (TRat.cells rQ2))] [] 0 (aI rCmpRat) [],(decide (rCmpRat≤0)) = true→AllP [0 < 1],(decide (rCmpRat≤0)) = true→AllP [Sound Tryz.prog 73 [(.agg (TRat.cells rMulRat))] [] 0 (.agg (TRat.cells rNegRat)) [],(decide (rCmpRat≤0)) = true],(decide (rCmpRat≤0)) = true→AllP [Sound Tryz.prog 38 [(aI most)] [] 0 (.agg (TRat.cells rQ3)) [],(decide (rCmpRat≤0)) = true],(decide (rCmpRat≤0)) = true→AllP [Sound Tryz.prog 74 [(.agg (TRat.cells rNegRat)),(.agg (TRat.cells rQ3))] [] 0 (aI rCmpRat2) [],(decide (rCmpRat≤0)) = true,(decide (rCmpRat≤0)) = true],(decide (rCmpRat≤0)) = true→AllP [(decide (rCmpRat≤0)) = true],(decide (rCmpRat≤0)) = true→AllP [(decide (rCmpRat≤0)) = true]] ⟨o1,(g_r01_Q_ok N most rQ2 hr3),(g_r01_CmpRat_ok N rMulRat rQ2 rCmpRat hr4),(fun hg=>⟨o1,trivial⟩),(fun hg=>⟨(g_r01_NegRat_ok N rMulRat rNegRat (condT hr5 hg)),hg,trivial⟩),(fun hg=>⟨(g_r01_Q_ok N most rQ3 (condT hr6 hg)),hg,trivial⟩),(fun hg=>⟨(g_r01_CmpRat_ok N rNegRat rQ3 rCmpRat2 (condT hr7 hg)),hg,hg,trivial⟩),(fun hg=>⟨hg,trivial⟩),(fun hq=>⟨hq,trivial⟩),trivial⟩ ?_
  obtain rfl:=Option.some.inj h
  refine Runs.sW hE ⟨[(6,(aB (cond (decide (rCmpRat≤0)) (decide (rCmpRat2≤0)) false)))],[],352⟩ [] (kp [6]) [] 352 [] trivial ?_
  exact Runs.sT Tryz.f47 [] [] trivial
noncomputable def C_74 (n:Nat):Code:=cat (bodyOf Tryz.f17) (pth n)
theorem g_r05_Broken_J4_ok (N:Nat) (out4:List ByteArray) (r:(List ByteArray)) (h:g_r05_Broken_J4 N out4 = some r):∀ E,EnvOk E 0→Runs Tryz.prog E 17 51 (SPost E [] (encL cS ByteArray.empty r)) [.code (C_74 510),.code (C_74 511)] ⟨[(8,(.os 0 0 out4.length))],[(0,aO 1 cS ByteArray.empty out4)],1⟩:=by
  intro E hE
  unfold g_r05_Broken_J4 at h
  refine Runs.sR hE ⟨[(6,(.os 0 0 out4.length))],[(0,aO 1 cS ByteArray.empty out4)],33⟩ (C_74 510) [] [] (kp [6]) (kq [0]) 33 [] trivial ?_
  obtain rfl:=Option.some.inj h
  refine Runs.sW hE ⟨[(6,(encL cS ByteArray.empty out4))],[],48⟩ [0] [(6,.sl (out4.length) (fun zi=>cS (out4.getD zi ByteArray.empty)))] [] 48 [out4.length = out4.length,0+out4.length≤out4.length,∀ zi,zi < out4.length→(fun zi=>cS (out4.getD zi ByteArray.empty)) zi = (fun zi=>cS (out4.getD zi ByteArray.empty)) (addz 0 zi)] ⟨rfl,z0,(fun _ _=>rfl),trivial⟩ ?_
  exact Runs.sT Tryz.f17 [] [] trivial
theorem g_r05_Broken_J3_ok (N:Nat) (l:TLimits) (rFloat:TPose) (out3:List ByteArray) (r:(List ByteArray)) (h:g_r05_Broken_J3 N l rFloat out3 = some r):∀ E,EnvOk E 0→Runs Tryz.prog E 17 51 (SPost E [] (encL cS ByteArray.empty r)) [.code (C_74 508),.code (C_74 509),.code (C_74 255)] ⟨[(4,(.op 0 0 0)),(7,(.op 1 0 0)),(8,(.os 2 0 out3.length))],[(0,vO 5 (TLimits.cells l)),(1,vO 16 (TPose.cells rFloat)),(2,aO 1 cS ByteArray.empty out3)],3⟩:=by
  intro E hE
  unfold g_r05_Broken_J3 at h
  obtain ⟨ratMost3,hr5,h⟩:=bindSome h
  refine Runs.sR hE ⟨[(8,(.os 2 0 out3.length)),(46,(aB (!ratMost3)))],[(2,aO 1 cS ByteArray.empty out3)],99⟩ (C_74 508) [(4,⟨[],true,(aB ratMost3),[],0,false,none⟩)] [] (kp [8,46]) (kq [2]) 99 [0 < 1,0 < 1,Sound Tryz.prog 47 [(.agg (TRat.cells rFloat.f_Hog)),(aI 1),(aI l.f_HogMost)] [] 0 (aB ratMost3) []] ⟨o1,o1,(g_r05_atMost_ok N rFloat.f_Hog 1 l.f_HogMost ratMost3 hr5),trivial⟩ ?_
  refine Runs.sC 46 (C_74 1018) (C_74 1019) (!ratMost3) (fun hq5=>?_) (fun hq5=>?_)
  · have h:=condT h hq5
    obtain ⟨c3,h⟩:=ifSome h
    refine Runs.sR hE ⟨[(8,(.os 131 0 ((out3 ++ ([(⟨#[104,111,103]⟩:ByteArray)]:List ByteArray)).length)))],[(131,aO 1 cS ByteArray.empty (out3 ++ ([(⟨#[104,111,103]⟩:ByteArray)]:List ByteArray)))],163⟩ (C_74 1018) [] [] [(8,.osl ((out3 ++ ([(⟨#[104,111,103]⟩:ByteArray)]:List ByteArray)).length))] [(131,.arr 131 ((out3 ++ ([(⟨#[104,111,103]⟩:ByteArray)]:List ByteArray)).length) (fun zi=>cS ((out3 ++ ([(⟨#[104,111,103]⟩:ByteArray)]:List ByteArray)).getD zi ByteArray.empty)))] 163 [out3.length = out3.length,(out3.length+1) * 16≤140737488355328,0+1≤1,∀ zi,zi < 1→AV.oneL ((fun zi=>([[(aS (⟨#[104,111,103]⟩:ByteArray))]]:List (List AV)).getD zi []) (addz 0 zi)) = true,(out3.length+1) = (out3 ++ ([(⟨#[104,111,103]⟩:ByteArray)]:List ByteArray)).length,out3.length+1 = (out3 ++ ([(⟨#[104,111,103]⟩:ByteArray)]:List ByteArray)).length,∀ zi,zi < (out3 ++ ([(⟨#[104,111,103]⟩:ByteArray)]:List ByteArray)).length→(fun zi=>cS ((out3 ++ ([(⟨#[104,111,103]⟩:ByteArray)]:List ByteArray)).getD zi ByteArray.empty)) zi = ((fun zm=>if zm < out3.length then (fun zi=>cS (out3.getD zi ByteArray.empty)) zm else (fun zi=>([[(aS (⟨#[104,111,103]⟩:ByteArray))]]:List (List AV)).getD zi []) (zm - out3.length))) zi] ⟨rfl,c3,z0,(oneN rfl),(len_app_raw rfl rfl),(len_app_raw rfl rfl),(get_app_raw cS ByteArray.empty out3 ([(⟨#[104,111,103]⟩:ByteArray)]:List ByteArray) rfl (fun _ _=>rfl) (fun zq hzq=>get_chunk cS ByteArray.empty ([(⟨#[104,111,103]⟩:ByteArray)]:List ByteArray) zq hzq)),trivial⟩ ?_
    refine Runs.sA 1 [.code (C_74 510),.code (C_74 511)] ?_
    exact Runs.sW hE _ [] (kp [8]) [(0,.keep 131)] 1 [] trivial (g_r05_Broken_J4_ok N (out3 ++ ([(⟨#[104,111,103]⟩:ByteArray)]:List ByteArray)) _ h E hE)
  · have h:=condF h hq5
    refine Runs.sA 2 [.code (C_74 510),.code (C_74 511)] ?_
    exact Runs.sW hE _ [] (kp [8]) [(0,.keep 2)] 1 [] trivial (g_r05_Broken_J4_ok N out3 _ h E hE)
theorem g_r05_Broken_J2_ok (N:Nat) (l:TLimits) (rFloat:TPose) (out2:List ByteArray) (r:(List ByteArray)) (h:g_r05_Broken_J2 N l rFloat out2 = some r):∀ E,EnvOk E 0→Runs Tryz.prog E 17 51 (SPost E [] (encL cS ByteArray.empty r)) [.code (C_74 252),.code (C_74 253),.code (C_74 127)] ⟨[(4,(.op 0 0 0)),(7,(.op 1 0 0)),(8,(.os 2 0 out2.length))],[(0,vO 5 (TLimits.cells l)),(1,vO 16 (TPose.cells rFloat)),(2,aO 1 cS ByteArray.empty out2)],3⟩:=by
  intro E hE
  unfold g_r05_Broken_J2 at h
  obtain ⟨ratMost2,hr4,h⟩:=bindSome h
  refine Runs.sR hE ⟨[(4,(.op 0 0 0)),(7,(.op 1 0 0)),(8,(.os 2 0 out2.length)),(37,(aB (!ratMost2)))],[(0,vO 5 (TLimits.cells l)),(1,vO 16 (TPose.cells rFloat)),(2,aO 1 cS ByteArray.empty out2)],99⟩ (C_74 252) [(4,⟨[],true,(aB ratMost2),[],0,false,none⟩)] [] (kp [4,7,8,37]) (kq [0,1,2]) 99 [0 < 1,0 < 1,Sound Tryz.prog 47 [(.agg (TRat.cells rFloat.f_Heel)),(aI 1000),(aI l.f_HeelMost)] [] 0 (aB ratMost2) []] ⟨o1,o1,(g_r05_atMost_ok N rFloat.f_Heel 1000 l.f_HeelMost ratMost2 hr4),trivial⟩ ?_
  refine Runs.sC 37 (C_74 506) (C_74 507) (!ratMost2) (fun hq4=>?_) (fun hq4=>?_)
  · have h:=condT h hq4
    obtain ⟨c2,h⟩:=ifSome h
    refine Runs.sR hE ⟨[(4,(.op 0 0 0)),(7,(.op 1 0 0)),(8,(.os 131 0 ((out2 ++ ([(⟨#[104,101,101,108]⟩:ByteArray)]:List ByteArray)).length)))],[(0,vO 5 (TLimits.cells l)),(1,vO 16 (TPose.cells rFloat)),(131,aO 1 cS ByteArray.empty (out2 ++ ([(⟨#[104,101,101,108]⟩:ByteArray)]:List ByteArray)))],163⟩ (C_74 506) [] [] (kp [4,7] ++ [(8,.osl ((out2 ++ ([(⟨#[104,101,101,108]⟩:ByteArray)]:List ByteArray)).length))]) (kq [0,1] ++ [(131,.arr 131 ((out2 ++ ([(⟨#[104,101,101,108]⟩:ByteArray)]:List ByteArray)).length) (fun zi=>cS ((out2 ++ ([(⟨#[104,101,101,108]⟩:ByteArray)]:List ByteArray)).getD zi ByteArray.empty)))]) 163 [out2.length = out2.length,(out2.length+1) * 16≤140737488355328,0+1≤1,∀ zi,zi < 1→AV.oneL ((fun zi=>([[(aS (⟨#[104,101,101,108]⟩:ByteArray))]]:List (List AV)).getD zi []) (addz 0 zi)) = true,(out2.length+1) = (out2 ++ ([(⟨#[104,101,101,108]⟩:ByteArray)]:List ByteArray)).length,out2.length+1 = (out2 ++ ([(⟨#[104,101,101,108]⟩:ByteArray)]:List ByteArray)).length,∀ zi,zi < (out2 ++ ([(⟨#[104,101,101,108]⟩:ByteArray)]:List ByteArray)).length→(fun zi=>cS ((out2 ++ ([(⟨#[104,101,101,108]⟩:ByteArray)]:List ByteArray)).getD zi ByteArray.empty)) zi = ((fun zm=>if zm < out2.length then (fun zi=>cS (out2.getD zi ByteArray.empty)) zm else (fun zi=>([[(aS (⟨#[104,101,101,108]⟩:ByteArray))]]:List (List AV)).getD zi []) (zm - out2.length))) zi] ⟨rfl,c2,z0,(oneN rfl),(len_app_raw rfl rfl),(len_app_raw rfl rfl),(get_app_raw cS ByteArray.empty out2 ([(⟨#[104,101,101,108]⟩:ByteArray)]:List ByteArray) rfl (fun _ _=>rfl) (fun zq hzq=>get_chunk cS ByteArray.empty ([(⟨#[104,101,101,108]⟩:ByteArray)]:List ByteArray) zq hzq)),trivial⟩ ?_
    refine Runs.sA 2 [.code (C_74 508),.code (C_74 509),.code (C_74 255)] ?_
    exact Runs.sW hE _ [] (kp [4,7,8]) (kq [0,1] ++ [(2,.keep 131)]) 3 [] trivial (g_r05_Broken_J3_ok N l rFloat (out2 ++ ([(⟨#[104,101,101,108]⟩:ByteArray)]:List ByteArray)) _ h E hE)
  · have h:=condF h hq4
    refine Runs.sA 3 [.code (C_74 508),.code (C_74 509),.code (C_74 255)] ?_
    exact Runs.sW hE _ [] (kp [4,7,8]) (kq [0,1,2]) 3 [] trivial (g_r05_Broken_J3_ok N l rFloat out2 _ h E hE)
theorem g_r05_Broken_J1_ok (N:Nat) (l:TLimits) (rFloat:TPose) (out:List ByteArray) (r:(List ByteArray)) (h:g_r05_Broken_J1 N l rFloat out = some r):∀ E,EnvOk E 0→Runs Tryz.prog E 17 51 (SPost E [] (encL cS ByteArray.empty r)) [.code (C_74 124),.code (C_74 125),.code (C_74 63)] ⟨[(4,(.op 0 0 0)),(7,(.op 1 0 0)),(8,(.os 2 0 out.length))],[(0,vO 5 (TLimits.cells l)),(1,vO 16 (TPose.cells rFloat)),(2,aO 1 cS ByteArray.empty out)],3⟩:=by
  intro E hE
  unfold g_r05_Broken_J1 at h
  obtain ⟨ratMost,hr3,h⟩:=bindSome h
  refine Runs.sR hE ⟨[(4,(.op 0 0 0)),(7,(.op 1 0 0)),(8,(.os 2 0 out.length)),(28,(aB (!ratMost)))],[(0,vO 5 (TLimits.cells l)),(1,vO 16 (TPose.cells rFloat)),(2,aO 1 cS ByteArray.empty out)],99⟩ (C_74 124) [(4,⟨[],true,(aB ratMost),[],0,false,none⟩)] [] (kp [4,7,8,28]) (kq [0,1,2]) 99 [0 < 1,0 < 1,Sound Tryz.prog 47 [(.agg (TRat.cells rFloat.f_Trim)),(aI 1000),(aI l.f_TrimMost)] [] 0 (aB ratMost) []] ⟨o1,o1,(g_r05_atMost_ok N rFloat.f_Trim 1000 l.f_TrimMost ratMost hr3),trivial⟩ ?_
  refine Runs.sC 28 (C_74 250) (C_74 251) (!ratMost) (fun hq3=>?_) (fun hq3=>?_)
  · have h:=condT h hq3
    obtain ⟨c,h⟩:=ifSome h
    refine Runs.sR hE ⟨[(4,(.op 0 0 0)),(7,(.op 1 0 0)),(8,(.os 131 0 ((out ++ ([(⟨#[116,114,105,109]⟩:ByteArray)]:List ByteArray)).length)))],[(0,vO 5 (TLimits.cells l)),(1,vO 16 (TPose.cells rFloat)),(131,aO 1 cS ByteArray.empty (out ++ ([(⟨#[116,114,105,109]⟩:ByteArray)]:List ByteArray)))],163⟩ (C_74 250) [] [] (kp [4,7] ++ [(8,.osl ((out ++ ([(⟨#[116,114,105,109]⟩:ByteArray)]:List ByteArray)).length))]) (kq [0,1] ++ [(131,.arr 131 ((out ++ ([(⟨#[116,114,105,109]⟩:ByteArray)]:List ByteArray)).length) (fun zi=>cS ((out ++ ([(⟨#[116,114,105,109]⟩:ByteArray)]:List ByteArray)).getD zi ByteArray.empty)))]) 163 [out.length = out.length,(out.length+1) * 16≤140737488355328,0+1≤1,∀ zi,zi < 1→AV.oneL ((fun zi=>([[(aS (⟨#[116,114,105,109]⟩:ByteArray))]]:List (List AV)).getD zi []) (addz 0 zi)) = true,(out.length+1) = (out ++ ([(⟨#[116,114,105,109]⟩:ByteArray)]:List ByteArray)).length,out.length+1 = (out ++ ([(⟨#[116,114,105,109]⟩:ByteArray)]:List ByteArray)).length,∀ zi,zi < (out ++ ([(⟨#[116,114,105,109]⟩:ByteArray)]:List ByteArray)).length→(fun zi=>cS ((out ++ ([(⟨#[116,114,105,109]⟩:ByteArray)]:List ByteArray)).getD zi ByteArray.empty)) zi = ((fun zm=>if zm < out.length then (fun zi=>cS (out.getD zi ByteArray.empty)) zm else (fun zi=>([[(aS (⟨#[116,114,105,109]⟩:ByteArray))]]:List (List AV)).getD zi []) (zm - out.length))) zi] ⟨rfl,c,z0,(oneN rfl),(len_app_raw rfl rfl),(len_app_raw rfl rfl),(get_app_raw cS ByteArray.empty out ([(⟨#[116,114,105,109]⟩:ByteArray)]:List ByteArray) rfl (fun _ _=>rfl) (fun zq hzq=>get_chunk cS ByteArray.empty ([(⟨#[116,114,105,109]⟩:ByteArray)]:List ByteArray) zq hzq)),trivial⟩ ?_
    refine Runs.sA 2 [.code (C_74 252),.code (C_74 253),.code (C_74 127)] ?_
    exact Runs.sW hE _ [] (kp [4,7,8]) (kq [0,1] ++ [(2,.keep 131)]) 3 [] trivial (g_r05_Broken_J2_ok N l rFloat (out ++ ([(⟨#[116,114,105,109]⟩:ByteArray)]:List ByteArray)) _ h E hE)
  · have h:=condF h hq3
    refine Runs.sA 3 [.code (C_74 252),.code (C_74 253),.code (C_74 127)] ?_
    exact Runs.sW hE _ [] (kp [4,7,8]) (kq [0,1,2]) 3 [] trivial (g_r05_Broken_J2_ok N l rFloat out _ h E hE)
theorem g_r05_Broken_ok (N:Nat) (p:TPn) (l:TLimits) (steps:List Int) (r:(List ByteArray)) (h:g_r05_Broken N p l steps = some r):Sound Tryz.prog 17 [(.agg (TPn.cells p)),(.agg (TLimits.cells l)),(encL cI 0 steps)] [] 0 (encL cS ByteArray.empty r) []:=by
  unfold g_r05_Broken at h
  refine Sound.of_runs (fu:=Tryz.f17) (c:=C_74 1) (nt:=51) (by kernel_rfl) (by kernel_rfl) (by kernel_rfl) (by kernel_rfl) (fun hm=>rfl) ?_
  intro E hE
  refine Runs.sA 1 [.code (C_74 2),.code (C_74 3)] ?_
  refine Runs.sR hE ⟨[(2,(encL cI 0 steps)),(3,(.op 0 0 0)),(4,(.op 16 0 0))],[(0,vO 5 (TPn.cells p)),(16,vO 5 (TLimits.cells l))],48⟩ (C_74 2) [] [] (kp [2,3,4]) (kq [0,16]) 48 [] trivial ?_
  refine Runs.sA 1 [.code (C_74 6),.code (C_74 7)] ?_
  obtain ⟨rFloat,hr,h⟩:=bindSome h
  refine Runs.sR hE ⟨[(4,(.op 16 0 0)),(7,(.op 96 0 0))],[(16,vO 5 (TLimits.cells l)),(96,vO 16 (TPose.cells rFloat))],128⟩ (C_74 6) [(2,⟨[],true,(.agg (TPose.cells rFloat)),[],0,false,none⟩)] [] (kp [4,7]) (kq [16,96]) 128 [0 < 1,Sound Tryz.prog 15 [(.agg (TPn.cells p)),(encL cI 0 steps)] [] 0 (.agg (TPose.cells rFloat)) [],0 < 1] ⟨o1,(g_r05_Float_ok N p steps rFloat hr),o1,trivial⟩ ?_
  refine Runs.sA 1 [.code (C_74 14),.code (C_74 15)] ?_
  refine Runs.sR hE ⟨[(4,(.op 16 0 0)),(7,(.op 96 0 0)),(8,.nil)],[(16,vO 5 (TLimits.cells l)),(96,vO 16 (TPose.cells rFloat))],144⟩ (C_74 14) [] [] (kp [4,7,8]) (kq [16,96]) 144 [] trivial ?_
  refine Runs.sA 2 [.code (C_74 60),.code (C_74 61),.code (C_74 31)] ?_
  obtain ⟨rBt,hr2,h⟩:=bindSome h
  refine Runs.sR hE ⟨[(4,(.op 16 0 0)),(7,(.op 96 0 0)),(8,.nil),(19,(aB (!rBt)))],[(16,vO 5 (TLimits.cells l)),(96,vO 16 (TPose.cells rFloat))],272⟩ (C_74 60) [(6,⟨[],true,(aB rBt),[],0,false,none⟩)] [] (kp [4,7,8,19]) (kq [16,96]) 272 [0 < 1,0 < 1,0 < 1,Sound Tryz.prog 46 [(.agg (TRat.cells rFloat.f_Draught)),(aI l.f_DraughtLeast),(aI l.f_DraughtMost)] [] 0 (aB rBt) []] ⟨o1,o1,o1,(g_r05_between_ok N rFloat.f_Draught l.f_DraughtLeast l.f_DraughtMost rBt hr2),trivial⟩ ?_
  refine Runs.sC 19 (C_74 122) (C_74 123) (!rBt) (fun hq2=>?_) (fun hq2=>?_)
  · have h:=condT h hq2
    refine Runs.sR hE ⟨[(4,(.op 16 0 0)),(7,(.op 96 0 0)),(8,(.os 304 0 (([(⟨#[100,114,97,117,103,104,116]⟩:ByteArray)]:List ByteArray).length)))],[(16,vO 5 (TLimits.cells l)),(96,vO 16 (TPose.cells rFloat)),(304,aO 1 cS ByteArray.empty ([(⟨#[100,114,97,117,103,104,116]⟩:ByteArray)]:List ByteArray))],336⟩ (C_74 122) [] [] (kp [4,7] ++ [(8,.osl (([(⟨#[100,114,97,117,103,104,116]⟩:ByteArray)]:List ByteArray).length))]) (kq [16,96] ++ [(304,.arr 304 (([(⟨#[100,114,97,117,103,104,116]⟩:ByteArray)]:List ByteArray).length) (fun zi=>cS (([(⟨#[100,114,97,117,103,104,116]⟩:ByteArray)]:List ByteArray).getD zi ByteArray.empty)))]) 336 [1 * 16≤140737488355328,0+1≤1,∀ zi,zi < 1→AV.oneL ((fun zi=>([[(aS (⟨#[100,114,97,117,103,104,116]⟩:ByteArray))]]:List (List AV)).getD zi []) (addz 0 zi)) = true,1 = ([(⟨#[100,114,97,117,103,104,116]⟩:ByteArray)]:List ByteArray).length,1 = ([(⟨#[100,114,97,117,103,104,116]⟩:ByteArray)]:List ByteArray).length,∀ zi,zi < ([(⟨#[100,114,97,117,103,104,116]⟩:ByteArray)]:List ByteArray).length→(fun zi=>cS (([(⟨#[100,114,97,117,103,104,116]⟩:ByteArray)]:List ByteArray).getD zi ByteArray.empty)) zi = (fun zi=>([[(aS (⟨#[100,114,97,117,103,104,116]⟩:ByteArray))]]:List (List AV)).getD zi []) zi] ⟨(by decide),z0,(oneN rfl),rfl,rfl,(fun zq hzq=>get_chunk cS ByteArray.empty ([(⟨#[100,114,97,117,103,104,116]⟩:ByteArray)]:List ByteArray) zq hzq),trivial⟩ ?_
    refine Runs.sA 2 [.code (C_74 124),.code (C_74 125),.code (C_74 63)] ?_
    exact Runs.sW hE _ [] (kp [4,7,8]) [(0,.keep 16),(1,.keep 96),(2,.keep 304)] 3 [] trivial (g_r05_Broken_J1_ok N l rFloat ([(⟨#[100,114,97,117,103,104,116]⟩:ByteArray)]:List ByteArray) _ h E hE)
  · have h:=condF h hq2
    refine Runs.sA 3 [.code (C_74 124),.code (C_74 125),.code (C_74 63)] ?_
    exact Runs.sW hE _ [] (kp [4,7] ++ [(8,.nilos 2)]) [(0,.keep 16),(1,.keep 96),(2,.nil 1 (fun zi=>cS (([]:List ByteArray).getD zi ByteArray.empty)))] 3 [] trivial (g_r05_Broken_J1_ok N l rFloat ([]:List ByteArray) _ h E hE)
noncomputable def C_109 (n:Nat):Code:=cat (bodyOf Tryz.f48) (pth n)
theorem g_w_open_ok (N:Nat) (p:TPn) (l:TLimits) (a:TAim) (r:Tw_plan × Int) (h:g_w_open N p l a = some r):Sound Tryz.prog 48 [(.agg (TPn.cells p)),(.agg (TLimits.cells l)),(.agg (TAim.cells a))] [] 0 (.tup [(.agg (Tw_plan.cells r.1)),(aI r.2)]) []:=by
  unfold g_w_open at h
  refine Sound.of_runs (fu:=Tryz.f48) (c:=C_109 1) (nt:=65) (by kernel_rfl) (by kernel_rfl) (by kernel_rfl) (by kernel_rfl) (fun hm=>rfl) ?_
  intro E hE
  refine Runs.sA 1 [.code (C_109 2),.code (C_109 3)] ?_
  refine Runs.sR hE ⟨[(3,(.op 0 0 0)),(4,(.op 16 0 0)),(5,(.op 32 0 0)),(6,(.op 48 0 0))],[(0,vO 5 (TPn.cells p)),(16,vO 5 (TLimits.cells l)),(32,vO 3 (TAim.cells a)),(48,vO 18 [(aI 0),(aI 0),(aI 0),.nil,.nil,(aI 0),(aI 0),(aI 0),(aI 0),(aI 0),(aI 0),(aI 0),(aI 0),(aI 0),(aI 0),(aI 0),(aI 0),(aI 0)])],80⟩ (C_109 2) [] [] (kp [3,4,5,6]) (kq [0,16,32,48]) 80 [] trivial ?_
  refine Runs.sA 2 [.code (C_109 12),.code (C_109 13),.code (C_109 7)] ?_
  obtain ⟨rCP,hr,h⟩:=bindSome h
  refine Runs.sR hE ⟨[(3,(.op 0 0 0)),(4,(.op 16 0 0)),(5,(.op 32 0 0)),(6,(.op 48 0 0)),(8,(aI rCP))],[(0,vO 5 (TPn.cells p)),(16,vO 5 (TLimits.cells l)),(32,vO 3 (TAim.cells a)),(48,vO 18 [(aI 0),(aI 0),(aI 0),.nil,.nil,(aI 0),(aI 0),(aI 0),(aI 0),(aI 0),(aI 0),(aI 0),(aI 0),(aI 0),(aI 0),(aI 0),(aI 0),(aI 0)])],128⟩ (C_109 12) [(1,⟨[],true,(aI rCP),[],0,false,none⟩)] [] (kp [3,4,5,6,8]) (kq [0,16,32,48]) 128 [0 < 1,Sound Tryz.prog 10 [(.agg (TPn.cells p))] [] 0 (aI rCP) []] ⟨o1,(g_w_CheckPontoon_ok N p rCP hr),trivial⟩ ?_
  refine Runs.sA 1 [.code (C_109 26),.code (C_109 27),.code (C_109 7)] ?_
  refine Runs.sR hE ⟨[(3,(.op 0 0 0)),(4,(.op 16 0 0)),(5,(.op 32 0 0)),(6,(.op 48 0 0)),(8,(aI rCP)),(16,(aB (rCP != 0)))],[(0,vO 5 (TPn.cells p)),(16,vO 5 (TLimits.cells l)),(32,vO 3 (TAim.cells a)),(48,vO 18 [(aI 0),(aI 0),(aI 0),.nil,.nil,(aI 0),(aI 0),(aI 0),(aI 0),(aI 0),(aI 0),(aI 0),(aI 0),(aI 0),(aI 0),(aI 0),(aI 0),(aI 0)])],160⟩ (C_109 26) [] [] (kp [3,4,5,6,8,16]) (kq [0,16,32,48]) 160 [] trivial ?_
  refine Runs.sC 16 (C_109 54) (C_109 55) (rCP != 0) (fun hq2=>?_) (fun hq2=>?_)
  · have h:=condT h hq2
    refine Runs.sA 1 [.code (C_109 108),.code (C_109 109),.code (C_109 7)] ?_
    refine Runs.sR hE ⟨[(6,(.op 48 0 0)),(7,(aI rCP))],[(48,vO 18 [(aI 0),(aI 0),(aI 0),.nil,.nil,(aI 0),(aI 0),(aI 0),(aI 0),(aI 0),(aI 0),(aI 0),(aI 0),(aI 0),(aI 0),(aI 0),(aI 0),(aI 0)])],224⟩ (C_109 108) [] [] (kp [6,7]) (kq [48]) 224 [0 < 1] ⟨o1,trivial⟩ ?_
    obtain rfl:=Option.some.inj h
    refine Runs.sW hE ⟨[(6,(.op 16 0 0)),(7,(aI rCP))],[(16,vO 18 [(aI 0),(aI 0),(aI 0),(encL TPm.cells TPm.d ([]:List TPm)),(encL TTank.cells TTank.d ([]:List TTank)),(aI 0),(aI 0),(aI 0),(aI 0),(aI 0),(aI 0),(aI 0),(aI 0),(aI 0),(aI 0),(aI 0),(aI 0),(aI 0)])],224⟩ [] (kp [6,7]) [(16,.var 48 [.keep,.keep,.keep,.sl (([]:List TPm).length) (fun zi=>TPm.cells (([]:List TPm).getD zi TPm.d)),.sl (([]:List TTank).length) (fun zi=>TTank.cells (([]:List TTank).getD zi TTank.d)),.keep,.keep,.keep,.keep,.keep,.keep,.keep,.keep,.keep,.keep,.keep,.keep,.keep])] 224 [([]:List TPm).length = 0,([]:List TTank).length = 0] ⟨rfl,rfl,trivial⟩ ?_
    exact Runs.sT Tryz.f48 [16] [0 < 1] ⟨o1,trivial⟩
  · have h:=condF h hq2
    refine Runs.sA 3 [.code (C_109 28),.code (C_109 29),.code (C_109 15)] ?_
    obtain ⟨rcheckLimits,hr2,h⟩:=bindSome h
    refine Runs.sR hE ⟨[(3,(.op 0 0 0)),(4,(.op 16 0 0)),(5,(.op 32 0 0)),(6,(.op 48 0 0)),(9,(aI rcheckLimits))],[(0,vO 5 (TPn.cells p)),(16,vO 5 (TLimits.cells l)),(32,vO 3 (TAim.cells a)),(48,vO 18 [(aI 0),(aI 0),(aI 0),.nil,.nil,(aI 0),(aI 0),(aI 0),(aI 0),(aI 0),(aI 0),(aI 0),(aI 0),(aI 0),(aI 0),(aI 0),(aI 0),(aI 0)])],208⟩ (C_109 28) [(1,⟨[],true,(aI rcheckLimits),[],0,false,none⟩)] [] (kp [3,4,5,6,9]) (kq [0,16,32,48]) 208 [0 < 1,Sound Tryz.prog 29 [(.agg (TLimits.cells l))] [] 0 (aI rcheckLimits) []] ⟨o1,(g_w_checkLimits_ok N l rcheckLimits hr2),trivial⟩ ?_
    refine Runs.sA 1 [.code (C_109 58),.code (C_109 59),.code (C_109 15)] ?_
    refine Runs.sR hE ⟨[(3,(.op 0 0 0)),(4,(.op 16 0 0)),(5,(.op 32 0 0)),(6,(.op 48 0 0)),(9,(aI rcheckLimits)),(22,(aB (rcheckLimits != 0)))],[(0,vO 5 (TPn.cells p)),(16,vO 5 (TLimits.cells l)),(32,vO 3 (TAim.cells a)),(48,vO 18 [(aI 0),(aI 0),(aI 0),.nil,.nil,(aI 0),(aI 0),(aI 0),(aI 0),(aI 0),(aI 0),(aI 0),(aI 0),(aI 0),(aI 0),(aI 0),(aI 0),(aI 0)])],240⟩ (C_109 58) [] [] (kp [3,4,5,6,9,22]) (kq [0,16,32,48]) 240 [] trivial ?_
    refine Runs.sC 22 (C_109 118) (C_109 119) (rcheckLimits != 0) (fun hq3=>?_) (fun hq3=>?_)
    · have h:=condT h hq3
      refine Runs.sA 1 [.code (C_109 236),.code (C_109 237),.code (C_109 15)] ?_
      refine Runs.sR hE ⟨[(6,(.op 48 0 0)),(7,(aI rcheckLimits))],[(48,vO 18 [(aI 0),(aI 0),(aI 0),.nil,.nil,(aI 0),(aI 0),(aI 0),(aI 0),(aI 0),(aI 0),(aI 0),(aI 0),(aI 0),(aI 0),(aI 0),(aI 0),(aI 0)])],304⟩ (C_109 236) [] [] (kp [6,7]) (kq [48]) 304 [0 < 1] ⟨o1,trivial⟩ ?_
      obtain rfl:=Option.some.inj h
      refine Runs.sW hE ⟨[(6,(.op 16 0 0)),(7,(aI rcheckLimits))],[(16,vO 18 [(aI 0),(aI 0),(aI 0),(encL TPm.cells TPm.d ([]:List TPm)),(encL TTank.cells TTank.d ([]:List TTank)),(aI 0),(aI 0),(aI 0),(aI 0),(aI 0),(aI 0),(aI 0),(aI 0),(aI 0),(aI 0),(aI 0),(aI 0),(aI 0)])],304⟩ [] (kp [6,7]) [(16,.var 48 [.keep,.keep,.keep,.sl (([]:List TPm).length) (fun zi=>TPm.cells (([]:List TPm).getD zi TPm.d)),.sl (([]:List TTank).length) (fun zi=>TTank.cells (([]:List TTank).getD zi TTank.d)),.keep,.keep,.keep,.keep,.keep,.keep,.keep,.keep,.keep,.keep,.keep,.keep,.keep])] 304 [([]:List TPm).length = 0,([]:List TTank).length = 0] ⟨rfl,rfl,trivial⟩ ?_
      exact Runs.sT Tryz.f48 [16] [0 < 1] ⟨o1,trivial⟩
    · have h:=condF h hq3
      refine Runs.sA 2 [.code (C_109 30),.code (C_109 31)] ?_
      obtain ⟨rcheckSteps,hr3,h⟩:=bindSome h
      refine Runs.sR hE ⟨[(3,(.op 0 0 0)),(4,(.op 16 0 0)),(5,(.op 32 0 0)),(6,(.op 48 0 0)),(10,(.op 352 0 0)),(11,(aI rcheckSteps.2))],[(0,vO 5 (TPn.cells p)),(16,vO 5 (TLimits.cells l)),(32,vO 3 (TAim.cells a)),(48,vO 18 [(aI 0),(aI 0),(aI 0),.nil,.nil,(aI 0),(aI 0),(aI 0),(aI 0),(aI 0),(aI 0),(aI 0),(aI 0),(aI 0),(aI 0),(aI 0),(aI 0),(aI 0)]),(352,vO 6 (Tw_state.cells rcheckSteps.1))],400⟩ (C_109 30) [(3,⟨[],true,(.tup [(.agg (Tw_state.cells rcheckSteps.1)),(aI rcheckSteps.2)]),[],0,false,none⟩)] [] (kp [3,4,5,6,10,11]) (kq [0,16,32,48,352]) 400 [0 < 1,0 < 1,Sound Tryz.prog 24 [(.agg (TPn.cells p)),(encL cI 0 a.f_Start)] [] 0 (.tup [(.agg (Tw_state.cells rcheckSteps.1)),(aI rcheckSteps.2)]) [],0 < 1] ⟨o1,o1,(g_w_checkSteps_ok N p a.f_Start rcheckSteps hr3),o1,trivial⟩ ?_
      refine Runs.sA 2 [.code (C_109 124),.code (C_109 125),.code (C_109 63)] ?_
      refine Runs.sR hE ⟨[(3,(.op 0 0 0)),(4,(.op 16 0 0)),(5,(.op 32 0 0)),(6,(.op 48 0 0)),(10,(.op 352 0 0)),(11,(aI rcheckSteps.2)),(33,(aB (rcheckSteps.2 != 0)))],[(0,vO 5 (TPn.cells p)),(16,vO 5 (TLimits.cells l)),(32,vO 3 (TAim.cells a)),(48,vO 18 [(aI 0),(aI 0),(aI 0),.nil,.nil,(aI 0),(aI 0),(aI 0),(aI 0),(aI 0),(aI 0),(aI 0),(aI 0),(aI 0),(aI 0),(aI 0),(aI 0),(aI 0)]),(352,vO 6 (Tw_state.cells rcheckSteps.1))],432⟩ (C_109 124) [] [] (kp [3,4,5,6,10,11,33]) (kq [0,16,32,48,352]) 432 [] trivial ?_
      refine Runs.sC 33 (C_109 250) (C_109 251) (rcheckSteps.2 != 0) (fun hq4=>?_) (fun hq4=>?_)
      · have h:=condT h hq4
        refine Runs.sA 1 [.code (C_109 500),.code (C_109 501),.code (C_109 63)] ?_
        refine Runs.sR hE ⟨[(6,(.op 48 0 0)),(7,(aI rcheckSteps.2))],[(48,vO 18 [(aI 0),(aI 0),(aI 0),.nil,.nil,(aI 0),(aI 0),(aI 0),(aI 0),(aI 0),(aI 0),(aI 0),(aI 0),(aI 0),(aI 0),(aI 0),(aI 0),(aI 0)])],496⟩ (C_109 500) [] [] (kp [6,7]) (kq [48]) 496 [0 < 1] ⟨o1,trivial⟩ ?_
        obtain rfl:=Option.some.inj h
        refine Runs.sW hE ⟨[(6,(.op 16 0 0)),(7,(aI rcheckSteps.2))],[(16,vO 18 [(aI 0),(aI 0),(aI 0),(encL TPm.cells TPm.d ([]:List TPm)),(encL TTank.cells TTank.d ([]:List TTank)),(aI 0),(aI 0),(aI 0),(aI 0),(aI 0),(aI 0),(aI 0),(aI 0),(aI 0),(aI 0),(aI 0),(aI 0),(aI 0)])],496⟩ [] (kp [6,7]) [(16,.var 48 [.keep,.keep,.keep,.sl (([]:List TPm).length) (fun zi=>TPm.cells (([]:List TPm).getD zi TPm.d)),.sl (([]:List TTank).length) (fun zi=>TTank.cells (([]:List TTank).getD zi TTank.d)),.keep,.keep,.keep,.keep,.keep,.keep,.keep,.keep,.keep,.keep,.keep,.keep,.keep])] 496 [([]:List TPm).length = 0,([]:List TTank).length = 0] ⟨rfl,rfl,trivial⟩ ?_
        exact Runs.sT Tryz.f48 [16] [0 < 1] ⟨o1,trivial⟩
      · have h:=condF h hq4
        refine Runs.sA 3 [.code (C_109 252),.code (C_109 253),.code (C_109 127)] ?_
        obtain ⟨rBt,hr4,h⟩:=bindSome h
        obtain ⟨rBt2,hr5,h⟩:=bindSome h
        refine Runs.sR hE ⟨[(3,(.op 0 0 0)),(4,(.op 16 0 0)),(5,(.op 32 0 0)),(6,(.op 48 0 0)),(10,(.op 352 0 0)),(45,(aB (cond (!rBt) true (!rBt2))))],[(0,vO 5 (TPn.cells p)),(16,vO 5 (TLimits.cells l)),(32,vO 3 (TAim.cells a)),(48,vO 18 [(aI 0),(aI 0),(aI 0),.nil,.nil,(aI 0),(aI 0),(aI 0),(aI 0),(aI 0),(aI 0),(aI 0),(aI 0),(aI 0),(aI 0),(aI 0),(aI 0),(aI 0)]),(352,vO 6 (Tw_state.cells rcheckSteps.1))],592⟩ (C_109 252) [(2,⟨[],true,(aB rBt),[],0,false,none⟩),(7,⟨[],true,(aB rBt2),[],0,false,none⟩)] [] (kp [3,4,5,6,10,45]) (kq [0,16,32,48,352]) 592 [0 < 1,Sound Tryz.prog 34 [(aI a.f_DraughtLeast),(aI 0),(aI 1000000)] [] 0 (aB rBt) [],(!(!rBt)) = true→AllP [(!(!rBt)) = true,0 < 1],(!(!rBt)) = true→AllP [Sound Tryz.prog 34 [(aI a.f_DraughtMost),(aI 0),(aI 1000000)] [] 0 (aB rBt2) [],(!(!rBt)) = true],(!(!rBt)) = true→AllP [(!(!rBt)) = true],(!(!rBt)) = true→AllP [(!(!rBt)) = true]] ⟨o1,(g_w_between_ok N a.f_DraughtLeast 0 1000000 rBt hr4),(fun hg=>⟨hg,o1,trivial⟩),(fun hg=>⟨(g_w_between_ok N a.f_DraughtMost 0 1000000 rBt2 (condT hr5 hg)),hg,trivial⟩),(fun hg=>⟨hg,trivial⟩),(fun hq=>⟨hq,trivial⟩),trivial⟩ ?_
        refine Runs.sC 45 (C_109 506) (C_109 507) (cond (!rBt) true (!rBt2)) (fun hq5=>?_) (fun hq5=>?_)
        · have h:=condT h hq5
          refine Runs.sA 1 [.code (C_109 1012),.code (C_109 1013),.code (C_109 127)] ?_
          refine Runs.sR hE ⟨[(6,(.op 48 0 0)),(7,(aI 2))],[(48,vO 18 [(aI 0),(aI 0),(aI 0),.nil,.nil,(aI 0),(aI 0),(aI 0),(aI 0),(aI 0),(aI 0),(aI 0),(aI 0),(aI 0),(aI 0),(aI 0),(aI 0),(aI 0)])],640⟩ (C_109 1012) [] [] (kp [6,7]) (kq [48]) 640 [0 < 1] ⟨o1,trivial⟩ ?_
          obtain rfl:=Option.some.inj h
          refine Runs.sW hE ⟨[(6,(.op 16 0 0)),(7,(aI 2))],[(16,vO 18 [(aI 0),(aI 0),(aI 0),(encL TPm.cells TPm.d ([]:List TPm)),(encL TTank.cells TTank.d ([]:List TTank)),(aI 0),(aI 0),(aI 0),(aI 0),(aI 0),(aI 0),(aI 0),(aI 0),(aI 0),(aI 0),(aI 0),(aI 0),(aI 0)])],640⟩ [] (kp [6,7]) [(16,.var 48 [.keep,.keep,.keep,.sl (([]:List TPm).length) (fun zi=>TPm.cells (([]:List TPm).getD zi TPm.d)),.sl (([]:List TTank).length) (fun zi=>TTank.cells (([]:List TTank).getD zi TTank.d)),.keep,.keep,.keep,.keep,.keep,.keep,.keep,.keep,.keep,.keep,.keep,.keep,.keep])] 640 [([]:List TPm).length = 0,([]:List TTank).length = 0] ⟨rfl,rfl,trivial⟩ ?_
          exact Runs.sT Tryz.f48 [16] [0 < 1] ⟨o1,trivial⟩
        · have h:=condF h hq5
          refine Runs.sA 2 [.code (C_109 254),.code (C_109 255)] ?_
          obtain ⟨rboundsOf,hr6,h⟩:=bindSome h
          refine Runs.sR hE ⟨[(3,(.op 0 0 0)),(5,(.op 32 0 0)),(6,(.op 48 0 0)),(12,(.op 688 0 0))],[(0,vO 5 (TPn.cells p)),(32,vO 3 (TAim.cells a)),(48,vO 18 [(aI 0),(aI 0),(aI 0),.nil,.nil,(aI 0),(aI 0),(aI 0),(aI 0),(aI 0),(aI 0),(aI 0),(aI 0),(aI 0),(aI 0),(aI 0),(aI 0),(aI 0)]),(688,vO 18 [(aI p.fLn),(aI p.fBr),(aI p.fDsity),(encL TPm.cells TPm.d p.fMs),(encL TTank.cells TTank.d p.fTk),(aI rboundsOf.f_low),(aI rboundsOf.f_high),(aI rboundsOf.f_x),(aI rboundsOf.f_y),(aI rboundsOf.f_hog),(aI rcheckSteps.1.e0),(aI rcheckSteps.1.e1),(aI rcheckSteps.1.e2),(aI rcheckSteps.1.e3),(aI rcheckSteps.1.e4),(aI rcheckSteps.1.e5),(aI 0),(aI 0)])],720⟩ (C_109 254) [(3,⟨[],true,(.agg (Tw_bounds.cells rboundsOf)),[],0,false,none⟩)] [] (kp [3,5,6,12]) (kq [0,32,48,688]) 720 [0 < 1,0 < 1,0 < 1,Sound Tryz.prog 31 [(.agg (TPn.cells p)),(.agg (TLimits.cells l))] [] 0 (.agg (Tw_bounds.cells rboundsOf)) [],0 < 1,0 < 1] ⟨o1,o1,o1,(g_w_boundsOf_ok N p l rboundsOf hr6),o1,o1,trivial⟩ ?_
          refine Runs.sA 1 [.code (C_109 510),.code (C_109 511)] ?_
          obtain ⟨rdraughts,hr7,h⟩:=bindSome h
          refine Runs.sR hE ⟨[(6,(.op 48 0 0)),(12,(.op 688 0 0))],[(48,vO 18 [(aI 0),(aI 0),(aI 0),.nil,.nil,(aI 0),(aI 0),(aI 0),(aI 0),(aI 0),(aI 0),(aI 0),(aI 0),(aI 0),(aI 0),(aI 0),(aI 0),(aI 0)]),(688,vO 18 [(aI p.fLn),(aI p.fBr),(aI p.fDsity),(encL TPm.cells TPm.d p.fMs),(encL TTank.cells TTank.d p.fTk),(aI rboundsOf.f_low),(aI rboundsOf.f_high),(aI rboundsOf.f_x),(aI rboundsOf.f_y),(aI rboundsOf.f_hog),(aI rcheckSteps.1.e0),(aI rcheckSteps.1.e1),(aI rcheckSteps.1.e2),(aI rcheckSteps.1.e3),(aI rcheckSteps.1.e4),(aI rcheckSteps.1.e5),(aI rdraughts.1),(aI rdraughts.2)])],928⟩ (C_109 510) [(5,⟨[],true,(.tup [(aI rdraughts.1),(aI rdraughts.2)]),[],0,false,none⟩)] [] (kp [6,12]) (kq [48,688]) 928 [0 < 1,0 < 1,0 < 1,Sound Tryz.prog 65 [(.agg (TPn.cells p)),(aI a.f_DraughtLeast),(aI a.f_DraughtMost)] [] 0 (.tup [(aI rdraughts.1),(aI rdraughts.2)]) [],0 < 1,0 < 1] ⟨o1,o1,o1,(g_w_draughts_ok N p a.f_DraughtLeast a.f_DraughtMost rdraughts hr7),o1,o1,trivial⟩ ?_
          refine Runs.sA 1 [.code (C_109 1022),.code (C_109 1023)] ?_
          refine Runs.sR hE ⟨[(6,(.op 48 0 0)),(7,(aI 0))],[(48,vO 18 [(aI p.fLn),(aI p.fBr),(aI p.fDsity),(encL TPm.cells TPm.d p.fMs),(encL TTank.cells TTank.d p.fTk),(aI rboundsOf.f_low),(aI rboundsOf.f_high),(aI rboundsOf.f_x),(aI rboundsOf.f_y),(aI rboundsOf.f_hog),(aI rcheckSteps.1.e0),(aI rcheckSteps.1.e1),(aI rcheckSteps.1.e2),(aI rcheckSteps.1.e3),(aI rcheckSteps.1.e4),(aI rcheckSteps.1.e5),(aI rdraughts.1),(aI rdraughts.2)])],976⟩ (C_109 1022) [] [] (kp [6,7]) (kq [48]) 976 [0 < 1,0 < 1] ⟨o1,o1,trivial⟩ ?_
          obtain rfl:=Option.some.inj h
          refine Runs.sW hE ⟨[(6,(.op 16 0 0)),(7,(aI 0))],[(16,vO 18 [(aI p.fLn),(aI p.fBr),(aI p.fDsity),(encL TPm.cells TPm.d p.fMs),(encL TTank.cells TTank.d p.fTk),(aI rboundsOf.f_low),(aI rboundsOf.f_high),(aI rboundsOf.f_x),(aI rboundsOf.f_y),(aI rboundsOf.f_hog),(aI rcheckSteps.1.e0),(aI rcheckSteps.1.e1),(aI rcheckSteps.1.e2),(aI rcheckSteps.1.e3),(aI rcheckSteps.1.e4),(aI rcheckSteps.1.e5),(aI rdraughts.1),(aI rdraughts.2)])],976⟩ [] (kp [6,7]) [(16,.keep 48)] 976 [] trivial ?_
          exact Runs.sT Tryz.f48 [16] [0 < 1] ⟨o1,trivial⟩
noncomputable def C_110 (n:Nat):Code:=cat (bodyOf Tryz.f49) (pth n)
theorem g_w_plan_keeps_ok (N:Nat) (t:Tw_plan) (s:Tw_state) (r:Bool) (h:g_w_plan_keeps N t s = some r):Sound Tryz.prog 49 [(.agg (Tw_plan.cells t)),(.agg (Tw_state.cells s))] [] 0 (aB r) []:=by
  unfold g_w_plan_keeps at h
  refine Sound.of_runs (fu:=Tryz.f49) (c:=C_110 1) (nt:=12) (by kernel_rfl) (by kernel_rfl) (by kernel_rfl) (by kernel_rfl) (fun hm=>rfl) ?_
  intro E hE
  refine Runs.sA 1 [.code (C_110 2),.code (C_110 3)] ?_
  refine Runs.sR hE ⟨[(2,(.op 0 0 0)),(3,(.op 16 0 0))],[(0,vO 18 (Tw_plan.cells t)),(16,vO 6 (Tw_state.cells s))],48⟩ (C_110 2) [] [] (kp [2,3]) (kq [0,16]) 48 [] trivial ?_
  refine Runs.sA 1 [.code (C_110 6),.code (C_110 7)] ?_
  obtain ⟨rkept,hr,h⟩:=bindSome h
  refine Runs.sR hE ⟨[(4,(aB (rkept == 15)))],[],176⟩ (C_110 6) [(5,⟨[],true,(aI rkept),[],0,false,none⟩)] [] (kp [4]) [] 176 [0 < 1,0 < 1,0 < 1,Sound Tryz.prog 32 [(.agg (Tw_bounds.cells t.f_b)),(.agg (TPn.cells t.f_p)),(.agg (Tw_state.cells s))] [] 0 (aI rkept) []] ⟨o1,o1,o1,(g_w_bounds_kept_ok N t.f_b t.f_p s rkept hr),trivial⟩ ?_
  obtain rfl:=Option.some.inj h
  refine Runs.sW hE ⟨[(4,(aB (rkept == 15)))],[],176⟩ [] (kp [4]) [] 176 [] trivial ?_
  exact Runs.sT Tryz.f49 [] [] trivial
noncomputable def C_111 (n:Nat):Code:=cat (bodyOf Tryz.f50) (pth n)
theorem g_w_plan_moved_J1_ok (N:Nat) (t:Tw_plan) (m:TMove) (s2:Tw_state) (r:Tw_state × Bool) (h:g_w_plan_moved_J1 N t m s2 = some r):∀ E,EnvOk E 0→Runs Tryz.prog E 50 46 (SPost E [] (.tup [(.agg (Tw_state.cells r.1)),(aB r.2)])) [.code (C_111 30),.code (C_111 31)] ⟨[(3,(.op 0 0 0)),(4,(.op 1 0 0)),(5,(.op 2 0 0)),(6,(.op 3 0 0))],[(0,vO 18 (Tw_plan.cells t)),(1,vO 6 (Tw_state.cells s2)),(2,vO 2 (TMove.cells m)),(3,vO 6 [(aI 0),(aI 0),(aI 0),(aI 0),(aI 0),(aI 0)])],4⟩:=by
  intro E hE
  unfold g_w_plan_moved_J1 at h
  obtain ⟨c2,h⟩:=ifSome h
  obtain ⟨c3,h⟩:=ifSome h
  obtain ⟨rBt2,hr2,h⟩:=bindSome h
  refine Runs.sR hE ⟨[(6,(.op 3 0 0)),(7,(aB rBt2))],[(3,vO 6 (Tw_state.cells s2))],260⟩ (C_111 30) [(13,⟨[],true,(aB rBt2),[],0,false,none⟩)] [] (kp [6,7]) (kq [3]) 260 [0 < 1,0 < 1,0≤m.f_Tank∧m.f_Tank < ((6:Nat):Int),0 < 1,0 < 1,0 < 1,0≤m.f_Tank∧m.f_Tank < ((t.f_p.fTk.length:Nat):Int),Sound Tryz.prog 34 [(aI (pickI [s2.e0,s2.e1,s2.e2,s2.e3,s2.e4,s2.e5] ((m.f_Tank).toNat))),(aI 0),(aI ((t.f_p.fTk.getD ((m.f_Tank).toNat) TTank.d).f_Steps))] [] 0 (aB rBt2) [],0 < 1] ⟨o1,o1,c2,o1,o1,o1,c3,(g_w_between_ok N (pickI [s2.e0,s2.e1,s2.e2,s2.e3,s2.e4,s2.e5] ((m.f_Tank).toNat)) 0 ((t.f_p.fTk.getD ((m.f_Tank).toNat) TTank.d).f_Steps) rBt2 hr2),o1,trivial⟩ ?_
  obtain rfl:=Option.some.inj h
  refine Runs.sW hE ⟨[(6,(.op 16 0 0)),(7,(aB rBt2))],[(16,vO 6 (Tw_state.cells s2))],260⟩ [] (kp [6,7]) [(16,.keep 3)] 260 [] trivial ?_
  exact Runs.sT Tryz.f50 [16] [0 < 1] ⟨o1,trivial⟩
theorem g_w_plan_moved_ok (N:Nat) (t:Tw_plan) (s:Tw_state) (m:TMove) (r:Tw_state × Bool) (h:g_w_plan_moved N t s m = some r):Sound Tryz.prog 50 [(.agg (Tw_plan.cells t)),(.agg (Tw_state.cells s)),(.agg (TMove.cells m))] [] 0 (.tup [(.agg (Tw_state.cells r.1)),(aB r.2)]) []:=by
  unfold g_w_plan_moved at h
  refine Sound.of_runs (fu:=Tryz.f50) (c:=C_111 1) (nt:=46) (by kernel_rfl) (by kernel_rfl) (by kernel_rfl) (by kernel_rfl) (fun hm=>rfl) ?_
  intro E hE
  refine Runs.sA 1 [.code (C_111 2),.code (C_111 3)] ?_
  refine Runs.sR hE ⟨[(3,(.op 0 0 0)),(4,(.op 16 0 0)),(5,(.op 32 0 0)),(6,(.op 48 0 0))],[(0,vO 18 (Tw_plan.cells t)),(16,vO 6 (Tw_state.cells s)),(32,vO 2 (TMove.cells m)),(48,vO 6 [(aI 0),(aI 0),(aI 0),(aI 0),(aI 0),(aI 0)])],80⟩ (C_111 2) [] [] (kp [3,4,5,6]) (kq [0,16,32,48]) 80 [] trivial ?_
  refine Runs.sA 2 [.code (C_111 12),.code (C_111 13),.code (C_111 7)] ?_
  obtain ⟨rBt,hr,h⟩:=bindSome h
  refine Runs.sR hE ⟨[(3,(.op 0 0 0)),(4,(.op 16 0 0)),(5,(.op 32 0 0)),(6,(.op 48 0 0)),(16,(aB (!rBt)))],[(0,vO 18 (Tw_plan.cells t)),(16,vO 6 (Tw_state.cells s)),(32,vO 2 (TMove.cells m)),(48,vO 6 [(aI 0),(aI 0),(aI 0),(aI 0),(aI 0),(aI 0)])],224⟩ (C_111 12) [(7,⟨[],true,(aB rBt),[],0,false,none⟩)] [] (kp [3,4,5,6,16]) (kq [0,16,32,48]) 224 [0 < 1,0 < 1,Sound Tryz.prog 34 [(aI m.f_Tank),(aI 0),(aI (w64 (((t.f_p.fTk.length:Nat):Int) - 1)))] [] 0 (aB rBt) []] ⟨o1,o1,(g_w_between_ok N m.f_Tank 0 (w64 (((t.f_p.fTk.length:Nat):Int) - 1)) rBt hr),trivial⟩ ?_
  refine Runs.sC 16 (C_111 26) (C_111 27) (!rBt) (fun hq2=>?_) (fun hq2=>?_)
  · have h:=condT h hq2
    refine Runs.sA 1 [.code (C_111 52),.code (C_111 53),.code (C_111 7)] ?_
    refine Runs.sR hE ⟨[(6,(.op 48 0 0)),(7,(aB false))],[(48,vO 6 (Tw_state.cells s))],272⟩ (C_111 52) [] [] (kp [6,7]) (kq [48]) 272 [0 < 1,0 < 1] ⟨o1,o1,trivial⟩ ?_
    obtain rfl:=Option.some.inj h
    refine Runs.sW hE ⟨[(6,(.op 16 0 0)),(7,(aB false))],[(16,vO 6 (Tw_state.cells s))],272⟩ [] (kp [6,7]) [(16,.keep 48)] 272 [] trivial ?_
    exact Runs.sT Tryz.f50 [16] [0 < 1] ⟨o1,trivial⟩
  · have h:=condF h hq2
    refine Runs.sA 3 [.code (C_111 28),.code (C_111 29),.code (C_111 15)] ?_
    refine Runs.sR hE ⟨[(3,(.op 0 0 0)),(4,(.op 16 0 0)),(5,(.op 32 0 0)),(6,(.op 48 0 0)),(19,(aB m.f_Up))],[(0,vO 18 (Tw_plan.cells t)),(16,vO 6 (Tw_state.cells s)),(32,vO 2 (TMove.cells m)),(48,vO 6 [(aI 0),(aI 0),(aI 0),(aI 0),(aI 0),(aI 0)])],256⟩ (C_111 28) [] [] (kp [3,4,5,6,19]) (kq [0,16,32,48]) 256 [0 < 1] ⟨o1,trivial⟩ ?_
    refine Runs.sC 19 (C_111 58) (C_111 59) m.f_Up (fun hq3=>?_) (fun hq3=>?_)
    · have h:=condT h hq3
      obtain ⟨c,h⟩:=ifSome h
      refine Runs.sR hE ⟨[(3,(.op 0 0 0)),(4,(.op 16 0 0)),(5,(.op 32 0 0)),(6,(.op 48 0 0))],[(0,vO 18 (Tw_plan.cells t)),(16,vO 6 [(aI (setI ((m.f_Tank).toNat) 0 (w64 ((pickI [s.e0,s.e1,s.e2,s.e3,s.e4,s.e5] ((m.f_Tank).toNat))+1)) s.e0)),(aI (setI ((m.f_Tank).toNat) 1 (w64 ((pickI [s.e0,s.e1,s.e2,s.e3,s.e4,s.e5] ((m.f_Tank).toNat))+1)) s.e1)),(aI (setI ((m.f_Tank).toNat) 2 (w64 ((pickI [s.e0,s.e1,s.e2,s.e3,s.e4,s.e5] ((m.f_Tank).toNat))+1)) s.e2)),(aI (setI ((m.f_Tank).toNat) 3 (w64 ((pickI [s.e0,s.e1,s.e2,s.e3,s.e4,s.e5] ((m.f_Tank).toNat))+1)) s.e3)),(aI (setI ((m.f_Tank).toNat) 4 (w64 ((pickI [s.e0,s.e1,s.e2,s.e3,s.e4,s.e5] ((m.f_Tank).toNat))+1)) s.e4)),(aI (setI ((m.f_Tank).toNat) 5 (w64 ((pickI [s.e0,s.e1,s.e2,s.e3,s.e4,s.e5] ((m.f_Tank).toNat))+1)) s.e5))]),(32,vO 2 (TMove.cells m)),(48,vO 6 [(aI 0),(aI 0),(aI 0),(aI 0),(aI 0),(aI 0)])],368⟩ (C_111 58) [] [] (kp [3,4,5,6]) (kq [0,16,32,48]) 368 [0 < 1,0≤m.f_Tank∧m.f_Tank < ((6:Nat):Int),0 < 1,0≤m.f_Tank∧m.f_Tank < ((6:Nat):Int),0 < 1] ⟨o1,c,o1,c,o1,trivial⟩ ?_
      refine Runs.sA 1 [.code (C_111 30),.code (C_111 31)] ?_
      exact Runs.sW hE _ [] (kp [3,4,5,6]) (kq [0] ++ [(1,.keep 16),(2,.keep 32),(3,.keep 48)]) 4 [] trivial (g_w_plan_moved_J1_ok N t m (⟨(setI ((m.f_Tank).toNat) 0 (w64 ((pickI [s.e0,s.e1,s.e2,s.e3,s.e4,s.e5] ((m.f_Tank).toNat))+1)) s.e0),(setI ((m.f_Tank).toNat) 1 (w64 ((pickI [s.e0,s.e1,s.e2,s.e3,s.e4,s.e5] ((m.f_Tank).toNat))+1)) s.e1),(setI ((m.f_Tank).toNat) 2 (w64 ((pickI [s.e0,s.e1,s.e2,s.e3,s.e4,s.e5] ((m.f_Tank).toNat))+1)) s.e2),(setI ((m.f_Tank).toNat) 3 (w64 ((pickI [s.e0,s.e1,s.e2,s.e3,s.e4,s.e5] ((m.f_Tank).toNat))+1)) s.e3),(setI ((m.f_Tank).toNat) 4 (w64 ((pickI [s.e0,s.e1,s.e2,s.e3,s.e4,s.e5] ((m.f_Tank).toNat))+1)) s.e4),(setI ((m.f_Tank).toNat) 5 (w64 ((pickI [s.e0,s.e1,s.e2,s.e3,s.e4,s.e5] ((m.f_Tank).toNat))+1)) s.e5)⟩:Tw_state) _ h E hE)
    · have h:=condF h hq3
      obtain ⟨c4,h⟩:=ifSome h
      refine Runs.sR hE ⟨[(3,(.op 0 0 0)),(4,(.op 16 0 0)),(5,(.op 32 0 0)),(6,(.op 48 0 0))],[(0,vO 18 (Tw_plan.cells t)),(16,vO 6 [(aI (setI ((m.f_Tank).toNat) 0 (w64 ((pickI [s.e0,s.e1,s.e2,s.e3,s.e4,s.e5] ((m.f_Tank).toNat)) - 1)) s.e0)),(aI (setI ((m.f_Tank).toNat) 1 (w64 ((pickI [s.e0,s.e1,s.e2,s.e3,s.e4,s.e5] ((m.f_Tank).toNat)) - 1)) s.e1)),(aI (setI ((m.f_Tank).toNat) 2 (w64 ((pickI [s.e0,s.e1,s.e2,s.e3,s.e4,s.e5] ((m.f_Tank).toNat)) - 1)) s.e2)),(aI (setI ((m.f_Tank).toNat) 3 (w64 ((pickI [s.e0,s.e1,s.e2,s.e3,s.e4,s.e5] ((m.f_Tank).toNat)) - 1)) s.e3)),(aI (setI ((m.f_Tank).toNat) 4 (w64 ((pickI [s.e0,s.e1,s.e2,s.e3,s.e4,s.e5] ((m.f_Tank).toNat)) - 1)) s.e4)),(aI (setI ((m.f_Tank).toNat) 5 (w64 ((pickI [s.e0,s.e1,s.e2,s.e3,s.e4,s.e5] ((m.f_Tank).toNat)) - 1)) s.e5))]),(32,vO 2 (TMove.cells m)),(48,vO 6 [(aI 0),(aI 0),(aI 0),(aI 0),(aI 0),(aI 0)])],368⟩ (C_111 59) [] [] (kp [3,4,5,6]) (kq [0,16,32,48]) 368 [0 < 1,0≤m.f_Tank∧m.f_Tank < ((6:Nat):Int),0 < 1,0≤m.f_Tank∧m.f_Tank < ((6:Nat):Int),0 < 1] ⟨o1,c4,o1,c4,o1,trivial⟩ ?_
      refine Runs.sA 1 [.code (C_111 30),.code (C_111 31)] ?_
      exact Runs.sW hE _ [] (kp [3,4,5,6]) (kq [0] ++ [(1,.keep 16),(2,.keep 32),(3,.keep 48)]) 4 [] trivial (g_w_plan_moved_J1_ok N t m (⟨(setI ((m.f_Tank).toNat) 0 (w64 ((pickI [s.e0,s.e1,s.e2,s.e3,s.e4,s.e5] ((m.f_Tank).toNat)) - 1)) s.e0),(setI ((m.f_Tank).toNat) 1 (w64 ((pickI [s.e0,s.e1,s.e2,s.e3,s.e4,s.e5] ((m.f_Tank).toNat)) - 1)) s.e1),(setI ((m.f_Tank).toNat) 2 (w64 ((pickI [s.e0,s.e1,s.e2,s.e3,s.e4,s.e5] ((m.f_Tank).toNat)) - 1)) s.e2),(setI ((m.f_Tank).toNat) 3 (w64 ((pickI [s.e0,s.e1,s.e2,s.e3,s.e4,s.e5] ((m.f_Tank).toNat)) - 1)) s.e3),(setI ((m.f_Tank).toNat) 4 (w64 ((pickI [s.e0,s.e1,s.e2,s.e3,s.e4,s.e5] ((m.f_Tank).toNat)) - 1)) s.e4),(setI ((m.f_Tank).toNat) 5 (w64 ((pickI [s.e0,s.e1,s.e2,s.e3,s.e4,s.e5] ((m.f_Tank).toNat)) - 1)) s.e5)⟩:Tw_state) _ h E hE)
noncomputable def C_112 (n:Nat):Code:=cat (bodyOf Tryz.f51) (pth n)
theorem g_w_plan_done_ok (N:Nat) (t:Tw_plan) (s:Tw_state) (r:Bool) (h:g_w_plan_done N t s = some r):Sound Tryz.prog 51 [(.agg (Tw_plan.cells t)),(.agg (Tw_state.cells s))] [] 0 (aB r) []:=by
  unfold g_w_plan_done at h
  refine Sound.of_runs (fu:=Tryz.f51) (c:=C_112 1) (nt:=15) (by kernel_rfl) (by kernel_rfl) (by kernel_rfl) (by kernel_rfl) (fun hm=>rfl) ?_
  intro E hE
  refine Runs.sA 1 [.code (C_112 2),.code (C_112 3)] ?_
  refine Runs.sR hE ⟨[(2,(.op 0 0 0)),(3,(.op 16 0 0))],[(0,vO 18 (Tw_plan.cells t)),(16,vO 6 (Tw_state.cells s))],48⟩ (C_112 2) [] [] (kp [2,3]) (kq [0,16]) 48 [] trivial ?_
  refine Runs.sA 1 [.code (C_112 6),.code (C_112 7)] ?_
  obtain ⟨rsumOf,hr,h⟩:=bindSome h
  obtain ⟨rBt,hr2,h⟩:=bindSome h
  refine Runs.sR hE ⟨[(4,(aB rBt))],[],224⟩ (C_112 6) [(3,⟨[],true,(.agg (Tw_sums.cells rsumOf)),[],0,false,none⟩),(9,⟨[],true,(aB rBt),[],0,false,none⟩)] [] (kp [4]) [] 224 [0 < 1,0 < 1,Sound Tryz.prog 25 [(.agg (TPn.cells t.f_p)),(.agg (Tw_state.cells s))] [] 0 (.agg (Tw_sums.cells rsumOf)) [],0 < 1,0 < 1,Sound Tryz.prog 34 [(aI rsumOf.f_mass),(aI t.f_low),(aI t.f_high)] [] 0 (aB rBt) []] ⟨o1,o1,(g_w_sumOf_ok N t.f_p s rsumOf hr),o1,o1,(g_w_between_ok N rsumOf.f_mass t.f_low t.f_high rBt hr2),trivial⟩ ?_
  obtain rfl:=Option.some.inj h
  refine Runs.sW hE ⟨[(4,(aB rBt))],[],224⟩ [] (kp [4]) [] 224 [] trivial ?_
  exact Runs.sT Tryz.f51 [] [] trivial
noncomputable def C_108 (n:Nat):Code:=cat (bodyOf Tryz.f18) (pth n)
theorem g_w_CheckBallast_L1_ok (N:Nat) (moves:List TMove) (ropen:Tw_plan × Int) (fuel:Nat):∀ (s:Tw_state) (x:Int) (r:Int),g_w_CheckBallast_L1 N moves ropen fuel s x = some r→∀ E,EnvOk E 0→Runs Tryz.prog E 18 62 (SPost E [] (aI r)) [.code (C_108 2036),.inLoop (C_108 2036),.inBlock 0,.code (C_108 255)] ⟨[(9,(.op 0 0 0)),(11,(.op 1 0 0)),(35,(encL TMove.cells TMove.d moves)),(36,(aI ((moves.length:Nat):Int))),(37,(aI x))],[(0,vO 18 (Tw_plan.cells ropen.1)),(1,vO 6 (Tw_state.cells s))],2⟩:=by
  induction fuel with
  | zero=>intro _ _ r h; rw [g_w_CheckBallast_L1.eq_1] at h; cases h
  | succ fuel ih =>
    intro s x r h E hE
    rw [g_w_CheckBallast_L1.eq_2] at h
    refine Runs.sA 1 [.code (C_108 4072),.code (C_108 4073),.inLoop (C_108 2036),.inBlock 0,.code (C_108 255)] ?_
    refine Runs.sR hE ⟨[(9,(.op 0 0 0)),(11,(.op 1 0 0)),(35,(encL TMove.cells TMove.d moves)),(36,(aI ((moves.length:Nat):Int))),(37,(aI x)),(38,(aB (decide (x < ((moves.length:Nat):Int)))))],[(0,vO 18 (Tw_plan.cells ropen.1)),(1,vO 6 (Tw_state.cells s))],18⟩ (C_108 4072) [] [] (kp [9,11,35,36,37,38]) (kq [0,1]) 18 [] trivial ?_
    refine Runs.sA 1 [.code (C_108 8146),.code (C_108 8147),.inLoop (C_108 2036),.inBlock 0,.code (C_108 255)] ?_
    refine Runs.sC 38 (C_108 16292) (C_108 16293) (decide (x < ((moves.length:Nat):Int))) (fun hq5=>?_) (fun hq5=>?_)
    · have h:=condT h hq5
      refine Runs.sA 4 [.code (C_108 65176),.code (C_108 65177),.inBlock 1,.code (C_108 16295),.inLoop (C_108 2036),.inBlock 0,.code (C_108 255)] ?_
      obtain ⟨c,h⟩:=ifSome h
      refine Runs.sR hE ⟨[(9,(.op 0 0 0)),(11,(.op 1 0 0)),(13,(.op 50 0 0)),(35,(encL TMove.cells TMove.d moves)),(36,(aI ((moves.length:Nat):Int))),(37,(aI x))],[(0,vO 18 (Tw_plan.cells ropen.1)),(1,vO 6 (Tw_state.cells s)),(50,vO 2 (TMove.cells (moves.getD ((x).toNat) TMove.d)))],82⟩ (C_108 65176) [] [] (kp [9,11,13,35,36,37]) (kq [0,1,50]) 82 [0≤x∧x < ((moves.length:Nat):Int),0 < 1] ⟨c,o1,trivial⟩ ?_
      refine Runs.sA 1 [.code (C_108 130354),.code (C_108 130355),.inBlock 1,.code (C_108 16295),.inLoop (C_108 2036),.inBlock 0,.code (C_108 255)] ?_
      obtain ⟨rmoved,hr3,h⟩:=bindSome h
      refine Runs.sR hE ⟨[(9,(.op 0 0 0)),(11,(.op 1 0 0)),(14,(.op 194 0 0)),(15,(aB rmoved.2)),(35,(encL TMove.cells TMove.d moves)),(36,(aI ((moves.length:Nat):Int))),(37,(aI x))],[(0,vO 18 (Tw_plan.cells ropen.1)),(1,vO 6 (Tw_state.cells s)),(194,vO 6 (Tw_state.cells rmoved.1))],242⟩ (C_108 130354) [(3,⟨[],true,(.tup [(.agg (Tw_state.cells rmoved.1)),(aB rmoved.2)]),[],0,false,none⟩)] [] (kp [9,11,14,15,35,36,37]) (kq [0,1,194]) 242 [0 < 1,0 < 1,0 < 1,Sound Tryz.prog 50 [(.agg (Tw_plan.cells ropen.1)),(.agg (Tw_state.cells s)),(.agg (TMove.cells (moves.getD ((x).toNat) TMove.d)))] [] 0 (.tup [(.agg (Tw_state.cells rmoved.1)),(aB rmoved.2)]) [],0 < 1] ⟨o1,o1,o1,(g_w_plan_moved_ok N ropen.1 s (moves.getD ((x).toNat) TMove.d) rmoved hr3),o1,trivial⟩ ?_
      refine Runs.sA 3 [.code (C_108 1042840),.code (C_108 1042841),.inBlock 2,.code (C_108 260711),.inBlock 1,.code (C_108 16295),.inLoop (C_108 2036),.inBlock 0,.code (C_108 255)] ?_
      refine Runs.sR hE ⟨[(9,(.op 0 0 0)),(11,(.op 1 0 0)),(14,(.op 194 0 0)),(35,(encL TMove.cells TMove.d moves)),(36,(aI ((moves.length:Nat):Int))),(37,(aI x)),(48,(aB (!rmoved.2)))],[(0,vO 18 (Tw_plan.cells ropen.1)),(1,vO 6 (Tw_state.cells s)),(194,vO 6 (Tw_state.cells rmoved.1))],290⟩ (C_108 1042840) [] [] (kp [9,11,14,35,36,37,48]) (kq [0,1,194]) 290 [] trivial ?_
      refine Runs.sC 48 (C_108 2085682) (C_108 2085683) (!rmoved.2) (fun hq6=>?_) (fun hq6=>?_)
      · have h:=condT h hq6
        refine Runs.sA 1 [.code (C_108 4171364),.code (C_108 4171365),.inBlock 2,.code (C_108 260711),.inBlock 1,.code (C_108 16295),.inLoop (C_108 2036),.inBlock 0,.code (C_108 255)] ?_
        refine Runs.sR hE ⟨[(8,(aI 2))],[],306⟩ (C_108 4171364) [] [] (kp [8]) [] 306 [] trivial ?_
        obtain rfl:=Option.some.inj h
        refine Runs.sW hE ⟨[(8,(aI 2))],[],306⟩ [] (kp [8]) [] 306 [] trivial ?_
        exact Runs.sT Tryz.f18 [] [] trivial
      · have h:=condF h hq6
        refine Runs.sA 1 [.code (C_108 4171366),.code (C_108 4171367),.inBlock 2,.code (C_108 260711),.inBlock 1,.code (C_108 16295),.inLoop (C_108 2036),.inBlock 0,.code (C_108 255)] ?_
        obtain ⟨rkeeps2,hr4,h⟩:=bindSome h
        refine Runs.sR hE ⟨[(9,(.op 0 0 0)),(11,(.op 1 0 0)),(14,(.op 194 0 0)),(35,(encL TMove.cells TMove.d moves)),(36,(aI ((moves.length:Nat):Int))),(37,(aI x)),(51,(aB (!rkeeps2)))],[(0,vO 18 (Tw_plan.cells ropen.1)),(1,vO 6 (Tw_state.cells s)),(194,vO 6 (Tw_state.cells rmoved.1))],370⟩ (C_108 4171366) [(2,⟨[],true,(aB rkeeps2),[],0,false,none⟩)] [] (kp [9,11,14,35,36,37,51]) (kq [0,1,194]) 370 [0 < 1,0 < 1,Sound Tryz.prog 49 [(.agg (Tw_plan.cells ropen.1)),(.agg (Tw_state.cells rmoved.1))] [] 0 (aB rkeeps2) []] ⟨o1,o1,(g_w_plan_keeps_ok N ropen.1 rmoved.1 rkeeps2 hr4),trivial⟩ ?_
        refine Runs.sC 51 (C_108 8342734) (C_108 8342735) (!rkeeps2) (fun hq7=>?_) (fun hq7=>?_)
        · have h:=condT h hq7
          refine Runs.sA 1 [.code (C_108 16685468),.code (C_108 16685469),.inBlock 2,.code (C_108 260711),.inBlock 1,.code (C_108 16295),.inLoop (C_108 2036),.inBlock 0,.code (C_108 255)] ?_
          refine Runs.sR hE ⟨[(8,(aI 16))],[],386⟩ (C_108 16685468) [] [] (kp [8]) [] 386 [] trivial ?_
          obtain rfl:=Option.some.inj h
          refine Runs.sW hE ⟨[(8,(aI 16))],[],386⟩ [] (kp [8]) [] 386 [] trivial ?_
          exact Runs.sT Tryz.f18 [] [] trivial
        · have h:=condF h hq7
          refine Runs.sA 2 [.code (C_108 260711),.inBlock 1,.code (C_108 16295),.inLoop (C_108 2036),.inBlock 0,.code (C_108 255)] ?_
          refine Runs.sR hE ⟨[(9,(.op 0 0 0)),(11,(.op 1 0 0)),(35,(encL TMove.cells TMove.d moves)),(36,(aI ((moves.length:Nat):Int))),(37,(aI x))],[(0,vO 18 (Tw_plan.cells ropen.1)),(1,vO 6 (Tw_state.cells rmoved.1))],402⟩ (C_108 260711) [] [] (kp [9,11,35,36,37]) (kq [0,1]) 402 [0 < 1,0 < 1] ⟨o1,o1,trivial⟩ ?_
          refine Runs.sA 1 [.code (C_108 16295),.inLoop (C_108 2036),.inBlock 0,.code (C_108 255)] ?_
          refine Runs.sR hE ⟨[(9,(.op 0 0 0)),(11,(.op 1 0 0)),(35,(encL TMove.cells TMove.d moves)),(36,(aI ((moves.length:Nat):Int))),(37,(aI (w64 (x+1))))],[(0,vO 18 (Tw_plan.cells ropen.1)),(1,vO 6 (Tw_state.cells rmoved.1))],434⟩ (C_108 16295) [] [] (kp [9,11,35,36,37]) (kq [0,1]) 434 [] trivial ?_
          refine Runs.sA 1 [.code (C_108 2036),.inLoop (C_108 2036),.inBlock 0,.code (C_108 255)] ?_
          exact Runs.sW hE _ [] (kp [9,11,35,36,37]) (kq [0,1]) 2 [] trivial (ih rmoved.1 (w64 (x+1)) _ h E hE)
    · have h:=condF h hq5
      refine Runs.sA 3 [.code (C_108 1020),.code (C_108 1021),.code (C_108 511)] ?_
      obtain ⟨rdone,hr5,h⟩:=bindSome h
      refine Runs.sR hE ⟨[(61,(aB (!rdone)))],[],82⟩ (C_108 1020) [(2,⟨[],true,(aB rdone),[],0,false,none⟩)] [] (kp [61]) [] 82 [0 < 1,0 < 1,Sound Tryz.prog 51 [(.agg (Tw_plan.cells ropen.1)),(.agg (Tw_state.cells s))] [] 0 (aB rdone) []] ⟨o1,o1,(g_w_plan_done_ok N ropen.1 s rdone hr5),trivial⟩ ?_
      refine Runs.sC 61 (C_108 2042) (C_108 2043) (!rdone) (fun hq8=>?_) (fun hq8=>?_)
      · have h:=condT h hq8
        refine Runs.sA 1 [.code (C_108 4084),.code (C_108 4085),.code (C_108 511)] ?_
        refine Runs.sR hE ⟨[(8,(aI 29))],[],98⟩ (C_108 4084) [] [] (kp [8]) [] 98 [] trivial ?_
        obtain rfl:=Option.some.inj h
        refine Runs.sW hE ⟨[(8,(aI 29))],[],98⟩ [] (kp [8]) [] 98 [] trivial ?_
        exact Runs.sT Tryz.f18 [] [] trivial
      · have h:=condF h hq8
        refine Runs.sA 2 [.code (C_108 1022),.code (C_108 1023)] ?_
        refine Runs.sR hE ⟨[(8,(aI 0))],[],98⟩ (C_108 1022) [] [] (kp [8]) [] 98 [] trivial ?_
        obtain rfl:=Option.some.inj h
        refine Runs.sW hE ⟨[(8,(aI 0))],[],98⟩ [] (kp [8]) [] 98 [] trivial ?_
        exact Runs.sT Tryz.f18 [] [] trivial
theorem g_w_CheckBallast_ok (N:Nat) (p:TPn) (l:TLimits) (a:TAim) (moves:List TMove) (r:Int) (h:g_w_CheckBallast N p l a moves = some r):Sound Tryz.prog 18 [(.agg (TPn.cells p)),(.agg (TLimits.cells l)),(.agg (TAim.cells a)),(encL TMove.cells TMove.d moves)] [] 0 (aI r) []:=by
  unfold g_w_CheckBallast at h
  refine Sound.of_runs (fu:=Tryz.f18) (c:=C_108 1) (nt:=62) (by kernel_rfl) (by kernel_rfl) (by kernel_rfl) (by kernel_rfl) (fun hm=>rfl) ?_
  intro E hE
  refine Runs.sA 1 [.code (C_108 2),.code (C_108 3)] ?_
  refine Runs.sR hE ⟨[(3,(encL TMove.cells TMove.d moves)),(4,(.op 0 0 0)),(5,(.op 16 0 0)),(6,(.op 32 0 0))],[(0,vO 5 (TPn.cells p)),(16,vO 5 (TLimits.cells l)),(32,vO 3 (TAim.cells a))],64⟩ (C_108 2) [] [] (kp [3,4,5,6]) (kq [0,16,32]) 64 [] trivial ?_
  refine Runs.sA 1 [.code (C_108 6),.code (C_108 7)] ?_
  obtain ⟨ropen,hr,h⟩:=bindSome h
  refine Runs.sR hE ⟨[(3,(encL TMove.cells TMove.d moves)),(9,(.op 176 0 0)),(10,(aI ropen.2))],[(176,vO 18 (Tw_plan.cells ropen.1))],224⟩ (C_108 6) [(3,⟨[],true,(.tup [(.agg (Tw_plan.cells ropen.1)),(aI ropen.2)]),[],0,false,none⟩)] [] (kp [3,9,10]) (kq [176]) 224 [0 < 1,0 < 1,0 < 1,Sound Tryz.prog 48 [(.agg (TPn.cells p)),(.agg (TLimits.cells l)),(.agg (TAim.cells a))] [] 0 (.tup [(.agg (Tw_plan.cells ropen.1)),(aI ropen.2)]) [],0 < 1] ⟨o1,o1,o1,(g_w_open_ok N p l a ropen hr),o1,trivial⟩ ?_
  refine Runs.sA 2 [.code (C_108 28),.code (C_108 29),.code (C_108 15)] ?_
  refine Runs.sR hE ⟨[(3,(encL TMove.cells TMove.d moves)),(9,(.op 176 0 0)),(10,(aI ropen.2)),(24,(aB (ropen.2 != 0)))],[(176,vO 18 (Tw_plan.cells ropen.1))],256⟩ (C_108 28) [] [] (kp [3,9,10,24]) (kq [176]) 256 [] trivial ?_
  refine Runs.sC 24 (C_108 58) (C_108 59) (ropen.2 != 0) (fun hq2=>?_) (fun hq2=>?_)
  · have h:=condT h hq2
    refine Runs.sA 1 [.code (C_108 116),.code (C_108 117),.code (C_108 15)] ?_
    refine Runs.sR hE ⟨[(8,(aI ropen.2))],[],288⟩ (C_108 116) [] [] (kp [8]) [] 288 [] trivial ?_
    obtain rfl:=Option.some.inj h
    refine Runs.sW hE ⟨[(8,(aI ropen.2))],[],288⟩ [] (kp [8]) [] 288 [] trivial ?_
    exact Runs.sT Tryz.f18 [] [] trivial
  · have h:=condF h hq2
    refine Runs.sA 3 [.code (C_108 60),.code (C_108 61),.code (C_108 31)] ?_
    refine Runs.sR hE ⟨[(3,(encL TMove.cells TMove.d moves)),(9,(.op 176 0 0)),(28,(aB (decide (((moves.length:Nat):Int) > 20000))))],[(176,vO 18 (Tw_plan.cells ropen.1))],304⟩ (C_108 60) [] [] (kp [3,9,28]) (kq [176]) 304 [] trivial ?_
    refine Runs.sC 28 (C_108 122) (C_108 123) (decide (((moves.length:Nat):Int) > 20000)) (fun hq3=>?_) (fun hq3=>?_)
    · have h:=condT h hq3
      refine Runs.sA 1 [.code (C_108 244),.code (C_108 245),.code (C_108 31)] ?_
      refine Runs.sR hE ⟨[(8,(aI 8))],[],320⟩ (C_108 244) [] [] (kp [8]) [] 320 [] trivial ?_
      obtain rfl:=Option.some.inj h
      refine Runs.sW hE ⟨[(8,(aI 8))],[],320⟩ [] (kp [8]) [] 320 [] trivial ?_
      exact Runs.sT Tryz.f18 [] [] trivial
    · have h:=condF h hq3
      refine Runs.sA 2 [.code (C_108 62),.code (C_108 63)] ?_
      refine Runs.sR hE ⟨[(3,(encL TMove.cells TMove.d moves)),(9,(.op 176 0 0)),(11,(.op 336 0 0))],[(176,vO 18 (Tw_plan.cells ropen.1)),(336,vO 6 (Tw_state.cells ropen.1.f_start))],368⟩ (C_108 62) [] [] (kp [3,9,11]) (kq [176,336]) 368 [0 < 1,0 < 1] ⟨o1,o1,trivial⟩ ?_
      refine Runs.sA 2 [.code (C_108 252),.code (C_108 253),.code (C_108 127)] ?_
      obtain ⟨rkeeps,hr2,h⟩:=bindSome h
      refine Runs.sR hE ⟨[(3,(encL TMove.cells TMove.d moves)),(9,(.op 176 0 0)),(11,(.op 336 0 0)),(34,(aB (!rkeeps)))],[(176,vO 18 (Tw_plan.cells ropen.1)),(336,vO 6 (Tw_state.cells ropen.1.f_start))],432⟩ (C_108 252) [(2,⟨[],true,(aB rkeeps),[],0,false,none⟩)] [] (kp [3,9,11,34]) (kq [176,336]) 432 [0 < 1,0 < 1,Sound Tryz.prog 49 [(.agg (Tw_plan.cells ropen.1)),(.agg (Tw_state.cells ropen.1.f_start))] [] 0 (aB rkeeps) []] ⟨o1,o1,(g_w_plan_keeps_ok N ropen.1 ropen.1.f_start rkeeps hr2),trivial⟩ ?_
      refine Runs.sC 34 (C_108 506) (C_108 507) (!rkeeps) (fun hq4=>?_) (fun hq4=>?_)
      · have h:=condT h hq4
        refine Runs.sA 1 [.code (C_108 1012),.code (C_108 1013),.code (C_108 127)] ?_
        refine Runs.sR hE ⟨[(8,(aI 16))],[],448⟩ (C_108 1012) [] [] (kp [8]) [] 448 [] trivial ?_
        obtain rfl:=Option.some.inj h
        refine Runs.sW hE ⟨[(8,(aI 16))],[],448⟩ [] (kp [8]) [] 448 [] trivial ?_
        exact Runs.sT Tryz.f18 [] [] trivial
      · have h:=condF h hq4
        refine Runs.sA 3 [.code (C_108 508),.code (C_108 509),.code (C_108 255)] ?_
        refine Runs.sR hE ⟨[(9,(.op 176 0 0)),(11,(.op 336 0 0)),(35,(encL TMove.cells TMove.d moves)),(36,(aI ((moves.length:Nat):Int))),(37,(aI 0))],[(176,vO 18 (Tw_plan.cells ropen.1)),(336,vO 6 (Tw_state.cells ropen.1.f_start))],480⟩ (C_108 508) [] [] (kp [9,11,35,36,37]) (kq [176,336]) 480 [] trivial ?_
        refine Runs.sA 2 [.code (C_108 2036),.inLoop (C_108 2036),.inBlock 0,.code (C_108 255)] ?_
        exact Runs.sW hE _ [] (kp [9,11,35,36,37]) [(0,.keep 176),(1,.keep 336)] 2 [] trivial (g_w_CheckBallast_L1_ok N moves ropen N ropen.1.f_start 0 _ h E hE)
noncomputable def C_115 (n:Nat):Code:=cat (bodyOf Tryz.f75) (pth n)
theorem g_r05_CheckAim_ok (N:Nat) (p:TPn) (a:TAim) (r:Int) (h:g_r05_CheckAim N p a = some r):Sound Tryz.prog 75 [(.agg (TPn.cells p)),(.agg (TAim.cells a))] [] 0 (aI r) []:=by
  unfold g_r05_CheckAim at h
  refine Sound.of_runs (fu:=Tryz.f75) (c:=C_115 1) (nt:=23) (by kernel_rfl) (by kernel_rfl) (by kernel_rfl) (by kernel_rfl) (fun hm=>rfl) ?_
  intro E hE
  refine Runs.sA 1 [.code (C_115 2),.code (C_115 3)] ?_
  refine Runs.sR hE ⟨[(2,(.op 0 0 0)),(3,(.op 16 0 0))],[(0,vO 5 (TPn.cells p)),(16,vO 3 (TAim.cells a))],48⟩ (C_115 2) [] [] (kp [2,3]) (kq [0,16]) 48 [] trivial ?_
  refine Runs.sA 2 [.code (C_115 12),.code (C_115 13),.code (C_115 7)] ?_
  obtain ⟨rCheckSteps,hr,h⟩:=bindSome h
  refine Runs.sR hE ⟨[(3,(.op 16 0 0)),(5,(aI rCheckSteps))],[(16,vO 3 (TAim.cells a))],128⟩ (C_115 12) [(3,⟨[],true,(aI rCheckSteps),[],0,false,none⟩)] [] (kp [3,5]) (kq [16]) 128 [0 < 1,0 < 1,Sound Tryz.prog 12 [(.agg (TPn.cells p)),(encL cI 0 a.f_Start)] [] 0 (aI rCheckSteps) []] ⟨o1,o1,(g_r05_CheckSteps_ok N p a.f_Start rCheckSteps hr),trivial⟩ ?_
  refine Runs.sA 1 [.code (C_115 26),.code (C_115 27),.code (C_115 7)] ?_
  refine Runs.sR hE ⟨[(3,(.op 16 0 0)),(5,(aI rCheckSteps)),(11,(aB (rCheckSteps != 0)))],[(16,vO 3 (TAim.cells a))],160⟩ (C_115 26) [] [] (kp [3,5,11]) (kq [16]) 160 [] trivial ?_
  refine Runs.sC 11 (C_115 54) (C_115 55) (rCheckSteps != 0) (fun hq2=>?_) (fun hq2=>?_)
  · have h:=condT h hq2
    refine Runs.sA 1 [.code (C_115 108),.code (C_115 109),.code (C_115 7)] ?_
    refine Runs.sR hE ⟨[(4,(aI rCheckSteps))],[],192⟩ (C_115 108) [] [] (kp [4]) [] 192 [] trivial ?_
    obtain rfl:=Option.some.inj h
    refine Runs.sW hE ⟨[(4,(aI rCheckSteps))],[],192⟩ [] (kp [4]) [] 192 [] trivial ?_
    exact Runs.sT Tryz.f75 [] [] trivial
  · have h:=condF h hq2
    refine Runs.sA 3 [.code (C_115 28),.code (C_115 29),.code (C_115 15)] ?_
    obtain ⟨rIn,hr2,h⟩:=bindSome h
    obtain ⟨rIn2,hr3,h⟩:=bindSome h
    refine Runs.sR hE ⟨[(22,(aB (cond (!rIn) true (!rIn2))))],[],320⟩ (C_115 28) [(2,⟨[],true,(aB rIn),[],0,false,none⟩),(7,⟨[],true,(aB rIn2),[],0,false,none⟩)] [] (kp [22]) [] 320 [0 < 1,Sound Tryz.prog 22 [(aI a.f_DraughtLeast),(aI 0),(aI 1000000)] [] 0 (aB rIn) [],(!(!rIn)) = true→AllP [(!(!rIn)) = true,0 < 1],(!(!rIn)) = true→AllP [Sound Tryz.prog 22 [(aI a.f_DraughtMost),(aI 0),(aI 1000000)] [] 0 (aB rIn2) [],(!(!rIn)) = true],(!(!rIn)) = true→AllP [(!(!rIn)) = true],(!(!rIn)) = true→AllP [(!(!rIn)) = true]] ⟨o1,(g_r05_inside_ok N a.f_DraughtLeast 0 1000000 rIn hr2),(fun hg=>⟨hg,o1,trivial⟩),(fun hg=>⟨(g_r05_inside_ok N a.f_DraughtMost 0 1000000 rIn2 (condT hr3 hg)),hg,trivial⟩),(fun hg=>⟨hg,trivial⟩),(fun hq=>⟨hq,trivial⟩),trivial⟩ ?_
    refine Runs.sC 22 (C_115 58) (C_115 59) (cond (!rIn) true (!rIn2)) (fun hq3=>?_) (fun hq3=>?_)
    · have h:=condT h hq3
      refine Runs.sA 1 [.code (C_115 116),.code (C_115 117),.code (C_115 15)] ?_
      refine Runs.sR hE ⟨[(4,(aI 2))],[],336⟩ (C_115 116) [] [] (kp [4]) [] 336 [] trivial ?_
      obtain rfl:=Option.some.inj h
      refine Runs.sW hE ⟨[(4,(aI 2))],[],336⟩ [] (kp [4]) [] 336 [] trivial ?_
      exact Runs.sT Tryz.f75 [] [] trivial
    · have h:=condF h hq3
      refine Runs.sA 2 [.code (C_115 30),.code (C_115 31)] ?_
      refine Runs.sR hE ⟨[(4,(aI 0))],[],336⟩ (C_115 30) [] [] (kp [4]) [] 336 [] trivial ?_
      obtain rfl:=Option.some.inj h
      refine Runs.sW hE ⟨[(4,(aI 0))],[],336⟩ [] (kp [4]) [] 336 [] trivial ?_
      exact Runs.sT Tryz.f75 [] [] trivial
noncomputable def C_114 (n:Nat):Code:=cat (bodyOf Tryz.f52) (pth n)
theorem g_r05_CheckBegin_ok (N:Nat) (p:TPn) (l:TLimits) (a:TAim) (r:Int) (h:g_r05_CheckBegin N p l a = some r):Sound Tryz.prog 52 [(.agg (TPn.cells p)),(.agg (TLimits.cells l)),(.agg (TAim.cells a))] [] 0 (aI r) []:=by
  unfold g_r05_CheckBegin at h
  refine Sound.of_runs (fu:=Tryz.f52) (c:=C_114 1) (nt:=22) (by kernel_rfl) (by kernel_rfl) (by kernel_rfl) (by kernel_rfl) (fun hm=>rfl) ?_
  intro E hE
  refine Runs.sA 1 [.code (C_114 2),.code (C_114 3)] ?_
  refine Runs.sR hE ⟨[(3,(.op 0 0 0)),(4,(.op 16 0 0)),(5,(.op 32 0 0))],[(0,vO 5 (TPn.cells p)),(16,vO 5 (TLimits.cells l)),(32,vO 3 (TAim.cells a))],64⟩ (C_114 2) [] [] (kp [3,4,5]) (kq [0,16,32]) 64 [] trivial ?_
  refine Runs.sA 2 [.code (C_114 12),.code (C_114 13),.code (C_114 7)] ?_
  obtain ⟨rCP,hr,h⟩:=bindSome h
  refine Runs.sR hE ⟨[(3,(.op 0 0 0)),(4,(.op 16 0 0)),(5,(.op 32 0 0)),(7,(aI rCP))],[(0,vO 5 (TPn.cells p)),(16,vO 5 (TLimits.cells l)),(32,vO 3 (TAim.cells a))],112⟩ (C_114 12) [(1,⟨[],true,(aI rCP),[],0,false,none⟩)] [] (kp [3,4,5,7]) (kq [0,16,32]) 112 [0 < 1,Sound Tryz.prog 7 [(.agg (TPn.cells p))] [] 0 (aI rCP) []] ⟨o1,(g_r05_CheckPontoon_ok N p rCP hr),trivial⟩ ?_
  refine Runs.sA 1 [.code (C_114 26),.code (C_114 27),.code (C_114 7)] ?_
  refine Runs.sR hE ⟨[(3,(.op 0 0 0)),(4,(.op 16 0 0)),(5,(.op 32 0 0)),(7,(aI rCP)),(12,(aB (rCP != 0)))],[(0,vO 5 (TPn.cells p)),(16,vO 5 (TLimits.cells l)),(32,vO 3 (TAim.cells a))],144⟩ (C_114 26) [] [] (kp [3,4,5,7,12]) (kq [0,16,32]) 144 [] trivial ?_
  refine Runs.sC 12 (C_114 54) (C_114 55) (rCP != 0) (fun hq2=>?_) (fun hq2=>?_)
  · have h:=condT h hq2
    refine Runs.sA 1 [.code (C_114 108),.code (C_114 109),.code (C_114 7)] ?_
    refine Runs.sR hE ⟨[(6,(aI rCP))],[],176⟩ (C_114 108) [] [] (kp [6]) [] 176 [] trivial ?_
    obtain rfl:=Option.some.inj h
    refine Runs.sW hE ⟨[(6,(aI rCP))],[],176⟩ [] (kp [6]) [] 176 [] trivial ?_
    exact Runs.sT Tryz.f52 [] [] trivial
  · have h:=condF h hq2
    refine Runs.sA 3 [.code (C_114 28),.code (C_114 29),.code (C_114 15)] ?_
    obtain ⟨rCheckLimits,hr2,h⟩:=bindSome h
    refine Runs.sR hE ⟨[(3,(.op 0 0 0)),(5,(.op 32 0 0)),(8,(aI rCheckLimits))],[(0,vO 5 (TPn.cells p)),(32,vO 3 (TAim.cells a))],192⟩ (C_114 28) [(1,⟨[],true,(aI rCheckLimits),[],0,false,none⟩)] [] (kp [3,5,8]) (kq [0,32]) 192 [0 < 1,Sound Tryz.prog 13 [(.agg (TLimits.cells l))] [] 0 (aI rCheckLimits) []] ⟨o1,(g_r05_CheckLimits_ok N l rCheckLimits hr2),trivial⟩ ?_
    refine Runs.sA 1 [.code (C_114 58),.code (C_114 59),.code (C_114 15)] ?_
    refine Runs.sR hE ⟨[(3,(.op 0 0 0)),(5,(.op 32 0 0)),(8,(aI rCheckLimits)),(17,(aB (rCheckLimits != 0)))],[(0,vO 5 (TPn.cells p)),(32,vO 3 (TAim.cells a))],224⟩ (C_114 58) [] [] (kp [3,5,8,17]) (kq [0,32]) 224 [] trivial ?_
    refine Runs.sC 17 (C_114 118) (C_114 119) (rCheckLimits != 0) (fun hq3=>?_) (fun hq3=>?_)
    · have h:=condT h hq3
      refine Runs.sA 1 [.code (C_114 236),.code (C_114 237),.code (C_114 15)] ?_
      refine Runs.sR hE ⟨[(6,(aI rCheckLimits))],[],256⟩ (C_114 236) [] [] (kp [6]) [] 256 [] trivial ?_
      obtain rfl:=Option.some.inj h
      refine Runs.sW hE ⟨[(6,(aI rCheckLimits))],[],256⟩ [] (kp [6]) [] 256 [] trivial ?_
      exact Runs.sT Tryz.f52 [] [] trivial
    · have h:=condF h hq3
      refine Runs.sA 2 [.code (C_114 30),.code (C_114 31)] ?_
      obtain ⟨rCheckAim,hr3,h⟩:=bindSome h
      refine Runs.sR hE ⟨[(6,(aI rCheckAim))],[],288⟩ (C_114 30) [(2,⟨[],true,(aI rCheckAim),[],0,false,none⟩)] [] (kp [6]) [] 288 [0 < 1,0 < 1,Sound Tryz.prog 75 [(.agg (TPn.cells p)),(.agg (TAim.cells a))] [] 0 (aI rCheckAim) []] ⟨o1,o1,(g_r05_CheckAim_ok N p a rCheckAim hr3),trivial⟩ ?_
      obtain rfl:=Option.some.inj h
      refine Runs.sW hE ⟨[(6,(aI rCheckAim))],[],288⟩ [] (kp [6]) [] 288 [] trivial ?_
      exact Runs.sT Tryz.f52 [] [] trivial
noncomputable def C_116 (n:Nat):Code:=cat (bodyOf Tryz.f53) (pth n)
theorem g_r05_Made_J1_ok (N:Nat) (p:TPn) (m:TMove) (out:List Int) (r:(List Int) × Bool) (h:g_r05_Made_J1 N p m out = some r):∀ E,EnvOk E 0→Runs Tryz.prog E 53 58 (SPost E [] (.tup [(encL cI 0 r.1),(aB r.2)])) [.code (C_116 62),.code (C_116 63)] ⟨[(3,(.op 0 0 0)),(5,(.op 1 0 0)),(8,(.os 2 0 out.length))],[(0,vO 5 (TPn.cells p)),(1,vO 2 (TMove.cells m)),(2,aO 1 cI 0 out)],3⟩:=by
  intro E hE
  unfold g_r05_Made_J1 at h
  obtain ⟨c3,h⟩:=ifSome h
  obtain ⟨c4,h⟩:=ifSome h
  obtain ⟨rIn,hr,h⟩:=bindSome h
  refine Runs.sR hE ⟨[(6,(.os 2 0 out.length)),(7,(aB rIn))],[(2,aO 1 cI 0 out)],259⟩ (C_116 62) [(13,⟨[],true,(aB rIn),[],0,false,none⟩)] [] (kp [6,7]) (kq [2]) 259 [0 < 1,0≤m.f_Tank∧m.f_Tank < ((out.length:Nat):Int),(m.f_Tank).toNat < out.length,0 < 1,0 < 1,0≤m.f_Tank∧m.f_Tank < ((p.fTk.length:Nat):Int),Sound Tryz.prog 22 [(aI (out.getD ((m.f_Tank).toNat) 0)),(aI 0),(aI ((p.fTk.getD ((m.f_Tank).toNat) TTank.d).f_Steps))] [] 0 (aB rIn) []] ⟨o1,c3,(ltOf c3),o1,o1,c4,(g_r05_inside_ok N (out.getD ((m.f_Tank).toNat) 0) 0 ((p.fTk.getD ((m.f_Tank).toNat) TTank.d).f_Steps) rIn hr),trivial⟩ ?_
  obtain rfl:=Option.some.inj h
  refine Runs.sW hE ⟨[(6,(encL cI 0 out)),(7,(aB rIn))],[],259⟩ [2] ([(6,.sl (out.length) (fun zi=>cI (out.getD zi 0)))] ++ kp [7]) [] 259 [out.length = out.length,0+out.length≤out.length,∀ zi,zi < out.length→(fun zi=>cI (out.getD zi 0)) zi = (fun zi=>cI (out.getD zi 0)) (addz 0 zi)] ⟨rfl,z0,(fun _ _=>rfl),trivial⟩ ?_
  exact Runs.sT Tryz.f53 [] [] trivial
theorem g_r05_Made_ok (N:Nat) (p:TPn) (steps:List Int) (m:TMove) (r:(List Int) × Bool) (h:g_r05_Made N p steps m = some r):Sound Tryz.prog 53 [(.agg (TPn.cells p)),(encL cI 0 steps),(.agg (TMove.cells m))] [] 0 (.tup [(encL cI 0 r.1),(aB r.2)]) []:=by
  unfold g_r05_Made at h
  refine Sound.of_runs (fu:=Tryz.f53) (c:=C_116 1) (nt:=58) (by kernel_rfl) (by kernel_rfl) (by kernel_rfl) (by kernel_rfl) (fun hm=>rfl) ?_
  intro E hE
  refine Runs.sA 1 [.code (C_116 2),.code (C_116 3)] ?_
  refine Runs.sR hE ⟨[(1,(encL cI 0 steps)),(3,(.op 0 0 0)),(5,(.op 16 0 0))],[(0,vO 5 (TPn.cells p)),(16,vO 2 (TMove.cells m))],64⟩ (C_116 2) [] [] (kp [1,3,5]) (kq [0,16]) 64 [] trivial ?_
  refine Runs.sA 2 [.code (C_116 12),.code (C_116 13),.code (C_116 7)] ?_
  refine Runs.sR hE ⟨[(1,(encL cI 0 steps)),(3,(.op 0 0 0)),(5,(.op 16 0 0)),(18,(aB (cond (decide (m.f_Tank < 0)) true (decide (m.f_Tank ≥ ((steps.length:Nat):Int))))))],[(0,vO 5 (TPn.cells p)),(16,vO 2 (TMove.cells m))],224⟩ (C_116 12) [] [] (kp [1,3,5,18]) (kq [0,16]) 224 [0 < 1,(!(decide (m.f_Tank < 0))) = true→AllP [(!(decide (m.f_Tank < 0))) = true,0 < 1],(!(decide (m.f_Tank < 0))) = true→AllP [(!(decide (m.f_Tank < 0))) = true],(!(decide (m.f_Tank < 0))) = true→AllP [(!(decide (m.f_Tank < 0))) = true,(!(decide (m.f_Tank < 0))) = true],(!(decide (m.f_Tank < 0))) = true→AllP [(!(decide (m.f_Tank < 0))) = true]] ⟨o1,(fun hg=>⟨hg,o1,trivial⟩),(fun hg=>⟨hg,trivial⟩),(fun hg=>⟨hg,hg,trivial⟩),(fun hq=>⟨hq,trivial⟩),trivial⟩ ?_
  refine Runs.sC 18 (C_116 26) (C_116 27) (cond (decide (m.f_Tank < 0)) true (decide (m.f_Tank ≥ ((steps.length:Nat):Int)))) (fun hq2=>?_) (fun hq2=>?_)
  · have h:=condT h hq2
    refine Runs.sA 1 [.code (C_116 52),.code (C_116 53),.code (C_116 7)] ?_
    refine Runs.sR hE ⟨[(6,.nil),(7,(aB false))],[],256⟩ (C_116 52) [] [] (kp [6,7]) [] 256 [] trivial ?_
    obtain rfl:=Option.some.inj h
    refine Runs.sW hE ⟨[(6,(encL cI 0 ([]:List Int))),(7,(aB false))],[],256⟩ [] ([(6,.sl (([]:List Int).length) (fun zi=>cI (([]:List Int).getD zi 0)))] ++ kp [7]) [] 256 [([]:List Int).length = 0] ⟨rfl,trivial⟩ ?_
    exact Runs.sT Tryz.f53 [] [] trivial
  · have h:=condF h hq2
    refine Runs.sA 2 [.code (C_116 14),.code (C_116 15)] ?_
    obtain ⟨c,h⟩:=ifSome h
    refine Runs.sR hE ⟨[(3,(.op 0 0 0)),(5,(.op 16 0 0)),(8,(.os 256 0 ((([]:List Int) ++ steps).length)))],[(0,vO 5 (TPn.cells p)),(16,vO 2 (TMove.cells m)),(256,aO 1 cI 0 (([]:List Int) ++ steps))],288⟩ (C_116 14) [] [] (kp [3,5] ++ [(8,.osl ((([]:List Int) ++ steps).length))]) (kq [0,16] ++ [(256,.arr 256 ((([]:List Int) ++ steps).length) (fun zi=>cI ((([]:List Int) ++ steps).getD zi 0)))]) 288 [0 = 0,(0+steps.length) * 8≤140737488355328,∀ zi,zi < steps.length→AV.oneL ((fun zi=>cI (steps.getD zi 0)) zi) = true,(0+steps.length) = (([]:List Int) ++ steps).length,0+steps.length = (([]:List Int) ++ steps).length,∀ zi,zi < (([]:List Int) ++ steps).length→(fun zi=>cI ((([]:List Int) ++ steps).getD zi 0)) zi = ((fun zm=>if zm < 0 then (fun _=>[]) zm else (fun zi=>cI (steps.getD zi 0)) (zm - 0))) zi] ⟨rfl,c,(fun _ _=>rfl),(len_app_raw rfl rfl),(len_app_raw rfl rfl),(get_app_raw cI 0 ([]:List Int) steps rfl (fun zq hzq=>absurd hzq (Nat.not_lt_zero _)) (fun _ _=>rfl)),trivial⟩ ?_
    refine Runs.sA 2 [.code (C_116 60),.code (C_116 61),.code (C_116 31)] ?_
    refine Runs.sR hE ⟨[(3,(.op 0 0 0)),(5,(.op 16 0 0)),(8,(.os 256 0 ((([]:List Int) ++ steps).length))),(23,(aB m.f_Up))],[(0,vO 5 (TPn.cells p)),(16,vO 2 (TMove.cells m)),(256,aO 1 cI 0 (([]:List Int) ++ steps))],320⟩ (C_116 60) [] [] (kp [3,5,8,23]) (kq [0,16,256]) 320 [0 < 1] ⟨o1,trivial⟩ ?_
    refine Runs.sC 23 (C_116 122) (C_116 123) m.f_Up (fun hq3=>?_) (fun hq3=>?_)
    · have h:=condT h hq3
      obtain ⟨c2,h⟩:=ifSome h
      refine Runs.sR hE ⟨[(3,(.op 0 0 0)),(5,(.op 16 0 0)),(8,(.os 256 0 (((([]:List Int) ++ steps).set ((m.f_Tank).toNat) (w64 (((([]:List Int) ++ steps).getD ((m.f_Tank).toNat) 0)+1))).length)))],[(0,vO 5 (TPn.cells p)),(16,vO 2 (TMove.cells m)),(256,aO 1 cI 0 ((([]:List Int) ++ steps).set ((m.f_Tank).toNat) (w64 (((([]:List Int) ++ steps).getD ((m.f_Tank).toNat) 0)+1))))],496⟩ (C_116 122) [] [] (kp [3,5] ++ [(8,.osl (((([]:List Int) ++ steps).set ((m.f_Tank).toNat) (w64 (((([]:List Int) ++ steps).getD ((m.f_Tank).toNat) 0)+1))).length))]) (kq [0,16] ++ [(256,.arr 256 (((([]:List Int) ++ steps).set ((m.f_Tank).toNat) (w64 (((([]:List Int) ++ steps).getD ((m.f_Tank).toNat) 0)+1))).length) (fun zi=>cI (((([]:List Int) ++ steps).set ((m.f_Tank).toNat) (w64 (((([]:List Int) ++ steps).getD ((m.f_Tank).toNat) 0)+1))).getD zi 0)))]) 496 [0 < 1,0 < 1,0≤m.f_Tank∧m.f_Tank < (((([]:List Int) ++ steps).length:Nat):Int),(m.f_Tank).toNat < (([]:List Int) ++ steps).length,0≤m.f_Tank∧m.f_Tank < (((([]:List Int) ++ steps).length:Nat):Int),(m.f_Tank).toNat < (([]:List Int) ++ steps).length,(([]:List Int) ++ steps).length = ((([]:List Int) ++ steps).set ((m.f_Tank).toNat) (w64 (((([]:List Int) ++ steps).getD ((m.f_Tank).toNat) 0)+1))).length,(([]:List Int) ++ steps).length = ((([]:List Int) ++ steps).set ((m.f_Tank).toNat) (w64 (((([]:List Int) ++ steps).getD ((m.f_Tank).toNat) 0)+1))).length,∀ zi,zi < ((([]:List Int) ++ steps).set ((m.f_Tank).toNat) (w64 (((([]:List Int) ++ steps).getD ((m.f_Tank).toNat) 0)+1))).length→(fun zi=>cI (((([]:List Int) ++ steps).set ((m.f_Tank).toNat) (w64 (((([]:List Int) ++ steps).getD ((m.f_Tank).toNat) 0)+1))).getD zi 0)) zi = ((fun zm=>if zm = (m.f_Tank).toNat then [(aI (w64 (((([]:List Int) ++ steps).getD ((m.f_Tank).toNat) 0)+1)))] else (fun zi=>cI ((([]:List Int) ++ steps).getD zi 0)) zm)) zi] ⟨o1,o1,c2,(ltOf c2),c2,(ltOf c2),(len_set_raw rfl),(len_set_raw rfl),(get_set_raw cI 0 (([]:List Int) ++ steps) ((m.f_Tank).toNat) (w64 (((([]:List Int) ++ steps).getD ((m.f_Tank).toNat) 0)+1)) (fun _ _=>rfl)),trivial⟩ ?_
      refine Runs.sA 1 [.code (C_116 62),.code (C_116 63)] ?_
      exact Runs.sW hE _ [] (kp [3,5,8]) (kq [0] ++ [(1,.keep 16),(2,.keep 256)]) 3 [] trivial (g_r05_Made_J1_ok N p m ((([]:List Int) ++ steps).set ((m.f_Tank).toNat) (w64 (((([]:List Int) ++ steps).getD ((m.f_Tank).toNat) 0)+1))) _ h E hE)
    · have h:=condF h hq3
      obtain ⟨c5,h⟩:=ifSome h
      refine Runs.sR hE ⟨[(3,(.op 0 0 0)),(5,(.op 16 0 0)),(8,(.os 256 0 (((([]:List Int) ++ steps).set ((m.f_Tank).toNat) (w64 (((([]:List Int) ++ steps).getD ((m.f_Tank).toNat) 0) - 1))).length)))],[(0,vO 5 (TPn.cells p)),(16,vO 2 (TMove.cells m)),(256,aO 1 cI 0 ((([]:List Int) ++ steps).set ((m.f_Tank).toNat) (w64 (((([]:List Int) ++ steps).getD ((m.f_Tank).toNat) 0) - 1))))],496⟩ (C_116 123) [] [] (kp [3,5] ++ [(8,.osl (((([]:List Int) ++ steps).set ((m.f_Tank).toNat) (w64 (((([]:List Int) ++ steps).getD ((m.f_Tank).toNat) 0) - 1))).length))]) (kq [0,16] ++ [(256,.arr 256 (((([]:List Int) ++ steps).set ((m.f_Tank).toNat) (w64 (((([]:List Int) ++ steps).getD ((m.f_Tank).toNat) 0) - 1))).length) (fun zi=>cI (((([]:List Int) ++ steps).set ((m.f_Tank).toNat) (w64 (((([]:List Int) ++ steps).getD ((m.f_Tank).toNat) 0) - 1))).getD zi 0)))]) 496 [0 < 1,0 < 1,0≤m.f_Tank∧m.f_Tank < (((([]:List Int) ++ steps).length:Nat):Int),(m.f_Tank).toNat < (([]:List Int) ++ steps).length,0≤m.f_Tank∧m.f_Tank < (((([]:List Int) ++ steps).length:Nat):Int),(m.f_Tank).toNat < (([]:List Int) ++ steps).length,(([]:List Int) ++ steps).length = ((([]:List Int) ++ steps).set ((m.f_Tank).toNat) (w64 (((([]:List Int) ++ steps).getD ((m.f_Tank).toNat) 0) - 1))).length,(([]:List Int) ++ steps).length = ((([]:List Int) ++ steps).set ((m.f_Tank).toNat) (w64 (((([]:List Int) ++ steps).getD ((m.f_Tank).toNat) 0) - 1))).length,∀ zi,zi < ((([]:List Int) ++ steps).set ((m.f_Tank).toNat) (w64 (((([]:List Int) ++ steps).getD ((m.f_Tank).toNat) 0) - 1))).length→(fun zi=>cI (((([]:List Int) ++ steps).set ((m.f_Tank).toNat) (w64 (((([]:List Int) ++ steps).getD ((m.f_Tank).toNat) 0) - 1))).getD zi 0)) zi = ((fun zm=>if zm = (m.f_Tank).toNat then [(aI (w64 (((([]:List Int) ++ steps).getD ((m.f_Tank).toNat) 0) - 1)))] else (fun zi=>cI ((([]:List Int) ++ steps).getD zi 0)) zm)) zi] ⟨o1,o1,c5,(ltOf c5),c5,(ltOf c5),(len_set_raw rfl),(len_set_raw rfl),(get_set_raw cI 0 (([]:List Int) ++ steps) ((m.f_Tank).toNat) (w64 (((([]:List Int) ++ steps).getD ((m.f_Tank).toNat) 0) - 1)) (fun _ _=>rfl)),trivial⟩ ?_
      refine Runs.sA 1 [.code (C_116 62),.code (C_116 63)] ?_
      exact Runs.sW hE _ [] (kp [3,5,8]) (kq [0] ++ [(1,.keep 16),(2,.keep 256)]) 3 [] trivial (g_r05_Made_J1_ok N p m ((([]:List Int) ++ steps).set ((m.f_Tank).toNat) (w64 (((([]:List Int) ++ steps).getD ((m.f_Tank).toNat) 0) - 1))) _ h E hE)
noncomputable def C_117 (n:Nat):Code:=cat (bodyOf Tryz.f54) (pth n)
theorem g_r05_Reached_ok (N:Nat) (p:TPn) (a:TAim) (steps:List Int) (r:Bool) (h:g_r05_Reached N p a steps = some r):Sound Tryz.prog 54 [(.agg (TPn.cells p)),(.agg (TAim.cells a)),(encL cI 0 steps)] [] 0 (aB r) []:=by
  unfold g_r05_Reached at h
  refine Sound.of_runs (fu:=Tryz.f54) (c:=C_117 1) (nt:=16) (by kernel_rfl) (by kernel_rfl) (by kernel_rfl) (by kernel_rfl) (fun hm=>rfl) ?_
  intro E hE
  refine Runs.sA 1 [.code (C_117 2),.code (C_117 3)] ?_
  refine Runs.sR hE ⟨[(2,(encL cI 0 steps)),(3,(.op 0 0 0)),(4,(.op 16 0 0))],[(0,vO 5 (TPn.cells p)),(16,vO 3 (TAim.cells a))],48⟩ (C_117 2) [] [] (kp [2,3,4]) (kq [0,16]) 48 [] trivial ?_
  refine Runs.sA 1 [.code (C_117 6),.code (C_117 7)] ?_
  obtain ⟨rFloat,hr,h⟩:=bindSome h
  obtain ⟨rBt,hr2,h⟩:=bindSome h
  refine Runs.sR hE ⟨[(6,(aB rBt))],[],208⟩ (C_117 6) [(2,⟨[],true,(.agg (TPose.cells rFloat)),[],0,false,none⟩),(8,⟨[],true,(aB rBt),[],0,false,none⟩)] [] (kp [6]) [] 208 [0 < 1,Sound Tryz.prog 15 [(.agg (TPn.cells p)),(encL cI 0 steps)] [] 0 (.agg (TPose.cells rFloat)) [],0 < 1,0 < 1,Sound Tryz.prog 46 [(.agg (TRat.cells rFloat.f_Draught)),(aI a.f_DraughtLeast),(aI a.f_DraughtMost)] [] 0 (aB rBt) []] ⟨o1,(g_r05_Float_ok N p steps rFloat hr),o1,o1,(g_r05_between_ok N rFloat.f_Draught a.f_DraughtLeast a.f_DraughtMost rBt hr2),trivial⟩ ?_
  obtain rfl:=Option.some.inj h
  refine Runs.sW hE ⟨[(6,(aB rBt))],[],208⟩ [] (kp [6]) [] 208 [] trivial ?_
  exact Runs.sT Tryz.f54 [] [] trivial
noncomputable def C_113 (n:Nat):Code:=cat (bodyOf Tryz.f19) (pth n)
theorem g_r05_CheckBallast_L1_ok (N:Nat) (p:TPn) (l:TLimits) (a:TAim) (moves:List TMove) (fuel:Nat):∀ (vat:List Int) (i:Int) (r:Int),g_r05_CheckBallast_L1 N p l a moves fuel vat i = some r→∀ E,EnvOk E 0→Runs Tryz.prog E 19 63 (SPost E [] (aI r)) [.code (C_113 1012),.inLoop (C_113 1012),.inBlock 0,.code (C_113 127)] ⟨[(3,(encL TMove.cells TMove.d moves)),(4,(.op 0 0 0)),(5,(.op 1 0 0)),(6,(.op 2 0 0)),(10,(encL cI 0 vat)),(11,(aI i))],[(0,vO 5 (TPn.cells p)),(1,vO 5 (TLimits.cells l)),(2,vO 3 (TAim.cells a))],3⟩:=by
  induction fuel with
  | zero=>intro _ _ r h; rw [g_r05_CheckBallast_L1.eq_1] at h; cases h
  | succ fuel ih =>
    intro vat i r h E hE
    rw [g_r05_CheckBallast_L1.eq_2] at h
    refine Runs.sA 2 [.code (C_113 4048),.code (C_113 4049),.code (C_113 2025),.inLoop (C_113 1012),.inBlock 0,.code (C_113 127)] ?_
    refine Runs.sR hE ⟨[(3,(encL TMove.cells TMove.d moves)),(4,(.op 0 0 0)),(5,(.op 1 0 0)),(6,(.op 2 0 0)),(10,(encL cI 0 vat)),(11,(aI i)),(36,(aB (decide (i < ((moves.length:Nat):Int)))))],[(0,vO 5 (TPn.cells p)),(1,vO 5 (TLimits.cells l)),(2,vO 3 (TAim.cells a))],67⟩ (C_113 4048) [] [] (kp [3,4,5,6,10,11,36]) (kq [0,1,2]) 67 [] trivial ?_
    refine Runs.sC 36 (C_113 8098) (C_113 8099) (decide (i < ((moves.length:Nat):Int))) (fun hq5=>?_) (fun hq5=>?_)
    · have h:=condT h hq5
      refine Runs.sA 4 [.code (C_113 16200),.code (C_113 16201),.inBlock 1,.code (C_113 4051),.inLoop (C_113 1012),.inBlock 0,.code (C_113 127)] ?_
      obtain ⟨c,h⟩:=ifSome h
      obtain ⟨rMade,hr3,h⟩:=bindSome h
      refine Runs.sR hE ⟨[(3,(encL TMove.cells TMove.d moves)),(4,(.op 0 0 0)),(5,(.op 1 0 0)),(6,(.op 2 0 0)),(11,(aI i)),(12,(encL cI 0 rMade.1)),(13,(aB rMade.2))],[(0,vO 5 (TPn.cells p)),(1,vO 5 (TLimits.cells l)),(2,vO 3 (TAim.cells a))],259⟩ (C_113 16200) [(6,⟨[],true,(.tup [(encL cI 0 rMade.1),(aB rMade.2)]),[],0,false,none⟩)] [] (kp [3,4,5,6,11,12,13]) (kq [0,1,2]) 259 [0 < 1,0≤i∧i < ((moves.length:Nat):Int),Sound Tryz.prog 53 [(.agg (TPn.cells p)),(encL cI 0 vat),(.agg (TMove.cells (moves.getD ((i).toNat) TMove.d)))] [] 0 (.tup [(encL cI 0 rMade.1),(aB rMade.2)]) []] ⟨o1,c,(g_r05_Made_ok N p vat (moves.getD ((i).toNat) TMove.d) rMade hr3),trivial⟩ ?_
      refine Runs.sA 2 [.code (C_113 64804),.code (C_113 64805),.code (C_113 32403),.inBlock 1,.code (C_113 4051),.inLoop (C_113 1012),.inBlock 0,.code (C_113 127)] ?_
      refine Runs.sR hE ⟨[(3,(encL TMove.cells TMove.d moves)),(4,(.op 0 0 0)),(5,(.op 1 0 0)),(6,(.op 2 0 0)),(11,(aI i)),(12,(encL cI 0 rMade.1)),(50,(aB (!rMade.2)))],[(0,vO 5 (TPn.cells p)),(1,vO 5 (TLimits.cells l)),(2,vO 3 (TAim.cells a))],291⟩ (C_113 64804) [] [] (kp [3,4,5,6,11,12,50]) (kq [0,1,2]) 291 [] trivial ?_
      refine Runs.sC 50 (C_113 129610) (C_113 129611) (!rMade.2) (fun hq6=>?_) (fun hq6=>?_)
      · have h:=condT h hq6
        refine Runs.sA 1 [.code (C_113 259220),.code (C_113 259221),.code (C_113 32403),.inBlock 1,.code (C_113 4051),.inLoop (C_113 1012),.inBlock 0,.code (C_113 127)] ?_
        refine Runs.sR hE ⟨[(8,(aI 2))],[],307⟩ (C_113 259220) [] [] (kp [8]) [] 307 [] trivial ?_
        obtain rfl:=Option.some.inj h
        refine Runs.sW hE ⟨[(8,(aI 2))],[],307⟩ [] (kp [8]) [] 307 [] trivial ?_
        exact Runs.sT Tryz.f19 [] [] trivial
      · have h:=condF h hq6
        refine Runs.sA 3 [.code (C_113 129612),.code (C_113 129613),.code (C_113 64807),.inBlock 1,.code (C_113 4051),.inLoop (C_113 1012),.inBlock 0,.code (C_113 127)] ?_
        obtain ⟨rBroken2,hr4,h⟩:=bindSome h
        refine Runs.sR hE ⟨[(3,(encL TMove.cells TMove.d moves)),(4,(.op 0 0 0)),(5,(.op 1 0 0)),(6,(.op 2 0 0)),(11,(aI i)),(12,(encL cI 0 rMade.1)),(56,(aB (decide (((rBroken2.length:Nat):Int) > 0))))],[(0,vO 5 (TPn.cells p)),(1,vO 5 (TLimits.cells l)),(2,vO 3 (TAim.cells a))],387⟩ (C_113 129612) [(3,⟨[],true,(encL cS ByteArray.empty rBroken2),[],0,false,none⟩)] [] (kp [3,4,5,6,11,12,56]) (kq [0,1,2]) 387 [0 < 1,0 < 1,Sound Tryz.prog 17 [(.agg (TPn.cells p)),(.agg (TLimits.cells l)),(encL cI 0 rMade.1)] [] 0 (encL cS ByteArray.empty rBroken2) []] ⟨o1,o1,(g_r05_Broken_ok N p l rMade.1 rBroken2 hr4),trivial⟩ ?_
        refine Runs.sC 56 (C_113 259226) (C_113 259227) (decide (((rBroken2.length:Nat):Int) > 0)) (fun hq7=>?_) (fun hq7=>?_)
        · have h:=condT h hq7
          refine Runs.sA 1 [.code (C_113 518452),.code (C_113 518453),.code (C_113 64807),.inBlock 1,.code (C_113 4051),.inLoop (C_113 1012),.inBlock 0,.code (C_113 127)] ?_
          refine Runs.sR hE ⟨[(8,(aI 16))],[],403⟩ (C_113 518452) [] [] (kp [8]) [] 403 [] trivial ?_
          obtain rfl:=Option.some.inj h
          refine Runs.sW hE ⟨[(8,(aI 16))],[],403⟩ [] (kp [8]) [] 403 [] trivial ?_
          exact Runs.sT Tryz.f19 [] [] trivial
        · have h:=condF h hq7
          refine Runs.sA 1 [.code (C_113 64807),.inBlock 1,.code (C_113 4051),.inLoop (C_113 1012),.inBlock 0,.code (C_113 127)] ?_
          refine Runs.sR hE ⟨[(3,(encL TMove.cells TMove.d moves)),(4,(.op 0 0 0)),(5,(.op 1 0 0)),(6,(.op 2 0 0)),(10,(encL cI 0 rMade.1)),(11,(aI i))],[(0,vO 5 (TPn.cells p)),(1,vO 5 (TLimits.cells l)),(2,vO 3 (TAim.cells a))],419⟩ (C_113 64807) [] [] (kp [3,4,5,6,10,11]) (kq [0,1,2]) 419 [] trivial ?_
          refine Runs.sA 1 [.code (C_113 4051),.inLoop (C_113 1012),.inBlock 0,.code (C_113 127)] ?_
          refine Runs.sR hE ⟨[(3,(encL TMove.cells TMove.d moves)),(4,(.op 0 0 0)),(5,(.op 1 0 0)),(6,(.op 2 0 0)),(10,(encL cI 0 rMade.1)),(11,(aI (w64 (i+1))))],[(0,vO 5 (TPn.cells p)),(1,vO 5 (TLimits.cells l)),(2,vO 3 (TAim.cells a))],467⟩ (C_113 4051) [] [] (kp [3,4,5,6,10,11]) (kq [0,1,2]) 467 [] trivial ?_
          refine Runs.sA 1 [.code (C_113 1012),.inLoop (C_113 1012),.inBlock 0,.code (C_113 127)] ?_
          exact Runs.sW hE _ [] (kp [3,4,5,6,10,11]) (kq [0,1,2]) 3 [] trivial (ih rMade.1 (w64 (i+1)) _ h E hE)
    · have h:=condF h hq5
      refine Runs.sA 3 [.code (C_113 508),.code (C_113 509),.code (C_113 255)] ?_
      obtain ⟨rReached,hr5,h⟩:=bindSome h
      refine Runs.sR hE ⟨[(62,(aB (!rReached)))],[],147⟩ (C_113 508) [(3,⟨[],true,(aB rReached),[],0,false,none⟩)] [] (kp [62]) [] 147 [0 < 1,0 < 1,Sound Tryz.prog 54 [(.agg (TPn.cells p)),(.agg (TAim.cells a)),(encL cI 0 vat)] [] 0 (aB rReached) []] ⟨o1,o1,(g_r05_Reached_ok N p a vat rReached hr5),trivial⟩ ?_
      refine Runs.sC 62 (C_113 1018) (C_113 1019) (!rReached) (fun hq8=>?_) (fun hq8=>?_)
      · have h:=condT h hq8
        refine Runs.sA 1 [.code (C_113 2036),.code (C_113 2037),.code (C_113 255)] ?_
        refine Runs.sR hE ⟨[(8,(aI 29))],[],163⟩ (C_113 2036) [] [] (kp [8]) [] 163 [] trivial ?_
        obtain rfl:=Option.some.inj h
        refine Runs.sW hE ⟨[(8,(aI 29))],[],163⟩ [] (kp [8]) [] 163 [] trivial ?_
        exact Runs.sT Tryz.f19 [] [] trivial
      · have h:=condF h hq8
        refine Runs.sA 2 [.code (C_113 510),.code (C_113 511)] ?_
        refine Runs.sR hE ⟨[(8,(aI 0))],[],163⟩ (C_113 510) [] [] (kp [8]) [] 163 [] trivial ?_
        obtain rfl:=Option.some.inj h
        refine Runs.sW hE ⟨[(8,(aI 0))],[],163⟩ [] (kp [8]) [] 163 [] trivial ?_
        exact Runs.sT Tryz.f19 [] [] trivial
theorem g_r05_CheckBallast_ok (N:Nat) (p:TPn) (l:TLimits) (a:TAim) (moves:List TMove) (r:Int) (h:g_r05_CheckBallast N p l a moves = some r):Sound Tryz.prog 19 [(.agg (TPn.cells p)),(.agg (TLimits.cells l)),(.agg (TAim.cells a)),(encL TMove.cells TMove.d moves)] [] 0 (aI r) []:=by
  unfold g_r05_CheckBallast at h
  refine Sound.of_runs (fu:=Tryz.f19) (c:=C_113 1) (nt:=63) (by kernel_rfl) (by kernel_rfl) (by kernel_rfl) (by kernel_rfl) (fun hm=>rfl) ?_
  intro E hE
  refine Runs.sA 1 [.code (C_113 2),.code (C_113 3)] ?_
  refine Runs.sR hE ⟨[(3,(encL TMove.cells TMove.d moves)),(4,(.op 0 0 0)),(5,(.op 16 0 0)),(6,(.op 32 0 0))],[(0,vO 5 (TPn.cells p)),(16,vO 5 (TLimits.cells l)),(32,vO 3 (TAim.cells a))],64⟩ (C_113 2) [] [] (kp [3,4,5,6]) (kq [0,16,32]) 64 [] trivial ?_
  refine Runs.sA 2 [.code (C_113 12),.code (C_113 13),.code (C_113 7)] ?_
  obtain ⟨rCheckBegin,hr,h⟩:=bindSome h
  refine Runs.sR hE ⟨[(3,(encL TMove.cells TMove.d moves)),(4,(.op 0 0 0)),(5,(.op 16 0 0)),(6,(.op 32 0 0)),(9,(aI rCheckBegin))],[(0,vO 5 (TPn.cells p)),(16,vO 5 (TLimits.cells l)),(32,vO 3 (TAim.cells a))],144⟩ (C_113 12) [(3,⟨[],true,(aI rCheckBegin),[],0,false,none⟩)] [] (kp [3,4,5,6,9]) (kq [0,16,32]) 144 [0 < 1,0 < 1,0 < 1,Sound Tryz.prog 52 [(.agg (TPn.cells p)),(.agg (TLimits.cells l)),(.agg (TAim.cells a))] [] 0 (aI rCheckBegin) []] ⟨o1,o1,o1,(g_r05_CheckBegin_ok N p l a rCheckBegin hr),trivial⟩ ?_
  refine Runs.sA 1 [.code (C_113 26),.code (C_113 27),.code (C_113 7)] ?_
  refine Runs.sR hE ⟨[(3,(encL TMove.cells TMove.d moves)),(4,(.op 0 0 0)),(5,(.op 16 0 0)),(6,(.op 32 0 0)),(9,(aI rCheckBegin)),(19,(aB (rCheckBegin != 0)))],[(0,vO 5 (TPn.cells p)),(16,vO 5 (TLimits.cells l)),(32,vO 3 (TAim.cells a))],176⟩ (C_113 26) [] [] (kp [3,4,5,6,9,19]) (kq [0,16,32]) 176 [] trivial ?_
  refine Runs.sC 19 (C_113 54) (C_113 55) (rCheckBegin != 0) (fun hq2=>?_) (fun hq2=>?_)
  · have h:=condT h hq2
    refine Runs.sA 1 [.code (C_113 108),.code (C_113 109),.code (C_113 7)] ?_
    refine Runs.sR hE ⟨[(8,(aI rCheckBegin))],[],208⟩ (C_113 108) [] [] (kp [8]) [] 208 [] trivial ?_
    obtain rfl:=Option.some.inj h
    refine Runs.sW hE ⟨[(8,(aI rCheckBegin))],[],208⟩ [] (kp [8]) [] 208 [] trivial ?_
    exact Runs.sT Tryz.f19 [] [] trivial
  · have h:=condF h hq2
    refine Runs.sA 3 [.code (C_113 28),.code (C_113 29),.code (C_113 15)] ?_
    refine Runs.sR hE ⟨[(3,(encL TMove.cells TMove.d moves)),(4,(.op 0 0 0)),(5,(.op 16 0 0)),(6,(.op 32 0 0)),(23,(aB (decide (((moves.length:Nat):Int) > 20000))))],[(0,vO 5 (TPn.cells p)),(16,vO 5 (TLimits.cells l)),(32,vO 3 (TAim.cells a))],224⟩ (C_113 28) [] [] (kp [3,4,5,6,23]) (kq [0,16,32]) 224 [] trivial ?_
    refine Runs.sC 23 (C_113 58) (C_113 59) (decide (((moves.length:Nat):Int) > 20000)) (fun hq3=>?_) (fun hq3=>?_)
    · have h:=condT h hq3
      refine Runs.sA 1 [.code (C_113 116),.code (C_113 117),.code (C_113 15)] ?_
      refine Runs.sR hE ⟨[(8,(aI 8))],[],240⟩ (C_113 116) [] [] (kp [8]) [] 240 [] trivial ?_
      obtain rfl:=Option.some.inj h
      refine Runs.sW hE ⟨[(8,(aI 8))],[],240⟩ [] (kp [8]) [] 240 [] trivial ?_
      exact Runs.sT Tryz.f19 [] [] trivial
    · have h:=condF h hq3
      refine Runs.sA 3 [.code (C_113 60),.code (C_113 61),.code (C_113 31)] ?_
      obtain ⟨rBroken,hr2,h⟩:=bindSome h
      refine Runs.sR hE ⟨[(3,(encL TMove.cells TMove.d moves)),(4,(.op 0 0 0)),(5,(.op 16 0 0)),(6,(.op 32 0 0)),(30,(aB (decide (((rBroken.length:Nat):Int) > 0))))],[(0,vO 5 (TPn.cells p)),(16,vO 5 (TLimits.cells l)),(32,vO 3 (TAim.cells a))],336⟩ (C_113 60) [(4,⟨[],true,(encL cS ByteArray.empty rBroken),[],0,false,none⟩)] [] (kp [3,4,5,6,30]) (kq [0,16,32]) 336 [0 < 1,0 < 1,0 < 1,Sound Tryz.prog 17 [(.agg (TPn.cells p)),(.agg (TLimits.cells l)),(encL cI 0 a.f_Start)] [] 0 (encL cS ByteArray.empty rBroken) []] ⟨o1,o1,o1,(g_r05_Broken_ok N p l a.f_Start rBroken hr2),trivial⟩ ?_
      refine Runs.sC 30 (C_113 122) (C_113 123) (decide (((rBroken.length:Nat):Int) > 0)) (fun hq4=>?_) (fun hq4=>?_)
      · have h:=condT h hq4
        refine Runs.sA 1 [.code (C_113 244),.code (C_113 245),.code (C_113 31)] ?_
        refine Runs.sR hE ⟨[(8,(aI 16))],[],352⟩ (C_113 244) [] [] (kp [8]) [] 352 [] trivial ?_
        obtain rfl:=Option.some.inj h
        refine Runs.sW hE ⟨[(8,(aI 16))],[],352⟩ [] (kp [8]) [] 352 [] trivial ?_
        exact Runs.sT Tryz.f19 [] [] trivial
      · have h:=condF h hq4
        refine Runs.sA 2 [.code (C_113 62),.code (C_113 63)] ?_
        refine Runs.sR hE ⟨[(3,(encL TMove.cells TMove.d moves)),(4,(.op 0 0 0)),(5,(.op 16 0 0)),(6,(.op 32 0 0)),(10,(encL cI 0 a.f_Start))],[(0,vO 5 (TPn.cells p)),(16,vO 5 (TLimits.cells l)),(32,vO 3 (TAim.cells a))],384⟩ (C_113 62) [] [] (kp [3,4,5,6,10]) (kq [0,16,32]) 384 [0 < 1] ⟨o1,trivial⟩ ?_
        refine Runs.sA 2 [.code (C_113 252),.code (C_113 253),.code (C_113 127)] ?_
        refine Runs.sR hE ⟨[(3,(encL TMove.cells TMove.d moves)),(4,(.op 0 0 0)),(5,(.op 16 0 0)),(6,(.op 32 0 0)),(10,(encL cI 0 a.f_Start)),(11,(aI 0))],[(0,vO 5 (TPn.cells p)),(16,vO 5 (TLimits.cells l)),(32,vO 3 (TAim.cells a))],400⟩ (C_113 252) [] [] (kp [3,4,5,6,10,11]) (kq [0,16,32]) 400 [] trivial ?_
        refine Runs.sA 2 [.code (C_113 1012),.inLoop (C_113 1012),.inBlock 0,.code (C_113 127)] ?_
        exact Runs.sW hE _ [] (kp [3,4,5,6,10,11]) (kq [0] ++ [(1,.keep 16),(2,.keep 32)]) 3 [] trivial (g_r05_CheckBallast_L1_ok N p l a moves N a.f_Start 0 _ h E hE)
noncomputable def C_107 (n:Nat):Code:=cat (bodyOf Tryz.f4) (pth n)
theorem g_w05_WaterMoves_ok (N:Nat) (x:Tw05_Plan) (r:Bool) (h:g_w05_WaterMoves N x = some r):Sound Tryz.prog 4 [(.agg (Tw05_Plan.cells x))] [] 0 (aB r) []:=by
  unfold g_w05_WaterMoves at h
  refine Sound.of_runs (fu:=Tryz.f4) (c:=C_107 1) (nt:=41) (by kernel_rfl) (by kernel_rfl) (by kernel_rfl) (by kernel_rfl) (fun hm=>rfl) ?_
  intro E hE
  refine Runs.sA 1 [.code (C_107 2),.code (C_107 3)] ?_
  refine Runs.sR hE ⟨[(1,(.op 0 0 0))],[(0,vO 14 (Tw05_Plan.cells x))],32⟩ (C_107 2) [] [] (kp [1]) (kq [0]) 32 [] trivial ?_
  refine Runs.sA 2 [.code (C_107 12),.code (C_107 13),.code (C_107 7)] ?_
  obtain ⟨rafloat,hr,h⟩:=bindSome h
  refine Runs.sR hE ⟨[(1,(.op 0 0 0)),(4,(aB (!rafloat)))],[(0,vO 14 (Tw05_Plan.cells x))],64⟩ (C_107 12) [(0,⟨[],true,(aB rafloat),[],0,false,none⟩)] [] (kp [1,4]) (kq [0]) 64 [Sound Tryz.prog 5 [] [] 0 (aB rafloat) []] ⟨(g_w05_afloat_ok N rafloat hr),trivial⟩ ?_
  refine Runs.sC 4 (C_107 26) (C_107 27) (!rafloat) (fun hq2=>?_) (fun hq2=>?_)
  · have h:=condT h hq2
    refine Runs.sA 1 [.code (C_107 52),.code (C_107 53),.code (C_107 7)] ?_
    refine Runs.sR hE ⟨[(2,(aB false))],[],80⟩ (C_107 52) [] [] (kp [2]) [] 80 [] trivial ?_
    obtain rfl:=Option.some.inj h
    refine Runs.sW hE ⟨[(2,(aB false))],[],80⟩ [] (kp [2]) [] 80 [] trivial ?_
    exact Runs.sT Tryz.f4 [] [] trivial
  · have h:=condF h hq2
    refine Runs.sA 3 [.code (C_107 28),.code (C_107 29),.code (C_107 15)] ?_
    obtain ⟨rfewMasses,hr2,h⟩:=bindSome h
    refine Runs.sR hE ⟨[(1,(.op 0 0 0)),(21,(aB (cond (cond (!rfewMasses) true (decide (((x.f_A.f_Start.length:Nat):Int) > 20))) true (decide (((x.f_Moves.length:Nat):Int) > 40)))))],[(0,vO 14 (Tw05_Plan.cells x))],336⟩ (C_107 28) [(2,⟨[],true,(aB rfewMasses),[],0,false,none⟩)] [] (kp [1,21]) (kq [0]) 336 [0 < 1,Sound Tryz.prog 6 [(.agg (TPn.cells x.f_P))] [] 0 (aB rfewMasses) [],(!(!rfewMasses)) = true→AllP [(!(!rfewMasses)) = true],(!(!rfewMasses)) = true→AllP [(!(!rfewMasses)) = true,0 < 1],(!(!rfewMasses)) = true→AllP [(!(!rfewMasses)) = true],(!(!rfewMasses)) = true→AllP [(!(!rfewMasses)) = true],(!(!rfewMasses)) = true→AllP [(!(!rfewMasses)) = true],(!(cond (!rfewMasses) true (decide (((x.f_A.f_Start.length:Nat):Int) > 20)))) = true→AllP [(!(cond (!rfewMasses) true (decide (((x.f_A.f_Start.length:Nat):Int) > 20)))) = true,0 < 1],(!(cond (!rfewMasses) true (decide (((x.f_A.f_Start.length:Nat):Int) > 20)))) = true→AllP [(!(cond (!rfewMasses) true (decide (((x.f_A.f_Start.length:Nat):Int) > 20)))) = true],(!(cond (!rfewMasses) true (decide (((x.f_A.f_Start.length:Nat):Int) > 20)))) = true→AllP [(!(cond (!rfewMasses) true (decide (((x.f_A.f_Start.length:Nat):Int) > 20)))) = true],(!(cond (!rfewMasses) true (decide (((x.f_A.f_Start.length:Nat):Int) > 20)))) = true→AllP [(!(cond (!rfewMasses) true (decide (((x.f_A.f_Start.length:Nat):Int) > 20)))) = true]] ⟨o1,(g_w05_fewMasses_ok N x.f_P rfewMasses hr2),(fun hg=>⟨hg,trivial⟩),(fun hg=>⟨hg,o1,trivial⟩),(fun hg=>⟨hg,trivial⟩),(fun hg=>⟨hg,trivial⟩),(fun hq=>⟨hq,trivial⟩),(fun hg=>⟨hg,o1,trivial⟩),(fun hg=>⟨hg,trivial⟩),(fun hg=>⟨hg,trivial⟩),(fun hq=>⟨hq,trivial⟩),trivial⟩ ?_
    refine Runs.sC 21 (C_107 58) (C_107 59) (cond (cond (!rfewMasses) true (decide (((x.f_A.f_Start.length:Nat):Int) > 20))) true (decide (((x.f_Moves.length:Nat):Int) > 40))) (fun hq3=>?_) (fun hq3=>?_)
    · have h:=condT h hq3
      refine Runs.sA 1 [.code (C_107 116),.code (C_107 117),.code (C_107 15)] ?_
      refine Runs.sR hE ⟨[(2,(aB true))],[],352⟩ (C_107 116) [] [] (kp [2]) [] 352 [] trivial ?_
      obtain rfl:=Option.some.inj h
      refine Runs.sW hE ⟨[(2,(aB true))],[],352⟩ [] (kp [2]) [] 352 [] trivial ?_
      exact Runs.sT Tryz.f4 [] [] trivial
    · have h:=condF h hq3
      refine Runs.sA 2 [.code (C_107 30),.code (C_107 31)] ?_
      obtain ⟨rCheckBallast,hr3,h⟩:=bindSome h
      obtain ⟨rCheckBallast2,hr4,h⟩:=bindSome h
      refine Runs.sR hE ⟨[(2,(aB (rCheckBallast == rCheckBallast2)))],[],656⟩ (C_107 30) [(8,⟨[],true,(aI rCheckBallast),[],0,false,none⟩),(17,⟨[],true,(aI rCheckBallast2),[],0,false,none⟩)] [] (kp [2]) [] 656 [0 < 1,0 < 1,0 < 1,0 < 1,Sound Tryz.prog 18 [(.agg (TPn.cells x.f_P)),(.agg (TLimits.cells x.f_L)),(.agg (TAim.cells x.f_A)),(encL TMove.cells TMove.d x.f_Moves)] [] 0 (aI rCheckBallast) [],0 < 1,0 < 1,0 < 1,0 < 1,Sound Tryz.prog 19 [(.agg (TPn.cells x.f_P)),(.agg (TLimits.cells x.f_L)),(.agg (TAim.cells x.f_A)),(encL TMove.cells TMove.d x.f_Moves)] [] 0 (aI rCheckBallast2) []] ⟨o1,o1,o1,o1,(g_w_CheckBallast_ok N x.f_P x.f_L x.f_A x.f_Moves rCheckBallast hr3),o1,o1,o1,o1,(g_r05_CheckBallast_ok N x.f_P x.f_L x.f_A x.f_Moves rCheckBallast2 hr4),trivial⟩ ?_
      obtain rfl:=Option.some.inj h
      refine Runs.sW hE ⟨[(2,(aB (rCheckBallast == rCheckBallast2)))],[],656⟩ [] (kp [2]) [] 656 [] trivial ?_
      exact Runs.sT Tryz.f4 [] [] trivial
end Go.Den
