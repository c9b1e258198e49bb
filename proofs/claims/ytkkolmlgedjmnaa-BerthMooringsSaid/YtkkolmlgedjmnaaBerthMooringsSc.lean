/- Each function of the program does what its Lean function computes (part 3). No conditions. -/
import Derived.Test.YtkkolmlgedjmnaaBerthMooringsSb
import Derived.Test.YtkkolmlgedjmnaaProg
set_option linter.unusedVariables false
set_option maxRecDepth 100000
namespace Go.Den
open Go.Ab Go.Proofs
noncomputable def C_88 (n:Nat):Code:=cat (bodyOf Try.f96) (pth n)
theorem g_r01_Add_ok (N:Nat) (a:TInt) (b:TInt) (r:TInt) (h:g_r01_Add N a b = some r):Sound Try.prog 96 [(.agg (TInt.cells a)),(.agg (TInt.cells b))] [] 0 (.agg (TInt.cells r)) []:=by
  unfold g_r01_Add at h
  refine Sound.of_runs (fu:=Try.f96) (c:=C_88 1) (nt:=40) (by kernel_rfl) (by kernel_rfl) (by kernel_rfl) (by kernel_rfl) (fun hm=>rfl) ?_
  intro E hE
  refine Runs.sA 1 [.code (C_88 2),.code (C_88 3)] ?_
  refine Runs.sR hE ⟨[(2,(.op 0 0 0)),(3,(.op 16 0 0)),(4,(.op 32 0 0))],[(0,vO 2 (TInt.cells a)),(16,vO 2 (TInt.cells b)),(32,vO 2 [(aB false),.nil])],48⟩ (C_88 2) [] [] (kp [2,3,4]) (kq [0,16,32]) 48 [] trivial ?_
  refine Runs.sA 1 [.code (C_88 6),.code (C_88 7)] ?_
  obtain ⟨rread,hr,h⟩:=bindSome h
  obtain ⟨rread2,hr2,h⟩:=bindSome h
  refine Runs.sR hE ⟨[(2,(.op 0 0 0)),(3,(.op 16 0 0)),(4,(.op 32 0 0)),(5,(encL cI 0 rread)),(6,(encL cI 0 rread2))],[(0,vO 2 (TInt.cells a)),(16,vO 2 (TInt.cells b)),(32,vO 2 [(aB false),.nil])],176⟩ (C_88 6) [(2,⟨[],true,(encL cI 0 rread),[],0,false,none⟩),(5,⟨[],true,(encL cI 0 rread2),[],0,false,none⟩)] [] (kp [2,3,4,5,6]) (kq [0,16,32]) 176 [0 < 1,Sound Try.prog 119 [(encL (cU .u16) 0 a.f_Limbs)] [] 0 (encL cI 0 rread) [],0 < 1,Sound Try.prog 119 [(encL (cU .u16) 0 b.f_Limbs)] [] 0 (encL cI 0 rread2) []] ⟨o1,(g_r01_read_ok N a.f_Limbs rread hr),o1,(g_r01_read_ok N b.f_Limbs rread2 hr2),trivial⟩ ?_
  refine Runs.sA 2 [.code (C_88 28),.code (C_88 29),.code (C_88 15)] ?_
  refine Runs.sR hE ⟨[(2,(.op 0 0 0)),(3,(.op 16 0 0)),(4,(.op 32 0 0)),(5,(encL cI 0 rread)),(6,(encL cI 0 rread2)),(17,(aB (a.f_Neg == b.f_Neg)))],[(0,vO 2 (TInt.cells a)),(16,vO 2 (TInt.cells b)),(32,vO 2 [(aB false),.nil])],256⟩ (C_88 28) [] [] (kp [2,3,4,5,6,17]) (kq [0,16,32]) 256 [0 < 1,0 < 1] ⟨o1,o1,trivial⟩ ?_
  refine Runs.sC 17 (C_88 58) (C_88 59) (a.f_Neg == b.f_Neg) (fun hq2=>?_) (fun hq2=>?_)
  · have h:=condT h hq2
    refine Runs.sA 1 [.code (C_88 116),.code (C_88 117),.code (C_88 15)] ?_
    obtain ⟨rplus,hr3,h⟩:=bindSome h
    obtain ⟨rmade,hr4,h⟩:=bindSome h
    refine Runs.sR hE ⟨[(4,(.op 32 0 0))],[(32,vO 2 (TInt.cells rmade))],368⟩ (C_88 116) [(4,⟨[],true,(encL cI 0 rplus),[],0,false,none⟩),(5,⟨[],true,(.agg (TInt.cells rmade)),[],0,false,none⟩)] [] (kp [4]) (kq [32]) 368 [0 < 1,Sound Try.prog 124 [(encL cI 0 rread),(encL cI 0 rread2)] [] 0 (encL cI 0 rplus) [],Sound Try.prog 121 [(aB a.f_Neg),(encL cI 0 rplus)] [] 0 (.agg (TInt.cells rmade)) [],0 < 1] ⟨o1,(g_r01_plus_ok N rread rread2 rplus hr3),(g_r01_made_ok N a.f_Neg rplus rmade hr4),o1,trivial⟩ ?_
    obtain rfl:=Option.some.inj h
    refine Runs.sW hE ⟨[(4,(.op 16 0 0))],[(16,vO 2 (TInt.cells rmade))],368⟩ [] (kp [4]) [(16,.keep 32)] 368 [] trivial ?_
    exact Runs.sT Try.f96 [16] [0 < 1] ⟨o1,trivial⟩
  · have h:=condF h hq2
    refine Runs.sA 3 [.code (C_88 60),.code (C_88 61),.code (C_88 31)] ?_
    obtain ⟨rcompare,hr5,h⟩:=bindSome h
    refine Runs.sR hE ⟨[(2,(.op 0 0 0)),(3,(.op 16 0 0)),(4,(.op 32 0 0)),(5,(encL cI 0 rread)),(6,(encL cI 0 rread2)),(27,(aB (decide (rcompare ≥ 0))))],[(0,vO 2 (TInt.cells a)),(16,vO 2 (TInt.cells b)),(32,vO 2 [(aB false),.nil])],320⟩ (C_88 60) [(2,⟨[],true,(aI rcompare),[],0,false,none⟩)] [] (kp [2,3,4,5,6,27]) (kq [0,16,32]) 320 [Sound Try.prog 125 [(encL cI 0 rread),(encL cI 0 rread2)] [] 0 (aI rcompare) []] ⟨(g_r01_compare_ok N rread rread2 rcompare hr5),trivial⟩ ?_
    refine Runs.sC 27 (C_88 122) (C_88 123) (decide (rcompare ≥ 0)) (fun hq3=>?_) (fun hq3=>?_)
    · have h:=condT h hq3
      refine Runs.sA 1 [.code (C_88 244),.code (C_88 245),.code (C_88 31)] ?_
      obtain ⟨rminus,hr6,h⟩:=bindSome h
      obtain ⟨rmade2,hr7,h⟩:=bindSome h
      refine Runs.sR hE ⟨[(4,(.op 32 0 0))],[(32,vO 2 (TInt.cells rmade2))],432⟩ (C_88 244) [(4,⟨[],true,(encL cI 0 rminus),[],0,false,none⟩),(5,⟨[],true,(.agg (TInt.cells rmade2)),[],0,false,none⟩)] [] (kp [4]) (kq [32]) 432 [0 < 1,Sound Try.prog 126 [(encL cI 0 rread),(encL cI 0 rread2)] [] 0 (encL cI 0 rminus) [],Sound Try.prog 121 [(aB a.f_Neg),(encL cI 0 rminus)] [] 0 (.agg (TInt.cells rmade2)) [],0 < 1] ⟨o1,(g_r01_minus_ok N rread rread2 rminus hr6),(g_r01_made_ok N a.f_Neg rminus rmade2 hr7),o1,trivial⟩ ?_
      obtain rfl:=Option.some.inj h
      refine Runs.sW hE ⟨[(4,(.op 16 0 0))],[(16,vO 2 (TInt.cells rmade2))],432⟩ [] (kp [4]) [(16,.keep 32)] 432 [] trivial ?_
      exact Runs.sT Try.f96 [16] [0 < 1] ⟨o1,trivial⟩
    · have h:=condF h hq3
      refine Runs.sA 2 [.code (C_88 62),.code (C_88 63)] ?_
      obtain ⟨rminus2,hr8,h⟩:=bindSome h
      obtain ⟨rmade3,hr9,h⟩:=bindSome h
      refine Runs.sR hE ⟨[(4,(.op 32 0 0))],[(32,vO 2 (TInt.cells rmade3))],432⟩ (C_88 62) [(4,⟨[],true,(encL cI 0 rminus2),[],0,false,none⟩),(5,⟨[],true,(.agg (TInt.cells rmade3)),[],0,false,none⟩)] [] (kp [4]) (kq [32]) 432 [0 < 1,Sound Try.prog 126 [(encL cI 0 rread2),(encL cI 0 rread)] [] 0 (encL cI 0 rminus2) [],Sound Try.prog 121 [(aB b.f_Neg),(encL cI 0 rminus2)] [] 0 (.agg (TInt.cells rmade3)) [],0 < 1] ⟨o1,(g_r01_minus_ok N rread2 rread rminus2 hr8),(g_r01_made_ok N b.f_Neg rminus2 rmade3 hr9),o1,trivial⟩ ?_
      obtain rfl:=Option.some.inj h
      refine Runs.sW hE ⟨[(4,(.op 16 0 0))],[(16,vO 2 (TInt.cells rmade3))],432⟩ [] (kp [4]) [(16,.keep 32)] 432 [] trivial ?_
      exact Runs.sT Try.f96 [16] [0 < 1] ⟨o1,trivial⟩
noncomputable def C_86 (n:Nat):Code:=cat (bodyOf Try.f59) (pth n)
theorem g_r01_AddRat_ok (N:Nat) (x:TRat) (y:TRat) (r:TRat) (h:g_r01_AddRat N x y = some r):Sound Try.prog 59 [(.agg (TRat.cells x)),(.agg (TRat.cells y))] [] 0 (.agg (TRat.cells r)) []:=by
  unfold g_r01_AddRat at h
  refine Sound.of_runs (fu:=Try.f59) (c:=C_86 1) (nt:=28) (by kernel_rfl) (by kernel_rfl) (by kernel_rfl) (by kernel_rfl) (fun hm=>rfl) ?_
  intro E hE
  refine Runs.sA 1 [.code (C_86 2),.code (C_86 3)] ?_
  refine Runs.sR hE ⟨[(2,(.op 0 0 0)),(3,(.op 16 0 0)),(4,(.op 32 0 0))],[(0,vO 4 (TRat.cells x)),(16,vO 4 (TRat.cells y)),(32,vO 4 [(aB false),.nil,(aB false),.nil])],48⟩ (C_86 2) [] [] (kp [2,3,4]) (kq [0,16,32]) 48 [] trivial ?_
  refine Runs.sA 1 [.code (C_86 6),.code (C_86 7)] ?_
  obtain ⟨rNormRat,hr,h⟩:=bindSome h
  obtain ⟨rNormRat2,hr2,h⟩:=bindSome h
  refine Runs.sR hE ⟨[(4,(.op 32 0 0)),(5,(.op 112 0 0)),(6,(.op 128 0 0))],[(32,vO 4 [(aB false),.nil,(aB false),.nil]),(112,vO 4 (TRat.cells rNormRat)),(128,vO 4 (TRat.cells rNormRat2))],176⟩ (C_86 6) [(1,⟨[],true,(.agg (TRat.cells rNormRat)),[],0,false,none⟩),(3,⟨[],true,(.agg (TRat.cells rNormRat2)),[],0,false,none⟩)] [] (kp [4,5,6]) (kq [32,112,128]) 176 [0 < 1,Sound Try.prog 90 [(.agg (TRat.cells x))] [] 0 (.agg (TRat.cells rNormRat)) [],0 < 1,Sound Try.prog 90 [(.agg (TRat.cells y))] [] 0 (.agg (TRat.cells rNormRat2)) [],0 < 1,0 < 1] ⟨o1,(g_r01_NormRat_ok N x rNormRat hr),o1,(g_r01_NormRat_ok N y rNormRat2 hr2),o1,o1,trivial⟩ ?_
  refine Runs.sA 1 [.code (C_86 14),.code (C_86 15)] ?_
  obtain ⟨rMul,hr3,h⟩:=bindSome h
  obtain ⟨rMul2,hr4,h⟩:=bindSome h
  obtain ⟨rAdd,hr5,h⟩:=bindSome h
  obtain ⟨rMul3,hr6,h⟩:=bindSome h
  obtain ⟨rOver,hr7,h⟩:=bindSome h
  refine Runs.sR hE ⟨[(4,(.op 32 0 0))],[(32,vO 4 (TRat.cells rOver))],464⟩ (C_86 14) [(4,⟨[],true,(.agg (TInt.cells rMul)),[],0,false,none⟩),(9,⟨[],true,(.agg (TInt.cells rMul2)),[],0,false,none⟩),(10,⟨[],true,(.agg (TInt.cells rAdd)),[],0,false,none⟩),(15,⟨[],true,(.agg (TInt.cells rMul3)),[],0,false,none⟩),(16,⟨[],true,(.agg (TRat.cells rOver)),[],0,false,none⟩)] [] (kp [4]) (kq [32]) 464 [0 < 1,0 < 1,Sound Try.prog 97 [(.agg (TInt.cells rNormRat.f_Num)),(.agg (TInt.cells rNormRat2.f_Den))] [] 0 (.agg (TInt.cells rMul)) [],0 < 1,0 < 1,Sound Try.prog 97 [(.agg (TInt.cells rNormRat2.f_Num)),(.agg (TInt.cells rNormRat.f_Den))] [] 0 (.agg (TInt.cells rMul2)) [],Sound Try.prog 96 [(.agg (TInt.cells rMul)),(.agg (TInt.cells rMul2))] [] 0 (.agg (TInt.cells rAdd)) [],0 < 1,0 < 1,Sound Try.prog 97 [(.agg (TInt.cells rNormRat.f_Den)),(.agg (TInt.cells rNormRat2.f_Den))] [] 0 (.agg (TInt.cells rMul3)) [],Sound Try.prog 95 [(.agg (TInt.cells rAdd)),(.agg (TInt.cells rMul3))] [] 0 (.agg (TRat.cells rOver)) [],0 < 1] ⟨o1,o1,(g_r01_Mul_ok N rNormRat.f_Num rNormRat2.f_Den rMul hr3),o1,o1,(g_r01_Mul_ok N rNormRat2.f_Num rNormRat.f_Den rMul2 hr4),(g_r01_Add_ok N rMul rMul2 rAdd hr5),o1,o1,(g_r01_Mul_ok N rNormRat.f_Den rNormRat2.f_Den rMul3 hr6),(g_r01_Over_ok N rAdd rMul3 rOver hr7),o1,trivial⟩ ?_
  obtain rfl:=Option.some.inj h
  refine Runs.sW hE ⟨[(4,(.op 16 0 0))],[(16,vO 4 (TRat.cells rOver))],464⟩ [] (kp [4]) [(16,.keep 32)] 464 [] trivial ?_
  exact Runs.sT Try.f59 [16] [0 < 1] ⟨o1,trivial⟩
noncomputable def C_83 (n:Nat):Code:=cat (bodyOf Try.f91) (pth n)
theorem g_r01_SubRat_ok (N:Nat) (x:TRat) (y:TRat) (r:TRat) (h:g_r01_SubRat N x y = some r):Sound Try.prog 91 [(.agg (TRat.cells x)),(.agg (TRat.cells y))] [] 0 (.agg (TRat.cells r)) []:=by
  unfold g_r01_SubRat at h
  refine Sound.of_runs (fu:=Try.f91) (c:=C_83 1) (nt:=9) (by kernel_rfl) (by kernel_rfl) (by kernel_rfl) (by kernel_rfl) (fun hm=>rfl) ?_
  intro E hE
  refine Runs.sA 1 [.code (C_83 2),.code (C_83 3)] ?_
  refine Runs.sR hE ⟨[(2,(.op 0 0 0)),(3,(.op 16 0 0)),(4,(.op 32 0 0))],[(0,vO 4 (TRat.cells x)),(16,vO 4 (TRat.cells y)),(32,vO 4 [(aB false),.nil,(aB false),.nil])],48⟩ (C_83 2) [] [] (kp [2,3,4]) (kq [0,16,32]) 48 [] trivial ?_
  refine Runs.sA 1 [.code (C_83 6),.code (C_83 7)] ?_
  obtain ⟨rNegRat,hr,h⟩:=bindSome h
  obtain ⟨rAddRat,hr2,h⟩:=bindSome h
  refine Runs.sR hE ⟨[(4,(.op 32 0 0))],[(32,vO 4 (TRat.cells rAddRat))],128⟩ (C_83 6) [(2,⟨[],true,(.agg (TRat.cells rNegRat)),[],0,false,none⟩),(3,⟨[],true,(.agg (TRat.cells rAddRat)),[],0,false,none⟩)] [] (kp [4]) (kq [32]) 128 [0 < 1,0 < 1,Sound Try.prog 120 [(.agg (TRat.cells y))] [] 0 (.agg (TRat.cells rNegRat)) [],Sound Try.prog 59 [(.agg (TRat.cells x)),(.agg (TRat.cells rNegRat))] [] 0 (.agg (TRat.cells rAddRat)) [],0 < 1] ⟨o1,o1,(g_r01_NegRat_ok N y rNegRat hr),(g_r01_AddRat_ok N x rNegRat rAddRat hr2),o1,trivial⟩ ?_
  obtain rfl:=Option.some.inj h
  refine Runs.sW hE ⟨[(4,(.op 16 0 0))],[(16,vO 4 (TRat.cells rAddRat))],128⟩ [] (kp [4]) [(16,.keep 32)] 128 [] trivial ?_
  exact Runs.sT Try.f91 [16] [0 < 1] ⟨o1,trivial⟩
noncomputable def C_82 (n:Nat):Code:=cat (bodyOf Try.f56) (pth n)
theorem g_r01_CmpRat_ok (N:Nat) (x:TRat) (y:TRat) (r:Int) (h:g_r01_CmpRat N x y = some r):Sound Try.prog 56 [(.agg (TRat.cells x)),(.agg (TRat.cells y))] [] 0 (aI r) []:=by
  unfold g_r01_CmpRat at h
  refine Sound.of_runs (fu:=Try.f56) (c:=C_82 1) (nt:=9) (by kernel_rfl) (by kernel_rfl) (by kernel_rfl) (by kernel_rfl) (fun hm=>rfl) ?_
  intro E hE
  refine Runs.sA 1 [.code (C_82 2),.code (C_82 3)] ?_
  refine Runs.sR hE ⟨[(2,(.op 0 0 0)),(3,(.op 16 0 0))],[(0,vO 4 (TRat.cells x)),(16,vO 4 (TRat.cells y))],48⟩ (C_82 2) [] [] (kp [2,3]) (kq [0,16]) 48 [] trivial ?_
  refine Runs.sA 1 [.code (C_82 6),.code (C_82 7)] ?_
  obtain ⟨rSubRat,hr,h⟩:=bindSome h
  obtain ⟨rSignRat,hr2,h⟩:=bindSome h
  refine Runs.sR hE ⟨[(4,(aI rSignRat))],[],128⟩ (C_82 6) [(2,⟨[],true,(.agg (TRat.cells rSubRat)),[],0,false,none⟩),(3,⟨[],true,(aI rSignRat),[],0,false,none⟩)] [] (kp [4]) [] 128 [0 < 1,0 < 1,Sound Try.prog 91 [(.agg (TRat.cells x)),(.agg (TRat.cells y))] [] 0 (.agg (TRat.cells rSubRat)) [],Sound Try.prog 55 [(.agg (TRat.cells rSubRat))] [] 0 (aI rSignRat) []] ⟨o1,o1,(g_r01_SubRat_ok N x y rSubRat hr),(g_r01_SignRat_ok N rSubRat rSignRat hr2),trivial⟩ ?_
  obtain rfl:=Option.some.inj h
  refine Runs.sW hE ⟨[(4,(aI rSignRat))],[],128⟩ [] (kp [4]) [] 128 [] trivial ?_
  exact Runs.sT Try.f56 [] [] trivial
noncomputable def C_91 (n:Nat):Code:=cat (bodyOf Try.f94) (pth n)
theorem g_r06_Span_J2_ok (N:Nat) (l:TLine) (step:Int) (K_g_r06_Span_L1:Int→Int→Option (Int))
    (hK_g_r06_Span_L1:∀ (s:Int) (step:Int) (r:Int),K_g_r06_Span_L1 s step = some r→∀ E,EnvOk E 0→Runs Try.prog E 94 47 (SPost E [] (aI r)) [.code (C_91 244),.inLoop (C_91 244),.inBlock 0,.code (C_91 31)] ⟨[(3,(aI (w64 ((w64 ((w64 (l.f_ToX - l.f_X)) * (w64 (l.f_ToX - l.f_X))))+(w64 ((w64 (l.f_ToY - l.f_Y)) * (w64 (l.f_ToY - l.f_Y)))))))),(4,(aI s)),(5,(aI step))],[],0⟩) (s2:Int) (r:Int) (h:g_r06_Span_J2 N l step K_g_r06_Span_L1 s2 = some r):∀ E,EnvOk E 0→Runs Try.prog E 94 47 (SPost E [] (aI r)) [.code (C_91 979),.inLoop (C_91 244),.inBlock 0,.code (C_91 31)] ⟨[(3,(aI (w64 ((w64 ((w64 (l.f_ToX - l.f_X)) * (w64 (l.f_ToX - l.f_X))))+(w64 ((w64 (l.f_ToY - l.f_Y)) * (w64 (l.f_ToY - l.f_Y)))))))),(4,(aI s2)),(5,(aI step))],[],0⟩:=by
  intro E hE
  unfold g_r06_Span_J2 at h
  refine Runs.sR hE ⟨[(3,(aI (w64 ((w64 ((w64 (l.f_ToX - l.f_X)) * (w64 (l.f_ToX - l.f_X))))+(w64 ((w64 (l.f_ToY - l.f_Y)) * (w64 (l.f_ToY - l.f_Y)))))))),(4,(aI s2)),(5,(aI (w64 (step.tdiv 2))))],[],48⟩ (C_91 979) [] [] (kp [3,4,5]) [] 48 [(2:Int) ≠ 0] ⟨(by decide),trivial⟩ ?_
  refine Runs.sA 1 [.code (C_91 244),.inLoop (C_91 244),.inBlock 0,.code (C_91 31)] ?_
  exact Runs.sW hE _ [] (kp [3,4,5]) [] 0 [] trivial (hK_g_r06_Span_L1 s2 (w64 (step.tdiv 2)) _ h E hE)
theorem g_r06_Span_L1_ok (N:Nat) (l:TLine) (fuel:Nat):∀ (s:Int) (step:Int) (r:Int),g_r06_Span_L1 N l fuel s step = some r→∀ E,EnvOk E 0→Runs Try.prog E 94 47 (SPost E [] (aI r)) [.code (C_91 244),.inLoop (C_91 244),.inBlock 0,.code (C_91 31)] ⟨[(3,(aI (w64 ((w64 ((w64 (l.f_ToX - l.f_X)) * (w64 (l.f_ToX - l.f_X))))+(w64 ((w64 (l.f_ToY - l.f_Y)) * (w64 (l.f_ToY - l.f_Y)))))))),(4,(aI s)),(5,(aI step))],[],0⟩:=by
  induction fuel with
  | zero=>intro _ _ r h; rw [g_r06_Span_L1.eq_1] at h; cases h
  | succ fuel ih =>
    intro s step r h E hE
    rw [g_r06_Span_L1.eq_2] at h
    refine Runs.sA 2 [.code (C_91 976),.code (C_91 977),.code (C_91 489),.inLoop (C_91 244),.inBlock 0,.code (C_91 31)] ?_
    refine Runs.sR hE ⟨[(3,(aI (w64 ((w64 ((w64 (l.f_ToX - l.f_X)) * (w64 (l.f_ToX - l.f_X))))+(w64 ((w64 (l.f_ToY - l.f_Y)) * (w64 (l.f_ToY - l.f_Y)))))))),(4,(aI s)),(5,(aI step)),(30,(aB (decide (step > 0))))],[],32⟩ (C_91 976) [] [] (kp [3,4,5,30]) [] 32 [] trivial ?_
    refine Runs.sC 30 (C_91 1954) (C_91 1955) (decide (step > 0)) (fun hq2=>?_) (fun hq2=>?_)
    · have h:=condT h hq2
      refine Runs.sA 4 [.code (C_91 3912),.code (C_91 3913),.inBlock 1,.code (C_91 979),.inLoop (C_91 244),.inBlock 0,.code (C_91 31)] ?_
      refine Runs.sR hE ⟨[(3,(aI (w64 ((w64 ((w64 (l.f_ToX - l.f_X)) * (w64 (l.f_ToX - l.f_X))))+(w64 ((w64 (l.f_ToY - l.f_Y)) * (w64 (l.f_ToY - l.f_Y)))))))),(4,(aI s)),(5,(aI step)),(41,(aB (decide ((w64 ((w64 (s+step)) * (w64 (s+step)))) < (w64 ((w64 ((w64 (l.f_ToX - l.f_X)) * (w64 (l.f_ToX - l.f_X))))+(w64 ((w64 (l.f_ToY - l.f_Y)) * (w64 (l.f_ToY - l.f_Y))))))))))],[],176⟩ (C_91 3912) [] [] (kp [3,4,5,41]) [] 176 [] trivial ?_
      refine Runs.sC 41 (C_91 7826) (C_91 7827) (decide ((w64 ((w64 (s+step)) * (w64 (s+step)))) < (w64 ((w64 ((w64 (l.f_ToX - l.f_X)) * (w64 (l.f_ToX - l.f_X))))+(w64 ((w64 (l.f_ToY - l.f_Y)) * (w64 (l.f_ToY - l.f_Y)))))))) (fun hq3=>?_) (fun hq3=>?_)
      · have h:=condT h hq3
        refine Runs.sR hE ⟨[(3,(aI (w64 ((w64 ((w64 (l.f_ToX - l.f_X)) * (w64 (l.f_ToX - l.f_X))))+(w64 ((w64 (l.f_ToY - l.f_Y)) * (w64 (l.f_ToY - l.f_Y)))))))),(4,(aI (w64 (s+step)))),(5,(aI step))],[],240⟩ (C_91 7826) [] [] (kp [3,4,5]) [] 240 [] trivial ?_
        refine Runs.sA 1 [.code (C_91 979),.inLoop (C_91 244),.inBlock 0,.code (C_91 31)] ?_
        exact Runs.sW hE _ [] (kp [3,4,5]) [] 0 [] trivial (g_r06_Span_J2_ok N l step (g_r06_Span_L1 N l fuel) ih (w64 (s+step)) _ h E hE)
      · have h:=condF h hq3
        refine Runs.sA 2 [.code (C_91 979),.inLoop (C_91 244),.inBlock 0,.code (C_91 31)] ?_
        exact Runs.sW hE _ [] (kp [3,4,5]) [] 0 [] trivial (g_r06_Span_J2_ok N l step (g_r06_Span_L1 N l fuel) ih s _ h E hE)
    · have h:=condF h hq2
      refine Runs.sA 2 [.code (C_91 62),.code (C_91 63)] ?_
      refine Runs.sR hE ⟨[(2,(aI (w64 (s+1))))],[],80⟩ (C_91 62) [] [] (kp [2]) [] 80 [] trivial ?_
      obtain rfl:=Option.some.inj h
      refine Runs.sW hE ⟨[(2,(aI (w64 (s+1))))],[],80⟩ [] (kp [2]) [] 80 [] trivial ?_
      exact Runs.sT Try.f94 [] [] trivial
theorem g_r06_Span_ok (N:Nat) (l:TLine) (r:Int) (h:g_r06_Span N l = some r):Sound Try.prog 94 [(.agg (TLine.cells l))] [] 0 (aI r) []:=by
  unfold g_r06_Span at h
  refine Sound.of_runs (fu:=Try.f94) (c:=C_91 1) (nt:=47) (by kernel_rfl) (by kernel_rfl) (by kernel_rfl) (by kernel_rfl) (fun hm=>rfl) ?_
  intro E hE
  refine Runs.sA 1 [.code (C_91 2),.code (C_91 3)] ?_
  refine Runs.sR hE ⟨[(1,(.op 0 0 0))],[(0,vO 6 (TLine.cells l))],32⟩ (C_91 2) [] [] (kp [1]) (kq [0]) 32 [] trivial ?_
  refine Runs.sA 1 [.code (C_91 6),.code (C_91 7)] ?_
  refine Runs.sR hE ⟨[(3,(aI (w64 ((w64 ((w64 (l.f_ToX - l.f_X)) * (w64 (l.f_ToX - l.f_X))))+(w64 ((w64 (l.f_ToY - l.f_Y)) * (w64 (l.f_ToY - l.f_Y))))))))],[],416⟩ (C_91 6) [] [] (kp [3]) [] 416 [0 < 1,0 < 1,0 < 1,0 < 1,0 < 1,0 < 1,0 < 1,0 < 1] ⟨o1,o1,o1,o1,o1,o1,o1,o1,trivial⟩ ?_
  refine Runs.sA 1 [.code (C_91 14),.code (C_91 15)] ?_
  refine Runs.sR hE ⟨[(3,(aI (w64 ((w64 ((w64 (l.f_ToX - l.f_X)) * (w64 (l.f_ToX - l.f_X))))+(w64 ((w64 (l.f_ToY - l.f_Y)) * (w64 (l.f_ToY - l.f_Y)))))))),(4,(aI 0))],[],432⟩ (C_91 14) [] [] (kp [3,4]) [] 432 [] trivial ?_
  refine Runs.sA 2 [.code (C_91 60),.code (C_91 61),.code (C_91 31)] ?_
  refine Runs.sR hE ⟨[(3,(aI (w64 ((w64 ((w64 (l.f_ToX - l.f_X)) * (w64 (l.f_ToX - l.f_X))))+(w64 ((w64 (l.f_ToY - l.f_Y)) * (w64 (l.f_ToY - l.f_Y)))))))),(4,(aI 0)),(5,(aI 4194304))],[],448⟩ (C_91 60) [] [] (kp [3,4,5]) [] 448 [] trivial ?_
  refine Runs.sA 2 [.code (C_91 244),.inLoop (C_91 244),.inBlock 0,.code (C_91 31)] ?_
  exact Runs.sW hE _ [] (kp [3,4,5]) [] 0 [] trivial (g_r06_Span_L1_ok N l N 0 4194304 _ h E hE)
noncomputable def C_92 (n:Nat):Code:=cat (bodyOf Try.f93) (pth n)
theorem g_r01_QuoRat_ok (N:Nat) (x:TRat) (y:TRat) (r:TRat) (h:g_r01_QuoRat N x y = some r):Sound Try.prog 93 [(.agg (TRat.cells x)),(.agg (TRat.cells y))] [] 0 (.agg (TRat.cells r)) []:=by
  unfold g_r01_QuoRat at h
  refine Sound.of_runs (fu:=Try.f93) (c:=C_92 1) (nt:=22) (by kernel_rfl) (by kernel_rfl) (by kernel_rfl) (by kernel_rfl) (fun hm=>rfl) ?_
  intro E hE
  refine Runs.sA 1 [.code (C_92 2),.code (C_92 3)] ?_
  refine Runs.sR hE ⟨[(2,(.op 0 0 0)),(3,(.op 16 0 0)),(4,(.op 32 0 0))],[(0,vO 4 (TRat.cells x)),(16,vO 4 (TRat.cells y)),(32,vO 4 [(aB false),.nil,(aB false),.nil])],48⟩ (C_92 2) [] [] (kp [2,3,4]) (kq [0,16,32]) 48 [] trivial ?_
  refine Runs.sA 1 [.code (C_92 6),.code (C_92 7)] ?_
  obtain ⟨rNormRat,hr,h⟩:=bindSome h
  obtain ⟨rNormRat2,hr2,h⟩:=bindSome h
  refine Runs.sR hE ⟨[(4,(.op 32 0 0)),(5,(.op 112 0 0)),(6,(.op 128 0 0))],[(32,vO 4 [(aB false),.nil,(aB false),.nil]),(112,vO 4 (TRat.cells rNormRat)),(128,vO 4 (TRat.cells rNormRat2))],176⟩ (C_92 6) [(1,⟨[],true,(.agg (TRat.cells rNormRat)),[],0,false,none⟩),(3,⟨[],true,(.agg (TRat.cells rNormRat2)),[],0,false,none⟩)] [] (kp [4,5,6]) (kq [32,112,128]) 176 [0 < 1,Sound Try.prog 90 [(.agg (TRat.cells x))] [] 0 (.agg (TRat.cells rNormRat)) [],0 < 1,Sound Try.prog 90 [(.agg (TRat.cells y))] [] 0 (.agg (TRat.cells rNormRat2)) [],0 < 1,0 < 1] ⟨o1,(g_r01_NormRat_ok N x rNormRat hr),o1,(g_r01_NormRat_ok N y rNormRat2 hr2),o1,o1,trivial⟩ ?_
  refine Runs.sA 1 [.code (C_92 14),.code (C_92 15)] ?_
  obtain ⟨rMul,hr3,h⟩:=bindSome h
  obtain ⟨rMul2,hr4,h⟩:=bindSome h
  obtain ⟨rOver,hr5,h⟩:=bindSome h
  refine Runs.sR hE ⟨[(4,(.op 32 0 0))],[(32,vO 4 (TRat.cells rOver))],368⟩ (C_92 14) [(4,⟨[],true,(.agg (TInt.cells rMul)),[],0,false,none⟩),(9,⟨[],true,(.agg (TInt.cells rMul2)),[],0,false,none⟩),(10,⟨[],true,(.agg (TRat.cells rOver)),[],0,false,none⟩)] [] (kp [4]) (kq [32]) 368 [0 < 1,0 < 1,Sound Try.prog 97 [(.agg (TInt.cells rNormRat.f_Num)),(.agg (TInt.cells rNormRat2.f_Den))] [] 0 (.agg (TInt.cells rMul)) [],0 < 1,0 < 1,Sound Try.prog 97 [(.agg (TInt.cells rNormRat.f_Den)),(.agg (TInt.cells rNormRat2.f_Num))] [] 0 (.agg (TInt.cells rMul2)) [],Sound Try.prog 95 [(.agg (TInt.cells rMul)),(.agg (TInt.cells rMul2))] [] 0 (.agg (TRat.cells rOver)) [],0 < 1] ⟨o1,o1,(g_r01_Mul_ok N rNormRat.f_Num rNormRat2.f_Den rMul hr3),o1,o1,(g_r01_Mul_ok N rNormRat.f_Den rNormRat2.f_Num rMul2 hr4),(g_r01_Over_ok N rMul rMul2 rOver hr5),o1,trivial⟩ ?_
  obtain rfl:=Option.some.inj h
  refine Runs.sW hE ⟨[(4,(.op 16 0 0))],[(16,vO 4 (TRat.cells rOver))],368⟩ [] (kp [4]) [(16,.keep 32)] 368 [] trivial ?_
  exact Runs.sT Try.f93 [16] [0 < 1] ⟨o1,trivial⟩
noncomputable def C_93 (n:Nat):Code:=cat (bodyOf Try.f60) (pth n)
theorem g_r01_MulRat_ok (N:Nat) (x:TRat) (y:TRat) (r:TRat) (h:g_r01_MulRat N x y = some r):Sound Try.prog 60 [(.agg (TRat.cells x)),(.agg (TRat.cells y))] [] 0 (.agg (TRat.cells r)) []:=by
  unfold g_r01_MulRat at h
  refine Sound.of_runs (fu:=Try.f60) (c:=C_93 1) (nt:=22) (by kernel_rfl) (by kernel_rfl) (by kernel_rfl) (by kernel_rfl) (fun hm=>rfl) ?_
  intro E hE
  refine Runs.sA 1 [.code (C_93 2),.code (C_93 3)] ?_
  refine Runs.sR hE ⟨[(2,(.op 0 0 0)),(3,(.op 16 0 0)),(4,(.op 32 0 0))],[(0,vO 4 (TRat.cells x)),(16,vO 4 (TRat.cells y)),(32,vO 4 [(aB false),.nil,(aB false),.nil])],48⟩ (C_93 2) [] [] (kp [2,3,4]) (kq [0,16,32]) 48 [] trivial ?_
  refine Runs.sA 1 [.code (C_93 6),.code (C_93 7)] ?_
  obtain ⟨rNormRat,hr,h⟩:=bindSome h
  obtain ⟨rNormRat2,hr2,h⟩:=bindSome h
  refine Runs.sR hE ⟨[(4,(.op 32 0 0)),(5,(.op 112 0 0)),(6,(.op 128 0 0))],[(32,vO 4 [(aB false),.nil,(aB false),.nil]),(112,vO 4 (TRat.cells rNormRat)),(128,vO 4 (TRat.cells rNormRat2))],176⟩ (C_93 6) [(1,⟨[],true,(.agg (TRat.cells rNormRat)),[],0,false,none⟩),(3,⟨[],true,(.agg (TRat.cells rNormRat2)),[],0,false,none⟩)] [] (kp [4,5,6]) (kq [32,112,128]) 176 [0 < 1,Sound Try.prog 90 [(.agg (TRat.cells x))] [] 0 (.agg (TRat.cells rNormRat)) [],0 < 1,Sound Try.prog 90 [(.agg (TRat.cells y))] [] 0 (.agg (TRat.cells rNormRat2)) [],0 < 1,0 < 1] ⟨o1,(g_r01_NormRat_ok N x rNormRat hr),o1,(g_r01_NormRat_ok N y rNormRat2 hr2),o1,o1,trivial⟩ ?_
  refine Runs.sA 1 [.code (C_93 14),.code (C_93 15)] ?_
  obtain ⟨rMul,hr3,h⟩:=bindSome h
  obtain ⟨rMul2,hr4,h⟩:=bindSome h
  obtain ⟨rOver,hr5,h⟩:=bindSome h
  refine Runs.sR hE ⟨[(4,(.op 32 0 0))],[(32,vO 4 (TRat.cells rOver))],368⟩ (C_93 14) [(4,⟨[],true,(.agg (TInt.cells rMul)),[],0,false,none⟩),(9,⟨[],true,(.agg (TInt.cells rMul2)),[],0,false,none⟩),(10,⟨[],true,(.agg (TRat.cells rOver)),[],0,false,none⟩)] [] (kp [4]) (kq [32]) 368 [0 < 1,0 < 1,Sound Try.prog 97 [(.agg (TInt.cells rNormRat.f_Num)),(.agg (TInt.cells rNormRat2.f_Num))] [] 0 (.agg (TInt.cells rMul)) [],0 < 1,0 < 1,Sound Try.prog 97 [(.agg (TInt.cells rNormRat.f_Den)),(.agg (TInt.cells rNormRat2.f_Den))] [] 0 (.agg (TInt.cells rMul2)) [],Sound Try.prog 95 [(.agg (TInt.cells rMul)),(.agg (TInt.cells rMul2))] [] 0 (.agg (TRat.cells rOver)) [],0 < 1] ⟨o1,o1,(g_r01_Mul_ok N rNormRat.f_Num rNormRat2.f_Num rMul hr3),o1,o1,(g_r01_Mul_ok N rNormRat.f_Den rNormRat2.f_Den rMul2 hr4),(g_r01_Over_ok N rMul rMul2 rOver hr5),o1,trivial⟩ ?_
  obtain rfl:=Option.some.inj h
  refine Runs.sW hE ⟨[(4,(.op 16 0 0))],[(16,vO 4 (TRat.cells rOver))],368⟩ [] (kp [4]) [(16,.keep 32)] 368 [] trivial ?_
  exact Runs.sT Try.f60 [16] [0 < 1] ⟨o1,trivial⟩
noncomputable def C_90 (n:Nat):Code:=cat (bodyOf Try.f58) (pth n)
theorem g_r06_Pull_ok (N:Nat) (l:TLine) (r:TS__3_api_Rat) (h:g_r06_Pull N l = some r):Sound Try.prog 58 [(.agg (TLine.cells l))] [] 0 (.agg (TS__3_api_Rat.cells r)) []:=by
  unfold g_r06_Pull at h
  refine Sound.of_runs (fu:=Try.f58) (c:=C_90 1) (nt:=45) (by kernel_rfl) (by kernel_rfl) (by kernel_rfl) (by kernel_rfl) (fun hm=>rfl) ?_
  intro E hE
  refine Runs.sA 1 [.code (C_90 2),.code (C_90 3)] ?_
  refine Runs.sR hE ⟨[(1,(.op 0 0 0)),(2,(.op 16 0 0))],[(0,vO 6 (TLine.cells l)),(16,vO 12 [(aB false),.nil,(aB false),.nil,(aB false),.nil,(aB false),.nil,(aB false),.nil,(aB false),.nil])],32⟩ (C_90 2) [] [] (kp [1,2]) (kq [0,16]) 32 [] trivial ?_
  refine Runs.sA 1 [.code (C_90 6),.code (C_90 7)] ?_
  obtain ⟨rQ,hr,h⟩:=bindSome h
  obtain ⟨rSpan,hr2,h⟩:=bindSome h
  obtain ⟨rQ2,hr3,h⟩:=bindSome h
  obtain ⟨rQuoRat,hr4,h⟩:=bindSome h
  refine Runs.sR hE ⟨[(1,(.op 0 0 0)),(2,(.op 16 0 0)),(3,(.op 144 0 0))],[(0,vO 6 (TLine.cells l)),(16,vO 12 [(aB false),.nil,(aB false),.nil,(aB false),.nil,(aB false),.nil,(aB false),.nil,(aB false),.nil]),(144,vO 4 (TRat.cells rQuoRat))],176⟩ (C_90 6) [(2,⟨[],true,(.agg (TRat.cells rQ)),[],0,false,none⟩),(4,⟨[],true,(aI rSpan),[],0,false,none⟩),(5,⟨[],true,(.agg (TRat.cells rQ2)),[],0,false,none⟩),(6,⟨[],true,(.agg (TRat.cells rQuoRat)),[],0,false,none⟩)] [] (kp [1,2,3]) (kq [0,16,144]) 176 [0 < 1,Sound Try.prog 57 [(aI l.f_Most)] [] 0 (.agg (TRat.cells rQ)) [],0 < 1,Sound Try.prog 94 [(.agg (TLine.cells l))] [] 0 (aI rSpan) [],Sound Try.prog 57 [(aI rSpan)] [] 0 (.agg (TRat.cells rQ2)) [],Sound Try.prog 93 [(.agg (TRat.cells rQ)),(.agg (TRat.cells rQ2))] [] 0 (.agg (TRat.cells rQuoRat)) [],0 < 1] ⟨o1,(g_r01_Q_ok N l.f_Most rQ hr),o1,(g_r06_Span_ok N l rSpan hr2),(g_r01_Q_ok N rSpan rQ2 hr3),(g_r01_QuoRat_ok N rQ rQ2 rQuoRat hr4),o1,trivial⟩ ?_
  refine Runs.sA 1 [.code (C_90 14),.code (C_90 15)] ?_
  obtain ⟨rQ3,hr5,h⟩:=bindSome h
  obtain ⟨rMulRat,hr6,h⟩:=bindSome h
  refine Runs.sR hE ⟨[(1,(.op 0 0 0)),(2,(.op 16 0 0)),(3,(.op 144 0 0)),(4,(.op 304 0 0))],[(0,vO 6 (TLine.cells l)),(16,vO 12 [(aB false),.nil,(aB false),.nil,(aB false),.nil,(aB false),.nil,(aB false),.nil,(aB false),.nil]),(144,vO 4 (TRat.cells rQuoRat)),(304,vO 4 (TRat.cells rMulRat))],336⟩ (C_90 14) [(6,⟨[],true,(.agg (TRat.cells rQ3)),[],0,false,none⟩),(7,⟨[],true,(.agg (TRat.cells rMulRat)),[],0,false,none⟩)] [] (kp [1,2,3,4]) (kq [0,16,144,304]) 336 [0 < 1,0 < 1,0 < 1,Sound Try.prog 57 [(aI (w64 (l.f_ToX - l.f_X)))] [] 0 (.agg (TRat.cells rQ3)) [],Sound Try.prog 60 [(.agg (TRat.cells rQuoRat)),(.agg (TRat.cells rQ3))] [] 0 (.agg (TRat.cells rMulRat)) [],0 < 1] ⟨o1,o1,o1,(g_r01_Q_ok N (w64 (l.f_ToX - l.f_X)) rQ3 hr5),(g_r01_MulRat_ok N rQuoRat rQ3 rMulRat hr6),o1,trivial⟩ ?_
  refine Runs.sA 1 [.code (C_90 30),.code (C_90 31)] ?_
  obtain ⟨rQ4,hr7,h⟩:=bindSome h
  obtain ⟨rMulRat2,hr8,h⟩:=bindSome h
  refine Runs.sR hE ⟨[(1,(.op 0 0 0)),(2,(.op 16 0 0)),(4,(.op 304 0 0)),(5,(.op 464 0 0))],[(0,vO 6 (TLine.cells l)),(16,vO 12 [(aB false),.nil,(aB false),.nil,(aB false),.nil,(aB false),.nil,(aB false),.nil,(aB false),.nil]),(304,vO 4 (TRat.cells rMulRat)),(464,vO 4 (TRat.cells rMulRat2))],496⟩ (C_90 30) [(6,⟨[],true,(.agg (TRat.cells rQ4)),[],0,false,none⟩),(7,⟨[],true,(.agg (TRat.cells rMulRat2)),[],0,false,none⟩)] [] (kp [1,2,4,5]) (kq [0,16,304,464]) 496 [0 < 1,0 < 1,0 < 1,Sound Try.prog 57 [(aI (w64 (l.f_ToY - l.f_Y)))] [] 0 (.agg (TRat.cells rQ4)) [],Sound Try.prog 60 [(.agg (TRat.cells rQuoRat)),(.agg (TRat.cells rQ4))] [] 0 (.agg (TRat.cells rMulRat2)) [],0 < 1] ⟨o1,o1,o1,(g_r01_Q_ok N (w64 (l.f_ToY - l.f_Y)) rQ4 hr7),(g_r01_MulRat_ok N rQuoRat rQ4 rMulRat2 hr8),o1,trivial⟩ ?_
  refine Runs.sA 1 [.code (C_90 62),.code (C_90 63)] ?_
  obtain ⟨rQ5,hr9,h⟩:=bindSome h
  obtain ⟨rMulRat3,hr10,h⟩:=bindSome h
  obtain ⟨rQ6,hr11,h⟩:=bindSome h
  obtain ⟨rMulRat4,hr12,h⟩:=bindSome h
  obtain ⟨rSubRat,hr13,h⟩:=bindSome h
  refine Runs.sR hE ⟨[(2,(.op 16 0 0)),(4,(.op 304 0 0)),(5,(.op 464 0 0)),(6,(.op 672 0 0))],[(16,vO 12 [(aB false),.nil,(aB false),.nil,(aB false),.nil,(aB false),.nil,(aB false),.nil,(aB false),.nil]),(304,vO 4 (TRat.cells rMulRat)),(464,vO 4 (TRat.cells rMulRat2)),(672,vO 4 (TRat.cells rSubRat))],704⟩ (C_90 62) [(2,⟨[],true,(.agg (TRat.cells rQ5)),[],0,false,none⟩),(4,⟨[],true,(.agg (TRat.cells rMulRat3)),[],0,false,none⟩),(7,⟨[],true,(.agg (TRat.cells rQ6)),[],0,false,none⟩),(9,⟨[],true,(.agg (TRat.cells rMulRat4)),[],0,false,none⟩),(10,⟨[],true,(.agg (TRat.cells rSubRat)),[],0,false,none⟩)] [] (kp [2,4,5,6]) (kq [16,304,464,672]) 704 [0 < 1,Sound Try.prog 57 [(aI l.f_X)] [] 0 (.agg (TRat.cells rQ5)) [],0 < 1,Sound Try.prog 60 [(.agg (TRat.cells rQ5)),(.agg (TRat.cells rMulRat2))] [] 0 (.agg (TRat.cells rMulRat3)) [],0 < 1,Sound Try.prog 57 [(aI l.f_Y)] [] 0 (.agg (TRat.cells rQ6)) [],0 < 1,Sound Try.prog 60 [(.agg (TRat.cells rQ6)),(.agg (TRat.cells rMulRat))] [] 0 (.agg (TRat.cells rMulRat4)) [],Sound Try.prog 91 [(.agg (TRat.cells rMulRat3)),(.agg (TRat.cells rMulRat4))] [] 0 (.agg (TRat.cells rSubRat)) [],0 < 1] ⟨o1,(g_r01_Q_ok N l.f_X rQ5 hr9),o1,(g_r01_MulRat_ok N rQ5 rMulRat2 rMulRat3 hr10),o1,(g_r01_Q_ok N l.f_Y rQ6 hr11),o1,(g_r01_MulRat_ok N rQ6 rMulRat rMulRat4 hr12),(g_r01_SubRat_ok N rMulRat3 rMulRat4 rSubRat hr13),o1,trivial⟩ ?_
  refine Runs.sA 1 [.code (C_90 126),.code (C_90 127)] ?_
  refine Runs.sR hE ⟨[(2,(.op 16 0 0))],[(16,vO 12 [(aB rMulRat.f_Num.f_Neg),(encL (cU .u16) 0 rMulRat.f_Num.f_Limbs),(aB rMulRat.f_Den.f_Neg),(encL (cU .u16) 0 rMulRat.f_Den.f_Limbs),(aB rMulRat2.f_Num.f_Neg),(encL (cU .u16) 0 rMulRat2.f_Num.f_Limbs),(aB rMulRat2.f_Den.f_Neg),(encL (cU .u16) 0 rMulRat2.f_Den.f_Limbs),(aB rSubRat.f_Num.f_Neg),(encL (cU .u16) 0 rSubRat.f_Num.f_Limbs),(aB rSubRat.f_Den.f_Neg),(encL (cU .u16) 0 rSubRat.f_Den.f_Limbs)])],784⟩ (C_90 126) [] [] (kp [2]) (kq [16]) 784 [0 < 1,0 < 1,0 < 1,0 < 1] ⟨o1,o1,o1,o1,trivial⟩ ?_
  obtain rfl:=Option.some.inj h
  refine Runs.sW hE ⟨[(2,(.op 16 0 0))],[(16,vO 12 [(aB rMulRat.f_Num.f_Neg),(encL (cU .u16) 0 rMulRat.f_Num.f_Limbs),(aB rMulRat.f_Den.f_Neg),(encL (cU .u16) 0 rMulRat.f_Den.f_Limbs),(aB rMulRat2.f_Num.f_Neg),(encL (cU .u16) 0 rMulRat2.f_Num.f_Limbs),(aB rMulRat2.f_Den.f_Neg),(encL (cU .u16) 0 rMulRat2.f_Den.f_Limbs),(aB rSubRat.f_Num.f_Neg),(encL (cU .u16) 0 rSubRat.f_Num.f_Limbs),(aB rSubRat.f_Den.f_Neg),(encL (cU .u16) 0 rSubRat.f_Den.f_Limbs)])],784⟩ [] (kp [2]) (kq [16]) 784 [] trivial ?_
  exact Runs.sT Try.f58 [16] [0 < 1] ⟨o1,trivial⟩
noncomputable def C_65 (n:Nat):Code:=cat (bodyOf Try.f24) (pth n)
theorem g_r06_Balanced_L1_ok (N:Nat) (l:List TLine) (parts:List TRat) (fuel:Nat):∀ (sum:TS__3_api_Rat) (i:Int) (r:Bool),g_r06_Balanced_L1 N l parts fuel sum i = some r→∀ E,EnvOk E 0→Runs Try.prog E 24 73 (SPost E [] (aB r)) [.code (C_65 116),.inLoop (C_65 116),.inBlock 0,.code (C_65 15)] ⟨[(0,(encL TLine.cells TLine.d l)),(2,(encL TRat.cells TRat.d parts)),(7,(.op 0 0 0)),(8,(aI i))],[(0,vO 12 (TS__3_api_Rat.cells sum))],1⟩:=by
  induction fuel with
  | zero=>intro _ _ r h; rw [g_r06_Balanced_L1.eq_1] at h; cases h
  | succ fuel ih =>
    intro sum i r h E hE
    rw [g_r06_Balanced_L1.eq_2] at h
    refine Runs.sA 2 [.code (C_65 464),.code (C_65 465),.code (C_65 233),.inLoop (C_65 116),.inBlock 0,.code (C_65 15)] ?_
    refine Runs.sR hE ⟨[(0,(encL TLine.cells TLine.d l)),(2,(encL TRat.cells TRat.d parts)),(7,(.op 0 0 0)),(8,(aI i)),(16,(aB (decide (i < ((l.length:Nat):Int)))))],[(0,vO 12 (TS__3_api_Rat.cells sum))],65⟩ (C_65 464) [] [] (kp [0,2,7,8,16]) (kq [0]) 65 [] trivial ?_
    refine Runs.sC 16 (C_65 930) (C_65 931) (decide (i < ((l.length:Nat):Int))) (fun hq2=>?_) (fun hq2=>?_)
    · have h:=condT h hq2
      refine Runs.sA 5 [.code (C_65 3728),.code (C_65 3729),.code (C_65 1865),.inBlock 1,.code (C_65 467),.inLoop (C_65 116),.inBlock 0,.code (C_65 15)] ?_
      obtain ⟨c,h⟩:=ifSome h
      obtain ⟨rSignRat,hr2,h⟩:=bindSome h
      obtain ⟨c2,h⟩:=ifSome h
      obtain ⟨rQ,hr3,h⟩:=bindSome h
      obtain ⟨rCmpRat,hr4,h⟩:=bindSome h
      refine Runs.sR hE ⟨[(0,(encL TLine.cells TLine.d l)),(2,(encL TRat.cells TRat.d parts)),(7,(.op 0 0 0)),(8,(aI i)),(33,(aB (cond (decide (rSignRat < 0)) true (decide (rCmpRat > 0)))))],[(0,vO 12 (TS__3_api_Rat.cells sum))],305⟩ (C_65 3728) [(4,⟨[],true,(aI rSignRat),[],0,false,none⟩),(11,⟨[],true,(.agg (TRat.cells rQ)),[],0,false,none⟩),(12,⟨[],true,(aI rCmpRat),[],0,false,none⟩)] [] (kp [0,2,7,8,33]) (kq [0]) 305 [0≤i∧i < ((parts.length:Nat):Int),Sound Try.prog 55 [(.agg [(aB (((parts.getD ((i).toNat) TRat.d).f_Num).f_Neg)),(encL (cU .u16) 0 (((parts.getD ((i).toNat) TRat.d).f_Num).f_Limbs)),(aB (((parts.getD ((i).toNat) TRat.d).f_Den).f_Neg)),(encL (cU .u16) 0 (((parts.getD ((i).toNat) TRat.d).f_Den).f_Limbs))])] [] 0 (aI rSignRat) [],(!(decide (rSignRat < 0))) = true→AllP [(!(decide (rSignRat < 0))) = true,(!(decide (rSignRat < 0))) = true,0≤i∧i < ((parts.length:Nat):Int)],(!(decide (rSignRat < 0))) = true→AllP [(!(decide (rSignRat < 0))) = true],(!(decide (rSignRat < 0))) = true→AllP [Sound Try.prog 57 [(aI 1)] [] 0 (.agg (TRat.cells rQ)) []],(!(decide (rSignRat < 0))) = true→AllP [Sound Try.prog 56 [(.agg [(aB (((parts.getD ((i).toNat) TRat.d).f_Num).f_Neg)),(encL (cU .u16) 0 (((parts.getD ((i).toNat) TRat.d).f_Num).f_Limbs)),(aB (((parts.getD ((i).toNat) TRat.d).f_Den).f_Neg)),(encL (cU .u16) 0 (((parts.getD ((i).toNat) TRat.d).f_Den).f_Limbs))]),(.agg (TRat.cells rQ))] [] 0 (aI rCmpRat) [],(!(decide (rSignRat < 0))) = true,(!(decide (rSignRat < 0))) = true],(!(decide (rSignRat < 0))) = true→AllP [(!(decide (rSignRat < 0))) = true],(!(decide (rSignRat < 0))) = true→AllP [(!(decide (rSignRat < 0))) = true]] ⟨c,(g_r01_SignRat_ok N (⟨((parts.getD ((i).toNat) TRat.d).f_Num),((parts.getD ((i).toNat) TRat.d).f_Den)⟩:TRat) rSignRat hr2),(fun hg=>⟨hg,hg,(c2 hg),trivial⟩),(fun hg=>⟨hg,trivial⟩),(fun hg=>⟨(g_r01_Q_ok N 1 rQ (condT hr3 hg)),trivial⟩),(fun hg=>⟨(g_r01_CmpRat_ok N (⟨((parts.getD ((i).toNat) TRat.d).f_Num),((parts.getD ((i).toNat) TRat.d).f_Den)⟩:TRat) rQ rCmpRat (condT hr4 hg)),hg,hg,trivial⟩),(fun hg=>⟨hg,trivial⟩),(fun hq=>⟨hq,trivial⟩),trivial⟩ ?_
      refine Runs.sC 33 (C_65 7458) (C_65 7459) (cond (decide (rSignRat < 0)) true (decide (rCmpRat > 0))) (fun hq3=>?_) (fun hq3=>?_)
      · have h:=condT h hq3
        refine Runs.sA 1 [.code (C_65 14916),.code (C_65 14917),.code (C_65 1865),.inBlock 1,.code (C_65 467),.inLoop (C_65 116),.inBlock 0,.code (C_65 15)] ?_
        refine Runs.sR hE ⟨[(6,(aB false))],[],321⟩ (C_65 14916) [] [] (kp [6]) [] 321 [] trivial ?_
        obtain rfl:=Option.some.inj h
        refine Runs.sW hE ⟨[(6,(aB false))],[],321⟩ [] (kp [6]) [] 321 [] trivial ?_
        exact Runs.sT Try.f24 [] [] trivial
      · have h:=condF h hq3
        refine Runs.sA 2 [.code (C_65 3730),.code (C_65 3731),.inBlock 1,.code (C_65 467),.inLoop (C_65 116),.inBlock 0,.code (C_65 15)] ?_
        obtain ⟨c3,h⟩:=ifSome h
        obtain ⟨rPull,hr5,h⟩:=bindSome h
        refine Runs.sR hE ⟨[(0,(encL TLine.cells TLine.d l)),(2,(encL TRat.cells TRat.d parts)),(7,(.op 0 0 0)),(8,(aI i)),(9,(.op 385 0 0))],[(0,vO 12 (TS__3_api_Rat.cells sum)),(385,vO 12 (TS__3_api_Rat.cells rPull))],417⟩ (C_65 3730) [(4,⟨[],true,(.agg (TS__3_api_Rat.cells rPull)),[],0,false,none⟩)] [] (kp [0,2,7,8,9]) (kq [0,385]) 417 [0≤i∧i < ((l.length:Nat):Int),Sound Try.prog 58 [(.agg (TLine.cells (l.getD ((i).toNat) TLine.d)))] [] 0 (.agg (TS__3_api_Rat.cells rPull)) [],0 < 1] ⟨c3,(g_r06_Pull_ok N (l.getD ((i).toNat) TLine.d) rPull hr5),o1,trivial⟩ ?_
        refine Runs.sA 1 [.code (C_65 7462),.code (C_65 7463),.inBlock 1,.code (C_65 467),.inLoop (C_65 116),.inBlock 0,.code (C_65 15)] ?_
        refine Runs.sR hE ⟨[(0,(encL TLine.cells TLine.d l)),(2,(encL TRat.cells TRat.d parts)),(7,(.op 0 0 0)),(8,(aI i)),(9,(.op 385 0 0)),(10,(aI 0))],[(0,vO 12 (TS__3_api_Rat.cells sum)),(385,vO 12 (TS__3_api_Rat.cells rPull))],433⟩ (C_65 7462) [] [] (kp [0,2,7,8,9,10]) (kq [0,385]) 433 [] trivial ?_
        refine Runs.sA 4 [.code (C_65 119408),.code (C_65 119409),.code (C_65 59705),.inLoop (C_65 29852),.inBlock 2,.inBlock 1,.code (C_65 467),.inLoop (C_65 116),.inBlock 0,.code (C_65 15)] ?_
        refine Runs.sR hE ⟨[(0,(encL TLine.cells TLine.d l)),(2,(encL TRat.cells TRat.d parts)),(7,(.op 0 0 0)),(8,(aI i)),(9,(.op 385 0 0)),(10,(aI 0)),(40,(aB true))],[(0,vO 12 (TS__3_api_Rat.cells sum)),(385,vO 12 (TS__3_api_Rat.cells rPull))],465⟩ (C_65 119408) [] [] (kp [0,2,7,8,9,10,40]) (kq [0,385]) 465 [] trivial ?_
        refine Runs.sC 40 (C_65 238818) (C_65 238819) true (fun _=>?_) (fun hq=>absurd hq (by decide)) 
        refine Runs.sA 3 [.code (C_65 238820),.inBlock 3,.code (C_65 119411),.inLoop (C_65 29852),.inBlock 2,.inBlock 1,.code (C_65 467),.inLoop (C_65 116),.inBlock 0,.code (C_65 15)] ?_
        obtain ⟨rMulRat,hr6,h⟩:=bindSome h
        obtain ⟨rAddRat,hr7,h⟩:=bindSome h
        refine Runs.sR hE ⟨[(0,(encL TLine.cells TLine.d l)),(2,(encL TRat.cells TRat.d parts)),(7,(.op 0 0 0)),(8,(aI i)),(9,(.op 385 0 0)),(10,(aI 0))],[(0,vO 12 [(aB rAddRat.f_Num.f_Neg),(encL (cU .u16) 0 rAddRat.f_Num.f_Limbs),(aB rAddRat.f_Den.f_Neg),(encL (cU .u16) 0 rAddRat.f_Den.f_Limbs),(aB sum.e1.f_Num.f_Neg),(encL (cU .u16) 0 sum.e1.f_Num.f_Limbs),(aB sum.e1.f_Den.f_Neg),(encL (cU .u16) 0 sum.e1.f_Den.f_Limbs),(aB sum.e2.f_Num.f_Neg),(encL (cU .u16) 0 sum.e2.f_Num.f_Limbs),(aB sum.e2.f_Den.f_Neg),(encL (cU .u16) 0 sum.e2.f_Den.f_Limbs)]),(385,vO 12 (TS__3_api_Rat.cells rPull))],705⟩ (C_65 238820) [(11,⟨[],true,(.agg (TRat.cells rMulRat)),[],0,false,none⟩),(12,⟨[],true,(.agg (TRat.cells rAddRat)),[],0,false,none⟩)] [] (kp [0,2,7,8,9,10]) (kq [0,385]) 705 [0≤(0:Int)∧(0:Int) < 3,0 < 1,0≤i∧i < ((parts.length:Nat):Int),0≤(0:Int)∧(0:Int) < 3,0 < 1,Sound Try.prog 60 [(.agg [(aB (((parts.getD ((i).toNat) TRat.d).f_Num).f_Neg)),(encL (cU .u16) 0 (((parts.getD ((i).toNat) TRat.d).f_Num).f_Limbs)),(aB (((parts.getD ((i).toNat) TRat.d).f_Den).f_Neg)),(encL (cU .u16) 0 (((parts.getD ((i).toNat) TRat.d).f_Den).f_Limbs))]),(.agg (TRat.cells rPull.e0))] [] 0 (.agg (TRat.cells rMulRat)) [],Sound Try.prog 59 [(.agg (TRat.cells sum.e0)),(.agg (TRat.cells rMulRat))] [] 0 (.agg (TRat.cells rAddRat)) [],0≤(0:Int)∧(0:Int) < 3,0 < 1] ⟨(by decide),o1,c,(by decide),o1,(g_r01_MulRat_ok N (⟨((parts.getD ((i).toNat) TRat.d).f_Num),((parts.getD ((i).toNat) TRat.d).f_Den)⟩:TRat) rPull.e0 rMulRat hr6),(g_r01_AddRat_ok N sum.e0 rMulRat rAddRat hr7),(by decide),o1,trivial⟩ ?_
        refine Runs.sA 1 [.code (C_65 119411),.inLoop (C_65 29852),.inBlock 2,.inBlock 1,.code (C_65 467),.inLoop (C_65 116),.inBlock 0,.code (C_65 15)] ?_
        refine Runs.sR hE ⟨[(0,(encL TLine.cells TLine.d l)),(2,(encL TRat.cells TRat.d parts)),(7,(.op 0 0 0)),(8,(aI i)),(9,(.op 385 0 0)),(10,(aI 1))],[(0,vO 12 [(aB rAddRat.f_Num.f_Neg),(encL (cU .u16) 0 rAddRat.f_Num.f_Limbs),(aB rAddRat.f_Den.f_Neg),(encL (cU .u16) 0 rAddRat.f_Den.f_Limbs),(aB sum.e1.f_Num.f_Neg),(encL (cU .u16) 0 sum.e1.f_Num.f_Limbs),(aB sum.e1.f_Den.f_Neg),(encL (cU .u16) 0 sum.e1.f_Den.f_Limbs),(aB sum.e2.f_Num.f_Neg),(encL (cU .u16) 0 sum.e2.f_Num.f_Limbs),(aB sum.e2.f_Den.f_Neg),(encL (cU .u16) 0 sum.e2.f_Den.f_Limbs)]),(385,vO 12 (TS__3_api_Rat.cells rPull))],753⟩ (C_65 119411) [] [] (kp [0,2,7,8,9,10]) (kq [0,385]) 753 [] trivial ?_
        refine Runs.sA 3 [.code (C_65 119408),.code (C_65 119409),.code (C_65 59705),.inLoop (C_65 29852),.inBlock 2,.inBlock 1,.code (C_65 467),.inLoop (C_65 116),.inBlock 0,.code (C_65 15)] ?_
        refine Runs.sR hE ⟨[(0,(encL TLine.cells TLine.d l)),(2,(encL TRat.cells TRat.d parts)),(7,(.op 0 0 0)),(8,(aI i)),(9,(.op 385 0 0)),(10,(aI 1)),(40,(aB true))],[(0,vO 12 [(aB rAddRat.f_Num.f_Neg),(encL (cU .u16) 0 rAddRat.f_Num.f_Limbs),(aB rAddRat.f_Den.f_Neg),(encL (cU .u16) 0 rAddRat.f_Den.f_Limbs),(aB sum.e1.f_Num.f_Neg),(encL (cU .u16) 0 sum.e1.f_Num.f_Limbs),(aB sum.e1.f_Den.f_Neg),(encL (cU .u16) 0 sum.e1.f_Den.f_Limbs),(aB sum.e2.f_Num.f_Neg),(encL (cU .u16) 0 sum.e2.f_Num.f_Limbs),(aB sum.e2.f_Den.f_Neg),(encL (cU .u16) 0 sum.e2.f_Den.f_Limbs)]),(385,vO 12 (TS__3_api_Rat.cells rPull))],785⟩ (C_65 119408) [] [] (kp [0,2,7,8,9,10,40]) (kq [0,385]) 785 [] trivial ?_
        refine Runs.sC 40 (C_65 238818) (C_65 238819) true (fun _=>?_) (fun hq=>absurd hq (by decide)) 
        refine Runs.sA 3 [.code (C_65 238820),.inBlock 3,.code (C_65 119411),.inLoop (C_65 29852),.inBlock 2,.inBlock 1,.code (C_65 467),.inLoop (C_65 116),.inBlock 0,.code (C_65 15)] ?_
        obtain ⟨rMulRat2,hr8,h⟩:=bindSome h
        obtain ⟨rAddRat2,hr9,h⟩:=bindSome h
        refine Runs.sR hE ⟨[(0,(encL TLine.cells TLine.d l)),(2,(encL TRat.cells TRat.d parts)),(7,(.op 0 0 0)),(8,(aI i)),(9,(.op 385 0 0)),(10,(aI 1))],[(0,vO 12 [(aB rAddRat.f_Num.f_Neg),(encL (cU .u16) 0 rAddRat.f_Num.f_Limbs),(aB rAddRat.f_Den.f_Neg),(encL (cU .u16) 0 rAddRat.f_Den.f_Limbs),(aB rAddRat2.f_Num.f_Neg),(encL (cU .u16) 0 rAddRat2.f_Num.f_Limbs),(aB rAddRat2.f_Den.f_Neg),(encL (cU .u16) 0 rAddRat2.f_Den.f_Limbs),(aB sum.e2.f_Num.f_Neg),(encL (cU .u16) 0 sum.e2.f_Num.f_Limbs),(aB sum.e2.f_Den.f_Neg),(encL (cU .u16) 0 sum.e2.f_Den.f_Limbs)]),(385,vO 12 (TS__3_api_Rat.cells rPull))],1025⟩ (C_65 238820) [(11,⟨[],true,(.agg (TRat.cells rMulRat2)),[],0,false,none⟩),(12,⟨[],true,(.agg (TRat.cells rAddRat2)),[],0,false,none⟩)] [] (kp [0,2,7,8,9,10]) (kq [0,385]) 1025 [0≤(1:Int)∧(1:Int) < 3,0 < 1,0≤i∧i < ((parts.length:Nat):Int),0≤(1:Int)∧(1:Int) < 3,0 < 1,Sound Try.prog 60 [(.agg [(aB (((parts.getD ((i).toNat) TRat.d).f_Num).f_Neg)),(encL (cU .u16) 0 (((parts.getD ((i).toNat) TRat.d).f_Num).f_Limbs)),(aB (((parts.getD ((i).toNat) TRat.d).f_Den).f_Neg)),(encL (cU .u16) 0 (((parts.getD ((i).toNat) TRat.d).f_Den).f_Limbs))]),(.agg (TRat.cells rPull.e1))] [] 0 (.agg (TRat.cells rMulRat2)) [],Sound Try.prog 59 [(.agg (TRat.cells sum.e1)),(.agg (TRat.cells rMulRat2))] [] 0 (.agg (TRat.cells rAddRat2)) [],0≤(1:Int)∧(1:Int) < 3,0 < 1] ⟨(by decide),o1,c,(by decide),o1,(g_r01_MulRat_ok N (⟨((parts.getD ((i).toNat) TRat.d).f_Num),((parts.getD ((i).toNat) TRat.d).f_Den)⟩:TRat) rPull.e1 rMulRat2 hr8),(g_r01_AddRat_ok N sum.e1 rMulRat2 rAddRat2 hr9),(by decide),o1,trivial⟩ ?_
        refine Runs.sA 1 [.code (C_65 119411),.inLoop (C_65 29852),.inBlock 2,.inBlock 1,.code (C_65 467),.inLoop (C_65 116),.inBlock 0,.code (C_65 15)] ?_
        refine Runs.sR hE ⟨[(0,(encL TLine.cells TLine.d l)),(2,(encL TRat.cells TRat.d parts)),(7,(.op 0 0 0)),(8,(aI i)),(9,(.op 385 0 0)),(10,(aI 2))],[(0,vO 12 [(aB rAddRat.f_Num.f_Neg),(encL (cU .u16) 0 rAddRat.f_Num.f_Limbs),(aB rAddRat.f_Den.f_Neg),(encL (cU .u16) 0 rAddRat.f_Den.f_Limbs),(aB rAddRat2.f_Num.f_Neg),(encL (cU .u16) 0 rAddRat2.f_Num.f_Limbs),(aB rAddRat2.f_Den.f_Neg),(encL (cU .u16) 0 rAddRat2.f_Den.f_Limbs),(aB sum.e2.f_Num.f_Neg),(encL (cU .u16) 0 sum.e2.f_Num.f_Limbs),(aB sum.e2.f_Den.f_Neg),(encL (cU .u16) 0 sum.e2.f_Den.f_Limbs)]),(385,vO 12 (TS__3_api_Rat.cells rPull))],1073⟩ (C_65 119411) [] [] (kp [0,2,7,8,9,10]) (kq [0,385]) 1073 [] trivial ?_
        refine Runs.sA 3 [.code (C_65 119408),.code (C_65 119409),.code (C_65 59705),.inLoop (C_65 29852),.inBlock 2,.inBlock 1,.code (C_65 467),.inLoop (C_65 116),.inBlock 0,.code (C_65 15)] ?_
        refine Runs.sR hE ⟨[(0,(encL TLine.cells TLine.d l)),(2,(encL TRat.cells TRat.d parts)),(7,(.op 0 0 0)),(8,(aI i)),(9,(.op 385 0 0)),(10,(aI 2)),(40,(aB true))],[(0,vO 12 [(aB rAddRat.f_Num.f_Neg),(encL (cU .u16) 0 rAddRat.f_Num.f_Limbs),(aB rAddRat.f_Den.f_Neg),(encL (cU .u16) 0 rAddRat.f_Den.f_Limbs),(aB rAddRat2.f_Num.f_Neg),(encL (cU .u16) 0 rAddRat2.f_Num.f_Limbs),(aB rAddRat2.f_Den.f_Neg),(encL (cU .u16) 0 rAddRat2.f_Den.f_Limbs),(aB sum.e2.f_Num.f_Neg),(encL (cU .u16) 0 sum.e2.f_Num.f_Limbs),(aB sum.e2.f_Den.f_Neg),(encL (cU .u16) 0 sum.e2.f_Den.f_Limbs)]),(385,vO 12 (TS__3_api_Rat.cells rPull))],1105⟩ (C_65 119408) [] [] (kp [0,2,7,8,9,10,40]) (kq [0,385]) 1105 [] trivial ?_
        refine Runs.sC 40 (C_65 238818) (C_65 238819) true (fun _=>?_) (fun hq=>absurd hq (by decide)) 
        refine Runs.sA 3 [.code (C_65 238820),.inBlock 3,.code (C_65 119411),.inLoop (C_65 29852),.inBlock 2,.inBlock 1,.code (C_65 467),.inLoop (C_65 116),.inBlock 0,.code (C_65 15)] ?_
        obtain ⟨rMulRat3,hr10,h⟩:=bindSome h
        obtain ⟨rAddRat3,hr11,h⟩:=bindSome h
        refine Runs.sR hE ⟨[(0,(encL TLine.cells TLine.d l)),(2,(encL TRat.cells TRat.d parts)),(7,(.op 0 0 0)),(8,(aI i)),(9,(.op 385 0 0)),(10,(aI 2))],[(0,vO 12 [(aB rAddRat.f_Num.f_Neg),(encL (cU .u16) 0 rAddRat.f_Num.f_Limbs),(aB rAddRat.f_Den.f_Neg),(encL (cU .u16) 0 rAddRat.f_Den.f_Limbs),(aB rAddRat2.f_Num.f_Neg),(encL (cU .u16) 0 rAddRat2.f_Num.f_Limbs),(aB rAddRat2.f_Den.f_Neg),(encL (cU .u16) 0 rAddRat2.f_Den.f_Limbs),(aB rAddRat3.f_Num.f_Neg),(encL (cU .u16) 0 rAddRat3.f_Num.f_Limbs),(aB rAddRat3.f_Den.f_Neg),(encL (cU .u16) 0 rAddRat3.f_Den.f_Limbs)]),(385,vO 12 (TS__3_api_Rat.cells rPull))],1345⟩ (C_65 238820) [(11,⟨[],true,(.agg (TRat.cells rMulRat3)),[],0,false,none⟩),(12,⟨[],true,(.agg (TRat.cells rAddRat3)),[],0,false,none⟩)] [] (kp [0,2,7,8,9,10]) (kq [0,385]) 1345 [0≤(2:Int)∧(2:Int) < 3,0 < 1,0≤i∧i < ((parts.length:Nat):Int),0≤(2:Int)∧(2:Int) < 3,0 < 1,Sound Try.prog 60 [(.agg [(aB (((parts.getD ((i).toNat) TRat.d).f_Num).f_Neg)),(encL (cU .u16) 0 (((parts.getD ((i).toNat) TRat.d).f_Num).f_Limbs)),(aB (((parts.getD ((i).toNat) TRat.d).f_Den).f_Neg)),(encL (cU .u16) 0 (((parts.getD ((i).toNat) TRat.d).f_Den).f_Limbs))]),(.agg (TRat.cells rPull.e2))] [] 0 (.agg (TRat.cells rMulRat3)) [],Sound Try.prog 59 [(.agg (TRat.cells sum.e2)),(.agg (TRat.cells rMulRat3))] [] 0 (.agg (TRat.cells rAddRat3)) [],0≤(2:Int)∧(2:Int) < 3,0 < 1] ⟨(by decide),o1,c,(by decide),o1,(g_r01_MulRat_ok N (⟨((parts.getD ((i).toNat) TRat.d).f_Num),((parts.getD ((i).toNat) TRat.d).f_Den)⟩:TRat) rPull.e2 rMulRat3 hr10),(g_r01_AddRat_ok N sum.e2 rMulRat3 rAddRat3 hr11),(by decide),o1,trivial⟩ ?_
        refine Runs.sA 1 [.code (C_65 119411),.inLoop (C_65 29852),.inBlock 2,.inBlock 1,.code (C_65 467),.inLoop (C_65 116),.inBlock 0,.code (C_65 15)] ?_
        refine Runs.sR hE ⟨[(0,(encL TLine.cells TLine.d l)),(2,(encL TRat.cells TRat.d parts)),(7,(.op 0 0 0)),(8,(aI i)),(9,(.op 385 0 0)),(10,(aI 3))],[(0,vO 12 [(aB rAddRat.f_Num.f_Neg),(encL (cU .u16) 0 rAddRat.f_Num.f_Limbs),(aB rAddRat.f_Den.f_Neg),(encL (cU .u16) 0 rAddRat.f_Den.f_Limbs),(aB rAddRat2.f_Num.f_Neg),(encL (cU .u16) 0 rAddRat2.f_Num.f_Limbs),(aB rAddRat2.f_Den.f_Neg),(encL (cU .u16) 0 rAddRat2.f_Den.f_Limbs),(aB rAddRat3.f_Num.f_Neg),(encL (cU .u16) 0 rAddRat3.f_Num.f_Limbs),(aB rAddRat3.f_Den.f_Neg),(encL (cU .u16) 0 rAddRat3.f_Den.f_Limbs)]),(385,vO 12 (TS__3_api_Rat.cells rPull))],1393⟩ (C_65 119411) [] [] (kp [0,2,7,8,9,10]) (kq [0,385]) 1393 [] trivial ?_
        refine Runs.sA 3 [.code (C_65 119408),.code (C_65 119409),.code (C_65 59705),.inLoop (C_65 29852),.inBlock 2,.inBlock 1,.code (C_65 467),.inLoop (C_65 116),.inBlock 0,.code (C_65 15)] ?_
        refine Runs.sR hE ⟨[(0,(encL TLine.cells TLine.d l)),(2,(encL TRat.cells TRat.d parts)),(7,(.op 0 0 0)),(8,(aI i)),(9,(.op 385 0 0)),(10,(aI 3)),(40,(aB false))],[(0,vO 12 [(aB rAddRat.f_Num.f_Neg),(encL (cU .u16) 0 rAddRat.f_Num.f_Limbs),(aB rAddRat.f_Den.f_Neg),(encL (cU .u16) 0 rAddRat.f_Den.f_Limbs),(aB rAddRat2.f_Num.f_Neg),(encL (cU .u16) 0 rAddRat2.f_Num.f_Limbs),(aB rAddRat2.f_Den.f_Neg),(encL (cU .u16) 0 rAddRat2.f_Den.f_Limbs),(aB rAddRat3.f_Num.f_Neg),(encL (cU .u16) 0 rAddRat3.f_Num.f_Limbs),(aB rAddRat3.f_Den.f_Neg),(encL (cU .u16) 0 rAddRat3.f_Den.f_Limbs)]),(385,vO 12 (TS__3_api_Rat.cells rPull))],1425⟩ (C_65 119408) [] [] (kp [0,2,7,8,9,10,40]) (kq [0,385]) 1425 [] trivial ?_
        refine Runs.sC 40 (C_65 238818) (C_65 238819) false (fun hq=>absurd hq (by decide)) (fun _=>?_) 
        refine Runs.sA 2 [.code (C_65 467),.inLoop (C_65 116),.inBlock 0,.code (C_65 15)] ?_
        refine Runs.sR hE ⟨[(0,(encL TLine.cells TLine.d l)),(2,(encL TRat.cells TRat.d parts)),(7,(.op 0 0 0)),(8,(aI (w64 (i+1))))],[(0,vO 12 [(aB rAddRat.f_Num.f_Neg),(encL (cU .u16) 0 rAddRat.f_Num.f_Limbs),(aB rAddRat.f_Den.f_Neg),(encL (cU .u16) 0 rAddRat.f_Den.f_Limbs),(aB rAddRat2.f_Num.f_Neg),(encL (cU .u16) 0 rAddRat2.f_Num.f_Limbs),(aB rAddRat2.f_Den.f_Neg),(encL (cU .u16) 0 rAddRat2.f_Den.f_Limbs),(aB rAddRat3.f_Num.f_Neg),(encL (cU .u16) 0 rAddRat3.f_Num.f_Limbs),(aB rAddRat3.f_Den.f_Neg),(encL (cU .u16) 0 rAddRat3.f_Den.f_Limbs)])],1473⟩ (C_65 467) [] [] (kp [0,2,7,8]) (kq [0]) 1473 [] trivial ?_
        refine Runs.sA 1 [.code (C_65 116),.inLoop (C_65 116),.inBlock 0,.code (C_65 15)] ?_
        exact Runs.sW hE _ [] (kp [0,2,7,8]) (kq [0]) 1 [] trivial (ih (⟨rAddRat,rAddRat2,rAddRat3⟩:TS__3_api_Rat) (w64 (i+1)) _ h E hE)
    · have h:=condF h hq2
      refine Runs.sA 2 [.code (C_65 30),.code (C_65 31)] ?_
      obtain ⟨rSignRat2,hr12,h⟩:=bindSome h
      obtain ⟨rSignRat3,hr13,h⟩:=bindSome h
      obtain ⟨rSignRat4,hr14,h⟩:=bindSome h
      refine Runs.sR hE ⟨[(6,(aB (cond (cond (rSignRat2 == 0) (rSignRat3 == 0) false) (rSignRat4 == 0) false)))],[],337⟩ (C_65 30) [(2,⟨[],true,(aI rSignRat2),[],0,false,none⟩),(7,⟨[],true,(aI rSignRat3),[],0,false,none⟩),(13,⟨[],true,(aI rSignRat4),[],0,false,none⟩)] [] (kp [6]) [] 337 [0≤(0:Int)∧(0:Int) < 3,0 < 1,Sound Try.prog 55 [(.agg (TRat.cells sum.e0))] [] 0 (aI rSignRat2) [],(rSignRat2 == 0) = true→AllP [0≤(1:Int)∧(1:Int) < 3],(rSignRat2 == 0) = true→AllP [(rSignRat2 == 0) = true,0 < 1],(rSignRat2 == 0) = true→AllP [Sound Try.prog 55 [(.agg (TRat.cells sum.e1))] [] 0 (aI rSignRat3) [],(rSignRat2 == 0) = true],(rSignRat2 == 0) = true→AllP [(rSignRat2 == 0) = true],(rSignRat2 == 0) = true→AllP [(rSignRat2 == 0) = true],(cond (rSignRat2 == 0) (rSignRat3 == 0) false) = true→AllP [0≤(2:Int)∧(2:Int) < 3],(cond (rSignRat2 == 0) (rSignRat3 == 0) false) = true→AllP [(cond (rSignRat2 == 0) (rSignRat3 == 0) false) = true,0 < 1],(cond (rSignRat2 == 0) (rSignRat3 == 0) false) = true→AllP [Sound Try.prog 55 [(.agg (TRat.cells sum.e2))] [] 0 (aI rSignRat4) [],(cond (rSignRat2 == 0) (rSignRat3 == 0) false) = true],(cond (rSignRat2 == 0) (rSignRat3 == 0) false) = true→AllP [(cond (rSignRat2 == 0) (rSignRat3 == 0) false) = true],(cond (rSignRat2 == 0) (rSignRat3 == 0) false) = true→AllP [(cond (rSignRat2 == 0) (rSignRat3 == 0) false) = true]] ⟨(by decide),o1,(g_r01_SignRat_ok N sum.e0 rSignRat2 hr12),(fun hg=>⟨(by decide),trivial⟩),(fun hg=>⟨hg,o1,trivial⟩),(fun hg=>⟨(g_r01_SignRat_ok N sum.e1 rSignRat3 (condT hr13 hg)),hg,trivial⟩),(fun hg=>⟨hg,trivial⟩),(fun hq=>⟨hq,trivial⟩),(fun hg=>⟨(by decide),trivial⟩),(fun hg=>⟨hg,o1,trivial⟩),(fun hg=>⟨(g_r01_SignRat_ok N sum.e2 rSignRat4 (condT hr14 hg)),hg,trivial⟩),(fun hg=>⟨hg,trivial⟩),(fun hq=>⟨hq,trivial⟩),trivial⟩ ?_
      obtain rfl:=Option.some.inj h
      refine Runs.sW hE ⟨[(6,(aB (cond (cond (rSignRat2 == 0) (rSignRat3 == 0) false) (rSignRat4 == 0) false)))],[],337⟩ [] (kp [6]) [] 337 [] trivial ?_
      exact Runs.sT Try.f24 [] [] trivial
theorem g_r06_Balanced_ok (N:Nat) (l:List TLine) (w:TWind) (parts:List TRat) (r:Bool) (h:g_r06_Balanced N l w parts = some r):Sound Try.prog 24 [(encL TLine.cells TLine.d l),(.agg (TWind.cells w)),(encL TRat.cells TRat.d parts)] [] 0 (aB r) []:=by
  unfold g_r06_Balanced at h
  refine Sound.of_runs (fu:=Try.f24) (c:=C_65 1) (nt:=73) (by kernel_rfl) (by kernel_rfl) (by kernel_rfl) (by kernel_rfl) (fun hm=>rfl) ?_
  intro E hE
  refine Runs.sA 1 [.code (C_65 2),.code (C_65 3)] ?_
  refine Runs.sR hE ⟨[(0,(encL TLine.cells TLine.d l)),(2,(encL TRat.cells TRat.d parts)),(4,(.op 0 0 0))],[(0,vO 3 (TWind.cells w))],32⟩ (C_65 2) [] [] (kp [0,2,4]) (kq [0]) 32 [] trivial ?_
  refine Runs.sA 1 [.code (C_65 6),.code (C_65 7)] ?_
  obtain ⟨rthree,hr,h⟩:=bindSome h
  refine Runs.sR hE ⟨[(0,(encL TLine.cells TLine.d l)),(2,(encL TRat.cells TRat.d parts)),(7,(.op 64 0 0))],[(64,vO 12 (TS__3_api_Rat.cells rthree))],96⟩ (C_65 6) [(1,⟨[],true,(.agg (TS__3_api_Rat.cells rthree)),[],0,false,none⟩)] [] (kp [0,2,7]) (kq [64]) 96 [0 < 1,Sound Try.prog 54 [(.agg (TWind.cells w))] [] 0 (.agg (TS__3_api_Rat.cells rthree)) [],0 < 1] ⟨o1,(g_r06_three_ok N w rthree hr),o1,trivial⟩ ?_
  refine Runs.sA 2 [.code (C_65 28),.code (C_65 29),.code (C_65 15)] ?_
  refine Runs.sR hE ⟨[(0,(encL TLine.cells TLine.d l)),(2,(encL TRat.cells TRat.d parts)),(7,(.op 64 0 0)),(8,(aI 0))],[(64,vO 12 (TS__3_api_Rat.cells rthree))],112⟩ (C_65 28) [] [] (kp [0,2,7,8]) (kq [64]) 112 [] trivial ?_
  refine Runs.sA 2 [.code (C_65 116),.inLoop (C_65 116),.inBlock 0,.code (C_65 15)] ?_
  exact Runs.sW hE _ [] (kp [0,2,7,8]) [(0,.keep 64)] 1 [] trivial (g_r06_Balanced_L1_ok N l parts N rthree 0 _ h E hE)
noncomputable def C_95 (n:Nat):Code:=cat (bodyOf Try.f61) (pth n)
theorem g_r06_along_ok (N:Nat) (d:List TRat) (p:TS__3_api_Rat) (r:TRat) (h:g_r06_along N d p = some r):Sound Try.prog 61 [(encL TRat.cells TRat.d d),(.agg (TS__3_api_Rat.cells p))] [] 0 (.agg (TRat.cells r)) []:=by
  unfold g_r06_along at h
  refine Sound.of_runs (fu:=Try.f61) (c:=C_95 1) (nt:=23) (by kernel_rfl) (by kernel_rfl) (by kernel_rfl) (by kernel_rfl) (fun hm=>rfl) ?_
  intro E hE
  refine Runs.sA 1 [.code (C_95 2),.code (C_95 3)] ?_
  refine Runs.sR hE ⟨[(0,(encL TRat.cells TRat.d d)),(3,(.op 0 0 0)),(4,(.op 16 0 0))],[(0,vO 12 (TS__3_api_Rat.cells p)),(16,vO 4 [(aB false),.nil,(aB false),.nil])],32⟩ (C_95 2) [] [] (kp [0,3,4]) (kq [0,16]) 32 [] trivial ?_
  refine Runs.sA 1 [.code (C_95 6),.code (C_95 7)] ?_
  obtain ⟨rQ,hr,h⟩:=bindSome h
  refine Runs.sR hE ⟨[(0,(encL TRat.cells TRat.d d)),(3,(.op 0 0 0)),(4,(.op 16 0 0)),(5,(.op 48 0 0))],[(0,vO 12 (TS__3_api_Rat.cells p)),(16,vO 4 [(aB false),.nil,(aB false),.nil]),(48,vO 4 (TRat.cells rQ))],80⟩ (C_95 6) [(0,⟨[],true,(.agg (TRat.cells rQ)),[],0,false,none⟩)] [] (kp [0,3,4,5]) (kq [0,16,48]) 80 [Sound Try.prog 57 [(aI 0)] [] 0 (.agg (TRat.cells rQ)) [],0 < 1] ⟨(g_r01_Q_ok N 0 rQ hr),o1,trivial⟩ ?_
  refine Runs.sA 2 [.code (C_95 28),.code (C_95 29),.code (C_95 15)] ?_
  refine Runs.sR hE ⟨[(0,(encL TRat.cells TRat.d d)),(3,(.op 0 0 0)),(4,(.op 16 0 0)),(5,(.op 48 0 0)),(6,(aI 0))],[(0,vO 12 (TS__3_api_Rat.cells p)),(16,vO 4 [(aB false),.nil,(aB false),.nil]),(48,vO 4 (TRat.cells rQ))],96⟩ (C_95 28) [] [] (kp [0,3,4,5,6]) (kq [0,16,48]) 96 [] trivial ?_
  refine Runs.sA 4 [.code (C_95 464),.code (C_95 465),.code (C_95 233),.inLoop (C_95 116),.inBlock 0,.code (C_95 15)] ?_
  refine Runs.sR hE ⟨[(0,(encL TRat.cells TRat.d d)),(3,(.op 0 0 0)),(4,(.op 16 0 0)),(5,(.op 48 0 0)),(6,(aI 0)),(9,(aB true))],[(0,vO 12 (TS__3_api_Rat.cells p)),(16,vO 4 [(aB false),.nil,(aB false),.nil]),(48,vO 4 (TRat.cells rQ))],128⟩ (C_95 464) [] [] (kp [0,3,4,5,6,9]) (kq [0,16,48]) 128 [] trivial ?_
  refine Runs.sC 9 (C_95 930) (C_95 931) true (fun _=>?_) (fun hq=>absurd hq (by decide)) 
  refine Runs.sA 3 [.code (C_95 932),.inBlock 1,.code (C_95 467),.inLoop (C_95 116),.inBlock 0,.code (C_95 15)] ?_
  obtain ⟨c,h⟩:=ifSome h
  obtain ⟨rMulRat,hr2,h⟩:=bindSome h
  obtain ⟨rAddRat,hr3,h⟩:=bindSome h
  refine Runs.sR hE ⟨[(0,(encL TRat.cells TRat.d d)),(3,(.op 0 0 0)),(4,(.op 16 0 0)),(5,(.op 48 0 0)),(6,(aI 0))],[(0,vO 12 (TS__3_api_Rat.cells p)),(16,vO 4 [(aB false),.nil,(aB false),.nil]),(48,vO 4 (TRat.cells rAddRat))],304⟩ (C_95 932) [(8,⟨[],true,(.agg (TRat.cells rMulRat)),[],0,false,none⟩),(9,⟨[],true,(.agg (TRat.cells rAddRat)),[],0,false,none⟩)] [] (kp [0,3,4,5,6]) (kq [0,16,48]) 304 [0 < 1,0≤(0:Int)∧0 < ((d.length:Nat):Int),0≤(0:Int)∧(0:Int) < 3,0 < 1,Sound Try.prog 60 [(.agg [(aB (((d.getD 0 TRat.d).f_Num).f_Neg)),(encL (cU .u16) 0 (((d.getD 0 TRat.d).f_Num).f_Limbs)),(aB (((d.getD 0 TRat.d).f_Den).f_Neg)),(encL (cU .u16) 0 (((d.getD 0 TRat.d).f_Den).f_Limbs))]),(.agg (TRat.cells p.e0))] [] 0 (.agg (TRat.cells rMulRat)) [],Sound Try.prog 59 [(.agg (TRat.cells rQ)),(.agg (TRat.cells rMulRat))] [] 0 (.agg (TRat.cells rAddRat)) [],0 < 1] ⟨o1,c,(by decide),o1,(g_r01_MulRat_ok N (⟨((d.getD 0 TRat.d).f_Num),((d.getD 0 TRat.d).f_Den)⟩:TRat) p.e0 rMulRat hr2),(g_r01_AddRat_ok N rQ rMulRat rAddRat hr3),o1,trivial⟩ ?_
  refine Runs.sA 1 [.code (C_95 467),.inLoop (C_95 116),.inBlock 0,.code (C_95 15)] ?_
  refine Runs.sR hE ⟨[(0,(encL TRat.cells TRat.d d)),(3,(.op 0 0 0)),(4,(.op 16 0 0)),(5,(.op 48 0 0)),(6,(aI 1))],[(0,vO 12 (TS__3_api_Rat.cells p)),(16,vO 4 [(aB false),.nil,(aB false),.nil]),(48,vO 4 (TRat.cells rAddRat))],352⟩ (C_95 467) [] [] (kp [0,3,4,5,6]) (kq [0,16,48]) 352 [] trivial ?_
  refine Runs.sA 3 [.code (C_95 464),.code (C_95 465),.code (C_95 233),.inLoop (C_95 116),.inBlock 0,.code (C_95 15)] ?_
  refine Runs.sR hE ⟨[(0,(encL TRat.cells TRat.d d)),(3,(.op 0 0 0)),(4,(.op 16 0 0)),(5,(.op 48 0 0)),(6,(aI 1)),(9,(aB true))],[(0,vO 12 (TS__3_api_Rat.cells p)),(16,vO 4 [(aB false),.nil,(aB false),.nil]),(48,vO 4 (TRat.cells rAddRat))],384⟩ (C_95 464) [] [] (kp [0,3,4,5,6,9]) (kq [0,16,48]) 384 [] trivial ?_
  refine Runs.sC 9 (C_95 930) (C_95 931) true (fun _=>?_) (fun hq=>absurd hq (by decide)) 
  refine Runs.sA 3 [.code (C_95 932),.inBlock 1,.code (C_95 467),.inLoop (C_95 116),.inBlock 0,.code (C_95 15)] ?_
  obtain ⟨c2,h⟩:=ifSome h
  obtain ⟨rMulRat2,hr4,h⟩:=bindSome h
  obtain ⟨rAddRat2,hr5,h⟩:=bindSome h
  refine Runs.sR hE ⟨[(0,(encL TRat.cells TRat.d d)),(3,(.op 0 0 0)),(4,(.op 16 0 0)),(5,(.op 48 0 0)),(6,(aI 1))],[(0,vO 12 (TS__3_api_Rat.cells p)),(16,vO 4 [(aB false),.nil,(aB false),.nil]),(48,vO 4 (TRat.cells rAddRat2))],560⟩ (C_95 932) [(8,⟨[],true,(.agg (TRat.cells rMulRat2)),[],0,false,none⟩),(9,⟨[],true,(.agg (TRat.cells rAddRat2)),[],0,false,none⟩)] [] (kp [0,3,4,5,6]) (kq [0,16,48]) 560 [0 < 1,0≤(1:Int)∧1 < ((d.length:Nat):Int),0≤(1:Int)∧(1:Int) < 3,0 < 1,Sound Try.prog 60 [(.agg [(aB (((d.getD 1 TRat.d).f_Num).f_Neg)),(encL (cU .u16) 0 (((d.getD 1 TRat.d).f_Num).f_Limbs)),(aB (((d.getD 1 TRat.d).f_Den).f_Neg)),(encL (cU .u16) 0 (((d.getD 1 TRat.d).f_Den).f_Limbs))]),(.agg (TRat.cells p.e1))] [] 0 (.agg (TRat.cells rMulRat2)) [],Sound Try.prog 59 [(.agg (TRat.cells rAddRat)),(.agg (TRat.cells rMulRat2))] [] 0 (.agg (TRat.cells rAddRat2)) [],0 < 1] ⟨o1,c2,(by decide),o1,(g_r01_MulRat_ok N (⟨((d.getD 1 TRat.d).f_Num),((d.getD 1 TRat.d).f_Den)⟩:TRat) p.e1 rMulRat2 hr4),(g_r01_AddRat_ok N rAddRat rMulRat2 rAddRat2 hr5),o1,trivial⟩ ?_
  refine Runs.sA 1 [.code (C_95 467),.inLoop (C_95 116),.inBlock 0,.code (C_95 15)] ?_
  refine Runs.sR hE ⟨[(0,(encL TRat.cells TRat.d d)),(3,(.op 0 0 0)),(4,(.op 16 0 0)),(5,(.op 48 0 0)),(6,(aI 2))],[(0,vO 12 (TS__3_api_Rat.cells p)),(16,vO 4 [(aB false),.nil,(aB false),.nil]),(48,vO 4 (TRat.cells rAddRat2))],608⟩ (C_95 467) [] [] (kp [0,3,4,5,6]) (kq [0,16,48]) 608 [] trivial ?_
  refine Runs.sA 3 [.code (C_95 464),.code (C_95 465),.code (C_95 233),.inLoop (C_95 116),.inBlock 0,.code (C_95 15)] ?_
  refine Runs.sR hE ⟨[(0,(encL TRat.cells TRat.d d)),(3,(.op 0 0 0)),(4,(.op 16 0 0)),(5,(.op 48 0 0)),(6,(aI 2)),(9,(aB true))],[(0,vO 12 (TS__3_api_Rat.cells p)),(16,vO 4 [(aB false),.nil,(aB false),.nil]),(48,vO 4 (TRat.cells rAddRat2))],640⟩ (C_95 464) [] [] (kp [0,3,4,5,6,9]) (kq [0,16,48]) 640 [] trivial ?_
  refine Runs.sC 9 (C_95 930) (C_95 931) true (fun _=>?_) (fun hq=>absurd hq (by decide)) 
  refine Runs.sA 3 [.code (C_95 932),.inBlock 1,.code (C_95 467),.inLoop (C_95 116),.inBlock 0,.code (C_95 15)] ?_
  obtain ⟨c3,h⟩:=ifSome h
  obtain ⟨rMulRat3,hr6,h⟩:=bindSome h
  obtain ⟨rAddRat3,hr7,h⟩:=bindSome h
  refine Runs.sR hE ⟨[(0,(encL TRat.cells TRat.d d)),(3,(.op 0 0 0)),(4,(.op 16 0 0)),(5,(.op 48 0 0)),(6,(aI 2))],[(0,vO 12 (TS__3_api_Rat.cells p)),(16,vO 4 [(aB false),.nil,(aB false),.nil]),(48,vO 4 (TRat.cells rAddRat3))],816⟩ (C_95 932) [(8,⟨[],true,(.agg (TRat.cells rMulRat3)),[],0,false,none⟩),(9,⟨[],true,(.agg (TRat.cells rAddRat3)),[],0,false,none⟩)] [] (kp [0,3,4,5,6]) (kq [0,16,48]) 816 [0 < 1,0≤(2:Int)∧2 < ((d.length:Nat):Int),0≤(2:Int)∧(2:Int) < 3,0 < 1,Sound Try.prog 60 [(.agg [(aB (((d.getD 2 TRat.d).f_Num).f_Neg)),(encL (cU .u16) 0 (((d.getD 2 TRat.d).f_Num).f_Limbs)),(aB (((d.getD 2 TRat.d).f_Den).f_Neg)),(encL (cU .u16) 0 (((d.getD 2 TRat.d).f_Den).f_Limbs))]),(.agg (TRat.cells p.e2))] [] 0 (.agg (TRat.cells rMulRat3)) [],Sound Try.prog 59 [(.agg (TRat.cells rAddRat2)),(.agg (TRat.cells rMulRat3))] [] 0 (.agg (TRat.cells rAddRat3)) [],0 < 1] ⟨o1,c3,(by decide),o1,(g_r01_MulRat_ok N (⟨((d.getD 2 TRat.d).f_Num),((d.getD 2 TRat.d).f_Den)⟩:TRat) p.e2 rMulRat3 hr6),(g_r01_AddRat_ok N rAddRat2 rMulRat3 rAddRat3 hr7),o1,trivial⟩ ?_
  refine Runs.sA 1 [.code (C_95 467),.inLoop (C_95 116),.inBlock 0,.code (C_95 15)] ?_
  refine Runs.sR hE ⟨[(0,(encL TRat.cells TRat.d d)),(3,(.op 0 0 0)),(4,(.op 16 0 0)),(5,(.op 48 0 0)),(6,(aI 3))],[(0,vO 12 (TS__3_api_Rat.cells p)),(16,vO 4 [(aB false),.nil,(aB false),.nil]),(48,vO 4 (TRat.cells rAddRat3))],864⟩ (C_95 467) [] [] (kp [0,3,4,5,6]) (kq [0,16,48]) 864 [] trivial ?_
  refine Runs.sA 3 [.code (C_95 464),.code (C_95 465),.code (C_95 233),.inLoop (C_95 116),.inBlock 0,.code (C_95 15)] ?_
  refine Runs.sR hE ⟨[(0,(encL TRat.cells TRat.d d)),(3,(.op 0 0 0)),(4,(.op 16 0 0)),(5,(.op 48 0 0)),(6,(aI 3)),(9,(aB false))],[(0,vO 12 (TS__3_api_Rat.cells p)),(16,vO 4 [(aB false),.nil,(aB false),.nil]),(48,vO 4 (TRat.cells rAddRat3))],896⟩ (C_95 464) [] [] (kp [0,3,4,5,6,9]) (kq [0,16,48]) 896 [] trivial ?_
  refine Runs.sC 9 (C_95 930) (C_95 931) false (fun hq=>absurd hq (by decide)) (fun _=>?_) 
  refine Runs.sA 2 [.code (C_95 30),.code (C_95 31)] ?_
  refine Runs.sR hE ⟨[(4,(.op 16 0 0))],[(16,vO 4 (TRat.cells rAddRat3))],928⟩ (C_95 30) [] [] (kp [4]) (kq [16]) 928 [0 < 1,0 < 1] ⟨o1,o1,trivial⟩ ?_
  obtain rfl:=Option.some.inj h
  refine Runs.sW hE ⟨[(4,(.op 16 0 0))],[(16,vO 4 (TRat.cells rAddRat3))],928⟩ [] (kp [4]) (kq [16]) 928 [] trivial ?_
  exact Runs.sT Try.f61 [16] [0 < 1] ⟨o1,trivial⟩
noncomputable def C_94 (n:Nat):Code:=cat (bodyOf Try.f25) (pth n)
theorem g_r06_Refuted_J2_ok (N:Nat) (l:List TLine) (d:List TRat) (i:Int) (K_g_r06_Refuted_L1:TRat→Int→Option (Bool))
    (hK_g_r06_Refuted_L1:∀ (sum:TRat) (i:Int) (r:Bool),K_g_r06_Refuted_L1 sum i = some r→∀ E,EnvOk E 0→Runs Try.prog E 25 36 (SPost E [] (aB r)) [.code (C_94 116),.inLoop (C_94 116),.inBlock 0,.code (C_94 15)] ⟨[(0,(encL TLine.cells TLine.d l)),(2,(encL TRat.cells TRat.d d)),(7,(.op 0 0 0)),(8,(aI i))],[(0,vO 4 (TRat.cells sum))],1⟩) (sum2:TRat) (r:Bool) (h:g_r06_Refuted_J2 N l d i K_g_r06_Refuted_L1 sum2 = some r):∀ E,EnvOk E 0→Runs Try.prog E 25 36 (SPost E [] (aB r)) [.code (C_94 467),.inLoop (C_94 116),.inBlock 0,.code (C_94 15)] ⟨[(0,(encL TLine.cells TLine.d l)),(2,(encL TRat.cells TRat.d d)),(7,(.op 0 0 0)),(8,(aI i))],[(0,vO 4 (TRat.cells sum2))],1⟩:=by
  intro E hE
  unfold g_r06_Refuted_J2 at h
  refine Runs.sR hE ⟨[(0,(encL TLine.cells TLine.d l)),(2,(encL TRat.cells TRat.d d)),(7,(.op 0 0 0)),(8,(aI (w64 (i+1))))],[(0,vO 4 (TRat.cells sum2))],49⟩ (C_94 467) [] [] (kp [0,2,7,8]) (kq [0]) 49 [] trivial ?_
  refine Runs.sA 1 [.code (C_94 116),.inLoop (C_94 116),.inBlock 0,.code (C_94 15)] ?_
  exact Runs.sW hE _ [] (kp [0,2,7,8]) (kq [0]) 1 [] trivial (hK_g_r06_Refuted_L1 sum2 (w64 (i+1)) _ h E hE)
theorem g_r06_Refuted_L1_ok (N:Nat) (l:List TLine) (d:List TRat) (fuel:Nat):∀ (sum:TRat) (i:Int) (r:Bool),g_r06_Refuted_L1 N l d fuel sum i = some r→∀ E,EnvOk E 0→Runs Try.prog E 25 36 (SPost E [] (aB r)) [.code (C_94 116),.inLoop (C_94 116),.inBlock 0,.code (C_94 15)] ⟨[(0,(encL TLine.cells TLine.d l)),(2,(encL TRat.cells TRat.d d)),(7,(.op 0 0 0)),(8,(aI i))],[(0,vO 4 (TRat.cells sum))],1⟩:=by
  induction fuel with
  | zero=>intro _ _ r h; rw [g_r06_Refuted_L1.eq_1] at h; cases h
  | succ fuel ih =>
    intro sum i r h E hE
    rw [g_r06_Refuted_L1.eq_2] at h
    refine Runs.sA 2 [.code (C_94 464),.code (C_94 465),.code (C_94 233),.inLoop (C_94 116),.inBlock 0,.code (C_94 15)] ?_
    refine Runs.sR hE ⟨[(0,(encL TLine.cells TLine.d l)),(2,(encL TRat.cells TRat.d d)),(7,(.op 0 0 0)),(8,(aI i)),(17,(aB (decide (i < ((l.length:Nat):Int)))))],[(0,vO 4 (TRat.cells sum))],65⟩ (C_94 464) [] [] (kp [0,2,7,8,17]) (kq [0]) 65 [] trivial ?_
    refine Runs.sC 17 (C_94 930) (C_94 931) (decide (i < ((l.length:Nat):Int))) (fun hq2=>?_) (fun hq2=>?_)
    · have h:=condT h hq2
      refine Runs.sA 4 [.code (C_94 1864),.code (C_94 1865),.inBlock 1,.code (C_94 467),.inLoop (C_94 116),.inBlock 0,.code (C_94 15)] ?_
      obtain ⟨c,h⟩:=ifSome h
      obtain ⟨rPull,hr3,h⟩:=bindSome h
      obtain ⟨ralong2,hr4,h⟩:=bindSome h
      refine Runs.sR hE ⟨[(0,(encL TLine.cells TLine.d l)),(2,(encL TRat.cells TRat.d d)),(7,(.op 0 0 0)),(8,(aI i)),(9,(.op 177 0 0))],[(0,vO 4 (TRat.cells sum)),(177,vO 4 (TRat.cells ralong2))],209⟩ (C_94 1864) [(5,⟨[],true,(.agg (TS__3_api_Rat.cells rPull)),[],0,false,none⟩),(6,⟨[],true,(.agg (TRat.cells ralong2)),[],0,false,none⟩)] [] (kp [0,2,7,8,9]) (kq [0,177]) 209 [0≤i∧i < ((l.length:Nat):Int),Sound Try.prog 58 [(.agg (TLine.cells (l.getD ((i).toNat) TLine.d)))] [] 0 (.agg (TS__3_api_Rat.cells rPull)) [],Sound Try.prog 61 [(encL TRat.cells TRat.d d),(.agg (TS__3_api_Rat.cells rPull))] [] 0 (.agg (TRat.cells ralong2)) [],0 < 1] ⟨c,(g_r06_Pull_ok N (l.getD ((i).toNat) TLine.d) rPull hr3),(g_r06_along_ok N d rPull ralong2 hr4),o1,trivial⟩ ?_
      refine Runs.sA 1 [.code (C_94 3730),.code (C_94 3731),.inBlock 1,.code (C_94 467),.inLoop (C_94 116),.inBlock 0,.code (C_94 15)] ?_
      obtain ⟨rSignRat,hr5,h⟩:=bindSome h
      refine Runs.sR hE ⟨[(0,(encL TLine.cells TLine.d l)),(2,(encL TRat.cells TRat.d d)),(7,(.op 0 0 0)),(8,(aI i)),(9,(.op 177 0 0)),(29,(aB (decide (rSignRat > 0))))],[(0,vO 4 (TRat.cells sum)),(177,vO 4 (TRat.cells ralong2))],257⟩ (C_94 3730) [(1,⟨[],true,(aI rSignRat),[],0,false,none⟩)] [] (kp [0,2,7,8,9,29]) (kq [0,177]) 257 [0 < 1,Sound Try.prog 55 [(.agg (TRat.cells ralong2))] [] 0 (aI rSignRat) []] ⟨o1,(g_r01_SignRat_ok N ralong2 rSignRat hr5),trivial⟩ ?_
      refine Runs.sC 29 (C_94 7462) (C_94 7463) (decide (rSignRat > 0)) (fun hq3=>?_) (fun hq3=>?_)
      · have h:=condT h hq3
        obtain ⟨rAddRat,hr6,h⟩:=bindSome h
        refine Runs.sR hE ⟨[(0,(encL TLine.cells TLine.d l)),(2,(encL TRat.cells TRat.d d)),(7,(.op 0 0 0)),(8,(aI i))],[(0,vO 4 (TRat.cells rAddRat))],321⟩ (C_94 7462) [(2,⟨[],true,(.agg (TRat.cells rAddRat)),[],0,false,none⟩)] [] (kp [0,2,7,8]) (kq [0]) 321 [0 < 1,0 < 1,Sound Try.prog 59 [(.agg (TRat.cells sum)),(.agg (TRat.cells ralong2))] [] 0 (.agg (TRat.cells rAddRat)) [],0 < 1] ⟨o1,o1,(g_r01_AddRat_ok N sum ralong2 rAddRat hr6),o1,trivial⟩ ?_
        refine Runs.sA 1 [.code (C_94 467),.inLoop (C_94 116),.inBlock 0,.code (C_94 15)] ?_
        exact Runs.sW hE _ [] (kp [0,2,7,8]) (kq [0]) 1 [] trivial (g_r06_Refuted_J2_ok N l d i (g_r06_Refuted_L1 N l d fuel) ih rAddRat _ h E hE)
      · have h:=condF h hq3
        refine Runs.sA 2 [.code (C_94 467),.inLoop (C_94 116),.inBlock 0,.code (C_94 15)] ?_
        exact Runs.sW hE _ [] (kp [0,2,7,8]) (kq [0]) 1 [] trivial (g_r06_Refuted_J2_ok N l d i (g_r06_Refuted_L1 N l d fuel) ih sum _ h E hE)
    · have h:=condF h hq2
      refine Runs.sA 2 [.code (C_94 30),.code (C_94 31)] ?_
      obtain ⟨rSignRat2,hr7,h⟩:=bindSome h
      refine Runs.sR hE ⟨[(6,(aB (decide (rSignRat2 < 0))))],[],129⟩ (C_94 30) [(1,⟨[],true,(aI rSignRat2),[],0,false,none⟩)] [] (kp [6]) [] 129 [0 < 1,Sound Try.prog 55 [(.agg (TRat.cells sum))] [] 0 (aI rSignRat2) []] ⟨o1,(g_r01_SignRat_ok N sum rSignRat2 hr7),trivial⟩ ?_
      obtain rfl:=Option.some.inj h
      refine Runs.sW hE ⟨[(6,(aB (decide (rSignRat2 < 0))))],[],129⟩ [] (kp [6]) [] 129 [] trivial ?_
      exact Runs.sT Try.f25 [] [] trivial
theorem g_r06_Refuted_ok (N:Nat) (l:List TLine) (w:TWind) (d:List TRat) (r:Bool) (h:g_r06_Refuted N l w d = some r):Sound Try.prog 25 [(encL TLine.cells TLine.d l),(.agg (TWind.cells w)),(encL TRat.cells TRat.d d)] [] 0 (aB r) []:=by
  unfold g_r06_Refuted at h
  refine Sound.of_runs (fu:=Try.f25) (c:=C_94 1) (nt:=36) (by kernel_rfl) (by kernel_rfl) (by kernel_rfl) (by kernel_rfl) (fun hm=>rfl) ?_
  intro E hE
  refine Runs.sA 1 [.code (C_94 2),.code (C_94 3)] ?_
  refine Runs.sR hE ⟨[(0,(encL TLine.cells TLine.d l)),(2,(encL TRat.cells TRat.d d)),(4,(.op 0 0 0))],[(0,vO 3 (TWind.cells w))],32⟩ (C_94 2) [] [] (kp [0,2,4]) (kq [0]) 32 [] trivial ?_
  refine Runs.sA 1 [.code (C_94 6),.code (C_94 7)] ?_
  obtain ⟨rthree,hr,h⟩:=bindSome h
  obtain ⟨ralong,hr2,h⟩:=bindSome h
  refine Runs.sR hE ⟨[(0,(encL TLine.cells TLine.d l)),(2,(encL TRat.cells TRat.d d)),(7,(.op 96 0 0))],[(96,vO 4 (TRat.cells ralong))],128⟩ (C_94 6) [(2,⟨[],true,(.agg (TS__3_api_Rat.cells rthree)),[],0,false,none⟩),(3,⟨[],true,(.agg (TRat.cells ralong)),[],0,false,none⟩)] [] (kp [0,2,7]) (kq [96]) 128 [0 < 1,Sound Try.prog 54 [(.agg (TWind.cells w))] [] 0 (.agg (TS__3_api_Rat.cells rthree)) [],Sound Try.prog 61 [(encL TRat.cells TRat.d d),(.agg (TS__3_api_Rat.cells rthree))] [] 0 (.agg (TRat.cells ralong)) [],0 < 1] ⟨o1,(g_r06_three_ok N w rthree hr),(g_r06_along_ok N d rthree ralong hr2),o1,trivial⟩ ?_
  refine Runs.sA 2 [.code (C_94 28),.code (C_94 29),.code (C_94 15)] ?_
  refine Runs.sR hE ⟨[(0,(encL TLine.cells TLine.d l)),(2,(encL TRat.cells TRat.d d)),(7,(.op 96 0 0)),(8,(aI 0))],[(96,vO 4 (TRat.cells ralong))],144⟩ (C_94 28) [] [] (kp [0,2,7,8]) (kq [96]) 144 [] trivial ?_
  refine Runs.sA 2 [.code (C_94 116),.inLoop (C_94 116),.inBlock 0,.code (C_94 15)] ?_
  exact Runs.sW hE _ [] (kp [0,2,7,8]) [(0,.keep 96)] 1 [] trivial (g_r06_Refuted_L1_ok N l d N ralong 0 _ h E hE)
noncomputable def C_59 (n:Nat):Code:=cat (bodyOf Try.f9) (pth n)
theorem g_r06_CheckMooring_ok (N:Nat) (l:List TLine) (w:TWind) (m:TMooring) (r:Int) (h:g_r06_CheckMooring N l w m = some r):Sound Try.prog 9 [(encL TLine.cells TLine.d l),(.agg (TWind.cells w)),(.agg (TMooring.cells m))] [] 0 (aI r) []:=by
  unfold g_r06_CheckMooring at h
  refine Sound.of_runs (fu:=Try.f9) (c:=C_59 1) (nt:=43) (by kernel_rfl) (by kernel_rfl) (by kernel_rfl) (by kernel_rfl) (fun hm=>rfl) ?_
  intro E hE
  refine Runs.sA 1 [.code (C_59 2),.code (C_59 3)] ?_
  refine Runs.sR hE ⟨[(0,(encL TLine.cells TLine.d l)),(4,(.op 0 0 0)),(5,(.op 16 0 0))],[(0,vO 3 (TWind.cells w)),(16,vO 3 (TMooring.cells m))],48⟩ (C_59 2) [] [] (kp [0,4,5]) (kq [0,16]) 48 [] trivial ?_
  refine Runs.sA 2 [.code (C_59 12),.code (C_59 13),.code (C_59 7)] ?_
  obtain ⟨rCheckLines,hr,h⟩:=bindSome h
  refine Runs.sR hE ⟨[(0,(encL TLine.cells TLine.d l)),(4,(.op 0 0 0)),(5,(.op 16 0 0)),(7,(aI rCheckLines))],[(0,vO 3 (TWind.cells w)),(16,vO 3 (TMooring.cells m))],96⟩ (C_59 12) [(1,⟨[],true,(aI rCheckLines),[],0,false,none⟩)] [] (kp [0,4,5,7]) (kq [0,16]) 96 [Sound Try.prog 22 [(encL TLine.cells TLine.d l)] [] 0 (aI rCheckLines) []] ⟨(g_r06_CheckLines_ok N l rCheckLines hr),trivial⟩ ?_
  refine Runs.sA 1 [.code (C_59 26),.code (C_59 27),.code (C_59 7)] ?_
  refine Runs.sR hE ⟨[(0,(encL TLine.cells TLine.d l)),(4,(.op 0 0 0)),(5,(.op 16 0 0)),(7,(aI rCheckLines)),(12,(aB (rCheckLines != 0)))],[(0,vO 3 (TWind.cells w)),(16,vO 3 (TMooring.cells m))],128⟩ (C_59 26) [] [] (kp [0,4,5,7,12]) (kq [0,16]) 128 [] trivial ?_
  refine Runs.sC 12 (C_59 54) (C_59 55) (rCheckLines != 0) (fun hq2=>?_) (fun hq2=>?_)
  · have h:=condT h hq2
    refine Runs.sA 1 [.code (C_59 108),.code (C_59 109),.code (C_59 7)] ?_
    refine Runs.sR hE ⟨[(6,(aI rCheckLines))],[],160⟩ (C_59 108) [] [] (kp [6]) [] 160 [] trivial ?_
    obtain rfl:=Option.some.inj h
    refine Runs.sW hE ⟨[(6,(aI rCheckLines))],[],160⟩ [] (kp [6]) [] 160 [] trivial ?_
    exact Runs.sT Try.f9 [] [] trivial
  · have h:=condF h hq2
    refine Runs.sA 3 [.code (C_59 28),.code (C_59 29),.code (C_59 15)] ?_
    obtain ⟨rCheckWind,hr2,h⟩:=bindSome h
    refine Runs.sR hE ⟨[(0,(encL TLine.cells TLine.d l)),(4,(.op 0 0 0)),(5,(.op 16 0 0)),(8,(aI rCheckWind))],[(0,vO 3 (TWind.cells w)),(16,vO 3 (TMooring.cells m))],176⟩ (C_59 28) [(1,⟨[],true,(aI rCheckWind),[],0,false,none⟩)] [] (kp [0,4,5,8]) (kq [0,16]) 176 [0 < 1,Sound Try.prog 23 [(.agg (TWind.cells w))] [] 0 (aI rCheckWind) []] ⟨o1,(g_r06_CheckWind_ok N w rCheckWind hr2),trivial⟩ ?_
    refine Runs.sA 1 [.code (C_59 58),.code (C_59 59),.code (C_59 15)] ?_
    refine Runs.sR hE ⟨[(0,(encL TLine.cells TLine.d l)),(4,(.op 0 0 0)),(5,(.op 16 0 0)),(8,(aI rCheckWind)),(17,(aB (rCheckWind != 0)))],[(0,vO 3 (TWind.cells w)),(16,vO 3 (TMooring.cells m))],208⟩ (C_59 58) [] [] (kp [0,4,5,8,17]) (kq [0,16]) 208 [] trivial ?_
    refine Runs.sC 17 (C_59 118) (C_59 119) (rCheckWind != 0) (fun hq3=>?_) (fun hq3=>?_)
    · have h:=condT h hq3
      refine Runs.sA 1 [.code (C_59 236),.code (C_59 237),.code (C_59 15)] ?_
      refine Runs.sR hE ⟨[(6,(aI rCheckWind))],[],240⟩ (C_59 236) [] [] (kp [6]) [] 240 [] trivial ?_
      obtain rfl:=Option.some.inj h
      refine Runs.sW hE ⟨[(6,(aI rCheckWind))],[],240⟩ [] (kp [6]) [] 240 [] trivial ?_
      exact Runs.sT Try.f9 [] [] trivial
    · have h:=condF h hq3
      refine Runs.sA 3 [.code (C_59 60),.code (C_59 61),.code (C_59 31)] ?_
      refine Runs.sR hE ⟨[(0,(encL TLine.cells TLine.d l)),(4,(.op 0 0 0)),(5,(.op 16 0 0)),(20,(aB m.f_Holds))],[(0,vO 3 (TWind.cells w)),(16,vO 3 (TMooring.cells m))],240⟩ (C_59 60) [] [] (kp [0,4,5,20]) (kq [0,16]) 240 [0 < 1] ⟨o1,trivial⟩ ?_
      refine Runs.sC 20 (C_59 122) (C_59 123) m.f_Holds (fun hq4=>?_) (fun hq4=>?_)
      · have h:=condT h hq4
        refine Runs.sA 2 [.code (C_59 488),.code (C_59 489),.code (C_59 245),.code (C_59 31)] ?_
        refine Runs.sR hE ⟨[(0,(encL TLine.cells TLine.d l)),(4,(.op 0 0 0)),(5,(.op 16 0 0)),(26,(aB (((m.f_Parts.length:Nat):Int) != ((l.length:Nat):Int))))],[(0,vO 3 (TWind.cells w)),(16,vO 3 (TMooring.cells m))],336⟩ (C_59 488) [] [] (kp [0,4,5,26]) (kq [0,16]) 336 [0 < 1] ⟨o1,trivial⟩ ?_
        refine Runs.sC 26 (C_59 978) (C_59 979) (((m.f_Parts.length:Nat):Int) != ((l.length:Nat):Int)) (fun hq5=>?_) (fun hq5=>?_)
        · have h:=condT h hq5
          refine Runs.sA 1 [.code (C_59 1956),.code (C_59 1957),.code (C_59 245),.code (C_59 31)] ?_
          refine Runs.sR hE ⟨[(6,(aI 11))],[],352⟩ (C_59 1956) [] [] (kp [6]) [] 352 [] trivial ?_
          obtain rfl:=Option.some.inj h
          refine Runs.sW hE ⟨[(6,(aI 11))],[],352⟩ [] (kp [6]) [] 352 [] trivial ?_
          exact Runs.sT Try.f9 [] [] trivial
        · have h:=condF h hq5
          refine Runs.sA 3 [.code (C_59 980),.code (C_59 981),.code (C_59 491),.code (C_59 31)] ?_
          obtain ⟨rBalanced,hr3,h⟩:=bindSome h
          refine Runs.sR hE ⟨[(32,(aB (!rBalanced)))],[],432⟩ (C_59 980) [(4,⟨[],true,(aB rBalanced),[],0,false,none⟩)] [] (kp [32]) [] 432 [0 < 1,0 < 1,Sound Try.prog 24 [(encL TLine.cells TLine.d l),(.agg (TWind.cells w)),(encL TRat.cells TRat.d m.f_Parts)] [] 0 (aB rBalanced) []] ⟨o1,o1,(g_r06_Balanced_ok N l w m.f_Parts rBalanced hr3),trivial⟩ ?_
          refine Runs.sC 32 (C_59 1962) (C_59 1963) (!rBalanced) (fun hq6=>?_) (fun hq6=>?_)
          · have h:=condT h hq6
            refine Runs.sA 1 [.code (C_59 3924),.code (C_59 3925),.code (C_59 491),.code (C_59 31)] ?_
            refine Runs.sR hE ⟨[(6,(aI 24))],[],448⟩ (C_59 3924) [] [] (kp [6]) [] 448 [] trivial ?_
            obtain rfl:=Option.some.inj h
            refine Runs.sW hE ⟨[(6,(aI 24))],[],448⟩ [] (kp [6]) [] 448 [] trivial ?_
            exact Runs.sT Try.f9 [] [] trivial
          · have h:=condF h hq6
            refine Runs.sA 2 [.code (C_59 982),.code (C_59 983),.code (C_59 31)] ?_
            refine Runs.sR hE ⟨[(6,(aI 0))],[],448⟩ (C_59 982) [] [] (kp [6]) [] 448 [] trivial ?_
            obtain rfl:=Option.some.inj h
            refine Runs.sW hE ⟨[(6,(aI 0))],[],448⟩ [] (kp [6]) [] 448 [] trivial ?_
            exact Runs.sT Try.f9 [] [] trivial
      · have h:=condF h hq4
        refine Runs.sA 3 [.code (C_59 124),.code (C_59 125),.code (C_59 63)] ?_
        refine Runs.sR hE ⟨[(0,(encL TLine.cells TLine.d l)),(4,(.op 0 0 0)),(5,(.op 16 0 0)),(36,(aB (((m.f_Proof.length:Nat):Int) != 3)))],[(0,vO 3 (TWind.cells w)),(16,vO 3 (TMooring.cells m))],304⟩ (C_59 124) [] [] (kp [0,4,5,36]) (kq [0,16]) 304 [0 < 1] ⟨o1,trivial⟩ ?_
        refine Runs.sC 36 (C_59 250) (C_59 251) (((m.f_Proof.length:Nat):Int) != 3) (fun hq7=>?_) (fun hq7=>?_)
        · have h:=condT h hq7
          refine Runs.sA 1 [.code (C_59 500),.code (C_59 501),.code (C_59 63)] ?_
          refine Runs.sR hE ⟨[(6,(aI 11))],[],320⟩ (C_59 500) [] [] (kp [6]) [] 320 [] trivial ?_
          obtain rfl:=Option.some.inj h
          refine Runs.sW hE ⟨[(6,(aI 11))],[],320⟩ [] (kp [6]) [] 320 [] trivial ?_
          exact Runs.sT Try.f9 [] [] trivial
        · have h:=condF h hq7
          refine Runs.sA 3 [.code (C_59 252),.code (C_59 253),.code (C_59 127)] ?_
          obtain ⟨rRefuted,hr4,h⟩:=bindSome h
          refine Runs.sR hE ⟨[(42,(aB (!rRefuted)))],[],400⟩ (C_59 252) [(4,⟨[],true,(aB rRefuted),[],0,false,none⟩)] [] (kp [42]) [] 400 [0 < 1,0 < 1,Sound Try.prog 25 [(encL TLine.cells TLine.d l),(.agg (TWind.cells w)),(encL TRat.cells TRat.d m.f_Proof)] [] 0 (aB rRefuted) []] ⟨o1,o1,(g_r06_Refuted_ok N l w m.f_Proof rRefuted hr4),trivial⟩ ?_
          refine Runs.sC 42 (C_59 506) (C_59 507) (!rRefuted) (fun hq8=>?_) (fun hq8=>?_)
          · have h:=condT h hq8
            refine Runs.sA 1 [.code (C_59 1012),.code (C_59 1013),.code (C_59 127)] ?_
            refine Runs.sR hE ⟨[(6,(aI 24))],[],416⟩ (C_59 1012) [] [] (kp [6]) [] 416 [] trivial ?_
            obtain rfl:=Option.some.inj h
            refine Runs.sW hE ⟨[(6,(aI 24))],[],416⟩ [] (kp [6]) [] 416 [] trivial ?_
            exact Runs.sT Try.f9 [] [] trivial
          · have h:=condF h hq8
            refine Runs.sA 2 [.code (C_59 254),.code (C_59 255)] ?_
            refine Runs.sR hE ⟨[(6,(aI 0))],[],416⟩ (C_59 254) [] [] (kp [6]) [] 416 [] trivial ?_
            obtain rfl:=Option.some.inj h
            refine Runs.sW hE ⟨[(6,(aI 0))],[],416⟩ [] (kp [6]) [] 416 [] trivial ?_
            exact Runs.sT Try.f9 [] [] trivial
noncomputable def C_0 (n:Nat):Code:=cat (bodyOf Try.f3) (pth n)
theorem g_w06_BerthMoorings_ok (N:Nat) (l:List TLine) (w:TWind) (m:TMooring) (r:Bool) (h:g_w06_BerthMoorings N l w m = some r):Sound Try.prog 3 [(encL TLine.cells TLine.d l),(.agg (TWind.cells w)),(.agg (TMooring.cells m))] [] 0 (aB r) []:=by
  unfold g_w06_BerthMoorings at h
  refine Sound.of_runs (fu:=Try.f3) (c:=C_0 1) (nt:=26) (by kernel_rfl) (by kernel_rfl) (by kernel_rfl) (by kernel_rfl) (fun hm=>rfl) ?_
  intro E hE
  refine Runs.sA 1 [.code (C_0 2),.code (C_0 3)] ?_
  refine Runs.sR hE ⟨[(0,(encL TLine.cells TLine.d l)),(4,(.op 0 0 0)),(5,(.op 16 0 0))],[(0,vO 3 (TWind.cells w)),(16,vO 3 (TMooring.cells m))],48⟩ (C_0 2) [] [] (kp [0,4,5]) (kq [0,16]) 48 [] trivial ?_
  refine Runs.sA 2 [.code (C_0 12),.code (C_0 13),.code (C_0 7)] ?_
  obtain ⟨rspans,hr,h⟩:=bindSome h
  refine Runs.sR hE ⟨[(0,(encL TLine.cells TLine.d l)),(4,(.op 0 0 0)),(5,(.op 16 0 0)),(8,(aB (!rspans)))],[(0,vO 3 (TWind.cells w)),(16,vO 3 (TMooring.cells m))],80⟩ (C_0 12) [(0,⟨[],true,(aB rspans),[],0,false,none⟩)] [] (kp [0,4,5,8]) (kq [0,16]) 80 [Sound Try.prog 5 [] [] 0 (aB rspans) []] ⟨(g_w06_spans_ok N rspans hr),trivial⟩ ?_
  refine Runs.sC 8 (C_0 26) (C_0 27) (!rspans) (fun hq2=>?_) (fun hq2=>?_)
  · have h:=condT h hq2
    refine Runs.sA 1 [.code (C_0 52),.code (C_0 53),.code (C_0 7)] ?_
    refine Runs.sR hE ⟨[(6,(aB false))],[],96⟩ (C_0 52) [] [] (kp [6]) [] 96 [] trivial ?_
    obtain rfl:=Option.some.inj h
    refine Runs.sW hE ⟨[(6,(aB false))],[],96⟩ [] (kp [6]) [] 96 [] trivial ?_
    exact Runs.sT Try.f3 [] [] trivial
  · have h:=condF h hq2
    refine Runs.sA 3 [.code (C_0 28),.code (C_0 29),.code (C_0 15)] ?_
    obtain ⟨rslack,hr2,h⟩:=bindSome h
    obtain ⟨rflat,hr3,h⟩:=bindSome h
    refine Runs.sR hE ⟨[(0,(encL TLine.cells TLine.d l)),(4,(.op 0 0 0)),(5,(.op 16 0 0)),(16,(aB (cond (!rslack) true (!rflat))))],[(0,vO 3 (TWind.cells w)),(16,vO 3 (TMooring.cells m))],208⟩ (C_0 28) [(1,⟨[],true,(aB rslack),[],0,false,none⟩),(5,⟨[],true,(aB rflat),[],0,false,none⟩)] [] (kp [0,4,5,16]) (kq [0,16]) 208 [Sound Try.prog 6 [(encL TLine.cells TLine.d l)] [] 0 (aB rslack) [],(!(!rslack)) = true→AllP [0 < 1],(!(!rslack)) = true→AllP [Sound Try.prog 7 [(.agg (TMooring.cells m))] [] 0 (aB rflat) [],(!(!rslack)) = true],(!(!rslack)) = true→AllP [(!(!rslack)) = true],(!(!rslack)) = true→AllP [(!(!rslack)) = true]] ⟨(g_w06_slack_ok N l rslack hr2),(fun hg=>⟨o1,trivial⟩),(fun hg=>⟨(g_w06_flat_ok N m rflat (condT hr3 hg)),hg,trivial⟩),(fun hg=>⟨hg,trivial⟩),(fun hq=>⟨hq,trivial⟩),trivial⟩ ?_
    refine Runs.sC 16 (C_0 58) (C_0 59) (cond (!rslack) true (!rflat)) (fun hq3=>?_) (fun hq3=>?_)
    · have h:=condT h hq3
      refine Runs.sA 1 [.code (C_0 116),.code (C_0 117),.code (C_0 15)] ?_
      refine Runs.sR hE ⟨[(6,(aB true))],[],224⟩ (C_0 116) [] [] (kp [6]) [] 224 [] trivial ?_
      obtain rfl:=Option.some.inj h
      refine Runs.sW hE ⟨[(6,(aB true))],[],224⟩ [] (kp [6]) [] 224 [] trivial ?_
      exact Runs.sT Try.f3 [] [] trivial
    · have h:=condF h hq3
      refine Runs.sA 2 [.code (C_0 30),.code (C_0 31)] ?_
      obtain ⟨rCheckMooring,hr4,h⟩:=bindSome h
      obtain ⟨rCheckMooring2,hr5,h⟩:=bindSome h
      refine Runs.sR hE ⟨[(6,(aB (rCheckMooring == rCheckMooring2)))],[],368⟩ (C_0 30) [(3,⟨[],true,(aI rCheckMooring),[],0,false,none⟩),(7,⟨[],true,(aI rCheckMooring2),[],0,false,none⟩)] [] (kp [6]) [] 368 [0 < 1,0 < 1,Sound Try.prog 8 [(encL TLine.cells TLine.d l),(.agg (TWind.cells w)),(.agg (TMooring.cells m))] [] 0 (aI rCheckMooring) [],0 < 1,0 < 1,Sound Try.prog 9 [(encL TLine.cells TLine.d l),(.agg (TWind.cells w)),(.agg (TMooring.cells m))] [] 0 (aI rCheckMooring2) []] ⟨o1,o1,(g_berth_CheckMooring_ok N l w m rCheckMooring hr4),o1,o1,(g_r06_CheckMooring_ok N l w m rCheckMooring2 hr5),trivial⟩ ?_
      obtain rfl:=Option.some.inj h
      refine Runs.sW hE ⟨[(6,(aB (rCheckMooring == rCheckMooring2)))],[],368⟩ [] (kp [6]) [] 368 [] trivial ?_
      exact Runs.sT Try.f3 [] [] trivial
end Go.Den
