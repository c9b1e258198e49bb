/- Each function of the program does what its Lean function computes (part 3). No conditions. -/
import Derived.Test.YtakkcneiophofaaExactCurvesSb
import Derived.Test.YtakkcneiophofaaProg
set_option linter.unusedVariables false
set_option maxRecDepth 100000
namespace Go.Den
open Go.Ab Go.Proofs

noncomputable def C_117 (n : Nat) : Code := cat (bodyOf Try.f133) (pth n)

theorem g_r01_piece_J1_ok (N : Nat) (c : Tapi_Curve) (i : Int) (vend : Tapi_Rat) (r : Tapi_Rat) (h : g_r01_piece_J1 N c i vend = some r) : ∀ E, EnvOk E 0 → Runs Try.prog E 133 52 (SPost E [] (.agg (Tapi_Rat.cells r))) [.code (C_117 60), .code (C_117 61), .code (C_117 31)] ⟨[(1, (aI i)), (3, (.op 0 0 0)), (6, (.op 1 0 0)), (7, (.op 2 0 0))], [(0, vO 2 (Tapi_Curve.cells c)), (1, vO 4 [(aB false), .nil, (aB false), .nil]), (2, vO 4 (Tapi_Rat.cells vend))], 3⟩ := by
  intro E hE
  unfold g_r01_piece_J1 at h
  obtain ⟨c4, h⟩ := ifSome h
  obtain ⟨rQ3, hr4, h⟩ := bindSome h
  obtain ⟨rCmpRat2, hr5, h⟩ := bindSome h
  refine Runs.sR hE ⟨[(1, (aI i)), (3, (.op 0 0 0)), (6, (.op 1 0 0)), (7, (.op 2 0 0)), (42, (aB (decide (rCmpRat2 ≤ 0))))], [(0, vO 2 (Tapi_Curve.cells c)), (1, vO 4 [(aB false), .nil, (aB false), .nil]), (2, vO 4 (Tapi_Rat.cells vend))], 147⟩ (C_117 60) [(6, ⟨[], true, (.agg (Tapi_Rat.cells rQ3)), [], 0, false, none⟩), (7, ⟨[], true, (aI rCmpRat2), [], 0, false, none⟩)] [] (kp [1, 3, 6, 7, 42]) (kq [0, 1, 2]) 147 [0 < 1, 0 < 1, 0 ≤ i ∧ i < ((c.f_Starts.length : Nat) : Int), Sound Try.prog 132 [(aI (c.f_Starts.getD ((i).toNat) 0))] [] 0 (.agg (Tapi_Rat.cells rQ3)) [], Sound Try.prog 50 [(.agg (Tapi_Rat.cells vend)), (.agg (Tapi_Rat.cells rQ3))] [] 0 (aI rCmpRat2) []] ⟨o1, o1, c4, (g_r01_Q_ok N (c.f_Starts.getD ((i).toNat) 0) rQ3 hr4), (g_r01_CmpRat_ok N vend rQ3 rCmpRat2 hr5), trivial⟩ ?_
  refine Runs.sC 42 (C_117 122) (C_117 123) (decide (rCmpRat2 ≤ 0)) (fun hq3 => ?_) (fun hq3 => ?_)
  · have h := condT h hq3
    refine Runs.sA 1 [.code (C_117 244), .code (C_117 245), .code (C_117 31)] ?_
    obtain ⟨rQ4, hr6, h⟩ := bindSome h
    refine Runs.sR hE ⟨[(6, (.op 1 0 0))], [(1, vO 4 (Tapi_Rat.cells rQ4))], 179⟩ (C_117 244) [(0, ⟨[], true, (.agg (Tapi_Rat.cells rQ4)), [], 0, false, none⟩)] [] (kp [6]) (kq [1]) 179 [Sound Try.prog 132 [(aI 0)] [] 0 (.agg (Tapi_Rat.cells rQ4)) [], 0 < 1] ⟨(g_r01_Q_ok N 0 rQ4 hr6), o1, trivial⟩ ?_
    obtain rfl := Option.some.inj h
    refine Runs.sW hE ⟨[(6, (.op 16 0 0))], [(16, vO 4 (Tapi_Rat.cells rQ4))], 179⟩ [] (kp [6]) [(16, .keep 1)] 179 [] trivial ?_
    exact Runs.sT Try.f133 [16] [0 < 1] ⟨o1, trivial⟩
  · have h := condF h hq3
    refine Runs.sA 2 [.code (C_117 62), .code (C_117 63)] ?_
    obtain ⟨rQ5, hr7, h⟩ := bindSome h
    obtain ⟨rSubRat, hr8, h⟩ := bindSome h
    refine Runs.sR hE ⟨[(6, (.op 1 0 0))], [(1, vO 4 (Tapi_Rat.cells rSubRat))], 291⟩ (C_117 62) [(6, ⟨[], true, (.agg (Tapi_Rat.cells rQ5)), [], 0, false, none⟩), (7, ⟨[], true, (.agg (Tapi_Rat.cells rSubRat)), [], 0, false, none⟩)] [] (kp [6]) (kq [1]) 291 [0 < 1, 0 < 1, 0 ≤ i ∧ i < ((c.f_Starts.length : Nat) : Int), Sound Try.prog 132 [(aI (c.f_Starts.getD ((i).toNat) 0))] [] 0 (.agg (Tapi_Rat.cells rQ5)) [], Sound Try.prog 47 [(.agg (Tapi_Rat.cells vend)), (.agg (Tapi_Rat.cells rQ5))] [] 0 (.agg (Tapi_Rat.cells rSubRat)) [], 0 < 1] ⟨o1, o1, c4, (g_r01_Q_ok N (c.f_Starts.getD ((i).toNat) 0) rQ5 hr7), (g_r01_SubRat_ok N vend rQ5 rSubRat hr8), o1, trivial⟩ ?_
    obtain rfl := Option.some.inj h
    refine Runs.sW hE ⟨[(6, (.op 16 0 0))], [(16, vO 4 (Tapi_Rat.cells rSubRat))], 291⟩ [] (kp [6]) [(16, .keep 1)] 291 [] trivial ?_
    exact Runs.sT Try.f133 [16] [0 < 1] ⟨o1, trivial⟩

theorem g_r01_piece_ok (N : Nat) (c : Tapi_Curve) (i : Int) (y : Tapi_Rat) (r : Tapi_Rat) (h : g_r01_piece N c i y = some r) : Sound Try.prog 133 [(.agg (Tapi_Curve.cells c)), (aI i), (.agg (Tapi_Rat.cells y))] [] 0 (.agg (Tapi_Rat.cells r)) [] := by
  unfold g_r01_piece at h
  refine Sound.of_runs (fu := Try.f133) (c := C_117 1) (nt := 52) (by kernel_rfl) (by kernel_rfl) (by kernel_rfl) (by kernel_rfl) (fun hm => rfl) ?_
  intro E hE
  refine Runs.sA 1 [.code (C_117 2), .code (C_117 3)] ?_
  refine Runs.sR hE ⟨[(1, (aI i)), (3, (.op 0 0 0)), (5, (.op 16 0 0)), (6, (.op 32 0 0))], [(0, vO 2 (Tapi_Curve.cells c)), (16, vO 4 (Tapi_Rat.cells y)), (32, vO 4 [(aB false), .nil, (aB false), .nil])], 48⟩ (C_117 2) [] [] (kp [1, 3, 5, 6]) (kq [0, 16, 32]) 48 [] trivial ?_
  refine Runs.sA 1 [.code (C_117 6), .code (C_117 7)] ?_
  refine Runs.sR hE ⟨[(1, (aI i)), (3, (.op 0 0 0)), (5, (.op 16 0 0)), (6, (.op 32 0 0)), (7, (.op 64 0 0))], [(0, vO 2 (Tapi_Curve.cells c)), (16, vO 4 (Tapi_Rat.cells y)), (32, vO 4 [(aB false), .nil, (aB false), .nil]), (64, vO 4 (Tapi_Rat.cells y))], 96⟩ (C_117 6) [] [] (kp [1, 3, 5, 6, 7]) (kq [0, 16, 32, 64]) 96 [0 < 1, 0 < 1] ⟨o1, o1, trivial⟩ ?_
  refine Runs.sA 2 [.code (C_117 28), .code (C_117 29), .code (C_117 15)] ?_
  obtain ⟨c2, h⟩ := ifSome h
  obtain ⟨rQ, hr, h⟩ := bindSome h
  obtain ⟨rCmpRat, hr2, h⟩ := bindSome h
  refine Runs.sR hE ⟨[(1, (aI i)), (3, (.op 0 0 0)), (6, (.op 32 0 0)), (7, (.op 64 0 0)), (26, (aB (cond (decide ((w64 (i + 1)) < ((c.f_Starts.length : Nat) : Int))) (decide (rCmpRat < 0)) false)))], [(0, vO 2 (Tapi_Curve.cells c)), (32, vO 4 [(aB false), .nil, (aB false), .nil]), (64, vO 4 (Tapi_Rat.cells y))], 384⟩ (C_117 28) [(13, ⟨[], true, (.agg (Tapi_Rat.cells rQ)), [], 0, false, none⟩), (15, ⟨[], true, (aI rCmpRat), [], 0, false, none⟩)] [] (kp [1, 3, 6, 7, 26]) (kq [0, 32, 64]) 384 [0 < 1, (decide ((w64 (i + 1)) < ((c.f_Starts.length : Nat) : Int))) = true → AllP [(decide ((w64 (i + 1)) < ((c.f_Starts.length : Nat) : Int))) = true, 0 < 1], (decide ((w64 (i + 1)) < ((c.f_Starts.length : Nat) : Int))) = true → AllP [(decide ((w64 (i + 1)) < ((c.f_Starts.length : Nat) : Int))) = true], (decide ((w64 (i + 1)) < ((c.f_Starts.length : Nat) : Int))) = true → AllP [(decide ((w64 (i + 1)) < ((c.f_Starts.length : Nat) : Int))) = true, (decide ((w64 (i + 1)) < ((c.f_Starts.length : Nat) : Int))) = true, 0 ≤ (w64 (i + 1)) ∧ (w64 (i + 1)) < ((c.f_Starts.length : Nat) : Int)], (decide ((w64 (i + 1)) < ((c.f_Starts.length : Nat) : Int))) = true → AllP [(decide ((w64 (i + 1)) < ((c.f_Starts.length : Nat) : Int))) = true], (decide ((w64 (i + 1)) < ((c.f_Starts.length : Nat) : Int))) = true → AllP [Sound Try.prog 132 [(aI (c.f_Starts.getD ((w64 (i + 1)).toNat) 0))] [] 0 (.agg (Tapi_Rat.cells rQ)) [], (decide ((w64 (i + 1)) < ((c.f_Starts.length : Nat) : Int))) = true], (decide ((w64 (i + 1)) < ((c.f_Starts.length : Nat) : Int))) = true → AllP [0 < 1], (decide ((w64 (i + 1)) < ((c.f_Starts.length : Nat) : Int))) = true → AllP [Sound Try.prog 50 [(.agg (Tapi_Rat.cells rQ)), (.agg (Tapi_Rat.cells y))] [] 0 (aI rCmpRat) [], (decide ((w64 (i + 1)) < ((c.f_Starts.length : Nat) : Int))) = true, (decide ((w64 (i + 1)) < ((c.f_Starts.length : Nat) : Int))) = true], (decide ((w64 (i + 1)) < ((c.f_Starts.length : Nat) : Int))) = true → AllP [(decide ((w64 (i + 1)) < ((c.f_Starts.length : Nat) : Int))) = true], (decide ((w64 (i + 1)) < ((c.f_Starts.length : Nat) : Int))) = true → AllP [(decide ((w64 (i + 1)) < ((c.f_Starts.length : Nat) : Int))) = true]] ⟨o1, (fun hg => ⟨hg, o1, trivial⟩), (fun hg => ⟨hg, trivial⟩), (fun hg => ⟨hg, hg, (c2 hg), trivial⟩), (fun hg => ⟨hg, trivial⟩), (fun hg => ⟨(g_r01_Q_ok N (c.f_Starts.getD ((w64 (i + 1)).toNat) 0) rQ (condT hr hg)), hg, trivial⟩), (fun hg => ⟨o1, trivial⟩), (fun hg => ⟨(g_r01_CmpRat_ok N rQ y rCmpRat (condT hr2 hg)), hg, hg, trivial⟩), (fun hg => ⟨hg, trivial⟩), (fun hq => ⟨hq, trivial⟩), trivial⟩ ?_
  refine Runs.sC 26 (C_117 58) (C_117 59) (cond (decide ((w64 (i + 1)) < ((c.f_Starts.length : Nat) : Int))) (decide (rCmpRat < 0)) false) (fun hq2 => ?_) (fun hq2 => ?_)
  · have h := condT h hq2
    obtain ⟨c3, h⟩ := ifSome h
    obtain ⟨rQ2, hr3, h⟩ := bindSome h
    refine Runs.sR hE ⟨[(1, (aI i)), (3, (.op 0 0 0)), (6, (.op 32 0 0)), (7, (.op 64 0 0))], [(0, vO 2 (Tapi_Curve.cells c)), (32, vO 4 [(aB false), .nil, (aB false), .nil]), (64, vO 4 (Tapi_Rat.cells rQ2))], 512⟩ (C_117 58) [(6, ⟨[], true, (.agg (Tapi_Rat.cells rQ2)), [], 0, false, none⟩)] [] (kp [1, 3, 6, 7]) (kq [0, 32, 64]) 512 [0 < 1, 0 ≤ (w64 (i + 1)) ∧ (w64 (i + 1)) < ((c.f_Starts.length : Nat) : Int), Sound Try.prog 132 [(aI (c.f_Starts.getD ((w64 (i + 1)).toNat) 0))] [] 0 (.agg (Tapi_Rat.cells rQ2)) [], 0 < 1] ⟨o1, c3, (g_r01_Q_ok N (c.f_Starts.getD ((w64 (i + 1)).toNat) 0) rQ2 hr3), o1, trivial⟩ ?_
    refine Runs.sA 2 [.code (C_117 60), .code (C_117 61), .code (C_117 31)] ?_
    exact Runs.sW hE _ [] (kp [1, 3, 6, 7]) (kq [0] ++ [(1, .keep 32), (2, .keep 64)]) 3 [] trivial (g_r01_piece_J1_ok N c i rQ2 _ h E hE)
  · have h := condF h hq2
    refine Runs.sA 3 [.code (C_117 60), .code (C_117 61), .code (C_117 31)] ?_
    exact Runs.sW hE _ [] (kp [1, 3, 6, 7]) (kq [0] ++ [(1, .keep 32), (2, .keep 64)]) 3 [] trivial (g_r01_piece_J1_ok N c i y _ h E hE)

noncomputable def C_116 (n : Nat) : Code := cat (bodyOf Try.f74) (pth n)

theorem g_r01_Value_L1_ok (N : Nat) (c : Tapi_Curve) (y : Tapi_Rat) (fuel : Nat) : ∀ (out : Tapi_Rat) (i : Int) (r : Tapi_Rat), g_r01_Value_L1 N c y fuel out i = some r → ∀ E, EnvOk E 0 → Runs Try.prog E 74 28 (SPost E [] (.agg (Tapi_Rat.cells r))) [.code (C_116 116), .inLoop (C_116 116), .inBlock 0, .code (C_116 15)] ⟨[(2, (.op 0 0 0)), (3, (.op 1 0 0)), (4, (.op 2 0 0)), (5, (.op 3 0 0)), (6, (aI i))], [(0, vO 2 (Tapi_Curve.cells c)), (1, vO 4 (Tapi_Rat.cells y)), (2, vO 4 [(aB false), .nil, (aB false), .nil]), (3, vO 4 (Tapi_Rat.cells out))], 4⟩ := by
  induction fuel with
  | zero => intro _ _ r h; rw [g_r01_Value_L1.eq_1] at h; cases h
  | succ fuel ih =>
    intro out i r h E hE
    rw [g_r01_Value_L1.eq_2] at h
    refine Runs.sA 2 [.code (C_116 464), .code (C_116 465), .code (C_116 233), .inLoop (C_116 116), .inBlock 0, .code (C_116 15)] ?_
    refine Runs.sR hE ⟨[(2, (.op 0 0 0)), (3, (.op 1 0 0)), (4, (.op 2 0 0)), (5, (.op 3 0 0)), (6, (aI i)), (12, (aB (decide (i < ((c.f_Starts.length : Nat) : Int)))))], [(0, vO 2 (Tapi_Curve.cells c)), (1, vO 4 (Tapi_Rat.cells y)), (2, vO 4 [(aB false), .nil, (aB false), .nil]), (3, vO 4 (Tapi_Rat.cells out))], 84⟩ (C_116 464) [] [] (kp [2, 3, 4, 5, 6, 12]) (kq [0, 1, 2, 3]) 84 [0 < 1] ⟨o1, trivial⟩ ?_
    refine Runs.sC 12 (C_116 930) (C_116 931) (decide (i < ((c.f_Starts.length : Nat) : Int))) (fun hq2 => ?_) (fun hq2 => ?_)
    · have h := condT h hq2
      refine Runs.sA 3 [.code (C_116 932), .inBlock 1, .code (C_116 467), .inLoop (C_116 116), .inBlock 0, .code (C_116 15)] ?_
      obtain ⟨c2, h⟩ := ifSome h
      obtain ⟨rpiece, hr2, h⟩ := bindSome h
      obtain ⟨rMulRat, hr3, h⟩ := bindSome h
      obtain ⟨rAddRat, hr4, h⟩ := bindSome h
      refine Runs.sR hE ⟨[(2, (.op 0 0 0)), (3, (.op 1 0 0)), (4, (.op 2 0 0)), (5, (.op 3 0 0)), (6, (aI i))], [(0, vO 2 (Tapi_Curve.cells c)), (1, vO 4 (Tapi_Rat.cells y)), (2, vO 4 [(aB false), .nil, (aB false), .nil]), (3, vO 4 (Tapi_Rat.cells rAddRat))], 292⟩ (C_116 932) [(9, ⟨[], true, (.agg (Tapi_Rat.cells rpiece)), [], 0, false, none⟩), (10, ⟨[], true, (.agg (Tapi_Rat.cells rMulRat)), [], 0, false, none⟩), (11, ⟨[], true, (.agg (Tapi_Rat.cells rAddRat)), [], 0, false, none⟩)] [] (kp [2, 3, 4, 5, 6]) (kq [0, 1, 2, 3]) 292 [0 < 1, 0 < 1, 0 ≤ i ∧ i < ((c.f_Slopes.length : Nat) : Int), 0 < 1, 0 < 1, Sound Try.prog 133 [(.agg (Tapi_Curve.cells c)), (aI i), (.agg (Tapi_Rat.cells y))] [] 0 (.agg (Tapi_Rat.cells rpiece)) [], Sound Try.prog 48 [(.agg [(aB (((c.f_Slopes.getD ((i).toNat) Tapi_Rat.d).f_Num).f_Neg)), (encL (cU .u16) 0 (((c.f_Slopes.getD ((i).toNat) Tapi_Rat.d).f_Num).f_Limbs)), (aB (((c.f_Slopes.getD ((i).toNat) Tapi_Rat.d).f_Den).f_Neg)), (encL (cU .u16) 0 (((c.f_Slopes.getD ((i).toNat) Tapi_Rat.d).f_Den).f_Limbs))]), (.agg (Tapi_Rat.cells rpiece))] [] 0 (.agg (Tapi_Rat.cells rMulRat)) [], Sound Try.prog 46 [(.agg (Tapi_Rat.cells out)), (.agg (Tapi_Rat.cells rMulRat))] [] 0 (.agg (Tapi_Rat.cells rAddRat)) [], 0 < 1] ⟨o1, o1, c2, o1, o1, (g_r01_piece_ok N c i y rpiece hr2), (g_r01_MulRat_ok N (⟨((c.f_Slopes.getD ((i).toNat) Tapi_Rat.d).f_Num), ((c.f_Slopes.getD ((i).toNat) Tapi_Rat.d).f_Den)⟩ : Tapi_Rat) rpiece rMulRat hr3), (g_r01_AddRat_ok N out rMulRat rAddRat hr4), o1, trivial⟩ ?_
      refine Runs.sA 1 [.code (C_116 467), .inLoop (C_116 116), .inBlock 0, .code (C_116 15)] ?_
      refine Runs.sR hE ⟨[(2, (.op 0 0 0)), (3, (.op 1 0 0)), (4, (.op 2 0 0)), (5, (.op 3 0 0)), (6, (aI (w64 (i + 1))))], [(0, vO 2 (Tapi_Curve.cells c)), (1, vO 4 (Tapi_Rat.cells y)), (2, vO 4 [(aB false), .nil, (aB false), .nil]), (3, vO 4 (Tapi_Rat.cells rAddRat))], 340⟩ (C_116 467) [] [] (kp [2, 3, 4, 5, 6]) (kq [0, 1, 2, 3]) 340 [] trivial ?_
      refine Runs.sA 1 [.code (C_116 116), .inLoop (C_116 116), .inBlock 0, .code (C_116 15)] ?_
      exact Runs.sW hE _ [] (kp [2, 3, 4, 5, 6]) (kq [0, 1, 2, 3]) 4 [] trivial (ih rAddRat (w64 (i + 1)) _ h E hE)
    · have h := condF h hq2
      refine Runs.sA 2 [.code (C_116 30), .code (C_116 31)] ?_
      refine Runs.sR hE ⟨[(4, (.op 2 0 0))], [(2, vO 4 (Tapi_Rat.cells out))], 116⟩ (C_116 30) [] [] (kp [4]) (kq [2]) 116 [0 < 1, 0 < 1] ⟨o1, o1, trivial⟩ ?_
      obtain rfl := Option.some.inj h
      refine Runs.sW hE ⟨[(4, (.op 16 0 0))], [(16, vO 4 (Tapi_Rat.cells out))], 116⟩ [] (kp [4]) [(16, .keep 2)] 116 [] trivial ?_
      exact Runs.sT Try.f74 [16] [0 < 1] ⟨o1, trivial⟩

theorem g_r01_Value_ok (N : Nat) (c : Tapi_Curve) (y : Tapi_Rat) (r : Tapi_Rat) (h : g_r01_Value N c y = some r) : Sound Try.prog 74 [(.agg (Tapi_Curve.cells c)), (.agg (Tapi_Rat.cells y))] [] 0 (.agg (Tapi_Rat.cells r)) [] := by
  unfold g_r01_Value at h
  refine Sound.of_runs (fu := Try.f74) (c := C_116 1) (nt := 28) (by kernel_rfl) (by kernel_rfl) (by kernel_rfl) (by kernel_rfl) (fun hm => rfl) ?_
  intro E hE
  refine Runs.sA 1 [.code (C_116 2), .code (C_116 3)] ?_
  refine Runs.sR hE ⟨[(2, (.op 0 0 0)), (3, (.op 16 0 0)), (4, (.op 32 0 0))], [(0, vO 2 (Tapi_Curve.cells c)), (16, vO 4 (Tapi_Rat.cells y)), (32, vO 4 [(aB false), .nil, (aB false), .nil])], 48⟩ (C_116 2) [] [] (kp [2, 3, 4]) (kq [0, 16, 32]) 48 [] trivial ?_
  refine Runs.sA 1 [.code (C_116 6), .code (C_116 7)] ?_
  obtain ⟨rQ, hr, h⟩ := bindSome h
  refine Runs.sR hE ⟨[(2, (.op 0 0 0)), (3, (.op 16 0 0)), (4, (.op 32 0 0)), (5, (.op 64 0 0))], [(0, vO 2 (Tapi_Curve.cells c)), (16, vO 4 (Tapi_Rat.cells y)), (32, vO 4 [(aB false), .nil, (aB false), .nil]), (64, vO 4 (Tapi_Rat.cells rQ))], 96⟩ (C_116 6) [(0, ⟨[], true, (.agg (Tapi_Rat.cells rQ)), [], 0, false, none⟩)] [] (kp [2, 3, 4, 5]) (kq [0, 16, 32, 64]) 96 [Sound Try.prog 132 [(aI 0)] [] 0 (.agg (Tapi_Rat.cells rQ)) [], 0 < 1] ⟨(g_r01_Q_ok N 0 rQ hr), o1, trivial⟩ ?_
  refine Runs.sA 2 [.code (C_116 28), .code (C_116 29), .code (C_116 15)] ?_
  refine Runs.sR hE ⟨[(2, (.op 0 0 0)), (3, (.op 16 0 0)), (4, (.op 32 0 0)), (5, (.op 64 0 0)), (6, (aI 0))], [(0, vO 2 (Tapi_Curve.cells c)), (16, vO 4 (Tapi_Rat.cells y)), (32, vO 4 [(aB false), .nil, (aB false), .nil]), (64, vO 4 (Tapi_Rat.cells rQ))], 112⟩ (C_116 28) [] [] (kp [2, 3, 4, 5, 6]) (kq [0, 16, 32, 64]) 112 [] trivial ?_
  refine Runs.sA 2 [.code (C_116 116), .inLoop (C_116 116), .inBlock 0, .code (C_116 15)] ?_
  exact Runs.sW hE _ [] (kp [2, 3, 4, 5, 6]) (kq [0] ++ [(1, .keep 16), (2, .keep 32), (3, .keep 64)]) 4 [] trivial (g_r01_Value_L1_ok N c y N rQ 0 _ h E hE)

noncomputable def C_115 (n : Nat) : Code := cat (bodyOf Try.f72) (pth n)

theorem g_r01_Reach_J2_ok (N : Nat) (c : Tapi_Curve) (v : Tapi_Rat) (i : Int) (K_g_r01_Reach_L1 : Int → Option (Tapi_Rat × Int))
    (hK_g_r01_Reach_L1 : ∀ (i : Int) (r : Tapi_Rat × Int), K_g_r01_Reach_L1 i = some r → ∀ E, EnvOk E 0 → Runs Try.prog E 72 68 (SPost E [] (.tup [(.agg (Tapi_Rat.cells r.1)), (aI r.2)])) [.code (C_115 116), .inLoop (C_115 116), .inBlock 0, .code (C_115 15)] ⟨[(2, (.op 0 0 0)), (3, (.op 1 0 0)), (4, (.op 2 0 0)), (6, (aI i))], [(0, vO 2 (Tapi_Curve.cells c)), (1, vO 4 (Tapi_Rat.cells v)), (2, vO 4 [(aB false), .nil, (aB false), .nil])], 3⟩) (r : Tapi_Rat × Int) (h : g_r01_Reach_J2 N c v i K_g_r01_Reach_L1 = some r) : ∀ E, EnvOk E 0 → Runs Try.prog E 72 68 (SPost E [] (.tup [(.agg (Tapi_Rat.cells r.1)), (aI r.2)])) [.code (C_115 467), .inLoop (C_115 116), .inBlock 0, .code (C_115 15)] ⟨[(2, (.op 0 0 0)), (3, (.op 1 0 0)), (4, (.op 2 0 0)), (6, (aI i))], [(0, vO 2 (Tapi_Curve.cells c)), (1, vO 4 (Tapi_Rat.cells v)), (2, vO 4 [(aB false), .nil, (aB false), .nil])], 3⟩ := by
  intro E hE
  unfold g_r01_Reach_J2 at h
  refine Runs.sR hE ⟨[(2, (.op 0 0 0)), (3, (.op 1 0 0)), (4, (.op 2 0 0)), (6, (aI (w64 (i + 1))))], [(0, vO 2 (Tapi_Curve.cells c)), (1, vO 4 (Tapi_Rat.cells v)), (2, vO 4 [(aB false), .nil, (aB false), .nil])], 51⟩ (C_115 467) [] [] (kp [2, 3, 4, 6]) (kq [0, 1, 2]) 51 [] trivial ?_
  refine Runs.sA 1 [.code (C_115 116), .inLoop (C_115 116), .inBlock 0, .code (C_115 15)] ?_
  exact Runs.sW hE _ [] (kp [2, 3, 4, 6]) (kq [0, 1, 2]) 3 [] trivial (hK_g_r01_Reach_L1 (w64 (i + 1)) _ h E hE)

theorem g_r01_Reach_L1_ok (N : Nat) (c : Tapi_Curve) (v : Tapi_Rat) (fuel : Nat) : ∀ (i : Int) (r : Tapi_Rat × Int), g_r01_Reach_L1 N c v fuel i = some r → ∀ E, EnvOk E 0 → Runs Try.prog E 72 68 (SPost E [] (.tup [(.agg (Tapi_Rat.cells r.1)), (aI r.2)])) [.code (C_115 116), .inLoop (C_115 116), .inBlock 0, .code (C_115 15)] ⟨[(2, (.op 0 0 0)), (3, (.op 1 0 0)), (4, (.op 2 0 0)), (6, (aI i))], [(0, vO 2 (Tapi_Curve.cells c)), (1, vO 4 (Tapi_Rat.cells v)), (2, vO 4 [(aB false), .nil, (aB false), .nil])], 3⟩ := by
  induction fuel with
  | zero => intro _ r h; rw [g_r01_Reach_L1.eq_1] at h; cases h
  | succ fuel ih =>
    intro i r h E hE
    rw [g_r01_Reach_L1.eq_2] at h
    refine Runs.sA 2 [.code (C_115 464), .code (C_115 465), .code (C_115 233), .inLoop (C_115 116), .inBlock 0, .code (C_115 15)] ?_
    refine Runs.sR hE ⟨[(2, (.op 0 0 0)), (3, (.op 1 0 0)), (4, (.op 2 0 0)), (6, (aI i)), (17, (aB (decide (i < ((c.f_Starts.length : Nat) : Int)))))], [(0, vO 2 (Tapi_Curve.cells c)), (1, vO 4 (Tapi_Rat.cells v)), (2, vO 4 [(aB false), .nil, (aB false), .nil])], 83⟩ (C_115 464) [] [] (kp [2, 3, 4, 6, 17]) (kq [0, 1, 2]) 83 [0 < 1] ⟨o1, trivial⟩ ?_
    refine Runs.sC 17 (C_115 930) (C_115 931) (decide (i < ((c.f_Starts.length : Nat) : Int))) (fun hq3 => ?_) (fun hq3 => ?_)
    · have h := condT h hq3
      refine Runs.sA 4 [.code (C_115 1864), .code (C_115 1865), .inBlock 1, .code (C_115 467), .inLoop (C_115 116), .inBlock 0, .code (C_115 15)] ?_
      obtain ⟨c2, h⟩ := ifSome h
      obtain ⟨rNormRat, hr2, h⟩ := bindSome h
      refine Runs.sR hE ⟨[(2, (.op 0 0 0)), (3, (.op 1 0 0)), (4, (.op 2 0 0)), (6, (aI i)), (7, (.op 179 0 0))], [(0, vO 2 (Tapi_Curve.cells c)), (1, vO 4 (Tapi_Rat.cells v)), (2, vO 4 [(aB false), .nil, (aB false), .nil]), (179, vO 4 (Tapi_Rat.cells rNormRat))], 211⟩ (C_115 1864) [(5, ⟨[], true, (.agg (Tapi_Rat.cells rNormRat)), [], 0, false, none⟩)] [] (kp [2, 3, 4, 6, 7]) (kq [0, 1, 2, 179]) 211 [0 < 1, 0 ≤ i ∧ i < ((c.f_Slopes.length : Nat) : Int), Sound Try.prog 57 [(.agg [(aB (((c.f_Slopes.getD ((i).toNat) Tapi_Rat.d).f_Num).f_Neg)), (encL (cU .u16) 0 (((c.f_Slopes.getD ((i).toNat) Tapi_Rat.d).f_Num).f_Limbs)), (aB (((c.f_Slopes.getD ((i).toNat) Tapi_Rat.d).f_Den).f_Neg)), (encL (cU .u16) 0 (((c.f_Slopes.getD ((i).toNat) Tapi_Rat.d).f_Den).f_Limbs))])] [] 0 (.agg (Tapi_Rat.cells rNormRat)) [], 0 < 1] ⟨o1, c2, (g_r01_NormRat_ok N (⟨((c.f_Slopes.getD ((i).toNat) Tapi_Rat.d).f_Num), ((c.f_Slopes.getD ((i).toNat) Tapi_Rat.d).f_Den)⟩ : Tapi_Rat) rNormRat hr2), o1, trivial⟩ ?_
      refine Runs.sA 2 [.code (C_115 7460), .code (C_115 7461), .code (C_115 3731), .inBlock 1, .code (C_115 467), .inLoop (C_115 116), .inBlock 0, .code (C_115 15)] ?_
      obtain ⟨rSignRat2, hr3, h⟩ := bindSome h
      refine Runs.sR hE ⟨[(2, (.op 0 0 0)), (3, (.op 1 0 0)), (4, (.op 2 0 0)), (6, (aI i)), (7, (.op 179 0 0)), (28, (aB (rSignRat2 == 0)))], [(0, vO 2 (Tapi_Curve.cells c)), (1, vO 4 (Tapi_Rat.cells v)), (2, vO 4 [(aB false), .nil, (aB false), .nil]), (179, vO 4 (Tapi_Rat.cells rNormRat))], 259⟩ (C_115 7460) [(1, ⟨[], true, (aI rSignRat2), [], 0, false, none⟩)] [] (kp [2, 3, 4, 6, 7, 28]) (kq [0, 1, 2, 179]) 259 [0 < 1, Sound Try.prog 42 [(.agg (Tapi_Rat.cells rNormRat))] [] 0 (aI rSignRat2) []] ⟨o1, (g_r01_SignRat_ok N rNormRat rSignRat2 hr3), trivial⟩ ?_
      refine Runs.sC 28 (C_115 14922) (C_115 14923) (rSignRat2 == 0) (fun hq4 => ?_) (fun hq4 => ?_)
      · have h := condT h hq4
        refine Runs.sA 1 [.code (C_115 467), .inLoop (C_115 116), .inBlock 0, .code (C_115 15)] ?_
        exact Runs.sW hE _ [] (kp [2, 3, 4, 6]) (kq [0, 1, 2]) 3 [] trivial (g_r01_Reach_J2_ok N c v i (g_r01_Reach_L1 N c v fuel) ih _ h E hE)
      · have h := condF h hq4
        refine Runs.sA 2 [.code (C_115 7462), .code (C_115 7463), .inBlock 1, .code (C_115 467), .inLoop (C_115 116), .inBlock 0, .code (C_115 15)] ?_
        obtain ⟨c3, h⟩ := ifSome h
        obtain ⟨rQ, hr4, h⟩ := bindSome h
        obtain ⟨rQ2, hr5, h⟩ := bindSome h
        obtain ⟨rValue, hr6, h⟩ := bindSome h
        obtain ⟨rSubRat, hr7, h⟩ := bindSome h
        obtain ⟨rQuoRat, hr8, h⟩ := bindSome h
        obtain ⟨rAddRat, hr9, h⟩ := bindSome h
        refine Runs.sR hE ⟨[(2, (.op 0 0 0)), (3, (.op 1 0 0)), (4, (.op 2 0 0)), (6, (aI i)), (8, (.op 563 0 0))], [(0, vO 2 (Tapi_Curve.cells c)), (1, vO 4 (Tapi_Rat.cells v)), (2, vO 4 [(aB false), .nil, (aB false), .nil]), (563, vO 4 (Tapi_Rat.cells rAddRat))], 595⟩ (C_115 7462) [(5, ⟨[], true, (.agg (Tapi_Rat.cells rQ)), [], 0, false, none⟩), (13, ⟨[], true, (.agg (Tapi_Rat.cells rQ2)), [], 0, false, none⟩), (14, ⟨[], true, (.agg (Tapi_Rat.cells rValue)), [], 0, false, none⟩), (15, ⟨[], true, (.agg (Tapi_Rat.cells rSubRat)), [], 0, false, none⟩), (17, ⟨[], true, (.agg (Tapi_Rat.cells rQuoRat)), [], 0, false, none⟩), (18, ⟨[], true, (.agg (Tapi_Rat.cells rAddRat)), [], 0, false, none⟩)] [] (kp [2, 3, 4, 6, 8]) (kq [0, 1, 2, 563]) 595 [0 < 1, 0 ≤ i ∧ i < ((c.f_Starts.length : Nat) : Int), Sound Try.prog 132 [(aI (c.f_Starts.getD ((i).toNat) 0))] [] 0 (.agg (Tapi_Rat.cells rQ)) [], 0 < 1, 0 < 1, 0 < 1, 0 ≤ i ∧ i < ((c.f_Starts.length : Nat) : Int), Sound Try.prog 132 [(aI (c.f_Starts.getD ((i).toNat) 0))] [] 0 (.agg (Tapi_Rat.cells rQ2)) [], Sound Try.prog 74 [(.agg (Tapi_Curve.cells c)), (.agg (Tapi_Rat.cells rQ2))] [] 0 (.agg (Tapi_Rat.cells rValue)) [], Sound Try.prog 47 [(.agg (Tapi_Rat.cells v)), (.agg (Tapi_Rat.cells rValue))] [] 0 (.agg (Tapi_Rat.cells rSubRat)) [], 0 < 1, Sound Try.prog 44 [(.agg (Tapi_Rat.cells rSubRat)), (.agg (Tapi_Rat.cells rNormRat))] [] 0 (.agg (Tapi_Rat.cells rQuoRat)) [], Sound Try.prog 46 [(.agg (Tapi_Rat.cells rQ)), (.agg (Tapi_Rat.cells rQuoRat))] [] 0 (.agg (Tapi_Rat.cells rAddRat)) [], 0 < 1] ⟨o1, c3, (g_r01_Q_ok N (c.f_Starts.getD ((i).toNat) 0) rQ hr4), o1, o1, o1, c3, (g_r01_Q_ok N (c.f_Starts.getD ((i).toNat) 0) rQ2 hr5), (g_r01_Value_ok N c rQ2 rValue hr6), (g_r01_SubRat_ok N v rValue rSubRat hr7), o1, (g_r01_QuoRat_ok N rSubRat rNormRat rQuoRat hr8), (g_r01_AddRat_ok N rQ rQuoRat rAddRat hr9), o1, trivial⟩ ?_
        refine Runs.sA 1 [.code (C_115 14926), .code (C_115 14927), .inBlock 1, .code (C_115 467), .inLoop (C_115 116), .inBlock 0, .code (C_115 15)] ?_
        obtain ⟨c4, h⟩ := ifSome h
        obtain ⟨rQ3, hr10, h⟩ := bindSome h
        obtain ⟨rCmpRat, hr11, h⟩ := bindSome h
        refine Runs.sR hE ⟨[(2, (.op 0 0 0)), (3, (.op 1 0 0)), (4, (.op 2 0 0)), (6, (aI i)), (8, (.op 563 0 0)), (65, (aB (cond ((w64 (i + 1)) == ((c.f_Starts.length : Nat) : Int)) true (decide (rCmpRat ≤ 0)))))], [(0, vO 2 (Tapi_Curve.cells c)), (1, vO 4 (Tapi_Rat.cells v)), (2, vO 4 [(aB false), .nil, (aB false), .nil]), (563, vO 4 (Tapi_Rat.cells rAddRat))], 883⟩ (C_115 14926) [(14, ⟨[], true, (.agg (Tapi_Rat.cells rQ3)), [], 0, false, none⟩), (15, ⟨[], true, (aI rCmpRat), [], 0, false, none⟩)] [] (kp [2, 3, 4, 6, 8, 65]) (kq [0, 1, 2, 563]) 883 [0 < 1, (!((w64 (i + 1)) == ((c.f_Starts.length : Nat) : Int))) = true → AllP [0 < 1], (!((w64 (i + 1)) == ((c.f_Starts.length : Nat) : Int))) = true → AllP [(!((w64 (i + 1)) == ((c.f_Starts.length : Nat) : Int))) = true, 0 < 1], (!((w64 (i + 1)) == ((c.f_Starts.length : Nat) : Int))) = true → AllP [(!((w64 (i + 1)) == ((c.f_Starts.length : Nat) : Int))) = true], (!((w64 (i + 1)) == ((c.f_Starts.length : Nat) : Int))) = true → AllP [(!((w64 (i + 1)) == ((c.f_Starts.length : Nat) : Int))) = true, (!((w64 (i + 1)) == ((c.f_Starts.length : Nat) : Int))) = true, 0 ≤ (w64 (i + 1)) ∧ (w64 (i + 1)) < ((c.f_Starts.length : Nat) : Int)], (!((w64 (i + 1)) == ((c.f_Starts.length : Nat) : Int))) = true → AllP [(!((w64 (i + 1)) == ((c.f_Starts.length : Nat) : Int))) = true], (!((w64 (i + 1)) == ((c.f_Starts.length : Nat) : Int))) = true → AllP [Sound Try.prog 132 [(aI (c.f_Starts.getD ((w64 (i + 1)).toNat) 0))] [] 0 (.agg (Tapi_Rat.cells rQ3)) [], (!((w64 (i + 1)) == ((c.f_Starts.length : Nat) : Int))) = true], (!((w64 (i + 1)) == ((c.f_Starts.length : Nat) : Int))) = true → AllP [Sound Try.prog 50 [(.agg (Tapi_Rat.cells rAddRat)), (.agg (Tapi_Rat.cells rQ3))] [] 0 (aI rCmpRat) [], (!((w64 (i + 1)) == ((c.f_Starts.length : Nat) : Int))) = true, (!((w64 (i + 1)) == ((c.f_Starts.length : Nat) : Int))) = true], (!((w64 (i + 1)) == ((c.f_Starts.length : Nat) : Int))) = true → AllP [(!((w64 (i + 1)) == ((c.f_Starts.length : Nat) : Int))) = true], (!((w64 (i + 1)) == ((c.f_Starts.length : Nat) : Int))) = true → AllP [(!((w64 (i + 1)) == ((c.f_Starts.length : Nat) : Int))) = true]] ⟨o1, (fun hg => ⟨o1, trivial⟩), (fun hg => ⟨hg, o1, trivial⟩), (fun hg => ⟨hg, trivial⟩), (fun hg => ⟨hg, hg, (c4 hg), trivial⟩), (fun hg => ⟨hg, trivial⟩), (fun hg => ⟨(g_r01_Q_ok N (c.f_Starts.getD ((w64 (i + 1)).toNat) 0) rQ3 (condT hr10 hg)), hg, trivial⟩), (fun hg => ⟨(g_r01_CmpRat_ok N rAddRat rQ3 rCmpRat (condT hr11 hg)), hg, hg, trivial⟩), (fun hg => ⟨hg, trivial⟩), (fun hq => ⟨hq, trivial⟩), trivial⟩ ?_
        refine Runs.sC 65 (C_115 29854) (C_115 29855) (cond ((w64 (i + 1)) == ((c.f_Starts.length : Nat) : Int)) true (decide (rCmpRat ≤ 0))) (fun hq5 => ?_) (fun hq5 => ?_)
        · have h := condT h hq5
          refine Runs.sA 1 [.code (C_115 59708), .code (C_115 59709), .inBlock 1, .code (C_115 467), .inLoop (C_115 116), .inBlock 0, .code (C_115 15)] ?_
          refine Runs.sR hE ⟨[(4, (.op 2 0 0)), (5, (aI 0))], [(2, vO 4 (Tapi_Rat.cells rAddRat))], 931⟩ (C_115 59708) [] [] (kp [4, 5]) (kq [2]) 931 [0 < 1, 0 < 1] ⟨o1, o1, trivial⟩ ?_
          obtain rfl := Option.some.inj h
          refine Runs.sW hE ⟨[(4, (.op 16 0 0)), (5, (aI 0))], [(16, vO 4 (Tapi_Rat.cells rAddRat))], 931⟩ [] (kp [4, 5]) [(16, .keep 2)] 931 [] trivial ?_
          exact Runs.sT Try.f72 [16] [0 < 1] ⟨o1, trivial⟩
        · have h := condF h hq5
          refine Runs.sA 2 [.code (C_115 467), .inLoop (C_115 116), .inBlock 0, .code (C_115 15)] ?_
          exact Runs.sW hE _ [] (kp [2, 3, 4, 6]) (kq [0, 1, 2]) 3 [] trivial (g_r01_Reach_J2_ok N c v i (g_r01_Reach_L1 N c v fuel) ih _ h E hE)
    · have h := condF h hq3
      refine Runs.sA 2 [.code (C_115 30), .code (C_115 31)] ?_
      refine Runs.sR hE ⟨[(4, (.op 2 0 0)), (5, (aI 29))], [(2, vO 4 [(aB false), .nil, (aB false), .nil])], 131⟩ (C_115 30) [] [] (kp [4, 5]) (kq [2]) 131 [0 < 1] ⟨o1, trivial⟩ ?_
      obtain rfl := Option.some.inj h
      refine Runs.sW hE ⟨[(4, (.op 16 0 0)), (5, (aI 29))], [(16, vO 4 [(aB false), (encL (cU .u16) 0 ([] : List Int)), (aB false), (encL (cU .u16) 0 ([] : List Int))])], 131⟩ [] (kp [4, 5]) [(16, .var 2 [.keep, .sl (([] : List Int).length) (fun zi => (cU .u16) (([] : List Int).getD zi 0)), .keep, .sl (([] : List Int).length) (fun zi => (cU .u16) (([] : List Int).getD zi 0))])] 131 [([] : List Int).length = 0, ([] : List Int).length = 0] ⟨rfl, rfl, trivial⟩ ?_
      exact Runs.sT Try.f72 [16] [0 < 1] ⟨o1, trivial⟩

theorem g_r01_Reach_ok (N : Nat) (c : Tapi_Curve) (v : Tapi_Rat) (r : Tapi_Rat × Int) (h : g_r01_Reach N c v = some r) : Sound Try.prog 72 [(.agg (Tapi_Curve.cells c)), (.agg (Tapi_Rat.cells v))] [] 0 (.tup [(.agg (Tapi_Rat.cells r.1)), (aI r.2)]) [] := by
  unfold g_r01_Reach at h
  refine Sound.of_runs (fu := Try.f72) (c := C_115 1) (nt := 68) (by kernel_rfl) (by kernel_rfl) (by kernel_rfl) (by kernel_rfl) (fun hm => rfl) ?_
  intro E hE
  refine Runs.sA 1 [.code (C_115 2), .code (C_115 3)] ?_
  refine Runs.sR hE ⟨[(2, (.op 0 0 0)), (3, (.op 16 0 0)), (4, (.op 32 0 0))], [(0, vO 2 (Tapi_Curve.cells c)), (16, vO 4 (Tapi_Rat.cells v)), (32, vO 4 [(aB false), .nil, (aB false), .nil])], 64⟩ (C_115 2) [] [] (kp [2, 3, 4]) (kq [0, 16, 32]) 64 [] trivial ?_
  refine Runs.sA 2 [.code (C_115 12), .code (C_115 13), .code (C_115 7)] ?_
  obtain ⟨rSignRat, hr, h⟩ := bindSome h
  refine Runs.sR hE ⟨[(2, (.op 0 0 0)), (3, (.op 16 0 0)), (4, (.op 32 0 0)), (11, (aB (decide (rSignRat ≤ 0))))], [(0, vO 2 (Tapi_Curve.cells c)), (16, vO 4 (Tapi_Rat.cells v)), (32, vO 4 [(aB false), .nil, (aB false), .nil])], 112⟩ (C_115 12) [(1, ⟨[], true, (aI rSignRat), [], 0, false, none⟩)] [] (kp [2, 3, 4, 11]) (kq [0, 16, 32]) 112 [0 < 1, Sound Try.prog 42 [(.agg (Tapi_Rat.cells v))] [] 0 (aI rSignRat) []] ⟨o1, (g_r01_SignRat_ok N v rSignRat hr), trivial⟩ ?_
  refine Runs.sC 11 (C_115 26) (C_115 27) (decide (rSignRat ≤ 0)) (fun hq2 => ?_) (fun hq2 => ?_)
  · have h := condT h hq2
    refine Runs.sA 1 [.code (C_115 52), .code (C_115 53), .code (C_115 7)] ?_
    refine Runs.sR hE ⟨[(4, (.op 32 0 0)), (5, (aI 2))], [(32, vO 4 [(aB false), .nil, (aB false), .nil])], 160⟩ (C_115 52) [] [] (kp [4, 5]) (kq [32]) 160 [0 < 1] ⟨o1, trivial⟩ ?_
    obtain rfl := Option.some.inj h
    refine Runs.sW hE ⟨[(4, (.op 16 0 0)), (5, (aI 2))], [(16, vO 4 [(aB false), (encL (cU .u16) 0 ([] : List Int)), (aB false), (encL (cU .u16) 0 ([] : List Int))])], 160⟩ [] (kp [4, 5]) [(16, .var 32 [.keep, .sl (([] : List Int).length) (fun zi => (cU .u16) (([] : List Int).getD zi 0)), .keep, .sl (([] : List Int).length) (fun zi => (cU .u16) (([] : List Int).getD zi 0))])] 160 [([] : List Int).length = 0, ([] : List Int).length = 0] ⟨rfl, rfl, trivial⟩ ?_
    exact Runs.sT Try.f72 [16] [0 < 1] ⟨o1, trivial⟩
  · have h := condF h hq2
    refine Runs.sA 3 [.code (C_115 28), .code (C_115 29), .code (C_115 15)] ?_
    refine Runs.sR hE ⟨[(2, (.op 0 0 0)), (3, (.op 16 0 0)), (4, (.op 32 0 0)), (6, (aI 0))], [(0, vO 2 (Tapi_Curve.cells c)), (16, vO 4 (Tapi_Rat.cells v)), (32, vO 4 [(aB false), .nil, (aB false), .nil])], 128⟩ (C_115 28) [] [] (kp [2, 3, 4, 6]) (kq [0, 16, 32]) 128 [] trivial ?_
    refine Runs.sA 2 [.code (C_115 116), .inLoop (C_115 116), .inBlock 0, .code (C_115 15)] ?_
    exact Runs.sW hE _ [] (kp [2, 3, 4, 6]) (kq [0] ++ [(1, .keep 16), (2, .keep 32)]) 3 [] trivial (g_r01_Reach_L1_ok N c v N 0 _ h E hE)

noncomputable def C_118 (n : Nat) : Code := cat (bodyOf Try.f73) (pth n)

theorem g_r01_Capacity_ok (N : Nat) (c : Tapi_Curve) (r : Tapi_Rat × Bool) (h : g_r01_Capacity N c = some r) : Sound Try.prog 73 [(.agg (Tapi_Curve.cells c))] [] 0 (.tup [(.agg (Tapi_Rat.cells r.1)), (aB r.2)]) [] := by
  unfold g_r01_Capacity at h
  refine Sound.of_runs (fu := Try.f73) (c := C_118 1) (nt := 29) (by kernel_rfl) (by kernel_rfl) (by kernel_rfl) (by kernel_rfl) (fun hm => rfl) ?_
  intro E hE
  refine Runs.sA 1 [.code (C_118 2), .code (C_118 3)] ?_
  refine Runs.sR hE ⟨[(1, (.op 0 0 0)), (2, (.op 16 0 0))], [(0, vO 2 (Tapi_Curve.cells c)), (16, vO 4 [(aB false), .nil, (aB false), .nil])], 48⟩ (C_118 2) [] [] (kp [1, 2]) (kq [0, 16]) 48 [] trivial ?_
  refine Runs.sA 1 [.code (C_118 6), .code (C_118 7)] ?_
  refine Runs.sR hE ⟨[(1, (.op 0 0 0)), (2, (.op 16 0 0)), (4, (aI ((c.f_Starts.length : Nat) : Int)))], [(0, vO 2 (Tapi_Curve.cells c)), (16, vO 4 [(aB false), .nil, (aB false), .nil])], 112⟩ (C_118 6) [] [] (kp [1, 2, 4]) (kq [0, 16]) 112 [0 < 1] ⟨o1, trivial⟩ ?_
  refine Runs.sA 2 [.code (C_118 28), .code (C_118 29), .code (C_118 15)] ?_
  refine Runs.sR hE ⟨[(1, (.op 0 0 0)), (2, (.op 16 0 0)), (4, (aI ((c.f_Starts.length : Nat) : Int))), (9, (aB (((c.f_Starts.length : Nat) : Int) == 0)))], [(0, vO 2 (Tapi_Curve.cells c)), (16, vO 4 [(aB false), .nil, (aB false), .nil])], 144⟩ (C_118 28) [] [] (kp [1, 2, 4, 9]) (kq [0, 16]) 144 [] trivial ?_
  refine Runs.sC 9 (C_118 58) (C_118 59) (((c.f_Starts.length : Nat) : Int) == 0) (fun hq2 => ?_) (fun hq2 => ?_)
  · have h := condT h hq2
    refine Runs.sA 1 [.code (C_118 116), .code (C_118 117), .code (C_118 15)] ?_
    obtain ⟨rQ, hr, h⟩ := bindSome h
    refine Runs.sR hE ⟨[(2, (.op 16 0 0)), (3, (aB true))], [(16, vO 4 (Tapi_Rat.cells rQ))], 192⟩ (C_118 116) [(0, ⟨[], true, (.agg (Tapi_Rat.cells rQ)), [], 0, false, none⟩)] [] (kp [2, 3]) (kq [16]) 192 [Sound Try.prog 132 [(aI 0)] [] 0 (.agg (Tapi_Rat.cells rQ)) [], 0 < 1] ⟨(g_r01_Q_ok N 0 rQ hr), o1, trivial⟩ ?_
    obtain rfl := Option.some.inj h
    refine Runs.sW hE ⟨[(2, (.op 16 0 0)), (3, (aB true))], [(16, vO 4 (Tapi_Rat.cells rQ))], 192⟩ [] (kp [2, 3]) (kq [16]) 192 [] trivial ?_
    exact Runs.sT Try.f73 [16] [0 < 1] ⟨o1, trivial⟩
  · have h := condF h hq2
    refine Runs.sA 3 [.code (C_118 60), .code (C_118 61), .code (C_118 31)] ?_
    obtain ⟨c2, h⟩ := ifSome h
    obtain ⟨rSignRat, hr2, h⟩ := bindSome h
    refine Runs.sR hE ⟨[(1, (.op 0 0 0)), (2, (.op 16 0 0)), (4, (aI ((c.f_Starts.length : Nat) : Int))), (18, (aB (rSignRat != 0)))], [(0, vO 2 (Tapi_Curve.cells c)), (16, vO 4 [(aB false), .nil, (aB false), .nil])], 272⟩ (C_118 60) [(6, ⟨[], true, (aI rSignRat), [], 0, false, none⟩)] [] (kp [1, 2, 4, 18]) (kq [0, 16]) 272 [0 < 1, 0 ≤ (w64 (((c.f_Starts.length : Nat) : Int) - 1)) ∧ (w64 (((c.f_Starts.length : Nat) : Int) - 1)) < ((c.f_Slopes.length : Nat) : Int), Sound Try.prog 42 [(.agg [(aB (((c.f_Slopes.getD ((w64 (((c.f_Starts.length : Nat) : Int) - 1)).toNat) Tapi_Rat.d).f_Num).f_Neg)), (encL (cU .u16) 0 (((c.f_Slopes.getD ((w64 (((c.f_Starts.length : Nat) : Int) - 1)).toNat) Tapi_Rat.d).f_Num).f_Limbs)), (aB (((c.f_Slopes.getD ((w64 (((c.f_Starts.length : Nat) : Int) - 1)).toNat) Tapi_Rat.d).f_Den).f_Neg)), (encL (cU .u16) 0 (((c.f_Slopes.getD ((w64 (((c.f_Starts.length : Nat) : Int) - 1)).toNat) Tapi_Rat.d).f_Den).f_Limbs))])] [] 0 (aI rSignRat) []] ⟨o1, c2, (g_r01_SignRat_ok N (⟨((c.f_Slopes.getD ((w64 (((c.f_Starts.length : Nat) : Int) - 1)).toNat) Tapi_Rat.d).f_Num), ((c.f_Slopes.getD ((w64 (((c.f_Starts.length : Nat) : Int) - 1)).toNat) Tapi_Rat.d).f_Den)⟩ : Tapi_Rat) rSignRat hr2), trivial⟩ ?_
    refine Runs.sC 18 (C_118 122) (C_118 123) (rSignRat != 0) (fun hq3 => ?_) (fun hq3 => ?_)
    · have h := condT h hq3
      refine Runs.sA 1 [.code (C_118 244), .code (C_118 245), .code (C_118 31)] ?_
      refine Runs.sR hE ⟨[(2, (.op 16 0 0)), (3, (aB false))], [(16, vO 4 [(aB false), .nil, (aB false), .nil])], 320⟩ (C_118 244) [] [] (kp [2, 3]) (kq [16]) 320 [0 < 1] ⟨o1, trivial⟩ ?_
      obtain rfl := Option.some.inj h
      refine Runs.sW hE ⟨[(2, (.op 16 0 0)), (3, (aB false))], [(16, vO 4 [(aB false), (encL (cU .u16) 0 ([] : List Int)), (aB false), (encL (cU .u16) 0 ([] : List Int))])], 320⟩ [] (kp [2, 3]) [(16, .var 16 [.keep, .sl (([] : List Int).length) (fun zi => (cU .u16) (([] : List Int).getD zi 0)), .keep, .sl (([] : List Int).length) (fun zi => (cU .u16) (([] : List Int).getD zi 0))])] 320 [([] : List Int).length = 0, ([] : List Int).length = 0] ⟨rfl, rfl, trivial⟩ ?_
      exact Runs.sT Try.f73 [16] [0 < 1] ⟨o1, trivial⟩
    · have h := condF h hq3
      refine Runs.sA 2 [.code (C_118 62), .code (C_118 63)] ?_
      obtain ⟨c3, h⟩ := ifSome h
      obtain ⟨rQ2, hr3, h⟩ := bindSome h
      obtain ⟨rValue, hr4, h⟩ := bindSome h
      refine Runs.sR hE ⟨[(2, (.op 16 0 0)), (3, (aB true))], [(16, vO 4 (Tapi_Rat.cells rValue))], 448⟩ (C_118 62) [(7, ⟨[], true, (.agg (Tapi_Rat.cells rQ2)), [], 0, false, none⟩), (8, ⟨[], true, (.agg (Tapi_Rat.cells rValue)), [], 0, false, none⟩)] [] (kp [2, 3]) (kq [16]) 448 [0 < 1, 0 < 1, 0 ≤ (w64 (((c.f_Starts.length : Nat) : Int) - 1)) ∧ (w64 (((c.f_Starts.length : Nat) : Int) - 1)) < ((c.f_Starts.length : Nat) : Int), Sound Try.prog 132 [(aI (c.f_Starts.getD ((w64 (((c.f_Starts.length : Nat) : Int) - 1)).toNat) 0))] [] 0 (.agg (Tapi_Rat.cells rQ2)) [], Sound Try.prog 74 [(.agg (Tapi_Curve.cells c)), (.agg (Tapi_Rat.cells rQ2))] [] 0 (.agg (Tapi_Rat.cells rValue)) [], 0 < 1] ⟨o1, o1, c3, (g_r01_Q_ok N (c.f_Starts.getD ((w64 (((c.f_Starts.length : Nat) : Int) - 1)).toNat) 0) rQ2 hr3), (g_r01_Value_ok N c rQ2 rValue hr4), o1, trivial⟩ ?_
      obtain rfl := Option.some.inj h
      refine Runs.sW hE ⟨[(2, (.op 16 0 0)), (3, (aB true))], [(16, vO 4 (Tapi_Rat.cells rValue))], 448⟩ [] (kp [2, 3]) (kq [16]) 448 [] trivial ?_
      exact Runs.sT Try.f73 [16] [0 < 1] ⟨o1, trivial⟩

noncomputable def C_119 (n : Nat) : Code := cat (bodyOf Try.f76) (pth n)

theorem g_r01_Integral_J2_ok (N : Nat) (c : Tapi_Curve) (y : Tapi_Rat) (i : Int) (K_g_r01_Integral_L1 : Tapi_Rat → Int → Option (Tapi_Rat))
    (hK_g_r01_Integral_L1 : ∀ (out : Tapi_Rat) (i : Int) (r : Tapi_Rat), K_g_r01_Integral_L1 out i = some r → ∀ E, EnvOk E 0 → Runs Try.prog E 76 54 (SPost E [] (.agg (Tapi_Rat.cells r))) [.code (C_119 116), .inLoop (C_119 116), .inBlock 0, .code (C_119 15)] ⟨[(2, (.op 0 0 0)), (3, (.op 1 0 0)), (4, (.op 2 0 0)), (5, (.op 3 0 0)), (6, (aI i))], [(0, vO 2 (Tapi_Curve.cells c)), (1, vO 4 (Tapi_Rat.cells y)), (2, vO 4 [(aB false), .nil, (aB false), .nil]), (3, vO 4 (Tapi_Rat.cells out))], 4⟩) (out2 : Tapi_Rat) (r : Tapi_Rat) (h : g_r01_Integral_J2 N c y i K_g_r01_Integral_L1 out2 = some r) : ∀ E, EnvOk E 0 → Runs Try.prog E 76 54 (SPost E [] (.agg (Tapi_Rat.cells r))) [.code (C_119 467), .inLoop (C_119 116), .inBlock 0, .code (C_119 15)] ⟨[(2, (.op 0 0 0)), (3, (.op 1 0 0)), (4, (.op 2 0 0)), (5, (.op 3 0 0)), (6, (aI i))], [(0, vO 2 (Tapi_Curve.cells c)), (1, vO 4 (Tapi_Rat.cells y)), (2, vO 4 [(aB false), .nil, (aB false), .nil]), (3, vO 4 (Tapi_Rat.cells out2))], 4⟩ := by
  intro E hE
  unfold g_r01_Integral_J2 at h
  refine Runs.sR hE ⟨[(2, (.op 0 0 0)), (3, (.op 1 0 0)), (4, (.op 2 0 0)), (5, (.op 3 0 0)), (6, (aI (w64 (i + 1))))], [(0, vO 2 (Tapi_Curve.cells c)), (1, vO 4 (Tapi_Rat.cells y)), (2, vO 4 [(aB false), .nil, (aB false), .nil]), (3, vO 4 (Tapi_Rat.cells out2))], 52⟩ (C_119 467) [] [] (kp [2, 3, 4, 5, 6]) (kq [0, 1, 2, 3]) 52 [] trivial ?_
  refine Runs.sA 1 [.code (C_119 116), .inLoop (C_119 116), .inBlock 0, .code (C_119 15)] ?_
  exact Runs.sW hE _ [] (kp [2, 3, 4, 5, 6]) (kq [0, 1, 2, 3]) 4 [] trivial (hK_g_r01_Integral_L1 out2 (w64 (i + 1)) _ h E hE)

theorem g_r01_Integral_L1_ok (N : Nat) (c : Tapi_Curve) (y : Tapi_Rat) (fuel : Nat) : ∀ (out : Tapi_Rat) (i : Int) (r : Tapi_Rat), g_r01_Integral_L1 N c y fuel out i = some r → ∀ E, EnvOk E 0 → Runs Try.prog E 76 54 (SPost E [] (.agg (Tapi_Rat.cells r))) [.code (C_119 116), .inLoop (C_119 116), .inBlock 0, .code (C_119 15)] ⟨[(2, (.op 0 0 0)), (3, (.op 1 0 0)), (4, (.op 2 0 0)), (5, (.op 3 0 0)), (6, (aI i))], [(0, vO 2 (Tapi_Curve.cells c)), (1, vO 4 (Tapi_Rat.cells y)), (2, vO 4 [(aB false), .nil, (aB false), .nil]), (3, vO 4 (Tapi_Rat.cells out))], 4⟩ := by
  induction fuel with
  | zero => intro _ _ r h; rw [g_r01_Integral_L1.eq_1] at h; cases h
  | succ fuel ih =>
    intro out i r h E hE
    rw [g_r01_Integral_L1.eq_2] at h
    refine Runs.sA 2 [.code (C_119 464), .code (C_119 465), .code (C_119 233), .inLoop (C_119 116), .inBlock 0, .code (C_119 15)] ?_
    refine Runs.sR hE ⟨[(2, (.op 0 0 0)), (3, (.op 1 0 0)), (4, (.op 2 0 0)), (5, (.op 3 0 0)), (6, (aI i)), (15, (aB (decide (i < ((c.f_Starts.length : Nat) : Int)))))], [(0, vO 2 (Tapi_Curve.cells c)), (1, vO 4 (Tapi_Rat.cells y)), (2, vO 4 [(aB false), .nil, (aB false), .nil]), (3, vO 4 (Tapi_Rat.cells out))], 84⟩ (C_119 464) [] [] (kp [2, 3, 4, 5, 6, 15]) (kq [0, 1, 2, 3]) 84 [0 < 1] ⟨o1, trivial⟩ ?_
    refine Runs.sC 15 (C_119 930) (C_119 931) (decide (i < ((c.f_Starts.length : Nat) : Int))) (fun hq2 => ?_) (fun hq2 => ?_)
    · have h := condT h hq2
      refine Runs.sA 4 [.code (C_119 1864), .code (C_119 1865), .inBlock 1, .code (C_119 467), .inLoop (C_119 116), .inBlock 0, .code (C_119 15)] ?_
      obtain ⟨rpiece, hr2, h⟩ := bindSome h
      refine Runs.sR hE ⟨[(2, (.op 0 0 0)), (3, (.op 1 0 0)), (4, (.op 2 0 0)), (5, (.op 3 0 0)), (6, (aI i)), (7, (.op 148 0 0))], [(0, vO 2 (Tapi_Curve.cells c)), (1, vO 4 (Tapi_Rat.cells y)), (2, vO 4 [(aB false), .nil, (aB false), .nil]), (3, vO 4 (Tapi_Rat.cells out)), (148, vO 4 (Tapi_Rat.cells rpiece))], 180⟩ (C_119 1864) [(3, ⟨[], true, (.agg (Tapi_Rat.cells rpiece)), [], 0, false, none⟩)] [] (kp [2, 3, 4, 5, 6, 7]) (kq [0, 1, 2, 3, 148]) 180 [0 < 1, 0 < 1, Sound Try.prog 133 [(.agg (Tapi_Curve.cells c)), (aI i), (.agg (Tapi_Rat.cells y))] [] 0 (.agg (Tapi_Rat.cells rpiece)) [], 0 < 1] ⟨o1, o1, (g_r01_piece_ok N c i y rpiece hr2), o1, trivial⟩ ?_
      refine Runs.sA 2 [.code (C_119 7460), .code (C_119 7461), .code (C_119 3731), .inBlock 1, .code (C_119 467), .inLoop (C_119 116), .inBlock 0, .code (C_119 15)] ?_
      obtain ⟨rSignRat, hr3, h⟩ := bindSome h
      refine Runs.sR hE ⟨[(2, (.op 0 0 0)), (3, (.op 1 0 0)), (4, (.op 2 0 0)), (5, (.op 3 0 0)), (6, (aI i)), (7, (.op 148 0 0)), (24, (aB (rSignRat == 0)))], [(0, vO 2 (Tapi_Curve.cells c)), (1, vO 4 (Tapi_Rat.cells y)), (2, vO 4 [(aB false), .nil, (aB false), .nil]), (3, vO 4 (Tapi_Rat.cells out)), (148, vO 4 (Tapi_Rat.cells rpiece))], 228⟩ (C_119 7460) [(1, ⟨[], true, (aI rSignRat), [], 0, false, none⟩)] [] (kp [2, 3, 4, 5, 6, 7, 24]) (kq [0, 1, 2, 3, 148]) 228 [0 < 1, Sound Try.prog 42 [(.agg (Tapi_Rat.cells rpiece))] [] 0 (aI rSignRat) []] ⟨o1, (g_r01_SignRat_ok N rpiece rSignRat hr3), trivial⟩ ?_
      refine Runs.sC 24 (C_119 14922) (C_119 14923) (rSignRat == 0) (fun hq3 => ?_) (fun hq3 => ?_)
      · have h := condT h hq3
        refine Runs.sA 1 [.code (C_119 467), .inLoop (C_119 116), .inBlock 0, .code (C_119 15)] ?_
        exact Runs.sW hE _ [] (kp [2, 3, 4, 5, 6]) (kq [0, 1, 2, 3]) 4 [] trivial (g_r01_Integral_J2_ok N c y i (g_r01_Integral_L1 N c y fuel) ih out _ h E hE)
      · have h := condF h hq3
        refine Runs.sA 2 [.code (C_119 7462), .code (C_119 7463), .inBlock 1, .code (C_119 467), .inLoop (C_119 116), .inBlock 0, .code (C_119 15)] ?_
        obtain ⟨c2, h⟩ := ifSome h
        obtain ⟨rQ2, hr4, h⟩ := bindSome h
        obtain ⟨rValue, hr5, h⟩ := bindSome h
        refine Runs.sR hE ⟨[(2, (.op 0 0 0)), (3, (.op 1 0 0)), (4, (.op 2 0 0)), (5, (.op 3 0 0)), (6, (aI i)), (7, (.op 148 0 0)), (8, (.op 356 0 0))], [(0, vO 2 (Tapi_Curve.cells c)), (1, vO 4 (Tapi_Rat.cells y)), (2, vO 4 [(aB false), .nil, (aB false), .nil]), (3, vO 4 (Tapi_Rat.cells out)), (148, vO 4 (Tapi_Rat.cells rpiece)), (356, vO 4 (Tapi_Rat.cells rValue))], 388⟩ (C_119 7462) [(6, ⟨[], true, (.agg (Tapi_Rat.cells rQ2)), [], 0, false, none⟩), (7, ⟨[], true, (.agg (Tapi_Rat.cells rValue)), [], 0, false, none⟩)] [] (kp [2, 3, 4, 5, 6, 7, 8]) (kq [0, 1, 2, 3, 148, 356]) 388 [0 < 1, 0 < 1, 0 ≤ i ∧ i < ((c.f_Starts.length : Nat) : Int), Sound Try.prog 132 [(aI (c.f_Starts.getD ((i).toNat) 0))] [] 0 (.agg (Tapi_Rat.cells rQ2)) [], Sound Try.prog 74 [(.agg (Tapi_Curve.cells c)), (.agg (Tapi_Rat.cells rQ2))] [] 0 (.agg (Tapi_Rat.cells rValue)) [], 0 < 1] ⟨o1, o1, c2, (g_r01_Q_ok N (c.f_Starts.getD ((i).toNat) 0) rQ2 hr4), (g_r01_Value_ok N c rQ2 rValue hr5), o1, trivial⟩ ?_
        refine Runs.sA 1 [.code (C_119 14926), .code (C_119 14927), .inBlock 1, .code (C_119 467), .inLoop (C_119 116), .inBlock 0, .code (C_119 15)] ?_
        obtain ⟨c3, h⟩ := ifSome h
        obtain ⟨rMulRat, hr6, h⟩ := bindSome h
        obtain ⟨rMulRat2, hr7, h⟩ := bindSome h
        obtain ⟨rOf, hr8, h⟩ := bindSome h
        obtain ⟨rOf2, hr9, h⟩ := bindSome h
        obtain ⟨rOver, hr10, h⟩ := bindSome h
        obtain ⟨rMulRat3, hr11, h⟩ := bindSome h
        refine Runs.sR hE ⟨[(2, (.op 0 0 0)), (3, (.op 1 0 0)), (4, (.op 2 0 0)), (5, (.op 3 0 0)), (6, (aI i)), (7, (.op 148 0 0)), (8, (.op 356 0 0)), (9, (.op 596 0 0))], [(0, vO 2 (Tapi_Curve.cells c)), (1, vO 4 (Tapi_Rat.cells y)), (2, vO 4 [(aB false), .nil, (aB false), .nil]), (3, vO 4 (Tapi_Rat.cells out)), (148, vO 4 (Tapi_Rat.cells rpiece)), (356, vO 4 (Tapi_Rat.cells rValue)), (596, vO 4 (Tapi_Rat.cells rMulRat3))], 628⟩ (C_119 14926) [(7, ⟨[], true, (.agg (Tapi_Rat.cells rMulRat)), [], 0, false, none⟩), (8, ⟨[], true, (.agg (Tapi_Rat.cells rMulRat2)), [], 0, false, none⟩), (9, ⟨[], true, (.agg (Tapi_Int.cells rOf)), [], 0, false, none⟩), (10, ⟨[], true, (.agg (Tapi_Int.cells rOf2)), [], 0, false, none⟩), (11, ⟨[], true, (.agg (Tapi_Rat.cells rOver)), [], 0, false, none⟩), (12, ⟨[], true, (.agg (Tapi_Rat.cells rMulRat3)), [], 0, false, none⟩)] [] (kp [2, 3, 4, 5, 6, 7, 8, 9]) (kq [0, 1, 2, 3, 148, 356, 596]) 628 [0 < 1, 0 ≤ i ∧ i < ((c.f_Slopes.length : Nat) : Int), 0 < 1, 0 < 1, Sound Try.prog 48 [(.agg (Tapi_Rat.cells rpiece)), (.agg (Tapi_Rat.cells rpiece))] [] 0 (.agg (Tapi_Rat.cells rMulRat)) [], Sound Try.prog 48 [(.agg [(aB (((c.f_Slopes.getD ((i).toNat) Tapi_Rat.d).f_Num).f_Neg)), (encL (cU .u16) 0 (((c.f_Slopes.getD ((i).toNat) Tapi_Rat.d).f_Num).f_Limbs)), (aB (((c.f_Slopes.getD ((i).toNat) Tapi_Rat.d).f_Den).f_Neg)), (encL (cU .u16) 0 (((c.f_Slopes.getD ((i).toNat) Tapi_Rat.d).f_Den).f_Limbs))]), (.agg (Tapi_Rat.cells rMulRat))] [] 0 (.agg (Tapi_Rat.cells rMulRat2)) [], Sound Try.prog 24 [(aI 1)] [] 0 (.agg (Tapi_Int.cells rOf)) [], Sound Try.prog 24 [(aI 2)] [] 0 (.agg (Tapi_Int.cells rOf2)) [], Sound Try.prog 45 [(.agg (Tapi_Int.cells rOf)), (.agg (Tapi_Int.cells rOf2))] [] 0 (.agg (Tapi_Rat.cells rOver)) [], Sound Try.prog 48 [(.agg (Tapi_Rat.cells rMulRat2)), (.agg (Tapi_Rat.cells rOver))] [] 0 (.agg (Tapi_Rat.cells rMulRat3)) [], 0 < 1] ⟨o1, c3, o1, o1, (g_r01_MulRat_ok N rpiece rpiece rMulRat hr6), (g_r01_MulRat_ok N (⟨((c.f_Slopes.getD ((i).toNat) Tapi_Rat.d).f_Num), ((c.f_Slopes.getD ((i).toNat) Tapi_Rat.d).f_Den)⟩ : Tapi_Rat) rMulRat rMulRat2 hr7), (g_r01_Of_ok N 1 rOf hr8), (g_r01_Of_ok N 2 rOf2 hr9), (g_r01_Over_ok N rOf rOf2 rOver hr10), (g_r01_MulRat_ok N rMulRat2 rOver rMulRat3 hr11), o1, trivial⟩ ?_
        obtain ⟨rMulRat4, hr12, h⟩ := bindSome h
        obtain ⟨rAddRat, hr13, h⟩ := bindSome h
        obtain ⟨rAddRat2, hr14, h⟩ := bindSome h
        refine Runs.sR hE ⟨[(2, (.op 0 0 0)), (3, (.op 1 0 0)), (4, (.op 2 0 0)), (5, (.op 3 0 0)), (6, (aI i))], [(0, vO 2 (Tapi_Curve.cells c)), (1, vO 4 (Tapi_Rat.cells y)), (2, vO 4 [(aB false), .nil, (aB false), .nil]), (3, vO 4 (Tapi_Rat.cells rAddRat2))], 756⟩ (C_119 14927) [(3, ⟨[], true, (.agg (Tapi_Rat.cells rMulRat4)), [], 0, false, none⟩), (5, ⟨[], true, (.agg (Tapi_Rat.cells rAddRat)), [], 0, false, none⟩), (6, ⟨[], true, (.agg (Tapi_Rat.cells rAddRat2)), [], 0, false, none⟩)] [] (kp [2, 3, 4, 5, 6]) (kq [0, 1, 2, 3]) 756 [0 < 1, 0 < 1, 0 < 1, Sound Try.prog 48 [(.agg (Tapi_Rat.cells rValue)), (.agg (Tapi_Rat.cells rpiece))] [] 0 (.agg (Tapi_Rat.cells rMulRat4)) [], 0 < 1, Sound Try.prog 46 [(.agg (Tapi_Rat.cells rMulRat4)), (.agg (Tapi_Rat.cells rMulRat3))] [] 0 (.agg (Tapi_Rat.cells rAddRat)) [], Sound Try.prog 46 [(.agg (Tapi_Rat.cells out)), (.agg (Tapi_Rat.cells rAddRat))] [] 0 (.agg (Tapi_Rat.cells rAddRat2)) [], 0 < 1] ⟨o1, o1, o1, (g_r01_MulRat_ok N rValue rpiece rMulRat4 hr12), o1, (g_r01_AddRat_ok N rMulRat4 rMulRat3 rAddRat hr13), (g_r01_AddRat_ok N out rAddRat rAddRat2 hr14), o1, trivial⟩ ?_
        refine Runs.sA 1 [.code (C_119 467), .inLoop (C_119 116), .inBlock 0, .code (C_119 15)] ?_
        exact Runs.sW hE _ [] (kp [2, 3, 4, 5, 6]) (kq [0, 1, 2, 3]) 4 [] trivial (g_r01_Integral_J2_ok N c y i (g_r01_Integral_L1 N c y fuel) ih rAddRat2 _ h E hE)
    · have h := condF h hq2
      refine Runs.sA 2 [.code (C_119 30), .code (C_119 31)] ?_
      refine Runs.sR hE ⟨[(4, (.op 2 0 0))], [(2, vO 4 (Tapi_Rat.cells out))], 116⟩ (C_119 30) [] [] (kp [4]) (kq [2]) 116 [0 < 1, 0 < 1] ⟨o1, o1, trivial⟩ ?_
      obtain rfl := Option.some.inj h
      refine Runs.sW hE ⟨[(4, (.op 16 0 0))], [(16, vO 4 (Tapi_Rat.cells out))], 116⟩ [] (kp [4]) [(16, .keep 2)] 116 [] trivial ?_
      exact Runs.sT Try.f76 [16] [0 < 1] ⟨o1, trivial⟩

theorem g_r01_Integral_ok (N : Nat) (c : Tapi_Curve) (y : Tapi_Rat) (r : Tapi_Rat) (h : g_r01_Integral N c y = some r) : Sound Try.prog 76 [(.agg (Tapi_Curve.cells c)), (.agg (Tapi_Rat.cells y))] [] 0 (.agg (Tapi_Rat.cells r)) [] := by
  unfold g_r01_Integral at h
  refine Sound.of_runs (fu := Try.f76) (c := C_119 1) (nt := 54) (by kernel_rfl) (by kernel_rfl) (by kernel_rfl) (by kernel_rfl) (fun hm => rfl) ?_
  intro E hE
  refine Runs.sA 1 [.code (C_119 2), .code (C_119 3)] ?_
  refine Runs.sR hE ⟨[(2, (.op 0 0 0)), (3, (.op 16 0 0)), (4, (.op 32 0 0))], [(0, vO 2 (Tapi_Curve.cells c)), (16, vO 4 (Tapi_Rat.cells y)), (32, vO 4 [(aB false), .nil, (aB false), .nil])], 48⟩ (C_119 2) [] [] (kp [2, 3, 4]) (kq [0, 16, 32]) 48 [] trivial ?_
  refine Runs.sA 1 [.code (C_119 6), .code (C_119 7)] ?_
  obtain ⟨rQ, hr, h⟩ := bindSome h
  refine Runs.sR hE ⟨[(2, (.op 0 0 0)), (3, (.op 16 0 0)), (4, (.op 32 0 0)), (5, (.op 64 0 0))], [(0, vO 2 (Tapi_Curve.cells c)), (16, vO 4 (Tapi_Rat.cells y)), (32, vO 4 [(aB false), .nil, (aB false), .nil]), (64, vO 4 (Tapi_Rat.cells rQ))], 96⟩ (C_119 6) [(0, ⟨[], true, (.agg (Tapi_Rat.cells rQ)), [], 0, false, none⟩)] [] (kp [2, 3, 4, 5]) (kq [0, 16, 32, 64]) 96 [Sound Try.prog 132 [(aI 0)] [] 0 (.agg (Tapi_Rat.cells rQ)) [], 0 < 1] ⟨(g_r01_Q_ok N 0 rQ hr), o1, trivial⟩ ?_
  refine Runs.sA 2 [.code (C_119 28), .code (C_119 29), .code (C_119 15)] ?_
  refine Runs.sR hE ⟨[(2, (.op 0 0 0)), (3, (.op 16 0 0)), (4, (.op 32 0 0)), (5, (.op 64 0 0)), (6, (aI 0))], [(0, vO 2 (Tapi_Curve.cells c)), (16, vO 4 (Tapi_Rat.cells y)), (32, vO 4 [(aB false), .nil, (aB false), .nil]), (64, vO 4 (Tapi_Rat.cells rQ))], 112⟩ (C_119 28) [] [] (kp [2, 3, 4, 5, 6]) (kq [0, 16, 32, 64]) 112 [] trivial ?_
  refine Runs.sA 2 [.code (C_119 116), .inLoop (C_119 116), .inBlock 0, .code (C_119 15)] ?_
  exact Runs.sW hE _ [] (kp [2, 3, 4, 5, 6]) (kq [0] ++ [(1, .keep 16), (2, .keep 32), (3, .keep 64)]) 4 [] trivial (g_r01_Integral_L1_ok N c y N rQ 0 _ h E hE)

noncomputable def C_111 (n : Nat) : Code := cat (bodyOf Try.f10) (pth n)

theorem g_w01_ExactCurves_ok (N : Nat) (c : Tapi_Curve) (y : Tapi_Rat) (r : Bool) (h : g_w01_ExactCurves N c y = some r) : Sound Try.prog 10 [(.agg (Tapi_Curve.cells c)), (.agg (Tapi_Rat.cells y))] [] 0 (aB r) [] := by
  unfold g_w01_ExactCurves at h
  refine Sound.of_runs (fu := Try.f10) (c := C_111 1) (nt := 163) (by kernel_rfl) (by kernel_rfl) (by kernel_rfl) (by kernel_rfl) (fun hm => rfl) ?_
  intro E hE
  refine Runs.sA 1 [.code (C_111 2), .code (C_111 3)] ?_
  refine Runs.sR hE ⟨[(2, (.op 0 0 0)), (3, (.op 16 0 0))], [(0, vO 2 (Tapi_Curve.cells c)), (16, vO 4 (Tapi_Rat.cells y))], 48⟩ (C_111 2) [] [] (kp [2, 3]) (kq [0, 16]) 48 [] trivial ?_
  refine Runs.sA 2 [.code (C_111 12), .code (C_111 13), .code (C_111 7)] ?_
  obtain ⟨rheavy, hr, h⟩ := bindSome h
  obtain ⟨rwide, hr2, h⟩ := bindSome h
  refine Runs.sR hE ⟨[(2, (.op 0 0 0)), (3, (.op 16 0 0)), (26, (aB (cond rheavy true rwide)))], [(0, vO 2 (Tapi_Curve.cells c)), (16, vO 4 (Tapi_Rat.cells y))], 144⟩ (C_111 12) [(1, ⟨[], true, (aB rheavy), [], 0, false, none⟩), (4, ⟨[], true, (aB rwide), [], 0, false, none⟩)] [] (kp [2, 3, 26]) (kq [0, 16]) 144 [0 < 1, Sound Try.prog 54 [(.agg (Tapi_Curve.cells c))] [] 0 (aB rheavy) [], (!rheavy) = true → AllP [0 < 1], (!rheavy) = true → AllP [Sound Try.prog 31 [(.agg (Tapi_Rat.cells y))] [] 0 (aB rwide) [], (!rheavy) = true], (!rheavy) = true → AllP [(!rheavy) = true]] ⟨o1, (g_w01_heavy_ok N c rheavy hr), (fun hg => ⟨o1, trivial⟩), (fun hg => ⟨(g_w01_wide_ok N y rwide (condT hr2 hg)), hg, trivial⟩), (fun hq => ⟨hq, trivial⟩), trivial⟩ ?_
  refine Runs.sC 26 (C_111 26) (C_111 27) (cond rheavy true rwide) (fun hq2 => ?_) (fun hq2 => ?_)
  · have h := condT h hq2
    refine Runs.sA 1 [.code (C_111 52), .code (C_111 53), .code (C_111 7)] ?_
    obtain ⟨rawake, hr3, h⟩ := bindSome h
    refine Runs.sR hE ⟨[(4, (aB rawake))], [], 176⟩ (C_111 52) [(0, ⟨[], true, (aB rawake), [], 0, false, none⟩)] [] (kp [4]) [] 176 [Sound Try.prog 14 [] [] 0 (aB rawake) []] ⟨(g_w01_awake_ok N rawake hr3), trivial⟩ ?_
    obtain rfl := Option.some.inj h
    refine Runs.sW hE ⟨[(4, (aB rawake))], [], 176⟩ [] (kp [4]) [] 176 [] trivial ?_
    exact Runs.sT Try.f10 [] [] trivial
  · have h := condF h hq2
    refine Runs.sA 2 [.code (C_111 14), .code (C_111 15)] ?_
    obtain ⟨rCheckCurve, hr4, h⟩ := bindSome h
    refine Runs.sR hE ⟨[(2, (.op 0 0 0)), (3, (.op 16 0 0)), (5, (aI rCheckCurve))], [(0, vO 2 (Tapi_Curve.cells c)), (16, vO 4 (Tapi_Rat.cells y))], 192⟩ (C_111 14) [(1, ⟨[], true, (aI rCheckCurve), [], 0, false, none⟩)] [] (kp [2, 3, 5]) (kq [0, 16]) 192 [0 < 1, Sound Try.prog 55 [(.agg (Tapi_Curve.cells c))] [] 0 (aI rCheckCurve) []] ⟨o1, (g_r01_CheckCurve_ok N c rCheckCurve hr4), trivial⟩ ?_
    refine Runs.sA 1 [.code (C_111 30), .code (C_111 31)] ?_
    obtain ⟨rValue, hr5, h⟩ := bindSome h
    refine Runs.sR hE ⟨[(2, (.op 0 0 0)), (3, (.op 16 0 0)), (5, (aI rCheckCurve)), (6, (.op 288 0 0)), (7, (aI rValue.2))], [(0, vO 2 (Tapi_Curve.cells c)), (16, vO 4 (Tapi_Rat.cells y)), (288, vO 4 (Tapi_Rat.cells rValue.1))], 336⟩ (C_111 30) [(2, ⟨[], true, (.tup [(.agg (Tapi_Rat.cells rValue.1)), (aI rValue.2)]), [], 0, false, none⟩)] [] (kp [2, 3, 5, 6, 7]) (kq [0, 16, 288]) 336 [0 < 1, 0 < 1, Sound Try.prog 56 [(.agg (Tapi_Curve.cells c)), (.agg (Tapi_Rat.cells y))] [] 0 (.tup [(.agg (Tapi_Rat.cells rValue.1)), (aI rValue.2)]) [], 0 < 1] ⟨o1, o1, (g_exact_Value_ok N c y rValue hr5), o1, trivial⟩ ?_
    refine Runs.sA 1 [.code (C_111 62), .code (C_111 63)] ?_
    obtain ⟨rSlope, hr6, h⟩ := bindSome h
    refine Runs.sR hE ⟨[(2, (.op 0 0 0)), (3, (.op 16 0 0)), (5, (aI rCheckCurve)), (6, (.op 288 0 0)), (7, (aI rValue.2)), (8, (.op 432 0 0)), (9, (aI rSlope.2))], [(0, vO 2 (Tapi_Curve.cells c)), (16, vO 4 (Tapi_Rat.cells y)), (288, vO 4 (Tapi_Rat.cells rValue.1)), (432, vO 4 (Tapi_Rat.cells rSlope.1))], 480⟩ (C_111 62) [(2, ⟨[], true, (.tup [(.agg (Tapi_Rat.cells rSlope.1)), (aI rSlope.2)]), [], 0, false, none⟩)] [] (kp [2, 3, 5, 6, 7, 8, 9]) (kq [0, 16, 288, 432]) 480 [0 < 1, 0 < 1, Sound Try.prog 68 [(.agg (Tapi_Curve.cells c)), (.agg (Tapi_Rat.cells y))] [] 0 (.tup [(.agg (Tapi_Rat.cells rSlope.1)), (aI rSlope.2)]) [], 0 < 1] ⟨o1, o1, (g_exact_Slope_ok N c y rSlope hr6), o1, trivial⟩ ?_
    refine Runs.sA 1 [.code (C_111 126), .code (C_111 127)] ?_
    obtain ⟨rIntegral, hr7, h⟩ := bindSome h
    refine Runs.sR hE ⟨[(2, (.op 0 0 0)), (3, (.op 16 0 0)), (5, (aI rCheckCurve)), (6, (.op 288 0 0)), (7, (aI rValue.2)), (8, (.op 432 0 0)), (9, (aI rSlope.2)), (10, (.op 576 0 0)), (11, (aI rIntegral.2))], [(0, vO 2 (Tapi_Curve.cells c)), (16, vO 4 (Tapi_Rat.cells y)), (288, vO 4 (Tapi_Rat.cells rValue.1)), (432, vO 4 (Tapi_Rat.cells rSlope.1)), (576, vO 4 (Tapi_Rat.cells rIntegral.1))], 624⟩ (C_111 126) [(2, ⟨[], true, (.tup [(.agg (Tapi_Rat.cells rIntegral.1)), (aI rIntegral.2)]), [], 0, false, none⟩)] [] (kp [2, 3, 5, 6, 7, 8, 9, 10, 11]) (kq [0, 16, 288, 432, 576]) 624 [0 < 1, 0 < 1, Sound Try.prog 69 [(.agg (Tapi_Curve.cells c)), (.agg (Tapi_Rat.cells y))] [] 0 (.tup [(.agg (Tapi_Rat.cells rIntegral.1)), (aI rIntegral.2)]) [], 0 < 1] ⟨o1, o1, (g_exact_Integral_ok N c y rIntegral hr7), o1, trivial⟩ ?_
    refine Runs.sA 1 [.code (C_111 254), .code (C_111 255)] ?_
    obtain ⟨rReach, hr8, h⟩ := bindSome h
    refine Runs.sR hE ⟨[(2, (.op 0 0 0)), (3, (.op 16 0 0)), (5, (aI rCheckCurve)), (6, (.op 288 0 0)), (7, (aI rValue.2)), (8, (.op 432 0 0)), (9, (aI rSlope.2)), (10, (.op 576 0 0)), (11, (aI rIntegral.2)), (12, (.op 720 0 0)), (13, (aI rReach.2))], [(0, vO 2 (Tapi_Curve.cells c)), (16, vO 4 (Tapi_Rat.cells y)), (288, vO 4 (Tapi_Rat.cells rValue.1)), (432, vO 4 (Tapi_Rat.cells rSlope.1)), (576, vO 4 (Tapi_Rat.cells rIntegral.1)), (720, vO 4 (Tapi_Rat.cells rReach.1))], 768⟩ (C_111 254) [(2, ⟨[], true, (.tup [(.agg (Tapi_Rat.cells rReach.1)), (aI rReach.2)]), [], 0, false, none⟩)] [] (kp [2, 3, 5, 6, 7, 8, 9, 10, 11, 12, 13]) (kq [0, 16, 288, 432, 576, 720]) 768 [0 < 1, 0 < 1, Sound Try.prog 58 [(.agg (Tapi_Curve.cells c)), (.agg (Tapi_Rat.cells y))] [] 0 (.tup [(.agg (Tapi_Rat.cells rReach.1)), (aI rReach.2)]) [], 0 < 1] ⟨o1, o1, (g_exact_Reach_ok N c y rReach hr8), o1, trivial⟩ ?_
    refine Runs.sA 1 [.code (C_111 510), .code (C_111 511)] ?_
    obtain ⟨rCapacity, hr9, h⟩ := bindSome h
    refine Runs.sR hE ⟨[(2, (.op 0 0 0)), (3, (.op 16 0 0)), (5, (aI rCheckCurve)), (6, (.op 288 0 0)), (7, (aI rValue.2)), (8, (.op 432 0 0)), (9, (aI rSlope.2)), (10, (.op 576 0 0)), (11, (aI rIntegral.2)), (12, (.op 720 0 0)), (13, (aI rReach.2)), (14, (.op 864 0 0)), (15, (aB rCapacity.2.1)), (16, (aI rCapacity.2.2))], [(0, vO 2 (Tapi_Curve.cells c)), (16, vO 4 (Tapi_Rat.cells y)), (288, vO 4 (Tapi_Rat.cells rValue.1)), (432, vO 4 (Tapi_Rat.cells rSlope.1)), (576, vO 4 (Tapi_Rat.cells rIntegral.1)), (720, vO 4 (Tapi_Rat.cells rReach.1)), (864, vO 4 (Tapi_Rat.cells rCapacity.1))], 928⟩ (C_111 510) [(1, ⟨[], true, (.tup [(.agg (Tapi_Rat.cells rCapacity.1)), (aB rCapacity.2.1), (aI rCapacity.2.2)]), [], 0, false, none⟩)] [] (kp [2, 3, 5, 6, 7, 8, 9, 10, 11, 12, 13, 14, 15, 16]) (kq [0, 16, 288, 432, 576, 720, 864]) 928 [0 < 1, Sound Try.prog 70 [(.agg (Tapi_Curve.cells c))] [] 0 (.tup [(.agg (Tapi_Rat.cells rCapacity.1)), (aB rCapacity.2.1), (aI rCapacity.2.2)]) [], 0 < 1] ⟨o1, (g_exact_Capacity_ok N c rCapacity hr9), o1, trivial⟩ ?_
    refine Runs.sA 2 [.code (C_111 2044), .code (C_111 2045), .code (C_111 1023)] ?_
    obtain ⟨rCheckCurve2, hr10, h⟩ := bindSome h
    refine Runs.sR hE ⟨[(2, (.op 0 0 0)), (3, (.op 16 0 0)), (5, (aI rCheckCurve)), (6, (.op 288 0 0)), (7, (aI rValue.2)), (8, (.op 432 0 0)), (9, (aI rSlope.2)), (10, (.op 576 0 0)), (11, (aI rIntegral.2)), (12, (.op 720 0 0)), (13, (aI rReach.2)), (14, (.op 864 0 0)), (15, (aB rCapacity.2.1)), (16, (aI rCapacity.2.2)), (63, (aB (rCheckCurve2 != rCheckCurve)))], [(0, vO 2 (Tapi_Curve.cells c)), (16, vO 4 (Tapi_Rat.cells y)), (288, vO 4 (Tapi_Rat.cells rValue.1)), (432, vO 4 (Tapi_Rat.cells rSlope.1)), (576, vO 4 (Tapi_Rat.cells rIntegral.1)), (720, vO 4 (Tapi_Rat.cells rReach.1)), (864, vO 4 (Tapi_Rat.cells rCapacity.1))], 992⟩ (C_111 2044) [(1, ⟨[], true, (aI rCheckCurve2), [], 0, false, none⟩)] [] (kp [2, 3, 5, 6, 7, 8, 9, 10, 11, 12, 13, 14, 15, 16, 63]) (kq [0, 16, 288, 432, 576, 720, 864]) 992 [0 < 1, Sound Try.prog 71 [(.agg (Tapi_Curve.cells c))] [] 0 (aI rCheckCurve2) []] ⟨o1, (g_exact_CheckCurve_ok N c rCheckCurve2 hr10), trivial⟩ ?_
    refine Runs.sC 63 (C_111 4090) (C_111 4091) (rCheckCurve2 != rCheckCurve) (fun hq3 => ?_) (fun hq3 => ?_)
    · have h := condT h hq3
      refine Runs.sA 1 [.code (C_111 8180), .code (C_111 8181), .code (C_111 1023)] ?_
      refine Runs.sR hE ⟨[(4, (aB false))], [], 1008⟩ (C_111 8180) [] [] (kp [4]) [] 1008 [] trivial ?_
      obtain rfl := Option.some.inj h
      refine Runs.sW hE ⟨[(4, (aB false))], [], 1008⟩ [] (kp [4]) [] 1008 [] trivial ?_
      exact Runs.sT Try.f10 [] [] trivial
    · have h := condF h hq3
      refine Runs.sA 3 [.code (C_111 4092), .code (C_111 4093), .code (C_111 2047)] ?_
      refine Runs.sR hE ⟨[(2, (.op 0 0 0)), (3, (.op 16 0 0)), (5, (aI rCheckCurve)), (6, (.op 288 0 0)), (7, (aI rValue.2)), (8, (.op 432 0 0)), (9, (aI rSlope.2)), (10, (.op 576 0 0)), (11, (aI rIntegral.2)), (12, (.op 720 0 0)), (13, (aI rReach.2)), (14, (.op 864 0 0)), (15, (aB rCapacity.2.1)), (16, (aI rCapacity.2.2)), (65, (aB (rCheckCurve != 0)))], [(0, vO 2 (Tapi_Curve.cells c)), (16, vO 4 (Tapi_Rat.cells y)), (288, vO 4 (Tapi_Rat.cells rValue.1)), (432, vO 4 (Tapi_Rat.cells rSlope.1)), (576, vO 4 (Tapi_Rat.cells rIntegral.1)), (720, vO 4 (Tapi_Rat.cells rReach.1)), (864, vO 4 (Tapi_Rat.cells rCapacity.1))], 1024⟩ (C_111 4092) [] [] (kp [2, 3, 5, 6, 7, 8, 9, 10, 11, 12, 13, 14, 15, 16, 65]) (kq [0, 16, 288, 432, 576, 720, 864]) 1024 [] trivial ?_
      refine Runs.sC 65 (C_111 8186) (C_111 8187) (rCheckCurve != 0) (fun hq4 => ?_) (fun hq4 => ?_)
      · have h := condT h hq4
        refine Runs.sA 1 [.code (C_111 16372), .code (C_111 16373), .code (C_111 2047)] ?_
        obtain ⟨rrat, hr11, h⟩ := bindSome h
        obtain ⟨rrat2, hr12, h⟩ := bindSome h
        obtain ⟨rrat3, hr13, h⟩ := bindSome h
        obtain ⟨rrat4, hr14, h⟩ := bindSome h
        obtain ⟨rrat5, hr15, h⟩ := bindSome h
        obtain ⟨rawake2, hr16, h⟩ := bindSome h
        refine Runs.sR hE ⟨[(4, (aB (cond (cond (cond (cond (cond (cond rrat rrat2 false) rrat3 false) rrat4 false) rrat5 false) (!rCapacity.2.1) false) rawake2 false)))], [], 1680⟩ (C_111 16372) [(4, ⟨[], true, (aB rrat), [], 0, false, none⟩), (10, ⟨[], true, (aB rrat2), [], 0, false, none⟩), (17, ⟨[], true, (aB rrat3), [], 0, false, none⟩), (24, ⟨[], true, (aB rrat4), [], 0, false, none⟩), (31, ⟨[], true, (aB rrat5), [], 0, false, none⟩), (38, ⟨[], true, (aB rawake2), [], 0, false, none⟩)] [] (kp [4]) [] 1680 [0 < 1, Sound Try.prog 43 [(.agg (Tapi_Rat.cells rValue.1)), (aI rValue.2), (.agg [(aB false), .nil, (aB false), .nil]), (aI rCheckCurve)] [] 0 (aB rrat) [], rrat = true → AllP [0 < 1], rrat = true → AllP [Sound Try.prog 43 [(.agg (Tapi_Rat.cells rSlope.1)), (aI rSlope.2), (.agg [(aB false), .nil, (aB false), .nil]), (aI rCheckCurve)] [] 0 (aB rrat2) [], rrat = true, rrat = true, rrat = true, rrat = true], rrat = true → AllP [rrat = true], (cond rrat rrat2 false) = true → AllP [0 < 1], (cond rrat rrat2 false) = true → AllP [Sound Try.prog 43 [(.agg (Tapi_Rat.cells rIntegral.1)), (aI rIntegral.2), (.agg [(aB false), .nil, (aB false), .nil]), (aI rCheckCurve)] [] 0 (aB rrat3) [], (cond rrat rrat2 false) = true, (cond rrat rrat2 false) = true, (cond rrat rrat2 false) = true, (cond rrat rrat2 false) = true], (cond rrat rrat2 false) = true → AllP [(cond rrat rrat2 false) = true], (cond (cond rrat rrat2 false) rrat3 false) = true → AllP [0 < 1], (cond (cond rrat rrat2 false) rrat3 false) = true → AllP [Sound Try.prog 43 [(.agg (Tapi_Rat.cells rReach.1)), (aI rReach.2), (.agg [(aB false), .nil, (aB false), .nil]), (aI rCheckCurve)] [] 0 (aB rrat4) [], (cond (cond rrat rrat2 false) rrat3 false) = true, (cond (cond rrat rrat2 false) rrat3 false) = true, (cond (cond rrat rrat2 false) rrat3 false) = true, (cond (cond rrat rrat2 false) rrat3 false) = true], (cond (cond rrat rrat2 false) rrat3 false) = true → AllP [(cond (cond rrat rrat2 false) rrat3 false) = true], (cond (cond (cond rrat rrat2 false) rrat3 false) rrat4 false) = true → AllP [0 < 1], (cond (cond (cond rrat rrat2 false) rrat3 false) rrat4 false) = true → AllP [Sound Try.prog 43 [(.agg (Tapi_Rat.cells rCapacity.1)), (aI rCapacity.2.2), (.agg [(aB false), .nil, (aB false), .nil]), (aI rCheckCurve)] [] 0 (aB rrat5) [], (cond (cond (cond rrat rrat2 false) rrat3 false) rrat4 false) = true, (cond (cond (cond rrat rrat2 false) rrat3 false) rrat4 false) = true, (cond (cond (cond rrat rrat2 false) rrat3 false) rrat4 false) = true, (cond (cond (cond rrat rrat2 false) rrat3 false) rrat4 false) = true], (cond (cond (cond rrat rrat2 false) rrat3 false) rrat4 false) = true → AllP [(cond (cond (cond rrat rrat2 false) rrat3 false) rrat4 false) = true], (cond (cond (cond (cond rrat rrat2 false) rrat3 false) rrat4 false) rrat5 false) = true → AllP [(cond (cond (cond (cond rrat rrat2 false) rrat3 false) rrat4 false) rrat5 false) = true], (cond (cond (cond (cond rrat rrat2 false) rrat3 false) rrat4 false) rrat5 false) = true → AllP [(cond (cond (cond (cond rrat rrat2 false) rrat3 false) rrat4 false) rrat5 false) = true], (cond (cond (cond (cond (cond rrat rrat2 false) rrat3 false) rrat4 false) rrat5 false) (!rCapacity.2.1) false) = true → AllP [Sound Try.prog 14 [] [] 0 (aB rawake2) []], (cond (cond (cond (cond (cond rrat rrat2 false) rrat3 false) rrat4 false) rrat5 false) (!rCapacity.2.1) false) = true → AllP [(cond (cond (cond (cond (cond rrat rrat2 false) rrat3 false) rrat4 false) rrat5 false) (!rCapacity.2.1) false) = true]] ⟨o1, (Sound.conv (g_w01_rat_ok N rValue.1 rValue.2 (⟨(⟨false, ([] : List Int)⟩ : Tapi_Int), (⟨false, ([] : List Int)⟩ : Tapi_Int)⟩ : Tapi_Rat) rCheckCurve rrat hr11) (.cons (Alike.refl _) (.cons (Alike.refl _) (.cons (Alike.agg (.cons (Alike.refl _) (.cons Alike.nil (.cons (Alike.refl _) (.cons Alike.nil .nil))))) (.cons (Alike.refl _) .nil))))), (fun hg => ⟨o1, trivial⟩), (fun hg => ⟨(Sound.conv (g_w01_rat_ok N rSlope.1 rSlope.2 (⟨(⟨false, ([] : List Int)⟩ : Tapi_Int), (⟨false, ([] : List Int)⟩ : Tapi_Int)⟩ : Tapi_Rat) rCheckCurve rrat2 (condT hr12 hg)) (.cons (Alike.refl _) (.cons (Alike.refl _) (.cons (Alike.agg (.cons (Alike.refl _) (.cons Alike.nil (.cons (Alike.refl _) (.cons Alike.nil .nil))))) (.cons (Alike.refl _) .nil))))), hg, hg, hg, hg, trivial⟩), (fun hq => ⟨hq, trivial⟩), (fun hg => ⟨o1, trivial⟩), (fun hg => ⟨(Sound.conv (g_w01_rat_ok N rIntegral.1 rIntegral.2 (⟨(⟨false, ([] : List Int)⟩ : Tapi_Int), (⟨false, ([] : List Int)⟩ : Tapi_Int)⟩ : Tapi_Rat) rCheckCurve rrat3 (condT hr13 hg)) (.cons (Alike.refl _) (.cons (Alike.refl _) (.cons (Alike.agg (.cons (Alike.refl _) (.cons Alike.nil (.cons (Alike.refl _) (.cons Alike.nil .nil))))) (.cons (Alike.refl _) .nil))))), hg, hg, hg, hg, trivial⟩), (fun hq => ⟨hq, trivial⟩), (fun hg => ⟨o1, trivial⟩), (fun hg => ⟨(Sound.conv (g_w01_rat_ok N rReach.1 rReach.2 (⟨(⟨false, ([] : List Int)⟩ : Tapi_Int), (⟨false, ([] : List Int)⟩ : Tapi_Int)⟩ : Tapi_Rat) rCheckCurve rrat4 (condT hr14 hg)) (.cons (Alike.refl _) (.cons (Alike.refl _) (.cons (Alike.agg (.cons (Alike.refl _) (.cons Alike.nil (.cons (Alike.refl _) (.cons Alike.nil .nil))))) (.cons (Alike.refl _) .nil))))), hg, hg, hg, hg, trivial⟩), (fun hq => ⟨hq, trivial⟩), (fun hg => ⟨o1, trivial⟩), (fun hg => ⟨(Sound.conv (g_w01_rat_ok N rCapacity.1 rCapacity.2.2 (⟨(⟨false, ([] : List Int)⟩ : Tapi_Int), (⟨false, ([] : List Int)⟩ : Tapi_Int)⟩ : Tapi_Rat) rCheckCurve rrat5 (condT hr15 hg)) (.cons (Alike.refl _) (.cons (Alike.refl _) (.cons (Alike.agg (.cons (Alike.refl _) (.cons Alike.nil (.cons (Alike.refl _) (.cons Alike.nil .nil))))) (.cons (Alike.refl _) .nil))))), hg, hg, hg, hg, trivial⟩), (fun hq => ⟨hq, trivial⟩), (fun hg => ⟨hg, trivial⟩), (fun hq => ⟨hq, trivial⟩), (fun hg => ⟨(g_w01_awake_ok N rawake2 (condT hr16 hg)), trivial⟩), (fun hq => ⟨hq, trivial⟩), trivial⟩ ?_
        obtain rfl := Option.some.inj h
        refine Runs.sW hE ⟨[(4, (aB (cond (cond (cond (cond (cond (cond rrat rrat2 false) rrat3 false) rrat4 false) rrat5 false) (!rCapacity.2.1) false) rawake2 false)))], [], 1680⟩ [] (kp [4]) [] 1680 [] trivial ?_
        exact Runs.sT Try.f10 [] [] trivial
      · have h := condF h hq4
        refine Runs.sA 2 [.code (C_111 4094), .code (C_111 4095)] ?_
        obtain ⟨rReach2, hr17, h⟩ := bindSome h
        refine Runs.sR hE ⟨[(2, (.op 0 0 0)), (3, (.op 16 0 0)), (6, (.op 288 0 0)), (7, (aI rValue.2)), (8, (.op 432 0 0)), (9, (aI rSlope.2)), (10, (.op 576 0 0)), (11, (aI rIntegral.2)), (12, (.op 720 0 0)), (13, (aI rReach.2)), (14, (.op 864 0 0)), (15, (aB rCapacity.2.1)), (16, (aI rCapacity.2.2)), (17, (.op 1120 0 0)), (18, (aI rReach2.2))], [(0, vO 2 (Tapi_Curve.cells c)), (16, vO 4 (Tapi_Rat.cells y)), (288, vO 4 (Tapi_Rat.cells rValue.1)), (432, vO 4 (Tapi_Rat.cells rSlope.1)), (576, vO 4 (Tapi_Rat.cells rIntegral.1)), (720, vO 4 (Tapi_Rat.cells rReach.1)), (864, vO 4 (Tapi_Rat.cells rCapacity.1)), (1120, vO 4 (Tapi_Rat.cells rReach2.1))], 1168⟩ (C_111 4094) [(2, ⟨[], true, (.tup [(.agg (Tapi_Rat.cells rReach2.1)), (aI rReach2.2)]), [], 0, false, none⟩)] [] (kp [2, 3, 6, 7, 8, 9, 10, 11, 12, 13, 14, 15, 16, 17, 18]) (kq [0, 16, 288, 432, 576, 720, 864, 1120]) 1168 [0 < 1, 0 < 1, Sound Try.prog 72 [(.agg (Tapi_Curve.cells c)), (.agg (Tapi_Rat.cells y))] [] 0 (.tup [(.agg (Tapi_Rat.cells rReach2.1)), (aI rReach2.2)]) [], 0 < 1] ⟨o1, o1, (g_r01_Reach_ok N c y rReach2 hr17), o1, trivial⟩ ?_
        refine Runs.sA 1 [.code (C_111 8190), .code (C_111 8191)] ?_
        obtain ⟨rCapacity2, hr18, h⟩ := bindSome h
        refine Runs.sR hE ⟨[(2, (.op 0 0 0)), (3, (.op 16 0 0)), (6, (.op 288 0 0)), (7, (aI rValue.2)), (8, (.op 432 0 0)), (9, (aI rSlope.2)), (10, (.op 576 0 0)), (11, (aI rIntegral.2)), (12, (.op 720 0 0)), (13, (aI rReach.2)), (14, (.op 864 0 0)), (15, (aB rCapacity.2.1)), (16, (aI rCapacity.2.2)), (17, (.op 1120 0 0)), (18, (aI rReach2.2)), (19, (.op 1248 0 0)), (20, (aB rCapacity2.2))], [(0, vO 2 (Tapi_Curve.cells c)), (16, vO 4 (Tapi_Rat.cells y)), (288, vO 4 (Tapi_Rat.cells rValue.1)), (432, vO 4 (Tapi_Rat.cells rSlope.1)), (576, vO 4 (Tapi_Rat.cells rIntegral.1)), (720, vO 4 (Tapi_Rat.cells rReach.1)), (864, vO 4 (Tapi_Rat.cells rCapacity.1)), (1120, vO 4 (Tapi_Rat.cells rReach2.1)), (1248, vO 4 (Tapi_Rat.cells rCapacity2.1))], 1296⟩ (C_111 8190) [(1, ⟨[], true, (.tup [(.agg (Tapi_Rat.cells rCapacity2.1)), (aB rCapacity2.2)]), [], 0, false, none⟩)] [] (kp [2, 3, 6, 7, 8, 9, 10, 11, 12, 13, 14, 15, 16, 17, 18, 19, 20]) (kq [0, 16, 288, 432, 576, 720, 864, 1120, 1248]) 1296 [0 < 1, Sound Try.prog 73 [(.agg (Tapi_Curve.cells c))] [] 0 (.tup [(.agg (Tapi_Rat.cells rCapacity2.1)), (aB rCapacity2.2)]) [], 0 < 1] ⟨o1, (g_r01_Capacity_ok N c rCapacity2 hr18), o1, trivial⟩ ?_
        refine Runs.sA 1 [.code (C_111 16382), .code (C_111 16383)] ?_
        obtain ⟨rValue2, hr19, h⟩ := bindSome h
        obtain ⟨rrat6, hr20, h⟩ := bindSome h
        obtain ⟨rSlope2, hr21, h⟩ := bindSome h
        obtain ⟨rrat7, hr22, h⟩ := bindSome h
        obtain ⟨rIntegral2, hr23, h⟩ := bindSome h
        obtain ⟨rrat8, hr24, h⟩ := bindSome h
        obtain ⟨rrat9, hr25, h⟩ := bindSome h
        obtain ⟨rSameRat, hr26, h⟩ := bindSome h
        obtain ⟨rawake3, hr27, h⟩ := bindSome h
        refine Runs.sR hE ⟨[(4, (aB (cond (cond (cond (cond (cond (cond (cond rrat6 rrat7 false) rrat8 false) rrat9 false) (rCapacity.2.2 == 0) false) (rCapacity.2.1 == rCapacity2.2) false) rSameRat false) rawake3 false)))], [], 2048⟩ (C_111 16382) [(4, ⟨[], true, (.agg (Tapi_Rat.cells rValue2)), [], 0, false, none⟩), (5, ⟨[], true, (aB rrat6), [], 0, false, none⟩), (11, ⟨[], true, (.agg (Tapi_Rat.cells rSlope2)), [], 0, false, none⟩), (12, ⟨[], true, (aB rrat7), [], 0, false, none⟩), (19, ⟨[], true, (.agg (Tapi_Rat.cells rIntegral2)), [], 0, false, none⟩), (20, ⟨[], true, (aB rrat8), [], 0, false, none⟩), (27, ⟨[], true, (aB rrat9), [], 0, false, none⟩), (41, ⟨[], true, (aB rSameRat), [], 0, false, none⟩), (44, ⟨[], true, (aB rawake3), [], 0, false, none⟩)] [] (kp [4]) [] 2048 [0 < 1, 0 < 1, 0 < 1, Sound Try.prog 74 [(.agg (Tapi_Curve.cells c)), (.agg (Tapi_Rat.cells y))] [] 0 (.agg (Tapi_Rat.cells rValue2)) [], Sound Try.prog 43 [(.agg (Tapi_Rat.cells rValue.1)), (aI rValue.2), (.agg (Tapi_Rat.cells rValue2)), (aI 0)] [] 0 (aB rrat6) [], rrat6 = true → AllP [0 < 1], rrat6 = true → AllP [0 < 1], rrat6 = true → AllP [0 < 1], rrat6 = true → AllP [Sound Try.prog 75 [(.agg (Tapi_Curve.cells c)), (.agg (Tapi_Rat.cells y))] [] 0 (.agg (Tapi_Rat.cells rSlope2)) [], rrat6 = true, rrat6 = true], rrat6 = true → AllP [Sound Try.prog 43 [(.agg (Tapi_Rat.cells rSlope.1)), (aI rSlope.2), (.agg (Tapi_Rat.cells rSlope2)), (aI 0)] [] 0 (aB rrat7) [], rrat6 = true, rrat6 = true, rrat6 = true], rrat6 = true → AllP [rrat6 = true], (cond rrat6 rrat7 false) = true → AllP [0 < 1], (cond rrat6 rrat7 false) = true → AllP [0 < 1], (cond rrat6 rrat7 false) = true → AllP [0 < 1], (cond rrat6 rrat7 false) = true → AllP [Sound Try.prog 76 [(.agg (Tapi_Curve.cells c)), (.agg (Tapi_Rat.cells y))] [] 0 (.agg (Tapi_Rat.cells rIntegral2)) [], (cond rrat6 rrat7 false) = true, (cond rrat6 rrat7 false) = true], (cond rrat6 rrat7 false) = true → AllP [Sound Try.prog 43 [(.agg (Tapi_Rat.cells rIntegral.1)), (aI rIntegral.2), (.agg (Tapi_Rat.cells rIntegral2)), (aI 0)] [] 0 (aB rrat8) [], (cond rrat6 rrat7 false) = true, (cond rrat6 rrat7 false) = true, (cond rrat6 rrat7 false) = true], (cond rrat6 rrat7 false) = true → AllP [(cond rrat6 rrat7 false) = true], (cond (cond rrat6 rrat7 false) rrat8 false) = true → AllP [0 < 1], (cond (cond rrat6 rrat7 false) rrat8 false) = true → AllP [0 < 1], (cond (cond rrat6 rrat7 false) rrat8 false) = true → AllP [Sound Try.prog 43 [(.agg (Tapi_Rat.cells rReach.1)), (aI rReach.2), (.agg (Tapi_Rat.cells rReach2.1)), (aI rReach2.2)] [] 0 (aB rrat9) [], (cond (cond rrat6 rrat7 false) rrat8 false) = true, (cond (cond rrat6 rrat7 false) rrat8 false) = true, (cond (cond rrat6 rrat7 false) rrat8 false) = true, (cond (cond rrat6 rrat7 false) rrat8 false) = true], (cond (cond rrat6 rrat7 false) rrat8 false) = true → AllP [(cond (cond rrat6 rrat7 false) rrat8 false) = true], (cond (cond (cond rrat6 rrat7 false) rrat8 false) rrat9 false) = true → AllP [(cond (cond (cond rrat6 rrat7 false) rrat8 false) rrat9 false) = true], (cond (cond (cond rrat6 rrat7 false) rrat8 false) rrat9 false) = true → AllP [(cond (cond (cond rrat6 rrat7 false) rrat8 false) rrat9 false) = true], (cond (cond (cond (cond rrat6 rrat7 false) rrat8 false) rrat9 false) (rCapacity.2.2 == 0) false) = true → AllP [(cond (cond (cond (cond rrat6 rrat7 false) rrat8 false) rrat9 false) (rCapacity.2.2 == 0) false) = true, (cond (cond (cond (cond rrat6 rrat7 false) rrat8 false) rrat9 false) (rCapacity.2.2 == 0) false) = true], (cond (cond (cond (cond rrat6 rrat7 false) rrat8 false) rrat9 false) (rCapacity.2.2 == 0) false) = true → AllP [(cond (cond (cond (cond rrat6 rrat7 false) rrat8 false) rrat9 false) (rCapacity.2.2 == 0) false) = true], (cond (cond (cond (cond (cond rrat6 rrat7 false) rrat8 false) rrat9 false) (rCapacity.2.2 == 0) false) (rCapacity.2.1 == rCapacity2.2) false) = true → AllP [0 < 1], (cond (cond (cond (cond (cond rrat6 rrat7 false) rrat8 false) rrat9 false) (rCapacity.2.2 == 0) false) (rCapacity.2.1 == rCapacity2.2) false) = true → AllP [0 < 1], (cond (cond (cond (cond (cond rrat6 rrat7 false) rrat8 false) rrat9 false) (rCapacity.2.2 == 0) false) (rCapacity.2.1 == rCapacity2.2) false) = true → AllP [Sound Try.prog 34 [(.agg (Tapi_Rat.cells rCapacity.1)), (.agg (Tapi_Rat.cells rCapacity2.1))] [] 0 (aB rSameRat) [], (cond (cond (cond (cond (cond rrat6 rrat7 false) rrat8 false) rrat9 false) (rCapacity.2.2 == 0) false) (rCapacity.2.1 == rCapacity2.2) false) = true, (cond (cond (cond (cond (cond rrat6 rrat7 false) rrat8 false) rrat9 false) (rCapacity.2.2 == 0) false) (rCapacity.2.1 == rCapacity2.2) false) = true], (cond (cond (cond (cond (cond rrat6 rrat7 false) rrat8 false) rrat9 false) (rCapacity.2.2 == 0) false) (rCapacity.2.1 == rCapacity2.2) false) = true → AllP [(cond (cond (cond (cond (cond rrat6 rrat7 false) rrat8 false) rrat9 false) (rCapacity.2.2 == 0) false) (rCapacity.2.1 == rCapacity2.2) false) = true], (cond (cond (cond (cond (cond (cond rrat6 rrat7 false) rrat8 false) rrat9 false) (rCapacity.2.2 == 0) false) (rCapacity.2.1 == rCapacity2.2) false) rSameRat false) = true → AllP [Sound Try.prog 14 [] [] 0 (aB rawake3) []], (cond (cond (cond (cond (cond (cond rrat6 rrat7 false) rrat8 false) rrat9 false) (rCapacity.2.2 == 0) false) (rCapacity.2.1 == rCapacity2.2) false) rSameRat false) = true → AllP [(cond (cond (cond (cond (cond (cond rrat6 rrat7 false) rrat8 false) rrat9 false) (rCapacity.2.2 == 0) false) (rCapacity.2.1 == rCapacity2.2) false) rSameRat false) = true]] ⟨o1, o1, o1, (g_r01_Value_ok N c y rValue2 hr19), (g_w01_rat_ok N rValue.1 rValue.2 rValue2 0 rrat6 hr20), (fun hg => ⟨o1, trivial⟩), (fun hg => ⟨o1, trivial⟩), (fun hg => ⟨o1, trivial⟩), (fun hg => ⟨(g_r01_Slope_ok N c y rSlope2 (condT hr21 hg)), hg, hg, trivial⟩), (fun hg => ⟨(g_w01_rat_ok N rSlope.1 rSlope.2 rSlope2 0 rrat7 (condT hr22 hg)), hg, hg, hg, trivial⟩), (fun hq => ⟨hq, trivial⟩), (fun hg => ⟨o1, trivial⟩), (fun hg => ⟨o1, trivial⟩), (fun hg => ⟨o1, trivial⟩), (fun hg => ⟨(g_r01_Integral_ok N c y rIntegral2 (condT hr23 hg)), hg, hg, trivial⟩), (fun hg => ⟨(g_w01_rat_ok N rIntegral.1 rIntegral.2 rIntegral2 0 rrat8 (condT hr24 hg)), hg, hg, hg, trivial⟩), (fun hq => ⟨hq, trivial⟩), (fun hg => ⟨o1, trivial⟩), (fun hg => ⟨o1, trivial⟩), (fun hg => ⟨(g_w01_rat_ok N rReach.1 rReach.2 rReach2.1 rReach2.2 rrat9 (condT hr25 hg)), hg, hg, hg, hg, trivial⟩), (fun hq => ⟨hq, trivial⟩), (fun hg => ⟨hg, trivial⟩), (fun hq => ⟨hq, trivial⟩), (fun hg => ⟨hg, hg, trivial⟩), (fun hq => ⟨hq, trivial⟩), (fun hg => ⟨o1, trivial⟩), (fun hg => ⟨o1, trivial⟩), (fun hg => ⟨(g_keelblockbase_SameRat_ok N rCapacity.1 rCapacity2.1 rSameRat (condT hr26 hg)), hg, hg, trivial⟩), (fun hq => ⟨hq, trivial⟩), (fun hg => ⟨(g_w01_awake_ok N rawake3 (condT hr27 hg)), trivial⟩), (fun hq => ⟨hq, trivial⟩), trivial⟩ ?_
        obtain rfl := Option.some.inj h
        refine Runs.sW hE ⟨[(4, (aB (cond (cond (cond (cond (cond (cond (cond rrat6 rrat7 false) rrat8 false) rrat9 false) (rCapacity.2.2 == 0) false) (rCapacity.2.1 == rCapacity2.2) false) rSameRat false) rawake3 false)))], [], 2048⟩ [] (kp [4]) [] 2048 [] trivial ?_
        exact Runs.sT Try.f10 [] [] trivial

end Go.Den
