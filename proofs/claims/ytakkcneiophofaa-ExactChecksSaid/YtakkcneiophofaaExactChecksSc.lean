/- Each function of the program does what its Lean function computes (part 3). No conditions. -/
import Derived.Test.YtakkcneiophofaaExactChecksSb
import Derived.Test.YtakkcneiophofaaProg
set_option linter.unusedVariables false
set_option maxRecDepth 100000
namespace Go.Den
open Go.Ab Go.Proofs
noncomputable def C_137 (n : Nat) : Code := cat (bodyOf Try.f137) (pth n)
theorem g_e_combined_L3_ok (N : Nat) (l : List TRow) (y : List TRat) (bound : TRat) (x2 : Int) (K_g_e_combined_L2 : (List TRat) → TRat → Int → Option ((List TRat) × TRat × Bool))
    (hK_g_e_combined_L2 : ∀ (sums2 : List TRat) (bound : TRat) (x2 : Int) (r : (List TRat) × TRat × Bool), K_g_e_combined_L2 sums2 bound x2 = some r → ∀ E, EnvOk E 0 → Runs Try.prog E 137 78 (SPost E [] (.tup [(encL TRat.cells TRat.d r.1), (.agg (TRat.cells r.2.1)), (aB r.2.2)])) [.code (C_137 500), .inLoop (C_137 500), .inBlock 2, .code (C_137 63)] ⟨[(2, (encL TRat.cells TRat.d y)), (7, (.op 0 0 0)), (9, (.os 1 0 sums2.length)), (11, (.op 2 0 0)), (29, (encL TRow.cells TRow.d l)), (30, (aI ((l.length : Nat) : Int))), (31, (aI x2))], [(0, vO 4 [(aB false), .nil, (aB false), .nil]), (1, aO 4 TRat.cells TRat.d sums2), (2, vO 4 (TRat.cells bound))], 3⟩) (fuel : Nat) : ∀ (sums3 : List TRat) (x3 : Int) (r : (List TRat) × TRat × Bool), g_e_combined_L3 N l y bound x2 K_g_e_combined_L2 fuel sums3 x3 = some r → ∀ E, EnvOk E 0 → Runs Try.prog E 137 78 (SPost E [] (.tup [(encL TRat.cells TRat.d r.1), (.agg (TRat.cells r.2.1)), (aB r.2.2)])) [.code (C_137 512820), .inLoop (C_137 512820), .inBlock 4, .code (C_137 64103), .inBlock 3, .code (C_137 4007), .inLoop (C_137 500), .inBlock 2, .code (C_137 63)] ⟨[(2, (encL TRat.cells TRat.d y)), (7, (.op 0 0 0)), (9, (.os 1 0 sums3.length)), (11, (.op 2 0 0)), (12, (aI x2)), (13, (.op 3 0 0)), (29, (encL TRow.cells TRow.d l)), (30, (aI ((l.length : Nat) : Int))), (31, (aI x2)), (44, (encL TRat.cells TRat.d ((l.getD ((x2).toNat) TRow.d).f_Coefs))), (45, (aI ((((l.getD ((x2).toNat) TRow.d).f_Coefs).length : Nat) : Int))), (46, (aI x3))], [(0, vO 4 [(aB false), .nil, (aB false), .nil]), (1, aO 4 TRat.cells TRat.d sums3), (2, vO 4 (TRat.cells bound)), (3, vO 5 (TRow.cells (l.getD ((x2).toNat) TRow.d)))], 4⟩ := by
  induction fuel with
  | zero => intro _ _ r h; rw [g_e_combined_L3.eq_1] at h; cases h
  | succ fuel ih =>
    intro sums3 x3 r h E hE
    rw [g_e_combined_L3.eq_2] at h
    refine Runs.sA 1 [.code (C_137 1025640), .code (C_137 1025641), .inLoop (C_137 512820), .inBlock 4, .code (C_137 64103), .inBlock 3, .code (C_137 4007), .inLoop (C_137 500), .inBlock 2, .code (C_137 63)] ?_
    refine Runs.sR hE ⟨[(2, (encL TRat.cells TRat.d y)), (7, (.op 0 0 0)), (9, (.os 1 0 sums3.length)), (11, (.op 2 0 0)), (12, (aI x2)), (13, (.op 3 0 0)), (29, (encL TRow.cells TRow.d l)), (30, (aI ((l.length : Nat) : Int))), (31, (aI x2)), (44, (encL TRat.cells TRat.d ((l.getD ((x2).toNat) TRow.d).f_Coefs))), (45, (aI ((((l.getD ((x2).toNat) TRow.d).f_Coefs).length : Nat) : Int))), (46, (aI x3)), (47, (aB (decide (x3 < ((((l.getD ((x2).toNat) TRow.d).f_Coefs).length : Nat) : Int)))))], [(0, vO 4 [(aB false), .nil, (aB false), .nil]), (1, aO 4 TRat.cells TRat.d sums3), (2, vO 4 (TRat.cells bound)), (3, vO 5 (TRow.cells (l.getD ((x2).toNat) TRow.d)))], 20⟩ (C_137 1025640) [] [] (kp [2, 7, 9, 11, 12, 13, 29, 30, 31, 44, 45, 46, 47]) (kq [0, 1, 2, 3]) 20 [] trivial ?_
    refine Runs.sA 1 [.code (C_137 2051282), .code (C_137 2051283), .inLoop (C_137 512820), .inBlock 4, .code (C_137 64103), .inBlock 3, .code (C_137 4007), .inLoop (C_137 500), .inBlock 2, .code (C_137 63)] ?_
    refine Runs.sC 47 (C_137 4102564) (C_137 4102565) (decide (x3 < ((((l.getD ((x2).toNat) TRow.d).f_Coefs).length : Nat) : Int))) (fun hq5 => ?_) (fun hq5 => ?_)
    · have h := condT h hq5
      refine Runs.sA 4 [.code (C_137 16410264), .code (C_137 16410265), .inBlock 5, .code (C_137 4102567), .inLoop (C_137 512820), .inBlock 4, .code (C_137 64103), .inBlock 3, .code (C_137 4007), .inLoop (C_137 500), .inBlock 2, .code (C_137 63)] ?_
      obtain ⟨c5, h⟩ := ifSome h
      refine Runs.sR hE ⟨[(2, (encL TRat.cells TRat.d y)), (7, (.op 0 0 0)), (9, (.os 1 0 sums3.length)), (11, (.op 2 0 0)), (12, (aI x2)), (13, (.op 3 0 0)), (14, (aI x3)), (15, (.op 68 0 0)), (29, (encL TRow.cells TRow.d l)), (30, (aI ((l.length : Nat) : Int))), (31, (aI x2)), (44, (encL TRat.cells TRat.d ((l.getD ((x2).toNat) TRow.d).f_Coefs))), (45, (aI ((((l.getD ((x2).toNat) TRow.d).f_Coefs).length : Nat) : Int))), (46, (aI x3))], [(0, vO 4 [(aB false), .nil, (aB false), .nil]), (1, aO 4 TRat.cells TRat.d sums3), (2, vO 4 (TRat.cells bound)), (3, vO 5 (TRow.cells (l.getD ((x2).toNat) TRow.d))), (68, vO 4 [(aB (((((l.getD ((x2).toNat) TRow.d).f_Coefs).getD ((x3).toNat) TRat.d).f_Num).f_Neg)), (encL (cU .u16) 0 (((((l.getD ((x2).toNat) TRow.d).f_Coefs).getD ((x3).toNat) TRat.d).f_Num).f_Limbs)), (aB (((((l.getD ((x2).toNat) TRow.d).f_Coefs).getD ((x3).toNat) TRat.d).f_Den).f_Neg)), (encL (cU .u16) 0 (((((l.getD ((x2).toNat) TRow.d).f_Coefs).getD ((x3).toNat) TRat.d).f_Den).f_Limbs))])], 116⟩ (C_137 16410264) [] [] (kp [2, 7, 9, 11, 12, 13, 14, 15, 29, 30, 31, 44, 45, 46]) (kq [0, 1, 2, 3, 68]) 116 [0 ≤ x3 ∧ x3 < ((((l.getD ((x2).toNat) TRow.d).f_Coefs).length : Nat) : Int), 0 < 1] ⟨c5, o1, trivial⟩ ?_
      obtain ⟨c6, h⟩ := ifSome h
      obtain ⟨c7, h⟩ := ifSome h
      obtain ⟨rMulRat, hr4, h⟩ := bindSome h
      obtain ⟨rAddRat, hr5, h⟩ := bindSome h
      refine Runs.sR hE ⟨[(2, (encL TRat.cells TRat.d y)), (7, (.op 0 0 0)), (9, (.os 1 0 ((sums3.set ((x3).toNat) rAddRat).length))), (11, (.op 2 0 0)), (12, (aI x2)), (13, (.op 3 0 0)), (29, (encL TRow.cells TRow.d l)), (30, (aI ((l.length : Nat) : Int))), (31, (aI x2)), (44, (encL TRat.cells TRat.d ((l.getD ((x2).toNat) TRow.d).f_Coefs))), (45, (aI ((((l.getD ((x2).toNat) TRow.d).f_Coefs).length : Nat) : Int))), (46, (aI x3))], [(0, vO 4 [(aB false), .nil, (aB false), .nil]), (1, aO 4 TRat.cells TRat.d (sums3.set ((x3).toNat) rAddRat)), (2, vO 4 (TRat.cells bound)), (3, vO 5 (TRow.cells (l.getD ((x2).toNat) TRow.d)))], 356⟩ (C_137 16410265) [(11, ⟨[], true, (.agg (TRat.cells rMulRat)), [], 0, false, none⟩), (12, ⟨[], true, (.agg (TRat.cells rAddRat)), [], 0, false, none⟩)] [] (kp [2, 7] ++ [(9, .osl ((sums3.set ((x3).toNat) rAddRat).length))] ++ kp [11, 12, 13, 29, 30, 31, 44, 45, 46]) (kq [0] ++ [(1, .arr 1 ((sums3.set ((x3).toNat) rAddRat).length) (fun zi => TRat.cells ((sums3.set ((x3).toNat) rAddRat).getD zi TRat.d)))] ++ kq [2, 3]) 356 [0 ≤ x3 ∧ x3 < ((sums3.length : Nat) : Int), (x3).toNat < sums3.length, 0 ≤ x2 ∧ x2 < ((y.length : Nat) : Int), 0 < 1, Sound Try.prog 32 [(.agg [(aB (((y.getD ((x2).toNat) TRat.d).f_Num).f_Neg)), (encL (cU .u16) 0 (((y.getD ((x2).toNat) TRat.d).f_Num).f_Limbs)), (aB (((y.getD ((x2).toNat) TRat.d).f_Den).f_Neg)), (encL (cU .u16) 0 (((y.getD ((x2).toNat) TRat.d).f_Den).f_Limbs))]), (.agg [(aB (((((l.getD ((x2).toNat) TRow.d).f_Coefs).getD ((x3).toNat) TRat.d).f_Num).f_Neg)), (encL (cU .u16) 0 (((((l.getD ((x2).toNat) TRow.d).f_Coefs).getD ((x3).toNat) TRat.d).f_Num).f_Limbs)), (aB (((((l.getD ((x2).toNat) TRow.d).f_Coefs).getD ((x3).toNat) TRat.d).f_Den).f_Neg)), (encL (cU .u16) 0 (((((l.getD ((x2).toNat) TRow.d).f_Coefs).getD ((x3).toNat) TRat.d).f_Den).f_Limbs))])] [] 0 (.agg (TRat.cells rMulRat)) [], Sound Try.prog 33 [(.agg [(aB (((sums3.getD ((x3).toNat) TRat.d).f_Num).f_Neg)), (encL (cU .u16) 0 (((sums3.getD ((x3).toNat) TRat.d).f_Num).f_Limbs)), (aB (((sums3.getD ((x3).toNat) TRat.d).f_Den).f_Neg)), (encL (cU .u16) 0 (((sums3.getD ((x3).toNat) TRat.d).f_Den).f_Limbs))]), (.agg (TRat.cells rMulRat))] [] 0 (.agg (TRat.cells rAddRat)) [], 0 ≤ x3 ∧ x3 < ((sums3.length : Nat) : Int), (x3).toNat < sums3.length, sums3.length = (sums3.set ((x3).toNat) rAddRat).length, sums3.length = (sums3.set ((x3).toNat) rAddRat).length, ∀ zi, zi < (sums3.set ((x3).toNat) rAddRat).length → (fun zi => TRat.cells ((sums3.set ((x3).toNat) rAddRat).getD zi TRat.d)) zi = ((fun zm => if zm = (x3).toNat then [(aB rAddRat.f_Num.f_Neg), (encL (cU .u16) 0 rAddRat.f_Num.f_Limbs), (aB rAddRat.f_Den.f_Neg), (encL (cU .u16) 0 rAddRat.f_Den.f_Limbs)] else (fun zi => TRat.cells (sums3.getD zi TRat.d)) zm)) zi] ⟨c6, (ltOf c6), c7, o1, (g_e_MulRat_ok N (⟨((y.getD ((x2).toNat) TRat.d).f_Num), ((y.getD ((x2).toNat) TRat.d).f_Den)⟩ : TRat) (⟨((((l.getD ((x2).toNat) TRow.d).f_Coefs).getD ((x3).toNat) TRat.d).f_Num), ((((l.getD ((x2).toNat) TRow.d).f_Coefs).getD ((x3).toNat) TRat.d).f_Den)⟩ : TRat) rMulRat hr4), (g_e_AddRat_ok N (⟨((sums3.getD ((x3).toNat) TRat.d).f_Num), ((sums3.getD ((x3).toNat) TRat.d).f_Den)⟩ : TRat) rMulRat rAddRat hr5), c6, (ltOf c6), (len_set_raw rfl), (len_set_raw rfl), (get_set_raw TRat.cells TRat.d sums3 ((x3).toNat) rAddRat (fun _ _ => rfl)), trivial⟩ ?_
      refine Runs.sA 1 [.code (C_137 4102567), .inLoop (C_137 512820), .inBlock 4, .code (C_137 64103), .inBlock 3, .code (C_137 4007), .inLoop (C_137 500), .inBlock 2, .code (C_137 63)] ?_
      refine Runs.sR hE ⟨[(2, (encL TRat.cells TRat.d y)), (7, (.op 0 0 0)), (9, (.os 1 0 ((sums3.set ((x3).toNat) rAddRat).length))), (11, (.op 2 0 0)), (12, (aI x2)), (13, (.op 3 0 0)), (29, (encL TRow.cells TRow.d l)), (30, (aI ((l.length : Nat) : Int))), (31, (aI x2)), (44, (encL TRat.cells TRat.d ((l.getD ((x2).toNat) TRow.d).f_Coefs))), (45, (aI ((((l.getD ((x2).toNat) TRow.d).f_Coefs).length : Nat) : Int))), (46, (aI (w64 (x3 + 1))))], [(0, vO 4 [(aB false), .nil, (aB false), .nil]), (1, aO 4 TRat.cells TRat.d (sums3.set ((x3).toNat) rAddRat)), (2, vO 4 (TRat.cells bound)), (3, vO 5 (TRow.cells (l.getD ((x2).toNat) TRow.d)))], 388⟩ (C_137 4102567) [] [] (kp [2, 7, 9, 11, 12, 13, 29, 30, 31, 44, 45, 46]) (kq [0, 1, 2, 3]) 388 [] trivial ?_
      refine Runs.sA 1 [.code (C_137 512820), .inLoop (C_137 512820), .inBlock 4, .code (C_137 64103), .inBlock 3, .code (C_137 4007), .inLoop (C_137 500), .inBlock 2, .code (C_137 63)] ?_
      exact Runs.sW hE _ [] (kp [2, 7, 9, 11, 12, 13, 29, 30, 31, 44, 45, 46]) (kq [0, 1, 2, 3]) 4 [] trivial (ih (sums3.set ((x3).toNat) rAddRat) (w64 (x3 + 1)) _ h E hE)
    · have h := condF h hq5
      refine Runs.sA 1 [.code (C_137 64103), .inBlock 3, .code (C_137 4007), .inLoop (C_137 500), .inBlock 2, .code (C_137 63)] ?_
      obtain ⟨c8, h⟩ := ifSome h
      obtain ⟨rMulRat2, hr6, h⟩ := bindSome h
      obtain ⟨rAddRat2, hr7, h⟩ := bindSome h
      refine Runs.sR hE ⟨[(2, (encL TRat.cells TRat.d y)), (7, (.op 0 0 0)), (9, (.os 1 0 sums3.length)), (11, (.op 2 0 0)), (29, (encL TRow.cells TRow.d l)), (30, (aI ((l.length : Nat) : Int))), (31, (aI x2))], [(0, vO 4 [(aB false), .nil, (aB false), .nil]), (1, aO 4 TRat.cells TRat.d sums3), (2, vO 4 (TRat.cells rAddRat2))], 180⟩ (C_137 64103) [(7, ⟨[], true, (.agg (TRat.cells rMulRat2)), [], 0, false, none⟩), (8, ⟨[], true, (.agg (TRat.cells rAddRat2)), [], 0, false, none⟩)] [] (kp [2, 7, 9, 11, 29, 30, 31]) (kq [0, 1, 2]) 180 [0 < 1, 0 ≤ x2 ∧ x2 < ((y.length : Nat) : Int), 0 < 1, Sound Try.prog 32 [(.agg [(aB (((y.getD ((x2).toNat) TRat.d).f_Num).f_Neg)), (encL (cU .u16) 0 (((y.getD ((x2).toNat) TRat.d).f_Num).f_Limbs)), (aB (((y.getD ((x2).toNat) TRat.d).f_Den).f_Neg)), (encL (cU .u16) 0 (((y.getD ((x2).toNat) TRat.d).f_Den).f_Limbs))]), (.agg [(aB ((((l.getD ((x2).toNat) TRow.d).f_Bound).f_Num).f_Neg)), (encL (cU .u16) 0 ((((l.getD ((x2).toNat) TRow.d).f_Bound).f_Num).f_Limbs)), (aB ((((l.getD ((x2).toNat) TRow.d).f_Bound).f_Den).f_Neg)), (encL (cU .u16) 0 ((((l.getD ((x2).toNat) TRow.d).f_Bound).f_Den).f_Limbs))])] [] 0 (.agg (TRat.cells rMulRat2)) [], Sound Try.prog 33 [(.agg (TRat.cells bound)), (.agg (TRat.cells rMulRat2))] [] 0 (.agg (TRat.cells rAddRat2)) [], 0 < 1] ⟨o1, c8, o1, (g_e_MulRat_ok N (⟨((y.getD ((x2).toNat) TRat.d).f_Num), ((y.getD ((x2).toNat) TRat.d).f_Den)⟩ : TRat) (⟨(((l.getD ((x2).toNat) TRow.d).f_Bound).f_Num), (((l.getD ((x2).toNat) TRow.d).f_Bound).f_Den)⟩ : TRat) rMulRat2 hr6), (g_e_AddRat_ok N bound rMulRat2 rAddRat2 hr7), o1, trivial⟩ ?_
      refine Runs.sA 1 [.code (C_137 4007), .inLoop (C_137 500), .inBlock 2, .code (C_137 63)] ?_
      refine Runs.sR hE ⟨[(2, (encL TRat.cells TRat.d y)), (7, (.op 0 0 0)), (9, (.os 1 0 sums3.length)), (11, (.op 2 0 0)), (29, (encL TRow.cells TRow.d l)), (30, (aI ((l.length : Nat) : Int))), (31, (aI (w64 (x2 + 1))))], [(0, vO 4 [(aB false), .nil, (aB false), .nil]), (1, aO 4 TRat.cells TRat.d sums3), (2, vO 4 (TRat.cells rAddRat2))], 212⟩ (C_137 4007) [] [] (kp [2, 7, 9, 11, 29, 30, 31]) (kq [0, 1, 2]) 212 [] trivial ?_
      refine Runs.sA 1 [.code (C_137 500), .inLoop (C_137 500), .inBlock 2, .code (C_137 63)] ?_
      exact Runs.sW hE _ [] (kp [2, 7, 9, 11, 29, 30, 31]) (kq [0, 1, 2]) 3 [] trivial (hK_g_e_combined_L2 sums3 rAddRat2 (w64 (x2 + 1)) _ h E hE)
theorem g_e_combined_L2_ok (N : Nat) (l : List TRow) (y : List TRat) (fuel : Nat) : ∀ (sums2 : List TRat) (bound : TRat) (x2 : Int) (r : (List TRat) × TRat × Bool), g_e_combined_L2 N l y fuel sums2 bound x2 = some r → ∀ E, EnvOk E 0 → Runs Try.prog E 137 78 (SPost E [] (.tup [(encL TRat.cells TRat.d r.1), (.agg (TRat.cells r.2.1)), (aB r.2.2)])) [.code (C_137 500), .inLoop (C_137 500), .inBlock 2, .code (C_137 63)] ⟨[(2, (encL TRat.cells TRat.d y)), (7, (.op 0 0 0)), (9, (.os 1 0 sums2.length)), (11, (.op 2 0 0)), (29, (encL TRow.cells TRow.d l)), (30, (aI ((l.length : Nat) : Int))), (31, (aI x2))], [(0, vO 4 [(aB false), .nil, (aB false), .nil]), (1, aO 4 TRat.cells TRat.d sums2), (2, vO 4 (TRat.cells bound))], 3⟩ := by
  induction fuel with
  | zero => intro _ _ _ r h; rw [g_e_combined_L2.eq_1] at h; cases h
  | succ fuel ih =>
    intro sums2 bound x2 r h E hE
    rw [g_e_combined_L2.eq_2] at h
    refine Runs.sA 1 [.code (C_137 1000), .code (C_137 1001), .inLoop (C_137 500), .inBlock 2, .code (C_137 63)] ?_
    refine Runs.sR hE ⟨[(2, (encL TRat.cells TRat.d y)), (7, (.op 0 0 0)), (9, (.os 1 0 sums2.length)), (11, (.op 2 0 0)), (29, (encL TRow.cells TRow.d l)), (30, (aI ((l.length : Nat) : Int))), (31, (aI x2)), (32, (aB (decide (x2 < ((l.length : Nat) : Int)))))], [(0, vO 4 [(aB false), .nil, (aB false), .nil]), (1, aO 4 TRat.cells TRat.d sums2), (2, vO 4 (TRat.cells bound))], 19⟩ (C_137 1000) [] [] (kp [2, 7, 9, 11, 29, 30, 31, 32]) (kq [0, 1, 2]) 19 [] trivial ?_
    refine Runs.sA 1 [.code (C_137 2002), .code (C_137 2003), .inLoop (C_137 500), .inBlock 2, .code (C_137 63)] ?_
    refine Runs.sC 32 (C_137 4004) (C_137 4005) (decide (x2 < ((l.length : Nat) : Int))) (fun hq3 => ?_) (fun hq3 => ?_)
    · have h := condT h hq3
      refine Runs.sA 4 [.code (C_137 16024), .code (C_137 16025), .inBlock 3, .code (C_137 4007), .inLoop (C_137 500), .inBlock 2, .code (C_137 63)] ?_
      obtain ⟨c3, h⟩ := ifSome h
      refine Runs.sR hE ⟨[(2, (encL TRat.cells TRat.d y)), (7, (.op 0 0 0)), (9, (.os 1 0 sums2.length)), (11, (.op 2 0 0)), (12, (aI x2)), (13, (.op 67 0 0)), (29, (encL TRow.cells TRow.d l)), (30, (aI ((l.length : Nat) : Int))), (31, (aI x2))], [(0, vO 4 [(aB false), .nil, (aB false), .nil]), (1, aO 4 TRat.cells TRat.d sums2), (2, vO 4 (TRat.cells bound)), (67, vO 5 (TRow.cells (l.getD ((x2).toNat) TRow.d)))], 115⟩ (C_137 16024) [] [] (kp [2, 7, 9, 11, 12, 13, 29, 30, 31]) (kq [0, 1, 2, 67]) 115 [0 ≤ x2 ∧ x2 < ((l.length : Nat) : Int), 0 < 1] ⟨c3, o1, trivial⟩ ?_
      refine Runs.sA 2 [.code (C_137 64100), .code (C_137 64101), .code (C_137 32051), .inBlock 3, .code (C_137 4007), .inLoop (C_137 500), .inBlock 2, .code (C_137 63)] ?_
      obtain ⟨c4, h⟩ := ifSome h
      obtain ⟨rsignOf, hr3, h⟩ := bindSome h
      refine Runs.sR hE ⟨[(2, (encL TRat.cells TRat.d y)), (7, (.op 0 0 0)), (9, (.os 1 0 sums2.length)), (11, (.op 2 0 0)), (12, (aI x2)), (13, (.op 67 0 0)), (29, (encL TRow.cells TRow.d l)), (30, (aI ((l.length : Nat) : Int))), (31, (aI x2)), (41, (aB (decide (rsignOf < 0))))], [(0, vO 4 [(aB false), .nil, (aB false), .nil]), (1, aO 4 TRat.cells TRat.d sums2), (2, vO 4 (TRat.cells bound)), (67, vO 5 (TRow.cells (l.getD ((x2).toNat) TRow.d)))], 211⟩ (C_137 64100) [(4, ⟨[], true, (aI rsignOf), [], 0, false, none⟩)] [] (kp [2, 7, 9, 11, 12, 13, 29, 30, 31, 41]) (kq [0, 1, 2, 67]) 211 [0 ≤ x2 ∧ x2 < ((y.length : Nat) : Int), Sound Try.prog 115 [(.agg [(aB (((y.getD ((x2).toNat) TRat.d).f_Num).f_Neg)), (encL (cU .u16) 0 (((y.getD ((x2).toNat) TRat.d).f_Num).f_Limbs)), (aB (((y.getD ((x2).toNat) TRat.d).f_Den).f_Neg)), (encL (cU .u16) 0 (((y.getD ((x2).toNat) TRat.d).f_Den).f_Limbs))])] [] 0 (aI rsignOf) []] ⟨c4, (g_e_signOf_ok N (⟨((y.getD ((x2).toNat) TRat.d).f_Num), ((y.getD ((x2).toNat) TRat.d).f_Den)⟩ : TRat) rsignOf hr3), trivial⟩ ?_
      refine Runs.sC 41 (C_137 128202) (C_137 128203) (decide (rsignOf < 0)) (fun hq4 => ?_) (fun hq4 => ?_)
      · have h := condT h hq4
        refine Runs.sA 1 [.code (C_137 256404), .code (C_137 256405), .code (C_137 32051), .inBlock 3, .code (C_137 4007), .inLoop (C_137 500), .inBlock 2, .code (C_137 63)] ?_
        refine Runs.sR hE ⟨[(6, .nil), (7, (.op 0 0 0)), (8, (aB false))], [(0, vO 4 (TRat.cells bound))], 275⟩ (C_137 256404) [] [] (kp [6, 7, 8]) (kq [0]) 275 [0 < 1, 0 < 1] ⟨o1, o1, trivial⟩ ?_
        obtain rfl := Option.some.inj h
        refine Runs.sW hE ⟨[(6, (encL TRat.cells TRat.d ([] : List TRat))), (7, (.op 17 0 0)), (8, (aB false))], [(17, vO 4 (TRat.cells bound))], 275⟩ [] ([(6, .sl (([] : List TRat).length) (fun zi => TRat.cells (([] : List TRat).getD zi TRat.d)))] ++ kp [7, 8]) [(17, .keep 0)] 275 [([] : List TRat).length = 0] ⟨rfl, trivial⟩ ?_
        exact Runs.sT Try.f137 [17] [0 < 1] ⟨o1, trivial⟩
      · have h := condF h hq4
        refine Runs.sA 3 [.code (C_137 128204), .code (C_137 128205), .code (C_137 64103), .inBlock 3, .code (C_137 4007), .inLoop (C_137 500), .inBlock 2, .code (C_137 63)] ?_
        refine Runs.sR hE ⟨[(2, (encL TRat.cells TRat.d y)), (7, (.op 0 0 0)), (9, (.os 1 0 sums2.length)), (11, (.op 2 0 0)), (12, (aI x2)), (13, (.op 67 0 0)), (29, (encL TRow.cells TRow.d l)), (30, (aI ((l.length : Nat) : Int))), (31, (aI x2)), (44, (encL TRat.cells TRat.d ((l.getD ((x2).toNat) TRow.d).f_Coefs))), (45, (aI ((((l.getD ((x2).toNat) TRow.d).f_Coefs).length : Nat) : Int))), (46, (aI 0))], [(0, vO 4 [(aB false), .nil, (aB false), .nil]), (1, aO 4 TRat.cells TRat.d sums2), (2, vO 4 (TRat.cells bound)), (67, vO 5 (TRow.cells (l.getD ((x2).toNat) TRow.d)))], 275⟩ (C_137 128204) [] [] (kp [2, 7, 9, 11, 12, 13, 29, 30, 31, 44, 45, 46]) (kq [0, 1, 2, 67]) 275 [0 < 1] ⟨o1, trivial⟩ ?_
        refine Runs.sA 2 [.code (C_137 512820), .inLoop (C_137 512820), .inBlock 4, .code (C_137 64103), .inBlock 3, .code (C_137 4007), .inLoop (C_137 500), .inBlock 2, .code (C_137 63)] ?_
        exact Runs.sW hE _ [] (kp [2, 7, 9, 11, 12, 13, 29, 30, 31, 44, 45, 46]) (kq [0, 1, 2] ++ [(3, .keep 67)]) 4 [] trivial (g_e_combined_L3_ok N l y bound x2 (g_e_combined_L2 N l y fuel) ih N sums2 0 _ h E hE)
    · have h := condF h hq3
      refine Runs.sA 2 [.code (C_137 126), .code (C_137 127)] ?_
      refine Runs.sR hE ⟨[(6, (.os 1 0 sums2.length)), (7, (.op 0 0 0)), (8, (aB true))], [(0, vO 4 (TRat.cells bound)), (1, aO 4 TRat.cells TRat.d sums2)], 99⟩ (C_137 126) [] [] (kp [6, 7, 8]) (kq [0, 1]) 99 [0 < 1, 0 < 1] ⟨o1, o1, trivial⟩ ?_
      obtain rfl := Option.some.inj h
      refine Runs.sW hE ⟨[(6, (encL TRat.cells TRat.d sums2)), (7, (.op 17 0 0)), (8, (aB true))], [(17, vO 4 (TRat.cells bound))], 99⟩ [1] ([(6, .sl (sums2.length) (fun zi => TRat.cells (sums2.getD zi TRat.d)))] ++ kp [7, 8]) [(17, .keep 0)] 99 [sums2.length = sums2.length, 0 + sums2.length ≤ sums2.length, ∀ zi, zi < sums2.length → (fun zi => TRat.cells (sums2.getD zi TRat.d)) zi = (fun zi => TRat.cells (sums2.getD zi TRat.d)) (addz 0 zi)] ⟨rfl, z0, (fun _ _ => rfl), trivial⟩ ?_
      exact Runs.sT Try.f137 [17] [0 < 1] ⟨o1, trivial⟩
theorem g_e_combined_L1_ok (N : Nat) (n : Int) (l : List TRow) (y : List TRat) (fuel : Nat) : ∀ (sums : List TRat) (x : Int) (r : (List TRat) × TRat × Bool), g_e_combined_L1 N n l y fuel sums x = some r → ∀ E, EnvOk E 0 → Runs Try.prog E 137 78 (SPost E [] (.tup [(encL TRat.cells TRat.d r.1), (.agg (TRat.cells r.2.1)), (aB r.2.2)])) [.code (C_137 116), .inLoop (C_137 116), .inBlock 0, .code (C_137 15)] ⟨[(1, (encL TRow.cells TRow.d l)), (2, (encL TRat.cells TRat.d y)), (7, (.op 0 0 0)), (9, (.os 1 0 sums.length)), (19, (aI (((List.replicate ((n).toNat) TRat.d : List TRat).length : Nat) : Int))), (20, (aI x))], [(0, vO 4 [(aB false), .nil, (aB false), .nil]), (1, aO 4 TRat.cells TRat.d sums)], 2⟩ := by
  induction fuel with
  | zero => intro _ _ r h; rw [g_e_combined_L1.eq_1] at h; cases h
  | succ fuel ih =>
    intro sums x r h E hE
    rw [g_e_combined_L1.eq_2] at h
    refine Runs.sA 1 [.code (C_137 232), .code (C_137 233), .inLoop (C_137 116), .inBlock 0, .code (C_137 15)] ?_
    refine Runs.sR hE ⟨[(1, (encL TRow.cells TRow.d l)), (2, (encL TRat.cells TRat.d y)), (7, (.op 0 0 0)), (9, (.os 1 0 sums.length)), (19, (aI (((List.replicate ((n).toNat) TRat.d : List TRat).length : Nat) : Int))), (20, (aI x)), (21, (aB (decide (x < (((List.replicate ((n).toNat) TRat.d : List TRat).length : Nat) : Int)))))], [(0, vO 4 [(aB false), .nil, (aB false), .nil]), (1, aO 4 TRat.cells TRat.d sums)], 18⟩ (C_137 232) [] [] (kp [1, 2, 7, 9, 19, 20, 21]) (kq [0, 1]) 18 [] trivial ?_
    refine Runs.sA 1 [.code (C_137 466), .code (C_137 467), .inLoop (C_137 116), .inBlock 0, .code (C_137 15)] ?_
    refine Runs.sC 21 (C_137 932) (C_137 933) (decide (x < (((List.replicate ((n).toNat) TRat.d : List TRat).length : Nat) : Int))) (fun hq2 => ?_) (fun hq2 => ?_)
    · have h := condT h hq2
      refine Runs.sA 4 [.code (C_137 3736), .code (C_137 3737), .inBlock 1, .code (C_137 935), .inLoop (C_137 116), .inBlock 0, .code (C_137 15)] ?_
      refine Runs.sR hE ⟨[(1, (encL TRow.cells TRow.d l)), (2, (encL TRat.cells TRat.d y)), (7, (.op 0 0 0)), (9, (.os 1 0 sums.length)), (10, (aI x)), (19, (aI (((List.replicate ((n).toNat) TRat.d : List TRat).length : Nat) : Int))), (20, (aI x))], [(0, vO 4 [(aB false), .nil, (aB false), .nil]), (1, aO 4 TRat.cells TRat.d sums)], 50⟩ (C_137 3736) [] [] (kp [1, 2, 7, 9, 10, 19, 20]) (kq [0, 1]) 50 [] trivial ?_
      obtain ⟨rnumber, hr, h⟩ := bindSome h
      obtain ⟨c2, h⟩ := ifSome h
      refine Runs.sR hE ⟨[(1, (encL TRow.cells TRow.d l)), (2, (encL TRat.cells TRat.d y)), (7, (.op 0 0 0)), (9, (.os 1 0 ((sums.set ((x).toNat) rnumber).length))), (19, (aI (((List.replicate ((n).toNat) TRat.d : List TRat).length : Nat) : Int))), (20, (aI x))], [(0, vO 4 [(aB false), .nil, (aB false), .nil]), (1, aO 4 TRat.cells TRat.d (sums.set ((x).toNat) rnumber))], 130⟩ (C_137 3737) [(2, ⟨[], true, (.agg (TRat.cells rnumber)), [], 0, false, none⟩)] [] (kp [1, 2, 7] ++ [(9, .osl ((sums.set ((x).toNat) rnumber).length))] ++ kp [19, 20]) (kq [0] ++ [(1, .arr 1 ((sums.set ((x).toNat) rnumber).length) (fun zi => TRat.cells ((sums.set ((x).toNat) rnumber).getD zi TRat.d)))]) 130 [Sound Try.prog 122 [(aI 0)] [] 0 (.agg (TRat.cells rnumber)) [], 0 ≤ x ∧ x < ((sums.length : Nat) : Int), (x).toNat < sums.length, sums.length = (sums.set ((x).toNat) rnumber).length, sums.length = (sums.set ((x).toNat) rnumber).length, ∀ zi, zi < (sums.set ((x).toNat) rnumber).length → (fun zi => TRat.cells ((sums.set ((x).toNat) rnumber).getD zi TRat.d)) zi = ((fun zm => if zm = (x).toNat then [(aB rnumber.f_Num.f_Neg), (encL (cU .u16) 0 rnumber.f_Num.f_Limbs), (aB rnumber.f_Den.f_Neg), (encL (cU .u16) 0 rnumber.f_Den.f_Limbs)] else (fun zi => TRat.cells (sums.getD zi TRat.d)) zm)) zi] ⟨(g_e_number_ok N 0 rnumber hr), c2, (ltOf c2), (len_set_raw rfl), (len_set_raw rfl), (get_set_raw TRat.cells TRat.d sums ((x).toNat) rnumber (fun _ _ => rfl)), trivial⟩ ?_
      refine Runs.sA 1 [.code (C_137 935), .inLoop (C_137 116), .inBlock 0, .code (C_137 15)] ?_
      refine Runs.sR hE ⟨[(1, (encL TRow.cells TRow.d l)), (2, (encL TRat.cells TRat.d y)), (7, (.op 0 0 0)), (9, (.os 1 0 ((sums.set ((x).toNat) rnumber).length))), (19, (aI (((List.replicate ((n).toNat) TRat.d : List TRat).length : Nat) : Int))), (20, (aI (w64 (x + 1))))], [(0, vO 4 [(aB false), .nil, (aB false), .nil]), (1, aO 4 TRat.cells TRat.d (sums.set ((x).toNat) rnumber))], 162⟩ (C_137 935) [] [] (kp [1, 2, 7, 9, 19, 20]) (kq [0, 1]) 162 [] trivial ?_
      refine Runs.sA 1 [.code (C_137 116), .inLoop (C_137 116), .inBlock 0, .code (C_137 15)] ?_
      exact Runs.sW hE _ [] (kp [1, 2, 7, 9, 19, 20]) (kq [0, 1]) 2 [] trivial (ih (sums.set ((x).toNat) rnumber) (w64 (x + 1)) _ h E hE)
    · have h := condF h hq2
      refine Runs.sA 2 [.code (C_137 30), .code (C_137 31)] ?_
      obtain ⟨rnumber2, hr2, h⟩ := bindSome h
      refine Runs.sR hE ⟨[(1, (encL TRow.cells TRow.d l)), (2, (encL TRat.cells TRat.d y)), (7, (.op 0 0 0)), (9, (.os 1 0 sums.length)), (11, (.op 34 0 0))], [(0, vO 4 [(aB false), .nil, (aB false), .nil]), (1, aO 4 TRat.cells TRat.d sums), (34, vO 4 (TRat.cells rnumber2))], 66⟩ (C_137 30) [(0, ⟨[], true, (.agg (TRat.cells rnumber2)), [], 0, false, none⟩)] [] (kp [1, 2, 7, 9, 11]) (kq [0, 1, 34]) 66 [Sound Try.prog 122 [(aI 0)] [] 0 (.agg (TRat.cells rnumber2)) [], 0 < 1] ⟨(g_e_number_ok N 0 rnumber2 hr2), o1, trivial⟩ ?_
      refine Runs.sA 2 [.code (C_137 124), .code (C_137 125), .code (C_137 63)] ?_
      refine Runs.sR hE ⟨[(2, (encL TRat.cells TRat.d y)), (7, (.op 0 0 0)), (9, (.os 1 0 sums.length)), (11, (.op 34 0 0)), (29, (encL TRow.cells TRow.d l)), (30, (aI ((l.length : Nat) : Int))), (31, (aI 0))], [(0, vO 4 [(aB false), .nil, (aB false), .nil]), (1, aO 4 TRat.cells TRat.d sums), (34, vO 4 (TRat.cells rnumber2))], 114⟩ (C_137 124) [] [] (kp [2, 7, 9, 11, 29, 30, 31]) (kq [0, 1, 34]) 114 [] trivial ?_
      refine Runs.sA 2 [.code (C_137 500), .inLoop (C_137 500), .inBlock 2, .code (C_137 63)] ?_
      exact Runs.sW hE _ [] (kp [2, 7, 9, 11, 29, 30, 31]) (kq [0, 1] ++ [(2, .keep 34)]) 3 [] trivial (g_e_combined_L2_ok N l y N sums rnumber2 0 _ h E hE)
theorem g_e_combined_ok (N : Nat) (n : Int) (l : List TRow) (y : List TRat) (r : (List TRat) × TRat × Bool) (h : g_e_combined N n l y = some r) : Sound Try.prog 137 [(aI n), (encL TRow.cells TRow.d l), (encL TRat.cells TRat.d y)] [] 0 (.tup [(encL TRat.cells TRat.d r.1), (.agg (TRat.cells r.2.1)), (aB r.2.2)]) [] := by
  unfold g_e_combined at h
  refine Sound.of_runs (fu := Try.f137) (c := C_137 1) (nt := 78) (by kernel_rfl) (by kernel_rfl) (by kernel_rfl) (by kernel_rfl) (fun hm => rfl) ?_
  intro E hE
  refine Runs.sA 1 [.code (C_137 2), .code (C_137 3)] ?_
  refine Runs.sR hE ⟨[(0, (aI n)), (1, (encL TRow.cells TRow.d l)), (2, (encL TRat.cells TRat.d y)), (7, (.op 16 0 0))], [(16, vO 4 [(aB false), .nil, (aB false), .nil])], 48⟩ (C_137 2) [] [] (kp [0, 1, 2, 7]) (kq [16]) 48 [] trivial ?_
  refine Runs.sA 1 [.code (C_137 6), .code (C_137 7)] ?_
  obtain ⟨c, h⟩ := ifSome h
  refine Runs.sR hE ⟨[(1, (encL TRow.cells TRow.d l)), (2, (encL TRat.cells TRat.d y)), (7, (.op 16 0 0)), (9, (.os 64 0 ((List.replicate ((n).toNat) TRat.d : List TRat).length)))], [(16, vO 4 [(aB false), .nil, (aB false), .nil]), (64, aO 4 TRat.cells TRat.d (List.replicate ((n).toNat) TRat.d : List TRat))], 96⟩ (C_137 6) [] [] (kp [1, 2, 7] ++ [(9, .osl ((List.replicate ((n).toNat) TRat.d : List TRat).length))]) (kq [16] ++ [(64, .arz 64 ((List.replicate ((n).toNat) TRat.d : List TRat).length) (fun zi => TRat.cells ((List.replicate ((n).toNat) TRat.d : List TRat).getD zi TRat.d)))]) 96 [0 ≤ n, n ≤ n, (64 : Int) * n ≤ 281474976710656, n ≤ 9223372036854775807, (n).toNat = (List.replicate ((n).toNat) TRat.d : List TRat).length, (n).toNat = (List.replicate ((n).toNat) TRat.d : List TRat).length, ∀ zi, zi < (List.replicate ((n).toNat) TRat.d : List TRat).length → UpL ((fun _ => [(aB false), .nil, (aB false), .nil]) zi) ((fun zi => TRat.cells ((List.replicate ((n).toNat) TRat.d : List TRat).getD zi TRat.d)) zi)] ⟨c.1, (Int.le_refl _), c.2.1, c.2.2, (List.length_replicate).symm, (List.length_replicate).symm, (fun zq hzq => get_rep_up TRat.cells TRat.d TRat.d ((n).toNat) zq ⟨.inl rfl, .inr ⟨rfl, _, rfl⟩, .inl rfl, .inr ⟨rfl, _, rfl⟩, trivial⟩ hzq), trivial⟩ ?_
  refine Runs.sA 2 [.code (C_137 28), .code (C_137 29), .code (C_137 15)] ?_
  refine Runs.sR hE ⟨[(1, (encL TRow.cells TRow.d l)), (2, (encL TRat.cells TRat.d y)), (7, (.op 16 0 0)), (9, (.os 64 0 ((List.replicate ((n).toNat) TRat.d : List TRat).length))), (19, (aI (((List.replicate ((n).toNat) TRat.d : List TRat).length : Nat) : Int))), (20, (aI 0))], [(16, vO 4 [(aB false), .nil, (aB false), .nil]), (64, aO 4 TRat.cells TRat.d (List.replicate ((n).toNat) TRat.d : List TRat))], 144⟩ (C_137 28) [] [] (kp [1, 2, 7, 9, 19, 20]) (kq [16, 64]) 144 [] trivial ?_
  refine Runs.sA 2 [.code (C_137 116), .inLoop (C_137 116), .inBlock 0, .code (C_137 15)] ?_
  exact Runs.sW hE _ [] (kp [1, 2, 7, 9, 19, 20]) [(0, .keep 16), (1, .keep 64)] 2 [] trivial (g_e_combined_L1_ok N n l y N (List.replicate ((n).toNat) TRat.d : List TRat) 0 _ h E hE)
noncomputable def C_140 (n : Nat) : Code := cat (bodyOf Try.f139) (pth n)
theorem g_e_CheckContradiction_1_ok (N : Nat) (x : TRat) (r : Bool) (h : g_e_CheckContradiction_1 N x = some r) : Sound Try.prog 139 [(.agg (TRat.cells x))] [] 0 (aB r) [] := by
  unfold g_e_CheckContradiction_1 at h
  refine Sound.of_runs (fu := Try.f139) (c := C_140 1) (nt := 6) (by kernel_rfl) (by kernel_rfl) (by kernel_rfl) (by kernel_rfl) (fun hm => rfl) ?_
  intro E hE
  refine Runs.sA 1 [.code (C_140 2), .code (C_140 3)] ?_
  refine Runs.sR hE ⟨[(1, (.op 0 0 0))], [(0, vO 4 (TRat.cells x))], 32⟩ (C_140 2) [] [] (kp [1]) (kq [0]) 32 [] trivial ?_
  refine Runs.sA 1 [.code (C_140 6), .code (C_140 7)] ?_
  obtain ⟨risZero, hr, h⟩ := bindSome h
  refine Runs.sR hE ⟨[(2, (aB (!risZero)))], [], 96⟩ (C_140 6) [(1, ⟨[], true, (aB risZero), [], 0, false, none⟩)] [] (kp [2]) [] 96 [0 < 1, Sound Try.prog 113 [(.agg (TRat.cells x))] [] 0 (aB risZero) []] ⟨o1, (g_e_isZero_ok N x risZero hr), trivial⟩ ?_
  obtain rfl := Option.some.inj h
  refine Runs.sW hE ⟨[(2, (aB (!risZero)))], [], 96⟩ [] (kp [2]) [] 96 [] trivial ?_
  exact Runs.sT Try.f139 [] [] trivial
noncomputable def C_139 (n : Nat) : Code := cat (bodyOf Try.f162) (pth n)
theorem g_slices_IndexFunc_Rat_L1_ok (N : Nat) (s : List TRat) (fuel : Nat) : ∀ (x : Int) (r : Int), g_slices_IndexFunc_Rat_L1 N s fuel x = some r → ∀ E, EnvOk E 0 → Runs Try.prog E 162 19 (SPost E [] (aI r)) [.code (C_139 52), .inLoop (C_139 52), .inBlock 0, .code (C_139 7)] ⟨[(0, (encL TRat.cells TRat.d s)), (1, (.fn (.func 139) [] [])), (7, (aI ((s.length : Nat) : Int))), (8, (aI x))], [], 0⟩ := by
  induction fuel with
  | zero => intro _ r h; rw [g_slices_IndexFunc_Rat_L1.eq_1] at h; cases h
  | succ fuel ih =>
    intro x r h E hE
    rw [g_slices_IndexFunc_Rat_L1.eq_2] at h
    refine Runs.sA 1 [.code (C_139 104), .code (C_139 105), .inLoop (C_139 52), .inBlock 0, .code (C_139 7)] ?_
    refine Runs.sR hE ⟨[(0, (encL TRat.cells TRat.d s)), (1, (.fn (.func 139) [] [])), (7, (aI ((s.length : Nat) : Int))), (8, (aI x)), (9, (aB (decide (x < ((s.length : Nat) : Int)))))], [], 16⟩ (C_139 104) [] [] (kp [0, 1, 7, 8, 9]) [] 16 [] trivial ?_
    refine Runs.sA 1 [.code (C_139 210), .code (C_139 211), .inLoop (C_139 52), .inBlock 0, .code (C_139 7)] ?_
    refine Runs.sC 9 (C_139 420) (C_139 421) (decide (x < ((s.length : Nat) : Int))) (fun hq2 => ?_) (fun hq2 => ?_)
    · have h := condT h hq2
      refine Runs.sA 4 [.code (C_139 1688), .code (C_139 1689), .inBlock 1, .code (C_139 423), .inLoop (C_139 52), .inBlock 0, .code (C_139 7)] ?_
      refine Runs.sR hE ⟨[(0, (encL TRat.cells TRat.d s)), (1, (.fn (.func 139) [] [])), (5, (aI x)), (7, (aI ((s.length : Nat) : Int))), (8, (aI x))], [], 48⟩ (C_139 1688) [] [] (kp [0, 1, 5, 7, 8]) [] 48 [] trivial ?_
      refine Runs.sA 1 [.code (C_139 3378), .code (C_139 3379), .inBlock 1, .code (C_139 423), .inLoop (C_139 52), .inBlock 0, .code (C_139 7)] ?_
      obtain ⟨c, h⟩ := ifSome h
      obtain ⟨rCheckContrad, hr, h⟩ := bindSome h
      refine Runs.sR hE ⟨[(0, (encL TRat.cells TRat.d s)), (1, (.fn (.func 139) [] [])), (5, (aI x)), (7, (aI ((s.length : Nat) : Int))), (8, (aI x)), (16, (aB rCheckContrad))], [], 144⟩ (C_139 3378) [(5, ⟨[], true, (aB rCheckContrad), [], 0, false, none⟩)] [] (kp [0, 1, 5, 7, 8, 16]) [] 144 [0 ≤ x ∧ x < ((s.length : Nat) : Int), Sound Try.prog 139 [(.agg [(aB (((s.getD ((x).toNat) TRat.d).f_Num).f_Neg)), (encL (cU .u16) 0 (((s.getD ((x).toNat) TRat.d).f_Num).f_Limbs)), (aB (((s.getD ((x).toNat) TRat.d).f_Den).f_Neg)), (encL (cU .u16) 0 (((s.getD ((x).toNat) TRat.d).f_Den).f_Limbs))])] [] 0 (aB rCheckContrad) []] ⟨c, (g_e_CheckContradiction_1_ok N (⟨((s.getD ((x).toNat) TRat.d).f_Num), ((s.getD ((x).toNat) TRat.d).f_Den)⟩ : TRat) rCheckContrad hr), trivial⟩ ?_
      refine Runs.sC 16 (C_139 6758) (C_139 6759) rCheckContrad (fun hq3 => ?_) (fun hq3 => ?_)
      · have h := condT h hq3
        refine Runs.sA 1 [.code (C_139 13516), .code (C_139 13517), .inBlock 1, .code (C_139 423), .inLoop (C_139 52), .inBlock 0, .code (C_139 7)] ?_
        refine Runs.sR hE ⟨[(4, (aI x))], [], 176⟩ (C_139 13516) [] [] (kp [4]) [] 176 [] trivial ?_
        obtain rfl := Option.some.inj h
        refine Runs.sW hE ⟨[(4, (aI x))], [], 176⟩ [] (kp [4]) [] 176 [] trivial ?_
        exact Runs.sT Try.f162 [] [] trivial
      · have h := condF h hq3
        refine Runs.sA 2 [.code (C_139 423), .inLoop (C_139 52), .inBlock 0, .code (C_139 7)] ?_
        refine Runs.sR hE ⟨[(0, (encL TRat.cells TRat.d s)), (1, (.fn (.func 139) [] [])), (7, (aI ((s.length : Nat) : Int))), (8, (aI (w64 (x + 1))))], [], 176⟩ (C_139 423) [] [] (kp [0, 1, 7, 8]) [] 176 [] trivial ?_
        refine Runs.sA 1 [.code (C_139 52), .inLoop (C_139 52), .inBlock 0, .code (C_139 7)] ?_
        exact Runs.sW hE _ [] (kp [0, 1, 7, 8]) [] 0 [] trivial (ih (w64 (x + 1)) _ h E hE)
    · have h := condF h hq2
      refine Runs.sA 2 [.code (C_139 14), .code (C_139 15)] ?_
      refine Runs.sR hE ⟨[(4, (aI (-1)))], [], 32⟩ (C_139 14) [] [] (kp [4]) [] 32 [] trivial ?_
      obtain rfl := Option.some.inj h
      refine Runs.sW hE ⟨[(4, (aI (-1)))], [], 48⟩ [] (kp [4]) [] 48 [] trivial ?_
      exact Runs.sT Try.f162 [] [] trivial
theorem g_slices_IndexFunc_Rat_ok (N : Nat) (s : List TRat) (r : Int) (h : g_slices_IndexFunc_Rat N s = some r) : Sound Try.prog 162 [(encL TRat.cells TRat.d s), (.fn (.func 139) [] [])] [] 0 (aI r) [] := by
  unfold g_slices_IndexFunc_Rat at h
  refine Sound.of_runs (fu := Try.f162) (c := C_139 1) (nt := 19) (by kernel_rfl) (by kernel_rfl) (by kernel_rfl) (by kernel_rfl) (fun hm => rfl) ?_
  intro E hE
  refine Runs.sA 1 [.code (C_139 2), .code (C_139 3)] ?_
  refine Runs.sR hE ⟨[(0, (encL TRat.cells TRat.d s)), (1, (.fn (.func 139) [] []))], [], 16⟩ (C_139 2) [] [] (kp [0, 1]) [] 16 [] trivial ?_
  refine Runs.sA 2 [.code (C_139 12), .code (C_139 13), .code (C_139 7)] ?_
  refine Runs.sR hE ⟨[(0, (encL TRat.cells TRat.d s)), (1, (.fn (.func 139) [] [])), (7, (aI ((s.length : Nat) : Int))), (8, (aI 0))], [], 64⟩ (C_139 12) [] [] (kp [0, 1, 7, 8]) [] 64 [] trivial ?_
  refine Runs.sA 2 [.code (C_139 52), .inLoop (C_139 52), .inBlock 0, .code (C_139 7)] ?_
  exact Runs.sW hE _ [] (kp [0, 1, 7, 8]) [] 0 [] trivial (g_slices_IndexFunc_Rat_L1_ok N s N 0 _ h E hE)
noncomputable def C_138 (n : Nat) : Code := cat (bodyOf Try.f138) (pth n)
theorem g_slices_ContainsFunc_Rat_ok (N : Nat) (s : List TRat) (r : Bool) (h : g_slices_ContainsFunc_Rat N s = some r) : Sound Try.prog 138 [(encL TRat.cells TRat.d s), (.fn (.func 139) [] [])] [] 0 (aB r) [] := by
  unfold g_slices_ContainsFunc_Rat at h
  refine Sound.of_runs (fu := Try.f138) (c := C_138 1) (nt := 9) (by kernel_rfl) (by kernel_rfl) (by kernel_rfl) (by kernel_rfl) (fun hm => rfl) ?_
  intro E hE
  refine Runs.sA 1 [.code (C_138 2), .code (C_138 3)] ?_
  refine Runs.sR hE ⟨[(0, (encL TRat.cells TRat.d s)), (1, (.fn (.func 139) [] []))], [], 16⟩ (C_138 2) [] [] (kp [0, 1]) [] 16 [] trivial ?_
  refine Runs.sA 1 [.code (C_138 6), .code (C_138 7)] ?_
  obtain ⟨rRat, hr, h⟩ := bindSome h
  refine Runs.sR hE ⟨[(4, (aB (decide (rRat ≥ 0))))], [], 96⟩ (C_138 6) [(2, ⟨[], true, (aI rRat), [], 0, false, none⟩)] [] (kp [4]) [] 96 [Sound Try.prog 162 [(encL TRat.cells TRat.d s), (.fn (.func 139) [] [])] [] 0 (aI rRat) []] ⟨(g_slices_IndexFunc_Rat_ok N s rRat hr), trivial⟩ ?_
  obtain rfl := Option.some.inj h
  refine Runs.sW hE ⟨[(4, (aB (decide (rRat ≥ 0))))], [], 96⟩ [] (kp [4]) [] 96 [] trivial ?_
  exact Runs.sT Try.f138 [] [] trivial
noncomputable def C_136 (n : Nat) : Code := cat (bodyOf Try.f82) (pth n)
theorem g_e_CheckContradiction_ok (N : Nat) (n : Int) (l : List TRow) (multipliers : List TRat) (r : Int) (h : g_e_CheckContradiction N n l multipliers = some r) : Sound Try.prog 82 [(aI n), (encL TRow.cells TRow.d l), (encL TRat.cells TRat.d multipliers)] [] 0 (aI r) [] := by
  unfold g_e_CheckContradiction at h
  refine Sound.of_runs (fu := Try.f82) (c := C_136 1) (nt := 41) (by kernel_rfl) (by kernel_rfl) (by kernel_rfl) (by kernel_rfl) (fun hm => rfl) ?_
  intro E hE
  refine Runs.sA 1 [.code (C_136 2), .code (C_136 3)] ?_
  refine Runs.sR hE ⟨[(0, (aI n)), (1, (encL TRow.cells TRow.d l)), (2, (encL TRat.cells TRat.d multipliers))], [], 16⟩ (C_136 2) [] [] (kp [0, 1, 2]) [] 16 [] trivial ?_
  refine Runs.sA 2 [.code (C_136 12), .code (C_136 13), .code (C_136 7)] ?_
  obtain ⟨rCheckRows, hr, h⟩ := bindSome h
  refine Runs.sR hE ⟨[(0, (aI n)), (1, (encL TRow.cells TRow.d l)), (2, (encL TRat.cells TRat.d multipliers)), (7, (aI rCheckRows))], [], 80⟩ (C_136 12) [(2, ⟨[], true, (aI rCheckRows), [], 0, false, none⟩)] [] (kp [0, 1, 2, 7]) [] 80 [Sound Try.prog 78 [(aI n), (encL TRow.cells TRow.d l)] [] 0 (aI rCheckRows) []] ⟨(g_e_CheckRows_ok N n l rCheckRows hr), trivial⟩ ?_
  refine Runs.sA 1 [.code (C_136 26), .code (C_136 27), .code (C_136 7)] ?_
  refine Runs.sR hE ⟨[(0, (aI n)), (1, (encL TRow.cells TRow.d l)), (2, (encL TRat.cells TRat.d multipliers)), (7, (aI rCheckRows)), (15, (aB (rCheckRows != 0)))], [], 112⟩ (C_136 26) [] [] (kp [0, 1, 2, 7, 15]) [] 112 [] trivial ?_
  refine Runs.sC 15 (C_136 54) (C_136 55) (rCheckRows != 0) (fun hq2 => ?_) (fun hq2 => ?_)
  · have h := condT h hq2
    refine Runs.sA 1 [.code (C_136 108), .code (C_136 109), .code (C_136 7)] ?_
    refine Runs.sR hE ⟨[(6, (aI rCheckRows))], [], 144⟩ (C_136 108) [] [] (kp [6]) [] 144 [] trivial ?_
    obtain rfl := Option.some.inj h
    refine Runs.sW hE ⟨[(6, (aI rCheckRows))], [], 144⟩ [] (kp [6]) [] 144 [] trivial ?_
    exact Runs.sT Try.f82 [] [] trivial
  · have h := condF h hq2
    refine Runs.sA 3 [.code (C_136 28), .code (C_136 29), .code (C_136 15)] ?_
    refine Runs.sR hE ⟨[(0, (aI n)), (1, (encL TRow.cells TRow.d l)), (2, (encL TRat.cells TRat.d multipliers)), (21, (aB (((multipliers.length : Nat) : Int) != ((l.length : Nat) : Int))))], [], 192⟩ (C_136 28) [] [] (kp [0, 1, 2, 21]) [] 192 [] trivial ?_
    refine Runs.sC 21 (C_136 58) (C_136 59) (((multipliers.length : Nat) : Int) != ((l.length : Nat) : Int)) (fun hq3 => ?_) (fun hq3 => ?_)
    · have h := condT h hq3
      refine Runs.sA 1 [.code (C_136 116), .code (C_136 117), .code (C_136 15)] ?_
      refine Runs.sR hE ⟨[(6, (aI 11))], [], 208⟩ (C_136 116) [] [] (kp [6]) [] 208 [] trivial ?_
      obtain rfl := Option.some.inj h
      refine Runs.sW hE ⟨[(6, (aI 11))], [], 208⟩ [] (kp [6]) [] 208 [] trivial ?_
      exact Runs.sT Try.f82 [] [] trivial
    · have h := condF h hq3
      refine Runs.sA 2 [.code (C_136 30), .code (C_136 31)] ?_
      obtain ⟨rcombined, hr2, h⟩ := bindSome h
      refine Runs.sR hE ⟨[(8, (encL TRat.cells TRat.d rcombined.1)), (9, (.op 320 0 0)), (10, (aB rcombined.2.2))], [(320, vO 4 (TRat.cells rcombined.2.1))], 384⟩ (C_136 30) [(3, ⟨[], true, (.tup [(encL TRat.cells TRat.d rcombined.1), (.agg (TRat.cells rcombined.2.1)), (aB rcombined.2.2)]), [], 0, false, none⟩)] [] (kp [8, 9, 10]) (kq [320]) 384 [Sound Try.prog 137 [(aI n), (encL TRow.cells TRow.d l), (encL TRat.cells TRat.d multipliers)] [] 0 (.tup [(encL TRat.cells TRat.d rcombined.1), (.agg (TRat.cells rcombined.2.1)), (aB rcombined.2.2)]) [], 0 < 1] ⟨(g_e_combined_ok N n l multipliers rcombined hr2), o1, trivial⟩ ?_
      refine Runs.sA 2 [.code (C_136 124), .code (C_136 125), .code (C_136 63)] ?_
      obtain ⟨rsignOf, hr3, h⟩ := bindSome h
      obtain ⟨rRat, hr4, h⟩ := bindSome h
      refine Runs.sR hE ⟨[(40, (aB (cond (cond (!rcombined.2.2) true (decide (rsignOf ≥ 0))) true rRat)))], [], 560⟩ (C_136 124) [(4, ⟨[], true, (aI rsignOf), [], 0, false, none⟩), (9, ⟨[], true, (aB rRat), [], 0, false, none⟩)] [] (kp [40]) [] 560 [(!(!rcombined.2.2)) = true → AllP [0 < 1], (!(!rcombined.2.2)) = true → AllP [Sound Try.prog 115 [(.agg (TRat.cells rcombined.2.1))] [] 0 (aI rsignOf) [], (!(!rcombined.2.2)) = true], (!(!rcombined.2.2)) = true → AllP [(!(!rcombined.2.2)) = true], (!(!rcombined.2.2)) = true → AllP [(!(!rcombined.2.2)) = true], (!(cond (!rcombined.2.2) true (decide (rsignOf ≥ 0)))) = true → AllP [Sound Try.prog 138 [(encL TRat.cells TRat.d rcombined.1), (.fn (.func 139) [] [])] [] 0 (aB rRat) [], (!(cond (!rcombined.2.2) true (decide (rsignOf ≥ 0)))) = true], (!(cond (!rcombined.2.2) true (decide (rsignOf ≥ 0)))) = true → AllP [(!(cond (!rcombined.2.2) true (decide (rsignOf ≥ 0)))) = true]] ⟨(fun hg => ⟨o1, trivial⟩), (fun hg => ⟨(g_e_signOf_ok N rcombined.2.1 rsignOf (condT hr3 hg)), hg, trivial⟩), (fun hg => ⟨hg, trivial⟩), (fun hq => ⟨hq, trivial⟩), (fun hg => ⟨(g_slices_ContainsFunc_Rat_ok N rcombined.1 rRat (condT hr4 hg)), hg, trivial⟩), (fun hq => ⟨hq, trivial⟩), trivial⟩ ?_
      refine Runs.sC 40 (C_136 250) (C_136 251) (cond (cond (!rcombined.2.2) true (decide (rsignOf ≥ 0))) true rRat) (fun hq4 => ?_) (fun hq4 => ?_)
      · have h := condT h hq4
        refine Runs.sA 1 [.code (C_136 500), .code (C_136 501), .code (C_136 63)] ?_
        refine Runs.sR hE ⟨[(6, (aI 24))], [], 576⟩ (C_136 500) [] [] (kp [6]) [] 576 [] trivial ?_
        obtain rfl := Option.some.inj h
        refine Runs.sW hE ⟨[(6, (aI 24))], [], 576⟩ [] (kp [6]) [] 576 [] trivial ?_
        exact Runs.sT Try.f82 [] [] trivial
      · have h := condF h hq4
        refine Runs.sA 2 [.code (C_136 126), .code (C_136 127)] ?_
        refine Runs.sR hE ⟨[(6, (aI 0))], [], 576⟩ (C_136 126) [] [] (kp [6]) [] 576 [] trivial ?_
        obtain rfl := Option.some.inj h
        refine Runs.sW hE ⟨[(6, (aI 0))], [], 576⟩ [] (kp [6]) [] 576 [] trivial ?_
        exact Runs.sT Try.f82 [] [] trivial
noncomputable def C_143 (n : Nat) : Code := cat (bodyOf Try.f147) (pth n)
theorem g_r01_Combined_J3_ok (N : Nat) (n : Int) (l : List TRow) (y : List TRat) (out : List TRat) (j : Int) (i : Int) (K_g_r01_Combined_L2 : TRat → Int → Option ((List TRat) × TRat)) (K_g_r01_Combined_L1 : (List TRat) → Int → Option ((List TRat) × TRat))
    (hK_g_r01_Combined_L2 : ∀ (s : TRat) (i : Int) (r : (List TRat) × TRat), K_g_r01_Combined_L2 s i = some r → ∀ E, EnvOk E 0 → Runs Try.prog E 147 74 (SPost E [] (.tup [(encL TRat.cells TRat.d r.1), (.agg (TRat.cells r.2))])) [.code (C_143 29844), .inLoop (C_143 29844), .inBlock 2, .code (C_143 3731), .inBlock 1, .code (C_143 467), .inLoop (C_143 116), .inBlock 0, .code (C_143 15)] ⟨[(0, (aI n)), (1, (encL TRow.cells TRow.d l)), (2, (encL TRat.cells TRat.d y)), (7, (.op 0 0 0)), (8, (.os 1 0 out.length)), (9, (aI j)), (10, (.op 2 0 0)), (11, (aI i))], [(0, vO 4 [(aB false), .nil, (aB false), .nil]), (1, aO 4 TRat.cells TRat.d out), (2, vO 4 (TRat.cells s))], 3⟩)
    (hK_g_r01_Combined_L1 : ∀ (out : List TRat) (j : Int) (r : (List TRat) × TRat), K_g_r01_Combined_L1 out j = some r → ∀ E, EnvOk E 0 → Runs Try.prog E 147 74 (SPost E [] (.tup [(encL TRat.cells TRat.d r.1), (.agg (TRat.cells r.2))])) [.code (C_143 116), .inLoop (C_143 116), .inBlock 0, .code (C_143 15)] ⟨[(0, (aI n)), (1, (encL TRow.cells TRow.d l)), (2, (encL TRat.cells TRat.d y)), (7, (.op 0 0 0)), (8, (.os 1 0 out.length)), (9, (aI j))], [(0, vO 4 [(aB false), .nil, (aB false), .nil]), (1, aO 4 TRat.cells TRat.d out)], 2⟩) (s2 : TRat) (r : (List TRat) × TRat) (h : g_r01_Combined_J3 N n l y out j i K_g_r01_Combined_L2 K_g_r01_Combined_L1 s2 = some r) : ∀ E, EnvOk E 0 → Runs Try.prog E 147 74 (SPost E [] (.tup [(encL TRat.cells TRat.d r.1), (.agg (TRat.cells r.2))])) [.code (C_143 119379), .inLoop (C_143 29844), .inBlock 2, .code (C_143 3731), .inBlock 1, .code (C_143 467), .inLoop (C_143 116), .inBlock 0, .code (C_143 15)] ⟨[(0, (aI n)), (1, (encL TRow.cells TRow.d l)), (2, (encL TRat.cells TRat.d y)), (7, (.op 0 0 0)), (8, (.os 1 0 out.length)), (9, (aI j)), (10, (.op 2 0 0)), (11, (aI i))], [(0, vO 4 [(aB false), .nil, (aB false), .nil]), (1, aO 4 TRat.cells TRat.d out), (2, vO 4 (TRat.cells s2))], 3⟩ := by
  intro E hE
  unfold g_r01_Combined_J3 at h
  refine Runs.sR hE ⟨[(0, (aI n)), (1, (encL TRow.cells TRow.d l)), (2, (encL TRat.cells TRat.d y)), (7, (.op 0 0 0)), (8, (.os 1 0 out.length)), (9, (aI j)), (10, (.op 2 0 0)), (11, (aI (w64 (i + 1))))], [(0, vO 4 [(aB false), .nil, (aB false), .nil]), (1, aO 4 TRat.cells TRat.d out), (2, vO 4 (TRat.cells s2))], 51⟩ (C_143 119379) [] [] (kp [0, 1, 2, 7, 8, 9, 10, 11]) (kq [0, 1, 2]) 51 [] trivial ?_
  refine Runs.sA 1 [.code (C_143 29844), .inLoop (C_143 29844), .inBlock 2, .code (C_143 3731), .inBlock 1, .code (C_143 467), .inLoop (C_143 116), .inBlock 0, .code (C_143 15)] ?_
  exact Runs.sW hE _ [] (kp [0, 1, 2, 7, 8, 9, 10, 11]) (kq [0, 1, 2]) 3 [] trivial (hK_g_r01_Combined_L2 s2 (w64 (i + 1)) _ h E hE)
theorem g_r01_Combined_L2_ok (N : Nat) (n : Int) (l : List TRow) (y : List TRat) (out : List TRat) (j : Int) (K_g_r01_Combined_L1 : (List TRat) → Int → Option ((List TRat) × TRat))
    (hK_g_r01_Combined_L1 : ∀ (out : List TRat) (j : Int) (r : (List TRat) × TRat), K_g_r01_Combined_L1 out j = some r → ∀ E, EnvOk E 0 → Runs Try.prog E 147 74 (SPost E [] (.tup [(encL TRat.cells TRat.d r.1), (.agg (TRat.cells r.2))])) [.code (C_143 116), .inLoop (C_143 116), .inBlock 0, .code (C_143 15)] ⟨[(0, (aI n)), (1, (encL TRow.cells TRow.d l)), (2, (encL TRat.cells TRat.d y)), (7, (.op 0 0 0)), (8, (.os 1 0 out.length)), (9, (aI j))], [(0, vO 4 [(aB false), .nil, (aB false), .nil]), (1, aO 4 TRat.cells TRat.d out)], 2⟩) (fuel : Nat) : ∀ (s : TRat) (i : Int) (r : (List TRat) × TRat), g_r01_Combined_L2 N n l y out j K_g_r01_Combined_L1 fuel s i = some r → ∀ E, EnvOk E 0 → Runs Try.prog E 147 74 (SPost E [] (.tup [(encL TRat.cells TRat.d r.1), (.agg (TRat.cells r.2))])) [.code (C_143 29844), .inLoop (C_143 29844), .inBlock 2, .code (C_143 3731), .inBlock 1, .code (C_143 467), .inLoop (C_143 116), .inBlock 0, .code (C_143 15)] ⟨[(0, (aI n)), (1, (encL TRow.cells TRow.d l)), (2, (encL TRat.cells TRat.d y)), (7, (.op 0 0 0)), (8, (.os 1 0 out.length)), (9, (aI j)), (10, (.op 2 0 0)), (11, (aI i))], [(0, vO 4 [(aB false), .nil, (aB false), .nil]), (1, aO 4 TRat.cells TRat.d out), (2, vO 4 (TRat.cells s))], 3⟩ := by
  induction fuel with
  | zero => intro _ _ r h; rw [g_r01_Combined_L2.eq_1] at h; cases h
  | succ fuel ih =>
    intro s i r h E hE
    rw [g_r01_Combined_L2.eq_2] at h
    refine Runs.sA 2 [.code (C_143 119376), .code (C_143 119377), .code (C_143 59689), .inLoop (C_143 29844), .inBlock 2, .code (C_143 3731), .inBlock 1, .code (C_143 467), .inLoop (C_143 116), .inBlock 0, .code (C_143 15)] ?_
    refine Runs.sR hE ⟨[(0, (aI n)), (1, (encL TRow.cells TRow.d l)), (2, (encL TRat.cells TRat.d y)), (7, (.op 0 0 0)), (8, (.os 1 0 out.length)), (9, (aI j)), (10, (.op 2 0 0)), (11, (aI i)), (23, (aB (decide (i < ((l.length : Nat) : Int)))))], [(0, vO 4 [(aB false), .nil, (aB false), .nil]), (1, aO 4 TRat.cells TRat.d out), (2, vO 4 (TRat.cells s))], 67⟩ (C_143 119376) [] [] (kp [0, 1, 2, 7, 8, 9, 10, 11, 23]) (kq [0, 1, 2]) 67 [] trivial ?_
    refine Runs.sC 23 (C_143 238754) (C_143 238755) (decide (i < ((l.length : Nat) : Int))) (fun hq3 => ?_) (fun hq3 => ?_)
    · have h := condT h hq3
      refine Runs.sA 4 [.code (C_143 477512), .code (C_143 477513), .inBlock 3, .code (C_143 119379), .inLoop (C_143 29844), .inBlock 2, .code (C_143 3731), .inBlock 1, .code (C_143 467), .inLoop (C_143 116), .inBlock 0, .code (C_143 15)] ?_
      obtain ⟨c, h⟩ := ifSome h
      refine Runs.sR hE ⟨[(0, (aI n)), (1, (encL TRow.cells TRow.d l)), (2, (encL TRat.cells TRat.d y)), (7, (.op 0 0 0)), (8, (.os 1 0 out.length)), (9, (aI j)), (10, (.op 2 0 0)), (11, (aI i)), (33, (aB (decide (j < ((((l.getD ((i).toNat) TRow.d).f_Coefs).length : Nat) : Int)))))], [(0, vO 4 [(aB false), .nil, (aB false), .nil]), (1, aO 4 TRat.cells TRat.d out), (2, vO 4 (TRat.cells s))], 195⟩ (C_143 477512) [] [] (kp [0, 1, 2, 7, 8, 9, 10, 11, 33]) (kq [0, 1, 2]) 195 [0 ≤ i ∧ i < ((l.length : Nat) : Int)] ⟨c, trivial⟩ ?_
      refine Runs.sC 33 (C_143 955026) (C_143 955027) (decide (j < ((((l.getD ((i).toNat) TRow.d).f_Coefs).length : Nat) : Int))) (fun hq4 => ?_) (fun hq4 => ?_)
      · have h := condT h hq4
        obtain ⟨c2, h⟩ := ifSome h
        obtain ⟨c3, h⟩ := ifSome h
        obtain ⟨rMulRat, hr2, h⟩ := bindSome h
        obtain ⟨rAddRat, hr3, h⟩ := bindSome h
        refine Runs.sR hE ⟨[(0, (aI n)), (1, (encL TRow.cells TRow.d l)), (2, (encL TRat.cells TRat.d y)), (7, (.op 0 0 0)), (8, (.os 1 0 out.length)), (9, (aI j)), (10, (.op 2 0 0)), (11, (aI i))], [(0, vO 4 [(aB false), .nil, (aB false), .nil]), (1, aO 4 TRat.cells TRat.d out), (2, vO 4 (TRat.cells rAddRat))], 451⟩ (C_143 955026) [(13, ⟨[], true, (.agg (TRat.cells rMulRat)), [], 0, false, none⟩), (14, ⟨[], true, (.agg (TRat.cells rAddRat)), [], 0, false, none⟩)] [] (kp [0, 1, 2, 7, 8, 9, 10, 11]) (kq [0, 1, 2]) 451 [0 < 1, 0 ≤ i ∧ i < ((y.length : Nat) : Int), 0 ≤ i ∧ i < ((l.length : Nat) : Int), 0 ≤ j ∧ j < ((((l.getD ((i).toNat) TRow.d).f_Coefs).length : Nat) : Int), Sound Try.prog 48 [(.agg [(aB (((y.getD ((i).toNat) TRat.d).f_Num).f_Neg)), (encL (cU .u16) 0 (((y.getD ((i).toNat) TRat.d).f_Num).f_Limbs)), (aB (((y.getD ((i).toNat) TRat.d).f_Den).f_Neg)), (encL (cU .u16) 0 (((y.getD ((i).toNat) TRat.d).f_Den).f_Limbs))]), (.agg [(aB (((((l.getD ((i).toNat) TRow.d).f_Coefs).getD ((j).toNat) TRat.d).f_Num).f_Neg)), (encL (cU .u16) 0 (((((l.getD ((i).toNat) TRow.d).f_Coefs).getD ((j).toNat) TRat.d).f_Num).f_Limbs)), (aB (((((l.getD ((i).toNat) TRow.d).f_Coefs).getD ((j).toNat) TRat.d).f_Den).f_Neg)), (encL (cU .u16) 0 (((((l.getD ((i).toNat) TRow.d).f_Coefs).getD ((j).toNat) TRat.d).f_Den).f_Limbs))])] [] 0 (.agg (TRat.cells rMulRat)) [], Sound Try.prog 46 [(.agg (TRat.cells s)), (.agg (TRat.cells rMulRat))] [] 0 (.agg (TRat.cells rAddRat)) [], 0 < 1] ⟨o1, c2, c, c3, (g_r01_MulRat_ok N (⟨((y.getD ((i).toNat) TRat.d).f_Num), ((y.getD ((i).toNat) TRat.d).f_Den)⟩ : TRat) (⟨((((l.getD ((i).toNat) TRow.d).f_Coefs).getD ((j).toNat) TRat.d).f_Num), ((((l.getD ((i).toNat) TRow.d).f_Coefs).getD ((j).toNat) TRat.d).f_Den)⟩ : TRat) rMulRat hr2), (g_r01_AddRat_ok N s rMulRat rAddRat hr3), o1, trivial⟩ ?_
        refine Runs.sA 1 [.code (C_143 119379), .inLoop (C_143 29844), .inBlock 2, .code (C_143 3731), .inBlock 1, .code (C_143 467), .inLoop (C_143 116), .inBlock 0, .code (C_143 15)] ?_
        exact Runs.sW hE _ [] (kp [0, 1, 2, 7, 8, 9, 10, 11]) (kq [0, 1, 2]) 3 [] trivial (g_r01_Combined_J3_ok N n l y out j i (g_r01_Combined_L2 N n l y out j K_g_r01_Combined_L1 fuel) K_g_r01_Combined_L1 ih hK_g_r01_Combined_L1 rAddRat _ h E hE)
      · have h := condF h hq4
        refine Runs.sA 2 [.code (C_143 119379), .inLoop (C_143 29844), .inBlock 2, .code (C_143 3731), .inBlock 1, .code (C_143 467), .inLoop (C_143 116), .inBlock 0, .code (C_143 15)] ?_
        exact Runs.sW hE _ [] (kp [0, 1, 2, 7, 8, 9, 10, 11]) (kq [0, 1, 2]) 3 [] trivial (g_r01_Combined_J3_ok N n l y out j i (g_r01_Combined_L2 N n l y out j K_g_r01_Combined_L1 fuel) K_g_r01_Combined_L1 ih hK_g_r01_Combined_L1 s _ h E hE)
    · have h := condF h hq3
      refine Runs.sA 1 [.code (C_143 3731), .inBlock 1, .code (C_143 467), .inLoop (C_143 116), .inBlock 0, .code (C_143 15)] ?_
      obtain ⟨c4, h⟩ := ifSome h
      refine Runs.sR hE ⟨[(0, (aI n)), (1, (encL TRow.cells TRow.d l)), (2, (encL TRat.cells TRat.d y)), (7, (.op 0 0 0)), (8, (.os 115 0 ((out ++ ([s] : List TRat)).length))), (9, (aI j))], [(0, vO 4 [(aB false), .nil, (aB false), .nil]), (115, aO 4 TRat.cells TRat.d (out ++ ([s] : List TRat)))], 147⟩ (C_143 3731) [] [] (kp [0, 1, 2, 7] ++ [(8, .osl ((out ++ ([s] : List TRat)).length))] ++ kp [9]) (kq [0] ++ [(115, .arr 115 ((out ++ ([s] : List TRat)).length) (fun zi => TRat.cells ((out ++ ([s] : List TRat)).getD zi TRat.d)))]) 147 [0 < 1, out.length = out.length, (out.length + 1) * 64 ≤ 140737488355328, 0 + 1 ≤ 1, ∀ zi, zi < 1 → AV.oneL ((fun zi => ([[(aB s.f_Num.f_Neg), (encL (cU .u16) 0 s.f_Num.f_Limbs), (aB s.f_Den.f_Neg), (encL (cU .u16) 0 s.f_Den.f_Limbs)]] : List (List AV)).getD zi []) (addz 0 zi)) = true, (out.length + 1) = (out ++ ([s] : List TRat)).length, out.length + 1 = (out ++ ([s] : List TRat)).length, ∀ zi, zi < (out ++ ([s] : List TRat)).length → (fun zi => TRat.cells ((out ++ ([s] : List TRat)).getD zi TRat.d)) zi = ((fun zm => if zm < out.length then (fun zi => TRat.cells (out.getD zi TRat.d)) zm else (fun zi => ([[(aB s.f_Num.f_Neg), (encL (cU .u16) 0 s.f_Num.f_Limbs), (aB s.f_Den.f_Neg), (encL (cU .u16) 0 s.f_Den.f_Limbs)]] : List (List AV)).getD zi []) (zm - out.length))) zi] ⟨o1, rfl, c4, z0, (oneN rfl), (len_app_raw rfl rfl), (len_app_raw rfl rfl), (get_app_raw TRat.cells TRat.d out ([s] : List TRat) rfl (fun _ _ => rfl) (fun zq hzq => get_chunk TRat.cells TRat.d ([s] : List TRat) zq hzq)), trivial⟩ ?_
      refine Runs.sA 1 [.code (C_143 467), .inLoop (C_143 116), .inBlock 0, .code (C_143 15)] ?_
      refine Runs.sR hE ⟨[(0, (aI n)), (1, (encL TRow.cells TRow.d l)), (2, (encL TRat.cells TRat.d y)), (7, (.op 0 0 0)), (8, (.os 115 0 ((out ++ ([s] : List TRat)).length))), (9, (aI (w64 (j + 1))))], [(0, vO 4 [(aB false), .nil, (aB false), .nil]), (115, aO 4 TRat.cells TRat.d (out ++ ([s] : List TRat)))], 195⟩ (C_143 467) [] [] (kp [0, 1, 2, 7, 8, 9]) (kq [0, 115]) 195 [] trivial ?_
      refine Runs.sA 1 [.code (C_143 116), .inLoop (C_143 116), .inBlock 0, .code (C_143 15)] ?_
      exact Runs.sW hE _ [] (kp [0, 1, 2, 7, 8, 9]) (kq [0] ++ [(1, .keep 115)]) 2 [] trivial (hK_g_r01_Combined_L1 (out ++ ([s] : List TRat)) (w64 (j + 1)) _ h E hE)
theorem g_r01_Combined_L4_ok (N : Nat) (l : List TRow) (y : List TRat) (out : List TRat) (fuel : Nat) : ∀ (bound : TRat) (i2 : Int) (r : (List TRat) × TRat), g_r01_Combined_L4 N l y out fuel bound i2 = some r → ∀ E, EnvOk E 0 → Runs Try.prog E 147 74 (SPost E [] (.tup [(encL TRat.cells TRat.d r.1), (.agg (TRat.cells r.2))])) [.code (C_143 500), .inLoop (C_143 500), .inBlock 4, .code (C_143 63)] ⟨[(1, (encL TRow.cells TRow.d l)), (2, (encL TRat.cells TRat.d y)), (7, (.op 0 0 0)), (8, (.os 1 0 out.length)), (12, (.op 2 0 0)), (13, (aI i2))], [(0, vO 4 [(aB false), .nil, (aB false), .nil]), (1, aO 4 TRat.cells TRat.d out), (2, vO 4 (TRat.cells bound))], 3⟩ := by
  induction fuel with
  | zero => intro _ _ r h; rw [g_r01_Combined_L4.eq_1] at h; cases h
  | succ fuel ih =>
    intro bound i2 r h E hE
    rw [g_r01_Combined_L4.eq_2] at h
    refine Runs.sA 2 [.code (C_143 2000), .code (C_143 2001), .code (C_143 1001), .inLoop (C_143 500), .inBlock 4, .code (C_143 63)] ?_
    refine Runs.sR hE ⟨[(1, (encL TRow.cells TRow.d l)), (2, (encL TRat.cells TRat.d y)), (7, (.op 0 0 0)), (8, (.os 1 0 out.length)), (12, (.op 2 0 0)), (13, (aI i2)), (57, (aB (decide (i2 < ((l.length : Nat) : Int)))))], [(0, vO 4 [(aB false), .nil, (aB false), .nil]), (1, aO 4 TRat.cells TRat.d out), (2, vO 4 (TRat.cells bound))], 67⟩ (C_143 2000) [] [] (kp [1, 2, 7, 8, 12, 13, 57]) (kq [0, 1, 2]) 67 [] trivial ?_
    refine Runs.sC 57 (C_143 4002) (C_143 4003) (decide (i2 < ((l.length : Nat) : Int))) (fun hq5 => ?_) (fun hq5 => ?_)
    · have h := condT h hq5
      refine Runs.sA 3 [.code (C_143 4004), .inBlock 5, .code (C_143 2003), .inLoop (C_143 500), .inBlock 4, .code (C_143 63)] ?_
      obtain ⟨c5, h⟩ := ifSome h
      obtain ⟨c6, h⟩ := ifSome h
      obtain ⟨rMulRat2, hr5, h⟩ := bindSome h
      obtain ⟨rAddRat2, hr6, h⟩ := bindSome h
      refine Runs.sR hE ⟨[(1, (encL TRow.cells TRow.d l)), (2, (encL TRat.cells TRat.d y)), (7, (.op 0 0 0)), (8, (.os 1 0 out.length)), (12, (.op 2 0 0)), (13, (aI i2))], [(0, vO 4 [(aB false), .nil, (aB false), .nil]), (1, aO 4 TRat.cells TRat.d out), (2, vO 4 (TRat.cells rAddRat2))], 275⟩ (C_143 4004) [(10, ⟨[], true, (.agg (TRat.cells rMulRat2)), [], 0, false, none⟩), (11, ⟨[], true, (.agg (TRat.cells rAddRat2)), [], 0, false, none⟩)] [] (kp [1, 2, 7, 8, 12, 13]) (kq [0, 1, 2]) 275 [0 < 1, 0 ≤ i2 ∧ i2 < ((y.length : Nat) : Int), 0 ≤ i2 ∧ i2 < ((l.length : Nat) : Int), Sound Try.prog 48 [(.agg [(aB (((y.getD ((i2).toNat) TRat.d).f_Num).f_Neg)), (encL (cU .u16) 0 (((y.getD ((i2).toNat) TRat.d).f_Num).f_Limbs)), (aB (((y.getD ((i2).toNat) TRat.d).f_Den).f_Neg)), (encL (cU .u16) 0 (((y.getD ((i2).toNat) TRat.d).f_Den).f_Limbs))]), (.agg [(aB ((((l.getD ((i2).toNat) TRow.d).f_Bound).f_Num).f_Neg)), (encL (cU .u16) 0 ((((l.getD ((i2).toNat) TRow.d).f_Bound).f_Num).f_Limbs)), (aB ((((l.getD ((i2).toNat) TRow.d).f_Bound).f_Den).f_Neg)), (encL (cU .u16) 0 ((((l.getD ((i2).toNat) TRow.d).f_Bound).f_Den).f_Limbs))])] [] 0 (.agg (TRat.cells rMulRat2)) [], Sound Try.prog 46 [(.agg (TRat.cells bound)), (.agg (TRat.cells rMulRat2))] [] 0 (.agg (TRat.cells rAddRat2)) [], 0 < 1] ⟨o1, c5, c6, (g_r01_MulRat_ok N (⟨((y.getD ((i2).toNat) TRat.d).f_Num), ((y.getD ((i2).toNat) TRat.d).f_Den)⟩ : TRat) (⟨(((l.getD ((i2).toNat) TRow.d).f_Bound).f_Num), (((l.getD ((i2).toNat) TRow.d).f_Bound).f_Den)⟩ : TRat) rMulRat2 hr5), (g_r01_AddRat_ok N bound rMulRat2 rAddRat2 hr6), o1, trivial⟩ ?_
      refine Runs.sA 1 [.code (C_143 2003), .inLoop (C_143 500), .inBlock 4, .code (C_143 63)] ?_
      refine Runs.sR hE ⟨[(1, (encL TRow.cells TRow.d l)), (2, (encL TRat.cells TRat.d y)), (7, (.op 0 0 0)), (8, (.os 1 0 out.length)), (12, (.op 2 0 0)), (13, (aI (w64 (i2 + 1))))], [(0, vO 4 [(aB false), .nil, (aB false), .nil]), (1, aO 4 TRat.cells TRat.d out), (2, vO 4 (TRat.cells rAddRat2))], 323⟩ (C_143 2003) [] [] (kp [1, 2, 7, 8, 12, 13]) (kq [0, 1, 2]) 323 [] trivial ?_
      refine Runs.sA 1 [.code (C_143 500), .inLoop (C_143 500), .inBlock 4, .code (C_143 63)] ?_
      exact Runs.sW hE _ [] (kp [1, 2, 7, 8, 12, 13]) (kq [0, 1, 2]) 3 [] trivial (ih rAddRat2 (w64 (i2 + 1)) _ h E hE)
    · have h := condF h hq5
      refine Runs.sA 2 [.code (C_143 126), .code (C_143 127)] ?_
      refine Runs.sR hE ⟨[(6, (.os 1 0 out.length)), (7, (.op 0 0 0))], [(0, vO 4 (TRat.cells bound)), (1, aO 4 TRat.cells TRat.d out)], 131⟩ (C_143 126) [] [] (kp [6, 7]) (kq [0, 1]) 131 [0 < 1, 0 < 1] ⟨o1, o1, trivial⟩ ?_
      obtain rfl := Option.some.inj h
      refine Runs.sW hE ⟨[(6, (encL TRat.cells TRat.d out)), (7, (.op 17 0 0))], [(17, vO 4 (TRat.cells bound))], 131⟩ [1] ([(6, .sl (out.length) (fun zi => TRat.cells (out.getD zi TRat.d)))] ++ kp [7]) [(17, .keep 0)] 131 [out.length = out.length, 0 + out.length ≤ out.length, ∀ zi, zi < out.length → (fun zi => TRat.cells (out.getD zi TRat.d)) zi = (fun zi => TRat.cells (out.getD zi TRat.d)) (addz 0 zi)] ⟨rfl, z0, (fun _ _ => rfl), trivial⟩ ?_
      exact Runs.sT Try.f147 [17] [0 < 1] ⟨o1, trivial⟩
theorem g_r01_Combined_L1_ok (N : Nat) (n : Int) (l : List TRow) (y : List TRat) (fuel : Nat) : ∀ (out : List TRat) (j : Int) (r : (List TRat) × TRat), g_r01_Combined_L1 N n l y fuel out j = some r → ∀ E, EnvOk E 0 → Runs Try.prog E 147 74 (SPost E [] (.tup [(encL TRat.cells TRat.d r.1), (.agg (TRat.cells r.2))])) [.code (C_143 116), .inLoop (C_143 116), .inBlock 0, .code (C_143 15)] ⟨[(0, (aI n)), (1, (encL TRow.cells TRow.d l)), (2, (encL TRat.cells TRat.d y)), (7, (.op 0 0 0)), (8, (.os 1 0 out.length)), (9, (aI j))], [(0, vO 4 [(aB false), .nil, (aB false), .nil]), (1, aO 4 TRat.cells TRat.d out)], 2⟩ := by
  induction fuel with
  | zero => intro _ _ r h; rw [g_r01_Combined_L1.eq_1] at h; cases h
  | succ fuel ih =>
    intro out j r h E hE
    rw [g_r01_Combined_L1.eq_2] at h
    refine Runs.sA 2 [.code (C_143 464), .code (C_143 465), .code (C_143 233), .inLoop (C_143 116), .inBlock 0, .code (C_143 15)] ?_
    refine Runs.sR hE ⟨[(0, (aI n)), (1, (encL TRow.cells TRow.d l)), (2, (encL TRat.cells TRat.d y)), (7, (.op 0 0 0)), (8, (.os 1 0 out.length)), (9, (aI j)), (16, (aB (decide (j < n))))], [(0, vO 4 [(aB false), .nil, (aB false), .nil]), (1, aO 4 TRat.cells TRat.d out)], 50⟩ (C_143 464) [] [] (kp [0, 1, 2, 7, 8, 9, 16]) (kq [0, 1]) 50 [] trivial ?_
    refine Runs.sC 16 (C_143 930) (C_143 931) (decide (j < n)) (fun hq2 => ?_) (fun hq2 => ?_)
    · have h := condT h hq2
      refine Runs.sA 4 [.code (C_143 1864), .code (C_143 1865), .inBlock 1, .code (C_143 467), .inLoop (C_143 116), .inBlock 0, .code (C_143 15)] ?_
      obtain ⟨rQ, hr, h⟩ := bindSome h
      refine Runs.sR hE ⟨[(0, (aI n)), (1, (encL TRow.cells TRow.d l)), (2, (encL TRat.cells TRat.d y)), (7, (.op 0 0 0)), (8, (.os 1 0 out.length)), (9, (aI j)), (10, (.op 66 0 0))], [(0, vO 4 [(aB false), .nil, (aB false), .nil]), (1, aO 4 TRat.cells TRat.d out), (66, vO 4 (TRat.cells rQ))], 98⟩ (C_143 1864) [(0, ⟨[], true, (.agg (TRat.cells rQ)), [], 0, false, none⟩)] [] (kp [0, 1, 2, 7, 8, 9, 10]) (kq [0, 1, 66]) 98 [Sound Try.prog 132 [(aI 0)] [] 0 (.agg (TRat.cells rQ)) [], 0 < 1] ⟨(g_r01_Q_ok N 0 rQ hr), o1, trivial⟩ ?_
      refine Runs.sA 2 [.code (C_143 7460), .code (C_143 7461), .code (C_143 3731), .inBlock 1, .code (C_143 467), .inLoop (C_143 116), .inBlock 0, .code (C_143 15)] ?_
      refine Runs.sR hE ⟨[(0, (aI n)), (1, (encL TRow.cells TRow.d l)), (2, (encL TRat.cells TRat.d y)), (7, (.op 0 0 0)), (8, (.os 1 0 out.length)), (9, (aI j)), (10, (.op 66 0 0)), (11, (aI 0))], [(0, vO 4 [(aB false), .nil, (aB false), .nil]), (1, aO 4 TRat.cells TRat.d out), (66, vO 4 (TRat.cells rQ))], 114⟩ (C_143 7460) [] [] (kp [0, 1, 2, 7, 8, 9, 10, 11]) (kq [0, 1, 66]) 114 [] trivial ?_
      refine Runs.sA 2 [.code (C_143 29844), .inLoop (C_143 29844), .inBlock 2, .code (C_143 3731), .inBlock 1, .code (C_143 467), .inLoop (C_143 116), .inBlock 0, .code (C_143 15)] ?_
      exact Runs.sW hE _ [] (kp [0, 1, 2, 7, 8, 9, 10, 11]) (kq [0, 1] ++ [(2, .keep 66)]) 3 [] trivial (g_r01_Combined_L2_ok N n l y out j (g_r01_Combined_L1 N n l y fuel) ih N rQ 0 _ h E hE)
    · have h := condF h hq2
      refine Runs.sA 2 [.code (C_143 30), .code (C_143 31)] ?_
      obtain ⟨rQ2, hr4, h⟩ := bindSome h
      refine Runs.sR hE ⟨[(1, (encL TRow.cells TRow.d l)), (2, (encL TRat.cells TRat.d y)), (7, (.op 0 0 0)), (8, (.os 1 0 out.length)), (12, (.op 66 0 0))], [(0, vO 4 [(aB false), .nil, (aB false), .nil]), (1, aO 4 TRat.cells TRat.d out), (66, vO 4 (TRat.cells rQ2))], 98⟩ (C_143 30) [(0, ⟨[], true, (.agg (TRat.cells rQ2)), [], 0, false, none⟩)] [] (kp [1, 2, 7, 8, 12]) (kq [0, 1, 66]) 98 [Sound Try.prog 132 [(aI 0)] [] 0 (.agg (TRat.cells rQ2)) [], 0 < 1] ⟨(g_r01_Q_ok N 0 rQ2 hr4), o1, trivial⟩ ?_
      refine Runs.sA 2 [.code (C_143 124), .code (C_143 125), .code (C_143 63)] ?_
      refine Runs.sR hE ⟨[(1, (encL TRow.cells TRow.d l)), (2, (encL TRat.cells TRat.d y)), (7, (.op 0 0 0)), (8, (.os 1 0 out.length)), (12, (.op 66 0 0)), (13, (aI 0))], [(0, vO 4 [(aB false), .nil, (aB false), .nil]), (1, aO 4 TRat.cells TRat.d out), (66, vO 4 (TRat.cells rQ2))], 114⟩ (C_143 124) [] [] (kp [1, 2, 7, 8, 12, 13]) (kq [0, 1, 66]) 114 [] trivial ?_
      refine Runs.sA 2 [.code (C_143 500), .inLoop (C_143 500), .inBlock 4, .code (C_143 63)] ?_
      exact Runs.sW hE _ [] (kp [1, 2, 7, 8, 12, 13]) (kq [0, 1] ++ [(2, .keep 66)]) 3 [] trivial (g_r01_Combined_L4_ok N l y out N rQ2 0 _ h E hE)
theorem g_r01_Combined_ok (N : Nat) (n : Int) (l : List TRow) (y : List TRat) (r : (List TRat) × TRat) (h : g_r01_Combined N n l y = some r) : Sound Try.prog 147 [(aI n), (encL TRow.cells TRow.d l), (encL TRat.cells TRat.d y)] [] 0 (.tup [(encL TRat.cells TRat.d r.1), (.agg (TRat.cells r.2))]) [] := by
  unfold g_r01_Combined at h
  refine Sound.of_runs (fu := Try.f147) (c := C_143 1) (nt := 74) (by kernel_rfl) (by kernel_rfl) (by kernel_rfl) (by kernel_rfl) (fun hm => rfl) ?_
  intro E hE
  refine Runs.sA 1 [.code (C_143 2), .code (C_143 3)] ?_
  refine Runs.sR hE ⟨[(0, (aI n)), (1, (encL TRow.cells TRow.d l)), (2, (encL TRat.cells TRat.d y)), (7, (.op 16 0 0))], [(16, vO 4 [(aB false), .nil, (aB false), .nil])], 32⟩ (C_143 2) [] [] (kp [0, 1, 2, 7]) (kq [16]) 32 [] trivial ?_
  refine Runs.sA 1 [.code (C_143 6), .code (C_143 7)] ?_
  refine Runs.sR hE ⟨[(0, (aI n)), (1, (encL TRow.cells TRow.d l)), (2, (encL TRat.cells TRat.d y)), (7, (.op 16 0 0)), (8, .nil)], [(16, vO 4 [(aB false), .nil, (aB false), .nil])], 48⟩ (C_143 6) [] [] (kp [0, 1, 2, 7, 8]) (kq [16]) 48 [] trivial ?_
  refine Runs.sA 2 [.code (C_143 28), .code (C_143 29), .code (C_143 15)] ?_
  refine Runs.sR hE ⟨[(0, (aI n)), (1, (encL TRow.cells TRow.d l)), (2, (encL TRat.cells TRat.d y)), (7, (.op 16 0 0)), (8, .nil), (9, (aI 0))], [(16, vO 4 [(aB false), .nil, (aB false), .nil])], 64⟩ (C_143 28) [] [] (kp [0, 1, 2, 7, 8, 9]) (kq [16]) 64 [] trivial ?_
  refine Runs.sA 2 [.code (C_143 116), .inLoop (C_143 116), .inBlock 0, .code (C_143 15)] ?_
  exact Runs.sW hE _ [] (kp [0, 1, 2, 7] ++ [(8, .nilos 1)] ++ kp [9]) [(0, .keep 16), (1, .nil 4 (fun zi => TRat.cells (([] : List TRat).getD zi TRat.d)))] 2 [] trivial (g_r01_Combined_L1_ok N n l y N ([] : List TRat) 0 _ h E hE)
noncomputable def C_144 (n : Nat) : Code := cat (bodyOf Try.f148) (pth n)
theorem g_r01_NoneNegative_L1_ok (N : Nat) (l : List TRat) (fuel : Nat) : ∀ (i : Int) (r : Bool), g_r01_NoneNegative_L1 N l fuel i = some r → ∀ E, EnvOk E 0 → Runs Try.prog E 148 16 (SPost E [] (aB r)) [.code (C_144 52), .inLoop (C_144 52), .inBlock 0, .code (C_144 7)] ⟨[(0, (encL TRat.cells TRat.d l)), (3, (aI i))], [], 0⟩ := by
  induction fuel with
  | zero => intro _ r h; rw [g_r01_NoneNegative_L1.eq_1] at h; cases h
  | succ fuel ih =>
    intro i r h E hE
    rw [g_r01_NoneNegative_L1.eq_2] at h
    refine Runs.sA 2 [.code (C_144 208), .code (C_144 209), .code (C_144 105), .inLoop (C_144 52), .inBlock 0, .code (C_144 7)] ?_
    refine Runs.sR hE ⟨[(0, (encL TRat.cells TRat.d l)), (3, (aI i)), (7, (aB (decide (i < ((l.length : Nat) : Int)))))], [], 64⟩ (C_144 208) [] [] (kp [0, 3, 7]) [] 64 [] trivial ?_
    refine Runs.sC 7 (C_144 418) (C_144 419) (decide (i < ((l.length : Nat) : Int))) (fun hq2 => ?_) (fun hq2 => ?_)
    · have h := condT h hq2
      refine Runs.sA 4 [.code (C_144 840), .code (C_144 841), .inBlock 1, .code (C_144 211), .inLoop (C_144 52), .inBlock 0, .code (C_144 7)] ?_
      obtain ⟨c, h⟩ := ifSome h
      obtain ⟨rSignRat, hr, h⟩ := bindSome h
      refine Runs.sR hE ⟨[(0, (encL TRat.cells TRat.d l)), (3, (aI i)), (15, (aB (decide (rSignRat < 0))))], [], 160⟩ (C_144 840) [(4, ⟨[], true, (aI rSignRat), [], 0, false, none⟩)] [] (kp [0, 3, 15]) [] 160 [0 ≤ i ∧ i < ((l.length : Nat) : Int), Sound Try.prog 42 [(.agg [(aB (((l.getD ((i).toNat) TRat.d).f_Num).f_Neg)), (encL (cU .u16) 0 (((l.getD ((i).toNat) TRat.d).f_Num).f_Limbs)), (aB (((l.getD ((i).toNat) TRat.d).f_Den).f_Neg)), (encL (cU .u16) 0 (((l.getD ((i).toNat) TRat.d).f_Den).f_Limbs))])] [] 0 (aI rSignRat) []] ⟨c, (g_r01_SignRat_ok N (⟨((l.getD ((i).toNat) TRat.d).f_Num), ((l.getD ((i).toNat) TRat.d).f_Den)⟩ : TRat) rSignRat hr), trivial⟩ ?_
      refine Runs.sC 15 (C_144 1682) (C_144 1683) (decide (rSignRat < 0)) (fun hq3 => ?_) (fun hq3 => ?_)
      · have h := condT h hq3
        refine Runs.sA 1 [.code (C_144 3364), .code (C_144 3365), .inBlock 1, .code (C_144 211), .inLoop (C_144 52), .inBlock 0, .code (C_144 7)] ?_
        refine Runs.sR hE ⟨[(2, (aB false))], [], 176⟩ (C_144 3364) [] [] (kp [2]) [] 176 [] trivial ?_
        obtain rfl := Option.some.inj h
        refine Runs.sW hE ⟨[(2, (aB false))], [], 176⟩ [] (kp [2]) [] 176 [] trivial ?_
        exact Runs.sT Try.f148 [] [] trivial
      · have h := condF h hq3
        refine Runs.sA 2 [.code (C_144 211), .inLoop (C_144 52), .inBlock 0, .code (C_144 7)] ?_
        refine Runs.sR hE ⟨[(0, (encL TRat.cells TRat.d l)), (3, (aI (w64 (i + 1))))], [], 208⟩ (C_144 211) [] [] (kp [0, 3]) [] 208 [] trivial ?_
        refine Runs.sA 1 [.code (C_144 52), .inLoop (C_144 52), .inBlock 0, .code (C_144 7)] ?_
        exact Runs.sW hE _ [] (kp [0, 3]) [] 0 [] trivial (ih (w64 (i + 1)) _ h E hE)
    · have h := condF h hq2
      refine Runs.sA 2 [.code (C_144 14), .code (C_144 15)] ?_
      refine Runs.sR hE ⟨[(2, (aB true))], [], 80⟩ (C_144 14) [] [] (kp [2]) [] 80 [] trivial ?_
      obtain rfl := Option.some.inj h
      refine Runs.sW hE ⟨[(2, (aB true))], [], 80⟩ [] (kp [2]) [] 80 [] trivial ?_
      exact Runs.sT Try.f148 [] [] trivial
theorem g_r01_NoneNegative_ok (N : Nat) (l : List TRat) (r : Bool) (h : g_r01_NoneNegative N l = some r) : Sound Try.prog 148 [(encL TRat.cells TRat.d l)] [] 0 (aB r) [] := by
  unfold g_r01_NoneNegative at h
  refine Sound.of_runs (fu := Try.f148) (c := C_144 1) (nt := 16) (by kernel_rfl) (by kernel_rfl) (by kernel_rfl) (by kernel_rfl) (fun hm => rfl) ?_
  intro E hE
  refine Runs.sA 1 [.code (C_144 2), .code (C_144 3)] ?_
  refine Runs.sR hE ⟨[(0, (encL TRat.cells TRat.d l))], [], 16⟩ (C_144 2) [] [] (kp [0]) [] 16 [] trivial ?_
  refine Runs.sA 2 [.code (C_144 12), .code (C_144 13), .code (C_144 7)] ?_
  refine Runs.sR hE ⟨[(0, (encL TRat.cells TRat.d l)), (3, (aI 0))], [], 32⟩ (C_144 12) [] [] (kp [0, 3]) [] 32 [] trivial ?_
  refine Runs.sA 2 [.code (C_144 52), .inLoop (C_144 52), .inBlock 0, .code (C_144 7)] ?_
  exact Runs.sW hE _ [] (kp [0, 3]) [] 0 [] trivial (g_r01_NoneNegative_L1_ok N l N 0 _ h E hE)
noncomputable def C_142 (n : Nat) : Code := cat (bodyOf Try.f87) (pth n)
theorem g_r01_Contradicts_L1_ok (N : Nat) (n : Int) (y : List TRat) (rCombined : (List TRat) × TRat) (fuel : Nat) : ∀ (j : Int) (r : Bool), g_r01_Contradicts_L1 N n y rCombined fuel j = some r → ∀ E, EnvOk E 0 → Runs Try.prog E 87 35 (SPost E [] (aB r)) [.code (C_142 116), .inLoop (C_142 116), .inBlock 0, .code (C_142 15)] ⟨[(0, (aI n)), (2, (encL TRat.cells TRat.d y)), (7, (encL TRat.cells TRat.d rCombined.1)), (8, (.op 0 0 0)), (9, (aI j))], [(0, vO 4 (TRat.cells rCombined.2))], 1⟩ := by
  induction fuel with
  | zero => intro _ r h; rw [g_r01_Contradicts_L1.eq_1] at h; cases h
  | succ fuel ih =>
    intro j r h E hE
    rw [g_r01_Contradicts_L1.eq_2] at h
    refine Runs.sA 2 [.code (C_142 464), .code (C_142 465), .code (C_142 233), .inLoop (C_142 116), .inBlock 0, .code (C_142 15)] ?_
    refine Runs.sR hE ⟨[(0, (aI n)), (2, (encL TRat.cells TRat.d y)), (7, (encL TRat.cells TRat.d rCombined.1)), (8, (.op 0 0 0)), (9, (aI j)), (19, (aB (decide (j < n))))], [(0, vO 4 (TRat.cells rCombined.2))], 49⟩ (C_142 464) [] [] (kp [0, 2, 7, 8, 9, 19]) (kq [0]) 49 [] trivial ?_
    refine Runs.sC 19 (C_142 930) (C_142 931) (decide (j < n)) (fun hq2 => ?_) (fun hq2 => ?_)
    · have h := condT h hq2
      refine Runs.sA 4 [.code (C_142 1864), .code (C_142 1865), .inBlock 1, .code (C_142 467), .inLoop (C_142 116), .inBlock 0, .code (C_142 15)] ?_
      obtain ⟨c, h⟩ := ifSome h
      obtain ⟨rSignRat, hr2, h⟩ := bindSome h
      refine Runs.sR hE ⟨[(0, (aI n)), (2, (encL TRat.cells TRat.d y)), (7, (encL TRat.cells TRat.d rCombined.1)), (8, (.op 0 0 0)), (9, (aI j)), (27, (aB (rSignRat != 0)))], [(0, vO 4 (TRat.cells rCombined.2))], 145⟩ (C_142 1864) [(4, ⟨[], true, (aI rSignRat), [], 0, false, none⟩)] [] (kp [0, 2, 7, 8, 9, 27]) (kq [0]) 145 [0 ≤ j ∧ j < ((rCombined.1.length : Nat) : Int), Sound Try.prog 42 [(.agg [(aB (((rCombined.1.getD ((j).toNat) TRat.d).f_Num).f_Neg)), (encL (cU .u16) 0 (((rCombined.1.getD ((j).toNat) TRat.d).f_Num).f_Limbs)), (aB (((rCombined.1.getD ((j).toNat) TRat.d).f_Den).f_Neg)), (encL (cU .u16) 0 (((rCombined.1.getD ((j).toNat) TRat.d).f_Den).f_Limbs))])] [] 0 (aI rSignRat) []] ⟨c, (g_r01_SignRat_ok N (⟨((rCombined.1.getD ((j).toNat) TRat.d).f_Num), ((rCombined.1.getD ((j).toNat) TRat.d).f_Den)⟩ : TRat) rSignRat hr2), trivial⟩ ?_
      refine Runs.sC 27 (C_142 3730) (C_142 3731) (rSignRat != 0) (fun hq3 => ?_) (fun hq3 => ?_)
      · have h := condT h hq3
        refine Runs.sA 1 [.code (C_142 7460), .code (C_142 7461), .inBlock 1, .code (C_142 467), .inLoop (C_142 116), .inBlock 0, .code (C_142 15)] ?_
        refine Runs.sR hE ⟨[(6, (aB false))], [], 161⟩ (C_142 7460) [] [] (kp [6]) [] 161 [] trivial ?_
        obtain rfl := Option.some.inj h
        refine Runs.sW hE ⟨[(6, (aB false))], [], 161⟩ [] (kp [6]) [] 161 [] trivial ?_
        exact Runs.sT Try.f87 [] [] trivial
      · have h := condF h hq3
        refine Runs.sA 2 [.code (C_142 467), .inLoop (C_142 116), .inBlock 0, .code (C_142 15)] ?_
        refine Runs.sR hE ⟨[(0, (aI n)), (2, (encL TRat.cells TRat.d y)), (7, (encL TRat.cells TRat.d rCombined.1)), (8, (.op 0 0 0)), (9, (aI (w64 (j + 1))))], [(0, vO 4 (TRat.cells rCombined.2))], 193⟩ (C_142 467) [] [] (kp [0, 2, 7, 8, 9]) (kq [0]) 193 [] trivial ?_
        refine Runs.sA 1 [.code (C_142 116), .inLoop (C_142 116), .inBlock 0, .code (C_142 15)] ?_
        exact Runs.sW hE _ [] (kp [0, 2, 7, 8, 9]) (kq [0]) 1 [] trivial (ih (w64 (j + 1)) _ h E hE)
    · have h := condF h hq2
      refine Runs.sA 2 [.code (C_142 30), .code (C_142 31)] ?_
      obtain ⟨rNoneNegative, hr3, h⟩ := bindSome h
      obtain ⟨rSignRat2, hr4, h⟩ := bindSome h
      refine Runs.sR hE ⟨[(6, (aB (cond rNoneNegative (decide (rSignRat2 < 0)) false)))], [], 177⟩ (C_142 30) [(1, ⟨[], true, (aB rNoneNegative), [], 0, false, none⟩), (4, ⟨[], true, (aI rSignRat2), [], 0, false, none⟩)] [] (kp [6]) [] 177 [Sound Try.prog 148 [(encL TRat.cells TRat.d y)] [] 0 (aB rNoneNegative) [], rNoneNegative = true → AllP [0 < 1], rNoneNegative = true → AllP [Sound Try.prog 42 [(.agg (TRat.cells rCombined.2))] [] 0 (aI rSignRat2) [], rNoneNegative = true], rNoneNegative = true → AllP [rNoneNegative = true], rNoneNegative = true → AllP [rNoneNegative = true]] ⟨(g_r01_NoneNegative_ok N y rNoneNegative hr3), (fun hg => ⟨o1, trivial⟩), (fun hg => ⟨(g_r01_SignRat_ok N rCombined.2 rSignRat2 (condT hr4 hg)), hg, trivial⟩), (fun hg => ⟨hg, trivial⟩), (fun hq => ⟨hq, trivial⟩), trivial⟩ ?_
      obtain rfl := Option.some.inj h
      refine Runs.sW hE ⟨[(6, (aB (cond rNoneNegative (decide (rSignRat2 < 0)) false)))], [], 177⟩ [] (kp [6]) [] 177 [] trivial ?_
      exact Runs.sT Try.f87 [] [] trivial
theorem g_r01_Contradicts_ok (N : Nat) (n : Int) (l : List TRow) (y : List TRat) (r : Bool) (h : g_r01_Contradicts N n l y = some r) : Sound Try.prog 87 [(aI n), (encL TRow.cells TRow.d l), (encL TRat.cells TRat.d y)] [] 0 (aB r) [] := by
  unfold g_r01_Contradicts at h
  refine Sound.of_runs (fu := Try.f87) (c := C_142 1) (nt := 35) (by kernel_rfl) (by kernel_rfl) (by kernel_rfl) (by kernel_rfl) (fun hm => rfl) ?_
  intro E hE
  refine Runs.sA 1 [.code (C_142 2), .code (C_142 3)] ?_
  refine Runs.sR hE ⟨[(0, (aI n)), (1, (encL TRow.cells TRow.d l)), (2, (encL TRat.cells TRat.d y))], [], 16⟩ (C_142 2) [] [] (kp [0, 1, 2]) [] 16 [] trivial ?_
  refine Runs.sA 1 [.code (C_142 6), .code (C_142 7)] ?_
  obtain ⟨rCombined, hr, h⟩ := bindSome h
  refine Runs.sR hE ⟨[(0, (aI n)), (2, (encL TRat.cells TRat.d y)), (7, (encL TRat.cells TRat.d rCombined.1)), (8, (.op 128 0 0))], [(128, vO 4 (TRat.cells rCombined.2))], 176⟩ (C_142 6) [(3, ⟨[], true, (.tup [(encL TRat.cells TRat.d rCombined.1), (.agg (TRat.cells rCombined.2))]), [], 0, false, none⟩)] [] (kp [0, 2, 7, 8]) (kq [128]) 176 [Sound Try.prog 147 [(aI n), (encL TRow.cells TRow.d l), (encL TRat.cells TRat.d y)] [] 0 (.tup [(encL TRat.cells TRat.d rCombined.1), (.agg (TRat.cells rCombined.2))]) [], 0 < 1] ⟨(g_r01_Combined_ok N n l y rCombined hr), o1, trivial⟩ ?_
  refine Runs.sA 2 [.code (C_142 28), .code (C_142 29), .code (C_142 15)] ?_
  refine Runs.sR hE ⟨[(0, (aI n)), (2, (encL TRat.cells TRat.d y)), (7, (encL TRat.cells TRat.d rCombined.1)), (8, (.op 128 0 0)), (9, (aI 0))], [(128, vO 4 (TRat.cells rCombined.2))], 192⟩ (C_142 28) [] [] (kp [0, 2, 7, 8, 9]) (kq [128]) 192 [] trivial ?_
  refine Runs.sA 2 [.code (C_142 116), .inLoop (C_142 116), .inBlock 0, .code (C_142 15)] ?_
  exact Runs.sW hE _ [] (kp [0, 2, 7, 8, 9]) [(0, .keep 128)] 1 [] trivial (g_r01_Contradicts_L1_ok N n y rCombined N 0 _ h E hE)
noncomputable def C_141 (n : Nat) : Code := cat (bodyOf Try.f83) (pth n)
theorem g_r01_CheckContradiction_ok (N : Nat) (n : Int) (l : List TRow) (y : List TRat) (r : Int) (h : g_r01_CheckContradiction N n l y = some r) : Sound Try.prog 83 [(aI n), (encL TRow.cells TRow.d l), (encL TRat.cells TRat.d y)] [] 0 (aI r) [] := by
  unfold g_r01_CheckContradiction at h
  refine Sound.of_runs (fu := Try.f83) (c := C_141 1) (nt := 24) (by kernel_rfl) (by kernel_rfl) (by kernel_rfl) (by kernel_rfl) (fun hm => rfl) ?_
  intro E hE
  refine Runs.sA 1 [.code (C_141 2), .code (C_141 3)] ?_
  refine Runs.sR hE ⟨[(0, (aI n)), (1, (encL TRow.cells TRow.d l)), (2, (encL TRat.cells TRat.d y))], [], 16⟩ (C_141 2) [] [] (kp [0, 1, 2]) [] 16 [] trivial ?_
  refine Runs.sA 2 [.code (C_141 12), .code (C_141 13), .code (C_141 7)] ?_
  obtain ⟨rCheckRows, hr, h⟩ := bindSome h
  refine Runs.sR hE ⟨[(0, (aI n)), (1, (encL TRow.cells TRow.d l)), (2, (encL TRat.cells TRat.d y)), (7, (aI rCheckRows))], [], 80⟩ (C_141 12) [(2, ⟨[], true, (aI rCheckRows), [], 0, false, none⟩)] [] (kp [0, 1, 2, 7]) [] 80 [Sound Try.prog 79 [(aI n), (encL TRow.cells TRow.d l)] [] 0 (aI rCheckRows) []] ⟨(g_r01_CheckRows_ok N n l rCheckRows hr), trivial⟩ ?_
  refine Runs.sA 1 [.code (C_141 26), .code (C_141 27), .code (C_141 7)] ?_
  refine Runs.sR hE ⟨[(0, (aI n)), (1, (encL TRow.cells TRow.d l)), (2, (encL TRat.cells TRat.d y)), (7, (aI rCheckRows)), (12, (aB (rCheckRows != 0)))], [], 112⟩ (C_141 26) [] [] (kp [0, 1, 2, 7, 12]) [] 112 [] trivial ?_
  refine Runs.sC 12 (C_141 54) (C_141 55) (rCheckRows != 0) (fun hq2 => ?_) (fun hq2 => ?_)
  · have h := condT h hq2
    refine Runs.sA 1 [.code (C_141 108), .code (C_141 109), .code (C_141 7)] ?_
    refine Runs.sR hE ⟨[(6, (aI rCheckRows))], [], 144⟩ (C_141 108) [] [] (kp [6]) [] 144 [] trivial ?_
    obtain rfl := Option.some.inj h
    refine Runs.sW hE ⟨[(6, (aI rCheckRows))], [], 144⟩ [] (kp [6]) [] 144 [] trivial ?_
    exact Runs.sT Try.f83 [] [] trivial
  · have h := condF h hq2
    refine Runs.sA 3 [.code (C_141 28), .code (C_141 29), .code (C_141 15)] ?_
    refine Runs.sR hE ⟨[(0, (aI n)), (1, (encL TRow.cells TRow.d l)), (2, (encL TRat.cells TRat.d y)), (18, (aB (((y.length : Nat) : Int) != ((l.length : Nat) : Int))))], [], 192⟩ (C_141 28) [] [] (kp [0, 1, 2, 18]) [] 192 [] trivial ?_
    refine Runs.sC 18 (C_141 58) (C_141 59) (((y.length : Nat) : Int) != ((l.length : Nat) : Int)) (fun hq3 => ?_) (fun hq3 => ?_)
    · have h := condT h hq3
      refine Runs.sA 1 [.code (C_141 116), .code (C_141 117), .code (C_141 15)] ?_
      refine Runs.sR hE ⟨[(6, (aI 11))], [], 208⟩ (C_141 116) [] [] (kp [6]) [] 208 [] trivial ?_
      obtain rfl := Option.some.inj h
      refine Runs.sW hE ⟨[(6, (aI 11))], [], 208⟩ [] (kp [6]) [] 208 [] trivial ?_
      exact Runs.sT Try.f83 [] [] trivial
    · have h := condF h hq3
      refine Runs.sA 3 [.code (C_141 60), .code (C_141 61), .code (C_141 31)] ?_
      obtain ⟨rContradicts, hr2, h⟩ := bindSome h
      refine Runs.sR hE ⟨[(23, (aB (!rContradicts)))], [], 272⟩ (C_141 60) [(3, ⟨[], true, (aB rContradicts), [], 0, false, none⟩)] [] (kp [23]) [] 272 [Sound Try.prog 87 [(aI n), (encL TRow.cells TRow.d l), (encL TRat.cells TRat.d y)] [] 0 (aB rContradicts) []] ⟨(g_r01_Contradicts_ok N n l y rContradicts hr2), trivial⟩ ?_
      refine Runs.sC 23 (C_141 122) (C_141 123) (!rContradicts) (fun hq4 => ?_) (fun hq4 => ?_)
      · have h := condT h hq4
        refine Runs.sA 1 [.code (C_141 244), .code (C_141 245), .code (C_141 31)] ?_
        refine Runs.sR hE ⟨[(6, (aI 24))], [], 288⟩ (C_141 244) [] [] (kp [6]) [] 288 [] trivial ?_
        obtain rfl := Option.some.inj h
        refine Runs.sW hE ⟨[(6, (aI 24))], [], 288⟩ [] (kp [6]) [] 288 [] trivial ?_
        exact Runs.sT Try.f83 [] [] trivial
      · have h := condF h hq4
        refine Runs.sA 2 [.code (C_141 62), .code (C_141 63)] ?_
        refine Runs.sR hE ⟨[(6, (aI 0))], [], 288⟩ (C_141 62) [] [] (kp [6]) [] 288 [] trivial ?_
        obtain rfl := Option.some.inj h
        refine Runs.sW hE ⟨[(6, (aI 0))], [], 288⟩ [] (kp [6]) [] 288 [] trivial ?_
        exact Runs.sT Try.f83 [] [] trivial
noncomputable def C_145 (n : Nat) : Code := cat (bodyOf Try.f84) (pth n)
theorem g_e_CheckBest_L1_ok (N : Nat) (objective : List TRat) (rcombined : (List TRat) × TRat × Bool) (fuel : Nat) : ∀ (x : Int) (r : Int), g_e_CheckBest_L1 N objective rcombined fuel x = some r → ∀ E, EnvOk E 0 → Runs Try.prog E 84 85 (SPost E [] (aI r)) [.code (C_145 2036), .inLoop (C_145 2036), .inBlock 0, .code (C_145 255)] ⟨[(0, (encL TRat.cells TRat.d objective)), (9, (encL TRat.cells TRat.d rcombined.1)), (70, (aI ((rcombined.1.length : Nat) : Int))), (71, (aI x))], [], 0⟩ := by
  induction fuel with
  | zero => intro _ r h; rw [g_e_CheckBest_L1.eq_1] at h; cases h
  | succ fuel ih =>
    intro x r h E hE
    rw [g_e_CheckBest_L1.eq_2] at h
    refine Runs.sA 1 [.code (C_145 4072), .code (C_145 4073), .inLoop (C_145 2036), .inBlock 0, .code (C_145 255)] ?_
    refine Runs.sR hE ⟨[(0, (encL TRat.cells TRat.d objective)), (9, (encL TRat.cells TRat.d rcombined.1)), (70, (aI ((rcombined.1.length : Nat) : Int))), (71, (aI x)), (72, (aB (decide (x < ((rcombined.1.length : Nat) : Int)))))], [], 16⟩ (C_145 4072) [] [] (kp [0, 9, 70, 71, 72]) [] 16 [] trivial ?_
    refine Runs.sA 1 [.code (C_145 8146), .code (C_145 8147), .inLoop (C_145 2036), .inBlock 0, .code (C_145 255)] ?_
    refine Runs.sC 72 (C_145 16292) (C_145 16293) (decide (x < ((rcombined.1.length : Nat) : Int))) (fun hq5 => ?_) (fun hq5 => ?_)
    · have h := condT h hq5
      refine Runs.sA 4 [.code (C_145 65176), .code (C_145 65177), .inBlock 1, .code (C_145 16295), .inLoop (C_145 2036), .inBlock 0, .code (C_145 255)] ?_
      refine Runs.sR hE ⟨[(0, (encL TRat.cells TRat.d objective)), (9, (encL TRat.cells TRat.d rcombined.1)), (12, (aI x)), (70, (aI ((rcombined.1.length : Nat) : Int))), (71, (aI x))], [], 48⟩ (C_145 65176) [] [] (kp [0, 9, 12, 70, 71]) [] 48 [] trivial ?_
      refine Runs.sA 1 [.code (C_145 130354), .code (C_145 130355), .inBlock 1, .code (C_145 16295), .inLoop (C_145 2036), .inBlock 0, .code (C_145 255)] ?_
      obtain ⟨c, h⟩ := ifSome h
      obtain ⟨c2, h⟩ := ifSome h
      obtain ⟨rCmpRat3, hr7, h⟩ := bindSome h
      refine Runs.sR hE ⟨[(0, (encL TRat.cells TRat.d objective)), (9, (encL TRat.cells TRat.d rcombined.1)), (70, (aI ((rcombined.1.length : Nat) : Int))), (71, (aI x)), (83, (aB (rCmpRat3 != 0)))], [], 208⟩ (C_145 130354) [(8, ⟨[], true, (aI rCmpRat3), [], 0, false, none⟩)] [] (kp [0, 9, 70, 71, 83]) [] 208 [0 ≤ x ∧ x < ((rcombined.1.length : Nat) : Int), 0 ≤ x ∧ x < ((objective.length : Nat) : Int), Sound Try.prog 35 [(.agg [(aB (((rcombined.1.getD ((x).toNat) TRat.d).f_Num).f_Neg)), (encL (cU .u16) 0 (((rcombined.1.getD ((x).toNat) TRat.d).f_Num).f_Limbs)), (aB (((rcombined.1.getD ((x).toNat) TRat.d).f_Den).f_Neg)), (encL (cU .u16) 0 (((rcombined.1.getD ((x).toNat) TRat.d).f_Den).f_Limbs))]), (.agg [(aB (((objective.getD ((x).toNat) TRat.d).f_Num).f_Neg)), (encL (cU .u16) 0 (((objective.getD ((x).toNat) TRat.d).f_Num).f_Limbs)), (aB (((objective.getD ((x).toNat) TRat.d).f_Den).f_Neg)), (encL (cU .u16) 0 (((objective.getD ((x).toNat) TRat.d).f_Den).f_Limbs))])] [] 0 (aI rCmpRat3) []] ⟨c, c2, (g_e_CmpRat_ok N (⟨((rcombined.1.getD ((x).toNat) TRat.d).f_Num), ((rcombined.1.getD ((x).toNat) TRat.d).f_Den)⟩ : TRat) (⟨((objective.getD ((x).toNat) TRat.d).f_Num), ((objective.getD ((x).toNat) TRat.d).f_Den)⟩ : TRat) rCmpRat3 hr7), trivial⟩ ?_
      refine Runs.sC 83 (C_145 260710) (C_145 260711) (rCmpRat3 != 0) (fun hq6 => ?_) (fun hq6 => ?_)
      · have h := condT h hq6
        refine Runs.sA 1 [.code (C_145 521420), .code (C_145 521421), .inBlock 1, .code (C_145 16295), .inLoop (C_145 2036), .inBlock 0, .code (C_145 255)] ?_
        refine Runs.sR hE ⟨[(6, (aI 24))], [], 224⟩ (C_145 521420) [] [] (kp [6]) [] 224 [] trivial ?_
        obtain rfl := Option.some.inj h
        refine Runs.sW hE ⟨[(6, (aI 24))], [], 224⟩ [] (kp [6]) [] 224 [] trivial ?_
        exact Runs.sT Try.f84 [] [] trivial
      · have h := condF h hq6
        refine Runs.sA 2 [.code (C_145 16295), .inLoop (C_145 2036), .inBlock 0, .code (C_145 255)] ?_
        refine Runs.sR hE ⟨[(0, (encL TRat.cells TRat.d objective)), (9, (encL TRat.cells TRat.d rcombined.1)), (70, (aI ((rcombined.1.length : Nat) : Int))), (71, (aI (w64 (x + 1))))], [], 240⟩ (C_145 16295) [] [] (kp [0, 9, 70, 71]) [] 240 [] trivial ?_
        refine Runs.sA 1 [.code (C_145 2036), .inLoop (C_145 2036), .inBlock 0, .code (C_145 255)] ?_
        exact Runs.sW hE _ [] (kp [0, 9, 70, 71]) [] 0 [] trivial (ih (w64 (x + 1)) _ h E hE)
    · have h := condF h hq5
      refine Runs.sA 2 [.code (C_145 510), .code (C_145 511)] ?_
      refine Runs.sR hE ⟨[(6, (aI 0))], [], 32⟩ (C_145 510) [] [] (kp [6]) [] 32 [] trivial ?_
      obtain rfl := Option.some.inj h
      refine Runs.sW hE ⟨[(6, (aI 0))], [], 48⟩ [] (kp [6]) [] 48 [] trivial ?_
      exact Runs.sT Try.f84 [] [] trivial
theorem g_e_CheckBest_ok (N : Nat) (objective : List TRat) (l : List TRow) (b : TBest) (r : Int) (h : g_e_CheckBest N objective l b = some r) : Sound Try.prog 84 [(encL TRat.cells TRat.d objective), (encL TRow.cells TRow.d l), (.agg (TBest.cells b))] [] 0 (aI r) [] := by
  unfold g_e_CheckBest at h
  refine Sound.of_runs (fu := Try.f84) (c := C_145 1) (nt := 85) (by kernel_rfl) (by kernel_rfl) (by kernel_rfl) (by kernel_rfl) (fun hm => rfl) ?_
  intro E hE
  refine Runs.sA 1 [.code (C_145 2), .code (C_145 3)] ?_
  refine Runs.sR hE ⟨[(0, (encL TRat.cells TRat.d objective)), (1, (encL TRow.cells TRow.d l)), (5, (.op 0 0 0))], [(0, vO 6 (TBest.cells b))], 32⟩ (C_145 2) [] [] (kp [0, 1, 5]) (kq [0]) 32 [] trivial ?_
  refine Runs.sA 1 [.code (C_145 6), .code (C_145 7)] ?_
  refine Runs.sR hE ⟨[(0, (encL TRat.cells TRat.d objective)), (1, (encL TRow.cells TRow.d l)), (5, (.op 0 0 0)), (7, (aI ((objective.length : Nat) : Int)))], [(0, vO 6 (TBest.cells b))], 80⟩ (C_145 6) [] [] (kp [0, 1, 5, 7]) (kq [0]) 80 [] trivial ?_
  refine Runs.sA 2 [.code (C_145 28), .code (C_145 29), .code (C_145 15)] ?_
  obtain ⟨rCheckRows, hr, h⟩ := bindSome h
  refine Runs.sR hE ⟨[(0, (encL TRat.cells TRat.d objective)), (1, (encL TRow.cells TRow.d l)), (5, (.op 0 0 0)), (7, (aI ((objective.length : Nat) : Int))), (8, (aI rCheckRows))], [(0, vO 6 (TBest.cells b))], 144⟩ (C_145 28) [(2, ⟨[], true, (aI rCheckRows), [], 0, false, none⟩)] [] (kp [0, 1, 5, 7, 8]) (kq [0]) 144 [Sound Try.prog 78 [(aI ((objective.length : Nat) : Int)), (encL TRow.cells TRow.d l)] [] 0 (aI rCheckRows) []] ⟨(g_e_CheckRows_ok N ((objective.length : Nat) : Int) l rCheckRows hr), trivial⟩ ?_
  refine Runs.sA 1 [.code (C_145 58), .code (C_145 59), .code (C_145 15)] ?_
  refine Runs.sR hE ⟨[(0, (encL TRat.cells TRat.d objective)), (1, (encL TRow.cells TRow.d l)), (5, (.op 0 0 0)), (7, (aI ((objective.length : Nat) : Int))), (8, (aI rCheckRows)), (19, (aB (rCheckRows != 0)))], [(0, vO 6 (TBest.cells b))], 176⟩ (C_145 58) [] [] (kp [0, 1, 5, 7, 8, 19]) (kq [0]) 176 [] trivial ?_
  refine Runs.sC 19 (C_145 118) (C_145 119) (rCheckRows != 0) (fun hq2 => ?_) (fun hq2 => ?_)
  · have h := condT h hq2
    refine Runs.sA 1 [.code (C_145 236), .code (C_145 237), .code (C_145 15)] ?_
    refine Runs.sR hE ⟨[(6, (aI rCheckRows))], [], 208⟩ (C_145 236) [] [] (kp [6]) [] 208 [] trivial ?_
    obtain rfl := Option.some.inj h
    refine Runs.sW hE ⟨[(6, (aI rCheckRows))], [], 208⟩ [] (kp [6]) [] 208 [] trivial ?_
    exact Runs.sT Try.f84 [] [] trivial
  · have h := condF h hq2
    refine Runs.sA 3 [.code (C_145 60), .code (C_145 61), .code (C_145 31)] ?_
    refine Runs.sR hE ⟨[(0, (encL TRat.cells TRat.d objective)), (1, (encL TRow.cells TRow.d l)), (5, (.op 0 0 0)), (7, (aI ((objective.length : Nat) : Int))), (33, (aB (cond (((b.f_Point.length : Nat) : Int) != ((objective.length : Nat) : Int)) true (((b.f_Multipliers.length : Nat) : Int) != ((l.length : Nat) : Int)))))], [(0, vO 6 (TBest.cells b))], 384⟩ (C_145 60) [] [] (kp [0, 1, 5, 7, 33]) (kq [0]) 384 [0 < 1, (!(((b.f_Point.length : Nat) : Int) != ((objective.length : Nat) : Int))) = true → AllP [(!(((b.f_Point.length : Nat) : Int) != ((objective.length : Nat) : Int))) = true, 0 < 1], (!(((b.f_Point.length : Nat) : Int) != ((objective.length : Nat) : Int))) = true → AllP [(!(((b.f_Point.length : Nat) : Int) != ((objective.length : Nat) : Int))) = true], (!(((b.f_Point.length : Nat) : Int) != ((objective.length : Nat) : Int))) = true → AllP [(!(((b.f_Point.length : Nat) : Int) != ((objective.length : Nat) : Int))) = true], (!(((b.f_Point.length : Nat) : Int) != ((objective.length : Nat) : Int))) = true → AllP [(!(((b.f_Point.length : Nat) : Int) != ((objective.length : Nat) : Int))) = true, (!(((b.f_Point.length : Nat) : Int) != ((objective.length : Nat) : Int))) = true], (!(((b.f_Point.length : Nat) : Int) != ((objective.length : Nat) : Int))) = true → AllP [(!(((b.f_Point.length : Nat) : Int) != ((objective.length : Nat) : Int))) = true]] ⟨o1, (fun hg => ⟨hg, o1, trivial⟩), (fun hg => ⟨hg, trivial⟩), (fun hg => ⟨hg, trivial⟩), (fun hg => ⟨hg, hg, trivial⟩), (fun hq => ⟨hq, trivial⟩), trivial⟩ ?_
    refine Runs.sC 33 (C_145 122) (C_145 123) (cond (((b.f_Point.length : Nat) : Int) != ((objective.length : Nat) : Int)) true (((b.f_Multipliers.length : Nat) : Int) != ((l.length : Nat) : Int))) (fun hq3 => ?_) (fun hq3 => ?_)
    · have h := condT h hq3
      refine Runs.sA 1 [.code (C_145 244), .code (C_145 245), .code (C_145 31)] ?_
      refine Runs.sR hE ⟨[(6, (aI 11))], [], 400⟩ (C_145 244) [] [] (kp [6]) [] 400 [] trivial ?_
      obtain rfl := Option.some.inj h
      refine Runs.sW hE ⟨[(6, (aI 11))], [], 400⟩ [] (kp [6]) [] 400 [] trivial ?_
      exact Runs.sT Try.f84 [] [] trivial
    · have h := condF h hq3
      refine Runs.sA 2 [.code (C_145 62), .code (C_145 63)] ?_
      obtain ⟨rcombined, hr2, h⟩ := bindSome h
      refine Runs.sR hE ⟨[(0, (encL TRat.cells TRat.d objective)), (1, (encL TRow.cells TRow.d l)), (5, (.op 0 0 0)), (9, (encL TRat.cells TRat.d rcombined.1)), (10, (.op 528 0 0)), (11, (aB rcombined.2.2))], [(0, vO 6 (TBest.cells b)), (528, vO 4 (TRat.cells rcombined.2.1))], 592⟩ (C_145 62) [(4, ⟨[], true, (.tup [(encL TRat.cells TRat.d rcombined.1), (.agg (TRat.cells rcombined.2.1)), (aB rcombined.2.2)]), [], 0, false, none⟩)] [] (kp [0, 1, 5, 9, 10, 11]) (kq [0, 528]) 592 [0 < 1, Sound Try.prog 137 [(aI ((objective.length : Nat) : Int)), (encL TRow.cells TRow.d l), (encL TRat.cells TRat.d b.f_Multipliers)] [] 0 (.tup [(encL TRat.cells TRat.d rcombined.1), (.agg (TRat.cells rcombined.2.1)), (aB rcombined.2.2)]) [], 0 < 1] ⟨o1, (g_e_combined_ok N ((objective.length : Nat) : Int) l b.f_Multipliers rcombined hr2), o1, trivial⟩ ?_
      refine Runs.sA 2 [.code (C_145 252), .code (C_145 253), .code (C_145 127)] ?_
      obtain ⟨rsatisfied, hr3, h⟩ := bindSome h
      obtain ⟨rdot, hr4, h⟩ := bindSome h
      obtain ⟨rCmpRat, hr5, h⟩ := bindSome h
      obtain ⟨rCmpRat2, hr6, h⟩ := bindSome h
      refine Runs.sR hE ⟨[(0, (encL TRat.cells TRat.d objective)), (9, (encL TRat.cells TRat.d rcombined.1)), (68, (aB (cond (cond (cond (!rcombined.2.2) true (!rsatisfied)) true (rCmpRat != 0)) true (rCmpRat2 != 0))))], [], 1008⟩ (C_145 252) [(6, ⟨[], true, (aB rsatisfied), [], 0, false, none⟩), (13, ⟨[], true, (.agg (TRat.cells rdot)), [], 0, false, none⟩), (16, ⟨[], true, (aI rCmpRat), [], 0, false, none⟩), (23, ⟨[], true, (aI rCmpRat2), [], 0, false, none⟩)] [] (kp [0, 9, 68]) [] 1008 [(!(!rcombined.2.2)) = true → AllP [(!(!rcombined.2.2)) = true, 0 < 1], (!(!rcombined.2.2)) = true → AllP [Sound Try.prog 136 [(encL TRow.cells TRow.d l), (encL TRat.cells TRat.d b.f_Point)] [] 0 (aB rsatisfied) [], (!(!rcombined.2.2)) = true, (!(!rcombined.2.2)) = true], (!(!rcombined.2.2)) = true → AllP [(!(!rcombined.2.2)) = true], (!(!rcombined.2.2)) = true → AllP [(!(!rcombined.2.2)) = true], (!(cond (!rcombined.2.2) true (!rsatisfied))) = true → AllP [(!(cond (!rcombined.2.2) true (!rsatisfied))) = true, 0 < 1], (!(cond (!rcombined.2.2) true (!rsatisfied))) = true → AllP [Sound Try.prog 140 [(encL TRat.cells TRat.d objective), (encL TRat.cells TRat.d b.f_Point)] [] 0 (.agg (TRat.cells rdot)) [], (!(cond (!rcombined.2.2) true (!rsatisfied))) = true, (!(cond (!rcombined.2.2) true (!rsatisfied))) = true], (!(cond (!rcombined.2.2) true (!rsatisfied))) = true → AllP [(!(cond (!rcombined.2.2) true (!rsatisfied))) = true, 0 < 1], (!(cond (!rcombined.2.2) true (!rsatisfied))) = true → AllP [Sound Try.prog 35 [(.agg (TRat.cells rdot)), (.agg (TRat.cells b.f_Value))] [] 0 (aI rCmpRat) [], (!(cond (!rcombined.2.2) true (!rsatisfied))) = true, (!(cond (!rcombined.2.2) true (!rsatisfied))) = true], (!(cond (!rcombined.2.2) true (!rsatisfied))) = true → AllP [(!(cond (!rcombined.2.2) true (!rsatisfied))) = true], (!(cond (!rcombined.2.2) true (!rsatisfied))) = true → AllP [(!(cond (!rcombined.2.2) true (!rsatisfied))) = true], (!(cond (cond (!rcombined.2.2) true (!rsatisfied)) true (rCmpRat != 0))) = true → AllP [0 < 1], (!(cond (cond (!rcombined.2.2) true (!rsatisfied)) true (rCmpRat != 0))) = true → AllP [(!(cond (cond (!rcombined.2.2) true (!rsatisfied)) true (rCmpRat != 0))) = true, 0 < 1], (!(cond (cond (!rcombined.2.2) true (!rsatisfied)) true (rCmpRat != 0))) = true → AllP [Sound Try.prog 35 [(.agg (TRat.cells rcombined.2.1)), (.agg (TRat.cells b.f_Value))] [] 0 (aI rCmpRat2) [], (!(cond (cond (!rcombined.2.2) true (!rsatisfied)) true (rCmpRat != 0))) = true, (!(cond (cond (!rcombined.2.2) true (!rsatisfied)) true (rCmpRat != 0))) = true], (!(cond (cond (!rcombined.2.2) true (!rsatisfied)) true (rCmpRat != 0))) = true → AllP [(!(cond (cond (!rcombined.2.2) true (!rsatisfied)) true (rCmpRat != 0))) = true], (!(cond (cond (!rcombined.2.2) true (!rsatisfied)) true (rCmpRat != 0))) = true → AllP [(!(cond (cond (!rcombined.2.2) true (!rsatisfied)) true (rCmpRat != 0))) = true]] ⟨(fun hg => ⟨hg, o1, trivial⟩), (fun hg => ⟨(g_e_satisfied_ok N l b.f_Point rsatisfied (condT hr3 hg)), hg, hg, trivial⟩), (fun hg => ⟨hg, trivial⟩), (fun hq => ⟨hq, trivial⟩), (fun hg => ⟨hg, o1, trivial⟩), (fun hg => ⟨(g_e_dot_ok N objective b.f_Point rdot (condT hr4 hg)), hg, hg, trivial⟩), (fun hg => ⟨hg, o1, trivial⟩), (fun hg => ⟨(g_e_CmpRat_ok N rdot b.f_Value rCmpRat (condT hr5 hg)), hg, hg, trivial⟩), (fun hg => ⟨hg, trivial⟩), (fun hq => ⟨hq, trivial⟩), (fun hg => ⟨o1, trivial⟩), (fun hg => ⟨hg, o1, trivial⟩), (fun hg => ⟨(g_e_CmpRat_ok N rcombined.2.1 b.f_Value rCmpRat2 (condT hr6 hg)), hg, hg, trivial⟩), (fun hg => ⟨hg, trivial⟩), (fun hq => ⟨hq, trivial⟩), trivial⟩ ?_
      refine Runs.sC 68 (C_145 506) (C_145 507) (cond (cond (cond (!rcombined.2.2) true (!rsatisfied)) true (rCmpRat != 0)) true (rCmpRat2 != 0)) (fun hq4 => ?_) (fun hq4 => ?_)
      · have h := condT h hq4
        refine Runs.sA 1 [.code (C_145 1012), .code (C_145 1013), .code (C_145 127)] ?_
        refine Runs.sR hE ⟨[(6, (aI 24))], [], 1024⟩ (C_145 1012) [] [] (kp [6]) [] 1024 [] trivial ?_
        obtain rfl := Option.some.inj h
        refine Runs.sW hE ⟨[(6, (aI 24))], [], 1024⟩ [] (kp [6]) [] 1024 [] trivial ?_
        exact Runs.sT Try.f84 [] [] trivial
      · have h := condF h hq4
        refine Runs.sA 3 [.code (C_145 508), .code (C_145 509), .code (C_145 255)] ?_
        refine Runs.sR hE ⟨[(0, (encL TRat.cells TRat.d objective)), (9, (encL TRat.cells TRat.d rcombined.1)), (70, (aI ((rcombined.1.length : Nat) : Int))), (71, (aI 0))], [], 1056⟩ (C_145 508) [] [] (kp [0, 9, 70, 71]) [] 1056 [] trivial ?_
        refine Runs.sA 2 [.code (C_145 2036), .inLoop (C_145 2036), .inBlock 0, .code (C_145 255)] ?_
        exact Runs.sW hE _ [] (kp [0, 9, 70, 71]) [] 0 [] trivial (g_e_CheckBest_L1_ok N objective rcombined N 0 _ h E hE)
noncomputable def C_147 (n : Nat) : Code := cat (bodyOf Try.f141) (pth n)
theorem g_r01_Proves_L1_ok (N : Nat) (c : List TRat) (l : List TRow) (x : TBest) (rCombined : (List TRat) × TRat) (fuel : Nat) : ∀ (j : Int) (r : Bool), g_r01_Proves_L1 N c l x rCombined fuel j = some r → ∀ E, EnvOk E 0 → Runs Try.prog E 141 61 (SPost E [] (aB r)) [.code (C_147 116), .inLoop (C_147 116), .inBlock 0, .code (C_147 15)] ⟨[(0, (encL TRat.cells TRat.d c)), (1, (encL TRow.cells TRow.d l)), (5, (.op 0 0 0)), (7, (encL TRat.cells TRat.d rCombined.1)), (8, (.op 1 0 0)), (9, (aI j))], [(0, vO 6 (TBest.cells x)), (1, vO 4 (TRat.cells rCombined.2))], 2⟩ := by
  induction fuel with
  | zero => intro _ r h; rw [g_r01_Proves_L1.eq_1] at h; cases h
  | succ fuel ih =>
    intro j r h E hE
    rw [g_r01_Proves_L1.eq_2] at h
    refine Runs.sA 2 [.code (C_147 464), .code (C_147 465), .code (C_147 233), .inLoop (C_147 116), .inBlock 0, .code (C_147 15)] ?_
    refine Runs.sR hE ⟨[(0, (encL TRat.cells TRat.d c)), (1, (encL TRow.cells TRow.d l)), (5, (.op 0 0 0)), (7, (encL TRat.cells TRat.d rCombined.1)), (8, (.op 1 0 0)), (9, (aI j)), (22, (aB (decide (j < ((c.length : Nat) : Int)))))], [(0, vO 6 (TBest.cells x)), (1, vO 4 (TRat.cells rCombined.2))], 66⟩ (C_147 464) [] [] (kp [0, 1, 5, 7, 8, 9, 22]) (kq [0, 1]) 66 [] trivial ?_
    refine Runs.sC 22 (C_147 930) (C_147 931) (decide (j < ((c.length : Nat) : Int))) (fun hq2 => ?_) (fun hq2 => ?_)
    · have h := condT h hq2
      refine Runs.sA 4 [.code (C_147 1864), .code (C_147 1865), .inBlock 1, .code (C_147 467), .inLoop (C_147 116), .inBlock 0, .code (C_147 15)] ?_
      obtain ⟨c2, h⟩ := ifSome h
      obtain ⟨c3, h⟩ := ifSome h
      obtain ⟨rCmpRat, hr2, h⟩ := bindSome h
      refine Runs.sR hE ⟨[(0, (encL TRat.cells TRat.d c)), (1, (encL TRow.cells TRow.d l)), (5, (.op 0 0 0)), (7, (encL TRat.cells TRat.d rCombined.1)), (8, (.op 1 0 0)), (9, (aI j)), (34, (aB (rCmpRat != 0)))], [(0, vO 6 (TBest.cells x)), (1, vO 4 (TRat.cells rCombined.2))], 226⟩ (C_147 1864) [(8, ⟨[], true, (aI rCmpRat), [], 0, false, none⟩)] [] (kp [0, 1, 5, 7, 8, 9, 34]) (kq [0, 1]) 226 [0 ≤ j ∧ j < ((rCombined.1.length : Nat) : Int), 0 ≤ j ∧ j < ((c.length : Nat) : Int), Sound Try.prog 50 [(.agg [(aB (((rCombined.1.getD ((j).toNat) TRat.d).f_Num).f_Neg)), (encL (cU .u16) 0 (((rCombined.1.getD ((j).toNat) TRat.d).f_Num).f_Limbs)), (aB (((rCombined.1.getD ((j).toNat) TRat.d).f_Den).f_Neg)), (encL (cU .u16) 0 (((rCombined.1.getD ((j).toNat) TRat.d).f_Den).f_Limbs))]), (.agg [(aB (((c.getD ((j).toNat) TRat.d).f_Num).f_Neg)), (encL (cU .u16) 0 (((c.getD ((j).toNat) TRat.d).f_Num).f_Limbs)), (aB (((c.getD ((j).toNat) TRat.d).f_Den).f_Neg)), (encL (cU .u16) 0 (((c.getD ((j).toNat) TRat.d).f_Den).f_Limbs))])] [] 0 (aI rCmpRat) []] ⟨c2, c3, (g_r01_CmpRat_ok N (⟨((rCombined.1.getD ((j).toNat) TRat.d).f_Num), ((rCombined.1.getD ((j).toNat) TRat.d).f_Den)⟩ : TRat) (⟨((c.getD ((j).toNat) TRat.d).f_Num), ((c.getD ((j).toNat) TRat.d).f_Den)⟩ : TRat) rCmpRat hr2), trivial⟩ ?_
      refine Runs.sC 34 (C_147 3730) (C_147 3731) (rCmpRat != 0) (fun hq3 => ?_) (fun hq3 => ?_)
      · have h := condT h hq3
        refine Runs.sA 1 [.code (C_147 7460), .code (C_147 7461), .inBlock 1, .code (C_147 467), .inLoop (C_147 116), .inBlock 0, .code (C_147 15)] ?_
        refine Runs.sR hE ⟨[(6, (aB false))], [], 242⟩ (C_147 7460) [] [] (kp [6]) [] 242 [] trivial ?_
        obtain rfl := Option.some.inj h
        refine Runs.sW hE ⟨[(6, (aB false))], [], 242⟩ [] (kp [6]) [] 242 [] trivial ?_
        exact Runs.sT Try.f141 [] [] trivial
      · have h := condF h hq3
        refine Runs.sA 2 [.code (C_147 467), .inLoop (C_147 116), .inBlock 0, .code (C_147 15)] ?_
        refine Runs.sR hE ⟨[(0, (encL TRat.cells TRat.d c)), (1, (encL TRow.cells TRow.d l)), (5, (.op 0 0 0)), (7, (encL TRat.cells TRat.d rCombined.1)), (8, (.op 1 0 0)), (9, (aI (w64 (j + 1))))], [(0, vO 6 (TBest.cells x)), (1, vO 4 (TRat.cells rCombined.2))], 274⟩ (C_147 467) [] [] (kp [0, 1, 5, 7, 8, 9]) (kq [0, 1]) 274 [] trivial ?_
        refine Runs.sA 1 [.code (C_147 116), .inLoop (C_147 116), .inBlock 0, .code (C_147 15)] ?_
        exact Runs.sW hE _ [] (kp [0, 1, 5, 7, 8, 9]) (kq [0, 1]) 2 [] trivial (ih (w64 (j + 1)) _ h E hE)
    · have h := condF h hq2
      refine Runs.sA 2 [.code (C_147 30), .code (C_147 31)] ?_
      obtain ⟨rHolds, hr3, h⟩ := bindSome h
      obtain ⟨rNoneNegative, hr4, h⟩ := bindSome h
      obtain ⟨rCmpRat2, hr5, h⟩ := bindSome h
      obtain ⟨rProduct, hr6, h⟩ := bindSome h
      obtain ⟨rCmpRat3, hr7, h⟩ := bindSome h
      refine Runs.sR hE ⟨[(6, (aB (cond (cond (cond rHolds rNoneNegative false) (rCmpRat2 == 0) false) (rCmpRat3 == 0) false)))], [], 498⟩ (C_147 30) [(3, ⟨[], true, (aB rHolds), [], 0, false, none⟩), (7, ⟨[], true, (aB rNoneNegative), [], 0, false, none⟩), (13, ⟨[], true, (aI rCmpRat2), [], 0, false, none⟩), (20, ⟨[], true, (.agg (TRat.cells rProduct)), [], 0, false, none⟩), (23, ⟨[], true, (aI rCmpRat3), [], 0, false, none⟩)] [] (kp [6]) [] 498 [0 < 1, Sound Try.prog 88 [(encL TRow.cells TRow.d l), (encL TRat.cells TRat.d x.f_Point)] [] 0 (aB rHolds) [], rHolds = true → AllP [rHolds = true, 0 < 1], rHolds = true → AllP [Sound Try.prog 148 [(encL TRat.cells TRat.d x.f_Multipliers)] [] 0 (aB rNoneNegative) [], rHolds = true], rHolds = true → AllP [rHolds = true], (cond rHolds rNoneNegative false) = true → AllP [0 < 1], (cond rHolds rNoneNegative false) = true → AllP [(cond rHolds rNoneNegative false) = true, 0 < 1], (cond rHolds rNoneNegative false) = true → AllP [Sound Try.prog 50 [(.agg (TRat.cells rCombined.2)), (.agg (TRat.cells x.f_Value))] [] 0 (aI rCmpRat2) [], (cond rHolds rNoneNegative false) = true, (cond rHolds rNoneNegative false) = true], (cond rHolds rNoneNegative false) = true → AllP [(cond rHolds rNoneNegative false) = true], (cond rHolds rNoneNegative false) = true → AllP [(cond rHolds rNoneNegative false) = true], (cond (cond rHolds rNoneNegative false) (rCmpRat2 == 0) false) = true → AllP [(cond (cond rHolds rNoneNegative false) (rCmpRat2 == 0) false) = true, 0 < 1], (cond (cond rHolds rNoneNegative false) (rCmpRat2 == 0) false) = true → AllP [Sound Try.prog 149 [(encL TRat.cells TRat.d c), (encL TRat.cells TRat.d x.f_Point)] [] 0 (.agg (TRat.cells rProduct)) [], (cond (cond rHolds rNoneNegative false) (rCmpRat2 == 0) false) = true, (cond (cond rHolds rNoneNegative false) (rCmpRat2 == 0) false) = true], (cond (cond rHolds rNoneNegative false) (rCmpRat2 == 0) false) = true → AllP [(cond (cond rHolds rNoneNegative false) (rCmpRat2 == 0) false) = true, 0 < 1], (cond (cond rHolds rNoneNegative false) (rCmpRat2 == 0) false) = true → AllP [Sound Try.prog 50 [(.agg (TRat.cells rProduct)), (.agg (TRat.cells x.f_Value))] [] 0 (aI rCmpRat3) [], (cond (cond rHolds rNoneNegative false) (rCmpRat2 == 0) false) = true, (cond (cond rHolds rNoneNegative false) (rCmpRat2 == 0) false) = true], (cond (cond rHolds rNoneNegative false) (rCmpRat2 == 0) false) = true → AllP [(cond (cond rHolds rNoneNegative false) (rCmpRat2 == 0) false) = true], (cond (cond rHolds rNoneNegative false) (rCmpRat2 == 0) false) = true → AllP [(cond (cond rHolds rNoneNegative false) (rCmpRat2 == 0) false) = true]] ⟨o1, (g_r01_Holds_ok N l x.f_Point rHolds hr3), (fun hg => ⟨hg, o1, trivial⟩), (fun hg => ⟨(g_r01_NoneNegative_ok N x.f_Multipliers rNoneNegative (condT hr4 hg)), hg, trivial⟩), (fun hq => ⟨hq, trivial⟩), (fun hg => ⟨o1, trivial⟩), (fun hg => ⟨hg, o1, trivial⟩), (fun hg => ⟨(g_r01_CmpRat_ok N rCombined.2 x.f_Value rCmpRat2 (condT hr5 hg)), hg, hg, trivial⟩), (fun hg => ⟨hg, trivial⟩), (fun hq => ⟨hq, trivial⟩), (fun hg => ⟨hg, o1, trivial⟩), (fun hg => ⟨(g_r01_Product_ok N c x.f_Point rProduct (condT hr6 hg)), hg, hg, trivial⟩), (fun hg => ⟨hg, o1, trivial⟩), (fun hg => ⟨(g_r01_CmpRat_ok N rProduct x.f_Value rCmpRat3 (condT hr7 hg)), hg, hg, trivial⟩), (fun hg => ⟨hg, trivial⟩), (fun hq => ⟨hq, trivial⟩), trivial⟩ ?_
      obtain rfl := Option.some.inj h
      refine Runs.sW hE ⟨[(6, (aB (cond (cond (cond rHolds rNoneNegative false) (rCmpRat2 == 0) false) (rCmpRat3 == 0) false)))], [], 498⟩ [] (kp [6]) [] 498 [] trivial ?_
      exact Runs.sT Try.f141 [] [] trivial
theorem g_r01_Proves_ok (N : Nat) (c : List TRat) (l : List TRow) (x : TBest) (r : Bool) (h : g_r01_Proves N c l x = some r) : Sound Try.prog 141 [(encL TRat.cells TRat.d c), (encL TRow.cells TRow.d l), (.agg (TBest.cells x))] [] 0 (aB r) [] := by
  unfold g_r01_Proves at h
  refine Sound.of_runs (fu := Try.f141) (c := C_147 1) (nt := 61) (by kernel_rfl) (by kernel_rfl) (by kernel_rfl) (by kernel_rfl) (fun hm => rfl) ?_
  intro E hE
  refine Runs.sA 1 [.code (C_147 2), .code (C_147 3)] ?_
  refine Runs.sR hE ⟨[(0, (encL TRat.cells TRat.d c)), (1, (encL TRow.cells TRow.d l)), (5, (.op 0 0 0))], [(0, vO 6 (TBest.cells x))], 32⟩ (C_147 2) [] [] (kp [0, 1, 5]) (kq [0]) 32 [] trivial ?_
  refine Runs.sA 1 [.code (C_147 6), .code (C_147 7)] ?_
  obtain ⟨rCombined, hr, h⟩ := bindSome h
  refine Runs.sR hE ⟨[(0, (encL TRat.cells TRat.d c)), (1, (encL TRow.cells TRow.d l)), (5, (.op 0 0 0)), (7, (encL TRat.cells TRat.d rCombined.1)), (8, (.op 176 0 0))], [(0, vO 6 (TBest.cells x)), (176, vO 4 (TRat.cells rCombined.2))], 224⟩ (C_147 6) [(5, ⟨[], true, (.tup [(encL TRat.cells TRat.d rCombined.1), (.agg (TRat.cells rCombined.2))]), [], 0, false, none⟩)] [] (kp [0, 1, 5, 7, 8]) (kq [0, 176]) 224 [0 < 1, Sound Try.prog 147 [(aI ((c.length : Nat) : Int)), (encL TRow.cells TRow.d l), (encL TRat.cells TRat.d x.f_Multipliers)] [] 0 (.tup [(encL TRat.cells TRat.d rCombined.1), (.agg (TRat.cells rCombined.2))]) [], 0 < 1] ⟨o1, (g_r01_Combined_ok N ((c.length : Nat) : Int) l x.f_Multipliers rCombined hr), o1, trivial⟩ ?_
  refine Runs.sA 2 [.code (C_147 28), .code (C_147 29), .code (C_147 15)] ?_
  refine Runs.sR hE ⟨[(0, (encL TRat.cells TRat.d c)), (1, (encL TRow.cells TRow.d l)), (5, (.op 0 0 0)), (7, (encL TRat.cells TRat.d rCombined.1)), (8, (.op 176 0 0)), (9, (aI 0))], [(0, vO 6 (TBest.cells x)), (176, vO 4 (TRat.cells rCombined.2))], 240⟩ (C_147 28) [] [] (kp [0, 1, 5, 7, 8, 9]) (kq [0, 176]) 240 [] trivial ?_
  refine Runs.sA 2 [.code (C_147 116), .inLoop (C_147 116), .inBlock 0, .code (C_147 15)] ?_
  exact Runs.sW hE _ [] (kp [0, 1, 5, 7, 8, 9]) (kq [0] ++ [(1, .keep 176)]) 2 [] trivial (g_r01_Proves_L1_ok N c l x rCombined N 0 _ h E hE)
noncomputable def C_146 (n : Nat) : Code := cat (bodyOf Try.f85) (pth n)
theorem g_r01_CheckBest_ok (N : Nat) (c : List TRat) (l : List TRow) (x : TBest) (r : Int) (h : g_r01_CheckBest N c l x = some r) : Sound Try.prog 85 [(encL TRat.cells TRat.d c), (encL TRow.cells TRow.d l), (.agg (TBest.cells x))] [] 0 (aI r) [] := by
  unfold g_r01_CheckBest at h
  refine Sound.of_runs (fu := Try.f85) (c := C_146 1) (nt := 34) (by kernel_rfl) (by kernel_rfl) (by kernel_rfl) (by kernel_rfl) (fun hm => rfl) ?_
  intro E hE
  refine Runs.sA 1 [.code (C_146 2), .code (C_146 3)] ?_
  refine Runs.sR hE ⟨[(0, (encL TRat.cells TRat.d c)), (1, (encL TRow.cells TRow.d l)), (5, (.op 0 0 0))], [(0, vO 6 (TBest.cells x))], 32⟩ (C_146 2) [] [] (kp [0, 1, 5]) (kq [0]) 32 [] trivial ?_
  refine Runs.sA 2 [.code (C_146 12), .code (C_146 13), .code (C_146 7)] ?_
  obtain ⟨rCheckRows, hr, h⟩ := bindSome h
  refine Runs.sR hE ⟨[(0, (encL TRat.cells TRat.d c)), (1, (encL TRow.cells TRow.d l)), (5, (.op 0 0 0)), (7, (aI rCheckRows))], [(0, vO 6 (TBest.cells x))], 112⟩ (C_146 12) [(3, ⟨[], true, (aI rCheckRows), [], 0, false, none⟩)] [] (kp [0, 1, 5, 7]) (kq [0]) 112 [Sound Try.prog 79 [(aI ((c.length : Nat) : Int)), (encL TRow.cells TRow.d l)] [] 0 (aI rCheckRows) []] ⟨(g_r01_CheckRows_ok N ((c.length : Nat) : Int) l rCheckRows hr), trivial⟩ ?_
  refine Runs.sA 1 [.code (C_146 26), .code (C_146 27), .code (C_146 7)] ?_
  refine Runs.sR hE ⟨[(0, (encL TRat.cells TRat.d c)), (1, (encL TRow.cells TRow.d l)), (5, (.op 0 0 0)), (7, (aI rCheckRows)), (13, (aB (rCheckRows != 0)))], [(0, vO 6 (TBest.cells x))], 144⟩ (C_146 26) [] [] (kp [0, 1, 5, 7, 13]) (kq [0]) 144 [] trivial ?_
  refine Runs.sC 13 (C_146 54) (C_146 55) (rCheckRows != 0) (fun hq2 => ?_) (fun hq2 => ?_)
  · have h := condT h hq2
    refine Runs.sA 1 [.code (C_146 108), .code (C_146 109), .code (C_146 7)] ?_
    refine Runs.sR hE ⟨[(6, (aI rCheckRows))], [], 176⟩ (C_146 108) [] [] (kp [6]) [] 176 [] trivial ?_
    obtain rfl := Option.some.inj h
    refine Runs.sW hE ⟨[(6, (aI rCheckRows))], [], 176⟩ [] (kp [6]) [] 176 [] trivial ?_
    exact Runs.sT Try.f85 [] [] trivial
  · have h := condF h hq2
    refine Runs.sA 3 [.code (C_146 28), .code (C_146 29), .code (C_146 15)] ?_
    refine Runs.sR hE ⟨[(0, (encL TRat.cells TRat.d c)), (1, (encL TRow.cells TRow.d l)), (5, (.op 0 0 0)), (28, (aB (cond (((x.f_Point.length : Nat) : Int) != ((c.length : Nat) : Int)) true (((x.f_Multipliers.length : Nat) : Int) != ((l.length : Nat) : Int)))))], [(0, vO 6 (TBest.cells x))], 368⟩ (C_146 28) [] [] (kp [0, 1, 5, 28]) (kq [0]) 368 [0 < 1, (!(((x.f_Point.length : Nat) : Int) != ((c.length : Nat) : Int))) = true → AllP [(!(((x.f_Point.length : Nat) : Int) != ((c.length : Nat) : Int))) = true, 0 < 1], (!(((x.f_Point.length : Nat) : Int) != ((c.length : Nat) : Int))) = true → AllP [(!(((x.f_Point.length : Nat) : Int) != ((c.length : Nat) : Int))) = true], (!(((x.f_Point.length : Nat) : Int) != ((c.length : Nat) : Int))) = true → AllP [(!(((x.f_Point.length : Nat) : Int) != ((c.length : Nat) : Int))) = true], (!(((x.f_Point.length : Nat) : Int) != ((c.length : Nat) : Int))) = true → AllP [(!(((x.f_Point.length : Nat) : Int) != ((c.length : Nat) : Int))) = true, (!(((x.f_Point.length : Nat) : Int) != ((c.length : Nat) : Int))) = true], (!(((x.f_Point.length : Nat) : Int) != ((c.length : Nat) : Int))) = true → AllP [(!(((x.f_Point.length : Nat) : Int) != ((c.length : Nat) : Int))) = true]] ⟨o1, (fun hg => ⟨hg, o1, trivial⟩), (fun hg => ⟨hg, trivial⟩), (fun hg => ⟨hg, trivial⟩), (fun hg => ⟨hg, hg, trivial⟩), (fun hq => ⟨hq, trivial⟩), trivial⟩ ?_
    refine Runs.sC 28 (C_146 58) (C_146 59) (cond (((x.f_Point.length : Nat) : Int) != ((c.length : Nat) : Int)) true (((x.f_Multipliers.length : Nat) : Int) != ((l.length : Nat) : Int))) (fun hq3 => ?_) (fun hq3 => ?_)
    · have h := condT h hq3
      refine Runs.sA 1 [.code (C_146 116), .code (C_146 117), .code (C_146 15)] ?_
      refine Runs.sR hE ⟨[(6, (aI 11))], [], 384⟩ (C_146 116) [] [] (kp [6]) [] 384 [] trivial ?_
      obtain rfl := Option.some.inj h
      refine Runs.sW hE ⟨[(6, (aI 11))], [], 384⟩ [] (kp [6]) [] 384 [] trivial ?_
      exact Runs.sT Try.f85 [] [] trivial
    · have h := condF h hq3
      refine Runs.sA 3 [.code (C_146 60), .code (C_146 61), .code (C_146 31)] ?_
      obtain ⟨rProves, hr2, h⟩ := bindSome h
      refine Runs.sR hE ⟨[(33, (aB (!rProves)))], [], 448⟩ (C_146 60) [(3, ⟨[], true, (aB rProves), [], 0, false, none⟩)] [] (kp [33]) [] 448 [0 < 1, Sound Try.prog 141 [(encL TRat.cells TRat.d c), (encL TRow.cells TRow.d l), (.agg (TBest.cells x))] [] 0 (aB rProves) []] ⟨o1, (g_r01_Proves_ok N c l x rProves hr2), trivial⟩ ?_
      refine Runs.sC 33 (C_146 122) (C_146 123) (!rProves) (fun hq4 => ?_) (fun hq4 => ?_)
      · have h := condT h hq4
        refine Runs.sA 1 [.code (C_146 244), .code (C_146 245), .code (C_146 31)] ?_
        refine Runs.sR hE ⟨[(6, (aI 24))], [], 464⟩ (C_146 244) [] [] (kp [6]) [] 464 [] trivial ?_
        obtain rfl := Option.some.inj h
        refine Runs.sW hE ⟨[(6, (aI 24))], [], 464⟩ [] (kp [6]) [] 464 [] trivial ?_
        exact Runs.sT Try.f85 [] [] trivial
      · have h := condF h hq4
        refine Runs.sA 2 [.code (C_146 62), .code (C_146 63)] ?_
        refine Runs.sR hE ⟨[(6, (aI 0))], [], 464⟩ (C_146 62) [] [] (kp [6]) [] 464 [] trivial ?_
        obtain rfl := Option.some.inj h
        refine Runs.sW hE ⟨[(6, (aI 0))], [], 464⟩ [] (kp [6]) [] 464 [] trivial ?_
        exact Runs.sT Try.f85 [] [] trivial
noncomputable def C_120 (n : Nat) : Code := cat (bodyOf Try.f11) (pth n)
theorem g_w01_ExactChecks_ok (N : Nat) (p : Tw01_Problem) (objective : List TRat) (b : TBest) (r : Bool) (h : g_w01_ExactChecks N p objective b = some r) : Sound Try.prog 11 [(.agg (Tw01_Problem.cells p)), (encL TRat.cells TRat.d objective), (.agg (TBest.cells b))] [] 0 (aB r) [] := by
  unfold g_w01_ExactChecks at h
  refine Sound.of_runs (fu := Try.f11) (c := C_120 1) (nt := 87) (by kernel_rfl) (by kernel_rfl) (by kernel_rfl) (by kernel_rfl) (fun hm => rfl) ?_
  intro E hE
  refine Runs.sA 1 [.code (C_120 2), .code (C_120 3)] ?_
  refine Runs.sR hE ⟨[(1, (encL TRat.cells TRat.d objective)), (3, (.op 0 0 0)), (5, (.op 16 0 0))], [(0, vO 2 (Tw01_Problem.cells p)), (16, vO 6 (TBest.cells b))], 48⟩ (C_120 2) [] [] (kp [1, 3, 5]) (kq [0, 16]) 48 [] trivial ?_
  refine Runs.sA 2 [.code (C_120 12), .code (C_120 13), .code (C_120 7)] ?_
  obtain ⟨rmodest, hr, h⟩ := bindSome h
  obtain ⟨rwideAll, hr2, h⟩ := bindSome h
  obtain ⟨rwideAll2, hr3, h⟩ := bindSome h
  obtain ⟨rwideAll3, hr4, h⟩ := bindSome h
  obtain ⟨rwide, hr5, h⟩ := bindSome h
  refine Runs.sR hE ⟨[(1, (encL TRat.cells TRat.d objective)), (3, (.op 0 0 0)), (5, (.op 16 0 0)), (28, (aB (cond (cond (cond (cond (!rmodest) true rwideAll) true rwideAll2) true rwideAll3) true rwide)))], [(0, vO 2 (Tw01_Problem.cells p)), (16, vO 6 (TBest.cells b))], 400⟩ (C_120 12) [(1, ⟨[], true, (aB rmodest), [], 0, false, none⟩), (5, ⟨[], true, (aB rwideAll), [], 0, false, none⟩), (10, ⟨[], true, (aB rwideAll2), [], 0, false, none⟩), (15, ⟨[], true, (aB rwideAll3), [], 0, false, none⟩), (20, ⟨[], true, (aB rwide), [], 0, false, none⟩)] [] (kp [1, 3, 5, 28]) (kq [0, 16]) 400 [0 < 1, Sound Try.prog 77 [(.agg (Tw01_Problem.cells p))] [] 0 (aB rmodest) [], (!(!rmodest)) = true → AllP [Sound Try.prog 59 [(encL TRat.cells TRat.d objective), (aI 20)] [] 0 (aB rwideAll) [], (!(!rmodest)) = true], (!(!rmodest)) = true → AllP [(!(!rmodest)) = true], (!(cond (!rmodest) true rwideAll)) = true → AllP [(!(cond (!rmodest) true rwideAll)) = true, 0 < 1], (!(cond (!rmodest) true rwideAll)) = true → AllP [Sound Try.prog 59 [(encL TRat.cells TRat.d b.f_Point), (aI 20)] [] 0 (aB rwideAll2) [], (!(cond (!rmodest) true rwideAll)) = true], (!(cond (!rmodest) true rwideAll)) = true → AllP [(!(cond (!rmodest) true rwideAll)) = true], (!(cond (cond (!rmodest) true rwideAll) true rwideAll2)) = true → AllP [(!(cond (cond (!rmodest) true rwideAll) true rwideAll2)) = true, 0 < 1], (!(cond (cond (!rmodest) true rwideAll) true rwideAll2)) = true → AllP [Sound Try.prog 59 [(encL TRat.cells TRat.d b.f_Multipliers), (aI 60)] [] 0 (aB rwideAll3) [], (!(cond (cond (!rmodest) true rwideAll) true rwideAll2)) = true], (!(cond (cond (!rmodest) true rwideAll) true rwideAll2)) = true → AllP [(!(cond (cond (!rmodest) true rwideAll) true rwideAll2)) = true], (!(cond (cond (cond (!rmodest) true rwideAll) true rwideAll2) true rwideAll3)) = true → AllP [(!(cond (cond (cond (!rmodest) true rwideAll) true rwideAll2) true rwideAll3)) = true, 0 < 1], (!(cond (cond (cond (!rmodest) true rwideAll) true rwideAll2) true rwideAll3)) = true → AllP [Sound Try.prog 31 [(.agg (TRat.cells b.f_Value))] [] 0 (aB rwide) [], (!(cond (cond (cond (!rmodest) true rwideAll) true rwideAll2) true rwideAll3)) = true], (!(cond (cond (cond (!rmodest) true rwideAll) true rwideAll2) true rwideAll3)) = true → AllP [(!(cond (cond (cond (!rmodest) true rwideAll) true rwideAll2) true rwideAll3)) = true]] ⟨o1, (g_w01_Problem_modest_ok N p rmodest hr), (fun hg => ⟨(g_w01_wideAll_ok N objective 20 rwideAll (condT hr2 hg)), hg, trivial⟩), (fun hq => ⟨hq, trivial⟩), (fun hg => ⟨hg, o1, trivial⟩), (fun hg => ⟨(g_w01_wideAll_ok N b.f_Point 20 rwideAll2 (condT hr3 hg)), hg, trivial⟩), (fun hq => ⟨hq, trivial⟩), (fun hg => ⟨hg, o1, trivial⟩), (fun hg => ⟨(g_w01_wideAll_ok N b.f_Multipliers 60 rwideAll3 (condT hr4 hg)), hg, trivial⟩), (fun hq => ⟨hq, trivial⟩), (fun hg => ⟨hg, o1, trivial⟩), (fun hg => ⟨(g_w01_wide_ok N b.f_Value rwide (condT hr5 hg)), hg, trivial⟩), (fun hq => ⟨hq, trivial⟩), trivial⟩ ?_
  refine Runs.sC 28 (C_120 26) (C_120 27) (cond (cond (cond (cond (!rmodest) true rwideAll) true rwideAll2) true rwideAll3) true rwide) (fun hq2 => ?_) (fun hq2 => ?_)
  · have h := condT h hq2
    refine Runs.sA 1 [.code (C_120 52), .code (C_120 53), .code (C_120 7)] ?_
    obtain ⟨rawake, hr6, h⟩ := bindSome h
    refine Runs.sR hE ⟨[(6, (aB rawake))], [], 432⟩ (C_120 52) [(0, ⟨[], true, (aB rawake), [], 0, false, none⟩)] [] (kp [6]) [] 432 [Sound Try.prog 14 [] [] 0 (aB rawake) []] ⟨(g_w01_awake_ok N rawake hr6), trivial⟩ ?_
    obtain rfl := Option.some.inj h
    refine Runs.sW hE ⟨[(6, (aB rawake))], [], 432⟩ [] (kp [6]) [] 432 [] trivial ?_
    exact Runs.sT Try.f11 [] [] trivial
  · have h := condF h hq2
    refine Runs.sA 2 [.code (C_120 14), .code (C_120 15)] ?_
    obtain ⟨rCheckRows, hr7, h⟩ := bindSome h
    obtain ⟨rCheckRows2, hr8, h⟩ := bindSome h
    obtain ⟨rCheckPoint, hr9, h⟩ := bindSome h
    obtain ⟨rCheckPoint2, hr10, h⟩ := bindSome h
    obtain ⟨rCheckContrad, hr11, h⟩ := bindSome h
    obtain ⟨rCheckContrad2, hr12, h⟩ := bindSome h
    obtain ⟨rCheckBest, hr13, h⟩ := bindSome h
    obtain ⟨rCheckBest2, hr14, h⟩ := bindSome h
    obtain ⟨rawake2, hr15, h⟩ := bindSome h
    refine Runs.sR hE ⟨[(6, (aB (cond (cond (cond (cond (rCheckRows == rCheckRows2) (rCheckPoint == rCheckPoint2) false) (rCheckContrad == rCheckContrad2) false) (rCheckBest == rCheckBest2) false) rawake2 false)))], [], 1328⟩ (C_120 14) [(4, ⟨[], true, (aI rCheckRows), [], 0, false, none⟩), (9, ⟨[], true, (aI rCheckRows2), [], 0, false, none⟩), (16, ⟨[], true, (aI rCheckPoint), [], 0, false, none⟩), (21, ⟨[], true, (aI rCheckPoint2), [], 0, false, none⟩), (31, ⟨[], true, (aI rCheckContrad), [], 0, false, none⟩), (38, ⟨[], true, (aI rCheckContrad2), [], 0, false, none⟩), (46, ⟨[], true, (aI rCheckBest), [], 0, false, none⟩), (51, ⟨[], true, (aI rCheckBest2), [], 0, false, none⟩), (55, ⟨[], true, (aB rawake2), [], 0, false, none⟩)] [] (kp [6]) [] 1328 [0 < 1, 0 < 1, Sound Try.prog 78 [(aI p.f_N), (encL TRow.cells TRow.d p.f_L)] [] 0 (aI rCheckRows) [], 0 < 1, 0 < 1, Sound Try.prog 79 [(aI p.f_N), (encL TRow.cells TRow.d p.f_L)] [] 0 (aI rCheckRows2) [], (rCheckRows == rCheckRows2) = true → AllP [(rCheckRows == rCheckRows2) = true, 0 < 1], (rCheckRows == rCheckRows2) = true → AllP [(rCheckRows == rCheckRows2) = true, 0 < 1], (rCheckRows == rCheckRows2) = true → AllP [Sound Try.prog 80 [(encL TRow.cells TRow.d p.f_L), (encL TRat.cells TRat.d b.f_Point)] [] 0 (aI rCheckPoint) [], (rCheckRows == rCheckRows2) = true, (rCheckRows == rCheckRows2) = true], (rCheckRows == rCheckRows2) = true → AllP [(rCheckRows == rCheckRows2) = true, 0 < 1], (rCheckRows == rCheckRows2) = true → AllP [(rCheckRows == rCheckRows2) = true, 0 < 1], (rCheckRows == rCheckRows2) = true → AllP [Sound Try.prog 81 [(encL TRow.cells TRow.d p.f_L), (encL TRat.cells TRat.d b.f_Point)] [] 0 (aI rCheckPoint2) [], (rCheckRows == rCheckRows2) = true, (rCheckRows == rCheckRows2) = true], (rCheckRows == rCheckRows2) = true → AllP [(rCheckRows == rCheckRows2) = true, (rCheckRows == rCheckRows2) = true], (rCheckRows == rCheckRows2) = true → AllP [(rCheckRows == rCheckRows2) = true], (cond (rCheckRows == rCheckRows2) (rCheckPoint == rCheckPoint2) false) = true → AllP [(cond (rCheckRows == rCheckRows2) (rCheckPoint == rCheckPoint2) false) = true, 0 < 1], (cond (rCheckRows == rCheckRows2) (rCheckPoint == rCheckPoint2) false) = true → AllP [(cond (rCheckRows == rCheckRows2) (rCheckPoint == rCheckPoint2) false) = true, 0 < 1], (cond (rCheckRows == rCheckRows2) (rCheckPoint == rCheckPoint2) false) = true → AllP [(cond (rCheckRows == rCheckRows2) (rCheckPoint == rCheckPoint2) false) = true, 0 < 1], (cond (rCheckRows == rCheckRows2) (rCheckPoint == rCheckPoint2) false) = true → AllP [Sound Try.prog 82 [(aI p.f_N), (encL TRow.cells TRow.d p.f_L), (encL TRat.cells TRat.d b.f_Multipliers)] [] 0 (aI rCheckContrad) [], (cond (rCheckRows == rCheckRows2) (rCheckPoint == rCheckPoint2) false) = true, (cond (rCheckRows == rCheckRows2) (rCheckPoint == rCheckPoint2) false) = true, (cond (rCheckRows == rCheckRows2) (rCheckPoint == rCheckPoint2) false) = true], (cond (rCheckRows == rCheckRows2) (rCheckPoint == rCheckPoint2) false) = true → AllP [(cond (rCheckRows == rCheckRows2) (rCheckPoint == rCheckPoint2) false) = true, 0 < 1], (cond (rCheckRows == rCheckRows2) (rCheckPoint == rCheckPoint2) false) = true → AllP [(cond (rCheckRows == rCheckRows2) (rCheckPoint == rCheckPoint2) false) = true, 0 < 1], (cond (rCheckRows == rCheckRows2) (rCheckPoint == rCheckPoint2) false) = true → AllP [(cond (rCheckRows == rCheckRows2) (rCheckPoint == rCheckPoint2) false) = true, 0 < 1], (cond (rCheckRows == rCheckRows2) (rCheckPoint == rCheckPoint2) false) = true → AllP [Sound Try.prog 83 [(aI p.f_N), (encL TRow.cells TRow.d p.f_L), (encL TRat.cells TRat.d b.f_Multipliers)] [] 0 (aI rCheckContrad2) [], (cond (rCheckRows == rCheckRows2) (rCheckPoint == rCheckPoint2) false) = true, (cond (rCheckRows == rCheckRows2) (rCheckPoint == rCheckPoint2) false) = true, (cond (rCheckRows == rCheckRows2) (rCheckPoint == rCheckPoint2) false) = true], (cond (rCheckRows == rCheckRows2) (rCheckPoint == rCheckPoint2) false) = true → AllP [(cond (rCheckRows == rCheckRows2) (rCheckPoint == rCheckPoint2) false) = true, (cond (rCheckRows == rCheckRows2) (rCheckPoint == rCheckPoint2) false) = true], (cond (rCheckRows == rCheckRows2) (rCheckPoint == rCheckPoint2) false) = true → AllP [(cond (rCheckRows == rCheckRows2) (rCheckPoint == rCheckPoint2) false) = true], (cond (cond (rCheckRows == rCheckRows2) (rCheckPoint == rCheckPoint2) false) (rCheckContrad == rCheckContrad2) false) = true → AllP [(cond (cond (rCheckRows == rCheckRows2) (rCheckPoint == rCheckPoint2) false) (rCheckContrad == rCheckContrad2) false) = true, 0 < 1], (cond (cond (rCheckRows == rCheckRows2) (rCheckPoint == rCheckPoint2) false) (rCheckContrad == rCheckContrad2) false) = true → AllP [0 < 1], (cond (cond (rCheckRows == rCheckRows2) (rCheckPoint == rCheckPoint2) false) (rCheckContrad == rCheckContrad2) false) = true → AllP [Sound Try.prog 84 [(encL TRat.cells TRat.d objective), (encL TRow.cells TRow.d p.f_L), (.agg (TBest.cells b))] [] 0 (aI rCheckBest) [], (cond (cond (rCheckRows == rCheckRows2) (rCheckPoint == rCheckPoint2) false) (rCheckContrad == rCheckContrad2) false) = true, (cond (cond (rCheckRows == rCheckRows2) (rCheckPoint == rCheckPoint2) false) (rCheckContrad == rCheckContrad2) false) = true, (cond (cond (rCheckRows == rCheckRows2) (rCheckPoint == rCheckPoint2) false) (rCheckContrad == rCheckContrad2) false) = true], (cond (cond (rCheckRows == rCheckRows2) (rCheckPoint == rCheckPoint2) false) (rCheckContrad == rCheckContrad2) false) = true → AllP [(cond (cond (rCheckRows == rCheckRows2) (rCheckPoint == rCheckPoint2) false) (rCheckContrad == rCheckContrad2) false) = true, 0 < 1], (cond (cond (rCheckRows == rCheckRows2) (rCheckPoint == rCheckPoint2) false) (rCheckContrad == rCheckContrad2) false) = true → AllP [0 < 1], (cond (cond (rCheckRows == rCheckRows2) (rCheckPoint == rCheckPoint2) false) (rCheckContrad == rCheckContrad2) false) = true → AllP [Sound Try.prog 85 [(encL TRat.cells TRat.d objective), (encL TRow.cells TRow.d p.f_L), (.agg (TBest.cells b))] [] 0 (aI rCheckBest2) [], (cond (cond (rCheckRows == rCheckRows2) (rCheckPoint == rCheckPoint2) false) (rCheckContrad == rCheckContrad2) false) = true, (cond (cond (rCheckRows == rCheckRows2) (rCheckPoint == rCheckPoint2) false) (rCheckContrad == rCheckContrad2) false) = true, (cond (cond (rCheckRows == rCheckRows2) (rCheckPoint == rCheckPoint2) false) (rCheckContrad == rCheckContrad2) false) = true], (cond (cond (rCheckRows == rCheckRows2) (rCheckPoint == rCheckPoint2) false) (rCheckContrad == rCheckContrad2) false) = true → AllP [(cond (cond (rCheckRows == rCheckRows2) (rCheckPoint == rCheckPoint2) false) (rCheckContrad == rCheckContrad2) false) = true, (cond (cond (rCheckRows == rCheckRows2) (rCheckPoint == rCheckPoint2) false) (rCheckContrad == rCheckContrad2) false) = true], (cond (cond (rCheckRows == rCheckRows2) (rCheckPoint == rCheckPoint2) false) (rCheckContrad == rCheckContrad2) false) = true → AllP [(cond (cond (rCheckRows == rCheckRows2) (rCheckPoint == rCheckPoint2) false) (rCheckContrad == rCheckContrad2) false) = true], (cond (cond (cond (rCheckRows == rCheckRows2) (rCheckPoint == rCheckPoint2) false) (rCheckContrad == rCheckContrad2) false) (rCheckBest == rCheckBest2) false) = true → AllP [Sound Try.prog 14 [] [] 0 (aB rawake2) []], (cond (cond (cond (rCheckRows == rCheckRows2) (rCheckPoint == rCheckPoint2) false) (rCheckContrad == rCheckContrad2) false) (rCheckBest == rCheckBest2) false) = true → AllP [(cond (cond (cond (rCheckRows == rCheckRows2) (rCheckPoint == rCheckPoint2) false) (rCheckContrad == rCheckContrad2) false) (rCheckBest == rCheckBest2) false) = true]] ⟨o1, o1, (g_e_CheckRows_ok N p.f_N p.f_L rCheckRows hr7), o1, o1, (g_r01_CheckRows_ok N p.f_N p.f_L rCheckRows2 hr8), (fun hg => ⟨hg, o1, trivial⟩), (fun hg => ⟨hg, o1, trivial⟩), (fun hg => ⟨(g_e_CheckPoint_ok N p.f_L b.f_Point rCheckPoint (condT hr9 hg)), hg, hg, trivial⟩), (fun hg => ⟨hg, o1, trivial⟩), (fun hg => ⟨hg, o1, trivial⟩), (fun hg => ⟨(g_r01_CheckPoint_ok N p.f_L b.f_Point rCheckPoint2 (condT hr10 hg)), hg, hg, trivial⟩), (fun hg => ⟨hg, hg, trivial⟩), (fun hq => ⟨hq, trivial⟩), (fun hg => ⟨hg, o1, trivial⟩), (fun hg => ⟨hg, o1, trivial⟩), (fun hg => ⟨hg, o1, trivial⟩), (fun hg => ⟨(g_e_CheckContradiction_ok N p.f_N p.f_L b.f_Multipliers rCheckContrad (condT hr11 hg)), hg, hg, hg, trivial⟩), (fun hg => ⟨hg, o1, trivial⟩), (fun hg => ⟨hg, o1, trivial⟩), (fun hg => ⟨hg, o1, trivial⟩), (fun hg => ⟨(g_r01_CheckContradiction_ok N p.f_N p.f_L b.f_Multipliers rCheckContrad2 (condT hr12 hg)), hg, hg, hg, trivial⟩), (fun hg => ⟨hg, hg, trivial⟩), (fun hq => ⟨hq, trivial⟩), (fun hg => ⟨hg, o1, trivial⟩), (fun hg => ⟨o1, trivial⟩), (fun hg => ⟨(g_e_CheckBest_ok N objective p.f_L b rCheckBest (condT hr13 hg)), hg, hg, hg, trivial⟩), (fun hg => ⟨hg, o1, trivial⟩), (fun hg => ⟨o1, trivial⟩), (fun hg => ⟨(g_r01_CheckBest_ok N objective p.f_L b rCheckBest2 (condT hr14 hg)), hg, hg, hg, trivial⟩), (fun hg => ⟨hg, hg, trivial⟩), (fun hq => ⟨hq, trivial⟩), (fun hg => ⟨(g_w01_awake_ok N rawake2 (condT hr15 hg)), trivial⟩), (fun hq => ⟨hq, trivial⟩), trivial⟩ ?_
    obtain rfl := Option.some.inj h
    refine Runs.sW hE ⟨[(6, (aB (cond (cond (cond (cond (rCheckRows == rCheckRows2) (rCheckPoint == rCheckPoint2) false) (rCheckContrad == rCheckContrad2) false) (rCheckBest == rCheckBest2) false) rawake2 false)))], [], 1328⟩ [] (kp [6]) [] 1328 [] trivial ?_
    exact Runs.sT Try.f11 [] [] trivial
end Go.Den
