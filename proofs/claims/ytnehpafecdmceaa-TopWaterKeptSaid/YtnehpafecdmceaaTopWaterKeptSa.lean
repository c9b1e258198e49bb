/- Each function of the program does what its Lean function computes (part 1). No conditions. -/
import Derived.Test.YtnehpafecdmceaaTopWaterKeptDen
import Derived.Test.YtnehpafecdmceaaProg
set_option linter.unusedVariables false
set_option maxRecDepth 100000
namespace Go.Den
open Go.Ab Go.Proofs


noncomputable def C_6 (n : Nat) : Code := cat (bodyOf Try.f59) (pth n)

theorem g_water_between_ok (N : Nat) (n : Int) (low : Int) (high : Int) (r : Bool) (h : g_water_between N n low high = some r) : Sound Try.prog 59 [(aI n), (aI low), (aI high)] [] 0 (aB r) [] := by
  unfold g_water_between at h
  refine Sound.of_runs (fu := Try.f59) (c := C_6 1) (nt := 15) (by kernel_rfl) (by kernel_rfl) (by kernel_rfl) (by kernel_rfl) (fun hm => rfl) ?_
  intro E hE
  refine Runs.sA 1 [.code (C_6 2), .code (C_6 3)] ?_
  refine Runs.sR hE ⟨[(0, (aI n)), (1, (aI low)), (2, (aI high))], [], 16⟩ (C_6 2) [] [] (kp [0, 1, 2]) [] 16 [] trivial ?_
  refine Runs.sA 1 [.code (C_6 6), .code (C_6 7)] ?_
  refine Runs.sR hE ⟨[(6, (aB (cond (decide (n ≥ low)) (decide (n ≤ high)) false)))], [], 160⟩ (C_6 6) [] [] (kp [6]) [] 160 [(decide (n ≥ low)) = true → AllP [(decide (n ≥ low)) = true, (decide (n ≥ low)) = true], (decide (n ≥ low)) = true → AllP [(decide (n ≥ low)) = true]] ⟨(fun hg => ⟨hg, hg, trivial⟩), (fun hq => ⟨hq, trivial⟩), trivial⟩ ?_
  obtain rfl := Option.some.inj h
  refine Runs.sW hE ⟨[(6, (aB (cond (decide (n ≥ low)) (decide (n ≤ high)) false)))], [], 160⟩ [] (kp [6]) [] 160 [] trivial ?_
  exact Runs.sT Try.f59 [] [] trivial

noncomputable def C_5 (n : Nat) : Code := cat (bodyOf Try.f67) (pth n)

theorem g_water_isName_L1_ok (N : Nat) (s : ByteArray) (fuel : Nat) : ∀ (x : Int) (r : Bool), g_water_isName_L1 N s fuel x = some r → ∀ E, EnvOk E 0 → Runs Try.prog E 67 51 (SPost E [] (aB r)) [.code (C_5 116), .inLoop (C_5 116), .inBlock 0, .code (C_5 15)] ⟨[(11, (encL (cU .u8) 0 (bytesL s))), (12, (aI ((s.size : Nat) : Int))), (13, (aI x))], [], 0⟩ := by
  induction fuel with
  | zero => intro _ r h; rw [g_water_isName_L1.eq_1] at h; cases h
  | succ fuel ih =>
    intro x r h E hE
    rw [g_water_isName_L1.eq_2] at h
    refine Runs.sA 1 [.code (C_5 232), .code (C_5 233), .inLoop (C_5 116), .inBlock 0, .code (C_5 15)] ?_
    refine Runs.sR hE ⟨[(11, (encL (cU .u8) 0 (bytesL s))), (12, (aI ((s.size : Nat) : Int))), (13, (aI x)), (14, (aB (decide (x < ((s.size : Nat) : Int)))))], [], 16⟩ (C_5 232) [] [] (kp [11, 12, 13, 14]) [] 16 [] trivial ?_
    refine Runs.sA 1 [.code (C_5 466), .code (C_5 467), .inLoop (C_5 116), .inBlock 0, .code (C_5 15)] ?_
    refine Runs.sC 14 (C_5 932) (C_5 933) (decide (x < ((s.size : Nat) : Int))) (fun hq3 => ?_) (fun hq3 => ?_)
    · have h := condT h hq3
      refine Runs.sA 4 [.code (C_5 3736), .code (C_5 3737), .inBlock 1, .code (C_5 935), .inLoop (C_5 116), .inBlock 0, .code (C_5 15)] ?_
      obtain ⟨c, h⟩ := ifSome h
      refine Runs.sR hE ⟨[(3, (aI x)), (4, (.atom (.int .u8 ((bytesL s).getD ((x).toNat) 0)))), (11, (encL (cU .u8) 0 (bytesL s))), (12, (aI ((s.size : Nat) : Int))), (13, (aI x))], [], 96⟩ (C_5 3736) [] [] (kp [3, 4, 11, 12, 13]) [] 96 [0 ≤ x ∧ x < (((bytesL s).length : Nat) : Int)] ⟨c, trivial⟩ ?_
      refine Runs.sA 1 [.code (C_5 7474), .code (C_5 7475), .inBlock 1, .code (C_5 935), .inLoop (C_5 116), .inBlock 0, .code (C_5 15)] ?_
      refine Runs.sR hE ⟨[(3, (aI x)), (4, (.atom (.int .u8 ((bytesL s).getD ((x).toNat) 0)))), (5, (aB (cond (cond (decide (((bytesL s).getD ((x).toNat) 0) ≥ 97)) (decide (((bytesL s).getD ((x).toNat) 0) ≤ 122)) false) true (cond (decide (((bytesL s).getD ((x).toNat) 0) ≥ 65)) (decide (((bytesL s).getD ((x).toNat) 0) ≤ 90)) false)))), (11, (encL (cU .u8) 0 (bytesL s))), (12, (aI ((s.size : Nat) : Int))), (13, (aI x))], [], 336⟩ (C_5 7474) [] [] (kp [3, 4, 5, 11, 12, 13]) [] 336 [(decide (((bytesL s).getD ((x).toNat) 0) ≥ 97)) = true → AllP [(decide (((bytesL s).getD ((x).toNat) 0) ≥ 97)) = true], (decide (((bytesL s).getD ((x).toNat) 0) ≥ 97)) = true → AllP [(decide (((bytesL s).getD ((x).toNat) 0) ≥ 97)) = true], (!(cond (decide (((bytesL s).getD ((x).toNat) 0) ≥ 97)) (decide (((bytesL s).getD ((x).toNat) 0) ≤ 122)) false)) = true → AllP [(!(cond (decide (((bytesL s).getD ((x).toNat) 0) ≥ 97)) (decide (((bytesL s).getD ((x).toNat) 0) ≤ 122)) false)) = true], ((!(cond (decide (((bytesL s).getD ((x).toNat) 0) ≥ 97)) (decide (((bytesL s).getD ((x).toNat) 0) ≤ 122)) false)) && ((!(cond (decide (((bytesL s).getD ((x).toNat) 0) ≥ 97)) (decide (((bytesL s).getD ((x).toNat) 0) ≤ 122)) false)) && (decide (((bytesL s).getD ((x).toNat) 0) ≥ 65)))) = true → AllP [((!(cond (decide (((bytesL s).getD ((x).toNat) 0) ≥ 97)) (decide (((bytesL s).getD ((x).toNat) 0) ≤ 122)) false)) && ((!(cond (decide (((bytesL s).getD ((x).toNat) 0) ≥ 97)) (decide (((bytesL s).getD ((x).toNat) 0) ≤ 122)) false)) && (decide (((bytesL s).getD ((x).toNat) 0) ≥ 65)))) = true], (!(cond (decide (((bytesL s).getD ((x).toNat) 0) ≥ 97)) (decide (((bytesL s).getD ((x).toNat) 0) ≤ 122)) false)) = true → AllP [(!(cond (decide (((bytesL s).getD ((x).toNat) 0) ≥ 97)) (decide (((bytesL s).getD ((x).toNat) 0) ≤ 122)) false)) = true, (!(cond (decide (((bytesL s).getD ((x).toNat) 0) ≥ 97)) (decide (((bytesL s).getD ((x).toNat) 0) ≤ 122)) false)) = true, (decide (((bytesL s).getD ((x).toNat) 0) ≥ 65)) = true → AllP [((!(cond (decide (((bytesL s).getD ((x).toNat) 0) ≥ 97)) (decide (((bytesL s).getD ((x).toNat) 0) ≤ 122)) false)) && ((!(cond (decide (((bytesL s).getD ((x).toNat) 0) ≥ 97)) (decide (((bytesL s).getD ((x).toNat) 0) ≤ 122)) false)) && (decide (((bytesL s).getD ((x).toNat) 0) ≥ 65)))) = true]], (!(cond (decide (((bytesL s).getD ((x).toNat) 0) ≥ 97)) (decide (((bytesL s).getD ((x).toNat) 0) ≤ 122)) false)) = true → AllP [(!(cond (decide (((bytesL s).getD ((x).toNat) 0) ≥ 97)) (decide (((bytesL s).getD ((x).toNat) 0) ≤ 122)) false)) = true]] ⟨(fun hg => ⟨hg, trivial⟩), (fun hq => ⟨hq, trivial⟩), (fun hg => ⟨hg, trivial⟩), (fun hg => ⟨hg, trivial⟩), (fun hg => ⟨hg, hg, (fun hq => ⟨(andI' hg (andI' hg hq)), trivial⟩), trivial⟩), (fun hq => ⟨hq, trivial⟩), trivial⟩ ?_
      refine Runs.sA 1 [.code (C_5 14950), .code (C_5 14951), .inBlock 1, .code (C_5 935), .inLoop (C_5 116), .inBlock 0, .code (C_5 15)] ?_
      refine Runs.sR hE ⟨[(11, (encL (cU .u8) 0 (bytesL s))), (12, (aI ((s.size : Nat) : Int))), (13, (aI x)), (49, (aB (cond (!(cond (cond (decide (((bytesL s).getD ((x).toNat) 0) ≥ 97)) (decide (((bytesL s).getD ((x).toNat) 0) ≤ 122)) false) true (cond (decide (((bytesL s).getD ((x).toNat) 0) ≥ 65)) (decide (((bytesL s).getD ((x).toNat) 0) ≤ 90)) false))) (cond (x == 0) true (cond (((bytesL s).getD ((x).toNat) 0) != 45) (cond (decide (((bytesL s).getD ((x).toNat) 0) < 48)) true (decide (((bytesL s).getD ((x).toNat) 0) > 57))) false)) false)))], [], 624⟩ (C_5 14950) [] [] (kp [11, 12, 13, 49]) [] 624 [(!(cond (cond (decide (((bytesL s).getD ((x).toNat) 0) ≥ 97)) (decide (((bytesL s).getD ((x).toNat) 0) ≤ 122)) false) true (cond (decide (((bytesL s).getD ((x).toNat) 0) ≥ 65)) (decide (((bytesL s).getD ((x).toNat) 0) ≤ 90)) false))) = true → AllP [(!(cond (cond (decide (((bytesL s).getD ((x).toNat) 0) ≥ 97)) (decide (((bytesL s).getD ((x).toNat) 0) ≤ 122)) false) true (cond (decide (((bytesL s).getD ((x).toNat) 0) ≥ 65)) (decide (((bytesL s).getD ((x).toNat) 0) ≤ 90)) false))) = true], ((!(cond (cond (decide (((bytesL s).getD ((x).toNat) 0) ≥ 97)) (decide (((bytesL s).getD ((x).toNat) 0) ≤ 122)) false) true (cond (decide (((bytesL s).getD ((x).toNat) 0) ≥ 65)) (decide (((bytesL s).getD ((x).toNat) 0) ≤ 90)) false))) && ((!(cond (cond (decide (((bytesL s).getD ((x).toNat) 0) ≥ 97)) (decide (((bytesL s).getD ((x).toNat) 0) ≤ 122)) false) true (cond (decide (((bytesL s).getD ((x).toNat) 0) ≥ 65)) (decide (((bytesL s).getD ((x).toNat) 0) ≤ 90)) false))) && (!(x == 0)))) = true → AllP [((!(cond (cond (decide (((bytesL s).getD ((x).toNat) 0) ≥ 97)) (decide (((bytesL s).getD ((x).toNat) 0) ≤ 122)) false) true (cond (decide (((bytesL s).getD ((x).toNat) 0) ≥ 65)) (decide (((bytesL s).getD ((x).toNat) 0) ≤ 90)) false))) && ((!(cond (cond (decide (((bytesL s).getD ((x).toNat) 0) ≥ 97)) (decide (((bytesL s).getD ((x).toNat) 0) ≤ 122)) false) true (cond (decide (((bytesL s).getD ((x).toNat) 0) ≥ 65)) (decide (((bytesL s).getD ((x).toNat) 0) ≤ 90)) false))) && (!(x == 0)))) = true], (((!(cond (cond (decide (((bytesL s).getD ((x).toNat) 0) ≥ 97)) (decide (((bytesL s).getD ((x).toNat) 0) ≤ 122)) false) true (cond (decide (((bytesL s).getD ((x).toNat) 0) ≥ 65)) (decide (((bytesL s).getD ((x).toNat) 0) ≤ 90)) false))) && ((!(cond (cond (decide (((bytesL s).getD ((x).toNat) 0) ≥ 97)) (decide (((bytesL s).getD ((x).toNat) 0) ≤ 122)) false) true (cond (decide (((bytesL s).getD ((x).toNat) 0) ≥ 65)) (decide (((bytesL s).getD ((x).toNat) 0) ≤ 90)) false))) && (!(x == 0)))) && (((!(cond (cond (decide (((bytesL s).getD ((x).toNat) 0) ≥ 97)) (decide (((bytesL s).getD ((x).toNat) 0) ≤ 122)) false) true (cond (decide (((bytesL s).getD ((x).toNat) 0) ≥ 65)) (decide (((bytesL s).getD ((x).toNat) 0) ≤ 90)) false))) && ((!(cond (cond (decide (((bytesL s).getD ((x).toNat) 0) ≥ 97)) (decide (((bytesL s).getD ((x).toNat) 0) ≤ 122)) false) true (cond (decide (((bytesL s).getD ((x).toNat) 0) ≥ 65)) (decide (((bytesL s).getD ((x).toNat) 0) ≤ 90)) false))) && (!(x == 0)))) && (((bytesL s).getD ((x).toNat) 0) != 45))) = true → AllP [(((!(cond (cond (decide (((bytesL s).getD ((x).toNat) 0) ≥ 97)) (decide (((bytesL s).getD ((x).toNat) 0) ≤ 122)) false) true (cond (decide (((bytesL s).getD ((x).toNat) 0) ≥ 65)) (decide (((bytesL s).getD ((x).toNat) 0) ≤ 90)) false))) && ((!(cond (cond (decide (((bytesL s).getD ((x).toNat) 0) ≥ 97)) (decide (((bytesL s).getD ((x).toNat) 0) ≤ 122)) false) true (cond (decide (((bytesL s).getD ((x).toNat) 0) ≥ 65)) (decide (((bytesL s).getD ((x).toNat) 0) ≤ 90)) false))) && (!(x == 0)))) && (((!(cond (cond (decide (((bytesL s).getD ((x).toNat) 0) ≥ 97)) (decide (((bytesL s).getD ((x).toNat) 0) ≤ 122)) false) true (cond (decide (((bytesL s).getD ((x).toNat) 0) ≥ 65)) (decide (((bytesL s).getD ((x).toNat) 0) ≤ 90)) false))) && ((!(cond (cond (decide (((bytesL s).getD ((x).toNat) 0) ≥ 97)) (decide (((bytesL s).getD ((x).toNat) 0) ≤ 122)) false) true (cond (decide (((bytesL s).getD ((x).toNat) 0) ≥ 65)) (decide (((bytesL s).getD ((x).toNat) 0) ≤ 90)) false))) && (!(x == 0)))) && (((bytesL s).getD ((x).toNat) 0) != 45))) = true], ((((!(cond (cond (decide (((bytesL s).getD ((x).toNat) 0) ≥ 97)) (decide (((bytesL s).getD ((x).toNat) 0) ≤ 122)) false) true (cond (decide (((bytesL s).getD ((x).toNat) 0) ≥ 65)) (decide (((bytesL s).getD ((x).toNat) 0) ≤ 90)) false))) && ((!(cond (cond (decide (((bytesL s).getD ((x).toNat) 0) ≥ 97)) (decide (((bytesL s).getD ((x).toNat) 0) ≤ 122)) false) true (cond (decide (((bytesL s).getD ((x).toNat) 0) ≥ 65)) (decide (((bytesL s).getD ((x).toNat) 0) ≤ 90)) false))) && (!(x == 0)))) && (((!(cond (cond (decide (((bytesL s).getD ((x).toNat) 0) ≥ 97)) (decide (((bytesL s).getD ((x).toNat) 0) ≤ 122)) false) true (cond (decide (((bytesL s).getD ((x).toNat) 0) ≥ 65)) (decide (((bytesL s).getD ((x).toNat) 0) ≤ 90)) false))) && ((!(cond (cond (decide (((bytesL s).getD ((x).toNat) 0) ≥ 97)) (decide (((bytesL s).getD ((x).toNat) 0) ≤ 122)) false) true (cond (decide (((bytesL s).getD ((x).toNat) 0) ≥ 65)) (decide (((bytesL s).getD ((x).toNat) 0) ≤ 90)) false))) && (!(x == 0)))) && (((bytesL s).getD ((x).toNat) 0) != 45))) && ((((!(cond (cond (decide (((bytesL s).getD ((x).toNat) 0) ≥ 97)) (decide (((bytesL s).getD ((x).toNat) 0) ≤ 122)) false) true (cond (decide (((bytesL s).getD ((x).toNat) 0) ≥ 65)) (decide (((bytesL s).getD ((x).toNat) 0) ≤ 90)) false))) && ((!(cond (cond (decide (((bytesL s).getD ((x).toNat) 0) ≥ 97)) (decide (((bytesL s).getD ((x).toNat) 0) ≤ 122)) false) true (cond (decide (((bytesL s).getD ((x).toNat) 0) ≥ 65)) (decide (((bytesL s).getD ((x).toNat) 0) ≤ 90)) false))) && (!(x == 0)))) && (((!(cond (cond (decide (((bytesL s).getD ((x).toNat) 0) ≥ 97)) (decide (((bytesL s).getD ((x).toNat) 0) ≤ 122)) false) true (cond (decide (((bytesL s).getD ((x).toNat) 0) ≥ 65)) (decide (((bytesL s).getD ((x).toNat) 0) ≤ 90)) false))) && ((!(cond (cond (decide (((bytesL s).getD ((x).toNat) 0) ≥ 97)) (decide (((bytesL s).getD ((x).toNat) 0) ≤ 122)) false) true (cond (decide (((bytesL s).getD ((x).toNat) 0) ≥ 65)) (decide (((bytesL s).getD ((x).toNat) 0) ≤ 90)) false))) && (!(x == 0)))) && (((bytesL s).getD ((x).toNat) 0) != 45))) && (!(decide (((bytesL s).getD ((x).toNat) 0) < 48))))) = true → AllP [((((!(cond (cond (decide (((bytesL s).getD ((x).toNat) 0) ≥ 97)) (decide (((bytesL s).getD ((x).toNat) 0) ≤ 122)) false) true (cond (decide (((bytesL s).getD ((x).toNat) 0) ≥ 65)) (decide (((bytesL s).getD ((x).toNat) 0) ≤ 90)) false))) && ((!(cond (cond (decide (((bytesL s).getD ((x).toNat) 0) ≥ 97)) (decide (((bytesL s).getD ((x).toNat) 0) ≤ 122)) false) true (cond (decide (((bytesL s).getD ((x).toNat) 0) ≥ 65)) (decide (((bytesL s).getD ((x).toNat) 0) ≤ 90)) false))) && (!(x == 0)))) && (((!(cond (cond (decide (((bytesL s).getD ((x).toNat) 0) ≥ 97)) (decide (((bytesL s).getD ((x).toNat) 0) ≤ 122)) false) true (cond (decide (((bytesL s).getD ((x).toNat) 0) ≥ 65)) (decide (((bytesL s).getD ((x).toNat) 0) ≤ 90)) false))) && ((!(cond (cond (decide (((bytesL s).getD ((x).toNat) 0) ≥ 97)) (decide (((bytesL s).getD ((x).toNat) 0) ≤ 122)) false) true (cond (decide (((bytesL s).getD ((x).toNat) 0) ≥ 65)) (decide (((bytesL s).getD ((x).toNat) 0) ≤ 90)) false))) && (!(x == 0)))) && (((bytesL s).getD ((x).toNat) 0) != 45))) && ((((!(cond (cond (decide (((bytesL s).getD ((x).toNat) 0) ≥ 97)) (decide (((bytesL s).getD ((x).toNat) 0) ≤ 122)) false) true (cond (decide (((bytesL s).getD ((x).toNat) 0) ≥ 65)) (decide (((bytesL s).getD ((x).toNat) 0) ≤ 90)) false))) && ((!(cond (cond (decide (((bytesL s).getD ((x).toNat) 0) ≥ 97)) (decide (((bytesL s).getD ((x).toNat) 0) ≤ 122)) false) true (cond (decide (((bytesL s).getD ((x).toNat) 0) ≥ 65)) (decide (((bytesL s).getD ((x).toNat) 0) ≤ 90)) false))) && (!(x == 0)))) && (((!(cond (cond (decide (((bytesL s).getD ((x).toNat) 0) ≥ 97)) (decide (((bytesL s).getD ((x).toNat) 0) ≤ 122)) false) true (cond (decide (((bytesL s).getD ((x).toNat) 0) ≥ 65)) (decide (((bytesL s).getD ((x).toNat) 0) ≤ 90)) false))) && ((!(cond (cond (decide (((bytesL s).getD ((x).toNat) 0) ≥ 97)) (decide (((bytesL s).getD ((x).toNat) 0) ≤ 122)) false) true (cond (decide (((bytesL s).getD ((x).toNat) 0) ≥ 65)) (decide (((bytesL s).getD ((x).toNat) 0) ≤ 90)) false))) && (!(x == 0)))) && (((bytesL s).getD ((x).toNat) 0) != 45))) && (!(decide (((bytesL s).getD ((x).toNat) 0) < 48))))) = true], (((!(cond (cond (decide (((bytesL s).getD ((x).toNat) 0) ≥ 97)) (decide (((bytesL s).getD ((x).toNat) 0) ≤ 122)) false) true (cond (decide (((bytesL s).getD ((x).toNat) 0) ≥ 65)) (decide (((bytesL s).getD ((x).toNat) 0) ≤ 90)) false))) && ((!(cond (cond (decide (((bytesL s).getD ((x).toNat) 0) ≥ 97)) (decide (((bytesL s).getD ((x).toNat) 0) ≤ 122)) false) true (cond (decide (((bytesL s).getD ((x).toNat) 0) ≥ 65)) (decide (((bytesL s).getD ((x).toNat) 0) ≤ 90)) false))) && (!(x == 0)))) && (((!(cond (cond (decide (((bytesL s).getD ((x).toNat) 0) ≥ 97)) (decide (((bytesL s).getD ((x).toNat) 0) ≤ 122)) false) true (cond (decide (((bytesL s).getD ((x).toNat) 0) ≥ 65)) (decide (((bytesL s).getD ((x).toNat) 0) ≤ 90)) false))) && ((!(cond (cond (decide (((bytesL s).getD ((x).toNat) 0) ≥ 97)) (decide (((bytesL s).getD ((x).toNat) 0) ≤ 122)) false) true (cond (decide (((bytesL s).getD ((x).toNat) 0) ≥ 65)) (decide (((bytesL s).getD ((x).toNat) 0) ≤ 90)) false))) && (!(x == 0)))) && (((bytesL s).getD ((x).toNat) 0) != 45))) = true → AllP [(((!(cond (cond (decide (((bytesL s).getD ((x).toNat) 0) ≥ 97)) (decide (((bytesL s).getD ((x).toNat) 0) ≤ 122)) false) true (cond (decide (((bytesL s).getD ((x).toNat) 0) ≥ 65)) (decide (((bytesL s).getD ((x).toNat) 0) ≤ 90)) false))) && ((!(cond (cond (decide (((bytesL s).getD ((x).toNat) 0) ≥ 97)) (decide (((bytesL s).getD ((x).toNat) 0) ≤ 122)) false) true (cond (decide (((bytesL s).getD ((x).toNat) 0) ≥ 65)) (decide (((bytesL s).getD ((x).toNat) 0) ≤ 90)) false))) && (!(x == 0)))) && (((!(cond (cond (decide (((bytesL s).getD ((x).toNat) 0) ≥ 97)) (decide (((bytesL s).getD ((x).toNat) 0) ≤ 122)) false) true (cond (decide (((bytesL s).getD ((x).toNat) 0) ≥ 65)) (decide (((bytesL s).getD ((x).toNat) 0) ≤ 90)) false))) && ((!(cond (cond (decide (((bytesL s).getD ((x).toNat) 0) ≥ 97)) (decide (((bytesL s).getD ((x).toNat) 0) ≤ 122)) false) true (cond (decide (((bytesL s).getD ((x).toNat) 0) ≥ 65)) (decide (((bytesL s).getD ((x).toNat) 0) ≤ 90)) false))) && (!(x == 0)))) && (((bytesL s).getD ((x).toNat) 0) != 45))) = true, (((!(cond (cond (decide (((bytesL s).getD ((x).toNat) 0) ≥ 97)) (decide (((bytesL s).getD ((x).toNat) 0) ≤ 122)) false) true (cond (decide (((bytesL s).getD ((x).toNat) 0) ≥ 65)) (decide (((bytesL s).getD ((x).toNat) 0) ≤ 90)) false))) && ((!(cond (cond (decide (((bytesL s).getD ((x).toNat) 0) ≥ 97)) (decide (((bytesL s).getD ((x).toNat) 0) ≤ 122)) false) true (cond (decide (((bytesL s).getD ((x).toNat) 0) ≥ 65)) (decide (((bytesL s).getD ((x).toNat) 0) ≤ 90)) false))) && (!(x == 0)))) && (((!(cond (cond (decide (((bytesL s).getD ((x).toNat) 0) ≥ 97)) (decide (((bytesL s).getD ((x).toNat) 0) ≤ 122)) false) true (cond (decide (((bytesL s).getD ((x).toNat) 0) ≥ 65)) (decide (((bytesL s).getD ((x).toNat) 0) ≤ 90)) false))) && ((!(cond (cond (decide (((bytesL s).getD ((x).toNat) 0) ≥ 97)) (decide (((bytesL s).getD ((x).toNat) 0) ≤ 122)) false) true (cond (decide (((bytesL s).getD ((x).toNat) 0) ≥ 65)) (decide (((bytesL s).getD ((x).toNat) 0) ≤ 90)) false))) && (!(x == 0)))) && (((bytesL s).getD ((x).toNat) 0) != 45))) = true, (!(decide (((bytesL s).getD ((x).toNat) 0) < 48))) = true → AllP [((((!(cond (cond (decide (((bytesL s).getD ((x).toNat) 0) ≥ 97)) (decide (((bytesL s).getD ((x).toNat) 0) ≤ 122)) false) true (cond (decide (((bytesL s).getD ((x).toNat) 0) ≥ 65)) (decide (((bytesL s).getD ((x).toNat) 0) ≤ 90)) false))) && ((!(cond (cond (decide (((bytesL s).getD ((x).toNat) 0) ≥ 97)) (decide (((bytesL s).getD ((x).toNat) 0) ≤ 122)) false) true (cond (decide (((bytesL s).getD ((x).toNat) 0) ≥ 65)) (decide (((bytesL s).getD ((x).toNat) 0) ≤ 90)) false))) && (!(x == 0)))) && (((!(cond (cond (decide (((bytesL s).getD ((x).toNat) 0) ≥ 97)) (decide (((bytesL s).getD ((x).toNat) 0) ≤ 122)) false) true (cond (decide (((bytesL s).getD ((x).toNat) 0) ≥ 65)) (decide (((bytesL s).getD ((x).toNat) 0) ≤ 90)) false))) && ((!(cond (cond (decide (((bytesL s).getD ((x).toNat) 0) ≥ 97)) (decide (((bytesL s).getD ((x).toNat) 0) ≤ 122)) false) true (cond (decide (((bytesL s).getD ((x).toNat) 0) ≥ 65)) (decide (((bytesL s).getD ((x).toNat) 0) ≤ 90)) false))) && (!(x == 0)))) && (((bytesL s).getD ((x).toNat) 0) != 45))) && ((((!(cond (cond (decide (((bytesL s).getD ((x).toNat) 0) ≥ 97)) (decide (((bytesL s).getD ((x).toNat) 0) ≤ 122)) false) true (cond (decide (((bytesL s).getD ((x).toNat) 0) ≥ 65)) (decide (((bytesL s).getD ((x).toNat) 0) ≤ 90)) false))) && ((!(cond (cond (decide (((bytesL s).getD ((x).toNat) 0) ≥ 97)) (decide (((bytesL s).getD ((x).toNat) 0) ≤ 122)) false) true (cond (decide (((bytesL s).getD ((x).toNat) 0) ≥ 65)) (decide (((bytesL s).getD ((x).toNat) 0) ≤ 90)) false))) && (!(x == 0)))) && (((!(cond (cond (decide (((bytesL s).getD ((x).toNat) 0) ≥ 97)) (decide (((bytesL s).getD ((x).toNat) 0) ≤ 122)) false) true (cond (decide (((bytesL s).getD ((x).toNat) 0) ≥ 65)) (decide (((bytesL s).getD ((x).toNat) 0) ≤ 90)) false))) && ((!(cond (cond (decide (((bytesL s).getD ((x).toNat) 0) ≥ 97)) (decide (((bytesL s).getD ((x).toNat) 0) ≤ 122)) false) true (cond (decide (((bytesL s).getD ((x).toNat) 0) ≥ 65)) (decide (((bytesL s).getD ((x).toNat) 0) ≤ 90)) false))) && (!(x == 0)))) && (((bytesL s).getD ((x).toNat) 0) != 45))) && (!(decide (((bytesL s).getD ((x).toNat) 0) < 48))))) = true]], ((!(cond (cond (decide (((bytesL s).getD ((x).toNat) 0) ≥ 97)) (decide (((bytesL s).getD ((x).toNat) 0) ≤ 122)) false) true (cond (decide (((bytesL s).getD ((x).toNat) 0) ≥ 65)) (decide (((bytesL s).getD ((x).toNat) 0) ≤ 90)) false))) && ((!(cond (cond (decide (((bytesL s).getD ((x).toNat) 0) ≥ 97)) (decide (((bytesL s).getD ((x).toNat) 0) ≤ 122)) false) true (cond (decide (((bytesL s).getD ((x).toNat) 0) ≥ 65)) (decide (((bytesL s).getD ((x).toNat) 0) ≤ 90)) false))) && (!(x == 0)))) = true → AllP [((!(cond (cond (decide (((bytesL s).getD ((x).toNat) 0) ≥ 97)) (decide (((bytesL s).getD ((x).toNat) 0) ≤ 122)) false) true (cond (decide (((bytesL s).getD ((x).toNat) 0) ≥ 65)) (decide (((bytesL s).getD ((x).toNat) 0) ≤ 90)) false))) && ((!(cond (cond (decide (((bytesL s).getD ((x).toNat) 0) ≥ 97)) (decide (((bytesL s).getD ((x).toNat) 0) ≤ 122)) false) true (cond (decide (((bytesL s).getD ((x).toNat) 0) ≥ 65)) (decide (((bytesL s).getD ((x).toNat) 0) ≤ 90)) false))) && (!(x == 0)))) = true, ((!(cond (cond (decide (((bytesL s).getD ((x).toNat) 0) ≥ 97)) (decide (((bytesL s).getD ((x).toNat) 0) ≤ 122)) false) true (cond (decide (((bytesL s).getD ((x).toNat) 0) ≥ 65)) (decide (((bytesL s).getD ((x).toNat) 0) ≤ 90)) false))) && ((!(cond (cond (decide (((bytesL s).getD ((x).toNat) 0) ≥ 97)) (decide (((bytesL s).getD ((x).toNat) 0) ≤ 122)) false) true (cond (decide (((bytesL s).getD ((x).toNat) 0) ≥ 65)) (decide (((bytesL s).getD ((x).toNat) 0) ≤ 90)) false))) && (!(x == 0)))) = true, (((bytesL s).getD ((x).toNat) 0) != 45) = true → AllP [(((!(cond (cond (decide (((bytesL s).getD ((x).toNat) 0) ≥ 97)) (decide (((bytesL s).getD ((x).toNat) 0) ≤ 122)) false) true (cond (decide (((bytesL s).getD ((x).toNat) 0) ≥ 65)) (decide (((bytesL s).getD ((x).toNat) 0) ≤ 90)) false))) && ((!(cond (cond (decide (((bytesL s).getD ((x).toNat) 0) ≥ 97)) (decide (((bytesL s).getD ((x).toNat) 0) ≤ 122)) false) true (cond (decide (((bytesL s).getD ((x).toNat) 0) ≥ 65)) (decide (((bytesL s).getD ((x).toNat) 0) ≤ 90)) false))) && (!(x == 0)))) && (((!(cond (cond (decide (((bytesL s).getD ((x).toNat) 0) ≥ 97)) (decide (((bytesL s).getD ((x).toNat) 0) ≤ 122)) false) true (cond (decide (((bytesL s).getD ((x).toNat) 0) ≥ 65)) (decide (((bytesL s).getD ((x).toNat) 0) ≤ 90)) false))) && ((!(cond (cond (decide (((bytesL s).getD ((x).toNat) 0) ≥ 97)) (decide (((bytesL s).getD ((x).toNat) 0) ≤ 122)) false) true (cond (decide (((bytesL s).getD ((x).toNat) 0) ≥ 65)) (decide (((bytesL s).getD ((x).toNat) 0) ≤ 90)) false))) && (!(x == 0)))) && (((bytesL s).getD ((x).toNat) 0) != 45))) = true]], (!(cond (cond (decide (((bytesL s).getD ((x).toNat) 0) ≥ 97)) (decide (((bytesL s).getD ((x).toNat) 0) ≤ 122)) false) true (cond (decide (((bytesL s).getD ((x).toNat) 0) ≥ 65)) (decide (((bytesL s).getD ((x).toNat) 0) ≤ 90)) false))) = true → AllP [(!(cond (cond (decide (((bytesL s).getD ((x).toNat) 0) ≥ 97)) (decide (((bytesL s).getD ((x).toNat) 0) ≤ 122)) false) true (cond (decide (((bytesL s).getD ((x).toNat) 0) ≥ 65)) (decide (((bytesL s).getD ((x).toNat) 0) ≤ 90)) false))) = true, (!(cond (cond (decide (((bytesL s).getD ((x).toNat) 0) ≥ 97)) (decide (((bytesL s).getD ((x).toNat) 0) ≤ 122)) false) true (cond (decide (((bytesL s).getD ((x).toNat) 0) ≥ 65)) (decide (((bytesL s).getD ((x).toNat) 0) ≤ 90)) false))) = true, (!(x == 0)) = true → AllP [((!(cond (cond (decide (((bytesL s).getD ((x).toNat) 0) ≥ 97)) (decide (((bytesL s).getD ((x).toNat) 0) ≤ 122)) false) true (cond (decide (((bytesL s).getD ((x).toNat) 0) ≥ 65)) (decide (((bytesL s).getD ((x).toNat) 0) ≤ 90)) false))) && ((!(cond (cond (decide (((bytesL s).getD ((x).toNat) 0) ≥ 97)) (decide (((bytesL s).getD ((x).toNat) 0) ≤ 122)) false) true (cond (decide (((bytesL s).getD ((x).toNat) 0) ≥ 65)) (decide (((bytesL s).getD ((x).toNat) 0) ≤ 90)) false))) && (!(x == 0)))) = true]], (!(cond (cond (decide (((bytesL s).getD ((x).toNat) 0) ≥ 97)) (decide (((bytesL s).getD ((x).toNat) 0) ≤ 122)) false) true (cond (decide (((bytesL s).getD ((x).toNat) 0) ≥ 65)) (decide (((bytesL s).getD ((x).toNat) 0) ≤ 90)) false))) = true → AllP [(!(cond (cond (decide (((bytesL s).getD ((x).toNat) 0) ≥ 97)) (decide (((bytesL s).getD ((x).toNat) 0) ≤ 122)) false) true (cond (decide (((bytesL s).getD ((x).toNat) 0) ≥ 65)) (decide (((bytesL s).getD ((x).toNat) 0) ≤ 90)) false))) = true]] ⟨(fun hg => ⟨hg, trivial⟩), (fun hg => ⟨hg, trivial⟩), (fun hg => ⟨hg, trivial⟩), (fun hg => ⟨hg, trivial⟩), (fun hg => ⟨hg, hg, (fun hq => ⟨(andI' hg (andI' hg hq)), trivial⟩), trivial⟩), (fun hg => ⟨hg, hg, (fun hq => ⟨(andI' hg (andI' hg hq)), trivial⟩), trivial⟩), (fun hg => ⟨hg, hg, (fun hq => ⟨(andI' hg (andI' hg hq)), trivial⟩), trivial⟩), (fun hq => ⟨hq, trivial⟩), trivial⟩ ?_
      refine Runs.sC 49 (C_5 29902) (C_5 29903) (cond (!(cond (cond (decide (((bytesL s).getD ((x).toNat) 0) ≥ 97)) (decide (((bytesL s).getD ((x).toNat) 0) ≤ 122)) false) true (cond (decide (((bytesL s).getD ((x).toNat) 0) ≥ 65)) (decide (((bytesL s).getD ((x).toNat) 0) ≤ 90)) false))) (cond (x == 0) true (cond (((bytesL s).getD ((x).toNat) 0) != 45) (cond (decide (((bytesL s).getD ((x).toNat) 0) < 48)) true (decide (((bytesL s).getD ((x).toNat) 0) > 57))) false)) false) (fun hq4 => ?_) (fun hq4 => ?_)
      · have h := condT h hq4
        refine Runs.sA 1 [.code (C_5 59804), .code (C_5 59805), .inBlock 1, .code (C_5 935), .inLoop (C_5 116), .inBlock 0, .code (C_5 15)] ?_
        refine Runs.sR hE ⟨[(2, (aB false))], [], 640⟩ (C_5 59804) [] [] (kp [2]) [] 640 [] trivial ?_
        obtain rfl := Option.some.inj h
        refine Runs.sW hE ⟨[(2, (aB false))], [], 640⟩ [] (kp [2]) [] 640 [] trivial ?_
        exact Runs.sT Try.f67 [] [] trivial
      · have h := condF h hq4
        refine Runs.sA 2 [.code (C_5 935), .inLoop (C_5 116), .inBlock 0, .code (C_5 15)] ?_
        refine Runs.sR hE ⟨[(11, (encL (cU .u8) 0 (bytesL s))), (12, (aI ((s.size : Nat) : Int))), (13, (aI (w64 (x + 1))))], [], 656⟩ (C_5 935) [] [] (kp [11, 12, 13]) [] 656 [] trivial ?_
        refine Runs.sA 1 [.code (C_5 116), .inLoop (C_5 116), .inBlock 0, .code (C_5 15)] ?_
        exact Runs.sW hE _ [] (kp [11, 12, 13]) [] 0 [] trivial (ih (w64 (x + 1)) _ h E hE)
    · have h := condF h hq3
      refine Runs.sA 2 [.code (C_5 30), .code (C_5 31)] ?_
      refine Runs.sR hE ⟨[(2, (aB true))], [], 32⟩ (C_5 30) [] [] (kp [2]) [] 32 [] trivial ?_
      obtain rfl := Option.some.inj h
      refine Runs.sW hE ⟨[(2, (aB true))], [], 48⟩ [] (kp [2]) [] 48 [] trivial ?_
      exact Runs.sT Try.f67 [] [] trivial

theorem g_water_isName_ok (N : Nat) (s : ByteArray) (r : Bool) (h : g_water_isName N s = some r) : Sound Try.prog 67 [(aS s)] [] 0 (aB r) [] := by
  unfold g_water_isName at h
  refine Sound.of_runs (fu := Try.f67) (c := C_5 1) (nt := 51) (by kernel_rfl) (by kernel_rfl) (by kernel_rfl) (by kernel_rfl) (fun hm => rfl) ?_
  intro E hE
  refine Runs.sA 1 [.code (C_5 2), .code (C_5 3)] ?_
  refine Runs.sR hE ⟨[(0, (aS s))], [], 16⟩ (C_5 2) [] [] (kp [0]) [] 16 [] trivial ?_
  refine Runs.sA 2 [.code (C_5 12), .code (C_5 13), .code (C_5 7)] ?_
  obtain ⟨rbetween, hr, h⟩ := bindSome h
  refine Runs.sR hE ⟨[(0, (aS s)), (9, (aB (!rbetween)))], [], 80⟩ (C_5 12) [(2, ⟨[], true, (aB rbetween), [], 0, false⟩)] [] (kp [0, 9]) [] 80 [Sound Try.prog 59 [(aI ((s.size : Nat) : Int)), (aI 1), (aI 12)] [] 0 (aB rbetween) []] ⟨(g_water_between_ok N ((s.size : Nat) : Int) 1 12 rbetween hr), trivial⟩ ?_
  refine Runs.sC 9 (C_5 26) (C_5 27) (!rbetween) (fun hq2 => ?_) (fun hq2 => ?_)
  · have h := condT h hq2
    refine Runs.sA 1 [.code (C_5 52), .code (C_5 53), .code (C_5 7)] ?_
    refine Runs.sR hE ⟨[(2, (aB false))], [], 96⟩ (C_5 52) [] [] (kp [2]) [] 96 [] trivial ?_
    obtain rfl := Option.some.inj h
    refine Runs.sW hE ⟨[(2, (aB false))], [], 96⟩ [] (kp [2]) [] 96 [] trivial ?_
    exact Runs.sT Try.f67 [] [] trivial
  · have h := condF h hq2
    refine Runs.sA 3 [.code (C_5 28), .code (C_5 29), .code (C_5 15)] ?_
    refine Runs.sR hE ⟨[(11, (encL (cU .u8) 0 (bytesL s))), (12, (aI ((s.size : Nat) : Int))), (13, (aI 0))], [], 144⟩ (C_5 28) [] [] ([(11, .sl ((bytesL s).length) (fun zi => (cU .u8) ((bytesL s).getD zi 0)))] ++ kp [12, 13]) [] 144 [s.size = (bytesL s).length, ∀ zi, zi < (bytesL s).length → (fun zi => (cU .u8) ((bytesL s).getD zi 0)) zi = (fun zi => [.atom (.int .u8 (byteAt s zi))]) zi] ⟨(bytesL_len s), (bytesL_get s), trivial⟩ ?_
    refine Runs.sA 2 [.code (C_5 116), .inLoop (C_5 116), .inBlock 0, .code (C_5 15)] ?_
    exact Runs.sW hE _ [] (kp [11, 12, 13]) [] 0 [] trivial (g_water_isName_L1_ok N s N 0 _ h E hE)

noncomputable def C_7 (n : Nat) : Code := cat (bodyOf Try.f68) (pth n)

theorem g_water_checkForm_L1_ok (N : Nat) (b : Tapi_Basin) (fuel : Nat) : ∀ (x : Int) (r : Int), g_water_checkForm_L1 N b fuel x = some r → ∀ E, EnvOk E 0 → Runs Try.prog E 68 60 (SPost E [] (aI r)) [.code (C_7 116), .inLoop (C_7 116), .inBlock 0, .code (C_7 15)] ⟨[(1, (.op 0 0 0)), (11, (encL Tapi_Area.cells Tapi_Area.d b.f_Areas)), (12, (aI ((b.f_Areas.length : Nat) : Int))), (13, (aI x))], [(0, vO 3 (Tapi_Basin.cells b))], 1⟩ := by
  induction fuel with
  | zero => intro _ r h; rw [g_water_checkForm_L1.eq_1] at h; cases h
  | succ fuel ih =>
    intro x r h E hE
    rw [g_water_checkForm_L1.eq_2] at h
    refine Runs.sA 1 [.code (C_7 232), .code (C_7 233), .inLoop (C_7 116), .inBlock 0, .code (C_7 15)] ?_
    refine Runs.sR hE ⟨[(1, (.op 0 0 0)), (11, (encL Tapi_Area.cells Tapi_Area.d b.f_Areas)), (12, (aI ((b.f_Areas.length : Nat) : Int))), (13, (aI x)), (14, (aB (decide (x < ((b.f_Areas.length : Nat) : Int)))))], [(0, vO 3 (Tapi_Basin.cells b))], 17⟩ (C_7 232) [] [] (kp [1, 11, 12, 13, 14]) (kq [0]) 17 [] trivial ?_
    refine Runs.sA 1 [.code (C_7 466), .code (C_7 467), .inLoop (C_7 116), .inBlock 0, .code (C_7 15)] ?_
    refine Runs.sC 14 (C_7 932) (C_7 933) (decide (x < ((b.f_Areas.length : Nat) : Int))) (fun hq3 => ?_) (fun hq3 => ?_)
    · have h := condT h hq3
      refine Runs.sA 4 [.code (C_7 3736), .code (C_7 3737), .inBlock 1, .code (C_7 935), .inLoop (C_7 116), .inBlock 0, .code (C_7 15)] ?_
      obtain ⟨c, h⟩ := ifSome h
      refine Runs.sR hE ⟨[(1, (.op 0 0 0)), (3, (aI x)), (4, (.op 65 0 0)), (11, (encL Tapi_Area.cells Tapi_Area.d b.f_Areas)), (12, (aI ((b.f_Areas.length : Nat) : Int))), (13, (aI x))], [(0, vO 3 (Tapi_Basin.cells b)), (65, vO 2 (Tapi_Area.cells (b.f_Areas.getD ((x).toNat) Tapi_Area.d)))], 113⟩ (C_7 3736) [] [] (kp [1, 3, 4, 11, 12, 13]) (kq [0, 65]) 113 [0 ≤ x ∧ x < ((b.f_Areas.length : Nat) : Int), 0 < 1] ⟨c, o1, trivial⟩ ?_
      refine Runs.sA 2 [.code (C_7 14948), .code (C_7 14949), .code (C_7 7475), .inBlock 1, .code (C_7 935), .inLoop (C_7 116), .inBlock 0, .code (C_7 15)] ?_
      obtain ⟨rbetween2, hr2, h⟩ := bindSome h
      obtain ⟨rbetween3, hr3, h⟩ := bindSome h
      refine Runs.sR hE ⟨[(1, (.op 0 0 0)), (3, (aI x)), (4, (.op 65 0 0)), (11, (encL Tapi_Area.cells Tapi_Area.d b.f_Areas)), (12, (aI ((b.f_Areas.length : Nat) : Int))), (13, (aI x)), (27, (aB (cond (!rbetween2) true (!rbetween3))))], [(0, vO 3 (Tapi_Basin.cells b)), (65, vO 2 (Tapi_Area.cells (b.f_Areas.getD ((x).toNat) Tapi_Area.d)))], 273⟩ (C_7 14948) [(2, ⟨[], true, (aB rbetween2), [], 0, false⟩), (7, ⟨[], true, (aB rbetween3), [], 0, false⟩)] [] (kp [1, 3, 4, 11, 12, 13, 27]) (kq [0, 65]) 273 [0 < 1, Sound Try.prog 59 [(aI ((b.f_Areas.getD ((x).toNat) Tapi_Area.d).f_From)), (aI (-1000000)), (aI 1000000)] [] 0 (aB rbetween2) [], (!(!rbetween2)) = true → AllP [(!(!rbetween2)) = true, 0 < 1], (!(!rbetween2)) = true → AllP [Sound Try.prog 59 [(aI ((b.f_Areas.getD ((x).toNat) Tapi_Area.d).f_Size)), (aI 1), (aI 1000000)] [] 0 (aB rbetween3) [], (!(!rbetween2)) = true], (!(!rbetween2)) = true → AllP [(!(!rbetween2)) = true], (!(!rbetween2)) = true → AllP [(!(!rbetween2)) = true]] ⟨o1, (g_water_between_ok N ((b.f_Areas.getD ((x).toNat) Tapi_Area.d).f_From) (-1000000) 1000000 rbetween2 hr2), (fun hg => ⟨hg, o1, trivial⟩), (fun hg => ⟨(g_water_between_ok N ((b.f_Areas.getD ((x).toNat) Tapi_Area.d).f_Size) 1 1000000 rbetween3 (condT hr3 hg)), hg, trivial⟩), (fun hg => ⟨hg, trivial⟩), (fun hq => ⟨hq, trivial⟩), trivial⟩ ?_
      refine Runs.sC 27 (C_7 29898) (C_7 29899) (cond (!rbetween2) true (!rbetween3)) (fun hq4 => ?_) (fun hq4 => ?_)
      · have h := condT h hq4
        refine Runs.sA 1 [.code (C_7 59796), .code (C_7 59797), .code (C_7 7475), .inBlock 1, .code (C_7 935), .inLoop (C_7 116), .inBlock 0, .code (C_7 15)] ?_
        refine Runs.sR hE ⟨[(2, (aI 2))], [], 289⟩ (C_7 59796) [] [] (kp [2]) [] 289 [] trivial ?_
        obtain rfl := Option.some.inj h
        refine Runs.sW hE ⟨[(2, (aI 2))], [], 289⟩ [] (kp [2]) [] 289 [] trivial ?_
        exact Runs.sT Try.f68 [] [] trivial
      · have h := condF h hq4
        refine Runs.sA 2 [.code (C_7 14950), .code (C_7 14951), .inBlock 1, .code (C_7 935), .inLoop (C_7 116), .inBlock 0, .code (C_7 15)] ?_
        obtain ⟨c2, h⟩ := ifSome h
        refine Runs.sR hE ⟨[(1, (.op 0 0 0)), (11, (encL Tapi_Area.cells Tapi_Area.d b.f_Areas)), (12, (aI ((b.f_Areas.length : Nat) : Int))), (13, (aI x)), (41, (aB (cond (decide (x > 0)) (decide ((b.f_Areas.getD ((x).toNat) Tapi_Area.d).f_From ≤ (b.f_Areas.getD ((w64 (x - 1)).toNat) Tapi_Area.d).f_From)) false)))], [(0, vO 3 (Tapi_Basin.cells b))], 497⟩ (C_7 14950) [] [] (kp [1, 11, 12, 13, 41]) (kq [0]) 497 [(decide (x > 0)) = true → AllP [(decide (x > 0)) = true, 0 < 1], (decide (x > 0)) = true → AllP [(decide (x > 0)) = true, 0 < 1], (decide (x > 0)) = true → AllP [(decide (x > 0)) = true], (decide (x > 0)) = true → AllP [(decide (x > 0)) = true, (decide (x > 0)) = true, 0 ≤ (w64 (x - 1)) ∧ (w64 (x - 1)) < ((b.f_Areas.length : Nat) : Int)], (decide (x > 0)) = true → AllP [(decide (x > 0)) = true], (decide (x > 0)) = true → AllP [(decide (x > 0)) = true], (decide (x > 0)) = true → AllP [(decide (x > 0)) = true, (decide (x > 0)) = true], (decide (x > 0)) = true → AllP [(decide (x > 0)) = true]] ⟨(fun hg => ⟨hg, o1, trivial⟩), (fun hg => ⟨hg, o1, trivial⟩), (fun hg => ⟨hg, trivial⟩), (fun hg => ⟨hg, hg, (c2 hg), trivial⟩), (fun hg => ⟨hg, trivial⟩), (fun hg => ⟨hg, trivial⟩), (fun hg => ⟨hg, hg, trivial⟩), (fun hq => ⟨hq, trivial⟩), trivial⟩ ?_
        refine Runs.sC 41 (C_7 29902) (C_7 29903) (cond (decide (x > 0)) (decide ((b.f_Areas.getD ((x).toNat) Tapi_Area.d).f_From ≤ (b.f_Areas.getD ((w64 (x - 1)).toNat) Tapi_Area.d).f_From)) false) (fun hq5 => ?_) (fun hq5 => ?_)
        · have h := condT h hq5
          refine Runs.sA 1 [.code (C_7 59804), .code (C_7 59805), .inBlock 1, .code (C_7 935), .inLoop (C_7 116), .inBlock 0, .code (C_7 15)] ?_
          refine Runs.sR hE ⟨[(2, (aI 10))], [], 513⟩ (C_7 59804) [] [] (kp [2]) [] 513 [] trivial ?_
          obtain rfl := Option.some.inj h
          refine Runs.sW hE ⟨[(2, (aI 10))], [], 513⟩ [] (kp [2]) [] 513 [] trivial ?_
          exact Runs.sT Try.f68 [] [] trivial
        · have h := condF h hq5
          refine Runs.sA 2 [.code (C_7 935), .inLoop (C_7 116), .inBlock 0, .code (C_7 15)] ?_
          refine Runs.sR hE ⟨[(1, (.op 0 0 0)), (11, (encL Tapi_Area.cells Tapi_Area.d b.f_Areas)), (12, (aI ((b.f_Areas.length : Nat) : Int))), (13, (aI (w64 (x + 1))))], [(0, vO 3 (Tapi_Basin.cells b))], 529⟩ (C_7 935) [] [] (kp [1, 11, 12, 13]) (kq [0]) 529 [] trivial ?_
          refine Runs.sA 1 [.code (C_7 116), .inLoop (C_7 116), .inBlock 0, .code (C_7 15)] ?_
          exact Runs.sW hE _ [] (kp [1, 11, 12, 13]) (kq [0]) 1 [] trivial (ih (w64 (x + 1)) _ h E hE)
    · have h := condF h hq3
      refine Runs.sA 3 [.code (C_7 60), .code (C_7 61), .code (C_7 31)] ?_
      obtain ⟨c3, h⟩ := ifSome h
      refine Runs.sR hE ⟨[(59, (aB (cond (decide (b.f_Rim ≤ (b.f_Areas.getD ((w64 (((b.f_Areas.length : Nat) : Int) - 1)).toNat) Tapi_Area.d).f_From)) true (decide (b.f_Rim > 1000000)))))], [], 289⟩ (C_7 60) [] [] (kp [59]) [] 289 [0 < 1, 0 < 1, 0 < 1, 0 ≤ (w64 (((b.f_Areas.length : Nat) : Int) - 1)) ∧ (w64 (((b.f_Areas.length : Nat) : Int) - 1)) < ((b.f_Areas.length : Nat) : Int), (!(decide (b.f_Rim ≤ (b.f_Areas.getD ((w64 (((b.f_Areas.length : Nat) : Int) - 1)).toNat) Tapi_Area.d).f_From))) = true → AllP [(!(decide (b.f_Rim ≤ (b.f_Areas.getD ((w64 (((b.f_Areas.length : Nat) : Int) - 1)).toNat) Tapi_Area.d).f_From))) = true, 0 < 1], (!(decide (b.f_Rim ≤ (b.f_Areas.getD ((w64 (((b.f_Areas.length : Nat) : Int) - 1)).toNat) Tapi_Area.d).f_From))) = true → AllP [(!(decide (b.f_Rim ≤ (b.f_Areas.getD ((w64 (((b.f_Areas.length : Nat) : Int) - 1)).toNat) Tapi_Area.d).f_From))) = true], (!(decide (b.f_Rim ≤ (b.f_Areas.getD ((w64 (((b.f_Areas.length : Nat) : Int) - 1)).toNat) Tapi_Area.d).f_From))) = true → AllP [(!(decide (b.f_Rim ≤ (b.f_Areas.getD ((w64 (((b.f_Areas.length : Nat) : Int) - 1)).toNat) Tapi_Area.d).f_From))) = true]] ⟨o1, o1, o1, c3, (fun hg => ⟨hg, o1, trivial⟩), (fun hg => ⟨hg, trivial⟩), (fun hq => ⟨hq, trivial⟩), trivial⟩ ?_
      refine Runs.sC 59 (C_7 122) (C_7 123) (cond (decide (b.f_Rim ≤ (b.f_Areas.getD ((w64 (((b.f_Areas.length : Nat) : Int) - 1)).toNat) Tapi_Area.d).f_From)) true (decide (b.f_Rim > 1000000))) (fun hq6 => ?_) (fun hq6 => ?_)
      · have h := condT h hq6
        refine Runs.sA 1 [.code (C_7 244), .code (C_7 245), .code (C_7 31)] ?_
        refine Runs.sR hE ⟨[(2, (aI 2))], [], 305⟩ (C_7 244) [] [] (kp [2]) [] 305 [] trivial ?_
        obtain rfl := Option.some.inj h
        refine Runs.sW hE ⟨[(2, (aI 2))], [], 305⟩ [] (kp [2]) [] 305 [] trivial ?_
        exact Runs.sT Try.f68 [] [] trivial
      · have h := condF h hq6
        refine Runs.sA 2 [.code (C_7 62), .code (C_7 63)] ?_
        refine Runs.sR hE ⟨[(2, (aI 0))], [], 305⟩ (C_7 62) [] [] (kp [2]) [] 305 [] trivial ?_
        obtain rfl := Option.some.inj h
        refine Runs.sW hE ⟨[(2, (aI 0))], [], 305⟩ [] (kp [2]) [] 305 [] trivial ?_
        exact Runs.sT Try.f68 [] [] trivial

theorem g_water_checkForm_ok (N : Nat) (b : Tapi_Basin) (r : Int) (h : g_water_checkForm N b = some r) : Sound Try.prog 68 [(.agg (Tapi_Basin.cells b))] [] 0 (aI r) [] := by
  unfold g_water_checkForm at h
  refine Sound.of_runs (fu := Try.f68) (c := C_7 1) (nt := 60) (by kernel_rfl) (by kernel_rfl) (by kernel_rfl) (by kernel_rfl) (fun hm => rfl) ?_
  intro E hE
  refine Runs.sA 1 [.code (C_7 2), .code (C_7 3)] ?_
  refine Runs.sR hE ⟨[(1, (.op 0 0 0))], [(0, vO 3 (Tapi_Basin.cells b))], 32⟩ (C_7 2) [] [] (kp [1]) (kq [0]) 32 [] trivial ?_
  refine Runs.sA 2 [.code (C_7 12), .code (C_7 13), .code (C_7 7)] ?_
  obtain ⟨rbetween, hr, h⟩ := bindSome h
  refine Runs.sR hE ⟨[(1, (.op 0 0 0)), (9, (aB (!rbetween)))], [(0, vO 3 (Tapi_Basin.cells b))], 112⟩ (C_7 12) [(3, ⟨[], true, (aB rbetween), [], 0, false⟩)] [] (kp [1, 9]) (kq [0]) 112 [0 < 1, Sound Try.prog 59 [(aI ((b.f_Areas.length : Nat) : Int)), (aI 1), (aI 20)] [] 0 (aB rbetween) []] ⟨o1, (g_water_between_ok N ((b.f_Areas.length : Nat) : Int) 1 20 rbetween hr), trivial⟩ ?_
  refine Runs.sC 9 (C_7 26) (C_7 27) (!rbetween) (fun hq2 => ?_) (fun hq2 => ?_)
  · have h := condT h hq2
    refine Runs.sA 1 [.code (C_7 52), .code (C_7 53), .code (C_7 7)] ?_
    refine Runs.sR hE ⟨[(2, (aI 2))], [], 128⟩ (C_7 52) [] [] (kp [2]) [] 128 [] trivial ?_
    obtain rfl := Option.some.inj h
    refine Runs.sW hE ⟨[(2, (aI 2))], [], 128⟩ [] (kp [2]) [] 128 [] trivial ?_
    exact Runs.sT Try.f68 [] [] trivial
  · have h := condF h hq2
    refine Runs.sA 3 [.code (C_7 28), .code (C_7 29), .code (C_7 15)] ?_
    refine Runs.sR hE ⟨[(1, (.op 0 0 0)), (11, (encL Tapi_Area.cells Tapi_Area.d b.f_Areas)), (12, (aI ((b.f_Areas.length : Nat) : Int))), (13, (aI 0))], [(0, vO 3 (Tapi_Basin.cells b))], 176⟩ (C_7 28) [] [] (kp [1, 11, 12, 13]) (kq [0]) 176 [0 < 1] ⟨o1, trivial⟩ ?_
    refine Runs.sA 2 [.code (C_7 116), .inLoop (C_7 116), .inBlock 0, .code (C_7 15)] ?_
    exact Runs.sW hE _ [] (kp [1, 11, 12, 13]) (kq [0]) 1 [] trivial (g_water_checkForm_L1_ok N b N 0 _ h E hE)

noncomputable def C_4 (n : Nat) : Code := cat (bodyOf Try.f18) (pth n)

theorem g_water_CheckBasin_ok (N : Nat) (b : Tapi_Basin) (r : Int) (h : g_water_CheckBasin N b = some r) : Sound Try.prog 18 [(.agg (Tapi_Basin.cells b))] [] 0 (aI r) [] := by
  unfold g_water_CheckBasin at h
  refine Sound.of_runs (fu := Try.f18) (c := C_4 1) (nt := 9) (by kernel_rfl) (by kernel_rfl) (by kernel_rfl) (by kernel_rfl) (fun hm => rfl) ?_
  intro E hE
  refine Runs.sA 1 [.code (C_4 2), .code (C_4 3)] ?_
  refine Runs.sR hE ⟨[(1, (.op 0 0 0))], [(0, vO 3 (Tapi_Basin.cells b))], 32⟩ (C_4 2) [] [] (kp [1]) (kq [0]) 32 [] trivial ?_
  refine Runs.sA 2 [.code (C_4 12), .code (C_4 13), .code (C_4 7)] ?_
  obtain ⟨risName, hr, h⟩ := bindSome h
  refine Runs.sR hE ⟨[(1, (.op 0 0 0)), (6, (aB (!risName)))], [(0, vO 3 (Tapi_Basin.cells b))], 96⟩ (C_4 12) [(2, ⟨[], true, (aB risName), [], 0, false⟩)] [] (kp [1, 6]) (kq [0]) 96 [0 < 1, Sound Try.prog 67 [(aS b.f_Name)] [] 0 (aB risName) []] ⟨o1, (g_water_isName_ok N b.f_Name risName hr), trivial⟩ ?_
  refine Runs.sC 6 (C_4 26) (C_4 27) (!risName) (fun hq2 => ?_) (fun hq2 => ?_)
  · have h := condT h hq2
    refine Runs.sA 1 [.code (C_4 52), .code (C_4 53), .code (C_4 7)] ?_
    refine Runs.sR hE ⟨[(2, (aI 4))], [], 112⟩ (C_4 52) [] [] (kp [2]) [] 112 [] trivial ?_
    obtain rfl := Option.some.inj h
    refine Runs.sW hE ⟨[(2, (aI 4))], [], 112⟩ [] (kp [2]) [] 112 [] trivial ?_
    exact Runs.sT Try.f18 [] [] trivial
  · have h := condF h hq2
    refine Runs.sA 2 [.code (C_4 14), .code (C_4 15)] ?_
    obtain ⟨rcheckForm, hr2, h⟩ := bindSome h
    refine Runs.sR hE ⟨[(2, (aI rcheckForm))], [], 144⟩ (C_4 14) [(1, ⟨[], true, (aI rcheckForm), [], 0, false⟩)] [] (kp [2]) [] 144 [0 < 1, Sound Try.prog 68 [(.agg (Tapi_Basin.cells b))] [] 0 (aI rcheckForm) []] ⟨o1, (g_water_checkForm_ok N b rcheckForm hr2), trivial⟩ ?_
    obtain rfl := Option.some.inj h
    refine Runs.sW hE ⟨[(2, (aI rcheckForm))], [], 144⟩ [] (kp [2]) [] 144 [] trivial ?_
    exact Runs.sT Try.f18 [] [] trivial

noncomputable def C_8 (n : Nat) : Code := cat (bodyOf Try.f60) (pth n)

theorem g_water_floor_ok (N : Nat) (b : Tapi_Basin) (r : Int) (h : g_water_floor N b = some r) : Sound Try.prog 60 [(.agg (Tapi_Basin.cells b))] [] 0 (aI r) [] := by
  unfold g_water_floor at h
  refine Sound.of_runs (fu := Try.f60) (c := C_8 1) (nt := 8) (by kernel_rfl) (by kernel_rfl) (by kernel_rfl) (by kernel_rfl) (fun hm => rfl) ?_
  intro E hE
  refine Runs.sA 1 [.code (C_8 2), .code (C_8 3)] ?_
  refine Runs.sR hE ⟨[(1, (.op 0 0 0))], [(0, vO 3 (Tapi_Basin.cells b))], 32⟩ (C_8 2) [] [] (kp [1]) (kq [0]) 32 [] trivial ?_
  refine Runs.sA 1 [.code (C_8 6), .code (C_8 7)] ?_
  obtain ⟨c, h⟩ := ifSome h
  refine Runs.sR hE ⟨[(2, (aI ((b.f_Areas.getD 0 Tapi_Area.d).f_From)))], [], 128⟩ (C_8 6) [] [] (kp [2]) [] 128 [0 < 1, 0 ≤ (0 : Int) ∧ 0 < ((b.f_Areas.length : Nat) : Int)] ⟨o1, c, trivial⟩ ?_
  obtain rfl := Option.some.inj h
  refine Runs.sW hE ⟨[(2, (aI ((b.f_Areas.getD 0 Tapi_Area.d).f_From)))], [], 128⟩ [] (kp [2]) [] 128 [] trivial ?_
  exact Runs.sT Try.f60 [] [] trivial

noncomputable def C_9 (n : Nat) : Code := cat (bodyOf Try.f61) (pth n)

theorem g_water_volume_J2_ok (N : Nat) (b : Tapi_Basin) (level : Int) (sum : Int) (x : Int) (K_g_water_volume_L1 : Int → Int → Option (Int))
    (hK_g_water_volume_L1 : ∀ (sum : Int) (x : Int) (r : Int), K_g_water_volume_L1 sum x = some r → ∀ E, EnvOk E 0 → Runs Try.prog E 61 45 (SPost E [] (aI r)) [.code (C_9 116), .inLoop (C_9 116), .inBlock 0, .code (C_9 15)] ⟨[(1, (aI level)), (2, (.op 0 0 0)), (5, (aI sum)), (10, (encL Tapi_Area.cells Tapi_Area.d b.f_Areas)), (11, (aI ((b.f_Areas.length : Nat) : Int))), (12, (aI x))], [(0, vO 3 (Tapi_Basin.cells b))], 1⟩) (top : Int) (r : Int) (h : g_water_volume_J2 N b level sum x K_g_water_volume_L1 top = some r) : ∀ E, EnvOk E 0 → Runs Try.prog E 61 45 (SPost E [] (aI r)) [.code (C_9 14951), .inBlock 1, .code (C_9 935), .inLoop (C_9 116), .inBlock 0, .code (C_9 15)] ⟨[(1, (aI level)), (2, (.op 0 0 0)), (5, (aI sum)), (7, (.op 1 0 0)), (8, (aI top)), (10, (encL Tapi_Area.cells Tapi_Area.d b.f_Areas)), (11, (aI ((b.f_Areas.length : Nat) : Int))), (12, (aI x))], [(0, vO 3 (Tapi_Basin.cells b)), (1, vO 2 (Tapi_Area.cells (b.f_Areas.getD ((x).toNat) Tapi_Area.d)))], 2⟩ := by
  intro E hE
  unfold g_water_volume_J2 at h
  refine Runs.sR hE ⟨[(1, (aI level)), (2, (.op 0 0 0)), (5, (aI (w64 (sum + (w64 ((b.f_Areas.getD ((x).toNat) Tapi_Area.d).f_Size * (if (w64 (top - (b.f_Areas.getD ((x).toNat) Tapi_Area.d).f_From)) > 0 then (w64 (top - (b.f_Areas.getD ((x).toNat) Tapi_Area.d).f_From)) else 0))))))), (10, (encL Tapi_Area.cells Tapi_Area.d b.f_Areas)), (11, (aI ((b.f_Areas.length : Nat) : Int))), (12, (aI x))], [(0, vO 3 (Tapi_Basin.cells b))], 178⟩ (C_9 14951) [] [] (kp [1, 2, 5, 10, 11, 12]) (kq [0]) 178 [0 < 1, 0 < 1] ⟨o1, o1, trivial⟩ ?_
  refine Runs.sA 1 [.code (C_9 935), .inLoop (C_9 116), .inBlock 0, .code (C_9 15)] ?_
  refine Runs.sR hE ⟨[(1, (aI level)), (2, (.op 0 0 0)), (5, (aI (w64 (sum + (w64 ((b.f_Areas.getD ((x).toNat) Tapi_Area.d).f_Size * (if (w64 (top - (b.f_Areas.getD ((x).toNat) Tapi_Area.d).f_From)) > 0 then (w64 (top - (b.f_Areas.getD ((x).toNat) Tapi_Area.d).f_From)) else 0))))))), (10, (encL Tapi_Area.cells Tapi_Area.d b.f_Areas)), (11, (aI ((b.f_Areas.length : Nat) : Int))), (12, (aI (w64 (x + 1))))], [(0, vO 3 (Tapi_Basin.cells b))], 210⟩ (C_9 935) [] [] (kp [1, 2, 5, 10, 11, 12]) (kq [0]) 210 [] trivial ?_
  refine Runs.sA 1 [.code (C_9 116), .inLoop (C_9 116), .inBlock 0, .code (C_9 15)] ?_
  exact Runs.sW hE _ [] (kp [1, 2, 5, 10, 11, 12]) (kq [0]) 1 [] trivial (hK_g_water_volume_L1 (w64 (sum + (w64 ((b.f_Areas.getD ((x).toNat) Tapi_Area.d).f_Size * (if (w64 (top - (b.f_Areas.getD ((x).toNat) Tapi_Area.d).f_From)) > 0 then (w64 (top - (b.f_Areas.getD ((x).toNat) Tapi_Area.d).f_From)) else 0))))) (w64 (x + 1)) _ h E hE)

theorem g_water_volume_L1_ok (N : Nat) (b : Tapi_Basin) (level : Int) (fuel : Nat) : ∀ (sum : Int) (x : Int) (r : Int), g_water_volume_L1 N b level fuel sum x = some r → ∀ E, EnvOk E 0 → Runs Try.prog E 61 45 (SPost E [] (aI r)) [.code (C_9 116), .inLoop (C_9 116), .inBlock 0, .code (C_9 15)] ⟨[(1, (aI level)), (2, (.op 0 0 0)), (5, (aI sum)), (10, (encL Tapi_Area.cells Tapi_Area.d b.f_Areas)), (11, (aI ((b.f_Areas.length : Nat) : Int))), (12, (aI x))], [(0, vO 3 (Tapi_Basin.cells b))], 1⟩ := by
  induction fuel with
  | zero => intro _ _ r h; rw [g_water_volume_L1.eq_1] at h; cases h
  | succ fuel ih =>
    intro sum x r h E hE
    rw [g_water_volume_L1.eq_2] at h
    refine Runs.sA 1 [.code (C_9 232), .code (C_9 233), .inLoop (C_9 116), .inBlock 0, .code (C_9 15)] ?_
    refine Runs.sR hE ⟨[(1, (aI level)), (2, (.op 0 0 0)), (5, (aI sum)), (10, (encL Tapi_Area.cells Tapi_Area.d b.f_Areas)), (11, (aI ((b.f_Areas.length : Nat) : Int))), (12, (aI x)), (13, (aB (decide (x < ((b.f_Areas.length : Nat) : Int)))))], [(0, vO 3 (Tapi_Basin.cells b))], 17⟩ (C_9 232) [] [] (kp [1, 2, 5, 10, 11, 12, 13]) (kq [0]) 17 [] trivial ?_
    refine Runs.sA 1 [.code (C_9 466), .code (C_9 467), .inLoop (C_9 116), .inBlock 0, .code (C_9 15)] ?_
    refine Runs.sC 13 (C_9 932) (C_9 933) (decide (x < ((b.f_Areas.length : Nat) : Int))) (fun hq2 => ?_) (fun hq2 => ?_)
    · have h := condT h hq2
      refine Runs.sA 4 [.code (C_9 3736), .code (C_9 3737), .inBlock 1, .code (C_9 935), .inLoop (C_9 116), .inBlock 0, .code (C_9 15)] ?_
      obtain ⟨c, h⟩ := ifSome h
      refine Runs.sR hE ⟨[(1, (aI level)), (2, (.op 0 0 0)), (5, (aI sum)), (6, (aI x)), (7, (.op 65 0 0)), (10, (encL Tapi_Area.cells Tapi_Area.d b.f_Areas)), (11, (aI ((b.f_Areas.length : Nat) : Int))), (12, (aI x))], [(0, vO 3 (Tapi_Basin.cells b)), (65, vO 2 (Tapi_Area.cells (b.f_Areas.getD ((x).toNat) Tapi_Area.d)))], 113⟩ (C_9 3736) [] [] (kp [1, 2, 5, 6, 7, 10, 11, 12]) (kq [0, 65]) 113 [0 ≤ x ∧ x < ((b.f_Areas.length : Nat) : Int), 0 < 1] ⟨c, o1, trivial⟩ ?_
      refine Runs.sA 1 [.code (C_9 7474), .code (C_9 7475), .inBlock 1, .code (C_9 935), .inLoop (C_9 116), .inBlock 0, .code (C_9 15)] ?_
      refine Runs.sR hE ⟨[(1, (aI level)), (2, (.op 0 0 0)), (5, (aI sum)), (6, (aI x)), (7, (.op 65 0 0)), (8, (aI level)), (10, (encL Tapi_Area.cells Tapi_Area.d b.f_Areas)), (11, (aI ((b.f_Areas.length : Nat) : Int))), (12, (aI x))], [(0, vO 3 (Tapi_Basin.cells b)), (65, vO 2 (Tapi_Area.cells (b.f_Areas.getD ((x).toNat) Tapi_Area.d)))], 145⟩ (C_9 7474) [] [] (kp [1, 2, 5, 6, 7, 8, 10, 11, 12]) (kq [0, 65]) 145 [] trivial ?_
      refine Runs.sA 2 [.code (C_9 29900), .code (C_9 29901), .code (C_9 14951), .inBlock 1, .code (C_9 935), .inLoop (C_9 116), .inBlock 0, .code (C_9 15)] ?_
      refine Runs.sR hE ⟨[(1, (aI level)), (2, (.op 0 0 0)), (5, (aI sum)), (6, (aI x)), (7, (.op 65 0 0)), (8, (aI level)), (10, (encL Tapi_Area.cells Tapi_Area.d b.f_Areas)), (11, (aI ((b.f_Areas.length : Nat) : Int))), (12, (aI x)), (23, (aB (decide ((w64 (x + 1)) < ((b.f_Areas.length : Nat) : Int)))))], [(0, vO 3 (Tapi_Basin.cells b)), (65, vO 2 (Tapi_Area.cells (b.f_Areas.getD ((x).toNat) Tapi_Area.d)))], 241⟩ (C_9 29900) [] [] (kp [1, 2, 5, 6, 7, 8, 10, 11, 12, 23]) (kq [0, 65]) 241 [0 < 1] ⟨o1, trivial⟩ ?_
      refine Runs.sC 23 (C_9 59802) (C_9 59803) (decide ((w64 (x + 1)) < ((b.f_Areas.length : Nat) : Int))) (fun hq3 => ?_) (fun hq3 => ?_)
      · have h := condT h hq3
        obtain ⟨c2, h⟩ := ifSome h
        refine Runs.sR hE ⟨[(1, (aI level)), (2, (.op 0 0 0)), (5, (aI sum)), (7, (.op 65 0 0)), (8, (aI (if (b.f_Areas.getD ((w64 (x + 1)).toNat) Tapi_Area.d).f_From < level then (b.f_Areas.getD ((w64 (x + 1)).toNat) Tapi_Area.d).f_From else level))), (10, (encL Tapi_Area.cells Tapi_Area.d b.f_Areas)), (11, (aI ((b.f_Areas.length : Nat) : Int))), (12, (aI x))], [(0, vO 3 (Tapi_Basin.cells b)), (65, vO 2 (Tapi_Area.cells (b.f_Areas.getD ((x).toNat) Tapi_Area.d)))], 401⟩ (C_9 59802) [] [] (kp [1, 2, 5, 7, 8, 10, 11, 12]) (kq [0, 65]) 401 [0 < 1, 0 ≤ (w64 (x + 1)) ∧ (w64 (x + 1)) < ((b.f_Areas.length : Nat) : Int)] ⟨o1, c2, trivial⟩ ?_
        exact Runs.sW hE _ [] (kp [1, 2, 5, 7, 8, 10, 11, 12]) (kq [0] ++ [(1, .keep 65)]) 2 [] trivial (g_water_volume_J2_ok N b level sum x (g_water_volume_L1 N b level fuel) ih (if (b.f_Areas.getD ((w64 (x + 1)).toNat) Tapi_Area.d).f_From < level then (b.f_Areas.getD ((w64 (x + 1)).toNat) Tapi_Area.d).f_From else level) _ h E hE)
      · have h := condF h hq3
        refine Runs.sA 1 [.code (C_9 14951), .inBlock 1, .code (C_9 935), .inLoop (C_9 116), .inBlock 0, .code (C_9 15)] ?_
        exact Runs.sW hE _ [] (kp [1, 2, 5, 7, 8, 10, 11, 12]) (kq [0] ++ [(1, .keep 65)]) 2 [] trivial (g_water_volume_J2_ok N b level sum x (g_water_volume_L1 N b level fuel) ih level _ h E hE)
    · have h := condF h hq2
      refine Runs.sA 2 [.code (C_9 30), .code (C_9 31)] ?_
      refine Runs.sR hE ⟨[(4, (aI sum))], [], 49⟩ (C_9 30) [] [] (kp [4]) [] 49 [] trivial ?_
      obtain rfl := Option.some.inj h
      refine Runs.sW hE ⟨[(4, (aI sum))], [], 49⟩ [] (kp [4]) [] 49 [] trivial ?_
      exact Runs.sT Try.f61 [] [] trivial

theorem g_water_volume_ok (N : Nat) (b : Tapi_Basin) (level : Int) (r : Int) (h : g_water_volume N b level = some r) : Sound Try.prog 61 [(.agg (Tapi_Basin.cells b)), (aI level)] [] 0 (aI r) [] := by
  unfold g_water_volume at h
  refine Sound.of_runs (fu := Try.f61) (c := C_9 1) (nt := 45) (by kernel_rfl) (by kernel_rfl) (by kernel_rfl) (by kernel_rfl) (fun hm => rfl) ?_
  intro E hE
  refine Runs.sA 1 [.code (C_9 2), .code (C_9 3)] ?_
  refine Runs.sR hE ⟨[(1, (aI level)), (2, (.op 0 0 0))], [(0, vO 3 (Tapi_Basin.cells b))], 32⟩ (C_9 2) [] [] (kp [1, 2]) (kq [0]) 32 [] trivial ?_
  refine Runs.sA 1 [.code (C_9 6), .code (C_9 7)] ?_
  refine Runs.sR hE ⟨[(1, (aI level)), (2, (.op 0 0 0)), (5, (aI 0))], [(0, vO 3 (Tapi_Basin.cells b))], 48⟩ (C_9 6) [] [] (kp [1, 2, 5]) (kq [0]) 48 [] trivial ?_
  refine Runs.sA 2 [.code (C_9 28), .code (C_9 29), .code (C_9 15)] ?_
  refine Runs.sR hE ⟨[(1, (aI level)), (2, (.op 0 0 0)), (5, (aI 0)), (10, (encL Tapi_Area.cells Tapi_Area.d b.f_Areas)), (11, (aI ((b.f_Areas.length : Nat) : Int))), (12, (aI 0))], [(0, vO 3 (Tapi_Basin.cells b))], 112⟩ (C_9 28) [] [] (kp [1, 2, 5, 10, 11, 12]) (kq [0]) 112 [0 < 1] ⟨o1, trivial⟩ ?_
  refine Runs.sA 2 [.code (C_9 116), .inLoop (C_9 116), .inBlock 0, .code (C_9 15)] ?_
  exact Runs.sW hE _ [] (kp [1, 2, 5, 10, 11, 12]) (kq [0]) 1 [] trivial (g_water_volume_L1_ok N b level N 0 0 _ h E hE)

noncomputable def C_3 (n : Nat) : Code := cat (bodyOf Try.f14) (pth n)

theorem g_water_Volume_ok (N : Nat) (b : Tapi_Basin) (level : Int) (r : Int × Int) (h : g_water_Volume N b level = some r) : Sound Try.prog 14 [(.agg (Tapi_Basin.cells b)), (aI level)] [] 0 (.tup [(aI r.1), (aI r.2)]) [] := by
  unfold g_water_Volume at h
  refine Sound.of_runs (fu := Try.f14) (c := C_3 1) (nt := 22) (by kernel_rfl) (by kernel_rfl) (by kernel_rfl) (by kernel_rfl) (fun hm => rfl) ?_
  intro E hE
  refine Runs.sA 1 [.code (C_3 2), .code (C_3 3)] ?_
  refine Runs.sR hE ⟨[(1, (aI level)), (2, (.op 0 0 0))], [(0, vO 3 (Tapi_Basin.cells b))], 48⟩ (C_3 2) [] [] (kp [1, 2]) (kq [0]) 48 [] trivial ?_
  refine Runs.sA 2 [.code (C_3 12), .code (C_3 13), .code (C_3 7)] ?_
  obtain ⟨rCheckBasin, hr, h⟩ := bindSome h
  refine Runs.sR hE ⟨[(1, (aI level)), (2, (.op 0 0 0)), (6, (aI rCheckBasin))], [(0, vO 3 (Tapi_Basin.cells b))], 96⟩ (C_3 12) [(1, ⟨[], true, (aI rCheckBasin), [], 0, false⟩)] [] (kp [1, 2, 6]) (kq [0]) 96 [0 < 1, Sound Try.prog 18 [(.agg (Tapi_Basin.cells b))] [] 0 (aI rCheckBasin) []] ⟨o1, (g_water_CheckBasin_ok N b rCheckBasin hr), trivial⟩ ?_
  refine Runs.sA 1 [.code (C_3 26), .code (C_3 27), .code (C_3 7)] ?_
  refine Runs.sR hE ⟨[(1, (aI level)), (2, (.op 0 0 0)), (6, (aI rCheckBasin)), (10, (aB (rCheckBasin != 0)))], [(0, vO 3 (Tapi_Basin.cells b))], 128⟩ (C_3 26) [] [] (kp [1, 2, 6, 10]) (kq [0]) 128 [] trivial ?_
  refine Runs.sC 10 (C_3 54) (C_3 55) (rCheckBasin != 0) (fun hq2 => ?_) (fun hq2 => ?_)
  · have h := condT h hq2
    refine Runs.sA 1 [.code (C_3 108), .code (C_3 109), .code (C_3 7)] ?_
    refine Runs.sR hE ⟨[(4, (aI 0)), (5, (aI rCheckBasin))], [], 176⟩ (C_3 108) [] [] (kp [4, 5]) [] 176 [] trivial ?_
    obtain rfl := Option.some.inj h
    refine Runs.sW hE ⟨[(4, (aI 0)), (5, (aI rCheckBasin))], [], 176⟩ [] (kp [4, 5]) [] 176 [] trivial ?_
    exact Runs.sT Try.f14 [] [] trivial
  · have h := condF h hq2
    refine Runs.sA 3 [.code (C_3 28), .code (C_3 29), .code (C_3 15)] ?_
    obtain ⟨rfloor, hr2, h⟩ := bindSome h
    obtain ⟨rbetween, hr3, h⟩ := bindSome h
    refine Runs.sR hE ⟨[(1, (aI level)), (2, (.op 0 0 0)), (18, (aB (!rbetween)))], [(0, vO 3 (Tapi_Basin.cells b))], 240⟩ (C_3 28) [(2, ⟨[], true, (aI rfloor), [], 0, false⟩), (5, ⟨[], true, (aB rbetween), [], 0, false⟩)] [] (kp [1, 2, 18]) (kq [0]) 240 [0 < 1, Sound Try.prog 60 [(.agg (Tapi_Basin.cells b))] [] 0 (aI rfloor) [], 0 < 1, Sound Try.prog 59 [(aI level), (aI rfloor), (aI b.f_Rim)] [] 0 (aB rbetween) []] ⟨o1, (g_water_floor_ok N b rfloor hr2), o1, (g_water_between_ok N level rfloor b.f_Rim rbetween hr3), trivial⟩ ?_
    refine Runs.sC 18 (C_3 58) (C_3 59) (!rbetween) (fun hq3 => ?_) (fun hq3 => ?_)
    · have h := condT h hq3
      refine Runs.sA 1 [.code (C_3 116), .code (C_3 117), .code (C_3 15)] ?_
      refine Runs.sR hE ⟨[(4, (aI 0)), (5, (aI 2))], [], 272⟩ (C_3 116) [] [] (kp [4, 5]) [] 272 [] trivial ?_
      obtain rfl := Option.some.inj h
      refine Runs.sW hE ⟨[(4, (aI 0)), (5, (aI 2))], [], 272⟩ [] (kp [4, 5]) [] 272 [] trivial ?_
      exact Runs.sT Try.f14 [] [] trivial
    · have h := condF h hq3
      refine Runs.sA 2 [.code (C_3 30), .code (C_3 31)] ?_
      obtain ⟨rvolume, hr4, h⟩ := bindSome h
      refine Runs.sR hE ⟨[(4, (aI rvolume)), (5, (aI 0))], [], 320⟩ (C_3 30) [(2, ⟨[], true, (aI rvolume), [], 0, false⟩)] [] (kp [4, 5]) [] 320 [0 < 1, Sound Try.prog 61 [(.agg (Tapi_Basin.cells b)), (aI level)] [] 0 (aI rvolume) []] ⟨o1, (g_water_volume_ok N b level rvolume hr4), trivial⟩ ?_
      obtain rfl := Option.some.inj h
      refine Runs.sW hE ⟨[(4, (aI rvolume)), (5, (aI 0))], [], 320⟩ [] (kp [4, 5]) [] 320 [] trivial ?_
      exact Runs.sT Try.f14 [] [] trivial

noncomputable def C_11 (n : Nat) : Code := cat (bodyOf Try.f65) (pth n)

theorem g_water_levelOf_J2_ok (N : Nat) (b : Tapi_Basin) (litres2 : Int) (x : Int) (K_g_water_levelOf_L1 : Int → Int → Int → Option (Int))
    (hK_g_water_levelOf_L1 : ∀ (litres2 : Int) (level : Int) (x : Int) (r : Int), K_g_water_levelOf_L1 litres2 level x = some r → ∀ E, EnvOk E 0 → Runs Try.prog E 65 58 (SPost E [] (aI r)) [.code (C_11 116), .inLoop (C_11 116), .inBlock 0, .code (C_11 15)] ⟨[(1, (aI litres2)), (2, (.op 0 0 0)), (5, (aI level)), (13, (encL Tapi_Area.cells Tapi_Area.d b.f_Areas)), (14, (aI ((b.f_Areas.length : Nat) : Int))), (15, (aI x))], [(0, vO 3 (Tapi_Basin.cells b))], 1⟩) (top : Int) (r : Int) (h : g_water_levelOf_J2 N b litres2 x K_g_water_levelOf_L1 top = some r) : ∀ E, EnvOk E 0 → Runs Try.prog E 65 58 (SPost E [] (aI r)) [.code (C_11 29902), .code (C_11 29903), .inBlock 1, .code (C_11 935), .inLoop (C_11 116), .inBlock 0, .code (C_11 15)] ⟨[(1, (aI litres2)), (2, (.op 0 0 0)), (7, (.op 1 0 0)), (8, (aI top)), (13, (encL Tapi_Area.cells Tapi_Area.d b.f_Areas)), (14, (aI ((b.f_Areas.length : Nat) : Int))), (15, (aI x))], [(0, vO 3 (Tapi_Basin.cells b)), (1, vO 2 (Tapi_Area.cells (b.f_Areas.getD ((x).toNat) Tapi_Area.d)))], 2⟩ := by
  intro E hE
  unfold g_water_levelOf_J2 at h
  refine Runs.sR hE ⟨[(1, (aI litres2)), (2, (.op 0 0 0)), (7, (.op 1 0 0)), (8, (aI top)), (9, (aI (w64 ((b.f_Areas.getD ((x).toNat) Tapi_Area.d).f_Size * (w64 (top - (b.f_Areas.getD ((x).toNat) Tapi_Area.d).f_From)))))), (13, (encL Tapi_Area.cells Tapi_Area.d b.f_Areas)), (14, (aI ((b.f_Areas.length : Nat) : Int))), (15, (aI x))], [(0, vO 3 (Tapi_Basin.cells b)), (1, vO 2 (Tapi_Area.cells (b.f_Areas.getD ((x).toNat) Tapi_Area.d)))], 130⟩ (C_11 29902) [] [] (kp [1, 2, 7, 8, 9, 13, 14, 15]) (kq [0, 1]) 130 [0 < 1, 0 < 1] ⟨o1, o1, trivial⟩ ?_
  refine Runs.sA 2 [.code (C_11 119612), .code (C_11 119613), .code (C_11 59807), .inBlock 1, .code (C_11 935), .inLoop (C_11 116), .inBlock 0, .code (C_11 15)] ?_
  refine Runs.sR hE ⟨[(1, (aI litres2)), (2, (.op 0 0 0)), (7, (.op 1 0 0)), (8, (aI top)), (9, (aI (w64 ((b.f_Areas.getD ((x).toNat) Tapi_Area.d).f_Size * (w64 (top - (b.f_Areas.getD ((x).toNat) Tapi_Area.d).f_From)))))), (13, (encL Tapi_Area.cells Tapi_Area.d b.f_Areas)), (14, (aI ((b.f_Areas.length : Nat) : Int))), (15, (aI x)), (44, (aB (decide (litres2 < (w64 ((b.f_Areas.getD ((x).toNat) Tapi_Area.d).f_Size * (w64 (top - (b.f_Areas.getD ((x).toNat) Tapi_Area.d).f_From))))))))], [(0, vO 3 (Tapi_Basin.cells b)), (1, vO 2 (Tapi_Area.cells (b.f_Areas.getD ((x).toNat) Tapi_Area.d)))], 178⟩ (C_11 119612) [] [] (kp [1, 2, 7, 8, 9, 13, 14, 15, 44]) (kq [0, 1]) 178 [] trivial ?_
  refine Runs.sC 44 (C_11 239226) (C_11 239227) (decide (litres2 < (w64 ((b.f_Areas.getD ((x).toNat) Tapi_Area.d).f_Size * (w64 (top - (b.f_Areas.getD ((x).toNat) Tapi_Area.d).f_From)))))) (fun hq4 => ?_) (fun hq4 => ?_)
  · have h := condT h hq4
    refine Runs.sA 1 [.code (C_11 478452), .code (C_11 478453), .code (C_11 59807), .inBlock 1, .code (C_11 935), .inLoop (C_11 116), .inBlock 0, .code (C_11 15)] ?_
    obtain ⟨c3, h⟩ := ifSome h
    refine Runs.sR hE ⟨[(4, (aI (w64 ((b.f_Areas.getD ((x).toNat) Tapi_Area.d).f_From + (w64 (litres2.tdiv ((b.f_Areas.getD ((x).toNat) Tapi_Area.d).f_Size)))))))], [], 306⟩ (C_11 478452) [] [] (kp [4]) [] 306 [0 < 1, 0 < 1, ((b.f_Areas.getD ((x).toNat) Tapi_Area.d).f_Size : Int) ≠ 0] ⟨o1, o1, c3, trivial⟩ ?_
    obtain rfl := Option.some.inj h
    refine Runs.sW hE ⟨[(4, (aI (w64 ((b.f_Areas.getD ((x).toNat) Tapi_Area.d).f_From + (w64 (litres2.tdiv ((b.f_Areas.getD ((x).toNat) Tapi_Area.d).f_Size)))))))], [], 306⟩ [] (kp [4]) [] 306 [] trivial ?_
    exact Runs.sT Try.f65 [] [] trivial
  · have h := condF h hq4
    refine Runs.sA 2 [.code (C_11 119614), .code (C_11 119615), .inBlock 1, .code (C_11 935), .inLoop (C_11 116), .inBlock 0, .code (C_11 15)] ?_
    refine Runs.sR hE ⟨[(1, (aI (w64 (litres2 - (w64 ((b.f_Areas.getD ((x).toNat) Tapi_Area.d).f_Size * (w64 (top - (b.f_Areas.getD ((x).toNat) Tapi_Area.d).f_From)))))))), (2, (.op 0 0 0)), (8, (aI top)), (13, (encL Tapi_Area.cells Tapi_Area.d b.f_Areas)), (14, (aI ((b.f_Areas.length : Nat) : Int))), (15, (aI x))], [(0, vO 3 (Tapi_Basin.cells b))], 242⟩ (C_11 119614) [] [] (kp [1, 2, 8, 13, 14, 15]) (kq [0]) 242 [] trivial ?_
    refine Runs.sR hE ⟨[(1, (aI (w64 (litres2 - (w64 ((b.f_Areas.getD ((x).toNat) Tapi_Area.d).f_Size * (w64 (top - (b.f_Areas.getD ((x).toNat) Tapi_Area.d).f_From)))))))), (2, (.op 0 0 0)), (5, (aI top)), (13, (encL Tapi_Area.cells Tapi_Area.d b.f_Areas)), (14, (aI ((b.f_Areas.length : Nat) : Int))), (15, (aI x))], [(0, vO 3 (Tapi_Basin.cells b))], 274⟩ (C_11 119615) [] [] (kp [1, 2, 5, 13, 14, 15]) (kq [0]) 274 [] trivial ?_
    refine Runs.sA 1 [.code (C_11 935), .inLoop (C_11 116), .inBlock 0, .code (C_11 15)] ?_
    refine Runs.sR hE ⟨[(1, (aI (w64 (litres2 - (w64 ((b.f_Areas.getD ((x).toNat) Tapi_Area.d).f_Size * (w64 (top - (b.f_Areas.getD ((x).toNat) Tapi_Area.d).f_From)))))))), (2, (.op 0 0 0)), (5, (aI top)), (13, (encL Tapi_Area.cells Tapi_Area.d b.f_Areas)), (14, (aI ((b.f_Areas.length : Nat) : Int))), (15, (aI (w64 (x + 1))))], [(0, vO 3 (Tapi_Basin.cells b))], 306⟩ (C_11 935) [] [] (kp [1, 2, 5, 13, 14, 15]) (kq [0]) 306 [] trivial ?_
    refine Runs.sA 1 [.code (C_11 116), .inLoop (C_11 116), .inBlock 0, .code (C_11 15)] ?_
    exact Runs.sW hE _ [] (kp [1, 2, 5, 13, 14, 15]) (kq [0]) 1 [] trivial (hK_g_water_levelOf_L1 (w64 (litres2 - (w64 ((b.f_Areas.getD ((x).toNat) Tapi_Area.d).f_Size * (w64 (top - (b.f_Areas.getD ((x).toNat) Tapi_Area.d).f_From)))))) top (w64 (x + 1)) _ h E hE)

theorem g_water_levelOf_L1_ok (N : Nat) (b : Tapi_Basin) (fuel : Nat) : ∀ (litres2 : Int) (level : Int) (x : Int) (r : Int), g_water_levelOf_L1 N b fuel litres2 level x = some r → ∀ E, EnvOk E 0 → Runs Try.prog E 65 58 (SPost E [] (aI r)) [.code (C_11 116), .inLoop (C_11 116), .inBlock 0, .code (C_11 15)] ⟨[(1, (aI litres2)), (2, (.op 0 0 0)), (5, (aI level)), (13, (encL Tapi_Area.cells Tapi_Area.d b.f_Areas)), (14, (aI ((b.f_Areas.length : Nat) : Int))), (15, (aI x))], [(0, vO 3 (Tapi_Basin.cells b))], 1⟩ := by
  induction fuel with
  | zero => intro _ _ _ r h; rw [g_water_levelOf_L1.eq_1] at h; cases h
  | succ fuel ih =>
    intro litres2 level x r h E hE
    rw [g_water_levelOf_L1.eq_2] at h
    refine Runs.sA 1 [.code (C_11 232), .code (C_11 233), .inLoop (C_11 116), .inBlock 0, .code (C_11 15)] ?_
    refine Runs.sR hE ⟨[(1, (aI litres2)), (2, (.op 0 0 0)), (5, (aI level)), (13, (encL Tapi_Area.cells Tapi_Area.d b.f_Areas)), (14, (aI ((b.f_Areas.length : Nat) : Int))), (15, (aI x)), (16, (aB (decide (x < ((b.f_Areas.length : Nat) : Int)))))], [(0, vO 3 (Tapi_Basin.cells b))], 17⟩ (C_11 232) [] [] (kp [1, 2, 5, 13, 14, 15, 16]) (kq [0]) 17 [] trivial ?_
    refine Runs.sA 1 [.code (C_11 466), .code (C_11 467), .inLoop (C_11 116), .inBlock 0, .code (C_11 15)] ?_
    refine Runs.sC 16 (C_11 932) (C_11 933) (decide (x < ((b.f_Areas.length : Nat) : Int))) (fun hq2 => ?_) (fun hq2 => ?_)
    · have h := condT h hq2
      refine Runs.sA 4 [.code (C_11 3736), .code (C_11 3737), .inBlock 1, .code (C_11 935), .inLoop (C_11 116), .inBlock 0, .code (C_11 15)] ?_
      obtain ⟨c, h⟩ := ifSome h
      refine Runs.sR hE ⟨[(1, (aI litres2)), (2, (.op 0 0 0)), (6, (aI x)), (7, (.op 65 0 0)), (13, (encL Tapi_Area.cells Tapi_Area.d b.f_Areas)), (14, (aI ((b.f_Areas.length : Nat) : Int))), (15, (aI x))], [(0, vO 3 (Tapi_Basin.cells b)), (65, vO 2 (Tapi_Area.cells (b.f_Areas.getD ((x).toNat) Tapi_Area.d)))], 113⟩ (C_11 3736) [] [] (kp [1, 2, 6, 7, 13, 14, 15]) (kq [0, 65]) 113 [0 ≤ x ∧ x < ((b.f_Areas.length : Nat) : Int), 0 < 1] ⟨c, o1, trivial⟩ ?_
      refine Runs.sA 1 [.code (C_11 7474), .code (C_11 7475), .inBlock 1, .code (C_11 935), .inLoop (C_11 116), .inBlock 0, .code (C_11 15)] ?_
      refine Runs.sR hE ⟨[(1, (aI litres2)), (2, (.op 0 0 0)), (6, (aI x)), (7, (.op 65 0 0)), (8, (aI b.f_Rim)), (13, (encL Tapi_Area.cells Tapi_Area.d b.f_Areas)), (14, (aI ((b.f_Areas.length : Nat) : Int))), (15, (aI x))], [(0, vO 3 (Tapi_Basin.cells b)), (65, vO 2 (Tapi_Area.cells (b.f_Areas.getD ((x).toNat) Tapi_Area.d)))], 161⟩ (C_11 7474) [] [] (kp [1, 2, 6, 7, 8, 13, 14, 15]) (kq [0, 65]) 161 [0 < 1] ⟨o1, trivial⟩ ?_
      refine Runs.sA 2 [.code (C_11 29900), .code (C_11 29901), .code (C_11 14951), .inBlock 1, .code (C_11 935), .inLoop (C_11 116), .inBlock 0, .code (C_11 15)] ?_
      refine Runs.sR hE ⟨[(1, (aI litres2)), (2, (.op 0 0 0)), (6, (aI x)), (7, (.op 65 0 0)), (8, (aI b.f_Rim)), (13, (encL Tapi_Area.cells Tapi_Area.d b.f_Areas)), (14, (aI ((b.f_Areas.length : Nat) : Int))), (15, (aI x)), (27, (aB (decide ((w64 (x + 1)) < ((b.f_Areas.length : Nat) : Int)))))], [(0, vO 3 (Tapi_Basin.cells b)), (65, vO 2 (Tapi_Area.cells (b.f_Areas.getD ((x).toNat) Tapi_Area.d)))], 257⟩ (C_11 29900) [] [] (kp [1, 2, 6, 7, 8, 13, 14, 15, 27]) (kq [0, 65]) 257 [0 < 1] ⟨o1, trivial⟩ ?_
      refine Runs.sC 27 (C_11 59802) (C_11 59803) (decide ((w64 (x + 1)) < ((b.f_Areas.length : Nat) : Int))) (fun hq3 => ?_) (fun hq3 => ?_)
      · have h := condT h hq3
        obtain ⟨c2, h⟩ := ifSome h
        refine Runs.sR hE ⟨[(1, (aI litres2)), (2, (.op 0 0 0)), (7, (.op 65 0 0)), (8, (aI ((b.f_Areas.getD ((w64 (x + 1)).toNat) Tapi_Area.d).f_From))), (13, (encL Tapi_Area.cells Tapi_Area.d b.f_Areas)), (14, (aI ((b.f_Areas.length : Nat) : Int))), (15, (aI x))], [(0, vO 3 (Tapi_Basin.cells b)), (65, vO 2 (Tapi_Area.cells (b.f_Areas.getD ((x).toNat) Tapi_Area.d)))], 385⟩ (C_11 59802) [] [] (kp [1, 2, 7, 8, 13, 14, 15]) (kq [0, 65]) 385 [0 < 1, 0 ≤ (w64 (x + 1)) ∧ (w64 (x + 1)) < ((b.f_Areas.length : Nat) : Int)] ⟨o1, c2, trivial⟩ ?_
        refine Runs.sA 1 [.code (C_11 29902), .code (C_11 29903), .inBlock 1, .code (C_11 935), .inLoop (C_11 116), .inBlock 0, .code (C_11 15)] ?_
        exact Runs.sW hE _ [] (kp [1, 2, 7, 8, 13, 14, 15]) (kq [0] ++ [(1, .keep 65)]) 2 [] trivial (g_water_levelOf_J2_ok N b litres2 x (g_water_levelOf_L1 N b fuel) ih ((b.f_Areas.getD ((w64 (x + 1)).toNat) Tapi_Area.d).f_From) _ h E hE)
      · have h := condF h hq3
        refine Runs.sA 2 [.code (C_11 29902), .code (C_11 29903), .inBlock 1, .code (C_11 935), .inLoop (C_11 116), .inBlock 0, .code (C_11 15)] ?_
        exact Runs.sW hE _ [] (kp [1, 2, 7, 8, 13, 14, 15]) (kq [0] ++ [(1, .keep 65)]) 2 [] trivial (g_water_levelOf_J2_ok N b litres2 x (g_water_levelOf_L1 N b fuel) ih b.f_Rim _ h E hE)
    · have h := condF h hq2
      refine Runs.sA 2 [.code (C_11 30), .code (C_11 31)] ?_
      refine Runs.sR hE ⟨[(4, (aI level))], [], 49⟩ (C_11 30) [] [] (kp [4]) [] 49 [] trivial ?_
      obtain rfl := Option.some.inj h
      refine Runs.sW hE ⟨[(4, (aI level))], [], 49⟩ [] (kp [4]) [] 49 [] trivial ?_
      exact Runs.sT Try.f65 [] [] trivial

theorem g_water_levelOf_ok (N : Nat) (b : Tapi_Basin) (litres : Int) (r : Int) (h : g_water_levelOf N b litres = some r) : Sound Try.prog 65 [(.agg (Tapi_Basin.cells b)), (aI litres)] [] 0 (aI r) [] := by
  unfold g_water_levelOf at h
  refine Sound.of_runs (fu := Try.f65) (c := C_11 1) (nt := 58) (by kernel_rfl) (by kernel_rfl) (by kernel_rfl) (by kernel_rfl) (fun hm => rfl) ?_
  intro E hE
  refine Runs.sA 1 [.code (C_11 2), .code (C_11 3)] ?_
  refine Runs.sR hE ⟨[(1, (aI litres)), (2, (.op 0 0 0))], [(0, vO 3 (Tapi_Basin.cells b))], 32⟩ (C_11 2) [] [] (kp [1, 2]) (kq [0]) 32 [] trivial ?_
  refine Runs.sA 1 [.code (C_11 6), .code (C_11 7)] ?_
  obtain ⟨rfloor, hr, h⟩ := bindSome h
  refine Runs.sR hE ⟨[(1, (aI litres)), (2, (.op 0 0 0)), (5, (aI rfloor))], [(0, vO 3 (Tapi_Basin.cells b))], 80⟩ (C_11 6) [(1, ⟨[], true, (aI rfloor), [], 0, false⟩)] [] (kp [1, 2, 5]) (kq [0]) 80 [0 < 1, Sound Try.prog 60 [(.agg (Tapi_Basin.cells b))] [] 0 (aI rfloor) []] ⟨o1, (g_water_floor_ok N b rfloor hr), trivial⟩ ?_
  refine Runs.sA 2 [.code (C_11 28), .code (C_11 29), .code (C_11 15)] ?_
  refine Runs.sR hE ⟨[(1, (aI litres)), (2, (.op 0 0 0)), (5, (aI rfloor)), (13, (encL Tapi_Area.cells Tapi_Area.d b.f_Areas)), (14, (aI ((b.f_Areas.length : Nat) : Int))), (15, (aI 0))], [(0, vO 3 (Tapi_Basin.cells b))], 144⟩ (C_11 28) [] [] (kp [1, 2, 5, 13, 14, 15]) (kq [0]) 144 [0 < 1] ⟨o1, trivial⟩ ?_
  refine Runs.sA 2 [.code (C_11 116), .inLoop (C_11 116), .inBlock 0, .code (C_11 15)] ?_
  exact Runs.sW hE _ [] (kp [1, 2, 5, 13, 14, 15]) (kq [0]) 1 [] trivial (g_water_levelOf_L1_ok N b N litres rfloor 0 _ h E hE)

noncomputable def C_14 (n : Nat) : Code := cat (bodyOf Try.f69) (pth n)

theorem g_keelblockbase_IsName_L1_ok (N : Nat) (s : ByteArray) (fuel : Nat) : ∀ (i : Int) (r : Bool), g_keelblockbase_IsName_L1 N s fuel i = some r → ∀ E, EnvOk E 0 → Runs Try.prog E 69 55 (SPost E [] (aB r)) [.code (C_14 116), .inLoop (C_14 116), .inBlock 0, .code (C_14 15)] ⟨[(0, (aS s)), (3, (aI i))], [], 0⟩ := by
  induction fuel with
  | zero => intro _ r h; rw [g_keelblockbase_IsName_L1.eq_1] at h; cases h
  | succ fuel ih =>
    intro i r h E hE
    rw [g_keelblockbase_IsName_L1.eq_2] at h
    refine Runs.sA 2 [.code (C_14 464), .code (C_14 465), .code (C_14 233), .inLoop (C_14 116), .inBlock 0, .code (C_14 15)] ?_
    refine Runs.sR hE ⟨[(0, (aS s)), (3, (aI i)), (17, (aB (decide (i < ((s.size : Nat) : Int)))))], [], 64⟩ (C_14 464) [] [] (kp [0, 3, 17]) [] 64 [] trivial ?_
    refine Runs.sC 17 (C_14 930) (C_14 931) (decide (i < ((s.size : Nat) : Int))) (fun hq3 => ?_) (fun hq3 => ?_)
    · have h := condT h hq3
      refine Runs.sA 4 [.code (C_14 1864), .code (C_14 1865), .inBlock 1, .code (C_14 467), .inLoop (C_14 116), .inBlock 0, .code (C_14 15)] ?_
      obtain ⟨c, h⟩ := ifSome h
      refine Runs.sR hE ⟨[(0, (aS s)), (3, (aI i)), (4, (.atom (.int .u8 (byteAt s ((i).toNat)))))], [], 128⟩ (C_14 1864) [] [] (kp [0, 3, 4]) [] 128 [0 ≤ i ∧ i < ((s.size : Nat) : Int)] ⟨c, trivial⟩ ?_
      refine Runs.sA 1 [.code (C_14 3730), .code (C_14 3731), .inBlock 1, .code (C_14 467), .inLoop (C_14 116), .inBlock 0, .code (C_14 15)] ?_
      refine Runs.sR hE ⟨[(0, (aS s)), (3, (aI i)), (4, (.atom (.int .u8 (byteAt s ((i).toNat))))), (5, (aB (cond (cond (decide ((byteAt s ((i).toNat)) ≥ 97)) (decide ((byteAt s ((i).toNat)) ≤ 122)) false) true (cond (decide ((byteAt s ((i).toNat)) ≥ 65)) (decide ((byteAt s ((i).toNat)) ≤ 90)) false))))], [], 368⟩ (C_14 3730) [] [] (kp [0, 3, 4, 5]) [] 368 [(decide ((byteAt s ((i).toNat)) ≥ 97)) = true → AllP [(decide ((byteAt s ((i).toNat)) ≥ 97)) = true], (decide ((byteAt s ((i).toNat)) ≥ 97)) = true → AllP [(decide ((byteAt s ((i).toNat)) ≥ 97)) = true], (!(cond (decide ((byteAt s ((i).toNat)) ≥ 97)) (decide ((byteAt s ((i).toNat)) ≤ 122)) false)) = true → AllP [(!(cond (decide ((byteAt s ((i).toNat)) ≥ 97)) (decide ((byteAt s ((i).toNat)) ≤ 122)) false)) = true], ((!(cond (decide ((byteAt s ((i).toNat)) ≥ 97)) (decide ((byteAt s ((i).toNat)) ≤ 122)) false)) && ((!(cond (decide ((byteAt s ((i).toNat)) ≥ 97)) (decide ((byteAt s ((i).toNat)) ≤ 122)) false)) && (decide ((byteAt s ((i).toNat)) ≥ 65)))) = true → AllP [((!(cond (decide ((byteAt s ((i).toNat)) ≥ 97)) (decide ((byteAt s ((i).toNat)) ≤ 122)) false)) && ((!(cond (decide ((byteAt s ((i).toNat)) ≥ 97)) (decide ((byteAt s ((i).toNat)) ≤ 122)) false)) && (decide ((byteAt s ((i).toNat)) ≥ 65)))) = true], (!(cond (decide ((byteAt s ((i).toNat)) ≥ 97)) (decide ((byteAt s ((i).toNat)) ≤ 122)) false)) = true → AllP [(!(cond (decide ((byteAt s ((i).toNat)) ≥ 97)) (decide ((byteAt s ((i).toNat)) ≤ 122)) false)) = true, (!(cond (decide ((byteAt s ((i).toNat)) ≥ 97)) (decide ((byteAt s ((i).toNat)) ≤ 122)) false)) = true, (decide ((byteAt s ((i).toNat)) ≥ 65)) = true → AllP [((!(cond (decide ((byteAt s ((i).toNat)) ≥ 97)) (decide ((byteAt s ((i).toNat)) ≤ 122)) false)) && ((!(cond (decide ((byteAt s ((i).toNat)) ≥ 97)) (decide ((byteAt s ((i).toNat)) ≤ 122)) false)) && (decide ((byteAt s ((i).toNat)) ≥ 65)))) = true]], (!(cond (decide ((byteAt s ((i).toNat)) ≥ 97)) (decide ((byteAt s ((i).toNat)) ≤ 122)) false)) = true → AllP [(!(cond (decide ((byteAt s ((i).toNat)) ≥ 97)) (decide ((byteAt s ((i).toNat)) ≤ 122)) false)) = true]] ⟨(fun hg => ⟨hg, trivial⟩), (fun hq => ⟨hq, trivial⟩), (fun hg => ⟨hg, trivial⟩), (fun hg => ⟨hg, trivial⟩), (fun hg => ⟨hg, hg, (fun hq => ⟨(andI' hg (andI' hg hq)), trivial⟩), trivial⟩), (fun hq => ⟨hq, trivial⟩), trivial⟩ ?_
      refine Runs.sA 1 [.code (C_14 7462), .code (C_14 7463), .inBlock 1, .code (C_14 467), .inLoop (C_14 116), .inBlock 0, .code (C_14 15)] ?_
      refine Runs.sR hE ⟨[(0, (aS s)), (3, (aI i)), (54, (aB (cond (!(cond (cond (decide ((byteAt s ((i).toNat)) ≥ 97)) (decide ((byteAt s ((i).toNat)) ≤ 122)) false) true (cond (decide ((byteAt s ((i).toNat)) ≥ 65)) (decide ((byteAt s ((i).toNat)) ≤ 90)) false))) (cond (i == 0) true (cond ((byteAt s ((i).toNat)) != 45) (cond (decide ((byteAt s ((i).toNat)) < 48)) true (decide ((byteAt s ((i).toNat)) > 57))) false)) false)))], [], 656⟩ (C_14 7462) [] [] (kp [0, 3, 54]) [] 656 [(!(cond (cond (decide ((byteAt s ((i).toNat)) ≥ 97)) (decide ((byteAt s ((i).toNat)) ≤ 122)) false) true (cond (decide ((byteAt s ((i).toNat)) ≥ 65)) (decide ((byteAt s ((i).toNat)) ≤ 90)) false))) = true → AllP [(!(cond (cond (decide ((byteAt s ((i).toNat)) ≥ 97)) (decide ((byteAt s ((i).toNat)) ≤ 122)) false) true (cond (decide ((byteAt s ((i).toNat)) ≥ 65)) (decide ((byteAt s ((i).toNat)) ≤ 90)) false))) = true], ((!(cond (cond (decide ((byteAt s ((i).toNat)) ≥ 97)) (decide ((byteAt s ((i).toNat)) ≤ 122)) false) true (cond (decide ((byteAt s ((i).toNat)) ≥ 65)) (decide ((byteAt s ((i).toNat)) ≤ 90)) false))) && ((!(cond (cond (decide ((byteAt s ((i).toNat)) ≥ 97)) (decide ((byteAt s ((i).toNat)) ≤ 122)) false) true (cond (decide ((byteAt s ((i).toNat)) ≥ 65)) (decide ((byteAt s ((i).toNat)) ≤ 90)) false))) && (!(i == 0)))) = true → AllP [((!(cond (cond (decide ((byteAt s ((i).toNat)) ≥ 97)) (decide ((byteAt s ((i).toNat)) ≤ 122)) false) true (cond (decide ((byteAt s ((i).toNat)) ≥ 65)) (decide ((byteAt s ((i).toNat)) ≤ 90)) false))) && ((!(cond (cond (decide ((byteAt s ((i).toNat)) ≥ 97)) (decide ((byteAt s ((i).toNat)) ≤ 122)) false) true (cond (decide ((byteAt s ((i).toNat)) ≥ 65)) (decide ((byteAt s ((i).toNat)) ≤ 90)) false))) && (!(i == 0)))) = true], (((!(cond (cond (decide ((byteAt s ((i).toNat)) ≥ 97)) (decide ((byteAt s ((i).toNat)) ≤ 122)) false) true (cond (decide ((byteAt s ((i).toNat)) ≥ 65)) (decide ((byteAt s ((i).toNat)) ≤ 90)) false))) && ((!(cond (cond (decide ((byteAt s ((i).toNat)) ≥ 97)) (decide ((byteAt s ((i).toNat)) ≤ 122)) false) true (cond (decide ((byteAt s ((i).toNat)) ≥ 65)) (decide ((byteAt s ((i).toNat)) ≤ 90)) false))) && (!(i == 0)))) && (((!(cond (cond (decide ((byteAt s ((i).toNat)) ≥ 97)) (decide ((byteAt s ((i).toNat)) ≤ 122)) false) true (cond (decide ((byteAt s ((i).toNat)) ≥ 65)) (decide ((byteAt s ((i).toNat)) ≤ 90)) false))) && ((!(cond (cond (decide ((byteAt s ((i).toNat)) ≥ 97)) (decide ((byteAt s ((i).toNat)) ≤ 122)) false) true (cond (decide ((byteAt s ((i).toNat)) ≥ 65)) (decide ((byteAt s ((i).toNat)) ≤ 90)) false))) && (!(i == 0)))) && ((byteAt s ((i).toNat)) != 45))) = true → AllP [(((!(cond (cond (decide ((byteAt s ((i).toNat)) ≥ 97)) (decide ((byteAt s ((i).toNat)) ≤ 122)) false) true (cond (decide ((byteAt s ((i).toNat)) ≥ 65)) (decide ((byteAt s ((i).toNat)) ≤ 90)) false))) && ((!(cond (cond (decide ((byteAt s ((i).toNat)) ≥ 97)) (decide ((byteAt s ((i).toNat)) ≤ 122)) false) true (cond (decide ((byteAt s ((i).toNat)) ≥ 65)) (decide ((byteAt s ((i).toNat)) ≤ 90)) false))) && (!(i == 0)))) && (((!(cond (cond (decide ((byteAt s ((i).toNat)) ≥ 97)) (decide ((byteAt s ((i).toNat)) ≤ 122)) false) true (cond (decide ((byteAt s ((i).toNat)) ≥ 65)) (decide ((byteAt s ((i).toNat)) ≤ 90)) false))) && ((!(cond (cond (decide ((byteAt s ((i).toNat)) ≥ 97)) (decide ((byteAt s ((i).toNat)) ≤ 122)) false) true (cond (decide ((byteAt s ((i).toNat)) ≥ 65)) (decide ((byteAt s ((i).toNat)) ≤ 90)) false))) && (!(i == 0)))) && ((byteAt s ((i).toNat)) != 45))) = true], ((((!(cond (cond (decide ((byteAt s ((i).toNat)) ≥ 97)) (decide ((byteAt s ((i).toNat)) ≤ 122)) false) true (cond (decide ((byteAt s ((i).toNat)) ≥ 65)) (decide ((byteAt s ((i).toNat)) ≤ 90)) false))) && ((!(cond (cond (decide ((byteAt s ((i).toNat)) ≥ 97)) (decide ((byteAt s ((i).toNat)) ≤ 122)) false) true (cond (decide ((byteAt s ((i).toNat)) ≥ 65)) (decide ((byteAt s ((i).toNat)) ≤ 90)) false))) && (!(i == 0)))) && (((!(cond (cond (decide ((byteAt s ((i).toNat)) ≥ 97)) (decide ((byteAt s ((i).toNat)) ≤ 122)) false) true (cond (decide ((byteAt s ((i).toNat)) ≥ 65)) (decide ((byteAt s ((i).toNat)) ≤ 90)) false))) && ((!(cond (cond (decide ((byteAt s ((i).toNat)) ≥ 97)) (decide ((byteAt s ((i).toNat)) ≤ 122)) false) true (cond (decide ((byteAt s ((i).toNat)) ≥ 65)) (decide ((byteAt s ((i).toNat)) ≤ 90)) false))) && (!(i == 0)))) && ((byteAt s ((i).toNat)) != 45))) && ((((!(cond (cond (decide ((byteAt s ((i).toNat)) ≥ 97)) (decide ((byteAt s ((i).toNat)) ≤ 122)) false) true (cond (decide ((byteAt s ((i).toNat)) ≥ 65)) (decide ((byteAt s ((i).toNat)) ≤ 90)) false))) && ((!(cond (cond (decide ((byteAt s ((i).toNat)) ≥ 97)) (decide ((byteAt s ((i).toNat)) ≤ 122)) false) true (cond (decide ((byteAt s ((i).toNat)) ≥ 65)) (decide ((byteAt s ((i).toNat)) ≤ 90)) false))) && (!(i == 0)))) && (((!(cond (cond (decide ((byteAt s ((i).toNat)) ≥ 97)) (decide ((byteAt s ((i).toNat)) ≤ 122)) false) true (cond (decide ((byteAt s ((i).toNat)) ≥ 65)) (decide ((byteAt s ((i).toNat)) ≤ 90)) false))) && ((!(cond (cond (decide ((byteAt s ((i).toNat)) ≥ 97)) (decide ((byteAt s ((i).toNat)) ≤ 122)) false) true (cond (decide ((byteAt s ((i).toNat)) ≥ 65)) (decide ((byteAt s ((i).toNat)) ≤ 90)) false))) && (!(i == 0)))) && ((byteAt s ((i).toNat)) != 45))) && (!(decide ((byteAt s ((i).toNat)) < 48))))) = true → AllP [((((!(cond (cond (decide ((byteAt s ((i).toNat)) ≥ 97)) (decide ((byteAt s ((i).toNat)) ≤ 122)) false) true (cond (decide ((byteAt s ((i).toNat)) ≥ 65)) (decide ((byteAt s ((i).toNat)) ≤ 90)) false))) && ((!(cond (cond (decide ((byteAt s ((i).toNat)) ≥ 97)) (decide ((byteAt s ((i).toNat)) ≤ 122)) false) true (cond (decide ((byteAt s ((i).toNat)) ≥ 65)) (decide ((byteAt s ((i).toNat)) ≤ 90)) false))) && (!(i == 0)))) && (((!(cond (cond (decide ((byteAt s ((i).toNat)) ≥ 97)) (decide ((byteAt s ((i).toNat)) ≤ 122)) false) true (cond (decide ((byteAt s ((i).toNat)) ≥ 65)) (decide ((byteAt s ((i).toNat)) ≤ 90)) false))) && ((!(cond (cond (decide ((byteAt s ((i).toNat)) ≥ 97)) (decide ((byteAt s ((i).toNat)) ≤ 122)) false) true (cond (decide ((byteAt s ((i).toNat)) ≥ 65)) (decide ((byteAt s ((i).toNat)) ≤ 90)) false))) && (!(i == 0)))) && ((byteAt s ((i).toNat)) != 45))) && ((((!(cond (cond (decide ((byteAt s ((i).toNat)) ≥ 97)) (decide ((byteAt s ((i).toNat)) ≤ 122)) false) true (cond (decide ((byteAt s ((i).toNat)) ≥ 65)) (decide ((byteAt s ((i).toNat)) ≤ 90)) false))) && ((!(cond (cond (decide ((byteAt s ((i).toNat)) ≥ 97)) (decide ((byteAt s ((i).toNat)) ≤ 122)) false) true (cond (decide ((byteAt s ((i).toNat)) ≥ 65)) (decide ((byteAt s ((i).toNat)) ≤ 90)) false))) && (!(i == 0)))) && (((!(cond (cond (decide ((byteAt s ((i).toNat)) ≥ 97)) (decide ((byteAt s ((i).toNat)) ≤ 122)) false) true (cond (decide ((byteAt s ((i).toNat)) ≥ 65)) (decide ((byteAt s ((i).toNat)) ≤ 90)) false))) && ((!(cond (cond (decide ((byteAt s ((i).toNat)) ≥ 97)) (decide ((byteAt s ((i).toNat)) ≤ 122)) false) true (cond (decide ((byteAt s ((i).toNat)) ≥ 65)) (decide ((byteAt s ((i).toNat)) ≤ 90)) false))) && (!(i == 0)))) && ((byteAt s ((i).toNat)) != 45))) && (!(decide ((byteAt s ((i).toNat)) < 48))))) = true], (((!(cond (cond (decide ((byteAt s ((i).toNat)) ≥ 97)) (decide ((byteAt s ((i).toNat)) ≤ 122)) false) true (cond (decide ((byteAt s ((i).toNat)) ≥ 65)) (decide ((byteAt s ((i).toNat)) ≤ 90)) false))) && ((!(cond (cond (decide ((byteAt s ((i).toNat)) ≥ 97)) (decide ((byteAt s ((i).toNat)) ≤ 122)) false) true (cond (decide ((byteAt s ((i).toNat)) ≥ 65)) (decide ((byteAt s ((i).toNat)) ≤ 90)) false))) && (!(i == 0)))) && (((!(cond (cond (decide ((byteAt s ((i).toNat)) ≥ 97)) (decide ((byteAt s ((i).toNat)) ≤ 122)) false) true (cond (decide ((byteAt s ((i).toNat)) ≥ 65)) (decide ((byteAt s ((i).toNat)) ≤ 90)) false))) && ((!(cond (cond (decide ((byteAt s ((i).toNat)) ≥ 97)) (decide ((byteAt s ((i).toNat)) ≤ 122)) false) true (cond (decide ((byteAt s ((i).toNat)) ≥ 65)) (decide ((byteAt s ((i).toNat)) ≤ 90)) false))) && (!(i == 0)))) && ((byteAt s ((i).toNat)) != 45))) = true → AllP [(((!(cond (cond (decide ((byteAt s ((i).toNat)) ≥ 97)) (decide ((byteAt s ((i).toNat)) ≤ 122)) false) true (cond (decide ((byteAt s ((i).toNat)) ≥ 65)) (decide ((byteAt s ((i).toNat)) ≤ 90)) false))) && ((!(cond (cond (decide ((byteAt s ((i).toNat)) ≥ 97)) (decide ((byteAt s ((i).toNat)) ≤ 122)) false) true (cond (decide ((byteAt s ((i).toNat)) ≥ 65)) (decide ((byteAt s ((i).toNat)) ≤ 90)) false))) && (!(i == 0)))) && (((!(cond (cond (decide ((byteAt s ((i).toNat)) ≥ 97)) (decide ((byteAt s ((i).toNat)) ≤ 122)) false) true (cond (decide ((byteAt s ((i).toNat)) ≥ 65)) (decide ((byteAt s ((i).toNat)) ≤ 90)) false))) && ((!(cond (cond (decide ((byteAt s ((i).toNat)) ≥ 97)) (decide ((byteAt s ((i).toNat)) ≤ 122)) false) true (cond (decide ((byteAt s ((i).toNat)) ≥ 65)) (decide ((byteAt s ((i).toNat)) ≤ 90)) false))) && (!(i == 0)))) && ((byteAt s ((i).toNat)) != 45))) = true, (((!(cond (cond (decide ((byteAt s ((i).toNat)) ≥ 97)) (decide ((byteAt s ((i).toNat)) ≤ 122)) false) true (cond (decide ((byteAt s ((i).toNat)) ≥ 65)) (decide ((byteAt s ((i).toNat)) ≤ 90)) false))) && ((!(cond (cond (decide ((byteAt s ((i).toNat)) ≥ 97)) (decide ((byteAt s ((i).toNat)) ≤ 122)) false) true (cond (decide ((byteAt s ((i).toNat)) ≥ 65)) (decide ((byteAt s ((i).toNat)) ≤ 90)) false))) && (!(i == 0)))) && (((!(cond (cond (decide ((byteAt s ((i).toNat)) ≥ 97)) (decide ((byteAt s ((i).toNat)) ≤ 122)) false) true (cond (decide ((byteAt s ((i).toNat)) ≥ 65)) (decide ((byteAt s ((i).toNat)) ≤ 90)) false))) && ((!(cond (cond (decide ((byteAt s ((i).toNat)) ≥ 97)) (decide ((byteAt s ((i).toNat)) ≤ 122)) false) true (cond (decide ((byteAt s ((i).toNat)) ≥ 65)) (decide ((byteAt s ((i).toNat)) ≤ 90)) false))) && (!(i == 0)))) && ((byteAt s ((i).toNat)) != 45))) = true, (!(decide ((byteAt s ((i).toNat)) < 48))) = true → AllP [((((!(cond (cond (decide ((byteAt s ((i).toNat)) ≥ 97)) (decide ((byteAt s ((i).toNat)) ≤ 122)) false) true (cond (decide ((byteAt s ((i).toNat)) ≥ 65)) (decide ((byteAt s ((i).toNat)) ≤ 90)) false))) && ((!(cond (cond (decide ((byteAt s ((i).toNat)) ≥ 97)) (decide ((byteAt s ((i).toNat)) ≤ 122)) false) true (cond (decide ((byteAt s ((i).toNat)) ≥ 65)) (decide ((byteAt s ((i).toNat)) ≤ 90)) false))) && (!(i == 0)))) && (((!(cond (cond (decide ((byteAt s ((i).toNat)) ≥ 97)) (decide ((byteAt s ((i).toNat)) ≤ 122)) false) true (cond (decide ((byteAt s ((i).toNat)) ≥ 65)) (decide ((byteAt s ((i).toNat)) ≤ 90)) false))) && ((!(cond (cond (decide ((byteAt s ((i).toNat)) ≥ 97)) (decide ((byteAt s ((i).toNat)) ≤ 122)) false) true (cond (decide ((byteAt s ((i).toNat)) ≥ 65)) (decide ((byteAt s ((i).toNat)) ≤ 90)) false))) && (!(i == 0)))) && ((byteAt s ((i).toNat)) != 45))) && ((((!(cond (cond (decide ((byteAt s ((i).toNat)) ≥ 97)) (decide ((byteAt s ((i).toNat)) ≤ 122)) false) true (cond (decide ((byteAt s ((i).toNat)) ≥ 65)) (decide ((byteAt s ((i).toNat)) ≤ 90)) false))) && ((!(cond (cond (decide ((byteAt s ((i).toNat)) ≥ 97)) (decide ((byteAt s ((i).toNat)) ≤ 122)) false) true (cond (decide ((byteAt s ((i).toNat)) ≥ 65)) (decide ((byteAt s ((i).toNat)) ≤ 90)) false))) && (!(i == 0)))) && (((!(cond (cond (decide ((byteAt s ((i).toNat)) ≥ 97)) (decide ((byteAt s ((i).toNat)) ≤ 122)) false) true (cond (decide ((byteAt s ((i).toNat)) ≥ 65)) (decide ((byteAt s ((i).toNat)) ≤ 90)) false))) && ((!(cond (cond (decide ((byteAt s ((i).toNat)) ≥ 97)) (decide ((byteAt s ((i).toNat)) ≤ 122)) false) true (cond (decide ((byteAt s ((i).toNat)) ≥ 65)) (decide ((byteAt s ((i).toNat)) ≤ 90)) false))) && (!(i == 0)))) && ((byteAt s ((i).toNat)) != 45))) && (!(decide ((byteAt s ((i).toNat)) < 48))))) = true]], ((!(cond (cond (decide ((byteAt s ((i).toNat)) ≥ 97)) (decide ((byteAt s ((i).toNat)) ≤ 122)) false) true (cond (decide ((byteAt s ((i).toNat)) ≥ 65)) (decide ((byteAt s ((i).toNat)) ≤ 90)) false))) && ((!(cond (cond (decide ((byteAt s ((i).toNat)) ≥ 97)) (decide ((byteAt s ((i).toNat)) ≤ 122)) false) true (cond (decide ((byteAt s ((i).toNat)) ≥ 65)) (decide ((byteAt s ((i).toNat)) ≤ 90)) false))) && (!(i == 0)))) = true → AllP [((!(cond (cond (decide ((byteAt s ((i).toNat)) ≥ 97)) (decide ((byteAt s ((i).toNat)) ≤ 122)) false) true (cond (decide ((byteAt s ((i).toNat)) ≥ 65)) (decide ((byteAt s ((i).toNat)) ≤ 90)) false))) && ((!(cond (cond (decide ((byteAt s ((i).toNat)) ≥ 97)) (decide ((byteAt s ((i).toNat)) ≤ 122)) false) true (cond (decide ((byteAt s ((i).toNat)) ≥ 65)) (decide ((byteAt s ((i).toNat)) ≤ 90)) false))) && (!(i == 0)))) = true, ((!(cond (cond (decide ((byteAt s ((i).toNat)) ≥ 97)) (decide ((byteAt s ((i).toNat)) ≤ 122)) false) true (cond (decide ((byteAt s ((i).toNat)) ≥ 65)) (decide ((byteAt s ((i).toNat)) ≤ 90)) false))) && ((!(cond (cond (decide ((byteAt s ((i).toNat)) ≥ 97)) (decide ((byteAt s ((i).toNat)) ≤ 122)) false) true (cond (decide ((byteAt s ((i).toNat)) ≥ 65)) (decide ((byteAt s ((i).toNat)) ≤ 90)) false))) && (!(i == 0)))) = true, ((byteAt s ((i).toNat)) != 45) = true → AllP [(((!(cond (cond (decide ((byteAt s ((i).toNat)) ≥ 97)) (decide ((byteAt s ((i).toNat)) ≤ 122)) false) true (cond (decide ((byteAt s ((i).toNat)) ≥ 65)) (decide ((byteAt s ((i).toNat)) ≤ 90)) false))) && ((!(cond (cond (decide ((byteAt s ((i).toNat)) ≥ 97)) (decide ((byteAt s ((i).toNat)) ≤ 122)) false) true (cond (decide ((byteAt s ((i).toNat)) ≥ 65)) (decide ((byteAt s ((i).toNat)) ≤ 90)) false))) && (!(i == 0)))) && (((!(cond (cond (decide ((byteAt s ((i).toNat)) ≥ 97)) (decide ((byteAt s ((i).toNat)) ≤ 122)) false) true (cond (decide ((byteAt s ((i).toNat)) ≥ 65)) (decide ((byteAt s ((i).toNat)) ≤ 90)) false))) && ((!(cond (cond (decide ((byteAt s ((i).toNat)) ≥ 97)) (decide ((byteAt s ((i).toNat)) ≤ 122)) false) true (cond (decide ((byteAt s ((i).toNat)) ≥ 65)) (decide ((byteAt s ((i).toNat)) ≤ 90)) false))) && (!(i == 0)))) && ((byteAt s ((i).toNat)) != 45))) = true]], (!(cond (cond (decide ((byteAt s ((i).toNat)) ≥ 97)) (decide ((byteAt s ((i).toNat)) ≤ 122)) false) true (cond (decide ((byteAt s ((i).toNat)) ≥ 65)) (decide ((byteAt s ((i).toNat)) ≤ 90)) false))) = true → AllP [(!(cond (cond (decide ((byteAt s ((i).toNat)) ≥ 97)) (decide ((byteAt s ((i).toNat)) ≤ 122)) false) true (cond (decide ((byteAt s ((i).toNat)) ≥ 65)) (decide ((byteAt s ((i).toNat)) ≤ 90)) false))) = true, (!(cond (cond (decide ((byteAt s ((i).toNat)) ≥ 97)) (decide ((byteAt s ((i).toNat)) ≤ 122)) false) true (cond (decide ((byteAt s ((i).toNat)) ≥ 65)) (decide ((byteAt s ((i).toNat)) ≤ 90)) false))) = true, (!(i == 0)) = true → AllP [((!(cond (cond (decide ((byteAt s ((i).toNat)) ≥ 97)) (decide ((byteAt s ((i).toNat)) ≤ 122)) false) true (cond (decide ((byteAt s ((i).toNat)) ≥ 65)) (decide ((byteAt s ((i).toNat)) ≤ 90)) false))) && ((!(cond (cond (decide ((byteAt s ((i).toNat)) ≥ 97)) (decide ((byteAt s ((i).toNat)) ≤ 122)) false) true (cond (decide ((byteAt s ((i).toNat)) ≥ 65)) (decide ((byteAt s ((i).toNat)) ≤ 90)) false))) && (!(i == 0)))) = true]], (!(cond (cond (decide ((byteAt s ((i).toNat)) ≥ 97)) (decide ((byteAt s ((i).toNat)) ≤ 122)) false) true (cond (decide ((byteAt s ((i).toNat)) ≥ 65)) (decide ((byteAt s ((i).toNat)) ≤ 90)) false))) = true → AllP [(!(cond (cond (decide ((byteAt s ((i).toNat)) ≥ 97)) (decide ((byteAt s ((i).toNat)) ≤ 122)) false) true (cond (decide ((byteAt s ((i).toNat)) ≥ 65)) (decide ((byteAt s ((i).toNat)) ≤ 90)) false))) = true]] ⟨(fun hg => ⟨hg, trivial⟩), (fun hg => ⟨hg, trivial⟩), (fun hg => ⟨hg, trivial⟩), (fun hg => ⟨hg, trivial⟩), (fun hg => ⟨hg, hg, (fun hq => ⟨(andI' hg (andI' hg hq)), trivial⟩), trivial⟩), (fun hg => ⟨hg, hg, (fun hq => ⟨(andI' hg (andI' hg hq)), trivial⟩), trivial⟩), (fun hg => ⟨hg, hg, (fun hq => ⟨(andI' hg (andI' hg hq)), trivial⟩), trivial⟩), (fun hq => ⟨hq, trivial⟩), trivial⟩ ?_
      refine Runs.sC 54 (C_14 14926) (C_14 14927) (cond (!(cond (cond (decide ((byteAt s ((i).toNat)) ≥ 97)) (decide ((byteAt s ((i).toNat)) ≤ 122)) false) true (cond (decide ((byteAt s ((i).toNat)) ≥ 65)) (decide ((byteAt s ((i).toNat)) ≤ 90)) false))) (cond (i == 0) true (cond ((byteAt s ((i).toNat)) != 45) (cond (decide ((byteAt s ((i).toNat)) < 48)) true (decide ((byteAt s ((i).toNat)) > 57))) false)) false) (fun hq4 => ?_) (fun hq4 => ?_)
      · have h := condT h hq4
        refine Runs.sA 1 [.code (C_14 29852), .code (C_14 29853), .inBlock 1, .code (C_14 467), .inLoop (C_14 116), .inBlock 0, .code (C_14 15)] ?_
        refine Runs.sR hE ⟨[(2, (aB false))], [], 672⟩ (C_14 29852) [] [] (kp [2]) [] 672 [] trivial ?_
        obtain rfl := Option.some.inj h
        refine Runs.sW hE ⟨[(2, (aB false))], [], 672⟩ [] (kp [2]) [] 672 [] trivial ?_
        exact Runs.sT Try.f69 [] [] trivial
      · have h := condF h hq4
        refine Runs.sA 2 [.code (C_14 467), .inLoop (C_14 116), .inBlock 0, .code (C_14 15)] ?_
        refine Runs.sR hE ⟨[(0, (aS s)), (3, (aI (w64 (i + 1))))], [], 704⟩ (C_14 467) [] [] (kp [0, 3]) [] 704 [] trivial ?_
        refine Runs.sA 1 [.code (C_14 116), .inLoop (C_14 116), .inBlock 0, .code (C_14 15)] ?_
        exact Runs.sW hE _ [] (kp [0, 3]) [] 0 [] trivial (ih (w64 (i + 1)) _ h E hE)
    · have h := condF h hq3
      refine Runs.sA 2 [.code (C_14 30), .code (C_14 31)] ?_
      refine Runs.sR hE ⟨[(2, (aB true))], [], 80⟩ (C_14 30) [] [] (kp [2]) [] 80 [] trivial ?_
      obtain rfl := Option.some.inj h
      refine Runs.sW hE ⟨[(2, (aB true))], [], 80⟩ [] (kp [2]) [] 80 [] trivial ?_
      exact Runs.sT Try.f69 [] [] trivial

theorem g_keelblockbase_IsName_ok (N : Nat) (s : ByteArray) (r : Bool) (h : g_keelblockbase_IsName N s = some r) : Sound Try.prog 69 [(aS s)] [] 0 (aB r) [] := by
  unfold g_keelblockbase_IsName at h
  refine Sound.of_runs (fu := Try.f69) (c := C_14 1) (nt := 55) (by kernel_rfl) (by kernel_rfl) (by kernel_rfl) (by kernel_rfl) (fun hm => rfl) ?_
  intro E hE
  refine Runs.sA 1 [.code (C_14 2), .code (C_14 3)] ?_
  refine Runs.sR hE ⟨[(0, (aS s))], [], 16⟩ (C_14 2) [] [] (kp [0]) [] 16 [] trivial ?_
  refine Runs.sA 2 [.code (C_14 12), .code (C_14 13), .code (C_14 7)] ?_
  refine Runs.sR hE ⟨[(0, (aS s)), (13, (aB (cond (decide (((s.size : Nat) : Int) < 1)) true (decide (((s.size : Nat) : Int) > 12)))))], [], 144⟩ (C_14 12) [] [] (kp [0, 13]) [] 144 [(!(decide (((s.size : Nat) : Int) < 1))) = true → AllP [(!(decide (((s.size : Nat) : Int) < 1))) = true], (!(decide (((s.size : Nat) : Int) < 1))) = true → AllP [(!(decide (((s.size : Nat) : Int) < 1))) = true], (!(decide (((s.size : Nat) : Int) < 1))) = true → AllP [(!(decide (((s.size : Nat) : Int) < 1))) = true]] ⟨(fun hg => ⟨hg, trivial⟩), (fun hg => ⟨hg, trivial⟩), (fun hq => ⟨hq, trivial⟩), trivial⟩ ?_
  refine Runs.sC 13 (C_14 26) (C_14 27) (cond (decide (((s.size : Nat) : Int) < 1)) true (decide (((s.size : Nat) : Int) > 12))) (fun hq2 => ?_) (fun hq2 => ?_)
  · have h := condT h hq2
    refine Runs.sA 1 [.code (C_14 52), .code (C_14 53), .code (C_14 7)] ?_
    refine Runs.sR hE ⟨[(2, (aB false))], [], 160⟩ (C_14 52) [] [] (kp [2]) [] 160 [] trivial ?_
    obtain rfl := Option.some.inj h
    refine Runs.sW hE ⟨[(2, (aB false))], [], 160⟩ [] (kp [2]) [] 160 [] trivial ?_
    exact Runs.sT Try.f69 [] [] trivial
  · have h := condF h hq2
    refine Runs.sA 3 [.code (C_14 28), .code (C_14 29), .code (C_14 15)] ?_
    refine Runs.sR hE ⟨[(0, (aS s)), (3, (aI 0))], [], 160⟩ (C_14 28) [] [] (kp [0, 3]) [] 160 [] trivial ?_
    refine Runs.sA 2 [.code (C_14 116), .inLoop (C_14 116), .inBlock 0, .code (C_14 15)] ?_
    exact Runs.sW hE _ [] (kp [0, 3]) [] 0 [] trivial (g_keelblockbase_IsName_L1_ok N s N 0 _ h E hE)

noncomputable def C_15 (n : Nat) : Code := cat (bodyOf Try.f62) (pth n)

theorem g_r05_inside_ok (N : Nat) (n : Int) (low : Int) (high : Int) (r : Bool) (h : g_r05_inside N n low high = some r) : Sound Try.prog 62 [(aI n), (aI low), (aI high)] [] 0 (aB r) [] := by
  unfold g_r05_inside at h
  refine Sound.of_runs (fu := Try.f62) (c := C_15 1) (nt := 15) (by kernel_rfl) (by kernel_rfl) (by kernel_rfl) (by kernel_rfl) (fun hm => rfl) ?_
  intro E hE
  refine Runs.sA 1 [.code (C_15 2), .code (C_15 3)] ?_
  refine Runs.sR hE ⟨[(0, (aI n)), (1, (aI low)), (2, (aI high))], [], 16⟩ (C_15 2) [] [] (kp [0, 1, 2]) [] 16 [] trivial ?_
  refine Runs.sA 1 [.code (C_15 6), .code (C_15 7)] ?_
  refine Runs.sR hE ⟨[(6, (aB (cond (decide (n ≥ low)) (decide (n ≤ high)) false)))], [], 160⟩ (C_15 6) [] [] (kp [6]) [] 160 [(decide (n ≥ low)) = true → AllP [(decide (n ≥ low)) = true, (decide (n ≥ low)) = true], (decide (n ≥ low)) = true → AllP [(decide (n ≥ low)) = true]] ⟨(fun hg => ⟨hg, hg, trivial⟩), (fun hq => ⟨hq, trivial⟩), trivial⟩ ?_
  obtain rfl := Option.some.inj h
  refine Runs.sW hE ⟨[(6, (aB (cond (decide (n ≥ low)) (decide (n ≤ high)) false)))], [], 160⟩ [] (kp [6]) [] 160 [] trivial ?_
  exact Runs.sT Try.f62 [] [] trivial

noncomputable def C_13 (n : Nat) : Code := cat (bodyOf Try.f19) (pth n)

theorem g_r05_CheckBasin_L1_ok (N : Nat) (b : Tapi_Basin) (fuel : Nat) : ∀ (i : Int) (r : Int), g_r05_CheckBasin_L1 N b fuel i = some r → ∀ E, EnvOk E 0 → Runs Try.prog E 19 72 (SPost E [] (aI r)) [.code (C_13 244), .inLoop (C_13 244), .inBlock 0, .code (C_13 31)] ⟨[(1, (.op 0 0 0)), (3, (aI i))], [(0, vO 3 (Tapi_Basin.cells b))], 1⟩ := by
  induction fuel with
  | zero => intro _ r h; rw [g_r05_CheckBasin_L1.eq_1] at h; cases h
  | succ fuel ih =>
    intro i r h E hE
    rw [g_r05_CheckBasin_L1.eq_2] at h
    refine Runs.sA 2 [.code (C_13 976), .code (C_13 977), .code (C_13 489), .inLoop (C_13 244), .inBlock 0, .code (C_13 31)] ?_
    refine Runs.sR hE ⟨[(1, (.op 0 0 0)), (3, (aI i)), (23, (aB (decide (i < ((b.f_Areas.length : Nat) : Int)))))], [(0, vO 3 (Tapi_Basin.cells b))], 81⟩ (C_13 976) [] [] (kp [1, 3, 23]) (kq [0]) 81 [0 < 1] ⟨o1, trivial⟩ ?_
    refine Runs.sC 23 (C_13 1954) (C_13 1955) (decide (i < ((b.f_Areas.length : Nat) : Int))) (fun hq4 => ?_) (fun hq4 => ?_)
    · have h := condT h hq4
      refine Runs.sA 4 [.code (C_13 3912), .code (C_13 3913), .inBlock 1, .code (C_13 979), .inLoop (C_13 244), .inBlock 0, .code (C_13 31)] ?_
      obtain ⟨c, h⟩ := ifSome h
      refine Runs.sR hE ⟨[(1, (.op 0 0 0)), (3, (aI i)), (4, (.op 161 0 0))], [(0, vO 3 (Tapi_Basin.cells b)), (161, vO 2 (Tapi_Area.cells (b.f_Areas.getD ((i).toNat) Tapi_Area.d)))], 193⟩ (C_13 3912) [] [] (kp [1, 3, 4]) (kq [0, 161]) 193 [0 < 1, 0 ≤ i ∧ i < ((b.f_Areas.length : Nat) : Int), 0 < 1] ⟨o1, c, o1, trivial⟩ ?_
      refine Runs.sA 2 [.code (C_13 15652), .code (C_13 15653), .code (C_13 7827), .inBlock 1, .code (C_13 979), .inLoop (C_13 244), .inBlock 0, .code (C_13 31)] ?_
      obtain ⟨rinside, hr2, h⟩ := bindSome h
      obtain ⟨rinside2, hr3, h⟩ := bindSome h
      refine Runs.sR hE ⟨[(1, (.op 0 0 0)), (3, (aI i)), (4, (.op 161 0 0)), (40, (aB (cond (!rinside) true (!rinside2))))], [(0, vO 3 (Tapi_Basin.cells b)), (161, vO 2 (Tapi_Area.cells (b.f_Areas.getD ((i).toNat) Tapi_Area.d)))], 353⟩ (C_13 15652) [(2, ⟨[], true, (aB rinside), [], 0, false⟩), (7, ⟨[], true, (aB rinside2), [], 0, false⟩)] [] (kp [1, 3, 4, 40]) (kq [0, 161]) 353 [0 < 1, Sound Try.prog 62 [(aI ((b.f_Areas.getD ((i).toNat) Tapi_Area.d).f_From)), (aI (-1000000)), (aI 1000000)] [] 0 (aB rinside) [], (!(!rinside)) = true → AllP [(!(!rinside)) = true, 0 < 1], (!(!rinside)) = true → AllP [Sound Try.prog 62 [(aI ((b.f_Areas.getD ((i).toNat) Tapi_Area.d).f_Size)), (aI 1), (aI 1000000)] [] 0 (aB rinside2) [], (!(!rinside)) = true], (!(!rinside)) = true → AllP [(!(!rinside)) = true], (!(!rinside)) = true → AllP [(!(!rinside)) = true]] ⟨o1, (g_r05_inside_ok N ((b.f_Areas.getD ((i).toNat) Tapi_Area.d).f_From) (-1000000) 1000000 rinside hr2), (fun hg => ⟨hg, o1, trivial⟩), (fun hg => ⟨(g_r05_inside_ok N ((b.f_Areas.getD ((i).toNat) Tapi_Area.d).f_Size) 1 1000000 rinside2 (condT hr3 hg)), hg, trivial⟩), (fun hg => ⟨hg, trivial⟩), (fun hq => ⟨hq, trivial⟩), trivial⟩ ?_
      refine Runs.sC 40 (C_13 31306) (C_13 31307) (cond (!rinside) true (!rinside2)) (fun hq5 => ?_) (fun hq5 => ?_)
      · have h := condT h hq5
        refine Runs.sA 1 [.code (C_13 62612), .code (C_13 62613), .code (C_13 7827), .inBlock 1, .code (C_13 979), .inLoop (C_13 244), .inBlock 0, .code (C_13 31)] ?_
        refine Runs.sR hE ⟨[(2, (aI 2))], [], 369⟩ (C_13 62612) [] [] (kp [2]) [] 369 [] trivial ?_
        obtain rfl := Option.some.inj h
        refine Runs.sW hE ⟨[(2, (aI 2))], [], 369⟩ [] (kp [2]) [] 369 [] trivial ?_
        exact Runs.sT Try.f19 [] [] trivial
      · have h := condF h hq5
        refine Runs.sA 2 [.code (C_13 15654), .code (C_13 15655), .inBlock 1, .code (C_13 979), .inLoop (C_13 244), .inBlock 0, .code (C_13 31)] ?_
        obtain ⟨c2, h⟩ := ifSome h
        refine Runs.sR hE ⟨[(1, (.op 0 0 0)), (3, (aI i)), (54, (aB (cond (decide (i > 0)) (decide ((b.f_Areas.getD ((i).toNat) Tapi_Area.d).f_From ≤ (b.f_Areas.getD ((w64 (i - 1)).toNat) Tapi_Area.d).f_From)) false)))], [(0, vO 3 (Tapi_Basin.cells b))], 577⟩ (C_13 15654) [] [] (kp [1, 3, 54]) (kq [0]) 577 [(decide (i > 0)) = true → AllP [(decide (i > 0)) = true, 0 < 1], (decide (i > 0)) = true → AllP [(decide (i > 0)) = true, 0 < 1], (decide (i > 0)) = true → AllP [(decide (i > 0)) = true], (decide (i > 0)) = true → AllP [(decide (i > 0)) = true, (decide (i > 0)) = true, 0 ≤ (w64 (i - 1)) ∧ (w64 (i - 1)) < ((b.f_Areas.length : Nat) : Int)], (decide (i > 0)) = true → AllP [(decide (i > 0)) = true], (decide (i > 0)) = true → AllP [(decide (i > 0)) = true], (decide (i > 0)) = true → AllP [(decide (i > 0)) = true, (decide (i > 0)) = true], (decide (i > 0)) = true → AllP [(decide (i > 0)) = true]] ⟨(fun hg => ⟨hg, o1, trivial⟩), (fun hg => ⟨hg, o1, trivial⟩), (fun hg => ⟨hg, trivial⟩), (fun hg => ⟨hg, hg, (c2 hg), trivial⟩), (fun hg => ⟨hg, trivial⟩), (fun hg => ⟨hg, trivial⟩), (fun hg => ⟨hg, hg, trivial⟩), (fun hq => ⟨hq, trivial⟩), trivial⟩ ?_
        refine Runs.sC 54 (C_13 31310) (C_13 31311) (cond (decide (i > 0)) (decide ((b.f_Areas.getD ((i).toNat) Tapi_Area.d).f_From ≤ (b.f_Areas.getD ((w64 (i - 1)).toNat) Tapi_Area.d).f_From)) false) (fun hq6 => ?_) (fun hq6 => ?_)
        · have h := condT h hq6
          refine Runs.sA 1 [.code (C_13 62620), .code (C_13 62621), .inBlock 1, .code (C_13 979), .inLoop (C_13 244), .inBlock 0, .code (C_13 31)] ?_
          refine Runs.sR hE ⟨[(2, (aI 10))], [], 593⟩ (C_13 62620) [] [] (kp [2]) [] 593 [] trivial ?_
          obtain rfl := Option.some.inj h
          refine Runs.sW hE ⟨[(2, (aI 10))], [], 593⟩ [] (kp [2]) [] 593 [] trivial ?_
          exact Runs.sT Try.f19 [] [] trivial
        · have h := condF h hq6
          refine Runs.sA 2 [.code (C_13 979), .inLoop (C_13 244), .inBlock 0, .code (C_13 31)] ?_
          refine Runs.sR hE ⟨[(1, (.op 0 0 0)), (3, (aI (w64 (i + 1))))], [(0, vO 3 (Tapi_Basin.cells b))], 625⟩ (C_13 979) [] [] (kp [1, 3]) (kq [0]) 625 [] trivial ?_
          refine Runs.sA 1 [.code (C_13 244), .inLoop (C_13 244), .inBlock 0, .code (C_13 31)] ?_
          exact Runs.sW hE _ [] (kp [1, 3]) (kq [0]) 1 [] trivial (ih (w64 (i + 1)) _ h E hE)
    · have h := condF h hq4
      refine Runs.sA 3 [.code (C_13 124), .code (C_13 125), .code (C_13 63)] ?_
      obtain ⟨c3, h⟩ := ifSome h
      refine Runs.sR hE ⟨[(71, (aB (cond (decide (b.f_Rim ≤ (b.f_Areas.getD ((w64 (((b.f_Areas.length : Nat) : Int) - 1)).toNat) Tapi_Area.d).f_From)) true (decide (b.f_Rim > 1000000)))))], [], 353⟩ (C_13 124) [] [] (kp [71]) [] 353 [0 < 1, 0 < 1, 0 < 1, 0 ≤ (w64 (((b.f_Areas.length : Nat) : Int) - 1)) ∧ (w64 (((b.f_Areas.length : Nat) : Int) - 1)) < ((b.f_Areas.length : Nat) : Int), (!(decide (b.f_Rim ≤ (b.f_Areas.getD ((w64 (((b.f_Areas.length : Nat) : Int) - 1)).toNat) Tapi_Area.d).f_From))) = true → AllP [(!(decide (b.f_Rim ≤ (b.f_Areas.getD ((w64 (((b.f_Areas.length : Nat) : Int) - 1)).toNat) Tapi_Area.d).f_From))) = true, 0 < 1], (!(decide (b.f_Rim ≤ (b.f_Areas.getD ((w64 (((b.f_Areas.length : Nat) : Int) - 1)).toNat) Tapi_Area.d).f_From))) = true → AllP [(!(decide (b.f_Rim ≤ (b.f_Areas.getD ((w64 (((b.f_Areas.length : Nat) : Int) - 1)).toNat) Tapi_Area.d).f_From))) = true], (!(decide (b.f_Rim ≤ (b.f_Areas.getD ((w64 (((b.f_Areas.length : Nat) : Int) - 1)).toNat) Tapi_Area.d).f_From))) = true → AllP [(!(decide (b.f_Rim ≤ (b.f_Areas.getD ((w64 (((b.f_Areas.length : Nat) : Int) - 1)).toNat) Tapi_Area.d).f_From))) = true]] ⟨o1, o1, o1, c3, (fun hg => ⟨hg, o1, trivial⟩), (fun hg => ⟨hg, trivial⟩), (fun hq => ⟨hq, trivial⟩), trivial⟩ ?_
      refine Runs.sC 71 (C_13 250) (C_13 251) (cond (decide (b.f_Rim ≤ (b.f_Areas.getD ((w64 (((b.f_Areas.length : Nat) : Int) - 1)).toNat) Tapi_Area.d).f_From)) true (decide (b.f_Rim > 1000000))) (fun hq7 => ?_) (fun hq7 => ?_)
      · have h := condT h hq7
        refine Runs.sA 1 [.code (C_13 500), .code (C_13 501), .code (C_13 63)] ?_
        refine Runs.sR hE ⟨[(2, (aI 2))], [], 369⟩ (C_13 500) [] [] (kp [2]) [] 369 [] trivial ?_
        obtain rfl := Option.some.inj h
        refine Runs.sW hE ⟨[(2, (aI 2))], [], 369⟩ [] (kp [2]) [] 369 [] trivial ?_
        exact Runs.sT Try.f19 [] [] trivial
      · have h := condF h hq7
        refine Runs.sA 2 [.code (C_13 126), .code (C_13 127)] ?_
        refine Runs.sR hE ⟨[(2, (aI 0))], [], 369⟩ (C_13 126) [] [] (kp [2]) [] 369 [] trivial ?_
        obtain rfl := Option.some.inj h
        refine Runs.sW hE ⟨[(2, (aI 0))], [], 369⟩ [] (kp [2]) [] 369 [] trivial ?_
        exact Runs.sT Try.f19 [] [] trivial

theorem g_r05_CheckBasin_ok (N : Nat) (b : Tapi_Basin) (r : Int) (h : g_r05_CheckBasin N b = some r) : Sound Try.prog 19 [(.agg (Tapi_Basin.cells b))] [] 0 (aI r) [] := by
  unfold g_r05_CheckBasin at h
  refine Sound.of_runs (fu := Try.f19) (c := C_13 1) (nt := 72) (by kernel_rfl) (by kernel_rfl) (by kernel_rfl) (by kernel_rfl) (fun hm => rfl) ?_
  intro E hE
  refine Runs.sA 1 [.code (C_13 2), .code (C_13 3)] ?_
  refine Runs.sR hE ⟨[(1, (.op 0 0 0))], [(0, vO 3 (Tapi_Basin.cells b))], 32⟩ (C_13 2) [] [] (kp [1]) (kq [0]) 32 [] trivial ?_
  refine Runs.sA 2 [.code (C_13 12), .code (C_13 13), .code (C_13 7)] ?_
  obtain ⟨rIsName, hr, h⟩ := bindSome h
  refine Runs.sR hE ⟨[(1, (.op 0 0 0)), (8, (aB (!rIsName)))], [(0, vO 3 (Tapi_Basin.cells b))], 96⟩ (C_13 12) [(2, ⟨[], true, (aB rIsName), [], 0, false⟩)] [] (kp [1, 8]) (kq [0]) 96 [0 < 1, Sound Try.prog 69 [(aS b.f_Name)] [] 0 (aB rIsName) []] ⟨o1, (g_keelblockbase_IsName_ok N b.f_Name rIsName hr), trivial⟩ ?_
  refine Runs.sC 8 (C_13 26) (C_13 27) (!rIsName) (fun hq2 => ?_) (fun hq2 => ?_)
  · have h := condT h hq2
    refine Runs.sA 1 [.code (C_13 52), .code (C_13 53), .code (C_13 7)] ?_
    refine Runs.sR hE ⟨[(2, (aI 4))], [], 112⟩ (C_13 52) [] [] (kp [2]) [] 112 [] trivial ?_
    obtain rfl := Option.some.inj h
    refine Runs.sW hE ⟨[(2, (aI 4))], [], 112⟩ [] (kp [2]) [] 112 [] trivial ?_
    exact Runs.sT Try.f19 [] [] trivial
  · have h := condF h hq2
    refine Runs.sA 3 [.code (C_13 28), .code (C_13 29), .code (C_13 15)] ?_
    refine Runs.sR hE ⟨[(1, (.op 0 0 0)), (18, (aB (cond (((b.f_Areas.length : Nat) : Int) == 0) true (decide (((b.f_Areas.length : Nat) : Int) > 20)))))], [(0, vO 3 (Tapi_Basin.cells b))], 256⟩ (C_13 28) [] [] (kp [1, 18]) (kq [0]) 256 [0 < 1, (!(((b.f_Areas.length : Nat) : Int) == 0)) = true → AllP [(!(((b.f_Areas.length : Nat) : Int) == 0)) = true, 0 < 1], (!(((b.f_Areas.length : Nat) : Int) == 0)) = true → AllP [(!(((b.f_Areas.length : Nat) : Int) == 0)) = true], (!(((b.f_Areas.length : Nat) : Int) == 0)) = true → AllP [(!(((b.f_Areas.length : Nat) : Int) == 0)) = true], (!(((b.f_Areas.length : Nat) : Int) == 0)) = true → AllP [(!(((b.f_Areas.length : Nat) : Int) == 0)) = true]] ⟨o1, (fun hg => ⟨hg, o1, trivial⟩), (fun hg => ⟨hg, trivial⟩), (fun hg => ⟨hg, trivial⟩), (fun hq => ⟨hq, trivial⟩), trivial⟩ ?_
    refine Runs.sC 18 (C_13 58) (C_13 59) (cond (((b.f_Areas.length : Nat) : Int) == 0) true (decide (((b.f_Areas.length : Nat) : Int) > 20))) (fun hq3 => ?_) (fun hq3 => ?_)
    · have h := condT h hq3
      refine Runs.sA 1 [.code (C_13 116), .code (C_13 117), .code (C_13 15)] ?_
      refine Runs.sR hE ⟨[(2, (aI 2))], [], 272⟩ (C_13 116) [] [] (kp [2]) [] 272 [] trivial ?_
      obtain rfl := Option.some.inj h
      refine Runs.sW hE ⟨[(2, (aI 2))], [], 272⟩ [] (kp [2]) [] 272 [] trivial ?_
      exact Runs.sT Try.f19 [] [] trivial
    · have h := condF h hq3
      refine Runs.sA 3 [.code (C_13 60), .code (C_13 61), .code (C_13 31)] ?_
      refine Runs.sR hE ⟨[(1, (.op 0 0 0)), (3, (aI 0))], [(0, vO 3 (Tapi_Basin.cells b))], 272⟩ (C_13 60) [] [] (kp [1, 3]) (kq [0]) 272 [] trivial ?_
      refine Runs.sA 2 [.code (C_13 244), .inLoop (C_13 244), .inBlock 0, .code (C_13 31)] ?_
      exact Runs.sW hE _ [] (kp [1, 3]) (kq [0]) 1 [] trivial (g_r05_CheckBasin_L1_ok N b N 0 _ h E hE)

noncomputable def C_17 (n : Nat) : Code := cat (bodyOf Try.f64) (pth n)

theorem g_r05_Below_J3_ok (N : Nat) (b : Tapi_Basin) (level : Int) (i : Int) (K_g_r05_Below_L1 : Int → Int → Option (Int))
    (hK_g_r05_Below_L1 : ∀ (sum : Int) (i : Int) (r : Int), K_g_r05_Below_L1 sum i = some r → ∀ E, EnvOk E 0 → Runs Try.prog E 64 57 (SPost E [] (aI r)) [.code (C_17 116), .inLoop (C_17 116), .inBlock 0, .code (C_17 15)] ⟨[(1, (aI level)), (2, (.op 0 0 0)), (5, (aI sum)), (6, (aI i))], [(0, vO 3 (Tapi_Basin.cells b))], 1⟩) (sum2 : Int) (r : Int) (h : g_r05_Below_J3 N b level i K_g_r05_Below_L1 sum2 = some r) : ∀ E, EnvOk E 0 → Runs Try.prog E 64 57 (SPost E [] (aI r)) [.code (C_17 467), .inLoop (C_17 116), .inBlock 0, .code (C_17 15)] ⟨[(1, (aI level)), (2, (.op 0 0 0)), (5, (aI sum2)), (6, (aI i))], [(0, vO 3 (Tapi_Basin.cells b))], 1⟩ := by
  intro E hE
  unfold g_r05_Below_J3 at h
  refine Runs.sR hE ⟨[(1, (aI level)), (2, (.op 0 0 0)), (5, (aI sum2)), (6, (aI (w64 (i + 1))))], [(0, vO 3 (Tapi_Basin.cells b))], 49⟩ (C_17 467) [] [] (kp [1, 2, 5, 6]) (kq [0]) 49 [] trivial ?_
  refine Runs.sA 1 [.code (C_17 116), .inLoop (C_17 116), .inBlock 0, .code (C_17 15)] ?_
  exact Runs.sW hE _ [] (kp [1, 2, 5, 6]) (kq [0]) 1 [] trivial (hK_g_r05_Below_L1 sum2 (w64 (i + 1)) _ h E hE)

theorem g_r05_Below_J2_ok (N : Nat) (b : Tapi_Basin) (level : Int) (sum : Int) (i : Int) (K_g_r05_Below_L1 : Int → Int → Option (Int))
    (hK_g_r05_Below_L1 : ∀ (sum : Int) (i : Int) (r : Int), K_g_r05_Below_L1 sum i = some r → ∀ E, EnvOk E 0 → Runs Try.prog E 64 57 (SPost E [] (aI r)) [.code (C_17 116), .inLoop (C_17 116), .inBlock 0, .code (C_17 15)] ⟨[(1, (aI level)), (2, (.op 0 0 0)), (5, (aI sum)), (6, (aI i))], [(0, vO 3 (Tapi_Basin.cells b))], 1⟩) (top : Int) (r : Int) (h : g_r05_Below_J2 N b level sum i K_g_r05_Below_L1 top = some r) : ∀ E, EnvOk E 0 → Runs Try.prog E 64 57 (SPost E [] (aI r)) [.code (C_17 7462), .code (C_17 7463), .inBlock 1, .code (C_17 467), .inLoop (C_17 116), .inBlock 0, .code (C_17 15)] ⟨[(1, (aI level)), (2, (.op 0 0 0)), (5, (aI sum)), (6, (aI i)), (7, (aI top))], [(0, vO 3 (Tapi_Basin.cells b))], 1⟩ := by
  intro E hE
  unfold g_r05_Below_J2 at h
  obtain ⟨c2, h⟩ := ifSome h
  refine Runs.sR hE ⟨[(1, (aI level)), (2, (.op 0 0 0)), (5, (aI sum)), (6, (aI i)), (7, (aI top)), (38, (aB (decide (top > (b.f_Areas.getD ((i).toNat) Tapi_Area.d).f_From))))], [(0, vO 3 (Tapi_Basin.cells b))], 129⟩ (C_17 7462) [] [] (kp [1, 2, 5, 6, 7, 38]) (kq [0]) 129 [0 < 1, 0 ≤ i ∧ i < ((b.f_Areas.length : Nat) : Int)] ⟨o1, c2, trivial⟩ ?_
  refine Runs.sC 38 (C_17 14926) (C_17 14927) (decide (top > (b.f_Areas.getD ((i).toNat) Tapi_Area.d).f_From)) (fun hq4 => ?_) (fun hq4 => ?_)
  · have h := condT h hq4
    refine Runs.sR hE ⟨[(1, (aI level)), (2, (.op 0 0 0)), (5, (aI (w64 (sum + (w64 ((b.f_Areas.getD ((i).toNat) Tapi_Area.d).f_Size * (w64 (top - (b.f_Areas.getD ((i).toNat) Tapi_Area.d).f_From)))))))), (6, (aI i))], [(0, vO 3 (Tapi_Basin.cells b))], 417⟩ (C_17 14926) [] [] (kp [1, 2, 5, 6]) (kq [0]) 417 [0 < 1, 0 ≤ i ∧ i < ((b.f_Areas.length : Nat) : Int), 0 < 1, 0 ≤ i ∧ i < ((b.f_Areas.length : Nat) : Int)] ⟨o1, c2, o1, c2, trivial⟩ ?_
    refine Runs.sA 1 [.code (C_17 467), .inLoop (C_17 116), .inBlock 0, .code (C_17 15)] ?_
    exact Runs.sW hE _ [] (kp [1, 2, 5, 6]) (kq [0]) 1 [] trivial (g_r05_Below_J3_ok N b level i K_g_r05_Below_L1 hK_g_r05_Below_L1 (w64 (sum + (w64 ((b.f_Areas.getD ((i).toNat) Tapi_Area.d).f_Size * (w64 (top - (b.f_Areas.getD ((i).toNat) Tapi_Area.d).f_From)))))) _ h E hE)
  · have h := condF h hq4
    refine Runs.sA 2 [.code (C_17 467), .inLoop (C_17 116), .inBlock 0, .code (C_17 15)] ?_
    exact Runs.sW hE _ [] (kp [1, 2, 5, 6]) (kq [0]) 1 [] trivial (g_r05_Below_J3_ok N b level i K_g_r05_Below_L1 hK_g_r05_Below_L1 sum _ h E hE)

theorem g_r05_Below_L1_ok (N : Nat) (b : Tapi_Basin) (level : Int) (fuel : Nat) : ∀ (sum : Int) (i : Int) (r : Int), g_r05_Below_L1 N b level fuel sum i = some r → ∀ E, EnvOk E 0 → Runs Try.prog E 64 57 (SPost E [] (aI r)) [.code (C_17 116), .inLoop (C_17 116), .inBlock 0, .code (C_17 15)] ⟨[(1, (aI level)), (2, (.op 0 0 0)), (5, (aI sum)), (6, (aI i))], [(0, vO 3 (Tapi_Basin.cells b))], 1⟩ := by
  induction fuel with
  | zero => intro _ _ r h; rw [g_r05_Below_L1.eq_1] at h; cases h
  | succ fuel ih =>
    intro sum i r h E hE
    rw [g_r05_Below_L1.eq_2] at h
    refine Runs.sA 2 [.code (C_17 464), .code (C_17 465), .code (C_17 233), .inLoop (C_17 116), .inBlock 0, .code (C_17 15)] ?_
    refine Runs.sR hE ⟨[(1, (aI level)), (2, (.op 0 0 0)), (5, (aI sum)), (6, (aI i)), (12, (aB (decide (i < ((b.f_Areas.length : Nat) : Int)))))], [(0, vO 3 (Tapi_Basin.cells b))], 81⟩ (C_17 464) [] [] (kp [1, 2, 5, 6, 12]) (kq [0]) 81 [0 < 1] ⟨o1, trivial⟩ ?_
    refine Runs.sC 12 (C_17 930) (C_17 931) (decide (i < ((b.f_Areas.length : Nat) : Int))) (fun hq2 => ?_) (fun hq2 => ?_)
    · have h := condT h hq2
      refine Runs.sA 4 [.code (C_17 1864), .code (C_17 1865), .inBlock 1, .code (C_17 467), .inLoop (C_17 116), .inBlock 0, .code (C_17 15)] ?_
      refine Runs.sR hE ⟨[(1, (aI level)), (2, (.op 0 0 0)), (5, (aI sum)), (6, (aI i)), (7, (aI level))], [(0, vO 3 (Tapi_Basin.cells b))], 113⟩ (C_17 1864) [] [] (kp [1, 2, 5, 6, 7]) (kq [0]) 113 [] trivial ?_
      refine Runs.sA 2 [.code (C_17 7460), .code (C_17 7461), .code (C_17 3731), .inBlock 1, .code (C_17 467), .inLoop (C_17 116), .inBlock 0, .code (C_17 15)] ?_
      refine Runs.sR hE ⟨[(1, (aI level)), (2, (.op 0 0 0)), (5, (aI sum)), (6, (aI i)), (7, (aI level)), (21, (aB (decide ((w64 (i + 1)) < ((b.f_Areas.length : Nat) : Int)))))], [(0, vO 3 (Tapi_Basin.cells b))], 209⟩ (C_17 7460) [] [] (kp [1, 2, 5, 6, 7, 21]) (kq [0]) 209 [0 < 1] ⟨o1, trivial⟩ ?_
      refine Runs.sC 21 (C_17 14922) (C_17 14923) (decide ((w64 (i + 1)) < ((b.f_Areas.length : Nat) : Int))) (fun hq3 => ?_) (fun hq3 => ?_)
      · have h := condT h hq3
        obtain ⟨c, h⟩ := ifSome h
        refine Runs.sR hE ⟨[(1, (aI level)), (2, (.op 0 0 0)), (5, (aI sum)), (6, (aI i)), (7, (aI (if (b.f_Areas.getD ((w64 (i + 1)).toNat) Tapi_Area.d).f_From < level then (b.f_Areas.getD ((w64 (i + 1)).toNat) Tapi_Area.d).f_From else level)))], [(0, vO 3 (Tapi_Basin.cells b))], 369⟩ (C_17 14922) [] [] (kp [1, 2, 5, 6, 7]) (kq [0]) 369 [0 < 1, 0 ≤ (w64 (i + 1)) ∧ (w64 (i + 1)) < ((b.f_Areas.length : Nat) : Int)] ⟨o1, c, trivial⟩ ?_
        refine Runs.sA 1 [.code (C_17 7462), .code (C_17 7463), .inBlock 1, .code (C_17 467), .inLoop (C_17 116), .inBlock 0, .code (C_17 15)] ?_
        exact Runs.sW hE _ [] (kp [1, 2, 5, 6, 7]) (kq [0]) 1 [] trivial (g_r05_Below_J2_ok N b level sum i (g_r05_Below_L1 N b level fuel) ih (if (b.f_Areas.getD ((w64 (i + 1)).toNat) Tapi_Area.d).f_From < level then (b.f_Areas.getD ((w64 (i + 1)).toNat) Tapi_Area.d).f_From else level) _ h E hE)
      · have h := condF h hq3
        refine Runs.sA 2 [.code (C_17 7462), .code (C_17 7463), .inBlock 1, .code (C_17 467), .inLoop (C_17 116), .inBlock 0, .code (C_17 15)] ?_
        exact Runs.sW hE _ [] (kp [1, 2, 5, 6, 7]) (kq [0]) 1 [] trivial (g_r05_Below_J2_ok N b level sum i (g_r05_Below_L1 N b level fuel) ih level _ h E hE)
    · have h := condF h hq2
      refine Runs.sA 2 [.code (C_17 30), .code (C_17 31)] ?_
      refine Runs.sR hE ⟨[(4, (aI sum))], [], 113⟩ (C_17 30) [] [] (kp [4]) [] 113 [] trivial ?_
      obtain rfl := Option.some.inj h
      refine Runs.sW hE ⟨[(4, (aI sum))], [], 113⟩ [] (kp [4]) [] 113 [] trivial ?_
      exact Runs.sT Try.f64 [] [] trivial

theorem g_r05_Below_ok (N : Nat) (b : Tapi_Basin) (level : Int) (r : Int) (h : g_r05_Below N b level = some r) : Sound Try.prog 64 [(.agg (Tapi_Basin.cells b)), (aI level)] [] 0 (aI r) [] := by
  unfold g_r05_Below at h
  refine Sound.of_runs (fu := Try.f64) (c := C_17 1) (nt := 57) (by kernel_rfl) (by kernel_rfl) (by kernel_rfl) (by kernel_rfl) (fun hm => rfl) ?_
  intro E hE
  refine Runs.sA 1 [.code (C_17 2), .code (C_17 3)] ?_
  refine Runs.sR hE ⟨[(1, (aI level)), (2, (.op 0 0 0))], [(0, vO 3 (Tapi_Basin.cells b))], 32⟩ (C_17 2) [] [] (kp [1, 2]) (kq [0]) 32 [] trivial ?_
  refine Runs.sA 1 [.code (C_17 6), .code (C_17 7)] ?_
  refine Runs.sR hE ⟨[(1, (aI level)), (2, (.op 0 0 0)), (5, (aI 0))], [(0, vO 3 (Tapi_Basin.cells b))], 48⟩ (C_17 6) [] [] (kp [1, 2, 5]) (kq [0]) 48 [] trivial ?_
  refine Runs.sA 2 [.code (C_17 28), .code (C_17 29), .code (C_17 15)] ?_
  refine Runs.sR hE ⟨[(1, (aI level)), (2, (.op 0 0 0)), (5, (aI 0)), (6, (aI 0))], [(0, vO 3 (Tapi_Basin.cells b))], 64⟩ (C_17 28) [] [] (kp [1, 2, 5, 6]) (kq [0]) 64 [] trivial ?_
  refine Runs.sA 2 [.code (C_17 116), .inLoop (C_17 116), .inBlock 0, .code (C_17 15)] ?_
  exact Runs.sW hE _ [] (kp [1, 2, 5, 6]) (kq [0]) 1 [] trivial (g_r05_Below_L1_ok N b level N 0 0 _ h E hE)

noncomputable def C_19 (n : Nat) : Code := cat (bodyOf Try.f44) (pth n)

theorem g_r05_Capacity_ok (N : Nat) (b : Tapi_Basin) (r : Int) (h : g_r05_Capacity N b = some r) : Sound Try.prog 44 [(.agg (Tapi_Basin.cells b))] [] 0 (aI r) [] := by
  unfold g_r05_Capacity at h
  refine Sound.of_runs (fu := Try.f44) (c := C_19 1) (nt := 7) (by kernel_rfl) (by kernel_rfl) (by kernel_rfl) (by kernel_rfl) (fun hm => rfl) ?_
  intro E hE
  refine Runs.sA 1 [.code (C_19 2), .code (C_19 3)] ?_
  refine Runs.sR hE ⟨[(1, (.op 0 0 0))], [(0, vO 3 (Tapi_Basin.cells b))], 32⟩ (C_19 2) [] [] (kp [1]) (kq [0]) 32 [] trivial ?_
  refine Runs.sA 1 [.code (C_19 6), .code (C_19 7)] ?_
  obtain ⟨rBelow, hr, h⟩ := bindSome h
  refine Runs.sR hE ⟨[(2, (aI rBelow))], [], 112⟩ (C_19 6) [(3, ⟨[], true, (aI rBelow), [], 0, false⟩)] [] (kp [2]) [] 112 [0 < 1, 0 < 1, Sound Try.prog 64 [(.agg (Tapi_Basin.cells b)), (aI b.f_Rim)] [] 0 (aI rBelow) []] ⟨o1, o1, (g_r05_Below_ok N b b.f_Rim rBelow hr), trivial⟩ ?_
  obtain rfl := Option.some.inj h
  refine Runs.sW hE ⟨[(2, (aI rBelow))], [], 112⟩ [] (kp [2]) [] 112 [] trivial ?_
  exact Runs.sT Try.f44 [] [] trivial

noncomputable def C_24 (n : Nat) : Code := cat (bodyOf Try.f24) (pth n)

theorem g_water_CheckSea_L1_ok (N : Nat) (m : List Tapi_Mark) (fuel : Nat) : ∀ (x : Int) (r : Int), g_water_CheckSea_L1 N m fuel x = some r → ∀ E, EnvOk E 0 → Runs Try.prog E 24 39 (SPost E [] (aI r)) [.code (C_24 116), .inLoop (C_24 116), .inBlock 0, .code (C_24 15)] ⟨[(0, (encL Tapi_Mark.cells Tapi_Mark.d m)), (8, (encL Tapi_Mark.cells Tapi_Mark.d m)), (9, (aI ((m.length : Nat) : Int))), (10, (aI x))], [], 0⟩ := by
  induction fuel with
  | zero => intro _ r h; rw [g_water_CheckSea_L1.eq_1] at h; cases h
  | succ fuel ih =>
    intro x r h E hE
    rw [g_water_CheckSea_L1.eq_2] at h
    refine Runs.sA 1 [.code (C_24 232), .code (C_24 233), .inLoop (C_24 116), .inBlock 0, .code (C_24 15)] ?_
    refine Runs.sR hE ⟨[(0, (encL Tapi_Mark.cells Tapi_Mark.d m)), (8, (encL Tapi_Mark.cells Tapi_Mark.d m)), (9, (aI ((m.length : Nat) : Int))), (10, (aI x)), (11, (aB (decide (x < ((m.length : Nat) : Int)))))], [], 16⟩ (C_24 232) [] [] (kp [0, 8, 9, 10, 11]) [] 16 [] trivial ?_
    refine Runs.sA 1 [.code (C_24 466), .code (C_24 467), .inLoop (C_24 116), .inBlock 0, .code (C_24 15)] ?_
    refine Runs.sC 11 (C_24 932) (C_24 933) (decide (x < ((m.length : Nat) : Int))) (fun hq3 => ?_) (fun hq3 => ?_)
    · have h := condT h hq3
      refine Runs.sA 4 [.code (C_24 3736), .code (C_24 3737), .inBlock 1, .code (C_24 935), .inLoop (C_24 116), .inBlock 0, .code (C_24 15)] ?_
      obtain ⟨c, h⟩ := ifSome h
      refine Runs.sR hE ⟨[(0, (encL Tapi_Mark.cells Tapi_Mark.d m)), (3, (aI x)), (4, (.op 64 0 0)), (8, (encL Tapi_Mark.cells Tapi_Mark.d m)), (9, (aI ((m.length : Nat) : Int))), (10, (aI x))], [(64, vO 2 (Tapi_Mark.cells (m.getD ((x).toNat) Tapi_Mark.d)))], 112⟩ (C_24 3736) [] [] (kp [0, 3, 4, 8, 9, 10]) (kq [64]) 112 [0 ≤ x ∧ x < ((m.length : Nat) : Int), 0 < 1] ⟨c, o1, trivial⟩ ?_
      refine Runs.sA 2 [.code (C_24 14948), .code (C_24 14949), .code (C_24 7475), .inBlock 1, .code (C_24 935), .inLoop (C_24 116), .inBlock 0, .code (C_24 15)] ?_
      obtain ⟨rbetween, hr, h⟩ := bindSome h
      obtain ⟨rbetween2, hr2, h⟩ := bindSome h
      refine Runs.sR hE ⟨[(0, (encL Tapi_Mark.cells Tapi_Mark.d m)), (3, (aI x)), (4, (.op 64 0 0)), (8, (encL Tapi_Mark.cells Tapi_Mark.d m)), (9, (aI ((m.length : Nat) : Int))), (10, (aI x)), (24, (aB (cond (!rbetween) true (!rbetween2))))], [(64, vO 2 (Tapi_Mark.cells (m.getD ((x).toNat) Tapi_Mark.d)))], 272⟩ (C_24 14948) [(2, ⟨[], true, (aB rbetween), [], 0, false⟩), (7, ⟨[], true, (aB rbetween2), [], 0, false⟩)] [] (kp [0, 3, 4, 8, 9, 10, 24]) (kq [64]) 272 [0 < 1, Sound Try.prog 59 [(aI ((m.getD ((x).toNat) Tapi_Mark.d).f_Minute)), (aI 0), (aI 1000000)] [] 0 (aB rbetween) [], (!(!rbetween)) = true → AllP [(!(!rbetween)) = true, 0 < 1], (!(!rbetween)) = true → AllP [Sound Try.prog 59 [(aI ((m.getD ((x).toNat) Tapi_Mark.d).f_Level)), (aI (-1000000)), (aI 1000000)] [] 0 (aB rbetween2) [], (!(!rbetween)) = true], (!(!rbetween)) = true → AllP [(!(!rbetween)) = true], (!(!rbetween)) = true → AllP [(!(!rbetween)) = true]] ⟨o1, (g_water_between_ok N ((m.getD ((x).toNat) Tapi_Mark.d).f_Minute) 0 1000000 rbetween hr), (fun hg => ⟨hg, o1, trivial⟩), (fun hg => ⟨(g_water_between_ok N ((m.getD ((x).toNat) Tapi_Mark.d).f_Level) (-1000000) 1000000 rbetween2 (condT hr2 hg)), hg, trivial⟩), (fun hg => ⟨hg, trivial⟩), (fun hq => ⟨hq, trivial⟩), trivial⟩ ?_
      refine Runs.sC 24 (C_24 29898) (C_24 29899) (cond (!rbetween) true (!rbetween2)) (fun hq4 => ?_) (fun hq4 => ?_)
      · have h := condT h hq4
        refine Runs.sA 1 [.code (C_24 59796), .code (C_24 59797), .code (C_24 7475), .inBlock 1, .code (C_24 935), .inLoop (C_24 116), .inBlock 0, .code (C_24 15)] ?_
        refine Runs.sR hE ⟨[(2, (aI 2))], [], 288⟩ (C_24 59796) [] [] (kp [2]) [] 288 [] trivial ?_
        obtain rfl := Option.some.inj h
        refine Runs.sW hE ⟨[(2, (aI 2))], [], 288⟩ [] (kp [2]) [] 288 [] trivial ?_
        exact Runs.sT Try.f24 [] [] trivial
      · have h := condF h hq4
        refine Runs.sA 2 [.code (C_24 14950), .code (C_24 14951), .inBlock 1, .code (C_24 935), .inLoop (C_24 116), .inBlock 0, .code (C_24 15)] ?_
        obtain ⟨c2, h⟩ := ifSome h
        refine Runs.sR hE ⟨[(0, (encL Tapi_Mark.cells Tapi_Mark.d m)), (8, (encL Tapi_Mark.cells Tapi_Mark.d m)), (9, (aI ((m.length : Nat) : Int))), (10, (aI x)), (37, (aB (cond (decide (x > 0)) (decide ((m.getD ((x).toNat) Tapi_Mark.d).f_Minute ≤ (m.getD ((w64 (x - 1)).toNat) Tapi_Mark.d).f_Minute)) false)))], [], 480⟩ (C_24 14950) [] [] (kp [0, 8, 9, 10, 37]) [] 480 [(decide (x > 0)) = true → AllP [(decide (x > 0)) = true, 0 < 1], (decide (x > 0)) = true → AllP [(decide (x > 0)) = true], (decide (x > 0)) = true → AllP [(decide (x > 0)) = true, (decide (x > 0)) = true, 0 ≤ (w64 (x - 1)) ∧ (w64 (x - 1)) < ((m.length : Nat) : Int)], (decide (x > 0)) = true → AllP [(decide (x > 0)) = true], (decide (x > 0)) = true → AllP [(decide (x > 0)) = true], (decide (x > 0)) = true → AllP [(decide (x > 0)) = true, (decide (x > 0)) = true], (decide (x > 0)) = true → AllP [(decide (x > 0)) = true]] ⟨(fun hg => ⟨hg, o1, trivial⟩), (fun hg => ⟨hg, trivial⟩), (fun hg => ⟨hg, hg, (c2 hg), trivial⟩), (fun hg => ⟨hg, trivial⟩), (fun hg => ⟨hg, trivial⟩), (fun hg => ⟨hg, hg, trivial⟩), (fun hq => ⟨hq, trivial⟩), trivial⟩ ?_
        refine Runs.sC 37 (C_24 29902) (C_24 29903) (cond (decide (x > 0)) (decide ((m.getD ((x).toNat) Tapi_Mark.d).f_Minute ≤ (m.getD ((w64 (x - 1)).toNat) Tapi_Mark.d).f_Minute)) false) (fun hq5 => ?_) (fun hq5 => ?_)
        · have h := condT h hq5
          refine Runs.sA 1 [.code (C_24 59804), .code (C_24 59805), .inBlock 1, .code (C_24 935), .inLoop (C_24 116), .inBlock 0, .code (C_24 15)] ?_
          refine Runs.sR hE ⟨[(2, (aI 10))], [], 496⟩ (C_24 59804) [] [] (kp [2]) [] 496 [] trivial ?_
          obtain rfl := Option.some.inj h
          refine Runs.sW hE ⟨[(2, (aI 10))], [], 496⟩ [] (kp [2]) [] 496 [] trivial ?_
          exact Runs.sT Try.f24 [] [] trivial
        · have h := condF h hq5
          refine Runs.sA 2 [.code (C_24 935), .inLoop (C_24 116), .inBlock 0, .code (C_24 15)] ?_
          refine Runs.sR hE ⟨[(0, (encL Tapi_Mark.cells Tapi_Mark.d m)), (8, (encL Tapi_Mark.cells Tapi_Mark.d m)), (9, (aI ((m.length : Nat) : Int))), (10, (aI (w64 (x + 1))))], [], 512⟩ (C_24 935) [] [] (kp [0, 8, 9, 10]) [] 512 [] trivial ?_
          refine Runs.sA 1 [.code (C_24 116), .inLoop (C_24 116), .inBlock 0, .code (C_24 15)] ?_
          exact Runs.sW hE _ [] (kp [0, 8, 9, 10]) [] 0 [] trivial (ih (w64 (x + 1)) _ h E hE)
    · have h := condF h hq3
      refine Runs.sA 2 [.code (C_24 30), .code (C_24 31)] ?_
      refine Runs.sR hE ⟨[(2, (aI 0))], [], 32⟩ (C_24 30) [] [] (kp [2]) [] 32 [] trivial ?_
      obtain rfl := Option.some.inj h
      refine Runs.sW hE ⟨[(2, (aI 0))], [], 48⟩ [] (kp [2]) [] 48 [] trivial ?_
      exact Runs.sT Try.f24 [] [] trivial

theorem g_water_CheckSea_ok (N : Nat) (m : List Tapi_Mark) (r : Int) (h : g_water_CheckSea N m = some r) : Sound Try.prog 24 [(encL Tapi_Mark.cells Tapi_Mark.d m)] [] 0 (aI r) [] := by
  unfold g_water_CheckSea at h
  refine Sound.of_runs (fu := Try.f24) (c := C_24 1) (nt := 39) (by kernel_rfl) (by kernel_rfl) (by kernel_rfl) (by kernel_rfl) (fun hm => rfl) ?_
  intro E hE
  refine Runs.sA 1 [.code (C_24 2), .code (C_24 3)] ?_
  refine Runs.sR hE ⟨[(0, (encL Tapi_Mark.cells Tapi_Mark.d m))], [], 16⟩ (C_24 2) [] [] (kp [0]) [] 16 [] trivial ?_
  refine Runs.sA 2 [.code (C_24 12), .code (C_24 13), .code (C_24 7)] ?_
  refine Runs.sR hE ⟨[(0, (encL Tapi_Mark.cells Tapi_Mark.d m)), (7, (aB (decide (((m.length : Nat) : Int) > 400))))], [], 64⟩ (C_24 12) [] [] (kp [0, 7]) [] 64 [] trivial ?_
  refine Runs.sC 7 (C_24 26) (C_24 27) (decide (((m.length : Nat) : Int) > 400)) (fun hq2 => ?_) (fun hq2 => ?_)
  · have h := condT h hq2
    refine Runs.sA 1 [.code (C_24 52), .code (C_24 53), .code (C_24 7)] ?_
    refine Runs.sR hE ⟨[(2, (aI 8))], [], 80⟩ (C_24 52) [] [] (kp [2]) [] 80 [] trivial ?_
    obtain rfl := Option.some.inj h
    refine Runs.sW hE ⟨[(2, (aI 8))], [], 80⟩ [] (kp [2]) [] 80 [] trivial ?_
    exact Runs.sT Try.f24 [] [] trivial
  · have h := condF h hq2
    refine Runs.sA 3 [.code (C_24 28), .code (C_24 29), .code (C_24 15)] ?_
    refine Runs.sR hE ⟨[(0, (encL Tapi_Mark.cells Tapi_Mark.d m)), (8, (encL Tapi_Mark.cells Tapi_Mark.d m)), (9, (aI ((m.length : Nat) : Int))), (10, (aI 0))], [], 112⟩ (C_24 28) [] [] (kp [0, 8, 9, 10]) [] 112 [] trivial ?_
    refine Runs.sA 2 [.code (C_24 116), .inLoop (C_24 116), .inBlock 0, .code (C_24 15)] ?_
    exact Runs.sW hE _ [] (kp [0, 8, 9, 10]) [] 0 [] trivial (g_water_CheckSea_L1_ok N m N 0 _ h E hE)

noncomputable def C_27 (n : Nat) : Code := cat (bodyOf Try.f101) (pth n)

theorem g_water_tide_1_ok (N : Nat) (i : Int) (cap0 : List Tapi_Mark) (cap1 : Int) (r : Bool) (h : g_water_tide_1 N i cap0 cap1 = some r) : Sound Try.prog 101 [(aI i), (.op 0 0 0), (.op 1 0 0)] [(0, vO 1 [(encL Tapi_Mark.cells Tapi_Mark.d cap0)]), (1, vO 1 [(aI cap1)])] 2 (aB r) [(0, vO 1 [(encL Tapi_Mark.cells Tapi_Mark.d cap0)]), (1, vO 1 [(aI cap1)])] := by
  unfold g_water_tide_1 at h
  refine Sound.of_runs (fu := Try.f101) (c := C_27 1) (nt := 12) (by kernel_rfl) (by kernel_rfl) (by kernel_rfl) (by kernel_rfl) (fun hm => absurd hm (by decide)) ?_
  intro E hE
  refine Runs.sA 1 [.code (C_27 2), .code (C_27 3)] ?_
  refine Runs.sR hE ⟨[(0, (aI i)), (1, (.op 0 0 0)), (2, (.op 1 0 0))], [(0, vO 1 [(encL Tapi_Mark.cells Tapi_Mark.d cap0)]), (1, vO 1 [(aI cap1)])], 18⟩ (C_27 2) [] [] (kp [0, 1, 2]) (kq [0, 1]) 18 [] trivial ?_
  refine Runs.sA 1 [.code (C_27 6), .code (C_27 7)] ?_
  obtain ⟨c, h⟩ := ifSome h
  refine Runs.sR hE ⟨[(4, (aB (decide ((cap0.getD ((i).toNat) Tapi_Mark.d).f_Minute > cap1))))], [(0, vO 1 [(encL Tapi_Mark.cells Tapi_Mark.d cap0)]), (1, vO 1 [(aI cap1)])], 146⟩ (C_27 6) [] [] (kp [4]) (kq [0, 1]) 146 [0 < 1, 0 ≤ i ∧ i < ((cap0.length : Nat) : Int), 0 < 1] ⟨o1, c, o1, trivial⟩ ?_
  obtain rfl := Option.some.inj h
  refine Runs.sW hE ⟨[(4, (aB (decide ((cap0.getD ((i).toNat) Tapi_Mark.d).f_Minute > cap1))))], [(0, vO 1 [(encL Tapi_Mark.cells Tapi_Mark.d cap0)]), (1, vO 1 [(aI cap1)])], 146⟩ [] (kp [4]) (kq [0, 1]) 146 [] trivial ?_
  exact Runs.sT Try.f101 [] [] trivial

noncomputable def C_26 (n : Nat) : Code := cat (bodyOf Try.f98) (pth n)

theorem g_sort_Search_L1_ok (N : Nat) (cap0 : List Tapi_Mark) (cap1 : Int) (fuel : Nat) : ∀ (i : Int) (j : Int) (r : Int), g_sort_Search_L1 N cap0 cap1 fuel i j = some r → ∀ E, EnvOk E 2 → Runs Try.prog E 98 26 (SPost E [(0, vO 1 [(encL Tapi_Mark.cells Tapi_Mark.d cap0)]), (1, vO 1 [(aI cap1)])] (aI r)) [.code (C_26 56), .inLoop (C_26 56), .inBlock 0, .code (C_26 15)] ⟨[(1, (.fn (.func 101) [] [(.op 0 0 0), (.op 1 0 0)])), (5, (aI i)), (6, (aI j))], [(0, vO 1 [(encL Tapi_Mark.cells Tapi_Mark.d cap0)]), (1, vO 1 [(aI cap1)])], 2⟩ := by
  induction fuel with
  | zero => intro _ _ r h; rw [g_sort_Search_L1.eq_1] at h; cases h
  | succ fuel ih =>
    intro i j r h E hE
    rw [g_sort_Search_L1.eq_2] at h
    refine Runs.sA 2 [.code (C_26 224), .code (C_26 225), .code (C_26 113), .inLoop (C_26 56), .inBlock 0, .code (C_26 15)] ?_
    refine Runs.sR hE ⟨[(1, (.fn (.func 101) [] [(.op 0 0 0), (.op 1 0 0)])), (5, (aI i)), (6, (aI j)), (11, (aB (decide (i < j))))], [(0, vO 1 [(encL Tapi_Mark.cells Tapi_Mark.d cap0)]), (1, vO 1 [(aI cap1)])], 50⟩ (C_26 224) [] [] (kp [1, 5, 6, 11]) (kq [0, 1]) 50 [] trivial ?_
    refine Runs.sC 11 (C_26 450) (C_26 451) (decide (i < j)) (fun hq2 => ?_) (fun hq2 => ?_)
    · have h := condT h hq2
      refine Runs.sA 3 [.code (C_26 452), .code (C_26 453), .inBlock 1, .inLoop (C_26 56), .inBlock 0, .code (C_26 15)] ?_
      refine Runs.sR hE ⟨[(1, (.fn (.func 101) [] [(.op 0 0 0), (.op 1 0 0)])), (5, (aI i)), (6, (aI j)), (7, (aI (w64 ((shrI .u64 (IntKind.u64.wrap ((w64 (i + j)))) 1)))))], [(0, vO 1 [(encL Tapi_Mark.cells Tapi_Mark.d cap0)]), (1, vO 1 [(aI cap1)])], 162⟩ (C_26 452) [] [] (kp [1, 5, 6, 7]) (kq [0, 1]) 162 [(0 : Int) ≤ 1] ⟨(by decide), trivial⟩ ?_
      refine Runs.sA 1 [.code (C_26 906), .code (C_26 907), .inBlock 1, .inLoop (C_26 56), .inBlock 0, .code (C_26 15)] ?_
      obtain ⟨rtide1, hr, h⟩ := bindSome h
      refine Runs.sR hE ⟨[(1, (.fn (.func 101) [] [(.op 0 0 0), (.op 1 0 0)])), (5, (aI i)), (6, (aI j)), (7, (aI (w64 ((shrI .u64 (IntKind.u64.wrap ((w64 (i + j)))) 1))))), (21, (aB (!rtide1)))], [(0, vO 1 [(encL Tapi_Mark.cells Tapi_Mark.d cap0)]), (1, vO 1 [(aI cap1)])], 226⟩ (C_26 906) [(2, ⟨[0, 1], true, (aB rtide1), [], 0, false⟩)] [] (kp [1, 5, 6, 7, 21]) (kq [0, 1]) 226 [Sound Try.prog 101 [(aI (w64 ((shrI .u64 (IntKind.u64.wrap ((w64 (i + j)))) 1)))), (.op 0 0 0), (.op 1 0 0)] [(0, vO 1 [(encL Tapi_Mark.cells Tapi_Mark.d cap0)]), (1, vO 1 [(aI cap1)])] 2 (aB rtide1) [(0, vO 1 [(encL Tapi_Mark.cells Tapi_Mark.d cap0)]), (1, vO 1 [(aI cap1)])]] ⟨(g_water_tide_1_ok N (w64 ((shrI .u64 (IntKind.u64.wrap ((w64 (i + j)))) 1))) cap0 cap1 rtide1 hr), trivial⟩ ?_
      refine Runs.sC 21 (C_26 1814) (C_26 1815) (!rtide1) (fun hq3 => ?_) (fun hq3 => ?_)
      · have h := condT h hq3
        refine Runs.sR hE ⟨[(1, (.fn (.func 101) [] [(.op 0 0 0), (.op 1 0 0)])), (5, (aI (w64 ((w64 ((shrI .u64 (IntKind.u64.wrap ((w64 (i + j)))) 1))) + 1)))), (6, (aI j))], [(0, vO 1 [(encL Tapi_Mark.cells Tapi_Mark.d cap0)]), (1, vO 1 [(aI cap1)])], 274⟩ (C_26 1814) [] [] (kp [1, 5, 6]) (kq [0, 1]) 274 [] trivial ?_
        refine Runs.sA 2 [.code (C_26 56), .inLoop (C_26 56), .inBlock 0, .code (C_26 15)] ?_
        exact Runs.sW hE _ [] (kp [1, 5, 6]) (kq [0, 1]) 2 [] trivial (ih (w64 ((w64 ((shrI .u64 (IntKind.u64.wrap ((w64 (i + j)))) 1))) + 1)) j _ h E hE)
      · have h := condF h hq3
        refine Runs.sR hE ⟨[(1, (.fn (.func 101) [] [(.op 0 0 0), (.op 1 0 0)])), (5, (aI i)), (6, (aI (w64 ((shrI .u64 (IntKind.u64.wrap ((w64 (i + j)))) 1)))))], [(0, vO 1 [(encL Tapi_Mark.cells Tapi_Mark.d cap0)]), (1, vO 1 [(aI cap1)])], 258⟩ (C_26 1815) [] [] (kp [1, 5, 6]) (kq [0, 1]) 258 [] trivial ?_
        refine Runs.sA 2 [.code (C_26 56), .inLoop (C_26 56), .inBlock 0, .code (C_26 15)] ?_
        exact Runs.sW hE _ [] (kp [1, 5, 6]) (kq [0, 1]) 2 [] trivial (ih i (w64 ((shrI .u64 (IntKind.u64.wrap ((w64 (i + j)))) 1))) _ h E hE)
    · have h := condF h hq2
      refine Runs.sA 2 [.code (C_26 30), .code (C_26 31)] ?_
      refine Runs.sR hE ⟨[(4, (aI i))], [(0, vO 1 [(encL Tapi_Mark.cells Tapi_Mark.d cap0)]), (1, vO 1 [(aI cap1)])], 82⟩ (C_26 30) [] [] (kp [4]) (kq [0, 1]) 82 [] trivial ?_
      obtain rfl := Option.some.inj h
      refine Runs.sW hE ⟨[(4, (aI i))], [(0, vO 1 [(encL Tapi_Mark.cells Tapi_Mark.d cap0)]), (1, vO 1 [(aI cap1)])], 82⟩ [] (kp [4]) (kq [0, 1]) 82 [] trivial ?_
      exact Runs.sT Try.f98 [] [] trivial

theorem g_sort_Search_ok (N : Nat) (n : Int) (cap0 : List Tapi_Mark) (cap1 : Int) (r : Int) (h : g_sort_Search N n cap0 cap1 = some r) : Sound Try.prog 98 [(aI n), (.fn (.func 101) [] [(.op 0 0 0), (.op 1 0 0)])] [(0, vO 1 [(encL Tapi_Mark.cells Tapi_Mark.d cap0)]), (1, vO 1 [(aI cap1)])] 2 (aI r) [(0, vO 1 [(encL Tapi_Mark.cells Tapi_Mark.d cap0)]), (1, vO 1 [(aI cap1)])] := by
  unfold g_sort_Search at h
  refine Sound.of_runs (fu := Try.f98) (c := C_26 1) (nt := 26) (by kernel_rfl) (by kernel_rfl) (by kernel_rfl) (by kernel_rfl) (fun hm => absurd hm (by decide)) ?_
  intro E hE
  refine Runs.sA 1 [.code (C_26 2), .code (C_26 3)] ?_
  refine Runs.sR hE ⟨[(0, (aI n)), (1, (.fn (.func 101) [] [(.op 0 0 0), (.op 1 0 0)]))], [(0, vO 1 [(encL Tapi_Mark.cells Tapi_Mark.d cap0)]), (1, vO 1 [(aI cap1)])], 18⟩ (C_26 2) [] [] (kp [0, 1]) (kq [0, 1]) 18 [] trivial ?_
  refine Runs.sA 1 [.code (C_26 6), .code (C_26 7)] ?_
  refine Runs.sR hE ⟨[(1, (.fn (.func 101) [] [(.op 0 0 0), (.op 1 0 0)])), (5, (aI 0)), (6, (aI n))], [(0, vO 1 [(encL Tapi_Mark.cells Tapi_Mark.d cap0)]), (1, vO 1 [(aI cap1)])], 66⟩ (C_26 6) [] [] (kp [1, 5, 6]) (kq [0, 1]) 66 [] trivial ?_
  refine Runs.sA 3 [.code (C_26 56), .inLoop (C_26 56), .inBlock 0, .code (C_26 15)] ?_
  exact Runs.sW hE _ [] (kp [1, 5, 6]) (kq [0, 1]) 2 [] trivial (g_sort_Search_L1_ok N cap0 cap1 N 0 n _ h E hE)

noncomputable def C_25 (n : Nat) : Code := cat (bodyOf Try.f70) (pth n)

theorem g_water_tide_J1_ok (N : Nat) (m : List Tapi_Mark) (rSearch : Int) (down : Int) (r : Int) (h : g_water_tide_J1 N m rSearch down = some r) : ∀ E, EnvOk E 0 → Runs Try.prog E 70 70 (SPost E [] (aI r)) [.code (C_25 510), .code (C_25 511)] ⟨[(6, (.op 0 0 0)), (10, (aI down))], [(0, vO 2 (Tapi_Mark.cells (m.getD ((w64 (rSearch - 1)).toNat) Tapi_Mark.d)))], 1⟩ := by
  intro E hE
  unfold g_water_tide_J1 at h
  refine Runs.sR hE ⟨[(4, (aI (w64 ((m.getD ((w64 (rSearch - 1)).toNat) Tapi_Mark.d).f_Level + down))))], [], 81⟩ (C_25 510) [] [] (kp [4]) [] 81 [0 < 1] ⟨o1, trivial⟩ ?_
  obtain rfl := Option.some.inj h
  refine Runs.sW hE ⟨[(4, (aI (w64 ((m.getD ((w64 (rSearch - 1)).toNat) Tapi_Mark.d).f_Level + down))))], [], 81⟩ [] (kp [4]) [] 81 [] trivial ?_
  exact Runs.sT Try.f70 [] [] trivial

theorem g_water_tide_ok (N : Nat) (m : List Tapi_Mark) (minute : Int) (r : Int) (h : g_water_tide N m minute = some r) : Sound Try.prog 70 [(encL Tapi_Mark.cells Tapi_Mark.d m), (aI minute)] [] 0 (aI r) [] := by
  unfold g_water_tide at h
  refine Sound.of_runs (fu := Try.f70) (c := C_25 1) (nt := 70) (by kernel_rfl) (by kernel_rfl) (by kernel_rfl) (by kernel_rfl) (fun hm => rfl) ?_
  intro E hE
  refine Runs.sA 1 [.code (C_25 2), .code (C_25 3)] ?_
  refine Runs.sR hE ⟨[(2, (.op 0 0 0)), (3, (.op 16 0 0))], [(0, vO 1 [(encL Tapi_Mark.cells Tapi_Mark.d m)]), (16, vO 1 [(aI minute)])], 48⟩ (C_25 2) [] [] (kp [2, 3]) (kq [0, 16]) 48 [] trivial ?_
  refine Runs.sA 1 [.code (C_25 6), .code (C_25 7)] ?_
  obtain ⟨rSearch, hr, h⟩ := bindSome h
  refine Runs.sR hE ⟨[(2, (.op 0 0 0)), (3, (.op 16 0 0)), (5, (aI rSearch))], [(0, vO 1 [(encL Tapi_Mark.cells Tapi_Mark.d m)]), (16, vO 1 [(aI minute)])], 128⟩ (C_25 6) [(3, ⟨[0, 16], true, (aI rSearch), [], 0, false⟩)] [] (kp [2, 3, 5]) (kq [0, 16]) 128 [0 < 1, Sound Try.prog 98 [(aI ((m.length : Nat) : Int)), (.fn (.func 101) [] [(.op 0 0 0), (.op 1 0 0)])] [(0, vO 1 [(encL Tapi_Mark.cells Tapi_Mark.d m)]), (1, vO 1 [(aI minute)])] 2 (aI rSearch) [(0, vO 1 [(encL Tapi_Mark.cells Tapi_Mark.d m)]), (1, vO 1 [(aI minute)])]] ⟨o1, (g_sort_Search_ok N ((m.length : Nat) : Int) m minute rSearch hr), trivial⟩ ?_
  refine Runs.sA 3 [.code (C_25 56), .code (C_25 57), .inBlock 0, .code (C_25 15)] ?_
  refine Runs.sR hE ⟨[(2, (.op 0 0 0)), (3, (.op 16 0 0)), (5, (aI rSearch)), (15, (aB (rSearch == 0)))], [(0, vO 1 [(encL Tapi_Mark.cells Tapi_Mark.d m)]), (16, vO 1 [(aI minute)])], 176⟩ (C_25 56) [] [] (kp [2, 3, 5, 15]) (kq [0, 16]) 176 [] trivial ?_
  refine Runs.sC 15 (C_25 114) (C_25 115) (rSearch == 0) (fun hq2 => ?_) (fun hq2 => ?_)
  · have h := condT h hq2
    refine Runs.sA 1 [.code (C_25 228), .code (C_25 229), .inBlock 0, .code (C_25 15)] ?_
    obtain ⟨c, h⟩ := ifSome h
    refine Runs.sR hE ⟨[(4, (aI ((m.getD 0 Tapi_Mark.d).f_Level)))], [], 256⟩ (C_25 228) [] [] (kp [4]) [] 256 [0 < 1, 0 ≤ (0 : Int) ∧ 0 < ((m.length : Nat) : Int)] ⟨o1, c, trivial⟩ ?_
    obtain rfl := Option.some.inj h
    refine Runs.sW hE ⟨[(4, (aI ((m.getD 0 Tapi_Mark.d).f_Level)))], [], 256⟩ [] (kp [4]) [] 256 [] trivial ?_
    exact Runs.sT Try.f70 [] [] trivial
  · have h := condF h hq2
    refine Runs.sA 1 [.code (C_25 230), .code (C_25 231), .inBlock 0, .code (C_25 15)] ?_
    refine Runs.sR hE ⟨[(2, (.op 0 0 0)), (3, (.op 16 0 0)), (5, (aI rSearch)), (22, (aB (rSearch == ((m.length : Nat) : Int))))], [(0, vO 1 [(encL Tapi_Mark.cells Tapi_Mark.d m)]), (16, vO 1 [(aI minute)])], 256⟩ (C_25 230) [] [] (kp [2, 3, 5, 22]) (kq [0, 16]) 256 [0 < 1] ⟨o1, trivial⟩ ?_
    refine Runs.sC 22 (C_25 462) (C_25 463) (rSearch == ((m.length : Nat) : Int)) (fun hq3 => ?_) (fun hq3 => ?_)
    · have h := condT h hq3
      refine Runs.sA 1 [.code (C_25 924), .code (C_25 925), .inBlock 0, .code (C_25 15)] ?_
      obtain ⟨c2, h⟩ := ifSome h
      refine Runs.sR hE ⟨[(4, (aI ((m.getD ((w64 (rSearch - 1)).toNat) Tapi_Mark.d).f_Level)))], [], 368⟩ (C_25 924) [] [] (kp [4]) [] 368 [0 < 1, 0 ≤ (w64 (rSearch - 1)) ∧ (w64 (rSearch - 1)) < ((m.length : Nat) : Int)] ⟨o1, c2, trivial⟩ ?_
      obtain rfl := Option.some.inj h
      refine Runs.sW hE ⟨[(4, (aI ((m.getD ((w64 (rSearch - 1)).toNat) Tapi_Mark.d).f_Level)))], [], 368⟩ [] (kp [4]) [] 368 [] trivial ?_
      exact Runs.sT Try.f70 [] [] trivial
    · have h := condF h hq3
      refine Runs.sA 3 [.code (C_25 30), .code (C_25 31)] ?_
      obtain ⟨c3, h⟩ := ifSome h
      obtain ⟨c4, h⟩ := ifSome h
      refine Runs.sR hE ⟨[(3, (.op 16 0 0)), (6, (.op 400 0 0)), (7, (.op 416 0 0))], [(16, vO 1 [(aI minute)]), (400, vO 2 (Tapi_Mark.cells (m.getD ((w64 (rSearch - 1)).toNat) Tapi_Mark.d))), (416, vO 2 (Tapi_Mark.cells (m.getD ((rSearch).toNat) Tapi_Mark.d)))], 464⟩ (C_25 30) [] [] (kp [3, 6, 7]) (kq [16, 400, 416]) 464 [0 < 1, 0 ≤ (w64 (rSearch - 1)) ∧ (w64 (rSearch - 1)) < ((m.length : Nat) : Int), 0 < 1, 0 ≤ rSearch ∧ rSearch < ((m.length : Nat) : Int), 0 < 1, 0 < 1] ⟨o1, c3, o1, c4, o1, o1, trivial⟩ ?_
      refine Runs.sA 1 [.code (C_25 62), .code (C_25 63)] ?_
      refine Runs.sR hE ⟨[(6, (.op 400 0 0)), (8, (aI (w64 ((w64 ((m.getD ((rSearch).toNat) Tapi_Mark.d).f_Level - (m.getD ((w64 (rSearch - 1)).toNat) Tapi_Mark.d).f_Level)) * (w64 (minute - (m.getD ((w64 (rSearch - 1)).toNat) Tapi_Mark.d).f_Minute)))))), (9, (aI (w64 ((m.getD ((rSearch).toNat) Tapi_Mark.d).f_Minute - (m.getD ((w64 (rSearch - 1)).toNat) Tapi_Mark.d).f_Minute))))], [(400, vO 2 (Tapi_Mark.cells (m.getD ((w64 (rSearch - 1)).toNat) Tapi_Mark.d)))], 736⟩ (C_25 62) [] [] (kp [6, 8, 9]) (kq [400]) 736 [0 < 1, 0 < 1, 0 < 1, 0 < 1, 0 < 1, 0 < 1] ⟨o1, o1, o1, o1, o1, o1, trivial⟩ ?_
      refine Runs.sA 1 [.code (C_25 126), .code (C_25 127)] ?_
      obtain ⟨c5, h⟩ := ifSome h
      refine Runs.sR hE ⟨[(6, (.op 400 0 0)), (8, (aI (w64 ((w64 ((m.getD ((rSearch).toNat) Tapi_Mark.d).f_Level - (m.getD ((w64 (rSearch - 1)).toNat) Tapi_Mark.d).f_Level)) * (w64 (minute - (m.getD ((w64 (rSearch - 1)).toNat) Tapi_Mark.d).f_Minute)))))), (9, (aI (w64 ((m.getD ((rSearch).toNat) Tapi_Mark.d).f_Minute - (m.getD ((w64 (rSearch - 1)).toNat) Tapi_Mark.d).f_Minute)))), (10, (aI (w64 ((w64 ((w64 ((m.getD ((rSearch).toNat) Tapi_Mark.d).f_Level - (m.getD ((w64 (rSearch - 1)).toNat) Tapi_Mark.d).f_Level)) * (w64 (minute - (m.getD ((w64 (rSearch - 1)).toNat) Tapi_Mark.d).f_Minute)))).tdiv (w64 ((m.getD ((rSearch).toNat) Tapi_Mark.d).f_Minute - (m.getD ((w64 (rSearch - 1)).toNat) Tapi_Mark.d).f_Minute))))))], [(400, vO 2 (Tapi_Mark.cells (m.getD ((w64 (rSearch - 1)).toNat) Tapi_Mark.d)))], 800⟩ (C_25 126) [] [] (kp [6, 8, 9, 10]) (kq [400]) 800 [((w64 ((m.getD ((rSearch).toNat) Tapi_Mark.d).f_Minute - (m.getD ((w64 (rSearch - 1)).toNat) Tapi_Mark.d).f_Minute)) : Int) ≠ 0] ⟨c5, trivial⟩ ?_
      refine Runs.sA 2 [.code (C_25 508), .code (C_25 509), .code (C_25 255)] ?_
      refine Runs.sR hE ⟨[(6, (.op 400 0 0)), (10, (aI (w64 ((w64 ((w64 ((m.getD ((rSearch).toNat) Tapi_Mark.d).f_Level - (m.getD ((w64 (rSearch - 1)).toNat) Tapi_Mark.d).f_Level)) * (w64 (minute - (m.getD ((w64 (rSearch - 1)).toNat) Tapi_Mark.d).f_Minute)))).tdiv (w64 ((m.getD ((rSearch).toNat) Tapi_Mark.d).f_Minute - (m.getD ((w64 (rSearch - 1)).toNat) Tapi_Mark.d).f_Minute)))))), (63, (aB (decide (((w64 ((w64 ((m.getD ((rSearch).toNat) Tapi_Mark.d).f_Level - (m.getD ((w64 (rSearch - 1)).toNat) Tapi_Mark.d).f_Level)) * (w64 (minute - (m.getD ((w64 (rSearch - 1)).toNat) Tapi_Mark.d).f_Minute)))).tmod (w64 ((m.getD ((rSearch).toNat) Tapi_Mark.d).f_Minute - (m.getD ((w64 (rSearch - 1)).toNat) Tapi_Mark.d).f_Minute))) < 0))))], [(400, vO 2 (Tapi_Mark.cells (m.getD ((w64 (rSearch - 1)).toNat) Tapi_Mark.d)))], 864⟩ (C_25 508) [] [] (kp [6, 10, 63]) (kq [400]) 864 [((w64 ((m.getD ((rSearch).toNat) Tapi_Mark.d).f_Minute - (m.getD ((w64 (rSearch - 1)).toNat) Tapi_Mark.d).f_Minute)) : Int) ≠ 0] ⟨c5, trivial⟩ ?_
      refine Runs.sC 63 (C_25 1018) (C_25 1019) (decide (((w64 ((w64 ((m.getD ((rSearch).toNat) Tapi_Mark.d).f_Level - (m.getD ((w64 (rSearch - 1)).toNat) Tapi_Mark.d).f_Level)) * (w64 (minute - (m.getD ((w64 (rSearch - 1)).toNat) Tapi_Mark.d).f_Minute)))).tmod (w64 ((m.getD ((rSearch).toNat) Tapi_Mark.d).f_Minute - (m.getD ((w64 (rSearch - 1)).toNat) Tapi_Mark.d).f_Minute))) < 0)) (fun hq4 => ?_) (fun hq4 => ?_)
      · have h := condT h hq4
        refine Runs.sR hE ⟨[(6, (.op 400 0 0)), (10, (aI (w64 ((w64 ((w64 ((w64 ((m.getD ((rSearch).toNat) Tapi_Mark.d).f_Level - (m.getD ((w64 (rSearch - 1)).toNat) Tapi_Mark.d).f_Level)) * (w64 (minute - (m.getD ((w64 (rSearch - 1)).toNat) Tapi_Mark.d).f_Minute)))).tdiv (w64 ((m.getD ((rSearch).toNat) Tapi_Mark.d).f_Minute - (m.getD ((w64 (rSearch - 1)).toNat) Tapi_Mark.d).f_Minute)))) - 1))))], [(400, vO 2 (Tapi_Mark.cells (m.getD ((w64 (rSearch - 1)).toNat) Tapi_Mark.d)))], 912⟩ (C_25 1018) [] [] (kp [6, 10]) (kq [400]) 912 [] trivial ?_
        refine Runs.sA 1 [.code (C_25 510), .code (C_25 511)] ?_
        exact Runs.sW hE _ [] (kp [6, 10]) [(0, .keep 400)] 1 [] trivial (g_water_tide_J1_ok N m rSearch (w64 ((w64 ((w64 ((w64 ((m.getD ((rSearch).toNat) Tapi_Mark.d).f_Level - (m.getD ((w64 (rSearch - 1)).toNat) Tapi_Mark.d).f_Level)) * (w64 (minute - (m.getD ((w64 (rSearch - 1)).toNat) Tapi_Mark.d).f_Minute)))).tdiv (w64 ((m.getD ((rSearch).toNat) Tapi_Mark.d).f_Minute - (m.getD ((w64 (rSearch - 1)).toNat) Tapi_Mark.d).f_Minute)))) - 1)) _ h E hE)
      · have h := condF h hq4
        refine Runs.sA 2 [.code (C_25 510), .code (C_25 511)] ?_
        exact Runs.sW hE _ [] (kp [6, 10]) [(0, .keep 400)] 1 [] trivial (g_water_tide_J1_ok N m rSearch (w64 ((w64 ((w64 ((m.getD ((rSearch).toNat) Tapi_Mark.d).f_Level - (m.getD ((w64 (rSearch - 1)).toNat) Tapi_Mark.d).f_Level)) * (w64 (minute - (m.getD ((w64 (rSearch - 1)).toNat) Tapi_Mark.d).f_Minute)))).tdiv (w64 ((m.getD ((rSearch).toNat) Tapi_Mark.d).f_Minute - (m.getD ((w64 (rSearch - 1)).toNat) Tapi_Mark.d).f_Minute)))) _ h E hE)

noncomputable def C_29 (n : Nat) : Code := cat (bodyOf Try.f23) (pth n)

theorem g_r05_CheckSea_L1_ok (N : Nat) (m : List Tapi_Mark) (fuel : Nat) : ∀ (i : Int) (r : Int), g_r05_CheckSea_L1 N m fuel i = some r → ∀ E, EnvOk E 0 → Runs Try.prog E 23 45 (SPost E [] (aI r)) [.code (C_29 116), .inLoop (C_29 116), .inBlock 0, .code (C_29 15)] ⟨[(0, (encL Tapi_Mark.cells Tapi_Mark.d m)), (3, (aI i))], [], 0⟩ := by
  induction fuel with
  | zero => intro _ r h; rw [g_r05_CheckSea_L1.eq_1] at h; cases h
  | succ fuel ih =>
    intro i r h E hE
    rw [g_r05_CheckSea_L1.eq_2] at h
    refine Runs.sA 2 [.code (C_29 464), .code (C_29 465), .code (C_29 233), .inLoop (C_29 116), .inBlock 0, .code (C_29 15)] ?_
    refine Runs.sR hE ⟨[(0, (encL Tapi_Mark.cells Tapi_Mark.d m)), (3, (aI i)), (10, (aB (decide (i < ((m.length : Nat) : Int)))))], [], 64⟩ (C_29 464) [] [] (kp [0, 3, 10]) [] 64 [] trivial ?_
    refine Runs.sC 10 (C_29 930) (C_29 931) (decide (i < ((m.length : Nat) : Int))) (fun hq3 => ?_) (fun hq3 => ?_)
    · have h := condT h hq3
      refine Runs.sA 5 [.code (C_29 3728), .code (C_29 3729), .code (C_29 1865), .inBlock 1, .code (C_29 467), .inLoop (C_29 116), .inBlock 0, .code (C_29 15)] ?_
      obtain ⟨c, h⟩ := ifSome h
      obtain ⟨rinside, hr, h⟩ := bindSome h
      obtain ⟨c2, h⟩ := ifSome h
      obtain ⟨rinside2, hr2, h⟩ := bindSome h
      refine Runs.sR hE ⟨[(0, (encL Tapi_Mark.cells Tapi_Mark.d m)), (3, (aI i)), (28, (aB (cond (!rinside) true (!rinside2))))], [], 320⟩ (C_29 3728) [(5, ⟨[], true, (aB rinside), [], 0, false⟩), (13, ⟨[], true, (aB rinside2), [], 0, false⟩)] [] (kp [0, 3, 28]) [] 320 [0 ≤ i ∧ i < ((m.length : Nat) : Int), Sound Try.prog 62 [(aI ((m.getD ((i).toNat) Tapi_Mark.d).f_Minute)), (aI 0), (aI 1000000)] [] 0 (aB rinside) [], (!(!rinside)) = true → AllP [(!(!rinside)) = true, (!(!rinside)) = true, 0 ≤ i ∧ i < ((m.length : Nat) : Int)], (!(!rinside)) = true → AllP [(!(!rinside)) = true], (!(!rinside)) = true → AllP [(!(!rinside)) = true], (!(!rinside)) = true → AllP [Sound Try.prog 62 [(aI ((m.getD ((i).toNat) Tapi_Mark.d).f_Level)), (aI (-1000000)), (aI 1000000)] [] 0 (aB rinside2) [], (!(!rinside)) = true], (!(!rinside)) = true → AllP [(!(!rinside)) = true], (!(!rinside)) = true → AllP [(!(!rinside)) = true]] ⟨c, (g_r05_inside_ok N ((m.getD ((i).toNat) Tapi_Mark.d).f_Minute) 0 1000000 rinside hr), (fun hg => ⟨hg, hg, (c2 hg), trivial⟩), (fun hg => ⟨hg, trivial⟩), (fun hg => ⟨hg, trivial⟩), (fun hg => ⟨(g_r05_inside_ok N ((m.getD ((i).toNat) Tapi_Mark.d).f_Level) (-1000000) 1000000 rinside2 (condT hr2 hg)), hg, trivial⟩), (fun hg => ⟨hg, trivial⟩), (fun hq => ⟨hq, trivial⟩), trivial⟩ ?_
      refine Runs.sC 28 (C_29 7458) (C_29 7459) (cond (!rinside) true (!rinside2)) (fun hq4 => ?_) (fun hq4 => ?_)
      · have h := condT h hq4
        refine Runs.sA 1 [.code (C_29 14916), .code (C_29 14917), .code (C_29 1865), .inBlock 1, .code (C_29 467), .inLoop (C_29 116), .inBlock 0, .code (C_29 15)] ?_
        refine Runs.sR hE ⟨[(2, (aI 2))], [], 336⟩ (C_29 14916) [] [] (kp [2]) [] 336 [] trivial ?_
        obtain rfl := Option.some.inj h
        refine Runs.sW hE ⟨[(2, (aI 2))], [], 336⟩ [] (kp [2]) [] 336 [] trivial ?_
        exact Runs.sT Try.f23 [] [] trivial
      · have h := condF h hq4
        refine Runs.sA 2 [.code (C_29 3730), .code (C_29 3731), .inBlock 1, .code (C_29 467), .inLoop (C_29 116), .inBlock 0, .code (C_29 15)] ?_
        obtain ⟨c3, h⟩ := ifSome h
        obtain ⟨c4, h⟩ := ifSome h
        refine Runs.sR hE ⟨[(0, (encL Tapi_Mark.cells Tapi_Mark.d m)), (3, (aI i)), (44, (aB (cond (decide (i > 0)) (decide ((m.getD ((i).toNat) Tapi_Mark.d).f_Minute ≤ (m.getD ((w64 (i - 1)).toNat) Tapi_Mark.d).f_Minute)) false)))], [], 576⟩ (C_29 3730) [] [] (kp [0, 3, 44]) [] 576 [(decide (i > 0)) = true → AllP [(decide (i > 0)) = true, (decide (i > 0)) = true, 0 ≤ i ∧ i < ((m.length : Nat) : Int)], (decide (i > 0)) = true → AllP [(decide (i > 0)) = true], (decide (i > 0)) = true → AllP [(decide (i > 0)) = true], (decide (i > 0)) = true → AllP [(decide (i > 0)) = true], (decide (i > 0)) = true → AllP [(decide (i > 0)) = true, (decide (i > 0)) = true, 0 ≤ (w64 (i - 1)) ∧ (w64 (i - 1)) < ((m.length : Nat) : Int)], (decide (i > 0)) = true → AllP [(decide (i > 0)) = true], (decide (i > 0)) = true → AllP [(decide (i > 0)) = true], (decide (i > 0)) = true → AllP [(decide (i > 0)) = true, (decide (i > 0)) = true], (decide (i > 0)) = true → AllP [(decide (i > 0)) = true]] ⟨(fun hg => ⟨hg, hg, (c3 hg), trivial⟩), (fun hg => ⟨hg, trivial⟩), (fun hg => ⟨hg, trivial⟩), (fun hg => ⟨hg, trivial⟩), (fun hg => ⟨hg, hg, (c4 hg), trivial⟩), (fun hg => ⟨hg, trivial⟩), (fun hg => ⟨hg, trivial⟩), (fun hg => ⟨hg, hg, trivial⟩), (fun hq => ⟨hq, trivial⟩), trivial⟩ ?_
        refine Runs.sC 44 (C_29 7462) (C_29 7463) (cond (decide (i > 0)) (decide ((m.getD ((i).toNat) Tapi_Mark.d).f_Minute ≤ (m.getD ((w64 (i - 1)).toNat) Tapi_Mark.d).f_Minute)) false) (fun hq5 => ?_) (fun hq5 => ?_)
        · have h := condT h hq5
          refine Runs.sA 1 [.code (C_29 14924), .code (C_29 14925), .inBlock 1, .code (C_29 467), .inLoop (C_29 116), .inBlock 0, .code (C_29 15)] ?_
          refine Runs.sR hE ⟨[(2, (aI 10))], [], 592⟩ (C_29 14924) [] [] (kp [2]) [] 592 [] trivial ?_
          obtain rfl := Option.some.inj h
          refine Runs.sW hE ⟨[(2, (aI 10))], [], 592⟩ [] (kp [2]) [] 592 [] trivial ?_
          exact Runs.sT Try.f23 [] [] trivial
        · have h := condF h hq5
          refine Runs.sA 2 [.code (C_29 467), .inLoop (C_29 116), .inBlock 0, .code (C_29 15)] ?_
          refine Runs.sR hE ⟨[(0, (encL Tapi_Mark.cells Tapi_Mark.d m)), (3, (aI (w64 (i + 1))))], [], 624⟩ (C_29 467) [] [] (kp [0, 3]) [] 624 [] trivial ?_
          refine Runs.sA 1 [.code (C_29 116), .inLoop (C_29 116), .inBlock 0, .code (C_29 15)] ?_
          exact Runs.sW hE _ [] (kp [0, 3]) [] 0 [] trivial (ih (w64 (i + 1)) _ h E hE)
    · have h := condF h hq3
      refine Runs.sA 2 [.code (C_29 30), .code (C_29 31)] ?_
      refine Runs.sR hE ⟨[(2, (aI 0))], [], 80⟩ (C_29 30) [] [] (kp [2]) [] 80 [] trivial ?_
      obtain rfl := Option.some.inj h
      refine Runs.sW hE ⟨[(2, (aI 0))], [], 80⟩ [] (kp [2]) [] 80 [] trivial ?_
      exact Runs.sT Try.f23 [] [] trivial

theorem g_r05_CheckSea_ok (N : Nat) (m : List Tapi_Mark) (r : Int) (h : g_r05_CheckSea N m = some r) : Sound Try.prog 23 [(encL Tapi_Mark.cells Tapi_Mark.d m)] [] 0 (aI r) [] := by
  unfold g_r05_CheckSea at h
  refine Sound.of_runs (fu := Try.f23) (c := C_29 1) (nt := 45) (by kernel_rfl) (by kernel_rfl) (by kernel_rfl) (by kernel_rfl) (fun hm => rfl) ?_
  intro E hE
  refine Runs.sA 1 [.code (C_29 2), .code (C_29 3)] ?_
  refine Runs.sR hE ⟨[(0, (encL Tapi_Mark.cells Tapi_Mark.d m))], [], 16⟩ (C_29 2) [] [] (kp [0]) [] 16 [] trivial ?_
  refine Runs.sA 2 [.code (C_29 12), .code (C_29 13), .code (C_29 7)] ?_
  refine Runs.sR hE ⟨[(0, (encL Tapi_Mark.cells Tapi_Mark.d m)), (6, (aB (decide (((m.length : Nat) : Int) > 400))))], [], 64⟩ (C_29 12) [] [] (kp [0, 6]) [] 64 [] trivial ?_
  refine Runs.sC 6 (C_29 26) (C_29 27) (decide (((m.length : Nat) : Int) > 400)) (fun hq2 => ?_) (fun hq2 => ?_)
  · have h := condT h hq2
    refine Runs.sA 1 [.code (C_29 52), .code (C_29 53), .code (C_29 7)] ?_
    refine Runs.sR hE ⟨[(2, (aI 8))], [], 80⟩ (C_29 52) [] [] (kp [2]) [] 80 [] trivial ?_
    obtain rfl := Option.some.inj h
    refine Runs.sW hE ⟨[(2, (aI 8))], [], 80⟩ [] (kp [2]) [] 80 [] trivial ?_
    exact Runs.sT Try.f23 [] [] trivial
  · have h := condF h hq2
    refine Runs.sA 3 [.code (C_29 28), .code (C_29 29), .code (C_29 15)] ?_
    refine Runs.sR hE ⟨[(0, (encL Tapi_Mark.cells Tapi_Mark.d m)), (3, (aI 0))], [], 80⟩ (C_29 28) [] [] (kp [0, 3]) [] 80 [] trivial ?_
    refine Runs.sA 2 [.code (C_29 116), .inLoop (C_29 116), .inBlock 0, .code (C_29 15)] ?_
    exact Runs.sW hE _ [] (kp [0, 3]) [] 0 [] trivial (g_r05_CheckSea_L1_ok N m N 0 _ h E hE)

noncomputable def C_37 (n : Nat) : Code := cat (bodyOf Try.f26) (pth n)

theorem g_w05_short_L2_ok (N : Nat) (n : Tapi_Network) (fuel : Nat) : ∀ (i2 : Int) (r : Bool), g_w05_short_L2 N n fuel i2 = some r → ∀ E, EnvOk E 0 → Runs Try.prog E 26 87 (SPost E [] (aB r)) [.code (C_37 244), .inLoop (C_37 244), .inBlock 2, .code (C_37 31)] ⟨[(1, (.op 0 0 0)), (4, (aI i2))], [(0, vO 3 (Tapi_Network.cells n))], 1⟩ := by
  induction fuel with
  | zero => intro _ r h; rw [g_w05_short_L2.eq_1] at h; cases h
  | succ fuel ih =>
    intro i2 r h E hE
    rw [g_w05_short_L2.eq_2] at h
    refine Runs.sA 2 [.code (C_37 976), .code (C_37 977), .code (C_37 489), .inLoop (C_37 244), .inBlock 2, .code (C_37 31)] ?_
    refine Runs.sR hE ⟨[(1, (.op 0 0 0)), (4, (aI i2)), (56, (aB (decide (i2 < ((n.f_Links.length : Nat) : Int)))))], [(0, vO 3 (Tapi_Network.cells n))], 81⟩ (C_37 976) [] [] (kp [1, 4, 56]) (kq [0]) 81 [0 < 1] ⟨o1, trivial⟩ ?_
    refine Runs.sC 56 (C_37 1954) (C_37 1955) (decide (i2 < ((n.f_Links.length : Nat) : Int))) (fun hq5 => ?_) (fun hq5 => ?_)
    · have h := condT h hq5
      refine Runs.sA 4 [.code (C_37 3912), .code (C_37 3913), .inBlock 3, .code (C_37 979), .inLoop (C_37 244), .inBlock 2, .code (C_37 31)] ?_
      obtain ⟨c3, h⟩ := ifSome h
      obtain ⟨c4, h⟩ := ifSome h
      obtain ⟨c5, h⟩ := ifSome h
      refine Runs.sR hE ⟨[(1, (.op 0 0 0)), (4, (aI i2)), (86, (aB (cond (cond (decide (((((n.f_Links.getD ((i2).toNat) Tapi_Link.d).f_Name).size : Nat) : Int) > 40)) true (decide (((((n.f_Links.getD ((i2).toNat) Tapi_Link.d).f_From).size : Nat) : Int) > 40))) true (decide (((((n.f_Links.getD ((i2).toNat) Tapi_Link.d).f_To).size : Nat) : Int) > 40)))))], [(0, vO 3 (Tapi_Network.cells n))], 529⟩ (C_37 3912) [] [] (kp [1, 4, 86]) (kq [0]) 529 [0 < 1, 0 ≤ i2 ∧ i2 < ((n.f_Links.length : Nat) : Int), (!(decide (((((n.f_Links.getD ((i2).toNat) Tapi_Link.d).f_Name).size : Nat) : Int) > 40))) = true → AllP [(!(decide (((((n.f_Links.getD ((i2).toNat) Tapi_Link.d).f_Name).size : Nat) : Int) > 40))) = true, 0 < 1], (!(decide (((((n.f_Links.getD ((i2).toNat) Tapi_Link.d).f_Name).size : Nat) : Int) > 40))) = true → AllP [(!(decide (((((n.f_Links.getD ((i2).toNat) Tapi_Link.d).f_Name).size : Nat) : Int) > 40))) = true, (!(decide (((((n.f_Links.getD ((i2).toNat) Tapi_Link.d).f_Name).size : Nat) : Int) > 40))) = true, 0 ≤ i2 ∧ i2 < ((n.f_Links.length : Nat) : Int)], (!(decide (((((n.f_Links.getD ((i2).toNat) Tapi_Link.d).f_Name).size : Nat) : Int) > 40))) = true → AllP [(!(decide (((((n.f_Links.getD ((i2).toNat) Tapi_Link.d).f_Name).size : Nat) : Int) > 40))) = true], (!(decide (((((n.f_Links.getD ((i2).toNat) Tapi_Link.d).f_Name).size : Nat) : Int) > 40))) = true → AllP [(!(decide (((((n.f_Links.getD ((i2).toNat) Tapi_Link.d).f_Name).size : Nat) : Int) > 40))) = true], (!(decide (((((n.f_Links.getD ((i2).toNat) Tapi_Link.d).f_Name).size : Nat) : Int) > 40))) = true → AllP [(!(decide (((((n.f_Links.getD ((i2).toNat) Tapi_Link.d).f_Name).size : Nat) : Int) > 40))) = true], (!(decide (((((n.f_Links.getD ((i2).toNat) Tapi_Link.d).f_Name).size : Nat) : Int) > 40))) = true → AllP [(!(decide (((((n.f_Links.getD ((i2).toNat) Tapi_Link.d).f_Name).size : Nat) : Int) > 40))) = true], (!(decide (((((n.f_Links.getD ((i2).toNat) Tapi_Link.d).f_Name).size : Nat) : Int) > 40))) = true → AllP [(!(decide (((((n.f_Links.getD ((i2).toNat) Tapi_Link.d).f_Name).size : Nat) : Int) > 40))) = true], (!(cond (decide (((((n.f_Links.getD ((i2).toNat) Tapi_Link.d).f_Name).size : Nat) : Int) > 40)) true (decide (((((n.f_Links.getD ((i2).toNat) Tapi_Link.d).f_From).size : Nat) : Int) > 40)))) = true → AllP [(!(cond (decide (((((n.f_Links.getD ((i2).toNat) Tapi_Link.d).f_Name).size : Nat) : Int) > 40)) true (decide (((((n.f_Links.getD ((i2).toNat) Tapi_Link.d).f_From).size : Nat) : Int) > 40)))) = true, 0 < 1], (!(cond (decide (((((n.f_Links.getD ((i2).toNat) Tapi_Link.d).f_Name).size : Nat) : Int) > 40)) true (decide (((((n.f_Links.getD ((i2).toNat) Tapi_Link.d).f_From).size : Nat) : Int) > 40)))) = true → AllP [(!(cond (decide (((((n.f_Links.getD ((i2).toNat) Tapi_Link.d).f_Name).size : Nat) : Int) > 40)) true (decide (((((n.f_Links.getD ((i2).toNat) Tapi_Link.d).f_From).size : Nat) : Int) > 40)))) = true, (!(cond (decide (((((n.f_Links.getD ((i2).toNat) Tapi_Link.d).f_Name).size : Nat) : Int) > 40)) true (decide (((((n.f_Links.getD ((i2).toNat) Tapi_Link.d).f_From).size : Nat) : Int) > 40)))) = true, 0 ≤ i2 ∧ i2 < ((n.f_Links.length : Nat) : Int)], (!(cond (decide (((((n.f_Links.getD ((i2).toNat) Tapi_Link.d).f_Name).size : Nat) : Int) > 40)) true (decide (((((n.f_Links.getD ((i2).toNat) Tapi_Link.d).f_From).size : Nat) : Int) > 40)))) = true → AllP [(!(cond (decide (((((n.f_Links.getD ((i2).toNat) Tapi_Link.d).f_Name).size : Nat) : Int) > 40)) true (decide (((((n.f_Links.getD ((i2).toNat) Tapi_Link.d).f_From).size : Nat) : Int) > 40)))) = true], (!(cond (decide (((((n.f_Links.getD ((i2).toNat) Tapi_Link.d).f_Name).size : Nat) : Int) > 40)) true (decide (((((n.f_Links.getD ((i2).toNat) Tapi_Link.d).f_From).size : Nat) : Int) > 40)))) = true → AllP [(!(cond (decide (((((n.f_Links.getD ((i2).toNat) Tapi_Link.d).f_Name).size : Nat) : Int) > 40)) true (decide (((((n.f_Links.getD ((i2).toNat) Tapi_Link.d).f_From).size : Nat) : Int) > 40)))) = true], (!(cond (decide (((((n.f_Links.getD ((i2).toNat) Tapi_Link.d).f_Name).size : Nat) : Int) > 40)) true (decide (((((n.f_Links.getD ((i2).toNat) Tapi_Link.d).f_From).size : Nat) : Int) > 40)))) = true → AllP [(!(cond (decide (((((n.f_Links.getD ((i2).toNat) Tapi_Link.d).f_Name).size : Nat) : Int) > 40)) true (decide (((((n.f_Links.getD ((i2).toNat) Tapi_Link.d).f_From).size : Nat) : Int) > 40)))) = true], (!(cond (decide (((((n.f_Links.getD ((i2).toNat) Tapi_Link.d).f_Name).size : Nat) : Int) > 40)) true (decide (((((n.f_Links.getD ((i2).toNat) Tapi_Link.d).f_From).size : Nat) : Int) > 40)))) = true → AllP [(!(cond (decide (((((n.f_Links.getD ((i2).toNat) Tapi_Link.d).f_Name).size : Nat) : Int) > 40)) true (decide (((((n.f_Links.getD ((i2).toNat) Tapi_Link.d).f_From).size : Nat) : Int) > 40)))) = true], (!(cond (decide (((((n.f_Links.getD ((i2).toNat) Tapi_Link.d).f_Name).size : Nat) : Int) > 40)) true (decide (((((n.f_Links.getD ((i2).toNat) Tapi_Link.d).f_From).size : Nat) : Int) > 40)))) = true → AllP [(!(cond (decide (((((n.f_Links.getD ((i2).toNat) Tapi_Link.d).f_Name).size : Nat) : Int) > 40)) true (decide (((((n.f_Links.getD ((i2).toNat) Tapi_Link.d).f_From).size : Nat) : Int) > 40)))) = true]] ⟨o1, c3, (fun hg => ⟨hg, o1, trivial⟩), (fun hg => ⟨hg, hg, (c4 hg), trivial⟩), (fun hg => ⟨hg, trivial⟩), (fun hg => ⟨hg, trivial⟩), (fun hg => ⟨hg, trivial⟩), (fun hg => ⟨hg, trivial⟩), (fun hq => ⟨hq, trivial⟩), (fun hg => ⟨hg, o1, trivial⟩), (fun hg => ⟨hg, hg, (c5 hg), trivial⟩), (fun hg => ⟨hg, trivial⟩), (fun hg => ⟨hg, trivial⟩), (fun hg => ⟨hg, trivial⟩), (fun hg => ⟨hg, trivial⟩), (fun hq => ⟨hq, trivial⟩), trivial⟩ ?_
      refine Runs.sC 86 (C_37 7826) (C_37 7827) (cond (cond (decide (((((n.f_Links.getD ((i2).toNat) Tapi_Link.d).f_Name).size : Nat) : Int) > 40)) true (decide (((((n.f_Links.getD ((i2).toNat) Tapi_Link.d).f_From).size : Nat) : Int) > 40))) true (decide (((((n.f_Links.getD ((i2).toNat) Tapi_Link.d).f_To).size : Nat) : Int) > 40))) (fun hq6 => ?_) (fun hq6 => ?_)
      · have h := condT h hq6
        refine Runs.sA 1 [.code (C_37 15652), .code (C_37 15653), .inBlock 3, .code (C_37 979), .inLoop (C_37 244), .inBlock 2, .code (C_37 31)] ?_
        refine Runs.sR hE ⟨[(2, (aB false))], [], 545⟩ (C_37 15652) [] [] (kp [2]) [] 545 [] trivial ?_
        obtain rfl := Option.some.inj h
        refine Runs.sW hE ⟨[(2, (aB false))], [], 545⟩ [] (kp [2]) [] 545 [] trivial ?_
        exact Runs.sT Try.f26 [] [] trivial
      · have h := condF h hq6
        refine Runs.sA 2 [.code (C_37 979), .inLoop (C_37 244), .inBlock 2, .code (C_37 31)] ?_
        refine Runs.sR hE ⟨[(1, (.op 0 0 0)), (4, (aI (w64 (i2 + 1))))], [(0, vO 3 (Tapi_Network.cells n))], 577⟩ (C_37 979) [] [] (kp [1, 4]) (kq [0]) 577 [] trivial ?_
        refine Runs.sA 1 [.code (C_37 244), .inLoop (C_37 244), .inBlock 2, .code (C_37 31)] ?_
        exact Runs.sW hE _ [] (kp [1, 4]) (kq [0]) 1 [] trivial (ih (w64 (i2 + 1)) _ h E hE)
    · have h := condF h hq5
      refine Runs.sA 2 [.code (C_37 62), .code (C_37 63)] ?_
      refine Runs.sR hE ⟨[(2, (aB true))], [], 97⟩ (C_37 62) [] [] (kp [2]) [] 97 [] trivial ?_
      obtain rfl := Option.some.inj h
      refine Runs.sW hE ⟨[(2, (aB true))], [], 97⟩ [] (kp [2]) [] 97 [] trivial ?_
      exact Runs.sT Try.f26 [] [] trivial

theorem g_w05_short_L1_ok (N : Nat) (n : Tapi_Network) (fuel : Nat) : ∀ (i : Int) (r : Bool), g_w05_short_L1 N n fuel i = some r → ∀ E, EnvOk E 0 → Runs Try.prog E 26 87 (SPost E [] (aB r)) [.code (C_37 116), .inLoop (C_37 116), .inBlock 0, .code (C_37 15)] ⟨[(1, (.op 0 0 0)), (3, (aI i))], [(0, vO 3 (Tapi_Network.cells n))], 1⟩ := by
  induction fuel with
  | zero => intro _ r h; rw [g_w05_short_L1.eq_1] at h; cases h
  | succ fuel ih =>
    intro i r h E hE
    rw [g_w05_short_L1.eq_2] at h
    refine Runs.sA 2 [.code (C_37 464), .code (C_37 465), .code (C_37 233), .inLoop (C_37 116), .inBlock 0, .code (C_37 15)] ?_
    refine Runs.sR hE ⟨[(1, (.op 0 0 0)), (3, (aI i)), (31, (aB (decide (i < ((n.f_Basins.length : Nat) : Int)))))], [(0, vO 3 (Tapi_Network.cells n))], 81⟩ (C_37 464) [] [] (kp [1, 3, 31]) (kq [0]) 81 [0 < 1] ⟨o1, trivial⟩ ?_
    refine Runs.sC 31 (C_37 930) (C_37 931) (decide (i < ((n.f_Basins.length : Nat) : Int))) (fun hq3 => ?_) (fun hq3 => ?_)
    · have h := condT h hq3
      refine Runs.sA 4 [.code (C_37 1864), .code (C_37 1865), .inBlock 1, .code (C_37 467), .inLoop (C_37 116), .inBlock 0, .code (C_37 15)] ?_
      obtain ⟨c, h⟩ := ifSome h
      obtain ⟨c2, h⟩ := ifSome h
      refine Runs.sR hE ⟨[(1, (.op 0 0 0)), (3, (aI i)), (51, (aB (cond (decide (((((n.f_Basins.getD ((i).toNat) Tapi_Basin.d).f_Areas).length : Nat) : Int) > 30)) true (decide (((((n.f_Basins.getD ((i).toNat) Tapi_Basin.d).f_Name).size : Nat) : Int) > 40)))))], [(0, vO 3 (Tapi_Network.cells n))], 369⟩ (C_37 1864) [] [] (kp [1, 3, 51]) (kq [0]) 369 [0 < 1, 0 ≤ i ∧ i < ((n.f_Basins.length : Nat) : Int), (!(decide (((((n.f_Basins.getD ((i).toNat) Tapi_Basin.d).f_Areas).length : Nat) : Int) > 30))) = true → AllP [(!(decide (((((n.f_Basins.getD ((i).toNat) Tapi_Basin.d).f_Areas).length : Nat) : Int) > 30))) = true, 0 < 1], (!(decide (((((n.f_Basins.getD ((i).toNat) Tapi_Basin.d).f_Areas).length : Nat) : Int) > 30))) = true → AllP [(!(decide (((((n.f_Basins.getD ((i).toNat) Tapi_Basin.d).f_Areas).length : Nat) : Int) > 30))) = true, (!(decide (((((n.f_Basins.getD ((i).toNat) Tapi_Basin.d).f_Areas).length : Nat) : Int) > 30))) = true, 0 ≤ i ∧ i < ((n.f_Basins.length : Nat) : Int)], (!(decide (((((n.f_Basins.getD ((i).toNat) Tapi_Basin.d).f_Areas).length : Nat) : Int) > 30))) = true → AllP [(!(decide (((((n.f_Basins.getD ((i).toNat) Tapi_Basin.d).f_Areas).length : Nat) : Int) > 30))) = true], (!(decide (((((n.f_Basins.getD ((i).toNat) Tapi_Basin.d).f_Areas).length : Nat) : Int) > 30))) = true → AllP [(!(decide (((((n.f_Basins.getD ((i).toNat) Tapi_Basin.d).f_Areas).length : Nat) : Int) > 30))) = true], (!(decide (((((n.f_Basins.getD ((i).toNat) Tapi_Basin.d).f_Areas).length : Nat) : Int) > 30))) = true → AllP [(!(decide (((((n.f_Basins.getD ((i).toNat) Tapi_Basin.d).f_Areas).length : Nat) : Int) > 30))) = true], (!(decide (((((n.f_Basins.getD ((i).toNat) Tapi_Basin.d).f_Areas).length : Nat) : Int) > 30))) = true → AllP [(!(decide (((((n.f_Basins.getD ((i).toNat) Tapi_Basin.d).f_Areas).length : Nat) : Int) > 30))) = true], (!(decide (((((n.f_Basins.getD ((i).toNat) Tapi_Basin.d).f_Areas).length : Nat) : Int) > 30))) = true → AllP [(!(decide (((((n.f_Basins.getD ((i).toNat) Tapi_Basin.d).f_Areas).length : Nat) : Int) > 30))) = true]] ⟨o1, c, (fun hg => ⟨hg, o1, trivial⟩), (fun hg => ⟨hg, hg, (c2 hg), trivial⟩), (fun hg => ⟨hg, trivial⟩), (fun hg => ⟨hg, trivial⟩), (fun hg => ⟨hg, trivial⟩), (fun hg => ⟨hg, trivial⟩), (fun hq => ⟨hq, trivial⟩), trivial⟩ ?_
      refine Runs.sC 51 (C_37 3730) (C_37 3731) (cond (decide (((((n.f_Basins.getD ((i).toNat) Tapi_Basin.d).f_Areas).length : Nat) : Int) > 30)) true (decide (((((n.f_Basins.getD ((i).toNat) Tapi_Basin.d).f_Name).size : Nat) : Int) > 40))) (fun hq4 => ?_) (fun hq4 => ?_)
      · have h := condT h hq4
        refine Runs.sA 1 [.code (C_37 7460), .code (C_37 7461), .inBlock 1, .code (C_37 467), .inLoop (C_37 116), .inBlock 0, .code (C_37 15)] ?_
        refine Runs.sR hE ⟨[(2, (aB false))], [], 385⟩ (C_37 7460) [] [] (kp [2]) [] 385 [] trivial ?_
        obtain rfl := Option.some.inj h
        refine Runs.sW hE ⟨[(2, (aB false))], [], 385⟩ [] (kp [2]) [] 385 [] trivial ?_
        exact Runs.sT Try.f26 [] [] trivial
      · have h := condF h hq4
        refine Runs.sA 2 [.code (C_37 467), .inLoop (C_37 116), .inBlock 0, .code (C_37 15)] ?_
        refine Runs.sR hE ⟨[(1, (.op 0 0 0)), (3, (aI (w64 (i + 1))))], [(0, vO 3 (Tapi_Network.cells n))], 417⟩ (C_37 467) [] [] (kp [1, 3]) (kq [0]) 417 [] trivial ?_
        refine Runs.sA 1 [.code (C_37 116), .inLoop (C_37 116), .inBlock 0, .code (C_37 15)] ?_
        exact Runs.sW hE _ [] (kp [1, 3]) (kq [0]) 1 [] trivial (ih (w64 (i + 1)) _ h E hE)
    · have h := condF h hq3
      refine Runs.sA 3 [.code (C_37 60), .code (C_37 61), .code (C_37 31)] ?_
      refine Runs.sR hE ⟨[(1, (.op 0 0 0)), (4, (aI 0))], [(0, vO 3 (Tapi_Network.cells n))], 97⟩ (C_37 60) [] [] (kp [1, 4]) (kq [0]) 97 [] trivial ?_
      refine Runs.sA 2 [.code (C_37 244), .inLoop (C_37 244), .inBlock 2, .code (C_37 31)] ?_
      exact Runs.sW hE _ [] (kp [1, 4]) (kq [0]) 1 [] trivial (g_w05_short_L2_ok N n N 0 _ h E hE)

theorem g_w05_short_ok (N : Nat) (n : Tapi_Network) (r : Bool) (h : g_w05_short N n = some r) : Sound Try.prog 26 [(.agg (Tapi_Network.cells n))] [] 0 (aB r) [] := by
  unfold g_w05_short at h
  refine Sound.of_runs (fu := Try.f26) (c := C_37 1) (nt := 87) (by kernel_rfl) (by kernel_rfl) (by kernel_rfl) (by kernel_rfl) (fun hm => rfl) ?_
  intro E hE
  refine Runs.sA 1 [.code (C_37 2), .code (C_37 3)] ?_
  refine Runs.sR hE ⟨[(1, (.op 0 0 0))], [(0, vO 3 (Tapi_Network.cells n))], 32⟩ (C_37 2) [] [] (kp [1]) (kq [0]) 32 [] trivial ?_
  refine Runs.sA 2 [.code (C_37 12), .code (C_37 13), .code (C_37 7)] ?_
  refine Runs.sR hE ⟨[(1, (.op 0 0 0)), (26, (aB (cond (cond (decide (((n.f_Basins.length : Nat) : Int) > 10)) true (decide (((n.f_Links.length : Nat) : Int) > 14))) true (cond (decide (((n.f_Sea.length : Nat) : Int) > 30)) (decide (((n.f_Sea.length : Nat) : Int) ≤ 400)) false))))], [(0, vO 3 (Tapi_Network.cells n))], 384⟩ (C_37 12) [] [] (kp [1, 26]) (kq [0]) 384 [0 < 1, (!(decide (((n.f_Basins.length : Nat) : Int) > 10))) = true → AllP [(!(decide (((n.f_Basins.length : Nat) : Int) > 10))) = true, 0 < 1], (!(decide (((n.f_Basins.length : Nat) : Int) > 10))) = true → AllP [(!(decide (((n.f_Basins.length : Nat) : Int) > 10))) = true], (!(decide (((n.f_Basins.length : Nat) : Int) > 10))) = true → AllP [(!(decide (((n.f_Basins.length : Nat) : Int) > 10))) = true], (!(decide (((n.f_Basins.length : Nat) : Int) > 10))) = true → AllP [(!(decide (((n.f_Basins.length : Nat) : Int) > 10))) = true], (!(cond (decide (((n.f_Basins.length : Nat) : Int) > 10)) true (decide (((n.f_Links.length : Nat) : Int) > 14)))) = true → AllP [(!(cond (decide (((n.f_Basins.length : Nat) : Int) > 10)) true (decide (((n.f_Links.length : Nat) : Int) > 14)))) = true, 0 < 1], (!(cond (decide (((n.f_Basins.length : Nat) : Int) > 10)) true (decide (((n.f_Links.length : Nat) : Int) > 14)))) = true → AllP [(!(cond (decide (((n.f_Basins.length : Nat) : Int) > 10)) true (decide (((n.f_Links.length : Nat) : Int) > 14)))) = true], (!(cond (decide (((n.f_Basins.length : Nat) : Int) > 10)) true (decide (((n.f_Links.length : Nat) : Int) > 14)))) = true → AllP [(!(cond (decide (((n.f_Basins.length : Nat) : Int) > 10)) true (decide (((n.f_Links.length : Nat) : Int) > 14)))) = true], ((!(cond (decide (((n.f_Basins.length : Nat) : Int) > 10)) true (decide (((n.f_Links.length : Nat) : Int) > 14)))) && ((!(cond (decide (((n.f_Basins.length : Nat) : Int) > 10)) true (decide (((n.f_Links.length : Nat) : Int) > 14)))) && (decide (((n.f_Sea.length : Nat) : Int) > 30)))) = true → AllP [((!(cond (decide (((n.f_Basins.length : Nat) : Int) > 10)) true (decide (((n.f_Links.length : Nat) : Int) > 14)))) && ((!(cond (decide (((n.f_Basins.length : Nat) : Int) > 10)) true (decide (((n.f_Links.length : Nat) : Int) > 14)))) && (decide (((n.f_Sea.length : Nat) : Int) > 30)))) = true, 0 < 1], ((!(cond (decide (((n.f_Basins.length : Nat) : Int) > 10)) true (decide (((n.f_Links.length : Nat) : Int) > 14)))) && ((!(cond (decide (((n.f_Basins.length : Nat) : Int) > 10)) true (decide (((n.f_Links.length : Nat) : Int) > 14)))) && (decide (((n.f_Sea.length : Nat) : Int) > 30)))) = true → AllP [((!(cond (decide (((n.f_Basins.length : Nat) : Int) > 10)) true (decide (((n.f_Links.length : Nat) : Int) > 14)))) && ((!(cond (decide (((n.f_Basins.length : Nat) : Int) > 10)) true (decide (((n.f_Links.length : Nat) : Int) > 14)))) && (decide (((n.f_Sea.length : Nat) : Int) > 30)))) = true], ((!(cond (decide (((n.f_Basins.length : Nat) : Int) > 10)) true (decide (((n.f_Links.length : Nat) : Int) > 14)))) && ((!(cond (decide (((n.f_Basins.length : Nat) : Int) > 10)) true (decide (((n.f_Links.length : Nat) : Int) > 14)))) && (decide (((n.f_Sea.length : Nat) : Int) > 30)))) = true → AllP [((!(cond (decide (((n.f_Basins.length : Nat) : Int) > 10)) true (decide (((n.f_Links.length : Nat) : Int) > 14)))) && ((!(cond (decide (((n.f_Basins.length : Nat) : Int) > 10)) true (decide (((n.f_Links.length : Nat) : Int) > 14)))) && (decide (((n.f_Sea.length : Nat) : Int) > 30)))) = true], (!(cond (decide (((n.f_Basins.length : Nat) : Int) > 10)) true (decide (((n.f_Links.length : Nat) : Int) > 14)))) = true → AllP [(!(cond (decide (((n.f_Basins.length : Nat) : Int) > 10)) true (decide (((n.f_Links.length : Nat) : Int) > 14)))) = true, (!(cond (decide (((n.f_Basins.length : Nat) : Int) > 10)) true (decide (((n.f_Links.length : Nat) : Int) > 14)))) = true, (decide (((n.f_Sea.length : Nat) : Int) > 30)) = true → AllP [((!(cond (decide (((n.f_Basins.length : Nat) : Int) > 10)) true (decide (((n.f_Links.length : Nat) : Int) > 14)))) && ((!(cond (decide (((n.f_Basins.length : Nat) : Int) > 10)) true (decide (((n.f_Links.length : Nat) : Int) > 14)))) && (decide (((n.f_Sea.length : Nat) : Int) > 30)))) = true]], (!(cond (decide (((n.f_Basins.length : Nat) : Int) > 10)) true (decide (((n.f_Links.length : Nat) : Int) > 14)))) = true → AllP [(!(cond (decide (((n.f_Basins.length : Nat) : Int) > 10)) true (decide (((n.f_Links.length : Nat) : Int) > 14)))) = true]] ⟨o1, (fun hg => ⟨hg, o1, trivial⟩), (fun hg => ⟨hg, trivial⟩), (fun hg => ⟨hg, trivial⟩), (fun hq => ⟨hq, trivial⟩), (fun hg => ⟨hg, o1, trivial⟩), (fun hg => ⟨hg, trivial⟩), (fun hg => ⟨hg, trivial⟩), (fun hg => ⟨hg, o1, trivial⟩), (fun hg => ⟨hg, trivial⟩), (fun hg => ⟨hg, trivial⟩), (fun hg => ⟨hg, hg, (fun hq => ⟨(andI' hg (andI' hg hq)), trivial⟩), trivial⟩), (fun hq => ⟨hq, trivial⟩), trivial⟩ ?_
  refine Runs.sC 26 (C_37 26) (C_37 27) (cond (cond (decide (((n.f_Basins.length : Nat) : Int) > 10)) true (decide (((n.f_Links.length : Nat) : Int) > 14))) true (cond (decide (((n.f_Sea.length : Nat) : Int) > 30)) (decide (((n.f_Sea.length : Nat) : Int) ≤ 400)) false)) (fun hq2 => ?_) (fun hq2 => ?_)
  · have h := condT h hq2
    refine Runs.sA 1 [.code (C_37 52), .code (C_37 53), .code (C_37 7)] ?_
    refine Runs.sR hE ⟨[(2, (aB false))], [], 400⟩ (C_37 52) [] [] (kp [2]) [] 400 [] trivial ?_
    obtain rfl := Option.some.inj h
    refine Runs.sW hE ⟨[(2, (aB false))], [], 400⟩ [] (kp [2]) [] 400 [] trivial ?_
    exact Runs.sT Try.f26 [] [] trivial
  · have h := condF h hq2
    refine Runs.sA 3 [.code (C_37 28), .code (C_37 29), .code (C_37 15)] ?_
    refine Runs.sR hE ⟨[(1, (.op 0 0 0)), (3, (aI 0))], [(0, vO 3 (Tapi_Network.cells n))], 400⟩ (C_37 28) [] [] (kp [1, 3]) (kq [0]) 400 [] trivial ?_
    refine Runs.sA 2 [.code (C_37 116), .inLoop (C_37 116), .inBlock 0, .code (C_37 15)] ?_
    exact Runs.sW hE _ [] (kp [1, 3]) (kq [0]) 1 [] trivial (g_w05_short_L1_ok N n N 0 _ h E hE)

noncomputable def C_39 (n : Nat) : Code := cat (bodyOf Try.f55) (pth n)

theorem g_r05_Basin_L1_ok (N : Nat) (n : Tapi_Network) (name : ByteArray) (fuel : Nat) : ∀ (i : Int) (r : Int), g_r05_Basin_L1 N n name fuel i = some r → ∀ E, EnvOk E 0 → Runs Try.prog E 55 22 (SPost E [] (aI r)) [.code (C_39 52), .inLoop (C_39 52), .inBlock 0, .code (C_39 7)] ⟨[(1, (aS name)), (2, (.op 0 0 0)), (5, (aI i))], [(0, vO 3 (Tapi_Network.cells n))], 1⟩ := by
  induction fuel with
  | zero => intro _ r h; rw [g_r05_Basin_L1.eq_1] at h; cases h
  | succ fuel ih =>
    intro i r h E hE
    rw [g_r05_Basin_L1.eq_2] at h
    refine Runs.sA 2 [.code (C_39 208), .code (C_39 209), .code (C_39 105), .inLoop (C_39 52), .inBlock 0, .code (C_39 7)] ?_
    refine Runs.sR hE ⟨[(1, (aS name)), (2, (.op 0 0 0)), (5, (aI i)), (10, (aB (decide (i < ((n.f_Basins.length : Nat) : Int)))))], [(0, vO 3 (Tapi_Network.cells n))], 81⟩ (C_39 208) [] [] (kp [1, 2, 5, 10]) (kq [0]) 81 [0 < 1] ⟨o1, trivial⟩ ?_
    refine Runs.sC 10 (C_39 418) (C_39 419) (decide (i < ((n.f_Basins.length : Nat) : Int))) (fun hq2 => ?_) (fun hq2 => ?_)
    · have h := condT h hq2
      refine Runs.sA 4 [.code (C_39 840), .code (C_39 841), .inBlock 1, .code (C_39 211), .inLoop (C_39 52), .inBlock 0, .code (C_39 7)] ?_
      obtain ⟨c, h⟩ := ifSome h
      refine Runs.sR hE ⟨[(1, (aS name)), (2, (.op 0 0 0)), (5, (aI i)), (20, (aB (streq ((n.f_Basins.getD ((i).toNat) Tapi_Basin.d).f_Name) name)))], [(0, vO 3 (Tapi_Network.cells n))], 209⟩ (C_39 840) [] [] (kp [1, 2, 5, 20]) (kq [0]) 209 [0 < 1, 0 ≤ i ∧ i < ((n.f_Basins.length : Nat) : Int)] ⟨o1, c, trivial⟩ ?_
      refine Runs.sC 20 (C_39 1682) (C_39 1683) (streq ((n.f_Basins.getD ((i).toNat) Tapi_Basin.d).f_Name) name) (fun hq3 => ?_) (fun hq3 => ?_)
      · have h := condT h hq3
        refine Runs.sA 1 [.code (C_39 3364), .code (C_39 3365), .inBlock 1, .code (C_39 211), .inLoop (C_39 52), .inBlock 0, .code (C_39 7)] ?_
        refine Runs.sR hE ⟨[(4, (aI i))], [], 241⟩ (C_39 3364) [] [] (kp [4]) [] 241 [] trivial ?_
        obtain rfl := Option.some.inj h
        refine Runs.sW hE ⟨[(4, (aI i))], [], 241⟩ [] (kp [4]) [] 241 [] trivial ?_
        exact Runs.sT Try.f55 [] [] trivial
      · have h := condF h hq3
        refine Runs.sA 2 [.code (C_39 211), .inLoop (C_39 52), .inBlock 0, .code (C_39 7)] ?_
        refine Runs.sR hE ⟨[(1, (aS name)), (2, (.op 0 0 0)), (5, (aI (w64 (i + 1))))], [(0, vO 3 (Tapi_Network.cells n))], 257⟩ (C_39 211) [] [] (kp [1, 2, 5]) (kq [0]) 257 [] trivial ?_
        refine Runs.sA 1 [.code (C_39 52), .inLoop (C_39 52), .inBlock 0, .code (C_39 7)] ?_
        exact Runs.sW hE _ [] (kp [1, 2, 5]) (kq [0]) 1 [] trivial (ih (w64 (i + 1)) _ h E hE)
    · have h := condF h hq2
      refine Runs.sA 2 [.code (C_39 14), .code (C_39 15)] ?_
      refine Runs.sR hE ⟨[(4, (aI (-1)))], [], 97⟩ (C_39 14) [] [] (kp [4]) [] 97 [] trivial ?_
      obtain rfl := Option.some.inj h
      refine Runs.sW hE ⟨[(4, (aI (-1)))], [], 97⟩ [] (kp [4]) [] 97 [] trivial ?_
      exact Runs.sT Try.f55 [] [] trivial

theorem g_r05_Basin_ok (N : Nat) (n : Tapi_Network) (name : ByteArray) (r : Int) (h : g_r05_Basin N n name = some r) : Sound Try.prog 55 [(.agg (Tapi_Network.cells n)), (aS name)] [] 0 (aI r) [] := by
  unfold g_r05_Basin at h
  refine Sound.of_runs (fu := Try.f55) (c := C_39 1) (nt := 22) (by kernel_rfl) (by kernel_rfl) (by kernel_rfl) (by kernel_rfl) (fun hm => rfl) ?_
  intro E hE
  refine Runs.sA 1 [.code (C_39 2), .code (C_39 3)] ?_
  refine Runs.sR hE ⟨[(1, (aS name)), (2, (.op 0 0 0))], [(0, vO 3 (Tapi_Network.cells n))], 32⟩ (C_39 2) [] [] (kp [1, 2]) (kq [0]) 32 [] trivial ?_
  refine Runs.sA 2 [.code (C_39 12), .code (C_39 13), .code (C_39 7)] ?_
  refine Runs.sR hE ⟨[(1, (aS name)), (2, (.op 0 0 0)), (5, (aI 0))], [(0, vO 3 (Tapi_Network.cells n))], 48⟩ (C_39 12) [] [] (kp [1, 2, 5]) (kq [0]) 48 [] trivial ?_
  refine Runs.sA 2 [.code (C_39 52), .inLoop (C_39 52), .inBlock 0, .code (C_39 7)] ?_
  exact Runs.sW hE _ [] (kp [1, 2, 5]) (kq [0]) 1 [] trivial (g_r05_Basin_L1_ok N n name N 0 _ h E hE)

noncomputable def C_40 (n : Nat) : Code := cat (bodyOf Try.f37) (pth n)

theorem g_r05_Link_L1_ok (N : Nat) (n : Tapi_Network) (name : ByteArray) (fuel : Nat) : ∀ (i : Int) (r : Int), g_r05_Link_L1 N n name fuel i = some r → ∀ E, EnvOk E 0 → Runs Try.prog E 37 22 (SPost E [] (aI r)) [.code (C_40 52), .inLoop (C_40 52), .inBlock 0, .code (C_40 7)] ⟨[(1, (aS name)), (2, (.op 0 0 0)), (5, (aI i))], [(0, vO 3 (Tapi_Network.cells n))], 1⟩ := by
  induction fuel with
  | zero => intro _ r h; rw [g_r05_Link_L1.eq_1] at h; cases h
  | succ fuel ih =>
    intro i r h E hE
    rw [g_r05_Link_L1.eq_2] at h
    refine Runs.sA 2 [.code (C_40 208), .code (C_40 209), .code (C_40 105), .inLoop (C_40 52), .inBlock 0, .code (C_40 7)] ?_
    refine Runs.sR hE ⟨[(1, (aS name)), (2, (.op 0 0 0)), (5, (aI i)), (10, (aB (decide (i < ((n.f_Links.length : Nat) : Int)))))], [(0, vO 3 (Tapi_Network.cells n))], 81⟩ (C_40 208) [] [] (kp [1, 2, 5, 10]) (kq [0]) 81 [0 < 1] ⟨o1, trivial⟩ ?_
    refine Runs.sC 10 (C_40 418) (C_40 419) (decide (i < ((n.f_Links.length : Nat) : Int))) (fun hq2 => ?_) (fun hq2 => ?_)
    · have h := condT h hq2
      refine Runs.sA 4 [.code (C_40 840), .code (C_40 841), .inBlock 1, .code (C_40 211), .inLoop (C_40 52), .inBlock 0, .code (C_40 7)] ?_
      obtain ⟨c, h⟩ := ifSome h
      refine Runs.sR hE ⟨[(1, (aS name)), (2, (.op 0 0 0)), (5, (aI i)), (20, (aB (streq ((n.f_Links.getD ((i).toNat) Tapi_Link.d).f_Name) name)))], [(0, vO 3 (Tapi_Network.cells n))], 209⟩ (C_40 840) [] [] (kp [1, 2, 5, 20]) (kq [0]) 209 [0 < 1, 0 ≤ i ∧ i < ((n.f_Links.length : Nat) : Int)] ⟨o1, c, trivial⟩ ?_
      refine Runs.sC 20 (C_40 1682) (C_40 1683) (streq ((n.f_Links.getD ((i).toNat) Tapi_Link.d).f_Name) name) (fun hq3 => ?_) (fun hq3 => ?_)
      · have h := condT h hq3
        refine Runs.sA 1 [.code (C_40 3364), .code (C_40 3365), .inBlock 1, .code (C_40 211), .inLoop (C_40 52), .inBlock 0, .code (C_40 7)] ?_
        refine Runs.sR hE ⟨[(4, (aI i))], [], 241⟩ (C_40 3364) [] [] (kp [4]) [] 241 [] trivial ?_
        obtain rfl := Option.some.inj h
        refine Runs.sW hE ⟨[(4, (aI i))], [], 241⟩ [] (kp [4]) [] 241 [] trivial ?_
        exact Runs.sT Try.f37 [] [] trivial
      · have h := condF h hq3
        refine Runs.sA 2 [.code (C_40 211), .inLoop (C_40 52), .inBlock 0, .code (C_40 7)] ?_
        refine Runs.sR hE ⟨[(1, (aS name)), (2, (.op 0 0 0)), (5, (aI (w64 (i + 1))))], [(0, vO 3 (Tapi_Network.cells n))], 257⟩ (C_40 211) [] [] (kp [1, 2, 5]) (kq [0]) 257 [] trivial ?_
        refine Runs.sA 1 [.code (C_40 52), .inLoop (C_40 52), .inBlock 0, .code (C_40 7)] ?_
        exact Runs.sW hE _ [] (kp [1, 2, 5]) (kq [0]) 1 [] trivial (ih (w64 (i + 1)) _ h E hE)
    · have h := condF h hq2
      refine Runs.sA 2 [.code (C_40 14), .code (C_40 15)] ?_
      refine Runs.sR hE ⟨[(4, (aI (-1)))], [], 97⟩ (C_40 14) [] [] (kp [4]) [] 97 [] trivial ?_
      obtain rfl := Option.some.inj h
      refine Runs.sW hE ⟨[(4, (aI (-1)))], [], 97⟩ [] (kp [4]) [] 97 [] trivial ?_
      exact Runs.sT Try.f37 [] [] trivial

theorem g_r05_Link_ok (N : Nat) (n : Tapi_Network) (name : ByteArray) (r : Int) (h : g_r05_Link N n name = some r) : Sound Try.prog 37 [(.agg (Tapi_Network.cells n)), (aS name)] [] 0 (aI r) [] := by
  unfold g_r05_Link at h
  refine Sound.of_runs (fu := Try.f37) (c := C_40 1) (nt := 22) (by kernel_rfl) (by kernel_rfl) (by kernel_rfl) (by kernel_rfl) (fun hm => rfl) ?_
  intro E hE
  refine Runs.sA 1 [.code (C_40 2), .code (C_40 3)] ?_
  refine Runs.sR hE ⟨[(1, (aS name)), (2, (.op 0 0 0))], [(0, vO 3 (Tapi_Network.cells n))], 32⟩ (C_40 2) [] [] (kp [1, 2]) (kq [0]) 32 [] trivial ?_
  refine Runs.sA 2 [.code (C_40 12), .code (C_40 13), .code (C_40 7)] ?_
  refine Runs.sR hE ⟨[(1, (aS name)), (2, (.op 0 0 0)), (5, (aI 0))], [(0, vO 3 (Tapi_Network.cells n))], 48⟩ (C_40 12) [] [] (kp [1, 2, 5]) (kq [0]) 48 [] trivial ?_
  refine Runs.sA 2 [.code (C_40 52), .inLoop (C_40 52), .inBlock 0, .code (C_40 7)] ?_
  exact Runs.sW hE _ [] (kp [1, 2, 5]) (kq [0]) 1 [] trivial (g_r05_Link_L1_ok N n name N 0 _ h E hE)

noncomputable def C_42 (n : Nat) : Code := cat (bodyOf Try.f103) (pth n)

theorem g_r05_side_ok (N : Nat) (n : Tapi_Network) (name : ByteArray) (r : Bool) (h : g_r05_side N n name = some r) : Sound Try.prog 103 [(.agg (Tapi_Network.cells n)), (aS name)] [] 0 (aB r) [] := by
  unfold g_r05_side at h
  refine Sound.of_runs (fu := Try.f103) (c := C_42 1) (nt := 13) (by kernel_rfl) (by kernel_rfl) (by kernel_rfl) (by kernel_rfl) (fun hm => rfl) ?_
  intro E hE
  refine Runs.sA 1 [.code (C_42 2), .code (C_42 3)] ?_
  refine Runs.sR hE ⟨[(1, (aS name)), (2, (.op 0 0 0))], [(0, vO 3 (Tapi_Network.cells n))], 32⟩ (C_42 2) [] [] (kp [1, 2]) (kq [0]) 32 [] trivial ?_
  refine Runs.sA 1 [.code (C_42 6), .code (C_42 7)] ?_
  obtain ⟨rBasin, hr, h⟩ := bindSome h
  refine Runs.sR hE ⟨[(4, (aB (cond (streq name ByteArray.empty) true (decide (rBasin ≥ 0)))))], [], 176⟩ (C_42 6) [(5, ⟨[], true, (aI rBasin), [], 0, false⟩)] [] (kp [4]) [] 176 [(!(streq name ByteArray.empty)) = true → AllP [0 < 1], (!(streq name ByteArray.empty)) = true → AllP [Sound Try.prog 55 [(.agg (Tapi_Network.cells n)), (aS name)] [] 0 (aI rBasin) [], (!(streq name ByteArray.empty)) = true, (!(streq name ByteArray.empty)) = true], (!(streq name ByteArray.empty)) = true → AllP [(!(streq name ByteArray.empty)) = true], (!(streq name ByteArray.empty)) = true → AllP [(!(streq name ByteArray.empty)) = true]] ⟨(fun hg => ⟨o1, trivial⟩), (fun hg => ⟨(g_r05_Basin_ok N n name rBasin (condT hr hg)), hg, hg, trivial⟩), (fun hg => ⟨hg, trivial⟩), (fun hq => ⟨hq, trivial⟩), trivial⟩ ?_
  obtain rfl := Option.some.inj h
  refine Runs.sW hE ⟨[(4, (aB (cond (streq name ByteArray.empty) true (decide (rBasin ≥ 0)))))], [], 176⟩ [] (kp [4]) [] 176 [] trivial ?_
  exact Runs.sT Try.f103 [] [] trivial

noncomputable def C_41 (n : Nat) : Code := cat (bodyOf Try.f74) (pth n)

theorem g_r05_checkLink_ok (N : Nat) (n : Tapi_Network) (l : Tapi_Link) (r : Int) (h : g_r05_checkLink N n l = some r) : Sound Try.prog 74 [(.agg (Tapi_Network.cells n)), (.agg (Tapi_Link.cells l))] [] 0 (aI r) [] := by
  unfold g_r05_checkLink at h
  refine Sound.of_runs (fu := Try.f74) (c := C_41 1) (nt := 74) (by kernel_rfl) (by kernel_rfl) (by kernel_rfl) (by kernel_rfl) (fun hm => rfl) ?_
  intro E hE
  refine Runs.sA 1 [.code (C_41 2), .code (C_41 3)] ?_
  refine Runs.sR hE ⟨[(2, (.op 0 0 0)), (3, (.op 16 0 0))], [(0, vO 3 (Tapi_Network.cells n)), (16, vO 8 (Tapi_Link.cells l))], 48⟩ (C_41 2) [] [] (kp [2, 3]) (kq [0, 16]) 48 [] trivial ?_
  refine Runs.sA 2 [.code (C_41 12), .code (C_41 13), .code (C_41 7)] ?_
  refine Runs.sR hE ⟨[(2, (.op 0 0 0)), (3, (.op 16 0 0)), (12, (aB (cond (l.f_Kind != 0) (l.f_Kind != 1) false)))], [(0, vO 3 (Tapi_Network.cells n)), (16, vO 8 (Tapi_Link.cells l))], 176⟩ (C_41 12) [] [] (kp [2, 3, 12]) (kq [0, 16]) 176 [0 < 1, (l.f_Kind != 0) = true → AllP [(l.f_Kind != 0) = true, 0 < 1], (l.f_Kind != 0) = true → AllP [(l.f_Kind != 0) = true], (l.f_Kind != 0) = true → AllP [(l.f_Kind != 0) = true]] ⟨o1, (fun hg => ⟨hg, o1, trivial⟩), (fun hg => ⟨hg, trivial⟩), (fun hq => ⟨hq, trivial⟩), trivial⟩ ?_
  refine Runs.sC 12 (C_41 26) (C_41 27) (cond (l.f_Kind != 0) (l.f_Kind != 1) false) (fun hq2 => ?_) (fun hq2 => ?_)
  · have h := condT h hq2
    refine Runs.sA 1 [.code (C_41 52), .code (C_41 53), .code (C_41 7)] ?_
    refine Runs.sR hE ⟨[(4, (aI 3))], [], 192⟩ (C_41 52) [] [] (kp [4]) [] 192 [] trivial ?_
    obtain rfl := Option.some.inj h
    refine Runs.sW hE ⟨[(4, (aI 3))], [], 192⟩ [] (kp [4]) [] 192 [] trivial ?_
    exact Runs.sT Try.f74 [] [] trivial
  · have h := condF h hq2
    refine Runs.sA 3 [.code (C_41 28), .code (C_41 29), .code (C_41 15)] ?_
    obtain ⟨rside, hr, h⟩ := bindSome h
    obtain ⟨rside2, hr2, h⟩ := bindSome h
    refine Runs.sR hE ⟨[(2, (.op 0 0 0)), (3, (.op 16 0 0)), (24, (aB (cond (!rside) true (!rside2))))], [(0, vO 3 (Tapi_Network.cells n)), (16, vO 8 (Tapi_Link.cells l))], 368⟩ (C_41 28) [(3, ⟨[], true, (aB rside), [], 0, false⟩), (9, ⟨[], true, (aB rside2), [], 0, false⟩)] [] (kp [2, 3, 24]) (kq [0, 16]) 368 [0 < 1, 0 < 1, Sound Try.prog 103 [(.agg (Tapi_Network.cells n)), (aS l.f_From)] [] 0 (aB rside) [], (!(!rside)) = true → AllP [0 < 1], (!(!rside)) = true → AllP [(!(!rside)) = true, 0 < 1], (!(!rside)) = true → AllP [Sound Try.prog 103 [(.agg (Tapi_Network.cells n)), (aS l.f_To)] [] 0 (aB rside2) [], (!(!rside)) = true, (!(!rside)) = true], (!(!rside)) = true → AllP [(!(!rside)) = true], (!(!rside)) = true → AllP [(!(!rside)) = true]] ⟨o1, o1, (g_r05_side_ok N n l.f_From rside hr), (fun hg => ⟨o1, trivial⟩), (fun hg => ⟨hg, o1, trivial⟩), (fun hg => ⟨(g_r05_side_ok N n l.f_To rside2 (condT hr2 hg)), hg, hg, trivial⟩), (fun hg => ⟨hg, trivial⟩), (fun hq => ⟨hq, trivial⟩), trivial⟩ ?_
    refine Runs.sC 24 (C_41 58) (C_41 59) (cond (!rside) true (!rside2)) (fun hq3 => ?_) (fun hq3 => ?_)
    · have h := condT h hq3
      refine Runs.sA 1 [.code (C_41 116), .code (C_41 117), .code (C_41 15)] ?_
      refine Runs.sR hE ⟨[(4, (aI 6))], [], 384⟩ (C_41 116) [] [] (kp [4]) [] 384 [] trivial ?_
      obtain rfl := Option.some.inj h
      refine Runs.sW hE ⟨[(4, (aI 6))], [], 384⟩ [] (kp [4]) [] 384 [] trivial ?_
      exact Runs.sT Try.f74 [] [] trivial
    · have h := condF h hq3
      refine Runs.sA 3 [.code (C_41 60), .code (C_41 61), .code (C_41 31)] ?_
      refine Runs.sR hE ⟨[(2, (.op 0 0 0)), (3, (.op 16 0 0)), (29, (aB (streq l.f_From l.f_To)))], [(0, vO 3 (Tapi_Network.cells n)), (16, vO 8 (Tapi_Link.cells l))], 448⟩ (C_41 60) [] [] (kp [2, 3, 29]) (kq [0, 16]) 448 [0 < 1, 0 < 1] ⟨o1, o1, trivial⟩ ?_
      refine Runs.sC 29 (C_41 122) (C_41 123) (streq l.f_From l.f_To) (fun hq4 => ?_) (fun hq4 => ?_)
      · have h := condT h hq4
        refine Runs.sA 1 [.code (C_41 244), .code (C_41 245), .code (C_41 31)] ?_
        refine Runs.sR hE ⟨[(4, (aI 3))], [], 464⟩ (C_41 244) [] [] (kp [4]) [] 464 [] trivial ?_
        obtain rfl := Option.some.inj h
        refine Runs.sW hE ⟨[(4, (aI 3))], [], 464⟩ [] (kp [4]) [] 464 [] trivial ?_
        exact Runs.sT Try.f74 [] [] trivial
      · have h := condF h hq4
        refine Runs.sA 3 [.code (C_41 124), .code (C_41 125), .code (C_41 63)] ?_
        refine Runs.sR hE ⟨[(3, (.op 16 0 0)), (43, (aB (cond (cond (streq l.f_From ByteArray.empty) true (streq l.f_To ByteArray.empty)) (((n.f_Sea.length : Nat) : Int) == 0) false)))], [(16, vO 8 (Tapi_Link.cells l))], 672⟩ (C_41 124) [] [] (kp [3, 43]) (kq [16]) 672 [0 < 1, (!(streq l.f_From ByteArray.empty)) = true → AllP [(!(streq l.f_From ByteArray.empty)) = true, 0 < 1], (!(streq l.f_From ByteArray.empty)) = true → AllP [(!(streq l.f_From ByteArray.empty)) = true], (!(streq l.f_From ByteArray.empty)) = true → AllP [(!(streq l.f_From ByteArray.empty)) = true], (cond (streq l.f_From ByteArray.empty) true (streq l.f_To ByteArray.empty)) = true → AllP [(cond (streq l.f_From ByteArray.empty) true (streq l.f_To ByteArray.empty)) = true, 0 < 1], (cond (streq l.f_From ByteArray.empty) true (streq l.f_To ByteArray.empty)) = true → AllP [(cond (streq l.f_From ByteArray.empty) true (streq l.f_To ByteArray.empty)) = true], (cond (streq l.f_From ByteArray.empty) true (streq l.f_To ByteArray.empty)) = true → AllP [(cond (streq l.f_From ByteArray.empty) true (streq l.f_To ByteArray.empty)) = true], (cond (streq l.f_From ByteArray.empty) true (streq l.f_To ByteArray.empty)) = true → AllP [(cond (streq l.f_From ByteArray.empty) true (streq l.f_To ByteArray.empty)) = true]] ⟨o1, (fun hg => ⟨hg, o1, trivial⟩), (fun hg => ⟨hg, trivial⟩), (fun hq => ⟨hq, trivial⟩), (fun hg => ⟨hg, o1, trivial⟩), (fun hg => ⟨hg, trivial⟩), (fun hg => ⟨hg, trivial⟩), (fun hq => ⟨hq, trivial⟩), trivial⟩ ?_
        refine Runs.sC 43 (C_41 250) (C_41 251) (cond (cond (streq l.f_From ByteArray.empty) true (streq l.f_To ByteArray.empty)) (((n.f_Sea.length : Nat) : Int) == 0) false) (fun hq5 => ?_) (fun hq5 => ?_)
        · have h := condT h hq5
          refine Runs.sA 1 [.code (C_41 500), .code (C_41 501), .code (C_41 63)] ?_
          refine Runs.sR hE ⟨[(4, (aI 29))], [], 688⟩ (C_41 500) [] [] (kp [4]) [] 688 [] trivial ?_
          obtain rfl := Option.some.inj h
          refine Runs.sW hE ⟨[(4, (aI 29))], [], 688⟩ [] (kp [4]) [] 688 [] trivial ?_
          exact Runs.sT Try.f74 [] [] trivial
        · have h := condF h hq5
          refine Runs.sA 3 [.code (C_41 252), .code (C_41 253), .code (C_41 127)] ?_
          obtain ⟨rinside, hr3, h⟩ := bindSome h
          refine Runs.sR hE ⟨[(3, (.op 16 0 0)), (47, (aB (!rinside)))], [(16, vO 8 (Tapi_Link.cells l))], 736⟩ (C_41 252) [(2, ⟨[], true, (aB rinside), [], 0, false⟩)] [] (kp [3, 47]) (kq [16]) 736 [0 < 1, Sound Try.prog 62 [(aI l.f_Rate), (aI 0), (aI 1000000000)] [] 0 (aB rinside) []] ⟨o1, (g_r05_inside_ok N l.f_Rate 0 1000000000 rinside hr3), trivial⟩ ?_
          refine Runs.sC 47 (C_41 506) (C_41 507) (!rinside) (fun hq6 => ?_) (fun hq6 => ?_)
          · have h := condT h hq6
            refine Runs.sA 1 [.code (C_41 1012), .code (C_41 1013), .code (C_41 127)] ?_
            refine Runs.sR hE ⟨[(4, (aI 2))], [], 752⟩ (C_41 1012) [] [] (kp [4]) [] 752 [] trivial ?_
            obtain rfl := Option.some.inj h
            refine Runs.sW hE ⟨[(4, (aI 2))], [], 752⟩ [] (kp [4]) [] 752 [] trivial ?_
            exact Runs.sT Try.f74 [] [] trivial
          · have h := condF h hq6
            refine Runs.sA 3 [.code (C_41 508), .code (C_41 509), .code (C_41 255)] ?_
            obtain ⟨rinside2, hr4, h⟩ := bindSome h
            obtain ⟨rinside3, hr5, h⟩ := bindSome h
            obtain ⟨rinside4, hr6, h⟩ := bindSome h
            refine Runs.sR hE ⟨[(73, (aB (cond (cond (l.f_Kind == 0) (cond (!rinside2) true (!rinside3)) false) true (cond (l.f_Kind == 1) (!rinside4) false))))], [], 1152⟩ (C_41 508) [(6, ⟨[], true, (aB rinside2), [], 0, false⟩), (11, ⟨[], true, (aB rinside3), [], 0, false⟩), (22, ⟨[], true, (aB rinside4), [], 0, false⟩)] [] (kp [73]) [] 1152 [0 < 1, (l.f_Kind == 0) = true → AllP [(l.f_Kind == 0) = true, 0 < 1], (l.f_Kind == 0) = true → AllP [Sound Try.prog 62 [(aI l.f_Sill), (aI (-1000000)), (aI 1000000)] [] 0 (aB rinside2) [], (l.f_Kind == 0) = true], (l.f_Kind == 0) = true → AllP [(l.f_Kind == 0) = true], ((l.f_Kind == 0) && ((l.f_Kind == 0) && (!(!rinside2)))) = true → AllP [((l.f_Kind == 0) && ((l.f_Kind == 0) && (!(!rinside2)))) = true, 0 < 1], ((l.f_Kind == 0) && ((l.f_Kind == 0) && (!(!rinside2)))) = true → AllP [Sound Try.prog 62 [(aI l.f_Factor), (aI 0), (aI 1000000000)] [] 0 (aB rinside3) [], ((l.f_Kind == 0) && ((l.f_Kind == 0) && (!(!rinside2)))) = true], ((l.f_Kind == 0) && ((l.f_Kind == 0) && (!(!rinside2)))) = true → AllP [((l.f_Kind == 0) && ((l.f_Kind == 0) && (!(!rinside2)))) = true], (l.f_Kind == 0) = true → AllP [(l.f_Kind == 0) = true, (l.f_Kind == 0) = true, (!(!rinside2)) = true → AllP [((l.f_Kind == 0) && ((l.f_Kind == 0) && (!(!rinside2)))) = true]], (l.f_Kind == 0) = true → AllP [(l.f_Kind == 0) = true], (!(cond (l.f_Kind == 0) (cond (!rinside2) true (!rinside3)) false)) = true → AllP [(!(cond (l.f_Kind == 0) (cond (!rinside2) true (!rinside3)) false)) = true, 0 < 1], (!(cond (l.f_Kind == 0) (cond (!rinside2) true (!rinside3)) false)) = true → AllP [(!(cond (l.f_Kind == 0) (cond (!rinside2) true (!rinside3)) false)) = true], ((!(cond (l.f_Kind == 0) (cond (!rinside2) true (!rinside3)) false)) && ((!(cond (l.f_Kind == 0) (cond (!rinside2) true (!rinside3)) false)) && (l.f_Kind == 1))) = true → AllP [((!(cond (l.f_Kind == 0) (cond (!rinside2) true (!rinside3)) false)) && ((!(cond (l.f_Kind == 0) (cond (!rinside2) true (!rinside3)) false)) && (l.f_Kind == 1))) = true, 0 < 1], ((!(cond (l.f_Kind == 0) (cond (!rinside2) true (!rinside3)) false)) && ((!(cond (l.f_Kind == 0) (cond (!rinside2) true (!rinside3)) false)) && (l.f_Kind == 1))) = true → AllP [Sound Try.prog 62 [(aI l.f_Lift), (aI 0), (aI 1000000)] [] 0 (aB rinside4) [], ((!(cond (l.f_Kind == 0) (cond (!rinside2) true (!rinside3)) false)) && ((!(cond (l.f_Kind == 0) (cond (!rinside2) true (!rinside3)) false)) && (l.f_Kind == 1))) = true], ((!(cond (l.f_Kind == 0) (cond (!rinside2) true (!rinside3)) false)) && ((!(cond (l.f_Kind == 0) (cond (!rinside2) true (!rinside3)) false)) && (l.f_Kind == 1))) = true → AllP [((!(cond (l.f_Kind == 0) (cond (!rinside2) true (!rinside3)) false)) && ((!(cond (l.f_Kind == 0) (cond (!rinside2) true (!rinside3)) false)) && (l.f_Kind == 1))) = true], (!(cond (l.f_Kind == 0) (cond (!rinside2) true (!rinside3)) false)) = true → AllP [(!(cond (l.f_Kind == 0) (cond (!rinside2) true (!rinside3)) false)) = true, (!(cond (l.f_Kind == 0) (cond (!rinside2) true (!rinside3)) false)) = true, (l.f_Kind == 1) = true → AllP [((!(cond (l.f_Kind == 0) (cond (!rinside2) true (!rinside3)) false)) && ((!(cond (l.f_Kind == 0) (cond (!rinside2) true (!rinside3)) false)) && (l.f_Kind == 1))) = true]], (!(cond (l.f_Kind == 0) (cond (!rinside2) true (!rinside3)) false)) = true → AllP [(!(cond (l.f_Kind == 0) (cond (!rinside2) true (!rinside3)) false)) = true]] ⟨o1, (fun hg => ⟨hg, o1, trivial⟩), (fun hg => ⟨(g_r05_inside_ok N l.f_Sill (-1000000) 1000000 rinside2 (condT hr4 hg)), hg, trivial⟩), (fun hg => ⟨hg, trivial⟩), (fun hg => ⟨hg, o1, trivial⟩), (fun hg => ⟨(g_r05_inside_ok N l.f_Factor 0 1000000000 rinside3 (condT hr5 hg)), hg, trivial⟩), (fun hg => ⟨hg, trivial⟩), (fun hg => ⟨hg, hg, (fun hq => ⟨(andI' hg (andI' hg hq)), trivial⟩), trivial⟩), (fun hq => ⟨hq, trivial⟩), (fun hg => ⟨hg, o1, trivial⟩), (fun hg => ⟨hg, trivial⟩), (fun hg => ⟨hg, o1, trivial⟩), (fun hg => ⟨(g_r05_inside_ok N l.f_Lift 0 1000000 rinside4 (condT hr6 hg)), hg, trivial⟩), (fun hg => ⟨hg, trivial⟩), (fun hg => ⟨hg, hg, (fun hq => ⟨(andI' hg (andI' hg hq)), trivial⟩), trivial⟩), (fun hq => ⟨hq, trivial⟩), trivial⟩ ?_
            refine Runs.sC 73 (C_41 1018) (C_41 1019) (cond (cond (l.f_Kind == 0) (cond (!rinside2) true (!rinside3)) false) true (cond (l.f_Kind == 1) (!rinside4) false)) (fun hq7 => ?_) (fun hq7 => ?_)
            · have h := condT h hq7
              refine Runs.sA 1 [.code (C_41 2036), .code (C_41 2037), .code (C_41 255)] ?_
              refine Runs.sR hE ⟨[(4, (aI 2))], [], 1168⟩ (C_41 2036) [] [] (kp [4]) [] 1168 [] trivial ?_
              obtain rfl := Option.some.inj h
              refine Runs.sW hE ⟨[(4, (aI 2))], [], 1168⟩ [] (kp [4]) [] 1168 [] trivial ?_
              exact Runs.sT Try.f74 [] [] trivial
            · have h := condF h hq7
              refine Runs.sA 2 [.code (C_41 510), .code (C_41 511)] ?_
              refine Runs.sR hE ⟨[(4, (aI 0))], [], 1168⟩ (C_41 510) [] [] (kp [4]) [] 1168 [] trivial ?_
              obtain rfl := Option.some.inj h
              refine Runs.sW hE ⟨[(4, (aI 0))], [], 1168⟩ [] (kp [4]) [] 1168 [] trivial ?_
              exact Runs.sT Try.f74 [] [] trivial

noncomputable def C_38 (n : Nat) : Code := cat (bodyOf Try.f27) (pth n)

theorem g_r05_CheckNetwork_L2_ok (N : Nat) (n : Tapi_Network) (fuel : Nat) : ∀ (i2 : Int) (r : Int), g_r05_CheckNetwork_L2 N n fuel i2 = some r → ∀ E, EnvOk E 0 → Runs Try.prog E 27 91 (SPost E [] (aI r)) [.code (C_38 1012), .inLoop (C_38 1012), .inBlock 2, .code (C_38 127)] ⟨[(1, (.op 0 0 0)), (6, (aI i2))], [(0, vO 3 (Tapi_Network.cells n))], 1⟩ := by
  induction fuel with
  | zero => intro _ r h; rw [g_r05_CheckNetwork_L2.eq_1] at h; cases h
  | succ fuel ih =>
    intro i2 r h E hE
    rw [g_r05_CheckNetwork_L2.eq_2] at h
    refine Runs.sA 2 [.code (C_38 4048), .code (C_38 4049), .code (C_38 2025), .inLoop (C_38 1012), .inBlock 2, .code (C_38 127)] ?_
    refine Runs.sR hE ⟨[(1, (.op 0 0 0)), (6, (aI i2)), (60, (aB (decide (i2 < ((n.f_Links.length : Nat) : Int)))))], [(0, vO 3 (Tapi_Network.cells n))], 81⟩ (C_38 4048) [] [] (kp [1, 6, 60]) (kq [0]) 81 [0 < 1] ⟨o1, trivial⟩ ?_
    refine Runs.sC 60 (C_38 8098) (C_38 8099) (decide (i2 < ((n.f_Links.length : Nat) : Int))) (fun hq9 => ?_) (fun hq9 => ?_)
    · have h := condT h hq9
      refine Runs.sA 5 [.code (C_38 32400), .code (C_38 32401), .code (C_38 16201), .inBlock 3, .code (C_38 4051), .inLoop (C_38 1012), .inBlock 2, .code (C_38 127)] ?_
      obtain ⟨c2, h⟩ := ifSome h
      obtain ⟨rIsName2, hr5, h⟩ := bindSome h
      refine Runs.sR hE ⟨[(1, (.op 0 0 0)), (6, (aI i2)), (70, (aB (!rIsName2)))], [(0, vO 3 (Tapi_Network.cells n))], 209⟩ (C_38 32400) [(6, ⟨[], true, (aB rIsName2), [], 0, false⟩)] [] (kp [1, 6, 70]) (kq [0]) 209 [0 < 1, 0 ≤ i2 ∧ i2 < ((n.f_Links.length : Nat) : Int), Sound Try.prog 69 [(aS ((n.f_Links.getD ((i2).toNat) Tapi_Link.d).f_Name))] [] 0 (aB rIsName2) []] ⟨o1, c2, (g_keelblockbase_IsName_ok N ((n.f_Links.getD ((i2).toNat) Tapi_Link.d).f_Name) rIsName2 hr5), trivial⟩ ?_
      refine Runs.sC 70 (C_38 64802) (C_38 64803) (!rIsName2) (fun hq10 => ?_) (fun hq10 => ?_)
      · have h := condT h hq10
        refine Runs.sA 1 [.code (C_38 129604), .code (C_38 129605), .code (C_38 16201), .inBlock 3, .code (C_38 4051), .inLoop (C_38 1012), .inBlock 2, .code (C_38 127)] ?_
        refine Runs.sR hE ⟨[(2, (aI 4))], [], 225⟩ (C_38 129604) [] [] (kp [2]) [] 225 [] trivial ?_
        obtain rfl := Option.some.inj h
        refine Runs.sW hE ⟨[(2, (aI 4))], [], 225⟩ [] (kp [2]) [] 225 [] trivial ?_
        exact Runs.sT Try.f27 [] [] trivial
      · have h := condF h hq10
        refine Runs.sA 3 [.code (C_38 64804), .code (C_38 64805), .code (C_38 32403), .inBlock 3, .code (C_38 4051), .inLoop (C_38 1012), .inBlock 2, .code (C_38 127)] ?_
        obtain ⟨rLink, hr6, h⟩ := bindSome h
        refine Runs.sR hE ⟨[(1, (.op 0 0 0)), (6, (aI i2)), (80, (aB (rLink != i2)))], [(0, vO 3 (Tapi_Network.cells n))], 369⟩ (C_38 64804) [(7, ⟨[], true, (aI rLink), [], 0, false⟩)] [] (kp [1, 6, 80]) (kq [0]) 369 [0 < 1, 0 < 1, 0 ≤ i2 ∧ i2 < ((n.f_Links.length : Nat) : Int), Sound Try.prog 37 [(.agg (Tapi_Network.cells n)), (aS ((n.f_Links.getD ((i2).toNat) Tapi_Link.d).f_Name))] [] 0 (aI rLink) []] ⟨o1, o1, c2, (g_r05_Link_ok N n ((n.f_Links.getD ((i2).toNat) Tapi_Link.d).f_Name) rLink hr6), trivial⟩ ?_
        refine Runs.sC 80 (C_38 129610) (C_38 129611) (rLink != i2) (fun hq11 => ?_) (fun hq11 => ?_)
        · have h := condT h hq11
          refine Runs.sA 1 [.code (C_38 259220), .code (C_38 259221), .code (C_38 32403), .inBlock 3, .code (C_38 4051), .inLoop (C_38 1012), .inBlock 2, .code (C_38 127)] ?_
          refine Runs.sR hE ⟨[(2, (aI 5))], [], 385⟩ (C_38 259220) [] [] (kp [2]) [] 385 [] trivial ?_
          obtain rfl := Option.some.inj h
          refine Runs.sW hE ⟨[(2, (aI 5))], [], 385⟩ [] (kp [2]) [] 385 [] trivial ?_
          exact Runs.sT Try.f27 [] [] trivial
        · have h := condF h hq11
          refine Runs.sA 2 [.code (C_38 64806), .code (C_38 64807), .inBlock 3, .code (C_38 4051), .inLoop (C_38 1012), .inBlock 2, .code (C_38 127)] ?_
          obtain ⟨rcheckLink, hr7, h⟩ := bindSome h
          refine Runs.sR hE ⟨[(1, (.op 0 0 0)), (6, (aI i2)), (7, (aI rcheckLink))], [(0, vO 3 (Tapi_Network.cells n))], 497⟩ (C_38 64806) [(6, ⟨[], true, (aI rcheckLink), [], 0, false⟩)] [] (kp [1, 6, 7]) (kq [0]) 497 [0 < 1, 0 < 1, 0 ≤ i2 ∧ i2 < ((n.f_Links.length : Nat) : Int), Sound Try.prog 74 [(.agg (Tapi_Network.cells n)), (.agg (Tapi_Link.cells (n.f_Links.getD ((i2).toNat) Tapi_Link.d)))] [] 0 (aI rcheckLink) []] ⟨o1, o1, c2, (g_r05_checkLink_ok N n (n.f_Links.getD ((i2).toNat) Tapi_Link.d) rcheckLink hr7), trivial⟩ ?_
          refine Runs.sA 1 [.code (C_38 129614), .code (C_38 129615), .inBlock 3, .code (C_38 4051), .inLoop (C_38 1012), .inBlock 2, .code (C_38 127)] ?_
          refine Runs.sR hE ⟨[(1, (.op 0 0 0)), (6, (aI i2)), (7, (aI rcheckLink)), (89, (aB (rcheckLink != 0)))], [(0, vO 3 (Tapi_Network.cells n))], 529⟩ (C_38 129614) [] [] (kp [1, 6, 7, 89]) (kq [0]) 529 [] trivial ?_
          refine Runs.sC 89 (C_38 259230) (C_38 259231) (rcheckLink != 0) (fun hq12 => ?_) (fun hq12 => ?_)
          · have h := condT h hq12
            refine Runs.sA 1 [.code (C_38 518460), .code (C_38 518461), .inBlock 3, .code (C_38 4051), .inLoop (C_38 1012), .inBlock 2, .code (C_38 127)] ?_
            refine Runs.sR hE ⟨[(2, (aI rcheckLink))], [], 561⟩ (C_38 518460) [] [] (kp [2]) [] 561 [] trivial ?_
            obtain rfl := Option.some.inj h
            refine Runs.sW hE ⟨[(2, (aI rcheckLink))], [], 561⟩ [] (kp [2]) [] 561 [] trivial ?_
            exact Runs.sT Try.f27 [] [] trivial
          · have h := condF h hq12
            refine Runs.sA 2 [.code (C_38 4051), .inLoop (C_38 1012), .inBlock 2, .code (C_38 127)] ?_
            refine Runs.sR hE ⟨[(1, (.op 0 0 0)), (6, (aI (w64 (i2 + 1))))], [(0, vO 3 (Tapi_Network.cells n))], 577⟩ (C_38 4051) [] [] (kp [1, 6]) (kq [0]) 577 [] trivial ?_
            refine Runs.sA 1 [.code (C_38 1012), .inLoop (C_38 1012), .inBlock 2, .code (C_38 127)] ?_
            exact Runs.sW hE _ [] (kp [1, 6]) (kq [0]) 1 [] trivial (ih (w64 (i2 + 1)) _ h E hE)
    · have h := condF h hq9
      refine Runs.sA 2 [.code (C_38 254), .code (C_38 255)] ?_
      refine Runs.sR hE ⟨[(2, (aI 0))], [], 97⟩ (C_38 254) [] [] (kp [2]) [] 97 [] trivial ?_
      obtain rfl := Option.some.inj h
      refine Runs.sW hE ⟨[(2, (aI 0))], [], 97⟩ [] (kp [2]) [] 97 [] trivial ?_
      exact Runs.sT Try.f27 [] [] trivial

theorem g_r05_CheckNetwork_L1_ok (N : Nat) (n : Tapi_Network) (fuel : Nat) : ∀ (i : Int) (r : Int), g_r05_CheckNetwork_L1 N n fuel i = some r → ∀ E, EnvOk E 0 → Runs Try.prog E 27 91 (SPost E [] (aI r)) [.code (C_38 116), .inLoop (C_38 116), .inBlock 0, .code (C_38 15)] ⟨[(1, (.op 0 0 0)), (3, (aI i))], [(0, vO 3 (Tapi_Network.cells n))], 1⟩ := by
  induction fuel with
  | zero => intro _ r h; rw [g_r05_CheckNetwork_L1.eq_1] at h; cases h
  | succ fuel ih =>
    intro i r h E hE
    rw [g_r05_CheckNetwork_L1.eq_2] at h
    refine Runs.sA 2 [.code (C_38 464), .code (C_38 465), .code (C_38 233), .inLoop (C_38 116), .inBlock 0, .code (C_38 15)] ?_
    refine Runs.sR hE ⟨[(1, (.op 0 0 0)), (3, (aI i)), (16, (aB (decide (i < ((n.f_Basins.length : Nat) : Int)))))], [(0, vO 3 (Tapi_Network.cells n))], 81⟩ (C_38 464) [] [] (kp [1, 3, 16]) (kq [0]) 81 [0 < 1] ⟨o1, trivial⟩ ?_
    refine Runs.sC 16 (C_38 930) (C_38 931) (decide (i < ((n.f_Basins.length : Nat) : Int))) (fun hq3 => ?_) (fun hq3 => ?_)
    · have h := condT h hq3
      refine Runs.sA 5 [.code (C_38 3728), .code (C_38 3729), .code (C_38 1865), .inBlock 1, .code (C_38 467), .inLoop (C_38 116), .inBlock 0, .code (C_38 15)] ?_
      obtain ⟨c, h⟩ := ifSome h
      obtain ⟨rIsName, hr, h⟩ := bindSome h
      refine Runs.sR hE ⟨[(1, (.op 0 0 0)), (3, (aI i)), (26, (aB (!rIsName)))], [(0, vO 3 (Tapi_Network.cells n))], 209⟩ (C_38 3728) [(6, ⟨[], true, (aB rIsName), [], 0, false⟩)] [] (kp [1, 3, 26]) (kq [0]) 209 [0 < 1, 0 ≤ i ∧ i < ((n.f_Basins.length : Nat) : Int), Sound Try.prog 69 [(aS ((n.f_Basins.getD ((i).toNat) Tapi_Basin.d).f_Name))] [] 0 (aB rIsName) []] ⟨o1, c, (g_keelblockbase_IsName_ok N ((n.f_Basins.getD ((i).toNat) Tapi_Basin.d).f_Name) rIsName hr), trivial⟩ ?_
      refine Runs.sC 26 (C_38 7458) (C_38 7459) (!rIsName) (fun hq4 => ?_) (fun hq4 => ?_)
      · have h := condT h hq4
        refine Runs.sA 1 [.code (C_38 14916), .code (C_38 14917), .code (C_38 1865), .inBlock 1, .code (C_38 467), .inLoop (C_38 116), .inBlock 0, .code (C_38 15)] ?_
        refine Runs.sR hE ⟨[(2, (aI 4))], [], 225⟩ (C_38 14916) [] [] (kp [2]) [] 225 [] trivial ?_
        obtain rfl := Option.some.inj h
        refine Runs.sW hE ⟨[(2, (aI 4))], [], 225⟩ [] (kp [2]) [] 225 [] trivial ?_
        exact Runs.sT Try.f27 [] [] trivial
      · have h := condF h hq4
        refine Runs.sA 3 [.code (C_38 7460), .code (C_38 7461), .code (C_38 3731), .inBlock 1, .code (C_38 467), .inLoop (C_38 116), .inBlock 0, .code (C_38 15)] ?_
        obtain ⟨rBasin, hr2, h⟩ := bindSome h
        refine Runs.sR hE ⟨[(1, (.op 0 0 0)), (3, (aI i)), (36, (aB (rBasin != i)))], [(0, vO 3 (Tapi_Network.cells n))], 369⟩ (C_38 7460) [(7, ⟨[], true, (aI rBasin), [], 0, false⟩)] [] (kp [1, 3, 36]) (kq [0]) 369 [0 < 1, 0 < 1, 0 ≤ i ∧ i < ((n.f_Basins.length : Nat) : Int), Sound Try.prog 55 [(.agg (Tapi_Network.cells n)), (aS ((n.f_Basins.getD ((i).toNat) Tapi_Basin.d).f_Name))] [] 0 (aI rBasin) []] ⟨o1, o1, c, (g_r05_Basin_ok N n ((n.f_Basins.getD ((i).toNat) Tapi_Basin.d).f_Name) rBasin hr2), trivial⟩ ?_
        refine Runs.sC 36 (C_38 14922) (C_38 14923) (rBasin != i) (fun hq5 => ?_) (fun hq5 => ?_)
        · have h := condT h hq5
          refine Runs.sA 1 [.code (C_38 29844), .code (C_38 29845), .code (C_38 3731), .inBlock 1, .code (C_38 467), .inLoop (C_38 116), .inBlock 0, .code (C_38 15)] ?_
          refine Runs.sR hE ⟨[(2, (aI 5))], [], 385⟩ (C_38 29844) [] [] (kp [2]) [] 385 [] trivial ?_
          obtain rfl := Option.some.inj h
          refine Runs.sW hE ⟨[(2, (aI 5))], [], 385⟩ [] (kp [2]) [] 385 [] trivial ?_
          exact Runs.sT Try.f27 [] [] trivial
        · have h := condF h hq5
          refine Runs.sA 2 [.code (C_38 7462), .code (C_38 7463), .inBlock 1, .code (C_38 467), .inLoop (C_38 116), .inBlock 0, .code (C_38 15)] ?_
          obtain ⟨rCheckBasin, hr3, h⟩ := bindSome h
          refine Runs.sR hE ⟨[(1, (.op 0 0 0)), (3, (aI i)), (4, (aI rCheckBasin))], [(0, vO 3 (Tapi_Network.cells n))], 481⟩ (C_38 7462) [(5, ⟨[], true, (aI rCheckBasin), [], 0, false⟩)] [] (kp [1, 3, 4]) (kq [0]) 481 [0 < 1, 0 ≤ i ∧ i < ((n.f_Basins.length : Nat) : Int), Sound Try.prog 19 [(.agg (Tapi_Basin.cells (n.f_Basins.getD ((i).toNat) Tapi_Basin.d)))] [] 0 (aI rCheckBasin) []] ⟨o1, c, (g_r05_CheckBasin_ok N (n.f_Basins.getD ((i).toNat) Tapi_Basin.d) rCheckBasin hr3), trivial⟩ ?_
          refine Runs.sA 1 [.code (C_38 14926), .code (C_38 14927), .inBlock 1, .code (C_38 467), .inLoop (C_38 116), .inBlock 0, .code (C_38 15)] ?_
          refine Runs.sR hE ⟨[(1, (.op 0 0 0)), (3, (aI i)), (4, (aI rCheckBasin)), (44, (aB (rCheckBasin != 0)))], [(0, vO 3 (Tapi_Network.cells n))], 513⟩ (C_38 14926) [] [] (kp [1, 3, 4, 44]) (kq [0]) 513 [] trivial ?_
          refine Runs.sC 44 (C_38 29854) (C_38 29855) (rCheckBasin != 0) (fun hq6 => ?_) (fun hq6 => ?_)
          · have h := condT h hq6
            refine Runs.sA 1 [.code (C_38 59708), .code (C_38 59709), .inBlock 1, .code (C_38 467), .inLoop (C_38 116), .inBlock 0, .code (C_38 15)] ?_
            refine Runs.sR hE ⟨[(2, (aI rCheckBasin))], [], 545⟩ (C_38 59708) [] [] (kp [2]) [] 545 [] trivial ?_
            obtain rfl := Option.some.inj h
            refine Runs.sW hE ⟨[(2, (aI rCheckBasin))], [], 545⟩ [] (kp [2]) [] 545 [] trivial ?_
            exact Runs.sT Try.f27 [] [] trivial
          · have h := condF h hq6
            refine Runs.sA 2 [.code (C_38 467), .inLoop (C_38 116), .inBlock 0, .code (C_38 15)] ?_
            refine Runs.sR hE ⟨[(1, (.op 0 0 0)), (3, (aI (w64 (i + 1))))], [(0, vO 3 (Tapi_Network.cells n))], 561⟩ (C_38 467) [] [] (kp [1, 3]) (kq [0]) 561 [] trivial ?_
            refine Runs.sA 1 [.code (C_38 116), .inLoop (C_38 116), .inBlock 0, .code (C_38 15)] ?_
            exact Runs.sW hE _ [] (kp [1, 3]) (kq [0]) 1 [] trivial (ih (w64 (i + 1)) _ h E hE)
    · have h := condF h hq3
      refine Runs.sA 3 [.code (C_38 60), .code (C_38 61), .code (C_38 31)] ?_
      obtain ⟨rCheckSea, hr4, h⟩ := bindSome h
      refine Runs.sR hE ⟨[(1, (.op 0 0 0)), (5, (aI rCheckSea))], [(0, vO 3 (Tapi_Network.cells n))], 145⟩ (C_38 60) [(2, ⟨[], true, (aI rCheckSea), [], 0, false⟩)] [] (kp [1, 5]) (kq [0]) 145 [0 < 1, Sound Try.prog 23 [(encL Tapi_Mark.cells Tapi_Mark.d n.f_Sea)] [] 0 (aI rCheckSea) []] ⟨o1, (g_r05_CheckSea_ok N n.f_Sea rCheckSea hr4), trivial⟩ ?_
      refine Runs.sA 1 [.code (C_38 122), .code (C_38 123), .code (C_38 31)] ?_
      refine Runs.sR hE ⟨[(1, (.op 0 0 0)), (5, (aI rCheckSea)), (50, (aB (rCheckSea != 0)))], [(0, vO 3 (Tapi_Network.cells n))], 177⟩ (C_38 122) [] [] (kp [1, 5, 50]) (kq [0]) 177 [] trivial ?_
      refine Runs.sC 50 (C_38 246) (C_38 247) (rCheckSea != 0) (fun hq7 => ?_) (fun hq7 => ?_)
      · have h := condT h hq7
        refine Runs.sA 1 [.code (C_38 492), .code (C_38 493), .code (C_38 31)] ?_
        refine Runs.sR hE ⟨[(2, (aI rCheckSea))], [], 209⟩ (C_38 492) [] [] (kp [2]) [] 209 [] trivial ?_
        obtain rfl := Option.some.inj h
        refine Runs.sW hE ⟨[(2, (aI rCheckSea))], [], 209⟩ [] (kp [2]) [] 209 [] trivial ?_
        exact Runs.sT Try.f27 [] [] trivial
      · have h := condF h hq7
        refine Runs.sA 3 [.code (C_38 124), .code (C_38 125), .code (C_38 63)] ?_
        refine Runs.sR hE ⟨[(1, (.op 0 0 0)), (55, (aB (decide (((n.f_Links.length : Nat) : Int) > 12))))], [(0, vO 3 (Tapi_Network.cells n))], 241⟩ (C_38 124) [] [] (kp [1, 55]) (kq [0]) 241 [0 < 1] ⟨o1, trivial⟩ ?_
        refine Runs.sC 55 (C_38 250) (C_38 251) (decide (((n.f_Links.length : Nat) : Int) > 12)) (fun hq8 => ?_) (fun hq8 => ?_)
        · have h := condT h hq8
          refine Runs.sA 1 [.code (C_38 500), .code (C_38 501), .code (C_38 63)] ?_
          refine Runs.sR hE ⟨[(2, (aI 8))], [], 257⟩ (C_38 500) [] [] (kp [2]) [] 257 [] trivial ?_
          obtain rfl := Option.some.inj h
          refine Runs.sW hE ⟨[(2, (aI 8))], [], 257⟩ [] (kp [2]) [] 257 [] trivial ?_
          exact Runs.sT Try.f27 [] [] trivial
        · have h := condF h hq8
          refine Runs.sA 3 [.code (C_38 252), .code (C_38 253), .code (C_38 127)] ?_
          refine Runs.sR hE ⟨[(1, (.op 0 0 0)), (6, (aI 0))], [(0, vO 3 (Tapi_Network.cells n))], 257⟩ (C_38 252) [] [] (kp [1, 6]) (kq [0]) 257 [] trivial ?_
          refine Runs.sA 2 [.code (C_38 1012), .inLoop (C_38 1012), .inBlock 2, .code (C_38 127)] ?_
          exact Runs.sW hE _ [] (kp [1, 6]) (kq [0]) 1 [] trivial (g_r05_CheckNetwork_L2_ok N n N 0 _ h E hE)

theorem g_r05_CheckNetwork_ok (N : Nat) (n : Tapi_Network) (r : Int) (h : g_r05_CheckNetwork N n = some r) : Sound Try.prog 27 [(.agg (Tapi_Network.cells n))] [] 0 (aI r) [] := by
  unfold g_r05_CheckNetwork at h
  refine Sound.of_runs (fu := Try.f27) (c := C_38 1) (nt := 91) (by kernel_rfl) (by kernel_rfl) (by kernel_rfl) (by kernel_rfl) (fun hm => rfl) ?_
  intro E hE
  refine Runs.sA 1 [.code (C_38 2), .code (C_38 3)] ?_
  refine Runs.sR hE ⟨[(1, (.op 0 0 0))], [(0, vO 3 (Tapi_Network.cells n))], 32⟩ (C_38 2) [] [] (kp [1]) (kq [0]) 32 [] trivial ?_
  refine Runs.sA 2 [.code (C_38 12), .code (C_38 13), .code (C_38 7)] ?_
  refine Runs.sR hE ⟨[(1, (.op 0 0 0)), (11, (aB (decide (((n.f_Basins.length : Nat) : Int) > 8))))], [(0, vO 3 (Tapi_Network.cells n))], 96⟩ (C_38 12) [] [] (kp [1, 11]) (kq [0]) 96 [0 < 1] ⟨o1, trivial⟩ ?_
  refine Runs.sC 11 (C_38 26) (C_38 27) (decide (((n.f_Basins.length : Nat) : Int) > 8)) (fun hq2 => ?_) (fun hq2 => ?_)
  · have h := condT h hq2
    refine Runs.sA 1 [.code (C_38 52), .code (C_38 53), .code (C_38 7)] ?_
    refine Runs.sR hE ⟨[(2, (aI 8))], [], 112⟩ (C_38 52) [] [] (kp [2]) [] 112 [] trivial ?_
    obtain rfl := Option.some.inj h
    refine Runs.sW hE ⟨[(2, (aI 8))], [], 112⟩ [] (kp [2]) [] 112 [] trivial ?_
    exact Runs.sT Try.f27 [] [] trivial
  · have h := condF h hq2
    refine Runs.sA 3 [.code (C_38 28), .code (C_38 29), .code (C_38 15)] ?_
    refine Runs.sR hE ⟨[(1, (.op 0 0 0)), (3, (aI 0))], [(0, vO 3 (Tapi_Network.cells n))], 112⟩ (C_38 28) [] [] (kp [1, 3]) (kq [0]) 112 [] trivial ?_
    refine Runs.sA 2 [.code (C_38 116), .inLoop (C_38 116), .inBlock 0, .code (C_38 15)] ?_
    exact Runs.sW hE _ [] (kp [1, 3]) (kq [0]) 1 [] trivial (g_r05_CheckNetwork_L1_ok N n N 0 _ h E hE)

noncomputable def C_46 (n : Nat) : Code := cat (bodyOf Try.f76) (pth n)

theorem g_water_CheckNetwork_1_ok (N : Nat) (i : Int) (cap0 : Tapi_Network) (r : ByteArray) (h : g_water_CheckNetwork_1 N i cap0 = some r) : Sound Try.prog 76 [(aI i), (.op 0 0 0)] [(0, vO 3 (Tapi_Network.cells cap0))] 1 (aS r) [(0, vO 3 (Tapi_Network.cells cap0))] := by
  unfold g_water_CheckNetwork_1 at h
  refine Sound.of_runs (fu := Try.f76) (c := C_46 1) (nt := 10) (by kernel_rfl) (by kernel_rfl) (by kernel_rfl) (by kernel_rfl) (fun hm => absurd hm (by decide)) ?_
  intro E hE
  refine Runs.sA 1 [.code (C_46 2), .code (C_46 3)] ?_
  refine Runs.sR hE ⟨[(0, (aI i)), (1, (.op 0 0 0))], [(0, vO 3 (Tapi_Network.cells cap0))], 17⟩ (C_46 2) [] [] (kp [0, 1]) (kq [0]) 17 [] trivial ?_
  refine Runs.sA 1 [.code (C_46 6), .code (C_46 7)] ?_
  obtain ⟨c, h⟩ := ifSome h
  refine Runs.sR hE ⟨[(3, (aS ((cap0.f_Basins.getD ((i).toNat) Tapi_Basin.d).f_Name)))], [(0, vO 3 (Tapi_Network.cells cap0))], 129⟩ (C_46 6) [] [] (kp [3]) (kq [0]) 129 [0 < 1, 0 ≤ i ∧ i < ((cap0.f_Basins.length : Nat) : Int)] ⟨o1, c, trivial⟩ ?_
  obtain rfl := Option.some.inj h
  refine Runs.sW hE ⟨[(3, (aS ((cap0.f_Basins.getD ((i).toNat) Tapi_Basin.d).f_Name)))], [(0, vO 3 (Tapi_Network.cells cap0))], 129⟩ [] (kp [3]) (kq [0]) 129 [] trivial ?_
  exact Runs.sT Try.f76 [] [] trivial

noncomputable def C_47 (n : Nat) : Code := cat (bodyOf Try.f77) (pth n)

theorem g_water_CheckNetwork_2_ok (N : Nat) (i : Int) (cap0 : Tapi_Network) (r : Int) (h : g_water_CheckNetwork_2 N i cap0 = some r) : Sound Try.prog 77 [(aI i), (.op 0 0 0)] [(0, vO 3 (Tapi_Network.cells cap0))] 1 (aI r) [(0, vO 3 (Tapi_Network.cells cap0))] := by
  unfold g_water_CheckNetwork_2 at h
  refine Sound.of_runs (fu := Try.f77) (c := C_47 1) (nt := 10) (by kernel_rfl) (by kernel_rfl) (by kernel_rfl) (by kernel_rfl) (fun hm => absurd hm (by decide)) ?_
  intro E hE
  refine Runs.sA 1 [.code (C_47 2), .code (C_47 3)] ?_
  refine Runs.sR hE ⟨[(0, (aI i)), (1, (.op 0 0 0))], [(0, vO 3 (Tapi_Network.cells cap0))], 17⟩ (C_47 2) [] [] (kp [0, 1]) (kq [0]) 17 [] trivial ?_
  refine Runs.sA 1 [.code (C_47 6), .code (C_47 7)] ?_
  obtain ⟨c, h⟩ := ifSome h
  obtain ⟨rcheckForm, hr, h⟩ := bindSome h
  refine Runs.sR hE ⟨[(3, (aI rcheckForm))], [(0, vO 3 (Tapi_Network.cells cap0))], 129⟩ (C_47 6) [(5, ⟨[], true, (aI rcheckForm), [], 0, false⟩)] [] (kp [3]) (kq [0]) 129 [0 < 1, 0 ≤ i ∧ i < ((cap0.f_Basins.length : Nat) : Int), Sound Try.prog 68 [(.agg (Tapi_Basin.cells (cap0.f_Basins.getD ((i).toNat) Tapi_Basin.d)))] [] 0 (aI rcheckForm) []] ⟨o1, c, (g_water_checkForm_ok N (cap0.f_Basins.getD ((i).toNat) Tapi_Basin.d) rcheckForm hr), trivial⟩ ?_
  obtain rfl := Option.some.inj h
  refine Runs.sW hE ⟨[(3, (aI rcheckForm))], [(0, vO 3 (Tapi_Network.cells cap0))], 129⟩ [] (kp [3]) (kq [0]) 129 [] trivial ?_
  exact Runs.sT Try.f77 [] [] trivial

noncomputable def C_45 (n : Nat) : Code := cat (bodyOf Try.f75) (pth n)

theorem g_water_checkNamed_L1_ok (N : Nat) (n : Int) (cap0 : Tapi_Network) (fuel : Nat) : ∀ (names : List (ByteArray × Bool)) (x : Int) (r : Int), g_water_checkNamed_L1 N n cap0 fuel names x = some r → ∀ E, EnvOk E 1 → Runs Try.prog E 75 41 (SPost E [(0, vO 3 (Tapi_Network.cells cap0))] (aI r)) [.code (C_45 244), .inLoop (C_45 244), .inBlock 0, .code (C_45 31)] ⟨[(2, (.fn (.func 76) [] [(.op 0 0 0)])), (3, (.fn (.func 77) [] [(.op 0 0 0)])), (9, (.mp 1)), (17, (aI n)), (18, (aI x))], [(0, vO 3 (Tapi_Network.cells cap0)), (1, ⟨false, 0, 0, true, fun _ => encM aS aB names⟩)], 2⟩ := by
  induction fuel with
  | zero => intro _ _ r h; rw [g_water_checkNamed_L1.eq_1] at h; cases h
  | succ fuel ih =>
    intro names x r h E hE
    rw [g_water_checkNamed_L1.eq_2] at h
    refine Runs.sA 1 [.code (C_45 488), .code (C_45 489), .inLoop (C_45 244), .inBlock 0, .code (C_45 31)] ?_
    refine Runs.sR hE ⟨[(2, (.fn (.func 76) [] [(.op 0 0 0)])), (3, (.fn (.func 77) [] [(.op 0 0 0)])), (9, (.mp 1)), (17, (aI n)), (18, (aI x)), (19, (aB (decide (x < n))))], [(0, vO 3 (Tapi_Network.cells cap0)), (1, ⟨false, 0, 0, true, fun _ => encM aS aB names⟩)], 18⟩ (C_45 488) [] [] (kp [2, 3, 9, 17, 18, 19]) (kq [0, 1]) 18 [] trivial ?_
    refine Runs.sA 1 [.code (C_45 978), .code (C_45 979), .inLoop (C_45 244), .inBlock 0, .code (C_45 31)] ?_
    refine Runs.sC 19 (C_45 1956) (C_45 1957) (decide (x < n)) (fun hq3 => ?_) (fun hq3 => ?_)
    · have h := condT h hq3
      refine Runs.sA 4 [.code (C_45 7832), .code (C_45 7833), .inBlock 1, .code (C_45 1959), .inLoop (C_45 244), .inBlock 0, .code (C_45 31)] ?_
      refine Runs.sR hE ⟨[(2, (.fn (.func 76) [] [(.op 0 0 0)])), (3, (.fn (.func 77) [] [(.op 0 0 0)])), (9, (.mp 1)), (10, (aI x)), (17, (aI n)), (18, (aI x))], [(0, vO 3 (Tapi_Network.cells cap0)), (1, ⟨false, 0, 0, true, fun _ => encM aS aB names⟩)], 50⟩ (C_45 7832) [] [] (kp [2, 3, 9, 10, 17, 18]) (kq [0, 1]) 50 [] trivial ?_
      refine Runs.sA 2 [.code (C_45 31332), .code (C_45 31333), .code (C_45 15667), .inBlock 1, .code (C_45 1959), .inLoop (C_45 244), .inBlock 0, .code (C_45 31)] ?_
      obtain ⟨rCheckNetwork, hr, h⟩ := bindSome h
      refine Runs.sR hE ⟨[(2, (.fn (.func 76) [] [(.op 0 0 0)])), (3, (.fn (.func 77) [] [(.op 0 0 0)])), (9, (.mp 1)), (10, (aI x)), (11, (aS rCheckNetwork)), (17, (aI n)), (18, (aI x))], [(0, vO 3 (Tapi_Network.cells cap0)), (1, ⟨false, 0, 0, true, fun _ => encM aS aB names⟩)], 114⟩ (C_45 31332) [(2, ⟨[0], true, (aS rCheckNetwork), [], 0, false⟩)] [] (kp [2, 3, 9, 10, 11, 17, 18]) (kq [0, 1]) 114 [Sound Try.prog 76 [(aI x), (.op 0 0 0)] [(0, vO 3 (Tapi_Network.cells cap0))] 1 (aS rCheckNetwork) [(0, vO 3 (Tapi_Network.cells cap0))]] ⟨(g_water_CheckNetwork_1_ok N x cap0 rCheckNetwork hr), trivial⟩ ?_
      refine Runs.sA 2 [.code (C_45 125332), .code (C_45 125333), .inBlock 2, .code (C_45 15667), .inBlock 1, .code (C_45 1959), .inLoop (C_45 244), .inBlock 0, .code (C_45 31)] ?_
      obtain ⟨risName, hr2, h⟩ := bindSome h
      refine Runs.sR hE ⟨[(2, (.fn (.func 76) [] [(.op 0 0 0)])), (3, (.fn (.func 77) [] [(.op 0 0 0)])), (9, (.mp 1)), (10, (aI x)), (11, (aS rCheckNetwork)), (17, (aI n)), (18, (aI x)), (26, (aB (!risName)))], [(0, vO 3 (Tapi_Network.cells cap0)), (1, ⟨false, 0, 0, true, fun _ => encM aS aB names⟩)], 178⟩ (C_45 125332) [(1, ⟨[], true, (aB risName), [], 0, false⟩)] [] (kp [2, 3, 9, 10, 11, 17, 18, 26]) (kq [0, 1]) 178 [Sound Try.prog 67 [(aS rCheckNetwork)] [] 0 (aB risName) []] ⟨(g_water_isName_ok N rCheckNetwork risName hr2), trivial⟩ ?_
      refine Runs.sC 26 (C_45 250666) (C_45 250667) (!risName) (fun hq4 => ?_) (fun hq4 => ?_)
      · have h := condT h hq4
        refine Runs.sA 1 [.code (C_45 501332), .code (C_45 501333), .inBlock 2, .code (C_45 15667), .inBlock 1, .code (C_45 1959), .inLoop (C_45 244), .inBlock 0, .code (C_45 31)] ?_
        refine Runs.sR hE ⟨[(8, (aI 4))], [(0, vO 3 (Tapi_Network.cells cap0))], 194⟩ (C_45 501332) [] [] (kp [8]) (kq [0]) 194 [] trivial ?_
        obtain rfl := Option.some.inj h
        refine Runs.sW hE ⟨[(8, (aI 4))], [(0, vO 3 (Tapi_Network.cells cap0))], 194⟩ [] (kp [8]) (kq [0]) 194 [] trivial ?_
        exact Runs.sT Try.f75 [] [] trivial
      · have h := condF h hq4
        refine Runs.sA 1 [.code (C_45 501334), .code (C_45 501335), .inBlock 2, .code (C_45 15667), .inBlock 1, .code (C_45 1959), .inLoop (C_45 244), .inBlock 0, .code (C_45 31)] ?_
        refine Runs.sR hE ⟨[(2, (.fn (.func 76) [] [(.op 0 0 0)])), (3, (.fn (.func 77) [] [(.op 0 0 0)])), (9, (.mp 1)), (10, (aI x)), (11, (aS rCheckNetwork)), (17, (aI n)), (18, (aI x)), (30, (aB ((mGet streq names rCheckNetwork).getD false)))], [(0, vO 3 (Tapi_Network.cells cap0)), (1, ⟨false, 0, 0, true, fun _ => encM aS aB names⟩)], 242⟩ (C_45 501334) [(2, ⟨[], true, (aB ((mGet streq names rCheckNetwork).getD false)), [], 0, false⟩)] [] (kp [2, 3, 9, 10, 11, 17, 18, 30]) (kq [0, 1]) 242 [(Go.Ab.look (encM aS aB names) (aS rCheckNetwork)).map (fun zr => zr.getD (ofConst (.bool false))) = some (aB ((mGet streq names rCheckNetwork).getD false))] ⟨(look_get aS aB (d := false) keyS rfl _ _), trivial⟩ ?_
        refine Runs.sC 30 (C_45 1002670) (C_45 1002671) ((mGet streq names rCheckNetwork).getD false) (fun hq5 => ?_) (fun hq5 => ?_)
        · have h := condT h hq5
          refine Runs.sA 1 [.code (C_45 2005340), .code (C_45 2005341), .inBlock 2, .code (C_45 15667), .inBlock 1, .code (C_45 1959), .inLoop (C_45 244), .inBlock 0, .code (C_45 31)] ?_
          refine Runs.sR hE ⟨[(8, (aI 5))], [(0, vO 3 (Tapi_Network.cells cap0))], 258⟩ (C_45 2005340) [] [] (kp [8]) (kq [0]) 258 [] trivial ?_
          obtain rfl := Option.some.inj h
          refine Runs.sW hE ⟨[(8, (aI 5))], [(0, vO 3 (Tapi_Network.cells cap0))], 258⟩ [] (kp [8]) (kq [0]) 258 [] trivial ?_
          exact Runs.sT Try.f75 [] [] trivial
        · have h := condF h hq5
          refine Runs.sR hE ⟨[(2, (.fn (.func 76) [] [(.op 0 0 0)])), (3, (.fn (.func 77) [] [(.op 0 0 0)])), (9, (.mp 1)), (10, (aI x)), (17, (aI n)), (18, (aI x))], [(0, vO 3 (Tapi_Network.cells cap0)), (1, ⟨false, 0, 0, true, fun _ => encM aS aB (mPut streq names rCheckNetwork true)⟩)], 290⟩ (C_45 1002671) [(2, ⟨[], true, (.tup (encM aS aB (mPut streq names rCheckNetwork true))), [], 0, false⟩)] [] (kp [2, 3, 9, 10, 17, 18]) (kq [0, 1]) 290 [Go.Ab.insA (encM aS aB names) (aS rCheckNetwork) (aB true) = some (encM aS aB (mPut streq names rCheckNetwork true))] ⟨(insA_enc aS aB keyS _ _ _), trivial⟩ ?_
          refine Runs.sA 2 [.code (C_45 31334), .code (C_45 31335), .inBlock 1, .code (C_45 1959), .inLoop (C_45 244), .inBlock 0, .code (C_45 31)] ?_
          obtain ⟨rCheckNetwork2, hr3, h⟩ := bindSome h
          refine Runs.sR hE ⟨[(2, (.fn (.func 76) [] [(.op 0 0 0)])), (3, (.fn (.func 77) [] [(.op 0 0 0)])), (9, (.mp 1)), (12, (aI rCheckNetwork2)), (17, (aI n)), (18, (aI x))], [(0, vO 3 (Tapi_Network.cells cap0)), (1, ⟨false, 0, 0, true, fun _ => encM aS aB (mPut streq names rCheckNetwork true)⟩)], 354⟩ (C_45 31334) [(2, ⟨[0], true, (aI rCheckNetwork2), [], 0, false⟩)] [] (kp [2, 3, 9, 12, 17, 18]) (kq [0, 1]) 354 [Sound Try.prog 77 [(aI x), (.op 0 0 0)] [(0, vO 3 (Tapi_Network.cells cap0))] 1 (aI rCheckNetwork2) [(0, vO 3 (Tapi_Network.cells cap0))]] ⟨(g_water_CheckNetwork_2_ok N x cap0 rCheckNetwork2 hr3), trivial⟩ ?_
          refine Runs.sA 1 [.code (C_45 62670), .code (C_45 62671), .inBlock 1, .code (C_45 1959), .inLoop (C_45 244), .inBlock 0, .code (C_45 31)] ?_
          refine Runs.sR hE ⟨[(2, (.fn (.func 76) [] [(.op 0 0 0)])), (3, (.fn (.func 77) [] [(.op 0 0 0)])), (9, (.mp 1)), (12, (aI rCheckNetwork2)), (17, (aI n)), (18, (aI x)), (38, (aB (rCheckNetwork2 != 0)))], [(0, vO 3 (Tapi_Network.cells cap0)), (1, ⟨false, 0, 0, true, fun _ => encM aS aB (mPut streq names rCheckNetwork true)⟩)], 386⟩ (C_45 62670) [] [] (kp [2, 3, 9, 12, 17, 18, 38]) (kq [0, 1]) 386 [] trivial ?_
          refine Runs.sC 38 (C_45 125342) (C_45 125343) (rCheckNetwork2 != 0) (fun hq6 => ?_) (fun hq6 => ?_)
          · have h := condT h hq6
            refine Runs.sA 1 [.code (C_45 250684), .code (C_45 250685), .inBlock 1, .code (C_45 1959), .inLoop (C_45 244), .inBlock 0, .code (C_45 31)] ?_
            refine Runs.sR hE ⟨[(8, (aI rCheckNetwork2))], [(0, vO 3 (Tapi_Network.cells cap0))], 418⟩ (C_45 250684) [] [] (kp [8]) (kq [0]) 418 [] trivial ?_
            obtain rfl := Option.some.inj h
            refine Runs.sW hE ⟨[(8, (aI rCheckNetwork2))], [(0, vO 3 (Tapi_Network.cells cap0))], 418⟩ [] (kp [8]) (kq [0]) 418 [] trivial ?_
            exact Runs.sT Try.f75 [] [] trivial
          · have h := condF h hq6
            refine Runs.sA 2 [.code (C_45 1959), .inLoop (C_45 244), .inBlock 0, .code (C_45 31)] ?_
            refine Runs.sR hE ⟨[(2, (.fn (.func 76) [] [(.op 0 0 0)])), (3, (.fn (.func 77) [] [(.op 0 0 0)])), (9, (.mp 1)), (17, (aI n)), (18, (aI (w64 (x + 1))))], [(0, vO 3 (Tapi_Network.cells cap0)), (1, ⟨false, 0, 0, true, fun _ => encM aS aB (mPut streq names rCheckNetwork true)⟩)], 418⟩ (C_45 1959) [] [] (kp [2, 3, 9, 17, 18]) (kq [0, 1]) 418 [] trivial ?_
            refine Runs.sA 1 [.code (C_45 244), .inLoop (C_45 244), .inBlock 0, .code (C_45 31)] ?_
            exact Runs.sW hE _ [] (kp [2, 3, 9, 17, 18]) (kq [0, 1]) 2 [] trivial (ih (mPut streq names rCheckNetwork true) (w64 (x + 1)) _ h E hE)
    · have h := condF h hq3
      refine Runs.sA 2 [.code (C_45 62), .code (C_45 63)] ?_
      refine Runs.sR hE ⟨[(8, (aI 0))], [(0, vO 3 (Tapi_Network.cells cap0))], 34⟩ (C_45 62) [] [] (kp [8]) (kq [0]) 34 [] trivial ?_
      obtain rfl := Option.some.inj h
      refine Runs.sW hE ⟨[(8, (aI 0))], [(0, vO 3 (Tapi_Network.cells cap0))], 49⟩ [] (kp [8]) (kq [0]) 49 [] trivial ?_
      exact Runs.sT Try.f75 [] [] trivial

theorem g_water_checkNamed_ok (N : Nat) (n : Int) (most : Int) (cap0 : Tapi_Network) (r : Int) (h : g_water_checkNamed N n most cap0 = some r) : Sound Try.prog 75 [(aI n), (aI most), (.fn (.func 76) [] [(.op 0 0 0)]), (.fn (.func 77) [] [(.op 0 0 0)])] [(0, vO 3 (Tapi_Network.cells cap0))] 1 (aI r) [(0, vO 3 (Tapi_Network.cells cap0))] := by
  unfold g_water_checkNamed at h
  refine Sound.of_runs (fu := Try.f75) (c := C_45 1) (nt := 41) (by kernel_rfl) (by kernel_rfl) (by kernel_rfl) (by kernel_rfl) (fun hm => absurd hm (by decide)) ?_
  intro E hE
  refine Runs.sA 1 [.code (C_45 2), .code (C_45 3)] ?_
  refine Runs.sR hE ⟨[(0, (aI n)), (1, (aI most)), (2, (.fn (.func 76) [] [(.op 0 0 0)])), (3, (.fn (.func 77) [] [(.op 0 0 0)]))], [(0, vO 3 (Tapi_Network.cells cap0))], 17⟩ (C_45 2) [] [] (kp [0, 1, 2, 3]) (kq [0]) 17 [] trivial ?_
  refine Runs.sA 2 [.code (C_45 12), .code (C_45 13), .code (C_45 7)] ?_
  refine Runs.sR hE ⟨[(0, (aI n)), (2, (.fn (.func 76) [] [(.op 0 0 0)])), (3, (.fn (.func 77) [] [(.op 0 0 0)])), (15, (aB (decide (n > most))))], [(0, vO 3 (Tapi_Network.cells cap0))], 65⟩ (C_45 12) [] [] (kp [0, 2, 3, 15]) (kq [0]) 65 [] trivial ?_
  refine Runs.sC 15 (C_45 26) (C_45 27) (decide (n > most)) (fun hq2 => ?_) (fun hq2 => ?_)
  · have h := condT h hq2
    refine Runs.sA 1 [.code (C_45 52), .code (C_45 53), .code (C_45 7)] ?_
    refine Runs.sR hE ⟨[(8, (aI 8))], [(0, vO 3 (Tapi_Network.cells cap0))], 81⟩ (C_45 52) [] [] (kp [8]) (kq [0]) 81 [] trivial ?_
    obtain rfl := Option.some.inj h
    refine Runs.sW hE ⟨[(8, (aI 8))], [(0, vO 3 (Tapi_Network.cells cap0))], 81⟩ [] (kp [8]) (kq [0]) 81 [] trivial ?_
    exact Runs.sT Try.f75 [] [] trivial
  · have h := condF h hq2
    refine Runs.sA 2 [.code (C_45 14), .code (C_45 15)] ?_
    refine Runs.sR hE ⟨[(0, (aI n)), (2, (.fn (.func 76) [] [(.op 0 0 0)])), (3, (.fn (.func 77) [] [(.op 0 0 0)])), (9, (.mp 65))], [(0, vO 3 (Tapi_Network.cells cap0)), (65, ⟨false, 0, 0, true, fun _ => encM aS aB ([] : List (ByteArray × Bool))⟩)], 97⟩ (C_45 14) [] [] (kp [0, 2, 3, 9]) (kq [0, 65]) 97 [] trivial ?_
    refine Runs.sA 2 [.code (C_45 60), .code (C_45 61), .code (C_45 31)] ?_
    refine Runs.sR hE ⟨[(2, (.fn (.func 76) [] [(.op 0 0 0)])), (3, (.fn (.func 77) [] [(.op 0 0 0)])), (9, (.mp 65)), (17, (aI n)), (18, (aI 0))], [(0, vO 3 (Tapi_Network.cells cap0)), (65, ⟨false, 0, 0, true, fun _ => encM aS aB ([] : List (ByteArray × Bool))⟩)], 129⟩ (C_45 60) [] [] (kp [2, 3, 9, 17, 18]) (kq [0, 65]) 129 [] trivial ?_
    refine Runs.sA 2 [.code (C_45 244), .inLoop (C_45 244), .inBlock 0, .code (C_45 31)] ?_
    exact Runs.sW hE _ [] (kp [2, 3, 9, 17, 18]) (kq [0] ++ [(1, .keep 65)]) 2 [] trivial (g_water_checkNamed_L1_ok N n cap0 N ([] : List (ByteArray × Bool)) 0 _ h E hE)

noncomputable def C_49 (n : Nat) : Code := cat (bodyOf Try.f78) (pth n)

theorem g_water_CheckNetwork_3_ok (N : Nat) (i : Int) (cap0 : Tapi_Network) (r : ByteArray) (h : g_water_CheckNetwork_3 N i cap0 = some r) : Sound Try.prog 78 [(aI i), (.op 0 0 0)] [(0, vO 3 (Tapi_Network.cells cap0))] 1 (aS r) [(0, vO 3 (Tapi_Network.cells cap0))] := by
  unfold g_water_CheckNetwork_3 at h
  refine Sound.of_runs (fu := Try.f78) (c := C_49 1) (nt := 10) (by kernel_rfl) (by kernel_rfl) (by kernel_rfl) (by kernel_rfl) (fun hm => absurd hm (by decide)) ?_
  intro E hE
  refine Runs.sA 1 [.code (C_49 2), .code (C_49 3)] ?_
  refine Runs.sR hE ⟨[(0, (aI i)), (1, (.op 0 0 0))], [(0, vO 3 (Tapi_Network.cells cap0))], 17⟩ (C_49 2) [] [] (kp [0, 1]) (kq [0]) 17 [] trivial ?_
  refine Runs.sA 1 [.code (C_49 6), .code (C_49 7)] ?_
  obtain ⟨c, h⟩ := ifSome h
  refine Runs.sR hE ⟨[(3, (aS ((cap0.f_Links.getD ((i).toNat) Tapi_Link.d).f_Name)))], [(0, vO 3 (Tapi_Network.cells cap0))], 129⟩ (C_49 6) [] [] (kp [3]) (kq [0]) 129 [0 < 1, 0 ≤ i ∧ i < ((cap0.f_Links.length : Nat) : Int)] ⟨o1, c, trivial⟩ ?_
  obtain rfl := Option.some.inj h
  refine Runs.sW hE ⟨[(3, (aS ((cap0.f_Links.getD ((i).toNat) Tapi_Link.d).f_Name)))], [(0, vO 3 (Tapi_Network.cells cap0))], 129⟩ [] (kp [3]) (kq [0]) 129 [] trivial ?_
  exact Runs.sT Try.f78 [] [] trivial

noncomputable def C_54 (n : Nat) : Code := cat (bodyOf Try.f114) (pth n)

theorem g_water_basinOf_1_ok (N : Nat) (b : Tapi_Basin) (cap0 : ByteArray) (r : Bool) (h : g_water_basinOf_1 N b cap0 = some r) : Sound Try.prog 114 [(.agg (Tapi_Basin.cells b)), (.op 0 0 0)] [(0, vO 1 [(aS cap0)])] 1 (aB r) [(0, vO 1 [(aS cap0)])] := by
  unfold g_water_basinOf_1 at h
  refine Sound.of_runs (fu := Try.f114) (c := C_54 1) (nt := 8) (by kernel_rfl) (by kernel_rfl) (by kernel_rfl) (by kernel_rfl) (fun hm => absurd hm (by decide)) ?_
  intro E hE
  refine Runs.sA 1 [.code (C_54 2), .code (C_54 3)] ?_
  refine Runs.sR hE ⟨[(1, (.op 0 0 0)), (2, (.op 1 0 0))], [(0, vO 1 [(aS cap0)]), (1, vO 3 (Tapi_Basin.cells b))], 33⟩ (C_54 2) [] [] (kp [1, 2]) (kq [0, 1]) 33 [] trivial ?_
  refine Runs.sA 1 [.code (C_54 6), .code (C_54 7)] ?_
  refine Runs.sR hE ⟨[(3, (aB (streq b.f_Name cap0)))], [(0, vO 1 [(aS cap0)])], 113⟩ (C_54 6) [] [] (kp [3]) (kq [0]) 113 [0 < 1, 0 < 1] ⟨o1, o1, trivial⟩ ?_
  obtain rfl := Option.some.inj h
  refine Runs.sW hE ⟨[(3, (aB (streq b.f_Name cap0)))], [(0, vO 1 [(aS cap0)])], 113⟩ [] (kp [3]) (kq [0]) 113 [] trivial ?_
  exact Runs.sT Try.f114 [] [] trivial

noncomputable def C_53 (n : Nat) : Code := cat (bodyOf Try.f113) (pth n)

theorem g_slices_IndexFunc_api_Basin_api_Basin_L1_ok (N : Nat) (s : List Tapi_Basin) (cap0 : ByteArray) (fuel : Nat) : ∀ (x : Int) (r : Int), g_slices_IndexFunc_api_Basin_api_Basin_L1 N s cap0 fuel x = some r → ∀ E, EnvOk E 1 → Runs Try.prog E 113 19 (SPost E [(0, vO 1 [(aS cap0)])] (aI r)) [.code (C_53 52), .inLoop (C_53 52), .inBlock 0, .code (C_53 7)] ⟨[(0, (encL Tapi_Basin.cells Tapi_Basin.d s)), (1, (.fn (.func 114) [] [(.op 0 0 0)])), (7, (aI ((s.length : Nat) : Int))), (8, (aI x))], [(0, vO 1 [(aS cap0)])], 1⟩ := by
  induction fuel with
  | zero => intro _ r h; rw [g_slices_IndexFunc_api_Basin_api_Basin_L1.eq_1] at h; cases h
  | succ fuel ih =>
    intro x r h E hE
    rw [g_slices_IndexFunc_api_Basin_api_Basin_L1.eq_2] at h
    refine Runs.sA 1 [.code (C_53 104), .code (C_53 105), .inLoop (C_53 52), .inBlock 0, .code (C_53 7)] ?_
    refine Runs.sR hE ⟨[(0, (encL Tapi_Basin.cells Tapi_Basin.d s)), (1, (.fn (.func 114) [] [(.op 0 0 0)])), (7, (aI ((s.length : Nat) : Int))), (8, (aI x)), (9, (aB (decide (x < ((s.length : Nat) : Int)))))], [(0, vO 1 [(aS cap0)])], 17⟩ (C_53 104) [] [] (kp [0, 1, 7, 8, 9]) (kq [0]) 17 [] trivial ?_
    refine Runs.sA 1 [.code (C_53 210), .code (C_53 211), .inLoop (C_53 52), .inBlock 0, .code (C_53 7)] ?_
    refine Runs.sC 9 (C_53 420) (C_53 421) (decide (x < ((s.length : Nat) : Int))) (fun hq2 => ?_) (fun hq2 => ?_)
    · have h := condT h hq2
      refine Runs.sA 4 [.code (C_53 1688), .code (C_53 1689), .inBlock 1, .code (C_53 423), .inLoop (C_53 52), .inBlock 0, .code (C_53 7)] ?_
      refine Runs.sR hE ⟨[(0, (encL Tapi_Basin.cells Tapi_Basin.d s)), (1, (.fn (.func 114) [] [(.op 0 0 0)])), (5, (aI x)), (7, (aI ((s.length : Nat) : Int))), (8, (aI x))], [(0, vO 1 [(aS cap0)])], 49⟩ (C_53 1688) [] [] (kp [0, 1, 5, 7, 8]) (kq [0]) 49 [] trivial ?_
      refine Runs.sA 1 [.code (C_53 3378), .code (C_53 3379), .inBlock 1, .code (C_53 423), .inLoop (C_53 52), .inBlock 0, .code (C_53 7)] ?_
      obtain ⟨c, h⟩ := ifSome h
      obtain ⟨rbasinOf1, hr, h⟩ := bindSome h
      refine Runs.sR hE ⟨[(0, (encL Tapi_Basin.cells Tapi_Basin.d s)), (1, (.fn (.func 114) [] [(.op 0 0 0)])), (5, (aI x)), (7, (aI ((s.length : Nat) : Int))), (8, (aI x)), (16, (aB rbasinOf1))], [(0, vO 1 [(aS cap0)])], 145⟩ (C_53 3378) [(5, ⟨[0], true, (aB rbasinOf1), [], 0, false⟩)] [] (kp [0, 1, 5, 7, 8, 16]) (kq [0]) 145 [0 ≤ x ∧ x < ((s.length : Nat) : Int), Sound Try.prog 114 [(.agg (Tapi_Basin.cells (s.getD ((x).toNat) Tapi_Basin.d))), (.op 0 0 0)] [(0, vO 1 [(aS cap0)])] 1 (aB rbasinOf1) [(0, vO 1 [(aS cap0)])]] ⟨c, (g_water_basinOf_1_ok N (s.getD ((x).toNat) Tapi_Basin.d) cap0 rbasinOf1 hr), trivial⟩ ?_
      refine Runs.sC 16 (C_53 6758) (C_53 6759) rbasinOf1 (fun hq3 => ?_) (fun hq3 => ?_)
      · have h := condT h hq3
        refine Runs.sA 1 [.code (C_53 13516), .code (C_53 13517), .inBlock 1, .code (C_53 423), .inLoop (C_53 52), .inBlock 0, .code (C_53 7)] ?_
        refine Runs.sR hE ⟨[(4, (aI x))], [(0, vO 1 [(aS cap0)])], 177⟩ (C_53 13516) [] [] (kp [4]) (kq [0]) 177 [] trivial ?_
        obtain rfl := Option.some.inj h
        refine Runs.sW hE ⟨[(4, (aI x))], [(0, vO 1 [(aS cap0)])], 177⟩ [] (kp [4]) (kq [0]) 177 [] trivial ?_
        exact Runs.sT Try.f113 [] [] trivial
      · have h := condF h hq3
        refine Runs.sA 2 [.code (C_53 423), .inLoop (C_53 52), .inBlock 0, .code (C_53 7)] ?_
        refine Runs.sR hE ⟨[(0, (encL Tapi_Basin.cells Tapi_Basin.d s)), (1, (.fn (.func 114) [] [(.op 0 0 0)])), (7, (aI ((s.length : Nat) : Int))), (8, (aI (w64 (x + 1))))], [(0, vO 1 [(aS cap0)])], 177⟩ (C_53 423) [] [] (kp [0, 1, 7, 8]) (kq [0]) 177 [] trivial ?_
        refine Runs.sA 1 [.code (C_53 52), .inLoop (C_53 52), .inBlock 0, .code (C_53 7)] ?_
        exact Runs.sW hE _ [] (kp [0, 1, 7, 8]) (kq [0]) 1 [] trivial (ih (w64 (x + 1)) _ h E hE)
    · have h := condF h hq2
      refine Runs.sA 2 [.code (C_53 14), .code (C_53 15)] ?_
      refine Runs.sR hE ⟨[(4, (aI (-1)))], [(0, vO 1 [(aS cap0)])], 33⟩ (C_53 14) [] [] (kp [4]) (kq [0]) 33 [] trivial ?_
      obtain rfl := Option.some.inj h
      refine Runs.sW hE ⟨[(4, (aI (-1)))], [(0, vO 1 [(aS cap0)])], 49⟩ [] (kp [4]) (kq [0]) 49 [] trivial ?_
      exact Runs.sT Try.f113 [] [] trivial

theorem g_slices_IndexFunc_api_Basin_api_Basin_ok (N : Nat) (s : List Tapi_Basin) (cap0 : ByteArray) (r : Int) (h : g_slices_IndexFunc_api_Basin_api_Basin N s cap0 = some r) : Sound Try.prog 113 [(encL Tapi_Basin.cells Tapi_Basin.d s), (.fn (.func 114) [] [(.op 0 0 0)])] [(0, vO 1 [(aS cap0)])] 1 (aI r) [(0, vO 1 [(aS cap0)])] := by
  unfold g_slices_IndexFunc_api_Basin_api_Basin at h
  refine Sound.of_runs (fu := Try.f113) (c := C_53 1) (nt := 19) (by kernel_rfl) (by kernel_rfl) (by kernel_rfl) (by kernel_rfl) (fun hm => absurd hm (by decide)) ?_
  intro E hE
  refine Runs.sA 1 [.code (C_53 2), .code (C_53 3)] ?_
  refine Runs.sR hE ⟨[(0, (encL Tapi_Basin.cells Tapi_Basin.d s)), (1, (.fn (.func 114) [] [(.op 0 0 0)]))], [(0, vO 1 [(aS cap0)])], 17⟩ (C_53 2) [] [] (kp [0, 1]) (kq [0]) 17 [] trivial ?_
  refine Runs.sA 2 [.code (C_53 12), .code (C_53 13), .code (C_53 7)] ?_
  refine Runs.sR hE ⟨[(0, (encL Tapi_Basin.cells Tapi_Basin.d s)), (1, (.fn (.func 114) [] [(.op 0 0 0)])), (7, (aI ((s.length : Nat) : Int))), (8, (aI 0))], [(0, vO 1 [(aS cap0)])], 65⟩ (C_53 12) [] [] (kp [0, 1, 7, 8]) (kq [0]) 65 [] trivial ?_
  refine Runs.sA 2 [.code (C_53 52), .inLoop (C_53 52), .inBlock 0, .code (C_53 7)] ?_
  exact Runs.sW hE _ [] (kp [0, 1, 7, 8]) (kq [0]) 1 [] trivial (g_slices_IndexFunc_api_Basin_api_Basin_L1_ok N s cap0 N 0 _ h E hE)

noncomputable def C_52 (n : Nat) : Code := cat (bodyOf Try.f94) (pth n)

theorem g_water_basinOf_ok (N : Nat) (n : Tapi_Network) (name : ByteArray) (r : Int) (h : g_water_basinOf N n name = some r) : Sound Try.prog 94 [(.agg (Tapi_Network.cells n)), (aS name)] [] 0 (aI r) [] := by
  unfold g_water_basinOf at h
  refine Sound.of_runs (fu := Try.f94) (c := C_52 1) (nt := 9) (by kernel_rfl) (by kernel_rfl) (by kernel_rfl) (by kernel_rfl) (fun hm => rfl) ?_
  intro E hE
  refine Runs.sA 1 [.code (C_52 2), .code (C_52 3)] ?_
  refine Runs.sR hE ⟨[(2, (.op 0 0 0)), (3, (.op 16 0 0))], [(0, vO 3 (Tapi_Network.cells n)), (16, vO 1 [(aS name)])], 48⟩ (C_52 2) [] [] (kp [2, 3]) (kq [0, 16]) 48 [] trivial ?_
  refine Runs.sA 1 [.code (C_52 6), .code (C_52 7)] ?_
  obtain ⟨rBasin, hr, h⟩ := bindSome h
  refine Runs.sR hE ⟨[(4, (aI rBasin))], [], 128⟩ (C_52 6) [(3, ⟨[16], true, (aI rBasin), [], 0, false⟩)] [] (kp [4]) [] 128 [0 < 1, Sound Try.prog 113 [(encL Tapi_Basin.cells Tapi_Basin.d n.f_Basins), (.fn (.func 114) [] [(.op 0 0 0)])] [(0, vO 1 [(aS name)])] 1 (aI rBasin) [(0, vO 1 [(aS name)])]] ⟨o1, (g_slices_IndexFunc_api_Basin_api_Basin_ok N n.f_Basins name rBasin hr), trivial⟩ ?_
  obtain rfl := Option.some.inj h
  refine Runs.sW hE ⟨[(4, (aI rBasin))], [], 128⟩ [] (kp [4]) [] 128 [] trivial ?_
  exact Runs.sT Try.f94 [] [] trivial

noncomputable def C_51 (n : Nat) : Code := cat (bodyOf Try.f80) (pth n)

theorem g_water_checkLink_L1_ok (N : Nat) (n : Tapi_Network) (l : Tapi_Link) (fuel : Nat) : ∀ (x : Int) (r : Int), g_water_checkLink_L1 N n l fuel x = some r → ∀ E, EnvOk E 0 → Runs Try.prog E 80 86 (SPost E [] (aI r)) [.code (C_51 116), .inLoop (C_51 116), .inBlock 0, .code (C_51 15)] ⟨[(2, (.op 0 0 0)), (3, (.op 1 0 0)), (19, (.os 2 0 (([l.f_From, l.f_To] : List ByteArray).length))), (20, (aI ((2 : Nat) : Int))), (21, (aI x))], [(0, vO 3 (Tapi_Network.cells n)), (1, vO 8 (Tapi_Link.cells l)), (2, aO 1 cS ByteArray.empty ([l.f_From, l.f_To] : List ByteArray))], 3⟩ := by
  induction fuel with
  | zero => intro _ r h; rw [g_water_checkLink_L1.eq_1] at h; cases h
  | succ fuel ih =>
    intro x r h E hE
    rw [g_water_checkLink_L1.eq_2] at h
    refine Runs.sA 1 [.code (C_51 232), .code (C_51 233), .inLoop (C_51 116), .inBlock 0, .code (C_51 15)] ?_
    refine Runs.sR hE ⟨[(2, (.op 0 0 0)), (3, (.op 1 0 0)), (19, (.os 2 0 (([l.f_From, l.f_To] : List ByteArray).length))), (20, (aI ((2 : Nat) : Int))), (21, (aI x)), (22, (aB (decide (x < ((2 : Nat) : Int)))))], [(0, vO 3 (Tapi_Network.cells n)), (1, vO 8 (Tapi_Link.cells l)), (2, aO 1 cS ByteArray.empty ([l.f_From, l.f_To] : List ByteArray))], 19⟩ (C_51 232) [] [] (kp [2, 3, 19, 20, 21, 22]) (kq [0, 1, 2]) 19 [] trivial ?_
    refine Runs.sA 1 [.code (C_51 466), .code (C_51 467), .inLoop (C_51 116), .inBlock 0, .code (C_51 15)] ?_
    refine Runs.sC 22 (C_51 932) (C_51 933) (decide (x < ((2 : Nat) : Int))) (fun hq3 => ?_) (fun hq3 => ?_)
    · have h := condT h hq3
      refine Runs.sA 4 [.code (C_51 3736), .code (C_51 3737), .inBlock 1, .code (C_51 935), .inLoop (C_51 116), .inBlock 0, .code (C_51 15)] ?_
      obtain ⟨c, h⟩ := ifSome h
      refine Runs.sR hE ⟨[(2, (.op 0 0 0)), (3, (.op 1 0 0)), (6, (aS (([l.f_From, l.f_To] : List ByteArray).getD ((x).toNat) ByteArray.empty))), (19, (.os 2 0 (([l.f_From, l.f_To] : List ByteArray).length))), (20, (aI ((2 : Nat) : Int))), (21, (aI x))], [(0, vO 3 (Tapi_Network.cells n)), (1, vO 8 (Tapi_Link.cells l)), (2, aO 1 cS ByteArray.empty ([l.f_From, l.f_To] : List ByteArray))], 67⟩ (C_51 3736) [] [] (kp [2, 3, 6, 19, 20, 21]) (kq [0, 1, 2]) 67 [0 ≤ x ∧ x < ((([l.f_From, l.f_To] : List ByteArray).length : Nat) : Int), (x).toNat < ([l.f_From, l.f_To] : List ByteArray).length] ⟨c, (ltOf c), trivial⟩ ?_
      refine Runs.sA 1 [.code (C_51 7474), .code (C_51 7475), .inBlock 1, .code (C_51 935), .inLoop (C_51 116), .inBlock 0, .code (C_51 15)] ?_
      obtain ⟨rbasinOf, hr, h⟩ := bindSome h
      refine Runs.sR hE ⟨[(2, (.op 0 0 0)), (3, (.op 1 0 0)), (19, (.os 2 0 (([l.f_From, l.f_To] : List ByteArray).length))), (20, (aI ((2 : Nat) : Int))), (21, (aI x)), (32, (aB (cond (!(streq (([l.f_From, l.f_To] : List ByteArray).getD ((x).toNat) ByteArray.empty) ByteArray.empty)) (decide (rbasinOf < 0)) false)))], [(0, vO 3 (Tapi_Network.cells n)), (1, vO 8 (Tapi_Link.cells l)), (2, aO 1 cS ByteArray.empty ([l.f_From, l.f_To] : List ByteArray))], 195⟩ (C_51 7474) [(5, ⟨[], true, (aI rbasinOf), [], 0, false⟩)] [] (kp [2, 3, 19, 20, 21, 32]) (kq [0, 1, 2]) 195 [(!(streq (([l.f_From, l.f_To] : List ByteArray).getD ((x).toNat) ByteArray.empty) ByteArray.empty)) = true → AllP [0 < 1], (!(streq (([l.f_From, l.f_To] : List ByteArray).getD ((x).toNat) ByteArray.empty) ByteArray.empty)) = true → AllP [Sound Try.prog 94 [(.agg (Tapi_Network.cells n)), (aS (([l.f_From, l.f_To] : List ByteArray).getD ((x).toNat) ByteArray.empty))] [] 0 (aI rbasinOf) [], (!(streq (([l.f_From, l.f_To] : List ByteArray).getD ((x).toNat) ByteArray.empty) ByteArray.empty)) = true, (!(streq (([l.f_From, l.f_To] : List ByteArray).getD ((x).toNat) ByteArray.empty) ByteArray.empty)) = true], (!(streq (([l.f_From, l.f_To] : List ByteArray).getD ((x).toNat) ByteArray.empty) ByteArray.empty)) = true → AllP [(!(streq (([l.f_From, l.f_To] : List ByteArray).getD ((x).toNat) ByteArray.empty) ByteArray.empty)) = true], (!(streq (([l.f_From, l.f_To] : List ByteArray).getD ((x).toNat) ByteArray.empty) ByteArray.empty)) = true → AllP [(!(streq (([l.f_From, l.f_To] : List ByteArray).getD ((x).toNat) ByteArray.empty) ByteArray.empty)) = true]] ⟨(fun hg => ⟨o1, trivial⟩), (fun hg => ⟨(g_water_basinOf_ok N n (([l.f_From, l.f_To] : List ByteArray).getD ((x).toNat) ByteArray.empty) rbasinOf (condT hr hg)), hg, hg, trivial⟩), (fun hg => ⟨hg, trivial⟩), (fun hq => ⟨hq, trivial⟩), trivial⟩ ?_
      refine Runs.sC 32 (C_51 14950) (C_51 14951) (cond (!(streq (([l.f_From, l.f_To] : List ByteArray).getD ((x).toNat) ByteArray.empty) ByteArray.empty)) (decide (rbasinOf < 0)) false) (fun hq4 => ?_) (fun hq4 => ?_)
      · have h := condT h hq4
        refine Runs.sA 1 [.code (C_51 29900), .code (C_51 29901), .inBlock 1, .code (C_51 935), .inLoop (C_51 116), .inBlock 0, .code (C_51 15)] ?_
        refine Runs.sR hE ⟨[(4, (aI 6))], [], 211⟩ (C_51 29900) [] [] (kp [4]) [] 211 [] trivial ?_
        obtain rfl := Option.some.inj h
        refine Runs.sW hE ⟨[(4, (aI 6))], [], 211⟩ [] (kp [4]) [] 211 [] trivial ?_
        exact Runs.sT Try.f80 [] [] trivial
      · have h := condF h hq4
        refine Runs.sA 2 [.code (C_51 935), .inLoop (C_51 116), .inBlock 0, .code (C_51 15)] ?_
        refine Runs.sR hE ⟨[(2, (.op 0 0 0)), (3, (.op 1 0 0)), (19, (.os 2 0 (([l.f_From, l.f_To] : List ByteArray).length))), (20, (aI ((2 : Nat) : Int))), (21, (aI (w64 (x + 1))))], [(0, vO 3 (Tapi_Network.cells n)), (1, vO 8 (Tapi_Link.cells l)), (2, aO 1 cS ByteArray.empty ([l.f_From, l.f_To] : List ByteArray))], 227⟩ (C_51 935) [] [] (kp [2, 3, 19, 20, 21]) (kq [0, 1, 2]) 227 [] trivial ?_
        refine Runs.sA 1 [.code (C_51 116), .inLoop (C_51 116), .inBlock 0, .code (C_51 15)] ?_
        exact Runs.sW hE _ [] (kp [2, 3, 19, 20, 21]) (kq [0, 1, 2]) 3 [] trivial (ih (w64 (x + 1)) _ h E hE)
    · have h := condF h hq3
      refine Runs.sA 4 [.code (C_51 120), .code (C_51 121), .inBlock 2, .code (C_51 31)] ?_
      refine Runs.sR hE ⟨[(2, (.op 0 0 0)), (3, (.op 1 0 0)), (34, (aB (streq l.f_From l.f_To)))], [(0, vO 3 (Tapi_Network.cells n)), (1, vO 8 (Tapi_Link.cells l))], 115⟩ (C_51 120) [] [] (kp [2, 3, 34]) (kq [0, 1]) 115 [0 < 1, 0 < 1] ⟨o1, o1, trivial⟩ ?_
      refine Runs.sC 34 (C_51 242) (C_51 243) (streq l.f_From l.f_To) (fun hq5 => ?_) (fun hq5 => ?_)
      · have h := condT h hq5
        refine Runs.sA 1 [.code (C_51 484), .code (C_51 485), .inBlock 2, .code (C_51 31)] ?_
        refine Runs.sR hE ⟨[(4, (aI 3))], [], 131⟩ (C_51 484) [] [] (kp [4]) [] 131 [] trivial ?_
        obtain rfl := Option.some.inj h
        refine Runs.sW hE ⟨[(4, (aI 3))], [], 131⟩ [] (kp [4]) [] 131 [] trivial ?_
        exact Runs.sT Try.f80 [] [] trivial
      · have h := condF h hq5
        refine Runs.sA 1 [.code (C_51 486), .code (C_51 487), .inBlock 2, .code (C_51 31)] ?_
        refine Runs.sR hE ⟨[(3, (.op 1 0 0)), (40, (aB (cond (cond (streq l.f_From ByteArray.empty) true (streq l.f_To ByteArray.empty)) (((n.f_Sea.length : Nat) : Int) == 0) false)))], [(1, vO 8 (Tapi_Link.cells l))], 355⟩ (C_51 486) [] [] (kp [3, 40]) (kq [1]) 355 [0 < 1, (!(streq l.f_From ByteArray.empty)) = true → AllP [(!(streq l.f_From ByteArray.empty)) = true, 0 < 1], (!(streq l.f_From ByteArray.empty)) = true → AllP [(!(streq l.f_From ByteArray.empty)) = true], (!(streq l.f_From ByteArray.empty)) = true → AllP [(!(streq l.f_From ByteArray.empty)) = true], (cond (streq l.f_From ByteArray.empty) true (streq l.f_To ByteArray.empty)) = true → AllP [(cond (streq l.f_From ByteArray.empty) true (streq l.f_To ByteArray.empty)) = true, 0 < 1], (cond (streq l.f_From ByteArray.empty) true (streq l.f_To ByteArray.empty)) = true → AllP [(cond (streq l.f_From ByteArray.empty) true (streq l.f_To ByteArray.empty)) = true], (cond (streq l.f_From ByteArray.empty) true (streq l.f_To ByteArray.empty)) = true → AllP [(cond (streq l.f_From ByteArray.empty) true (streq l.f_To ByteArray.empty)) = true], (cond (streq l.f_From ByteArray.empty) true (streq l.f_To ByteArray.empty)) = true → AllP [(cond (streq l.f_From ByteArray.empty) true (streq l.f_To ByteArray.empty)) = true]] ⟨o1, (fun hg => ⟨hg, o1, trivial⟩), (fun hg => ⟨hg, trivial⟩), (fun hq => ⟨hq, trivial⟩), (fun hg => ⟨hg, o1, trivial⟩), (fun hg => ⟨hg, trivial⟩), (fun hg => ⟨hg, trivial⟩), (fun hq => ⟨hq, trivial⟩), trivial⟩ ?_
        refine Runs.sC 40 (C_51 974) (C_51 975) (cond (cond (streq l.f_From ByteArray.empty) true (streq l.f_To ByteArray.empty)) (((n.f_Sea.length : Nat) : Int) == 0) false) (fun hq6 => ?_) (fun hq6 => ?_)
        · have h := condT h hq6
          refine Runs.sA 1 [.code (C_51 1948), .code (C_51 1949), .inBlock 2, .code (C_51 31)] ?_
          refine Runs.sR hE ⟨[(4, (aI 29))], [], 371⟩ (C_51 1948) [] [] (kp [4]) [] 371 [] trivial ?_
          obtain rfl := Option.some.inj h
          refine Runs.sW hE ⟨[(4, (aI 29))], [], 371⟩ [] (kp [4]) [] 371 [] trivial ?_
          exact Runs.sT Try.f80 [] [] trivial
        · have h := condF h hq6
          refine Runs.sA 1 [.code (C_51 1950), .code (C_51 1951), .inBlock 2, .code (C_51 31)] ?_
          obtain ⟨rbetween, hr2, h⟩ := bindSome h
          refine Runs.sR hE ⟨[(3, (.op 1 0 0)), (55, (aB (!rbetween)))], [(1, vO 8 (Tapi_Link.cells l))], 435⟩ (C_51 1950) [(2, ⟨[], true, (aB rbetween), [], 0, false⟩)] [] (kp [3, 55]) (kq [1]) 435 [0 < 1, Sound Try.prog 59 [(aI l.f_Rate), (aI 0), (aI 1000000000)] [] 0 (aB rbetween) []] ⟨o1, (g_water_between_ok N l.f_Rate 0 1000000000 rbetween hr2), trivial⟩ ?_
          refine Runs.sC 55 (C_51 3902) (C_51 3903) (!rbetween) (fun hq7 => ?_) (fun hq7 => ?_)
          · have h := condT h hq7
            refine Runs.sA 1 [.code (C_51 7804), .code (C_51 7805), .inBlock 2, .code (C_51 31)] ?_
            refine Runs.sR hE ⟨[(4, (aI 2))], [], 451⟩ (C_51 7804) [] [] (kp [4]) [] 451 [] trivial ?_
            obtain rfl := Option.some.inj h
            refine Runs.sW hE ⟨[(4, (aI 2))], [], 451⟩ [] (kp [4]) [] 451 [] trivial ?_
            exact Runs.sT Try.f80 [] [] trivial
          · have h := condF h hq7
            refine Runs.sA 1 [.code (C_51 7806), .code (C_51 7807), .inBlock 2, .code (C_51 31)] ?_
            obtain ⟨rbetween2, hr3, h⟩ := bindSome h
            obtain ⟨rbetween3, hr4, h⟩ := bindSome h
            refine Runs.sR hE ⟨[(3, (.op 1 0 0)), (60, (aB (cond (l.f_Kind == 0) (cond (!rbetween2) true (!rbetween3)) false)))], [(1, vO 8 (Tapi_Link.cells l))], 691⟩ (C_51 7806) [(6, ⟨[], true, (aB rbetween2), [], 0, false⟩), (11, ⟨[], true, (aB rbetween3), [], 0, false⟩)] [] (kp [3, 60]) (kq [1]) 691 [0 < 1, (l.f_Kind == 0) = true → AllP [(l.f_Kind == 0) = true, 0 < 1], (l.f_Kind == 0) = true → AllP [Sound Try.prog 59 [(aI l.f_Sill), (aI (-1000000)), (aI 1000000)] [] 0 (aB rbetween2) [], (l.f_Kind == 0) = true], (l.f_Kind == 0) = true → AllP [(l.f_Kind == 0) = true], ((l.f_Kind == 0) && ((l.f_Kind == 0) && (!(!rbetween2)))) = true → AllP [((l.f_Kind == 0) && ((l.f_Kind == 0) && (!(!rbetween2)))) = true, 0 < 1], ((l.f_Kind == 0) && ((l.f_Kind == 0) && (!(!rbetween2)))) = true → AllP [Sound Try.prog 59 [(aI l.f_Factor), (aI 0), (aI 1000000000)] [] 0 (aB rbetween3) [], ((l.f_Kind == 0) && ((l.f_Kind == 0) && (!(!rbetween2)))) = true], ((l.f_Kind == 0) && ((l.f_Kind == 0) && (!(!rbetween2)))) = true → AllP [((l.f_Kind == 0) && ((l.f_Kind == 0) && (!(!rbetween2)))) = true], (l.f_Kind == 0) = true → AllP [(l.f_Kind == 0) = true, (l.f_Kind == 0) = true, (!(!rbetween2)) = true → AllP [((l.f_Kind == 0) && ((l.f_Kind == 0) && (!(!rbetween2)))) = true]], (l.f_Kind == 0) = true → AllP [(l.f_Kind == 0) = true]] ⟨o1, (fun hg => ⟨hg, o1, trivial⟩), (fun hg => ⟨(g_water_between_ok N l.f_Sill (-1000000) 1000000 rbetween2 (condT hr3 hg)), hg, trivial⟩), (fun hg => ⟨hg, trivial⟩), (fun hg => ⟨hg, o1, trivial⟩), (fun hg => ⟨(g_water_between_ok N l.f_Factor 0 1000000000 rbetween3 (condT hr4 hg)), hg, trivial⟩), (fun hg => ⟨hg, trivial⟩), (fun hg => ⟨hg, hg, (fun hq => ⟨(andI' hg (andI' hg hq)), trivial⟩), trivial⟩), (fun hq => ⟨hq, trivial⟩), trivial⟩ ?_
            refine Runs.sC 60 (C_51 15614) (C_51 15615) (cond (l.f_Kind == 0) (cond (!rbetween2) true (!rbetween3)) false) (fun hq8 => ?_) (fun hq8 => ?_)
            · have h := condT h hq8
              refine Runs.sA 1 [.code (C_51 31228), .code (C_51 31229), .inBlock 2, .code (C_51 31)] ?_
              refine Runs.sR hE ⟨[(4, (aI 2))], [], 707⟩ (C_51 31228) [] [] (kp [4]) [] 707 [] trivial ?_
              obtain rfl := Option.some.inj h
              refine Runs.sW hE ⟨[(4, (aI 2))], [], 707⟩ [] (kp [4]) [] 707 [] trivial ?_
              exact Runs.sT Try.f80 [] [] trivial
            · have h := condF h hq8
              refine Runs.sA 1 [.code (C_51 31230), .code (C_51 31231), .inBlock 2, .code (C_51 31)] ?_
              obtain ⟨rbetween4, hr5, h⟩ := bindSome h
              refine Runs.sR hE ⟨[(76, (aB (cond (l.f_Kind == 1) (!rbetween4) false)))], [], 851⟩ (C_51 31230) [(6, ⟨[], true, (aB rbetween4), [], 0, false⟩)] [] (kp [76]) [] 851 [0 < 1, (l.f_Kind == 1) = true → AllP [(l.f_Kind == 1) = true, 0 < 1], (l.f_Kind == 1) = true → AllP [Sound Try.prog 59 [(aI l.f_Lift), (aI 0), (aI 1000000)] [] 0 (aB rbetween4) [], (l.f_Kind == 1) = true], (l.f_Kind == 1) = true → AllP [(l.f_Kind == 1) = true], (l.f_Kind == 1) = true → AllP [(l.f_Kind == 1) = true]] ⟨o1, (fun hg => ⟨hg, o1, trivial⟩), (fun hg => ⟨(g_water_between_ok N l.f_Lift 0 1000000 rbetween4 (condT hr5 hg)), hg, trivial⟩), (fun hg => ⟨hg, trivial⟩), (fun hq => ⟨hq, trivial⟩), trivial⟩ ?_
              refine Runs.sC 76 (C_51 62462) (C_51 62463) (cond (l.f_Kind == 1) (!rbetween4) false) (fun hq9 => ?_) (fun hq9 => ?_)
              · have h := condT h hq9
                refine Runs.sA 1 [.code (C_51 124924), .code (C_51 124925), .inBlock 2, .code (C_51 31)] ?_
                refine Runs.sR hE ⟨[(4, (aI 2))], [], 867⟩ (C_51 124924) [] [] (kp [4]) [] 867 [] trivial ?_
                obtain rfl := Option.some.inj h
                refine Runs.sW hE ⟨[(4, (aI 2))], [], 867⟩ [] (kp [4]) [] 867 [] trivial ?_
                exact Runs.sT Try.f80 [] [] trivial
              · have h := condF h hq9
                refine Runs.sA 3 [.code (C_51 62), .code (C_51 63)] ?_
                refine Runs.sR hE ⟨[(4, (aI 0))], [], 867⟩ (C_51 62) [] [] (kp [4]) [] 867 [] trivial ?_
                obtain rfl := Option.some.inj h
                refine Runs.sW hE ⟨[(4, (aI 0))], [], 867⟩ [] (kp [4]) [] 867 [] trivial ?_
                exact Runs.sT Try.f80 [] [] trivial

theorem g_water_checkLink_ok (N : Nat) (n : Tapi_Network) (l : Tapi_Link) (r : Int) (h : g_water_checkLink N n l = some r) : Sound Try.prog 80 [(.agg (Tapi_Network.cells n)), (.agg (Tapi_Link.cells l))] [] 0 (aI r) [] := by
  unfold g_water_checkLink at h
  refine Sound.of_runs (fu := Try.f80) (c := C_51 1) (nt := 86) (by kernel_rfl) (by kernel_rfl) (by kernel_rfl) (by kernel_rfl) (fun hm => rfl) ?_
  intro E hE
  refine Runs.sA 1 [.code (C_51 2), .code (C_51 3)] ?_
  refine Runs.sR hE ⟨[(2, (.op 0 0 0)), (3, (.op 16 0 0))], [(0, vO 3 (Tapi_Network.cells n)), (16, vO 8 (Tapi_Link.cells l))], 48⟩ (C_51 2) [] [] (kp [2, 3]) (kq [0, 16]) 48 [] trivial ?_
  refine Runs.sA 2 [.code (C_51 12), .code (C_51 13), .code (C_51 7)] ?_
  refine Runs.sR hE ⟨[(2, (.op 0 0 0)), (3, (.op 16 0 0)), (14, (aB (cond (l.f_Kind != 0) (l.f_Kind != 1) false)))], [(0, vO 3 (Tapi_Network.cells n)), (16, vO 8 (Tapi_Link.cells l))], 176⟩ (C_51 12) [] [] (kp [2, 3, 14]) (kq [0, 16]) 176 [0 < 1, (l.f_Kind != 0) = true → AllP [(l.f_Kind != 0) = true, 0 < 1], (l.f_Kind != 0) = true → AllP [(l.f_Kind != 0) = true], (l.f_Kind != 0) = true → AllP [(l.f_Kind != 0) = true]] ⟨o1, (fun hg => ⟨hg, o1, trivial⟩), (fun hg => ⟨hg, trivial⟩), (fun hq => ⟨hq, trivial⟩), trivial⟩ ?_
  refine Runs.sC 14 (C_51 26) (C_51 27) (cond (l.f_Kind != 0) (l.f_Kind != 1) false) (fun hq2 => ?_) (fun hq2 => ?_)
  · have h := condT h hq2
    refine Runs.sA 1 [.code (C_51 52), .code (C_51 53), .code (C_51 7)] ?_
    refine Runs.sR hE ⟨[(4, (aI 3))], [], 192⟩ (C_51 52) [] [] (kp [4]) [] 192 [] trivial ?_
    obtain rfl := Option.some.inj h
    refine Runs.sW hE ⟨[(4, (aI 3))], [], 192⟩ [] (kp [4]) [] 192 [] trivial ?_
    exact Runs.sT Try.f80 [] [] trivial
  · have h := condF h hq2
    refine Runs.sA 3 [.code (C_51 28), .code (C_51 29), .code (C_51 15)] ?_
    refine Runs.sR hE ⟨[(2, (.op 0 0 0)), (3, (.op 16 0 0)), (19, (.os 240 0 (([l.f_From, l.f_To] : List ByteArray).length))), (20, (aI ((2 : Nat) : Int))), (21, (aI 0))], [(0, vO 3 (Tapi_Network.cells n)), (16, vO 8 (Tapi_Link.cells l)), (240, aO 1 cS ByteArray.empty ([l.f_From, l.f_To] : List ByteArray))], 288⟩ (C_51 28) [] [] (kp [2, 3] ++ [(19, .osl (([l.f_From, l.f_To] : List ByteArray).length))] ++ kp [20, 21]) (kq [0, 16] ++ [(240, .arr 240 (([l.f_From, l.f_To] : List ByteArray).length) (fun zi => cS (([l.f_From, l.f_To] : List ByteArray).getD zi ByteArray.empty)))]) 288 [0 < 1, 0 < 1, 2 = ([l.f_From, l.f_To] : List ByteArray).length, 2 = ([l.f_From, l.f_To] : List ByteArray).length, ∀ zi, zi < ([l.f_From, l.f_To] : List ByteArray).length → (fun zi => cS (([l.f_From, l.f_To] : List ByteArray).getD zi ByteArray.empty)) zi = (fun zi => ([[(aS l.f_From)], [(aS l.f_To)]] : List (List AV)).getD zi []) zi] ⟨o1, o1, rfl, rfl, (fun zq hzq => get_chunk cS ByteArray.empty ([l.f_From, l.f_To] : List ByteArray) zq hzq), trivial⟩ ?_
    refine Runs.sA 2 [.code (C_51 116), .inLoop (C_51 116), .inBlock 0, .code (C_51 15)] ?_
    exact Runs.sW hE _ [] (kp [2, 3, 19, 20, 21]) (kq [0] ++ [(1, .keep 16), (2, .keep 240)]) 3 [] trivial (g_water_checkLink_L1_ok N n l N 0 _ h E hE)

noncomputable def C_50 (n : Nat) : Code := cat (bodyOf Try.f79) (pth n)

theorem g_water_CheckNetwork_4_ok (N : Nat) (i : Int) (cap0 : Tapi_Network) (r : Int) (h : g_water_CheckNetwork_4 N i cap0 = some r) : Sound Try.prog 79 [(aI i), (.op 0 0 0)] [(0, vO 3 (Tapi_Network.cells cap0))] 1 (aI r) [(0, vO 3 (Tapi_Network.cells cap0))] := by
  unfold g_water_CheckNetwork_4 at h
  refine Sound.of_runs (fu := Try.f79) (c := C_50 1) (nt := 11) (by kernel_rfl) (by kernel_rfl) (by kernel_rfl) (by kernel_rfl) (fun hm => absurd hm (by decide)) ?_
  intro E hE
  refine Runs.sA 1 [.code (C_50 2), .code (C_50 3)] ?_
  refine Runs.sR hE ⟨[(0, (aI i)), (1, (.op 0 0 0))], [(0, vO 3 (Tapi_Network.cells cap0))], 17⟩ (C_50 2) [] [] (kp [0, 1]) (kq [0]) 17 [] trivial ?_
  refine Runs.sA 1 [.code (C_50 6), .code (C_50 7)] ?_
  obtain ⟨c, h⟩ := ifSome h
  obtain ⟨rcheckLink, hr, h⟩ := bindSome h
  refine Runs.sR hE ⟨[(3, (aI rcheckLink))], [(0, vO 3 (Tapi_Network.cells cap0))], 145⟩ (C_50 6) [(6, ⟨[], true, (aI rcheckLink), [], 0, false⟩)] [] (kp [3]) (kq [0]) 145 [0 < 1, 0 < 1, 0 ≤ i ∧ i < ((cap0.f_Links.length : Nat) : Int), Sound Try.prog 80 [(.agg (Tapi_Network.cells cap0)), (.agg (Tapi_Link.cells (cap0.f_Links.getD ((i).toNat) Tapi_Link.d)))] [] 0 (aI rcheckLink) []] ⟨o1, o1, c, (g_water_checkLink_ok N cap0 (cap0.f_Links.getD ((i).toNat) Tapi_Link.d) rcheckLink hr), trivial⟩ ?_
  obtain rfl := Option.some.inj h
  refine Runs.sW hE ⟨[(3, (aI rcheckLink))], [(0, vO 3 (Tapi_Network.cells cap0))], 145⟩ [] (kp [3]) (kq [0]) 145 [] trivial ?_
  exact Runs.sT Try.f79 [] [] trivial

noncomputable def C_48 (n : Nat) : Code := cat (bodyOf Try.f75) (pth n)

theorem g_water_checkNamed_v2_L1_ok (N : Nat) (n : Int) (cap0 : Tapi_Network) (fuel : Nat) : ∀ (names : List (ByteArray × Bool)) (x : Int) (r : Int), g_water_checkNamed_v2_L1 N n cap0 fuel names x = some r → ∀ E, EnvOk E 1 → Runs Try.prog E 75 41 (SPost E [(0, vO 3 (Tapi_Network.cells cap0))] (aI r)) [.code (C_48 244), .inLoop (C_48 244), .inBlock 0, .code (C_48 31)] ⟨[(2, (.fn (.func 78) [] [(.op 0 0 0)])), (3, (.fn (.func 79) [] [(.op 0 0 0)])), (9, (.mp 1)), (17, (aI n)), (18, (aI x))], [(0, vO 3 (Tapi_Network.cells cap0)), (1, ⟨false, 0, 0, true, fun _ => encM aS aB names⟩)], 2⟩ := by
  induction fuel with
  | zero => intro _ _ r h; rw [g_water_checkNamed_v2_L1.eq_1] at h; cases h
  | succ fuel ih =>
    intro names x r h E hE
    rw [g_water_checkNamed_v2_L1.eq_2] at h
    refine Runs.sA 1 [.code (C_48 488), .code (C_48 489), .inLoop (C_48 244), .inBlock 0, .code (C_48 31)] ?_
    refine Runs.sR hE ⟨[(2, (.fn (.func 78) [] [(.op 0 0 0)])), (3, (.fn (.func 79) [] [(.op 0 0 0)])), (9, (.mp 1)), (17, (aI n)), (18, (aI x)), (19, (aB (decide (x < n))))], [(0, vO 3 (Tapi_Network.cells cap0)), (1, ⟨false, 0, 0, true, fun _ => encM aS aB names⟩)], 18⟩ (C_48 488) [] [] (kp [2, 3, 9, 17, 18, 19]) (kq [0, 1]) 18 [] trivial ?_
    refine Runs.sA 1 [.code (C_48 978), .code (C_48 979), .inLoop (C_48 244), .inBlock 0, .code (C_48 31)] ?_
    refine Runs.sC 19 (C_48 1956) (C_48 1957) (decide (x < n)) (fun hq3 => ?_) (fun hq3 => ?_)
    · have h := condT h hq3
      refine Runs.sA 4 [.code (C_48 7832), .code (C_48 7833), .inBlock 1, .code (C_48 1959), .inLoop (C_48 244), .inBlock 0, .code (C_48 31)] ?_
      refine Runs.sR hE ⟨[(2, (.fn (.func 78) [] [(.op 0 0 0)])), (3, (.fn (.func 79) [] [(.op 0 0 0)])), (9, (.mp 1)), (10, (aI x)), (17, (aI n)), (18, (aI x))], [(0, vO 3 (Tapi_Network.cells cap0)), (1, ⟨false, 0, 0, true, fun _ => encM aS aB names⟩)], 50⟩ (C_48 7832) [] [] (kp [2, 3, 9, 10, 17, 18]) (kq [0, 1]) 50 [] trivial ?_
      refine Runs.sA 2 [.code (C_48 31332), .code (C_48 31333), .code (C_48 15667), .inBlock 1, .code (C_48 1959), .inLoop (C_48 244), .inBlock 0, .code (C_48 31)] ?_
      obtain ⟨rCheckNetwork, hr, h⟩ := bindSome h
      refine Runs.sR hE ⟨[(2, (.fn (.func 78) [] [(.op 0 0 0)])), (3, (.fn (.func 79) [] [(.op 0 0 0)])), (9, (.mp 1)), (10, (aI x)), (11, (aS rCheckNetwork)), (17, (aI n)), (18, (aI x))], [(0, vO 3 (Tapi_Network.cells cap0)), (1, ⟨false, 0, 0, true, fun _ => encM aS aB names⟩)], 114⟩ (C_48 31332) [(2, ⟨[0], true, (aS rCheckNetwork), [], 0, false⟩)] [] (kp [2, 3, 9, 10, 11, 17, 18]) (kq [0, 1]) 114 [Sound Try.prog 78 [(aI x), (.op 0 0 0)] [(0, vO 3 (Tapi_Network.cells cap0))] 1 (aS rCheckNetwork) [(0, vO 3 (Tapi_Network.cells cap0))]] ⟨(g_water_CheckNetwork_3_ok N x cap0 rCheckNetwork hr), trivial⟩ ?_
      refine Runs.sA 2 [.code (C_48 125332), .code (C_48 125333), .inBlock 2, .code (C_48 15667), .inBlock 1, .code (C_48 1959), .inLoop (C_48 244), .inBlock 0, .code (C_48 31)] ?_
      obtain ⟨risName, hr2, h⟩ := bindSome h
      refine Runs.sR hE ⟨[(2, (.fn (.func 78) [] [(.op 0 0 0)])), (3, (.fn (.func 79) [] [(.op 0 0 0)])), (9, (.mp 1)), (10, (aI x)), (11, (aS rCheckNetwork)), (17, (aI n)), (18, (aI x)), (26, (aB (!risName)))], [(0, vO 3 (Tapi_Network.cells cap0)), (1, ⟨false, 0, 0, true, fun _ => encM aS aB names⟩)], 178⟩ (C_48 125332) [(1, ⟨[], true, (aB risName), [], 0, false⟩)] [] (kp [2, 3, 9, 10, 11, 17, 18, 26]) (kq [0, 1]) 178 [Sound Try.prog 67 [(aS rCheckNetwork)] [] 0 (aB risName) []] ⟨(g_water_isName_ok N rCheckNetwork risName hr2), trivial⟩ ?_
      refine Runs.sC 26 (C_48 250666) (C_48 250667) (!risName) (fun hq4 => ?_) (fun hq4 => ?_)
      · have h := condT h hq4
        refine Runs.sA 1 [.code (C_48 501332), .code (C_48 501333), .inBlock 2, .code (C_48 15667), .inBlock 1, .code (C_48 1959), .inLoop (C_48 244), .inBlock 0, .code (C_48 31)] ?_
        refine Runs.sR hE ⟨[(8, (aI 4))], [(0, vO 3 (Tapi_Network.cells cap0))], 194⟩ (C_48 501332) [] [] (kp [8]) (kq [0]) 194 [] trivial ?_
        obtain rfl := Option.some.inj h
        refine Runs.sW hE ⟨[(8, (aI 4))], [(0, vO 3 (Tapi_Network.cells cap0))], 194⟩ [] (kp [8]) (kq [0]) 194 [] trivial ?_
        exact Runs.sT Try.f75 [] [] trivial
      · have h := condF h hq4
        refine Runs.sA 1 [.code (C_48 501334), .code (C_48 501335), .inBlock 2, .code (C_48 15667), .inBlock 1, .code (C_48 1959), .inLoop (C_48 244), .inBlock 0, .code (C_48 31)] ?_
        refine Runs.sR hE ⟨[(2, (.fn (.func 78) [] [(.op 0 0 0)])), (3, (.fn (.func 79) [] [(.op 0 0 0)])), (9, (.mp 1)), (10, (aI x)), (11, (aS rCheckNetwork)), (17, (aI n)), (18, (aI x)), (30, (aB ((mGet streq names rCheckNetwork).getD false)))], [(0, vO 3 (Tapi_Network.cells cap0)), (1, ⟨false, 0, 0, true, fun _ => encM aS aB names⟩)], 242⟩ (C_48 501334) [(2, ⟨[], true, (aB ((mGet streq names rCheckNetwork).getD false)), [], 0, false⟩)] [] (kp [2, 3, 9, 10, 11, 17, 18, 30]) (kq [0, 1]) 242 [(Go.Ab.look (encM aS aB names) (aS rCheckNetwork)).map (fun zr => zr.getD (ofConst (.bool false))) = some (aB ((mGet streq names rCheckNetwork).getD false))] ⟨(look_get aS aB (d := false) keyS rfl _ _), trivial⟩ ?_
        refine Runs.sC 30 (C_48 1002670) (C_48 1002671) ((mGet streq names rCheckNetwork).getD false) (fun hq5 => ?_) (fun hq5 => ?_)
        · have h := condT h hq5
          refine Runs.sA 1 [.code (C_48 2005340), .code (C_48 2005341), .inBlock 2, .code (C_48 15667), .inBlock 1, .code (C_48 1959), .inLoop (C_48 244), .inBlock 0, .code (C_48 31)] ?_
          refine Runs.sR hE ⟨[(8, (aI 5))], [(0, vO 3 (Tapi_Network.cells cap0))], 258⟩ (C_48 2005340) [] [] (kp [8]) (kq [0]) 258 [] trivial ?_
          obtain rfl := Option.some.inj h
          refine Runs.sW hE ⟨[(8, (aI 5))], [(0, vO 3 (Tapi_Network.cells cap0))], 258⟩ [] (kp [8]) (kq [0]) 258 [] trivial ?_
          exact Runs.sT Try.f75 [] [] trivial
        · have h := condF h hq5
          refine Runs.sR hE ⟨[(2, (.fn (.func 78) [] [(.op 0 0 0)])), (3, (.fn (.func 79) [] [(.op 0 0 0)])), (9, (.mp 1)), (10, (aI x)), (17, (aI n)), (18, (aI x))], [(0, vO 3 (Tapi_Network.cells cap0)), (1, ⟨false, 0, 0, true, fun _ => encM aS aB (mPut streq names rCheckNetwork true)⟩)], 290⟩ (C_48 1002671) [(2, ⟨[], true, (.tup (encM aS aB (mPut streq names rCheckNetwork true))), [], 0, false⟩)] [] (kp [2, 3, 9, 10, 17, 18]) (kq [0, 1]) 290 [Go.Ab.insA (encM aS aB names) (aS rCheckNetwork) (aB true) = some (encM aS aB (mPut streq names rCheckNetwork true))] ⟨(insA_enc aS aB keyS _ _ _), trivial⟩ ?_
          refine Runs.sA 2 [.code (C_48 31334), .code (C_48 31335), .inBlock 1, .code (C_48 1959), .inLoop (C_48 244), .inBlock 0, .code (C_48 31)] ?_
          obtain ⟨rCheckNetwork2, hr3, h⟩ := bindSome h
          refine Runs.sR hE ⟨[(2, (.fn (.func 78) [] [(.op 0 0 0)])), (3, (.fn (.func 79) [] [(.op 0 0 0)])), (9, (.mp 1)), (12, (aI rCheckNetwork2)), (17, (aI n)), (18, (aI x))], [(0, vO 3 (Tapi_Network.cells cap0)), (1, ⟨false, 0, 0, true, fun _ => encM aS aB (mPut streq names rCheckNetwork true)⟩)], 354⟩ (C_48 31334) [(2, ⟨[0], true, (aI rCheckNetwork2), [], 0, false⟩)] [] (kp [2, 3, 9, 12, 17, 18]) (kq [0, 1]) 354 [Sound Try.prog 79 [(aI x), (.op 0 0 0)] [(0, vO 3 (Tapi_Network.cells cap0))] 1 (aI rCheckNetwork2) [(0, vO 3 (Tapi_Network.cells cap0))]] ⟨(g_water_CheckNetwork_4_ok N x cap0 rCheckNetwork2 hr3), trivial⟩ ?_
          refine Runs.sA 1 [.code (C_48 62670), .code (C_48 62671), .inBlock 1, .code (C_48 1959), .inLoop (C_48 244), .inBlock 0, .code (C_48 31)] ?_
          refine Runs.sR hE ⟨[(2, (.fn (.func 78) [] [(.op 0 0 0)])), (3, (.fn (.func 79) [] [(.op 0 0 0)])), (9, (.mp 1)), (12, (aI rCheckNetwork2)), (17, (aI n)), (18, (aI x)), (38, (aB (rCheckNetwork2 != 0)))], [(0, vO 3 (Tapi_Network.cells cap0)), (1, ⟨false, 0, 0, true, fun _ => encM aS aB (mPut streq names rCheckNetwork true)⟩)], 386⟩ (C_48 62670) [] [] (kp [2, 3, 9, 12, 17, 18, 38]) (kq [0, 1]) 386 [] trivial ?_
          refine Runs.sC 38 (C_48 125342) (C_48 125343) (rCheckNetwork2 != 0) (fun hq6 => ?_) (fun hq6 => ?_)
          · have h := condT h hq6
            refine Runs.sA 1 [.code (C_48 250684), .code (C_48 250685), .inBlock 1, .code (C_48 1959), .inLoop (C_48 244), .inBlock 0, .code (C_48 31)] ?_
            refine Runs.sR hE ⟨[(8, (aI rCheckNetwork2))], [(0, vO 3 (Tapi_Network.cells cap0))], 418⟩ (C_48 250684) [] [] (kp [8]) (kq [0]) 418 [] trivial ?_
            obtain rfl := Option.some.inj h
            refine Runs.sW hE ⟨[(8, (aI rCheckNetwork2))], [(0, vO 3 (Tapi_Network.cells cap0))], 418⟩ [] (kp [8]) (kq [0]) 418 [] trivial ?_
            exact Runs.sT Try.f75 [] [] trivial
          · have h := condF h hq6
            refine Runs.sA 2 [.code (C_48 1959), .inLoop (C_48 244), .inBlock 0, .code (C_48 31)] ?_
            refine Runs.sR hE ⟨[(2, (.fn (.func 78) [] [(.op 0 0 0)])), (3, (.fn (.func 79) [] [(.op 0 0 0)])), (9, (.mp 1)), (17, (aI n)), (18, (aI (w64 (x + 1))))], [(0, vO 3 (Tapi_Network.cells cap0)), (1, ⟨false, 0, 0, true, fun _ => encM aS aB (mPut streq names rCheckNetwork true)⟩)], 418⟩ (C_48 1959) [] [] (kp [2, 3, 9, 17, 18]) (kq [0, 1]) 418 [] trivial ?_
            refine Runs.sA 1 [.code (C_48 244), .inLoop (C_48 244), .inBlock 0, .code (C_48 31)] ?_
            exact Runs.sW hE _ [] (kp [2, 3, 9, 17, 18]) (kq [0, 1]) 2 [] trivial (ih (mPut streq names rCheckNetwork true) (w64 (x + 1)) _ h E hE)
    · have h := condF h hq3
      refine Runs.sA 2 [.code (C_48 62), .code (C_48 63)] ?_
      refine Runs.sR hE ⟨[(8, (aI 0))], [(0, vO 3 (Tapi_Network.cells cap0))], 34⟩ (C_48 62) [] [] (kp [8]) (kq [0]) 34 [] trivial ?_
      obtain rfl := Option.some.inj h
      refine Runs.sW hE ⟨[(8, (aI 0))], [(0, vO 3 (Tapi_Network.cells cap0))], 49⟩ [] (kp [8]) (kq [0]) 49 [] trivial ?_
      exact Runs.sT Try.f75 [] [] trivial

theorem g_water_checkNamed_v2_ok (N : Nat) (n : Int) (most : Int) (cap0 : Tapi_Network) (r : Int) (h : g_water_checkNamed_v2 N n most cap0 = some r) : Sound Try.prog 75 [(aI n), (aI most), (.fn (.func 78) [] [(.op 0 0 0)]), (.fn (.func 79) [] [(.op 0 0 0)])] [(0, vO 3 (Tapi_Network.cells cap0))] 1 (aI r) [(0, vO 3 (Tapi_Network.cells cap0))] := by
  unfold g_water_checkNamed_v2 at h
  refine Sound.of_runs (fu := Try.f75) (c := C_48 1) (nt := 41) (by kernel_rfl) (by kernel_rfl) (by kernel_rfl) (by kernel_rfl) (fun hm => absurd hm (by decide)) ?_
  intro E hE
  refine Runs.sA 1 [.code (C_48 2), .code (C_48 3)] ?_
  refine Runs.sR hE ⟨[(0, (aI n)), (1, (aI most)), (2, (.fn (.func 78) [] [(.op 0 0 0)])), (3, (.fn (.func 79) [] [(.op 0 0 0)]))], [(0, vO 3 (Tapi_Network.cells cap0))], 17⟩ (C_48 2) [] [] (kp [0, 1, 2, 3]) (kq [0]) 17 [] trivial ?_
  refine Runs.sA 2 [.code (C_48 12), .code (C_48 13), .code (C_48 7)] ?_
  refine Runs.sR hE ⟨[(0, (aI n)), (2, (.fn (.func 78) [] [(.op 0 0 0)])), (3, (.fn (.func 79) [] [(.op 0 0 0)])), (15, (aB (decide (n > most))))], [(0, vO 3 (Tapi_Network.cells cap0))], 65⟩ (C_48 12) [] [] (kp [0, 2, 3, 15]) (kq [0]) 65 [] trivial ?_
  refine Runs.sC 15 (C_48 26) (C_48 27) (decide (n > most)) (fun hq2 => ?_) (fun hq2 => ?_)
  · have h := condT h hq2
    refine Runs.sA 1 [.code (C_48 52), .code (C_48 53), .code (C_48 7)] ?_
    refine Runs.sR hE ⟨[(8, (aI 8))], [(0, vO 3 (Tapi_Network.cells cap0))], 81⟩ (C_48 52) [] [] (kp [8]) (kq [0]) 81 [] trivial ?_
    obtain rfl := Option.some.inj h
    refine Runs.sW hE ⟨[(8, (aI 8))], [(0, vO 3 (Tapi_Network.cells cap0))], 81⟩ [] (kp [8]) (kq [0]) 81 [] trivial ?_
    exact Runs.sT Try.f75 [] [] trivial
  · have h := condF h hq2
    refine Runs.sA 2 [.code (C_48 14), .code (C_48 15)] ?_
    refine Runs.sR hE ⟨[(0, (aI n)), (2, (.fn (.func 78) [] [(.op 0 0 0)])), (3, (.fn (.func 79) [] [(.op 0 0 0)])), (9, (.mp 65))], [(0, vO 3 (Tapi_Network.cells cap0)), (65, ⟨false, 0, 0, true, fun _ => encM aS aB ([] : List (ByteArray × Bool))⟩)], 97⟩ (C_48 14) [] [] (kp [0, 2, 3, 9]) (kq [0, 65]) 97 [] trivial ?_
    refine Runs.sA 2 [.code (C_48 60), .code (C_48 61), .code (C_48 31)] ?_
    refine Runs.sR hE ⟨[(2, (.fn (.func 78) [] [(.op 0 0 0)])), (3, (.fn (.func 79) [] [(.op 0 0 0)])), (9, (.mp 65)), (17, (aI n)), (18, (aI 0))], [(0, vO 3 (Tapi_Network.cells cap0)), (65, ⟨false, 0, 0, true, fun _ => encM aS aB ([] : List (ByteArray × Bool))⟩)], 129⟩ (C_48 60) [] [] (kp [2, 3, 9, 17, 18]) (kq [0, 65]) 129 [] trivial ?_
    refine Runs.sA 2 [.code (C_48 244), .inLoop (C_48 244), .inBlock 0, .code (C_48 31)] ?_
    exact Runs.sW hE _ [] (kp [2, 3, 9, 17, 18]) (kq [0] ++ [(1, .keep 65)]) 2 [] trivial (g_water_checkNamed_v2_L1_ok N n cap0 N ([] : List (ByteArray × Bool)) 0 _ h E hE)

noncomputable def C_44 (n : Nat) : Code := cat (bodyOf Try.f29) (pth n)

theorem g_water_CheckNetwork_ok (N : Nat) (n : Tapi_Network) (r : Int) (h : g_water_CheckNetwork N n = some r) : Sound Try.prog 29 [(.agg (Tapi_Network.cells n))] [] 0 (aI r) [] := by
  unfold g_water_CheckNetwork at h
  refine Sound.of_runs (fu := Try.f29) (c := C_44 1) (nt := 26) (by kernel_rfl) (by kernel_rfl) (by kernel_rfl) (by kernel_rfl) (fun hm => rfl) ?_
  intro E hE
  refine Runs.sA 1 [.code (C_44 2), .code (C_44 3)] ?_
  refine Runs.sR hE ⟨[(1, (.op 0 0 0))], [(0, vO 3 (Tapi_Network.cells n))], 32⟩ (C_44 2) [] [] (kp [1]) (kq [0]) 32 [] trivial ?_
  refine Runs.sA 1 [.code (C_44 6), .code (C_44 7)] ?_
  obtain ⟨rcheckNamed, hr, h⟩ := bindSome h
  refine Runs.sR hE ⟨[(1, (.op 0 0 0)), (3, (aI rcheckNamed))], [(0, vO 3 (Tapi_Network.cells n))], 144⟩ (C_44 6) [(5, ⟨[0], true, (aI rcheckNamed), [], 0, false⟩)] [] (kp [1, 3]) (kq [0]) 144 [0 < 1, Sound Try.prog 75 [(aI ((n.f_Basins.length : Nat) : Int)), (aI 8), (.fn (.func 76) [] [(.op 0 0 0)]), (.fn (.func 77) [] [(.op 0 0 0)])] [(0, vO 3 (Tapi_Network.cells n))] 1 (aI rcheckNamed) [(0, vO 3 (Tapi_Network.cells n))]] ⟨o1, (g_water_checkNamed_ok N ((n.f_Basins.length : Nat) : Int) 8 n rcheckNamed hr), trivial⟩ ?_
  refine Runs.sA 2 [.code (C_44 28), .code (C_44 29), .code (C_44 15)] ?_
  refine Runs.sR hE ⟨[(1, (.op 0 0 0)), (3, (aI rcheckNamed)), (12, (aB (rcheckNamed != 0)))], [(0, vO 3 (Tapi_Network.cells n))], 176⟩ (C_44 28) [] [] (kp [1, 3, 12]) (kq [0]) 176 [] trivial ?_
  refine Runs.sC 12 (C_44 58) (C_44 59) (rcheckNamed != 0) (fun hq2 => ?_) (fun hq2 => ?_)
  · have h := condT h hq2
    refine Runs.sA 1 [.code (C_44 116), .code (C_44 117), .code (C_44 15)] ?_
    refine Runs.sR hE ⟨[(2, (aI rcheckNamed))], [], 208⟩ (C_44 116) [] [] (kp [2]) [] 208 [] trivial ?_
    obtain rfl := Option.some.inj h
    refine Runs.sW hE ⟨[(2, (aI rcheckNamed))], [], 208⟩ [] (kp [2]) [] 208 [] trivial ?_
    exact Runs.sT Try.f29 [] [] trivial
  · have h := condF h hq2
    refine Runs.sA 3 [.code (C_44 60), .code (C_44 61), .code (C_44 31)] ?_
    obtain ⟨rCheckSea, hr2, h⟩ := bindSome h
    refine Runs.sR hE ⟨[(1, (.op 0 0 0)), (4, (aI rCheckSea))], [(0, vO 3 (Tapi_Network.cells n))], 240⟩ (C_44 60) [(2, ⟨[], true, (aI rCheckSea), [], 0, false⟩)] [] (kp [1, 4]) (kq [0]) 240 [0 < 1, Sound Try.prog 24 [(encL Tapi_Mark.cells Tapi_Mark.d n.f_Sea)] [] 0 (aI rCheckSea) []] ⟨o1, (g_water_CheckSea_ok N n.f_Sea rCheckSea hr2), trivial⟩ ?_
    refine Runs.sA 1 [.code (C_44 122), .code (C_44 123), .code (C_44 31)] ?_
    refine Runs.sR hE ⟨[(1, (.op 0 0 0)), (4, (aI rCheckSea)), (18, (aB (rCheckSea != 0)))], [(0, vO 3 (Tapi_Network.cells n))], 272⟩ (C_44 122) [] [] (kp [1, 4, 18]) (kq [0]) 272 [] trivial ?_
    refine Runs.sC 18 (C_44 246) (C_44 247) (rCheckSea != 0) (fun hq3 => ?_) (fun hq3 => ?_)
    · have h := condT h hq3
      refine Runs.sA 1 [.code (C_44 492), .code (C_44 493), .code (C_44 31)] ?_
      refine Runs.sR hE ⟨[(2, (aI rCheckSea))], [], 304⟩ (C_44 492) [] [] (kp [2]) [] 304 [] trivial ?_
      obtain rfl := Option.some.inj h
      refine Runs.sW hE ⟨[(2, (aI rCheckSea))], [], 304⟩ [] (kp [2]) [] 304 [] trivial ?_
      exact Runs.sT Try.f29 [] [] trivial
    · have h := condF h hq3
      refine Runs.sA 2 [.code (C_44 62), .code (C_44 63)] ?_
      obtain ⟨rcheckNamed2, hr3, h⟩ := bindSome h
      refine Runs.sR hE ⟨[(2, (aI rcheckNamed2))], [], 384⟩ (C_44 62) [(5, ⟨[0], true, (aI rcheckNamed2), [], 0, false⟩)] [] (kp [2]) [] 384 [0 < 1, Sound Try.prog 75 [(aI ((n.f_Links.length : Nat) : Int)), (aI 12), (.fn (.func 78) [] [(.op 0 0 0)]), (.fn (.func 79) [] [(.op 0 0 0)])] [(0, vO 3 (Tapi_Network.cells n))] 1 (aI rcheckNamed2) [(0, vO 3 (Tapi_Network.cells n))]] ⟨o1, (g_water_checkNamed_v2_ok N ((n.f_Links.length : Nat) : Int) 12 n rcheckNamed2 hr3), trivial⟩ ?_
      obtain rfl := Option.some.inj h
      refine Runs.sW hE ⟨[(2, (aI rcheckNamed2))], [], 384⟩ [] (kp [2]) [] 384 [] trivial ?_
      exact Runs.sT Try.f29 [] [] trivial

end Go.Den
