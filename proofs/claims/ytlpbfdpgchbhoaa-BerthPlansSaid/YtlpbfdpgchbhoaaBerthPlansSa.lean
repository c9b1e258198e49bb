/- Each function of the program does what its Lean function computes (part 1). No conditions. -/
import Derived.Test.YtlpbfdpgchbhoaaBerthPlansDen
import Derived.Test.YtlpbfdpgchbhoaaProg
set_option linter.unusedVariables false
set_option maxRecDepth 100000
namespace Go.Den
open Go.Ab Go.Proofs


noncomputable def C_6 (n : Nat) : Code := cat (bodyOf Try.f82) (pth n)

theorem g_berth_named_L1_ok (N : Nat) (s : ByteArray) (fuel : Nat) : ∀ (x : Int) (r : Bool), g_berth_named_L1 N s fuel x = some r → ∀ E, EnvOk E 0 → Runs Try.prog E 82 57 (SPost E [] (aB r)) [.code (C_6 116), .inLoop (C_6 116), .inBlock 0, .code (C_6 15)] ⟨[(0, (aS s)), (15, (aI ((s.size : Nat) : Int))), (16, (aI x))], [], 0⟩ := by
  induction fuel with
  | zero => intro _ r h; rw [g_berth_named_L1.eq_1] at h; cases h
  | succ fuel ih =>
    intro x r h E hE
    rw [g_berth_named_L1.eq_2] at h
    refine Runs.sA 1 [.code (C_6 232), .code (C_6 233), .inLoop (C_6 116), .inBlock 0, .code (C_6 15)] ?_
    refine Runs.sR hE ⟨[(0, (aS s)), (15, (aI ((s.size : Nat) : Int))), (16, (aI x)), (17, (aB (decide (x < ((s.size : Nat) : Int)))))], [], 16⟩ (C_6 232) [] [] (kp [0, 15, 16, 17]) [] 16 [] trivial ?_
    refine Runs.sA 1 [.code (C_6 466), .code (C_6 467), .inLoop (C_6 116), .inBlock 0, .code (C_6 15)] ?_
    refine Runs.sC 17 (C_6 932) (C_6 933) (decide (x < ((s.size : Nat) : Int))) (fun hq3 => ?_) (fun hq3 => ?_)
    · have h := condT h hq3
      refine Runs.sA 4 [.code (C_6 3736), .code (C_6 3737), .inBlock 1, .code (C_6 935), .inLoop (C_6 116), .inBlock 0, .code (C_6 15)] ?_
      refine Runs.sR hE ⟨[(0, (aS s)), (3, (aI x)), (15, (aI ((s.size : Nat) : Int))), (16, (aI x))], [], 48⟩ (C_6 3736) [] [] (kp [0, 3, 15, 16]) [] 48 [] trivial ?_
      refine Runs.sA 1 [.code (C_6 7474), .code (C_6 7475), .inBlock 1, .code (C_6 935), .inLoop (C_6 116), .inBlock 0, .code (C_6 15)] ?_
      obtain ⟨c, h⟩ := ifSome h
      refine Runs.sR hE ⟨[(0, (aS s)), (3, (aI x)), (4, (.atom (.int .u8 (byteAt s ((x).toNat))))), (15, (aI ((s.size : Nat) : Int))), (16, (aI x))], [], 112⟩ (C_6 7474) [] [] (kp [0, 3, 4, 15, 16]) [] 112 [0 ≤ x ∧ x < ((s.size : Nat) : Int)] ⟨c, trivial⟩ ?_
      refine Runs.sA 1 [.code (C_6 14950), .code (C_6 14951), .inBlock 1, .code (C_6 935), .inLoop (C_6 116), .inBlock 0, .code (C_6 15)] ?_
      refine Runs.sR hE ⟨[(0, (aS s)), (3, (aI x)), (4, (.atom (.int .u8 (byteAt s ((x).toNat))))), (5, (aB (cond (cond (decide ((byteAt s ((x).toNat)) ≥ 97)) (decide ((byteAt s ((x).toNat)) ≤ 122)) false) true (cond (decide ((byteAt s ((x).toNat)) ≥ 65)) (decide ((byteAt s ((x).toNat)) ≤ 90)) false)))), (15, (aI ((s.size : Nat) : Int))), (16, (aI x))], [], 352⟩ (C_6 14950) [] [] (kp [0, 3, 4, 5, 15, 16]) [] 352 [(decide ((byteAt s ((x).toNat)) ≥ 97)) = true → AllP [(decide ((byteAt s ((x).toNat)) ≥ 97)) = true], (decide ((byteAt s ((x).toNat)) ≥ 97)) = true → AllP [(decide ((byteAt s ((x).toNat)) ≥ 97)) = true], (!(cond (decide ((byteAt s ((x).toNat)) ≥ 97)) (decide ((byteAt s ((x).toNat)) ≤ 122)) false)) = true → AllP [(!(cond (decide ((byteAt s ((x).toNat)) ≥ 97)) (decide ((byteAt s ((x).toNat)) ≤ 122)) false)) = true], ((!(cond (decide ((byteAt s ((x).toNat)) ≥ 97)) (decide ((byteAt s ((x).toNat)) ≤ 122)) false)) && ((!(cond (decide ((byteAt s ((x).toNat)) ≥ 97)) (decide ((byteAt s ((x).toNat)) ≤ 122)) false)) && (decide ((byteAt s ((x).toNat)) ≥ 65)))) = true → AllP [((!(cond (decide ((byteAt s ((x).toNat)) ≥ 97)) (decide ((byteAt s ((x).toNat)) ≤ 122)) false)) && ((!(cond (decide ((byteAt s ((x).toNat)) ≥ 97)) (decide ((byteAt s ((x).toNat)) ≤ 122)) false)) && (decide ((byteAt s ((x).toNat)) ≥ 65)))) = true], (!(cond (decide ((byteAt s ((x).toNat)) ≥ 97)) (decide ((byteAt s ((x).toNat)) ≤ 122)) false)) = true → AllP [(!(cond (decide ((byteAt s ((x).toNat)) ≥ 97)) (decide ((byteAt s ((x).toNat)) ≤ 122)) false)) = true, (!(cond (decide ((byteAt s ((x).toNat)) ≥ 97)) (decide ((byteAt s ((x).toNat)) ≤ 122)) false)) = true, (decide ((byteAt s ((x).toNat)) ≥ 65)) = true → AllP [((!(cond (decide ((byteAt s ((x).toNat)) ≥ 97)) (decide ((byteAt s ((x).toNat)) ≤ 122)) false)) && ((!(cond (decide ((byteAt s ((x).toNat)) ≥ 97)) (decide ((byteAt s ((x).toNat)) ≤ 122)) false)) && (decide ((byteAt s ((x).toNat)) ≥ 65)))) = true]], (!(cond (decide ((byteAt s ((x).toNat)) ≥ 97)) (decide ((byteAt s ((x).toNat)) ≤ 122)) false)) = true → AllP [(!(cond (decide ((byteAt s ((x).toNat)) ≥ 97)) (decide ((byteAt s ((x).toNat)) ≤ 122)) false)) = true]] ⟨(fun hg => ⟨hg, trivial⟩), (fun hq => ⟨hq, trivial⟩), (fun hg => ⟨hg, trivial⟩), (fun hg => ⟨hg, trivial⟩), (fun hg => ⟨hg, hg, (fun hq => ⟨(andI' hg (andI' hg hq)), trivial⟩), trivial⟩), (fun hq => ⟨hq, trivial⟩), trivial⟩ ?_
      refine Runs.sA 1 [.code (C_6 29902), .code (C_6 29903), .inBlock 1, .code (C_6 935), .inLoop (C_6 116), .inBlock 0, .code (C_6 15)] ?_
      refine Runs.sR hE ⟨[(0, (aS s)), (3, (aI x)), (5, (aB (cond (cond (decide ((byteAt s ((x).toNat)) ≥ 97)) (decide ((byteAt s ((x).toNat)) ≤ 122)) false) true (cond (decide ((byteAt s ((x).toNat)) ≥ 65)) (decide ((byteAt s ((x).toNat)) ≤ 90)) false)))), (6, (aB (cond (cond (decide ((byteAt s ((x).toNat)) ≥ 48)) (decide ((byteAt s ((x).toNat)) ≤ 57)) false) true ((byteAt s ((x).toNat)) == 45)))), (15, (aI ((s.size : Nat) : Int))), (16, (aI x))], [], 528⟩ (C_6 29902) [] [] (kp [0, 3, 5, 6, 15, 16]) [] 528 [(decide ((byteAt s ((x).toNat)) ≥ 48)) = true → AllP [(decide ((byteAt s ((x).toNat)) ≥ 48)) = true], (decide ((byteAt s ((x).toNat)) ≥ 48)) = true → AllP [(decide ((byteAt s ((x).toNat)) ≥ 48)) = true], (!(cond (decide ((byteAt s ((x).toNat)) ≥ 48)) (decide ((byteAt s ((x).toNat)) ≤ 57)) false)) = true → AllP [(!(cond (decide ((byteAt s ((x).toNat)) ≥ 48)) (decide ((byteAt s ((x).toNat)) ≤ 57)) false)) = true], (!(cond (decide ((byteAt s ((x).toNat)) ≥ 48)) (decide ((byteAt s ((x).toNat)) ≤ 57)) false)) = true → AllP [(!(cond (decide ((byteAt s ((x).toNat)) ≥ 48)) (decide ((byteAt s ((x).toNat)) ≤ 57)) false)) = true]] ⟨(fun hg => ⟨hg, trivial⟩), (fun hq => ⟨hq, trivial⟩), (fun hg => ⟨hg, trivial⟩), (fun hq => ⟨hq, trivial⟩), trivial⟩ ?_
      refine Runs.sA 1 [.code (C_6 59806), .code (C_6 59807), .inBlock 1, .code (C_6 935), .inLoop (C_6 116), .inBlock 0, .code (C_6 15)] ?_
      refine Runs.sR hE ⟨[(0, (aS s)), (15, (aI ((s.size : Nat) : Int))), (16, (aI x)), (55, (aB (cond (!(cond (cond (decide ((byteAt s ((x).toNat)) ≥ 97)) (decide ((byteAt s ((x).toNat)) ≤ 122)) false) true (cond (decide ((byteAt s ((x).toNat)) ≥ 65)) (decide ((byteAt s ((x).toNat)) ≤ 90)) false))) (cond (x == 0) true (!(cond (cond (decide ((byteAt s ((x).toNat)) ≥ 48)) (decide ((byteAt s ((x).toNat)) ≤ 57)) false) true ((byteAt s ((x).toNat)) == 45)))) false)))], [], 688⟩ (C_6 59806) [] [] (kp [0, 15, 16, 55]) [] 688 [(!(cond (cond (decide ((byteAt s ((x).toNat)) ≥ 97)) (decide ((byteAt s ((x).toNat)) ≤ 122)) false) true (cond (decide ((byteAt s ((x).toNat)) ≥ 65)) (decide ((byteAt s ((x).toNat)) ≤ 90)) false))) = true → AllP [(!(cond (cond (decide ((byteAt s ((x).toNat)) ≥ 97)) (decide ((byteAt s ((x).toNat)) ≤ 122)) false) true (cond (decide ((byteAt s ((x).toNat)) ≥ 65)) (decide ((byteAt s ((x).toNat)) ≤ 90)) false))) = true], ((!(cond (cond (decide ((byteAt s ((x).toNat)) ≥ 97)) (decide ((byteAt s ((x).toNat)) ≤ 122)) false) true (cond (decide ((byteAt s ((x).toNat)) ≥ 65)) (decide ((byteAt s ((x).toNat)) ≤ 90)) false))) && ((!(cond (cond (decide ((byteAt s ((x).toNat)) ≥ 97)) (decide ((byteAt s ((x).toNat)) ≤ 122)) false) true (cond (decide ((byteAt s ((x).toNat)) ≥ 65)) (decide ((byteAt s ((x).toNat)) ≤ 90)) false))) && (!(x == 0)))) = true → AllP [((!(cond (cond (decide ((byteAt s ((x).toNat)) ≥ 97)) (decide ((byteAt s ((x).toNat)) ≤ 122)) false) true (cond (decide ((byteAt s ((x).toNat)) ≥ 65)) (decide ((byteAt s ((x).toNat)) ≤ 90)) false))) && ((!(cond (cond (decide ((byteAt s ((x).toNat)) ≥ 97)) (decide ((byteAt s ((x).toNat)) ≤ 122)) false) true (cond (decide ((byteAt s ((x).toNat)) ≥ 65)) (decide ((byteAt s ((x).toNat)) ≤ 90)) false))) && (!(x == 0)))) = true], (!(cond (cond (decide ((byteAt s ((x).toNat)) ≥ 97)) (decide ((byteAt s ((x).toNat)) ≤ 122)) false) true (cond (decide ((byteAt s ((x).toNat)) ≥ 65)) (decide ((byteAt s ((x).toNat)) ≤ 90)) false))) = true → AllP [(!(cond (cond (decide ((byteAt s ((x).toNat)) ≥ 97)) (decide ((byteAt s ((x).toNat)) ≤ 122)) false) true (cond (decide ((byteAt s ((x).toNat)) ≥ 65)) (decide ((byteAt s ((x).toNat)) ≤ 90)) false))) = true, (!(cond (cond (decide ((byteAt s ((x).toNat)) ≥ 97)) (decide ((byteAt s ((x).toNat)) ≤ 122)) false) true (cond (decide ((byteAt s ((x).toNat)) ≥ 65)) (decide ((byteAt s ((x).toNat)) ≤ 90)) false))) = true, (!(x == 0)) = true → AllP [((!(cond (cond (decide ((byteAt s ((x).toNat)) ≥ 97)) (decide ((byteAt s ((x).toNat)) ≤ 122)) false) true (cond (decide ((byteAt s ((x).toNat)) ≥ 65)) (decide ((byteAt s ((x).toNat)) ≤ 90)) false))) && ((!(cond (cond (decide ((byteAt s ((x).toNat)) ≥ 97)) (decide ((byteAt s ((x).toNat)) ≤ 122)) false) true (cond (decide ((byteAt s ((x).toNat)) ≥ 65)) (decide ((byteAt s ((x).toNat)) ≤ 90)) false))) && (!(x == 0)))) = true]], (!(cond (cond (decide ((byteAt s ((x).toNat)) ≥ 97)) (decide ((byteAt s ((x).toNat)) ≤ 122)) false) true (cond (decide ((byteAt s ((x).toNat)) ≥ 65)) (decide ((byteAt s ((x).toNat)) ≤ 90)) false))) = true → AllP [(!(cond (cond (decide ((byteAt s ((x).toNat)) ≥ 97)) (decide ((byteAt s ((x).toNat)) ≤ 122)) false) true (cond (decide ((byteAt s ((x).toNat)) ≥ 65)) (decide ((byteAt s ((x).toNat)) ≤ 90)) false))) = true]] ⟨(fun hg => ⟨hg, trivial⟩), (fun hg => ⟨hg, trivial⟩), (fun hg => ⟨hg, hg, (fun hq => ⟨(andI' hg (andI' hg hq)), trivial⟩), trivial⟩), (fun hq => ⟨hq, trivial⟩), trivial⟩ ?_
      refine Runs.sC 55 (C_6 119614) (C_6 119615) (cond (!(cond (cond (decide ((byteAt s ((x).toNat)) ≥ 97)) (decide ((byteAt s ((x).toNat)) ≤ 122)) false) true (cond (decide ((byteAt s ((x).toNat)) ≥ 65)) (decide ((byteAt s ((x).toNat)) ≤ 90)) false))) (cond (x == 0) true (!(cond (cond (decide ((byteAt s ((x).toNat)) ≥ 48)) (decide ((byteAt s ((x).toNat)) ≤ 57)) false) true ((byteAt s ((x).toNat)) == 45)))) false) (fun hq4 => ?_) (fun hq4 => ?_)
      · have h := condT h hq4
        refine Runs.sA 1 [.code (C_6 239228), .code (C_6 239229), .inBlock 1, .code (C_6 935), .inLoop (C_6 116), .inBlock 0, .code (C_6 15)] ?_
        refine Runs.sR hE ⟨[(2, (aB false))], [], 704⟩ (C_6 239228) [] [] (kp [2]) [] 704 [] trivial ?_
        obtain rfl := Option.some.inj h
        refine Runs.sW hE ⟨[(2, (aB false))], [], 704⟩ [] (kp [2]) [] 704 [] trivial ?_
        exact Runs.sT Try.f82 [] [] trivial
      · have h := condF h hq4
        refine Runs.sA 2 [.code (C_6 935), .inLoop (C_6 116), .inBlock 0, .code (C_6 15)] ?_
        refine Runs.sR hE ⟨[(0, (aS s)), (15, (aI ((s.size : Nat) : Int))), (16, (aI (w64 (x + 1))))], [], 720⟩ (C_6 935) [] [] (kp [0, 15, 16]) [] 720 [] trivial ?_
        refine Runs.sA 1 [.code (C_6 116), .inLoop (C_6 116), .inBlock 0, .code (C_6 15)] ?_
        exact Runs.sW hE _ [] (kp [0, 15, 16]) [] 0 [] trivial (ih (w64 (x + 1)) _ h E hE)
    · have h := condF h hq3
      refine Runs.sA 2 [.code (C_6 30), .code (C_6 31)] ?_
      refine Runs.sR hE ⟨[(2, (aB true))], [], 32⟩ (C_6 30) [] [] (kp [2]) [] 32 [] trivial ?_
      obtain rfl := Option.some.inj h
      refine Runs.sW hE ⟨[(2, (aB true))], [], 48⟩ [] (kp [2]) [] 48 [] trivial ?_
      exact Runs.sT Try.f82 [] [] trivial

theorem g_berth_named_ok (N : Nat) (s : ByteArray) (r : Bool) (h : g_berth_named N s = some r) : Sound Try.prog 82 [(aS s)] [] 0 (aB r) [] := by
  unfold g_berth_named at h
  refine Sound.of_runs (fu := Try.f82) (c := C_6 1) (nt := 57) (by kernel_rfl) (by kernel_rfl) (by kernel_rfl) (by kernel_rfl) (fun hm => rfl) ?_
  intro E hE
  refine Runs.sA 1 [.code (C_6 2), .code (C_6 3)] ?_
  refine Runs.sR hE ⟨[(0, (aS s))], [], 16⟩ (C_6 2) [] [] (kp [0]) [] 16 [] trivial ?_
  refine Runs.sA 2 [.code (C_6 12), .code (C_6 13), .code (C_6 7)] ?_
  refine Runs.sR hE ⟨[(0, (aS s)), (13, (aB (cond (streq s ByteArray.empty) true (decide (((s.size : Nat) : Int) > 12)))))], [], 128⟩ (C_6 12) [] [] (kp [0, 13]) [] 128 [(!(streq s ByteArray.empty)) = true → AllP [(!(streq s ByteArray.empty)) = true], (!(streq s ByteArray.empty)) = true → AllP [(!(streq s ByteArray.empty)) = true], (!(streq s ByteArray.empty)) = true → AllP [(!(streq s ByteArray.empty)) = true]] ⟨(fun hg => ⟨hg, trivial⟩), (fun hg => ⟨hg, trivial⟩), (fun hq => ⟨hq, trivial⟩), trivial⟩ ?_
  refine Runs.sC 13 (C_6 26) (C_6 27) (cond (streq s ByteArray.empty) true (decide (((s.size : Nat) : Int) > 12))) (fun hq2 => ?_) (fun hq2 => ?_)
  · have h := condT h hq2
    refine Runs.sA 1 [.code (C_6 52), .code (C_6 53), .code (C_6 7)] ?_
    refine Runs.sR hE ⟨[(2, (aB false))], [], 144⟩ (C_6 52) [] [] (kp [2]) [] 144 [] trivial ?_
    obtain rfl := Option.some.inj h
    refine Runs.sW hE ⟨[(2, (aB false))], [], 144⟩ [] (kp [2]) [] 144 [] trivial ?_
    exact Runs.sT Try.f82 [] [] trivial
  · have h := condF h hq2
    refine Runs.sA 3 [.code (C_6 28), .code (C_6 29), .code (C_6 15)] ?_
    refine Runs.sR hE ⟨[(0, (aS s)), (15, (aI ((s.size : Nat) : Int))), (16, (aI 0))], [], 176⟩ (C_6 28) [] [] (kp [0, 15, 16]) [] 176 [] trivial ?_
    refine Runs.sA 2 [.code (C_6 116), .inLoop (C_6 116), .inBlock 0, .code (C_6 15)] ?_
    exact Runs.sW hE _ [] (kp [0, 15, 16]) [] 0 [] trivial (g_berth_named_L1_ok N s N 0 _ h E hE)

noncomputable def C_11 (n : Nat) : Code := cat (bodyOf Try.f54) (pth n)

theorem g_berth_outside_ok (N : Nat) (n : Int) (lo : Int) (hi : Int) (r : Bool) (h : g_berth_outside N n lo hi = some r) : Sound Try.prog 54 [(aI n), (aI lo), (aI hi)] [] 0 (aB r) [] := by
  unfold g_berth_outside at h
  refine Sound.of_runs (fu := Try.f54) (c := C_11 1) (nt := 15) (by kernel_rfl) (by kernel_rfl) (by kernel_rfl) (by kernel_rfl) (fun hm => rfl) ?_
  intro E hE
  refine Runs.sA 1 [.code (C_11 2), .code (C_11 3)] ?_
  refine Runs.sR hE ⟨[(0, (aI n)), (1, (aI lo)), (2, (aI hi))], [], 16⟩ (C_11 2) [] [] (kp [0, 1, 2]) [] 16 [] trivial ?_
  refine Runs.sA 1 [.code (C_11 6), .code (C_11 7)] ?_
  refine Runs.sR hE ⟨[(6, (aB (cond (decide (n < lo)) true (decide (n > hi)))))], [], 160⟩ (C_11 6) [] [] (kp [6]) [] 160 [(!(decide (n < lo))) = true → AllP [(!(decide (n < lo))) = true, (!(decide (n < lo))) = true], (!(decide (n < lo))) = true → AllP [(!(decide (n < lo))) = true]] ⟨(fun hg => ⟨hg, hg, trivial⟩), (fun hq => ⟨hq, trivial⟩), trivial⟩ ?_
  obtain rfl := Option.some.inj h
  refine Runs.sW hE ⟨[(6, (aB (cond (decide (n < lo)) true (decide (n > hi)))))], [], 160⟩ [] (kp [6]) [] 160 [] trivial ?_
  exact Runs.sT Try.f54 [] [] trivial

noncomputable def C_12 (n : Nat) : Code := cat (bodyOf Try.f53) (pth n)

theorem g_berth_ranged_ok (N : Nat) (wrong : Bool) (r : Int) (h : g_berth_ranged N wrong = some r) : Sound Try.prog 53 [(aB wrong)] [] 0 (aI r) [] := by
  unfold g_berth_ranged at h
  refine Sound.of_runs (fu := Try.f53) (c := C_12 1) (nt := 4) (by kernel_rfl) (by kernel_rfl) (by kernel_rfl) (by kernel_rfl) (fun hm => rfl) ?_
  intro E hE
  refine Runs.sA 1 [.code (C_12 2), .code (C_12 3)] ?_
  refine Runs.sR hE ⟨[(0, (aB wrong))], [], 16⟩ (C_12 2) [] [] (kp [0]) [] 16 [] trivial ?_
  refine Runs.sA 2 [.code (C_12 12), .code (C_12 13), .code (C_12 7)] ?_
  refine Runs.sR hE ⟨[(3, (aB wrong))], [], 32⟩ (C_12 12) [] [] (kp [3]) [] 32 [] trivial ?_
  refine Runs.sC 3 (C_12 26) (C_12 27) wrong (fun hq2 => ?_) (fun hq2 => ?_)
  · have h := condT h hq2
    refine Runs.sA 1 [.code (C_12 52), .code (C_12 53), .code (C_12 7)] ?_
    refine Runs.sR hE ⟨[(2, (aI 2))], [], 48⟩ (C_12 52) [] [] (kp [2]) [] 48 [] trivial ?_
    obtain rfl := Option.some.inj h
    refine Runs.sW hE ⟨[(2, (aI 2))], [], 48⟩ [] (kp [2]) [] 48 [] trivial ?_
    exact Runs.sT Try.f53 [] [] trivial
  · have h := condF h hq2
    refine Runs.sA 2 [.code (C_12 14), .code (C_12 15)] ?_
    refine Runs.sR hE ⟨[(2, (aI 0))], [], 48⟩ (C_12 14) [] [] (kp [2]) [] 48 [] trivial ?_
    obtain rfl := Option.some.inj h
    refine Runs.sW hE ⟨[(2, (aI 0))], [], 48⟩ [] (kp [2]) [] 48 [] trivial ?_
    exact Runs.sT Try.f53 [] [] trivial

noncomputable def C_23 (n : Nat) : Code := cat (bodyOf Try.f33) (pth n)

theorem g_keelblockbase_Texts_L1_ok (N : Nat) (a : List ByteArray) (b : List ByteArray) (fuel : Nat) : ∀ (i : Int) (r : Bool), g_keelblockbase_Texts_L1 N a b fuel i = some r → ∀ E, EnvOk E 0 → Runs Try.prog E 33 26 (SPost E [] (aB r)) [.code (C_23 116), .inLoop (C_23 116), .inBlock 0, .code (C_23 15)] ⟨[(0, (encL cS ByteArray.empty a)), (1, (encL cS ByteArray.empty b)), (5, (aI i))], [], 0⟩ := by
  induction fuel with
  | zero => intro _ r h; rw [g_keelblockbase_Texts_L1.eq_1] at h; cases h
  | succ fuel ih =>
    intro i r h E hE
    rw [g_keelblockbase_Texts_L1.eq_2] at h
    refine Runs.sA 2 [.code (C_23 464), .code (C_23 465), .code (C_23 233), .inLoop (C_23 116), .inBlock 0, .code (C_23 15)] ?_
    refine Runs.sR hE ⟨[(0, (encL cS ByteArray.empty a)), (1, (encL cS ByteArray.empty b)), (5, (aI i)), (14, (aB (decide (i < ((a.length : Nat) : Int)))))], [], 64⟩ (C_23 464) [] [] (kp [0, 1, 5, 14]) [] 64 [] trivial ?_
    refine Runs.sC 14 (C_23 930) (C_23 931) (decide (i < ((a.length : Nat) : Int))) (fun hq3 => ?_) (fun hq3 => ?_)
    · have h := condT h hq3
      refine Runs.sA 4 [.code (C_23 1864), .code (C_23 1865), .inBlock 1, .code (C_23 467), .inLoop (C_23 116), .inBlock 0, .code (C_23 15)] ?_
      obtain ⟨c, h⟩ := ifSome h
      obtain ⟨c2, h⟩ := ifSome h
      refine Runs.sR hE ⟨[(0, (encL cS ByteArray.empty a)), (1, (encL cS ByteArray.empty b)), (5, (aI i)), (25, (aB (!(streq (a.getD ((i).toNat) ByteArray.empty) (b.getD ((i).toNat) ByteArray.empty)))))], [], 208⟩ (C_23 1864) [] [] (kp [0, 1, 5, 25]) [] 208 [0 ≤ i ∧ i < ((a.length : Nat) : Int), 0 ≤ i ∧ i < ((b.length : Nat) : Int)] ⟨c, c2, trivial⟩ ?_
      refine Runs.sC 25 (C_23 3730) (C_23 3731) (!(streq (a.getD ((i).toNat) ByteArray.empty) (b.getD ((i).toNat) ByteArray.empty))) (fun hq4 => ?_) (fun hq4 => ?_)
      · have h := condT h hq4
        refine Runs.sA 1 [.code (C_23 7460), .code (C_23 7461), .inBlock 1, .code (C_23 467), .inLoop (C_23 116), .inBlock 0, .code (C_23 15)] ?_
        refine Runs.sR hE ⟨[(4, (aB false))], [], 224⟩ (C_23 7460) [] [] (kp [4]) [] 224 [] trivial ?_
        obtain rfl := Option.some.inj h
        refine Runs.sW hE ⟨[(4, (aB false))], [], 224⟩ [] (kp [4]) [] 224 [] trivial ?_
        exact Runs.sT Try.f33 [] [] trivial
      · have h := condF h hq4
        refine Runs.sA 2 [.code (C_23 467), .inLoop (C_23 116), .inBlock 0, .code (C_23 15)] ?_
        refine Runs.sR hE ⟨[(0, (encL cS ByteArray.empty a)), (1, (encL cS ByteArray.empty b)), (5, (aI (w64 (i + 1))))], [], 256⟩ (C_23 467) [] [] (kp [0, 1, 5]) [] 256 [] trivial ?_
        refine Runs.sA 1 [.code (C_23 116), .inLoop (C_23 116), .inBlock 0, .code (C_23 15)] ?_
        exact Runs.sW hE _ [] (kp [0, 1, 5]) [] 0 [] trivial (ih (w64 (i + 1)) _ h E hE)
    · have h := condF h hq3
      refine Runs.sA 2 [.code (C_23 30), .code (C_23 31)] ?_
      refine Runs.sR hE ⟨[(4, (aB true))], [], 80⟩ (C_23 30) [] [] (kp [4]) [] 80 [] trivial ?_
      obtain rfl := Option.some.inj h
      refine Runs.sW hE ⟨[(4, (aB true))], [], 80⟩ [] (kp [4]) [] 80 [] trivial ?_
      exact Runs.sT Try.f33 [] [] trivial

theorem g_keelblockbase_Texts_ok (N : Nat) (a : List ByteArray) (b : List ByteArray) (r : Bool) (h : g_keelblockbase_Texts N a b = some r) : Sound Try.prog 33 [(encL cS ByteArray.empty a), (encL cS ByteArray.empty b)] [] 0 (aB r) [] := by
  unfold g_keelblockbase_Texts at h
  refine Sound.of_runs (fu := Try.f33) (c := C_23 1) (nt := 26) (by kernel_rfl) (by kernel_rfl) (by kernel_rfl) (by kernel_rfl) (fun hm => rfl) ?_
  intro E hE
  refine Runs.sA 1 [.code (C_23 2), .code (C_23 3)] ?_
  refine Runs.sR hE ⟨[(0, (encL cS ByteArray.empty a)), (1, (encL cS ByteArray.empty b))], [], 16⟩ (C_23 2) [] [] (kp [0, 1]) [] 16 [] trivial ?_
  refine Runs.sA 2 [.code (C_23 12), .code (C_23 13), .code (C_23 7)] ?_
  refine Runs.sR hE ⟨[(0, (encL cS ByteArray.empty a)), (1, (encL cS ByteArray.empty b)), (10, (aB (((a.length : Nat) : Int) != ((b.length : Nat) : Int))))], [], 96⟩ (C_23 12) [] [] (kp [0, 1, 10]) [] 96 [] trivial ?_
  refine Runs.sC 10 (C_23 26) (C_23 27) (((a.length : Nat) : Int) != ((b.length : Nat) : Int)) (fun hq2 => ?_) (fun hq2 => ?_)
  · have h := condT h hq2
    refine Runs.sA 1 [.code (C_23 52), .code (C_23 53), .code (C_23 7)] ?_
    refine Runs.sR hE ⟨[(4, (aB false))], [], 112⟩ (C_23 52) [] [] (kp [4]) [] 112 [] trivial ?_
    obtain rfl := Option.some.inj h
    refine Runs.sW hE ⟨[(4, (aB false))], [], 112⟩ [] (kp [4]) [] 112 [] trivial ?_
    exact Runs.sT Try.f33 [] [] trivial
  · have h := condF h hq2
    refine Runs.sA 3 [.code (C_23 28), .code (C_23 29), .code (C_23 15)] ?_
    refine Runs.sR hE ⟨[(0, (encL cS ByteArray.empty a)), (1, (encL cS ByteArray.empty b)), (5, (aI 0))], [], 112⟩ (C_23 28) [] [] (kp [0, 1, 5]) [] 112 [] trivial ?_
    refine Runs.sA 2 [.code (C_23 116), .inLoop (C_23 116), .inBlock 0, .code (C_23 15)] ?_
    exact Runs.sW hE _ [] (kp [0, 1, 5]) [] 0 [] trivial (g_keelblockbase_Texts_L1_ok N a b N 0 _ h E hE)

noncomputable def C_27 (n : Nat) : Code := cat (bodyOf Try.f47) (pth n)

theorem g_keelblockbase_IsName_L1_ok (N : Nat) (s : ByteArray) (fuel : Nat) : ∀ (i : Int) (r : Bool), g_keelblockbase_IsName_L1 N s fuel i = some r → ∀ E, EnvOk E 0 → Runs Try.prog E 47 55 (SPost E [] (aB r)) [.code (C_27 116), .inLoop (C_27 116), .inBlock 0, .code (C_27 15)] ⟨[(0, (aS s)), (3, (aI i))], [], 0⟩ := by
  induction fuel with
  | zero => intro _ r h; rw [g_keelblockbase_IsName_L1.eq_1] at h; cases h
  | succ fuel ih =>
    intro i r h E hE
    rw [g_keelblockbase_IsName_L1.eq_2] at h
    refine Runs.sA 2 [.code (C_27 464), .code (C_27 465), .code (C_27 233), .inLoop (C_27 116), .inBlock 0, .code (C_27 15)] ?_
    refine Runs.sR hE ⟨[(0, (aS s)), (3, (aI i)), (17, (aB (decide (i < ((s.size : Nat) : Int)))))], [], 64⟩ (C_27 464) [] [] (kp [0, 3, 17]) [] 64 [] trivial ?_
    refine Runs.sC 17 (C_27 930) (C_27 931) (decide (i < ((s.size : Nat) : Int))) (fun hq3 => ?_) (fun hq3 => ?_)
    · have h := condT h hq3
      refine Runs.sA 4 [.code (C_27 1864), .code (C_27 1865), .inBlock 1, .code (C_27 467), .inLoop (C_27 116), .inBlock 0, .code (C_27 15)] ?_
      obtain ⟨c, h⟩ := ifSome h
      refine Runs.sR hE ⟨[(0, (aS s)), (3, (aI i)), (4, (.atom (.int .u8 (byteAt s ((i).toNat)))))], [], 128⟩ (C_27 1864) [] [] (kp [0, 3, 4]) [] 128 [0 ≤ i ∧ i < ((s.size : Nat) : Int)] ⟨c, trivial⟩ ?_
      refine Runs.sA 1 [.code (C_27 3730), .code (C_27 3731), .inBlock 1, .code (C_27 467), .inLoop (C_27 116), .inBlock 0, .code (C_27 15)] ?_
      refine Runs.sR hE ⟨[(0, (aS s)), (3, (aI i)), (4, (.atom (.int .u8 (byteAt s ((i).toNat))))), (5, (aB (cond (cond (decide ((byteAt s ((i).toNat)) ≥ 97)) (decide ((byteAt s ((i).toNat)) ≤ 122)) false) true (cond (decide ((byteAt s ((i).toNat)) ≥ 65)) (decide ((byteAt s ((i).toNat)) ≤ 90)) false))))], [], 368⟩ (C_27 3730) [] [] (kp [0, 3, 4, 5]) [] 368 [(decide ((byteAt s ((i).toNat)) ≥ 97)) = true → AllP [(decide ((byteAt s ((i).toNat)) ≥ 97)) = true], (decide ((byteAt s ((i).toNat)) ≥ 97)) = true → AllP [(decide ((byteAt s ((i).toNat)) ≥ 97)) = true], (!(cond (decide ((byteAt s ((i).toNat)) ≥ 97)) (decide ((byteAt s ((i).toNat)) ≤ 122)) false)) = true → AllP [(!(cond (decide ((byteAt s ((i).toNat)) ≥ 97)) (decide ((byteAt s ((i).toNat)) ≤ 122)) false)) = true], ((!(cond (decide ((byteAt s ((i).toNat)) ≥ 97)) (decide ((byteAt s ((i).toNat)) ≤ 122)) false)) && ((!(cond (decide ((byteAt s ((i).toNat)) ≥ 97)) (decide ((byteAt s ((i).toNat)) ≤ 122)) false)) && (decide ((byteAt s ((i).toNat)) ≥ 65)))) = true → AllP [((!(cond (decide ((byteAt s ((i).toNat)) ≥ 97)) (decide ((byteAt s ((i).toNat)) ≤ 122)) false)) && ((!(cond (decide ((byteAt s ((i).toNat)) ≥ 97)) (decide ((byteAt s ((i).toNat)) ≤ 122)) false)) && (decide ((byteAt s ((i).toNat)) ≥ 65)))) = true], (!(cond (decide ((byteAt s ((i).toNat)) ≥ 97)) (decide ((byteAt s ((i).toNat)) ≤ 122)) false)) = true → AllP [(!(cond (decide ((byteAt s ((i).toNat)) ≥ 97)) (decide ((byteAt s ((i).toNat)) ≤ 122)) false)) = true, (!(cond (decide ((byteAt s ((i).toNat)) ≥ 97)) (decide ((byteAt s ((i).toNat)) ≤ 122)) false)) = true, (decide ((byteAt s ((i).toNat)) ≥ 65)) = true → AllP [((!(cond (decide ((byteAt s ((i).toNat)) ≥ 97)) (decide ((byteAt s ((i).toNat)) ≤ 122)) false)) && ((!(cond (decide ((byteAt s ((i).toNat)) ≥ 97)) (decide ((byteAt s ((i).toNat)) ≤ 122)) false)) && (decide ((byteAt s ((i).toNat)) ≥ 65)))) = true]], (!(cond (decide ((byteAt s ((i).toNat)) ≥ 97)) (decide ((byteAt s ((i).toNat)) ≤ 122)) false)) = true → AllP [(!(cond (decide ((byteAt s ((i).toNat)) ≥ 97)) (decide ((byteAt s ((i).toNat)) ≤ 122)) false)) = true]] ⟨(fun hg => ⟨hg, trivial⟩), (fun hq => ⟨hq, trivial⟩), (fun hg => ⟨hg, trivial⟩), (fun hg => ⟨hg, trivial⟩), (fun hg => ⟨hg, hg, (fun hq => ⟨(andI' hg (andI' hg hq)), trivial⟩), trivial⟩), (fun hq => ⟨hq, trivial⟩), trivial⟩ ?_
      refine Runs.sA 1 [.code (C_27 7462), .code (C_27 7463), .inBlock 1, .code (C_27 467), .inLoop (C_27 116), .inBlock 0, .code (C_27 15)] ?_
      refine Runs.sR hE ⟨[(0, (aS s)), (3, (aI i)), (54, (aB (cond (!(cond (cond (decide ((byteAt s ((i).toNat)) ≥ 97)) (decide ((byteAt s ((i).toNat)) ≤ 122)) false) true (cond (decide ((byteAt s ((i).toNat)) ≥ 65)) (decide ((byteAt s ((i).toNat)) ≤ 90)) false))) (cond (i == 0) true (cond ((byteAt s ((i).toNat)) != 45) (cond (decide ((byteAt s ((i).toNat)) < 48)) true (decide ((byteAt s ((i).toNat)) > 57))) false)) false)))], [], 656⟩ (C_27 7462) [] [] (kp [0, 3, 54]) [] 656 [(!(cond (cond (decide ((byteAt s ((i).toNat)) ≥ 97)) (decide ((byteAt s ((i).toNat)) ≤ 122)) false) true (cond (decide ((byteAt s ((i).toNat)) ≥ 65)) (decide ((byteAt s ((i).toNat)) ≤ 90)) false))) = true → AllP [(!(cond (cond (decide ((byteAt s ((i).toNat)) ≥ 97)) (decide ((byteAt s ((i).toNat)) ≤ 122)) false) true (cond (decide ((byteAt s ((i).toNat)) ≥ 65)) (decide ((byteAt s ((i).toNat)) ≤ 90)) false))) = true], ((!(cond (cond (decide ((byteAt s ((i).toNat)) ≥ 97)) (decide ((byteAt s ((i).toNat)) ≤ 122)) false) true (cond (decide ((byteAt s ((i).toNat)) ≥ 65)) (decide ((byteAt s ((i).toNat)) ≤ 90)) false))) && ((!(cond (cond (decide ((byteAt s ((i).toNat)) ≥ 97)) (decide ((byteAt s ((i).toNat)) ≤ 122)) false) true (cond (decide ((byteAt s ((i).toNat)) ≥ 65)) (decide ((byteAt s ((i).toNat)) ≤ 90)) false))) && (!(i == 0)))) = true → AllP [((!(cond (cond (decide ((byteAt s ((i).toNat)) ≥ 97)) (decide ((byteAt s ((i).toNat)) ≤ 122)) false) true (cond (decide ((byteAt s ((i).toNat)) ≥ 65)) (decide ((byteAt s ((i).toNat)) ≤ 90)) false))) && ((!(cond (cond (decide ((byteAt s ((i).toNat)) ≥ 97)) (decide ((byteAt s ((i).toNat)) ≤ 122)) false) true (cond (decide ((byteAt s ((i).toNat)) ≥ 65)) (decide ((byteAt s ((i).toNat)) ≤ 90)) false))) && (!(i == 0)))) = true], (((!(cond (cond (decide ((byteAt s ((i).toNat)) ≥ 97)) (decide ((byteAt s ((i).toNat)) ≤ 122)) false) true (cond (decide ((byteAt s ((i).toNat)) ≥ 65)) (decide ((byteAt s ((i).toNat)) ≤ 90)) false))) && ((!(cond (cond (decide ((byteAt s ((i).toNat)) ≥ 97)) (decide ((byteAt s ((i).toNat)) ≤ 122)) false) true (cond (decide ((byteAt s ((i).toNat)) ≥ 65)) (decide ((byteAt s ((i).toNat)) ≤ 90)) false))) && (!(i == 0)))) && (((!(cond (cond (decide ((byteAt s ((i).toNat)) ≥ 97)) (decide ((byteAt s ((i).toNat)) ≤ 122)) false) true (cond (decide ((byteAt s ((i).toNat)) ≥ 65)) (decide ((byteAt s ((i).toNat)) ≤ 90)) false))) && ((!(cond (cond (decide ((byteAt s ((i).toNat)) ≥ 97)) (decide ((byteAt s ((i).toNat)) ≤ 122)) false) true (cond (decide ((byteAt s ((i).toNat)) ≥ 65)) (decide ((byteAt s ((i).toNat)) ≤ 90)) false))) && (!(i == 0)))) && ((byteAt s ((i).toNat)) != 45))) = true → AllP [(((!(cond (cond (decide ((byteAt s ((i).toNat)) ≥ 97)) (decide ((byteAt s ((i).toNat)) ≤ 122)) false) true (cond (decide ((byteAt s ((i).toNat)) ≥ 65)) (decide ((byteAt s ((i).toNat)) ≤ 90)) false))) && ((!(cond (cond (decide ((byteAt s ((i).toNat)) ≥ 97)) (decide ((byteAt s ((i).toNat)) ≤ 122)) false) true (cond (decide ((byteAt s ((i).toNat)) ≥ 65)) (decide ((byteAt s ((i).toNat)) ≤ 90)) false))) && (!(i == 0)))) && (((!(cond (cond (decide ((byteAt s ((i).toNat)) ≥ 97)) (decide ((byteAt s ((i).toNat)) ≤ 122)) false) true (cond (decide ((byteAt s ((i).toNat)) ≥ 65)) (decide ((byteAt s ((i).toNat)) ≤ 90)) false))) && ((!(cond (cond (decide ((byteAt s ((i).toNat)) ≥ 97)) (decide ((byteAt s ((i).toNat)) ≤ 122)) false) true (cond (decide ((byteAt s ((i).toNat)) ≥ 65)) (decide ((byteAt s ((i).toNat)) ≤ 90)) false))) && (!(i == 0)))) && ((byteAt s ((i).toNat)) != 45))) = true], ((((!(cond (cond (decide ((byteAt s ((i).toNat)) ≥ 97)) (decide ((byteAt s ((i).toNat)) ≤ 122)) false) true (cond (decide ((byteAt s ((i).toNat)) ≥ 65)) (decide ((byteAt s ((i).toNat)) ≤ 90)) false))) && ((!(cond (cond (decide ((byteAt s ((i).toNat)) ≥ 97)) (decide ((byteAt s ((i).toNat)) ≤ 122)) false) true (cond (decide ((byteAt s ((i).toNat)) ≥ 65)) (decide ((byteAt s ((i).toNat)) ≤ 90)) false))) && (!(i == 0)))) && (((!(cond (cond (decide ((byteAt s ((i).toNat)) ≥ 97)) (decide ((byteAt s ((i).toNat)) ≤ 122)) false) true (cond (decide ((byteAt s ((i).toNat)) ≥ 65)) (decide ((byteAt s ((i).toNat)) ≤ 90)) false))) && ((!(cond (cond (decide ((byteAt s ((i).toNat)) ≥ 97)) (decide ((byteAt s ((i).toNat)) ≤ 122)) false) true (cond (decide ((byteAt s ((i).toNat)) ≥ 65)) (decide ((byteAt s ((i).toNat)) ≤ 90)) false))) && (!(i == 0)))) && ((byteAt s ((i).toNat)) != 45))) && ((((!(cond (cond (decide ((byteAt s ((i).toNat)) ≥ 97)) (decide ((byteAt s ((i).toNat)) ≤ 122)) false) true (cond (decide ((byteAt s ((i).toNat)) ≥ 65)) (decide ((byteAt s ((i).toNat)) ≤ 90)) false))) && ((!(cond (cond (decide ((byteAt s ((i).toNat)) ≥ 97)) (decide ((byteAt s ((i).toNat)) ≤ 122)) false) true (cond (decide ((byteAt s ((i).toNat)) ≥ 65)) (decide ((byteAt s ((i).toNat)) ≤ 90)) false))) && (!(i == 0)))) && (((!(cond (cond (decide ((byteAt s ((i).toNat)) ≥ 97)) (decide ((byteAt s ((i).toNat)) ≤ 122)) false) true (cond (decide ((byteAt s ((i).toNat)) ≥ 65)) (decide ((byteAt s ((i).toNat)) ≤ 90)) false))) && ((!(cond (cond (decide ((byteAt s ((i).toNat)) ≥ 97)) (decide ((byteAt s ((i).toNat)) ≤ 122)) false) true (cond (decide ((byteAt s ((i).toNat)) ≥ 65)) (decide ((byteAt s ((i).toNat)) ≤ 90)) false))) && (!(i == 0)))) && ((byteAt s ((i).toNat)) != 45))) && (!(decide ((byteAt s ((i).toNat)) < 48))))) = true → AllP [((((!(cond (cond (decide ((byteAt s ((i).toNat)) ≥ 97)) (decide ((byteAt s ((i).toNat)) ≤ 122)) false) true (cond (decide ((byteAt s ((i).toNat)) ≥ 65)) (decide ((byteAt s ((i).toNat)) ≤ 90)) false))) && ((!(cond (cond (decide ((byteAt s ((i).toNat)) ≥ 97)) (decide ((byteAt s ((i).toNat)) ≤ 122)) false) true (cond (decide ((byteAt s ((i).toNat)) ≥ 65)) (decide ((byteAt s ((i).toNat)) ≤ 90)) false))) && (!(i == 0)))) && (((!(cond (cond (decide ((byteAt s ((i).toNat)) ≥ 97)) (decide ((byteAt s ((i).toNat)) ≤ 122)) false) true (cond (decide ((byteAt s ((i).toNat)) ≥ 65)) (decide ((byteAt s ((i).toNat)) ≤ 90)) false))) && ((!(cond (cond (decide ((byteAt s ((i).toNat)) ≥ 97)) (decide ((byteAt s ((i).toNat)) ≤ 122)) false) true (cond (decide ((byteAt s ((i).toNat)) ≥ 65)) (decide ((byteAt s ((i).toNat)) ≤ 90)) false))) && (!(i == 0)))) && ((byteAt s ((i).toNat)) != 45))) && ((((!(cond (cond (decide ((byteAt s ((i).toNat)) ≥ 97)) (decide ((byteAt s ((i).toNat)) ≤ 122)) false) true (cond (decide ((byteAt s ((i).toNat)) ≥ 65)) (decide ((byteAt s ((i).toNat)) ≤ 90)) false))) && ((!(cond (cond (decide ((byteAt s ((i).toNat)) ≥ 97)) (decide ((byteAt s ((i).toNat)) ≤ 122)) false) true (cond (decide ((byteAt s ((i).toNat)) ≥ 65)) (decide ((byteAt s ((i).toNat)) ≤ 90)) false))) && (!(i == 0)))) && (((!(cond (cond (decide ((byteAt s ((i).toNat)) ≥ 97)) (decide ((byteAt s ((i).toNat)) ≤ 122)) false) true (cond (decide ((byteAt s ((i).toNat)) ≥ 65)) (decide ((byteAt s ((i).toNat)) ≤ 90)) false))) && ((!(cond (cond (decide ((byteAt s ((i).toNat)) ≥ 97)) (decide ((byteAt s ((i).toNat)) ≤ 122)) false) true (cond (decide ((byteAt s ((i).toNat)) ≥ 65)) (decide ((byteAt s ((i).toNat)) ≤ 90)) false))) && (!(i == 0)))) && ((byteAt s ((i).toNat)) != 45))) && (!(decide ((byteAt s ((i).toNat)) < 48))))) = true], (((!(cond (cond (decide ((byteAt s ((i).toNat)) ≥ 97)) (decide ((byteAt s ((i).toNat)) ≤ 122)) false) true (cond (decide ((byteAt s ((i).toNat)) ≥ 65)) (decide ((byteAt s ((i).toNat)) ≤ 90)) false))) && ((!(cond (cond (decide ((byteAt s ((i).toNat)) ≥ 97)) (decide ((byteAt s ((i).toNat)) ≤ 122)) false) true (cond (decide ((byteAt s ((i).toNat)) ≥ 65)) (decide ((byteAt s ((i).toNat)) ≤ 90)) false))) && (!(i == 0)))) && (((!(cond (cond (decide ((byteAt s ((i).toNat)) ≥ 97)) (decide ((byteAt s ((i).toNat)) ≤ 122)) false) true (cond (decide ((byteAt s ((i).toNat)) ≥ 65)) (decide ((byteAt s ((i).toNat)) ≤ 90)) false))) && ((!(cond (cond (decide ((byteAt s ((i).toNat)) ≥ 97)) (decide ((byteAt s ((i).toNat)) ≤ 122)) false) true (cond (decide ((byteAt s ((i).toNat)) ≥ 65)) (decide ((byteAt s ((i).toNat)) ≤ 90)) false))) && (!(i == 0)))) && ((byteAt s ((i).toNat)) != 45))) = true → AllP [(((!(cond (cond (decide ((byteAt s ((i).toNat)) ≥ 97)) (decide ((byteAt s ((i).toNat)) ≤ 122)) false) true (cond (decide ((byteAt s ((i).toNat)) ≥ 65)) (decide ((byteAt s ((i).toNat)) ≤ 90)) false))) && ((!(cond (cond (decide ((byteAt s ((i).toNat)) ≥ 97)) (decide ((byteAt s ((i).toNat)) ≤ 122)) false) true (cond (decide ((byteAt s ((i).toNat)) ≥ 65)) (decide ((byteAt s ((i).toNat)) ≤ 90)) false))) && (!(i == 0)))) && (((!(cond (cond (decide ((byteAt s ((i).toNat)) ≥ 97)) (decide ((byteAt s ((i).toNat)) ≤ 122)) false) true (cond (decide ((byteAt s ((i).toNat)) ≥ 65)) (decide ((byteAt s ((i).toNat)) ≤ 90)) false))) && ((!(cond (cond (decide ((byteAt s ((i).toNat)) ≥ 97)) (decide ((byteAt s ((i).toNat)) ≤ 122)) false) true (cond (decide ((byteAt s ((i).toNat)) ≥ 65)) (decide ((byteAt s ((i).toNat)) ≤ 90)) false))) && (!(i == 0)))) && ((byteAt s ((i).toNat)) != 45))) = true, (((!(cond (cond (decide ((byteAt s ((i).toNat)) ≥ 97)) (decide ((byteAt s ((i).toNat)) ≤ 122)) false) true (cond (decide ((byteAt s ((i).toNat)) ≥ 65)) (decide ((byteAt s ((i).toNat)) ≤ 90)) false))) && ((!(cond (cond (decide ((byteAt s ((i).toNat)) ≥ 97)) (decide ((byteAt s ((i).toNat)) ≤ 122)) false) true (cond (decide ((byteAt s ((i).toNat)) ≥ 65)) (decide ((byteAt s ((i).toNat)) ≤ 90)) false))) && (!(i == 0)))) && (((!(cond (cond (decide ((byteAt s ((i).toNat)) ≥ 97)) (decide ((byteAt s ((i).toNat)) ≤ 122)) false) true (cond (decide ((byteAt s ((i).toNat)) ≥ 65)) (decide ((byteAt s ((i).toNat)) ≤ 90)) false))) && ((!(cond (cond (decide ((byteAt s ((i).toNat)) ≥ 97)) (decide ((byteAt s ((i).toNat)) ≤ 122)) false) true (cond (decide ((byteAt s ((i).toNat)) ≥ 65)) (decide ((byteAt s ((i).toNat)) ≤ 90)) false))) && (!(i == 0)))) && ((byteAt s ((i).toNat)) != 45))) = true, (!(decide ((byteAt s ((i).toNat)) < 48))) = true → AllP [((((!(cond (cond (decide ((byteAt s ((i).toNat)) ≥ 97)) (decide ((byteAt s ((i).toNat)) ≤ 122)) false) true (cond (decide ((byteAt s ((i).toNat)) ≥ 65)) (decide ((byteAt s ((i).toNat)) ≤ 90)) false))) && ((!(cond (cond (decide ((byteAt s ((i).toNat)) ≥ 97)) (decide ((byteAt s ((i).toNat)) ≤ 122)) false) true (cond (decide ((byteAt s ((i).toNat)) ≥ 65)) (decide ((byteAt s ((i).toNat)) ≤ 90)) false))) && (!(i == 0)))) && (((!(cond (cond (decide ((byteAt s ((i).toNat)) ≥ 97)) (decide ((byteAt s ((i).toNat)) ≤ 122)) false) true (cond (decide ((byteAt s ((i).toNat)) ≥ 65)) (decide ((byteAt s ((i).toNat)) ≤ 90)) false))) && ((!(cond (cond (decide ((byteAt s ((i).toNat)) ≥ 97)) (decide ((byteAt s ((i).toNat)) ≤ 122)) false) true (cond (decide ((byteAt s ((i).toNat)) ≥ 65)) (decide ((byteAt s ((i).toNat)) ≤ 90)) false))) && (!(i == 0)))) && ((byteAt s ((i).toNat)) != 45))) && ((((!(cond (cond (decide ((byteAt s ((i).toNat)) ≥ 97)) (decide ((byteAt s ((i).toNat)) ≤ 122)) false) true (cond (decide ((byteAt s ((i).toNat)) ≥ 65)) (decide ((byteAt s ((i).toNat)) ≤ 90)) false))) && ((!(cond (cond (decide ((byteAt s ((i).toNat)) ≥ 97)) (decide ((byteAt s ((i).toNat)) ≤ 122)) false) true (cond (decide ((byteAt s ((i).toNat)) ≥ 65)) (decide ((byteAt s ((i).toNat)) ≤ 90)) false))) && (!(i == 0)))) && (((!(cond (cond (decide ((byteAt s ((i).toNat)) ≥ 97)) (decide ((byteAt s ((i).toNat)) ≤ 122)) false) true (cond (decide ((byteAt s ((i).toNat)) ≥ 65)) (decide ((byteAt s ((i).toNat)) ≤ 90)) false))) && ((!(cond (cond (decide ((byteAt s ((i).toNat)) ≥ 97)) (decide ((byteAt s ((i).toNat)) ≤ 122)) false) true (cond (decide ((byteAt s ((i).toNat)) ≥ 65)) (decide ((byteAt s ((i).toNat)) ≤ 90)) false))) && (!(i == 0)))) && ((byteAt s ((i).toNat)) != 45))) && (!(decide ((byteAt s ((i).toNat)) < 48))))) = true]], ((!(cond (cond (decide ((byteAt s ((i).toNat)) ≥ 97)) (decide ((byteAt s ((i).toNat)) ≤ 122)) false) true (cond (decide ((byteAt s ((i).toNat)) ≥ 65)) (decide ((byteAt s ((i).toNat)) ≤ 90)) false))) && ((!(cond (cond (decide ((byteAt s ((i).toNat)) ≥ 97)) (decide ((byteAt s ((i).toNat)) ≤ 122)) false) true (cond (decide ((byteAt s ((i).toNat)) ≥ 65)) (decide ((byteAt s ((i).toNat)) ≤ 90)) false))) && (!(i == 0)))) = true → AllP [((!(cond (cond (decide ((byteAt s ((i).toNat)) ≥ 97)) (decide ((byteAt s ((i).toNat)) ≤ 122)) false) true (cond (decide ((byteAt s ((i).toNat)) ≥ 65)) (decide ((byteAt s ((i).toNat)) ≤ 90)) false))) && ((!(cond (cond (decide ((byteAt s ((i).toNat)) ≥ 97)) (decide ((byteAt s ((i).toNat)) ≤ 122)) false) true (cond (decide ((byteAt s ((i).toNat)) ≥ 65)) (decide ((byteAt s ((i).toNat)) ≤ 90)) false))) && (!(i == 0)))) = true, ((!(cond (cond (decide ((byteAt s ((i).toNat)) ≥ 97)) (decide ((byteAt s ((i).toNat)) ≤ 122)) false) true (cond (decide ((byteAt s ((i).toNat)) ≥ 65)) (decide ((byteAt s ((i).toNat)) ≤ 90)) false))) && ((!(cond (cond (decide ((byteAt s ((i).toNat)) ≥ 97)) (decide ((byteAt s ((i).toNat)) ≤ 122)) false) true (cond (decide ((byteAt s ((i).toNat)) ≥ 65)) (decide ((byteAt s ((i).toNat)) ≤ 90)) false))) && (!(i == 0)))) = true, ((byteAt s ((i).toNat)) != 45) = true → AllP [(((!(cond (cond (decide ((byteAt s ((i).toNat)) ≥ 97)) (decide ((byteAt s ((i).toNat)) ≤ 122)) false) true (cond (decide ((byteAt s ((i).toNat)) ≥ 65)) (decide ((byteAt s ((i).toNat)) ≤ 90)) false))) && ((!(cond (cond (decide ((byteAt s ((i).toNat)) ≥ 97)) (decide ((byteAt s ((i).toNat)) ≤ 122)) false) true (cond (decide ((byteAt s ((i).toNat)) ≥ 65)) (decide ((byteAt s ((i).toNat)) ≤ 90)) false))) && (!(i == 0)))) && (((!(cond (cond (decide ((byteAt s ((i).toNat)) ≥ 97)) (decide ((byteAt s ((i).toNat)) ≤ 122)) false) true (cond (decide ((byteAt s ((i).toNat)) ≥ 65)) (decide ((byteAt s ((i).toNat)) ≤ 90)) false))) && ((!(cond (cond (decide ((byteAt s ((i).toNat)) ≥ 97)) (decide ((byteAt s ((i).toNat)) ≤ 122)) false) true (cond (decide ((byteAt s ((i).toNat)) ≥ 65)) (decide ((byteAt s ((i).toNat)) ≤ 90)) false))) && (!(i == 0)))) && ((byteAt s ((i).toNat)) != 45))) = true]], (!(cond (cond (decide ((byteAt s ((i).toNat)) ≥ 97)) (decide ((byteAt s ((i).toNat)) ≤ 122)) false) true (cond (decide ((byteAt s ((i).toNat)) ≥ 65)) (decide ((byteAt s ((i).toNat)) ≤ 90)) false))) = true → AllP [(!(cond (cond (decide ((byteAt s ((i).toNat)) ≥ 97)) (decide ((byteAt s ((i).toNat)) ≤ 122)) false) true (cond (decide ((byteAt s ((i).toNat)) ≥ 65)) (decide ((byteAt s ((i).toNat)) ≤ 90)) false))) = true, (!(cond (cond (decide ((byteAt s ((i).toNat)) ≥ 97)) (decide ((byteAt s ((i).toNat)) ≤ 122)) false) true (cond (decide ((byteAt s ((i).toNat)) ≥ 65)) (decide ((byteAt s ((i).toNat)) ≤ 90)) false))) = true, (!(i == 0)) = true → AllP [((!(cond (cond (decide ((byteAt s ((i).toNat)) ≥ 97)) (decide ((byteAt s ((i).toNat)) ≤ 122)) false) true (cond (decide ((byteAt s ((i).toNat)) ≥ 65)) (decide ((byteAt s ((i).toNat)) ≤ 90)) false))) && ((!(cond (cond (decide ((byteAt s ((i).toNat)) ≥ 97)) (decide ((byteAt s ((i).toNat)) ≤ 122)) false) true (cond (decide ((byteAt s ((i).toNat)) ≥ 65)) (decide ((byteAt s ((i).toNat)) ≤ 90)) false))) && (!(i == 0)))) = true]], (!(cond (cond (decide ((byteAt s ((i).toNat)) ≥ 97)) (decide ((byteAt s ((i).toNat)) ≤ 122)) false) true (cond (decide ((byteAt s ((i).toNat)) ≥ 65)) (decide ((byteAt s ((i).toNat)) ≤ 90)) false))) = true → AllP [(!(cond (cond (decide ((byteAt s ((i).toNat)) ≥ 97)) (decide ((byteAt s ((i).toNat)) ≤ 122)) false) true (cond (decide ((byteAt s ((i).toNat)) ≥ 65)) (decide ((byteAt s ((i).toNat)) ≤ 90)) false))) = true]] ⟨(fun hg => ⟨hg, trivial⟩), (fun hg => ⟨hg, trivial⟩), (fun hg => ⟨hg, trivial⟩), (fun hg => ⟨hg, trivial⟩), (fun hg => ⟨hg, hg, (fun hq => ⟨(andI' hg (andI' hg hq)), trivial⟩), trivial⟩), (fun hg => ⟨hg, hg, (fun hq => ⟨(andI' hg (andI' hg hq)), trivial⟩), trivial⟩), (fun hg => ⟨hg, hg, (fun hq => ⟨(andI' hg (andI' hg hq)), trivial⟩), trivial⟩), (fun hq => ⟨hq, trivial⟩), trivial⟩ ?_
      refine Runs.sC 54 (C_27 14926) (C_27 14927) (cond (!(cond (cond (decide ((byteAt s ((i).toNat)) ≥ 97)) (decide ((byteAt s ((i).toNat)) ≤ 122)) false) true (cond (decide ((byteAt s ((i).toNat)) ≥ 65)) (decide ((byteAt s ((i).toNat)) ≤ 90)) false))) (cond (i == 0) true (cond ((byteAt s ((i).toNat)) != 45) (cond (decide ((byteAt s ((i).toNat)) < 48)) true (decide ((byteAt s ((i).toNat)) > 57))) false)) false) (fun hq4 => ?_) (fun hq4 => ?_)
      · have h := condT h hq4
        refine Runs.sA 1 [.code (C_27 29852), .code (C_27 29853), .inBlock 1, .code (C_27 467), .inLoop (C_27 116), .inBlock 0, .code (C_27 15)] ?_
        refine Runs.sR hE ⟨[(2, (aB false))], [], 672⟩ (C_27 29852) [] [] (kp [2]) [] 672 [] trivial ?_
        obtain rfl := Option.some.inj h
        refine Runs.sW hE ⟨[(2, (aB false))], [], 672⟩ [] (kp [2]) [] 672 [] trivial ?_
        exact Runs.sT Try.f47 [] [] trivial
      · have h := condF h hq4
        refine Runs.sA 2 [.code (C_27 467), .inLoop (C_27 116), .inBlock 0, .code (C_27 15)] ?_
        refine Runs.sR hE ⟨[(0, (aS s)), (3, (aI (w64 (i + 1))))], [], 704⟩ (C_27 467) [] [] (kp [0, 3]) [] 704 [] trivial ?_
        refine Runs.sA 1 [.code (C_27 116), .inLoop (C_27 116), .inBlock 0, .code (C_27 15)] ?_
        exact Runs.sW hE _ [] (kp [0, 3]) [] 0 [] trivial (ih (w64 (i + 1)) _ h E hE)
    · have h := condF h hq3
      refine Runs.sA 2 [.code (C_27 30), .code (C_27 31)] ?_
      refine Runs.sR hE ⟨[(2, (aB true))], [], 80⟩ (C_27 30) [] [] (kp [2]) [] 80 [] trivial ?_
      obtain rfl := Option.some.inj h
      refine Runs.sW hE ⟨[(2, (aB true))], [], 80⟩ [] (kp [2]) [] 80 [] trivial ?_
      exact Runs.sT Try.f47 [] [] trivial

theorem g_keelblockbase_IsName_ok (N : Nat) (s : ByteArray) (r : Bool) (h : g_keelblockbase_IsName N s = some r) : Sound Try.prog 47 [(aS s)] [] 0 (aB r) [] := by
  unfold g_keelblockbase_IsName at h
  refine Sound.of_runs (fu := Try.f47) (c := C_27 1) (nt := 55) (by kernel_rfl) (by kernel_rfl) (by kernel_rfl) (by kernel_rfl) (fun hm => rfl) ?_
  intro E hE
  refine Runs.sA 1 [.code (C_27 2), .code (C_27 3)] ?_
  refine Runs.sR hE ⟨[(0, (aS s))], [], 16⟩ (C_27 2) [] [] (kp [0]) [] 16 [] trivial ?_
  refine Runs.sA 2 [.code (C_27 12), .code (C_27 13), .code (C_27 7)] ?_
  refine Runs.sR hE ⟨[(0, (aS s)), (13, (aB (cond (decide (((s.size : Nat) : Int) < 1)) true (decide (((s.size : Nat) : Int) > 12)))))], [], 144⟩ (C_27 12) [] [] (kp [0, 13]) [] 144 [(!(decide (((s.size : Nat) : Int) < 1))) = true → AllP [(!(decide (((s.size : Nat) : Int) < 1))) = true], (!(decide (((s.size : Nat) : Int) < 1))) = true → AllP [(!(decide (((s.size : Nat) : Int) < 1))) = true], (!(decide (((s.size : Nat) : Int) < 1))) = true → AllP [(!(decide (((s.size : Nat) : Int) < 1))) = true]] ⟨(fun hg => ⟨hg, trivial⟩), (fun hg => ⟨hg, trivial⟩), (fun hq => ⟨hq, trivial⟩), trivial⟩ ?_
  refine Runs.sC 13 (C_27 26) (C_27 27) (cond (decide (((s.size : Nat) : Int) < 1)) true (decide (((s.size : Nat) : Int) > 12))) (fun hq2 => ?_) (fun hq2 => ?_)
  · have h := condT h hq2
    refine Runs.sA 1 [.code (C_27 52), .code (C_27 53), .code (C_27 7)] ?_
    refine Runs.sR hE ⟨[(2, (aB false))], [], 160⟩ (C_27 52) [] [] (kp [2]) [] 160 [] trivial ?_
    obtain rfl := Option.some.inj h
    refine Runs.sW hE ⟨[(2, (aB false))], [], 160⟩ [] (kp [2]) [] 160 [] trivial ?_
    exact Runs.sT Try.f47 [] [] trivial
  · have h := condF h hq2
    refine Runs.sA 3 [.code (C_27 28), .code (C_27 29), .code (C_27 15)] ?_
    refine Runs.sR hE ⟨[(0, (aS s)), (3, (aI 0))], [], 160⟩ (C_27 28) [] [] (kp [0, 3]) [] 160 [] trivial ?_
    refine Runs.sA 2 [.code (C_27 116), .inLoop (C_27 116), .inBlock 0, .code (C_27 15)] ?_
    exact Runs.sW hE _ [] (kp [0, 3]) [] 0 [] trivial (g_keelblockbase_IsName_L1_ok N s N 0 _ h E hE)

noncomputable def C_29 (n : Nat) : Code := cat (bodyOf Try.f56) (pth n)

theorem g_r06_inside_ok (N : Nat) (n : Int) (low : Int) (high : Int) (r : Bool) (h : g_r06_inside N n low high = some r) : Sound Try.prog 56 [(aI n), (aI low), (aI high)] [] 0 (aB r) [] := by
  unfold g_r06_inside at h
  refine Sound.of_runs (fu := Try.f56) (c := C_29 1) (nt := 15) (by kernel_rfl) (by kernel_rfl) (by kernel_rfl) (by kernel_rfl) (fun hm => rfl) ?_
  intro E hE
  refine Runs.sA 1 [.code (C_29 2), .code (C_29 3)] ?_
  refine Runs.sR hE ⟨[(0, (aI n)), (1, (aI low)), (2, (aI high))], [], 16⟩ (C_29 2) [] [] (kp [0, 1, 2]) [] 16 [] trivial ?_
  refine Runs.sA 1 [.code (C_29 6), .code (C_29 7)] ?_
  refine Runs.sR hE ⟨[(6, (aB (cond (decide (n ≥ low)) (decide (n ≤ high)) false)))], [], 160⟩ (C_29 6) [] [] (kp [6]) [] 160 [(decide (n ≥ low)) = true → AllP [(decide (n ≥ low)) = true, (decide (n ≥ low)) = true], (decide (n ≥ low)) = true → AllP [(decide (n ≥ low)) = true]] ⟨(fun hg => ⟨hg, hg, trivial⟩), (fun hq => ⟨hq, trivial⟩), trivial⟩ ?_
  obtain rfl := Option.some.inj h
  refine Runs.sW hE ⟨[(6, (aB (cond (decide (n ≥ low)) (decide (n ≤ high)) false)))], [], 160⟩ [] (kp [6]) [] 160 [] trivial ?_
  exact Runs.sT Try.f56 [] [] trivial

noncomputable def C_46 (n : Nat) : Code := cat (bodyOf Try.f51) (pth n)

theorem g_berth_CheckDocks_1_ok (N : Nat) (x : Tapi_Dock) (r : ByteArray) (h : g_berth_CheckDocks_1 N x = some r) : Sound Try.prog 51 [(.agg (Tapi_Dock.cells x))] [] 0 (aS r) [] := by
  unfold g_berth_CheckDocks_1 at h
  refine Sound.of_runs (fu := Try.f51) (c := C_46 1) (nt := 5) (by kernel_rfl) (by kernel_rfl) (by kernel_rfl) (by kernel_rfl) (fun hm => rfl) ?_
  intro E hE
  refine Runs.sA 1 [.code (C_46 2), .code (C_46 3)] ?_
  refine Runs.sR hE ⟨[(1, (.op 0 0 0))], [(0, vO 6 (Tapi_Dock.cells x))], 32⟩ (C_46 2) [] [] (kp [1]) (kq [0]) 32 [] trivial ?_
  refine Runs.sA 1 [.code (C_46 6), .code (C_46 7)] ?_
  refine Runs.sR hE ⟨[(2, (aS x.f_Name))], [], 80⟩ (C_46 6) [] [] (kp [2]) [] 80 [0 < 1] ⟨o1, trivial⟩ ?_
  obtain rfl := Option.some.inj h
  refine Runs.sW hE ⟨[(2, (aS x.f_Name))], [], 80⟩ [] (kp [2]) [] 80 [] trivial ?_
  exact Runs.sT Try.f51 [] [] trivial

noncomputable def C_49 (n : Nat) : Code := cat (bodyOf Try.f86) (pth n)

theorem g_berth_check_Dock_1_ok (N : Nat) (y : Tapi_Dock) (cap1 : Tapi_Dock) (r : Bool) (h : g_berth_check_Dock_1 N y cap1 = some r) : Sound Try.prog 86 [(.agg (Tapi_Dock.cells y)), (.op 0 0 0), (.op 1 0 0)] [(0, vO 1 [(.fn (.func 51) [] [])]), (1, vO 6 (Tapi_Dock.cells cap1))] 2 (aB r) [(0, vO 1 [(.fn (.func 51) [] [])]), (1, vO 6 (Tapi_Dock.cells cap1))] := by
  unfold g_berth_check_Dock_1 at h
  refine Sound.of_runs (fu := Try.f86) (c := C_49 1) (nt := 12) (by kernel_rfl) (by kernel_rfl) (by kernel_rfl) (by kernel_rfl) (fun hm => absurd hm (by decide)) ?_
  intro E hE
  refine Runs.sA 1 [.code (C_49 2), .code (C_49 3)] ?_
  refine Runs.sR hE ⟨[(1, (.op 0 0 0)), (2, (.op 1 0 0)), (3, (.op 2 0 0))], [(0, vO 1 [(.fn (.func 51) [] [])]), (1, vO 6 (Tapi_Dock.cells cap1)), (2, vO 6 (Tapi_Dock.cells y))], 34⟩ (C_49 2) [] [] (kp [1, 2, 3]) (kq [0, 1, 2]) 34 [] trivial ?_
  refine Runs.sA 1 [.code (C_49 6), .code (C_49 7)] ?_
  obtain ⟨rCheckDocks1, hr, h⟩ := bindSome h
  obtain ⟨rCheckDocks12, hr2, h⟩ := bindSome h
  refine Runs.sR hE ⟨[(4, (aB (streq rCheckDocks1 rCheckDocks12)))], [(0, vO 1 [(.fn (.func 51) [] [])]), (1, vO 6 (Tapi_Dock.cells cap1))], 162⟩ (C_49 6) [(2, ⟨[], true, (aS rCheckDocks1), [], 0, false, none⟩), (5, ⟨[], true, (aS rCheckDocks12), [], 0, false, none⟩)] [] (kp [4]) (kq [0, 1]) 162 [0 < 1, 0 < 1, Sound Try.prog 51 [(.agg (Tapi_Dock.cells y))] [] 0 (aS rCheckDocks1) [], 0 < 1, 0 < 1, Sound Try.prog 51 [(.agg (Tapi_Dock.cells cap1))] [] 0 (aS rCheckDocks12) []] ⟨o1, o1, (g_berth_CheckDocks_1_ok N y rCheckDocks1 hr), o1, o1, (g_berth_CheckDocks_1_ok N cap1 rCheckDocks12 hr2), trivial⟩ ?_
  obtain rfl := Option.some.inj h
  refine Runs.sW hE ⟨[(4, (aB (streq rCheckDocks1 rCheckDocks12)))], [(0, vO 1 [(.fn (.func 51) [] [])]), (1, vO 6 (Tapi_Dock.cells cap1))], 162⟩ [] (kp [4]) (kq [0, 1]) 162 [] trivial ?_
  exact Runs.sT Try.f86 [] [] trivial

noncomputable def C_48 (n : Nat) : Code := cat (bodyOf Try.f98) (pth n)

theorem g_slices_IndexFunc_api_Dock_api_Dock_L1_ok (N : Nat) (s : List Tapi_Dock) (cap1 : Tapi_Dock) (fuel : Nat) : ∀ (x : Int) (r : Int), g_slices_IndexFunc_api_Dock_api_Dock_L1 N s cap1 fuel x = some r → ∀ E, EnvOk E 2 → Runs Try.prog E 98 19 (SPost E [(0, vO 1 [(.fn (.func 51) [] [])]), (1, vO 6 (Tapi_Dock.cells cap1))] (aI r)) [.code (C_48 52), .inLoop (C_48 52), .inBlock 0, .code (C_48 7)] ⟨[(0, (encL Tapi_Dock.cells Tapi_Dock.d s)), (1, (.fn (.func 86) [] [(.op 0 0 0), (.op 1 0 0)])), (7, (aI ((s.length : Nat) : Int))), (8, (aI x))], [(0, vO 1 [(.fn (.func 51) [] [])]), (1, vO 6 (Tapi_Dock.cells cap1))], 2⟩ := by
  induction fuel with
  | zero => intro _ r h; rw [g_slices_IndexFunc_api_Dock_api_Dock_L1.eq_1] at h; cases h
  | succ fuel ih =>
    intro x r h E hE
    rw [g_slices_IndexFunc_api_Dock_api_Dock_L1.eq_2] at h
    refine Runs.sA 1 [.code (C_48 104), .code (C_48 105), .inLoop (C_48 52), .inBlock 0, .code (C_48 7)] ?_
    refine Runs.sR hE ⟨[(0, (encL Tapi_Dock.cells Tapi_Dock.d s)), (1, (.fn (.func 86) [] [(.op 0 0 0), (.op 1 0 0)])), (7, (aI ((s.length : Nat) : Int))), (8, (aI x)), (9, (aB (decide (x < ((s.length : Nat) : Int)))))], [(0, vO 1 [(.fn (.func 51) [] [])]), (1, vO 6 (Tapi_Dock.cells cap1))], 18⟩ (C_48 104) [] [] (kp [0, 1, 7, 8, 9]) (kq [0, 1]) 18 [] trivial ?_
    refine Runs.sA 1 [.code (C_48 210), .code (C_48 211), .inLoop (C_48 52), .inBlock 0, .code (C_48 7)] ?_
    refine Runs.sC 9 (C_48 420) (C_48 421) (decide (x < ((s.length : Nat) : Int))) (fun hq2 => ?_) (fun hq2 => ?_)
    · have h := condT h hq2
      refine Runs.sA 4 [.code (C_48 1688), .code (C_48 1689), .inBlock 1, .code (C_48 423), .inLoop (C_48 52), .inBlock 0, .code (C_48 7)] ?_
      refine Runs.sR hE ⟨[(0, (encL Tapi_Dock.cells Tapi_Dock.d s)), (1, (.fn (.func 86) [] [(.op 0 0 0), (.op 1 0 0)])), (5, (aI x)), (7, (aI ((s.length : Nat) : Int))), (8, (aI x))], [(0, vO 1 [(.fn (.func 51) [] [])]), (1, vO 6 (Tapi_Dock.cells cap1))], 50⟩ (C_48 1688) [] [] (kp [0, 1, 5, 7, 8]) (kq [0, 1]) 50 [] trivial ?_
      refine Runs.sA 1 [.code (C_48 3378), .code (C_48 3379), .inBlock 1, .code (C_48 423), .inLoop (C_48 52), .inBlock 0, .code (C_48 7)] ?_
      obtain ⟨c, h⟩ := ifSome h
      obtain ⟨rDock1, hr, h⟩ := bindSome h
      refine Runs.sR hE ⟨[(0, (encL Tapi_Dock.cells Tapi_Dock.d s)), (1, (.fn (.func 86) [] [(.op 0 0 0), (.op 1 0 0)])), (5, (aI x)), (7, (aI ((s.length : Nat) : Int))), (8, (aI x)), (16, (aB rDock1))], [(0, vO 1 [(.fn (.func 51) [] [])]), (1, vO 6 (Tapi_Dock.cells cap1))], 146⟩ (C_48 3378) [(5, ⟨[0, 1], true, (aB rDock1), [], 0, false, none⟩)] [] (kp [0, 1, 5, 7, 8, 16]) (kq [0, 1]) 146 [0 ≤ x ∧ x < ((s.length : Nat) : Int), Sound Try.prog 86 [(.agg (Tapi_Dock.cells (s.getD ((x).toNat) Tapi_Dock.d))), (.op 0 0 0), (.op 1 0 0)] [(0, vO 1 [(.fn (.func 51) [] [])]), (1, vO 6 (Tapi_Dock.cells cap1))] 2 (aB rDock1) [(0, vO 1 [(.fn (.func 51) [] [])]), (1, vO 6 (Tapi_Dock.cells cap1))]] ⟨c, (g_berth_check_Dock_1_ok N (s.getD ((x).toNat) Tapi_Dock.d) cap1 rDock1 hr), trivial⟩ ?_
      refine Runs.sC 16 (C_48 6758) (C_48 6759) rDock1 (fun hq3 => ?_) (fun hq3 => ?_)
      · have h := condT h hq3
        refine Runs.sA 1 [.code (C_48 13516), .code (C_48 13517), .inBlock 1, .code (C_48 423), .inLoop (C_48 52), .inBlock 0, .code (C_48 7)] ?_
        refine Runs.sR hE ⟨[(4, (aI x))], [(0, vO 1 [(.fn (.func 51) [] [])]), (1, vO 6 (Tapi_Dock.cells cap1))], 178⟩ (C_48 13516) [] [] (kp [4]) (kq [0, 1]) 178 [] trivial ?_
        obtain rfl := Option.some.inj h
        refine Runs.sW hE ⟨[(4, (aI x))], [(0, vO 1 [(.fn (.func 51) [] [])]), (1, vO 6 (Tapi_Dock.cells cap1))], 178⟩ [] (kp [4]) (kq [0, 1]) 178 [] trivial ?_
        exact Runs.sT Try.f98 [] [] trivial
      · have h := condF h hq3
        refine Runs.sA 2 [.code (C_48 423), .inLoop (C_48 52), .inBlock 0, .code (C_48 7)] ?_
        refine Runs.sR hE ⟨[(0, (encL Tapi_Dock.cells Tapi_Dock.d s)), (1, (.fn (.func 86) [] [(.op 0 0 0), (.op 1 0 0)])), (7, (aI ((s.length : Nat) : Int))), (8, (aI (w64 (x + 1))))], [(0, vO 1 [(.fn (.func 51) [] [])]), (1, vO 6 (Tapi_Dock.cells cap1))], 178⟩ (C_48 423) [] [] (kp [0, 1, 7, 8]) (kq [0, 1]) 178 [] trivial ?_
        refine Runs.sA 1 [.code (C_48 52), .inLoop (C_48 52), .inBlock 0, .code (C_48 7)] ?_
        exact Runs.sW hE _ [] (kp [0, 1, 7, 8]) (kq [0, 1]) 2 [] trivial (ih (w64 (x + 1)) _ h E hE)
    · have h := condF h hq2
      refine Runs.sA 2 [.code (C_48 14), .code (C_48 15)] ?_
      refine Runs.sR hE ⟨[(4, (aI (-1)))], [(0, vO 1 [(.fn (.func 51) [] [])]), (1, vO 6 (Tapi_Dock.cells cap1))], 34⟩ (C_48 14) [] [] (kp [4]) (kq [0, 1]) 34 [] trivial ?_
      obtain rfl := Option.some.inj h
      refine Runs.sW hE ⟨[(4, (aI (-1)))], [(0, vO 1 [(.fn (.func 51) [] [])]), (1, vO 6 (Tapi_Dock.cells cap1))], 50⟩ [] (kp [4]) (kq [0, 1]) 50 [] trivial ?_
      exact Runs.sT Try.f98 [] [] trivial

theorem g_slices_IndexFunc_api_Dock_api_Dock_ok (N : Nat) (s : List Tapi_Dock) (cap1 : Tapi_Dock) (r : Int) (h : g_slices_IndexFunc_api_Dock_api_Dock N s cap1 = some r) : Sound Try.prog 98 [(encL Tapi_Dock.cells Tapi_Dock.d s), (.fn (.func 86) [] [(.op 0 0 0), (.op 1 0 0)])] [(0, vO 1 [(.fn (.func 51) [] [])]), (1, vO 6 (Tapi_Dock.cells cap1))] 2 (aI r) [(0, vO 1 [(.fn (.func 51) [] [])]), (1, vO 6 (Tapi_Dock.cells cap1))] := by
  unfold g_slices_IndexFunc_api_Dock_api_Dock at h
  refine Sound.of_runs (fu := Try.f98) (c := C_48 1) (nt := 19) (by kernel_rfl) (by kernel_rfl) (by kernel_rfl) (by kernel_rfl) (fun hm => absurd hm (by decide)) ?_
  intro E hE
  refine Runs.sA 1 [.code (C_48 2), .code (C_48 3)] ?_
  refine Runs.sR hE ⟨[(0, (encL Tapi_Dock.cells Tapi_Dock.d s)), (1, (.fn (.func 86) [] [(.op 0 0 0), (.op 1 0 0)]))], [(0, vO 1 [(.fn (.func 51) [] [])]), (1, vO 6 (Tapi_Dock.cells cap1))], 18⟩ (C_48 2) [] [] (kp [0, 1]) (kq [0, 1]) 18 [] trivial ?_
  refine Runs.sA 2 [.code (C_48 12), .code (C_48 13), .code (C_48 7)] ?_
  refine Runs.sR hE ⟨[(0, (encL Tapi_Dock.cells Tapi_Dock.d s)), (1, (.fn (.func 86) [] [(.op 0 0 0), (.op 1 0 0)])), (7, (aI ((s.length : Nat) : Int))), (8, (aI 0))], [(0, vO 1 [(.fn (.func 51) [] [])]), (1, vO 6 (Tapi_Dock.cells cap1))], 66⟩ (C_48 12) [] [] (kp [0, 1, 7, 8]) (kq [0, 1]) 66 [] trivial ?_
  refine Runs.sA 2 [.code (C_48 52), .inLoop (C_48 52), .inBlock 0, .code (C_48 7)] ?_
  exact Runs.sW hE _ [] (kp [0, 1, 7, 8]) (kq [0, 1]) 2 [] trivial (g_slices_IndexFunc_api_Dock_api_Dock_L1_ok N s cap1 N 0 _ h E hE)

noncomputable def C_47 (n : Nat) : Code := cat (bodyOf Try.f85) (pth n)

theorem g_slices_ContainsFunc_api_Dock_api_Dock_ok (N : Nat) (s : List Tapi_Dock) (cap1 : Tapi_Dock) (r : Bool) (h : g_slices_ContainsFunc_api_Dock_api_Dock N s cap1 = some r) : Sound Try.prog 85 [(encL Tapi_Dock.cells Tapi_Dock.d s), (.fn (.func 86) [] [(.op 0 0 0), (.op 1 0 0)])] [(0, vO 1 [(.fn (.func 51) [] [])]), (1, vO 6 (Tapi_Dock.cells cap1))] 2 (aB r) [(0, vO 1 [(.fn (.func 51) [] [])]), (1, vO 6 (Tapi_Dock.cells cap1))] := by
  unfold g_slices_ContainsFunc_api_Dock_api_Dock at h
  refine Sound.of_runs (fu := Try.f85) (c := C_47 1) (nt := 9) (by kernel_rfl) (by kernel_rfl) (by kernel_rfl) (by kernel_rfl) (fun hm => absurd hm (by decide)) ?_
  intro E hE
  refine Runs.sA 1 [.code (C_47 2), .code (C_47 3)] ?_
  refine Runs.sR hE ⟨[(0, (encL Tapi_Dock.cells Tapi_Dock.d s)), (1, (.fn (.func 86) [] [(.op 0 0 0), (.op 1 0 0)]))], [(0, vO 1 [(.fn (.func 51) [] [])]), (1, vO 6 (Tapi_Dock.cells cap1))], 18⟩ (C_47 2) [] [] (kp [0, 1]) (kq [0, 1]) 18 [] trivial ?_
  refine Runs.sA 1 [.code (C_47 6), .code (C_47 7)] ?_
  obtain ⟨rDock, hr, h⟩ := bindSome h
  refine Runs.sR hE ⟨[(4, (aB (decide (rDock ≥ 0))))], [(0, vO 1 [(.fn (.func 51) [] [])]), (1, vO 6 (Tapi_Dock.cells cap1))], 98⟩ (C_47 6) [(2, ⟨[0, 1], true, (aI rDock), [], 0, false, none⟩)] [] (kp [4]) (kq [0, 1]) 98 [Sound Try.prog 98 [(encL Tapi_Dock.cells Tapi_Dock.d s), (.fn (.func 86) [] [(.op 0 0 0), (.op 1 0 0)])] [(0, vO 1 [(.fn (.func 51) [] [])]), (1, vO 6 (Tapi_Dock.cells cap1))] 2 (aI rDock) [(0, vO 1 [(.fn (.func 51) [] [])]), (1, vO 6 (Tapi_Dock.cells cap1))]] ⟨(g_slices_IndexFunc_api_Dock_api_Dock_ok N s cap1 rDock hr), trivial⟩ ?_
  obtain rfl := Option.some.inj h
  refine Runs.sW hE ⟨[(4, (aB (decide (rDock ≥ 0))))], [(0, vO 1 [(.fn (.func 51) [] [])]), (1, vO 6 (Tapi_Dock.cells cap1))], 98⟩ [] (kp [4]) (kq [0, 1]) 98 [] trivial ?_
  exact Runs.sT Try.f85 [] [] trivial

noncomputable def C_50 (n : Nat) : Code := cat (bodyOf Try.f52) (pth n)

theorem g_berth_CheckDocks_2_ok (N : Nat) (x : Tapi_Dock) (r : Int) (h : g_berth_CheckDocks_2 N x = some r) : Sound Try.prog 52 [(.agg (Tapi_Dock.cells x))] [] 0 (aI r) [] := by
  unfold g_berth_CheckDocks_2 at h
  refine Sound.of_runs (fu := Try.f52) (c := C_50 1) (nt := 27) (by kernel_rfl) (by kernel_rfl) (by kernel_rfl) (by kernel_rfl) (fun hm => rfl) ?_
  intro E hE
  refine Runs.sA 1 [.code (C_50 2), .code (C_50 3)] ?_
  refine Runs.sR hE ⟨[(1, (.op 0 0 0))], [(0, vO 6 (Tapi_Dock.cells x))], 32⟩ (C_50 2) [] [] (kp [1]) (kq [0]) 32 [] trivial ?_
  refine Runs.sA 1 [.code (C_50 6), .code (C_50 7)] ?_
  obtain ⟨routside, hr, h⟩ := bindSome h
  obtain ⟨routside2, hr2, h⟩ := bindSome h
  obtain ⟨routside3, hr3, h⟩ := bindSome h
  obtain ⟨routside4, hr4, h⟩ := bindSome h
  obtain ⟨routside5, hr5, h⟩ := bindSome h
  obtain ⟨rranged, hr6, h⟩ := bindSome h
  refine Runs.sR hE ⟨[(2, (aI rranged))], [], 432⟩ (C_50 6) [(2, ⟨[], true, (aB routside), [], 0, false, none⟩), (6, ⟨[], true, (aB routside2), [], 0, false, none⟩), (11, ⟨[], true, (aB routside3), [], 0, false, none⟩), (16, ⟨[], true, (aB routside4), [], 0, false, none⟩), (21, ⟨[], true, (aB routside5), [], 0, false, none⟩), (23, ⟨[], true, (aI rranged), [], 0, false, none⟩)] [] (kp [2]) [] 432 [0 < 1, Sound Try.prog 54 [(aI x.f_Length), (aI 1), (aI 1000000)] [] 0 (aB routside) [], (!routside) = true → AllP [(!routside) = true, 0 < 1], (!routside) = true → AllP [Sound Try.prog 54 [(aI x.f_Width), (aI 1), (aI 1000000)] [] 0 (aB routside2) [], (!routside) = true], (!routside) = true → AllP [(!routside) = true], (!(cond routside true routside2)) = true → AllP [(!(cond routside true routside2)) = true, 0 < 1], (!(cond routside true routside2)) = true → AllP [Sound Try.prog 54 [(aI x.f_Sill), (aI (-1000000)), (aI 1000000)] [] 0 (aB routside3) [], (!(cond routside true routside2)) = true], (!(cond routside true routside2)) = true → AllP [(!(cond routside true routside2)) = true], (!(cond (cond routside true routside2) true routside3)) = true → AllP [(!(cond (cond routside true routside2) true routside3)) = true, 0 < 1], (!(cond (cond routside true routside2) true routside3)) = true → AllP [Sound Try.prog 54 [(aI x.f_Floor), (aI (-1000000)), (aI 1000000)] [] 0 (aB routside4) [], (!(cond (cond routside true routside2) true routside3)) = true], (!(cond (cond routside true routside2) true routside3)) = true → AllP [(!(cond (cond routside true routside2) true routside3)) = true], (!(cond (cond (cond routside true routside2) true routside3) true routside4)) = true → AllP [(!(cond (cond (cond routside true routside2) true routside3) true routside4)) = true, 0 < 1], (!(cond (cond (cond routside true routside2) true routside3) true routside4)) = true → AllP [Sound Try.prog 54 [(aI x.f_Gap), (aI 0), (aI 1000000)] [] 0 (aB routside5) [], (!(cond (cond (cond routside true routside2) true routside3) true routside4)) = true], (!(cond (cond (cond routside true routside2) true routside3) true routside4)) = true → AllP [(!(cond (cond (cond routside true routside2) true routside3) true routside4)) = true], Sound Try.prog 53 [(aB (cond (cond (cond (cond routside true routside2) true routside3) true routside4) true routside5))] [] 0 (aI rranged) []] ⟨o1, (g_berth_outside_ok N x.f_Length 1 1000000 routside hr), (fun hg => ⟨hg, o1, trivial⟩), (fun hg => ⟨(g_berth_outside_ok N x.f_Width 1 1000000 routside2 (condT hr2 hg)), hg, trivial⟩), (fun hq => ⟨hq, trivial⟩), (fun hg => ⟨hg, o1, trivial⟩), (fun hg => ⟨(g_berth_outside_ok N x.f_Sill (-1000000) 1000000 routside3 (condT hr3 hg)), hg, trivial⟩), (fun hq => ⟨hq, trivial⟩), (fun hg => ⟨hg, o1, trivial⟩), (fun hg => ⟨(g_berth_outside_ok N x.f_Floor (-1000000) 1000000 routside4 (condT hr4 hg)), hg, trivial⟩), (fun hq => ⟨hq, trivial⟩), (fun hg => ⟨hg, o1, trivial⟩), (fun hg => ⟨(g_berth_outside_ok N x.f_Gap 0 1000000 routside5 (condT hr5 hg)), hg, trivial⟩), (fun hq => ⟨hq, trivial⟩), (g_berth_ranged_ok N (cond (cond (cond (cond routside true routside2) true routside3) true routside4) true routside5) rranged hr6), trivial⟩ ?_
  obtain rfl := Option.some.inj h
  refine Runs.sW hE ⟨[(2, (aI rranged))], [], 432⟩ [] (kp [2]) [] 432 [] trivial ?_
  exact Runs.sT Try.f52 [] [] trivial

noncomputable def C_45 (n : Nat) : Code := cat (bodyOf Try.f50) (pth n)

theorem g_berth_check_Dock_L1_ok (N : Nat) (l : List Tapi_Dock) (fuel : Nat) : ∀ (x : Int) (r : Int), g_berth_check_Dock_L1 N l fuel x = some r → ∀ E, EnvOk E 0 → Runs Try.prog E 50 40 (SPost E [] (aI r)) [.code (C_45 116), .inLoop (C_45 116), .inBlock 0, .code (C_45 15)] ⟨[(0, (encL Tapi_Dock.cells Tapi_Dock.d l)), (3, (.fn (.func 52) [] [])), (6, (.op 0 0 0)), (16, (encL Tapi_Dock.cells Tapi_Dock.d l)), (17, (aI ((l.length : Nat) : Int))), (18, (aI x))], [(0, vO 1 [(.fn (.func 51) [] [])])], 1⟩ := by
  induction fuel with
  | zero => intro _ r h; rw [g_berth_check_Dock_L1.eq_1] at h; cases h
  | succ fuel ih =>
    intro x r h E hE
    rw [g_berth_check_Dock_L1.eq_2] at h
    refine Runs.sA 1 [.code (C_45 232), .code (C_45 233), .inLoop (C_45 116), .inBlock 0, .code (C_45 15)] ?_
    refine Runs.sR hE ⟨[(0, (encL Tapi_Dock.cells Tapi_Dock.d l)), (3, (.fn (.func 52) [] [])), (6, (.op 0 0 0)), (16, (encL Tapi_Dock.cells Tapi_Dock.d l)), (17, (aI ((l.length : Nat) : Int))), (18, (aI x)), (19, (aB (decide (x < ((l.length : Nat) : Int)))))], [(0, vO 1 [(.fn (.func 51) [] [])])], 17⟩ (C_45 232) [] [] (kp [0, 3, 6, 16, 17, 18, 19]) (kq [0]) 17 [] trivial ?_
    refine Runs.sA 1 [.code (C_45 466), .code (C_45 467), .inLoop (C_45 116), .inBlock 0, .code (C_45 15)] ?_
    refine Runs.sC 19 (C_45 932) (C_45 933) (decide (x < ((l.length : Nat) : Int))) (fun hq3 => ?_) (fun hq3 => ?_)
    · have h := condT h hq3
      refine Runs.sA 4 [.code (C_45 3736), .code (C_45 3737), .inBlock 1, .code (C_45 935), .inLoop (C_45 116), .inBlock 0, .code (C_45 15)] ?_
      obtain ⟨c, h⟩ := ifSome h
      refine Runs.sR hE ⟨[(0, (encL Tapi_Dock.cells Tapi_Dock.d l)), (3, (.fn (.func 52) [] [])), (6, (.op 0 0 0)), (9, (aI x)), (10, (.op 65 0 0)), (16, (encL Tapi_Dock.cells Tapi_Dock.d l)), (17, (aI ((l.length : Nat) : Int))), (18, (aI x))], [(0, vO 1 [(.fn (.func 51) [] [])]), (65, vO 6 (Tapi_Dock.cells (l.getD ((x).toNat) Tapi_Dock.d)))], 113⟩ (C_45 3736) [] [] (kp [0, 3, 6, 9, 10, 16, 17, 18]) (kq [0, 65]) 113 [0 ≤ x ∧ x < ((l.length : Nat) : Int), 0 < 1] ⟨c, o1, trivial⟩ ?_
      refine Runs.sA 2 [.code (C_45 14948), .code (C_45 14949), .code (C_45 7475), .inBlock 1, .code (C_45 935), .inLoop (C_45 116), .inBlock 0, .code (C_45 15)] ?_
      obtain ⟨rCheckDocks1, hr, h⟩ := bindSome h
      obtain ⟨rnamed, hr2, h⟩ := bindSome h
      refine Runs.sR hE ⟨[(0, (encL Tapi_Dock.cells Tapi_Dock.d l)), (3, (.fn (.func 52) [] [])), (6, (.op 0 0 0)), (9, (aI x)), (10, (.op 65 0 0)), (16, (encL Tapi_Dock.cells Tapi_Dock.d l)), (17, (aI ((l.length : Nat) : Int))), (18, (aI x)), (27, (aB (!rnamed)))], [(0, vO 1 [(.fn (.func 51) [] [])]), (65, vO 6 (Tapi_Dock.cells (l.getD ((x).toNat) Tapi_Dock.d)))], 193⟩ (C_45 14948) [(2, ⟨[], true, (aS rCheckDocks1), [], 0, false, none⟩), (3, ⟨[], true, (aB rnamed), [], 0, false, none⟩)] [] (kp [0, 3, 6, 9, 10, 16, 17, 18, 27]) (kq [0, 65]) 193 [0 < 1, 0 < 1, Sound Try.prog 51 [(.agg (Tapi_Dock.cells (l.getD ((x).toNat) Tapi_Dock.d)))] [] 0 (aS rCheckDocks1) [], Sound Try.prog 82 [(aS rCheckDocks1)] [] 0 (aB rnamed) []] ⟨o1, o1, (g_berth_CheckDocks_1_ok N (l.getD ((x).toNat) Tapi_Dock.d) rCheckDocks1 hr), (g_berth_named_ok N rCheckDocks1 rnamed hr2), trivial⟩ ?_
      refine Runs.sC 27 (C_45 29898) (C_45 29899) (!rnamed) (fun hq4 => ?_) (fun hq4 => ?_)
      · have h := condT h hq4
        refine Runs.sA 1 [.code (C_45 59796), .code (C_45 59797), .code (C_45 7475), .inBlock 1, .code (C_45 935), .inLoop (C_45 116), .inBlock 0, .code (C_45 15)] ?_
        refine Runs.sR hE ⟨[(8, (aI 4))], [], 209⟩ (C_45 59796) [] [] (kp [8]) [] 209 [] trivial ?_
        obtain rfl := Option.some.inj h
        refine Runs.sW hE ⟨[(8, (aI 4))], [], 209⟩ [] (kp [8]) [] 209 [] trivial ?_
        exact Runs.sT Try.f50 [] [] trivial
      · have h := condF h hq4
        refine Runs.sA 3 [.code (C_45 29900), .code (C_45 29901), .code (C_45 14951), .inBlock 1, .code (C_45 935), .inLoop (C_45 116), .inBlock 0, .code (C_45 15)] ?_
        obtain ⟨c2, h⟩ := ifSome h
        obtain ⟨c3, h⟩ := ifSome h
        obtain ⟨rDock, hr3, h⟩ := bindSome h
        refine Runs.sR hE ⟨[(0, (encL Tapi_Dock.cells Tapi_Dock.d l)), (3, (.fn (.func 52) [] [])), (6, (.op 0 0 0)), (10, (.op 65 0 0)), (16, (encL Tapi_Dock.cells Tapi_Dock.d l)), (17, (aI ((l.length : Nat) : Int))), (18, (aI x)), (32, (aB rDock))], [(0, vO 1 [(.fn (.func 51) [] [])]), (65, vO 6 (Tapi_Dock.cells (l.getD ((x).toNat) Tapi_Dock.d)))], 273⟩ (C_45 29900) [(4, ⟨[0, 65], true, (aB rDock), [], 0, false, none⟩)] [] (kp [0, 3, 6, 10, 16, 17, 18, 32]) (kq [0, 65]) 273 [0 ≤ (x).toNat ∧ (x).toNat ≤ l.length, 0 ≤ x, Sound Try.prog 85 [(.sl ((x).toNat - 0) (fun zi => Tapi_Dock.cells (l.getD (addz 0 zi) Tapi_Dock.d))), (.fn (.func 86) [] [(.op 0 0 0), (.op 1 0 0)])] [(0, vO 1 [(.fn (.func 51) [] [])]), (1, vO 6 (Tapi_Dock.cells (l.getD ((x).toNat) Tapi_Dock.d)))] 2 (aB rDock) [(0, vO 1 [(.fn (.func 51) [] [])]), (1, vO 6 (Tapi_Dock.cells (l.getD ((x).toNat) Tapi_Dock.d)))]] ⟨c2, c3, (Sound.conv (g_slices_ContainsFunc_api_Dock_api_Dock_ok N ((l.take ((x).toNat)).drop 0) (l.getD ((x).toNat) Tapi_Dock.d) rDock hr3) (.cons (Alike.sl (len_ext' l 0 ((x).toNat) c2) (fun zq hzq => get_ext Tapi_Dock.cells Tapi_Dock.d l 0 ((x).toNat) zq hzq)) (.cons (Alike.refl _) .nil))), trivial⟩ ?_
        refine Runs.sC 32 (C_45 59802) (C_45 59803) rDock (fun hq5 => ?_) (fun hq5 => ?_)
        · have h := condT h hq5
          refine Runs.sA 1 [.code (C_45 119604), .code (C_45 119605), .code (C_45 14951), .inBlock 1, .code (C_45 935), .inLoop (C_45 116), .inBlock 0, .code (C_45 15)] ?_
          refine Runs.sR hE ⟨[(8, (aI 5))], [], 289⟩ (C_45 119604) [] [] (kp [8]) [] 289 [] trivial ?_
          obtain rfl := Option.some.inj h
          refine Runs.sW hE ⟨[(8, (aI 5))], [], 289⟩ [] (kp [8]) [] 289 [] trivial ?_
          exact Runs.sT Try.f50 [] [] trivial
        · have h := condF h hq5
          refine Runs.sA 2 [.code (C_45 29902), .code (C_45 29903), .inBlock 1, .code (C_45 935), .inLoop (C_45 116), .inBlock 0, .code (C_45 15)] ?_
          obtain ⟨rCheckDocks2, hr4, h⟩ := bindSome h
          refine Runs.sR hE ⟨[(0, (encL Tapi_Dock.cells Tapi_Dock.d l)), (3, (.fn (.func 52) [] [])), (6, (.op 0 0 0)), (11, (aI rCheckDocks2)), (16, (encL Tapi_Dock.cells Tapi_Dock.d l)), (17, (aI ((l.length : Nat) : Int))), (18, (aI x))], [(0, vO 1 [(.fn (.func 51) [] [])])], 337⟩ (C_45 29902) [(2, ⟨[], true, (aI rCheckDocks2), [], 0, false, none⟩)] [] (kp [0, 3, 6, 11, 16, 17, 18]) (kq [0]) 337 [0 < 1, Sound Try.prog 52 [(.agg (Tapi_Dock.cells (l.getD ((x).toNat) Tapi_Dock.d)))] [] 0 (aI rCheckDocks2) []] ⟨o1, (g_berth_CheckDocks_2_ok N (l.getD ((x).toNat) Tapi_Dock.d) rCheckDocks2 hr4), trivial⟩ ?_
          refine Runs.sA 1 [.code (C_45 59806), .code (C_45 59807), .inBlock 1, .code (C_45 935), .inLoop (C_45 116), .inBlock 0, .code (C_45 15)] ?_
          refine Runs.sR hE ⟨[(0, (encL Tapi_Dock.cells Tapi_Dock.d l)), (3, (.fn (.func 52) [] [])), (6, (.op 0 0 0)), (11, (aI rCheckDocks2)), (16, (encL Tapi_Dock.cells Tapi_Dock.d l)), (17, (aI ((l.length : Nat) : Int))), (18, (aI x)), (37, (aB (rCheckDocks2 != 0)))], [(0, vO 1 [(.fn (.func 51) [] [])])], 369⟩ (C_45 59806) [] [] (kp [0, 3, 6, 11, 16, 17, 18, 37]) (kq [0]) 369 [] trivial ?_
          refine Runs.sC 37 (C_45 119614) (C_45 119615) (rCheckDocks2 != 0) (fun hq6 => ?_) (fun hq6 => ?_)
          · have h := condT h hq6
            refine Runs.sA 1 [.code (C_45 239228), .code (C_45 239229), .inBlock 1, .code (C_45 935), .inLoop (C_45 116), .inBlock 0, .code (C_45 15)] ?_
            refine Runs.sR hE ⟨[(8, (aI rCheckDocks2))], [], 401⟩ (C_45 239228) [] [] (kp [8]) [] 401 [] trivial ?_
            obtain rfl := Option.some.inj h
            refine Runs.sW hE ⟨[(8, (aI rCheckDocks2))], [], 401⟩ [] (kp [8]) [] 401 [] trivial ?_
            exact Runs.sT Try.f50 [] [] trivial
          · have h := condF h hq6
            refine Runs.sA 2 [.code (C_45 935), .inLoop (C_45 116), .inBlock 0, .code (C_45 15)] ?_
            refine Runs.sR hE ⟨[(0, (encL Tapi_Dock.cells Tapi_Dock.d l)), (3, (.fn (.func 52) [] [])), (6, (.op 0 0 0)), (16, (encL Tapi_Dock.cells Tapi_Dock.d l)), (17, (aI ((l.length : Nat) : Int))), (18, (aI (w64 (x + 1))))], [(0, vO 1 [(.fn (.func 51) [] [])])], 401⟩ (C_45 935) [] [] (kp [0, 3, 6, 16, 17, 18]) (kq [0]) 401 [] trivial ?_
            refine Runs.sA 1 [.code (C_45 116), .inLoop (C_45 116), .inBlock 0, .code (C_45 15)] ?_
            exact Runs.sW hE _ [] (kp [0, 3, 6, 16, 17, 18]) (kq [0]) 1 [] trivial (ih (w64 (x + 1)) _ h E hE)
    · have h := condF h hq3
      refine Runs.sA 2 [.code (C_45 30), .code (C_45 31)] ?_
      refine Runs.sR hE ⟨[(8, (aI 0))], [], 33⟩ (C_45 30) [] [] (kp [8]) [] 33 [] trivial ?_
      obtain rfl := Option.some.inj h
      refine Runs.sW hE ⟨[(8, (aI 0))], [], 48⟩ [] (kp [8]) [] 48 [] trivial ?_
      exact Runs.sT Try.f50 [] [] trivial

theorem g_berth_check_Dock_ok (N : Nat) (l : List Tapi_Dock) (most : Int) (r : Int) (h : g_berth_check_Dock N l most = some r) : Sound Try.prog 50 [(encL Tapi_Dock.cells Tapi_Dock.d l), (aI most), (.fn (.func 51) [] []), (.fn (.func 52) [] [])] [] 0 (aI r) [] := by
  unfold g_berth_check_Dock at h
  refine Sound.of_runs (fu := Try.f50) (c := C_45 1) (nt := 40) (by kernel_rfl) (by kernel_rfl) (by kernel_rfl) (by kernel_rfl) (fun hm => rfl) ?_
  intro E hE
  refine Runs.sA 1 [.code (C_45 2), .code (C_45 3)] ?_
  refine Runs.sR hE ⟨[(0, (encL Tapi_Dock.cells Tapi_Dock.d l)), (1, (aI most)), (3, (.fn (.func 52) [] [])), (6, (.op 0 0 0))], [(0, vO 1 [(.fn (.func 51) [] [])])], 32⟩ (C_45 2) [] [] (kp [0, 1, 3, 6]) (kq [0]) 32 [] trivial ?_
  refine Runs.sA 2 [.code (C_45 12), .code (C_45 13), .code (C_45 7)] ?_
  refine Runs.sR hE ⟨[(0, (encL Tapi_Dock.cells Tapi_Dock.d l)), (3, (.fn (.func 52) [] [])), (6, (.op 0 0 0)), (15, (aB (decide (((l.length : Nat) : Int) > most))))], [(0, vO 1 [(.fn (.func 51) [] [])])], 96⟩ (C_45 12) [] [] (kp [0, 3, 6, 15]) (kq [0]) 96 [] trivial ?_
  refine Runs.sC 15 (C_45 26) (C_45 27) (decide (((l.length : Nat) : Int) > most)) (fun hq2 => ?_) (fun hq2 => ?_)
  · have h := condT h hq2
    refine Runs.sA 1 [.code (C_45 52), .code (C_45 53), .code (C_45 7)] ?_
    refine Runs.sR hE ⟨[(8, (aI 8))], [], 112⟩ (C_45 52) [] [] (kp [8]) [] 112 [] trivial ?_
    obtain rfl := Option.some.inj h
    refine Runs.sW hE ⟨[(8, (aI 8))], [], 112⟩ [] (kp [8]) [] 112 [] trivial ?_
    exact Runs.sT Try.f50 [] [] trivial
  · have h := condF h hq2
    refine Runs.sA 3 [.code (C_45 28), .code (C_45 29), .code (C_45 15)] ?_
    refine Runs.sR hE ⟨[(0, (encL Tapi_Dock.cells Tapi_Dock.d l)), (3, (.fn (.func 52) [] [])), (6, (.op 0 0 0)), (16, (encL Tapi_Dock.cells Tapi_Dock.d l)), (17, (aI ((l.length : Nat) : Int))), (18, (aI 0))], [(0, vO 1 [(.fn (.func 51) [] [])])], 144⟩ (C_45 28) [] [] (kp [0, 3, 6, 16, 17, 18]) (kq [0]) 144 [] trivial ?_
    refine Runs.sA 2 [.code (C_45 116), .inLoop (C_45 116), .inBlock 0, .code (C_45 15)] ?_
    exact Runs.sW hE _ [] (kp [0, 3, 6, 16, 17, 18]) (kq [0]) 1 [] trivial (g_berth_check_Dock_L1_ok N l N 0 _ h E hE)

noncomputable def C_44 (n : Nat) : Code := cat (bodyOf Try.f16) (pth n)

theorem g_berth_CheckDocks_ok (N : Nat) (d : List Tapi_Dock) (r : Int) (h : g_berth_CheckDocks N d = some r) : Sound Try.prog 16 [(encL Tapi_Dock.cells Tapi_Dock.d d)] [] 0 (aI r) [] := by
  unfold g_berth_CheckDocks at h
  refine Sound.of_runs (fu := Try.f16) (c := C_44 1) (nt := 5) (by kernel_rfl) (by kernel_rfl) (by kernel_rfl) (by kernel_rfl) (fun hm => rfl) ?_
  intro E hE
  refine Runs.sA 1 [.code (C_44 2), .code (C_44 3)] ?_
  refine Runs.sR hE ⟨[(0, (encL Tapi_Dock.cells Tapi_Dock.d d))], [], 16⟩ (C_44 2) [] [] (kp [0]) [] 16 [] trivial ?_
  refine Runs.sA 1 [.code (C_44 6), .code (C_44 7)] ?_
  obtain ⟨rDock, hr, h⟩ := bindSome h
  refine Runs.sR hE ⟨[(2, (aI rDock))], [], 64⟩ (C_44 6) [(1, ⟨[], true, (aI rDock), [], 0, false, none⟩)] [] (kp [2]) [] 64 [Sound Try.prog 50 [(encL Tapi_Dock.cells Tapi_Dock.d d), (aI 4), (.fn (.func 51) [] []), (.fn (.func 52) [] [])] [] 0 (aI rDock) []] ⟨(g_berth_check_Dock_ok N d 4 rDock hr), trivial⟩ ?_
  obtain rfl := Option.some.inj h
  refine Runs.sW hE ⟨[(2, (aI rDock))], [], 64⟩ [] (kp [2]) [] 64 [] trivial ?_
  exact Runs.sT Try.f16 [] [] trivial

noncomputable def C_53 (n : Nat) : Code := cat (bodyOf Try.f58) (pth n)

theorem g_berth_CheckCalls_1_ok (N : Nat) (x : Tapi_Call) (r : ByteArray) (h : g_berth_CheckCalls_1 N x = some r) : Sound Try.prog 58 [(.agg (Tapi_Call.cells x))] [] 0 (aS r) [] := by
  unfold g_berth_CheckCalls_1 at h
  refine Sound.of_runs (fu := Try.f58) (c := C_53 1) (nt := 5) (by kernel_rfl) (by kernel_rfl) (by kernel_rfl) (by kernel_rfl) (fun hm => rfl) ?_
  intro E hE
  refine Runs.sA 1 [.code (C_53 2), .code (C_53 3)] ?_
  refine Runs.sR hE ⟨[(1, (.op 0 0 0))], [(0, vO 9 (Tapi_Call.cells x))], 32⟩ (C_53 2) [] [] (kp [1]) (kq [0]) 32 [] trivial ?_
  refine Runs.sA 1 [.code (C_53 6), .code (C_53 7)] ?_
  refine Runs.sR hE ⟨[(2, (aS x.f_Name))], [], 80⟩ (C_53 6) [] [] (kp [2]) [] 80 [0 < 1] ⟨o1, trivial⟩ ?_
  obtain rfl := Option.some.inj h
  refine Runs.sW hE ⟨[(2, (aS x.f_Name))], [], 80⟩ [] (kp [2]) [] 80 [] trivial ?_
  exact Runs.sT Try.f58 [] [] trivial

noncomputable def C_56 (n : Nat) : Code := cat (bodyOf Try.f88) (pth n)

theorem g_berth_check_Call_1_ok (N : Nat) (y : Tapi_Call) (cap1 : Tapi_Call) (r : Bool) (h : g_berth_check_Call_1 N y cap1 = some r) : Sound Try.prog 88 [(.agg (Tapi_Call.cells y)), (.op 0 0 0), (.op 1 0 0)] [(0, vO 1 [(.fn (.func 58) [] [])]), (1, vO 9 (Tapi_Call.cells cap1))] 2 (aB r) [(0, vO 1 [(.fn (.func 58) [] [])]), (1, vO 9 (Tapi_Call.cells cap1))] := by
  unfold g_berth_check_Call_1 at h
  refine Sound.of_runs (fu := Try.f88) (c := C_56 1) (nt := 12) (by kernel_rfl) (by kernel_rfl) (by kernel_rfl) (by kernel_rfl) (fun hm => absurd hm (by decide)) ?_
  intro E hE
  refine Runs.sA 1 [.code (C_56 2), .code (C_56 3)] ?_
  refine Runs.sR hE ⟨[(1, (.op 0 0 0)), (2, (.op 1 0 0)), (3, (.op 2 0 0))], [(0, vO 1 [(.fn (.func 58) [] [])]), (1, vO 9 (Tapi_Call.cells cap1)), (2, vO 9 (Tapi_Call.cells y))], 34⟩ (C_56 2) [] [] (kp [1, 2, 3]) (kq [0, 1, 2]) 34 [] trivial ?_
  refine Runs.sA 1 [.code (C_56 6), .code (C_56 7)] ?_
  obtain ⟨rCheckCalls1, hr, h⟩ := bindSome h
  obtain ⟨rCheckCalls12, hr2, h⟩ := bindSome h
  refine Runs.sR hE ⟨[(4, (aB (streq rCheckCalls1 rCheckCalls12)))], [(0, vO 1 [(.fn (.func 58) [] [])]), (1, vO 9 (Tapi_Call.cells cap1))], 162⟩ (C_56 6) [(2, ⟨[], true, (aS rCheckCalls1), [], 0, false, none⟩), (5, ⟨[], true, (aS rCheckCalls12), [], 0, false, none⟩)] [] (kp [4]) (kq [0, 1]) 162 [0 < 1, 0 < 1, Sound Try.prog 58 [(.agg (Tapi_Call.cells y))] [] 0 (aS rCheckCalls1) [], 0 < 1, 0 < 1, Sound Try.prog 58 [(.agg (Tapi_Call.cells cap1))] [] 0 (aS rCheckCalls12) []] ⟨o1, o1, (g_berth_CheckCalls_1_ok N y rCheckCalls1 hr), o1, o1, (g_berth_CheckCalls_1_ok N cap1 rCheckCalls12 hr2), trivial⟩ ?_
  obtain rfl := Option.some.inj h
  refine Runs.sW hE ⟨[(4, (aB (streq rCheckCalls1 rCheckCalls12)))], [(0, vO 1 [(.fn (.func 58) [] [])]), (1, vO 9 (Tapi_Call.cells cap1))], 162⟩ [] (kp [4]) (kq [0, 1]) 162 [] trivial ?_
  exact Runs.sT Try.f88 [] [] trivial

noncomputable def C_55 (n : Nat) : Code := cat (bodyOf Try.f99) (pth n)

theorem g_slices_IndexFunc_api_Call_api_Call_L1_ok (N : Nat) (s : List Tapi_Call) (cap1 : Tapi_Call) (fuel : Nat) : ∀ (x : Int) (r : Int), g_slices_IndexFunc_api_Call_api_Call_L1 N s cap1 fuel x = some r → ∀ E, EnvOk E 2 → Runs Try.prog E 99 19 (SPost E [(0, vO 1 [(.fn (.func 58) [] [])]), (1, vO 9 (Tapi_Call.cells cap1))] (aI r)) [.code (C_55 52), .inLoop (C_55 52), .inBlock 0, .code (C_55 7)] ⟨[(0, (encL Tapi_Call.cells Tapi_Call.d s)), (1, (.fn (.func 88) [] [(.op 0 0 0), (.op 1 0 0)])), (7, (aI ((s.length : Nat) : Int))), (8, (aI x))], [(0, vO 1 [(.fn (.func 58) [] [])]), (1, vO 9 (Tapi_Call.cells cap1))], 2⟩ := by
  induction fuel with
  | zero => intro _ r h; rw [g_slices_IndexFunc_api_Call_api_Call_L1.eq_1] at h; cases h
  | succ fuel ih =>
    intro x r h E hE
    rw [g_slices_IndexFunc_api_Call_api_Call_L1.eq_2] at h
    refine Runs.sA 1 [.code (C_55 104), .code (C_55 105), .inLoop (C_55 52), .inBlock 0, .code (C_55 7)] ?_
    refine Runs.sR hE ⟨[(0, (encL Tapi_Call.cells Tapi_Call.d s)), (1, (.fn (.func 88) [] [(.op 0 0 0), (.op 1 0 0)])), (7, (aI ((s.length : Nat) : Int))), (8, (aI x)), (9, (aB (decide (x < ((s.length : Nat) : Int)))))], [(0, vO 1 [(.fn (.func 58) [] [])]), (1, vO 9 (Tapi_Call.cells cap1))], 18⟩ (C_55 104) [] [] (kp [0, 1, 7, 8, 9]) (kq [0, 1]) 18 [] trivial ?_
    refine Runs.sA 1 [.code (C_55 210), .code (C_55 211), .inLoop (C_55 52), .inBlock 0, .code (C_55 7)] ?_
    refine Runs.sC 9 (C_55 420) (C_55 421) (decide (x < ((s.length : Nat) : Int))) (fun hq2 => ?_) (fun hq2 => ?_)
    · have h := condT h hq2
      refine Runs.sA 4 [.code (C_55 1688), .code (C_55 1689), .inBlock 1, .code (C_55 423), .inLoop (C_55 52), .inBlock 0, .code (C_55 7)] ?_
      refine Runs.sR hE ⟨[(0, (encL Tapi_Call.cells Tapi_Call.d s)), (1, (.fn (.func 88) [] [(.op 0 0 0), (.op 1 0 0)])), (5, (aI x)), (7, (aI ((s.length : Nat) : Int))), (8, (aI x))], [(0, vO 1 [(.fn (.func 58) [] [])]), (1, vO 9 (Tapi_Call.cells cap1))], 50⟩ (C_55 1688) [] [] (kp [0, 1, 5, 7, 8]) (kq [0, 1]) 50 [] trivial ?_
      refine Runs.sA 1 [.code (C_55 3378), .code (C_55 3379), .inBlock 1, .code (C_55 423), .inLoop (C_55 52), .inBlock 0, .code (C_55 7)] ?_
      obtain ⟨c, h⟩ := ifSome h
      obtain ⟨rCall1, hr, h⟩ := bindSome h
      refine Runs.sR hE ⟨[(0, (encL Tapi_Call.cells Tapi_Call.d s)), (1, (.fn (.func 88) [] [(.op 0 0 0), (.op 1 0 0)])), (5, (aI x)), (7, (aI ((s.length : Nat) : Int))), (8, (aI x)), (16, (aB rCall1))], [(0, vO 1 [(.fn (.func 58) [] [])]), (1, vO 9 (Tapi_Call.cells cap1))], 146⟩ (C_55 3378) [(5, ⟨[0, 1], true, (aB rCall1), [], 0, false, none⟩)] [] (kp [0, 1, 5, 7, 8, 16]) (kq [0, 1]) 146 [0 ≤ x ∧ x < ((s.length : Nat) : Int), Sound Try.prog 88 [(.agg (Tapi_Call.cells (s.getD ((x).toNat) Tapi_Call.d))), (.op 0 0 0), (.op 1 0 0)] [(0, vO 1 [(.fn (.func 58) [] [])]), (1, vO 9 (Tapi_Call.cells cap1))] 2 (aB rCall1) [(0, vO 1 [(.fn (.func 58) [] [])]), (1, vO 9 (Tapi_Call.cells cap1))]] ⟨c, (g_berth_check_Call_1_ok N (s.getD ((x).toNat) Tapi_Call.d) cap1 rCall1 hr), trivial⟩ ?_
      refine Runs.sC 16 (C_55 6758) (C_55 6759) rCall1 (fun hq3 => ?_) (fun hq3 => ?_)
      · have h := condT h hq3
        refine Runs.sA 1 [.code (C_55 13516), .code (C_55 13517), .inBlock 1, .code (C_55 423), .inLoop (C_55 52), .inBlock 0, .code (C_55 7)] ?_
        refine Runs.sR hE ⟨[(4, (aI x))], [(0, vO 1 [(.fn (.func 58) [] [])]), (1, vO 9 (Tapi_Call.cells cap1))], 178⟩ (C_55 13516) [] [] (kp [4]) (kq [0, 1]) 178 [] trivial ?_
        obtain rfl := Option.some.inj h
        refine Runs.sW hE ⟨[(4, (aI x))], [(0, vO 1 [(.fn (.func 58) [] [])]), (1, vO 9 (Tapi_Call.cells cap1))], 178⟩ [] (kp [4]) (kq [0, 1]) 178 [] trivial ?_
        exact Runs.sT Try.f99 [] [] trivial
      · have h := condF h hq3
        refine Runs.sA 2 [.code (C_55 423), .inLoop (C_55 52), .inBlock 0, .code (C_55 7)] ?_
        refine Runs.sR hE ⟨[(0, (encL Tapi_Call.cells Tapi_Call.d s)), (1, (.fn (.func 88) [] [(.op 0 0 0), (.op 1 0 0)])), (7, (aI ((s.length : Nat) : Int))), (8, (aI (w64 (x + 1))))], [(0, vO 1 [(.fn (.func 58) [] [])]), (1, vO 9 (Tapi_Call.cells cap1))], 178⟩ (C_55 423) [] [] (kp [0, 1, 7, 8]) (kq [0, 1]) 178 [] trivial ?_
        refine Runs.sA 1 [.code (C_55 52), .inLoop (C_55 52), .inBlock 0, .code (C_55 7)] ?_
        exact Runs.sW hE _ [] (kp [0, 1, 7, 8]) (kq [0, 1]) 2 [] trivial (ih (w64 (x + 1)) _ h E hE)
    · have h := condF h hq2
      refine Runs.sA 2 [.code (C_55 14), .code (C_55 15)] ?_
      refine Runs.sR hE ⟨[(4, (aI (-1)))], [(0, vO 1 [(.fn (.func 58) [] [])]), (1, vO 9 (Tapi_Call.cells cap1))], 34⟩ (C_55 14) [] [] (kp [4]) (kq [0, 1]) 34 [] trivial ?_
      obtain rfl := Option.some.inj h
      refine Runs.sW hE ⟨[(4, (aI (-1)))], [(0, vO 1 [(.fn (.func 58) [] [])]), (1, vO 9 (Tapi_Call.cells cap1))], 50⟩ [] (kp [4]) (kq [0, 1]) 50 [] trivial ?_
      exact Runs.sT Try.f99 [] [] trivial

theorem g_slices_IndexFunc_api_Call_api_Call_ok (N : Nat) (s : List Tapi_Call) (cap1 : Tapi_Call) (r : Int) (h : g_slices_IndexFunc_api_Call_api_Call N s cap1 = some r) : Sound Try.prog 99 [(encL Tapi_Call.cells Tapi_Call.d s), (.fn (.func 88) [] [(.op 0 0 0), (.op 1 0 0)])] [(0, vO 1 [(.fn (.func 58) [] [])]), (1, vO 9 (Tapi_Call.cells cap1))] 2 (aI r) [(0, vO 1 [(.fn (.func 58) [] [])]), (1, vO 9 (Tapi_Call.cells cap1))] := by
  unfold g_slices_IndexFunc_api_Call_api_Call at h
  refine Sound.of_runs (fu := Try.f99) (c := C_55 1) (nt := 19) (by kernel_rfl) (by kernel_rfl) (by kernel_rfl) (by kernel_rfl) (fun hm => absurd hm (by decide)) ?_
  intro E hE
  refine Runs.sA 1 [.code (C_55 2), .code (C_55 3)] ?_
  refine Runs.sR hE ⟨[(0, (encL Tapi_Call.cells Tapi_Call.d s)), (1, (.fn (.func 88) [] [(.op 0 0 0), (.op 1 0 0)]))], [(0, vO 1 [(.fn (.func 58) [] [])]), (1, vO 9 (Tapi_Call.cells cap1))], 18⟩ (C_55 2) [] [] (kp [0, 1]) (kq [0, 1]) 18 [] trivial ?_
  refine Runs.sA 2 [.code (C_55 12), .code (C_55 13), .code (C_55 7)] ?_
  refine Runs.sR hE ⟨[(0, (encL Tapi_Call.cells Tapi_Call.d s)), (1, (.fn (.func 88) [] [(.op 0 0 0), (.op 1 0 0)])), (7, (aI ((s.length : Nat) : Int))), (8, (aI 0))], [(0, vO 1 [(.fn (.func 58) [] [])]), (1, vO 9 (Tapi_Call.cells cap1))], 66⟩ (C_55 12) [] [] (kp [0, 1, 7, 8]) (kq [0, 1]) 66 [] trivial ?_
  refine Runs.sA 2 [.code (C_55 52), .inLoop (C_55 52), .inBlock 0, .code (C_55 7)] ?_
  exact Runs.sW hE _ [] (kp [0, 1, 7, 8]) (kq [0, 1]) 2 [] trivial (g_slices_IndexFunc_api_Call_api_Call_L1_ok N s cap1 N 0 _ h E hE)

noncomputable def C_54 (n : Nat) : Code := cat (bodyOf Try.f87) (pth n)

theorem g_slices_ContainsFunc_api_Call_api_Call_ok (N : Nat) (s : List Tapi_Call) (cap1 : Tapi_Call) (r : Bool) (h : g_slices_ContainsFunc_api_Call_api_Call N s cap1 = some r) : Sound Try.prog 87 [(encL Tapi_Call.cells Tapi_Call.d s), (.fn (.func 88) [] [(.op 0 0 0), (.op 1 0 0)])] [(0, vO 1 [(.fn (.func 58) [] [])]), (1, vO 9 (Tapi_Call.cells cap1))] 2 (aB r) [(0, vO 1 [(.fn (.func 58) [] [])]), (1, vO 9 (Tapi_Call.cells cap1))] := by
  unfold g_slices_ContainsFunc_api_Call_api_Call at h
  refine Sound.of_runs (fu := Try.f87) (c := C_54 1) (nt := 9) (by kernel_rfl) (by kernel_rfl) (by kernel_rfl) (by kernel_rfl) (fun hm => absurd hm (by decide)) ?_
  intro E hE
  refine Runs.sA 1 [.code (C_54 2), .code (C_54 3)] ?_
  refine Runs.sR hE ⟨[(0, (encL Tapi_Call.cells Tapi_Call.d s)), (1, (.fn (.func 88) [] [(.op 0 0 0), (.op 1 0 0)]))], [(0, vO 1 [(.fn (.func 58) [] [])]), (1, vO 9 (Tapi_Call.cells cap1))], 18⟩ (C_54 2) [] [] (kp [0, 1]) (kq [0, 1]) 18 [] trivial ?_
  refine Runs.sA 1 [.code (C_54 6), .code (C_54 7)] ?_
  obtain ⟨rCall, hr, h⟩ := bindSome h
  refine Runs.sR hE ⟨[(4, (aB (decide (rCall ≥ 0))))], [(0, vO 1 [(.fn (.func 58) [] [])]), (1, vO 9 (Tapi_Call.cells cap1))], 98⟩ (C_54 6) [(2, ⟨[0, 1], true, (aI rCall), [], 0, false, none⟩)] [] (kp [4]) (kq [0, 1]) 98 [Sound Try.prog 99 [(encL Tapi_Call.cells Tapi_Call.d s), (.fn (.func 88) [] [(.op 0 0 0), (.op 1 0 0)])] [(0, vO 1 [(.fn (.func 58) [] [])]), (1, vO 9 (Tapi_Call.cells cap1))] 2 (aI rCall) [(0, vO 1 [(.fn (.func 58) [] [])]), (1, vO 9 (Tapi_Call.cells cap1))]] ⟨(g_slices_IndexFunc_api_Call_api_Call_ok N s cap1 rCall hr), trivial⟩ ?_
  obtain rfl := Option.some.inj h
  refine Runs.sW hE ⟨[(4, (aB (decide (rCall ≥ 0))))], [(0, vO 1 [(.fn (.func 58) [] [])]), (1, vO 9 (Tapi_Call.cells cap1))], 98⟩ [] (kp [4]) (kq [0, 1]) 98 [] trivial ?_
  exact Runs.sT Try.f87 [] [] trivial

noncomputable def C_57 (n : Nat) : Code := cat (bodyOf Try.f59) (pth n)

theorem g_berth_CheckCalls_2_ok (N : Nat) (x : Tapi_Call) (r : Int) (h : g_berth_CheckCalls_2 N x = some r) : Sound Try.prog 59 [(.agg (Tapi_Call.cells x))] [] 0 (aI r) [] := by
  unfold g_berth_CheckCalls_2 at h
  refine Sound.of_runs (fu := Try.f59) (c := C_57 1) (nt := 40) (by kernel_rfl) (by kernel_rfl) (by kernel_rfl) (by kernel_rfl) (fun hm => rfl) ?_
  intro E hE
  refine Runs.sA 1 [.code (C_57 2), .code (C_57 3)] ?_
  refine Runs.sR hE ⟨[(1, (.op 0 0 0))], [(0, vO 9 (Tapi_Call.cells x))], 32⟩ (C_57 2) [] [] (kp [1]) (kq [0]) 32 [] trivial ?_
  refine Runs.sA 2 [.code (C_57 12), .code (C_57 13), .code (C_57 7)] ?_
  obtain ⟨routside, hr, h⟩ := bindSome h
  obtain ⟨routside2, hr2, h⟩ := bindSome h
  obtain ⟨routside3, hr3, h⟩ := bindSome h
  obtain ⟨routside4, hr4, h⟩ := bindSome h
  refine Runs.sR hE ⟨[(1, (.op 0 0 0)), (20, (aB (cond (cond (cond routside true routside2) true routside3) true routside4)))], [(0, vO 9 (Tapi_Call.cells x))], 320⟩ (C_57 12) [(2, ⟨[], true, (aB routside), [], 0, false, none⟩), (6, ⟨[], true, (aB routside2), [], 0, false, none⟩), (11, ⟨[], true, (aB routside3), [], 0, false, none⟩), (16, ⟨[], true, (aB routside4), [], 0, false, none⟩)] [] (kp [1, 20]) (kq [0]) 320 [0 < 1, Sound Try.prog 54 [(aI x.f_Length), (aI 1), (aI 1000000)] [] 0 (aB routside) [], (!routside) = true → AllP [(!routside) = true, 0 < 1], (!routside) = true → AllP [Sound Try.prog 54 [(aI x.f_Beam), (aI 1), (aI 1000000)] [] 0 (aB routside2) [], (!routside) = true], (!routside) = true → AllP [(!routside) = true], (!(cond routside true routside2)) = true → AllP [(!(cond routside true routside2)) = true, 0 < 1], (!(cond routside true routside2)) = true → AllP [Sound Try.prog 54 [(aI x.f_Draught), (aI 0), (aI 1000000)] [] 0 (aB routside3) [], (!(cond routside true routside2)) = true], (!(cond routside true routside2)) = true → AllP [(!(cond routside true routside2)) = true], (!(cond (cond routside true routside2) true routside3)) = true → AllP [(!(cond (cond routside true routside2) true routside3)) = true, 0 < 1], (!(cond (cond routside true routside2) true routside3)) = true → AllP [Sound Try.prog 54 [(aI x.f_Under), (aI 0), (aI 1000000)] [] 0 (aB routside4) [], (!(cond (cond routside true routside2) true routside3)) = true], (!(cond (cond routside true routside2) true routside3)) = true → AllP [(!(cond (cond routside true routside2) true routside3)) = true]] ⟨o1, (g_berth_outside_ok N x.f_Length 1 1000000 routside hr), (fun hg => ⟨hg, o1, trivial⟩), (fun hg => ⟨(g_berth_outside_ok N x.f_Beam 1 1000000 routside2 (condT hr2 hg)), hg, trivial⟩), (fun hq => ⟨hq, trivial⟩), (fun hg => ⟨hg, o1, trivial⟩), (fun hg => ⟨(g_berth_outside_ok N x.f_Draught 0 1000000 routside3 (condT hr3 hg)), hg, trivial⟩), (fun hq => ⟨hq, trivial⟩), (fun hg => ⟨hg, o1, trivial⟩), (fun hg => ⟨(g_berth_outside_ok N x.f_Under 0 1000000 routside4 (condT hr4 hg)), hg, trivial⟩), (fun hq => ⟨hq, trivial⟩), trivial⟩ ?_
  refine Runs.sC 20 (C_57 26) (C_57 27) (cond (cond (cond routside true routside2) true routside3) true routside4) (fun hq2 => ?_) (fun hq2 => ?_)
  · have h := condT h hq2
    refine Runs.sA 1 [.code (C_57 52), .code (C_57 53), .code (C_57 7)] ?_
    refine Runs.sR hE ⟨[(2, (aI 2))], [], 336⟩ (C_57 52) [] [] (kp [2]) [] 336 [] trivial ?_
    obtain rfl := Option.some.inj h
    refine Runs.sW hE ⟨[(2, (aI 2))], [], 336⟩ [] (kp [2]) [] 336 [] trivial ?_
    exact Runs.sT Try.f59 [] [] trivial
  · have h := condF h hq2
    refine Runs.sA 2 [.code (C_57 14), .code (C_57 15)] ?_
    obtain ⟨routside5, hr5, h⟩ := bindSome h
    obtain ⟨routside6, hr6, h⟩ := bindSome h
    obtain ⟨routside7, hr7, h⟩ := bindSome h
    obtain ⟨routside8, hr8, h⟩ := bindSome h
    obtain ⟨rranged, hr9, h⟩ := bindSome h
    refine Runs.sR hE ⟨[(2, (aI rranged))], [], 640⟩ (C_57 14) [(2, ⟨[], true, (aB routside5), [], 0, false, none⟩), (6, ⟨[], true, (aB routside6), [], 0, false, none⟩), (11, ⟨[], true, (aB routside7), [], 0, false, none⟩), (16, ⟨[], true, (aB routside8), [], 0, false, none⟩), (18, ⟨[], true, (aI rranged), [], 0, false, none⟩)] [] (kp [2]) [] 640 [0 < 1, Sound Try.prog 54 [(aI x.f_Arrive), (aI 0), (aI 400)] [] 0 (aB routside5) [], (!routside5) = true → AllP [(!routside5) = true, 0 < 1], (!routside5) = true → AllP [Sound Try.prog 54 [(aI x.f_Due), (aI 0), (aI 400)] [] 0 (aB routside6) [], (!routside5) = true], (!routside5) = true → AllP [(!routside5) = true], (!(cond routside5 true routside6)) = true → AllP [(!(cond routside5 true routside6)) = true, 0 < 1], (!(cond routside5 true routside6)) = true → AllP [Sound Try.prog 54 [(aI x.f_Work), (aI 1), (aI 1000)] [] 0 (aB routside7) [], (!(cond routside5 true routside6)) = true], (!(cond routside5 true routside6)) = true → AllP [(!(cond routside5 true routside6)) = true], (!(cond (cond routside5 true routside6) true routside7)) = true → AllP [(!(cond (cond routside5 true routside6) true routside7)) = true, 0 < 1], (!(cond (cond routside5 true routside6) true routside7)) = true → AllP [Sound Try.prog 54 [(aI x.f_Late), (aI 0), (aI 1000000000)] [] 0 (aB routside8) [], (!(cond (cond routside5 true routside6) true routside7)) = true], (!(cond (cond routside5 true routside6) true routside7)) = true → AllP [(!(cond (cond routside5 true routside6) true routside7)) = true], Sound Try.prog 53 [(aB (cond (cond (cond routside5 true routside6) true routside7) true routside8))] [] 0 (aI rranged) []] ⟨o1, (g_berth_outside_ok N x.f_Arrive 0 400 routside5 hr5), (fun hg => ⟨hg, o1, trivial⟩), (fun hg => ⟨(g_berth_outside_ok N x.f_Due 0 400 routside6 (condT hr6 hg)), hg, trivial⟩), (fun hq => ⟨hq, trivial⟩), (fun hg => ⟨hg, o1, trivial⟩), (fun hg => ⟨(g_berth_outside_ok N x.f_Work 1 1000 routside7 (condT hr7 hg)), hg, trivial⟩), (fun hq => ⟨hq, trivial⟩), (fun hg => ⟨hg, o1, trivial⟩), (fun hg => ⟨(g_berth_outside_ok N x.f_Late 0 1000000000 routside8 (condT hr8 hg)), hg, trivial⟩), (fun hq => ⟨hq, trivial⟩), (g_berth_ranged_ok N (cond (cond (cond routside5 true routside6) true routside7) true routside8) rranged hr9), trivial⟩ ?_
    obtain rfl := Option.some.inj h
    refine Runs.sW hE ⟨[(2, (aI rranged))], [], 640⟩ [] (kp [2]) [] 640 [] trivial ?_
    exact Runs.sT Try.f59 [] [] trivial

noncomputable def C_52 (n : Nat) : Code := cat (bodyOf Try.f57) (pth n)

theorem g_berth_check_Call_L1_ok (N : Nat) (l : List Tapi_Call) (fuel : Nat) : ∀ (x : Int) (r : Int), g_berth_check_Call_L1 N l fuel x = some r → ∀ E, EnvOk E 0 → Runs Try.prog E 57 40 (SPost E [] (aI r)) [.code (C_52 116), .inLoop (C_52 116), .inBlock 0, .code (C_52 15)] ⟨[(0, (encL Tapi_Call.cells Tapi_Call.d l)), (3, (.fn (.func 59) [] [])), (6, (.op 0 0 0)), (16, (encL Tapi_Call.cells Tapi_Call.d l)), (17, (aI ((l.length : Nat) : Int))), (18, (aI x))], [(0, vO 1 [(.fn (.func 58) [] [])])], 1⟩ := by
  induction fuel with
  | zero => intro _ r h; rw [g_berth_check_Call_L1.eq_1] at h; cases h
  | succ fuel ih =>
    intro x r h E hE
    rw [g_berth_check_Call_L1.eq_2] at h
    refine Runs.sA 1 [.code (C_52 232), .code (C_52 233), .inLoop (C_52 116), .inBlock 0, .code (C_52 15)] ?_
    refine Runs.sR hE ⟨[(0, (encL Tapi_Call.cells Tapi_Call.d l)), (3, (.fn (.func 59) [] [])), (6, (.op 0 0 0)), (16, (encL Tapi_Call.cells Tapi_Call.d l)), (17, (aI ((l.length : Nat) : Int))), (18, (aI x)), (19, (aB (decide (x < ((l.length : Nat) : Int)))))], [(0, vO 1 [(.fn (.func 58) [] [])])], 17⟩ (C_52 232) [] [] (kp [0, 3, 6, 16, 17, 18, 19]) (kq [0]) 17 [] trivial ?_
    refine Runs.sA 1 [.code (C_52 466), .code (C_52 467), .inLoop (C_52 116), .inBlock 0, .code (C_52 15)] ?_
    refine Runs.sC 19 (C_52 932) (C_52 933) (decide (x < ((l.length : Nat) : Int))) (fun hq3 => ?_) (fun hq3 => ?_)
    · have h := condT h hq3
      refine Runs.sA 4 [.code (C_52 3736), .code (C_52 3737), .inBlock 1, .code (C_52 935), .inLoop (C_52 116), .inBlock 0, .code (C_52 15)] ?_
      obtain ⟨c, h⟩ := ifSome h
      refine Runs.sR hE ⟨[(0, (encL Tapi_Call.cells Tapi_Call.d l)), (3, (.fn (.func 59) [] [])), (6, (.op 0 0 0)), (9, (aI x)), (10, (.op 65 0 0)), (16, (encL Tapi_Call.cells Tapi_Call.d l)), (17, (aI ((l.length : Nat) : Int))), (18, (aI x))], [(0, vO 1 [(.fn (.func 58) [] [])]), (65, vO 9 (Tapi_Call.cells (l.getD ((x).toNat) Tapi_Call.d)))], 113⟩ (C_52 3736) [] [] (kp [0, 3, 6, 9, 10, 16, 17, 18]) (kq [0, 65]) 113 [0 ≤ x ∧ x < ((l.length : Nat) : Int), 0 < 1] ⟨c, o1, trivial⟩ ?_
      refine Runs.sA 2 [.code (C_52 14948), .code (C_52 14949), .code (C_52 7475), .inBlock 1, .code (C_52 935), .inLoop (C_52 116), .inBlock 0, .code (C_52 15)] ?_
      obtain ⟨rCheckCalls1, hr, h⟩ := bindSome h
      obtain ⟨rnamed, hr2, h⟩ := bindSome h
      refine Runs.sR hE ⟨[(0, (encL Tapi_Call.cells Tapi_Call.d l)), (3, (.fn (.func 59) [] [])), (6, (.op 0 0 0)), (9, (aI x)), (10, (.op 65 0 0)), (16, (encL Tapi_Call.cells Tapi_Call.d l)), (17, (aI ((l.length : Nat) : Int))), (18, (aI x)), (27, (aB (!rnamed)))], [(0, vO 1 [(.fn (.func 58) [] [])]), (65, vO 9 (Tapi_Call.cells (l.getD ((x).toNat) Tapi_Call.d)))], 193⟩ (C_52 14948) [(2, ⟨[], true, (aS rCheckCalls1), [], 0, false, none⟩), (3, ⟨[], true, (aB rnamed), [], 0, false, none⟩)] [] (kp [0, 3, 6, 9, 10, 16, 17, 18, 27]) (kq [0, 65]) 193 [0 < 1, 0 < 1, Sound Try.prog 58 [(.agg (Tapi_Call.cells (l.getD ((x).toNat) Tapi_Call.d)))] [] 0 (aS rCheckCalls1) [], Sound Try.prog 82 [(aS rCheckCalls1)] [] 0 (aB rnamed) []] ⟨o1, o1, (g_berth_CheckCalls_1_ok N (l.getD ((x).toNat) Tapi_Call.d) rCheckCalls1 hr), (g_berth_named_ok N rCheckCalls1 rnamed hr2), trivial⟩ ?_
      refine Runs.sC 27 (C_52 29898) (C_52 29899) (!rnamed) (fun hq4 => ?_) (fun hq4 => ?_)
      · have h := condT h hq4
        refine Runs.sA 1 [.code (C_52 59796), .code (C_52 59797), .code (C_52 7475), .inBlock 1, .code (C_52 935), .inLoop (C_52 116), .inBlock 0, .code (C_52 15)] ?_
        refine Runs.sR hE ⟨[(8, (aI 4))], [], 209⟩ (C_52 59796) [] [] (kp [8]) [] 209 [] trivial ?_
        obtain rfl := Option.some.inj h
        refine Runs.sW hE ⟨[(8, (aI 4))], [], 209⟩ [] (kp [8]) [] 209 [] trivial ?_
        exact Runs.sT Try.f57 [] [] trivial
      · have h := condF h hq4
        refine Runs.sA 3 [.code (C_52 29900), .code (C_52 29901), .code (C_52 14951), .inBlock 1, .code (C_52 935), .inLoop (C_52 116), .inBlock 0, .code (C_52 15)] ?_
        obtain ⟨c2, h⟩ := ifSome h
        obtain ⟨c3, h⟩ := ifSome h
        obtain ⟨rCall, hr3, h⟩ := bindSome h
        refine Runs.sR hE ⟨[(0, (encL Tapi_Call.cells Tapi_Call.d l)), (3, (.fn (.func 59) [] [])), (6, (.op 0 0 0)), (10, (.op 65 0 0)), (16, (encL Tapi_Call.cells Tapi_Call.d l)), (17, (aI ((l.length : Nat) : Int))), (18, (aI x)), (32, (aB rCall))], [(0, vO 1 [(.fn (.func 58) [] [])]), (65, vO 9 (Tapi_Call.cells (l.getD ((x).toNat) Tapi_Call.d)))], 273⟩ (C_52 29900) [(4, ⟨[0, 65], true, (aB rCall), [], 0, false, none⟩)] [] (kp [0, 3, 6, 10, 16, 17, 18, 32]) (kq [0, 65]) 273 [0 ≤ (x).toNat ∧ (x).toNat ≤ l.length, 0 ≤ x, Sound Try.prog 87 [(.sl ((x).toNat - 0) (fun zi => Tapi_Call.cells (l.getD (addz 0 zi) Tapi_Call.d))), (.fn (.func 88) [] [(.op 0 0 0), (.op 1 0 0)])] [(0, vO 1 [(.fn (.func 58) [] [])]), (1, vO 9 (Tapi_Call.cells (l.getD ((x).toNat) Tapi_Call.d)))] 2 (aB rCall) [(0, vO 1 [(.fn (.func 58) [] [])]), (1, vO 9 (Tapi_Call.cells (l.getD ((x).toNat) Tapi_Call.d)))]] ⟨c2, c3, (Sound.conv (g_slices_ContainsFunc_api_Call_api_Call_ok N ((l.take ((x).toNat)).drop 0) (l.getD ((x).toNat) Tapi_Call.d) rCall hr3) (.cons (Alike.sl (len_ext' l 0 ((x).toNat) c2) (fun zq hzq => get_ext Tapi_Call.cells Tapi_Call.d l 0 ((x).toNat) zq hzq)) (.cons (Alike.refl _) .nil))), trivial⟩ ?_
        refine Runs.sC 32 (C_52 59802) (C_52 59803) rCall (fun hq5 => ?_) (fun hq5 => ?_)
        · have h := condT h hq5
          refine Runs.sA 1 [.code (C_52 119604), .code (C_52 119605), .code (C_52 14951), .inBlock 1, .code (C_52 935), .inLoop (C_52 116), .inBlock 0, .code (C_52 15)] ?_
          refine Runs.sR hE ⟨[(8, (aI 5))], [], 289⟩ (C_52 119604) [] [] (kp [8]) [] 289 [] trivial ?_
          obtain rfl := Option.some.inj h
          refine Runs.sW hE ⟨[(8, (aI 5))], [], 289⟩ [] (kp [8]) [] 289 [] trivial ?_
          exact Runs.sT Try.f57 [] [] trivial
        · have h := condF h hq5
          refine Runs.sA 2 [.code (C_52 29902), .code (C_52 29903), .inBlock 1, .code (C_52 935), .inLoop (C_52 116), .inBlock 0, .code (C_52 15)] ?_
          obtain ⟨rCheckCalls2, hr4, h⟩ := bindSome h
          refine Runs.sR hE ⟨[(0, (encL Tapi_Call.cells Tapi_Call.d l)), (3, (.fn (.func 59) [] [])), (6, (.op 0 0 0)), (11, (aI rCheckCalls2)), (16, (encL Tapi_Call.cells Tapi_Call.d l)), (17, (aI ((l.length : Nat) : Int))), (18, (aI x))], [(0, vO 1 [(.fn (.func 58) [] [])])], 337⟩ (C_52 29902) [(2, ⟨[], true, (aI rCheckCalls2), [], 0, false, none⟩)] [] (kp [0, 3, 6, 11, 16, 17, 18]) (kq [0]) 337 [0 < 1, Sound Try.prog 59 [(.agg (Tapi_Call.cells (l.getD ((x).toNat) Tapi_Call.d)))] [] 0 (aI rCheckCalls2) []] ⟨o1, (g_berth_CheckCalls_2_ok N (l.getD ((x).toNat) Tapi_Call.d) rCheckCalls2 hr4), trivial⟩ ?_
          refine Runs.sA 1 [.code (C_52 59806), .code (C_52 59807), .inBlock 1, .code (C_52 935), .inLoop (C_52 116), .inBlock 0, .code (C_52 15)] ?_
          refine Runs.sR hE ⟨[(0, (encL Tapi_Call.cells Tapi_Call.d l)), (3, (.fn (.func 59) [] [])), (6, (.op 0 0 0)), (11, (aI rCheckCalls2)), (16, (encL Tapi_Call.cells Tapi_Call.d l)), (17, (aI ((l.length : Nat) : Int))), (18, (aI x)), (37, (aB (rCheckCalls2 != 0)))], [(0, vO 1 [(.fn (.func 58) [] [])])], 369⟩ (C_52 59806) [] [] (kp [0, 3, 6, 11, 16, 17, 18, 37]) (kq [0]) 369 [] trivial ?_
          refine Runs.sC 37 (C_52 119614) (C_52 119615) (rCheckCalls2 != 0) (fun hq6 => ?_) (fun hq6 => ?_)
          · have h := condT h hq6
            refine Runs.sA 1 [.code (C_52 239228), .code (C_52 239229), .inBlock 1, .code (C_52 935), .inLoop (C_52 116), .inBlock 0, .code (C_52 15)] ?_
            refine Runs.sR hE ⟨[(8, (aI rCheckCalls2))], [], 401⟩ (C_52 239228) [] [] (kp [8]) [] 401 [] trivial ?_
            obtain rfl := Option.some.inj h
            refine Runs.sW hE ⟨[(8, (aI rCheckCalls2))], [], 401⟩ [] (kp [8]) [] 401 [] trivial ?_
            exact Runs.sT Try.f57 [] [] trivial
          · have h := condF h hq6
            refine Runs.sA 2 [.code (C_52 935), .inLoop (C_52 116), .inBlock 0, .code (C_52 15)] ?_
            refine Runs.sR hE ⟨[(0, (encL Tapi_Call.cells Tapi_Call.d l)), (3, (.fn (.func 59) [] [])), (6, (.op 0 0 0)), (16, (encL Tapi_Call.cells Tapi_Call.d l)), (17, (aI ((l.length : Nat) : Int))), (18, (aI (w64 (x + 1))))], [(0, vO 1 [(.fn (.func 58) [] [])])], 401⟩ (C_52 935) [] [] (kp [0, 3, 6, 16, 17, 18]) (kq [0]) 401 [] trivial ?_
            refine Runs.sA 1 [.code (C_52 116), .inLoop (C_52 116), .inBlock 0, .code (C_52 15)] ?_
            exact Runs.sW hE _ [] (kp [0, 3, 6, 16, 17, 18]) (kq [0]) 1 [] trivial (ih (w64 (x + 1)) _ h E hE)
    · have h := condF h hq3
      refine Runs.sA 2 [.code (C_52 30), .code (C_52 31)] ?_
      refine Runs.sR hE ⟨[(8, (aI 0))], [], 33⟩ (C_52 30) [] [] (kp [8]) [] 33 [] trivial ?_
      obtain rfl := Option.some.inj h
      refine Runs.sW hE ⟨[(8, (aI 0))], [], 48⟩ [] (kp [8]) [] 48 [] trivial ?_
      exact Runs.sT Try.f57 [] [] trivial

theorem g_berth_check_Call_ok (N : Nat) (l : List Tapi_Call) (most : Int) (r : Int) (h : g_berth_check_Call N l most = some r) : Sound Try.prog 57 [(encL Tapi_Call.cells Tapi_Call.d l), (aI most), (.fn (.func 58) [] []), (.fn (.func 59) [] [])] [] 0 (aI r) [] := by
  unfold g_berth_check_Call at h
  refine Sound.of_runs (fu := Try.f57) (c := C_52 1) (nt := 40) (by kernel_rfl) (by kernel_rfl) (by kernel_rfl) (by kernel_rfl) (fun hm => rfl) ?_
  intro E hE
  refine Runs.sA 1 [.code (C_52 2), .code (C_52 3)] ?_
  refine Runs.sR hE ⟨[(0, (encL Tapi_Call.cells Tapi_Call.d l)), (1, (aI most)), (3, (.fn (.func 59) [] [])), (6, (.op 0 0 0))], [(0, vO 1 [(.fn (.func 58) [] [])])], 32⟩ (C_52 2) [] [] (kp [0, 1, 3, 6]) (kq [0]) 32 [] trivial ?_
  refine Runs.sA 2 [.code (C_52 12), .code (C_52 13), .code (C_52 7)] ?_
  refine Runs.sR hE ⟨[(0, (encL Tapi_Call.cells Tapi_Call.d l)), (3, (.fn (.func 59) [] [])), (6, (.op 0 0 0)), (15, (aB (decide (((l.length : Nat) : Int) > most))))], [(0, vO 1 [(.fn (.func 58) [] [])])], 96⟩ (C_52 12) [] [] (kp [0, 3, 6, 15]) (kq [0]) 96 [] trivial ?_
  refine Runs.sC 15 (C_52 26) (C_52 27) (decide (((l.length : Nat) : Int) > most)) (fun hq2 => ?_) (fun hq2 => ?_)
  · have h := condT h hq2
    refine Runs.sA 1 [.code (C_52 52), .code (C_52 53), .code (C_52 7)] ?_
    refine Runs.sR hE ⟨[(8, (aI 8))], [], 112⟩ (C_52 52) [] [] (kp [8]) [] 112 [] trivial ?_
    obtain rfl := Option.some.inj h
    refine Runs.sW hE ⟨[(8, (aI 8))], [], 112⟩ [] (kp [8]) [] 112 [] trivial ?_
    exact Runs.sT Try.f57 [] [] trivial
  · have h := condF h hq2
    refine Runs.sA 3 [.code (C_52 28), .code (C_52 29), .code (C_52 15)] ?_
    refine Runs.sR hE ⟨[(0, (encL Tapi_Call.cells Tapi_Call.d l)), (3, (.fn (.func 59) [] [])), (6, (.op 0 0 0)), (16, (encL Tapi_Call.cells Tapi_Call.d l)), (17, (aI ((l.length : Nat) : Int))), (18, (aI 0))], [(0, vO 1 [(.fn (.func 58) [] [])])], 144⟩ (C_52 28) [] [] (kp [0, 3, 6, 16, 17, 18]) (kq [0]) 144 [] trivial ?_
    refine Runs.sA 2 [.code (C_52 116), .inLoop (C_52 116), .inBlock 0, .code (C_52 15)] ?_
    exact Runs.sW hE _ [] (kp [0, 3, 6, 16, 17, 18]) (kq [0]) 1 [] trivial (g_berth_check_Call_L1_ok N l N 0 _ h E hE)

noncomputable def C_51 (n : Nat) : Code := cat (bodyOf Try.f18) (pth n)

theorem g_berth_CheckCalls_ok (N : Nat) (c : List Tapi_Call) (r : Int) (h : g_berth_CheckCalls N c = some r) : Sound Try.prog 18 [(encL Tapi_Call.cells Tapi_Call.d c)] [] 0 (aI r) [] := by
  unfold g_berth_CheckCalls at h
  refine Sound.of_runs (fu := Try.f18) (c := C_51 1) (nt := 5) (by kernel_rfl) (by kernel_rfl) (by kernel_rfl) (by kernel_rfl) (fun hm => rfl) ?_
  intro E hE
  refine Runs.sA 1 [.code (C_51 2), .code (C_51 3)] ?_
  refine Runs.sR hE ⟨[(0, (encL Tapi_Call.cells Tapi_Call.d c))], [], 16⟩ (C_51 2) [] [] (kp [0]) [] 16 [] trivial ?_
  refine Runs.sA 1 [.code (C_51 6), .code (C_51 7)] ?_
  obtain ⟨rCall, hr, h⟩ := bindSome h
  refine Runs.sR hE ⟨[(2, (aI rCall))], [], 64⟩ (C_51 6) [(1, ⟨[], true, (aI rCall), [], 0, false, none⟩)] [] (kp [2]) [] 64 [Sound Try.prog 57 [(encL Tapi_Call.cells Tapi_Call.d c), (aI 8), (.fn (.func 58) [] []), (.fn (.func 59) [] [])] [] 0 (aI rCall) []] ⟨(g_berth_check_Call_ok N c 8 rCall hr), trivial⟩ ?_
  obtain rfl := Option.some.inj h
  refine Runs.sW hE ⟨[(2, (aI rCall))], [], 64⟩ [] (kp [2]) [] 64 [] trivial ?_
  exact Runs.sT Try.f18 [] [] trivial

noncomputable def C_43 (n : Nat) : Code := cat (bodyOf Try.f60) (pth n)

theorem g_berth_both_ok (N : Nat) (d : Tapi_Dock) (c : List Tapi_Call) (r : Int) (h : g_berth_both N d c = some r) : Sound Try.prog 60 [(.agg (Tapi_Dock.cells d)), (encL Tapi_Call.cells Tapi_Call.d c)] [] 0 (aI r) [] := by
  unfold g_berth_both at h
  refine Sound.of_runs (fu := Try.f60) (c := C_43 1) (nt := 14) (by kernel_rfl) (by kernel_rfl) (by kernel_rfl) (by kernel_rfl) (fun hm => rfl) ?_
  intro E hE
  refine Runs.sA 1 [.code (C_43 2), .code (C_43 3)] ?_
  refine Runs.sR hE ⟨[(1, (encL Tapi_Call.cells Tapi_Call.d c)), (2, (.op 0 0 0))], [(0, vO 6 (Tapi_Dock.cells d))], 32⟩ (C_43 2) [] [] (kp [1, 2]) (kq [0]) 32 [] trivial ?_
  refine Runs.sA 2 [.code (C_43 12), .code (C_43 13), .code (C_43 7)] ?_
  obtain ⟨rCheckDocks, hr, h⟩ := bindSome h
  refine Runs.sR hE ⟨[(1, (encL Tapi_Call.cells Tapi_Call.d c)), (5, (aI rCheckDocks))], [], 96⟩ (C_43 12) [(2, ⟨[], true, (aI rCheckDocks), [], 0, false, none⟩)] [] (kp [1, 5]) [] 96 [0 < 1, Sound Try.prog 16 [(.sl 1 (fun zi => (fun zi => ([[(aS d.f_Name), (aI d.f_Length), (aI d.f_Width), (aI d.f_Sill), (aI d.f_Floor), (aI d.f_Gap)]] : List (List AV)).getD zi []) (addz 0 zi)))] [] 0 (aI rCheckDocks) [], 0 + 1 ≤ 1] ⟨o1, (Sound.conv (g_berth_CheckDocks_ok N ([d] : List Tapi_Dock) rCheckDocks hr) (.cons (Alike.sl rfl (fun zq hzq => get_chunk Tapi_Dock.cells Tapi_Dock.d ([d] : List Tapi_Dock) zq hzq)) .nil)), z0, trivial⟩ ?_
  refine Runs.sA 1 [.code (C_43 26), .code (C_43 27), .code (C_43 7)] ?_
  refine Runs.sR hE ⟨[(1, (encL Tapi_Call.cells Tapi_Call.d c)), (5, (aI rCheckDocks)), (10, (aB (rCheckDocks != 0)))], [], 128⟩ (C_43 26) [] [] (kp [1, 5, 10]) [] 128 [] trivial ?_
  refine Runs.sC 10 (C_43 54) (C_43 55) (rCheckDocks != 0) (fun hq2 => ?_) (fun hq2 => ?_)
  · have h := condT h hq2
    refine Runs.sA 1 [.code (C_43 108), .code (C_43 109), .code (C_43 7)] ?_
    refine Runs.sR hE ⟨[(4, (aI rCheckDocks))], [], 160⟩ (C_43 108) [] [] (kp [4]) [] 160 [] trivial ?_
    obtain rfl := Option.some.inj h
    refine Runs.sW hE ⟨[(4, (aI rCheckDocks))], [], 160⟩ [] (kp [4]) [] 160 [] trivial ?_
    exact Runs.sT Try.f60 [] [] trivial
  · have h := condF h hq2
    refine Runs.sA 2 [.code (C_43 14), .code (C_43 15)] ?_
    obtain ⟨rCheckCalls, hr2, h⟩ := bindSome h
    refine Runs.sR hE ⟨[(4, (aI rCheckCalls))], [], 176⟩ (C_43 14) [(1, ⟨[], true, (aI rCheckCalls), [], 0, false, none⟩)] [] (kp [4]) [] 176 [Sound Try.prog 18 [(encL Tapi_Call.cells Tapi_Call.d c)] [] 0 (aI rCheckCalls) []] ⟨(g_berth_CheckCalls_ok N c rCheckCalls hr2), trivial⟩ ?_
    obtain rfl := Option.some.inj h
    refine Runs.sW hE ⟨[(4, (aI rCheckCalls))], [], 176⟩ [] (kp [4]) [] 176 [] trivial ?_
    exact Runs.sT Try.f60 [] [] trivial

noncomputable def C_58 (n : Nat) : Code := cat (bodyOf Try.f61) (pth n)

theorem g_berth_fits_ok (N : Nat) (d : Tapi_Dock) (c : Tapi_Call) (r : Bool) (h : g_berth_fits N d c = some r) : Sound Try.prog 61 [(.agg (Tapi_Dock.cells d)), (.agg (Tapi_Call.cells c))] [] 0 (aB r) [] := by
  unfold g_berth_fits at h
  refine Sound.of_runs (fu := Try.f61) (c := C_58 1) (nt := 25) (by kernel_rfl) (by kernel_rfl) (by kernel_rfl) (by kernel_rfl) (fun hm => rfl) ?_
  intro E hE
  refine Runs.sA 1 [.code (C_58 2), .code (C_58 3)] ?_
  refine Runs.sR hE ⟨[(2, (.op 0 0 0)), (3, (.op 16 0 0))], [(0, vO 6 (Tapi_Dock.cells d)), (16, vO 9 (Tapi_Call.cells c))], 48⟩ (C_58 2) [] [] (kp [2, 3]) (kq [0, 16]) 48 [] trivial ?_
  refine Runs.sA 1 [.code (C_58 6), .code (C_58 7)] ?_
  refine Runs.sR hE ⟨[(4, (aB (cond (decide ((w64 (c.f_Length + (w64 (2 * d.f_Gap)))) ≤ d.f_Length)) (decide ((w64 (c.f_Beam + (w64 (2 * d.f_Gap)))) ≤ d.f_Width)) false)))], [], 384⟩ (C_58 6) [] [] (kp [4]) [] 384 [0 < 1, 0 < 1, 0 < 1, (decide ((w64 (c.f_Length + (w64 (2 * d.f_Gap)))) ≤ d.f_Length)) = true → AllP [(decide ((w64 (c.f_Length + (w64 (2 * d.f_Gap)))) ≤ d.f_Length)) = true, 0 < 1], (decide ((w64 (c.f_Length + (w64 (2 * d.f_Gap)))) ≤ d.f_Length)) = true → AllP [(decide ((w64 (c.f_Length + (w64 (2 * d.f_Gap)))) ≤ d.f_Length)) = true, 0 < 1], (decide ((w64 (c.f_Length + (w64 (2 * d.f_Gap)))) ≤ d.f_Length)) = true → AllP [(decide ((w64 (c.f_Length + (w64 (2 * d.f_Gap)))) ≤ d.f_Length)) = true], (decide ((w64 (c.f_Length + (w64 (2 * d.f_Gap)))) ≤ d.f_Length)) = true → AllP [(decide ((w64 (c.f_Length + (w64 (2 * d.f_Gap)))) ≤ d.f_Length)) = true, (decide ((w64 (c.f_Length + (w64 (2 * d.f_Gap)))) ≤ d.f_Length)) = true], (decide ((w64 (c.f_Length + (w64 (2 * d.f_Gap)))) ≤ d.f_Length)) = true → AllP [(decide ((w64 (c.f_Length + (w64 (2 * d.f_Gap)))) ≤ d.f_Length)) = true, 0 < 1], (decide ((w64 (c.f_Length + (w64 (2 * d.f_Gap)))) ≤ d.f_Length)) = true → AllP [(decide ((w64 (c.f_Length + (w64 (2 * d.f_Gap)))) ≤ d.f_Length)) = true, (decide ((w64 (c.f_Length + (w64 (2 * d.f_Gap)))) ≤ d.f_Length)) = true], (decide ((w64 (c.f_Length + (w64 (2 * d.f_Gap)))) ≤ d.f_Length)) = true → AllP [(decide ((w64 (c.f_Length + (w64 (2 * d.f_Gap)))) ≤ d.f_Length)) = true]] ⟨o1, o1, o1, (fun hg => ⟨hg, o1, trivial⟩), (fun hg => ⟨hg, o1, trivial⟩), (fun hg => ⟨hg, trivial⟩), (fun hg => ⟨hg, hg, trivial⟩), (fun hg => ⟨hg, o1, trivial⟩), (fun hg => ⟨hg, hg, trivial⟩), (fun hq => ⟨hq, trivial⟩), trivial⟩ ?_
  obtain rfl := Option.some.inj h
  refine Runs.sW hE ⟨[(4, (aB (cond (decide ((w64 (c.f_Length + (w64 (2 * d.f_Gap)))) ≤ d.f_Length)) (decide ((w64 (c.f_Beam + (w64 (2 * d.f_Gap)))) ≤ d.f_Width)) false)))], [], 384⟩ [] (kp [4]) [] 384 [] trivial ?_
  exact Runs.sT Try.f61 [] [] trivial

noncomputable def C_42 (n : Nat) : Code := cat (bodyOf Try.f20) (pth n)

theorem g_berth_Fits_ok (N : Nat) (d : Tapi_Dock) (c : Tapi_Call) (r : Bool × Int) (h : g_berth_Fits N d c = some r) : Sound Try.prog 20 [(.agg (Tapi_Dock.cells d)), (.agg (Tapi_Call.cells c))] [] 0 (.tup [(aB r.1), (aI r.2)]) [] := by
  unfold g_berth_Fits at h
  refine Sound.of_runs (fu := Try.f20) (c := C_42 1) (nt := 17) (by kernel_rfl) (by kernel_rfl) (by kernel_rfl) (by kernel_rfl) (fun hm => rfl) ?_
  intro E hE
  refine Runs.sA 1 [.code (C_42 2), .code (C_42 3)] ?_
  refine Runs.sR hE ⟨[(2, (.op 0 0 0)), (3, (.op 16 0 0))], [(0, vO 6 (Tapi_Dock.cells d)), (16, vO 9 (Tapi_Call.cells c))], 64⟩ (C_42 2) [] [] (kp [2, 3]) (kq [0, 16]) 64 [] trivial ?_
  refine Runs.sA 2 [.code (C_42 12), .code (C_42 13), .code (C_42 7)] ?_
  obtain ⟨rboth, hr, h⟩ := bindSome h
  refine Runs.sR hE ⟨[(2, (.op 0 0 0)), (3, (.op 16 0 0)), (6, (aI rboth))], [(0, vO 6 (Tapi_Dock.cells d)), (16, vO 9 (Tapi_Call.cells c))], 144⟩ (C_42 12) [(3, ⟨[], true, (aI rboth), [], 0, false, none⟩)] [] (kp [2, 3, 6]) (kq [0, 16]) 144 [0 < 1, 0 < 1, Sound Try.prog 60 [(.agg (Tapi_Dock.cells d)), (.sl 1 (fun zi => (fun zi => ([[(aS c.f_Name), (aI c.f_Length), (aI c.f_Beam), (aI c.f_Draught), (aI c.f_Under), (aI c.f_Arrive), (aI c.f_Work), (aI c.f_Due), (aI c.f_Late)]] : List (List AV)).getD zi []) (addz 0 zi)))] [] 0 (aI rboth) [], 0 + 1 ≤ 1] ⟨o1, o1, (Sound.conv (g_berth_both_ok N d ([c] : List Tapi_Call) rboth hr) (.cons (Alike.refl _) (.cons (Alike.sl rfl (fun zq hzq => get_chunk Tapi_Call.cells Tapi_Call.d ([c] : List Tapi_Call) zq hzq)) .nil))), z0, trivial⟩ ?_
  refine Runs.sA 1 [.code (C_42 26), .code (C_42 27), .code (C_42 7)] ?_
  refine Runs.sR hE ⟨[(2, (.op 0 0 0)), (3, (.op 16 0 0)), (6, (aI rboth)), (12, (aB (rboth != 0)))], [(0, vO 6 (Tapi_Dock.cells d)), (16, vO 9 (Tapi_Call.cells c))], 176⟩ (C_42 26) [] [] (kp [2, 3, 6, 12]) (kq [0, 16]) 176 [] trivial ?_
  refine Runs.sC 12 (C_42 54) (C_42 55) (rboth != 0) (fun hq2 => ?_) (fun hq2 => ?_)
  · have h := condT h hq2
    refine Runs.sA 1 [.code (C_42 108), .code (C_42 109), .code (C_42 7)] ?_
    refine Runs.sR hE ⟨[(4, (aB false)), (5, (aI rboth))], [], 224⟩ (C_42 108) [] [] (kp [4, 5]) [] 224 [] trivial ?_
    obtain rfl := Option.some.inj h
    refine Runs.sW hE ⟨[(4, (aB false)), (5, (aI rboth))], [], 224⟩ [] (kp [4, 5]) [] 224 [] trivial ?_
    exact Runs.sT Try.f20 [] [] trivial
  · have h := condF h hq2
    refine Runs.sA 2 [.code (C_42 14), .code (C_42 15)] ?_
    obtain ⟨rfits, hr2, h⟩ := bindSome h
    refine Runs.sR hE ⟨[(4, (aB rfits)), (5, (aI 0))], [], 256⟩ (C_42 14) [(2, ⟨[], true, (aB rfits), [], 0, false, none⟩)] [] (kp [4, 5]) [] 256 [0 < 1, 0 < 1, Sound Try.prog 61 [(.agg (Tapi_Dock.cells d)), (.agg (Tapi_Call.cells c))] [] 0 (aB rfits) []] ⟨o1, o1, (g_berth_fits_ok N d c rfits hr2), trivial⟩ ?_
    obtain rfl := Option.some.inj h
    refine Runs.sW hE ⟨[(4, (aB rfits)), (5, (aI 0))], [], 256⟩ [] (kp [4, 5]) [] 256 [] trivial ?_
    exact Runs.sT Try.f20 [] [] trivial

noncomputable def C_41 (n : Nat) : Code := cat (bodyOf Try.f14) (pth n)

theorem g_w06_awake_ok (N : Nat) (r : Bool) (h : g_w06_awake N = some r) : Sound Try.prog 14 [] [] 0 (aB r) [] := by
  unfold g_w06_awake at h
  refine Sound.of_runs (fu := Try.f14) (c := C_41 1) (nt := 36) (by kernel_rfl) (by kernel_rfl) (by kernel_rfl) (by kernel_rfl) (fun hm => rfl) ?_
  intro E hE
  refine Runs.sA 1 [.code (C_41 2), .code (C_41 3)] ?_
  refine Runs.sR hE ⟨[], [], 16⟩ (C_41 2) [] [] [] [] 16 [] trivial ?_
  refine Runs.sA 1 [.code (C_41 6), .code (C_41 7)] ?_
  refine Runs.sR hE ⟨[(1, (.op 32 0 0))], [(32, vO 6 [(aS (⟨#[100]⟩ : ByteArray)), (aI 200), (aI 40), (aI 0), (aI 0), (aI 2)])], 64⟩ (C_41 6) [] [] (kp [1]) (kq [32]) 64 [0 < 1] ⟨o1, trivial⟩ ?_
  refine Runs.sA 1 [.code (C_41 14), .code (C_41 15)] ?_
  refine Runs.sR hE ⟨[(1, (.op 32 0 0)), (2, (.op 80 0 0))], [(32, vO 6 [(aS (⟨#[100]⟩ : ByteArray)), (aI 200), (aI 40), (aI 0), (aI 0), (aI 2)]), (80, vO 9 [(aS (⟨#[97]⟩ : ByteArray)), (aI 100), (aI 30), (aI 0), (aI 0), (aI 0), (aI 1), (aI 0), (aI 0)])], 112⟩ (C_41 14) [] [] (kp [1, 2]) (kq [32, 80]) 112 [0 < 1] ⟨o1, trivial⟩ ?_
  refine Runs.sA 1 [.code (C_41 30), .code (C_41 31)] ?_
  refine Runs.sR hE ⟨[(1, (.op 32 0 0)), (2, (.op 80 0 0)), (3, (.op 128 0 0))], [(32, vO 6 [(aS (⟨#[100]⟩ : ByteArray)), (aI 200), (aI 40), (aI 0), (aI 0), (aI 2)]), (80, vO 9 [(aS (⟨#[97]⟩ : ByteArray)), (aI 100), (aI 30), (aI 0), (aI 0), (aI 0), (aI 1), (aI 0), (aI 0)]), (128, vO 9 [(aS (⟨#[98]⟩ : ByteArray)), (aI 197), (aI 30), (aI 0), (aI 0), (aI 0), (aI 1), (aI 0), (aI 0)])], 160⟩ (C_41 30) [] [] (kp [1, 2, 3]) (kq [32, 80, 128]) 160 [0 < 1] ⟨o1, trivial⟩ ?_
  refine Runs.sA 1 [.code (C_41 62), .code (C_41 63)] ?_
  obtain ⟨rFits, hr, h⟩ := bindSome h
  refine Runs.sR hE ⟨[(1, (.op 32 0 0)), (3, (.op 128 0 0)), (4, (aB rFits.1)), (5, (aI rFits.2))], [(32, vO 6 [(aS (⟨#[100]⟩ : ByteArray)), (aI 200), (aI 40), (aI 0), (aI 0), (aI 2)]), (128, vO 9 [(aS (⟨#[98]⟩ : ByteArray)), (aI 197), (aI 30), (aI 0), (aI 0), (aI 0), (aI 1), (aI 0), (aI 0)])], 288⟩ (C_41 62) [(2, ⟨[], true, (.tup [(aB rFits.1), (aI rFits.2)]), [], 0, false, none⟩)] [] (kp [1, 3, 4, 5]) (kq [32, 128]) 288 [0 < 1, 0 < 1, Sound Try.prog 20 [(.agg [(aS (⟨#[100]⟩ : ByteArray)), (aI 200), (aI 40), (aI 0), (aI 0), (aI 2)]), (.agg [(aS (⟨#[97]⟩ : ByteArray)), (aI 100), (aI 30), (aI 0), (aI 0), (aI 0), (aI 1), (aI 0), (aI 0)])] [] 0 (.tup [(aB rFits.1), (aI rFits.2)]) []] ⟨o1, o1, (g_berth_Fits_ok N (⟨(⟨#[100]⟩ : ByteArray), 200, 40, 0, 0, 2⟩ : Tapi_Dock) (⟨(⟨#[97]⟩ : ByteArray), 100, 30, 0, 0, 0, 1, 0, 0⟩ : Tapi_Call) rFits hr), trivial⟩ ?_
  refine Runs.sA 1 [.code (C_41 126), .code (C_41 127)] ?_
  obtain ⟨rFits2, hr2, h⟩ := bindSome h
  refine Runs.sR hE ⟨[(4, (aB rFits.1)), (5, (aI rFits.2)), (6, (aB rFits2.1)), (7, (aI rFits2.2))], [], 416⟩ (C_41 126) [(2, ⟨[], true, (.tup [(aB rFits2.1), (aI rFits2.2)]), [], 0, false, none⟩)] [] (kp [4, 5, 6, 7]) [] 416 [0 < 1, 0 < 1, Sound Try.prog 20 [(.agg [(aS (⟨#[100]⟩ : ByteArray)), (aI 200), (aI 40), (aI 0), (aI 0), (aI 2)]), (.agg [(aS (⟨#[98]⟩ : ByteArray)), (aI 197), (aI 30), (aI 0), (aI 0), (aI 0), (aI 1), (aI 0), (aI 0)])] [] 0 (.tup [(aB rFits2.1), (aI rFits2.2)]) []] ⟨o1, o1, (g_berth_Fits_ok N (⟨(⟨#[100]⟩ : ByteArray), 200, 40, 0, 0, 2⟩ : Tapi_Dock) (⟨(⟨#[98]⟩ : ByteArray), 197, 30, 0, 0, 0, 1, 0, 0⟩ : Tapi_Call) rFits2 hr2), trivial⟩ ?_
  refine Runs.sA 1 [.code (C_41 254), .code (C_41 255)] ?_
  refine Runs.sR hE ⟨[(0, (aB (cond (cond (cond (rFits.2 == 0) rFits.1 false) (rFits2.2 == 0) false) (!rFits2.1) false)))], [], 640⟩ (C_41 254) [] [] (kp [0]) [] 640 [(rFits.2 == 0) = true → AllP [(rFits.2 == 0) = true], (cond (rFits.2 == 0) rFits.1 false) = true → AllP [(cond (rFits.2 == 0) rFits.1 false) = true], (cond (rFits.2 == 0) rFits.1 false) = true → AllP [(cond (rFits.2 == 0) rFits.1 false) = true], (cond (cond (rFits.2 == 0) rFits.1 false) (rFits2.2 == 0) false) = true → AllP [(cond (cond (rFits.2 == 0) rFits.1 false) (rFits2.2 == 0) false) = true], (cond (cond (rFits.2 == 0) rFits.1 false) (rFits2.2 == 0) false) = true → AllP [(cond (cond (rFits.2 == 0) rFits.1 false) (rFits2.2 == 0) false) = true]] ⟨(fun hq => ⟨hq, trivial⟩), (fun hg => ⟨hg, trivial⟩), (fun hq => ⟨hq, trivial⟩), (fun hg => ⟨hg, trivial⟩), (fun hq => ⟨hq, trivial⟩), trivial⟩ ?_
  obtain rfl := Option.some.inj h
  refine Runs.sW hE ⟨[(0, (aB (cond (cond (cond (rFits.2 == 0) rFits.1 false) (rFits2.2 == 0) false) (!rFits2.1) false)))], [], 640⟩ [] (kp [0]) [] 640 [] trivial ?_
  exact Runs.sT Try.f14 [] [] trivial

noncomputable def C_60 (n : Nat) : Code := cat (bodyOf Try.f15) (pth n)

theorem g_w06_Names_L2_ok (N : Nat) (c : List Tapi_Call) (fuel : Nat) : ∀ (i2 : Int) (r : Bool), g_w06_Names_L2 N c fuel i2 = some r → ∀ E, EnvOk E 0 → Runs Try.prog E 15 41 (SPost E [] (aB r)) [.code (C_60 244), .inLoop (C_60 244), .inBlock 2, .code (C_60 31)] ⟨[(1, (encL Tapi_Call.cells Tapi_Call.d c)), (6, (aI i2))], [], 0⟩ := by
  induction fuel with
  | zero => intro _ r h; rw [g_w06_Names_L2.eq_1] at h; cases h
  | succ fuel ih =>
    intro i2 r h E hE
    rw [g_w06_Names_L2.eq_2] at h
    refine Runs.sA 2 [.code (C_60 976), .code (C_60 977), .code (C_60 489), .inLoop (C_60 244), .inBlock 2, .code (C_60 31)] ?_
    refine Runs.sR hE ⟨[(1, (encL Tapi_Call.cells Tapi_Call.d c)), (6, (aI i2)), (31, (aB (decide (i2 < ((c.length : Nat) : Int)))))], [], 64⟩ (C_60 976) [] [] (kp [1, 6, 31]) [] 64 [] trivial ?_
    refine Runs.sC 31 (C_60 1954) (C_60 1955) (decide (i2 < ((c.length : Nat) : Int))) (fun hq5 => ?_) (fun hq5 => ?_)
    · have h := condT h hq5
      refine Runs.sA 4 [.code (C_60 3912), .code (C_60 3913), .inBlock 3, .code (C_60 979), .inLoop (C_60 244), .inBlock 2, .code (C_60 31)] ?_
      obtain ⟨c3, h⟩ := ifSome h
      refine Runs.sR hE ⟨[(1, (encL Tapi_Call.cells Tapi_Call.d c)), (6, (aI i2)), (40, (aB (decide (((((c.getD ((i2).toNat) Tapi_Call.d).f_Name).size : Nat) : Int) > 40))))], [], 176⟩ (C_60 3912) [] [] (kp [1, 6, 40]) [] 176 [0 ≤ i2 ∧ i2 < ((c.length : Nat) : Int)] ⟨c3, trivial⟩ ?_
      refine Runs.sC 40 (C_60 7826) (C_60 7827) (decide (((((c.getD ((i2).toNat) Tapi_Call.d).f_Name).size : Nat) : Int) > 40)) (fun hq6 => ?_) (fun hq6 => ?_)
      · have h := condT h hq6
        refine Runs.sA 1 [.code (C_60 15652), .code (C_60 15653), .inBlock 3, .code (C_60 979), .inLoop (C_60 244), .inBlock 2, .code (C_60 31)] ?_
        refine Runs.sR hE ⟨[(4, (aB false))], [], 192⟩ (C_60 15652) [] [] (kp [4]) [] 192 [] trivial ?_
        obtain rfl := Option.some.inj h
        refine Runs.sW hE ⟨[(4, (aB false))], [], 192⟩ [] (kp [4]) [] 192 [] trivial ?_
        exact Runs.sT Try.f15 [] [] trivial
      · have h := condF h hq6
        refine Runs.sA 2 [.code (C_60 979), .inLoop (C_60 244), .inBlock 2, .code (C_60 31)] ?_
        refine Runs.sR hE ⟨[(1, (encL Tapi_Call.cells Tapi_Call.d c)), (6, (aI (w64 (i2 + 1))))], [], 224⟩ (C_60 979) [] [] (kp [1, 6]) [] 224 [] trivial ?_
        refine Runs.sA 1 [.code (C_60 244), .inLoop (C_60 244), .inBlock 2, .code (C_60 31)] ?_
        exact Runs.sW hE _ [] (kp [1, 6]) [] 0 [] trivial (ih (w64 (i2 + 1)) _ h E hE)
    · have h := condF h hq5
      refine Runs.sA 2 [.code (C_60 62), .code (C_60 63)] ?_
      refine Runs.sR hE ⟨[(4, (aB true))], [], 80⟩ (C_60 62) [] [] (kp [4]) [] 80 [] trivial ?_
      obtain rfl := Option.some.inj h
      refine Runs.sW hE ⟨[(4, (aB true))], [], 80⟩ [] (kp [4]) [] 80 [] trivial ?_
      exact Runs.sT Try.f15 [] [] trivial

theorem g_w06_Names_L1_ok (N : Nat) (d : List Tapi_Dock) (c : List Tapi_Call) (fuel : Nat) : ∀ (i : Int) (r : Bool), g_w06_Names_L1 N d c fuel i = some r → ∀ E, EnvOk E 0 → Runs Try.prog E 15 41 (SPost E [] (aB r)) [.code (C_60 116), .inLoop (C_60 116), .inBlock 0, .code (C_60 15)] ⟨[(0, (encL Tapi_Dock.cells Tapi_Dock.d d)), (1, (encL Tapi_Call.cells Tapi_Call.d c)), (5, (aI i))], [], 0⟩ := by
  induction fuel with
  | zero => intro _ r h; rw [g_w06_Names_L1.eq_1] at h; cases h
  | succ fuel ih =>
    intro i r h E hE
    rw [g_w06_Names_L1.eq_2] at h
    refine Runs.sA 2 [.code (C_60 464), .code (C_60 465), .code (C_60 233), .inLoop (C_60 116), .inBlock 0, .code (C_60 15)] ?_
    refine Runs.sR hE ⟨[(0, (encL Tapi_Dock.cells Tapi_Dock.d d)), (1, (encL Tapi_Call.cells Tapi_Call.d c)), (5, (aI i)), (18, (aB (decide (i < ((d.length : Nat) : Int)))))], [], 64⟩ (C_60 464) [] [] (kp [0, 1, 5, 18]) [] 64 [] trivial ?_
    refine Runs.sC 18 (C_60 930) (C_60 931) (decide (i < ((d.length : Nat) : Int))) (fun hq3 => ?_) (fun hq3 => ?_)
    · have h := condT h hq3
      refine Runs.sA 4 [.code (C_60 1864), .code (C_60 1865), .inBlock 1, .code (C_60 467), .inLoop (C_60 116), .inBlock 0, .code (C_60 15)] ?_
      obtain ⟨c2, h⟩ := ifSome h
      refine Runs.sR hE ⟨[(0, (encL Tapi_Dock.cells Tapi_Dock.d d)), (1, (encL Tapi_Call.cells Tapi_Call.d c)), (5, (aI i)), (27, (aB (decide (((((d.getD ((i).toNat) Tapi_Dock.d).f_Name).size : Nat) : Int) > 40))))], [], 176⟩ (C_60 1864) [] [] (kp [0, 1, 5, 27]) [] 176 [0 ≤ i ∧ i < ((d.length : Nat) : Int)] ⟨c2, trivial⟩ ?_
      refine Runs.sC 27 (C_60 3730) (C_60 3731) (decide (((((d.getD ((i).toNat) Tapi_Dock.d).f_Name).size : Nat) : Int) > 40)) (fun hq4 => ?_) (fun hq4 => ?_)
      · have h := condT h hq4
        refine Runs.sA 1 [.code (C_60 7460), .code (C_60 7461), .inBlock 1, .code (C_60 467), .inLoop (C_60 116), .inBlock 0, .code (C_60 15)] ?_
        refine Runs.sR hE ⟨[(4, (aB false))], [], 192⟩ (C_60 7460) [] [] (kp [4]) [] 192 [] trivial ?_
        obtain rfl := Option.some.inj h
        refine Runs.sW hE ⟨[(4, (aB false))], [], 192⟩ [] (kp [4]) [] 192 [] trivial ?_
        exact Runs.sT Try.f15 [] [] trivial
      · have h := condF h hq4
        refine Runs.sA 2 [.code (C_60 467), .inLoop (C_60 116), .inBlock 0, .code (C_60 15)] ?_
        refine Runs.sR hE ⟨[(0, (encL Tapi_Dock.cells Tapi_Dock.d d)), (1, (encL Tapi_Call.cells Tapi_Call.d c)), (5, (aI (w64 (i + 1))))], [], 224⟩ (C_60 467) [] [] (kp [0, 1, 5]) [] 224 [] trivial ?_
        refine Runs.sA 1 [.code (C_60 116), .inLoop (C_60 116), .inBlock 0, .code (C_60 15)] ?_
        exact Runs.sW hE _ [] (kp [0, 1, 5]) [] 0 [] trivial (ih (w64 (i + 1)) _ h E hE)
    · have h := condF h hq3
      refine Runs.sA 3 [.code (C_60 60), .code (C_60 61), .code (C_60 31)] ?_
      refine Runs.sR hE ⟨[(1, (encL Tapi_Call.cells Tapi_Call.d c)), (6, (aI 0))], [], 80⟩ (C_60 60) [] [] (kp [1, 6]) [] 80 [] trivial ?_
      refine Runs.sA 2 [.code (C_60 244), .inLoop (C_60 244), .inBlock 2, .code (C_60 31)] ?_
      exact Runs.sW hE _ [] (kp [1, 6]) [] 0 [] trivial (g_w06_Names_L2_ok N c N 0 _ h E hE)

theorem g_w06_Names_ok (N : Nat) (d : List Tapi_Dock) (c : List Tapi_Call) (r : Bool) (h : g_w06_Names N d c = some r) : Sound Try.prog 15 [(encL Tapi_Dock.cells Tapi_Dock.d d), (encL Tapi_Call.cells Tapi_Call.d c)] [] 0 (aB r) [] := by
  unfold g_w06_Names at h
  refine Sound.of_runs (fu := Try.f15) (c := C_60 1) (nt := 41) (by kernel_rfl) (by kernel_rfl) (by kernel_rfl) (by kernel_rfl) (fun hm => rfl) ?_
  intro E hE
  refine Runs.sA 1 [.code (C_60 2), .code (C_60 3)] ?_
  refine Runs.sR hE ⟨[(0, (encL Tapi_Dock.cells Tapi_Dock.d d)), (1, (encL Tapi_Call.cells Tapi_Call.d c))], [], 16⟩ (C_60 2) [] [] (kp [0, 1]) [] 16 [] trivial ?_
  refine Runs.sA 2 [.code (C_60 12), .code (C_60 13), .code (C_60 7)] ?_
  refine Runs.sR hE ⟨[(0, (encL Tapi_Dock.cells Tapi_Dock.d d)), (1, (encL Tapi_Call.cells Tapi_Call.d c)), (14, (aB (cond (decide (((d.length : Nat) : Int) > 6)) true (decide (((c.length : Nat) : Int) > 10)))))], [], 144⟩ (C_60 12) [] [] (kp [0, 1, 14]) [] 144 [(!(decide (((d.length : Nat) : Int) > 6))) = true → AllP [(!(decide (((d.length : Nat) : Int) > 6))) = true], (!(decide (((d.length : Nat) : Int) > 6))) = true → AllP [(!(decide (((d.length : Nat) : Int) > 6))) = true], (!(decide (((d.length : Nat) : Int) > 6))) = true → AllP [(!(decide (((d.length : Nat) : Int) > 6))) = true]] ⟨(fun hg => ⟨hg, trivial⟩), (fun hg => ⟨hg, trivial⟩), (fun hq => ⟨hq, trivial⟩), trivial⟩ ?_
  refine Runs.sC 14 (C_60 26) (C_60 27) (cond (decide (((d.length : Nat) : Int) > 6)) true (decide (((c.length : Nat) : Int) > 10))) (fun hq2 => ?_) (fun hq2 => ?_)
  · have h := condT h hq2
    refine Runs.sA 1 [.code (C_60 52), .code (C_60 53), .code (C_60 7)] ?_
    refine Runs.sR hE ⟨[(4, (aB false))], [], 160⟩ (C_60 52) [] [] (kp [4]) [] 160 [] trivial ?_
    obtain rfl := Option.some.inj h
    refine Runs.sW hE ⟨[(4, (aB false))], [], 160⟩ [] (kp [4]) [] 160 [] trivial ?_
    exact Runs.sT Try.f15 [] [] trivial
  · have h := condF h hq2
    refine Runs.sA 3 [.code (C_60 28), .code (C_60 29), .code (C_60 15)] ?_
    refine Runs.sR hE ⟨[(0, (encL Tapi_Dock.cells Tapi_Dock.d d)), (1, (encL Tapi_Call.cells Tapi_Call.d c)), (5, (aI 0))], [], 160⟩ (C_60 28) [] [] (kp [0, 1, 5]) [] 160 [] trivial ?_
    refine Runs.sA 2 [.code (C_60 116), .inLoop (C_60 116), .inBlock 0, .code (C_60 15)] ?_
    exact Runs.sW hE _ [] (kp [0, 1, 5]) [] 0 [] trivial (g_w06_Names_L1_ok N d c N 0 _ h E hE)

noncomputable def C_59 (n : Nat) : Code := cat (bodyOf Try.f36) (pth n)

theorem g_w06_Plan_short_L1_ok (N : Nat) (p : Tkeelblocklaw06_Plan) (fuel : Nat) : ∀ (i : Int) (r : Bool), g_w06_Plan_short_L1 N p fuel i = some r → ∀ E, EnvOk E 0 → Runs Try.prog E 36 32 (SPost E [] (aB r)) [.code (C_59 116), .inLoop (C_59 116), .inBlock 0, .code (C_59 15)] ⟨[(1, (.op 0 0 0)), (3, (aI i))], [(0, vO 8 (Tkeelblocklaw06_Plan.cells p))], 1⟩ := by
  induction fuel with
  | zero => intro _ r h; rw [g_w06_Plan_short_L1.eq_1] at h; cases h
  | succ fuel ih =>
    intro i r h E hE
    rw [g_w06_Plan_short_L1.eq_2] at h
    refine Runs.sA 2 [.code (C_59 464), .code (C_59 465), .code (C_59 233), .inLoop (C_59 116), .inBlock 0, .code (C_59 15)] ?_
    refine Runs.sR hE ⟨[(1, (.op 0 0 0)), (3, (aI i)), (21, (aB (decide (i < ((p.f_Spots.length : Nat) : Int)))))], [(0, vO 8 (Tkeelblocklaw06_Plan.cells p))], 81⟩ (C_59 464) [] [] (kp [1, 3, 21]) (kq [0]) 81 [0 < 1] ⟨o1, trivial⟩ ?_
    refine Runs.sC 21 (C_59 930) (C_59 931) (decide (i < ((p.f_Spots.length : Nat) : Int))) (fun hq3 => ?_) (fun hq3 => ?_)
    · have h := condT h hq3
      refine Runs.sA 4 [.code (C_59 1864), .code (C_59 1865), .inBlock 1, .code (C_59 467), .inLoop (C_59 116), .inBlock 0, .code (C_59 15)] ?_
      obtain ⟨c, h⟩ := ifSome h
      refine Runs.sR hE ⟨[(1, (.op 0 0 0)), (3, (aI i)), (31, (aB (decide (((((p.f_Spots.getD ((i).toNat) Tapi_Spot.d).f_Call).size : Nat) : Int) > 40))))], [(0, vO 8 (Tkeelblocklaw06_Plan.cells p))], 209⟩ (C_59 1864) [] [] (kp [1, 3, 31]) (kq [0]) 209 [0 < 1, 0 ≤ i ∧ i < ((p.f_Spots.length : Nat) : Int)] ⟨o1, c, trivial⟩ ?_
      refine Runs.sC 31 (C_59 3730) (C_59 3731) (decide (((((p.f_Spots.getD ((i).toNat) Tapi_Spot.d).f_Call).size : Nat) : Int) > 40)) (fun hq4 => ?_) (fun hq4 => ?_)
      · have h := condT h hq4
        refine Runs.sA 1 [.code (C_59 7460), .code (C_59 7461), .inBlock 1, .code (C_59 467), .inLoop (C_59 116), .inBlock 0, .code (C_59 15)] ?_
        refine Runs.sR hE ⟨[(2, (aB false))], [], 225⟩ (C_59 7460) [] [] (kp [2]) [] 225 [] trivial ?_
        obtain rfl := Option.some.inj h
        refine Runs.sW hE ⟨[(2, (aB false))], [], 225⟩ [] (kp [2]) [] 225 [] trivial ?_
        exact Runs.sT Try.f36 [] [] trivial
      · have h := condF h hq4
        refine Runs.sA 2 [.code (C_59 467), .inLoop (C_59 116), .inBlock 0, .code (C_59 15)] ?_
        refine Runs.sR hE ⟨[(1, (.op 0 0 0)), (3, (aI (w64 (i + 1))))], [(0, vO 8 (Tkeelblocklaw06_Plan.cells p))], 257⟩ (C_59 467) [] [] (kp [1, 3]) (kq [0]) 257 [] trivial ?_
        refine Runs.sA 1 [.code (C_59 116), .inLoop (C_59 116), .inBlock 0, .code (C_59 15)] ?_
        exact Runs.sW hE _ [] (kp [1, 3]) (kq [0]) 1 [] trivial (ih (w64 (i + 1)) _ h E hE)
    · have h := condF h hq3
      refine Runs.sA 2 [.code (C_59 30), .code (C_59 31)] ?_
      refine Runs.sR hE ⟨[(2, (aB true))], [], 97⟩ (C_59 30) [] [] (kp [2]) [] 97 [] trivial ?_
      obtain rfl := Option.some.inj h
      refine Runs.sW hE ⟨[(2, (aB true))], [], 97⟩ [] (kp [2]) [] 97 [] trivial ?_
      exact Runs.sT Try.f36 [] [] trivial

theorem g_w06_Plan_short_ok (N : Nat) (p : Tkeelblocklaw06_Plan) (r : Bool) (h : g_w06_Plan_short N p = some r) : Sound Try.prog 36 [(.agg (Tkeelblocklaw06_Plan.cells p))] [] 0 (aB r) [] := by
  unfold g_w06_Plan_short at h
  refine Sound.of_runs (fu := Try.f36) (c := C_59 1) (nt := 32) (by kernel_rfl) (by kernel_rfl) (by kernel_rfl) (by kernel_rfl) (fun hm => rfl) ?_
  intro E hE
  refine Runs.sA 1 [.code (C_59 2), .code (C_59 3)] ?_
  refine Runs.sR hE ⟨[(1, (.op 0 0 0))], [(0, vO 8 (Tkeelblocklaw06_Plan.cells p))], 32⟩ (C_59 2) [] [] (kp [1]) (kq [0]) 32 [] trivial ?_
  refine Runs.sA 2 [.code (C_59 12), .code (C_59 13), .code (C_59 7)] ?_
  obtain ⟨rNames, hr, h⟩ := bindSome h
  refine Runs.sR hE ⟨[(1, (.op 0 0 0)), (16, (aB (cond (!rNames) true (decide (((p.f_Spots.length : Nat) : Int) > 12)))))], [(0, vO 8 (Tkeelblocklaw06_Plan.cells p))], 240⟩ (C_59 12) [(5, ⟨[], true, (aB rNames), [], 0, false, none⟩)] [] (kp [1, 16]) (kq [0]) 240 [0 < 1, 0 < 1, Sound Try.prog 15 [(.sl 1 (fun zi => (fun zi => ([[(aS p.f_Dock.f_Name), (aI p.f_Dock.f_Length), (aI p.f_Dock.f_Width), (aI p.f_Dock.f_Sill), (aI p.f_Dock.f_Floor), (aI p.f_Dock.f_Gap)]] : List (List AV)).getD zi []) (addz 0 zi))), (encL Tapi_Call.cells Tapi_Call.d p.f_Calls)] [] 0 (aB rNames) [], 0 + 1 ≤ 1, (!(!rNames)) = true → AllP [(!(!rNames)) = true, 0 < 1], (!(!rNames)) = true → AllP [(!(!rNames)) = true], (!(!rNames)) = true → AllP [(!(!rNames)) = true], (!(!rNames)) = true → AllP [(!(!rNames)) = true]] ⟨o1, o1, (Sound.conv (g_w06_Names_ok N ([p.f_Dock] : List Tapi_Dock) p.f_Calls rNames hr) (.cons (Alike.sl rfl (fun zq hzq => get_chunk Tapi_Dock.cells Tapi_Dock.d ([p.f_Dock] : List Tapi_Dock) zq hzq)) (.cons (Alike.refl _) .nil))), z0, (fun hg => ⟨hg, o1, trivial⟩), (fun hg => ⟨hg, trivial⟩), (fun hg => ⟨hg, trivial⟩), (fun hq => ⟨hq, trivial⟩), trivial⟩ ?_
  refine Runs.sC 16 (C_59 26) (C_59 27) (cond (!rNames) true (decide (((p.f_Spots.length : Nat) : Int) > 12))) (fun hq2 => ?_) (fun hq2 => ?_)
  · have h := condT h hq2
    refine Runs.sA 1 [.code (C_59 52), .code (C_59 53), .code (C_59 7)] ?_
    refine Runs.sR hE ⟨[(2, (aB false))], [], 256⟩ (C_59 52) [] [] (kp [2]) [] 256 [] trivial ?_
    obtain rfl := Option.some.inj h
    refine Runs.sW hE ⟨[(2, (aB false))], [], 256⟩ [] (kp [2]) [] 256 [] trivial ?_
    exact Runs.sT Try.f36 [] [] trivial
  · have h := condF h hq2
    refine Runs.sA 3 [.code (C_59 28), .code (C_59 29), .code (C_59 15)] ?_
    refine Runs.sR hE ⟨[(1, (.op 0 0 0)), (3, (aI 0))], [(0, vO 8 (Tkeelblocklaw06_Plan.cells p))], 256⟩ (C_59 28) [] [] (kp [1, 3]) (kq [0]) 256 [] trivial ?_
    refine Runs.sA 2 [.code (C_59 116), .inLoop (C_59 116), .inBlock 0, .code (C_59 15)] ?_
    exact Runs.sW hE _ [] (kp [1, 3]) (kq [0]) 1 [] trivial (g_w06_Plan_short_L1_ok N p N 0 _ h E hE)

noncomputable def C_64 (n : Nat) : Code := cat (bodyOf Try.f55) (pth n)

theorem g_r06_DockOf_L1_ok (N : Nat) (d : List Tapi_Dock) (name : ByteArray) (fuel : Nat) : ∀ (i : Int) (r : Int), g_r06_DockOf_L1 N d name fuel i = some r → ∀ E, EnvOk E 0 → Runs Try.prog E 55 20 (SPost E [] (aI r)) [.code (C_64 52), .inLoop (C_64 52), .inBlock 0, .code (C_64 7)] ⟨[(0, (encL Tapi_Dock.cells Tapi_Dock.d d)), (1, (aS name)), (5, (aI i))], [], 0⟩ := by
  induction fuel with
  | zero => intro _ r h; rw [g_r06_DockOf_L1.eq_1] at h; cases h
  | succ fuel ih =>
    intro i r h E hE
    rw [g_r06_DockOf_L1.eq_2] at h
    refine Runs.sA 2 [.code (C_64 208), .code (C_64 209), .code (C_64 105), .inLoop (C_64 52), .inBlock 0, .code (C_64 7)] ?_
    refine Runs.sR hE ⟨[(0, (encL Tapi_Dock.cells Tapi_Dock.d d)), (1, (aS name)), (5, (aI i)), (9, (aB (decide (i < ((d.length : Nat) : Int)))))], [], 64⟩ (C_64 208) [] [] (kp [0, 1, 5, 9]) [] 64 [] trivial ?_
    refine Runs.sC 9 (C_64 418) (C_64 419) (decide (i < ((d.length : Nat) : Int))) (fun hq2 => ?_) (fun hq2 => ?_)
    · have h := condT h hq2
      refine Runs.sA 4 [.code (C_64 840), .code (C_64 841), .inBlock 1, .code (C_64 211), .inLoop (C_64 52), .inBlock 0, .code (C_64 7)] ?_
      obtain ⟨c, h⟩ := ifSome h
      refine Runs.sR hE ⟨[(0, (encL Tapi_Dock.cells Tapi_Dock.d d)), (1, (aS name)), (5, (aI i)), (18, (aB (streq ((d.getD ((i).toNat) Tapi_Dock.d).f_Name) name)))], [], 176⟩ (C_64 840) [] [] (kp [0, 1, 5, 18]) [] 176 [0 ≤ i ∧ i < ((d.length : Nat) : Int)] ⟨c, trivial⟩ ?_
      refine Runs.sC 18 (C_64 1682) (C_64 1683) (streq ((d.getD ((i).toNat) Tapi_Dock.d).f_Name) name) (fun hq3 => ?_) (fun hq3 => ?_)
      · have h := condT h hq3
        refine Runs.sA 1 [.code (C_64 3364), .code (C_64 3365), .inBlock 1, .code (C_64 211), .inLoop (C_64 52), .inBlock 0, .code (C_64 7)] ?_
        refine Runs.sR hE ⟨[(4, (aI i))], [], 208⟩ (C_64 3364) [] [] (kp [4]) [] 208 [] trivial ?_
        obtain rfl := Option.some.inj h
        refine Runs.sW hE ⟨[(4, (aI i))], [], 208⟩ [] (kp [4]) [] 208 [] trivial ?_
        exact Runs.sT Try.f55 [] [] trivial
      · have h := condF h hq3
        refine Runs.sA 2 [.code (C_64 211), .inLoop (C_64 52), .inBlock 0, .code (C_64 7)] ?_
        refine Runs.sR hE ⟨[(0, (encL Tapi_Dock.cells Tapi_Dock.d d)), (1, (aS name)), (5, (aI (w64 (i + 1))))], [], 224⟩ (C_64 211) [] [] (kp [0, 1, 5]) [] 224 [] trivial ?_
        refine Runs.sA 1 [.code (C_64 52), .inLoop (C_64 52), .inBlock 0, .code (C_64 7)] ?_
        exact Runs.sW hE _ [] (kp [0, 1, 5]) [] 0 [] trivial (ih (w64 (i + 1)) _ h E hE)
    · have h := condF h hq2
      refine Runs.sA 2 [.code (C_64 14), .code (C_64 15)] ?_
      refine Runs.sR hE ⟨[(4, (aI (-1)))], [], 80⟩ (C_64 14) [] [] (kp [4]) [] 80 [] trivial ?_
      obtain rfl := Option.some.inj h
      refine Runs.sW hE ⟨[(4, (aI (-1)))], [], 80⟩ [] (kp [4]) [] 80 [] trivial ?_
      exact Runs.sT Try.f55 [] [] trivial

theorem g_r06_DockOf_ok (N : Nat) (d : List Tapi_Dock) (name : ByteArray) (r : Int) (h : g_r06_DockOf N d name = some r) : Sound Try.prog 55 [(encL Tapi_Dock.cells Tapi_Dock.d d), (aS name)] [] 0 (aI r) [] := by
  unfold g_r06_DockOf at h
  refine Sound.of_runs (fu := Try.f55) (c := C_64 1) (nt := 20) (by kernel_rfl) (by kernel_rfl) (by kernel_rfl) (by kernel_rfl) (fun hm => rfl) ?_
  intro E hE
  refine Runs.sA 1 [.code (C_64 2), .code (C_64 3)] ?_
  refine Runs.sR hE ⟨[(0, (encL Tapi_Dock.cells Tapi_Dock.d d)), (1, (aS name))], [], 16⟩ (C_64 2) [] [] (kp [0, 1]) [] 16 [] trivial ?_
  refine Runs.sA 2 [.code (C_64 12), .code (C_64 13), .code (C_64 7)] ?_
  refine Runs.sR hE ⟨[(0, (encL Tapi_Dock.cells Tapi_Dock.d d)), (1, (aS name)), (5, (aI 0))], [], 32⟩ (C_64 12) [] [] (kp [0, 1, 5]) [] 32 [] trivial ?_
  refine Runs.sA 2 [.code (C_64 52), .inLoop (C_64 52), .inBlock 0, .code (C_64 7)] ?_
  exact Runs.sW hE _ [] (kp [0, 1, 5]) [] 0 [] trivial (g_r06_DockOf_L1_ok N d name N 0 _ h E hE)

noncomputable def C_63 (n : Nat) : Code := cat (bodyOf Try.f17) (pth n)

theorem g_r06_CheckDocks_L1_ok (N : Nat) (d : List Tapi_Dock) (fuel : Nat) : ∀ (i : Int) (r : Int), g_r06_CheckDocks_L1 N d fuel i = some r → ∀ E, EnvOk E 0 → Runs Try.prog E 17 72 (SPost E [] (aI r)) [.code (C_63 116), .inLoop (C_63 116), .inBlock 0, .code (C_63 15)] ⟨[(0, (encL Tapi_Dock.cells Tapi_Dock.d d)), (3, (aI i))], [], 0⟩ := by
  induction fuel with
  | zero => intro _ r h; rw [g_r06_CheckDocks_L1.eq_1] at h; cases h
  | succ fuel ih =>
    intro i r h E hE
    rw [g_r06_CheckDocks_L1.eq_2] at h
    refine Runs.sA 2 [.code (C_63 464), .code (C_63 465), .code (C_63 233), .inLoop (C_63 116), .inBlock 0, .code (C_63 15)] ?_
    refine Runs.sR hE ⟨[(0, (encL Tapi_Dock.cells Tapi_Dock.d d)), (3, (aI i)), (10, (aB (decide (i < ((d.length : Nat) : Int)))))], [], 64⟩ (C_63 464) [] [] (kp [0, 3, 10]) [] 64 [] trivial ?_
    refine Runs.sC 10 (C_63 930) (C_63 931) (decide (i < ((d.length : Nat) : Int))) (fun hq3 => ?_) (fun hq3 => ?_)
    · have h := condT h hq3
      refine Runs.sA 5 [.code (C_63 3728), .code (C_63 3729), .code (C_63 1865), .inBlock 1, .code (C_63 467), .inLoop (C_63 116), .inBlock 0, .code (C_63 15)] ?_
      obtain ⟨c, h⟩ := ifSome h
      obtain ⟨rIsName, hr, h⟩ := bindSome h
      refine Runs.sR hE ⟨[(0, (encL Tapi_Dock.cells Tapi_Dock.d d)), (3, (aI i)), (19, (aB (!rIsName)))], [], 176⟩ (C_63 3728) [(5, ⟨[], true, (aB rIsName), [], 0, false, none⟩)] [] (kp [0, 3, 19]) [] 176 [0 ≤ i ∧ i < ((d.length : Nat) : Int), Sound Try.prog 47 [(aS ((d.getD ((i).toNat) Tapi_Dock.d).f_Name))] [] 0 (aB rIsName) []] ⟨c, (g_keelblockbase_IsName_ok N ((d.getD ((i).toNat) Tapi_Dock.d).f_Name) rIsName hr), trivial⟩ ?_
      refine Runs.sC 19 (C_63 7458) (C_63 7459) (!rIsName) (fun hq4 => ?_) (fun hq4 => ?_)
      · have h := condT h hq4
        refine Runs.sA 1 [.code (C_63 14916), .code (C_63 14917), .code (C_63 1865), .inBlock 1, .code (C_63 467), .inLoop (C_63 116), .inBlock 0, .code (C_63 15)] ?_
        refine Runs.sR hE ⟨[(2, (aI 4))], [], 192⟩ (C_63 14916) [] [] (kp [2]) [] 192 [] trivial ?_
        obtain rfl := Option.some.inj h
        refine Runs.sW hE ⟨[(2, (aI 4))], [], 192⟩ [] (kp [2]) [] 192 [] trivial ?_
        exact Runs.sT Try.f17 [] [] trivial
      · have h := condF h hq4
        refine Runs.sA 3 [.code (C_63 7460), .code (C_63 7461), .code (C_63 3731), .inBlock 1, .code (C_63 467), .inLoop (C_63 116), .inBlock 0, .code (C_63 15)] ?_
        obtain ⟨rDockOf, hr2, h⟩ := bindSome h
        refine Runs.sR hE ⟨[(0, (encL Tapi_Dock.cells Tapi_Dock.d d)), (3, (aI i)), (28, (aB (rDockOf != i)))], [], 320⟩ (C_63 7460) [(6, ⟨[], true, (aI rDockOf), [], 0, false, none⟩)] [] (kp [0, 3, 28]) [] 320 [0 ≤ i ∧ i < ((d.length : Nat) : Int), Sound Try.prog 55 [(encL Tapi_Dock.cells Tapi_Dock.d d), (aS ((d.getD ((i).toNat) Tapi_Dock.d).f_Name))] [] 0 (aI rDockOf) []] ⟨c, (g_r06_DockOf_ok N d ((d.getD ((i).toNat) Tapi_Dock.d).f_Name) rDockOf hr2), trivial⟩ ?_
        refine Runs.sC 28 (C_63 14922) (C_63 14923) (rDockOf != i) (fun hq5 => ?_) (fun hq5 => ?_)
        · have h := condT h hq5
          refine Runs.sA 1 [.code (C_63 29844), .code (C_63 29845), .code (C_63 3731), .inBlock 1, .code (C_63 467), .inLoop (C_63 116), .inBlock 0, .code (C_63 15)] ?_
          refine Runs.sR hE ⟨[(2, (aI 5))], [], 336⟩ (C_63 29844) [] [] (kp [2]) [] 336 [] trivial ?_
          obtain rfl := Option.some.inj h
          refine Runs.sW hE ⟨[(2, (aI 5))], [], 336⟩ [] (kp [2]) [] 336 [] trivial ?_
          exact Runs.sT Try.f17 [] [] trivial
        · have h := condF h hq5
          refine Runs.sA 2 [.code (C_63 7462), .code (C_63 7463), .inBlock 1, .code (C_63 467), .inLoop (C_63 116), .inBlock 0, .code (C_63 15)] ?_
          obtain ⟨rinside, hr3, h⟩ := bindSome h
          obtain ⟨c2, h⟩ := ifSome h
          obtain ⟨rinside2, hr4, h⟩ := bindSome h
          obtain ⟨c3, h⟩ := ifSome h
          obtain ⟨rinside3, hr5, h⟩ := bindSome h
          obtain ⟨c4, h⟩ := ifSome h
          obtain ⟨rinside4, hr6, h⟩ := bindSome h
          obtain ⟨c5, h⟩ := ifSome h
          obtain ⟨rinside5, hr7, h⟩ := bindSome h
          refine Runs.sR hE ⟨[(0, (encL Tapi_Dock.cells Tapi_Dock.d d)), (3, (aI i)), (71, (aB (cond (cond (cond (cond (!rinside) true (!rinside2)) true (!rinside3)) true (!rinside4)) true (!rinside5))))], [], 1008⟩ (C_63 7462) [(5, ⟨[], true, (aB rinside), [], 0, false, none⟩), (13, ⟨[], true, (aB rinside2), [], 0, false, none⟩), (22, ⟨[], true, (aB rinside3), [], 0, false, none⟩), (31, ⟨[], true, (aB rinside4), [], 0, false, none⟩), (40, ⟨[], true, (aB rinside5), [], 0, false, none⟩)] [] (kp [0, 3, 71]) [] 1008 [0 ≤ i ∧ i < ((d.length : Nat) : Int), Sound Try.prog 56 [(aI ((d.getD ((i).toNat) Tapi_Dock.d).f_Length)), (aI 1), (aI 1000000)] [] 0 (aB rinside) [], (!(!rinside)) = true → AllP [(!(!rinside)) = true, (!(!rinside)) = true, 0 ≤ i ∧ i < ((d.length : Nat) : Int)], (!(!rinside)) = true → AllP [(!(!rinside)) = true], (!(!rinside)) = true → AllP [(!(!rinside)) = true], (!(!rinside)) = true → AllP [Sound Try.prog 56 [(aI ((d.getD ((i).toNat) Tapi_Dock.d).f_Width)), (aI 1), (aI 1000000)] [] 0 (aB rinside2) [], (!(!rinside)) = true], (!(!rinside)) = true → AllP [(!(!rinside)) = true], (!(!rinside)) = true → AllP [(!(!rinside)) = true], (!(cond (!rinside) true (!rinside2))) = true → AllP [(!(cond (!rinside) true (!rinside2))) = true, (!(cond (!rinside) true (!rinside2))) = true, 0 ≤ i ∧ i < ((d.length : Nat) : Int)], (!(cond (!rinside) true (!rinside2))) = true → AllP [(!(cond (!rinside) true (!rinside2))) = true], (!(cond (!rinside) true (!rinside2))) = true → AllP [(!(cond (!rinside) true (!rinside2))) = true], (!(cond (!rinside) true (!rinside2))) = true → AllP [Sound Try.prog 56 [(aI ((d.getD ((i).toNat) Tapi_Dock.d).f_Sill)), (aI (-1000000)), (aI 1000000)] [] 0 (aB rinside3) [], (!(cond (!rinside) true (!rinside2))) = true], (!(cond (!rinside) true (!rinside2))) = true → AllP [(!(cond (!rinside) true (!rinside2))) = true], (!(cond (!rinside) true (!rinside2))) = true → AllP [(!(cond (!rinside) true (!rinside2))) = true], (!(cond (cond (!rinside) true (!rinside2)) true (!rinside3))) = true → AllP [(!(cond (cond (!rinside) true (!rinside2)) true (!rinside3))) = true, (!(cond (cond (!rinside) true (!rinside2)) true (!rinside3))) = true, 0 ≤ i ∧ i < ((d.length : Nat) : Int)], (!(cond (cond (!rinside) true (!rinside2)) true (!rinside3))) = true → AllP [(!(cond (cond (!rinside) true (!rinside2)) true (!rinside3))) = true], (!(cond (cond (!rinside) true (!rinside2)) true (!rinside3))) = true → AllP [(!(cond (cond (!rinside) true (!rinside2)) true (!rinside3))) = true], (!(cond (cond (!rinside) true (!rinside2)) true (!rinside3))) = true → AllP [Sound Try.prog 56 [(aI ((d.getD ((i).toNat) Tapi_Dock.d).f_Floor)), (aI (-1000000)), (aI 1000000)] [] 0 (aB rinside4) [], (!(cond (cond (!rinside) true (!rinside2)) true (!rinside3))) = true], (!(cond (cond (!rinside) true (!rinside2)) true (!rinside3))) = true → AllP [(!(cond (cond (!rinside) true (!rinside2)) true (!rinside3))) = true], (!(cond (cond (!rinside) true (!rinside2)) true (!rinside3))) = true → AllP [(!(cond (cond (!rinside) true (!rinside2)) true (!rinside3))) = true], (!(cond (cond (cond (!rinside) true (!rinside2)) true (!rinside3)) true (!rinside4))) = true → AllP [(!(cond (cond (cond (!rinside) true (!rinside2)) true (!rinside3)) true (!rinside4))) = true, (!(cond (cond (cond (!rinside) true (!rinside2)) true (!rinside3)) true (!rinside4))) = true, 0 ≤ i ∧ i < ((d.length : Nat) : Int)], (!(cond (cond (cond (!rinside) true (!rinside2)) true (!rinside3)) true (!rinside4))) = true → AllP [(!(cond (cond (cond (!rinside) true (!rinside2)) true (!rinside3)) true (!rinside4))) = true], (!(cond (cond (cond (!rinside) true (!rinside2)) true (!rinside3)) true (!rinside4))) = true → AllP [(!(cond (cond (cond (!rinside) true (!rinside2)) true (!rinside3)) true (!rinside4))) = true], (!(cond (cond (cond (!rinside) true (!rinside2)) true (!rinside3)) true (!rinside4))) = true → AllP [Sound Try.prog 56 [(aI ((d.getD ((i).toNat) Tapi_Dock.d).f_Gap)), (aI 0), (aI 1000000)] [] 0 (aB rinside5) [], (!(cond (cond (cond (!rinside) true (!rinside2)) true (!rinside3)) true (!rinside4))) = true], (!(cond (cond (cond (!rinside) true (!rinside2)) true (!rinside3)) true (!rinside4))) = true → AllP [(!(cond (cond (cond (!rinside) true (!rinside2)) true (!rinside3)) true (!rinside4))) = true], (!(cond (cond (cond (!rinside) true (!rinside2)) true (!rinside3)) true (!rinside4))) = true → AllP [(!(cond (cond (cond (!rinside) true (!rinside2)) true (!rinside3)) true (!rinside4))) = true]] ⟨c, (g_r06_inside_ok N ((d.getD ((i).toNat) Tapi_Dock.d).f_Length) 1 1000000 rinside hr3), (fun hg => ⟨hg, hg, (c2 hg), trivial⟩), (fun hg => ⟨hg, trivial⟩), (fun hg => ⟨hg, trivial⟩), (fun hg => ⟨(g_r06_inside_ok N ((d.getD ((i).toNat) Tapi_Dock.d).f_Width) 1 1000000 rinside2 (condT hr4 hg)), hg, trivial⟩), (fun hg => ⟨hg, trivial⟩), (fun hq => ⟨hq, trivial⟩), (fun hg => ⟨hg, hg, (c3 hg), trivial⟩), (fun hg => ⟨hg, trivial⟩), (fun hg => ⟨hg, trivial⟩), (fun hg => ⟨(g_r06_inside_ok N ((d.getD ((i).toNat) Tapi_Dock.d).f_Sill) (-1000000) 1000000 rinside3 (condT hr5 hg)), hg, trivial⟩), (fun hg => ⟨hg, trivial⟩), (fun hq => ⟨hq, trivial⟩), (fun hg => ⟨hg, hg, (c4 hg), trivial⟩), (fun hg => ⟨hg, trivial⟩), (fun hg => ⟨hg, trivial⟩), (fun hg => ⟨(g_r06_inside_ok N ((d.getD ((i).toNat) Tapi_Dock.d).f_Floor) (-1000000) 1000000 rinside4 (condT hr6 hg)), hg, trivial⟩), (fun hg => ⟨hg, trivial⟩), (fun hq => ⟨hq, trivial⟩), (fun hg => ⟨hg, hg, (c5 hg), trivial⟩), (fun hg => ⟨hg, trivial⟩), (fun hg => ⟨hg, trivial⟩), (fun hg => ⟨(g_r06_inside_ok N ((d.getD ((i).toNat) Tapi_Dock.d).f_Gap) 0 1000000 rinside5 (condT hr7 hg)), hg, trivial⟩), (fun hg => ⟨hg, trivial⟩), (fun hq => ⟨hq, trivial⟩), trivial⟩ ?_
          refine Runs.sC 71 (C_63 14926) (C_63 14927) (cond (cond (cond (cond (!rinside) true (!rinside2)) true (!rinside3)) true (!rinside4)) true (!rinside5)) (fun hq6 => ?_) (fun hq6 => ?_)
          · have h := condT h hq6
            refine Runs.sA 1 [.code (C_63 29852), .code (C_63 29853), .inBlock 1, .code (C_63 467), .inLoop (C_63 116), .inBlock 0, .code (C_63 15)] ?_
            refine Runs.sR hE ⟨[(2, (aI 2))], [], 1024⟩ (C_63 29852) [] [] (kp [2]) [] 1024 [] trivial ?_
            obtain rfl := Option.some.inj h
            refine Runs.sW hE ⟨[(2, (aI 2))], [], 1024⟩ [] (kp [2]) [] 1024 [] trivial ?_
            exact Runs.sT Try.f17 [] [] trivial
          · have h := condF h hq6
            refine Runs.sA 2 [.code (C_63 467), .inLoop (C_63 116), .inBlock 0, .code (C_63 15)] ?_
            refine Runs.sR hE ⟨[(0, (encL Tapi_Dock.cells Tapi_Dock.d d)), (3, (aI (w64 (i + 1))))], [], 1056⟩ (C_63 467) [] [] (kp [0, 3]) [] 1056 [] trivial ?_
            refine Runs.sA 1 [.code (C_63 116), .inLoop (C_63 116), .inBlock 0, .code (C_63 15)] ?_
            exact Runs.sW hE _ [] (kp [0, 3]) [] 0 [] trivial (ih (w64 (i + 1)) _ h E hE)
    · have h := condF h hq3
      refine Runs.sA 2 [.code (C_63 30), .code (C_63 31)] ?_
      refine Runs.sR hE ⟨[(2, (aI 0))], [], 80⟩ (C_63 30) [] [] (kp [2]) [] 80 [] trivial ?_
      obtain rfl := Option.some.inj h
      refine Runs.sW hE ⟨[(2, (aI 0))], [], 80⟩ [] (kp [2]) [] 80 [] trivial ?_
      exact Runs.sT Try.f17 [] [] trivial

theorem g_r06_CheckDocks_ok (N : Nat) (d : List Tapi_Dock) (r : Int) (h : g_r06_CheckDocks N d = some r) : Sound Try.prog 17 [(encL Tapi_Dock.cells Tapi_Dock.d d)] [] 0 (aI r) [] := by
  unfold g_r06_CheckDocks at h
  refine Sound.of_runs (fu := Try.f17) (c := C_63 1) (nt := 72) (by kernel_rfl) (by kernel_rfl) (by kernel_rfl) (by kernel_rfl) (fun hm => rfl) ?_
  intro E hE
  refine Runs.sA 1 [.code (C_63 2), .code (C_63 3)] ?_
  refine Runs.sR hE ⟨[(0, (encL Tapi_Dock.cells Tapi_Dock.d d))], [], 16⟩ (C_63 2) [] [] (kp [0]) [] 16 [] trivial ?_
  refine Runs.sA 2 [.code (C_63 12), .code (C_63 13), .code (C_63 7)] ?_
  refine Runs.sR hE ⟨[(0, (encL Tapi_Dock.cells Tapi_Dock.d d)), (6, (aB (decide (((d.length : Nat) : Int) > 4))))], [], 64⟩ (C_63 12) [] [] (kp [0, 6]) [] 64 [] trivial ?_
  refine Runs.sC 6 (C_63 26) (C_63 27) (decide (((d.length : Nat) : Int) > 4)) (fun hq2 => ?_) (fun hq2 => ?_)
  · have h := condT h hq2
    refine Runs.sA 1 [.code (C_63 52), .code (C_63 53), .code (C_63 7)] ?_
    refine Runs.sR hE ⟨[(2, (aI 8))], [], 80⟩ (C_63 52) [] [] (kp [2]) [] 80 [] trivial ?_
    obtain rfl := Option.some.inj h
    refine Runs.sW hE ⟨[(2, (aI 8))], [], 80⟩ [] (kp [2]) [] 80 [] trivial ?_
    exact Runs.sT Try.f17 [] [] trivial
  · have h := condF h hq2
    refine Runs.sA 3 [.code (C_63 28), .code (C_63 29), .code (C_63 15)] ?_
    refine Runs.sR hE ⟨[(0, (encL Tapi_Dock.cells Tapi_Dock.d d)), (3, (aI 0))], [], 80⟩ (C_63 28) [] [] (kp [0, 3]) [] 80 [] trivial ?_
    refine Runs.sA 2 [.code (C_63 116), .inLoop (C_63 116), .inBlock 0, .code (C_63 15)] ?_
    exact Runs.sW hE _ [] (kp [0, 3]) [] 0 [] trivial (g_r06_CheckDocks_L1_ok N d N 0 _ h E hE)

noncomputable def C_66 (n : Nat) : Code := cat (bodyOf Try.f43) (pth n)

theorem g_r06_CallOf_L1_ok (N : Nat) (c : List Tapi_Call) (name : ByteArray) (fuel : Nat) : ∀ (i : Int) (r : Int), g_r06_CallOf_L1 N c name fuel i = some r → ∀ E, EnvOk E 0 → Runs Try.prog E 43 20 (SPost E [] (aI r)) [.code (C_66 52), .inLoop (C_66 52), .inBlock 0, .code (C_66 7)] ⟨[(0, (encL Tapi_Call.cells Tapi_Call.d c)), (1, (aS name)), (5, (aI i))], [], 0⟩ := by
  induction fuel with
  | zero => intro _ r h; rw [g_r06_CallOf_L1.eq_1] at h; cases h
  | succ fuel ih =>
    intro i r h E hE
    rw [g_r06_CallOf_L1.eq_2] at h
    refine Runs.sA 2 [.code (C_66 208), .code (C_66 209), .code (C_66 105), .inLoop (C_66 52), .inBlock 0, .code (C_66 7)] ?_
    refine Runs.sR hE ⟨[(0, (encL Tapi_Call.cells Tapi_Call.d c)), (1, (aS name)), (5, (aI i)), (9, (aB (decide (i < ((c.length : Nat) : Int)))))], [], 64⟩ (C_66 208) [] [] (kp [0, 1, 5, 9]) [] 64 [] trivial ?_
    refine Runs.sC 9 (C_66 418) (C_66 419) (decide (i < ((c.length : Nat) : Int))) (fun hq2 => ?_) (fun hq2 => ?_)
    · have h := condT h hq2
      refine Runs.sA 4 [.code (C_66 840), .code (C_66 841), .inBlock 1, .code (C_66 211), .inLoop (C_66 52), .inBlock 0, .code (C_66 7)] ?_
      obtain ⟨c2, h⟩ := ifSome h
      refine Runs.sR hE ⟨[(0, (encL Tapi_Call.cells Tapi_Call.d c)), (1, (aS name)), (5, (aI i)), (18, (aB (streq ((c.getD ((i).toNat) Tapi_Call.d).f_Name) name)))], [], 176⟩ (C_66 840) [] [] (kp [0, 1, 5, 18]) [] 176 [0 ≤ i ∧ i < ((c.length : Nat) : Int)] ⟨c2, trivial⟩ ?_
      refine Runs.sC 18 (C_66 1682) (C_66 1683) (streq ((c.getD ((i).toNat) Tapi_Call.d).f_Name) name) (fun hq3 => ?_) (fun hq3 => ?_)
      · have h := condT h hq3
        refine Runs.sA 1 [.code (C_66 3364), .code (C_66 3365), .inBlock 1, .code (C_66 211), .inLoop (C_66 52), .inBlock 0, .code (C_66 7)] ?_
        refine Runs.sR hE ⟨[(4, (aI i))], [], 208⟩ (C_66 3364) [] [] (kp [4]) [] 208 [] trivial ?_
        obtain rfl := Option.some.inj h
        refine Runs.sW hE ⟨[(4, (aI i))], [], 208⟩ [] (kp [4]) [] 208 [] trivial ?_
        exact Runs.sT Try.f43 [] [] trivial
      · have h := condF h hq3
        refine Runs.sA 2 [.code (C_66 211), .inLoop (C_66 52), .inBlock 0, .code (C_66 7)] ?_
        refine Runs.sR hE ⟨[(0, (encL Tapi_Call.cells Tapi_Call.d c)), (1, (aS name)), (5, (aI (w64 (i + 1))))], [], 224⟩ (C_66 211) [] [] (kp [0, 1, 5]) [] 224 [] trivial ?_
        refine Runs.sA 1 [.code (C_66 52), .inLoop (C_66 52), .inBlock 0, .code (C_66 7)] ?_
        exact Runs.sW hE _ [] (kp [0, 1, 5]) [] 0 [] trivial (ih (w64 (i + 1)) _ h E hE)
    · have h := condF h hq2
      refine Runs.sA 2 [.code (C_66 14), .code (C_66 15)] ?_
      refine Runs.sR hE ⟨[(4, (aI (-1)))], [], 80⟩ (C_66 14) [] [] (kp [4]) [] 80 [] trivial ?_
      obtain rfl := Option.some.inj h
      refine Runs.sW hE ⟨[(4, (aI (-1)))], [], 80⟩ [] (kp [4]) [] 80 [] trivial ?_
      exact Runs.sT Try.f43 [] [] trivial

theorem g_r06_CallOf_ok (N : Nat) (c : List Tapi_Call) (name : ByteArray) (r : Int) (h : g_r06_CallOf N c name = some r) : Sound Try.prog 43 [(encL Tapi_Call.cells Tapi_Call.d c), (aS name)] [] 0 (aI r) [] := by
  unfold g_r06_CallOf at h
  refine Sound.of_runs (fu := Try.f43) (c := C_66 1) (nt := 20) (by kernel_rfl) (by kernel_rfl) (by kernel_rfl) (by kernel_rfl) (fun hm => rfl) ?_
  intro E hE
  refine Runs.sA 1 [.code (C_66 2), .code (C_66 3)] ?_
  refine Runs.sR hE ⟨[(0, (encL Tapi_Call.cells Tapi_Call.d c)), (1, (aS name))], [], 16⟩ (C_66 2) [] [] (kp [0, 1]) [] 16 [] trivial ?_
  refine Runs.sA 2 [.code (C_66 12), .code (C_66 13), .code (C_66 7)] ?_
  refine Runs.sR hE ⟨[(0, (encL Tapi_Call.cells Tapi_Call.d c)), (1, (aS name)), (5, (aI 0))], [], 32⟩ (C_66 12) [] [] (kp [0, 1, 5]) [] 32 [] trivial ?_
  refine Runs.sA 2 [.code (C_66 52), .inLoop (C_66 52), .inBlock 0, .code (C_66 7)] ?_
  exact Runs.sW hE _ [] (kp [0, 1, 5]) [] 0 [] trivial (g_r06_CallOf_L1_ok N c name N 0 _ h E hE)

noncomputable def C_65 (n : Nat) : Code := cat (bodyOf Try.f19) (pth n)

theorem g_r06_CheckCalls_L1_ok (N : Nat) (c : List Tapi_Call) (fuel : Nat) : ∀ (i : Int) (r : Int), g_r06_CheckCalls_L1 N c fuel i = some r → ∀ E, EnvOk E 0 → Runs Try.prog E 19 72 (SPost E [] (aI r)) [.code (C_65 116), .inLoop (C_65 116), .inBlock 0, .code (C_65 15)] ⟨[(0, (encL Tapi_Call.cells Tapi_Call.d c)), (3, (aI i))], [], 0⟩ := by
  induction fuel with
  | zero => intro _ r h; rw [g_r06_CheckCalls_L1.eq_1] at h; cases h
  | succ fuel ih =>
    intro i r h E hE
    rw [g_r06_CheckCalls_L1.eq_2] at h
    refine Runs.sA 2 [.code (C_65 464), .code (C_65 465), .code (C_65 233), .inLoop (C_65 116), .inBlock 0, .code (C_65 15)] ?_
    refine Runs.sR hE ⟨[(0, (encL Tapi_Call.cells Tapi_Call.d c)), (3, (aI i)), (11, (aB (decide (i < ((c.length : Nat) : Int)))))], [], 64⟩ (C_65 464) [] [] (kp [0, 3, 11]) [] 64 [] trivial ?_
    refine Runs.sC 11 (C_65 930) (C_65 931) (decide (i < ((c.length : Nat) : Int))) (fun hq3 => ?_) (fun hq3 => ?_)
    · have h := condT h hq3
      refine Runs.sA 4 [.code (C_65 1864), .code (C_65 1865), .inBlock 1, .code (C_65 467), .inLoop (C_65 116), .inBlock 0, .code (C_65 15)] ?_
      obtain ⟨c2, h⟩ := ifSome h
      refine Runs.sR hE ⟨[(0, (encL Tapi_Call.cells Tapi_Call.d c)), (3, (aI i)), (4, (.op 128 0 0))], [(128, vO 9 (Tapi_Call.cells (c.getD ((i).toNat) Tapi_Call.d)))], 160⟩ (C_65 1864) [] [] (kp [0, 3, 4]) (kq [128]) 160 [0 ≤ i ∧ i < ((c.length : Nat) : Int), 0 < 1] ⟨c2, o1, trivial⟩ ?_
      refine Runs.sA 2 [.code (C_65 7460), .code (C_65 7461), .code (C_65 3731), .inBlock 1, .code (C_65 467), .inLoop (C_65 116), .inBlock 0, .code (C_65 15)] ?_
      obtain ⟨rIsName, hr, h⟩ := bindSome h
      refine Runs.sR hE ⟨[(0, (encL Tapi_Call.cells Tapi_Call.d c)), (3, (aI i)), (4, (.op 128 0 0)), (21, (aB (!rIsName)))], [(128, vO 9 (Tapi_Call.cells (c.getD ((i).toNat) Tapi_Call.d)))], 224⟩ (C_65 7460) [(2, ⟨[], true, (aB rIsName), [], 0, false, none⟩)] [] (kp [0, 3, 4, 21]) (kq [128]) 224 [0 < 1, Sound Try.prog 47 [(aS ((c.getD ((i).toNat) Tapi_Call.d).f_Name))] [] 0 (aB rIsName) []] ⟨o1, (g_keelblockbase_IsName_ok N ((c.getD ((i).toNat) Tapi_Call.d).f_Name) rIsName hr), trivial⟩ ?_
      refine Runs.sC 21 (C_65 14922) (C_65 14923) (!rIsName) (fun hq4 => ?_) (fun hq4 => ?_)
      · have h := condT h hq4
        refine Runs.sA 1 [.code (C_65 29844), .code (C_65 29845), .code (C_65 3731), .inBlock 1, .code (C_65 467), .inLoop (C_65 116), .inBlock 0, .code (C_65 15)] ?_
        refine Runs.sR hE ⟨[(2, (aI 4))], [], 240⟩ (C_65 29844) [] [] (kp [2]) [] 240 [] trivial ?_
        obtain rfl := Option.some.inj h
        refine Runs.sW hE ⟨[(2, (aI 4))], [], 240⟩ [] (kp [2]) [] 240 [] trivial ?_
        exact Runs.sT Try.f19 [] [] trivial
      · have h := condF h hq4
        refine Runs.sA 3 [.code (C_65 14924), .code (C_65 14925), .code (C_65 7463), .inBlock 1, .code (C_65 467), .inLoop (C_65 116), .inBlock 0, .code (C_65 15)] ?_
        obtain ⟨rCallOf, hr2, h⟩ := bindSome h
        refine Runs.sR hE ⟨[(0, (encL Tapi_Call.cells Tapi_Call.d c)), (3, (aI i)), (4, (.op 128 0 0)), (27, (aB (rCallOf != i)))], [(128, vO 9 (Tapi_Call.cells (c.getD ((i).toNat) Tapi_Call.d)))], 320⟩ (C_65 14924) [(3, ⟨[], true, (aI rCallOf), [], 0, false, none⟩)] [] (kp [0, 3, 4, 27]) (kq [128]) 320 [0 < 1, Sound Try.prog 43 [(encL Tapi_Call.cells Tapi_Call.d c), (aS ((c.getD ((i).toNat) Tapi_Call.d).f_Name))] [] 0 (aI rCallOf) []] ⟨o1, (g_r06_CallOf_ok N c ((c.getD ((i).toNat) Tapi_Call.d).f_Name) rCallOf hr2), trivial⟩ ?_
        refine Runs.sC 27 (C_65 29850) (C_65 29851) (rCallOf != i) (fun hq5 => ?_) (fun hq5 => ?_)
        · have h := condT h hq5
          refine Runs.sA 1 [.code (C_65 59700), .code (C_65 59701), .code (C_65 7463), .inBlock 1, .code (C_65 467), .inLoop (C_65 116), .inBlock 0, .code (C_65 15)] ?_
          refine Runs.sR hE ⟨[(2, (aI 5))], [], 336⟩ (C_65 59700) [] [] (kp [2]) [] 336 [] trivial ?_
          obtain rfl := Option.some.inj h
          refine Runs.sW hE ⟨[(2, (aI 5))], [], 336⟩ [] (kp [2]) [] 336 [] trivial ?_
          exact Runs.sT Try.f19 [] [] trivial
        · have h := condF h hq5
          refine Runs.sA 3 [.code (C_65 29852), .code (C_65 29853), .code (C_65 14927), .inBlock 1, .code (C_65 467), .inLoop (C_65 116), .inBlock 0, .code (C_65 15)] ?_
          obtain ⟨rinside, hr3, h⟩ := bindSome h
          obtain ⟨rinside2, hr4, h⟩ := bindSome h
          obtain ⟨rinside3, hr5, h⟩ := bindSome h
          obtain ⟨rinside4, hr6, h⟩ := bindSome h
          refine Runs.sR hE ⟨[(0, (encL Tapi_Call.cells Tapi_Call.d c)), (3, (aI i)), (4, (.op 128 0 0)), (49, (aB (cond (cond (cond (!rinside) true (!rinside2)) true (!rinside3)) true (!rinside4))))], [(128, vO 9 (Tapi_Call.cells (c.getD ((i).toNat) Tapi_Call.d)))], 672⟩ (C_65 29852) [(2, ⟨[], true, (aB rinside), [], 0, false, none⟩), (7, ⟨[], true, (aB rinside2), [], 0, false, none⟩), (13, ⟨[], true, (aB rinside3), [], 0, false, none⟩), (19, ⟨[], true, (aB rinside4), [], 0, false, none⟩)] [] (kp [0, 3, 4, 49]) (kq [128]) 672 [0 < 1, Sound Try.prog 56 [(aI ((c.getD ((i).toNat) Tapi_Call.d).f_Length)), (aI 1), (aI 1000000)] [] 0 (aB rinside) [], (!(!rinside)) = true → AllP [(!(!rinside)) = true, 0 < 1], (!(!rinside)) = true → AllP [Sound Try.prog 56 [(aI ((c.getD ((i).toNat) Tapi_Call.d).f_Beam)), (aI 1), (aI 1000000)] [] 0 (aB rinside2) [], (!(!rinside)) = true], (!(!rinside)) = true → AllP [(!(!rinside)) = true], (!(!rinside)) = true → AllP [(!(!rinside)) = true], (!(cond (!rinside) true (!rinside2))) = true → AllP [(!(cond (!rinside) true (!rinside2))) = true, 0 < 1], (!(cond (!rinside) true (!rinside2))) = true → AllP [Sound Try.prog 56 [(aI ((c.getD ((i).toNat) Tapi_Call.d).f_Draught)), (aI 0), (aI 1000000)] [] 0 (aB rinside3) [], (!(cond (!rinside) true (!rinside2))) = true], (!(cond (!rinside) true (!rinside2))) = true → AllP [(!(cond (!rinside) true (!rinside2))) = true], (!(cond (!rinside) true (!rinside2))) = true → AllP [(!(cond (!rinside) true (!rinside2))) = true], (!(cond (cond (!rinside) true (!rinside2)) true (!rinside3))) = true → AllP [(!(cond (cond (!rinside) true (!rinside2)) true (!rinside3))) = true, 0 < 1], (!(cond (cond (!rinside) true (!rinside2)) true (!rinside3))) = true → AllP [Sound Try.prog 56 [(aI ((c.getD ((i).toNat) Tapi_Call.d).f_Under)), (aI 0), (aI 1000000)] [] 0 (aB rinside4) [], (!(cond (cond (!rinside) true (!rinside2)) true (!rinside3))) = true], (!(cond (cond (!rinside) true (!rinside2)) true (!rinside3))) = true → AllP [(!(cond (cond (!rinside) true (!rinside2)) true (!rinside3))) = true], (!(cond (cond (!rinside) true (!rinside2)) true (!rinside3))) = true → AllP [(!(cond (cond (!rinside) true (!rinside2)) true (!rinside3))) = true]] ⟨o1, (g_r06_inside_ok N ((c.getD ((i).toNat) Tapi_Call.d).f_Length) 1 1000000 rinside hr3), (fun hg => ⟨hg, o1, trivial⟩), (fun hg => ⟨(g_r06_inside_ok N ((c.getD ((i).toNat) Tapi_Call.d).f_Beam) 1 1000000 rinside2 (condT hr4 hg)), hg, trivial⟩), (fun hg => ⟨hg, trivial⟩), (fun hq => ⟨hq, trivial⟩), (fun hg => ⟨hg, o1, trivial⟩), (fun hg => ⟨(g_r06_inside_ok N ((c.getD ((i).toNat) Tapi_Call.d).f_Draught) 0 1000000 rinside3 (condT hr5 hg)), hg, trivial⟩), (fun hg => ⟨hg, trivial⟩), (fun hq => ⟨hq, trivial⟩), (fun hg => ⟨hg, o1, trivial⟩), (fun hg => ⟨(g_r06_inside_ok N ((c.getD ((i).toNat) Tapi_Call.d).f_Under) 0 1000000 rinside4 (condT hr6 hg)), hg, trivial⟩), (fun hg => ⟨hg, trivial⟩), (fun hq => ⟨hq, trivial⟩), trivial⟩ ?_
          refine Runs.sC 49 (C_65 59706) (C_65 59707) (cond (cond (cond (!rinside) true (!rinside2)) true (!rinside3)) true (!rinside4)) (fun hq6 => ?_) (fun hq6 => ?_)
          · have h := condT h hq6
            refine Runs.sA 1 [.code (C_65 119412), .code (C_65 119413), .code (C_65 14927), .inBlock 1, .code (C_65 467), .inLoop (C_65 116), .inBlock 0, .code (C_65 15)] ?_
            refine Runs.sR hE ⟨[(2, (aI 2))], [], 688⟩ (C_65 119412) [] [] (kp [2]) [] 688 [] trivial ?_
            obtain rfl := Option.some.inj h
            refine Runs.sW hE ⟨[(2, (aI 2))], [], 688⟩ [] (kp [2]) [] 688 [] trivial ?_
            exact Runs.sT Try.f19 [] [] trivial
          · have h := condF h hq6
            refine Runs.sA 2 [.code (C_65 29854), .code (C_65 29855), .inBlock 1, .code (C_65 467), .inLoop (C_65 116), .inBlock 0, .code (C_65 15)] ?_
            obtain ⟨rinside5, hr7, h⟩ := bindSome h
            obtain ⟨rinside6, hr8, h⟩ := bindSome h
            obtain ⟨rinside7, hr9, h⟩ := bindSome h
            obtain ⟨rinside8, hr10, h⟩ := bindSome h
            refine Runs.sR hE ⟨[(0, (encL Tapi_Call.cells Tapi_Call.d c)), (3, (aI i)), (71, (aB (cond (cond (cond (!rinside5) true (!rinside6)) true (!rinside7)) true (!rinside8))))], [], 1024⟩ (C_65 29854) [(2, ⟨[], true, (aB rinside5), [], 0, false, none⟩), (7, ⟨[], true, (aB rinside6), [], 0, false, none⟩), (13, ⟨[], true, (aB rinside7), [], 0, false, none⟩), (19, ⟨[], true, (aB rinside8), [], 0, false, none⟩)] [] (kp [0, 3, 71]) [] 1024 [0 < 1, Sound Try.prog 56 [(aI ((c.getD ((i).toNat) Tapi_Call.d).f_Arrive)), (aI 0), (aI 400)] [] 0 (aB rinside5) [], (!(!rinside5)) = true → AllP [(!(!rinside5)) = true, 0 < 1], (!(!rinside5)) = true → AllP [Sound Try.prog 56 [(aI ((c.getD ((i).toNat) Tapi_Call.d).f_Due)), (aI 0), (aI 400)] [] 0 (aB rinside6) [], (!(!rinside5)) = true], (!(!rinside5)) = true → AllP [(!(!rinside5)) = true], (!(!rinside5)) = true → AllP [(!(!rinside5)) = true], (!(cond (!rinside5) true (!rinside6))) = true → AllP [(!(cond (!rinside5) true (!rinside6))) = true, 0 < 1], (!(cond (!rinside5) true (!rinside6))) = true → AllP [Sound Try.prog 56 [(aI ((c.getD ((i).toNat) Tapi_Call.d).f_Work)), (aI 1), (aI 1000)] [] 0 (aB rinside7) [], (!(cond (!rinside5) true (!rinside6))) = true], (!(cond (!rinside5) true (!rinside6))) = true → AllP [(!(cond (!rinside5) true (!rinside6))) = true], (!(cond (!rinside5) true (!rinside6))) = true → AllP [(!(cond (!rinside5) true (!rinside6))) = true], (!(cond (cond (!rinside5) true (!rinside6)) true (!rinside7))) = true → AllP [(!(cond (cond (!rinside5) true (!rinside6)) true (!rinside7))) = true, 0 < 1], (!(cond (cond (!rinside5) true (!rinside6)) true (!rinside7))) = true → AllP [Sound Try.prog 56 [(aI ((c.getD ((i).toNat) Tapi_Call.d).f_Late)), (aI 0), (aI 1000000000)] [] 0 (aB rinside8) [], (!(cond (cond (!rinside5) true (!rinside6)) true (!rinside7))) = true], (!(cond (cond (!rinside5) true (!rinside6)) true (!rinside7))) = true → AllP [(!(cond (cond (!rinside5) true (!rinside6)) true (!rinside7))) = true], (!(cond (cond (!rinside5) true (!rinside6)) true (!rinside7))) = true → AllP [(!(cond (cond (!rinside5) true (!rinside6)) true (!rinside7))) = true]] ⟨o1, (g_r06_inside_ok N ((c.getD ((i).toNat) Tapi_Call.d).f_Arrive) 0 400 rinside5 hr7), (fun hg => ⟨hg, o1, trivial⟩), (fun hg => ⟨(g_r06_inside_ok N ((c.getD ((i).toNat) Tapi_Call.d).f_Due) 0 400 rinside6 (condT hr8 hg)), hg, trivial⟩), (fun hg => ⟨hg, trivial⟩), (fun hq => ⟨hq, trivial⟩), (fun hg => ⟨hg, o1, trivial⟩), (fun hg => ⟨(g_r06_inside_ok N ((c.getD ((i).toNat) Tapi_Call.d).f_Work) 1 1000 rinside7 (condT hr9 hg)), hg, trivial⟩), (fun hg => ⟨hg, trivial⟩), (fun hq => ⟨hq, trivial⟩), (fun hg => ⟨hg, o1, trivial⟩), (fun hg => ⟨(g_r06_inside_ok N ((c.getD ((i).toNat) Tapi_Call.d).f_Late) 0 1000000000 rinside8 (condT hr10 hg)), hg, trivial⟩), (fun hg => ⟨hg, trivial⟩), (fun hq => ⟨hq, trivial⟩), trivial⟩ ?_
            refine Runs.sC 71 (C_65 59710) (C_65 59711) (cond (cond (cond (!rinside5) true (!rinside6)) true (!rinside7)) true (!rinside8)) (fun hq7 => ?_) (fun hq7 => ?_)
            · have h := condT h hq7
              refine Runs.sA 1 [.code (C_65 119420), .code (C_65 119421), .inBlock 1, .code (C_65 467), .inLoop (C_65 116), .inBlock 0, .code (C_65 15)] ?_
              refine Runs.sR hE ⟨[(2, (aI 2))], [], 1040⟩ (C_65 119420) [] [] (kp [2]) [] 1040 [] trivial ?_
              obtain rfl := Option.some.inj h
              refine Runs.sW hE ⟨[(2, (aI 2))], [], 1040⟩ [] (kp [2]) [] 1040 [] trivial ?_
              exact Runs.sT Try.f19 [] [] trivial
            · have h := condF h hq7
              refine Runs.sA 2 [.code (C_65 467), .inLoop (C_65 116), .inBlock 0, .code (C_65 15)] ?_
              refine Runs.sR hE ⟨[(0, (encL Tapi_Call.cells Tapi_Call.d c)), (3, (aI (w64 (i + 1))))], [], 1072⟩ (C_65 467) [] [] (kp [0, 3]) [] 1072 [] trivial ?_
              refine Runs.sA 1 [.code (C_65 116), .inLoop (C_65 116), .inBlock 0, .code (C_65 15)] ?_
              exact Runs.sW hE _ [] (kp [0, 3]) [] 0 [] trivial (ih (w64 (i + 1)) _ h E hE)
    · have h := condF h hq3
      refine Runs.sA 2 [.code (C_65 30), .code (C_65 31)] ?_
      refine Runs.sR hE ⟨[(2, (aI 0))], [], 80⟩ (C_65 30) [] [] (kp [2]) [] 80 [] trivial ?_
      obtain rfl := Option.some.inj h
      refine Runs.sW hE ⟨[(2, (aI 0))], [], 80⟩ [] (kp [2]) [] 80 [] trivial ?_
      exact Runs.sT Try.f19 [] [] trivial

theorem g_r06_CheckCalls_ok (N : Nat) (c : List Tapi_Call) (r : Int) (h : g_r06_CheckCalls N c = some r) : Sound Try.prog 19 [(encL Tapi_Call.cells Tapi_Call.d c)] [] 0 (aI r) [] := by
  unfold g_r06_CheckCalls at h
  refine Sound.of_runs (fu := Try.f19) (c := C_65 1) (nt := 72) (by kernel_rfl) (by kernel_rfl) (by kernel_rfl) (by kernel_rfl) (fun hm => rfl) ?_
  intro E hE
  refine Runs.sA 1 [.code (C_65 2), .code (C_65 3)] ?_
  refine Runs.sR hE ⟨[(0, (encL Tapi_Call.cells Tapi_Call.d c))], [], 16⟩ (C_65 2) [] [] (kp [0]) [] 16 [] trivial ?_
  refine Runs.sA 2 [.code (C_65 12), .code (C_65 13), .code (C_65 7)] ?_
  refine Runs.sR hE ⟨[(0, (encL Tapi_Call.cells Tapi_Call.d c)), (7, (aB (decide (((c.length : Nat) : Int) > 8))))], [], 64⟩ (C_65 12) [] [] (kp [0, 7]) [] 64 [] trivial ?_
  refine Runs.sC 7 (C_65 26) (C_65 27) (decide (((c.length : Nat) : Int) > 8)) (fun hq2 => ?_) (fun hq2 => ?_)
  · have h := condT h hq2
    refine Runs.sA 1 [.code (C_65 52), .code (C_65 53), .code (C_65 7)] ?_
    refine Runs.sR hE ⟨[(2, (aI 8))], [], 80⟩ (C_65 52) [] [] (kp [2]) [] 80 [] trivial ?_
    obtain rfl := Option.some.inj h
    refine Runs.sW hE ⟨[(2, (aI 8))], [], 80⟩ [] (kp [2]) [] 80 [] trivial ?_
    exact Runs.sT Try.f19 [] [] trivial
  · have h := condF h hq2
    refine Runs.sA 3 [.code (C_65 28), .code (C_65 29), .code (C_65 15)] ?_
    refine Runs.sR hE ⟨[(0, (encL Tapi_Call.cells Tapi_Call.d c)), (3, (aI 0))], [], 80⟩ (C_65 28) [] [] (kp [0, 3]) [] 80 [] trivial ?_
    refine Runs.sA 2 [.code (C_65 116), .inLoop (C_65 116), .inBlock 0, .code (C_65 15)] ?_
    exact Runs.sW hE _ [] (kp [0, 3]) [] 0 [] trivial (g_r06_CheckCalls_L1_ok N c N 0 _ h E hE)

noncomputable def C_62 (n : Nat) : Code := cat (bodyOf Try.f21) (pth n)

theorem g_r06_CheckBoth_ok (N : Nat) (d : Tapi_Dock) (c : List Tapi_Call) (r : Int) (h : g_r06_CheckBoth N d c = some r) : Sound Try.prog 21 [(.agg (Tapi_Dock.cells d)), (encL Tapi_Call.cells Tapi_Call.d c)] [] 0 (aI r) [] := by
  unfold g_r06_CheckBoth at h
  refine Sound.of_runs (fu := Try.f21) (c := C_62 1) (nt := 14) (by kernel_rfl) (by kernel_rfl) (by kernel_rfl) (by kernel_rfl) (fun hm => rfl) ?_
  intro E hE
  refine Runs.sA 1 [.code (C_62 2), .code (C_62 3)] ?_
  refine Runs.sR hE ⟨[(1, (encL Tapi_Call.cells Tapi_Call.d c)), (2, (.op 0 0 0))], [(0, vO 6 (Tapi_Dock.cells d))], 32⟩ (C_62 2) [] [] (kp [1, 2]) (kq [0]) 32 [] trivial ?_
  refine Runs.sA 2 [.code (C_62 12), .code (C_62 13), .code (C_62 7)] ?_
  obtain ⟨rCheckDocks, hr, h⟩ := bindSome h
  refine Runs.sR hE ⟨[(1, (encL Tapi_Call.cells Tapi_Call.d c)), (5, (aI rCheckDocks))], [], 96⟩ (C_62 12) [(2, ⟨[], true, (aI rCheckDocks), [], 0, false, none⟩)] [] (kp [1, 5]) [] 96 [0 < 1, Sound Try.prog 17 [(.sl 1 (fun zi => (fun zi => ([[(aS d.f_Name), (aI d.f_Length), (aI d.f_Width), (aI d.f_Sill), (aI d.f_Floor), (aI d.f_Gap)]] : List (List AV)).getD zi []) (addz 0 zi)))] [] 0 (aI rCheckDocks) [], 0 + 1 ≤ 1] ⟨o1, (Sound.conv (g_r06_CheckDocks_ok N ([d] : List Tapi_Dock) rCheckDocks hr) (.cons (Alike.sl rfl (fun zq hzq => get_chunk Tapi_Dock.cells Tapi_Dock.d ([d] : List Tapi_Dock) zq hzq)) .nil)), z0, trivial⟩ ?_
  refine Runs.sA 1 [.code (C_62 26), .code (C_62 27), .code (C_62 7)] ?_
  refine Runs.sR hE ⟨[(1, (encL Tapi_Call.cells Tapi_Call.d c)), (5, (aI rCheckDocks)), (10, (aB (rCheckDocks != 0)))], [], 128⟩ (C_62 26) [] [] (kp [1, 5, 10]) [] 128 [] trivial ?_
  refine Runs.sC 10 (C_62 54) (C_62 55) (rCheckDocks != 0) (fun hq2 => ?_) (fun hq2 => ?_)
  · have h := condT h hq2
    refine Runs.sA 1 [.code (C_62 108), .code (C_62 109), .code (C_62 7)] ?_
    refine Runs.sR hE ⟨[(4, (aI rCheckDocks))], [], 160⟩ (C_62 108) [] [] (kp [4]) [] 160 [] trivial ?_
    obtain rfl := Option.some.inj h
    refine Runs.sW hE ⟨[(4, (aI rCheckDocks))], [], 160⟩ [] (kp [4]) [] 160 [] trivial ?_
    exact Runs.sT Try.f21 [] [] trivial
  · have h := condF h hq2
    refine Runs.sA 2 [.code (C_62 14), .code (C_62 15)] ?_
    obtain ⟨rCheckCalls, hr2, h⟩ := bindSome h
    refine Runs.sR hE ⟨[(4, (aI rCheckCalls))], [], 176⟩ (C_62 14) [(1, ⟨[], true, (aI rCheckCalls), [], 0, false, none⟩)] [] (kp [4]) [] 176 [Sound Try.prog 19 [(encL Tapi_Call.cells Tapi_Call.d c)] [] 0 (aI rCheckCalls) []] ⟨(g_r06_CheckCalls_ok N c rCheckCalls hr2), trivial⟩ ?_
    obtain rfl := Option.some.inj h
    refine Runs.sW hE ⟨[(4, (aI rCheckCalls))], [], 176⟩ [] (kp [4]) [] 176 [] trivial ?_
    exact Runs.sT Try.f21 [] [] trivial

noncomputable def C_67 (n : Nat) : Code := cat (bodyOf Try.f76) (pth n)

theorem g_r06_within_ok (N : Nat) (d : Tapi_Dock) (c : Tapi_Call) (s : Tapi_Spot) (r : Bool) (h : g_r06_within N d c s = some r) : Sound Try.prog 76 [(.agg (Tapi_Dock.cells d)), (.agg (Tapi_Call.cells c)), (.agg (Tapi_Spot.cells s))] [] 0 (aB r) [] := by
  unfold g_r06_within at h
  refine Sound.of_runs (fu := Try.f76) (c := C_67 1) (nt := 45) (by kernel_rfl) (by kernel_rfl) (by kernel_rfl) (by kernel_rfl) (fun hm => rfl) ?_
  intro E hE
  refine Runs.sA 1 [.code (C_67 2), .code (C_67 3)] ?_
  refine Runs.sR hE ⟨[(3, (.op 0 0 0)), (4, (.op 16 0 0)), (5, (.op 32 0 0))], [(0, vO 6 (Tapi_Dock.cells d)), (16, vO 9 (Tapi_Call.cells c)), (32, vO 3 (Tapi_Spot.cells s))], 64⟩ (C_67 2) [] [] (kp [3, 4, 5]) (kq [0, 16, 32]) 64 [] trivial ?_
  refine Runs.sA 1 [.code (C_67 6), .code (C_67 7)] ?_
  refine Runs.sR hE ⟨[(6, (aB (cond (cond (cond (decide (s.f_X ≥ d.f_Gap)) (decide (s.f_Y ≥ d.f_Gap)) false) (decide ((w64 ((w64 (s.f_X + c.f_Length)) + d.f_Gap)) ≤ d.f_Length)) false) (decide ((w64 ((w64 (s.f_Y + c.f_Beam)) + d.f_Gap)) ≤ d.f_Width)) false)))], [], 688⟩ (C_67 6) [] [] (kp [6]) [] 688 [0 < 1, 0 < 1, (decide (s.f_X ≥ d.f_Gap)) = true → AllP [(decide (s.f_X ≥ d.f_Gap)) = true, 0 < 1], (decide (s.f_X ≥ d.f_Gap)) = true → AllP [(decide (s.f_X ≥ d.f_Gap)) = true, 0 < 1], (decide (s.f_X ≥ d.f_Gap)) = true → AllP [(decide (s.f_X ≥ d.f_Gap)) = true, (decide (s.f_X ≥ d.f_Gap)) = true], (decide (s.f_X ≥ d.f_Gap)) = true → AllP [(decide (s.f_X ≥ d.f_Gap)) = true], (cond (decide (s.f_X ≥ d.f_Gap)) (decide (s.f_Y ≥ d.f_Gap)) false) = true → AllP [(cond (decide (s.f_X ≥ d.f_Gap)) (decide (s.f_Y ≥ d.f_Gap)) false) = true, 0 < 1], (cond (decide (s.f_X ≥ d.f_Gap)) (decide (s.f_Y ≥ d.f_Gap)) false) = true → AllP [(cond (decide (s.f_X ≥ d.f_Gap)) (decide (s.f_Y ≥ d.f_Gap)) false) = true, 0 < 1], (cond (decide (s.f_X ≥ d.f_Gap)) (decide (s.f_Y ≥ d.f_Gap)) false) = true → AllP [(cond (decide (s.f_X ≥ d.f_Gap)) (decide (s.f_Y ≥ d.f_Gap)) false) = true, (cond (decide (s.f_X ≥ d.f_Gap)) (decide (s.f_Y ≥ d.f_Gap)) false) = true], (cond (decide (s.f_X ≥ d.f_Gap)) (decide (s.f_Y ≥ d.f_Gap)) false) = true → AllP [(cond (decide (s.f_X ≥ d.f_Gap)) (decide (s.f_Y ≥ d.f_Gap)) false) = true, 0 < 1], (cond (decide (s.f_X ≥ d.f_Gap)) (decide (s.f_Y ≥ d.f_Gap)) false) = true → AllP [(cond (decide (s.f_X ≥ d.f_Gap)) (decide (s.f_Y ≥ d.f_Gap)) false) = true, (cond (decide (s.f_X ≥ d.f_Gap)) (decide (s.f_Y ≥ d.f_Gap)) false) = true], (cond (decide (s.f_X ≥ d.f_Gap)) (decide (s.f_Y ≥ d.f_Gap)) false) = true → AllP [(cond (decide (s.f_X ≥ d.f_Gap)) (decide (s.f_Y ≥ d.f_Gap)) false) = true, 0 < 1], (cond (decide (s.f_X ≥ d.f_Gap)) (decide (s.f_Y ≥ d.f_Gap)) false) = true → AllP [(cond (decide (s.f_X ≥ d.f_Gap)) (decide (s.f_Y ≥ d.f_Gap)) false) = true, (cond (decide (s.f_X ≥ d.f_Gap)) (decide (s.f_Y ≥ d.f_Gap)) false) = true], (cond (decide (s.f_X ≥ d.f_Gap)) (decide (s.f_Y ≥ d.f_Gap)) false) = true → AllP [(cond (decide (s.f_X ≥ d.f_Gap)) (decide (s.f_Y ≥ d.f_Gap)) false) = true], (cond (cond (decide (s.f_X ≥ d.f_Gap)) (decide (s.f_Y ≥ d.f_Gap)) false) (decide ((w64 ((w64 (s.f_X + c.f_Length)) + d.f_Gap)) ≤ d.f_Length)) false) = true → AllP [(cond (cond (decide (s.f_X ≥ d.f_Gap)) (decide (s.f_Y ≥ d.f_Gap)) false) (decide ((w64 ((w64 (s.f_X + c.f_Length)) + d.f_Gap)) ≤ d.f_Length)) false) = true, 0 < 1], (cond (cond (decide (s.f_X ≥ d.f_Gap)) (decide (s.f_Y ≥ d.f_Gap)) false) (decide ((w64 ((w64 (s.f_X + c.f_Length)) + d.f_Gap)) ≤ d.f_Length)) false) = true → AllP [(cond (cond (decide (s.f_X ≥ d.f_Gap)) (decide (s.f_Y ≥ d.f_Gap)) false) (decide ((w64 ((w64 (s.f_X + c.f_Length)) + d.f_Gap)) ≤ d.f_Length)) false) = true, 0 < 1], (cond (cond (decide (s.f_X ≥ d.f_Gap)) (decide (s.f_Y ≥ d.f_Gap)) false) (decide ((w64 ((w64 (s.f_X + c.f_Length)) + d.f_Gap)) ≤ d.f_Length)) false) = true → AllP [(cond (cond (decide (s.f_X ≥ d.f_Gap)) (decide (s.f_Y ≥ d.f_Gap)) false) (decide ((w64 ((w64 (s.f_X + c.f_Length)) + d.f_Gap)) ≤ d.f_Length)) false) = true, (cond (cond (decide (s.f_X ≥ d.f_Gap)) (decide (s.f_Y ≥ d.f_Gap)) false) (decide ((w64 ((w64 (s.f_X + c.f_Length)) + d.f_Gap)) ≤ d.f_Length)) false) = true], (cond (cond (decide (s.f_X ≥ d.f_Gap)) (decide (s.f_Y ≥ d.f_Gap)) false) (decide ((w64 ((w64 (s.f_X + c.f_Length)) + d.f_Gap)) ≤ d.f_Length)) false) = true → AllP [(cond (cond (decide (s.f_X ≥ d.f_Gap)) (decide (s.f_Y ≥ d.f_Gap)) false) (decide ((w64 ((w64 (s.f_X + c.f_Length)) + d.f_Gap)) ≤ d.f_Length)) false) = true, 0 < 1], (cond (cond (decide (s.f_X ≥ d.f_Gap)) (decide (s.f_Y ≥ d.f_Gap)) false) (decide ((w64 ((w64 (s.f_X + c.f_Length)) + d.f_Gap)) ≤ d.f_Length)) false) = true → AllP [(cond (cond (decide (s.f_X ≥ d.f_Gap)) (decide (s.f_Y ≥ d.f_Gap)) false) (decide ((w64 ((w64 (s.f_X + c.f_Length)) + d.f_Gap)) ≤ d.f_Length)) false) = true, (cond (cond (decide (s.f_X ≥ d.f_Gap)) (decide (s.f_Y ≥ d.f_Gap)) false) (decide ((w64 ((w64 (s.f_X + c.f_Length)) + d.f_Gap)) ≤ d.f_Length)) false) = true], (cond (cond (decide (s.f_X ≥ d.f_Gap)) (decide (s.f_Y ≥ d.f_Gap)) false) (decide ((w64 ((w64 (s.f_X + c.f_Length)) + d.f_Gap)) ≤ d.f_Length)) false) = true → AllP [(cond (cond (decide (s.f_X ≥ d.f_Gap)) (decide (s.f_Y ≥ d.f_Gap)) false) (decide ((w64 ((w64 (s.f_X + c.f_Length)) + d.f_Gap)) ≤ d.f_Length)) false) = true, 0 < 1], (cond (cond (decide (s.f_X ≥ d.f_Gap)) (decide (s.f_Y ≥ d.f_Gap)) false) (decide ((w64 ((w64 (s.f_X + c.f_Length)) + d.f_Gap)) ≤ d.f_Length)) false) = true → AllP [(cond (cond (decide (s.f_X ≥ d.f_Gap)) (decide (s.f_Y ≥ d.f_Gap)) false) (decide ((w64 ((w64 (s.f_X + c.f_Length)) + d.f_Gap)) ≤ d.f_Length)) false) = true, (cond (cond (decide (s.f_X ≥ d.f_Gap)) (decide (s.f_Y ≥ d.f_Gap)) false) (decide ((w64 ((w64 (s.f_X + c.f_Length)) + d.f_Gap)) ≤ d.f_Length)) false) = true], (cond (cond (decide (s.f_X ≥ d.f_Gap)) (decide (s.f_Y ≥ d.f_Gap)) false) (decide ((w64 ((w64 (s.f_X + c.f_Length)) + d.f_Gap)) ≤ d.f_Length)) false) = true → AllP [(cond (cond (decide (s.f_X ≥ d.f_Gap)) (decide (s.f_Y ≥ d.f_Gap)) false) (decide ((w64 ((w64 (s.f_X + c.f_Length)) + d.f_Gap)) ≤ d.f_Length)) false) = true]] ⟨o1, o1, (fun hg => ⟨hg, o1, trivial⟩), (fun hg => ⟨hg, o1, trivial⟩), (fun hg => ⟨hg, hg, trivial⟩), (fun hq => ⟨hq, trivial⟩), (fun hg => ⟨hg, o1, trivial⟩), (fun hg => ⟨hg, o1, trivial⟩), (fun hg => ⟨hg, hg, trivial⟩), (fun hg => ⟨hg, o1, trivial⟩), (fun hg => ⟨hg, hg, trivial⟩), (fun hg => ⟨hg, o1, trivial⟩), (fun hg => ⟨hg, hg, trivial⟩), (fun hq => ⟨hq, trivial⟩), (fun hg => ⟨hg, o1, trivial⟩), (fun hg => ⟨hg, o1, trivial⟩), (fun hg => ⟨hg, hg, trivial⟩), (fun hg => ⟨hg, o1, trivial⟩), (fun hg => ⟨hg, hg, trivial⟩), (fun hg => ⟨hg, o1, trivial⟩), (fun hg => ⟨hg, hg, trivial⟩), (fun hq => ⟨hq, trivial⟩), trivial⟩ ?_
  obtain rfl := Option.some.inj h
  refine Runs.sW hE ⟨[(6, (aB (cond (cond (cond (decide (s.f_X ≥ d.f_Gap)) (decide (s.f_Y ≥ d.f_Gap)) false) (decide ((w64 ((w64 (s.f_X + c.f_Length)) + d.f_Gap)) ≤ d.f_Length)) false) (decide ((w64 ((w64 (s.f_Y + c.f_Beam)) + d.f_Gap)) ≤ d.f_Width)) false)))], [], 688⟩ [] (kp [6]) [] 688 [] trivial ?_
  exact Runs.sT Try.f76 [] [] trivial

noncomputable def C_68 (n : Nat) : Code := cat (bodyOf Try.f77) (pth n)

theorem g_r06_apart_ok (N : Nat) (d : Tapi_Dock) (a : Tapi_Call) (b : Tapi_Call) (s : Tapi_Spot) (t : Tapi_Spot) (r : Bool) (h : g_r06_apart N d a b s t = some r) : Sound Try.prog 77 [(.agg (Tapi_Dock.cells d)), (.agg (Tapi_Call.cells a)), (.agg (Tapi_Call.cells b)), (.agg (Tapi_Spot.cells s)), (.agg (Tapi_Spot.cells t))] [] 0 (aB r) [] := by
  unfold g_r06_apart at h
  refine Sound.of_runs (fu := Try.f77) (c := C_68 1) (nt := 61) (by kernel_rfl) (by kernel_rfl) (by kernel_rfl) (by kernel_rfl) (fun hm => rfl) ?_
  intro E hE
  refine Runs.sA 1 [.code (C_68 2), .code (C_68 3)] ?_
  refine Runs.sR hE ⟨[(5, (.op 0 0 0)), (6, (.op 16 0 0)), (7, (.op 32 0 0)), (8, (.op 48 0 0)), (9, (.op 64 0 0))], [(0, vO 6 (Tapi_Dock.cells d)), (16, vO 9 (Tapi_Call.cells a)), (32, vO 9 (Tapi_Call.cells b)), (48, vO 3 (Tapi_Spot.cells s)), (64, vO 3 (Tapi_Spot.cells t))], 96⟩ (C_68 2) [] [] (kp [5, 6, 7, 8, 9]) (kq [0, 16, 32, 48, 64]) 96 [] trivial ?_
  refine Runs.sA 1 [.code (C_68 6), .code (C_68 7)] ?_
  refine Runs.sR hE ⟨[(10, (aB (cond (cond (cond (decide ((w64 ((w64 (s.f_X + a.f_Length)) + d.f_Gap)) ≤ t.f_X)) true (decide ((w64 ((w64 (t.f_X + b.f_Length)) + d.f_Gap)) ≤ s.f_X))) true (decide ((w64 ((w64 (s.f_Y + a.f_Beam)) + d.f_Gap)) ≤ t.f_Y))) true (decide ((w64 ((w64 (t.f_Y + b.f_Beam)) + d.f_Gap)) ≤ s.f_Y)))))], [], 912⟩ (C_68 6) [] [] (kp [10]) [] 912 [0 < 1, 0 < 1, 0 < 1, 0 < 1, (!(decide ((w64 ((w64 (s.f_X + a.f_Length)) + d.f_Gap)) ≤ t.f_X))) = true → AllP [(!(decide ((w64 ((w64 (s.f_X + a.f_Length)) + d.f_Gap)) ≤ t.f_X))) = true, 0 < 1], (!(decide ((w64 ((w64 (s.f_X + a.f_Length)) + d.f_Gap)) ≤ t.f_X))) = true → AllP [(!(decide ((w64 ((w64 (s.f_X + a.f_Length)) + d.f_Gap)) ≤ t.f_X))) = true, 0 < 1], (!(decide ((w64 ((w64 (s.f_X + a.f_Length)) + d.f_Gap)) ≤ t.f_X))) = true → AllP [(!(decide ((w64 ((w64 (s.f_X + a.f_Length)) + d.f_Gap)) ≤ t.f_X))) = true, (!(decide ((w64 ((w64 (s.f_X + a.f_Length)) + d.f_Gap)) ≤ t.f_X))) = true], (!(decide ((w64 ((w64 (s.f_X + a.f_Length)) + d.f_Gap)) ≤ t.f_X))) = true → AllP [(!(decide ((w64 ((w64 (s.f_X + a.f_Length)) + d.f_Gap)) ≤ t.f_X))) = true, 0 < 1], (!(decide ((w64 ((w64 (s.f_X + a.f_Length)) + d.f_Gap)) ≤ t.f_X))) = true → AllP [(!(decide ((w64 ((w64 (s.f_X + a.f_Length)) + d.f_Gap)) ≤ t.f_X))) = true, (!(decide ((w64 ((w64 (s.f_X + a.f_Length)) + d.f_Gap)) ≤ t.f_X))) = true], (!(decide ((w64 ((w64 (s.f_X + a.f_Length)) + d.f_Gap)) ≤ t.f_X))) = true → AllP [(!(decide ((w64 ((w64 (s.f_X + a.f_Length)) + d.f_Gap)) ≤ t.f_X))) = true, 0 < 1], (!(decide ((w64 ((w64 (s.f_X + a.f_Length)) + d.f_Gap)) ≤ t.f_X))) = true → AllP [(!(decide ((w64 ((w64 (s.f_X + a.f_Length)) + d.f_Gap)) ≤ t.f_X))) = true, (!(decide ((w64 ((w64 (s.f_X + a.f_Length)) + d.f_Gap)) ≤ t.f_X))) = true], (!(decide ((w64 ((w64 (s.f_X + a.f_Length)) + d.f_Gap)) ≤ t.f_X))) = true → AllP [(!(decide ((w64 ((w64 (s.f_X + a.f_Length)) + d.f_Gap)) ≤ t.f_X))) = true], (!(cond (decide ((w64 ((w64 (s.f_X + a.f_Length)) + d.f_Gap)) ≤ t.f_X)) true (decide ((w64 ((w64 (t.f_X + b.f_Length)) + d.f_Gap)) ≤ s.f_X)))) = true → AllP [(!(cond (decide ((w64 ((w64 (s.f_X + a.f_Length)) + d.f_Gap)) ≤ t.f_X)) true (decide ((w64 ((w64 (t.f_X + b.f_Length)) + d.f_Gap)) ≤ s.f_X)))) = true, 0 < 1], (!(cond (decide ((w64 ((w64 (s.f_X + a.f_Length)) + d.f_Gap)) ≤ t.f_X)) true (decide ((w64 ((w64 (t.f_X + b.f_Length)) + d.f_Gap)) ≤ s.f_X)))) = true → AllP [(!(cond (decide ((w64 ((w64 (s.f_X + a.f_Length)) + d.f_Gap)) ≤ t.f_X)) true (decide ((w64 ((w64 (t.f_X + b.f_Length)) + d.f_Gap)) ≤ s.f_X)))) = true, 0 < 1], (!(cond (decide ((w64 ((w64 (s.f_X + a.f_Length)) + d.f_Gap)) ≤ t.f_X)) true (decide ((w64 ((w64 (t.f_X + b.f_Length)) + d.f_Gap)) ≤ s.f_X)))) = true → AllP [(!(cond (decide ((w64 ((w64 (s.f_X + a.f_Length)) + d.f_Gap)) ≤ t.f_X)) true (decide ((w64 ((w64 (t.f_X + b.f_Length)) + d.f_Gap)) ≤ s.f_X)))) = true, (!(cond (decide ((w64 ((w64 (s.f_X + a.f_Length)) + d.f_Gap)) ≤ t.f_X)) true (decide ((w64 ((w64 (t.f_X + b.f_Length)) + d.f_Gap)) ≤ s.f_X)))) = true], (!(cond (decide ((w64 ((w64 (s.f_X + a.f_Length)) + d.f_Gap)) ≤ t.f_X)) true (decide ((w64 ((w64 (t.f_X + b.f_Length)) + d.f_Gap)) ≤ s.f_X)))) = true → AllP [(!(cond (decide ((w64 ((w64 (s.f_X + a.f_Length)) + d.f_Gap)) ≤ t.f_X)) true (decide ((w64 ((w64 (t.f_X + b.f_Length)) + d.f_Gap)) ≤ s.f_X)))) = true, 0 < 1], (!(cond (decide ((w64 ((w64 (s.f_X + a.f_Length)) + d.f_Gap)) ≤ t.f_X)) true (decide ((w64 ((w64 (t.f_X + b.f_Length)) + d.f_Gap)) ≤ s.f_X)))) = true → AllP [(!(cond (decide ((w64 ((w64 (s.f_X + a.f_Length)) + d.f_Gap)) ≤ t.f_X)) true (decide ((w64 ((w64 (t.f_X + b.f_Length)) + d.f_Gap)) ≤ s.f_X)))) = true, (!(cond (decide ((w64 ((w64 (s.f_X + a.f_Length)) + d.f_Gap)) ≤ t.f_X)) true (decide ((w64 ((w64 (t.f_X + b.f_Length)) + d.f_Gap)) ≤ s.f_X)))) = true], (!(cond (decide ((w64 ((w64 (s.f_X + a.f_Length)) + d.f_Gap)) ≤ t.f_X)) true (decide ((w64 ((w64 (t.f_X + b.f_Length)) + d.f_Gap)) ≤ s.f_X)))) = true → AllP [(!(cond (decide ((w64 ((w64 (s.f_X + a.f_Length)) + d.f_Gap)) ≤ t.f_X)) true (decide ((w64 ((w64 (t.f_X + b.f_Length)) + d.f_Gap)) ≤ s.f_X)))) = true, 0 < 1], (!(cond (decide ((w64 ((w64 (s.f_X + a.f_Length)) + d.f_Gap)) ≤ t.f_X)) true (decide ((w64 ((w64 (t.f_X + b.f_Length)) + d.f_Gap)) ≤ s.f_X)))) = true → AllP [(!(cond (decide ((w64 ((w64 (s.f_X + a.f_Length)) + d.f_Gap)) ≤ t.f_X)) true (decide ((w64 ((w64 (t.f_X + b.f_Length)) + d.f_Gap)) ≤ s.f_X)))) = true, (!(cond (decide ((w64 ((w64 (s.f_X + a.f_Length)) + d.f_Gap)) ≤ t.f_X)) true (decide ((w64 ((w64 (t.f_X + b.f_Length)) + d.f_Gap)) ≤ s.f_X)))) = true], (!(cond (decide ((w64 ((w64 (s.f_X + a.f_Length)) + d.f_Gap)) ≤ t.f_X)) true (decide ((w64 ((w64 (t.f_X + b.f_Length)) + d.f_Gap)) ≤ s.f_X)))) = true → AllP [(!(cond (decide ((w64 ((w64 (s.f_X + a.f_Length)) + d.f_Gap)) ≤ t.f_X)) true (decide ((w64 ((w64 (t.f_X + b.f_Length)) + d.f_Gap)) ≤ s.f_X)))) = true], (!(cond (cond (decide ((w64 ((w64 (s.f_X + a.f_Length)) + d.f_Gap)) ≤ t.f_X)) true (decide ((w64 ((w64 (t.f_X + b.f_Length)) + d.f_Gap)) ≤ s.f_X))) true (decide ((w64 ((w64 (s.f_Y + a.f_Beam)) + d.f_Gap)) ≤ t.f_Y)))) = true → AllP [(!(cond (cond (decide ((w64 ((w64 (s.f_X + a.f_Length)) + d.f_Gap)) ≤ t.f_X)) true (decide ((w64 ((w64 (t.f_X + b.f_Length)) + d.f_Gap)) ≤ s.f_X))) true (decide ((w64 ((w64 (s.f_Y + a.f_Beam)) + d.f_Gap)) ≤ t.f_Y)))) = true, 0 < 1], (!(cond (cond (decide ((w64 ((w64 (s.f_X + a.f_Length)) + d.f_Gap)) ≤ t.f_X)) true (decide ((w64 ((w64 (t.f_X + b.f_Length)) + d.f_Gap)) ≤ s.f_X))) true (decide ((w64 ((w64 (s.f_Y + a.f_Beam)) + d.f_Gap)) ≤ t.f_Y)))) = true → AllP [(!(cond (cond (decide ((w64 ((w64 (s.f_X + a.f_Length)) + d.f_Gap)) ≤ t.f_X)) true (decide ((w64 ((w64 (t.f_X + b.f_Length)) + d.f_Gap)) ≤ s.f_X))) true (decide ((w64 ((w64 (s.f_Y + a.f_Beam)) + d.f_Gap)) ≤ t.f_Y)))) = true, 0 < 1], (!(cond (cond (decide ((w64 ((w64 (s.f_X + a.f_Length)) + d.f_Gap)) ≤ t.f_X)) true (decide ((w64 ((w64 (t.f_X + b.f_Length)) + d.f_Gap)) ≤ s.f_X))) true (decide ((w64 ((w64 (s.f_Y + a.f_Beam)) + d.f_Gap)) ≤ t.f_Y)))) = true → AllP [(!(cond (cond (decide ((w64 ((w64 (s.f_X + a.f_Length)) + d.f_Gap)) ≤ t.f_X)) true (decide ((w64 ((w64 (t.f_X + b.f_Length)) + d.f_Gap)) ≤ s.f_X))) true (decide ((w64 ((w64 (s.f_Y + a.f_Beam)) + d.f_Gap)) ≤ t.f_Y)))) = true, (!(cond (cond (decide ((w64 ((w64 (s.f_X + a.f_Length)) + d.f_Gap)) ≤ t.f_X)) true (decide ((w64 ((w64 (t.f_X + b.f_Length)) + d.f_Gap)) ≤ s.f_X))) true (decide ((w64 ((w64 (s.f_Y + a.f_Beam)) + d.f_Gap)) ≤ t.f_Y)))) = true], (!(cond (cond (decide ((w64 ((w64 (s.f_X + a.f_Length)) + d.f_Gap)) ≤ t.f_X)) true (decide ((w64 ((w64 (t.f_X + b.f_Length)) + d.f_Gap)) ≤ s.f_X))) true (decide ((w64 ((w64 (s.f_Y + a.f_Beam)) + d.f_Gap)) ≤ t.f_Y)))) = true → AllP [(!(cond (cond (decide ((w64 ((w64 (s.f_X + a.f_Length)) + d.f_Gap)) ≤ t.f_X)) true (decide ((w64 ((w64 (t.f_X + b.f_Length)) + d.f_Gap)) ≤ s.f_X))) true (decide ((w64 ((w64 (s.f_Y + a.f_Beam)) + d.f_Gap)) ≤ t.f_Y)))) = true, 0 < 1], (!(cond (cond (decide ((w64 ((w64 (s.f_X + a.f_Length)) + d.f_Gap)) ≤ t.f_X)) true (decide ((w64 ((w64 (t.f_X + b.f_Length)) + d.f_Gap)) ≤ s.f_X))) true (decide ((w64 ((w64 (s.f_Y + a.f_Beam)) + d.f_Gap)) ≤ t.f_Y)))) = true → AllP [(!(cond (cond (decide ((w64 ((w64 (s.f_X + a.f_Length)) + d.f_Gap)) ≤ t.f_X)) true (decide ((w64 ((w64 (t.f_X + b.f_Length)) + d.f_Gap)) ≤ s.f_X))) true (decide ((w64 ((w64 (s.f_Y + a.f_Beam)) + d.f_Gap)) ≤ t.f_Y)))) = true, (!(cond (cond (decide ((w64 ((w64 (s.f_X + a.f_Length)) + d.f_Gap)) ≤ t.f_X)) true (decide ((w64 ((w64 (t.f_X + b.f_Length)) + d.f_Gap)) ≤ s.f_X))) true (decide ((w64 ((w64 (s.f_Y + a.f_Beam)) + d.f_Gap)) ≤ t.f_Y)))) = true], (!(cond (cond (decide ((w64 ((w64 (s.f_X + a.f_Length)) + d.f_Gap)) ≤ t.f_X)) true (decide ((w64 ((w64 (t.f_X + b.f_Length)) + d.f_Gap)) ≤ s.f_X))) true (decide ((w64 ((w64 (s.f_Y + a.f_Beam)) + d.f_Gap)) ≤ t.f_Y)))) = true → AllP [(!(cond (cond (decide ((w64 ((w64 (s.f_X + a.f_Length)) + d.f_Gap)) ≤ t.f_X)) true (decide ((w64 ((w64 (t.f_X + b.f_Length)) + d.f_Gap)) ≤ s.f_X))) true (decide ((w64 ((w64 (s.f_Y + a.f_Beam)) + d.f_Gap)) ≤ t.f_Y)))) = true, 0 < 1], (!(cond (cond (decide ((w64 ((w64 (s.f_X + a.f_Length)) + d.f_Gap)) ≤ t.f_X)) true (decide ((w64 ((w64 (t.f_X + b.f_Length)) + d.f_Gap)) ≤ s.f_X))) true (decide ((w64 ((w64 (s.f_Y + a.f_Beam)) + d.f_Gap)) ≤ t.f_Y)))) = true → AllP [(!(cond (cond (decide ((w64 ((w64 (s.f_X + a.f_Length)) + d.f_Gap)) ≤ t.f_X)) true (decide ((w64 ((w64 (t.f_X + b.f_Length)) + d.f_Gap)) ≤ s.f_X))) true (decide ((w64 ((w64 (s.f_Y + a.f_Beam)) + d.f_Gap)) ≤ t.f_Y)))) = true, (!(cond (cond (decide ((w64 ((w64 (s.f_X + a.f_Length)) + d.f_Gap)) ≤ t.f_X)) true (decide ((w64 ((w64 (t.f_X + b.f_Length)) + d.f_Gap)) ≤ s.f_X))) true (decide ((w64 ((w64 (s.f_Y + a.f_Beam)) + d.f_Gap)) ≤ t.f_Y)))) = true], (!(cond (cond (decide ((w64 ((w64 (s.f_X + a.f_Length)) + d.f_Gap)) ≤ t.f_X)) true (decide ((w64 ((w64 (t.f_X + b.f_Length)) + d.f_Gap)) ≤ s.f_X))) true (decide ((w64 ((w64 (s.f_Y + a.f_Beam)) + d.f_Gap)) ≤ t.f_Y)))) = true → AllP [(!(cond (cond (decide ((w64 ((w64 (s.f_X + a.f_Length)) + d.f_Gap)) ≤ t.f_X)) true (decide ((w64 ((w64 (t.f_X + b.f_Length)) + d.f_Gap)) ≤ s.f_X))) true (decide ((w64 ((w64 (s.f_Y + a.f_Beam)) + d.f_Gap)) ≤ t.f_Y)))) = true]] ⟨o1, o1, o1, o1, (fun hg => ⟨hg, o1, trivial⟩), (fun hg => ⟨hg, o1, trivial⟩), (fun hg => ⟨hg, hg, trivial⟩), (fun hg => ⟨hg, o1, trivial⟩), (fun hg => ⟨hg, hg, trivial⟩), (fun hg => ⟨hg, o1, trivial⟩), (fun hg => ⟨hg, hg, trivial⟩), (fun hq => ⟨hq, trivial⟩), (fun hg => ⟨hg, o1, trivial⟩), (fun hg => ⟨hg, o1, trivial⟩), (fun hg => ⟨hg, hg, trivial⟩), (fun hg => ⟨hg, o1, trivial⟩), (fun hg => ⟨hg, hg, trivial⟩), (fun hg => ⟨hg, o1, trivial⟩), (fun hg => ⟨hg, hg, trivial⟩), (fun hq => ⟨hq, trivial⟩), (fun hg => ⟨hg, o1, trivial⟩), (fun hg => ⟨hg, o1, trivial⟩), (fun hg => ⟨hg, hg, trivial⟩), (fun hg => ⟨hg, o1, trivial⟩), (fun hg => ⟨hg, hg, trivial⟩), (fun hg => ⟨hg, o1, trivial⟩), (fun hg => ⟨hg, hg, trivial⟩), (fun hq => ⟨hq, trivial⟩), trivial⟩ ?_
  obtain rfl := Option.some.inj h
  refine Runs.sW hE ⟨[(10, (aB (cond (cond (cond (decide ((w64 ((w64 (s.f_X + a.f_Length)) + d.f_Gap)) ≤ t.f_X)) true (decide ((w64 ((w64 (t.f_X + b.f_Length)) + d.f_Gap)) ≤ s.f_X))) true (decide ((w64 ((w64 (s.f_Y + a.f_Beam)) + d.f_Gap)) ≤ t.f_Y))) true (decide ((w64 ((w64 (t.f_Y + b.f_Beam)) + d.f_Gap)) ≤ s.f_Y)))))], [], 912⟩ [] (kp [10]) [] 912 [] trivial ?_
  exact Runs.sT Try.f77 [] [] trivial

noncomputable def C_61 (n : Nat) : Code := cat (bodyOf Try.f37) (pth n)

theorem g_r06_CheckPlan_L2_ok (N : Nat) (d : Tapi_Dock) (c : List Tapi_Call) (s : List Tapi_Spot) (i : Int) (rCallOf : Int) (K_g_r06_CheckPlan_L1 : Int → Option (Int))
    (hK_g_r06_CheckPlan_L1 : ∀ (i : Int) (r : Int), K_g_r06_CheckPlan_L1 i = some r → ∀ E, EnvOk E 0 → Runs Try.prog E 37 124 (SPost E [] (aI r)) [.code (C_61 244), .inLoop (C_61 244), .inBlock 0, .code (C_61 31)] ⟨[(1, (encL Tapi_Call.cells Tapi_Call.d c)), (2, (encL Tapi_Spot.cells Tapi_Spot.d s)), (3, (.op 0 0 0)), (8, (aI i))], [(0, vO 6 (Tapi_Dock.cells d))], 1⟩) (fuel : Nat) : ∀ (j : Int) (r : Int), g_r06_CheckPlan_L2 N d c s i rCallOf K_g_r06_CheckPlan_L1 fuel j = some r → ∀ E, EnvOk E 0 → Runs Try.prog E 37 124 (SPost E [] (aI r)) [.code (C_61 125236), .inLoop (C_61 125236), .inBlock 2, .code (C_61 15655), .inBlock 1, .code (C_61 979), .inLoop (C_61 244), .inBlock 0, .code (C_61 31)] ⟨[(1, (encL Tapi_Call.cells Tapi_Call.d c)), (2, (encL Tapi_Spot.cells Tapi_Spot.d s)), (3, (.op 0 0 0)), (8, (aI i)), (9, (aI rCallOf)), (10, (aI j))], [(0, vO 6 (Tapi_Dock.cells d))], 1⟩ := by
  induction fuel with
  | zero => intro _ r h; rw [g_r06_CheckPlan_L2.eq_1] at h; cases h
  | succ fuel ih =>
    intro j r h E hE
    rw [g_r06_CheckPlan_L2.eq_2] at h
    refine Runs.sA 2 [.code (C_61 500944), .code (C_61 500945), .code (C_61 250473), .inLoop (C_61 125236), .inBlock 2, .code (C_61 15655), .inBlock 1, .code (C_61 979), .inLoop (C_61 244), .inBlock 0, .code (C_61 31)] ?_
    refine Runs.sR hE ⟨[(1, (encL Tapi_Call.cells Tapi_Call.d c)), (2, (encL Tapi_Spot.cells Tapi_Spot.d s)), (3, (.op 0 0 0)), (8, (aI i)), (9, (aI rCallOf)), (10, (aI j)), (41, (aB (decide (j < i))))], [(0, vO 6 (Tapi_Dock.cells d))], 49⟩ (C_61 500944) [] [] (kp [1, 2, 3, 8, 9, 10, 41]) (kq [0]) 49 [] trivial ?_
    refine Runs.sC 41 (C_61 1001890) (C_61 1001891) (decide (j < i)) (fun hq6 => ?_) (fun hq6 => ?_)
    · have h := condT h hq6
      refine Runs.sA 4 [.code (C_61 2003784), .code (C_61 2003785), .inBlock 3, .code (C_61 500947), .inLoop (C_61 125236), .inBlock 2, .code (C_61 15655), .inBlock 1, .code (C_61 979), .inLoop (C_61 244), .inBlock 0, .code (C_61 31)] ?_
      obtain ⟨c3, h⟩ := ifSome h
      obtain ⟨c4, h⟩ := ifSome h
      refine Runs.sR hE ⟨[(1, (encL Tapi_Call.cells Tapi_Call.d c)), (2, (encL Tapi_Spot.cells Tapi_Spot.d s)), (3, (.op 0 0 0)), (8, (aI i)), (9, (aI rCallOf)), (10, (aI j)), (54, (aB (streq ((s.getD ((j).toNat) Tapi_Spot.d).f_Call) ((s.getD ((i).toNat) Tapi_Spot.d).f_Call))))], [(0, vO 6 (Tapi_Dock.cells d))], 225⟩ (C_61 2003784) [] [] (kp [1, 2, 3, 8, 9, 10, 54]) (kq [0]) 225 [0 ≤ j ∧ j < ((s.length : Nat) : Int), 0 ≤ i ∧ i < ((s.length : Nat) : Int)] ⟨c3, c4, trivial⟩ ?_
      refine Runs.sC 54 (C_61 4007570) (C_61 4007571) (streq ((s.getD ((j).toNat) Tapi_Spot.d).f_Call) ((s.getD ((i).toNat) Tapi_Spot.d).f_Call)) (fun hq7 => ?_) (fun hq7 => ?_)
      · have h := condT h hq7
        refine Runs.sA 1 [.code (C_61 8015140), .code (C_61 8015141), .inBlock 3, .code (C_61 500947), .inLoop (C_61 125236), .inBlock 2, .code (C_61 15655), .inBlock 1, .code (C_61 979), .inLoop (C_61 244), .inBlock 0, .code (C_61 31)] ?_
        refine Runs.sR hE ⟨[(6, (aI 5))], [], 241⟩ (C_61 8015140) [] [] (kp [6]) [] 241 [] trivial ?_
        obtain rfl := Option.some.inj h
        refine Runs.sW hE ⟨[(6, (aI 5))], [], 241⟩ [] (kp [6]) [] 241 [] trivial ?_
        exact Runs.sT Try.f37 [] [] trivial
      · have h := condF h hq7
        refine Runs.sA 2 [.code (C_61 500947), .inLoop (C_61 125236), .inBlock 2, .code (C_61 15655), .inBlock 1, .code (C_61 979), .inLoop (C_61 244), .inBlock 0, .code (C_61 31)] ?_
        refine Runs.sR hE ⟨[(1, (encL Tapi_Call.cells Tapi_Call.d c)), (2, (encL Tapi_Spot.cells Tapi_Spot.d s)), (3, (.op 0 0 0)), (8, (aI i)), (9, (aI rCallOf)), (10, (aI (w64 (j + 1))))], [(0, vO 6 (Tapi_Dock.cells d))], 273⟩ (C_61 500947) [] [] (kp [1, 2, 3, 8, 9, 10]) (kq [0]) 273 [] trivial ?_
        refine Runs.sA 1 [.code (C_61 125236), .inLoop (C_61 125236), .inBlock 2, .code (C_61 15655), .inBlock 1, .code (C_61 979), .inLoop (C_61 244), .inBlock 0, .code (C_61 31)] ?_
        exact Runs.sW hE _ [] (kp [1, 2, 3, 8, 9, 10]) (kq [0]) 1 [] trivial (ih (w64 (j + 1)) _ h E hE)
    · have h := condF h hq6
      refine Runs.sA 3 [.code (C_61 62620), .code (C_61 62621), .code (C_61 31311), .inBlock 1, .code (C_61 979), .inLoop (C_61 244), .inBlock 0, .code (C_61 31)] ?_
      obtain ⟨c5, h⟩ := ifSome h
      obtain ⟨rinside, hr3, h⟩ := bindSome h
      obtain ⟨c6, h⟩ := ifSome h
      obtain ⟨rinside2, hr4, h⟩ := bindSome h
      refine Runs.sR hE ⟨[(1, (encL Tapi_Call.cells Tapi_Call.d c)), (2, (encL Tapi_Spot.cells Tapi_Spot.d s)), (3, (.op 0 0 0)), (8, (aI i)), (9, (aI rCallOf)), (70, (aB (cond (!rinside) true (!rinside2))))], [(0, vO 6 (Tapi_Dock.cells d))], 305⟩ (C_61 62620) [(5, ⟨[], true, (aB rinside), [], 0, false, none⟩), (13, ⟨[], true, (aB rinside2), [], 0, false, none⟩)] [] (kp [1, 2, 3, 8, 9, 70]) (kq [0]) 305 [0 ≤ i ∧ i < ((s.length : Nat) : Int), Sound Try.prog 56 [(aI ((s.getD ((i).toNat) Tapi_Spot.d).f_X)), (aI 0), (aI 1000000)] [] 0 (aB rinside) [], (!(!rinside)) = true → AllP [(!(!rinside)) = true, (!(!rinside)) = true, 0 ≤ i ∧ i < ((s.length : Nat) : Int)], (!(!rinside)) = true → AllP [(!(!rinside)) = true], (!(!rinside)) = true → AllP [(!(!rinside)) = true], (!(!rinside)) = true → AllP [Sound Try.prog 56 [(aI ((s.getD ((i).toNat) Tapi_Spot.d).f_Y)), (aI 0), (aI 1000000)] [] 0 (aB rinside2) [], (!(!rinside)) = true], (!(!rinside)) = true → AllP [(!(!rinside)) = true], (!(!rinside)) = true → AllP [(!(!rinside)) = true]] ⟨c5, (g_r06_inside_ok N ((s.getD ((i).toNat) Tapi_Spot.d).f_X) 0 1000000 rinside hr3), (fun hg => ⟨hg, hg, (c6 hg), trivial⟩), (fun hg => ⟨hg, trivial⟩), (fun hg => ⟨hg, trivial⟩), (fun hg => ⟨(g_r06_inside_ok N ((s.getD ((i).toNat) Tapi_Spot.d).f_Y) 0 1000000 rinside2 (condT hr4 hg)), hg, trivial⟩), (fun hg => ⟨hg, trivial⟩), (fun hq => ⟨hq, trivial⟩), trivial⟩ ?_
      refine Runs.sC 70 (C_61 125242) (C_61 125243) (cond (!rinside) true (!rinside2)) (fun hq8 => ?_) (fun hq8 => ?_)
      · have h := condT h hq8
        refine Runs.sA 1 [.code (C_61 250484), .code (C_61 250485), .code (C_61 31311), .inBlock 1, .code (C_61 979), .inLoop (C_61 244), .inBlock 0, .code (C_61 31)] ?_
        refine Runs.sR hE ⟨[(6, (aI 2))], [], 321⟩ (C_61 250484) [] [] (kp [6]) [] 321 [] trivial ?_
        obtain rfl := Option.some.inj h
        refine Runs.sW hE ⟨[(6, (aI 2))], [], 321⟩ [] (kp [6]) [] 321 [] trivial ?_
        exact Runs.sT Try.f37 [] [] trivial
      · have h := condF h hq8
        refine Runs.sA 2 [.code (C_61 62622), .code (C_61 62623), .inBlock 1, .code (C_61 979), .inLoop (C_61 244), .inBlock 0, .code (C_61 31)] ?_
        obtain ⟨c7, h⟩ := ifSome h
        obtain ⟨rwithin, hr5, h⟩ := bindSome h
        refine Runs.sR hE ⟨[(1, (encL Tapi_Call.cells Tapi_Call.d c)), (2, (encL Tapi_Spot.cells Tapi_Spot.d s)), (3, (.op 0 0 0)), (8, (aI i)), (81, (aB (!rwithin)))], [(0, vO 6 (Tapi_Dock.cells d))], 481⟩ (C_61 62622) [(9, ⟨[], true, (aB rwithin), [], 0, false, none⟩)] [] (kp [1, 2, 3, 8, 81]) (kq [0]) 481 [0 < 1, 0 ≤ rCallOf ∧ rCallOf < ((c.length : Nat) : Int), 0 ≤ i ∧ i < ((s.length : Nat) : Int), Sound Try.prog 76 [(.agg (Tapi_Dock.cells d)), (.agg (Tapi_Call.cells (c.getD ((rCallOf).toNat) Tapi_Call.d))), (.agg (Tapi_Spot.cells (s.getD ((i).toNat) Tapi_Spot.d)))] [] 0 (aB rwithin) []] ⟨o1, c7, c5, (g_r06_within_ok N d (c.getD ((rCallOf).toNat) Tapi_Call.d) (s.getD ((i).toNat) Tapi_Spot.d) rwithin hr5), trivial⟩ ?_
        refine Runs.sC 81 (C_61 125246) (C_61 125247) (!rwithin) (fun hq9 => ?_) (fun hq9 => ?_)
        · have h := condT h hq9
          refine Runs.sA 1 [.code (C_61 250492), .code (C_61 250493), .inBlock 1, .code (C_61 979), .inLoop (C_61 244), .inBlock 0, .code (C_61 31)] ?_
          refine Runs.sR hE ⟨[(6, (aI 16))], [], 497⟩ (C_61 250492) [] [] (kp [6]) [] 497 [] trivial ?_
          obtain rfl := Option.some.inj h
          refine Runs.sW hE ⟨[(6, (aI 16))], [], 497⟩ [] (kp [6]) [] 497 [] trivial ?_
          exact Runs.sT Try.f37 [] [] trivial
        · have h := condF h hq9
          refine Runs.sA 2 [.code (C_61 979), .inLoop (C_61 244), .inBlock 0, .code (C_61 31)] ?_
          refine Runs.sR hE ⟨[(1, (encL Tapi_Call.cells Tapi_Call.d c)), (2, (encL Tapi_Spot.cells Tapi_Spot.d s)), (3, (.op 0 0 0)), (8, (aI (w64 (i + 1))))], [(0, vO 6 (Tapi_Dock.cells d))], 529⟩ (C_61 979) [] [] (kp [1, 2, 3, 8]) (kq [0]) 529 [] trivial ?_
          refine Runs.sA 1 [.code (C_61 244), .inLoop (C_61 244), .inBlock 0, .code (C_61 31)] ?_
          exact Runs.sW hE _ [] (kp [1, 2, 3, 8]) (kq [0]) 1 [] trivial (hK_g_r06_CheckPlan_L1 (w64 (i + 1)) _ h E hE)

theorem g_r06_CheckPlan_L4_ok (N : Nat) (d : Tapi_Dock) (c : List Tapi_Call) (s : List Tapi_Spot) (i2 : Int) (K_g_r06_CheckPlan_L3 : Int → Option (Int))
    (hK_g_r06_CheckPlan_L3 : ∀ (i2 : Int) (r : Int), K_g_r06_CheckPlan_L3 i2 = some r → ∀ E, EnvOk E 0 → Runs Try.prog E 37 124 (SPost E [] (aI r)) [.code (C_61 500), .inLoop (C_61 500), .inBlock 4, .code (C_61 63)] ⟨[(1, (encL Tapi_Call.cells Tapi_Call.d c)), (2, (encL Tapi_Spot.cells Tapi_Spot.d s)), (3, (.op 0 0 0)), (11, (aI i2))], [(0, vO 6 (Tapi_Dock.cells d))], 1⟩) (fuel : Nat) : ∀ (j2 : Int) (r : Int), g_r06_CheckPlan_L4 N d c s i2 K_g_r06_CheckPlan_L3 fuel j2 = some r → ∀ E, EnvOk E 0 → Runs Try.prog E 37 124 (SPost E [] (aI r)) [.code (C_61 32036), .inLoop (C_61 32036), .inBlock 6, .inBlock 5, .code (C_61 2003), .inLoop (C_61 500), .inBlock 4, .code (C_61 63)] ⟨[(1, (encL Tapi_Call.cells Tapi_Call.d c)), (2, (encL Tapi_Spot.cells Tapi_Spot.d s)), (3, (.op 0 0 0)), (11, (aI i2)), (12, (aI j2))], [(0, vO 6 (Tapi_Dock.cells d))], 1⟩ := by
  induction fuel with
  | zero => intro _ r h; rw [g_r06_CheckPlan_L4.eq_1] at h; cases h
  | succ fuel ih =>
    intro j2 r h E hE
    rw [g_r06_CheckPlan_L4.eq_2] at h
    refine Runs.sA 2 [.code (C_61 128144), .code (C_61 128145), .code (C_61 64073), .inLoop (C_61 32036), .inBlock 6, .inBlock 5, .code (C_61 2003), .inLoop (C_61 500), .inBlock 4, .code (C_61 63)] ?_
    refine Runs.sR hE ⟨[(1, (encL Tapi_Call.cells Tapi_Call.d c)), (2, (encL Tapi_Spot.cells Tapi_Spot.d s)), (3, (.op 0 0 0)), (11, (aI i2)), (12, (aI j2)), (90, (aB (decide (j2 < i2))))], [(0, vO 6 (Tapi_Dock.cells d))], 49⟩ (C_61 128144) [] [] (kp [1, 2, 3, 11, 12, 90]) (kq [0]) 49 [] trivial ?_
    refine Runs.sC 90 (C_61 256290) (C_61 256291) (decide (j2 < i2)) (fun hq11 => ?_) (fun hq11 => ?_)
    · have h := condT h hq11
      refine Runs.sA 4 [.code (C_61 512584), .code (C_61 512585), .inBlock 7, .code (C_61 128147), .inLoop (C_61 32036), .inBlock 6, .inBlock 5, .code (C_61 2003), .inLoop (C_61 500), .inBlock 4, .code (C_61 63)] ?_
      obtain ⟨c8, h⟩ := ifSome h
      obtain ⟨rCallOf2, hr6, h⟩ := bindSome h
      obtain ⟨c9, h⟩ := ifSome h
      obtain ⟨c10, h⟩ := ifSome h
      obtain ⟨rCallOf3, hr7, h⟩ := bindSome h
      obtain ⟨c11, h⟩ := ifSome h
      obtain ⟨rapart, hr8, h⟩ := bindSome h
      refine Runs.sR hE ⟨[(1, (encL Tapi_Call.cells Tapi_Call.d c)), (2, (encL Tapi_Spot.cells Tapi_Spot.d s)), (3, (.op 0 0 0)), (11, (aI i2)), (12, (aI j2)), (123, (aB (!rapart)))], [(0, vO 6 (Tapi_Dock.cells d))], 545⟩ (C_61 512584) [(8, ⟨[], true, (aI rCallOf2), [], 0, false, none⟩), (18, ⟨[], true, (aI rCallOf3), [], 0, false, none⟩), (29, ⟨[], true, (aB rapart), [], 0, false, none⟩)] [] (kp [1, 2, 3, 11, 12, 123]) (kq [0]) 545 [0 < 1, 0 ≤ i2 ∧ i2 < ((s.length : Nat) : Int), Sound Try.prog 43 [(encL Tapi_Call.cells Tapi_Call.d c), (aS ((s.getD ((i2).toNat) Tapi_Spot.d).f_Call))] [] 0 (aI rCallOf2) [], 0 ≤ rCallOf2 ∧ rCallOf2 < ((c.length : Nat) : Int), 0 ≤ j2 ∧ j2 < ((s.length : Nat) : Int), Sound Try.prog 43 [(encL Tapi_Call.cells Tapi_Call.d c), (aS ((s.getD ((j2).toNat) Tapi_Spot.d).f_Call))] [] 0 (aI rCallOf3) [], 0 ≤ rCallOf3 ∧ rCallOf3 < ((c.length : Nat) : Int), 0 ≤ i2 ∧ i2 < ((s.length : Nat) : Int), 0 ≤ j2 ∧ j2 < ((s.length : Nat) : Int), Sound Try.prog 77 [(.agg (Tapi_Dock.cells d)), (.agg (Tapi_Call.cells (c.getD ((rCallOf2).toNat) Tapi_Call.d))), (.agg (Tapi_Call.cells (c.getD ((rCallOf3).toNat) Tapi_Call.d))), (.agg (Tapi_Spot.cells (s.getD ((i2).toNat) Tapi_Spot.d))), (.agg (Tapi_Spot.cells (s.getD ((j2).toNat) Tapi_Spot.d)))] [] 0 (aB rapart) []] ⟨o1, c8, (g_r06_CallOf_ok N c ((s.getD ((i2).toNat) Tapi_Spot.d).f_Call) rCallOf2 hr6), c9, c10, (g_r06_CallOf_ok N c ((s.getD ((j2).toNat) Tapi_Spot.d).f_Call) rCallOf3 hr7), c11, c8, c10, (g_r06_apart_ok N d (c.getD ((rCallOf2).toNat) Tapi_Call.d) (c.getD ((rCallOf3).toNat) Tapi_Call.d) (s.getD ((i2).toNat) Tapi_Spot.d) (s.getD ((j2).toNat) Tapi_Spot.d) rapart hr8), trivial⟩ ?_
      refine Runs.sC 123 (C_61 1025170) (C_61 1025171) (!rapart) (fun hq12 => ?_) (fun hq12 => ?_)
      · have h := condT h hq12
        refine Runs.sA 1 [.code (C_61 2050340), .code (C_61 2050341), .inBlock 7, .code (C_61 128147), .inLoop (C_61 32036), .inBlock 6, .inBlock 5, .code (C_61 2003), .inLoop (C_61 500), .inBlock 4, .code (C_61 63)] ?_
        refine Runs.sR hE ⟨[(6, (aI 17))], [], 561⟩ (C_61 2050340) [] [] (kp [6]) [] 561 [] trivial ?_
        obtain rfl := Option.some.inj h
        refine Runs.sW hE ⟨[(6, (aI 17))], [], 561⟩ [] (kp [6]) [] 561 [] trivial ?_
        exact Runs.sT Try.f37 [] [] trivial
      · have h := condF h hq12
        refine Runs.sA 2 [.code (C_61 128147), .inLoop (C_61 32036), .inBlock 6, .inBlock 5, .code (C_61 2003), .inLoop (C_61 500), .inBlock 4, .code (C_61 63)] ?_
        refine Runs.sR hE ⟨[(1, (encL Tapi_Call.cells Tapi_Call.d c)), (2, (encL Tapi_Spot.cells Tapi_Spot.d s)), (3, (.op 0 0 0)), (11, (aI i2)), (12, (aI (w64 (j2 + 1))))], [(0, vO 6 (Tapi_Dock.cells d))], 593⟩ (C_61 128147) [] [] (kp [1, 2, 3, 11, 12]) (kq [0]) 593 [] trivial ?_
        refine Runs.sA 1 [.code (C_61 32036), .inLoop (C_61 32036), .inBlock 6, .inBlock 5, .code (C_61 2003), .inLoop (C_61 500), .inBlock 4, .code (C_61 63)] ?_
        exact Runs.sW hE _ [] (kp [1, 2, 3, 11, 12]) (kq [0]) 1 [] trivial (ih (w64 (j2 + 1)) _ h E hE)
    · have h := condF h hq11
      refine Runs.sA 2 [.code (C_61 2003), .inLoop (C_61 500), .inBlock 4, .code (C_61 63)] ?_
      refine Runs.sR hE ⟨[(1, (encL Tapi_Call.cells Tapi_Call.d c)), (2, (encL Tapi_Spot.cells Tapi_Spot.d s)), (3, (.op 0 0 0)), (11, (aI (w64 (i2 + 1))))], [(0, vO 6 (Tapi_Dock.cells d))], 97⟩ (C_61 2003) [] [] (kp [1, 2, 3, 11]) (kq [0]) 97 [] trivial ?_
      refine Runs.sA 1 [.code (C_61 500), .inLoop (C_61 500), .inBlock 4, .code (C_61 63)] ?_
      exact Runs.sW hE _ [] (kp [1, 2, 3, 11]) (kq [0]) 1 [] trivial (hK_g_r06_CheckPlan_L3 (w64 (i2 + 1)) _ h E hE)

theorem g_r06_CheckPlan_L3_ok (N : Nat) (d : Tapi_Dock) (c : List Tapi_Call) (s : List Tapi_Spot) (fuel : Nat) : ∀ (i2 : Int) (r : Int), g_r06_CheckPlan_L3 N d c s fuel i2 = some r → ∀ E, EnvOk E 0 → Runs Try.prog E 37 124 (SPost E [] (aI r)) [.code (C_61 500), .inLoop (C_61 500), .inBlock 4, .code (C_61 63)] ⟨[(1, (encL Tapi_Call.cells Tapi_Call.d c)), (2, (encL Tapi_Spot.cells Tapi_Spot.d s)), (3, (.op 0 0 0)), (11, (aI i2))], [(0, vO 6 (Tapi_Dock.cells d))], 1⟩ := by
  induction fuel with
  | zero => intro _ r h; rw [g_r06_CheckPlan_L3.eq_1] at h; cases h
  | succ fuel ih =>
    intro i2 r h E hE
    rw [g_r06_CheckPlan_L3.eq_2] at h
    refine Runs.sA 2 [.code (C_61 2000), .code (C_61 2001), .code (C_61 1001), .inLoop (C_61 500), .inBlock 4, .code (C_61 63)] ?_
    refine Runs.sR hE ⟨[(1, (encL Tapi_Call.cells Tapi_Call.d c)), (2, (encL Tapi_Spot.cells Tapi_Spot.d s)), (3, (.op 0 0 0)), (11, (aI i2)), (85, (aB (decide (i2 < ((s.length : Nat) : Int)))))], [(0, vO 6 (Tapi_Dock.cells d))], 65⟩ (C_61 2000) [] [] (kp [1, 2, 3, 11, 85]) (kq [0]) 65 [] trivial ?_
    refine Runs.sC 85 (C_61 4002) (C_61 4003) (decide (i2 < ((s.length : Nat) : Int))) (fun hq10 => ?_) (fun hq10 => ?_)
    · have h := condT h hq10
      refine Runs.sA 4 [.code (C_61 8008), .code (C_61 8009), .inBlock 5, .code (C_61 2003), .inLoop (C_61 500), .inBlock 4, .code (C_61 63)] ?_
      refine Runs.sR hE ⟨[(1, (encL Tapi_Call.cells Tapi_Call.d c)), (2, (encL Tapi_Spot.cells Tapi_Spot.d s)), (3, (.op 0 0 0)), (11, (aI i2)), (12, (aI 0))], [(0, vO 6 (Tapi_Dock.cells d))], 81⟩ (C_61 8008) [] [] (kp [1, 2, 3, 11, 12]) (kq [0]) 81 [] trivial ?_
      refine Runs.sA 2 [.code (C_61 32036), .inLoop (C_61 32036), .inBlock 6, .inBlock 5, .code (C_61 2003), .inLoop (C_61 500), .inBlock 4, .code (C_61 63)] ?_
      exact Runs.sW hE _ [] (kp [1, 2, 3, 11, 12]) (kq [0]) 1 [] trivial (g_r06_CheckPlan_L4_ok N d c s i2 (g_r06_CheckPlan_L3 N d c s fuel) ih N 0 _ h E hE)
    · have h := condF h hq10
      refine Runs.sA 2 [.code (C_61 126), .code (C_61 127)] ?_
      refine Runs.sR hE ⟨[(6, (aI 0))], [], 81⟩ (C_61 126) [] [] (kp [6]) [] 81 [] trivial ?_
      obtain rfl := Option.some.inj h
      refine Runs.sW hE ⟨[(6, (aI 0))], [], 81⟩ [] (kp [6]) [] 81 [] trivial ?_
      exact Runs.sT Try.f37 [] [] trivial

theorem g_r06_CheckPlan_L1_ok (N : Nat) (d : Tapi_Dock) (c : List Tapi_Call) (s : List Tapi_Spot) (fuel : Nat) : ∀ (i : Int) (r : Int), g_r06_CheckPlan_L1 N d c s fuel i = some r → ∀ E, EnvOk E 0 → Runs Try.prog E 37 124 (SPost E [] (aI r)) [.code (C_61 244), .inLoop (C_61 244), .inBlock 0, .code (C_61 31)] ⟨[(1, (encL Tapi_Call.cells Tapi_Call.d c)), (2, (encL Tapi_Spot.cells Tapi_Spot.d s)), (3, (.op 0 0 0)), (8, (aI i))], [(0, vO 6 (Tapi_Dock.cells d))], 1⟩ := by
  induction fuel with
  | zero => intro _ r h; rw [g_r06_CheckPlan_L1.eq_1] at h; cases h
  | succ fuel ih =>
    intro i r h E hE
    rw [g_r06_CheckPlan_L1.eq_2] at h
    refine Runs.sA 2 [.code (C_61 976), .code (C_61 977), .code (C_61 489), .inLoop (C_61 244), .inBlock 0, .code (C_61 31)] ?_
    refine Runs.sR hE ⟨[(1, (encL Tapi_Call.cells Tapi_Call.d c)), (2, (encL Tapi_Spot.cells Tapi_Spot.d s)), (3, (.op 0 0 0)), (8, (aI i)), (27, (aB (decide (i < ((s.length : Nat) : Int)))))], [(0, vO 6 (Tapi_Dock.cells d))], 65⟩ (C_61 976) [] [] (kp [1, 2, 3, 8, 27]) (kq [0]) 65 [] trivial ?_
    refine Runs.sC 27 (C_61 1954) (C_61 1955) (decide (i < ((s.length : Nat) : Int))) (fun hq4 => ?_) (fun hq4 => ?_)
    · have h := condT h hq4
      refine Runs.sA 4 [.code (C_61 3912), .code (C_61 3913), .inBlock 1, .code (C_61 979), .inLoop (C_61 244), .inBlock 0, .code (C_61 31)] ?_
      obtain ⟨c2, h⟩ := ifSome h
      obtain ⟨rCallOf, hr2, h⟩ := bindSome h
      refine Runs.sR hE ⟨[(1, (encL Tapi_Call.cells Tapi_Call.d c)), (2, (encL Tapi_Spot.cells Tapi_Spot.d s)), (3, (.op 0 0 0)), (8, (aI i)), (9, (aI rCallOf))], [(0, vO 6 (Tapi_Dock.cells d))], 193⟩ (C_61 3912) [(6, ⟨[], true, (aI rCallOf), [], 0, false, none⟩)] [] (kp [1, 2, 3, 8, 9]) (kq [0]) 193 [0 ≤ i ∧ i < ((s.length : Nat) : Int), Sound Try.prog 43 [(encL Tapi_Call.cells Tapi_Call.d c), (aS ((s.getD ((i).toNat) Tapi_Spot.d).f_Call))] [] 0 (aI rCallOf) []] ⟨c2, (g_r06_CallOf_ok N c ((s.getD ((i).toNat) Tapi_Spot.d).f_Call) rCallOf hr2), trivial⟩ ?_
      refine Runs.sA 2 [.code (C_61 15652), .code (C_61 15653), .code (C_61 7827), .inBlock 1, .code (C_61 979), .inLoop (C_61 244), .inBlock 0, .code (C_61 31)] ?_
      refine Runs.sR hE ⟨[(1, (encL Tapi_Call.cells Tapi_Call.d c)), (2, (encL Tapi_Spot.cells Tapi_Spot.d s)), (3, (.op 0 0 0)), (8, (aI i)), (9, (aI rCallOf)), (38, (aB (decide (rCallOf < 0))))], [(0, vO 6 (Tapi_Dock.cells d))], 225⟩ (C_61 15652) [] [] (kp [1, 2, 3, 8, 9, 38]) (kq [0]) 225 [] trivial ?_
      refine Runs.sC 38 (C_61 31306) (C_61 31307) (decide (rCallOf < 0)) (fun hq5 => ?_) (fun hq5 => ?_)
      · have h := condT h hq5
        refine Runs.sA 1 [.code (C_61 62612), .code (C_61 62613), .code (C_61 7827), .inBlock 1, .code (C_61 979), .inLoop (C_61 244), .inBlock 0, .code (C_61 31)] ?_
        refine Runs.sR hE ⟨[(6, (aI 6))], [], 241⟩ (C_61 62612) [] [] (kp [6]) [] 241 [] trivial ?_
        obtain rfl := Option.some.inj h
        refine Runs.sW hE ⟨[(6, (aI 6))], [], 241⟩ [] (kp [6]) [] 241 [] trivial ?_
        exact Runs.sT Try.f37 [] [] trivial
      · have h := condF h hq5
        refine Runs.sA 3 [.code (C_61 31308), .code (C_61 31309), .code (C_61 15655), .inBlock 1, .code (C_61 979), .inLoop (C_61 244), .inBlock 0, .code (C_61 31)] ?_
        refine Runs.sR hE ⟨[(1, (encL Tapi_Call.cells Tapi_Call.d c)), (2, (encL Tapi_Spot.cells Tapi_Spot.d s)), (3, (.op 0 0 0)), (8, (aI i)), (9, (aI rCallOf)), (10, (aI 0))], [(0, vO 6 (Tapi_Dock.cells d))], 241⟩ (C_61 31308) [] [] (kp [1, 2, 3, 8, 9, 10]) (kq [0]) 241 [] trivial ?_
        refine Runs.sA 2 [.code (C_61 125236), .inLoop (C_61 125236), .inBlock 2, .code (C_61 15655), .inBlock 1, .code (C_61 979), .inLoop (C_61 244), .inBlock 0, .code (C_61 31)] ?_
        exact Runs.sW hE _ [] (kp [1, 2, 3, 8, 9, 10]) (kq [0]) 1 [] trivial (g_r06_CheckPlan_L2_ok N d c s i rCallOf (g_r06_CheckPlan_L1 N d c s fuel) ih N 0 _ h E hE)
    · have h := condF h hq4
      refine Runs.sA 3 [.code (C_61 124), .code (C_61 125), .code (C_61 63)] ?_
      refine Runs.sR hE ⟨[(1, (encL Tapi_Call.cells Tapi_Call.d c)), (2, (encL Tapi_Spot.cells Tapi_Spot.d s)), (3, (.op 0 0 0)), (11, (aI 0))], [(0, vO 6 (Tapi_Dock.cells d))], 81⟩ (C_61 124) [] [] (kp [1, 2, 3, 11]) (kq [0]) 81 [] trivial ?_
      refine Runs.sA 2 [.code (C_61 500), .inLoop (C_61 500), .inBlock 4, .code (C_61 63)] ?_
      exact Runs.sW hE _ [] (kp [1, 2, 3, 11]) (kq [0]) 1 [] trivial (g_r06_CheckPlan_L3_ok N d c s N 0 _ h E hE)

theorem g_r06_CheckPlan_ok (N : Nat) (d : Tapi_Dock) (c : List Tapi_Call) (s : List Tapi_Spot) (r : Int) (h : g_r06_CheckPlan N d c s = some r) : Sound Try.prog 37 [(.agg (Tapi_Dock.cells d)), (encL Tapi_Call.cells Tapi_Call.d c), (encL Tapi_Spot.cells Tapi_Spot.d s)] [] 0 (aI r) [] := by
  unfold g_r06_CheckPlan at h
  refine Sound.of_runs (fu := Try.f37) (c := C_61 1) (nt := 124) (by kernel_rfl) (by kernel_rfl) (by kernel_rfl) (by kernel_rfl) (fun hm => rfl) ?_
  intro E hE
  refine Runs.sA 1 [.code (C_61 2), .code (C_61 3)] ?_
  refine Runs.sR hE ⟨[(1, (encL Tapi_Call.cells Tapi_Call.d c)), (2, (encL Tapi_Spot.cells Tapi_Spot.d s)), (3, (.op 0 0 0))], [(0, vO 6 (Tapi_Dock.cells d))], 32⟩ (C_61 2) [] [] (kp [1, 2, 3]) (kq [0]) 32 [] trivial ?_
  refine Runs.sA 2 [.code (C_61 12), .code (C_61 13), .code (C_61 7)] ?_
  obtain ⟨rCheckBoth, hr, h⟩ := bindSome h
  refine Runs.sR hE ⟨[(1, (encL Tapi_Call.cells Tapi_Call.d c)), (2, (encL Tapi_Spot.cells Tapi_Spot.d s)), (3, (.op 0 0 0)), (7, (aI rCheckBoth))], [(0, vO 6 (Tapi_Dock.cells d))], 96⟩ (C_61 12) [(2, ⟨[], true, (aI rCheckBoth), [], 0, false, none⟩)] [] (kp [1, 2, 3, 7]) (kq [0]) 96 [0 < 1, Sound Try.prog 21 [(.agg (Tapi_Dock.cells d)), (encL Tapi_Call.cells Tapi_Call.d c)] [] 0 (aI rCheckBoth) []] ⟨o1, (g_r06_CheckBoth_ok N d c rCheckBoth hr), trivial⟩ ?_
  refine Runs.sA 1 [.code (C_61 26), .code (C_61 27), .code (C_61 7)] ?_
  refine Runs.sR hE ⟨[(1, (encL Tapi_Call.cells Tapi_Call.d c)), (2, (encL Tapi_Spot.cells Tapi_Spot.d s)), (3, (.op 0 0 0)), (7, (aI rCheckBoth)), (17, (aB (rCheckBoth != 0)))], [(0, vO 6 (Tapi_Dock.cells d))], 128⟩ (C_61 26) [] [] (kp [1, 2, 3, 7, 17]) (kq [0]) 128 [] trivial ?_
  refine Runs.sC 17 (C_61 54) (C_61 55) (rCheckBoth != 0) (fun hq2 => ?_) (fun hq2 => ?_)
  · have h := condT h hq2
    refine Runs.sA 1 [.code (C_61 108), .code (C_61 109), .code (C_61 7)] ?_
    refine Runs.sR hE ⟨[(6, (aI rCheckBoth))], [], 160⟩ (C_61 108) [] [] (kp [6]) [] 160 [] trivial ?_
    obtain rfl := Option.some.inj h
    refine Runs.sW hE ⟨[(6, (aI rCheckBoth))], [], 160⟩ [] (kp [6]) [] 160 [] trivial ?_
    exact Runs.sT Try.f37 [] [] trivial
  · have h := condF h hq2
    refine Runs.sA 3 [.code (C_61 28), .code (C_61 29), .code (C_61 15)] ?_
    refine Runs.sR hE ⟨[(1, (encL Tapi_Call.cells Tapi_Call.d c)), (2, (encL Tapi_Spot.cells Tapi_Spot.d s)), (3, (.op 0 0 0)), (23, (aB (((s.length : Nat) : Int) != ((c.length : Nat) : Int))))], [(0, vO 6 (Tapi_Dock.cells d))], 208⟩ (C_61 28) [] [] (kp [1, 2, 3, 23]) (kq [0]) 208 [] trivial ?_
    refine Runs.sC 23 (C_61 58) (C_61 59) (((s.length : Nat) : Int) != ((c.length : Nat) : Int)) (fun hq3 => ?_) (fun hq3 => ?_)
    · have h := condT h hq3
      refine Runs.sA 1 [.code (C_61 116), .code (C_61 117), .code (C_61 15)] ?_
      refine Runs.sR hE ⟨[(6, (aI 11))], [], 224⟩ (C_61 116) [] [] (kp [6]) [] 224 [] trivial ?_
      obtain rfl := Option.some.inj h
      refine Runs.sW hE ⟨[(6, (aI 11))], [], 224⟩ [] (kp [6]) [] 224 [] trivial ?_
      exact Runs.sT Try.f37 [] [] trivial
    · have h := condF h hq3
      refine Runs.sA 3 [.code (C_61 60), .code (C_61 61), .code (C_61 31)] ?_
      refine Runs.sR hE ⟨[(1, (encL Tapi_Call.cells Tapi_Call.d c)), (2, (encL Tapi_Spot.cells Tapi_Spot.d s)), (3, (.op 0 0 0)), (8, (aI 0))], [(0, vO 6 (Tapi_Dock.cells d))], 224⟩ (C_61 60) [] [] (kp [1, 2, 3, 8]) (kq [0]) 224 [] trivial ?_
      refine Runs.sA 2 [.code (C_61 244), .inLoop (C_61 244), .inBlock 0, .code (C_61 31)] ?_
      exact Runs.sW hE _ [] (kp [1, 2, 3, 8]) (kq [0]) 1 [] trivial (g_r06_CheckPlan_L1_ok N d c s N 0 _ h E hE)

noncomputable def C_73 (n : Nat) : Code := cat (bodyOf Try.f101) (pth n)

theorem g_berth_called_1_ok (N : Nat) (x : Tapi_Call) (cap0 : ByteArray) (r : Bool) (h : g_berth_called_1 N x cap0 = some r) : Sound Try.prog 101 [(.agg (Tapi_Call.cells x)), (.op 0 0 0)] [(0, vO 1 [(aS cap0)])] 1 (aB r) [(0, vO 1 [(aS cap0)])] := by
  unfold g_berth_called_1 at h
  refine Sound.of_runs (fu := Try.f101) (c := C_73 1) (nt := 8) (by kernel_rfl) (by kernel_rfl) (by kernel_rfl) (by kernel_rfl) (fun hm => absurd hm (by decide)) ?_
  intro E hE
  refine Runs.sA 1 [.code (C_73 2), .code (C_73 3)] ?_
  refine Runs.sR hE ⟨[(1, (.op 0 0 0)), (2, (.op 1 0 0))], [(0, vO 1 [(aS cap0)]), (1, vO 9 (Tapi_Call.cells x))], 33⟩ (C_73 2) [] [] (kp [1, 2]) (kq [0, 1]) 33 [] trivial ?_
  refine Runs.sA 1 [.code (C_73 6), .code (C_73 7)] ?_
  refine Runs.sR hE ⟨[(3, (aB (streq x.f_Name cap0)))], [(0, vO 1 [(aS cap0)])], 113⟩ (C_73 6) [] [] (kp [3]) (kq [0]) 113 [0 < 1, 0 < 1] ⟨o1, o1, trivial⟩ ?_
  obtain rfl := Option.some.inj h
  refine Runs.sW hE ⟨[(3, (aB (streq x.f_Name cap0)))], [(0, vO 1 [(aS cap0)])], 113⟩ [] (kp [3]) (kq [0]) 113 [] trivial ?_
  exact Runs.sT Try.f101 [] [] trivial

noncomputable def C_72 (n : Nat) : Code := cat (bodyOf Try.f99) (pth n)

theorem g_slices_IndexFunc_api_Call_api_Call_v2_L1_ok (N : Nat) (s : List Tapi_Call) (cap0 : ByteArray) (fuel : Nat) : ∀ (x : Int) (r : Int), g_slices_IndexFunc_api_Call_api_Call_v2_L1 N s cap0 fuel x = some r → ∀ E, EnvOk E 1 → Runs Try.prog E 99 19 (SPost E [(0, vO 1 [(aS cap0)])] (aI r)) [.code (C_72 52), .inLoop (C_72 52), .inBlock 0, .code (C_72 7)] ⟨[(0, (encL Tapi_Call.cells Tapi_Call.d s)), (1, (.fn (.func 101) [] [(.op 0 0 0)])), (7, (aI ((s.length : Nat) : Int))), (8, (aI x))], [(0, vO 1 [(aS cap0)])], 1⟩ := by
  induction fuel with
  | zero => intro _ r h; rw [g_slices_IndexFunc_api_Call_api_Call_v2_L1.eq_1] at h; cases h
  | succ fuel ih =>
    intro x r h E hE
    rw [g_slices_IndexFunc_api_Call_api_Call_v2_L1.eq_2] at h
    refine Runs.sA 1 [.code (C_72 104), .code (C_72 105), .inLoop (C_72 52), .inBlock 0, .code (C_72 7)] ?_
    refine Runs.sR hE ⟨[(0, (encL Tapi_Call.cells Tapi_Call.d s)), (1, (.fn (.func 101) [] [(.op 0 0 0)])), (7, (aI ((s.length : Nat) : Int))), (8, (aI x)), (9, (aB (decide (x < ((s.length : Nat) : Int)))))], [(0, vO 1 [(aS cap0)])], 17⟩ (C_72 104) [] [] (kp [0, 1, 7, 8, 9]) (kq [0]) 17 [] trivial ?_
    refine Runs.sA 1 [.code (C_72 210), .code (C_72 211), .inLoop (C_72 52), .inBlock 0, .code (C_72 7)] ?_
    refine Runs.sC 9 (C_72 420) (C_72 421) (decide (x < ((s.length : Nat) : Int))) (fun hq2 => ?_) (fun hq2 => ?_)
    · have h := condT h hq2
      refine Runs.sA 4 [.code (C_72 1688), .code (C_72 1689), .inBlock 1, .code (C_72 423), .inLoop (C_72 52), .inBlock 0, .code (C_72 7)] ?_
      refine Runs.sR hE ⟨[(0, (encL Tapi_Call.cells Tapi_Call.d s)), (1, (.fn (.func 101) [] [(.op 0 0 0)])), (5, (aI x)), (7, (aI ((s.length : Nat) : Int))), (8, (aI x))], [(0, vO 1 [(aS cap0)])], 49⟩ (C_72 1688) [] [] (kp [0, 1, 5, 7, 8]) (kq [0]) 49 [] trivial ?_
      refine Runs.sA 1 [.code (C_72 3378), .code (C_72 3379), .inBlock 1, .code (C_72 423), .inLoop (C_72 52), .inBlock 0, .code (C_72 7)] ?_
      obtain ⟨c, h⟩ := ifSome h
      obtain ⟨rcalled1, hr, h⟩ := bindSome h
      refine Runs.sR hE ⟨[(0, (encL Tapi_Call.cells Tapi_Call.d s)), (1, (.fn (.func 101) [] [(.op 0 0 0)])), (5, (aI x)), (7, (aI ((s.length : Nat) : Int))), (8, (aI x)), (16, (aB rcalled1))], [(0, vO 1 [(aS cap0)])], 145⟩ (C_72 3378) [(5, ⟨[0], true, (aB rcalled1), [], 0, false, none⟩)] [] (kp [0, 1, 5, 7, 8, 16]) (kq [0]) 145 [0 ≤ x ∧ x < ((s.length : Nat) : Int), Sound Try.prog 101 [(.agg (Tapi_Call.cells (s.getD ((x).toNat) Tapi_Call.d))), (.op 0 0 0)] [(0, vO 1 [(aS cap0)])] 1 (aB rcalled1) [(0, vO 1 [(aS cap0)])]] ⟨c, (g_berth_called_1_ok N (s.getD ((x).toNat) Tapi_Call.d) cap0 rcalled1 hr), trivial⟩ ?_
      refine Runs.sC 16 (C_72 6758) (C_72 6759) rcalled1 (fun hq3 => ?_) (fun hq3 => ?_)
      · have h := condT h hq3
        refine Runs.sA 1 [.code (C_72 13516), .code (C_72 13517), .inBlock 1, .code (C_72 423), .inLoop (C_72 52), .inBlock 0, .code (C_72 7)] ?_
        refine Runs.sR hE ⟨[(4, (aI x))], [(0, vO 1 [(aS cap0)])], 177⟩ (C_72 13516) [] [] (kp [4]) (kq [0]) 177 [] trivial ?_
        obtain rfl := Option.some.inj h
        refine Runs.sW hE ⟨[(4, (aI x))], [(0, vO 1 [(aS cap0)])], 177⟩ [] (kp [4]) (kq [0]) 177 [] trivial ?_
        exact Runs.sT Try.f99 [] [] trivial
      · have h := condF h hq3
        refine Runs.sA 2 [.code (C_72 423), .inLoop (C_72 52), .inBlock 0, .code (C_72 7)] ?_
        refine Runs.sR hE ⟨[(0, (encL Tapi_Call.cells Tapi_Call.d s)), (1, (.fn (.func 101) [] [(.op 0 0 0)])), (7, (aI ((s.length : Nat) : Int))), (8, (aI (w64 (x + 1))))], [(0, vO 1 [(aS cap0)])], 177⟩ (C_72 423) [] [] (kp [0, 1, 7, 8]) (kq [0]) 177 [] trivial ?_
        refine Runs.sA 1 [.code (C_72 52), .inLoop (C_72 52), .inBlock 0, .code (C_72 7)] ?_
        exact Runs.sW hE _ [] (kp [0, 1, 7, 8]) (kq [0]) 1 [] trivial (ih (w64 (x + 1)) _ h E hE)
    · have h := condF h hq2
      refine Runs.sA 2 [.code (C_72 14), .code (C_72 15)] ?_
      refine Runs.sR hE ⟨[(4, (aI (-1)))], [(0, vO 1 [(aS cap0)])], 33⟩ (C_72 14) [] [] (kp [4]) (kq [0]) 33 [] trivial ?_
      obtain rfl := Option.some.inj h
      refine Runs.sW hE ⟨[(4, (aI (-1)))], [(0, vO 1 [(aS cap0)])], 49⟩ [] (kp [4]) (kq [0]) 49 [] trivial ?_
      exact Runs.sT Try.f99 [] [] trivial

theorem g_slices_IndexFunc_api_Call_api_Call_v2_ok (N : Nat) (s : List Tapi_Call) (cap0 : ByteArray) (r : Int) (h : g_slices_IndexFunc_api_Call_api_Call_v2 N s cap0 = some r) : Sound Try.prog 99 [(encL Tapi_Call.cells Tapi_Call.d s), (.fn (.func 101) [] [(.op 0 0 0)])] [(0, vO 1 [(aS cap0)])] 1 (aI r) [(0, vO 1 [(aS cap0)])] := by
  unfold g_slices_IndexFunc_api_Call_api_Call_v2 at h
  refine Sound.of_runs (fu := Try.f99) (c := C_72 1) (nt := 19) (by kernel_rfl) (by kernel_rfl) (by kernel_rfl) (by kernel_rfl) (fun hm => absurd hm (by decide)) ?_
  intro E hE
  refine Runs.sA 1 [.code (C_72 2), .code (C_72 3)] ?_
  refine Runs.sR hE ⟨[(0, (encL Tapi_Call.cells Tapi_Call.d s)), (1, (.fn (.func 101) [] [(.op 0 0 0)]))], [(0, vO 1 [(aS cap0)])], 17⟩ (C_72 2) [] [] (kp [0, 1]) (kq [0]) 17 [] trivial ?_
  refine Runs.sA 2 [.code (C_72 12), .code (C_72 13), .code (C_72 7)] ?_
  refine Runs.sR hE ⟨[(0, (encL Tapi_Call.cells Tapi_Call.d s)), (1, (.fn (.func 101) [] [(.op 0 0 0)])), (7, (aI ((s.length : Nat) : Int))), (8, (aI 0))], [(0, vO 1 [(aS cap0)])], 65⟩ (C_72 12) [] [] (kp [0, 1, 7, 8]) (kq [0]) 65 [] trivial ?_
  refine Runs.sA 2 [.code (C_72 52), .inLoop (C_72 52), .inBlock 0, .code (C_72 7)] ?_
  exact Runs.sW hE _ [] (kp [0, 1, 7, 8]) (kq [0]) 1 [] trivial (g_slices_IndexFunc_api_Call_api_Call_v2_L1_ok N s cap0 N 0 _ h E hE)

noncomputable def C_71 (n : Nat) : Code := cat (bodyOf Try.f93) (pth n)

theorem g_berth_called_ok (N : Nat) (c : List Tapi_Call) (name : ByteArray) (r : Int) (h : g_berth_called N c name = some r) : Sound Try.prog 93 [(encL Tapi_Call.cells Tapi_Call.d c), (aS name)] [] 0 (aI r) [] := by
  unfold g_berth_called at h
  refine Sound.of_runs (fu := Try.f93) (c := C_71 1) (nt := 8) (by kernel_rfl) (by kernel_rfl) (by kernel_rfl) (by kernel_rfl) (fun hm => rfl) ?_
  intro E hE
  refine Runs.sA 1 [.code (C_71 2), .code (C_71 3)] ?_
  refine Runs.sR hE ⟨[(0, (encL Tapi_Call.cells Tapi_Call.d c)), (3, (.op 0 0 0))], [(0, vO 1 [(aS name)])], 32⟩ (C_71 2) [] [] (kp [0, 3]) (kq [0]) 32 [] trivial ?_
  refine Runs.sA 1 [.code (C_71 6), .code (C_71 7)] ?_
  obtain ⟨rCall, hr, h⟩ := bindSome h
  refine Runs.sR hE ⟨[(4, (aI rCall))], [], 96⟩ (C_71 6) [(2, ⟨[0], true, (aI rCall), [], 0, false, none⟩)] [] (kp [4]) [] 96 [Sound Try.prog 99 [(encL Tapi_Call.cells Tapi_Call.d c), (.fn (.func 101) [] [(.op 0 0 0)])] [(0, vO 1 [(aS name)])] 1 (aI rCall) [(0, vO 1 [(aS name)])]] ⟨(g_slices_IndexFunc_api_Call_api_Call_v2_ok N c name rCall hr), trivial⟩ ?_
  obtain rfl := Option.some.inj h
  refine Runs.sW hE ⟨[(4, (aI rCall))], [], 96⟩ [] (kp [4]) [] 96 [] trivial ?_
  exact Runs.sT Try.f93 [] [] trivial

noncomputable def C_74 (n : Nat) : Code := cat (bodyOf Try.f94) (pth n)

theorem g_berth_inside_ok (N : Nat) (d : Tapi_Dock) (b : Tberth_box) (r : Bool) (h : g_berth_inside N d b = some r) : Sound Try.prog 94 [(.agg (Tapi_Dock.cells d)), (.agg (Tberth_box.cells b))] [] 0 (aB r) [] := by
  unfold g_berth_inside at h
  refine Sound.of_runs (fu := Try.f94) (c := C_74 1) (nt := 43) (by kernel_rfl) (by kernel_rfl) (by kernel_rfl) (by kernel_rfl) (fun hm => rfl) ?_
  intro E hE
  refine Runs.sA 1 [.code (C_74 2), .code (C_74 3)] ?_
  refine Runs.sR hE ⟨[(2, (.op 0 0 0)), (3, (.op 16 0 0))], [(0, vO 6 (Tapi_Dock.cells d)), (16, vO 4 (Tberth_box.cells b))], 48⟩ (C_74 2) [] [] (kp [2, 3]) (kq [0, 16]) 48 [] trivial ?_
  refine Runs.sA 1 [.code (C_74 6), .code (C_74 7)] ?_
  refine Runs.sR hE ⟨[(4, (aB (cond (cond (cond (decide (b.f_x ≥ d.f_Gap)) (decide (b.f_y ≥ d.f_Gap)) false) (decide ((w64 ((w64 (b.f_x + b.f_w)) + d.f_Gap)) ≤ d.f_Length)) false) (decide ((w64 ((w64 (b.f_y + b.f_h)) + d.f_Gap)) ≤ d.f_Width)) false)))], [], 672⟩ (C_74 6) [] [] (kp [4]) [] 672 [0 < 1, 0 < 1, (decide (b.f_x ≥ d.f_Gap)) = true → AllP [(decide (b.f_x ≥ d.f_Gap)) = true, 0 < 1], (decide (b.f_x ≥ d.f_Gap)) = true → AllP [(decide (b.f_x ≥ d.f_Gap)) = true, 0 < 1], (decide (b.f_x ≥ d.f_Gap)) = true → AllP [(decide (b.f_x ≥ d.f_Gap)) = true, (decide (b.f_x ≥ d.f_Gap)) = true], (decide (b.f_x ≥ d.f_Gap)) = true → AllP [(decide (b.f_x ≥ d.f_Gap)) = true], (cond (decide (b.f_x ≥ d.f_Gap)) (decide (b.f_y ≥ d.f_Gap)) false) = true → AllP [(cond (decide (b.f_x ≥ d.f_Gap)) (decide (b.f_y ≥ d.f_Gap)) false) = true, 0 < 1], (cond (decide (b.f_x ≥ d.f_Gap)) (decide (b.f_y ≥ d.f_Gap)) false) = true → AllP [(cond (decide (b.f_x ≥ d.f_Gap)) (decide (b.f_y ≥ d.f_Gap)) false) = true, 0 < 1], (cond (decide (b.f_x ≥ d.f_Gap)) (decide (b.f_y ≥ d.f_Gap)) false) = true → AllP [(cond (decide (b.f_x ≥ d.f_Gap)) (decide (b.f_y ≥ d.f_Gap)) false) = true, (cond (decide (b.f_x ≥ d.f_Gap)) (decide (b.f_y ≥ d.f_Gap)) false) = true], (cond (decide (b.f_x ≥ d.f_Gap)) (decide (b.f_y ≥ d.f_Gap)) false) = true → AllP [(cond (decide (b.f_x ≥ d.f_Gap)) (decide (b.f_y ≥ d.f_Gap)) false) = true, 0 < 1], (cond (decide (b.f_x ≥ d.f_Gap)) (decide (b.f_y ≥ d.f_Gap)) false) = true → AllP [(cond (decide (b.f_x ≥ d.f_Gap)) (decide (b.f_y ≥ d.f_Gap)) false) = true, (cond (decide (b.f_x ≥ d.f_Gap)) (decide (b.f_y ≥ d.f_Gap)) false) = true], (cond (decide (b.f_x ≥ d.f_Gap)) (decide (b.f_y ≥ d.f_Gap)) false) = true → AllP [(cond (decide (b.f_x ≥ d.f_Gap)) (decide (b.f_y ≥ d.f_Gap)) false) = true, 0 < 1], (cond (decide (b.f_x ≥ d.f_Gap)) (decide (b.f_y ≥ d.f_Gap)) false) = true → AllP [(cond (decide (b.f_x ≥ d.f_Gap)) (decide (b.f_y ≥ d.f_Gap)) false) = true, (cond (decide (b.f_x ≥ d.f_Gap)) (decide (b.f_y ≥ d.f_Gap)) false) = true], (cond (decide (b.f_x ≥ d.f_Gap)) (decide (b.f_y ≥ d.f_Gap)) false) = true → AllP [(cond (decide (b.f_x ≥ d.f_Gap)) (decide (b.f_y ≥ d.f_Gap)) false) = true], (cond (cond (decide (b.f_x ≥ d.f_Gap)) (decide (b.f_y ≥ d.f_Gap)) false) (decide ((w64 ((w64 (b.f_x + b.f_w)) + d.f_Gap)) ≤ d.f_Length)) false) = true → AllP [(cond (cond (decide (b.f_x ≥ d.f_Gap)) (decide (b.f_y ≥ d.f_Gap)) false) (decide ((w64 ((w64 (b.f_x + b.f_w)) + d.f_Gap)) ≤ d.f_Length)) false) = true, 0 < 1], (cond (cond (decide (b.f_x ≥ d.f_Gap)) (decide (b.f_y ≥ d.f_Gap)) false) (decide ((w64 ((w64 (b.f_x + b.f_w)) + d.f_Gap)) ≤ d.f_Length)) false) = true → AllP [(cond (cond (decide (b.f_x ≥ d.f_Gap)) (decide (b.f_y ≥ d.f_Gap)) false) (decide ((w64 ((w64 (b.f_x + b.f_w)) + d.f_Gap)) ≤ d.f_Length)) false) = true, 0 < 1], (cond (cond (decide (b.f_x ≥ d.f_Gap)) (decide (b.f_y ≥ d.f_Gap)) false) (decide ((w64 ((w64 (b.f_x + b.f_w)) + d.f_Gap)) ≤ d.f_Length)) false) = true → AllP [(cond (cond (decide (b.f_x ≥ d.f_Gap)) (decide (b.f_y ≥ d.f_Gap)) false) (decide ((w64 ((w64 (b.f_x + b.f_w)) + d.f_Gap)) ≤ d.f_Length)) false) = true, (cond (cond (decide (b.f_x ≥ d.f_Gap)) (decide (b.f_y ≥ d.f_Gap)) false) (decide ((w64 ((w64 (b.f_x + b.f_w)) + d.f_Gap)) ≤ d.f_Length)) false) = true], (cond (cond (decide (b.f_x ≥ d.f_Gap)) (decide (b.f_y ≥ d.f_Gap)) false) (decide ((w64 ((w64 (b.f_x + b.f_w)) + d.f_Gap)) ≤ d.f_Length)) false) = true → AllP [(cond (cond (decide (b.f_x ≥ d.f_Gap)) (decide (b.f_y ≥ d.f_Gap)) false) (decide ((w64 ((w64 (b.f_x + b.f_w)) + d.f_Gap)) ≤ d.f_Length)) false) = true, 0 < 1], (cond (cond (decide (b.f_x ≥ d.f_Gap)) (decide (b.f_y ≥ d.f_Gap)) false) (decide ((w64 ((w64 (b.f_x + b.f_w)) + d.f_Gap)) ≤ d.f_Length)) false) = true → AllP [(cond (cond (decide (b.f_x ≥ d.f_Gap)) (decide (b.f_y ≥ d.f_Gap)) false) (decide ((w64 ((w64 (b.f_x + b.f_w)) + d.f_Gap)) ≤ d.f_Length)) false) = true, (cond (cond (decide (b.f_x ≥ d.f_Gap)) (decide (b.f_y ≥ d.f_Gap)) false) (decide ((w64 ((w64 (b.f_x + b.f_w)) + d.f_Gap)) ≤ d.f_Length)) false) = true], (cond (cond (decide (b.f_x ≥ d.f_Gap)) (decide (b.f_y ≥ d.f_Gap)) false) (decide ((w64 ((w64 (b.f_x + b.f_w)) + d.f_Gap)) ≤ d.f_Length)) false) = true → AllP [(cond (cond (decide (b.f_x ≥ d.f_Gap)) (decide (b.f_y ≥ d.f_Gap)) false) (decide ((w64 ((w64 (b.f_x + b.f_w)) + d.f_Gap)) ≤ d.f_Length)) false) = true, 0 < 1], (cond (cond (decide (b.f_x ≥ d.f_Gap)) (decide (b.f_y ≥ d.f_Gap)) false) (decide ((w64 ((w64 (b.f_x + b.f_w)) + d.f_Gap)) ≤ d.f_Length)) false) = true → AllP [(cond (cond (decide (b.f_x ≥ d.f_Gap)) (decide (b.f_y ≥ d.f_Gap)) false) (decide ((w64 ((w64 (b.f_x + b.f_w)) + d.f_Gap)) ≤ d.f_Length)) false) = true, (cond (cond (decide (b.f_x ≥ d.f_Gap)) (decide (b.f_y ≥ d.f_Gap)) false) (decide ((w64 ((w64 (b.f_x + b.f_w)) + d.f_Gap)) ≤ d.f_Length)) false) = true], (cond (cond (decide (b.f_x ≥ d.f_Gap)) (decide (b.f_y ≥ d.f_Gap)) false) (decide ((w64 ((w64 (b.f_x + b.f_w)) + d.f_Gap)) ≤ d.f_Length)) false) = true → AllP [(cond (cond (decide (b.f_x ≥ d.f_Gap)) (decide (b.f_y ≥ d.f_Gap)) false) (decide ((w64 ((w64 (b.f_x + b.f_w)) + d.f_Gap)) ≤ d.f_Length)) false) = true]] ⟨o1, o1, (fun hg => ⟨hg, o1, trivial⟩), (fun hg => ⟨hg, o1, trivial⟩), (fun hg => ⟨hg, hg, trivial⟩), (fun hq => ⟨hq, trivial⟩), (fun hg => ⟨hg, o1, trivial⟩), (fun hg => ⟨hg, o1, trivial⟩), (fun hg => ⟨hg, hg, trivial⟩), (fun hg => ⟨hg, o1, trivial⟩), (fun hg => ⟨hg, hg, trivial⟩), (fun hg => ⟨hg, o1, trivial⟩), (fun hg => ⟨hg, hg, trivial⟩), (fun hq => ⟨hq, trivial⟩), (fun hg => ⟨hg, o1, trivial⟩), (fun hg => ⟨hg, o1, trivial⟩), (fun hg => ⟨hg, hg, trivial⟩), (fun hg => ⟨hg, o1, trivial⟩), (fun hg => ⟨hg, hg, trivial⟩), (fun hg => ⟨hg, o1, trivial⟩), (fun hg => ⟨hg, hg, trivial⟩), (fun hq => ⟨hq, trivial⟩), trivial⟩ ?_
  obtain rfl := Option.some.inj h
  refine Runs.sW hE ⟨[(4, (aB (cond (cond (cond (decide (b.f_x ≥ d.f_Gap)) (decide (b.f_y ≥ d.f_Gap)) false) (decide ((w64 ((w64 (b.f_x + b.f_w)) + d.f_Gap)) ≤ d.f_Length)) false) (decide ((w64 ((w64 (b.f_y + b.f_h)) + d.f_Gap)) ≤ d.f_Width)) false)))], [], 672⟩ [] (kp [4]) [] 672 [] trivial ?_
  exact Runs.sT Try.f94 [] [] trivial

noncomputable def C_75 (n : Nat) : Code := cat (bodyOf Try.f95) (pth n)

theorem g_berth_apart_ok (N : Nat) (a : Tberth_box) (b : Tberth_box) (gap : Int) (r : Bool) (h : g_berth_apart N a b gap = some r) : Sound Try.prog 95 [(.agg (Tberth_box.cells a)), (.agg (Tberth_box.cells b)), (aI gap)] [] 0 (aB r) [] := by
  unfold g_berth_apart at h
  refine Sound.of_runs (fu := Try.f95) (c := C_75 1) (nt := 53) (by kernel_rfl) (by kernel_rfl) (by kernel_rfl) (by kernel_rfl) (fun hm => rfl) ?_
  intro E hE
  refine Runs.sA 1 [.code (C_75 2), .code (C_75 3)] ?_
  refine Runs.sR hE ⟨[(2, (aI gap)), (3, (.op 0 0 0)), (4, (.op 16 0 0))], [(0, vO 4 (Tberth_box.cells a)), (16, vO 4 (Tberth_box.cells b))], 48⟩ (C_75 2) [] [] (kp [2, 3, 4]) (kq [0, 16]) 48 [] trivial ?_
  refine Runs.sA 1 [.code (C_75 6), .code (C_75 7)] ?_
  refine Runs.sR hE ⟨[(6, (aB (cond (cond (cond (decide ((w64 ((w64 (a.f_x + a.f_w)) + gap)) ≤ b.f_x)) true (decide ((w64 ((w64 (b.f_x + b.f_w)) + gap)) ≤ a.f_x))) true (decide ((w64 ((w64 (a.f_y + a.f_h)) + gap)) ≤ b.f_y))) true (decide ((w64 ((w64 (b.f_y + b.f_h)) + gap)) ≤ a.f_y)))))], [], 800⟩ (C_75 6) [] [] (kp [6]) [] 800 [0 < 1, 0 < 1, 0 < 1, (!(decide ((w64 ((w64 (a.f_x + a.f_w)) + gap)) ≤ b.f_x))) = true → AllP [(!(decide ((w64 ((w64 (a.f_x + a.f_w)) + gap)) ≤ b.f_x))) = true, 0 < 1], (!(decide ((w64 ((w64 (a.f_x + a.f_w)) + gap)) ≤ b.f_x))) = true → AllP [(!(decide ((w64 ((w64 (a.f_x + a.f_w)) + gap)) ≤ b.f_x))) = true, 0 < 1], (!(decide ((w64 ((w64 (a.f_x + a.f_w)) + gap)) ≤ b.f_x))) = true → AllP [(!(decide ((w64 ((w64 (a.f_x + a.f_w)) + gap)) ≤ b.f_x))) = true, (!(decide ((w64 ((w64 (a.f_x + a.f_w)) + gap)) ≤ b.f_x))) = true], (!(decide ((w64 ((w64 (a.f_x + a.f_w)) + gap)) ≤ b.f_x))) = true → AllP [(!(decide ((w64 ((w64 (a.f_x + a.f_w)) + gap)) ≤ b.f_x))) = true, (!(decide ((w64 ((w64 (a.f_x + a.f_w)) + gap)) ≤ b.f_x))) = true], (!(decide ((w64 ((w64 (a.f_x + a.f_w)) + gap)) ≤ b.f_x))) = true → AllP [(!(decide ((w64 ((w64 (a.f_x + a.f_w)) + gap)) ≤ b.f_x))) = true, 0 < 1], (!(decide ((w64 ((w64 (a.f_x + a.f_w)) + gap)) ≤ b.f_x))) = true → AllP [(!(decide ((w64 ((w64 (a.f_x + a.f_w)) + gap)) ≤ b.f_x))) = true, (!(decide ((w64 ((w64 (a.f_x + a.f_w)) + gap)) ≤ b.f_x))) = true], (!(decide ((w64 ((w64 (a.f_x + a.f_w)) + gap)) ≤ b.f_x))) = true → AllP [(!(decide ((w64 ((w64 (a.f_x + a.f_w)) + gap)) ≤ b.f_x))) = true], (!(cond (decide ((w64 ((w64 (a.f_x + a.f_w)) + gap)) ≤ b.f_x)) true (decide ((w64 ((w64 (b.f_x + b.f_w)) + gap)) ≤ a.f_x)))) = true → AllP [(!(cond (decide ((w64 ((w64 (a.f_x + a.f_w)) + gap)) ≤ b.f_x)) true (decide ((w64 ((w64 (b.f_x + b.f_w)) + gap)) ≤ a.f_x)))) = true, 0 < 1], (!(cond (decide ((w64 ((w64 (a.f_x + a.f_w)) + gap)) ≤ b.f_x)) true (decide ((w64 ((w64 (b.f_x + b.f_w)) + gap)) ≤ a.f_x)))) = true → AllP [(!(cond (decide ((w64 ((w64 (a.f_x + a.f_w)) + gap)) ≤ b.f_x)) true (decide ((w64 ((w64 (b.f_x + b.f_w)) + gap)) ≤ a.f_x)))) = true, 0 < 1], (!(cond (decide ((w64 ((w64 (a.f_x + a.f_w)) + gap)) ≤ b.f_x)) true (decide ((w64 ((w64 (b.f_x + b.f_w)) + gap)) ≤ a.f_x)))) = true → AllP [(!(cond (decide ((w64 ((w64 (a.f_x + a.f_w)) + gap)) ≤ b.f_x)) true (decide ((w64 ((w64 (b.f_x + b.f_w)) + gap)) ≤ a.f_x)))) = true, (!(cond (decide ((w64 ((w64 (a.f_x + a.f_w)) + gap)) ≤ b.f_x)) true (decide ((w64 ((w64 (b.f_x + b.f_w)) + gap)) ≤ a.f_x)))) = true], (!(cond (decide ((w64 ((w64 (a.f_x + a.f_w)) + gap)) ≤ b.f_x)) true (decide ((w64 ((w64 (b.f_x + b.f_w)) + gap)) ≤ a.f_x)))) = true → AllP [(!(cond (decide ((w64 ((w64 (a.f_x + a.f_w)) + gap)) ≤ b.f_x)) true (decide ((w64 ((w64 (b.f_x + b.f_w)) + gap)) ≤ a.f_x)))) = true, (!(cond (decide ((w64 ((w64 (a.f_x + a.f_w)) + gap)) ≤ b.f_x)) true (decide ((w64 ((w64 (b.f_x + b.f_w)) + gap)) ≤ a.f_x)))) = true], (!(cond (decide ((w64 ((w64 (a.f_x + a.f_w)) + gap)) ≤ b.f_x)) true (decide ((w64 ((w64 (b.f_x + b.f_w)) + gap)) ≤ a.f_x)))) = true → AllP [(!(cond (decide ((w64 ((w64 (a.f_x + a.f_w)) + gap)) ≤ b.f_x)) true (decide ((w64 ((w64 (b.f_x + b.f_w)) + gap)) ≤ a.f_x)))) = true, 0 < 1], (!(cond (decide ((w64 ((w64 (a.f_x + a.f_w)) + gap)) ≤ b.f_x)) true (decide ((w64 ((w64 (b.f_x + b.f_w)) + gap)) ≤ a.f_x)))) = true → AllP [(!(cond (decide ((w64 ((w64 (a.f_x + a.f_w)) + gap)) ≤ b.f_x)) true (decide ((w64 ((w64 (b.f_x + b.f_w)) + gap)) ≤ a.f_x)))) = true, (!(cond (decide ((w64 ((w64 (a.f_x + a.f_w)) + gap)) ≤ b.f_x)) true (decide ((w64 ((w64 (b.f_x + b.f_w)) + gap)) ≤ a.f_x)))) = true], (!(cond (decide ((w64 ((w64 (a.f_x + a.f_w)) + gap)) ≤ b.f_x)) true (decide ((w64 ((w64 (b.f_x + b.f_w)) + gap)) ≤ a.f_x)))) = true → AllP [(!(cond (decide ((w64 ((w64 (a.f_x + a.f_w)) + gap)) ≤ b.f_x)) true (decide ((w64 ((w64 (b.f_x + b.f_w)) + gap)) ≤ a.f_x)))) = true], (!(cond (cond (decide ((w64 ((w64 (a.f_x + a.f_w)) + gap)) ≤ b.f_x)) true (decide ((w64 ((w64 (b.f_x + b.f_w)) + gap)) ≤ a.f_x))) true (decide ((w64 ((w64 (a.f_y + a.f_h)) + gap)) ≤ b.f_y)))) = true → AllP [(!(cond (cond (decide ((w64 ((w64 (a.f_x + a.f_w)) + gap)) ≤ b.f_x)) true (decide ((w64 ((w64 (b.f_x + b.f_w)) + gap)) ≤ a.f_x))) true (decide ((w64 ((w64 (a.f_y + a.f_h)) + gap)) ≤ b.f_y)))) = true, 0 < 1], (!(cond (cond (decide ((w64 ((w64 (a.f_x + a.f_w)) + gap)) ≤ b.f_x)) true (decide ((w64 ((w64 (b.f_x + b.f_w)) + gap)) ≤ a.f_x))) true (decide ((w64 ((w64 (a.f_y + a.f_h)) + gap)) ≤ b.f_y)))) = true → AllP [(!(cond (cond (decide ((w64 ((w64 (a.f_x + a.f_w)) + gap)) ≤ b.f_x)) true (decide ((w64 ((w64 (b.f_x + b.f_w)) + gap)) ≤ a.f_x))) true (decide ((w64 ((w64 (a.f_y + a.f_h)) + gap)) ≤ b.f_y)))) = true, 0 < 1], (!(cond (cond (decide ((w64 ((w64 (a.f_x + a.f_w)) + gap)) ≤ b.f_x)) true (decide ((w64 ((w64 (b.f_x + b.f_w)) + gap)) ≤ a.f_x))) true (decide ((w64 ((w64 (a.f_y + a.f_h)) + gap)) ≤ b.f_y)))) = true → AllP [(!(cond (cond (decide ((w64 ((w64 (a.f_x + a.f_w)) + gap)) ≤ b.f_x)) true (decide ((w64 ((w64 (b.f_x + b.f_w)) + gap)) ≤ a.f_x))) true (decide ((w64 ((w64 (a.f_y + a.f_h)) + gap)) ≤ b.f_y)))) = true, (!(cond (cond (decide ((w64 ((w64 (a.f_x + a.f_w)) + gap)) ≤ b.f_x)) true (decide ((w64 ((w64 (b.f_x + b.f_w)) + gap)) ≤ a.f_x))) true (decide ((w64 ((w64 (a.f_y + a.f_h)) + gap)) ≤ b.f_y)))) = true], (!(cond (cond (decide ((w64 ((w64 (a.f_x + a.f_w)) + gap)) ≤ b.f_x)) true (decide ((w64 ((w64 (b.f_x + b.f_w)) + gap)) ≤ a.f_x))) true (decide ((w64 ((w64 (a.f_y + a.f_h)) + gap)) ≤ b.f_y)))) = true → AllP [(!(cond (cond (decide ((w64 ((w64 (a.f_x + a.f_w)) + gap)) ≤ b.f_x)) true (decide ((w64 ((w64 (b.f_x + b.f_w)) + gap)) ≤ a.f_x))) true (decide ((w64 ((w64 (a.f_y + a.f_h)) + gap)) ≤ b.f_y)))) = true, (!(cond (cond (decide ((w64 ((w64 (a.f_x + a.f_w)) + gap)) ≤ b.f_x)) true (decide ((w64 ((w64 (b.f_x + b.f_w)) + gap)) ≤ a.f_x))) true (decide ((w64 ((w64 (a.f_y + a.f_h)) + gap)) ≤ b.f_y)))) = true], (!(cond (cond (decide ((w64 ((w64 (a.f_x + a.f_w)) + gap)) ≤ b.f_x)) true (decide ((w64 ((w64 (b.f_x + b.f_w)) + gap)) ≤ a.f_x))) true (decide ((w64 ((w64 (a.f_y + a.f_h)) + gap)) ≤ b.f_y)))) = true → AllP [(!(cond (cond (decide ((w64 ((w64 (a.f_x + a.f_w)) + gap)) ≤ b.f_x)) true (decide ((w64 ((w64 (b.f_x + b.f_w)) + gap)) ≤ a.f_x))) true (decide ((w64 ((w64 (a.f_y + a.f_h)) + gap)) ≤ b.f_y)))) = true, 0 < 1], (!(cond (cond (decide ((w64 ((w64 (a.f_x + a.f_w)) + gap)) ≤ b.f_x)) true (decide ((w64 ((w64 (b.f_x + b.f_w)) + gap)) ≤ a.f_x))) true (decide ((w64 ((w64 (a.f_y + a.f_h)) + gap)) ≤ b.f_y)))) = true → AllP [(!(cond (cond (decide ((w64 ((w64 (a.f_x + a.f_w)) + gap)) ≤ b.f_x)) true (decide ((w64 ((w64 (b.f_x + b.f_w)) + gap)) ≤ a.f_x))) true (decide ((w64 ((w64 (a.f_y + a.f_h)) + gap)) ≤ b.f_y)))) = true, (!(cond (cond (decide ((w64 ((w64 (a.f_x + a.f_w)) + gap)) ≤ b.f_x)) true (decide ((w64 ((w64 (b.f_x + b.f_w)) + gap)) ≤ a.f_x))) true (decide ((w64 ((w64 (a.f_y + a.f_h)) + gap)) ≤ b.f_y)))) = true], (!(cond (cond (decide ((w64 ((w64 (a.f_x + a.f_w)) + gap)) ≤ b.f_x)) true (decide ((w64 ((w64 (b.f_x + b.f_w)) + gap)) ≤ a.f_x))) true (decide ((w64 ((w64 (a.f_y + a.f_h)) + gap)) ≤ b.f_y)))) = true → AllP [(!(cond (cond (decide ((w64 ((w64 (a.f_x + a.f_w)) + gap)) ≤ b.f_x)) true (decide ((w64 ((w64 (b.f_x + b.f_w)) + gap)) ≤ a.f_x))) true (decide ((w64 ((w64 (a.f_y + a.f_h)) + gap)) ≤ b.f_y)))) = true]] ⟨o1, o1, o1, (fun hg => ⟨hg, o1, trivial⟩), (fun hg => ⟨hg, o1, trivial⟩), (fun hg => ⟨hg, hg, trivial⟩), (fun hg => ⟨hg, hg, trivial⟩), (fun hg => ⟨hg, o1, trivial⟩), (fun hg => ⟨hg, hg, trivial⟩), (fun hq => ⟨hq, trivial⟩), (fun hg => ⟨hg, o1, trivial⟩), (fun hg => ⟨hg, o1, trivial⟩), (fun hg => ⟨hg, hg, trivial⟩), (fun hg => ⟨hg, hg, trivial⟩), (fun hg => ⟨hg, o1, trivial⟩), (fun hg => ⟨hg, hg, trivial⟩), (fun hq => ⟨hq, trivial⟩), (fun hg => ⟨hg, o1, trivial⟩), (fun hg => ⟨hg, o1, trivial⟩), (fun hg => ⟨hg, hg, trivial⟩), (fun hg => ⟨hg, hg, trivial⟩), (fun hg => ⟨hg, o1, trivial⟩), (fun hg => ⟨hg, hg, trivial⟩), (fun hq => ⟨hq, trivial⟩), trivial⟩ ?_
  obtain rfl := Option.some.inj h
  refine Runs.sW hE ⟨[(6, (aB (cond (cond (cond (decide ((w64 ((w64 (a.f_x + a.f_w)) + gap)) ≤ b.f_x)) true (decide ((w64 ((w64 (b.f_x + b.f_w)) + gap)) ≤ a.f_x))) true (decide ((w64 ((w64 (a.f_y + a.f_h)) + gap)) ≤ b.f_y))) true (decide ((w64 ((w64 (b.f_y + b.f_h)) + gap)) ≤ a.f_y)))))], [], 800⟩ [] (kp [6]) [] 800 [] trivial ?_
  exact Runs.sT Try.f95 [] [] trivial

end Go.Den
