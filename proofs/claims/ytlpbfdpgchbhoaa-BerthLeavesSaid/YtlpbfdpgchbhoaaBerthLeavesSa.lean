/- Each function of the program does what its Lean function computes (part 1). No conditions. -/
import Derived.Test.YtlpbfdpgchbhoaaBerthLeavesDen
import Derived.Test.YtlpbfdpgchbhoaaProg
set_option linter.unusedVariables false
set_option maxRecDepth 100000
namespace Go.Den
open Go.Ab Go.Proofs


noncomputable def C_6 (n : Nat) : Code := cat (bodyOf Try.f82) (pth n)

theorem g_berth_named_L1_ok (N : Nat) (s : ByteArray) (fuel : Nat) : ∀ (x : Int) (r : Bool), g_berth_named_L1 N s fuel x = some r → ∀ E, EnvOk E 0 → Runs Try.prog E 82 57 (SPost E [] (aB r)) [.code (C_6 116), .inLoop (C_6 116), .inBlock 0, .code (C_6 15)] ⟨[(0, (aS s)), (15, (aI ((s.size : Nat) : Int))), (16, (aI x))], [], 0⟩ := by
  induction fuel with
  | zero => intro _ r h; rw [g_berth_named_L1.eq_1] at h; cases h
  | succ fuel ih =>
    intro x r h E hE
    rw [g_berth_named_L1.eq_2] at h
    refine Runs.sA 1 [.code (C_6 232), .code (C_6 233), .inLoop (C_6 116), .inBlock 0, .code (C_6 15)] ?_
    refine Runs.sR hE ⟨[(0, (aS s)), (15, (aI ((s.size : Nat) : Int))), (16, (aI x)), (17, (aB (decide (x < ((s.size : Nat) : Int)))))], [], 16⟩ (C_6 232) [] [] (kp [0, 15, 16, 17]) [] 16 [] trivial ?_
    refine Runs.sA 1 [.code (C_6 466), .code (C_6 467), .inLoop (C_6 116), .inBlock 0, .code (C_6 15)] ?_
    refine Runs.sC 17 (C_6 932) (C_6 933) (decide (x < ((s.size : Nat) : Int))) (fun hq3 => ?_) (fun hq3 => ?_)
    · have h := condT h hq3
      refine Runs.sA 4 [.code (C_6 3736), .code (C_6 3737), .inBlock 1, .code (C_6 935), .inLoop (C_6 116), .inBlock 0, .code (C_6 15)] ?_
      refine Runs.sR hE ⟨[(0, (aS s)), (3, (aI x)), (15, (aI ((s.size : Nat) : Int))), (16, (aI x))], [], 48⟩ (C_6 3736) [] [] (kp [0, 3, 15, 16]) [] 48 [] trivial ?_
      refine Runs.sA 1 [.code (C_6 7474), .code (C_6 7475), .inBlock 1, .code (C_6 935), .inLoop (C_6 116), .inBlock 0, .code (C_6 15)] ?_
      obtain ⟨c, h⟩ := ifSome h
      refine Runs.sR hE ⟨[(0, (aS s)), (3, (aI x)), (4, (.atom (.int .u8 (byteAt s ((x).toNat))))), (15, (aI ((s.size : Nat) : Int))), (16, (aI x))], [], 112⟩ (C_6 7474) [] [] (kp [0, 3, 4, 15, 16]) [] 112 [0 ≤ x ∧ x < ((s.size : Nat) : Int)] ⟨c, trivial⟩ ?_
      refine Runs.sA 1 [.code (C_6 14950), .code (C_6 14951), .inBlock 1, .code (C_6 935), .inLoop (C_6 116), .inBlock 0, .code (C_6 15)] ?_
      refine Runs.sR hE ⟨[(0, (aS s)), (3, (aI x)), (4, (.atom (.int .u8 (byteAt s ((x).toNat))))), (5, (aB (cond (cond (decide ((byteAt s ((x).toNat)) ≥ 97)) (decide ((byteAt s ((x).toNat)) ≤ 122)) false) true (cond (decide ((byteAt s ((x).toNat)) ≥ 65)) (decide ((byteAt s ((x).toNat)) ≤ 90)) false)))), (15, (aI ((s.size : Nat) : Int))), (16, (aI x))], [], 352⟩ (C_6 14950) [] [] (kp [0, 3, 4, 5, 15, 16]) [] 352 [(decide ((byteAt s ((x).toNat)) ≥ 97)) = true → AllP [(decide ((byteAt s ((x).toNat)) ≥ 97)) = true], (decide ((byteAt s ((x).toNat)) ≥ 97)) = true → AllP [(decide ((byteAt s ((x).toNat)) ≥ 97)) = true], (!(cond (decide ((byteAt s ((x).toNat)) ≥ 97)) (decide ((byteAt s ((x).toNat)) ≤ 122)) false)) = true → AllP [(!(cond (decide ((byteAt s ((x).toNat)) ≥ 97)) (decide ((byteAt s ((x).toNat)) ≤ 122)) false)) = true], ((!(cond (decide ((byteAt s ((x).toNat)) ≥ 97)) (decide ((byteAt s ((x).toNat)) ≤ 122)) false)) && ((!(cond (decide ((byteAt s ((x).toNat)) ≥ 97)) (decide ((byteAt s ((x).toNat)) ≤ 122)) false)) && (decide ((byteAt s ((x).toNat)) ≥ 65)))) = true → AllP [((!(cond (decide ((byteAt s ((x).toNat)) ≥ 97)) (decide ((byteAt s ((x).toNat)) ≤ 122)) false)) && ((!(cond (decide ((byteAt s ((x).toNat)) ≥ 97)) (decide ((byteAt s ((x).toNat)) ≤ 122)) false)) && (decide ((byteAt s ((x).toNat)) ≥ 65)))) = true], (!(cond (decide ((byteAt s ((x).toNat)) ≥ 97)) (decide ((byteAt s ((x).toNat)) ≤ 122)) false)) = true → AllP [(!(cond (decide ((byteAt s ((x).toNat)) ≥ 97)) (decide ((byteAt s ((x).toNat)) ≤ 122)) false)) = true, (!(cond (decide ((byteAt s ((x).toNat)) ≥ 97)) (decide ((byteAt s ((x).toNat)) ≤ 122)) false)) = true, (decide ((byteAt s ((x).toNat)) ≥ 65)) = true → AllP [((!(cond (decide ((byteAt s ((x).toNat)) ≥ 97)) (decide ((byteAt s ((x).toNat)) ≤ 122)) false)) && ((!(cond (decide ((byteAt s ((x).toNat)) ≥ 97)) (decide ((byteAt s ((x).toNat)) ≤ 122)) false)) && (decide ((byteAt s ((x).toNat)) ≥ 65)))) = true]], (!(cond (decide ((byteAt s ((x).toNat)) ≥ 97)) (decide ((byteAt s ((x).toNat)) ≤ 122)) false)) = true → AllP [(!(cond (decide ((byteAt s ((x).toNat)) ≥ 97)) (decide ((byteAt s ((x).toNat)) ≤ 122)) false)) = true]] ⟨(fun hg => ⟨hg, trivial⟩), (fun hq => ⟨hq, trivial⟩), (fun hg => ⟨hg, trivial⟩), (fun hg => ⟨hg, trivial⟩), (fun hg => ⟨hg, hg, (fun hq => ⟨(andI' hg (andI' hg hq)), trivial⟩), trivial⟩), (fun hq => ⟨hq, trivial⟩), trivial⟩ ?_
      refine Runs.sA 1 [.code (C_6 29902), .code (C_6 29903), .inBlock 1, .code (C_6 935), .inLoop (C_6 116), .inBlock 0, .code (C_6 15)] ?_
      refine Runs.sR hE ⟨[(0, (aS s)), (3, (aI x)), (5, (aB (cond (cond (decide ((byteAt s ((x).toNat)) ≥ 97)) (decide ((byteAt s ((x).toNat)) ≤ 122)) false) true (cond (decide ((byteAt s ((x).toNat)) ≥ 65)) (decide ((byteAt s ((x).toNat)) ≤ 90)) false)))), (6, (aB (cond (cond (decide ((byteAt s ((x).toNat)) ≥ 48)) (decide ((byteAt s ((x).toNat)) ≤ 57)) false) true ((byteAt s ((x).toNat)) == 45)))), (15, (aI ((s.size : Nat) : Int))), (16, (aI x))], [], 528⟩ (C_6 29902) [] [] (kp [0, 3, 5, 6, 15, 16]) [] 528 [(decide ((byteAt s ((x).toNat)) ≥ 48)) = true → AllP [(decide ((byteAt s ((x).toNat)) ≥ 48)) = true], (decide ((byteAt s ((x).toNat)) ≥ 48)) = true → AllP [(decide ((byteAt s ((x).toNat)) ≥ 48)) = true], (!(cond (decide ((byteAt s ((x).toNat)) ≥ 48)) (decide ((byteAt s ((x).toNat)) ≤ 57)) false)) = true → AllP [(!(cond (decide ((byteAt s ((x).toNat)) ≥ 48)) (decide ((byteAt s ((x).toNat)) ≤ 57)) false)) = true], (!(cond (decide ((byteAt s ((x).toNat)) ≥ 48)) (decide ((byteAt s ((x).toNat)) ≤ 57)) false)) = true → AllP [(!(cond (decide ((byteAt s ((x).toNat)) ≥ 48)) (decide ((byteAt s ((x).toNat)) ≤ 57)) false)) = true]] ⟨(fun hg => ⟨hg, trivial⟩), (fun hq => ⟨hq, trivial⟩), (fun hg => ⟨hg, trivial⟩), (fun hq => ⟨hq, trivial⟩), trivial⟩ ?_
      refine Runs.sA 1 [.code (C_6 59806), .code (C_6 59807), .inBlock 1, .code (C_6 935), .inLoop (C_6 116), .inBlock 0, .code (C_6 15)] ?_
      refine Runs.sR hE ⟨[(0, (aS s)), (15, (aI ((s.size : Nat) : Int))), (16, (aI x)), (55, (aB (cond (!(cond (cond (decide ((byteAt s ((x).toNat)) ≥ 97)) (decide ((byteAt s ((x).toNat)) ≤ 122)) false) true (cond (decide ((byteAt s ((x).toNat)) ≥ 65)) (decide ((byteAt s ((x).toNat)) ≤ 90)) false))) (cond (x == 0) true (!(cond (cond (decide ((byteAt s ((x).toNat)) ≥ 48)) (decide ((byteAt s ((x).toNat)) ≤ 57)) false) true ((byteAt s ((x).toNat)) == 45)))) false)))], [], 688⟩ (C_6 59806) [] [] (kp [0, 15, 16, 55]) [] 688 [(!(cond (cond (decide ((byteAt s ((x).toNat)) ≥ 97)) (decide ((byteAt s ((x).toNat)) ≤ 122)) false) true (cond (decide ((byteAt s ((x).toNat)) ≥ 65)) (decide ((byteAt s ((x).toNat)) ≤ 90)) false))) = true → AllP [(!(cond (cond (decide ((byteAt s ((x).toNat)) ≥ 97)) (decide ((byteAt s ((x).toNat)) ≤ 122)) false) true (cond (decide ((byteAt s ((x).toNat)) ≥ 65)) (decide ((byteAt s ((x).toNat)) ≤ 90)) false))) = true], ((!(cond (cond (decide ((byteAt s ((x).toNat)) ≥ 97)) (decide ((byteAt s ((x).toNat)) ≤ 122)) false) true (cond (decide ((byteAt s ((x).toNat)) ≥ 65)) (decide ((byteAt s ((x).toNat)) ≤ 90)) false))) && ((!(cond (cond (decide ((byteAt s ((x).toNat)) ≥ 97)) (decide ((byteAt s ((x).toNat)) ≤ 122)) false) true (cond (decide ((byteAt s ((x).toNat)) ≥ 65)) (decide ((byteAt s ((x).toNat)) ≤ 90)) false))) && (!(x == 0)))) = true → AllP [((!(cond (cond (decide ((byteAt s ((x).toNat)) ≥ 97)) (decide ((byteAt s ((x).toNat)) ≤ 122)) false) true (cond (decide ((byteAt s ((x).toNat)) ≥ 65)) (decide ((byteAt s ((x).toNat)) ≤ 90)) false))) && ((!(cond (cond (decide ((byteAt s ((x).toNat)) ≥ 97)) (decide ((byteAt s ((x).toNat)) ≤ 122)) false) true (cond (decide ((byteAt s ((x).toNat)) ≥ 65)) (decide ((byteAt s ((x).toNat)) ≤ 90)) false))) && (!(x == 0)))) = true], (!(cond (cond (decide ((byteAt s ((x).toNat)) ≥ 97)) (decide ((byteAt s ((x).toNat)) ≤ 122)) false) true (cond (decide ((byteAt s ((x).toNat)) ≥ 65)) (decide ((byteAt s ((x).toNat)) ≤ 90)) false))) = true → AllP [(!(cond (cond (decide ((byteAt s ((x).toNat)) ≥ 97)) (decide ((byteAt s ((x).toNat)) ≤ 122)) false) true (cond (decide ((byteAt s ((x).toNat)) ≥ 65)) (decide ((byteAt s ((x).toNat)) ≤ 90)) false))) = true, (!(cond (cond (decide ((byteAt s ((x).toNat)) ≥ 97)) (decide ((byteAt s ((x).toNat)) ≤ 122)) false) true (cond (decide ((byteAt s ((x).toNat)) ≥ 65)) (decide ((byteAt s ((x).toNat)) ≤ 90)) false))) = true, (!(x == 0)) = true → AllP [((!(cond (cond (decide ((byteAt s ((x).toNat)) ≥ 97)) (decide ((byteAt s ((x).toNat)) ≤ 122)) false) true (cond (decide ((byteAt s ((x).toNat)) ≥ 65)) (decide ((byteAt s ((x).toNat)) ≤ 90)) false))) && ((!(cond (cond (decide ((byteAt s ((x).toNat)) ≥ 97)) (decide ((byteAt s ((x).toNat)) ≤ 122)) false) true (cond (decide ((byteAt s ((x).toNat)) ≥ 65)) (decide ((byteAt s ((x).toNat)) ≤ 90)) false))) && (!(x == 0)))) = true]], (!(cond (cond (decide ((byteAt s ((x).toNat)) ≥ 97)) (decide ((byteAt s ((x).toNat)) ≤ 122)) false) true (cond (decide ((byteAt s ((x).toNat)) ≥ 65)) (decide ((byteAt s ((x).toNat)) ≤ 90)) false))) = true → AllP [(!(cond (cond (decide ((byteAt s ((x).toNat)) ≥ 97)) (decide ((byteAt s ((x).toNat)) ≤ 122)) false) true (cond (decide ((byteAt s ((x).toNat)) ≥ 65)) (decide ((byteAt s ((x).toNat)) ≤ 90)) false))) = true]] ⟨(fun hg => ⟨hg, trivial⟩), (fun hg => ⟨hg, trivial⟩), (fun hg => ⟨hg, hg, (fun hq => ⟨(andI' hg (andI' hg hq)), trivial⟩), trivial⟩), (fun hq => ⟨hq, trivial⟩), trivial⟩ ?_
      refine Runs.sC 55 (C_6 119614) (C_6 119615) (cond (!(cond (cond (decide ((byteAt s ((x).toNat)) ≥ 97)) (decide ((byteAt s ((x).toNat)) ≤ 122)) false) true (cond (decide ((byteAt s ((x).toNat)) ≥ 65)) (decide ((byteAt s ((x).toNat)) ≤ 90)) false))) (cond (x == 0) true (!(cond (cond (decide ((byteAt s ((x).toNat)) ≥ 48)) (decide ((byteAt s ((x).toNat)) ≤ 57)) false) true ((byteAt s ((x).toNat)) == 45)))) false) (fun hq4 => ?_) (fun hq4 => ?_)
      · have h := condT h hq4
        refine Runs.sA 1 [.code (C_6 239228), .code (C_6 239229), .inBlock 1, .code (C_6 935), .inLoop (C_6 116), .inBlock 0, .code (C_6 15)] ?_
        refine Runs.sR hE ⟨[(2, (aB false))], [], 704⟩ (C_6 239228) [] [] (kp [2]) [] 704 [] trivial ?_
        obtain rfl := Option.some.inj h
        refine Runs.sW hE ⟨[(2, (aB false))], [], 704⟩ [] (kp [2]) [] 704 [] trivial ?_
        exact Runs.sT Try.f82 [] [] trivial
      · have h := condF h hq4
        refine Runs.sA 2 [.code (C_6 935), .inLoop (C_6 116), .inBlock 0, .code (C_6 15)] ?_
        refine Runs.sR hE ⟨[(0, (aS s)), (15, (aI ((s.size : Nat) : Int))), (16, (aI (w64 (x + 1))))], [], 720⟩ (C_6 935) [] [] (kp [0, 15, 16]) [] 720 [] trivial ?_
        refine Runs.sA 1 [.code (C_6 116), .inLoop (C_6 116), .inBlock 0, .code (C_6 15)] ?_
        exact Runs.sW hE _ [] (kp [0, 15, 16]) [] 0 [] trivial (ih (w64 (x + 1)) _ h E hE)
    · have h := condF h hq3
      refine Runs.sA 2 [.code (C_6 30), .code (C_6 31)] ?_
      refine Runs.sR hE ⟨[(2, (aB true))], [], 32⟩ (C_6 30) [] [] (kp [2]) [] 32 [] trivial ?_
      obtain rfl := Option.some.inj h
      refine Runs.sW hE ⟨[(2, (aB true))], [], 48⟩ [] (kp [2]) [] 48 [] trivial ?_
      exact Runs.sT Try.f82 [] [] trivial

theorem g_berth_named_ok (N : Nat) (s : ByteArray) (r : Bool) (h : g_berth_named N s = some r) : Sound Try.prog 82 [(aS s)] [] 0 (aB r) [] := by
  unfold g_berth_named at h
  refine Sound.of_runs (fu := Try.f82) (c := C_6 1) (nt := 57) (by kernel_rfl) (by kernel_rfl) (by kernel_rfl) (by kernel_rfl) (fun hm => rfl) ?_
  intro E hE
  refine Runs.sA 1 [.code (C_6 2), .code (C_6 3)] ?_
  refine Runs.sR hE ⟨[(0, (aS s))], [], 16⟩ (C_6 2) [] [] (kp [0]) [] 16 [] trivial ?_
  refine Runs.sA 2 [.code (C_6 12), .code (C_6 13), .code (C_6 7)] ?_
  refine Runs.sR hE ⟨[(0, (aS s)), (13, (aB (cond (streq s ByteArray.empty) true (decide (((s.size : Nat) : Int) > 12)))))], [], 128⟩ (C_6 12) [] [] (kp [0, 13]) [] 128 [(!(streq s ByteArray.empty)) = true → AllP [(!(streq s ByteArray.empty)) = true], (!(streq s ByteArray.empty)) = true → AllP [(!(streq s ByteArray.empty)) = true], (!(streq s ByteArray.empty)) = true → AllP [(!(streq s ByteArray.empty)) = true]] ⟨(fun hg => ⟨hg, trivial⟩), (fun hg => ⟨hg, trivial⟩), (fun hq => ⟨hq, trivial⟩), trivial⟩ ?_
  refine Runs.sC 13 (C_6 26) (C_6 27) (cond (streq s ByteArray.empty) true (decide (((s.size : Nat) : Int) > 12))) (fun hq2 => ?_) (fun hq2 => ?_)
  · have h := condT h hq2
    refine Runs.sA 1 [.code (C_6 52), .code (C_6 53), .code (C_6 7)] ?_
    refine Runs.sR hE ⟨[(2, (aB false))], [], 144⟩ (C_6 52) [] [] (kp [2]) [] 144 [] trivial ?_
    obtain rfl := Option.some.inj h
    refine Runs.sW hE ⟨[(2, (aB false))], [], 144⟩ [] (kp [2]) [] 144 [] trivial ?_
    exact Runs.sT Try.f82 [] [] trivial
  · have h := condF h hq2
    refine Runs.sA 3 [.code (C_6 28), .code (C_6 29), .code (C_6 15)] ?_
    refine Runs.sR hE ⟨[(0, (aS s)), (15, (aI ((s.size : Nat) : Int))), (16, (aI 0))], [], 176⟩ (C_6 28) [] [] (kp [0, 15, 16]) [] 176 [] trivial ?_
    refine Runs.sA 2 [.code (C_6 116), .inLoop (C_6 116), .inBlock 0, .code (C_6 15)] ?_
    exact Runs.sW hE _ [] (kp [0, 15, 16]) [] 0 [] trivial (g_berth_named_L1_ok N s N 0 _ h E hE)

noncomputable def C_11 (n : Nat) : Code := cat (bodyOf Try.f54) (pth n)

theorem g_berth_outside_ok (N : Nat) (n : Int) (lo : Int) (hi : Int) (r : Bool) (h : g_berth_outside N n lo hi = some r) : Sound Try.prog 54 [(aI n), (aI lo), (aI hi)] [] 0 (aB r) [] := by
  unfold g_berth_outside at h
  refine Sound.of_runs (fu := Try.f54) (c := C_11 1) (nt := 15) (by kernel_rfl) (by kernel_rfl) (by kernel_rfl) (by kernel_rfl) (fun hm => rfl) ?_
  intro E hE
  refine Runs.sA 1 [.code (C_11 2), .code (C_11 3)] ?_
  refine Runs.sR hE ⟨[(0, (aI n)), (1, (aI lo)), (2, (aI hi))], [], 16⟩ (C_11 2) [] [] (kp [0, 1, 2]) [] 16 [] trivial ?_
  refine Runs.sA 1 [.code (C_11 6), .code (C_11 7)] ?_
  refine Runs.sR hE ⟨[(6, (aB (cond (decide (n < lo)) true (decide (n > hi)))))], [], 160⟩ (C_11 6) [] [] (kp [6]) [] 160 [(!(decide (n < lo))) = true → AllP [(!(decide (n < lo))) = true, (!(decide (n < lo))) = true], (!(decide (n < lo))) = true → AllP [(!(decide (n < lo))) = true]] ⟨(fun hg => ⟨hg, hg, trivial⟩), (fun hq => ⟨hq, trivial⟩), trivial⟩ ?_
  obtain rfl := Option.some.inj h
  refine Runs.sW hE ⟨[(6, (aB (cond (decide (n < lo)) true (decide (n > hi)))))], [], 160⟩ [] (kp [6]) [] 160 [] trivial ?_
  exact Runs.sT Try.f54 [] [] trivial

noncomputable def C_12 (n : Nat) : Code := cat (bodyOf Try.f53) (pth n)

theorem g_berth_ranged_ok (N : Nat) (wrong : Bool) (r : Int) (h : g_berth_ranged N wrong = some r) : Sound Try.prog 53 [(aB wrong)] [] 0 (aI r) [] := by
  unfold g_berth_ranged at h
  refine Sound.of_runs (fu := Try.f53) (c := C_12 1) (nt := 4) (by kernel_rfl) (by kernel_rfl) (by kernel_rfl) (by kernel_rfl) (fun hm => rfl) ?_
  intro E hE
  refine Runs.sA 1 [.code (C_12 2), .code (C_12 3)] ?_
  refine Runs.sR hE ⟨[(0, (aB wrong))], [], 16⟩ (C_12 2) [] [] (kp [0]) [] 16 [] trivial ?_
  refine Runs.sA 2 [.code (C_12 12), .code (C_12 13), .code (C_12 7)] ?_
  refine Runs.sR hE ⟨[(3, (aB wrong))], [], 32⟩ (C_12 12) [] [] (kp [3]) [] 32 [] trivial ?_
  refine Runs.sC 3 (C_12 26) (C_12 27) wrong (fun hq2 => ?_) (fun hq2 => ?_)
  · have h := condT h hq2
    refine Runs.sA 1 [.code (C_12 52), .code (C_12 53), .code (C_12 7)] ?_
    refine Runs.sR hE ⟨[(2, (aI 2))], [], 48⟩ (C_12 52) [] [] (kp [2]) [] 48 [] trivial ?_
    obtain rfl := Option.some.inj h
    refine Runs.sW hE ⟨[(2, (aI 2))], [], 48⟩ [] (kp [2]) [] 48 [] trivial ?_
    exact Runs.sT Try.f53 [] [] trivial
  · have h := condF h hq2
    refine Runs.sA 2 [.code (C_12 14), .code (C_12 15)] ?_
    refine Runs.sR hE ⟨[(2, (aI 0))], [], 48⟩ (C_12 14) [] [] (kp [2]) [] 48 [] trivial ?_
    obtain rfl := Option.some.inj h
    refine Runs.sW hE ⟨[(2, (aI 0))], [], 48⟩ [] (kp [2]) [] 48 [] trivial ?_
    exact Runs.sT Try.f53 [] [] trivial

noncomputable def C_46 (n : Nat) : Code := cat (bodyOf Try.f51) (pth n)

theorem g_berth_CheckDocks_1_ok (N : Nat) (x : Tapi_Dock) (r : ByteArray) (h : g_berth_CheckDocks_1 N x = some r) : Sound Try.prog 51 [(.agg (Tapi_Dock.cells x))] [] 0 (aS r) [] := by
  unfold g_berth_CheckDocks_1 at h
  refine Sound.of_runs (fu := Try.f51) (c := C_46 1) (nt := 5) (by kernel_rfl) (by kernel_rfl) (by kernel_rfl) (by kernel_rfl) (fun hm => rfl) ?_
  intro E hE
  refine Runs.sA 1 [.code (C_46 2), .code (C_46 3)] ?_
  refine Runs.sR hE ⟨[(1, (.op 0 0 0))], [(0, vO 6 (Tapi_Dock.cells x))], 32⟩ (C_46 2) [] [] (kp [1]) (kq [0]) 32 [] trivial ?_
  refine Runs.sA 1 [.code (C_46 6), .code (C_46 7)] ?_
  refine Runs.sR hE ⟨[(2, (aS x.f_Name))], [], 80⟩ (C_46 6) [] [] (kp [2]) [] 80 [0 < 1] ⟨o1, trivial⟩ ?_
  obtain rfl := Option.some.inj h
  refine Runs.sW hE ⟨[(2, (aS x.f_Name))], [], 80⟩ [] (kp [2]) [] 80 [] trivial ?_
  exact Runs.sT Try.f51 [] [] trivial

noncomputable def C_49 (n : Nat) : Code := cat (bodyOf Try.f86) (pth n)

theorem g_berth_check_Dock_1_ok (N : Nat) (y : Tapi_Dock) (cap1 : Tapi_Dock) (r : Bool) (h : g_berth_check_Dock_1 N y cap1 = some r) : Sound Try.prog 86 [(.agg (Tapi_Dock.cells y)), (.op 0 0 0), (.op 1 0 0)] [(0, vO 1 [(.fn (.func 51) [] [])]), (1, vO 6 (Tapi_Dock.cells cap1))] 2 (aB r) [(0, vO 1 [(.fn (.func 51) [] [])]), (1, vO 6 (Tapi_Dock.cells cap1))] := by
  unfold g_berth_check_Dock_1 at h
  refine Sound.of_runs (fu := Try.f86) (c := C_49 1) (nt := 12) (by kernel_rfl) (by kernel_rfl) (by kernel_rfl) (by kernel_rfl) (fun hm => absurd hm (by decide)) ?_
  intro E hE
  refine Runs.sA 1 [.code (C_49 2), .code (C_49 3)] ?_
  refine Runs.sR hE ⟨[(1, (.op 0 0 0)), (2, (.op 1 0 0)), (3, (.op 2 0 0))], [(0, vO 1 [(.fn (.func 51) [] [])]), (1, vO 6 (Tapi_Dock.cells cap1)), (2, vO 6 (Tapi_Dock.cells y))], 34⟩ (C_49 2) [] [] (kp [1, 2, 3]) (kq [0, 1, 2]) 34 [] trivial ?_
  refine Runs.sA 1 [.code (C_49 6), .code (C_49 7)] ?_
  obtain ⟨rCheckDocks1, hr, h⟩ := bindSome h
  obtain ⟨rCheckDocks12, hr2, h⟩ := bindSome h
  refine Runs.sR hE ⟨[(4, (aB (streq rCheckDocks1 rCheckDocks12)))], [(0, vO 1 [(.fn (.func 51) [] [])]), (1, vO 6 (Tapi_Dock.cells cap1))], 162⟩ (C_49 6) [(2, ⟨[], true, (aS rCheckDocks1), [], 0, false, none⟩), (5, ⟨[], true, (aS rCheckDocks12), [], 0, false, none⟩)] [] (kp [4]) (kq [0, 1]) 162 [0 < 1, 0 < 1, Sound Try.prog 51 [(.agg (Tapi_Dock.cells y))] [] 0 (aS rCheckDocks1) [], 0 < 1, 0 < 1, Sound Try.prog 51 [(.agg (Tapi_Dock.cells cap1))] [] 0 (aS rCheckDocks12) []] ⟨o1, o1, (g_berth_CheckDocks_1_ok N y rCheckDocks1 hr), o1, o1, (g_berth_CheckDocks_1_ok N cap1 rCheckDocks12 hr2), trivial⟩ ?_
  obtain rfl := Option.some.inj h
  refine Runs.sW hE ⟨[(4, (aB (streq rCheckDocks1 rCheckDocks12)))], [(0, vO 1 [(.fn (.func 51) [] [])]), (1, vO 6 (Tapi_Dock.cells cap1))], 162⟩ [] (kp [4]) (kq [0, 1]) 162 [] trivial ?_
  exact Runs.sT Try.f86 [] [] trivial

noncomputable def C_48 (n : Nat) : Code := cat (bodyOf Try.f98) (pth n)

theorem g_slices_IndexFunc_api_Dock_api_Dock_L1_ok (N : Nat) (s : List Tapi_Dock) (cap1 : Tapi_Dock) (fuel : Nat) : ∀ (x : Int) (r : Int), g_slices_IndexFunc_api_Dock_api_Dock_L1 N s cap1 fuel x = some r → ∀ E, EnvOk E 2 → Runs Try.prog E 98 19 (SPost E [(0, vO 1 [(.fn (.func 51) [] [])]), (1, vO 6 (Tapi_Dock.cells cap1))] (aI r)) [.code (C_48 52), .inLoop (C_48 52), .inBlock 0, .code (C_48 7)] ⟨[(0, (encL Tapi_Dock.cells Tapi_Dock.d s)), (1, (.fn (.func 86) [] [(.op 0 0 0), (.op 1 0 0)])), (7, (aI ((s.length : Nat) : Int))), (8, (aI x))], [(0, vO 1 [(.fn (.func 51) [] [])]), (1, vO 6 (Tapi_Dock.cells cap1))], 2⟩ := by
  induction fuel with
  | zero => intro _ r h; rw [g_slices_IndexFunc_api_Dock_api_Dock_L1.eq_1] at h; cases h
  | succ fuel ih =>
    intro x r h E hE
    rw [g_slices_IndexFunc_api_Dock_api_Dock_L1.eq_2] at h
    refine Runs.sA 1 [.code (C_48 104), .code (C_48 105), .inLoop (C_48 52), .inBlock 0, .code (C_48 7)] ?_
    refine Runs.sR hE ⟨[(0, (encL Tapi_Dock.cells Tapi_Dock.d s)), (1, (.fn (.func 86) [] [(.op 0 0 0), (.op 1 0 0)])), (7, (aI ((s.length : Nat) : Int))), (8, (aI x)), (9, (aB (decide (x < ((s.length : Nat) : Int)))))], [(0, vO 1 [(.fn (.func 51) [] [])]), (1, vO 6 (Tapi_Dock.cells cap1))], 18⟩ (C_48 104) [] [] (kp [0, 1, 7, 8, 9]) (kq [0, 1]) 18 [] trivial ?_
    refine Runs.sA 1 [.code (C_48 210), .code (C_48 211), .inLoop (C_48 52), .inBlock 0, .code (C_48 7)] ?_
    refine Runs.sC 9 (C_48 420) (C_48 421) (decide (x < ((s.length : Nat) : Int))) (fun hq2 => ?_) (fun hq2 => ?_)
    · have h := condT h hq2
      refine Runs.sA 4 [.code (C_48 1688), .code (C_48 1689), .inBlock 1, .code (C_48 423), .inLoop (C_48 52), .inBlock 0, .code (C_48 7)] ?_
      refine Runs.sR hE ⟨[(0, (encL Tapi_Dock.cells Tapi_Dock.d s)), (1, (.fn (.func 86) [] [(.op 0 0 0), (.op 1 0 0)])), (5, (aI x)), (7, (aI ((s.length : Nat) : Int))), (8, (aI x))], [(0, vO 1 [(.fn (.func 51) [] [])]), (1, vO 6 (Tapi_Dock.cells cap1))], 50⟩ (C_48 1688) [] [] (kp [0, 1, 5, 7, 8]) (kq [0, 1]) 50 [] trivial ?_
      refine Runs.sA 1 [.code (C_48 3378), .code (C_48 3379), .inBlock 1, .code (C_48 423), .inLoop (C_48 52), .inBlock 0, .code (C_48 7)] ?_
      obtain ⟨c, h⟩ := ifSome h
      obtain ⟨rDock1, hr, h⟩ := bindSome h
      refine Runs.sR hE ⟨[(0, (encL Tapi_Dock.cells Tapi_Dock.d s)), (1, (.fn (.func 86) [] [(.op 0 0 0), (.op 1 0 0)])), (5, (aI x)), (7, (aI ((s.length : Nat) : Int))), (8, (aI x)), (16, (aB rDock1))], [(0, vO 1 [(.fn (.func 51) [] [])]), (1, vO 6 (Tapi_Dock.cells cap1))], 146⟩ (C_48 3378) [(5, ⟨[0, 1], true, (aB rDock1), [], 0, false, none⟩)] [] (kp [0, 1, 5, 7, 8, 16]) (kq [0, 1]) 146 [0 ≤ x ∧ x < ((s.length : Nat) : Int), Sound Try.prog 86 [(.agg (Tapi_Dock.cells (s.getD ((x).toNat) Tapi_Dock.d))), (.op 0 0 0), (.op 1 0 0)] [(0, vO 1 [(.fn (.func 51) [] [])]), (1, vO 6 (Tapi_Dock.cells cap1))] 2 (aB rDock1) [(0, vO 1 [(.fn (.func 51) [] [])]), (1, vO 6 (Tapi_Dock.cells cap1))]] ⟨c, (g_berth_check_Dock_1_ok N (s.getD ((x).toNat) Tapi_Dock.d) cap1 rDock1 hr), trivial⟩ ?_
      refine Runs.sC 16 (C_48 6758) (C_48 6759) rDock1 (fun hq3 => ?_) (fun hq3 => ?_)
      · have h := condT h hq3
        refine Runs.sA 1 [.code (C_48 13516), .code (C_48 13517), .inBlock 1, .code (C_48 423), .inLoop (C_48 52), .inBlock 0, .code (C_48 7)] ?_
        refine Runs.sR hE ⟨[(4, (aI x))], [(0, vO 1 [(.fn (.func 51) [] [])]), (1, vO 6 (Tapi_Dock.cells cap1))], 178⟩ (C_48 13516) [] [] (kp [4]) (kq [0, 1]) 178 [] trivial ?_
        obtain rfl := Option.some.inj h
        refine Runs.sW hE ⟨[(4, (aI x))], [(0, vO 1 [(.fn (.func 51) [] [])]), (1, vO 6 (Tapi_Dock.cells cap1))], 178⟩ [] (kp [4]) (kq [0, 1]) 178 [] trivial ?_
        exact Runs.sT Try.f98 [] [] trivial
      · have h := condF h hq3
        refine Runs.sA 2 [.code (C_48 423), .inLoop (C_48 52), .inBlock 0, .code (C_48 7)] ?_
        refine Runs.sR hE ⟨[(0, (encL Tapi_Dock.cells Tapi_Dock.d s)), (1, (.fn (.func 86) [] [(.op 0 0 0), (.op 1 0 0)])), (7, (aI ((s.length : Nat) : Int))), (8, (aI (w64 (x + 1))))], [(0, vO 1 [(.fn (.func 51) [] [])]), (1, vO 6 (Tapi_Dock.cells cap1))], 178⟩ (C_48 423) [] [] (kp [0, 1, 7, 8]) (kq [0, 1]) 178 [] trivial ?_
        refine Runs.sA 1 [.code (C_48 52), .inLoop (C_48 52), .inBlock 0, .code (C_48 7)] ?_
        exact Runs.sW hE _ [] (kp [0, 1, 7, 8]) (kq [0, 1]) 2 [] trivial (ih (w64 (x + 1)) _ h E hE)
    · have h := condF h hq2
      refine Runs.sA 2 [.code (C_48 14), .code (C_48 15)] ?_
      refine Runs.sR hE ⟨[(4, (aI (-1)))], [(0, vO 1 [(.fn (.func 51) [] [])]), (1, vO 6 (Tapi_Dock.cells cap1))], 34⟩ (C_48 14) [] [] (kp [4]) (kq [0, 1]) 34 [] trivial ?_
      obtain rfl := Option.some.inj h
      refine Runs.sW hE ⟨[(4, (aI (-1)))], [(0, vO 1 [(.fn (.func 51) [] [])]), (1, vO 6 (Tapi_Dock.cells cap1))], 50⟩ [] (kp [4]) (kq [0, 1]) 50 [] trivial ?_
      exact Runs.sT Try.f98 [] [] trivial

theorem g_slices_IndexFunc_api_Dock_api_Dock_ok (N : Nat) (s : List Tapi_Dock) (cap1 : Tapi_Dock) (r : Int) (h : g_slices_IndexFunc_api_Dock_api_Dock N s cap1 = some r) : Sound Try.prog 98 [(encL Tapi_Dock.cells Tapi_Dock.d s), (.fn (.func 86) [] [(.op 0 0 0), (.op 1 0 0)])] [(0, vO 1 [(.fn (.func 51) [] [])]), (1, vO 6 (Tapi_Dock.cells cap1))] 2 (aI r) [(0, vO 1 [(.fn (.func 51) [] [])]), (1, vO 6 (Tapi_Dock.cells cap1))] := by
  unfold g_slices_IndexFunc_api_Dock_api_Dock at h
  refine Sound.of_runs (fu := Try.f98) (c := C_48 1) (nt := 19) (by kernel_rfl) (by kernel_rfl) (by kernel_rfl) (by kernel_rfl) (fun hm => absurd hm (by decide)) ?_
  intro E hE
  refine Runs.sA 1 [.code (C_48 2), .code (C_48 3)] ?_
  refine Runs.sR hE ⟨[(0, (encL Tapi_Dock.cells Tapi_Dock.d s)), (1, (.fn (.func 86) [] [(.op 0 0 0), (.op 1 0 0)]))], [(0, vO 1 [(.fn (.func 51) [] [])]), (1, vO 6 (Tapi_Dock.cells cap1))], 18⟩ (C_48 2) [] [] (kp [0, 1]) (kq [0, 1]) 18 [] trivial ?_
  refine Runs.sA 2 [.code (C_48 12), .code (C_48 13), .code (C_48 7)] ?_
  refine Runs.sR hE ⟨[(0, (encL Tapi_Dock.cells Tapi_Dock.d s)), (1, (.fn (.func 86) [] [(.op 0 0 0), (.op 1 0 0)])), (7, (aI ((s.length : Nat) : Int))), (8, (aI 0))], [(0, vO 1 [(.fn (.func 51) [] [])]), (1, vO 6 (Tapi_Dock.cells cap1))], 66⟩ (C_48 12) [] [] (kp [0, 1, 7, 8]) (kq [0, 1]) 66 [] trivial ?_
  refine Runs.sA 2 [.code (C_48 52), .inLoop (C_48 52), .inBlock 0, .code (C_48 7)] ?_
  exact Runs.sW hE _ [] (kp [0, 1, 7, 8]) (kq [0, 1]) 2 [] trivial (g_slices_IndexFunc_api_Dock_api_Dock_L1_ok N s cap1 N 0 _ h E hE)

noncomputable def C_47 (n : Nat) : Code := cat (bodyOf Try.f85) (pth n)

theorem g_slices_ContainsFunc_api_Dock_api_Dock_ok (N : Nat) (s : List Tapi_Dock) (cap1 : Tapi_Dock) (r : Bool) (h : g_slices_ContainsFunc_api_Dock_api_Dock N s cap1 = some r) : Sound Try.prog 85 [(encL Tapi_Dock.cells Tapi_Dock.d s), (.fn (.func 86) [] [(.op 0 0 0), (.op 1 0 0)])] [(0, vO 1 [(.fn (.func 51) [] [])]), (1, vO 6 (Tapi_Dock.cells cap1))] 2 (aB r) [(0, vO 1 [(.fn (.func 51) [] [])]), (1, vO 6 (Tapi_Dock.cells cap1))] := by
  unfold g_slices_ContainsFunc_api_Dock_api_Dock at h
  refine Sound.of_runs (fu := Try.f85) (c := C_47 1) (nt := 9) (by kernel_rfl) (by kernel_rfl) (by kernel_rfl) (by kernel_rfl) (fun hm => absurd hm (by decide)) ?_
  intro E hE
  refine Runs.sA 1 [.code (C_47 2), .code (C_47 3)] ?_
  refine Runs.sR hE ⟨[(0, (encL Tapi_Dock.cells Tapi_Dock.d s)), (1, (.fn (.func 86) [] [(.op 0 0 0), (.op 1 0 0)]))], [(0, vO 1 [(.fn (.func 51) [] [])]), (1, vO 6 (Tapi_Dock.cells cap1))], 18⟩ (C_47 2) [] [] (kp [0, 1]) (kq [0, 1]) 18 [] trivial ?_
  refine Runs.sA 1 [.code (C_47 6), .code (C_47 7)] ?_
  obtain ⟨rDock, hr, h⟩ := bindSome h
  refine Runs.sR hE ⟨[(4, (aB (decide (rDock ≥ 0))))], [(0, vO 1 [(.fn (.func 51) [] [])]), (1, vO 6 (Tapi_Dock.cells cap1))], 98⟩ (C_47 6) [(2, ⟨[0, 1], true, (aI rDock), [], 0, false, none⟩)] [] (kp [4]) (kq [0, 1]) 98 [Sound Try.prog 98 [(encL Tapi_Dock.cells Tapi_Dock.d s), (.fn (.func 86) [] [(.op 0 0 0), (.op 1 0 0)])] [(0, vO 1 [(.fn (.func 51) [] [])]), (1, vO 6 (Tapi_Dock.cells cap1))] 2 (aI rDock) [(0, vO 1 [(.fn (.func 51) [] [])]), (1, vO 6 (Tapi_Dock.cells cap1))]] ⟨(g_slices_IndexFunc_api_Dock_api_Dock_ok N s cap1 rDock hr), trivial⟩ ?_
  obtain rfl := Option.some.inj h
  refine Runs.sW hE ⟨[(4, (aB (decide (rDock ≥ 0))))], [(0, vO 1 [(.fn (.func 51) [] [])]), (1, vO 6 (Tapi_Dock.cells cap1))], 98⟩ [] (kp [4]) (kq [0, 1]) 98 [] trivial ?_
  exact Runs.sT Try.f85 [] [] trivial

noncomputable def C_50 (n : Nat) : Code := cat (bodyOf Try.f52) (pth n)

theorem g_berth_CheckDocks_2_ok (N : Nat) (x : Tapi_Dock) (r : Int) (h : g_berth_CheckDocks_2 N x = some r) : Sound Try.prog 52 [(.agg (Tapi_Dock.cells x))] [] 0 (aI r) [] := by
  unfold g_berth_CheckDocks_2 at h
  refine Sound.of_runs (fu := Try.f52) (c := C_50 1) (nt := 27) (by kernel_rfl) (by kernel_rfl) (by kernel_rfl) (by kernel_rfl) (fun hm => rfl) ?_
  intro E hE
  refine Runs.sA 1 [.code (C_50 2), .code (C_50 3)] ?_
  refine Runs.sR hE ⟨[(1, (.op 0 0 0))], [(0, vO 6 (Tapi_Dock.cells x))], 32⟩ (C_50 2) [] [] (kp [1]) (kq [0]) 32 [] trivial ?_
  refine Runs.sA 1 [.code (C_50 6), .code (C_50 7)] ?_
  obtain ⟨routside, hr, h⟩ := bindSome h
  obtain ⟨routside2, hr2, h⟩ := bindSome h
  obtain ⟨routside3, hr3, h⟩ := bindSome h
  obtain ⟨routside4, hr4, h⟩ := bindSome h
  obtain ⟨routside5, hr5, h⟩ := bindSome h
  obtain ⟨rranged, hr6, h⟩ := bindSome h
  refine Runs.sR hE ⟨[(2, (aI rranged))], [], 432⟩ (C_50 6) [(2, ⟨[], true, (aB routside), [], 0, false, none⟩), (6, ⟨[], true, (aB routside2), [], 0, false, none⟩), (11, ⟨[], true, (aB routside3), [], 0, false, none⟩), (16, ⟨[], true, (aB routside4), [], 0, false, none⟩), (21, ⟨[], true, (aB routside5), [], 0, false, none⟩), (23, ⟨[], true, (aI rranged), [], 0, false, none⟩)] [] (kp [2]) [] 432 [0 < 1, Sound Try.prog 54 [(aI x.f_Length), (aI 1), (aI 1000000)] [] 0 (aB routside) [], (!routside) = true → AllP [(!routside) = true, 0 < 1], (!routside) = true → AllP [Sound Try.prog 54 [(aI x.f_Width), (aI 1), (aI 1000000)] [] 0 (aB routside2) [], (!routside) = true], (!routside) = true → AllP [(!routside) = true], (!(cond routside true routside2)) = true → AllP [(!(cond routside true routside2)) = true, 0 < 1], (!(cond routside true routside2)) = true → AllP [Sound Try.prog 54 [(aI x.f_Sill), (aI (-1000000)), (aI 1000000)] [] 0 (aB routside3) [], (!(cond routside true routside2)) = true], (!(cond routside true routside2)) = true → AllP [(!(cond routside true routside2)) = true], (!(cond (cond routside true routside2) true routside3)) = true → AllP [(!(cond (cond routside true routside2) true routside3)) = true, 0 < 1], (!(cond (cond routside true routside2) true routside3)) = true → AllP [Sound Try.prog 54 [(aI x.f_Floor), (aI (-1000000)), (aI 1000000)] [] 0 (aB routside4) [], (!(cond (cond routside true routside2) true routside3)) = true], (!(cond (cond routside true routside2) true routside3)) = true → AllP [(!(cond (cond routside true routside2) true routside3)) = true], (!(cond (cond (cond routside true routside2) true routside3) true routside4)) = true → AllP [(!(cond (cond (cond routside true routside2) true routside3) true routside4)) = true, 0 < 1], (!(cond (cond (cond routside true routside2) true routside3) true routside4)) = true → AllP [Sound Try.prog 54 [(aI x.f_Gap), (aI 0), (aI 1000000)] [] 0 (aB routside5) [], (!(cond (cond (cond routside true routside2) true routside3) true routside4)) = true], (!(cond (cond (cond routside true routside2) true routside3) true routside4)) = true → AllP [(!(cond (cond (cond routside true routside2) true routside3) true routside4)) = true], Sound Try.prog 53 [(aB (cond (cond (cond (cond routside true routside2) true routside3) true routside4) true routside5))] [] 0 (aI rranged) []] ⟨o1, (g_berth_outside_ok N x.f_Length 1 1000000 routside hr), (fun hg => ⟨hg, o1, trivial⟩), (fun hg => ⟨(g_berth_outside_ok N x.f_Width 1 1000000 routside2 (condT hr2 hg)), hg, trivial⟩), (fun hq => ⟨hq, trivial⟩), (fun hg => ⟨hg, o1, trivial⟩), (fun hg => ⟨(g_berth_outside_ok N x.f_Sill (-1000000) 1000000 routside3 (condT hr3 hg)), hg, trivial⟩), (fun hq => ⟨hq, trivial⟩), (fun hg => ⟨hg, o1, trivial⟩), (fun hg => ⟨(g_berth_outside_ok N x.f_Floor (-1000000) 1000000 routside4 (condT hr4 hg)), hg, trivial⟩), (fun hq => ⟨hq, trivial⟩), (fun hg => ⟨hg, o1, trivial⟩), (fun hg => ⟨(g_berth_outside_ok N x.f_Gap 0 1000000 routside5 (condT hr5 hg)), hg, trivial⟩), (fun hq => ⟨hq, trivial⟩), (g_berth_ranged_ok N (cond (cond (cond (cond routside true routside2) true routside3) true routside4) true routside5) rranged hr6), trivial⟩ ?_
  obtain rfl := Option.some.inj h
  refine Runs.sW hE ⟨[(2, (aI rranged))], [], 432⟩ [] (kp [2]) [] 432 [] trivial ?_
  exact Runs.sT Try.f52 [] [] trivial

noncomputable def C_45 (n : Nat) : Code := cat (bodyOf Try.f50) (pth n)

theorem g_berth_check_Dock_L1_ok (N : Nat) (l : List Tapi_Dock) (fuel : Nat) : ∀ (x : Int) (r : Int), g_berth_check_Dock_L1 N l fuel x = some r → ∀ E, EnvOk E 0 → Runs Try.prog E 50 40 (SPost E [] (aI r)) [.code (C_45 116), .inLoop (C_45 116), .inBlock 0, .code (C_45 15)] ⟨[(0, (encL Tapi_Dock.cells Tapi_Dock.d l)), (3, (.fn (.func 52) [] [])), (6, (.op 0 0 0)), (16, (encL Tapi_Dock.cells Tapi_Dock.d l)), (17, (aI ((l.length : Nat) : Int))), (18, (aI x))], [(0, vO 1 [(.fn (.func 51) [] [])])], 1⟩ := by
  induction fuel with
  | zero => intro _ r h; rw [g_berth_check_Dock_L1.eq_1] at h; cases h
  | succ fuel ih =>
    intro x r h E hE
    rw [g_berth_check_Dock_L1.eq_2] at h
    refine Runs.sA 1 [.code (C_45 232), .code (C_45 233), .inLoop (C_45 116), .inBlock 0, .code (C_45 15)] ?_
    refine Runs.sR hE ⟨[(0, (encL Tapi_Dock.cells Tapi_Dock.d l)), (3, (.fn (.func 52) [] [])), (6, (.op 0 0 0)), (16, (encL Tapi_Dock.cells Tapi_Dock.d l)), (17, (aI ((l.length : Nat) : Int))), (18, (aI x)), (19, (aB (decide (x < ((l.length : Nat) : Int)))))], [(0, vO 1 [(.fn (.func 51) [] [])])], 17⟩ (C_45 232) [] [] (kp [0, 3, 6, 16, 17, 18, 19]) (kq [0]) 17 [] trivial ?_
    refine Runs.sA 1 [.code (C_45 466), .code (C_45 467), .inLoop (C_45 116), .inBlock 0, .code (C_45 15)] ?_
    refine Runs.sC 19 (C_45 932) (C_45 933) (decide (x < ((l.length : Nat) : Int))) (fun hq3 => ?_) (fun hq3 => ?_)
    · have h := condT h hq3
      refine Runs.sA 4 [.code (C_45 3736), .code (C_45 3737), .inBlock 1, .code (C_45 935), .inLoop (C_45 116), .inBlock 0, .code (C_45 15)] ?_
      obtain ⟨c, h⟩ := ifSome h
      refine Runs.sR hE ⟨[(0, (encL Tapi_Dock.cells Tapi_Dock.d l)), (3, (.fn (.func 52) [] [])), (6, (.op 0 0 0)), (9, (aI x)), (10, (.op 65 0 0)), (16, (encL Tapi_Dock.cells Tapi_Dock.d l)), (17, (aI ((l.length : Nat) : Int))), (18, (aI x))], [(0, vO 1 [(.fn (.func 51) [] [])]), (65, vO 6 (Tapi_Dock.cells (l.getD ((x).toNat) Tapi_Dock.d)))], 113⟩ (C_45 3736) [] [] (kp [0, 3, 6, 9, 10, 16, 17, 18]) (kq [0, 65]) 113 [0 ≤ x ∧ x < ((l.length : Nat) : Int), 0 < 1] ⟨c, o1, trivial⟩ ?_
      refine Runs.sA 2 [.code (C_45 14948), .code (C_45 14949), .code (C_45 7475), .inBlock 1, .code (C_45 935), .inLoop (C_45 116), .inBlock 0, .code (C_45 15)] ?_
      obtain ⟨rCheckDocks1, hr, h⟩ := bindSome h
      obtain ⟨rnamed, hr2, h⟩ := bindSome h
      refine Runs.sR hE ⟨[(0, (encL Tapi_Dock.cells Tapi_Dock.d l)), (3, (.fn (.func 52) [] [])), (6, (.op 0 0 0)), (9, (aI x)), (10, (.op 65 0 0)), (16, (encL Tapi_Dock.cells Tapi_Dock.d l)), (17, (aI ((l.length : Nat) : Int))), (18, (aI x)), (27, (aB (!rnamed)))], [(0, vO 1 [(.fn (.func 51) [] [])]), (65, vO 6 (Tapi_Dock.cells (l.getD ((x).toNat) Tapi_Dock.d)))], 193⟩ (C_45 14948) [(2, ⟨[], true, (aS rCheckDocks1), [], 0, false, none⟩), (3, ⟨[], true, (aB rnamed), [], 0, false, none⟩)] [] (kp [0, 3, 6, 9, 10, 16, 17, 18, 27]) (kq [0, 65]) 193 [0 < 1, 0 < 1, Sound Try.prog 51 [(.agg (Tapi_Dock.cells (l.getD ((x).toNat) Tapi_Dock.d)))] [] 0 (aS rCheckDocks1) [], Sound Try.prog 82 [(aS rCheckDocks1)] [] 0 (aB rnamed) []] ⟨o1, o1, (g_berth_CheckDocks_1_ok N (l.getD ((x).toNat) Tapi_Dock.d) rCheckDocks1 hr), (g_berth_named_ok N rCheckDocks1 rnamed hr2), trivial⟩ ?_
      refine Runs.sC 27 (C_45 29898) (C_45 29899) (!rnamed) (fun hq4 => ?_) (fun hq4 => ?_)
      · have h := condT h hq4
        refine Runs.sA 1 [.code (C_45 59796), .code (C_45 59797), .code (C_45 7475), .inBlock 1, .code (C_45 935), .inLoop (C_45 116), .inBlock 0, .code (C_45 15)] ?_
        refine Runs.sR hE ⟨[(8, (aI 4))], [], 209⟩ (C_45 59796) [] [] (kp [8]) [] 209 [] trivial ?_
        obtain rfl := Option.some.inj h
        refine Runs.sW hE ⟨[(8, (aI 4))], [], 209⟩ [] (kp [8]) [] 209 [] trivial ?_
        exact Runs.sT Try.f50 [] [] trivial
      · have h := condF h hq4
        refine Runs.sA 3 [.code (C_45 29900), .code (C_45 29901), .code (C_45 14951), .inBlock 1, .code (C_45 935), .inLoop (C_45 116), .inBlock 0, .code (C_45 15)] ?_
        obtain ⟨c2, h⟩ := ifSome h
        obtain ⟨c3, h⟩ := ifSome h
        obtain ⟨rDock, hr3, h⟩ := bindSome h
        refine Runs.sR hE ⟨[(0, (encL Tapi_Dock.cells Tapi_Dock.d l)), (3, (.fn (.func 52) [] [])), (6, (.op 0 0 0)), (10, (.op 65 0 0)), (16, (encL Tapi_Dock.cells Tapi_Dock.d l)), (17, (aI ((l.length : Nat) : Int))), (18, (aI x)), (32, (aB rDock))], [(0, vO 1 [(.fn (.func 51) [] [])]), (65, vO 6 (Tapi_Dock.cells (l.getD ((x).toNat) Tapi_Dock.d)))], 273⟩ (C_45 29900) [(4, ⟨[0, 65], true, (aB rDock), [], 0, false, none⟩)] [] (kp [0, 3, 6, 10, 16, 17, 18, 32]) (kq [0, 65]) 273 [0 ≤ (x).toNat ∧ (x).toNat ≤ l.length, 0 ≤ x, Sound Try.prog 85 [(.sl ((x).toNat - 0) (fun zi => Tapi_Dock.cells (l.getD (addz 0 zi) Tapi_Dock.d))), (.fn (.func 86) [] [(.op 0 0 0), (.op 1 0 0)])] [(0, vO 1 [(.fn (.func 51) [] [])]), (1, vO 6 (Tapi_Dock.cells (l.getD ((x).toNat) Tapi_Dock.d)))] 2 (aB rDock) [(0, vO 1 [(.fn (.func 51) [] [])]), (1, vO 6 (Tapi_Dock.cells (l.getD ((x).toNat) Tapi_Dock.d)))]] ⟨c2, c3, (Sound.conv (g_slices_ContainsFunc_api_Dock_api_Dock_ok N ((l.take ((x).toNat)).drop 0) (l.getD ((x).toNat) Tapi_Dock.d) rDock hr3) (.cons (Alike.sl (len_ext' l 0 ((x).toNat) c2) (fun zq hzq => get_ext Tapi_Dock.cells Tapi_Dock.d l 0 ((x).toNat) zq hzq)) (.cons (Alike.refl _) .nil))), trivial⟩ ?_
        refine Runs.sC 32 (C_45 59802) (C_45 59803) rDock (fun hq5 => ?_) (fun hq5 => ?_)
        · have h := condT h hq5
          refine Runs.sA 1 [.code (C_45 119604), .code (C_45 119605), .code (C_45 14951), .inBlock 1, .code (C_45 935), .inLoop (C_45 116), .inBlock 0, .code (C_45 15)] ?_
          refine Runs.sR hE ⟨[(8, (aI 5))], [], 289⟩ (C_45 119604) [] [] (kp [8]) [] 289 [] trivial ?_
          obtain rfl := Option.some.inj h
          refine Runs.sW hE ⟨[(8, (aI 5))], [], 289⟩ [] (kp [8]) [] 289 [] trivial ?_
          exact Runs.sT Try.f50 [] [] trivial
        · have h := condF h hq5
          refine Runs.sA 2 [.code (C_45 29902), .code (C_45 29903), .inBlock 1, .code (C_45 935), .inLoop (C_45 116), .inBlock 0, .code (C_45 15)] ?_
          obtain ⟨rCheckDocks2, hr4, h⟩ := bindSome h
          refine Runs.sR hE ⟨[(0, (encL Tapi_Dock.cells Tapi_Dock.d l)), (3, (.fn (.func 52) [] [])), (6, (.op 0 0 0)), (11, (aI rCheckDocks2)), (16, (encL Tapi_Dock.cells Tapi_Dock.d l)), (17, (aI ((l.length : Nat) : Int))), (18, (aI x))], [(0, vO 1 [(.fn (.func 51) [] [])])], 337⟩ (C_45 29902) [(2, ⟨[], true, (aI rCheckDocks2), [], 0, false, none⟩)] [] (kp [0, 3, 6, 11, 16, 17, 18]) (kq [0]) 337 [0 < 1, Sound Try.prog 52 [(.agg (Tapi_Dock.cells (l.getD ((x).toNat) Tapi_Dock.d)))] [] 0 (aI rCheckDocks2) []] ⟨o1, (g_berth_CheckDocks_2_ok N (l.getD ((x).toNat) Tapi_Dock.d) rCheckDocks2 hr4), trivial⟩ ?_
          refine Runs.sA 1 [.code (C_45 59806), .code (C_45 59807), .inBlock 1, .code (C_45 935), .inLoop (C_45 116), .inBlock 0, .code (C_45 15)] ?_
          refine Runs.sR hE ⟨[(0, (encL Tapi_Dock.cells Tapi_Dock.d l)), (3, (.fn (.func 52) [] [])), (6, (.op 0 0 0)), (11, (aI rCheckDocks2)), (16, (encL Tapi_Dock.cells Tapi_Dock.d l)), (17, (aI ((l.length : Nat) : Int))), (18, (aI x)), (37, (aB (rCheckDocks2 != 0)))], [(0, vO 1 [(.fn (.func 51) [] [])])], 369⟩ (C_45 59806) [] [] (kp [0, 3, 6, 11, 16, 17, 18, 37]) (kq [0]) 369 [] trivial ?_
          refine Runs.sC 37 (C_45 119614) (C_45 119615) (rCheckDocks2 != 0) (fun hq6 => ?_) (fun hq6 => ?_)
          · have h := condT h hq6
            refine Runs.sA 1 [.code (C_45 239228), .code (C_45 239229), .inBlock 1, .code (C_45 935), .inLoop (C_45 116), .inBlock 0, .code (C_45 15)] ?_
            refine Runs.sR hE ⟨[(8, (aI rCheckDocks2))], [], 401⟩ (C_45 239228) [] [] (kp [8]) [] 401 [] trivial ?_
            obtain rfl := Option.some.inj h
            refine Runs.sW hE ⟨[(8, (aI rCheckDocks2))], [], 401⟩ [] (kp [8]) [] 401 [] trivial ?_
            exact Runs.sT Try.f50 [] [] trivial
          · have h := condF h hq6
            refine Runs.sA 2 [.code (C_45 935), .inLoop (C_45 116), .inBlock 0, .code (C_45 15)] ?_
            refine Runs.sR hE ⟨[(0, (encL Tapi_Dock.cells Tapi_Dock.d l)), (3, (.fn (.func 52) [] [])), (6, (.op 0 0 0)), (16, (encL Tapi_Dock.cells Tapi_Dock.d l)), (17, (aI ((l.length : Nat) : Int))), (18, (aI (w64 (x + 1))))], [(0, vO 1 [(.fn (.func 51) [] [])])], 401⟩ (C_45 935) [] [] (kp [0, 3, 6, 16, 17, 18]) (kq [0]) 401 [] trivial ?_
            refine Runs.sA 1 [.code (C_45 116), .inLoop (C_45 116), .inBlock 0, .code (C_45 15)] ?_
            exact Runs.sW hE _ [] (kp [0, 3, 6, 16, 17, 18]) (kq [0]) 1 [] trivial (ih (w64 (x + 1)) _ h E hE)
    · have h := condF h hq3
      refine Runs.sA 2 [.code (C_45 30), .code (C_45 31)] ?_
      refine Runs.sR hE ⟨[(8, (aI 0))], [], 33⟩ (C_45 30) [] [] (kp [8]) [] 33 [] trivial ?_
      obtain rfl := Option.some.inj h
      refine Runs.sW hE ⟨[(8, (aI 0))], [], 48⟩ [] (kp [8]) [] 48 [] trivial ?_
      exact Runs.sT Try.f50 [] [] trivial

theorem g_berth_check_Dock_ok (N : Nat) (l : List Tapi_Dock) (most : Int) (r : Int) (h : g_berth_check_Dock N l most = some r) : Sound Try.prog 50 [(encL Tapi_Dock.cells Tapi_Dock.d l), (aI most), (.fn (.func 51) [] []), (.fn (.func 52) [] [])] [] 0 (aI r) [] := by
  unfold g_berth_check_Dock at h
  refine Sound.of_runs (fu := Try.f50) (c := C_45 1) (nt := 40) (by kernel_rfl) (by kernel_rfl) (by kernel_rfl) (by kernel_rfl) (fun hm => rfl) ?_
  intro E hE
  refine Runs.sA 1 [.code (C_45 2), .code (C_45 3)] ?_
  refine Runs.sR hE ⟨[(0, (encL Tapi_Dock.cells Tapi_Dock.d l)), (1, (aI most)), (3, (.fn (.func 52) [] [])), (6, (.op 0 0 0))], [(0, vO 1 [(.fn (.func 51) [] [])])], 32⟩ (C_45 2) [] [] (kp [0, 1, 3, 6]) (kq [0]) 32 [] trivial ?_
  refine Runs.sA 2 [.code (C_45 12), .code (C_45 13), .code (C_45 7)] ?_
  refine Runs.sR hE ⟨[(0, (encL Tapi_Dock.cells Tapi_Dock.d l)), (3, (.fn (.func 52) [] [])), (6, (.op 0 0 0)), (15, (aB (decide (((l.length : Nat) : Int) > most))))], [(0, vO 1 [(.fn (.func 51) [] [])])], 96⟩ (C_45 12) [] [] (kp [0, 3, 6, 15]) (kq [0]) 96 [] trivial ?_
  refine Runs.sC 15 (C_45 26) (C_45 27) (decide (((l.length : Nat) : Int) > most)) (fun hq2 => ?_) (fun hq2 => ?_)
  · have h := condT h hq2
    refine Runs.sA 1 [.code (C_45 52), .code (C_45 53), .code (C_45 7)] ?_
    refine Runs.sR hE ⟨[(8, (aI 8))], [], 112⟩ (C_45 52) [] [] (kp [8]) [] 112 [] trivial ?_
    obtain rfl := Option.some.inj h
    refine Runs.sW hE ⟨[(8, (aI 8))], [], 112⟩ [] (kp [8]) [] 112 [] trivial ?_
    exact Runs.sT Try.f50 [] [] trivial
  · have h := condF h hq2
    refine Runs.sA 3 [.code (C_45 28), .code (C_45 29), .code (C_45 15)] ?_
    refine Runs.sR hE ⟨[(0, (encL Tapi_Dock.cells Tapi_Dock.d l)), (3, (.fn (.func 52) [] [])), (6, (.op 0 0 0)), (16, (encL Tapi_Dock.cells Tapi_Dock.d l)), (17, (aI ((l.length : Nat) : Int))), (18, (aI 0))], [(0, vO 1 [(.fn (.func 51) [] [])])], 144⟩ (C_45 28) [] [] (kp [0, 3, 6, 16, 17, 18]) (kq [0]) 144 [] trivial ?_
    refine Runs.sA 2 [.code (C_45 116), .inLoop (C_45 116), .inBlock 0, .code (C_45 15)] ?_
    exact Runs.sW hE _ [] (kp [0, 3, 6, 16, 17, 18]) (kq [0]) 1 [] trivial (g_berth_check_Dock_L1_ok N l N 0 _ h E hE)

noncomputable def C_44 (n : Nat) : Code := cat (bodyOf Try.f16) (pth n)

theorem g_berth_CheckDocks_ok (N : Nat) (d : List Tapi_Dock) (r : Int) (h : g_berth_CheckDocks N d = some r) : Sound Try.prog 16 [(encL Tapi_Dock.cells Tapi_Dock.d d)] [] 0 (aI r) [] := by
  unfold g_berth_CheckDocks at h
  refine Sound.of_runs (fu := Try.f16) (c := C_44 1) (nt := 5) (by kernel_rfl) (by kernel_rfl) (by kernel_rfl) (by kernel_rfl) (fun hm => rfl) ?_
  intro E hE
  refine Runs.sA 1 [.code (C_44 2), .code (C_44 3)] ?_
  refine Runs.sR hE ⟨[(0, (encL Tapi_Dock.cells Tapi_Dock.d d))], [], 16⟩ (C_44 2) [] [] (kp [0]) [] 16 [] trivial ?_
  refine Runs.sA 1 [.code (C_44 6), .code (C_44 7)] ?_
  obtain ⟨rDock, hr, h⟩ := bindSome h
  refine Runs.sR hE ⟨[(2, (aI rDock))], [], 64⟩ (C_44 6) [(1, ⟨[], true, (aI rDock), [], 0, false, none⟩)] [] (kp [2]) [] 64 [Sound Try.prog 50 [(encL Tapi_Dock.cells Tapi_Dock.d d), (aI 4), (.fn (.func 51) [] []), (.fn (.func 52) [] [])] [] 0 (aI rDock) []] ⟨(g_berth_check_Dock_ok N d 4 rDock hr), trivial⟩ ?_
  obtain rfl := Option.some.inj h
  refine Runs.sW hE ⟨[(2, (aI rDock))], [], 64⟩ [] (kp [2]) [] 64 [] trivial ?_
  exact Runs.sT Try.f16 [] [] trivial

noncomputable def C_53 (n : Nat) : Code := cat (bodyOf Try.f58) (pth n)

theorem g_berth_CheckCalls_1_ok (N : Nat) (x : Tapi_Call) (r : ByteArray) (h : g_berth_CheckCalls_1 N x = some r) : Sound Try.prog 58 [(.agg (Tapi_Call.cells x))] [] 0 (aS r) [] := by
  unfold g_berth_CheckCalls_1 at h
  refine Sound.of_runs (fu := Try.f58) (c := C_53 1) (nt := 5) (by kernel_rfl) (by kernel_rfl) (by kernel_rfl) (by kernel_rfl) (fun hm => rfl) ?_
  intro E hE
  refine Runs.sA 1 [.code (C_53 2), .code (C_53 3)] ?_
  refine Runs.sR hE ⟨[(1, (.op 0 0 0))], [(0, vO 9 (Tapi_Call.cells x))], 32⟩ (C_53 2) [] [] (kp [1]) (kq [0]) 32 [] trivial ?_
  refine Runs.sA 1 [.code (C_53 6), .code (C_53 7)] ?_
  refine Runs.sR hE ⟨[(2, (aS x.f_Name))], [], 80⟩ (C_53 6) [] [] (kp [2]) [] 80 [0 < 1] ⟨o1, trivial⟩ ?_
  obtain rfl := Option.some.inj h
  refine Runs.sW hE ⟨[(2, (aS x.f_Name))], [], 80⟩ [] (kp [2]) [] 80 [] trivial ?_
  exact Runs.sT Try.f58 [] [] trivial

noncomputable def C_56 (n : Nat) : Code := cat (bodyOf Try.f88) (pth n)

theorem g_berth_check_Call_1_ok (N : Nat) (y : Tapi_Call) (cap1 : Tapi_Call) (r : Bool) (h : g_berth_check_Call_1 N y cap1 = some r) : Sound Try.prog 88 [(.agg (Tapi_Call.cells y)), (.op 0 0 0), (.op 1 0 0)] [(0, vO 1 [(.fn (.func 58) [] [])]), (1, vO 9 (Tapi_Call.cells cap1))] 2 (aB r) [(0, vO 1 [(.fn (.func 58) [] [])]), (1, vO 9 (Tapi_Call.cells cap1))] := by
  unfold g_berth_check_Call_1 at h
  refine Sound.of_runs (fu := Try.f88) (c := C_56 1) (nt := 12) (by kernel_rfl) (by kernel_rfl) (by kernel_rfl) (by kernel_rfl) (fun hm => absurd hm (by decide)) ?_
  intro E hE
  refine Runs.sA 1 [.code (C_56 2), .code (C_56 3)] ?_
  refine Runs.sR hE ⟨[(1, (.op 0 0 0)), (2, (.op 1 0 0)), (3, (.op 2 0 0))], [(0, vO 1 [(.fn (.func 58) [] [])]), (1, vO 9 (Tapi_Call.cells cap1)), (2, vO 9 (Tapi_Call.cells y))], 34⟩ (C_56 2) [] [] (kp [1, 2, 3]) (kq [0, 1, 2]) 34 [] trivial ?_
  refine Runs.sA 1 [.code (C_56 6), .code (C_56 7)] ?_
  obtain ⟨rCheckCalls1, hr, h⟩ := bindSome h
  obtain ⟨rCheckCalls12, hr2, h⟩ := bindSome h
  refine Runs.sR hE ⟨[(4, (aB (streq rCheckCalls1 rCheckCalls12)))], [(0, vO 1 [(.fn (.func 58) [] [])]), (1, vO 9 (Tapi_Call.cells cap1))], 162⟩ (C_56 6) [(2, ⟨[], true, (aS rCheckCalls1), [], 0, false, none⟩), (5, ⟨[], true, (aS rCheckCalls12), [], 0, false, none⟩)] [] (kp [4]) (kq [0, 1]) 162 [0 < 1, 0 < 1, Sound Try.prog 58 [(.agg (Tapi_Call.cells y))] [] 0 (aS rCheckCalls1) [], 0 < 1, 0 < 1, Sound Try.prog 58 [(.agg (Tapi_Call.cells cap1))] [] 0 (aS rCheckCalls12) []] ⟨o1, o1, (g_berth_CheckCalls_1_ok N y rCheckCalls1 hr), o1, o1, (g_berth_CheckCalls_1_ok N cap1 rCheckCalls12 hr2), trivial⟩ ?_
  obtain rfl := Option.some.inj h
  refine Runs.sW hE ⟨[(4, (aB (streq rCheckCalls1 rCheckCalls12)))], [(0, vO 1 [(.fn (.func 58) [] [])]), (1, vO 9 (Tapi_Call.cells cap1))], 162⟩ [] (kp [4]) (kq [0, 1]) 162 [] trivial ?_
  exact Runs.sT Try.f88 [] [] trivial

noncomputable def C_55 (n : Nat) : Code := cat (bodyOf Try.f99) (pth n)

theorem g_slices_IndexFunc_api_Call_api_Call_L1_ok (N : Nat) (s : List Tapi_Call) (cap1 : Tapi_Call) (fuel : Nat) : ∀ (x : Int) (r : Int), g_slices_IndexFunc_api_Call_api_Call_L1 N s cap1 fuel x = some r → ∀ E, EnvOk E 2 → Runs Try.prog E 99 19 (SPost E [(0, vO 1 [(.fn (.func 58) [] [])]), (1, vO 9 (Tapi_Call.cells cap1))] (aI r)) [.code (C_55 52), .inLoop (C_55 52), .inBlock 0, .code (C_55 7)] ⟨[(0, (encL Tapi_Call.cells Tapi_Call.d s)), (1, (.fn (.func 88) [] [(.op 0 0 0), (.op 1 0 0)])), (7, (aI ((s.length : Nat) : Int))), (8, (aI x))], [(0, vO 1 [(.fn (.func 58) [] [])]), (1, vO 9 (Tapi_Call.cells cap1))], 2⟩ := by
  induction fuel with
  | zero => intro _ r h; rw [g_slices_IndexFunc_api_Call_api_Call_L1.eq_1] at h; cases h
  | succ fuel ih =>
    intro x r h E hE
    rw [g_slices_IndexFunc_api_Call_api_Call_L1.eq_2] at h
    refine Runs.sA 1 [.code (C_55 104), .code (C_55 105), .inLoop (C_55 52), .inBlock 0, .code (C_55 7)] ?_
    refine Runs.sR hE ⟨[(0, (encL Tapi_Call.cells Tapi_Call.d s)), (1, (.fn (.func 88) [] [(.op 0 0 0), (.op 1 0 0)])), (7, (aI ((s.length : Nat) : Int))), (8, (aI x)), (9, (aB (decide (x < ((s.length : Nat) : Int)))))], [(0, vO 1 [(.fn (.func 58) [] [])]), (1, vO 9 (Tapi_Call.cells cap1))], 18⟩ (C_55 104) [] [] (kp [0, 1, 7, 8, 9]) (kq [0, 1]) 18 [] trivial ?_
    refine Runs.sA 1 [.code (C_55 210), .code (C_55 211), .inLoop (C_55 52), .inBlock 0, .code (C_55 7)] ?_
    refine Runs.sC 9 (C_55 420) (C_55 421) (decide (x < ((s.length : Nat) : Int))) (fun hq2 => ?_) (fun hq2 => ?_)
    · have h := condT h hq2
      refine Runs.sA 4 [.code (C_55 1688), .code (C_55 1689), .inBlock 1, .code (C_55 423), .inLoop (C_55 52), .inBlock 0, .code (C_55 7)] ?_
      refine Runs.sR hE ⟨[(0, (encL Tapi_Call.cells Tapi_Call.d s)), (1, (.fn (.func 88) [] [(.op 0 0 0), (.op 1 0 0)])), (5, (aI x)), (7, (aI ((s.length : Nat) : Int))), (8, (aI x))], [(0, vO 1 [(.fn (.func 58) [] [])]), (1, vO 9 (Tapi_Call.cells cap1))], 50⟩ (C_55 1688) [] [] (kp [0, 1, 5, 7, 8]) (kq [0, 1]) 50 [] trivial ?_
      refine Runs.sA 1 [.code (C_55 3378), .code (C_55 3379), .inBlock 1, .code (C_55 423), .inLoop (C_55 52), .inBlock 0, .code (C_55 7)] ?_
      obtain ⟨c, h⟩ := ifSome h
      obtain ⟨rCall1, hr, h⟩ := bindSome h
      refine Runs.sR hE ⟨[(0, (encL Tapi_Call.cells Tapi_Call.d s)), (1, (.fn (.func 88) [] [(.op 0 0 0), (.op 1 0 0)])), (5, (aI x)), (7, (aI ((s.length : Nat) : Int))), (8, (aI x)), (16, (aB rCall1))], [(0, vO 1 [(.fn (.func 58) [] [])]), (1, vO 9 (Tapi_Call.cells cap1))], 146⟩ (C_55 3378) [(5, ⟨[0, 1], true, (aB rCall1), [], 0, false, none⟩)] [] (kp [0, 1, 5, 7, 8, 16]) (kq [0, 1]) 146 [0 ≤ x ∧ x < ((s.length : Nat) : Int), Sound Try.prog 88 [(.agg (Tapi_Call.cells (s.getD ((x).toNat) Tapi_Call.d))), (.op 0 0 0), (.op 1 0 0)] [(0, vO 1 [(.fn (.func 58) [] [])]), (1, vO 9 (Tapi_Call.cells cap1))] 2 (aB rCall1) [(0, vO 1 [(.fn (.func 58) [] [])]), (1, vO 9 (Tapi_Call.cells cap1))]] ⟨c, (g_berth_check_Call_1_ok N (s.getD ((x).toNat) Tapi_Call.d) cap1 rCall1 hr), trivial⟩ ?_
      refine Runs.sC 16 (C_55 6758) (C_55 6759) rCall1 (fun hq3 => ?_) (fun hq3 => ?_)
      · have h := condT h hq3
        refine Runs.sA 1 [.code (C_55 13516), .code (C_55 13517), .inBlock 1, .code (C_55 423), .inLoop (C_55 52), .inBlock 0, .code (C_55 7)] ?_
        refine Runs.sR hE ⟨[(4, (aI x))], [(0, vO 1 [(.fn (.func 58) [] [])]), (1, vO 9 (Tapi_Call.cells cap1))], 178⟩ (C_55 13516) [] [] (kp [4]) (kq [0, 1]) 178 [] trivial ?_
        obtain rfl := Option.some.inj h
        refine Runs.sW hE ⟨[(4, (aI x))], [(0, vO 1 [(.fn (.func 58) [] [])]), (1, vO 9 (Tapi_Call.cells cap1))], 178⟩ [] (kp [4]) (kq [0, 1]) 178 [] trivial ?_
        exact Runs.sT Try.f99 [] [] trivial
      · have h := condF h hq3
        refine Runs.sA 2 [.code (C_55 423), .inLoop (C_55 52), .inBlock 0, .code (C_55 7)] ?_
        refine Runs.sR hE ⟨[(0, (encL Tapi_Call.cells Tapi_Call.d s)), (1, (.fn (.func 88) [] [(.op 0 0 0), (.op 1 0 0)])), (7, (aI ((s.length : Nat) : Int))), (8, (aI (w64 (x + 1))))], [(0, vO 1 [(.fn (.func 58) [] [])]), (1, vO 9 (Tapi_Call.cells cap1))], 178⟩ (C_55 423) [] [] (kp [0, 1, 7, 8]) (kq [0, 1]) 178 [] trivial ?_
        refine Runs.sA 1 [.code (C_55 52), .inLoop (C_55 52), .inBlock 0, .code (C_55 7)] ?_
        exact Runs.sW hE _ [] (kp [0, 1, 7, 8]) (kq [0, 1]) 2 [] trivial (ih (w64 (x + 1)) _ h E hE)
    · have h := condF h hq2
      refine Runs.sA 2 [.code (C_55 14), .code (C_55 15)] ?_
      refine Runs.sR hE ⟨[(4, (aI (-1)))], [(0, vO 1 [(.fn (.func 58) [] [])]), (1, vO 9 (Tapi_Call.cells cap1))], 34⟩ (C_55 14) [] [] (kp [4]) (kq [0, 1]) 34 [] trivial ?_
      obtain rfl := Option.some.inj h
      refine Runs.sW hE ⟨[(4, (aI (-1)))], [(0, vO 1 [(.fn (.func 58) [] [])]), (1, vO 9 (Tapi_Call.cells cap1))], 50⟩ [] (kp [4]) (kq [0, 1]) 50 [] trivial ?_
      exact Runs.sT Try.f99 [] [] trivial

theorem g_slices_IndexFunc_api_Call_api_Call_ok (N : Nat) (s : List Tapi_Call) (cap1 : Tapi_Call) (r : Int) (h : g_slices_IndexFunc_api_Call_api_Call N s cap1 = some r) : Sound Try.prog 99 [(encL Tapi_Call.cells Tapi_Call.d s), (.fn (.func 88) [] [(.op 0 0 0), (.op 1 0 0)])] [(0, vO 1 [(.fn (.func 58) [] [])]), (1, vO 9 (Tapi_Call.cells cap1))] 2 (aI r) [(0, vO 1 [(.fn (.func 58) [] [])]), (1, vO 9 (Tapi_Call.cells cap1))] := by
  unfold g_slices_IndexFunc_api_Call_api_Call at h
  refine Sound.of_runs (fu := Try.f99) (c := C_55 1) (nt := 19) (by kernel_rfl) (by kernel_rfl) (by kernel_rfl) (by kernel_rfl) (fun hm => absurd hm (by decide)) ?_
  intro E hE
  refine Runs.sA 1 [.code (C_55 2), .code (C_55 3)] ?_
  refine Runs.sR hE ⟨[(0, (encL Tapi_Call.cells Tapi_Call.d s)), (1, (.fn (.func 88) [] [(.op 0 0 0), (.op 1 0 0)]))], [(0, vO 1 [(.fn (.func 58) [] [])]), (1, vO 9 (Tapi_Call.cells cap1))], 18⟩ (C_55 2) [] [] (kp [0, 1]) (kq [0, 1]) 18 [] trivial ?_
  refine Runs.sA 2 [.code (C_55 12), .code (C_55 13), .code (C_55 7)] ?_
  refine Runs.sR hE ⟨[(0, (encL Tapi_Call.cells Tapi_Call.d s)), (1, (.fn (.func 88) [] [(.op 0 0 0), (.op 1 0 0)])), (7, (aI ((s.length : Nat) : Int))), (8, (aI 0))], [(0, vO 1 [(.fn (.func 58) [] [])]), (1, vO 9 (Tapi_Call.cells cap1))], 66⟩ (C_55 12) [] [] (kp [0, 1, 7, 8]) (kq [0, 1]) 66 [] trivial ?_
  refine Runs.sA 2 [.code (C_55 52), .inLoop (C_55 52), .inBlock 0, .code (C_55 7)] ?_
  exact Runs.sW hE _ [] (kp [0, 1, 7, 8]) (kq [0, 1]) 2 [] trivial (g_slices_IndexFunc_api_Call_api_Call_L1_ok N s cap1 N 0 _ h E hE)

noncomputable def C_54 (n : Nat) : Code := cat (bodyOf Try.f87) (pth n)

theorem g_slices_ContainsFunc_api_Call_api_Call_ok (N : Nat) (s : List Tapi_Call) (cap1 : Tapi_Call) (r : Bool) (h : g_slices_ContainsFunc_api_Call_api_Call N s cap1 = some r) : Sound Try.prog 87 [(encL Tapi_Call.cells Tapi_Call.d s), (.fn (.func 88) [] [(.op 0 0 0), (.op 1 0 0)])] [(0, vO 1 [(.fn (.func 58) [] [])]), (1, vO 9 (Tapi_Call.cells cap1))] 2 (aB r) [(0, vO 1 [(.fn (.func 58) [] [])]), (1, vO 9 (Tapi_Call.cells cap1))] := by
  unfold g_slices_ContainsFunc_api_Call_api_Call at h
  refine Sound.of_runs (fu := Try.f87) (c := C_54 1) (nt := 9) (by kernel_rfl) (by kernel_rfl) (by kernel_rfl) (by kernel_rfl) (fun hm => absurd hm (by decide)) ?_
  intro E hE
  refine Runs.sA 1 [.code (C_54 2), .code (C_54 3)] ?_
  refine Runs.sR hE ⟨[(0, (encL Tapi_Call.cells Tapi_Call.d s)), (1, (.fn (.func 88) [] [(.op 0 0 0), (.op 1 0 0)]))], [(0, vO 1 [(.fn (.func 58) [] [])]), (1, vO 9 (Tapi_Call.cells cap1))], 18⟩ (C_54 2) [] [] (kp [0, 1]) (kq [0, 1]) 18 [] trivial ?_
  refine Runs.sA 1 [.code (C_54 6), .code (C_54 7)] ?_
  obtain ⟨rCall, hr, h⟩ := bindSome h
  refine Runs.sR hE ⟨[(4, (aB (decide (rCall ≥ 0))))], [(0, vO 1 [(.fn (.func 58) [] [])]), (1, vO 9 (Tapi_Call.cells cap1))], 98⟩ (C_54 6) [(2, ⟨[0, 1], true, (aI rCall), [], 0, false, none⟩)] [] (kp [4]) (kq [0, 1]) 98 [Sound Try.prog 99 [(encL Tapi_Call.cells Tapi_Call.d s), (.fn (.func 88) [] [(.op 0 0 0), (.op 1 0 0)])] [(0, vO 1 [(.fn (.func 58) [] [])]), (1, vO 9 (Tapi_Call.cells cap1))] 2 (aI rCall) [(0, vO 1 [(.fn (.func 58) [] [])]), (1, vO 9 (Tapi_Call.cells cap1))]] ⟨(g_slices_IndexFunc_api_Call_api_Call_ok N s cap1 rCall hr), trivial⟩ ?_
  obtain rfl := Option.some.inj h
  refine Runs.sW hE ⟨[(4, (aB (decide (rCall ≥ 0))))], [(0, vO 1 [(.fn (.func 58) [] [])]), (1, vO 9 (Tapi_Call.cells cap1))], 98⟩ [] (kp [4]) (kq [0, 1]) 98 [] trivial ?_
  exact Runs.sT Try.f87 [] [] trivial

noncomputable def C_57 (n : Nat) : Code := cat (bodyOf Try.f59) (pth n)

theorem g_berth_CheckCalls_2_ok (N : Nat) (x : Tapi_Call) (r : Int) (h : g_berth_CheckCalls_2 N x = some r) : Sound Try.prog 59 [(.agg (Tapi_Call.cells x))] [] 0 (aI r) [] := by
  unfold g_berth_CheckCalls_2 at h
  refine Sound.of_runs (fu := Try.f59) (c := C_57 1) (nt := 40) (by kernel_rfl) (by kernel_rfl) (by kernel_rfl) (by kernel_rfl) (fun hm => rfl) ?_
  intro E hE
  refine Runs.sA 1 [.code (C_57 2), .code (C_57 3)] ?_
  refine Runs.sR hE ⟨[(1, (.op 0 0 0))], [(0, vO 9 (Tapi_Call.cells x))], 32⟩ (C_57 2) [] [] (kp [1]) (kq [0]) 32 [] trivial ?_
  refine Runs.sA 2 [.code (C_57 12), .code (C_57 13), .code (C_57 7)] ?_
  obtain ⟨routside, hr, h⟩ := bindSome h
  obtain ⟨routside2, hr2, h⟩ := bindSome h
  obtain ⟨routside3, hr3, h⟩ := bindSome h
  obtain ⟨routside4, hr4, h⟩ := bindSome h
  refine Runs.sR hE ⟨[(1, (.op 0 0 0)), (20, (aB (cond (cond (cond routside true routside2) true routside3) true routside4)))], [(0, vO 9 (Tapi_Call.cells x))], 320⟩ (C_57 12) [(2, ⟨[], true, (aB routside), [], 0, false, none⟩), (6, ⟨[], true, (aB routside2), [], 0, false, none⟩), (11, ⟨[], true, (aB routside3), [], 0, false, none⟩), (16, ⟨[], true, (aB routside4), [], 0, false, none⟩)] [] (kp [1, 20]) (kq [0]) 320 [0 < 1, Sound Try.prog 54 [(aI x.f_Length), (aI 1), (aI 1000000)] [] 0 (aB routside) [], (!routside) = true → AllP [(!routside) = true, 0 < 1], (!routside) = true → AllP [Sound Try.prog 54 [(aI x.f_Beam), (aI 1), (aI 1000000)] [] 0 (aB routside2) [], (!routside) = true], (!routside) = true → AllP [(!routside) = true], (!(cond routside true routside2)) = true → AllP [(!(cond routside true routside2)) = true, 0 < 1], (!(cond routside true routside2)) = true → AllP [Sound Try.prog 54 [(aI x.f_Draught), (aI 0), (aI 1000000)] [] 0 (aB routside3) [], (!(cond routside true routside2)) = true], (!(cond routside true routside2)) = true → AllP [(!(cond routside true routside2)) = true], (!(cond (cond routside true routside2) true routside3)) = true → AllP [(!(cond (cond routside true routside2) true routside3)) = true, 0 < 1], (!(cond (cond routside true routside2) true routside3)) = true → AllP [Sound Try.prog 54 [(aI x.f_Under), (aI 0), (aI 1000000)] [] 0 (aB routside4) [], (!(cond (cond routside true routside2) true routside3)) = true], (!(cond (cond routside true routside2) true routside3)) = true → AllP [(!(cond (cond routside true routside2) true routside3)) = true]] ⟨o1, (g_berth_outside_ok N x.f_Length 1 1000000 routside hr), (fun hg => ⟨hg, o1, trivial⟩), (fun hg => ⟨(g_berth_outside_ok N x.f_Beam 1 1000000 routside2 (condT hr2 hg)), hg, trivial⟩), (fun hq => ⟨hq, trivial⟩), (fun hg => ⟨hg, o1, trivial⟩), (fun hg => ⟨(g_berth_outside_ok N x.f_Draught 0 1000000 routside3 (condT hr3 hg)), hg, trivial⟩), (fun hq => ⟨hq, trivial⟩), (fun hg => ⟨hg, o1, trivial⟩), (fun hg => ⟨(g_berth_outside_ok N x.f_Under 0 1000000 routside4 (condT hr4 hg)), hg, trivial⟩), (fun hq => ⟨hq, trivial⟩), trivial⟩ ?_
  refine Runs.sC 20 (C_57 26) (C_57 27) (cond (cond (cond routside true routside2) true routside3) true routside4) (fun hq2 => ?_) (fun hq2 => ?_)
  · have h := condT h hq2
    refine Runs.sA 1 [.code (C_57 52), .code (C_57 53), .code (C_57 7)] ?_
    refine Runs.sR hE ⟨[(2, (aI 2))], [], 336⟩ (C_57 52) [] [] (kp [2]) [] 336 [] trivial ?_
    obtain rfl := Option.some.inj h
    refine Runs.sW hE ⟨[(2, (aI 2))], [], 336⟩ [] (kp [2]) [] 336 [] trivial ?_
    exact Runs.sT Try.f59 [] [] trivial
  · have h := condF h hq2
    refine Runs.sA 2 [.code (C_57 14), .code (C_57 15)] ?_
    obtain ⟨routside5, hr5, h⟩ := bindSome h
    obtain ⟨routside6, hr6, h⟩ := bindSome h
    obtain ⟨routside7, hr7, h⟩ := bindSome h
    obtain ⟨routside8, hr8, h⟩ := bindSome h
    obtain ⟨rranged, hr9, h⟩ := bindSome h
    refine Runs.sR hE ⟨[(2, (aI rranged))], [], 640⟩ (C_57 14) [(2, ⟨[], true, (aB routside5), [], 0, false, none⟩), (6, ⟨[], true, (aB routside6), [], 0, false, none⟩), (11, ⟨[], true, (aB routside7), [], 0, false, none⟩), (16, ⟨[], true, (aB routside8), [], 0, false, none⟩), (18, ⟨[], true, (aI rranged), [], 0, false, none⟩)] [] (kp [2]) [] 640 [0 < 1, Sound Try.prog 54 [(aI x.f_Arrive), (aI 0), (aI 400)] [] 0 (aB routside5) [], (!routside5) = true → AllP [(!routside5) = true, 0 < 1], (!routside5) = true → AllP [Sound Try.prog 54 [(aI x.f_Due), (aI 0), (aI 400)] [] 0 (aB routside6) [], (!routside5) = true], (!routside5) = true → AllP [(!routside5) = true], (!(cond routside5 true routside6)) = true → AllP [(!(cond routside5 true routside6)) = true, 0 < 1], (!(cond routside5 true routside6)) = true → AllP [Sound Try.prog 54 [(aI x.f_Work), (aI 1), (aI 1000)] [] 0 (aB routside7) [], (!(cond routside5 true routside6)) = true], (!(cond routside5 true routside6)) = true → AllP [(!(cond routside5 true routside6)) = true], (!(cond (cond routside5 true routside6) true routside7)) = true → AllP [(!(cond (cond routside5 true routside6) true routside7)) = true, 0 < 1], (!(cond (cond routside5 true routside6) true routside7)) = true → AllP [Sound Try.prog 54 [(aI x.f_Late), (aI 0), (aI 1000000000)] [] 0 (aB routside8) [], (!(cond (cond routside5 true routside6) true routside7)) = true], (!(cond (cond routside5 true routside6) true routside7)) = true → AllP [(!(cond (cond routside5 true routside6) true routside7)) = true], Sound Try.prog 53 [(aB (cond (cond (cond routside5 true routside6) true routside7) true routside8))] [] 0 (aI rranged) []] ⟨o1, (g_berth_outside_ok N x.f_Arrive 0 400 routside5 hr5), (fun hg => ⟨hg, o1, trivial⟩), (fun hg => ⟨(g_berth_outside_ok N x.f_Due 0 400 routside6 (condT hr6 hg)), hg, trivial⟩), (fun hq => ⟨hq, trivial⟩), (fun hg => ⟨hg, o1, trivial⟩), (fun hg => ⟨(g_berth_outside_ok N x.f_Work 1 1000 routside7 (condT hr7 hg)), hg, trivial⟩), (fun hq => ⟨hq, trivial⟩), (fun hg => ⟨hg, o1, trivial⟩), (fun hg => ⟨(g_berth_outside_ok N x.f_Late 0 1000000000 routside8 (condT hr8 hg)), hg, trivial⟩), (fun hq => ⟨hq, trivial⟩), (g_berth_ranged_ok N (cond (cond (cond routside5 true routside6) true routside7) true routside8) rranged hr9), trivial⟩ ?_
    obtain rfl := Option.some.inj h
    refine Runs.sW hE ⟨[(2, (aI rranged))], [], 640⟩ [] (kp [2]) [] 640 [] trivial ?_
    exact Runs.sT Try.f59 [] [] trivial

noncomputable def C_52 (n : Nat) : Code := cat (bodyOf Try.f57) (pth n)

theorem g_berth_check_Call_L1_ok (N : Nat) (l : List Tapi_Call) (fuel : Nat) : ∀ (x : Int) (r : Int), g_berth_check_Call_L1 N l fuel x = some r → ∀ E, EnvOk E 0 → Runs Try.prog E 57 40 (SPost E [] (aI r)) [.code (C_52 116), .inLoop (C_52 116), .inBlock 0, .code (C_52 15)] ⟨[(0, (encL Tapi_Call.cells Tapi_Call.d l)), (3, (.fn (.func 59) [] [])), (6, (.op 0 0 0)), (16, (encL Tapi_Call.cells Tapi_Call.d l)), (17, (aI ((l.length : Nat) : Int))), (18, (aI x))], [(0, vO 1 [(.fn (.func 58) [] [])])], 1⟩ := by
  induction fuel with
  | zero => intro _ r h; rw [g_berth_check_Call_L1.eq_1] at h; cases h
  | succ fuel ih =>
    intro x r h E hE
    rw [g_berth_check_Call_L1.eq_2] at h
    refine Runs.sA 1 [.code (C_52 232), .code (C_52 233), .inLoop (C_52 116), .inBlock 0, .code (C_52 15)] ?_
    refine Runs.sR hE ⟨[(0, (encL Tapi_Call.cells Tapi_Call.d l)), (3, (.fn (.func 59) [] [])), (6, (.op 0 0 0)), (16, (encL Tapi_Call.cells Tapi_Call.d l)), (17, (aI ((l.length : Nat) : Int))), (18, (aI x)), (19, (aB (decide (x < ((l.length : Nat) : Int)))))], [(0, vO 1 [(.fn (.func 58) [] [])])], 17⟩ (C_52 232) [] [] (kp [0, 3, 6, 16, 17, 18, 19]) (kq [0]) 17 [] trivial ?_
    refine Runs.sA 1 [.code (C_52 466), .code (C_52 467), .inLoop (C_52 116), .inBlock 0, .code (C_52 15)] ?_
    refine Runs.sC 19 (C_52 932) (C_52 933) (decide (x < ((l.length : Nat) : Int))) (fun hq3 => ?_) (fun hq3 => ?_)
    · have h := condT h hq3
      refine Runs.sA 4 [.code (C_52 3736), .code (C_52 3737), .inBlock 1, .code (C_52 935), .inLoop (C_52 116), .inBlock 0, .code (C_52 15)] ?_
      obtain ⟨c, h⟩ := ifSome h
      refine Runs.sR hE ⟨[(0, (encL Tapi_Call.cells Tapi_Call.d l)), (3, (.fn (.func 59) [] [])), (6, (.op 0 0 0)), (9, (aI x)), (10, (.op 65 0 0)), (16, (encL Tapi_Call.cells Tapi_Call.d l)), (17, (aI ((l.length : Nat) : Int))), (18, (aI x))], [(0, vO 1 [(.fn (.func 58) [] [])]), (65, vO 9 (Tapi_Call.cells (l.getD ((x).toNat) Tapi_Call.d)))], 113⟩ (C_52 3736) [] [] (kp [0, 3, 6, 9, 10, 16, 17, 18]) (kq [0, 65]) 113 [0 ≤ x ∧ x < ((l.length : Nat) : Int), 0 < 1] ⟨c, o1, trivial⟩ ?_
      refine Runs.sA 2 [.code (C_52 14948), .code (C_52 14949), .code (C_52 7475), .inBlock 1, .code (C_52 935), .inLoop (C_52 116), .inBlock 0, .code (C_52 15)] ?_
      obtain ⟨rCheckCalls1, hr, h⟩ := bindSome h
      obtain ⟨rnamed, hr2, h⟩ := bindSome h
      refine Runs.sR hE ⟨[(0, (encL Tapi_Call.cells Tapi_Call.d l)), (3, (.fn (.func 59) [] [])), (6, (.op 0 0 0)), (9, (aI x)), (10, (.op 65 0 0)), (16, (encL Tapi_Call.cells Tapi_Call.d l)), (17, (aI ((l.length : Nat) : Int))), (18, (aI x)), (27, (aB (!rnamed)))], [(0, vO 1 [(.fn (.func 58) [] [])]), (65, vO 9 (Tapi_Call.cells (l.getD ((x).toNat) Tapi_Call.d)))], 193⟩ (C_52 14948) [(2, ⟨[], true, (aS rCheckCalls1), [], 0, false, none⟩), (3, ⟨[], true, (aB rnamed), [], 0, false, none⟩)] [] (kp [0, 3, 6, 9, 10, 16, 17, 18, 27]) (kq [0, 65]) 193 [0 < 1, 0 < 1, Sound Try.prog 58 [(.agg (Tapi_Call.cells (l.getD ((x).toNat) Tapi_Call.d)))] [] 0 (aS rCheckCalls1) [], Sound Try.prog 82 [(aS rCheckCalls1)] [] 0 (aB rnamed) []] ⟨o1, o1, (g_berth_CheckCalls_1_ok N (l.getD ((x).toNat) Tapi_Call.d) rCheckCalls1 hr), (g_berth_named_ok N rCheckCalls1 rnamed hr2), trivial⟩ ?_
      refine Runs.sC 27 (C_52 29898) (C_52 29899) (!rnamed) (fun hq4 => ?_) (fun hq4 => ?_)
      · have h := condT h hq4
        refine Runs.sA 1 [.code (C_52 59796), .code (C_52 59797), .code (C_52 7475), .inBlock 1, .code (C_52 935), .inLoop (C_52 116), .inBlock 0, .code (C_52 15)] ?_
        refine Runs.sR hE ⟨[(8, (aI 4))], [], 209⟩ (C_52 59796) [] [] (kp [8]) [] 209 [] trivial ?_
        obtain rfl := Option.some.inj h
        refine Runs.sW hE ⟨[(8, (aI 4))], [], 209⟩ [] (kp [8]) [] 209 [] trivial ?_
        exact Runs.sT Try.f57 [] [] trivial
      · have h := condF h hq4
        refine Runs.sA 3 [.code (C_52 29900), .code (C_52 29901), .code (C_52 14951), .inBlock 1, .code (C_52 935), .inLoop (C_52 116), .inBlock 0, .code (C_52 15)] ?_
        obtain ⟨c2, h⟩ := ifSome h
        obtain ⟨c3, h⟩ := ifSome h
        obtain ⟨rCall, hr3, h⟩ := bindSome h
        refine Runs.sR hE ⟨[(0, (encL Tapi_Call.cells Tapi_Call.d l)), (3, (.fn (.func 59) [] [])), (6, (.op 0 0 0)), (10, (.op 65 0 0)), (16, (encL Tapi_Call.cells Tapi_Call.d l)), (17, (aI ((l.length : Nat) : Int))), (18, (aI x)), (32, (aB rCall))], [(0, vO 1 [(.fn (.func 58) [] [])]), (65, vO 9 (Tapi_Call.cells (l.getD ((x).toNat) Tapi_Call.d)))], 273⟩ (C_52 29900) [(4, ⟨[0, 65], true, (aB rCall), [], 0, false, none⟩)] [] (kp [0, 3, 6, 10, 16, 17, 18, 32]) (kq [0, 65]) 273 [0 ≤ (x).toNat ∧ (x).toNat ≤ l.length, 0 ≤ x, Sound Try.prog 87 [(.sl ((x).toNat - 0) (fun zi => Tapi_Call.cells (l.getD (addz 0 zi) Tapi_Call.d))), (.fn (.func 88) [] [(.op 0 0 0), (.op 1 0 0)])] [(0, vO 1 [(.fn (.func 58) [] [])]), (1, vO 9 (Tapi_Call.cells (l.getD ((x).toNat) Tapi_Call.d)))] 2 (aB rCall) [(0, vO 1 [(.fn (.func 58) [] [])]), (1, vO 9 (Tapi_Call.cells (l.getD ((x).toNat) Tapi_Call.d)))]] ⟨c2, c3, (Sound.conv (g_slices_ContainsFunc_api_Call_api_Call_ok N ((l.take ((x).toNat)).drop 0) (l.getD ((x).toNat) Tapi_Call.d) rCall hr3) (.cons (Alike.sl (len_ext' l 0 ((x).toNat) c2) (fun zq hzq => get_ext Tapi_Call.cells Tapi_Call.d l 0 ((x).toNat) zq hzq)) (.cons (Alike.refl _) .nil))), trivial⟩ ?_
        refine Runs.sC 32 (C_52 59802) (C_52 59803) rCall (fun hq5 => ?_) (fun hq5 => ?_)
        · have h := condT h hq5
          refine Runs.sA 1 [.code (C_52 119604), .code (C_52 119605), .code (C_52 14951), .inBlock 1, .code (C_52 935), .inLoop (C_52 116), .inBlock 0, .code (C_52 15)] ?_
          refine Runs.sR hE ⟨[(8, (aI 5))], [], 289⟩ (C_52 119604) [] [] (kp [8]) [] 289 [] trivial ?_
          obtain rfl := Option.some.inj h
          refine Runs.sW hE ⟨[(8, (aI 5))], [], 289⟩ [] (kp [8]) [] 289 [] trivial ?_
          exact Runs.sT Try.f57 [] [] trivial
        · have h := condF h hq5
          refine Runs.sA 2 [.code (C_52 29902), .code (C_52 29903), .inBlock 1, .code (C_52 935), .inLoop (C_52 116), .inBlock 0, .code (C_52 15)] ?_
          obtain ⟨rCheckCalls2, hr4, h⟩ := bindSome h
          refine Runs.sR hE ⟨[(0, (encL Tapi_Call.cells Tapi_Call.d l)), (3, (.fn (.func 59) [] [])), (6, (.op 0 0 0)), (11, (aI rCheckCalls2)), (16, (encL Tapi_Call.cells Tapi_Call.d l)), (17, (aI ((l.length : Nat) : Int))), (18, (aI x))], [(0, vO 1 [(.fn (.func 58) [] [])])], 337⟩ (C_52 29902) [(2, ⟨[], true, (aI rCheckCalls2), [], 0, false, none⟩)] [] (kp [0, 3, 6, 11, 16, 17, 18]) (kq [0]) 337 [0 < 1, Sound Try.prog 59 [(.agg (Tapi_Call.cells (l.getD ((x).toNat) Tapi_Call.d)))] [] 0 (aI rCheckCalls2) []] ⟨o1, (g_berth_CheckCalls_2_ok N (l.getD ((x).toNat) Tapi_Call.d) rCheckCalls2 hr4), trivial⟩ ?_
          refine Runs.sA 1 [.code (C_52 59806), .code (C_52 59807), .inBlock 1, .code (C_52 935), .inLoop (C_52 116), .inBlock 0, .code (C_52 15)] ?_
          refine Runs.sR hE ⟨[(0, (encL Tapi_Call.cells Tapi_Call.d l)), (3, (.fn (.func 59) [] [])), (6, (.op 0 0 0)), (11, (aI rCheckCalls2)), (16, (encL Tapi_Call.cells Tapi_Call.d l)), (17, (aI ((l.length : Nat) : Int))), (18, (aI x)), (37, (aB (rCheckCalls2 != 0)))], [(0, vO 1 [(.fn (.func 58) [] [])])], 369⟩ (C_52 59806) [] [] (kp [0, 3, 6, 11, 16, 17, 18, 37]) (kq [0]) 369 [] trivial ?_
          refine Runs.sC 37 (C_52 119614) (C_52 119615) (rCheckCalls2 != 0) (fun hq6 => ?_) (fun hq6 => ?_)
          · have h := condT h hq6
            refine Runs.sA 1 [.code (C_52 239228), .code (C_52 239229), .inBlock 1, .code (C_52 935), .inLoop (C_52 116), .inBlock 0, .code (C_52 15)] ?_
            refine Runs.sR hE ⟨[(8, (aI rCheckCalls2))], [], 401⟩ (C_52 239228) [] [] (kp [8]) [] 401 [] trivial ?_
            obtain rfl := Option.some.inj h
            refine Runs.sW hE ⟨[(8, (aI rCheckCalls2))], [], 401⟩ [] (kp [8]) [] 401 [] trivial ?_
            exact Runs.sT Try.f57 [] [] trivial
          · have h := condF h hq6
            refine Runs.sA 2 [.code (C_52 935), .inLoop (C_52 116), .inBlock 0, .code (C_52 15)] ?_
            refine Runs.sR hE ⟨[(0, (encL Tapi_Call.cells Tapi_Call.d l)), (3, (.fn (.func 59) [] [])), (6, (.op 0 0 0)), (16, (encL Tapi_Call.cells Tapi_Call.d l)), (17, (aI ((l.length : Nat) : Int))), (18, (aI (w64 (x + 1))))], [(0, vO 1 [(.fn (.func 58) [] [])])], 401⟩ (C_52 935) [] [] (kp [0, 3, 6, 16, 17, 18]) (kq [0]) 401 [] trivial ?_
            refine Runs.sA 1 [.code (C_52 116), .inLoop (C_52 116), .inBlock 0, .code (C_52 15)] ?_
            exact Runs.sW hE _ [] (kp [0, 3, 6, 16, 17, 18]) (kq [0]) 1 [] trivial (ih (w64 (x + 1)) _ h E hE)
    · have h := condF h hq3
      refine Runs.sA 2 [.code (C_52 30), .code (C_52 31)] ?_
      refine Runs.sR hE ⟨[(8, (aI 0))], [], 33⟩ (C_52 30) [] [] (kp [8]) [] 33 [] trivial ?_
      obtain rfl := Option.some.inj h
      refine Runs.sW hE ⟨[(8, (aI 0))], [], 48⟩ [] (kp [8]) [] 48 [] trivial ?_
      exact Runs.sT Try.f57 [] [] trivial

theorem g_berth_check_Call_ok (N : Nat) (l : List Tapi_Call) (most : Int) (r : Int) (h : g_berth_check_Call N l most = some r) : Sound Try.prog 57 [(encL Tapi_Call.cells Tapi_Call.d l), (aI most), (.fn (.func 58) [] []), (.fn (.func 59) [] [])] [] 0 (aI r) [] := by
  unfold g_berth_check_Call at h
  refine Sound.of_runs (fu := Try.f57) (c := C_52 1) (nt := 40) (by kernel_rfl) (by kernel_rfl) (by kernel_rfl) (by kernel_rfl) (fun hm => rfl) ?_
  intro E hE
  refine Runs.sA 1 [.code (C_52 2), .code (C_52 3)] ?_
  refine Runs.sR hE ⟨[(0, (encL Tapi_Call.cells Tapi_Call.d l)), (1, (aI most)), (3, (.fn (.func 59) [] [])), (6, (.op 0 0 0))], [(0, vO 1 [(.fn (.func 58) [] [])])], 32⟩ (C_52 2) [] [] (kp [0, 1, 3, 6]) (kq [0]) 32 [] trivial ?_
  refine Runs.sA 2 [.code (C_52 12), .code (C_52 13), .code (C_52 7)] ?_
  refine Runs.sR hE ⟨[(0, (encL Tapi_Call.cells Tapi_Call.d l)), (3, (.fn (.func 59) [] [])), (6, (.op 0 0 0)), (15, (aB (decide (((l.length : Nat) : Int) > most))))], [(0, vO 1 [(.fn (.func 58) [] [])])], 96⟩ (C_52 12) [] [] (kp [0, 3, 6, 15]) (kq [0]) 96 [] trivial ?_
  refine Runs.sC 15 (C_52 26) (C_52 27) (decide (((l.length : Nat) : Int) > most)) (fun hq2 => ?_) (fun hq2 => ?_)
  · have h := condT h hq2
    refine Runs.sA 1 [.code (C_52 52), .code (C_52 53), .code (C_52 7)] ?_
    refine Runs.sR hE ⟨[(8, (aI 8))], [], 112⟩ (C_52 52) [] [] (kp [8]) [] 112 [] trivial ?_
    obtain rfl := Option.some.inj h
    refine Runs.sW hE ⟨[(8, (aI 8))], [], 112⟩ [] (kp [8]) [] 112 [] trivial ?_
    exact Runs.sT Try.f57 [] [] trivial
  · have h := condF h hq2
    refine Runs.sA 3 [.code (C_52 28), .code (C_52 29), .code (C_52 15)] ?_
    refine Runs.sR hE ⟨[(0, (encL Tapi_Call.cells Tapi_Call.d l)), (3, (.fn (.func 59) [] [])), (6, (.op 0 0 0)), (16, (encL Tapi_Call.cells Tapi_Call.d l)), (17, (aI ((l.length : Nat) : Int))), (18, (aI 0))], [(0, vO 1 [(.fn (.func 58) [] [])])], 144⟩ (C_52 28) [] [] (kp [0, 3, 6, 16, 17, 18]) (kq [0]) 144 [] trivial ?_
    refine Runs.sA 2 [.code (C_52 116), .inLoop (C_52 116), .inBlock 0, .code (C_52 15)] ?_
    exact Runs.sW hE _ [] (kp [0, 3, 6, 16, 17, 18]) (kq [0]) 1 [] trivial (g_berth_check_Call_L1_ok N l N 0 _ h E hE)

noncomputable def C_51 (n : Nat) : Code := cat (bodyOf Try.f18) (pth n)

theorem g_berth_CheckCalls_ok (N : Nat) (c : List Tapi_Call) (r : Int) (h : g_berth_CheckCalls N c = some r) : Sound Try.prog 18 [(encL Tapi_Call.cells Tapi_Call.d c)] [] 0 (aI r) [] := by
  unfold g_berth_CheckCalls at h
  refine Sound.of_runs (fu := Try.f18) (c := C_51 1) (nt := 5) (by kernel_rfl) (by kernel_rfl) (by kernel_rfl) (by kernel_rfl) (fun hm => rfl) ?_
  intro E hE
  refine Runs.sA 1 [.code (C_51 2), .code (C_51 3)] ?_
  refine Runs.sR hE ⟨[(0, (encL Tapi_Call.cells Tapi_Call.d c))], [], 16⟩ (C_51 2) [] [] (kp [0]) [] 16 [] trivial ?_
  refine Runs.sA 1 [.code (C_51 6), .code (C_51 7)] ?_
  obtain ⟨rCall, hr, h⟩ := bindSome h
  refine Runs.sR hE ⟨[(2, (aI rCall))], [], 64⟩ (C_51 6) [(1, ⟨[], true, (aI rCall), [], 0, false, none⟩)] [] (kp [2]) [] 64 [Sound Try.prog 57 [(encL Tapi_Call.cells Tapi_Call.d c), (aI 8), (.fn (.func 58) [] []), (.fn (.func 59) [] [])] [] 0 (aI rCall) []] ⟨(g_berth_check_Call_ok N c 8 rCall hr), trivial⟩ ?_
  obtain rfl := Option.some.inj h
  refine Runs.sW hE ⟨[(2, (aI rCall))], [], 64⟩ [] (kp [2]) [] 64 [] trivial ?_
  exact Runs.sT Try.f18 [] [] trivial

noncomputable def C_43 (n : Nat) : Code := cat (bodyOf Try.f60) (pth n)

theorem g_berth_both_ok (N : Nat) (d : Tapi_Dock) (c : List Tapi_Call) (r : Int) (h : g_berth_both N d c = some r) : Sound Try.prog 60 [(.agg (Tapi_Dock.cells d)), (encL Tapi_Call.cells Tapi_Call.d c)] [] 0 (aI r) [] := by
  unfold g_berth_both at h
  refine Sound.of_runs (fu := Try.f60) (c := C_43 1) (nt := 14) (by kernel_rfl) (by kernel_rfl) (by kernel_rfl) (by kernel_rfl) (fun hm => rfl) ?_
  intro E hE
  refine Runs.sA 1 [.code (C_43 2), .code (C_43 3)] ?_
  refine Runs.sR hE ⟨[(1, (encL Tapi_Call.cells Tapi_Call.d c)), (2, (.op 0 0 0))], [(0, vO 6 (Tapi_Dock.cells d))], 32⟩ (C_43 2) [] [] (kp [1, 2]) (kq [0]) 32 [] trivial ?_
  refine Runs.sA 2 [.code (C_43 12), .code (C_43 13), .code (C_43 7)] ?_
  obtain ⟨rCheckDocks, hr, h⟩ := bindSome h
  refine Runs.sR hE ⟨[(1, (encL Tapi_Call.cells Tapi_Call.d c)), (5, (aI rCheckDocks))], [], 96⟩ (C_43 12) [(2, ⟨[], true, (aI rCheckDocks), [], 0, false, none⟩)] [] (kp [1, 5]) [] 96 [0 < 1, Sound Try.prog 16 [(.sl 1 (fun zi => (fun zi => ([[(aS d.f_Name), (aI d.f_Length), (aI d.f_Width), (aI d.f_Sill), (aI d.f_Floor), (aI d.f_Gap)]] : List (List AV)).getD zi []) (addz 0 zi)))] [] 0 (aI rCheckDocks) [], 0 + 1 ≤ 1] ⟨o1, (Sound.conv (g_berth_CheckDocks_ok N ([d] : List Tapi_Dock) rCheckDocks hr) (.cons (Alike.sl rfl (fun zq hzq => get_chunk Tapi_Dock.cells Tapi_Dock.d ([d] : List Tapi_Dock) zq hzq)) .nil)), z0, trivial⟩ ?_
  refine Runs.sA 1 [.code (C_43 26), .code (C_43 27), .code (C_43 7)] ?_
  refine Runs.sR hE ⟨[(1, (encL Tapi_Call.cells Tapi_Call.d c)), (5, (aI rCheckDocks)), (10, (aB (rCheckDocks != 0)))], [], 128⟩ (C_43 26) [] [] (kp [1, 5, 10]) [] 128 [] trivial ?_
  refine Runs.sC 10 (C_43 54) (C_43 55) (rCheckDocks != 0) (fun hq2 => ?_) (fun hq2 => ?_)
  · have h := condT h hq2
    refine Runs.sA 1 [.code (C_43 108), .code (C_43 109), .code (C_43 7)] ?_
    refine Runs.sR hE ⟨[(4, (aI rCheckDocks))], [], 160⟩ (C_43 108) [] [] (kp [4]) [] 160 [] trivial ?_
    obtain rfl := Option.some.inj h
    refine Runs.sW hE ⟨[(4, (aI rCheckDocks))], [], 160⟩ [] (kp [4]) [] 160 [] trivial ?_
    exact Runs.sT Try.f60 [] [] trivial
  · have h := condF h hq2
    refine Runs.sA 2 [.code (C_43 14), .code (C_43 15)] ?_
    obtain ⟨rCheckCalls, hr2, h⟩ := bindSome h
    refine Runs.sR hE ⟨[(4, (aI rCheckCalls))], [], 176⟩ (C_43 14) [(1, ⟨[], true, (aI rCheckCalls), [], 0, false, none⟩)] [] (kp [4]) [] 176 [Sound Try.prog 18 [(encL Tapi_Call.cells Tapi_Call.d c)] [] 0 (aI rCheckCalls) []] ⟨(g_berth_CheckCalls_ok N c rCheckCalls hr2), trivial⟩ ?_
    obtain rfl := Option.some.inj h
    refine Runs.sW hE ⟨[(4, (aI rCheckCalls))], [], 176⟩ [] (kp [4]) [] 176 [] trivial ?_
    exact Runs.sT Try.f60 [] [] trivial

noncomputable def C_58 (n : Nat) : Code := cat (bodyOf Try.f61) (pth n)

theorem g_berth_fits_ok (N : Nat) (d : Tapi_Dock) (c : Tapi_Call) (r : Bool) (h : g_berth_fits N d c = some r) : Sound Try.prog 61 [(.agg (Tapi_Dock.cells d)), (.agg (Tapi_Call.cells c))] [] 0 (aB r) [] := by
  unfold g_berth_fits at h
  refine Sound.of_runs (fu := Try.f61) (c := C_58 1) (nt := 25) (by kernel_rfl) (by kernel_rfl) (by kernel_rfl) (by kernel_rfl) (fun hm => rfl) ?_
  intro E hE
  refine Runs.sA 1 [.code (C_58 2), .code (C_58 3)] ?_
  refine Runs.sR hE ⟨[(2, (.op 0 0 0)), (3, (.op 16 0 0))], [(0, vO 6 (Tapi_Dock.cells d)), (16, vO 9 (Tapi_Call.cells c))], 48⟩ (C_58 2) [] [] (kp [2, 3]) (kq [0, 16]) 48 [] trivial ?_
  refine Runs.sA 1 [.code (C_58 6), .code (C_58 7)] ?_
  refine Runs.sR hE ⟨[(4, (aB (cond (decide ((w64 (c.f_Length + (w64 (2 * d.f_Gap)))) ≤ d.f_Length)) (decide ((w64 (c.f_Beam + (w64 (2 * d.f_Gap)))) ≤ d.f_Width)) false)))], [], 384⟩ (C_58 6) [] [] (kp [4]) [] 384 [0 < 1, 0 < 1, 0 < 1, (decide ((w64 (c.f_Length + (w64 (2 * d.f_Gap)))) ≤ d.f_Length)) = true → AllP [(decide ((w64 (c.f_Length + (w64 (2 * d.f_Gap)))) ≤ d.f_Length)) = true, 0 < 1], (decide ((w64 (c.f_Length + (w64 (2 * d.f_Gap)))) ≤ d.f_Length)) = true → AllP [(decide ((w64 (c.f_Length + (w64 (2 * d.f_Gap)))) ≤ d.f_Length)) = true, 0 < 1], (decide ((w64 (c.f_Length + (w64 (2 * d.f_Gap)))) ≤ d.f_Length)) = true → AllP [(decide ((w64 (c.f_Length + (w64 (2 * d.f_Gap)))) ≤ d.f_Length)) = true], (decide ((w64 (c.f_Length + (w64 (2 * d.f_Gap)))) ≤ d.f_Length)) = true → AllP [(decide ((w64 (c.f_Length + (w64 (2 * d.f_Gap)))) ≤ d.f_Length)) = true, (decide ((w64 (c.f_Length + (w64 (2 * d.f_Gap)))) ≤ d.f_Length)) = true], (decide ((w64 (c.f_Length + (w64 (2 * d.f_Gap)))) ≤ d.f_Length)) = true → AllP [(decide ((w64 (c.f_Length + (w64 (2 * d.f_Gap)))) ≤ d.f_Length)) = true, 0 < 1], (decide ((w64 (c.f_Length + (w64 (2 * d.f_Gap)))) ≤ d.f_Length)) = true → AllP [(decide ((w64 (c.f_Length + (w64 (2 * d.f_Gap)))) ≤ d.f_Length)) = true, (decide ((w64 (c.f_Length + (w64 (2 * d.f_Gap)))) ≤ d.f_Length)) = true], (decide ((w64 (c.f_Length + (w64 (2 * d.f_Gap)))) ≤ d.f_Length)) = true → AllP [(decide ((w64 (c.f_Length + (w64 (2 * d.f_Gap)))) ≤ d.f_Length)) = true]] ⟨o1, o1, o1, (fun hg => ⟨hg, o1, trivial⟩), (fun hg => ⟨hg, o1, trivial⟩), (fun hg => ⟨hg, trivial⟩), (fun hg => ⟨hg, hg, trivial⟩), (fun hg => ⟨hg, o1, trivial⟩), (fun hg => ⟨hg, hg, trivial⟩), (fun hq => ⟨hq, trivial⟩), trivial⟩ ?_
  obtain rfl := Option.some.inj h
  refine Runs.sW hE ⟨[(4, (aB (cond (decide ((w64 (c.f_Length + (w64 (2 * d.f_Gap)))) ≤ d.f_Length)) (decide ((w64 (c.f_Beam + (w64 (2 * d.f_Gap)))) ≤ d.f_Width)) false)))], [], 384⟩ [] (kp [4]) [] 384 [] trivial ?_
  exact Runs.sT Try.f61 [] [] trivial

noncomputable def C_42 (n : Nat) : Code := cat (bodyOf Try.f20) (pth n)

theorem g_berth_Fits_ok (N : Nat) (d : Tapi_Dock) (c : Tapi_Call) (r : Bool × Int) (h : g_berth_Fits N d c = some r) : Sound Try.prog 20 [(.agg (Tapi_Dock.cells d)), (.agg (Tapi_Call.cells c))] [] 0 (.tup [(aB r.1), (aI r.2)]) [] := by
  unfold g_berth_Fits at h
  refine Sound.of_runs (fu := Try.f20) (c := C_42 1) (nt := 17) (by kernel_rfl) (by kernel_rfl) (by kernel_rfl) (by kernel_rfl) (fun hm => rfl) ?_
  intro E hE
  refine Runs.sA 1 [.code (C_42 2), .code (C_42 3)] ?_
  refine Runs.sR hE ⟨[(2, (.op 0 0 0)), (3, (.op 16 0 0))], [(0, vO 6 (Tapi_Dock.cells d)), (16, vO 9 (Tapi_Call.cells c))], 64⟩ (C_42 2) [] [] (kp [2, 3]) (kq [0, 16]) 64 [] trivial ?_
  refine Runs.sA 2 [.code (C_42 12), .code (C_42 13), .code (C_42 7)] ?_
  obtain ⟨rboth, hr, h⟩ := bindSome h
  refine Runs.sR hE ⟨[(2, (.op 0 0 0)), (3, (.op 16 0 0)), (6, (aI rboth))], [(0, vO 6 (Tapi_Dock.cells d)), (16, vO 9 (Tapi_Call.cells c))], 144⟩ (C_42 12) [(3, ⟨[], true, (aI rboth), [], 0, false, none⟩)] [] (kp [2, 3, 6]) (kq [0, 16]) 144 [0 < 1, 0 < 1, Sound Try.prog 60 [(.agg (Tapi_Dock.cells d)), (.sl 1 (fun zi => (fun zi => ([[(aS c.f_Name), (aI c.f_Length), (aI c.f_Beam), (aI c.f_Draught), (aI c.f_Under), (aI c.f_Arrive), (aI c.f_Work), (aI c.f_Due), (aI c.f_Late)]] : List (List AV)).getD zi []) (addz 0 zi)))] [] 0 (aI rboth) [], 0 + 1 ≤ 1] ⟨o1, o1, (Sound.conv (g_berth_both_ok N d ([c] : List Tapi_Call) rboth hr) (.cons (Alike.refl _) (.cons (Alike.sl rfl (fun zq hzq => get_chunk Tapi_Call.cells Tapi_Call.d ([c] : List Tapi_Call) zq hzq)) .nil))), z0, trivial⟩ ?_
  refine Runs.sA 1 [.code (C_42 26), .code (C_42 27), .code (C_42 7)] ?_
  refine Runs.sR hE ⟨[(2, (.op 0 0 0)), (3, (.op 16 0 0)), (6, (aI rboth)), (12, (aB (rboth != 0)))], [(0, vO 6 (Tapi_Dock.cells d)), (16, vO 9 (Tapi_Call.cells c))], 176⟩ (C_42 26) [] [] (kp [2, 3, 6, 12]) (kq [0, 16]) 176 [] trivial ?_
  refine Runs.sC 12 (C_42 54) (C_42 55) (rboth != 0) (fun hq2 => ?_) (fun hq2 => ?_)
  · have h := condT h hq2
    refine Runs.sA 1 [.code (C_42 108), .code (C_42 109), .code (C_42 7)] ?_
    refine Runs.sR hE ⟨[(4, (aB false)), (5, (aI rboth))], [], 224⟩ (C_42 108) [] [] (kp [4, 5]) [] 224 [] trivial ?_
    obtain rfl := Option.some.inj h
    refine Runs.sW hE ⟨[(4, (aB false)), (5, (aI rboth))], [], 224⟩ [] (kp [4, 5]) [] 224 [] trivial ?_
    exact Runs.sT Try.f20 [] [] trivial
  · have h := condF h hq2
    refine Runs.sA 2 [.code (C_42 14), .code (C_42 15)] ?_
    obtain ⟨rfits, hr2, h⟩ := bindSome h
    refine Runs.sR hE ⟨[(4, (aB rfits)), (5, (aI 0))], [], 256⟩ (C_42 14) [(2, ⟨[], true, (aB rfits), [], 0, false, none⟩)] [] (kp [4, 5]) [] 256 [0 < 1, 0 < 1, Sound Try.prog 61 [(.agg (Tapi_Dock.cells d)), (.agg (Tapi_Call.cells c))] [] 0 (aB rfits) []] ⟨o1, o1, (g_berth_fits_ok N d c rfits hr2), trivial⟩ ?_
    obtain rfl := Option.some.inj h
    refine Runs.sW hE ⟨[(4, (aB rfits)), (5, (aI 0))], [], 256⟩ [] (kp [4, 5]) [] 256 [] trivial ?_
    exact Runs.sT Try.f20 [] [] trivial

noncomputable def C_41 (n : Nat) : Code := cat (bodyOf Try.f14) (pth n)

theorem g_w06_awake_ok (N : Nat) (r : Bool) (h : g_w06_awake N = some r) : Sound Try.prog 14 [] [] 0 (aB r) [] := by
  unfold g_w06_awake at h
  refine Sound.of_runs (fu := Try.f14) (c := C_41 1) (nt := 36) (by kernel_rfl) (by kernel_rfl) (by kernel_rfl) (by kernel_rfl) (fun hm => rfl) ?_
  intro E hE
  refine Runs.sA 1 [.code (C_41 2), .code (C_41 3)] ?_
  refine Runs.sR hE ⟨[], [], 16⟩ (C_41 2) [] [] [] [] 16 [] trivial ?_
  refine Runs.sA 1 [.code (C_41 6), .code (C_41 7)] ?_
  refine Runs.sR hE ⟨[(1, (.op 32 0 0))], [(32, vO 6 [(aS (⟨#[100]⟩ : ByteArray)), (aI 200), (aI 40), (aI 0), (aI 0), (aI 2)])], 64⟩ (C_41 6) [] [] (kp [1]) (kq [32]) 64 [0 < 1] ⟨o1, trivial⟩ ?_
  refine Runs.sA 1 [.code (C_41 14), .code (C_41 15)] ?_
  refine Runs.sR hE ⟨[(1, (.op 32 0 0)), (2, (.op 80 0 0))], [(32, vO 6 [(aS (⟨#[100]⟩ : ByteArray)), (aI 200), (aI 40), (aI 0), (aI 0), (aI 2)]), (80, vO 9 [(aS (⟨#[97]⟩ : ByteArray)), (aI 100), (aI 30), (aI 0), (aI 0), (aI 0), (aI 1), (aI 0), (aI 0)])], 112⟩ (C_41 14) [] [] (kp [1, 2]) (kq [32, 80]) 112 [0 < 1] ⟨o1, trivial⟩ ?_
  refine Runs.sA 1 [.code (C_41 30), .code (C_41 31)] ?_
  refine Runs.sR hE ⟨[(1, (.op 32 0 0)), (2, (.op 80 0 0)), (3, (.op 128 0 0))], [(32, vO 6 [(aS (⟨#[100]⟩ : ByteArray)), (aI 200), (aI 40), (aI 0), (aI 0), (aI 2)]), (80, vO 9 [(aS (⟨#[97]⟩ : ByteArray)), (aI 100), (aI 30), (aI 0), (aI 0), (aI 0), (aI 1), (aI 0), (aI 0)]), (128, vO 9 [(aS (⟨#[98]⟩ : ByteArray)), (aI 197), (aI 30), (aI 0), (aI 0), (aI 0), (aI 1), (aI 0), (aI 0)])], 160⟩ (C_41 30) [] [] (kp [1, 2, 3]) (kq [32, 80, 128]) 160 [0 < 1] ⟨o1, trivial⟩ ?_
  refine Runs.sA 1 [.code (C_41 62), .code (C_41 63)] ?_
  obtain ⟨rFits, hr, h⟩ := bindSome h
  refine Runs.sR hE ⟨[(1, (.op 32 0 0)), (3, (.op 128 0 0)), (4, (aB rFits.1)), (5, (aI rFits.2))], [(32, vO 6 [(aS (⟨#[100]⟩ : ByteArray)), (aI 200), (aI 40), (aI 0), (aI 0), (aI 2)]), (128, vO 9 [(aS (⟨#[98]⟩ : ByteArray)), (aI 197), (aI 30), (aI 0), (aI 0), (aI 0), (aI 1), (aI 0), (aI 0)])], 288⟩ (C_41 62) [(2, ⟨[], true, (.tup [(aB rFits.1), (aI rFits.2)]), [], 0, false, none⟩)] [] (kp [1, 3, 4, 5]) (kq [32, 128]) 288 [0 < 1, 0 < 1, Sound Try.prog 20 [(.agg [(aS (⟨#[100]⟩ : ByteArray)), (aI 200), (aI 40), (aI 0), (aI 0), (aI 2)]), (.agg [(aS (⟨#[97]⟩ : ByteArray)), (aI 100), (aI 30), (aI 0), (aI 0), (aI 0), (aI 1), (aI 0), (aI 0)])] [] 0 (.tup [(aB rFits.1), (aI rFits.2)]) []] ⟨o1, o1, (g_berth_Fits_ok N (⟨(⟨#[100]⟩ : ByteArray), 200, 40, 0, 0, 2⟩ : Tapi_Dock) (⟨(⟨#[97]⟩ : ByteArray), 100, 30, 0, 0, 0, 1, 0, 0⟩ : Tapi_Call) rFits hr), trivial⟩ ?_
  refine Runs.sA 1 [.code (C_41 126), .code (C_41 127)] ?_
  obtain ⟨rFits2, hr2, h⟩ := bindSome h
  refine Runs.sR hE ⟨[(4, (aB rFits.1)), (5, (aI rFits.2)), (6, (aB rFits2.1)), (7, (aI rFits2.2))], [], 416⟩ (C_41 126) [(2, ⟨[], true, (.tup [(aB rFits2.1), (aI rFits2.2)]), [], 0, false, none⟩)] [] (kp [4, 5, 6, 7]) [] 416 [0 < 1, 0 < 1, Sound Try.prog 20 [(.agg [(aS (⟨#[100]⟩ : ByteArray)), (aI 200), (aI 40), (aI 0), (aI 0), (aI 2)]), (.agg [(aS (⟨#[98]⟩ : ByteArray)), (aI 197), (aI 30), (aI 0), (aI 0), (aI 0), (aI 1), (aI 0), (aI 0)])] [] 0 (.tup [(aB rFits2.1), (aI rFits2.2)]) []] ⟨o1, o1, (g_berth_Fits_ok N (⟨(⟨#[100]⟩ : ByteArray), 200, 40, 0, 0, 2⟩ : Tapi_Dock) (⟨(⟨#[98]⟩ : ByteArray), 197, 30, 0, 0, 0, 1, 0, 0⟩ : Tapi_Call) rFits2 hr2), trivial⟩ ?_
  refine Runs.sA 1 [.code (C_41 254), .code (C_41 255)] ?_
  refine Runs.sR hE ⟨[(0, (aB (cond (cond (cond (rFits.2 == 0) rFits.1 false) (rFits2.2 == 0) false) (!rFits2.1) false)))], [], 640⟩ (C_41 254) [] [] (kp [0]) [] 640 [(rFits.2 == 0) = true → AllP [(rFits.2 == 0) = true], (cond (rFits.2 == 0) rFits.1 false) = true → AllP [(cond (rFits.2 == 0) rFits.1 false) = true], (cond (rFits.2 == 0) rFits.1 false) = true → AllP [(cond (rFits.2 == 0) rFits.1 false) = true], (cond (cond (rFits.2 == 0) rFits.1 false) (rFits2.2 == 0) false) = true → AllP [(cond (cond (rFits.2 == 0) rFits.1 false) (rFits2.2 == 0) false) = true], (cond (cond (rFits.2 == 0) rFits.1 false) (rFits2.2 == 0) false) = true → AllP [(cond (cond (rFits.2 == 0) rFits.1 false) (rFits2.2 == 0) false) = true]] ⟨(fun hq => ⟨hq, trivial⟩), (fun hg => ⟨hg, trivial⟩), (fun hq => ⟨hq, trivial⟩), (fun hg => ⟨hg, trivial⟩), (fun hq => ⟨hq, trivial⟩), trivial⟩ ?_
  obtain rfl := Option.some.inj h
  refine Runs.sW hE ⟨[(0, (aB (cond (cond (cond (rFits.2 == 0) rFits.1 false) (rFits2.2 == 0) false) (!rFits2.1) false)))], [], 640⟩ [] (kp [0]) [] 640 [] trivial ?_
  exact Runs.sT Try.f14 [] [] trivial

noncomputable def C_60 (n : Nat) : Code := cat (bodyOf Try.f15) (pth n)

theorem g_w06_Names_L2_ok (N : Nat) (c : List Tapi_Call) (fuel : Nat) : ∀ (i2 : Int) (r : Bool), g_w06_Names_L2 N c fuel i2 = some r → ∀ E, EnvOk E 0 → Runs Try.prog E 15 41 (SPost E [] (aB r)) [.code (C_60 244), .inLoop (C_60 244), .inBlock 2, .code (C_60 31)] ⟨[(1, (encL Tapi_Call.cells Tapi_Call.d c)), (6, (aI i2))], [], 0⟩ := by
  induction fuel with
  | zero => intro _ r h; rw [g_w06_Names_L2.eq_1] at h; cases h
  | succ fuel ih =>
    intro i2 r h E hE
    rw [g_w06_Names_L2.eq_2] at h
    refine Runs.sA 2 [.code (C_60 976), .code (C_60 977), .code (C_60 489), .inLoop (C_60 244), .inBlock 2, .code (C_60 31)] ?_
    refine Runs.sR hE ⟨[(1, (encL Tapi_Call.cells Tapi_Call.d c)), (6, (aI i2)), (31, (aB (decide (i2 < ((c.length : Nat) : Int)))))], [], 64⟩ (C_60 976) [] [] (kp [1, 6, 31]) [] 64 [] trivial ?_
    refine Runs.sC 31 (C_60 1954) (C_60 1955) (decide (i2 < ((c.length : Nat) : Int))) (fun hq5 => ?_) (fun hq5 => ?_)
    · have h := condT h hq5
      refine Runs.sA 4 [.code (C_60 3912), .code (C_60 3913), .inBlock 3, .code (C_60 979), .inLoop (C_60 244), .inBlock 2, .code (C_60 31)] ?_
      obtain ⟨c3, h⟩ := ifSome h
      refine Runs.sR hE ⟨[(1, (encL Tapi_Call.cells Tapi_Call.d c)), (6, (aI i2)), (40, (aB (decide (((((c.getD ((i2).toNat) Tapi_Call.d).f_Name).size : Nat) : Int) > 40))))], [], 176⟩ (C_60 3912) [] [] (kp [1, 6, 40]) [] 176 [0 ≤ i2 ∧ i2 < ((c.length : Nat) : Int)] ⟨c3, trivial⟩ ?_
      refine Runs.sC 40 (C_60 7826) (C_60 7827) (decide (((((c.getD ((i2).toNat) Tapi_Call.d).f_Name).size : Nat) : Int) > 40)) (fun hq6 => ?_) (fun hq6 => ?_)
      · have h := condT h hq6
        refine Runs.sA 1 [.code (C_60 15652), .code (C_60 15653), .inBlock 3, .code (C_60 979), .inLoop (C_60 244), .inBlock 2, .code (C_60 31)] ?_
        refine Runs.sR hE ⟨[(4, (aB false))], [], 192⟩ (C_60 15652) [] [] (kp [4]) [] 192 [] trivial ?_
        obtain rfl := Option.some.inj h
        refine Runs.sW hE ⟨[(4, (aB false))], [], 192⟩ [] (kp [4]) [] 192 [] trivial ?_
        exact Runs.sT Try.f15 [] [] trivial
      · have h := condF h hq6
        refine Runs.sA 2 [.code (C_60 979), .inLoop (C_60 244), .inBlock 2, .code (C_60 31)] ?_
        refine Runs.sR hE ⟨[(1, (encL Tapi_Call.cells Tapi_Call.d c)), (6, (aI (w64 (i2 + 1))))], [], 224⟩ (C_60 979) [] [] (kp [1, 6]) [] 224 [] trivial ?_
        refine Runs.sA 1 [.code (C_60 244), .inLoop (C_60 244), .inBlock 2, .code (C_60 31)] ?_
        exact Runs.sW hE _ [] (kp [1, 6]) [] 0 [] trivial (ih (w64 (i2 + 1)) _ h E hE)
    · have h := condF h hq5
      refine Runs.sA 2 [.code (C_60 62), .code (C_60 63)] ?_
      refine Runs.sR hE ⟨[(4, (aB true))], [], 80⟩ (C_60 62) [] [] (kp [4]) [] 80 [] trivial ?_
      obtain rfl := Option.some.inj h
      refine Runs.sW hE ⟨[(4, (aB true))], [], 80⟩ [] (kp [4]) [] 80 [] trivial ?_
      exact Runs.sT Try.f15 [] [] trivial

theorem g_w06_Names_L1_ok (N : Nat) (d : List Tapi_Dock) (c : List Tapi_Call) (fuel : Nat) : ∀ (i : Int) (r : Bool), g_w06_Names_L1 N d c fuel i = some r → ∀ E, EnvOk E 0 → Runs Try.prog E 15 41 (SPost E [] (aB r)) [.code (C_60 116), .inLoop (C_60 116), .inBlock 0, .code (C_60 15)] ⟨[(0, (encL Tapi_Dock.cells Tapi_Dock.d d)), (1, (encL Tapi_Call.cells Tapi_Call.d c)), (5, (aI i))], [], 0⟩ := by
  induction fuel with
  | zero => intro _ r h; rw [g_w06_Names_L1.eq_1] at h; cases h
  | succ fuel ih =>
    intro i r h E hE
    rw [g_w06_Names_L1.eq_2] at h
    refine Runs.sA 2 [.code (C_60 464), .code (C_60 465), .code (C_60 233), .inLoop (C_60 116), .inBlock 0, .code (C_60 15)] ?_
    refine Runs.sR hE ⟨[(0, (encL Tapi_Dock.cells Tapi_Dock.d d)), (1, (encL Tapi_Call.cells Tapi_Call.d c)), (5, (aI i)), (18, (aB (decide (i < ((d.length : Nat) : Int)))))], [], 64⟩ (C_60 464) [] [] (kp [0, 1, 5, 18]) [] 64 [] trivial ?_
    refine Runs.sC 18 (C_60 930) (C_60 931) (decide (i < ((d.length : Nat) : Int))) (fun hq3 => ?_) (fun hq3 => ?_)
    · have h := condT h hq3
      refine Runs.sA 4 [.code (C_60 1864), .code (C_60 1865), .inBlock 1, .code (C_60 467), .inLoop (C_60 116), .inBlock 0, .code (C_60 15)] ?_
      obtain ⟨c2, h⟩ := ifSome h
      refine Runs.sR hE ⟨[(0, (encL Tapi_Dock.cells Tapi_Dock.d d)), (1, (encL Tapi_Call.cells Tapi_Call.d c)), (5, (aI i)), (27, (aB (decide (((((d.getD ((i).toNat) Tapi_Dock.d).f_Name).size : Nat) : Int) > 40))))], [], 176⟩ (C_60 1864) [] [] (kp [0, 1, 5, 27]) [] 176 [0 ≤ i ∧ i < ((d.length : Nat) : Int)] ⟨c2, trivial⟩ ?_
      refine Runs.sC 27 (C_60 3730) (C_60 3731) (decide (((((d.getD ((i).toNat) Tapi_Dock.d).f_Name).size : Nat) : Int) > 40)) (fun hq4 => ?_) (fun hq4 => ?_)
      · have h := condT h hq4
        refine Runs.sA 1 [.code (C_60 7460), .code (C_60 7461), .inBlock 1, .code (C_60 467), .inLoop (C_60 116), .inBlock 0, .code (C_60 15)] ?_
        refine Runs.sR hE ⟨[(4, (aB false))], [], 192⟩ (C_60 7460) [] [] (kp [4]) [] 192 [] trivial ?_
        obtain rfl := Option.some.inj h
        refine Runs.sW hE ⟨[(4, (aB false))], [], 192⟩ [] (kp [4]) [] 192 [] trivial ?_
        exact Runs.sT Try.f15 [] [] trivial
      · have h := condF h hq4
        refine Runs.sA 2 [.code (C_60 467), .inLoop (C_60 116), .inBlock 0, .code (C_60 15)] ?_
        refine Runs.sR hE ⟨[(0, (encL Tapi_Dock.cells Tapi_Dock.d d)), (1, (encL Tapi_Call.cells Tapi_Call.d c)), (5, (aI (w64 (i + 1))))], [], 224⟩ (C_60 467) [] [] (kp [0, 1, 5]) [] 224 [] trivial ?_
        refine Runs.sA 1 [.code (C_60 116), .inLoop (C_60 116), .inBlock 0, .code (C_60 15)] ?_
        exact Runs.sW hE _ [] (kp [0, 1, 5]) [] 0 [] trivial (ih (w64 (i + 1)) _ h E hE)
    · have h := condF h hq3
      refine Runs.sA 3 [.code (C_60 60), .code (C_60 61), .code (C_60 31)] ?_
      refine Runs.sR hE ⟨[(1, (encL Tapi_Call.cells Tapi_Call.d c)), (6, (aI 0))], [], 80⟩ (C_60 60) [] [] (kp [1, 6]) [] 80 [] trivial ?_
      refine Runs.sA 2 [.code (C_60 244), .inLoop (C_60 244), .inBlock 2, .code (C_60 31)] ?_
      exact Runs.sW hE _ [] (kp [1, 6]) [] 0 [] trivial (g_w06_Names_L2_ok N c N 0 _ h E hE)

theorem g_w06_Names_ok (N : Nat) (d : List Tapi_Dock) (c : List Tapi_Call) (r : Bool) (h : g_w06_Names N d c = some r) : Sound Try.prog 15 [(encL Tapi_Dock.cells Tapi_Dock.d d), (encL Tapi_Call.cells Tapi_Call.d c)] [] 0 (aB r) [] := by
  unfold g_w06_Names at h
  refine Sound.of_runs (fu := Try.f15) (c := C_60 1) (nt := 41) (by kernel_rfl) (by kernel_rfl) (by kernel_rfl) (by kernel_rfl) (fun hm => rfl) ?_
  intro E hE
  refine Runs.sA 1 [.code (C_60 2), .code (C_60 3)] ?_
  refine Runs.sR hE ⟨[(0, (encL Tapi_Dock.cells Tapi_Dock.d d)), (1, (encL Tapi_Call.cells Tapi_Call.d c))], [], 16⟩ (C_60 2) [] [] (kp [0, 1]) [] 16 [] trivial ?_
  refine Runs.sA 2 [.code (C_60 12), .code (C_60 13), .code (C_60 7)] ?_
  refine Runs.sR hE ⟨[(0, (encL Tapi_Dock.cells Tapi_Dock.d d)), (1, (encL Tapi_Call.cells Tapi_Call.d c)), (14, (aB (cond (decide (((d.length : Nat) : Int) > 6)) true (decide (((c.length : Nat) : Int) > 10)))))], [], 144⟩ (C_60 12) [] [] (kp [0, 1, 14]) [] 144 [(!(decide (((d.length : Nat) : Int) > 6))) = true → AllP [(!(decide (((d.length : Nat) : Int) > 6))) = true], (!(decide (((d.length : Nat) : Int) > 6))) = true → AllP [(!(decide (((d.length : Nat) : Int) > 6))) = true], (!(decide (((d.length : Nat) : Int) > 6))) = true → AllP [(!(decide (((d.length : Nat) : Int) > 6))) = true]] ⟨(fun hg => ⟨hg, trivial⟩), (fun hg => ⟨hg, trivial⟩), (fun hq => ⟨hq, trivial⟩), trivial⟩ ?_
  refine Runs.sC 14 (C_60 26) (C_60 27) (cond (decide (((d.length : Nat) : Int) > 6)) true (decide (((c.length : Nat) : Int) > 10))) (fun hq2 => ?_) (fun hq2 => ?_)
  · have h := condT h hq2
    refine Runs.sA 1 [.code (C_60 52), .code (C_60 53), .code (C_60 7)] ?_
    refine Runs.sR hE ⟨[(4, (aB false))], [], 160⟩ (C_60 52) [] [] (kp [4]) [] 160 [] trivial ?_
    obtain rfl := Option.some.inj h
    refine Runs.sW hE ⟨[(4, (aB false))], [], 160⟩ [] (kp [4]) [] 160 [] trivial ?_
    exact Runs.sT Try.f15 [] [] trivial
  · have h := condF h hq2
    refine Runs.sA 3 [.code (C_60 28), .code (C_60 29), .code (C_60 15)] ?_
    refine Runs.sR hE ⟨[(0, (encL Tapi_Dock.cells Tapi_Dock.d d)), (1, (encL Tapi_Call.cells Tapi_Call.d c)), (5, (aI 0))], [], 160⟩ (C_60 28) [] [] (kp [0, 1, 5]) [] 160 [] trivial ?_
    refine Runs.sA 2 [.code (C_60 116), .inLoop (C_60 116), .inBlock 0, .code (C_60 15)] ?_
    exact Runs.sW hE _ [] (kp [0, 1, 5]) [] 0 [] trivial (g_w06_Names_L1_ok N d c N 0 _ h E hE)

noncomputable def C_59 (n : Nat) : Code := cat (bodyOf Try.f36) (pth n)

theorem g_w06_Plan_short_L1_ok (N : Nat) (p : Tkeelblocklaw06_Plan) (fuel : Nat) : ∀ (i : Int) (r : Bool), g_w06_Plan_short_L1 N p fuel i = some r → ∀ E, EnvOk E 0 → Runs Try.prog E 36 32 (SPost E [] (aB r)) [.code (C_59 116), .inLoop (C_59 116), .inBlock 0, .code (C_59 15)] ⟨[(1, (.op 0 0 0)), (3, (aI i))], [(0, vO 8 (Tkeelblocklaw06_Plan.cells p))], 1⟩ := by
  induction fuel with
  | zero => intro _ r h; rw [g_w06_Plan_short_L1.eq_1] at h; cases h
  | succ fuel ih =>
    intro i r h E hE
    rw [g_w06_Plan_short_L1.eq_2] at h
    refine Runs.sA 2 [.code (C_59 464), .code (C_59 465), .code (C_59 233), .inLoop (C_59 116), .inBlock 0, .code (C_59 15)] ?_
    refine Runs.sR hE ⟨[(1, (.op 0 0 0)), (3, (aI i)), (21, (aB (decide (i < ((p.f_Spots.length : Nat) : Int)))))], [(0, vO 8 (Tkeelblocklaw06_Plan.cells p))], 81⟩ (C_59 464) [] [] (kp [1, 3, 21]) (kq [0]) 81 [0 < 1] ⟨o1, trivial⟩ ?_
    refine Runs.sC 21 (C_59 930) (C_59 931) (decide (i < ((p.f_Spots.length : Nat) : Int))) (fun hq3 => ?_) (fun hq3 => ?_)
    · have h := condT h hq3
      refine Runs.sA 4 [.code (C_59 1864), .code (C_59 1865), .inBlock 1, .code (C_59 467), .inLoop (C_59 116), .inBlock 0, .code (C_59 15)] ?_
      obtain ⟨c, h⟩ := ifSome h
      refine Runs.sR hE ⟨[(1, (.op 0 0 0)), (3, (aI i)), (31, (aB (decide (((((p.f_Spots.getD ((i).toNat) Tapi_Spot.d).f_Call).size : Nat) : Int) > 40))))], [(0, vO 8 (Tkeelblocklaw06_Plan.cells p))], 209⟩ (C_59 1864) [] [] (kp [1, 3, 31]) (kq [0]) 209 [0 < 1, 0 ≤ i ∧ i < ((p.f_Spots.length : Nat) : Int)] ⟨o1, c, trivial⟩ ?_
      refine Runs.sC 31 (C_59 3730) (C_59 3731) (decide (((((p.f_Spots.getD ((i).toNat) Tapi_Spot.d).f_Call).size : Nat) : Int) > 40)) (fun hq4 => ?_) (fun hq4 => ?_)
      · have h := condT h hq4
        refine Runs.sA 1 [.code (C_59 7460), .code (C_59 7461), .inBlock 1, .code (C_59 467), .inLoop (C_59 116), .inBlock 0, .code (C_59 15)] ?_
        refine Runs.sR hE ⟨[(2, (aB false))], [], 225⟩ (C_59 7460) [] [] (kp [2]) [] 225 [] trivial ?_
        obtain rfl := Option.some.inj h
        refine Runs.sW hE ⟨[(2, (aB false))], [], 225⟩ [] (kp [2]) [] 225 [] trivial ?_
        exact Runs.sT Try.f36 [] [] trivial
      · have h := condF h hq4
        refine Runs.sA 2 [.code (C_59 467), .inLoop (C_59 116), .inBlock 0, .code (C_59 15)] ?_
        refine Runs.sR hE ⟨[(1, (.op 0 0 0)), (3, (aI (w64 (i + 1))))], [(0, vO 8 (Tkeelblocklaw06_Plan.cells p))], 257⟩ (C_59 467) [] [] (kp [1, 3]) (kq [0]) 257 [] trivial ?_
        refine Runs.sA 1 [.code (C_59 116), .inLoop (C_59 116), .inBlock 0, .code (C_59 15)] ?_
        exact Runs.sW hE _ [] (kp [1, 3]) (kq [0]) 1 [] trivial (ih (w64 (i + 1)) _ h E hE)
    · have h := condF h hq3
      refine Runs.sA 2 [.code (C_59 30), .code (C_59 31)] ?_
      refine Runs.sR hE ⟨[(2, (aB true))], [], 97⟩ (C_59 30) [] [] (kp [2]) [] 97 [] trivial ?_
      obtain rfl := Option.some.inj h
      refine Runs.sW hE ⟨[(2, (aB true))], [], 97⟩ [] (kp [2]) [] 97 [] trivial ?_
      exact Runs.sT Try.f36 [] [] trivial

theorem g_w06_Plan_short_ok (N : Nat) (p : Tkeelblocklaw06_Plan) (r : Bool) (h : g_w06_Plan_short N p = some r) : Sound Try.prog 36 [(.agg (Tkeelblocklaw06_Plan.cells p))] [] 0 (aB r) [] := by
  unfold g_w06_Plan_short at h
  refine Sound.of_runs (fu := Try.f36) (c := C_59 1) (nt := 32) (by kernel_rfl) (by kernel_rfl) (by kernel_rfl) (by kernel_rfl) (fun hm => rfl) ?_
  intro E hE
  refine Runs.sA 1 [.code (C_59 2), .code (C_59 3)] ?_
  refine Runs.sR hE ⟨[(1, (.op 0 0 0))], [(0, vO 8 (Tkeelblocklaw06_Plan.cells p))], 32⟩ (C_59 2) [] [] (kp [1]) (kq [0]) 32 [] trivial ?_
  refine Runs.sA 2 [.code (C_59 12), .code (C_59 13), .code (C_59 7)] ?_
  obtain ⟨rNames, hr, h⟩ := bindSome h
  refine Runs.sR hE ⟨[(1, (.op 0 0 0)), (16, (aB (cond (!rNames) true (decide (((p.f_Spots.length : Nat) : Int) > 12)))))], [(0, vO 8 (Tkeelblocklaw06_Plan.cells p))], 240⟩ (C_59 12) [(5, ⟨[], true, (aB rNames), [], 0, false, none⟩)] [] (kp [1, 16]) (kq [0]) 240 [0 < 1, 0 < 1, Sound Try.prog 15 [(.sl 1 (fun zi => (fun zi => ([[(aS p.f_Dock.f_Name), (aI p.f_Dock.f_Length), (aI p.f_Dock.f_Width), (aI p.f_Dock.f_Sill), (aI p.f_Dock.f_Floor), (aI p.f_Dock.f_Gap)]] : List (List AV)).getD zi []) (addz 0 zi))), (encL Tapi_Call.cells Tapi_Call.d p.f_Calls)] [] 0 (aB rNames) [], 0 + 1 ≤ 1, (!(!rNames)) = true → AllP [(!(!rNames)) = true, 0 < 1], (!(!rNames)) = true → AllP [(!(!rNames)) = true], (!(!rNames)) = true → AllP [(!(!rNames)) = true], (!(!rNames)) = true → AllP [(!(!rNames)) = true]] ⟨o1, o1, (Sound.conv (g_w06_Names_ok N ([p.f_Dock] : List Tapi_Dock) p.f_Calls rNames hr) (.cons (Alike.sl rfl (fun zq hzq => get_chunk Tapi_Dock.cells Tapi_Dock.d ([p.f_Dock] : List Tapi_Dock) zq hzq)) (.cons (Alike.refl _) .nil))), z0, (fun hg => ⟨hg, o1, trivial⟩), (fun hg => ⟨hg, trivial⟩), (fun hg => ⟨hg, trivial⟩), (fun hq => ⟨hq, trivial⟩), trivial⟩ ?_
  refine Runs.sC 16 (C_59 26) (C_59 27) (cond (!rNames) true (decide (((p.f_Spots.length : Nat) : Int) > 12))) (fun hq2 => ?_) (fun hq2 => ?_)
  · have h := condT h hq2
    refine Runs.sA 1 [.code (C_59 52), .code (C_59 53), .code (C_59 7)] ?_
    refine Runs.sR hE ⟨[(2, (aB false))], [], 256⟩ (C_59 52) [] [] (kp [2]) [] 256 [] trivial ?_
    obtain rfl := Option.some.inj h
    refine Runs.sW hE ⟨[(2, (aB false))], [], 256⟩ [] (kp [2]) [] 256 [] trivial ?_
    exact Runs.sT Try.f36 [] [] trivial
  · have h := condF h hq2
    refine Runs.sA 3 [.code (C_59 28), .code (C_59 29), .code (C_59 15)] ?_
    refine Runs.sR hE ⟨[(1, (.op 0 0 0)), (3, (aI 0))], [(0, vO 8 (Tkeelblocklaw06_Plan.cells p))], 256⟩ (C_59 28) [] [] (kp [1, 3]) (kq [0]) 256 [] trivial ?_
    refine Runs.sA 2 [.code (C_59 116), .inLoop (C_59 116), .inBlock 0, .code (C_59 15)] ?_
    exact Runs.sW hE _ [] (kp [1, 3]) (kq [0]) 1 [] trivial (g_w06_Plan_short_L1_ok N p N 0 _ h E hE)

noncomputable def C_66 (n : Nat) : Code := cat (bodyOf Try.f43) (pth n)

theorem g_r06_CallOf_L1_ok (N : Nat) (c : List Tapi_Call) (name : ByteArray) (fuel : Nat) : ∀ (i : Int) (r : Int), g_r06_CallOf_L1 N c name fuel i = some r → ∀ E, EnvOk E 0 → Runs Try.prog E 43 20 (SPost E [] (aI r)) [.code (C_66 52), .inLoop (C_66 52), .inBlock 0, .code (C_66 7)] ⟨[(0, (encL Tapi_Call.cells Tapi_Call.d c)), (1, (aS name)), (5, (aI i))], [], 0⟩ := by
  induction fuel with
  | zero => intro _ r h; rw [g_r06_CallOf_L1.eq_1] at h; cases h
  | succ fuel ih =>
    intro i r h E hE
    rw [g_r06_CallOf_L1.eq_2] at h
    refine Runs.sA 2 [.code (C_66 208), .code (C_66 209), .code (C_66 105), .inLoop (C_66 52), .inBlock 0, .code (C_66 7)] ?_
    refine Runs.sR hE ⟨[(0, (encL Tapi_Call.cells Tapi_Call.d c)), (1, (aS name)), (5, (aI i)), (9, (aB (decide (i < ((c.length : Nat) : Int)))))], [], 64⟩ (C_66 208) [] [] (kp [0, 1, 5, 9]) [] 64 [] trivial ?_
    refine Runs.sC 9 (C_66 418) (C_66 419) (decide (i < ((c.length : Nat) : Int))) (fun hq2 => ?_) (fun hq2 => ?_)
    · have h := condT h hq2
      refine Runs.sA 4 [.code (C_66 840), .code (C_66 841), .inBlock 1, .code (C_66 211), .inLoop (C_66 52), .inBlock 0, .code (C_66 7)] ?_
      obtain ⟨c2, h⟩ := ifSome h
      refine Runs.sR hE ⟨[(0, (encL Tapi_Call.cells Tapi_Call.d c)), (1, (aS name)), (5, (aI i)), (18, (aB (streq ((c.getD ((i).toNat) Tapi_Call.d).f_Name) name)))], [], 176⟩ (C_66 840) [] [] (kp [0, 1, 5, 18]) [] 176 [0 ≤ i ∧ i < ((c.length : Nat) : Int)] ⟨c2, trivial⟩ ?_
      refine Runs.sC 18 (C_66 1682) (C_66 1683) (streq ((c.getD ((i).toNat) Tapi_Call.d).f_Name) name) (fun hq3 => ?_) (fun hq3 => ?_)
      · have h := condT h hq3
        refine Runs.sA 1 [.code (C_66 3364), .code (C_66 3365), .inBlock 1, .code (C_66 211), .inLoop (C_66 52), .inBlock 0, .code (C_66 7)] ?_
        refine Runs.sR hE ⟨[(4, (aI i))], [], 208⟩ (C_66 3364) [] [] (kp [4]) [] 208 [] trivial ?_
        obtain rfl := Option.some.inj h
        refine Runs.sW hE ⟨[(4, (aI i))], [], 208⟩ [] (kp [4]) [] 208 [] trivial ?_
        exact Runs.sT Try.f43 [] [] trivial
      · have h := condF h hq3
        refine Runs.sA 2 [.code (C_66 211), .inLoop (C_66 52), .inBlock 0, .code (C_66 7)] ?_
        refine Runs.sR hE ⟨[(0, (encL Tapi_Call.cells Tapi_Call.d c)), (1, (aS name)), (5, (aI (w64 (i + 1))))], [], 224⟩ (C_66 211) [] [] (kp [0, 1, 5]) [] 224 [] trivial ?_
        refine Runs.sA 1 [.code (C_66 52), .inLoop (C_66 52), .inBlock 0, .code (C_66 7)] ?_
        exact Runs.sW hE _ [] (kp [0, 1, 5]) [] 0 [] trivial (ih (w64 (i + 1)) _ h E hE)
    · have h := condF h hq2
      refine Runs.sA 2 [.code (C_66 14), .code (C_66 15)] ?_
      refine Runs.sR hE ⟨[(4, (aI (-1)))], [], 80⟩ (C_66 14) [] [] (kp [4]) [] 80 [] trivial ?_
      obtain rfl := Option.some.inj h
      refine Runs.sW hE ⟨[(4, (aI (-1)))], [], 80⟩ [] (kp [4]) [] 80 [] trivial ?_
      exact Runs.sT Try.f43 [] [] trivial

theorem g_r06_CallOf_ok (N : Nat) (c : List Tapi_Call) (name : ByteArray) (r : Int) (h : g_r06_CallOf N c name = some r) : Sound Try.prog 43 [(encL Tapi_Call.cells Tapi_Call.d c), (aS name)] [] 0 (aI r) [] := by
  unfold g_r06_CallOf at h
  refine Sound.of_runs (fu := Try.f43) (c := C_66 1) (nt := 20) (by kernel_rfl) (by kernel_rfl) (by kernel_rfl) (by kernel_rfl) (fun hm => rfl) ?_
  intro E hE
  refine Runs.sA 1 [.code (C_66 2), .code (C_66 3)] ?_
  refine Runs.sR hE ⟨[(0, (encL Tapi_Call.cells Tapi_Call.d c)), (1, (aS name))], [], 16⟩ (C_66 2) [] [] (kp [0, 1]) [] 16 [] trivial ?_
  refine Runs.sA 2 [.code (C_66 12), .code (C_66 13), .code (C_66 7)] ?_
  refine Runs.sR hE ⟨[(0, (encL Tapi_Call.cells Tapi_Call.d c)), (1, (aS name)), (5, (aI 0))], [], 32⟩ (C_66 12) [] [] (kp [0, 1, 5]) [] 32 [] trivial ?_
  refine Runs.sA 2 [.code (C_66 52), .inLoop (C_66 52), .inBlock 0, .code (C_66 7)] ?_
  exact Runs.sW hE _ [] (kp [0, 1, 5]) [] 0 [] trivial (g_r06_CallOf_L1_ok N c name N 0 _ h E hE)

noncomputable def C_73 (n : Nat) : Code := cat (bodyOf Try.f101) (pth n)

theorem g_berth_called_1_ok (N : Nat) (x : Tapi_Call) (cap0 : ByteArray) (r : Bool) (h : g_berth_called_1 N x cap0 = some r) : Sound Try.prog 101 [(.agg (Tapi_Call.cells x)), (.op 0 0 0)] [(0, vO 1 [(aS cap0)])] 1 (aB r) [(0, vO 1 [(aS cap0)])] := by
  unfold g_berth_called_1 at h
  refine Sound.of_runs (fu := Try.f101) (c := C_73 1) (nt := 8) (by kernel_rfl) (by kernel_rfl) (by kernel_rfl) (by kernel_rfl) (fun hm => absurd hm (by decide)) ?_
  intro E hE
  refine Runs.sA 1 [.code (C_73 2), .code (C_73 3)] ?_
  refine Runs.sR hE ⟨[(1, (.op 0 0 0)), (2, (.op 1 0 0))], [(0, vO 1 [(aS cap0)]), (1, vO 9 (Tapi_Call.cells x))], 33⟩ (C_73 2) [] [] (kp [1, 2]) (kq [0, 1]) 33 [] trivial ?_
  refine Runs.sA 1 [.code (C_73 6), .code (C_73 7)] ?_
  refine Runs.sR hE ⟨[(3, (aB (streq x.f_Name cap0)))], [(0, vO 1 [(aS cap0)])], 113⟩ (C_73 6) [] [] (kp [3]) (kq [0]) 113 [0 < 1, 0 < 1] ⟨o1, o1, trivial⟩ ?_
  obtain rfl := Option.some.inj h
  refine Runs.sW hE ⟨[(3, (aB (streq x.f_Name cap0)))], [(0, vO 1 [(aS cap0)])], 113⟩ [] (kp [3]) (kq [0]) 113 [] trivial ?_
  exact Runs.sT Try.f101 [] [] trivial

noncomputable def C_72 (n : Nat) : Code := cat (bodyOf Try.f99) (pth n)

theorem g_slices_IndexFunc_api_Call_api_Call_v2_L1_ok (N : Nat) (s : List Tapi_Call) (cap0 : ByteArray) (fuel : Nat) : ∀ (x : Int) (r : Int), g_slices_IndexFunc_api_Call_api_Call_v2_L1 N s cap0 fuel x = some r → ∀ E, EnvOk E 1 → Runs Try.prog E 99 19 (SPost E [(0, vO 1 [(aS cap0)])] (aI r)) [.code (C_72 52), .inLoop (C_72 52), .inBlock 0, .code (C_72 7)] ⟨[(0, (encL Tapi_Call.cells Tapi_Call.d s)), (1, (.fn (.func 101) [] [(.op 0 0 0)])), (7, (aI ((s.length : Nat) : Int))), (8, (aI x))], [(0, vO 1 [(aS cap0)])], 1⟩ := by
  induction fuel with
  | zero => intro _ r h; rw [g_slices_IndexFunc_api_Call_api_Call_v2_L1.eq_1] at h; cases h
  | succ fuel ih =>
    intro x r h E hE
    rw [g_slices_IndexFunc_api_Call_api_Call_v2_L1.eq_2] at h
    refine Runs.sA 1 [.code (C_72 104), .code (C_72 105), .inLoop (C_72 52), .inBlock 0, .code (C_72 7)] ?_
    refine Runs.sR hE ⟨[(0, (encL Tapi_Call.cells Tapi_Call.d s)), (1, (.fn (.func 101) [] [(.op 0 0 0)])), (7, (aI ((s.length : Nat) : Int))), (8, (aI x)), (9, (aB (decide (x < ((s.length : Nat) : Int)))))], [(0, vO 1 [(aS cap0)])], 17⟩ (C_72 104) [] [] (kp [0, 1, 7, 8, 9]) (kq [0]) 17 [] trivial ?_
    refine Runs.sA 1 [.code (C_72 210), .code (C_72 211), .inLoop (C_72 52), .inBlock 0, .code (C_72 7)] ?_
    refine Runs.sC 9 (C_72 420) (C_72 421) (decide (x < ((s.length : Nat) : Int))) (fun hq2 => ?_) (fun hq2 => ?_)
    · have h := condT h hq2
      refine Runs.sA 4 [.code (C_72 1688), .code (C_72 1689), .inBlock 1, .code (C_72 423), .inLoop (C_72 52), .inBlock 0, .code (C_72 7)] ?_
      refine Runs.sR hE ⟨[(0, (encL Tapi_Call.cells Tapi_Call.d s)), (1, (.fn (.func 101) [] [(.op 0 0 0)])), (5, (aI x)), (7, (aI ((s.length : Nat) : Int))), (8, (aI x))], [(0, vO 1 [(aS cap0)])], 49⟩ (C_72 1688) [] [] (kp [0, 1, 5, 7, 8]) (kq [0]) 49 [] trivial ?_
      refine Runs.sA 1 [.code (C_72 3378), .code (C_72 3379), .inBlock 1, .code (C_72 423), .inLoop (C_72 52), .inBlock 0, .code (C_72 7)] ?_
      obtain ⟨c, h⟩ := ifSome h
      obtain ⟨rcalled1, hr, h⟩ := bindSome h
      refine Runs.sR hE ⟨[(0, (encL Tapi_Call.cells Tapi_Call.d s)), (1, (.fn (.func 101) [] [(.op 0 0 0)])), (5, (aI x)), (7, (aI ((s.length : Nat) : Int))), (8, (aI x)), (16, (aB rcalled1))], [(0, vO 1 [(aS cap0)])], 145⟩ (C_72 3378) [(5, ⟨[0], true, (aB rcalled1), [], 0, false, none⟩)] [] (kp [0, 1, 5, 7, 8, 16]) (kq [0]) 145 [0 ≤ x ∧ x < ((s.length : Nat) : Int), Sound Try.prog 101 [(.agg (Tapi_Call.cells (s.getD ((x).toNat) Tapi_Call.d))), (.op 0 0 0)] [(0, vO 1 [(aS cap0)])] 1 (aB rcalled1) [(0, vO 1 [(aS cap0)])]] ⟨c, (g_berth_called_1_ok N (s.getD ((x).toNat) Tapi_Call.d) cap0 rcalled1 hr), trivial⟩ ?_
      refine Runs.sC 16 (C_72 6758) (C_72 6759) rcalled1 (fun hq3 => ?_) (fun hq3 => ?_)
      · have h := condT h hq3
        refine Runs.sA 1 [.code (C_72 13516), .code (C_72 13517), .inBlock 1, .code (C_72 423), .inLoop (C_72 52), .inBlock 0, .code (C_72 7)] ?_
        refine Runs.sR hE ⟨[(4, (aI x))], [(0, vO 1 [(aS cap0)])], 177⟩ (C_72 13516) [] [] (kp [4]) (kq [0]) 177 [] trivial ?_
        obtain rfl := Option.some.inj h
        refine Runs.sW hE ⟨[(4, (aI x))], [(0, vO 1 [(aS cap0)])], 177⟩ [] (kp [4]) (kq [0]) 177 [] trivial ?_
        exact Runs.sT Try.f99 [] [] trivial
      · have h := condF h hq3
        refine Runs.sA 2 [.code (C_72 423), .inLoop (C_72 52), .inBlock 0, .code (C_72 7)] ?_
        refine Runs.sR hE ⟨[(0, (encL Tapi_Call.cells Tapi_Call.d s)), (1, (.fn (.func 101) [] [(.op 0 0 0)])), (7, (aI ((s.length : Nat) : Int))), (8, (aI (w64 (x + 1))))], [(0, vO 1 [(aS cap0)])], 177⟩ (C_72 423) [] [] (kp [0, 1, 7, 8]) (kq [0]) 177 [] trivial ?_
        refine Runs.sA 1 [.code (C_72 52), .inLoop (C_72 52), .inBlock 0, .code (C_72 7)] ?_
        exact Runs.sW hE _ [] (kp [0, 1, 7, 8]) (kq [0]) 1 [] trivial (ih (w64 (x + 1)) _ h E hE)
    · have h := condF h hq2
      refine Runs.sA 2 [.code (C_72 14), .code (C_72 15)] ?_
      refine Runs.sR hE ⟨[(4, (aI (-1)))], [(0, vO 1 [(aS cap0)])], 33⟩ (C_72 14) [] [] (kp [4]) (kq [0]) 33 [] trivial ?_
      obtain rfl := Option.some.inj h
      refine Runs.sW hE ⟨[(4, (aI (-1)))], [(0, vO 1 [(aS cap0)])], 49⟩ [] (kp [4]) (kq [0]) 49 [] trivial ?_
      exact Runs.sT Try.f99 [] [] trivial

theorem g_slices_IndexFunc_api_Call_api_Call_v2_ok (N : Nat) (s : List Tapi_Call) (cap0 : ByteArray) (r : Int) (h : g_slices_IndexFunc_api_Call_api_Call_v2 N s cap0 = some r) : Sound Try.prog 99 [(encL Tapi_Call.cells Tapi_Call.d s), (.fn (.func 101) [] [(.op 0 0 0)])] [(0, vO 1 [(aS cap0)])] 1 (aI r) [(0, vO 1 [(aS cap0)])] := by
  unfold g_slices_IndexFunc_api_Call_api_Call_v2 at h
  refine Sound.of_runs (fu := Try.f99) (c := C_72 1) (nt := 19) (by kernel_rfl) (by kernel_rfl) (by kernel_rfl) (by kernel_rfl) (fun hm => absurd hm (by decide)) ?_
  intro E hE
  refine Runs.sA 1 [.code (C_72 2), .code (C_72 3)] ?_
  refine Runs.sR hE ⟨[(0, (encL Tapi_Call.cells Tapi_Call.d s)), (1, (.fn (.func 101) [] [(.op 0 0 0)]))], [(0, vO 1 [(aS cap0)])], 17⟩ (C_72 2) [] [] (kp [0, 1]) (kq [0]) 17 [] trivial ?_
  refine Runs.sA 2 [.code (C_72 12), .code (C_72 13), .code (C_72 7)] ?_
  refine Runs.sR hE ⟨[(0, (encL Tapi_Call.cells Tapi_Call.d s)), (1, (.fn (.func 101) [] [(.op 0 0 0)])), (7, (aI ((s.length : Nat) : Int))), (8, (aI 0))], [(0, vO 1 [(aS cap0)])], 65⟩ (C_72 12) [] [] (kp [0, 1, 7, 8]) (kq [0]) 65 [] trivial ?_
  refine Runs.sA 2 [.code (C_72 52), .inLoop (C_72 52), .inBlock 0, .code (C_72 7)] ?_
  exact Runs.sW hE _ [] (kp [0, 1, 7, 8]) (kq [0]) 1 [] trivial (g_slices_IndexFunc_api_Call_api_Call_v2_L1_ok N s cap0 N 0 _ h E hE)

noncomputable def C_71 (n : Nat) : Code := cat (bodyOf Try.f93) (pth n)

theorem g_berth_called_ok (N : Nat) (c : List Tapi_Call) (name : ByteArray) (r : Int) (h : g_berth_called N c name = some r) : Sound Try.prog 93 [(encL Tapi_Call.cells Tapi_Call.d c), (aS name)] [] 0 (aI r) [] := by
  unfold g_berth_called at h
  refine Sound.of_runs (fu := Try.f93) (c := C_71 1) (nt := 8) (by kernel_rfl) (by kernel_rfl) (by kernel_rfl) (by kernel_rfl) (fun hm => rfl) ?_
  intro E hE
  refine Runs.sA 1 [.code (C_71 2), .code (C_71 3)] ?_
  refine Runs.sR hE ⟨[(0, (encL Tapi_Call.cells Tapi_Call.d c)), (3, (.op 0 0 0))], [(0, vO 1 [(aS name)])], 32⟩ (C_71 2) [] [] (kp [0, 3]) (kq [0]) 32 [] trivial ?_
  refine Runs.sA 1 [.code (C_71 6), .code (C_71 7)] ?_
  obtain ⟨rCall, hr, h⟩ := bindSome h
  refine Runs.sR hE ⟨[(4, (aI rCall))], [], 96⟩ (C_71 6) [(2, ⟨[0], true, (aI rCall), [], 0, false, none⟩)] [] (kp [4]) [] 96 [Sound Try.prog 99 [(encL Tapi_Call.cells Tapi_Call.d c), (.fn (.func 101) [] [(.op 0 0 0)])] [(0, vO 1 [(aS name)])] 1 (aI rCall) [(0, vO 1 [(aS name)])]] ⟨(g_slices_IndexFunc_api_Call_api_Call_v2_ok N c name rCall hr), trivial⟩ ?_
  obtain rfl := Option.some.inj h
  refine Runs.sW hE ⟨[(4, (aI rCall))], [], 96⟩ [] (kp [4]) [] 96 [] trivial ?_
  exact Runs.sT Try.f93 [] [] trivial

noncomputable def C_74 (n : Nat) : Code := cat (bodyOf Try.f94) (pth n)

theorem g_berth_inside_ok (N : Nat) (d : Tapi_Dock) (b : Tberth_box) (r : Bool) (h : g_berth_inside N d b = some r) : Sound Try.prog 94 [(.agg (Tapi_Dock.cells d)), (.agg (Tberth_box.cells b))] [] 0 (aB r) [] := by
  unfold g_berth_inside at h
  refine Sound.of_runs (fu := Try.f94) (c := C_74 1) (nt := 43) (by kernel_rfl) (by kernel_rfl) (by kernel_rfl) (by kernel_rfl) (fun hm => rfl) ?_
  intro E hE
  refine Runs.sA 1 [.code (C_74 2), .code (C_74 3)] ?_
  refine Runs.sR hE ⟨[(2, (.op 0 0 0)), (3, (.op 16 0 0))], [(0, vO 6 (Tapi_Dock.cells d)), (16, vO 4 (Tberth_box.cells b))], 48⟩ (C_74 2) [] [] (kp [2, 3]) (kq [0, 16]) 48 [] trivial ?_
  refine Runs.sA 1 [.code (C_74 6), .code (C_74 7)] ?_
  refine Runs.sR hE ⟨[(4, (aB (cond (cond (cond (decide (b.f_x ≥ d.f_Gap)) (decide (b.f_y ≥ d.f_Gap)) false) (decide ((w64 ((w64 (b.f_x + b.f_w)) + d.f_Gap)) ≤ d.f_Length)) false) (decide ((w64 ((w64 (b.f_y + b.f_h)) + d.f_Gap)) ≤ d.f_Width)) false)))], [], 672⟩ (C_74 6) [] [] (kp [4]) [] 672 [0 < 1, 0 < 1, (decide (b.f_x ≥ d.f_Gap)) = true → AllP [(decide (b.f_x ≥ d.f_Gap)) = true, 0 < 1], (decide (b.f_x ≥ d.f_Gap)) = true → AllP [(decide (b.f_x ≥ d.f_Gap)) = true, 0 < 1], (decide (b.f_x ≥ d.f_Gap)) = true → AllP [(decide (b.f_x ≥ d.f_Gap)) = true, (decide (b.f_x ≥ d.f_Gap)) = true], (decide (b.f_x ≥ d.f_Gap)) = true → AllP [(decide (b.f_x ≥ d.f_Gap)) = true], (cond (decide (b.f_x ≥ d.f_Gap)) (decide (b.f_y ≥ d.f_Gap)) false) = true → AllP [(cond (decide (b.f_x ≥ d.f_Gap)) (decide (b.f_y ≥ d.f_Gap)) false) = true, 0 < 1], (cond (decide (b.f_x ≥ d.f_Gap)) (decide (b.f_y ≥ d.f_Gap)) false) = true → AllP [(cond (decide (b.f_x ≥ d.f_Gap)) (decide (b.f_y ≥ d.f_Gap)) false) = true, 0 < 1], (cond (decide (b.f_x ≥ d.f_Gap)) (decide (b.f_y ≥ d.f_Gap)) false) = true → AllP [(cond (decide (b.f_x ≥ d.f_Gap)) (decide (b.f_y ≥ d.f_Gap)) false) = true, (cond (decide (b.f_x ≥ d.f_Gap)) (decide (b.f_y ≥ d.f_Gap)) false) = true], (cond (decide (b.f_x ≥ d.f_Gap)) (decide (b.f_y ≥ d.f_Gap)) false) = true → AllP [(cond (decide (b.f_x ≥ d.f_Gap)) (decide (b.f_y ≥ d.f_Gap)) false) = true, 0 < 1], (cond (decide (b.f_x ≥ d.f_Gap)) (decide (b.f_y ≥ d.f_Gap)) false) = true → AllP [(cond (decide (b.f_x ≥ d.f_Gap)) (decide (b.f_y ≥ d.f_Gap)) false) = true, (cond (decide (b.f_x ≥ d.f_Gap)) (decide (b.f_y ≥ d.f_Gap)) false) = true], (cond (decide (b.f_x ≥ d.f_Gap)) (decide (b.f_y ≥ d.f_Gap)) false) = true → AllP [(cond (decide (b.f_x ≥ d.f_Gap)) (decide (b.f_y ≥ d.f_Gap)) false) = true, 0 < 1], (cond (decide (b.f_x ≥ d.f_Gap)) (decide (b.f_y ≥ d.f_Gap)) false) = true → AllP [(cond (decide (b.f_x ≥ d.f_Gap)) (decide (b.f_y ≥ d.f_Gap)) false) = true, (cond (decide (b.f_x ≥ d.f_Gap)) (decide (b.f_y ≥ d.f_Gap)) false) = true], (cond (decide (b.f_x ≥ d.f_Gap)) (decide (b.f_y ≥ d.f_Gap)) false) = true → AllP [(cond (decide (b.f_x ≥ d.f_Gap)) (decide (b.f_y ≥ d.f_Gap)) false) = true], (cond (cond (decide (b.f_x ≥ d.f_Gap)) (decide (b.f_y ≥ d.f_Gap)) false) (decide ((w64 ((w64 (b.f_x + b.f_w)) + d.f_Gap)) ≤ d.f_Length)) false) = true → AllP [(cond (cond (decide (b.f_x ≥ d.f_Gap)) (decide (b.f_y ≥ d.f_Gap)) false) (decide ((w64 ((w64 (b.f_x + b.f_w)) + d.f_Gap)) ≤ d.f_Length)) false) = true, 0 < 1], (cond (cond (decide (b.f_x ≥ d.f_Gap)) (decide (b.f_y ≥ d.f_Gap)) false) (decide ((w64 ((w64 (b.f_x + b.f_w)) + d.f_Gap)) ≤ d.f_Length)) false) = true → AllP [(cond (cond (decide (b.f_x ≥ d.f_Gap)) (decide (b.f_y ≥ d.f_Gap)) false) (decide ((w64 ((w64 (b.f_x + b.f_w)) + d.f_Gap)) ≤ d.f_Length)) false) = true, 0 < 1], (cond (cond (decide (b.f_x ≥ d.f_Gap)) (decide (b.f_y ≥ d.f_Gap)) false) (decide ((w64 ((w64 (b.f_x + b.f_w)) + d.f_Gap)) ≤ d.f_Length)) false) = true → AllP [(cond (cond (decide (b.f_x ≥ d.f_Gap)) (decide (b.f_y ≥ d.f_Gap)) false) (decide ((w64 ((w64 (b.f_x + b.f_w)) + d.f_Gap)) ≤ d.f_Length)) false) = true, (cond (cond (decide (b.f_x ≥ d.f_Gap)) (decide (b.f_y ≥ d.f_Gap)) false) (decide ((w64 ((w64 (b.f_x + b.f_w)) + d.f_Gap)) ≤ d.f_Length)) false) = true], (cond (cond (decide (b.f_x ≥ d.f_Gap)) (decide (b.f_y ≥ d.f_Gap)) false) (decide ((w64 ((w64 (b.f_x + b.f_w)) + d.f_Gap)) ≤ d.f_Length)) false) = true → AllP [(cond (cond (decide (b.f_x ≥ d.f_Gap)) (decide (b.f_y ≥ d.f_Gap)) false) (decide ((w64 ((w64 (b.f_x + b.f_w)) + d.f_Gap)) ≤ d.f_Length)) false) = true, 0 < 1], (cond (cond (decide (b.f_x ≥ d.f_Gap)) (decide (b.f_y ≥ d.f_Gap)) false) (decide ((w64 ((w64 (b.f_x + b.f_w)) + d.f_Gap)) ≤ d.f_Length)) false) = true → AllP [(cond (cond (decide (b.f_x ≥ d.f_Gap)) (decide (b.f_y ≥ d.f_Gap)) false) (decide ((w64 ((w64 (b.f_x + b.f_w)) + d.f_Gap)) ≤ d.f_Length)) false) = true, (cond (cond (decide (b.f_x ≥ d.f_Gap)) (decide (b.f_y ≥ d.f_Gap)) false) (decide ((w64 ((w64 (b.f_x + b.f_w)) + d.f_Gap)) ≤ d.f_Length)) false) = true], (cond (cond (decide (b.f_x ≥ d.f_Gap)) (decide (b.f_y ≥ d.f_Gap)) false) (decide ((w64 ((w64 (b.f_x + b.f_w)) + d.f_Gap)) ≤ d.f_Length)) false) = true → AllP [(cond (cond (decide (b.f_x ≥ d.f_Gap)) (decide (b.f_y ≥ d.f_Gap)) false) (decide ((w64 ((w64 (b.f_x + b.f_w)) + d.f_Gap)) ≤ d.f_Length)) false) = true, 0 < 1], (cond (cond (decide (b.f_x ≥ d.f_Gap)) (decide (b.f_y ≥ d.f_Gap)) false) (decide ((w64 ((w64 (b.f_x + b.f_w)) + d.f_Gap)) ≤ d.f_Length)) false) = true → AllP [(cond (cond (decide (b.f_x ≥ d.f_Gap)) (decide (b.f_y ≥ d.f_Gap)) false) (decide ((w64 ((w64 (b.f_x + b.f_w)) + d.f_Gap)) ≤ d.f_Length)) false) = true, (cond (cond (decide (b.f_x ≥ d.f_Gap)) (decide (b.f_y ≥ d.f_Gap)) false) (decide ((w64 ((w64 (b.f_x + b.f_w)) + d.f_Gap)) ≤ d.f_Length)) false) = true], (cond (cond (decide (b.f_x ≥ d.f_Gap)) (decide (b.f_y ≥ d.f_Gap)) false) (decide ((w64 ((w64 (b.f_x + b.f_w)) + d.f_Gap)) ≤ d.f_Length)) false) = true → AllP [(cond (cond (decide (b.f_x ≥ d.f_Gap)) (decide (b.f_y ≥ d.f_Gap)) false) (decide ((w64 ((w64 (b.f_x + b.f_w)) + d.f_Gap)) ≤ d.f_Length)) false) = true]] ⟨o1, o1, (fun hg => ⟨hg, o1, trivial⟩), (fun hg => ⟨hg, o1, trivial⟩), (fun hg => ⟨hg, hg, trivial⟩), (fun hq => ⟨hq, trivial⟩), (fun hg => ⟨hg, o1, trivial⟩), (fun hg => ⟨hg, o1, trivial⟩), (fun hg => ⟨hg, hg, trivial⟩), (fun hg => ⟨hg, o1, trivial⟩), (fun hg => ⟨hg, hg, trivial⟩), (fun hg => ⟨hg, o1, trivial⟩), (fun hg => ⟨hg, hg, trivial⟩), (fun hq => ⟨hq, trivial⟩), (fun hg => ⟨hg, o1, trivial⟩), (fun hg => ⟨hg, o1, trivial⟩), (fun hg => ⟨hg, hg, trivial⟩), (fun hg => ⟨hg, o1, trivial⟩), (fun hg => ⟨hg, hg, trivial⟩), (fun hg => ⟨hg, o1, trivial⟩), (fun hg => ⟨hg, hg, trivial⟩), (fun hq => ⟨hq, trivial⟩), trivial⟩ ?_
  obtain rfl := Option.some.inj h
  refine Runs.sW hE ⟨[(4, (aB (cond (cond (cond (decide (b.f_x ≥ d.f_Gap)) (decide (b.f_y ≥ d.f_Gap)) false) (decide ((w64 ((w64 (b.f_x + b.f_w)) + d.f_Gap)) ≤ d.f_Length)) false) (decide ((w64 ((w64 (b.f_y + b.f_h)) + d.f_Gap)) ≤ d.f_Width)) false)))], [], 672⟩ [] (kp [4]) [] 672 [] trivial ?_
  exact Runs.sT Try.f94 [] [] trivial

noncomputable def C_75 (n : Nat) : Code := cat (bodyOf Try.f95) (pth n)

theorem g_berth_apart_ok (N : Nat) (a : Tberth_box) (b : Tberth_box) (gap : Int) (r : Bool) (h : g_berth_apart N a b gap = some r) : Sound Try.prog 95 [(.agg (Tberth_box.cells a)), (.agg (Tberth_box.cells b)), (aI gap)] [] 0 (aB r) [] := by
  unfold g_berth_apart at h
  refine Sound.of_runs (fu := Try.f95) (c := C_75 1) (nt := 53) (by kernel_rfl) (by kernel_rfl) (by kernel_rfl) (by kernel_rfl) (fun hm => rfl) ?_
  intro E hE
  refine Runs.sA 1 [.code (C_75 2), .code (C_75 3)] ?_
  refine Runs.sR hE ⟨[(2, (aI gap)), (3, (.op 0 0 0)), (4, (.op 16 0 0))], [(0, vO 4 (Tberth_box.cells a)), (16, vO 4 (Tberth_box.cells b))], 48⟩ (C_75 2) [] [] (kp [2, 3, 4]) (kq [0, 16]) 48 [] trivial ?_
  refine Runs.sA 1 [.code (C_75 6), .code (C_75 7)] ?_
  refine Runs.sR hE ⟨[(6, (aB (cond (cond (cond (decide ((w64 ((w64 (a.f_x + a.f_w)) + gap)) ≤ b.f_x)) true (decide ((w64 ((w64 (b.f_x + b.f_w)) + gap)) ≤ a.f_x))) true (decide ((w64 ((w64 (a.f_y + a.f_h)) + gap)) ≤ b.f_y))) true (decide ((w64 ((w64 (b.f_y + b.f_h)) + gap)) ≤ a.f_y)))))], [], 800⟩ (C_75 6) [] [] (kp [6]) [] 800 [0 < 1, 0 < 1, 0 < 1, (!(decide ((w64 ((w64 (a.f_x + a.f_w)) + gap)) ≤ b.f_x))) = true → AllP [(!(decide ((w64 ((w64 (a.f_x + a.f_w)) + gap)) ≤ b.f_x))) = true, 0 < 1], (!(decide ((w64 ((w64 (a.f_x + a.f_w)) + gap)) ≤ b.f_x))) = true → AllP [(!(decide ((w64 ((w64 (a.f_x + a.f_w)) + gap)) ≤ b.f_x))) = true, 0 < 1], (!(decide ((w64 ((w64 (a.f_x + a.f_w)) + gap)) ≤ b.f_x))) = true → AllP [(!(decide ((w64 ((w64 (a.f_x + a.f_w)) + gap)) ≤ b.f_x))) = true, (!(decide ((w64 ((w64 (a.f_x + a.f_w)) + gap)) ≤ b.f_x))) = true], (!(decide ((w64 ((w64 (a.f_x + a.f_w)) + gap)) ≤ b.f_x))) = true → AllP [(!(decide ((w64 ((w64 (a.f_x + a.f_w)) + gap)) ≤ b.f_x))) = true, (!(decide ((w64 ((w64 (a.f_x + a.f_w)) + gap)) ≤ b.f_x))) = true], (!(decide ((w64 ((w64 (a.f_x + a.f_w)) + gap)) ≤ b.f_x))) = true → AllP [(!(decide ((w64 ((w64 (a.f_x + a.f_w)) + gap)) ≤ b.f_x))) = true, 0 < 1], (!(decide ((w64 ((w64 (a.f_x + a.f_w)) + gap)) ≤ b.f_x))) = true → AllP [(!(decide ((w64 ((w64 (a.f_x + a.f_w)) + gap)) ≤ b.f_x))) = true, (!(decide ((w64 ((w64 (a.f_x + a.f_w)) + gap)) ≤ b.f_x))) = true], (!(decide ((w64 ((w64 (a.f_x + a.f_w)) + gap)) ≤ b.f_x))) = true → AllP [(!(decide ((w64 ((w64 (a.f_x + a.f_w)) + gap)) ≤ b.f_x))) = true], (!(cond (decide ((w64 ((w64 (a.f_x + a.f_w)) + gap)) ≤ b.f_x)) true (decide ((w64 ((w64 (b.f_x + b.f_w)) + gap)) ≤ a.f_x)))) = true → AllP [(!(cond (decide ((w64 ((w64 (a.f_x + a.f_w)) + gap)) ≤ b.f_x)) true (decide ((w64 ((w64 (b.f_x + b.f_w)) + gap)) ≤ a.f_x)))) = true, 0 < 1], (!(cond (decide ((w64 ((w64 (a.f_x + a.f_w)) + gap)) ≤ b.f_x)) true (decide ((w64 ((w64 (b.f_x + b.f_w)) + gap)) ≤ a.f_x)))) = true → AllP [(!(cond (decide ((w64 ((w64 (a.f_x + a.f_w)) + gap)) ≤ b.f_x)) true (decide ((w64 ((w64 (b.f_x + b.f_w)) + gap)) ≤ a.f_x)))) = true, 0 < 1], (!(cond (decide ((w64 ((w64 (a.f_x + a.f_w)) + gap)) ≤ b.f_x)) true (decide ((w64 ((w64 (b.f_x + b.f_w)) + gap)) ≤ a.f_x)))) = true → AllP [(!(cond (decide ((w64 ((w64 (a.f_x + a.f_w)) + gap)) ≤ b.f_x)) true (decide ((w64 ((w64 (b.f_x + b.f_w)) + gap)) ≤ a.f_x)))) = true, (!(cond (decide ((w64 ((w64 (a.f_x + a.f_w)) + gap)) ≤ b.f_x)) true (decide ((w64 ((w64 (b.f_x + b.f_w)) + gap)) ≤ a.f_x)))) = true], (!(cond (decide ((w64 ((w64 (a.f_x + a.f_w)) + gap)) ≤ b.f_x)) true (decide ((w64 ((w64 (b.f_x + b.f_w)) + gap)) ≤ a.f_x)))) = true → AllP [(!(cond (decide ((w64 ((w64 (a.f_x + a.f_w)) + gap)) ≤ b.f_x)) true (decide ((w64 ((w64 (b.f_x + b.f_w)) + gap)) ≤ a.f_x)))) = true, (!(cond (decide ((w64 ((w64 (a.f_x + a.f_w)) + gap)) ≤ b.f_x)) true (decide ((w64 ((w64 (b.f_x + b.f_w)) + gap)) ≤ a.f_x)))) = true], (!(cond (decide ((w64 ((w64 (a.f_x + a.f_w)) + gap)) ≤ b.f_x)) true (decide ((w64 ((w64 (b.f_x + b.f_w)) + gap)) ≤ a.f_x)))) = true → AllP [(!(cond (decide ((w64 ((w64 (a.f_x + a.f_w)) + gap)) ≤ b.f_x)) true (decide ((w64 ((w64 (b.f_x + b.f_w)) + gap)) ≤ a.f_x)))) = true, 0 < 1], (!(cond (decide ((w64 ((w64 (a.f_x + a.f_w)) + gap)) ≤ b.f_x)) true (decide ((w64 ((w64 (b.f_x + b.f_w)) + gap)) ≤ a.f_x)))) = true → AllP [(!(cond (decide ((w64 ((w64 (a.f_x + a.f_w)) + gap)) ≤ b.f_x)) true (decide ((w64 ((w64 (b.f_x + b.f_w)) + gap)) ≤ a.f_x)))) = true, (!(cond (decide ((w64 ((w64 (a.f_x + a.f_w)) + gap)) ≤ b.f_x)) true (decide ((w64 ((w64 (b.f_x + b.f_w)) + gap)) ≤ a.f_x)))) = true], (!(cond (decide ((w64 ((w64 (a.f_x + a.f_w)) + gap)) ≤ b.f_x)) true (decide ((w64 ((w64 (b.f_x + b.f_w)) + gap)) ≤ a.f_x)))) = true → AllP [(!(cond (decide ((w64 ((w64 (a.f_x + a.f_w)) + gap)) ≤ b.f_x)) true (decide ((w64 ((w64 (b.f_x + b.f_w)) + gap)) ≤ a.f_x)))) = true], (!(cond (cond (decide ((w64 ((w64 (a.f_x + a.f_w)) + gap)) ≤ b.f_x)) true (decide ((w64 ((w64 (b.f_x + b.f_w)) + gap)) ≤ a.f_x))) true (decide ((w64 ((w64 (a.f_y + a.f_h)) + gap)) ≤ b.f_y)))) = true → AllP [(!(cond (cond (decide ((w64 ((w64 (a.f_x + a.f_w)) + gap)) ≤ b.f_x)) true (decide ((w64 ((w64 (b.f_x + b.f_w)) + gap)) ≤ a.f_x))) true (decide ((w64 ((w64 (a.f_y + a.f_h)) + gap)) ≤ b.f_y)))) = true, 0 < 1], (!(cond (cond (decide ((w64 ((w64 (a.f_x + a.f_w)) + gap)) ≤ b.f_x)) true (decide ((w64 ((w64 (b.f_x + b.f_w)) + gap)) ≤ a.f_x))) true (decide ((w64 ((w64 (a.f_y + a.f_h)) + gap)) ≤ b.f_y)))) = true → AllP [(!(cond (cond (decide ((w64 ((w64 (a.f_x + a.f_w)) + gap)) ≤ b.f_x)) true (decide ((w64 ((w64 (b.f_x + b.f_w)) + gap)) ≤ a.f_x))) true (decide ((w64 ((w64 (a.f_y + a.f_h)) + gap)) ≤ b.f_y)))) = true, 0 < 1], (!(cond (cond (decide ((w64 ((w64 (a.f_x + a.f_w)) + gap)) ≤ b.f_x)) true (decide ((w64 ((w64 (b.f_x + b.f_w)) + gap)) ≤ a.f_x))) true (decide ((w64 ((w64 (a.f_y + a.f_h)) + gap)) ≤ b.f_y)))) = true → AllP [(!(cond (cond (decide ((w64 ((w64 (a.f_x + a.f_w)) + gap)) ≤ b.f_x)) true (decide ((w64 ((w64 (b.f_x + b.f_w)) + gap)) ≤ a.f_x))) true (decide ((w64 ((w64 (a.f_y + a.f_h)) + gap)) ≤ b.f_y)))) = true, (!(cond (cond (decide ((w64 ((w64 (a.f_x + a.f_w)) + gap)) ≤ b.f_x)) true (decide ((w64 ((w64 (b.f_x + b.f_w)) + gap)) ≤ a.f_x))) true (decide ((w64 ((w64 (a.f_y + a.f_h)) + gap)) ≤ b.f_y)))) = true], (!(cond (cond (decide ((w64 ((w64 (a.f_x + a.f_w)) + gap)) ≤ b.f_x)) true (decide ((w64 ((w64 (b.f_x + b.f_w)) + gap)) ≤ a.f_x))) true (decide ((w64 ((w64 (a.f_y + a.f_h)) + gap)) ≤ b.f_y)))) = true → AllP [(!(cond (cond (decide ((w64 ((w64 (a.f_x + a.f_w)) + gap)) ≤ b.f_x)) true (decide ((w64 ((w64 (b.f_x + b.f_w)) + gap)) ≤ a.f_x))) true (decide ((w64 ((w64 (a.f_y + a.f_h)) + gap)) ≤ b.f_y)))) = true, (!(cond (cond (decide ((w64 ((w64 (a.f_x + a.f_w)) + gap)) ≤ b.f_x)) true (decide ((w64 ((w64 (b.f_x + b.f_w)) + gap)) ≤ a.f_x))) true (decide ((w64 ((w64 (a.f_y + a.f_h)) + gap)) ≤ b.f_y)))) = true], (!(cond (cond (decide ((w64 ((w64 (a.f_x + a.f_w)) + gap)) ≤ b.f_x)) true (decide ((w64 ((w64 (b.f_x + b.f_w)) + gap)) ≤ a.f_x))) true (decide ((w64 ((w64 (a.f_y + a.f_h)) + gap)) ≤ b.f_y)))) = true → AllP [(!(cond (cond (decide ((w64 ((w64 (a.f_x + a.f_w)) + gap)) ≤ b.f_x)) true (decide ((w64 ((w64 (b.f_x + b.f_w)) + gap)) ≤ a.f_x))) true (decide ((w64 ((w64 (a.f_y + a.f_h)) + gap)) ≤ b.f_y)))) = true, 0 < 1], (!(cond (cond (decide ((w64 ((w64 (a.f_x + a.f_w)) + gap)) ≤ b.f_x)) true (decide ((w64 ((w64 (b.f_x + b.f_w)) + gap)) ≤ a.f_x))) true (decide ((w64 ((w64 (a.f_y + a.f_h)) + gap)) ≤ b.f_y)))) = true → AllP [(!(cond (cond (decide ((w64 ((w64 (a.f_x + a.f_w)) + gap)) ≤ b.f_x)) true (decide ((w64 ((w64 (b.f_x + b.f_w)) + gap)) ≤ a.f_x))) true (decide ((w64 ((w64 (a.f_y + a.f_h)) + gap)) ≤ b.f_y)))) = true, (!(cond (cond (decide ((w64 ((w64 (a.f_x + a.f_w)) + gap)) ≤ b.f_x)) true (decide ((w64 ((w64 (b.f_x + b.f_w)) + gap)) ≤ a.f_x))) true (decide ((w64 ((w64 (a.f_y + a.f_h)) + gap)) ≤ b.f_y)))) = true], (!(cond (cond (decide ((w64 ((w64 (a.f_x + a.f_w)) + gap)) ≤ b.f_x)) true (decide ((w64 ((w64 (b.f_x + b.f_w)) + gap)) ≤ a.f_x))) true (decide ((w64 ((w64 (a.f_y + a.f_h)) + gap)) ≤ b.f_y)))) = true → AllP [(!(cond (cond (decide ((w64 ((w64 (a.f_x + a.f_w)) + gap)) ≤ b.f_x)) true (decide ((w64 ((w64 (b.f_x + b.f_w)) + gap)) ≤ a.f_x))) true (decide ((w64 ((w64 (a.f_y + a.f_h)) + gap)) ≤ b.f_y)))) = true]] ⟨o1, o1, o1, (fun hg => ⟨hg, o1, trivial⟩), (fun hg => ⟨hg, o1, trivial⟩), (fun hg => ⟨hg, hg, trivial⟩), (fun hg => ⟨hg, hg, trivial⟩), (fun hg => ⟨hg, o1, trivial⟩), (fun hg => ⟨hg, hg, trivial⟩), (fun hq => ⟨hq, trivial⟩), (fun hg => ⟨hg, o1, trivial⟩), (fun hg => ⟨hg, o1, trivial⟩), (fun hg => ⟨hg, hg, trivial⟩), (fun hg => ⟨hg, hg, trivial⟩), (fun hg => ⟨hg, o1, trivial⟩), (fun hg => ⟨hg, hg, trivial⟩), (fun hq => ⟨hq, trivial⟩), (fun hg => ⟨hg, o1, trivial⟩), (fun hg => ⟨hg, o1, trivial⟩), (fun hg => ⟨hg, hg, trivial⟩), (fun hg => ⟨hg, hg, trivial⟩), (fun hg => ⟨hg, o1, trivial⟩), (fun hg => ⟨hg, hg, trivial⟩), (fun hq => ⟨hq, trivial⟩), trivial⟩ ?_
  obtain rfl := Option.some.inj h
  refine Runs.sW hE ⟨[(6, (aB (cond (cond (cond (decide ((w64 ((w64 (a.f_x + a.f_w)) + gap)) ≤ b.f_x)) true (decide ((w64 ((w64 (b.f_x + b.f_w)) + gap)) ≤ a.f_x))) true (decide ((w64 ((w64 (a.f_y + a.f_h)) + gap)) ≤ b.f_y))) true (decide ((w64 ((w64 (b.f_y + b.f_h)) + gap)) ≤ a.f_y)))))], [], 800⟩ [] (kp [6]) [] 800 [] trivial ?_
  exact Runs.sT Try.f95 [] [] trivial

noncomputable def C_70 (n : Nat) : Code := cat (bodyOf Try.f78) (pth n)

theorem g_berth_boxes_L3_ok (N : Nat) (d : Tapi_Dock) (out : List Tberth_box) (x2 : Int) (K_g_berth_boxes_L2 : Int → Option ((List Tberth_box) × Int))
    (hK_g_berth_boxes_L2 : ∀ (x2 : Int) (r : (List Tberth_box) × Int), K_g_berth_boxes_L2 x2 = some r → ∀ E, EnvOk E 0 → Runs Try.prog E 78 115 (SPost E [] (.tup [(encL Tberth_box.cells Tberth_box.d r.1), (aI r.2)])) [.code (C_70 2036), .inLoop (C_70 2036), .inBlock 3, .code (C_70 255)] ⟨[(3, (.op 0 0 0)), (9, (.os 1 0 out.length)), (91, (.os 1 0 out.length)), (92, (aI ((out.length : Nat) : Int))), (93, (aI x2))], [(0, vO 6 (Tapi_Dock.cells d)), (1, aO 4 Tberth_box.cells Tberth_box.d out)], 2⟩) (fuel : Nat) : ∀ (x3 : Int) (r : (List Tberth_box) × Int), g_berth_boxes_L3 N d out x2 K_g_berth_boxes_L2 fuel x3 = some r → ∀ E, EnvOk E 0 → Runs Try.prog E 78 115 (SPost E [] (.tup [(encL Tberth_box.cells Tberth_box.d r.1), (aI r.2)])) [.code (C_70 521420), .inLoop (C_70 521420), .inBlock 5, .inBlock 4, .code (C_70 16295), .inLoop (C_70 2036), .inBlock 3, .code (C_70 255)] ⟨[(3, (.op 0 0 0)), (9, (.os 1 0 out.length)), (15, (.op 2 0 0)), (91, (.os 1 0 out.length)), (92, (aI ((out.length : Nat) : Int))), (93, (aI x2)), (100, (.os 1 0 ((x2).toNat - 0))), (101, (aI ((((x2).toNat - 0) : Nat) : Int))), (102, (aI x3))], [(0, vO 6 (Tapi_Dock.cells d)), (1, aO 4 Tberth_box.cells Tberth_box.d out), (2, vO 4 (Tberth_box.cells (out.getD ((x2).toNat) Tberth_box.d)))], 3⟩ := by
  induction fuel with
  | zero => intro _ r h; rw [g_berth_boxes_L3.eq_1] at h; cases h
  | succ fuel ih =>
    intro x3 r h E hE
    rw [g_berth_boxes_L3.eq_2] at h
    refine Runs.sA 1 [.code (C_70 1042840), .code (C_70 1042841), .inLoop (C_70 521420), .inBlock 5, .inBlock 4, .code (C_70 16295), .inLoop (C_70 2036), .inBlock 3, .code (C_70 255)] ?_
    refine Runs.sR hE ⟨[(3, (.op 0 0 0)), (9, (.os 1 0 out.length)), (15, (.op 2 0 0)), (91, (.os 1 0 out.length)), (92, (aI ((out.length : Nat) : Int))), (93, (aI x2)), (100, (.os 1 0 ((x2).toNat - 0))), (101, (aI ((((x2).toNat - 0) : Nat) : Int))), (102, (aI x3)), (103, (aB (decide (x3 < ((((x2).toNat - 0) : Nat) : Int)))))], [(0, vO 6 (Tapi_Dock.cells d)), (1, aO 4 Tberth_box.cells Tberth_box.d out), (2, vO 4 (Tberth_box.cells (out.getD ((x2).toNat) Tberth_box.d)))], 19⟩ (C_70 1042840) [] [] (kp [3, 9, 15, 91, 92, 93, 100, 101, 102, 103]) (kq [0, 1, 2]) 19 [] trivial ?_
    refine Runs.sA 1 [.code (C_70 2085682), .code (C_70 2085683), .inLoop (C_70 521420), .inBlock 5, .inBlock 4, .code (C_70 16295), .inLoop (C_70 2036), .inBlock 3, .code (C_70 255)] ?_
    refine Runs.sC 103 (C_70 4171364) (C_70 4171365) (decide (x3 < ((((x2).toNat - 0) : Nat) : Int))) (fun hq10 => ?_) (fun hq10 => ?_)
    · have h := condT h hq10
      refine Runs.sA 4 [.code (C_70 16685464), .code (C_70 16685465), .inBlock 6, .code (C_70 4171367), .inLoop (C_70 521420), .inBlock 5, .inBlock 4, .code (C_70 16295), .inLoop (C_70 2036), .inBlock 3, .code (C_70 255)] ?_
      obtain ⟨c12, h⟩ := ifSome h
      obtain ⟨c13, h⟩ := ifSome h
      refine Runs.sR hE ⟨[(3, (.op 0 0 0)), (9, (.os 1 0 out.length)), (15, (.op 2 0 0)), (17, (.op 51 0 0)), (91, (.os 1 0 out.length)), (92, (aI ((out.length : Nat) : Int))), (93, (aI x2)), (100, (.os 1 0 ((x2).toNat - 0))), (101, (aI ((((x2).toNat - 0) : Nat) : Int))), (102, (aI x3))], [(0, vO 6 (Tapi_Dock.cells d)), (1, aO 4 Tberth_box.cells Tberth_box.d out), (2, vO 4 (Tberth_box.cells (out.getD ((x2).toNat) Tberth_box.d))), (51, vO 4 (Tberth_box.cells (out.getD ((x3).toNat) Tberth_box.d)))], 83⟩ (C_70 16685464) [] [] (kp [3, 9, 15, 17, 91, 92, 93, 100, 101, 102]) (kq [0, 1, 2, 51]) 83 [0 ≤ x3 ∧ x3 < ((((x2).toNat - 0) : Nat) : Int), (x3).toNat < out.length, 0 < 1] ⟨c12, (by have h1 := c12; have h2 := c13; omega), o1, trivial⟩ ?_
      refine Runs.sA 1 [.code (C_70 33370930), .code (C_70 33370931), .inBlock 6, .code (C_70 4171367), .inLoop (C_70 521420), .inBlock 5, .inBlock 4, .code (C_70 16295), .inLoop (C_70 2036), .inBlock 3, .code (C_70 255)] ?_
      obtain ⟨rapart, hr6, h⟩ := bindSome h
      refine Runs.sR hE ⟨[(3, (.op 0 0 0)), (9, (.os 1 0 out.length)), (15, (.op 2 0 0)), (91, (.os 1 0 out.length)), (92, (aI ((out.length : Nat) : Int))), (93, (aI x2)), (100, (.os 1 0 ((x2).toNat - 0))), (101, (aI ((((x2).toNat - 0) : Nat) : Int))), (102, (aI x3)), (111, (aB (!rapart)))], [(0, vO 6 (Tapi_Dock.cells d)), (1, aO 4 Tberth_box.cells Tberth_box.d out), (2, vO 4 (Tberth_box.cells (out.getD ((x2).toNat) Tberth_box.d)))], 179⟩ (C_70 33370930) [(4, ⟨[], true, (aB rapart), [], 0, false, none⟩)] [] (kp [3, 9, 15, 91, 92, 93, 100, 101, 102, 111]) (kq [0, 1, 2]) 179 [0 < 1, 0 < 1, 0 < 1, Sound Try.prog 95 [(.agg (Tberth_box.cells (out.getD ((x2).toNat) Tberth_box.d))), (.agg (Tberth_box.cells (out.getD ((x3).toNat) Tberth_box.d))), (aI d.f_Gap)] [] 0 (aB rapart) []] ⟨o1, o1, o1, (g_berth_apart_ok N (out.getD ((x2).toNat) Tberth_box.d) (out.getD ((x3).toNat) Tberth_box.d) d.f_Gap rapart hr6), trivial⟩ ?_
      refine Runs.sC 111 (C_70 66741862) (C_70 66741863) (!rapart) (fun hq11 => ?_) (fun hq11 => ?_)
      · have h := condT h hq11
        refine Runs.sA 1 [.code (C_70 133483724), .code (C_70 133483725), .inBlock 6, .code (C_70 4171367), .inLoop (C_70 521420), .inBlock 5, .inBlock 4, .code (C_70 16295), .inLoop (C_70 2036), .inBlock 3, .code (C_70 255)] ?_
        refine Runs.sR hE ⟨[(6, .nil), (7, (aI 17))], [], 211⟩ (C_70 133483724) [] [] (kp [6, 7]) [] 211 [] trivial ?_
        obtain rfl := Option.some.inj h
        refine Runs.sW hE ⟨[(6, (encL Tberth_box.cells Tberth_box.d ([] : List Tberth_box))), (7, (aI 17))], [], 211⟩ [] ([(6, .sl (([] : List Tberth_box).length) (fun zi => Tberth_box.cells (([] : List Tberth_box).getD zi Tberth_box.d)))] ++ kp [7]) [] 211 [([] : List Tberth_box).length = 0] ⟨rfl, trivial⟩ ?_
        exact Runs.sT Try.f78 [] [] trivial
      · have h := condF h hq11
        refine Runs.sA 2 [.code (C_70 4171367), .inLoop (C_70 521420), .inBlock 5, .inBlock 4, .code (C_70 16295), .inLoop (C_70 2036), .inBlock 3, .code (C_70 255)] ?_
        refine Runs.sR hE ⟨[(3, (.op 0 0 0)), (9, (.os 1 0 out.length)), (15, (.op 2 0 0)), (91, (.os 1 0 out.length)), (92, (aI ((out.length : Nat) : Int))), (93, (aI x2)), (100, (.os 1 0 ((x2).toNat - 0))), (101, (aI ((((x2).toNat - 0) : Nat) : Int))), (102, (aI (w64 (x3 + 1))))], [(0, vO 6 (Tapi_Dock.cells d)), (1, aO 4 Tberth_box.cells Tberth_box.d out), (2, vO 4 (Tberth_box.cells (out.getD ((x2).toNat) Tberth_box.d)))], 211⟩ (C_70 4171367) [] [] (kp [3, 9, 15, 91, 92, 93, 100, 101, 102]) (kq [0, 1, 2]) 211 [] trivial ?_
        refine Runs.sA 1 [.code (C_70 521420), .inLoop (C_70 521420), .inBlock 5, .inBlock 4, .code (C_70 16295), .inLoop (C_70 2036), .inBlock 3, .code (C_70 255)] ?_
        exact Runs.sW hE _ [] (kp [3, 9, 15, 91, 92, 93, 100, 101, 102]) (kq [0, 1, 2]) 3 [] trivial (ih (w64 (x3 + 1)) _ h E hE)
    · have h := condF h hq10
      refine Runs.sA 2 [.code (C_70 16295), .inLoop (C_70 2036), .inBlock 3, .code (C_70 255)] ?_
      refine Runs.sR hE ⟨[(3, (.op 0 0 0)), (9, (.os 1 0 out.length)), (91, (.os 1 0 out.length)), (92, (aI ((out.length : Nat) : Int))), (93, (aI (w64 (x2 + 1))))], [(0, vO 6 (Tapi_Dock.cells d)), (1, aO 4 Tberth_box.cells Tberth_box.d out)], 51⟩ (C_70 16295) [] [] (kp [3, 9, 91, 92, 93]) (kq [0, 1]) 51 [] trivial ?_
      refine Runs.sA 1 [.code (C_70 2036), .inLoop (C_70 2036), .inBlock 3, .code (C_70 255)] ?_
      exact Runs.sW hE _ [] (kp [3, 9, 91, 92, 93]) (kq [0, 1]) 2 [] trivial (hK_g_berth_boxes_L2 (w64 (x2 + 1)) _ h E hE)

theorem g_berth_boxes_L2_ok (N : Nat) (d : Tapi_Dock) (out : List Tberth_box) (fuel : Nat) : ∀ (x2 : Int) (r : (List Tberth_box) × Int), g_berth_boxes_L2 N d out fuel x2 = some r → ∀ E, EnvOk E 0 → Runs Try.prog E 78 115 (SPost E [] (.tup [(encL Tberth_box.cells Tberth_box.d r.1), (aI r.2)])) [.code (C_70 2036), .inLoop (C_70 2036), .inBlock 3, .code (C_70 255)] ⟨[(3, (.op 0 0 0)), (9, (.os 1 0 out.length)), (91, (.os 1 0 out.length)), (92, (aI ((out.length : Nat) : Int))), (93, (aI x2))], [(0, vO 6 (Tapi_Dock.cells d)), (1, aO 4 Tberth_box.cells Tberth_box.d out)], 2⟩ := by
  induction fuel with
  | zero => intro _ r h; rw [g_berth_boxes_L2.eq_1] at h; cases h
  | succ fuel ih =>
    intro x2 r h E hE
    rw [g_berth_boxes_L2.eq_2] at h
    refine Runs.sA 1 [.code (C_70 4072), .code (C_70 4073), .inLoop (C_70 2036), .inBlock 3, .code (C_70 255)] ?_
    refine Runs.sR hE ⟨[(3, (.op 0 0 0)), (9, (.os 1 0 out.length)), (91, (.os 1 0 out.length)), (92, (aI ((out.length : Nat) : Int))), (93, (aI x2)), (94, (aB (decide (x2 < ((out.length : Nat) : Int)))))], [(0, vO 6 (Tapi_Dock.cells d)), (1, aO 4 Tberth_box.cells Tberth_box.d out)], 18⟩ (C_70 4072) [] [] (kp [3, 9, 91, 92, 93, 94]) (kq [0, 1]) 18 [] trivial ?_
    refine Runs.sA 1 [.code (C_70 8146), .code (C_70 8147), .inLoop (C_70 2036), .inBlock 3, .code (C_70 255)] ?_
    refine Runs.sC 94 (C_70 16292) (C_70 16293) (decide (x2 < ((out.length : Nat) : Int))) (fun hq9 => ?_) (fun hq9 => ?_)
    · have h := condT h hq9
      refine Runs.sA 4 [.code (C_70 65176), .code (C_70 65177), .inBlock 4, .code (C_70 16295), .inLoop (C_70 2036), .inBlock 3, .code (C_70 255)] ?_
      obtain ⟨c9, h⟩ := ifSome h
      refine Runs.sR hE ⟨[(3, (.op 0 0 0)), (9, (.os 1 0 out.length)), (14, (aI x2)), (15, (.op 66 0 0)), (91, (.os 1 0 out.length)), (92, (aI ((out.length : Nat) : Int))), (93, (aI x2))], [(0, vO 6 (Tapi_Dock.cells d)), (1, aO 4 Tberth_box.cells Tberth_box.d out), (66, vO 4 (Tberth_box.cells (out.getD ((x2).toNat) Tberth_box.d)))], 114⟩ (C_70 65176) [] [] (kp [3, 9, 14, 15, 91, 92, 93]) (kq [0, 1, 66]) 114 [0 ≤ x2 ∧ x2 < ((out.length : Nat) : Int), (x2).toNat < out.length, 0 < 1] ⟨c9, (ltOf c9), o1, trivial⟩ ?_
      refine Runs.sA 1 [.code (C_70 130354), .code (C_70 130355), .inBlock 4, .code (C_70 16295), .inLoop (C_70 2036), .inBlock 3, .code (C_70 255)] ?_
      obtain ⟨c10, h⟩ := ifSome h
      obtain ⟨c11, h⟩ := ifSome h
      refine Runs.sR hE ⟨[(3, (.op 0 0 0)), (9, (.os 1 0 out.length)), (15, (.op 66 0 0)), (91, (.os 1 0 out.length)), (92, (aI ((out.length : Nat) : Int))), (93, (aI x2)), (100, (.os 1 0 ((x2).toNat - 0))), (101, (aI ((((x2).toNat - 0) : Nat) : Int))), (102, (aI 0))], [(0, vO 6 (Tapi_Dock.cells d)), (1, aO 4 Tberth_box.cells Tberth_box.d out), (66, vO 4 (Tberth_box.cells (out.getD ((x2).toNat) Tberth_box.d)))], 194⟩ (C_70 130354) [] [] (kp [3, 9, 15, 91, 92, 93, 100, 101, 102]) (kq [0, 1, 66]) 194 [0 ≤ (x2).toNat ∧ (x2).toNat ≤ out.length, 0 ≤ x2] ⟨c10, c11, trivial⟩ ?_
      refine Runs.sA 2 [.code (C_70 521420), .inLoop (C_70 521420), .inBlock 5, .inBlock 4, .code (C_70 16295), .inLoop (C_70 2036), .inBlock 3, .code (C_70 255)] ?_
      exact Runs.sW hE _ [] (kp [3, 9, 15, 91, 92, 93, 100, 101, 102]) (kq [0, 1] ++ [(2, .keep 66)]) 3 [] trivial (g_berth_boxes_L3_ok N d out x2 (g_berth_boxes_L2 N d out fuel) ih N 0 _ h E hE)
    · have h := condF h hq9
      refine Runs.sA 2 [.code (C_70 510), .code (C_70 511)] ?_
      refine Runs.sR hE ⟨[(6, (.os 1 0 out.length)), (7, (aI 0))], [(1, aO 4 Tberth_box.cells Tberth_box.d out)], 66⟩ (C_70 510) [] [] (kp [6, 7]) (kq [1]) 66 [] trivial ?_
      obtain rfl := Option.some.inj h
      refine Runs.sW hE ⟨[(6, (encL Tberth_box.cells Tberth_box.d out)), (7, (aI 0))], [], 66⟩ [1] ([(6, .sl (out.length) (fun zi => Tberth_box.cells (out.getD zi Tberth_box.d)))] ++ kp [7]) [] 66 [out.length = out.length, 0 + out.length ≤ out.length, ∀ zi, zi < out.length → (fun zi => Tberth_box.cells (out.getD zi Tberth_box.d)) zi = (fun zi => Tberth_box.cells (out.getD zi Tberth_box.d)) (addz 0 zi)] ⟨rfl, z0, (fun _ _ => rfl), trivial⟩ ?_
      exact Runs.sT Try.f78 [] [] trivial

theorem g_berth_boxes_L1_ok (N : Nat) (d : Tapi_Dock) (c : List Tapi_Call) (s : List Tapi_Spot) (fuel : Nat) : ∀ (out : List Tberth_box) (seen : List Bool) (x : Int) (r : (List Tberth_box) × Int), g_berth_boxes_L1 N d c s fuel out seen x = some r → ∀ E, EnvOk E 0 → Runs Try.prog E 78 115 (SPost E [] (.tup [(encL Tberth_box.cells Tberth_box.d r.1), (aI r.2)])) [.code (C_70 1012), .inLoop (C_70 1012), .inBlock 0, .code (C_70 127)] ⟨[(1, (encL Tapi_Call.cells Tapi_Call.d c)), (3, (.op 0 0 0)), (9, (.os 1 0 out.length)), (10, (.os 2 0 seen.length)), (35, (encL Tapi_Spot.cells Tapi_Spot.d s)), (36, (aI ((s.length : Nat) : Int))), (37, (aI x))], [(0, vO 6 (Tapi_Dock.cells d)), (1, aO 4 Tberth_box.cells Tberth_box.d out), (2, aO 1 cB false seen)], 3⟩ := by
  induction fuel with
  | zero => intro _ _ _ r h; rw [g_berth_boxes_L1.eq_1] at h; cases h
  | succ fuel ih =>
    intro out seen x r h E hE
    rw [g_berth_boxes_L1.eq_2] at h
    refine Runs.sA 1 [.code (C_70 2024), .code (C_70 2025), .inLoop (C_70 1012), .inBlock 0, .code (C_70 127)] ?_
    refine Runs.sR hE ⟨[(1, (encL Tapi_Call.cells Tapi_Call.d c)), (3, (.op 0 0 0)), (9, (.os 1 0 out.length)), (10, (.os 2 0 seen.length)), (35, (encL Tapi_Spot.cells Tapi_Spot.d s)), (36, (aI ((s.length : Nat) : Int))), (37, (aI x)), (38, (aB (decide (x < ((s.length : Nat) : Int)))))], [(0, vO 6 (Tapi_Dock.cells d)), (1, aO 4 Tberth_box.cells Tberth_box.d out), (2, aO 1 cB false seen)], 19⟩ (C_70 2024) [] [] (kp [1, 3, 9, 10, 35, 36, 37, 38]) (kq [0, 1, 2]) 19 [] trivial ?_
    refine Runs.sA 1 [.code (C_70 4050), .code (C_70 4051), .inLoop (C_70 1012), .inBlock 0, .code (C_70 127)] ?_
    refine Runs.sC 38 (C_70 8100) (C_70 8101) (decide (x < ((s.length : Nat) : Int))) (fun hq4 => ?_) (fun hq4 => ?_)
    · have h := condT h hq4
      refine Runs.sA 4 [.code (C_70 32408), .code (C_70 32409), .inBlock 1, .code (C_70 8103), .inLoop (C_70 1012), .inBlock 0, .code (C_70 127)] ?_
      obtain ⟨c4, h⟩ := ifSome h
      refine Runs.sR hE ⟨[(1, (encL Tapi_Call.cells Tapi_Call.d c)), (3, (.op 0 0 0)), (9, (.os 1 0 out.length)), (10, (.os 2 0 seen.length)), (12, (.op 51 0 0)), (35, (encL Tapi_Spot.cells Tapi_Spot.d s)), (36, (aI ((s.length : Nat) : Int))), (37, (aI x))], [(0, vO 6 (Tapi_Dock.cells d)), (1, aO 4 Tberth_box.cells Tberth_box.d out), (2, aO 1 cB false seen), (51, vO 3 (Tapi_Spot.cells (s.getD ((x).toNat) Tapi_Spot.d)))], 83⟩ (C_70 32408) [] [] (kp [1, 3, 9, 10, 12, 35, 36, 37]) (kq [0, 1, 2, 51]) 83 [0 ≤ x ∧ x < ((s.length : Nat) : Int), 0 < 1] ⟨c4, o1, trivial⟩ ?_
      refine Runs.sA 1 [.code (C_70 64818), .code (C_70 64819), .inBlock 1, .code (C_70 8103), .inLoop (C_70 1012), .inBlock 0, .code (C_70 127)] ?_
      obtain ⟨rcalled, hr2, h⟩ := bindSome h
      refine Runs.sR hE ⟨[(1, (encL Tapi_Call.cells Tapi_Call.d c)), (3, (.op 0 0 0)), (9, (.os 1 0 out.length)), (10, (.os 2 0 seen.length)), (12, (.op 51 0 0)), (13, (aI rcalled)), (35, (encL Tapi_Spot.cells Tapi_Spot.d s)), (36, (aI ((s.length : Nat) : Int))), (37, (aI x))], [(0, vO 6 (Tapi_Dock.cells d)), (1, aO 4 Tberth_box.cells Tberth_box.d out), (2, aO 1 cB false seen), (51, vO 3 (Tapi_Spot.cells (s.getD ((x).toNat) Tapi_Spot.d)))], 163⟩ (C_70 64818) [(3, ⟨[], true, (aI rcalled), [], 0, false, none⟩)] [] (kp [1, 3, 9, 10, 12, 13, 35, 36, 37]) (kq [0, 1, 2, 51]) 163 [0 < 1, Sound Try.prog 93 [(encL Tapi_Call.cells Tapi_Call.d c), (aS ((s.getD ((x).toNat) Tapi_Spot.d).f_Call))] [] 0 (aI rcalled) []] ⟨o1, (g_berth_called_ok N c ((s.getD ((x).toNat) Tapi_Spot.d).f_Call) rcalled hr2), trivial⟩ ?_
      refine Runs.sA 3 [.code (C_70 518552), .code (C_70 518553), .inBlock 2, .code (C_70 129639), .inBlock 1, .code (C_70 8103), .inLoop (C_70 1012), .inBlock 0, .code (C_70 127)] ?_
      refine Runs.sR hE ⟨[(1, (encL Tapi_Call.cells Tapi_Call.d c)), (3, (.op 0 0 0)), (9, (.os 1 0 out.length)), (10, (.os 2 0 seen.length)), (12, (.op 51 0 0)), (13, (aI rcalled)), (35, (encL Tapi_Spot.cells Tapi_Spot.d s)), (36, (aI ((s.length : Nat) : Int))), (37, (aI x)), (45, (aB (decide (rcalled < 0))))], [(0, vO 6 (Tapi_Dock.cells d)), (1, aO 4 Tberth_box.cells Tberth_box.d out), (2, aO 1 cB false seen), (51, vO 3 (Tapi_Spot.cells (s.getD ((x).toNat) Tapi_Spot.d)))], 211⟩ (C_70 518552) [] [] (kp [1, 3, 9, 10, 12, 13, 35, 36, 37, 45]) (kq [0, 1, 2, 51]) 211 [] trivial ?_
      refine Runs.sC 45 (C_70 1037106) (C_70 1037107) (decide (rcalled < 0)) (fun hq5 => ?_) (fun hq5 => ?_)
      · have h := condT h hq5
        refine Runs.sA 1 [.code (C_70 2074212), .code (C_70 2074213), .inBlock 2, .code (C_70 129639), .inBlock 1, .code (C_70 8103), .inLoop (C_70 1012), .inBlock 0, .code (C_70 127)] ?_
        refine Runs.sR hE ⟨[(6, .nil), (7, (aI 6))], [], 243⟩ (C_70 2074212) [] [] (kp [6, 7]) [] 243 [] trivial ?_
        obtain rfl := Option.some.inj h
        refine Runs.sW hE ⟨[(6, (encL Tberth_box.cells Tberth_box.d ([] : List Tberth_box))), (7, (aI 6))], [], 243⟩ [] ([(6, .sl (([] : List Tberth_box).length) (fun zi => Tberth_box.cells (([] : List Tberth_box).getD zi Tberth_box.d)))] ++ kp [7]) [] 243 [([] : List Tberth_box).length = 0] ⟨rfl, trivial⟩ ?_
        exact Runs.sT Try.f78 [] [] trivial
      · have h := condF h hq5
        refine Runs.sA 1 [.code (C_70 2074214), .code (C_70 2074215), .inBlock 2, .code (C_70 129639), .inBlock 1, .code (C_70 8103), .inLoop (C_70 1012), .inBlock 0, .code (C_70 127)] ?_
        obtain ⟨c5, h⟩ := ifSome h
        refine Runs.sR hE ⟨[(1, (encL Tapi_Call.cells Tapi_Call.d c)), (3, (.op 0 0 0)), (9, (.os 1 0 out.length)), (10, (.os 2 0 seen.length)), (12, (.op 51 0 0)), (13, (aI rcalled)), (35, (encL Tapi_Spot.cells Tapi_Spot.d s)), (36, (aI ((s.length : Nat) : Int))), (37, (aI x)), (48, (aB (seen.getD ((rcalled).toNat) false)))], [(0, vO 6 (Tapi_Dock.cells d)), (1, aO 4 Tberth_box.cells Tberth_box.d out), (2, aO 1 cB false seen), (51, vO 3 (Tapi_Spot.cells (s.getD ((x).toNat) Tapi_Spot.d)))], 291⟩ (C_70 2074214) [] [] (kp [1, 3, 9, 10, 12, 13, 35, 36, 37, 48]) (kq [0, 1, 2, 51]) 291 [0 ≤ rcalled ∧ rcalled < ((seen.length : Nat) : Int), (rcalled).toNat < seen.length] ⟨c5, (ltOf c5), trivial⟩ ?_
        refine Runs.sC 48 (C_70 4148430) (C_70 4148431) (seen.getD ((rcalled).toNat) false) (fun hq6 => ?_) (fun hq6 => ?_)
        · have h := condT h hq6
          refine Runs.sA 1 [.code (C_70 8296860), .code (C_70 8296861), .inBlock 2, .code (C_70 129639), .inBlock 1, .code (C_70 8103), .inLoop (C_70 1012), .inBlock 0, .code (C_70 127)] ?_
          refine Runs.sR hE ⟨[(6, .nil), (7, (aI 5))], [], 323⟩ (C_70 8296860) [] [] (kp [6, 7]) [] 323 [] trivial ?_
          obtain rfl := Option.some.inj h
          refine Runs.sW hE ⟨[(6, (encL Tberth_box.cells Tberth_box.d ([] : List Tberth_box))), (7, (aI 5))], [], 323⟩ [] ([(6, .sl (([] : List Tberth_box).length) (fun zi => Tberth_box.cells (([] : List Tberth_box).getD zi Tberth_box.d)))] ++ kp [7]) [] 323 [([] : List Tberth_box).length = 0] ⟨rfl, trivial⟩ ?_
          exact Runs.sT Try.f78 [] [] trivial
        · have h := condF h hq6
          refine Runs.sA 1 [.code (C_70 8296862), .code (C_70 8296863), .inBlock 2, .code (C_70 129639), .inBlock 1, .code (C_70 8103), .inLoop (C_70 1012), .inBlock 0, .code (C_70 127)] ?_
          obtain ⟨routside, hr3, h⟩ := bindSome h
          obtain ⟨routside2, hr4, h⟩ := bindSome h
          refine Runs.sR hE ⟨[(1, (encL Tapi_Call.cells Tapi_Call.d c)), (3, (.op 0 0 0)), (9, (.os 1 0 out.length)), (10, (.os 2 0 seen.length)), (12, (.op 51 0 0)), (13, (aI rcalled)), (35, (encL Tapi_Spot.cells Tapi_Spot.d s)), (36, (aI ((s.length : Nat) : Int))), (37, (aI x)), (53, (aB (cond routside true routside2)))], [(0, vO 6 (Tapi_Dock.cells d)), (1, aO 4 Tberth_box.cells Tberth_box.d out), (2, aO 1 cB false seen), (51, vO 3 (Tapi_Spot.cells (s.getD ((x).toNat) Tapi_Spot.d)))], 435⟩ (C_70 8296862) [(2, ⟨[], true, (aB routside), [], 0, false, none⟩), (6, ⟨[], true, (aB routside2), [], 0, false, none⟩)] [] (kp [1, 3, 9, 10, 12, 13, 35, 36, 37, 53]) (kq [0, 1, 2, 51]) 435 [0 < 1, Sound Try.prog 54 [(aI ((s.getD ((x).toNat) Tapi_Spot.d).f_X)), (aI 0), (aI 1000000)] [] 0 (aB routside) [], (!routside) = true → AllP [(!routside) = true, 0 < 1], (!routside) = true → AllP [Sound Try.prog 54 [(aI ((s.getD ((x).toNat) Tapi_Spot.d).f_Y)), (aI 0), (aI 1000000)] [] 0 (aB routside2) [], (!routside) = true], (!routside) = true → AllP [(!routside) = true]] ⟨o1, (g_berth_outside_ok N ((s.getD ((x).toNat) Tapi_Spot.d).f_X) 0 1000000 routside hr3), (fun hg => ⟨hg, o1, trivial⟩), (fun hg => ⟨(g_berth_outside_ok N ((s.getD ((x).toNat) Tapi_Spot.d).f_Y) 0 1000000 routside2 (condT hr4 hg)), hg, trivial⟩), (fun hq => ⟨hq, trivial⟩), trivial⟩ ?_
          refine Runs.sC 53 (C_70 16593726) (C_70 16593727) (cond routside true routside2) (fun hq7 => ?_) (fun hq7 => ?_)
          · have h := condT h hq7
            refine Runs.sA 1 [.code (C_70 33187452), .code (C_70 33187453), .inBlock 2, .code (C_70 129639), .inBlock 1, .code (C_70 8103), .inLoop (C_70 1012), .inBlock 0, .code (C_70 127)] ?_
            refine Runs.sR hE ⟨[(6, .nil), (7, (aI 2))], [], 467⟩ (C_70 33187452) [] [] (kp [6, 7]) [] 467 [] trivial ?_
            obtain rfl := Option.some.inj h
            refine Runs.sW hE ⟨[(6, (encL Tberth_box.cells Tberth_box.d ([] : List Tberth_box))), (7, (aI 2))], [], 467⟩ [] ([(6, .sl (([] : List Tberth_box).length) (fun zi => Tberth_box.cells (([] : List Tberth_box).getD zi Tberth_box.d)))] ++ kp [7]) [] 467 [([] : List Tberth_box).length = 0] ⟨rfl, trivial⟩ ?_
            exact Runs.sT Try.f78 [] [] trivial
          · have h := condF h hq7
            refine Runs.sA 3 [.code (C_70 259278), .code (C_70 259279), .inBlock 1, .code (C_70 8103), .inLoop (C_70 1012), .inBlock 0, .code (C_70 127)] ?_
            refine Runs.sR hE ⟨[(1, (encL Tapi_Call.cells Tapi_Call.d c)), (3, (.op 0 0 0)), (9, (.os 1 0 out.length)), (10, (.os 2 0 ((seen.set ((rcalled).toNat) true).length))), (12, (.op 51 0 0)), (13, (aI rcalled)), (35, (encL Tapi_Spot.cells Tapi_Spot.d s)), (36, (aI ((s.length : Nat) : Int))), (37, (aI x))], [(0, vO 6 (Tapi_Dock.cells d)), (1, aO 4 Tberth_box.cells Tberth_box.d out), (2, aO 1 cB false (seen.set ((rcalled).toNat) true)), (51, vO 3 (Tapi_Spot.cells (s.getD ((x).toNat) Tapi_Spot.d)))], 499⟩ (C_70 259278) [] [] (kp [1, 3, 9] ++ [(10, .osl ((seen.set ((rcalled).toNat) true).length))] ++ kp [12, 13, 35, 36, 37]) (kq [0, 1] ++ [(2, .arr 2 ((seen.set ((rcalled).toNat) true).length) (fun zi => cB ((seen.set ((rcalled).toNat) true).getD zi false)))] ++ kq [51]) 499 [0 ≤ rcalled ∧ rcalled < ((seen.length : Nat) : Int), (rcalled).toNat < seen.length, seen.length = (seen.set ((rcalled).toNat) true).length, seen.length = (seen.set ((rcalled).toNat) true).length, ∀ zi, zi < (seen.set ((rcalled).toNat) true).length → (fun zi => cB ((seen.set ((rcalled).toNat) true).getD zi false)) zi = ((fun zm => if zm = (rcalled).toNat then [(aB true)] else (fun zi => cB (seen.getD zi false)) zm)) zi] ⟨c5, (ltOf c5), (len_set_raw rfl), (len_set_raw rfl), (get_set_raw cB false seen ((rcalled).toNat) true (fun _ _ => rfl)), trivial⟩ ?_
            refine Runs.sA 1 [.code (C_70 518558), .code (C_70 518559), .inBlock 1, .code (C_70 8103), .inLoop (C_70 1012), .inBlock 0, .code (C_70 127)] ?_
            obtain ⟨c6, h⟩ := ifSome h
            obtain ⟨c7, h⟩ := ifSome h
            refine Runs.sR hE ⟨[(1, (encL Tapi_Call.cells Tapi_Call.d c)), (3, (.op 0 0 0)), (9, (.os 1 0 ((out.set ((rcalled).toNat) (⟨(s.getD ((x).toNat) Tapi_Spot.d).f_X, (s.getD ((x).toNat) Tapi_Spot.d).f_Y, (c.getD ((rcalled).toNat) Tapi_Call.d).f_Length, (c.getD ((rcalled).toNat) Tapi_Call.d).f_Beam⟩ : Tberth_box)).length))), (10, (.os 2 0 ((seen.set ((rcalled).toNat) true).length))), (13, (aI rcalled)), (35, (encL Tapi_Spot.cells Tapi_Spot.d s)), (36, (aI ((s.length : Nat) : Int))), (37, (aI x))], [(0, vO 6 (Tapi_Dock.cells d)), (1, aO 4 Tberth_box.cells Tberth_box.d (out.set ((rcalled).toNat) (⟨(s.getD ((x).toNat) Tapi_Spot.d).f_X, (s.getD ((x).toNat) Tapi_Spot.d).f_Y, (c.getD ((rcalled).toNat) Tapi_Call.d).f_Length, (c.getD ((rcalled).toNat) Tapi_Call.d).f_Beam⟩ : Tberth_box))), (2, aO 1 cB false (seen.set ((rcalled).toNat) true))], 803⟩ (C_70 518558) [] [] (kp [1, 3] ++ [(9, .osl ((out.set ((rcalled).toNat) (⟨(s.getD ((x).toNat) Tapi_Spot.d).f_X, (s.getD ((x).toNat) Tapi_Spot.d).f_Y, (c.getD ((rcalled).toNat) Tapi_Call.d).f_Length, (c.getD ((rcalled).toNat) Tapi_Call.d).f_Beam⟩ : Tberth_box)).length))] ++ kp [10, 13, 35, 36, 37]) (kq [0] ++ [(1, .arr 1 ((out.set ((rcalled).toNat) (⟨(s.getD ((x).toNat) Tapi_Spot.d).f_X, (s.getD ((x).toNat) Tapi_Spot.d).f_Y, (c.getD ((rcalled).toNat) Tapi_Call.d).f_Length, (c.getD ((rcalled).toNat) Tapi_Call.d).f_Beam⟩ : Tberth_box)).length) (fun zi => Tberth_box.cells ((out.set ((rcalled).toNat) (⟨(s.getD ((x).toNat) Tapi_Spot.d).f_X, (s.getD ((x).toNat) Tapi_Spot.d).f_Y, (c.getD ((rcalled).toNat) Tapi_Call.d).f_Length, (c.getD ((rcalled).toNat) Tapi_Call.d).f_Beam⟩ : Tberth_box)).getD zi Tberth_box.d)))] ++ kq [2]) 803 [0 < 1, 0 < 1, 0 ≤ rcalled ∧ rcalled < ((c.length : Nat) : Int), 0 ≤ rcalled ∧ rcalled < ((c.length : Nat) : Int), 0 ≤ rcalled ∧ rcalled < ((out.length : Nat) : Int), (rcalled).toNat < out.length, out.length = (out.set ((rcalled).toNat) (⟨(s.getD ((x).toNat) Tapi_Spot.d).f_X, (s.getD ((x).toNat) Tapi_Spot.d).f_Y, (c.getD ((rcalled).toNat) Tapi_Call.d).f_Length, (c.getD ((rcalled).toNat) Tapi_Call.d).f_Beam⟩ : Tberth_box)).length, out.length = (out.set ((rcalled).toNat) (⟨(s.getD ((x).toNat) Tapi_Spot.d).f_X, (s.getD ((x).toNat) Tapi_Spot.d).f_Y, (c.getD ((rcalled).toNat) Tapi_Call.d).f_Length, (c.getD ((rcalled).toNat) Tapi_Call.d).f_Beam⟩ : Tberth_box)).length, ∀ zi, zi < (out.set ((rcalled).toNat) (⟨(s.getD ((x).toNat) Tapi_Spot.d).f_X, (s.getD ((x).toNat) Tapi_Spot.d).f_Y, (c.getD ((rcalled).toNat) Tapi_Call.d).f_Length, (c.getD ((rcalled).toNat) Tapi_Call.d).f_Beam⟩ : Tberth_box)).length → (fun zi => Tberth_box.cells ((out.set ((rcalled).toNat) (⟨(s.getD ((x).toNat) Tapi_Spot.d).f_X, (s.getD ((x).toNat) Tapi_Spot.d).f_Y, (c.getD ((rcalled).toNat) Tapi_Call.d).f_Length, (c.getD ((rcalled).toNat) Tapi_Call.d).f_Beam⟩ : Tberth_box)).getD zi Tberth_box.d)) zi = ((fun zm => if zm = (rcalled).toNat then [(aI ((s.getD ((x).toNat) Tapi_Spot.d).f_X)), (aI ((s.getD ((x).toNat) Tapi_Spot.d).f_Y)), (aI ((c.getD ((rcalled).toNat) Tapi_Call.d).f_Length)), (aI ((c.getD ((rcalled).toNat) Tapi_Call.d).f_Beam))] else (fun zi => Tberth_box.cells (out.getD zi Tberth_box.d)) zm)) zi] ⟨o1, o1, c6, c6, c7, (ltOf c7), (len_set_raw rfl), (len_set_raw rfl), (get_set_raw Tberth_box.cells Tberth_box.d out ((rcalled).toNat) (⟨(s.getD ((x).toNat) Tapi_Spot.d).f_X, (s.getD ((x).toNat) Tapi_Spot.d).f_Y, (c.getD ((rcalled).toNat) Tapi_Call.d).f_Length, (c.getD ((rcalled).toNat) Tapi_Call.d).f_Beam⟩ : Tberth_box) (fun _ _ => rfl)), trivial⟩ ?_
            refine Runs.sA 1 [.code (C_70 1037118), .code (C_70 1037119), .inBlock 1, .code (C_70 8103), .inLoop (C_70 1012), .inBlock 0, .code (C_70 127)] ?_
            obtain ⟨c8, h⟩ := ifSome h
            obtain ⟨rinside, hr5, h⟩ := bindSome h
            refine Runs.sR hE ⟨[(1, (encL Tapi_Call.cells Tapi_Call.d c)), (3, (.op 0 0 0)), (9, (.os 1 0 ((out.set ((rcalled).toNat) (⟨(s.getD ((x).toNat) Tapi_Spot.d).f_X, (s.getD ((x).toNat) Tapi_Spot.d).f_Y, (c.getD ((rcalled).toNat) Tapi_Call.d).f_Length, (c.getD ((rcalled).toNat) Tapi_Call.d).f_Beam⟩ : Tberth_box)).length))), (10, (.os 2 0 ((seen.set ((rcalled).toNat) true).length))), (35, (encL Tapi_Spot.cells Tapi_Spot.d s)), (36, (aI ((s.length : Nat) : Int))), (37, (aI x)), (89, (aB (!rinside)))], [(0, vO 6 (Tapi_Dock.cells d)), (1, aO 4 Tberth_box.cells Tberth_box.d (out.set ((rcalled).toNat) (⟨(s.getD ((x).toNat) Tapi_Spot.d).f_X, (s.getD ((x).toNat) Tapi_Spot.d).f_Y, (c.getD ((rcalled).toNat) Tapi_Call.d).f_Length, (c.getD ((rcalled).toNat) Tapi_Call.d).f_Beam⟩ : Tberth_box))), (2, aO 1 cB false (seen.set ((rcalled).toNat) true))], 915⟩ (C_70 1037118) [(5, ⟨[], true, (aB rinside), [], 0, false, none⟩)] [] (kp [1, 3, 9, 10, 35, 36, 37, 89]) (kq [0, 1, 2]) 915 [0 < 1, 0 ≤ rcalled ∧ rcalled < (((out.set ((rcalled).toNat) (⟨(s.getD ((x).toNat) Tapi_Spot.d).f_X, (s.getD ((x).toNat) Tapi_Spot.d).f_Y, (c.getD ((rcalled).toNat) Tapi_Call.d).f_Length, (c.getD ((rcalled).toNat) Tapi_Call.d).f_Beam⟩ : Tberth_box)).length : Nat) : Int), (rcalled).toNat < (out.set ((rcalled).toNat) (⟨(s.getD ((x).toNat) Tapi_Spot.d).f_X, (s.getD ((x).toNat) Tapi_Spot.d).f_Y, (c.getD ((rcalled).toNat) Tapi_Call.d).f_Length, (c.getD ((rcalled).toNat) Tapi_Call.d).f_Beam⟩ : Tberth_box)).length, Sound Try.prog 94 [(.agg (Tapi_Dock.cells d)), (.agg (Tberth_box.cells ((out.set ((rcalled).toNat) (⟨(s.getD ((x).toNat) Tapi_Spot.d).f_X, (s.getD ((x).toNat) Tapi_Spot.d).f_Y, (c.getD ((rcalled).toNat) Tapi_Call.d).f_Length, (c.getD ((rcalled).toNat) Tapi_Call.d).f_Beam⟩ : Tberth_box)).getD ((rcalled).toNat) Tberth_box.d)))] [] 0 (aB rinside) []] ⟨o1, c8, (ltOf c8), (g_berth_inside_ok N d ((out.set ((rcalled).toNat) (⟨(s.getD ((x).toNat) Tapi_Spot.d).f_X, (s.getD ((x).toNat) Tapi_Spot.d).f_Y, (c.getD ((rcalled).toNat) Tapi_Call.d).f_Length, (c.getD ((rcalled).toNat) Tapi_Call.d).f_Beam⟩ : Tberth_box)).getD ((rcalled).toNat) Tberth_box.d) rinside hr5), trivial⟩ ?_
            refine Runs.sC 89 (C_70 2074238) (C_70 2074239) (!rinside) (fun hq8 => ?_) (fun hq8 => ?_)
            · have h := condT h hq8
              refine Runs.sA 1 [.code (C_70 4148476), .code (C_70 4148477), .inBlock 1, .code (C_70 8103), .inLoop (C_70 1012), .inBlock 0, .code (C_70 127)] ?_
              refine Runs.sR hE ⟨[(6, .nil), (7, (aI 16))], [], 947⟩ (C_70 4148476) [] [] (kp [6, 7]) [] 947 [] trivial ?_
              obtain rfl := Option.some.inj h
              refine Runs.sW hE ⟨[(6, (encL Tberth_box.cells Tberth_box.d ([] : List Tberth_box))), (7, (aI 16))], [], 947⟩ [] ([(6, .sl (([] : List Tberth_box).length) (fun zi => Tberth_box.cells (([] : List Tberth_box).getD zi Tberth_box.d)))] ++ kp [7]) [] 947 [([] : List Tberth_box).length = 0] ⟨rfl, trivial⟩ ?_
              exact Runs.sT Try.f78 [] [] trivial
            · have h := condF h hq8
              refine Runs.sA 2 [.code (C_70 8103), .inLoop (C_70 1012), .inBlock 0, .code (C_70 127)] ?_
              refine Runs.sR hE ⟨[(1, (encL Tapi_Call.cells Tapi_Call.d c)), (3, (.op 0 0 0)), (9, (.os 1 0 ((out.set ((rcalled).toNat) (⟨(s.getD ((x).toNat) Tapi_Spot.d).f_X, (s.getD ((x).toNat) Tapi_Spot.d).f_Y, (c.getD ((rcalled).toNat) Tapi_Call.d).f_Length, (c.getD ((rcalled).toNat) Tapi_Call.d).f_Beam⟩ : Tberth_box)).length))), (10, (.os 2 0 ((seen.set ((rcalled).toNat) true).length))), (35, (encL Tapi_Spot.cells Tapi_Spot.d s)), (36, (aI ((s.length : Nat) : Int))), (37, (aI (w64 (x + 1))))], [(0, vO 6 (Tapi_Dock.cells d)), (1, aO 4 Tberth_box.cells Tberth_box.d (out.set ((rcalled).toNat) (⟨(s.getD ((x).toNat) Tapi_Spot.d).f_X, (s.getD ((x).toNat) Tapi_Spot.d).f_Y, (c.getD ((rcalled).toNat) Tapi_Call.d).f_Length, (c.getD ((rcalled).toNat) Tapi_Call.d).f_Beam⟩ : Tberth_box))), (2, aO 1 cB false (seen.set ((rcalled).toNat) true))], 947⟩ (C_70 8103) [] [] (kp [1, 3, 9, 10, 35, 36, 37]) (kq [0, 1, 2]) 947 [] trivial ?_
              refine Runs.sA 1 [.code (C_70 1012), .inLoop (C_70 1012), .inBlock 0, .code (C_70 127)] ?_
              exact Runs.sW hE _ [] (kp [1, 3, 9, 10, 35, 36, 37]) (kq [0, 1, 2]) 3 [] trivial (ih (out.set ((rcalled).toNat) (⟨(s.getD ((x).toNat) Tapi_Spot.d).f_X, (s.getD ((x).toNat) Tapi_Spot.d).f_Y, (c.getD ((rcalled).toNat) Tapi_Call.d).f_Length, (c.getD ((rcalled).toNat) Tapi_Call.d).f_Beam⟩ : Tberth_box)) (seen.set ((rcalled).toNat) true) (w64 (x + 1)) _ h E hE)
    · have h := condF h hq4
      refine Runs.sA 3 [.code (C_70 508), .code (C_70 509), .code (C_70 255)] ?_
      refine Runs.sR hE ⟨[(3, (.op 0 0 0)), (9, (.os 1 0 out.length)), (91, (.os 1 0 out.length)), (92, (aI ((out.length : Nat) : Int))), (93, (aI 0))], [(0, vO 6 (Tapi_Dock.cells d)), (1, aO 4 Tberth_box.cells Tberth_box.d out)], 67⟩ (C_70 508) [] [] (kp [3, 9, 91, 92, 93]) (kq [0, 1]) 67 [] trivial ?_
      refine Runs.sA 2 [.code (C_70 2036), .inLoop (C_70 2036), .inBlock 3, .code (C_70 255)] ?_
      exact Runs.sW hE _ [] (kp [3, 9, 91, 92, 93]) (kq [0, 1]) 2 [] trivial (g_berth_boxes_L2_ok N d out N 0 _ h E hE)

theorem g_berth_boxes_ok (N : Nat) (d : Tapi_Dock) (c : List Tapi_Call) (s : List Tapi_Spot) (r : (List Tberth_box) × Int) (h : g_berth_boxes N d c s = some r) : Sound Try.prog 78 [(.agg (Tapi_Dock.cells d)), (encL Tapi_Call.cells Tapi_Call.d c), (encL Tapi_Spot.cells Tapi_Spot.d s)] [] 0 (.tup [(encL Tberth_box.cells Tberth_box.d r.1), (aI r.2)]) [] := by
  unfold g_berth_boxes at h
  refine Sound.of_runs (fu := Try.f78) (c := C_70 1) (nt := 115) (by kernel_rfl) (by kernel_rfl) (by kernel_rfl) (by kernel_rfl) (fun hm => rfl) ?_
  intro E hE
  refine Runs.sA 1 [.code (C_70 2), .code (C_70 3)] ?_
  refine Runs.sR hE ⟨[(1, (encL Tapi_Call.cells Tapi_Call.d c)), (2, (encL Tapi_Spot.cells Tapi_Spot.d s)), (3, (.op 0 0 0))], [(0, vO 6 (Tapi_Dock.cells d))], 48⟩ (C_70 2) [] [] (kp [1, 2, 3]) (kq [0]) 48 [] trivial ?_
  refine Runs.sA 2 [.code (C_70 12), .code (C_70 13), .code (C_70 7)] ?_
  obtain ⟨rboth, hr, h⟩ := bindSome h
  refine Runs.sR hE ⟨[(1, (encL Tapi_Call.cells Tapi_Call.d c)), (2, (encL Tapi_Spot.cells Tapi_Spot.d s)), (3, (.op 0 0 0)), (8, (aI rboth))], [(0, vO 6 (Tapi_Dock.cells d))], 112⟩ (C_70 12) [(2, ⟨[], true, (aI rboth), [], 0, false, none⟩)] [] (kp [1, 2, 3, 8]) (kq [0]) 112 [0 < 1, Sound Try.prog 60 [(.agg (Tapi_Dock.cells d)), (encL Tapi_Call.cells Tapi_Call.d c)] [] 0 (aI rboth) []] ⟨o1, (g_berth_both_ok N d c rboth hr), trivial⟩ ?_
  refine Runs.sA 1 [.code (C_70 26), .code (C_70 27), .code (C_70 7)] ?_
  refine Runs.sR hE ⟨[(1, (encL Tapi_Call.cells Tapi_Call.d c)), (2, (encL Tapi_Spot.cells Tapi_Spot.d s)), (3, (.op 0 0 0)), (8, (aI rboth)), (22, (aB (rboth != 0)))], [(0, vO 6 (Tapi_Dock.cells d))], 144⟩ (C_70 26) [] [] (kp [1, 2, 3, 8, 22]) (kq [0]) 144 [] trivial ?_
  refine Runs.sC 22 (C_70 54) (C_70 55) (rboth != 0) (fun hq2 => ?_) (fun hq2 => ?_)
  · have h := condT h hq2
    refine Runs.sA 1 [.code (C_70 108), .code (C_70 109), .code (C_70 7)] ?_
    refine Runs.sR hE ⟨[(6, .nil), (7, (aI rboth))], [], 192⟩ (C_70 108) [] [] (kp [6, 7]) [] 192 [] trivial ?_
    obtain rfl := Option.some.inj h
    refine Runs.sW hE ⟨[(6, (encL Tberth_box.cells Tberth_box.d ([] : List Tberth_box))), (7, (aI rboth))], [], 192⟩ [] ([(6, .sl (([] : List Tberth_box).length) (fun zi => Tberth_box.cells (([] : List Tberth_box).getD zi Tberth_box.d)))] ++ kp [7]) [] 192 [([] : List Tberth_box).length = 0] ⟨rfl, trivial⟩ ?_
    exact Runs.sT Try.f78 [] [] trivial
  · have h := condF h hq2
    refine Runs.sA 3 [.code (C_70 28), .code (C_70 29), .code (C_70 15)] ?_
    refine Runs.sR hE ⟨[(1, (encL Tapi_Call.cells Tapi_Call.d c)), (2, (encL Tapi_Spot.cells Tapi_Spot.d s)), (3, (.op 0 0 0)), (28, (aB (((s.length : Nat) : Int) != ((c.length : Nat) : Int))))], [(0, vO 6 (Tapi_Dock.cells d))], 224⟩ (C_70 28) [] [] (kp [1, 2, 3, 28]) (kq [0]) 224 [] trivial ?_
    refine Runs.sC 28 (C_70 58) (C_70 59) (((s.length : Nat) : Int) != ((c.length : Nat) : Int)) (fun hq3 => ?_) (fun hq3 => ?_)
    · have h := condT h hq3
      refine Runs.sA 1 [.code (C_70 116), .code (C_70 117), .code (C_70 15)] ?_
      refine Runs.sR hE ⟨[(6, .nil), (7, (aI 11))], [], 256⟩ (C_70 116) [] [] (kp [6, 7]) [] 256 [] trivial ?_
      obtain rfl := Option.some.inj h
      refine Runs.sW hE ⟨[(6, (encL Tberth_box.cells Tberth_box.d ([] : List Tberth_box))), (7, (aI 11))], [], 256⟩ [] ([(6, .sl (([] : List Tberth_box).length) (fun zi => Tberth_box.cells (([] : List Tberth_box).getD zi Tberth_box.d)))] ++ kp [7]) [] 256 [([] : List Tberth_box).length = 0] ⟨rfl, trivial⟩ ?_
      exact Runs.sT Try.f78 [] [] trivial
    · have h := condF h hq3
      refine Runs.sA 2 [.code (C_70 30), .code (C_70 31)] ?_
      obtain ⟨c2, h⟩ := ifSome h
      refine Runs.sR hE ⟨[(1, (encL Tapi_Call.cells Tapi_Call.d c)), (2, (encL Tapi_Spot.cells Tapi_Spot.d s)), (3, (.op 0 0 0)), (9, (.os 256 0 ((List.replicate c.length Tberth_box.d : List Tberth_box).length)))], [(0, vO 6 (Tapi_Dock.cells d)), (256, aO 4 Tberth_box.cells Tberth_box.d (List.replicate c.length Tberth_box.d : List Tberth_box))], 288⟩ (C_70 30) [] [] (kp [1, 2, 3] ++ [(9, .osl ((List.replicate c.length Tberth_box.d : List Tberth_box).length))]) (kq [0] ++ [(256, .arr 256 ((List.replicate c.length Tberth_box.d : List Tberth_box).length) (fun zi => Tberth_box.cells ((List.replicate c.length Tberth_box.d : List Tberth_box).getD zi Tberth_box.d)))]) 288 [0 ≤ ((c.length : Nat) : Int), ((c.length : Nat) : Int) ≤ ((c.length : Nat) : Int), (32 : Int) * ((c.length : Nat) : Int) ≤ 281474976710656, ((c.length : Nat) : Int) ≤ 9223372036854775807, c.length = (List.replicate c.length Tberth_box.d : List Tberth_box).length, c.length = (List.replicate c.length Tberth_box.d : List Tberth_box).length, ∀ zi, zi < (List.replicate c.length Tberth_box.d : List Tberth_box).length → (fun zi => Tberth_box.cells ((List.replicate c.length Tberth_box.d : List Tberth_box).getD zi Tberth_box.d)) zi = (fun _ => [(aI 0), (aI 0), (aI 0), (aI 0)]) zi] ⟨c2.1, (Int.le_refl _), c2.2.1, c2.2.2, (List.length_replicate).symm, (List.length_replicate).symm, (fun zq hzq => get_rep Tberth_box.cells Tberth_box.d Tberth_box.d c.length zq hzq), trivial⟩ ?_
      refine Runs.sA 1 [.code (C_70 62), .code (C_70 63)] ?_
      obtain ⟨c3, h⟩ := ifSome h
      refine Runs.sR hE ⟨[(1, (encL Tapi_Call.cells Tapi_Call.d c)), (2, (encL Tapi_Spot.cells Tapi_Spot.d s)), (3, (.op 0 0 0)), (9, (.os 256 0 ((List.replicate c.length Tberth_box.d : List Tberth_box).length))), (10, (.os 320 0 ((List.replicate c.length false : List Bool).length)))], [(0, vO 6 (Tapi_Dock.cells d)), (256, aO 4 Tberth_box.cells Tberth_box.d (List.replicate c.length Tberth_box.d : List Tberth_box)), (320, aO 1 cB false (List.replicate c.length false : List Bool))], 352⟩ (C_70 62) [] [] (kp [1, 2, 3, 9] ++ [(10, .osl ((List.replicate c.length false : List Bool).length))]) (kq [0, 256] ++ [(320, .arr 320 ((List.replicate c.length false : List Bool).length) (fun zi => cB ((List.replicate c.length false : List Bool).getD zi false)))]) 352 [0 ≤ ((c.length : Nat) : Int), ((c.length : Nat) : Int) ≤ ((c.length : Nat) : Int), (1 : Int) * ((c.length : Nat) : Int) ≤ 281474976710656, ((c.length : Nat) : Int) ≤ 9223372036854775807, c.length = (List.replicate c.length false : List Bool).length, c.length = (List.replicate c.length false : List Bool).length, ∀ zi, zi < (List.replicate c.length false : List Bool).length → (fun zi => cB ((List.replicate c.length false : List Bool).getD zi false)) zi = (fun _ => [(aB false)]) zi] ⟨c3.1, (Int.le_refl _), c3.2.1, c3.2.2, (List.length_replicate).symm, (List.length_replicate).symm, (fun zq hzq => get_rep cB false false c.length zq hzq), trivial⟩ ?_
      refine Runs.sA 2 [.code (C_70 252), .code (C_70 253), .code (C_70 127)] ?_
      refine Runs.sR hE ⟨[(1, (encL Tapi_Call.cells Tapi_Call.d c)), (3, (.op 0 0 0)), (9, (.os 256 0 ((List.replicate c.length Tberth_box.d : List Tberth_box).length))), (10, (.os 320 0 ((List.replicate c.length false : List Bool).length))), (35, (encL Tapi_Spot.cells Tapi_Spot.d s)), (36, (aI ((s.length : Nat) : Int))), (37, (aI 0))], [(0, vO 6 (Tapi_Dock.cells d)), (256, aO 4 Tberth_box.cells Tberth_box.d (List.replicate c.length Tberth_box.d : List Tberth_box)), (320, aO 1 cB false (List.replicate c.length false : List Bool))], 400⟩ (C_70 252) [] [] (kp [1, 3, 9, 10, 35, 36, 37]) (kq [0, 256, 320]) 400 [] trivial ?_
      refine Runs.sA 2 [.code (C_70 1012), .inLoop (C_70 1012), .inBlock 0, .code (C_70 127)] ?_
      exact Runs.sW hE _ [] (kp [1, 3, 9, 10, 35, 36, 37]) (kq [0] ++ [(1, .keep 256), (2, .keep 320)]) 3 [] trivial (g_berth_boxes_L1_ok N d c s N (List.replicate c.length Tberth_box.d : List Tberth_box) (List.replicate c.length false : List Bool) 0 _ h E hE)

noncomputable def C_76 (n : Nat) : Code := cat (bodyOf Try.f79) (pth n)

theorem g_berth_blocked_ok (N : Nat) (d : Tapi_Dock) (a : Tberth_box) (b : Tberth_box) (r : Bool) (h : g_berth_blocked N d a b = some r) : Sound Try.prog 79 [(.agg (Tapi_Dock.cells d)), (.agg (Tberth_box.cells a)), (.agg (Tberth_box.cells b))] [] 0 (aB r) [] := by
  unfold g_berth_blocked at h
  refine Sound.of_runs (fu := Try.f79) (c := C_76 1) (nt := 38) (by kernel_rfl) (by kernel_rfl) (by kernel_rfl) (by kernel_rfl) (fun hm => rfl) ?_
  intro E hE
  refine Runs.sA 1 [.code (C_76 2), .code (C_76 3)] ?_
  refine Runs.sR hE ⟨[(3, (.op 0 0 0)), (4, (.op 16 0 0)), (5, (.op 32 0 0))], [(0, vO 6 (Tapi_Dock.cells d)), (16, vO 4 (Tberth_box.cells a)), (32, vO 4 (Tberth_box.cells b))], 64⟩ (C_76 2) [] [] (kp [3, 4, 5]) (kq [0, 16, 32]) 64 [] trivial ?_
  refine Runs.sA 1 [.code (C_76 6), .code (C_76 7)] ?_
  refine Runs.sR hE ⟨[(6, (aB (cond (cond (decide (a.f_x < b.f_x)) (decide (a.f_y < (w64 ((w64 (b.f_y + b.f_h)) + d.f_Gap)))) false) (decide ((w64 (a.f_y + a.f_h)) > (w64 (b.f_y - d.f_Gap)))) false)))], [], 576⟩ (C_76 6) [] [] (kp [6]) [] 576 [0 < 1, 0 < 1, (decide (a.f_x < b.f_x)) = true → AllP [(decide (a.f_x < b.f_x)) = true, 0 < 1], (decide (a.f_x < b.f_x)) = true → AllP [(decide (a.f_x < b.f_x)) = true, 0 < 1], (decide (a.f_x < b.f_x)) = true → AllP [(decide (a.f_x < b.f_x)) = true, 0 < 1], (decide (a.f_x < b.f_x)) = true → AllP [(decide (a.f_x < b.f_x)) = true, (decide (a.f_x < b.f_x)) = true], (decide (a.f_x < b.f_x)) = true → AllP [(decide (a.f_x < b.f_x)) = true, 0 < 1], (decide (a.f_x < b.f_x)) = true → AllP [(decide (a.f_x < b.f_x)) = true, (decide (a.f_x < b.f_x)) = true], (decide (a.f_x < b.f_x)) = true → AllP [(decide (a.f_x < b.f_x)) = true, (decide (a.f_x < b.f_x)) = true], (decide (a.f_x < b.f_x)) = true → AllP [(decide (a.f_x < b.f_x)) = true], (cond (decide (a.f_x < b.f_x)) (decide (a.f_y < (w64 ((w64 (b.f_y + b.f_h)) + d.f_Gap)))) false) = true → AllP [(cond (decide (a.f_x < b.f_x)) (decide (a.f_y < (w64 ((w64 (b.f_y + b.f_h)) + d.f_Gap)))) false) = true, 0 < 1], (cond (decide (a.f_x < b.f_x)) (decide (a.f_y < (w64 ((w64 (b.f_y + b.f_h)) + d.f_Gap)))) false) = true → AllP [(cond (decide (a.f_x < b.f_x)) (decide (a.f_y < (w64 ((w64 (b.f_y + b.f_h)) + d.f_Gap)))) false) = true, 0 < 1], (cond (decide (a.f_x < b.f_x)) (decide (a.f_y < (w64 ((w64 (b.f_y + b.f_h)) + d.f_Gap)))) false) = true → AllP [(cond (decide (a.f_x < b.f_x)) (decide (a.f_y < (w64 ((w64 (b.f_y + b.f_h)) + d.f_Gap)))) false) = true, (cond (decide (a.f_x < b.f_x)) (decide (a.f_y < (w64 ((w64 (b.f_y + b.f_h)) + d.f_Gap)))) false) = true], (cond (decide (a.f_x < b.f_x)) (decide (a.f_y < (w64 ((w64 (b.f_y + b.f_h)) + d.f_Gap)))) false) = true → AllP [(cond (decide (a.f_x < b.f_x)) (decide (a.f_y < (w64 ((w64 (b.f_y + b.f_h)) + d.f_Gap)))) false) = true, 0 < 1], (cond (decide (a.f_x < b.f_x)) (decide (a.f_y < (w64 ((w64 (b.f_y + b.f_h)) + d.f_Gap)))) false) = true → AllP [(cond (decide (a.f_x < b.f_x)) (decide (a.f_y < (w64 ((w64 (b.f_y + b.f_h)) + d.f_Gap)))) false) = true, 0 < 1], (cond (decide (a.f_x < b.f_x)) (decide (a.f_y < (w64 ((w64 (b.f_y + b.f_h)) + d.f_Gap)))) false) = true → AllP [(cond (decide (a.f_x < b.f_x)) (decide (a.f_y < (w64 ((w64 (b.f_y + b.f_h)) + d.f_Gap)))) false) = true, (cond (decide (a.f_x < b.f_x)) (decide (a.f_y < (w64 ((w64 (b.f_y + b.f_h)) + d.f_Gap)))) false) = true], (cond (decide (a.f_x < b.f_x)) (decide (a.f_y < (w64 ((w64 (b.f_y + b.f_h)) + d.f_Gap)))) false) = true → AllP [(cond (decide (a.f_x < b.f_x)) (decide (a.f_y < (w64 ((w64 (b.f_y + b.f_h)) + d.f_Gap)))) false) = true, (cond (decide (a.f_x < b.f_x)) (decide (a.f_y < (w64 ((w64 (b.f_y + b.f_h)) + d.f_Gap)))) false) = true], (cond (decide (a.f_x < b.f_x)) (decide (a.f_y < (w64 ((w64 (b.f_y + b.f_h)) + d.f_Gap)))) false) = true → AllP [(cond (decide (a.f_x < b.f_x)) (decide (a.f_y < (w64 ((w64 (b.f_y + b.f_h)) + d.f_Gap)))) false) = true]] ⟨o1, o1, (fun hg => ⟨hg, o1, trivial⟩), (fun hg => ⟨hg, o1, trivial⟩), (fun hg => ⟨hg, o1, trivial⟩), (fun hg => ⟨hg, hg, trivial⟩), (fun hg => ⟨hg, o1, trivial⟩), (fun hg => ⟨hg, hg, trivial⟩), (fun hg => ⟨hg, hg, trivial⟩), (fun hq => ⟨hq, trivial⟩), (fun hg => ⟨hg, o1, trivial⟩), (fun hg => ⟨hg, o1, trivial⟩), (fun hg => ⟨hg, hg, trivial⟩), (fun hg => ⟨hg, o1, trivial⟩), (fun hg => ⟨hg, o1, trivial⟩), (fun hg => ⟨hg, hg, trivial⟩), (fun hg => ⟨hg, hg, trivial⟩), (fun hq => ⟨hq, trivial⟩), trivial⟩ ?_
  obtain rfl := Option.some.inj h
  refine Runs.sW hE ⟨[(6, (aB (cond (cond (decide (a.f_x < b.f_x)) (decide (a.f_y < (w64 ((w64 (b.f_y + b.f_h)) + d.f_Gap)))) false) (decide ((w64 (a.f_y + a.f_h)) > (w64 (b.f_y - d.f_Gap)))) false)))], [], 576⟩ [] (kp [6]) [] 576 [] trivial ?_
  exact Runs.sT Try.f79 [] [] trivial

noncomputable def C_69 (n : Nat) : Code := cat (bodyOf Try.f38) (pth n)

theorem g_berth_Blocks_J3_ok (N : Nat) (d : Tapi_Dock) (c : List Tapi_Call) (rboxes : (List Tberth_box) × Int) (x : Int) (x2 : Int) (K_g_berth_Blocks_L2 : (List TS__2_string) → Int → Option ((List TS__2_string) × Int)) (K_g_berth_Blocks_L1 : (List TS__2_string) → Int → Option ((List TS__2_string) × Int))
    (hK_g_berth_Blocks_L2 : ∀ (out2 : List TS__2_string) (x2 : Int) (r : (List TS__2_string) × Int), K_g_berth_Blocks_L2 out2 x2 = some r → ∀ E, EnvOk E 0 → Runs Try.prog E 38 60 (SPost E [] (.tup [(encL TS__2_string.cells TS__2_string.d r.1), (aI r.2)])) [.code (C_69 128204), .inLoop (C_69 128204), .inBlock 2, .inBlock 1, .code (C_69 4007), .inLoop (C_69 500), .inBlock 0, .code (C_69 63)] ⟨[(1, (encL Tapi_Call.cells Tapi_Call.d c)), (3, (.op 0 0 0)), (8, (encL Tberth_box.cells Tberth_box.d rboxes.1)), (10, (.os 1 0 out2.length)), (11, (aI x)), (12, (.op 2 0 0)), (25, (encL Tberth_box.cells Tberth_box.d rboxes.1)), (26, (aI ((rboxes.1.length : Nat) : Int))), (27, (aI x)), (32, (encL Tberth_box.cells Tberth_box.d rboxes.1)), (33, (aI ((rboxes.1.length : Nat) : Int))), (34, (aI x2))], [(0, vO 6 (Tapi_Dock.cells d)), (1, aO 2 TS__2_string.cells TS__2_string.d out2), (2, vO 4 (Tberth_box.cells (rboxes.1.getD ((x).toNat) Tberth_box.d)))], 3⟩)
    (hK_g_berth_Blocks_L1 : ∀ (out : List TS__2_string) (x : Int) (r : (List TS__2_string) × Int), K_g_berth_Blocks_L1 out x = some r → ∀ E, EnvOk E 0 → Runs Try.prog E 38 60 (SPost E [] (.tup [(encL TS__2_string.cells TS__2_string.d r.1), (aI r.2)])) [.code (C_69 500), .inLoop (C_69 500), .inBlock 0, .code (C_69 63)] ⟨[(1, (encL Tapi_Call.cells Tapi_Call.d c)), (3, (.op 0 0 0)), (8, (encL Tberth_box.cells Tberth_box.d rboxes.1)), (10, (.os 1 0 out.length)), (25, (encL Tberth_box.cells Tberth_box.d rboxes.1)), (26, (aI ((rboxes.1.length : Nat) : Int))), (27, (aI x))], [(0, vO 6 (Tapi_Dock.cells d)), (1, aO 2 TS__2_string.cells TS__2_string.d out)], 2⟩) (out3 : List TS__2_string) (r : (List TS__2_string) × Int) (h : g_berth_Blocks_J3 N d c rboxes x x2 K_g_berth_Blocks_L2 K_g_berth_Blocks_L1 out3 = some r) : ∀ E, EnvOk E 0 → Runs Try.prog E 38 60 (SPost E [] (.tup [(encL TS__2_string.cells TS__2_string.d r.1), (aI r.2)])) [.code (C_69 1025639), .inLoop (C_69 128204), .inBlock 2, .inBlock 1, .code (C_69 4007), .inLoop (C_69 500), .inBlock 0, .code (C_69 63)] ⟨[(1, (encL Tapi_Call.cells Tapi_Call.d c)), (3, (.op 0 0 0)), (8, (encL Tberth_box.cells Tberth_box.d rboxes.1)), (10, (.os 1 0 out3.length)), (11, (aI x)), (12, (.op 2 0 0)), (25, (encL Tberth_box.cells Tberth_box.d rboxes.1)), (26, (aI ((rboxes.1.length : Nat) : Int))), (27, (aI x)), (32, (encL Tberth_box.cells Tberth_box.d rboxes.1)), (33, (aI ((rboxes.1.length : Nat) : Int))), (34, (aI x2))], [(0, vO 6 (Tapi_Dock.cells d)), (1, aO 2 TS__2_string.cells TS__2_string.d out3), (2, vO 4 (Tberth_box.cells (rboxes.1.getD ((x).toNat) Tberth_box.d)))], 3⟩ := by
  intro E hE
  unfold g_berth_Blocks_J3 at h
  refine Runs.sR hE ⟨[(1, (encL Tapi_Call.cells Tapi_Call.d c)), (3, (.op 0 0 0)), (8, (encL Tberth_box.cells Tberth_box.d rboxes.1)), (10, (.os 1 0 out3.length)), (11, (aI x)), (12, (.op 2 0 0)), (25, (encL Tberth_box.cells Tberth_box.d rboxes.1)), (26, (aI ((rboxes.1.length : Nat) : Int))), (27, (aI x)), (32, (encL Tberth_box.cells Tberth_box.d rboxes.1)), (33, (aI ((rboxes.1.length : Nat) : Int))), (34, (aI (w64 (x2 + 1))))], [(0, vO 6 (Tapi_Dock.cells d)), (1, aO 2 TS__2_string.cells TS__2_string.d out3), (2, vO 4 (Tberth_box.cells (rboxes.1.getD ((x).toNat) Tberth_box.d)))], 35⟩ (C_69 1025639) [] [] (kp [1, 3, 8, 10, 11, 12, 25, 26, 27, 32, 33, 34]) (kq [0, 1, 2]) 35 [] trivial ?_
  refine Runs.sA 1 [.code (C_69 128204), .inLoop (C_69 128204), .inBlock 2, .inBlock 1, .code (C_69 4007), .inLoop (C_69 500), .inBlock 0, .code (C_69 63)] ?_
  exact Runs.sW hE _ [] (kp [1, 3, 8, 10, 11, 12, 25, 26, 27, 32, 33, 34]) (kq [0, 1, 2]) 3 [] trivial (hK_g_berth_Blocks_L2 out3 (w64 (x2 + 1)) _ h E hE)

theorem g_berth_Blocks_L2_ok (N : Nat) (d : Tapi_Dock) (c : List Tapi_Call) (rboxes : (List Tberth_box) × Int) (x : Int) (K_g_berth_Blocks_L1 : (List TS__2_string) → Int → Option ((List TS__2_string) × Int))
    (hK_g_berth_Blocks_L1 : ∀ (out : List TS__2_string) (x : Int) (r : (List TS__2_string) × Int), K_g_berth_Blocks_L1 out x = some r → ∀ E, EnvOk E 0 → Runs Try.prog E 38 60 (SPost E [] (.tup [(encL TS__2_string.cells TS__2_string.d r.1), (aI r.2)])) [.code (C_69 500), .inLoop (C_69 500), .inBlock 0, .code (C_69 63)] ⟨[(1, (encL Tapi_Call.cells Tapi_Call.d c)), (3, (.op 0 0 0)), (8, (encL Tberth_box.cells Tberth_box.d rboxes.1)), (10, (.os 1 0 out.length)), (25, (encL Tberth_box.cells Tberth_box.d rboxes.1)), (26, (aI ((rboxes.1.length : Nat) : Int))), (27, (aI x))], [(0, vO 6 (Tapi_Dock.cells d)), (1, aO 2 TS__2_string.cells TS__2_string.d out)], 2⟩) (fuel : Nat) : ∀ (out2 : List TS__2_string) (x2 : Int) (r : (List TS__2_string) × Int), g_berth_Blocks_L2 N d c rboxes x K_g_berth_Blocks_L1 fuel out2 x2 = some r → ∀ E, EnvOk E 0 → Runs Try.prog E 38 60 (SPost E [] (.tup [(encL TS__2_string.cells TS__2_string.d r.1), (aI r.2)])) [.code (C_69 128204), .inLoop (C_69 128204), .inBlock 2, .inBlock 1, .code (C_69 4007), .inLoop (C_69 500), .inBlock 0, .code (C_69 63)] ⟨[(1, (encL Tapi_Call.cells Tapi_Call.d c)), (3, (.op 0 0 0)), (8, (encL Tberth_box.cells Tberth_box.d rboxes.1)), (10, (.os 1 0 out2.length)), (11, (aI x)), (12, (.op 2 0 0)), (25, (encL Tberth_box.cells Tberth_box.d rboxes.1)), (26, (aI ((rboxes.1.length : Nat) : Int))), (27, (aI x)), (32, (encL Tberth_box.cells Tberth_box.d rboxes.1)), (33, (aI ((rboxes.1.length : Nat) : Int))), (34, (aI x2))], [(0, vO 6 (Tapi_Dock.cells d)), (1, aO 2 TS__2_string.cells TS__2_string.d out2), (2, vO 4 (Tberth_box.cells (rboxes.1.getD ((x).toNat) Tberth_box.d)))], 3⟩ := by
  induction fuel with
  | zero => intro _ _ r h; rw [g_berth_Blocks_L2.eq_1] at h; cases h
  | succ fuel ih =>
    intro out2 x2 r h E hE
    rw [g_berth_Blocks_L2.eq_2] at h
    refine Runs.sA 1 [.code (C_69 256408), .code (C_69 256409), .inLoop (C_69 128204), .inBlock 2, .inBlock 1, .code (C_69 4007), .inLoop (C_69 500), .inBlock 0, .code (C_69 63)] ?_
    refine Runs.sR hE ⟨[(1, (encL Tapi_Call.cells Tapi_Call.d c)), (3, (.op 0 0 0)), (8, (encL Tberth_box.cells Tberth_box.d rboxes.1)), (10, (.os 1 0 out2.length)), (11, (aI x)), (12, (.op 2 0 0)), (25, (encL Tberth_box.cells Tberth_box.d rboxes.1)), (26, (aI ((rboxes.1.length : Nat) : Int))), (27, (aI x)), (32, (encL Tberth_box.cells Tberth_box.d rboxes.1)), (33, (aI ((rboxes.1.length : Nat) : Int))), (34, (aI x2)), (35, (aB (decide (x2 < ((rboxes.1.length : Nat) : Int)))))], [(0, vO 6 (Tapi_Dock.cells d)), (1, aO 2 TS__2_string.cells TS__2_string.d out2), (2, vO 4 (Tberth_box.cells (rboxes.1.getD ((x).toNat) Tberth_box.d)))], 19⟩ (C_69 256408) [] [] (kp [1, 3, 8, 10, 11, 12, 25, 26, 27, 32, 33, 34, 35]) (kq [0, 1, 2]) 19 [] trivial ?_
    refine Runs.sA 1 [.code (C_69 512818), .code (C_69 512819), .inLoop (C_69 128204), .inBlock 2, .inBlock 1, .code (C_69 4007), .inLoop (C_69 500), .inBlock 0, .code (C_69 63)] ?_
    refine Runs.sC 35 (C_69 1025636) (C_69 1025637) (decide (x2 < ((rboxes.1.length : Nat) : Int))) (fun hq4 => ?_) (fun hq4 => ?_)
    · have h := condT h hq4
      refine Runs.sA 4 [.code (C_69 4102552), .code (C_69 4102553), .inBlock 3, .code (C_69 1025639), .inLoop (C_69 128204), .inBlock 2, .inBlock 1, .code (C_69 4007), .inLoop (C_69 500), .inBlock 0, .code (C_69 63)] ?_
      obtain ⟨c3, h⟩ := ifSome h
      refine Runs.sR hE ⟨[(1, (encL Tapi_Call.cells Tapi_Call.d c)), (3, (.op 0 0 0)), (8, (encL Tberth_box.cells Tberth_box.d rboxes.1)), (10, (.os 1 0 out2.length)), (11, (aI x)), (12, (.op 2 0 0)), (13, (aI x2)), (14, (.op 67 0 0)), (25, (encL Tberth_box.cells Tberth_box.d rboxes.1)), (26, (aI ((rboxes.1.length : Nat) : Int))), (27, (aI x)), (32, (encL Tberth_box.cells Tberth_box.d rboxes.1)), (33, (aI ((rboxes.1.length : Nat) : Int))), (34, (aI x2))], [(0, vO 6 (Tapi_Dock.cells d)), (1, aO 2 TS__2_string.cells TS__2_string.d out2), (2, vO 4 (Tberth_box.cells (rboxes.1.getD ((x).toNat) Tberth_box.d))), (67, vO 4 (Tberth_box.cells (rboxes.1.getD ((x2).toNat) Tberth_box.d)))], 115⟩ (C_69 4102552) [] [] (kp [1, 3, 8, 10, 11, 12, 13, 14, 25, 26, 27, 32, 33, 34]) (kq [0, 1, 2, 67]) 115 [0 ≤ x2 ∧ x2 < ((rboxes.1.length : Nat) : Int), 0 < 1] ⟨c3, o1, trivial⟩ ?_
      refine Runs.sA 1 [.code (C_69 8205106), .code (C_69 8205107), .inBlock 3, .code (C_69 1025639), .inLoop (C_69 128204), .inBlock 2, .inBlock 1, .code (C_69 4007), .inLoop (C_69 500), .inBlock 0, .code (C_69 63)] ?_
      obtain ⟨rblocked, hr2, h⟩ := bindSome h
      refine Runs.sR hE ⟨[(1, (encL Tapi_Call.cells Tapi_Call.d c)), (3, (.op 0 0 0)), (8, (encL Tberth_box.cells Tberth_box.d rboxes.1)), (10, (.os 1 0 out2.length)), (11, (aI x)), (12, (.op 2 0 0)), (13, (aI x2)), (25, (encL Tberth_box.cells Tberth_box.d rboxes.1)), (26, (aI ((rboxes.1.length : Nat) : Int))), (27, (aI x)), (32, (encL Tberth_box.cells Tberth_box.d rboxes.1)), (33, (aI ((rboxes.1.length : Nat) : Int))), (34, (aI x2)), (42, (aB rblocked))], [(0, vO 6 (Tapi_Dock.cells d)), (1, aO 2 TS__2_string.cells TS__2_string.d out2), (2, vO 4 (Tberth_box.cells (rboxes.1.getD ((x).toNat) Tberth_box.d)))], 179⟩ (C_69 8205106) [(3, ⟨[], true, (aB rblocked), [], 0, false, none⟩)] [] (kp [1, 3, 8, 10, 11, 12, 13, 25, 26, 27, 32, 33, 34, 42]) (kq [0, 1, 2]) 179 [0 < 1, 0 < 1, 0 < 1, Sound Try.prog 79 [(.agg (Tapi_Dock.cells d)), (.agg (Tberth_box.cells (rboxes.1.getD ((x).toNat) Tberth_box.d))), (.agg (Tberth_box.cells (rboxes.1.getD ((x2).toNat) Tberth_box.d)))] [] 0 (aB rblocked) []] ⟨o1, o1, o1, (g_berth_blocked_ok N d (rboxes.1.getD ((x).toNat) Tberth_box.d) (rboxes.1.getD ((x2).toNat) Tberth_box.d) rblocked hr2), trivial⟩ ?_
      refine Runs.sC 42 (C_69 16410214) (C_69 16410215) rblocked (fun hq5 => ?_) (fun hq5 => ?_)
      · have h := condT h hq5
        obtain ⟨c4, h⟩ := ifSome h
        obtain ⟨c5, h⟩ := ifSome h
        obtain ⟨c6, h⟩ := ifSome h
        refine Runs.sR hE ⟨[(1, (encL Tapi_Call.cells Tapi_Call.d c)), (3, (.op 0 0 0)), (8, (encL Tberth_box.cells Tberth_box.d rboxes.1)), (10, (.os 387 0 ((out2 ++ ([(⟨(c.getD ((x).toNat) Tapi_Call.d).f_Name, (c.getD ((x2).toNat) Tapi_Call.d).f_Name⟩ : TS__2_string)] : List TS__2_string)).length))), (11, (aI x)), (12, (.op 2 0 0)), (25, (encL Tberth_box.cells Tberth_box.d rboxes.1)), (26, (aI ((rboxes.1.length : Nat) : Int))), (27, (aI x)), (32, (encL Tberth_box.cells Tberth_box.d rboxes.1)), (33, (aI ((rboxes.1.length : Nat) : Int))), (34, (aI x2))], [(0, vO 6 (Tapi_Dock.cells d)), (2, vO 4 (Tberth_box.cells (rboxes.1.getD ((x).toNat) Tberth_box.d))), (387, aO 2 TS__2_string.cells TS__2_string.d (out2 ++ ([(⟨(c.getD ((x).toNat) Tapi_Call.d).f_Name, (c.getD ((x2).toNat) Tapi_Call.d).f_Name⟩ : TS__2_string)] : List TS__2_string)))], 419⟩ (C_69 16410214) [] [] (kp [1, 3, 8] ++ [(10, .osl ((out2 ++ ([(⟨(c.getD ((x).toNat) Tapi_Call.d).f_Name, (c.getD ((x2).toNat) Tapi_Call.d).f_Name⟩ : TS__2_string)] : List TS__2_string)).length))] ++ kp [11, 12, 25, 26, 27, 32, 33, 34]) (kq [0, 2] ++ [(387, .arr 387 ((out2 ++ ([(⟨(c.getD ((x).toNat) Tapi_Call.d).f_Name, (c.getD ((x2).toNat) Tapi_Call.d).f_Name⟩ : TS__2_string)] : List TS__2_string)).length) (fun zi => TS__2_string.cells ((out2 ++ ([(⟨(c.getD ((x).toNat) Tapi_Call.d).f_Name, (c.getD ((x2).toNat) Tapi_Call.d).f_Name⟩ : TS__2_string)] : List TS__2_string)).getD zi TS__2_string.d)))]) 419 [0 ≤ x ∧ x < ((c.length : Nat) : Int), 0 ≤ x2 ∧ x2 < ((c.length : Nat) : Int), out2.length = out2.length, (out2.length + 1) * 32 ≤ 140737488355328, 0 + 1 ≤ 1, ∀ zi, zi < 1 → AV.oneL ((fun zi => ([[(aS ((c.getD ((x).toNat) Tapi_Call.d).f_Name)), (aS ((c.getD ((x2).toNat) Tapi_Call.d).f_Name))]] : List (List AV)).getD zi []) (addz 0 zi)) = true, (out2.length + 1) = (out2 ++ ([(⟨(c.getD ((x).toNat) Tapi_Call.d).f_Name, (c.getD ((x2).toNat) Tapi_Call.d).f_Name⟩ : TS__2_string)] : List TS__2_string)).length, out2.length + 1 = (out2 ++ ([(⟨(c.getD ((x).toNat) Tapi_Call.d).f_Name, (c.getD ((x2).toNat) Tapi_Call.d).f_Name⟩ : TS__2_string)] : List TS__2_string)).length, ∀ zi, zi < (out2 ++ ([(⟨(c.getD ((x).toNat) Tapi_Call.d).f_Name, (c.getD ((x2).toNat) Tapi_Call.d).f_Name⟩ : TS__2_string)] : List TS__2_string)).length → (fun zi => TS__2_string.cells ((out2 ++ ([(⟨(c.getD ((x).toNat) Tapi_Call.d).f_Name, (c.getD ((x2).toNat) Tapi_Call.d).f_Name⟩ : TS__2_string)] : List TS__2_string)).getD zi TS__2_string.d)) zi = ((fun zm => if zm < out2.length then (fun zi => TS__2_string.cells (out2.getD zi TS__2_string.d)) zm else (fun zi => ([[(aS ((c.getD ((x).toNat) Tapi_Call.d).f_Name)), (aS ((c.getD ((x2).toNat) Tapi_Call.d).f_Name))]] : List (List AV)).getD zi []) (zm - out2.length))) zi] ⟨c4, c5, rfl, c6, z0, (oneN rfl), (len_app_raw rfl rfl), (len_app_raw rfl rfl), (get_app_raw TS__2_string.cells TS__2_string.d out2 ([(⟨(c.getD ((x).toNat) Tapi_Call.d).f_Name, (c.getD ((x2).toNat) Tapi_Call.d).f_Name⟩ : TS__2_string)] : List TS__2_string) rfl (fun _ _ => rfl) (fun zq hzq => get_chunk TS__2_string.cells TS__2_string.d ([(⟨(c.getD ((x).toNat) Tapi_Call.d).f_Name, (c.getD ((x2).toNat) Tapi_Call.d).f_Name⟩ : TS__2_string)] : List TS__2_string) zq hzq)), trivial⟩ ?_
        refine Runs.sA 1 [.code (C_69 1025639), .inLoop (C_69 128204), .inBlock 2, .inBlock 1, .code (C_69 4007), .inLoop (C_69 500), .inBlock 0, .code (C_69 63)] ?_
        exact Runs.sW hE _ [] (kp [1, 3, 8, 10, 11, 12, 25, 26, 27, 32, 33, 34]) (kq [0] ++ [(1, .keep 387)] ++ kq [2]) 3 [] trivial (g_berth_Blocks_J3_ok N d c rboxes x x2 (g_berth_Blocks_L2 N d c rboxes x K_g_berth_Blocks_L1 fuel) K_g_berth_Blocks_L1 ih hK_g_berth_Blocks_L1 (out2 ++ ([(⟨(c.getD ((x).toNat) Tapi_Call.d).f_Name, (c.getD ((x2).toNat) Tapi_Call.d).f_Name⟩ : TS__2_string)] : List TS__2_string)) _ h E hE)
      · have h := condF h hq5
        refine Runs.sA 2 [.code (C_69 1025639), .inLoop (C_69 128204), .inBlock 2, .inBlock 1, .code (C_69 4007), .inLoop (C_69 500), .inBlock 0, .code (C_69 63)] ?_
        exact Runs.sW hE _ [] (kp [1, 3, 8, 10, 11, 12, 25, 26, 27, 32, 33, 34]) (kq [0, 1, 2]) 3 [] trivial (g_berth_Blocks_J3_ok N d c rboxes x x2 (g_berth_Blocks_L2 N d c rboxes x K_g_berth_Blocks_L1 fuel) K_g_berth_Blocks_L1 ih hK_g_berth_Blocks_L1 out2 _ h E hE)
    · have h := condF h hq4
      refine Runs.sA 2 [.code (C_69 4007), .inLoop (C_69 500), .inBlock 0, .code (C_69 63)] ?_
      refine Runs.sR hE ⟨[(1, (encL Tapi_Call.cells Tapi_Call.d c)), (3, (.op 0 0 0)), (8, (encL Tberth_box.cells Tberth_box.d rboxes.1)), (10, (.os 1 0 out2.length)), (25, (encL Tberth_box.cells Tberth_box.d rboxes.1)), (26, (aI ((rboxes.1.length : Nat) : Int))), (27, (aI (w64 (x + 1))))], [(0, vO 6 (Tapi_Dock.cells d)), (1, aO 2 TS__2_string.cells TS__2_string.d out2)], 51⟩ (C_69 4007) [] [] (kp [1, 3, 8, 10, 25, 26, 27]) (kq [0, 1]) 51 [] trivial ?_
      refine Runs.sA 1 [.code (C_69 500), .inLoop (C_69 500), .inBlock 0, .code (C_69 63)] ?_
      exact Runs.sW hE _ [] (kp [1, 3, 8, 10, 25, 26, 27]) (kq [0, 1]) 2 [] trivial (hK_g_berth_Blocks_L1 out2 (w64 (x + 1)) _ h E hE)

theorem g_berth_Blocks_L1_ok (N : Nat) (d : Tapi_Dock) (c : List Tapi_Call) (rboxes : (List Tberth_box) × Int) (fuel : Nat) : ∀ (out : List TS__2_string) (x : Int) (r : (List TS__2_string) × Int), g_berth_Blocks_L1 N d c rboxes fuel out x = some r → ∀ E, EnvOk E 0 → Runs Try.prog E 38 60 (SPost E [] (.tup [(encL TS__2_string.cells TS__2_string.d r.1), (aI r.2)])) [.code (C_69 500), .inLoop (C_69 500), .inBlock 0, .code (C_69 63)] ⟨[(1, (encL Tapi_Call.cells Tapi_Call.d c)), (3, (.op 0 0 0)), (8, (encL Tberth_box.cells Tberth_box.d rboxes.1)), (10, (.os 1 0 out.length)), (25, (encL Tberth_box.cells Tberth_box.d rboxes.1)), (26, (aI ((rboxes.1.length : Nat) : Int))), (27, (aI x))], [(0, vO 6 (Tapi_Dock.cells d)), (1, aO 2 TS__2_string.cells TS__2_string.d out)], 2⟩ := by
  induction fuel with
  | zero => intro _ _ r h; rw [g_berth_Blocks_L1.eq_1] at h; cases h
  | succ fuel ih =>
    intro out x r h E hE
    rw [g_berth_Blocks_L1.eq_2] at h
    refine Runs.sA 1 [.code (C_69 1000), .code (C_69 1001), .inLoop (C_69 500), .inBlock 0, .code (C_69 63)] ?_
    refine Runs.sR hE ⟨[(1, (encL Tapi_Call.cells Tapi_Call.d c)), (3, (.op 0 0 0)), (8, (encL Tberth_box.cells Tberth_box.d rboxes.1)), (10, (.os 1 0 out.length)), (25, (encL Tberth_box.cells Tberth_box.d rboxes.1)), (26, (aI ((rboxes.1.length : Nat) : Int))), (27, (aI x)), (28, (aB (decide (x < ((rboxes.1.length : Nat) : Int)))))], [(0, vO 6 (Tapi_Dock.cells d)), (1, aO 2 TS__2_string.cells TS__2_string.d out)], 18⟩ (C_69 1000) [] [] (kp [1, 3, 8, 10, 25, 26, 27, 28]) (kq [0, 1]) 18 [] trivial ?_
    refine Runs.sA 1 [.code (C_69 2002), .code (C_69 2003), .inLoop (C_69 500), .inBlock 0, .code (C_69 63)] ?_
    refine Runs.sC 28 (C_69 4004) (C_69 4005) (decide (x < ((rboxes.1.length : Nat) : Int))) (fun hq3 => ?_) (fun hq3 => ?_)
    · have h := condT h hq3
      refine Runs.sA 4 [.code (C_69 16024), .code (C_69 16025), .inBlock 1, .code (C_69 4007), .inLoop (C_69 500), .inBlock 0, .code (C_69 63)] ?_
      obtain ⟨c2, h⟩ := ifSome h
      refine Runs.sR hE ⟨[(1, (encL Tapi_Call.cells Tapi_Call.d c)), (3, (.op 0 0 0)), (8, (encL Tberth_box.cells Tberth_box.d rboxes.1)), (10, (.os 1 0 out.length)), (11, (aI x)), (12, (.op 66 0 0)), (25, (encL Tberth_box.cells Tberth_box.d rboxes.1)), (26, (aI ((rboxes.1.length : Nat) : Int))), (27, (aI x))], [(0, vO 6 (Tapi_Dock.cells d)), (1, aO 2 TS__2_string.cells TS__2_string.d out), (66, vO 4 (Tberth_box.cells (rboxes.1.getD ((x).toNat) Tberth_box.d)))], 114⟩ (C_69 16024) [] [] (kp [1, 3, 8, 10, 11, 12, 25, 26, 27]) (kq [0, 1, 66]) 114 [0 ≤ x ∧ x < ((rboxes.1.length : Nat) : Int), 0 < 1] ⟨c2, o1, trivial⟩ ?_
      refine Runs.sA 1 [.code (C_69 32050), .code (C_69 32051), .inBlock 1, .code (C_69 4007), .inLoop (C_69 500), .inBlock 0, .code (C_69 63)] ?_
      refine Runs.sR hE ⟨[(1, (encL Tapi_Call.cells Tapi_Call.d c)), (3, (.op 0 0 0)), (8, (encL Tberth_box.cells Tberth_box.d rboxes.1)), (10, (.os 1 0 out.length)), (11, (aI x)), (12, (.op 66 0 0)), (25, (encL Tberth_box.cells Tberth_box.d rboxes.1)), (26, (aI ((rboxes.1.length : Nat) : Int))), (27, (aI x)), (32, (encL Tberth_box.cells Tberth_box.d rboxes.1)), (33, (aI ((rboxes.1.length : Nat) : Int))), (34, (aI 0))], [(0, vO 6 (Tapi_Dock.cells d)), (1, aO 2 TS__2_string.cells TS__2_string.d out), (66, vO 4 (Tberth_box.cells (rboxes.1.getD ((x).toNat) Tberth_box.d)))], 162⟩ (C_69 32050) [] [] (kp [1, 3, 8, 10, 11, 12, 25, 26, 27, 32, 33, 34]) (kq [0, 1, 66]) 162 [] trivial ?_
      refine Runs.sA 2 [.code (C_69 128204), .inLoop (C_69 128204), .inBlock 2, .inBlock 1, .code (C_69 4007), .inLoop (C_69 500), .inBlock 0, .code (C_69 63)] ?_
      exact Runs.sW hE _ [] (kp [1, 3, 8, 10, 11, 12, 25, 26, 27, 32, 33, 34]) (kq [0, 1] ++ [(2, .keep 66)]) 3 [] trivial (g_berth_Blocks_L2_ok N d c rboxes x (g_berth_Blocks_L1 N d c rboxes fuel) ih N out 0 _ h E hE)
    · have h := condF h hq3
      refine Runs.sA 2 [.code (C_69 126), .code (C_69 127)] ?_
      refine Runs.sR hE ⟨[(6, (.os 1 0 out.length)), (7, (aI 0))], [(1, aO 2 TS__2_string.cells TS__2_string.d out)], 66⟩ (C_69 126) [] [] (kp [6, 7]) (kq [1]) 66 [] trivial ?_
      obtain rfl := Option.some.inj h
      refine Runs.sW hE ⟨[(6, (encL TS__2_string.cells TS__2_string.d out)), (7, (aI 0))], [], 66⟩ [1] ([(6, .sl (out.length) (fun zi => TS__2_string.cells (out.getD zi TS__2_string.d)))] ++ kp [7]) [] 66 [out.length = out.length, 0 + out.length ≤ out.length, ∀ zi, zi < out.length → (fun zi => TS__2_string.cells (out.getD zi TS__2_string.d)) zi = (fun zi => TS__2_string.cells (out.getD zi TS__2_string.d)) (addz 0 zi)] ⟨rfl, z0, (fun _ _ => rfl), trivial⟩ ?_
      exact Runs.sT Try.f38 [] [] trivial

theorem g_berth_Blocks_ok (N : Nat) (d : Tapi_Dock) (c : List Tapi_Call) (s : List Tapi_Spot) (r : (List TS__2_string) × Int) (h : g_berth_Blocks N d c s = some r) : Sound Try.prog 38 [(.agg (Tapi_Dock.cells d)), (encL Tapi_Call.cells Tapi_Call.d c), (encL Tapi_Spot.cells Tapi_Spot.d s)] [] 0 (.tup [(encL TS__2_string.cells TS__2_string.d r.1), (aI r.2)]) [] := by
  unfold g_berth_Blocks at h
  refine Sound.of_runs (fu := Try.f38) (c := C_69 1) (nt := 60) (by kernel_rfl) (by kernel_rfl) (by kernel_rfl) (by kernel_rfl) (fun hm => rfl) ?_
  intro E hE
  refine Runs.sA 1 [.code (C_69 2), .code (C_69 3)] ?_
  refine Runs.sR hE ⟨[(1, (encL Tapi_Call.cells Tapi_Call.d c)), (2, (encL Tapi_Spot.cells Tapi_Spot.d s)), (3, (.op 0 0 0))], [(0, vO 6 (Tapi_Dock.cells d))], 48⟩ (C_69 2) [] [] (kp [1, 2, 3]) (kq [0]) 48 [] trivial ?_
  refine Runs.sA 1 [.code (C_69 6), .code (C_69 7)] ?_
  obtain ⟨rboxes, hr, h⟩ := bindSome h
  refine Runs.sR hE ⟨[(1, (encL Tapi_Call.cells Tapi_Call.d c)), (3, (.op 0 0 0)), (8, (encL Tberth_box.cells Tberth_box.d rboxes.1)), (9, (aI rboxes.2))], [(0, vO 6 (Tapi_Dock.cells d))], 192⟩ (C_69 6) [(3, ⟨[], true, (.tup [(encL Tberth_box.cells Tberth_box.d rboxes.1), (aI rboxes.2)]), [], 0, false, none⟩)] [] (kp [1, 3, 8, 9]) (kq [0]) 192 [0 < 1, Sound Try.prog 78 [(.agg (Tapi_Dock.cells d)), (encL Tapi_Call.cells Tapi_Call.d c), (encL Tapi_Spot.cells Tapi_Spot.d s)] [] 0 (.tup [(encL Tberth_box.cells Tberth_box.d rboxes.1), (aI rboxes.2)]) []] ⟨o1, (g_berth_boxes_ok N d c s rboxes hr), trivial⟩ ?_
  refine Runs.sA 2 [.code (C_69 28), .code (C_69 29), .code (C_69 15)] ?_
  refine Runs.sR hE ⟨[(1, (encL Tapi_Call.cells Tapi_Call.d c)), (3, (.op 0 0 0)), (8, (encL Tberth_box.cells Tberth_box.d rboxes.1)), (9, (aI rboxes.2)), (23, (aB (rboxes.2 != 0)))], [(0, vO 6 (Tapi_Dock.cells d))], 224⟩ (C_69 28) [] [] (kp [1, 3, 8, 9, 23]) (kq [0]) 224 [] trivial ?_
  refine Runs.sC 23 (C_69 58) (C_69 59) (rboxes.2 != 0) (fun hq2 => ?_) (fun hq2 => ?_)
  · have h := condT h hq2
    refine Runs.sA 1 [.code (C_69 116), .code (C_69 117), .code (C_69 15)] ?_
    refine Runs.sR hE ⟨[(6, .nil), (7, (aI rboxes.2))], [], 272⟩ (C_69 116) [] [] (kp [6, 7]) [] 272 [] trivial ?_
    obtain rfl := Option.some.inj h
    refine Runs.sW hE ⟨[(6, (encL TS__2_string.cells TS__2_string.d ([] : List TS__2_string))), (7, (aI rboxes.2))], [], 272⟩ [] ([(6, .sl (([] : List TS__2_string).length) (fun zi => TS__2_string.cells (([] : List TS__2_string).getD zi TS__2_string.d)))] ++ kp [7]) [] 272 [([] : List TS__2_string).length = 0] ⟨rfl, trivial⟩ ?_
    exact Runs.sT Try.f38 [] [] trivial
  · have h := condF h hq2
    refine Runs.sA 2 [.code (C_69 30), .code (C_69 31)] ?_
    refine Runs.sR hE ⟨[(1, (encL Tapi_Call.cells Tapi_Call.d c)), (3, (.op 0 0 0)), (8, (encL Tberth_box.cells Tberth_box.d rboxes.1)), (10, .nil)], [(0, vO 6 (Tapi_Dock.cells d))], 240⟩ (C_69 30) [] [] (kp [1, 3, 8, 10]) (kq [0]) 240 [] trivial ?_
    refine Runs.sA 2 [.code (C_69 124), .code (C_69 125), .code (C_69 63)] ?_
    refine Runs.sR hE ⟨[(1, (encL Tapi_Call.cells Tapi_Call.d c)), (3, (.op 0 0 0)), (8, (encL Tberth_box.cells Tberth_box.d rboxes.1)), (10, .nil), (25, (encL Tberth_box.cells Tberth_box.d rboxes.1)), (26, (aI ((rboxes.1.length : Nat) : Int))), (27, (aI 0))], [(0, vO 6 (Tapi_Dock.cells d))], 288⟩ (C_69 124) [] [] (kp [1, 3, 8, 10, 25, 26, 27]) (kq [0]) 288 [] trivial ?_
    refine Runs.sA 2 [.code (C_69 500), .inLoop (C_69 500), .inBlock 0, .code (C_69 63)] ?_
    exact Runs.sW hE _ [] (kp [1, 3, 8] ++ [(10, .nilos 1)] ++ kp [25, 26, 27]) (kq [0] ++ [(1, .nil 2 (fun zi => TS__2_string.cells (([] : List TS__2_string).getD zi TS__2_string.d)))]) 2 [] trivial (g_berth_Blocks_L1_ok N d c rboxes N ([] : List TS__2_string) 0 _ h E hE)

noncomputable def C_78 (n : Nat) : Code := cat (bodyOf Try.f80) (pth n)

theorem g_berth_LeaveOrder_1_L1_ok (N : Nat) (k : Int) (cap0 : List Tberth_box) (cap2 : List Bool) (cap3 : Tapi_Dock) (fuel : Nat) : ∀ (x : Int) (r : Bool), g_berth_LeaveOrder_1_L1 N k cap0 cap2 cap3 fuel x = some r → ∀ E, EnvOk E 4 → Runs Try.prog E 80 30 (SPost E [(0, vO 1 [(encL Tberth_box.cells Tberth_box.d cap0)]), (1, vN 1 [(.os 2 0 cap2.length)]), (2, aO 1 cB false cap2), (3, vO 6 (Tapi_Dock.cells cap3))] (aB r)) [.code (C_78 52), .inLoop (C_78 52), .inBlock 0, .code (C_78 7)] ⟨[(0, (aI k)), (1, (.op 0 0 0)), (2, (.op 1 0 0)), (3, (.op 3 0 0)), (8, (encL Tberth_box.cells Tberth_box.d cap0)), (9, (aI ((cap0.length : Nat) : Int))), (10, (aI x))], [(0, vO 1 [(encL Tberth_box.cells Tberth_box.d cap0)]), (1, vN 1 [(.os 2 0 cap2.length)]), (2, aO 1 cB false cap2), (3, vO 6 (Tapi_Dock.cells cap3))], 4⟩ := by
  induction fuel with
  | zero => intro _ r h; rw [g_berth_LeaveOrder_1_L1.eq_1] at h; cases h
  | succ fuel ih =>
    intro x r h E hE
    rw [g_berth_LeaveOrder_1_L1.eq_2] at h
    refine Runs.sA 1 [.code (C_78 104), .code (C_78 105), .inLoop (C_78 52), .inBlock 0, .code (C_78 7)] ?_
    refine Runs.sR hE ⟨[(0, (aI k)), (1, (.op 0 0 0)), (2, (.op 1 0 0)), (3, (.op 3 0 0)), (8, (encL Tberth_box.cells Tberth_box.d cap0)), (9, (aI ((cap0.length : Nat) : Int))), (10, (aI x)), (11, (aB (decide (x < ((cap0.length : Nat) : Int)))))], [(0, vO 1 [(encL Tberth_box.cells Tberth_box.d cap0)]), (1, vN 1 [(.os 2 0 cap2.length)]), (2, aO 1 cB false cap2), (3, vO 6 (Tapi_Dock.cells cap3))], 20⟩ (C_78 104) [] [] (kp [0, 1, 2, 3, 8, 9, 10, 11]) (kq [0, 1, 2, 3]) 20 [] trivial ?_
    refine Runs.sA 1 [.code (C_78 210), .code (C_78 211), .inLoop (C_78 52), .inBlock 0, .code (C_78 7)] ?_
    refine Runs.sC 11 (C_78 420) (C_78 421) (decide (x < ((cap0.length : Nat) : Int))) (fun hq2 => ?_) (fun hq2 => ?_)
    · have h := condT h hq2
      refine Runs.sA 4 [.code (C_78 1688), .code (C_78 1689), .inBlock 1, .code (C_78 423), .inLoop (C_78 52), .inBlock 0, .code (C_78 7)] ?_
      obtain ⟨c, h⟩ := ifSome h
      refine Runs.sR hE ⟨[(0, (aI k)), (1, (.op 0 0 0)), (2, (.op 1 0 0)), (3, (.op 3 0 0)), (6, (aI x)), (7, (.op 68 0 0)), (8, (encL Tberth_box.cells Tberth_box.d cap0)), (9, (aI ((cap0.length : Nat) : Int))), (10, (aI x))], [(0, vO 1 [(encL Tberth_box.cells Tberth_box.d cap0)]), (1, vN 1 [(.os 2 0 cap2.length)]), (2, aO 1 cB false cap2), (3, vO 6 (Tapi_Dock.cells cap3)), (68, vO 4 (Tberth_box.cells (cap0.getD ((x).toNat) Tberth_box.d)))], 116⟩ (C_78 1688) [] [] (kp [0, 1, 2, 3, 6, 7, 8, 9, 10]) (kq [0, 1, 2, 3, 68]) 116 [0 ≤ x ∧ x < ((cap0.length : Nat) : Int), 0 < 1] ⟨c, o1, trivial⟩ ?_
      refine Runs.sA 1 [.code (C_78 3378), .code (C_78 3379), .inBlock 1, .code (C_78 423), .inLoop (C_78 52), .inBlock 0, .code (C_78 7)] ?_
      obtain ⟨c2, h⟩ := ifSome h
      obtain ⟨c3, h⟩ := ifSome h
      obtain ⟨rblocked, hr, h⟩ := bindSome h
      refine Runs.sR hE ⟨[(0, (aI k)), (1, (.op 0 0 0)), (2, (.op 1 0 0)), (3, (.op 3 0 0)), (8, (encL Tberth_box.cells Tberth_box.d cap0)), (9, (aI ((cap0.length : Nat) : Int))), (10, (aI x)), (28, (aB (cond (!(cap2.getD ((x).toNat) false)) rblocked false)))], [(0, vO 1 [(encL Tberth_box.cells Tberth_box.d cap0)]), (1, vN 1 [(.os 2 0 cap2.length)]), (2, aO 1 cB false cap2), (3, vO 6 (Tapi_Dock.cells cap3))], 340⟩ (C_78 3378) [(12, ⟨[], true, (aB rblocked), [], 0, false, none⟩)] [] (kp [0, 1, 2, 3, 8, 9, 10, 28]) (kq [0, 1, 2, 3]) 340 [0 < 1, 0 ≤ x ∧ x < ((cap2.length : Nat) : Int), (x).toNat < cap2.length, (!(cap2.getD ((x).toNat) false)) = true → AllP [0 < 1], (!(cap2.getD ((x).toNat) false)) = true → AllP [0 < 1], (!(cap2.getD ((x).toNat) false)) = true → AllP [0 < 1], (!(cap2.getD ((x).toNat) false)) = true → AllP [(!(cap2.getD ((x).toNat) false)) = true, (!(cap2.getD ((x).toNat) false)) = true, 0 ≤ k ∧ k < ((cap0.length : Nat) : Int)], (!(cap2.getD ((x).toNat) false)) = true → AllP [(!(cap2.getD ((x).toNat) false)) = true], (!(cap2.getD ((x).toNat) false)) = true → AllP [Sound Try.prog 79 [(.agg (Tapi_Dock.cells cap3)), (.agg (Tberth_box.cells (cap0.getD ((x).toNat) Tberth_box.d))), (.agg (Tberth_box.cells (cap0.getD ((k).toNat) Tberth_box.d)))] [] 0 (aB rblocked) [], (!(cap2.getD ((x).toNat) false)) = true, (!(cap2.getD ((x).toNat) false)) = true, (!(cap2.getD ((x).toNat) false)) = true], (!(cap2.getD ((x).toNat) false)) = true → AllP [(!(cap2.getD ((x).toNat) false)) = true]] ⟨o1, c2, (ltOf c2), (fun hg => ⟨o1, trivial⟩), (fun hg => ⟨o1, trivial⟩), (fun hg => ⟨o1, trivial⟩), (fun hg => ⟨hg, hg, (c3 hg), trivial⟩), (fun hg => ⟨hg, trivial⟩), (fun hg => ⟨(g_berth_blocked_ok N cap3 (cap0.getD ((x).toNat) Tberth_box.d) (cap0.getD ((k).toNat) Tberth_box.d) rblocked (condT hr hg)), hg, hg, hg, trivial⟩), (fun hq => ⟨hq, trivial⟩), trivial⟩ ?_
      refine Runs.sC 28 (C_78 6758) (C_78 6759) (cond (!(cap2.getD ((x).toNat) false)) rblocked false) (fun hq3 => ?_) (fun hq3 => ?_)
      · have h := condT h hq3
        refine Runs.sA 1 [.code (C_78 13516), .code (C_78 13517), .inBlock 1, .code (C_78 423), .inLoop (C_78 52), .inBlock 0, .code (C_78 7)] ?_
        refine Runs.sR hE ⟨[(5, (aB false))], [(0, vO 1 [(encL Tberth_box.cells Tberth_box.d cap0)]), (1, vN 1 [(.os 2 0 cap2.length)]), (2, aO 1 cB false cap2), (3, vO 6 (Tapi_Dock.cells cap3))], 356⟩ (C_78 13516) [] [] (kp [5]) (kq [0, 1, 2, 3]) 356 [] trivial ?_
        obtain rfl := Option.some.inj h
        refine Runs.sW hE ⟨[(5, (aB false))], [(0, vO 1 [(encL Tberth_box.cells Tberth_box.d cap0)]), (1, vN 1 [(.os 2 0 cap2.length)]), (2, aO 1 cB false cap2), (3, vO 6 (Tapi_Dock.cells cap3))], 356⟩ [] (kp [5]) (kq [0, 1, 2, 3]) 356 [] trivial ?_
        exact Runs.sT Try.f80 [] [] trivial
      · have h := condF h hq3
        refine Runs.sA 2 [.code (C_78 423), .inLoop (C_78 52), .inBlock 0, .code (C_78 7)] ?_
        refine Runs.sR hE ⟨[(0, (aI k)), (1, (.op 0 0 0)), (2, (.op 1 0 0)), (3, (.op 3 0 0)), (8, (encL Tberth_box.cells Tberth_box.d cap0)), (9, (aI ((cap0.length : Nat) : Int))), (10, (aI (w64 (x + 1))))], [(0, vO 1 [(encL Tberth_box.cells Tberth_box.d cap0)]), (1, vN 1 [(.os 2 0 cap2.length)]), (2, aO 1 cB false cap2), (3, vO 6 (Tapi_Dock.cells cap3))], 372⟩ (C_78 423) [] [] (kp [0, 1, 2, 3, 8, 9, 10]) (kq [0, 1, 2, 3]) 372 [] trivial ?_
        refine Runs.sA 1 [.code (C_78 52), .inLoop (C_78 52), .inBlock 0, .code (C_78 7)] ?_
        exact Runs.sW hE _ [] (kp [0, 1, 2, 3, 8, 9, 10]) (kq [0, 1, 2, 3]) 4 [] trivial (ih (w64 (x + 1)) _ h E hE)
    · have h := condF h hq2
      refine Runs.sA 2 [.code (C_78 14), .code (C_78 15)] ?_
      refine Runs.sR hE ⟨[(5, (aB true))], [(0, vO 1 [(encL Tberth_box.cells Tberth_box.d cap0)]), (1, vN 1 [(.os 2 0 cap2.length)]), (2, aO 1 cB false cap2), (3, vO 6 (Tapi_Dock.cells cap3))], 36⟩ (C_78 14) [] [] (kp [5]) (kq [0, 1, 2, 3]) 36 [] trivial ?_
      obtain rfl := Option.some.inj h
      refine Runs.sW hE ⟨[(5, (aB true))], [(0, vO 1 [(encL Tberth_box.cells Tberth_box.d cap0)]), (1, vN 1 [(.os 2 0 cap2.length)]), (2, aO 1 cB false cap2), (3, vO 6 (Tapi_Dock.cells cap3))], 52⟩ [] (kp [5]) (kq [0, 1, 2, 3]) 52 [] trivial ?_
      exact Runs.sT Try.f80 [] [] trivial

theorem g_berth_LeaveOrder_1_ok (N : Nat) (k : Int) (cap0 : List Tberth_box) (cap2 : List Bool) (cap3 : Tapi_Dock) (r : Bool) (h : g_berth_LeaveOrder_1 N k cap0 cap2 cap3 = some r) : Sound Try.prog 80 [(aI k), (.op 0 0 0), (.op 1 0 0), (.op 3 0 0)] [(0, vO 1 [(encL Tberth_box.cells Tberth_box.d cap0)]), (1, vN 1 [(.os 2 0 cap2.length)]), (2, aO 1 cB false cap2), (3, vO 6 (Tapi_Dock.cells cap3))] 4 (aB r) [(0, vO 1 [(encL Tberth_box.cells Tberth_box.d cap0)]), (1, vN 1 [(.os 2 0 cap2.length)]), (2, aO 1 cB false cap2), (3, vO 6 (Tapi_Dock.cells cap3))] := by
  unfold g_berth_LeaveOrder_1 at h
  refine Sound.of_runs (fu := Try.f80) (c := C_78 1) (nt := 30) (by kernel_rfl) (by kernel_rfl) (by kernel_rfl) (by kernel_rfl) (fun hm => absurd hm (by decide)) ?_
  intro E hE
  refine Runs.sA 1 [.code (C_78 2), .code (C_78 3)] ?_
  refine Runs.sR hE ⟨[(0, (aI k)), (1, (.op 0 0 0)), (2, (.op 1 0 0)), (3, (.op 3 0 0))], [(0, vO 1 [(encL Tberth_box.cells Tberth_box.d cap0)]), (1, vN 1 [(.os 2 0 cap2.length)]), (2, aO 1 cB false cap2), (3, vO 6 (Tapi_Dock.cells cap3))], 20⟩ (C_78 2) [] [] (kp [0, 1, 2, 3]) (kq [0, 1, 2, 3]) 20 [] trivial ?_
  refine Runs.sA 2 [.code (C_78 12), .code (C_78 13), .code (C_78 7)] ?_
  refine Runs.sR hE ⟨[(0, (aI k)), (1, (.op 0 0 0)), (2, (.op 1 0 0)), (3, (.op 3 0 0)), (8, (encL Tberth_box.cells Tberth_box.d cap0)), (9, (aI ((cap0.length : Nat) : Int))), (10, (aI 0))], [(0, vO 1 [(encL Tberth_box.cells Tberth_box.d cap0)]), (1, vN 1 [(.os 2 0 cap2.length)]), (2, aO 1 cB false cap2), (3, vO 6 (Tapi_Dock.cells cap3))], 68⟩ (C_78 12) [] [] (kp [0, 1, 2, 3, 8, 9, 10]) (kq [0, 1, 2, 3]) 68 [0 < 1] ⟨o1, trivial⟩ ?_
  refine Runs.sA 2 [.code (C_78 52), .inLoop (C_78 52), .inBlock 0, .code (C_78 7)] ?_
  exact Runs.sW hE _ [] (kp [0, 1, 2, 3, 8, 9, 10]) (kq [0, 1, 2, 3]) 4 [] trivial (g_berth_LeaveOrder_1_L1_ok N k cap0 cap2 cap3 N 0 _ h E hE)

noncomputable def C_77 (n : Nat) : Code := cat (bodyOf Try.f39) (pth n)

theorem g_berth_LeaveOrder_J3_ok (N : Nat) (d : Tapi_Dock) (c : List Tapi_Call) (rboxes : (List Tberth_box) × Int) (x : Int) (K_g_berth_LeaveOrder_L1 : (List ByteArray) → (List Bool) → Int → Option ((List ByteArray) × Int))
    (hK_g_berth_LeaveOrder_L1 : ∀ (out : List ByteArray) (gone : List Bool) (x : Int) (r : (List ByteArray) × Int), K_g_berth_LeaveOrder_L1 out gone x = some r → ∀ E, EnvOk E 0 → Runs Try.prog E 39 61 (SPost E [] (.tup [(encL cS ByteArray.empty r.1), (aI r.2)])) [.code (C_77 2036), .inLoop (C_77 2036), .inBlock 0, .code (C_77 255)] ⟨[(1, (encL Tapi_Call.cells Tapi_Call.d c)), (8, (.op 0 0 0)), (10, (.os 1 0 out.length)), (11, (.op 2 0 0)), (12, (.fn (.func 80) [] [(.op 0 0 0), (.op 2 0 0), (.op 4 0 0)])), (29, (aI ((rboxes.1.length : Nat) : Int))), (30, (aI x))], [(0, vO 1 [(encL Tberth_box.cells Tberth_box.d rboxes.1)]), (1, aO 1 cS ByteArray.empty out), (2, vN 1 [(.os 3 0 gone.length)]), (3, aO 1 cB false gone), (4, vO 6 (Tapi_Dock.cells d))], 5⟩) (out2 : List ByteArray) (gone2 : List Bool) (r : (List ByteArray) × Int) (h : g_berth_LeaveOrder_J3 N d c rboxes x K_g_berth_LeaveOrder_L1 out2 gone2 = some r) : ∀ E, EnvOk E 0 → Runs Try.prog E 39 61 (SPost E [] (.tup [(encL cS ByteArray.empty r.1), (aI r.2)])) [.code (C_77 16295), .inLoop (C_77 2036), .inBlock 0, .code (C_77 255)] ⟨[(1, (encL Tapi_Call.cells Tapi_Call.d c)), (8, (.op 0 0 0)), (10, (.os 1 0 out2.length)), (11, (.op 2 0 0)), (12, (.fn (.func 80) [] [(.op 0 0 0), (.op 2 0 0), (.op 4 0 0)])), (29, (aI ((rboxes.1.length : Nat) : Int))), (30, (aI x))], [(0, vO 1 [(encL Tberth_box.cells Tberth_box.d rboxes.1)]), (1, aO 1 cS ByteArray.empty out2), (2, vN 1 [(.os 3 0 gone2.length)]), (3, aO 1 cB false gone2), (4, vO 6 (Tapi_Dock.cells d))], 5⟩ := by
  intro E hE
  unfold g_berth_LeaveOrder_J3 at h
  refine Runs.sR hE ⟨[(1, (encL Tapi_Call.cells Tapi_Call.d c)), (8, (.op 0 0 0)), (10, (.os 1 0 out2.length)), (11, (.op 2 0 0)), (12, (.fn (.func 80) [] [(.op 0 0 0), (.op 2 0 0), (.op 4 0 0)])), (29, (aI ((rboxes.1.length : Nat) : Int))), (30, (aI (w64 (x + 1))))], [(0, vO 1 [(encL Tberth_box.cells Tberth_box.d rboxes.1)]), (1, aO 1 cS ByteArray.empty out2), (2, vN 1 [(.os 3 0 gone2.length)]), (3, aO 1 cB false gone2), (4, vO 6 (Tapi_Dock.cells d))], 37⟩ (C_77 16295) [] [] (kp [1, 8, 10, 11, 12, 29, 30]) (kq [0, 1, 2, 3, 4]) 37 [] trivial ?_
  refine Runs.sA 1 [.code (C_77 2036), .inLoop (C_77 2036), .inBlock 0, .code (C_77 255)] ?_
  exact Runs.sW hE _ [] (kp [1, 8, 10, 11, 12, 29, 30]) (kq [0, 1, 2, 3, 4]) 5 [] trivial (hK_g_berth_LeaveOrder_L1 out2 gone2 (w64 (x + 1)) _ h E hE)

theorem g_berth_LeaveOrder_L2_ok (N : Nat) (d : Tapi_Dock) (c : List Tapi_Call) (rboxes : (List Tberth_box) × Int) (out : List ByteArray) (gone : List Bool) (x : Int) (K_g_berth_LeaveOrder_L1 : (List ByteArray) → (List Bool) → Int → Option ((List ByteArray) × Int))
    (hK_g_berth_LeaveOrder_L1 : ∀ (out : List ByteArray) (gone : List Bool) (x : Int) (r : (List ByteArray) × Int), K_g_berth_LeaveOrder_L1 out gone x = some r → ∀ E, EnvOk E 0 → Runs Try.prog E 39 61 (SPost E [] (.tup [(encL cS ByteArray.empty r.1), (aI r.2)])) [.code (C_77 2036), .inLoop (C_77 2036), .inBlock 0, .code (C_77 255)] ⟨[(1, (encL Tapi_Call.cells Tapi_Call.d c)), (8, (.op 0 0 0)), (10, (.os 1 0 out.length)), (11, (.op 2 0 0)), (12, (.fn (.func 80) [] [(.op 0 0 0), (.op 2 0 0), (.op 4 0 0)])), (29, (aI ((rboxes.1.length : Nat) : Int))), (30, (aI x))], [(0, vO 1 [(encL Tberth_box.cells Tberth_box.d rboxes.1)]), (1, aO 1 cS ByteArray.empty out), (2, vN 1 [(.os 3 0 gone.length)]), (3, aO 1 cB false gone), (4, vO 6 (Tapi_Dock.cells d))], 5⟩) (fuel : Nat) : ∀ (x2 : Int) (r : (List ByteArray) × Int), g_berth_LeaveOrder_L2 N d c rboxes out gone x K_g_berth_LeaveOrder_L1 fuel x2 = some r → ∀ E, EnvOk E 0 → Runs Try.prog E 39 61 (SPost E [] (.tup [(encL cS ByteArray.empty r.1), (aI r.2)])) [.code (C_77 260708), .inLoop (C_77 260708), .inBlock 2, .inBlock 1, .code (C_77 16295), .inLoop (C_77 2036), .inBlock 0, .code (C_77 255)] ⟨[(1, (encL Tapi_Call.cells Tapi_Call.d c)), (8, (.op 0 0 0)), (10, (.os 1 0 out.length)), (11, (.op 2 0 0)), (12, (.fn (.func 80) [] [(.op 0 0 0), (.op 2 0 0), (.op 4 0 0)])), (29, (aI ((rboxes.1.length : Nat) : Int))), (30, (aI x)), (33, (aI ((rboxes.1.length : Nat) : Int))), (34, (aI x2))], [(0, vO 1 [(encL Tberth_box.cells Tberth_box.d rboxes.1)]), (1, aO 1 cS ByteArray.empty out), (2, vN 1 [(.os 3 0 gone.length)]), (3, aO 1 cB false gone), (4, vO 6 (Tapi_Dock.cells d))], 5⟩ := by
  induction fuel with
  | zero => intro _ r h; rw [g_berth_LeaveOrder_L2.eq_1] at h; cases h
  | succ fuel ih =>
    intro x2 r h E hE
    rw [g_berth_LeaveOrder_L2.eq_2] at h
    refine Runs.sA 1 [.code (C_77 521416), .code (C_77 521417), .inLoop (C_77 260708), .inBlock 2, .inBlock 1, .code (C_77 16295), .inLoop (C_77 2036), .inBlock 0, .code (C_77 255)] ?_
    refine Runs.sR hE ⟨[(1, (encL Tapi_Call.cells Tapi_Call.d c)), (8, (.op 0 0 0)), (10, (.os 1 0 out.length)), (11, (.op 2 0 0)), (12, (.fn (.func 80) [] [(.op 0 0 0), (.op 2 0 0), (.op 4 0 0)])), (29, (aI ((rboxes.1.length : Nat) : Int))), (30, (aI x)), (33, (aI ((rboxes.1.length : Nat) : Int))), (34, (aI x2)), (35, (aB (decide (x2 < ((rboxes.1.length : Nat) : Int)))))], [(0, vO 1 [(encL Tberth_box.cells Tberth_box.d rboxes.1)]), (1, aO 1 cS ByteArray.empty out), (2, vN 1 [(.os 3 0 gone.length)]), (3, aO 1 cB false gone), (4, vO 6 (Tapi_Dock.cells d))], 21⟩ (C_77 521416) [] [] (kp [1, 8, 10, 11, 12, 29, 30, 33, 34, 35]) (kq [0, 1, 2, 3, 4]) 21 [] trivial ?_
    refine Runs.sA 1 [.code (C_77 1042834), .code (C_77 1042835), .inLoop (C_77 260708), .inBlock 2, .inBlock 1, .code (C_77 16295), .inLoop (C_77 2036), .inBlock 0, .code (C_77 255)] ?_
    refine Runs.sC 35 (C_77 2085668) (C_77 2085669) (decide (x2 < ((rboxes.1.length : Nat) : Int))) (fun hq4 => ?_) (fun hq4 => ?_)
    · have h := condT h hq4
      refine Runs.sA 4 [.code (C_77 8342680), .code (C_77 8342681), .inBlock 3, .code (C_77 2085671), .inLoop (C_77 260708), .inBlock 2, .inBlock 1, .code (C_77 16295), .inLoop (C_77 2036), .inBlock 0, .code (C_77 255)] ?_
      refine Runs.sR hE ⟨[(1, (encL Tapi_Call.cells Tapi_Call.d c)), (8, (.op 0 0 0)), (10, (.os 1 0 out.length)), (11, (.op 2 0 0)), (12, (.fn (.func 80) [] [(.op 0 0 0), (.op 2 0 0), (.op 4 0 0)])), (13, (aI x2)), (29, (aI ((rboxes.1.length : Nat) : Int))), (30, (aI x)), (33, (aI ((rboxes.1.length : Nat) : Int))), (34, (aI x2))], [(0, vO 1 [(encL Tberth_box.cells Tberth_box.d rboxes.1)]), (1, aO 1 cS ByteArray.empty out), (2, vN 1 [(.os 3 0 gone.length)]), (3, aO 1 cB false gone), (4, vO 6 (Tapi_Dock.cells d))], 53⟩ (C_77 8342680) [] [] (kp [1, 8, 10, 11, 12, 13, 29, 30, 33, 34]) (kq [0, 1, 2, 3, 4]) 53 [] trivial ?_
      refine Runs.sA 1 [.code (C_77 16685362), .code (C_77 16685363), .inBlock 3, .code (C_77 2085671), .inLoop (C_77 260708), .inBlock 2, .inBlock 1, .code (C_77 16295), .inLoop (C_77 2036), .inBlock 0, .code (C_77 255)] ?_
      obtain ⟨c3, h⟩ := ifSome h
      obtain ⟨rLeaveOrder1, hr2, h⟩ := bindSome h
      refine Runs.sR hE ⟨[(1, (encL Tapi_Call.cells Tapi_Call.d c)), (8, (.op 0 0 0)), (10, (.os 1 0 out.length)), (11, (.op 2 0 0)), (12, (.fn (.func 80) [] [(.op 0 0 0), (.op 2 0 0), (.op 4 0 0)])), (13, (aI x2)), (29, (aI ((rboxes.1.length : Nat) : Int))), (30, (aI x)), (33, (aI ((rboxes.1.length : Nat) : Int))), (34, (aI x2)), (46, (aB (cond (!(gone.getD ((x2).toNat) false)) rLeaveOrder1 false)))], [(0, vO 1 [(encL Tberth_box.cells Tberth_box.d rboxes.1)]), (1, aO 1 cS ByteArray.empty out), (2, vN 1 [(.os 3 0 gone.length)]), (3, aO 1 cB false gone), (4, vO 6 (Tapi_Dock.cells d))], 213⟩ (C_77 16685362) [(8, ⟨[0, 2, 3, 4], true, (aB rLeaveOrder1), [], 0, false, none⟩)] [] (kp [1, 8, 10, 11, 12, 13, 29, 30, 33, 34, 46]) (kq [0, 1, 2, 3, 4]) 213 [0 < 1, 0 ≤ x2 ∧ x2 < ((gone.length : Nat) : Int), (x2).toNat < gone.length, (!(gone.getD ((x2).toNat) false)) = true → AllP [Sound Try.prog 80 [(aI x2), (.op 0 0 0), (.op 1 0 0), (.op 3 0 0)] [(0, vO 1 [(encL Tberth_box.cells Tberth_box.d rboxes.1)]), (1, vN 1 [(.os 2 0 gone.length)]), (2, aO 1 cB false gone), (3, vO 6 (Tapi_Dock.cells d))] 4 (aB rLeaveOrder1) [(0, vO 1 [(encL Tberth_box.cells Tberth_box.d rboxes.1)]), (1, vN 1 [(.os 2 0 gone.length)]), (2, aO 1 cB false gone), (3, vO 6 (Tapi_Dock.cells d))], (!(gone.getD ((x2).toNat) false)) = true, (!(gone.getD ((x2).toNat) false)) = true], (!(gone.getD ((x2).toNat) false)) = true → AllP [(!(gone.getD ((x2).toNat) false)) = true]] ⟨o1, c3, (ltOf c3), (fun hg => ⟨(g_berth_LeaveOrder_1_ok N x2 rboxes.1 gone d rLeaveOrder1 (condT hr2 hg)), hg, hg, trivial⟩), (fun hq => ⟨hq, trivial⟩), trivial⟩ ?_
      refine Runs.sC 46 (C_77 33370726) (C_77 33370727) (cond (!(gone.getD ((x2).toNat) false)) rLeaveOrder1 false) (fun hq5 => ?_) (fun hq5 => ?_)
      · have h := condT h hq5
        refine Runs.sA 1 [.code (C_77 66741452), .code (C_77 66741453), .inBlock 3, .code (C_77 2085671), .inLoop (C_77 260708), .inBlock 2, .inBlock 1, .code (C_77 16295), .inLoop (C_77 2036), .inBlock 0, .code (C_77 255)] ?_
        refine Runs.sR hE ⟨[(1, (encL Tapi_Call.cells Tapi_Call.d c)), (8, (.op 0 0 0)), (10, (.os 1 0 out.length)), (11, (.op 2 0 0)), (12, (.fn (.func 80) [] [(.op 0 0 0), (.op 2 0 0), (.op 4 0 0)])), (13, (aI x2)), (29, (aI ((rboxes.1.length : Nat) : Int))), (30, (aI x))], [(0, vO 1 [(encL Tberth_box.cells Tberth_box.d rboxes.1)]), (1, aO 1 cS ByteArray.empty out), (2, vN 1 [(.os 3 0 ((gone.set ((x2).toNat) true).length))]), (3, aO 1 cB false (gone.set ((x2).toNat) true)), (4, vO 6 (Tapi_Dock.cells d))], 277⟩ (C_77 66741452) [] [] (kp [1, 8, 10, 11, 12, 13, 29, 30]) (kq [0, 1] ++ [(2, .var 2 [.osl ((gone.set ((x2).toNat) true).length)]), (3, .arr 3 ((gone.set ((x2).toNat) true).length) (fun zi => cB ((gone.set ((x2).toNat) true).getD zi false)))] ++ kq [4]) 277 [0 < 1, 0 ≤ x2 ∧ x2 < ((gone.length : Nat) : Int), (x2).toNat < gone.length, gone.length = (gone.set ((x2).toNat) true).length, gone.length = (gone.set ((x2).toNat) true).length, ∀ zi, zi < (gone.set ((x2).toNat) true).length → (fun zi => cB ((gone.set ((x2).toNat) true).getD zi false)) zi = ((fun zm => if zm = (x2).toNat then [(aB true)] else (fun zi => cB (gone.getD zi false)) zm)) zi] ⟨o1, c3, (ltOf c3), (len_set_raw rfl), (len_set_raw rfl), (get_set_raw cB false gone ((x2).toNat) true (fun _ _ => rfl)), trivial⟩ ?_
        refine Runs.sA 1 [.code (C_77 133482906), .code (C_77 133482907), .inBlock 3, .code (C_77 2085671), .inLoop (C_77 260708), .inBlock 2, .inBlock 1, .code (C_77 16295), .inLoop (C_77 2036), .inBlock 0, .code (C_77 255)] ?_
        obtain ⟨c4, h⟩ := ifSome h
        obtain ⟨c5, h⟩ := ifSome h
        refine Runs.sR hE ⟨[(1, (encL Tapi_Call.cells Tapi_Call.d c)), (8, (.op 0 0 0)), (10, (.os 389 0 ((out ++ ([(c.getD ((x2).toNat) Tapi_Call.d).f_Name] : List ByteArray)).length))), (11, (.op 2 0 0)), (12, (.fn (.func 80) [] [(.op 0 0 0), (.op 2 0 0), (.op 4 0 0)])), (29, (aI ((rboxes.1.length : Nat) : Int))), (30, (aI x))], [(0, vO 1 [(encL Tberth_box.cells Tberth_box.d rboxes.1)]), (2, vN 1 [(.os 3 0 ((gone.set ((x2).toNat) true).length))]), (3, aO 1 cB false (gone.set ((x2).toNat) true)), (4, vO 6 (Tapi_Dock.cells d)), (389, aO 1 cS ByteArray.empty (out ++ ([(c.getD ((x2).toNat) Tapi_Call.d).f_Name] : List ByteArray)))], 421⟩ (C_77 133482906) [] [] (kp [1, 8] ++ [(10, .osl ((out ++ ([(c.getD ((x2).toNat) Tapi_Call.d).f_Name] : List ByteArray)).length))] ++ kp [11, 12, 29, 30]) (kq [0, 2, 3, 4] ++ [(389, .arr 389 ((out ++ ([(c.getD ((x2).toNat) Tapi_Call.d).f_Name] : List ByteArray)).length) (fun zi => cS ((out ++ ([(c.getD ((x2).toNat) Tapi_Call.d).f_Name] : List ByteArray)).getD zi ByteArray.empty)))]) 421 [0 ≤ x2 ∧ x2 < ((c.length : Nat) : Int), out.length = out.length, (out.length + 1) * 16 ≤ 140737488355328, 0 + 1 ≤ 1, ∀ zi, zi < 1 → AV.oneL ((fun zi => ([[(aS ((c.getD ((x2).toNat) Tapi_Call.d).f_Name))]] : List (List AV)).getD zi []) (addz 0 zi)) = true, (out.length + 1) = (out ++ ([(c.getD ((x2).toNat) Tapi_Call.d).f_Name] : List ByteArray)).length, out.length + 1 = (out ++ ([(c.getD ((x2).toNat) Tapi_Call.d).f_Name] : List ByteArray)).length, ∀ zi, zi < (out ++ ([(c.getD ((x2).toNat) Tapi_Call.d).f_Name] : List ByteArray)).length → (fun zi => cS ((out ++ ([(c.getD ((x2).toNat) Tapi_Call.d).f_Name] : List ByteArray)).getD zi ByteArray.empty)) zi = ((fun zm => if zm < out.length then (fun zi => cS (out.getD zi ByteArray.empty)) zm else (fun zi => ([[(aS ((c.getD ((x2).toNat) Tapi_Call.d).f_Name))]] : List (List AV)).getD zi []) (zm - out.length))) zi] ⟨c4, rfl, c5, z0, (oneN rfl), (len_app_raw rfl rfl), (len_app_raw rfl rfl), (get_app_raw cS ByteArray.empty out ([(c.getD ((x2).toNat) Tapi_Call.d).f_Name] : List ByteArray) rfl (fun _ _ => rfl) (fun zq hzq => get_chunk cS ByteArray.empty ([(c.getD ((x2).toNat) Tapi_Call.d).f_Name] : List ByteArray) zq hzq)), trivial⟩ ?_
        refine Runs.sA 2 [.code (C_77 16295), .inLoop (C_77 2036), .inBlock 0, .code (C_77 255)] ?_
        exact Runs.sW hE _ [] (kp [1, 8, 10, 11, 12, 29, 30]) (kq [0] ++ [(1, .keep 389)] ++ kq [2, 3, 4]) 5 [] trivial (g_berth_LeaveOrder_J3_ok N d c rboxes x K_g_berth_LeaveOrder_L1 hK_g_berth_LeaveOrder_L1 (out ++ ([(c.getD ((x2).toNat) Tapi_Call.d).f_Name] : List ByteArray)) (gone.set ((x2).toNat) true) _ h E hE)
      · have h := condF h hq5
        refine Runs.sA 2 [.code (C_77 2085671), .inLoop (C_77 260708), .inBlock 2, .inBlock 1, .code (C_77 16295), .inLoop (C_77 2036), .inBlock 0, .code (C_77 255)] ?_
        refine Runs.sR hE ⟨[(1, (encL Tapi_Call.cells Tapi_Call.d c)), (8, (.op 0 0 0)), (10, (.os 1 0 out.length)), (11, (.op 2 0 0)), (12, (.fn (.func 80) [] [(.op 0 0 0), (.op 2 0 0), (.op 4 0 0)])), (29, (aI ((rboxes.1.length : Nat) : Int))), (30, (aI x)), (33, (aI ((rboxes.1.length : Nat) : Int))), (34, (aI (w64 (x2 + 1))))], [(0, vO 1 [(encL Tberth_box.cells Tberth_box.d rboxes.1)]), (1, aO 1 cS ByteArray.empty out), (2, vN 1 [(.os 3 0 gone.length)]), (3, aO 1 cB false gone), (4, vO 6 (Tapi_Dock.cells d))], 245⟩ (C_77 2085671) [] [] (kp [1, 8, 10, 11, 12, 29, 30, 33, 34]) (kq [0, 1, 2, 3, 4]) 245 [] trivial ?_
        refine Runs.sA 1 [.code (C_77 260708), .inLoop (C_77 260708), .inBlock 2, .inBlock 1, .code (C_77 16295), .inLoop (C_77 2036), .inBlock 0, .code (C_77 255)] ?_
        exact Runs.sW hE _ [] (kp [1, 8, 10, 11, 12, 29, 30, 33, 34]) (kq [0, 1, 2, 3, 4]) 5 [] trivial (ih (w64 (x2 + 1)) _ h E hE)
    · have h := condF h hq4
      refine Runs.sA 2 [.code (C_77 16295), .inLoop (C_77 2036), .inBlock 0, .code (C_77 255)] ?_
      exact Runs.sW hE _ [] (kp [1, 8, 10, 11, 12, 29, 30]) (kq [0, 1, 2, 3, 4]) 5 [] trivial (g_berth_LeaveOrder_J3_ok N d c rboxes x K_g_berth_LeaveOrder_L1 hK_g_berth_LeaveOrder_L1 out gone _ h E hE)

theorem g_berth_LeaveOrder_L1_ok (N : Nat) (d : Tapi_Dock) (c : List Tapi_Call) (rboxes : (List Tberth_box) × Int) (fuel : Nat) : ∀ (out : List ByteArray) (gone : List Bool) (x : Int) (r : (List ByteArray) × Int), g_berth_LeaveOrder_L1 N d c rboxes fuel out gone x = some r → ∀ E, EnvOk E 0 → Runs Try.prog E 39 61 (SPost E [] (.tup [(encL cS ByteArray.empty r.1), (aI r.2)])) [.code (C_77 2036), .inLoop (C_77 2036), .inBlock 0, .code (C_77 255)] ⟨[(1, (encL Tapi_Call.cells Tapi_Call.d c)), (8, (.op 0 0 0)), (10, (.os 1 0 out.length)), (11, (.op 2 0 0)), (12, (.fn (.func 80) [] [(.op 0 0 0), (.op 2 0 0), (.op 4 0 0)])), (29, (aI ((rboxes.1.length : Nat) : Int))), (30, (aI x))], [(0, vO 1 [(encL Tberth_box.cells Tberth_box.d rboxes.1)]), (1, aO 1 cS ByteArray.empty out), (2, vN 1 [(.os 3 0 gone.length)]), (3, aO 1 cB false gone), (4, vO 6 (Tapi_Dock.cells d))], 5⟩ := by
  induction fuel with
  | zero => intro _ _ _ r h; rw [g_berth_LeaveOrder_L1.eq_1] at h; cases h
  | succ fuel ih =>
    intro out gone x r h E hE
    rw [g_berth_LeaveOrder_L1.eq_2] at h
    refine Runs.sA 1 [.code (C_77 4072), .code (C_77 4073), .inLoop (C_77 2036), .inBlock 0, .code (C_77 255)] ?_
    refine Runs.sR hE ⟨[(1, (encL Tapi_Call.cells Tapi_Call.d c)), (8, (.op 0 0 0)), (10, (.os 1 0 out.length)), (11, (.op 2 0 0)), (12, (.fn (.func 80) [] [(.op 0 0 0), (.op 2 0 0), (.op 4 0 0)])), (29, (aI ((rboxes.1.length : Nat) : Int))), (30, (aI x)), (31, (aB (decide (x < ((rboxes.1.length : Nat) : Int)))))], [(0, vO 1 [(encL Tberth_box.cells Tberth_box.d rboxes.1)]), (1, aO 1 cS ByteArray.empty out), (2, vN 1 [(.os 3 0 gone.length)]), (3, aO 1 cB false gone), (4, vO 6 (Tapi_Dock.cells d))], 21⟩ (C_77 4072) [] [] (kp [1, 8, 10, 11, 12, 29, 30, 31]) (kq [0, 1, 2, 3, 4]) 21 [] trivial ?_
    refine Runs.sA 1 [.code (C_77 8146), .code (C_77 8147), .inLoop (C_77 2036), .inBlock 0, .code (C_77 255)] ?_
    refine Runs.sC 31 (C_77 16292) (C_77 16293) (decide (x < ((rboxes.1.length : Nat) : Int))) (fun hq3 => ?_) (fun hq3 => ?_)
    · have h := condT h hq3
      refine Runs.sA 4 [.code (C_77 65176), .code (C_77 65177), .inBlock 1, .code (C_77 16295), .inLoop (C_77 2036), .inBlock 0, .code (C_77 255)] ?_
      refine Runs.sR hE ⟨[(1, (encL Tapi_Call.cells Tapi_Call.d c)), (8, (.op 0 0 0)), (10, (.os 1 0 out.length)), (11, (.op 2 0 0)), (12, (.fn (.func 80) [] [(.op 0 0 0), (.op 2 0 0), (.op 4 0 0)])), (29, (aI ((rboxes.1.length : Nat) : Int))), (30, (aI x)), (33, (aI ((rboxes.1.length : Nat) : Int))), (34, (aI 0))], [(0, vO 1 [(encL Tberth_box.cells Tberth_box.d rboxes.1)]), (1, aO 1 cS ByteArray.empty out), (2, vN 1 [(.os 3 0 gone.length)]), (3, aO 1 cB false gone), (4, vO 6 (Tapi_Dock.cells d))], 69⟩ (C_77 65176) [] [] (kp [1, 8, 10, 11, 12, 29, 30, 33, 34]) (kq [0, 1, 2, 3, 4]) 69 [0 < 1] ⟨o1, trivial⟩ ?_
      refine Runs.sA 2 [.code (C_77 260708), .inLoop (C_77 260708), .inBlock 2, .inBlock 1, .code (C_77 16295), .inLoop (C_77 2036), .inBlock 0, .code (C_77 255)] ?_
      exact Runs.sW hE _ [] (kp [1, 8, 10, 11, 12, 29, 30, 33, 34]) (kq [0, 1, 2, 3, 4]) 5 [] trivial (g_berth_LeaveOrder_L2_ok N d c rboxes out gone x (g_berth_LeaveOrder_L1 N d c rboxes fuel) ih N 0 _ h E hE)
    · have h := condF h hq3
      refine Runs.sA 2 [.code (C_77 510), .code (C_77 511)] ?_
      refine Runs.sR hE ⟨[(6, (.os 1 0 out.length)), (7, (aI 0))], [(1, aO 1 cS ByteArray.empty out)], 69⟩ (C_77 510) [] [] (kp [6, 7]) (kq [1]) 69 [] trivial ?_
      obtain rfl := Option.some.inj h
      refine Runs.sW hE ⟨[(6, (encL cS ByteArray.empty out)), (7, (aI 0))], [], 69⟩ [1] ([(6, .sl (out.length) (fun zi => cS (out.getD zi ByteArray.empty)))] ++ kp [7]) [] 69 [out.length = out.length, 0 + out.length ≤ out.length, ∀ zi, zi < out.length → (fun zi => cS (out.getD zi ByteArray.empty)) zi = (fun zi => cS (out.getD zi ByteArray.empty)) (addz 0 zi)] ⟨rfl, z0, (fun _ _ => rfl), trivial⟩ ?_
      exact Runs.sT Try.f39 [] [] trivial

theorem g_berth_LeaveOrder_ok (N : Nat) (d : Tapi_Dock) (c : List Tapi_Call) (s : List Tapi_Spot) (r : (List ByteArray) × Int) (h : g_berth_LeaveOrder N d c s = some r) : Sound Try.prog 39 [(.agg (Tapi_Dock.cells d)), (encL Tapi_Call.cells Tapi_Call.d c), (encL Tapi_Spot.cells Tapi_Spot.d s)] [] 0 (.tup [(encL cS ByteArray.empty r.1), (aI r.2)]) [] := by
  unfold g_berth_LeaveOrder at h
  refine Sound.of_runs (fu := Try.f39) (c := C_77 1) (nt := 61) (by kernel_rfl) (by kernel_rfl) (by kernel_rfl) (by kernel_rfl) (fun hm => rfl) ?_
  intro E hE
  refine Runs.sA 1 [.code (C_77 2), .code (C_77 3)] ?_
  refine Runs.sR hE ⟨[(1, (encL Tapi_Call.cells Tapi_Call.d c)), (2, (encL Tapi_Spot.cells Tapi_Spot.d s)), (3, (.op 0 0 0))], [(0, vO 6 (Tapi_Dock.cells d))], 48⟩ (C_77 2) [] [] (kp [1, 2, 3]) (kq [0]) 48 [] trivial ?_
  refine Runs.sA 1 [.code (C_77 6), .code (C_77 7)] ?_
  obtain ⟨rboxes, hr, h⟩ := bindSome h
  refine Runs.sR hE ⟨[(1, (encL Tapi_Call.cells Tapi_Call.d c)), (3, (.op 0 0 0)), (8, (.op 160 0 0)), (9, (aI rboxes.2))], [(0, vO 6 (Tapi_Dock.cells d)), (160, vO 1 [(encL Tberth_box.cells Tberth_box.d rboxes.1)])], 208⟩ (C_77 6) [(3, ⟨[], true, (.tup [(encL Tberth_box.cells Tberth_box.d rboxes.1), (aI rboxes.2)]), [], 0, false, none⟩)] [] (kp [1, 3, 8, 9]) (kq [0, 160]) 208 [0 < 1, Sound Try.prog 78 [(.agg (Tapi_Dock.cells d)), (encL Tapi_Call.cells Tapi_Call.d c), (encL Tapi_Spot.cells Tapi_Spot.d s)] [] 0 (.tup [(encL Tberth_box.cells Tberth_box.d rboxes.1), (aI rboxes.2)]) [], 0 < 1] ⟨o1, (g_berth_boxes_ok N d c s rboxes hr), o1, trivial⟩ ?_
  refine Runs.sA 2 [.code (C_77 28), .code (C_77 29), .code (C_77 15)] ?_
  refine Runs.sR hE ⟨[(1, (encL Tapi_Call.cells Tapi_Call.d c)), (3, (.op 0 0 0)), (8, (.op 160 0 0)), (9, (aI rboxes.2)), (22, (aB (rboxes.2 != 0)))], [(0, vO 6 (Tapi_Dock.cells d)), (160, vO 1 [(encL Tberth_box.cells Tberth_box.d rboxes.1)])], 240⟩ (C_77 28) [] [] (kp [1, 3, 8, 9, 22]) (kq [0, 160]) 240 [] trivial ?_
  refine Runs.sC 22 (C_77 58) (C_77 59) (rboxes.2 != 0) (fun hq2 => ?_) (fun hq2 => ?_)
  · have h := condT h hq2
    refine Runs.sA 1 [.code (C_77 116), .code (C_77 117), .code (C_77 15)] ?_
    refine Runs.sR hE ⟨[(6, .nil), (7, (aI rboxes.2))], [], 288⟩ (C_77 116) [] [] (kp [6, 7]) [] 288 [] trivial ?_
    obtain rfl := Option.some.inj h
    refine Runs.sW hE ⟨[(6, (encL cS ByteArray.empty ([] : List ByteArray))), (7, (aI rboxes.2))], [], 288⟩ [] ([(6, .sl (([] : List ByteArray).length) (fun zi => cS (([] : List ByteArray).getD zi ByteArray.empty)))] ++ kp [7]) [] 288 [([] : List ByteArray).length = 0] ⟨rfl, trivial⟩ ?_
    exact Runs.sT Try.f39 [] [] trivial
  · have h := condF h hq2
    refine Runs.sA 2 [.code (C_77 30), .code (C_77 31)] ?_
    refine Runs.sR hE ⟨[(1, (encL Tapi_Call.cells Tapi_Call.d c)), (3, (.op 0 0 0)), (8, (.op 160 0 0)), (10, .nil)], [(0, vO 6 (Tapi_Dock.cells d)), (160, vO 1 [(encL Tberth_box.cells Tberth_box.d rboxes.1)])], 256⟩ (C_77 30) [] [] (kp [1, 3, 8, 10]) (kq [0, 160]) 256 [] trivial ?_
    refine Runs.sA 1 [.code (C_77 62), .code (C_77 63)] ?_
    obtain ⟨c2, h⟩ := ifSome h
    refine Runs.sR hE ⟨[(1, (encL Tapi_Call.cells Tapi_Call.d c)), (3, (.op 0 0 0)), (8, (.op 160 0 0)), (10, .nil), (11, (.op 304 0 0))], [(0, vO 6 (Tapi_Dock.cells d)), (160, vO 1 [(encL Tberth_box.cells Tberth_box.d rboxes.1)]), (288, aO 1 cB false (List.replicate rboxes.1.length false : List Bool)), (304, vN 1 [(.os 288 0 ((List.replicate rboxes.1.length false : List Bool).length))])], 336⟩ (C_77 62) [] [] (kp [1, 3, 8, 10, 11]) (kq [0, 160] ++ [(288, .arr 288 ((List.replicate rboxes.1.length false : List Bool).length) (fun zi => cB ((List.replicate rboxes.1.length false : List Bool).getD zi false))), (304, .var 304 [.osl ((List.replicate rboxes.1.length false : List Bool).length)])]) 336 [0 < 1, 0 ≤ ((rboxes.1.length : Nat) : Int), ((rboxes.1.length : Nat) : Int) ≤ ((rboxes.1.length : Nat) : Int), (1 : Int) * ((rboxes.1.length : Nat) : Int) ≤ 281474976710656, ((rboxes.1.length : Nat) : Int) ≤ 9223372036854775807, 0 < 1, rboxes.1.length = (List.replicate rboxes.1.length false : List Bool).length, ∀ zi, zi < (List.replicate rboxes.1.length false : List Bool).length → (fun zi => cB ((List.replicate rboxes.1.length false : List Bool).getD zi false)) zi = (fun _ => [(aB false)]) zi, rboxes.1.length = (List.replicate rboxes.1.length false : List Bool).length] ⟨o1, c2.1, (Int.le_refl _), c2.2.1, c2.2.2, o1, (List.length_replicate).symm, (fun zq hzq => get_rep cB false false rboxes.1.length zq hzq), (List.length_replicate).symm, trivial⟩ ?_
    refine Runs.sA 1 [.code (C_77 126), .code (C_77 127)] ?_
    refine Runs.sR hE ⟨[(1, (encL Tapi_Call.cells Tapi_Call.d c)), (8, (.op 160 0 0)), (10, .nil), (11, (.op 304 0 0)), (12, (.fn (.func 80) [] [(.op 160 0 0), (.op 304 0 0), (.op 0 0 0)]))], [(0, vO 6 (Tapi_Dock.cells d)), (160, vO 1 [(encL Tberth_box.cells Tberth_box.d rboxes.1)]), (288, aO 1 cB false (List.replicate rboxes.1.length false : List Bool)), (304, vN 1 [(.os 288 0 ((List.replicate rboxes.1.length false : List Bool).length))])], 368⟩ (C_77 126) [] [] (kp [1, 8, 10, 11, 12]) (kq [0, 160, 288, 304]) 368 [] trivial ?_
    refine Runs.sA 2 [.code (C_77 508), .code (C_77 509), .code (C_77 255)] ?_
    refine Runs.sR hE ⟨[(1, (encL Tapi_Call.cells Tapi_Call.d c)), (8, (.op 160 0 0)), (10, .nil), (11, (.op 304 0 0)), (12, (.fn (.func 80) [] [(.op 160 0 0), (.op 304 0 0), (.op 0 0 0)])), (29, (aI ((rboxes.1.length : Nat) : Int))), (30, (aI 0))], [(0, vO 6 (Tapi_Dock.cells d)), (160, vO 1 [(encL Tberth_box.cells Tberth_box.d rboxes.1)]), (288, aO 1 cB false (List.replicate rboxes.1.length false : List Bool)), (304, vN 1 [(.os 288 0 ((List.replicate rboxes.1.length false : List Bool).length))])], 416⟩ (C_77 508) [] [] (kp [1, 8, 10, 11, 12, 29, 30]) (kq [0, 160, 288, 304]) 416 [0 < 1] ⟨o1, trivial⟩ ?_
    refine Runs.sA 2 [.code (C_77 2036), .inLoop (C_77 2036), .inBlock 0, .code (C_77 255)] ?_
    exact Runs.sW hE _ [] (kp [1, 8] ++ [(10, .nilos 1)] ++ kp [11, 12, 29, 30]) [(0, .keep 160), (1, .nil 1 (fun zi => cS (([] : List ByteArray).getD zi ByteArray.empty))), (2, .keep 304), (3, .keep 288), (4, .keep 0)] 5 [] trivial (g_berth_LeaveOrder_L1_ok N d c rboxes N ([] : List ByteArray) (List.replicate rboxes.1.length false : List Bool) 0 _ h E hE)

noncomputable def C_79 (n : Nat) : Code := cat (bodyOf Try.f40) (pth n)

theorem g_berth_CheckPlan_ok (N : Nat) (d : Tapi_Dock) (c : List Tapi_Call) (s : List Tapi_Spot) (r : Int) (h : g_berth_CheckPlan N d c s = some r) : Sound Try.prog 40 [(.agg (Tapi_Dock.cells d)), (encL Tapi_Call.cells Tapi_Call.d c), (encL Tapi_Spot.cells Tapi_Spot.d s)] [] 0 (aI r) [] := by
  unfold g_berth_CheckPlan at h
  refine Sound.of_runs (fu := Try.f40) (c := C_79 1) (nt := 17) (by kernel_rfl) (by kernel_rfl) (by kernel_rfl) (by kernel_rfl) (fun hm => rfl) ?_
  intro E hE
  refine Runs.sA 1 [.code (C_79 2), .code (C_79 3)] ?_
  refine Runs.sR hE ⟨[(1, (encL Tapi_Call.cells Tapi_Call.d c)), (2, (encL Tapi_Spot.cells Tapi_Spot.d s)), (3, (.op 0 0 0))], [(0, vO 6 (Tapi_Dock.cells d))], 32⟩ (C_79 2) [] [] (kp [1, 2, 3]) (kq [0]) 32 [] trivial ?_
  refine Runs.sA 1 [.code (C_79 6), .code (C_79 7)] ?_
  obtain ⟨rboxes, hr, h⟩ := bindSome h
  refine Runs.sR hE ⟨[(8, (aI rboxes.2))], [], 176⟩ (C_79 6) [(3, ⟨[], true, (.tup [(encL Tberth_box.cells Tberth_box.d rboxes.1), (aI rboxes.2)]), [], 0, false, none⟩)] [] (kp [8]) [] 176 [0 < 1, Sound Try.prog 78 [(.agg (Tapi_Dock.cells d)), (encL Tapi_Call.cells Tapi_Call.d c), (encL Tapi_Spot.cells Tapi_Spot.d s)] [] 0 (.tup [(encL Tberth_box.cells Tberth_box.d rboxes.1), (aI rboxes.2)]) []] ⟨o1, (g_berth_boxes_ok N d c s rboxes hr), trivial⟩ ?_
  refine Runs.sA 1 [.code (C_79 14), .code (C_79 15)] ?_
  refine Runs.sR hE ⟨[(6, (aI rboxes.2))], [], 208⟩ (C_79 14) [] [] (kp [6]) [] 208 [] trivial ?_
  obtain rfl := Option.some.inj h
  refine Runs.sW hE ⟨[(6, (aI rboxes.2))], [], 208⟩ [] (kp [6]) [] 208 [] trivial ?_
  exact Runs.sT Try.f40 [] [] trivial

end Go.Den
