/- Each function of the program does what its Lean function computes (part 1). No conditions. -/
import Derived.Test.YtakkcneiophofaaExactChecksDen
import Derived.Test.YtakkcneiophofaaProg
set_option linter.unusedVariables false
set_option maxRecDepth 100000
namespace Go.Den
open Go.Ab Go.Proofs
noncomputable def C_4 (n : Nat) : Code := cat (bodyOf Try.f150) (pth n)
theorem g_b_limbs_L1_ok (N : Nat) (fuel : Nat) : ∀ (n2 : Int) (out : List Int) (r : (List Int)), g_b_limbs_L1 N fuel n2 out = some r → ∀ E, EnvOk E 0 → Runs Try.prog E 150 15 (SPost E [] (encL (cU .u16) 0 r)) [.code (C_4 56), .inLoop (C_4 56), .inBlock 0, .code (C_4 15)] ⟨[(0, (.atom (.int .u64 n2))), (3, (.os 0 0 out.length))], [(0, aO 1 (cU .u16) 0 out)], 1⟩ := by
  induction fuel with
  | zero => intro _ _ r h; rw [g_b_limbs_L1.eq_1] at h; cases h
  | succ fuel ih =>
    intro n2 out r h E hE
    rw [g_b_limbs_L1.eq_2] at h
    refine Runs.sA 2 [.code (C_4 224), .code (C_4 225), .code (C_4 113), .inLoop (C_4 56), .inBlock 0, .code (C_4 15)] ?_
    refine Runs.sR hE ⟨[(0, (.atom (.int .u64 n2))), (3, (.os 0 0 out.length)), (5, (aB (decide (n2 > 0))))], [(0, aO 1 (cU .u16) 0 out)], 33⟩ (C_4 224) [] [] (kp [0, 3, 5]) (kq [0]) 33 [] trivial ?_
    refine Runs.sC 5 (C_4 450) (C_4 451) (decide (n2 > 0)) (fun hq2 => ?_) (fun hq2 => ?_)
    · have h := condT h hq2
      refine Runs.sA 3 [.code (C_4 452), .inBlock 1, .code (C_4 227), .inLoop (C_4 56), .inBlock 0, .code (C_4 15)] ?_
      obtain ⟨c, h⟩ := ifSome h
      refine Runs.sR hE ⟨[(0, (.atom (.int .u64 n2))), (3, (.os 113 0 ((out ++ ([(IntKind.u16.wrap ((andI .u64 n2 65535)))] : List Int)).length)))], [(113, aO 1 (cU .u16) 0 (out ++ ([(IntKind.u16.wrap ((andI .u64 n2 65535)))] : List Int)))], 145⟩ (C_4 452) [] [] (kp [0] ++ [(3, .osl ((out ++ ([(IntKind.u16.wrap ((andI .u64 n2 65535)))] : List Int)).length))]) [(113, .arr 113 ((out ++ ([(IntKind.u16.wrap ((andI .u64 n2 65535)))] : List Int)).length) (fun zi => (cU .u16) ((out ++ ([(IntKind.u16.wrap ((andI .u64 n2 65535)))] : List Int)).getD zi 0)))] 145 [out.length = out.length, (out.length + 1) * 2 ≤ 140737488355328, 0 + 1 ≤ 1, ∀ zi, zi < 1 → AV.oneL ((fun zi => ([[(.atom (.int .u16 (IntKind.u16.wrap ((andI .u64 n2 65535)))))]] : List (List AV)).getD zi []) (addz 0 zi)) = true, (out.length + 1) = (out ++ ([(IntKind.u16.wrap ((andI .u64 n2 65535)))] : List Int)).length, out.length + 1 = (out ++ ([(IntKind.u16.wrap ((andI .u64 n2 65535)))] : List Int)).length, ∀ zi, zi < (out ++ ([(IntKind.u16.wrap ((andI .u64 n2 65535)))] : List Int)).length → (fun zi => (cU .u16) ((out ++ ([(IntKind.u16.wrap ((andI .u64 n2 65535)))] : List Int)).getD zi 0)) zi = ((fun zm => if zm < out.length then (fun zi => (cU .u16) (out.getD zi 0)) zm else (fun zi => ([[(.atom (.int .u16 (IntKind.u16.wrap ((andI .u64 n2 65535)))))]] : List (List AV)).getD zi []) (zm - out.length))) zi] ⟨rfl, c, z0, (oneN rfl), (len_app_raw rfl rfl), (len_app_raw rfl rfl), (get_app_raw (cU .u16) 0 out ([(IntKind.u16.wrap ((andI .u64 n2 65535)))] : List Int) rfl (fun _ _ => rfl) (fun zq hzq => get_chunk (cU .u16) 0 ([(IntKind.u16.wrap ((andI .u64 n2 65535)))] : List Int) zq hzq)), trivial⟩ ?_
      refine Runs.sA 1 [.code (C_4 227), .inLoop (C_4 56), .inBlock 0, .code (C_4 15)] ?_
      refine Runs.sR hE ⟨[(0, (.atom (.int .u64 (shrI .u64 n2 16)))), (3, (.os 113 0 ((out ++ ([(IntKind.u16.wrap ((andI .u64 n2 65535)))] : List Int)).length)))], [(113, aO 1 (cU .u16) 0 (out ++ ([(IntKind.u16.wrap ((andI .u64 n2 65535)))] : List Int)))], 193⟩ (C_4 227) [] [] (kp [0, 3]) (kq [113]) 193 [(0 : Int) ≤ 16] ⟨(by decide), trivial⟩ ?_
      refine Runs.sA 1 [.code (C_4 56), .inLoop (C_4 56), .inBlock 0, .code (C_4 15)] ?_
      exact Runs.sW hE _ [] (kp [0, 3]) [(0, .keep 113)] 1 [] trivial (ih (shrI .u64 n2 16) (out ++ ([(IntKind.u16.wrap ((andI .u64 n2 65535)))] : List Int)) _ h E hE)
    · have h := condF h hq2
      refine Runs.sA 2 [.code (C_4 30), .code (C_4 31)] ?_
      refine Runs.sR hE ⟨[(2, (.os 0 0 out.length))], [(0, aO 1 (cU .u16) 0 out)], 65⟩ (C_4 30) [] [] (kp [2]) (kq [0]) 65 [] trivial ?_
      obtain rfl := Option.some.inj h
      refine Runs.sW hE ⟨[(2, (encL (cU .u16) 0 out))], [], 65⟩ [0] [(2, .sl (out.length) (fun zi => (cU .u16) (out.getD zi 0)))] [] 65 [out.length = out.length, 0 + out.length ≤ out.length, ∀ zi, zi < out.length → (fun zi => (cU .u16) (out.getD zi 0)) zi = (fun zi => (cU .u16) (out.getD zi 0)) (addz 0 zi)] ⟨rfl, z0, (fun _ _ => rfl), trivial⟩ ?_
      exact Runs.sT Try.f150 [] [] trivial
theorem g_b_limbs_ok (N : Nat) (n : Int) (r : (List Int)) (h : g_b_limbs N n = some r) : Sound Try.prog 150 [(.atom (.int .u64 n))] [] 0 (encL (cU .u16) 0 r) [] := by
  unfold g_b_limbs at h
  refine Sound.of_runs (fu := Try.f150) (c := C_4 1) (nt := 15) (by kernel_rfl) (by kernel_rfl) (by kernel_rfl) (by kernel_rfl) (fun hm => rfl) ?_
  intro E hE
  refine Runs.sA 1 [.code (C_4 2), .code (C_4 3)] ?_
  refine Runs.sR hE ⟨[(0, (.atom (.int .u64 n)))], [], 16⟩ (C_4 2) [] [] (kp [0]) [] 16 [] trivial ?_
  refine Runs.sA 1 [.code (C_4 6), .code (C_4 7)] ?_
  refine Runs.sR hE ⟨[(0, (.atom (.int .u64 n))), (3, .nil)], [], 32⟩ (C_4 6) [] [] (kp [0, 3]) [] 32 [] trivial ?_
  refine Runs.sA 3 [.code (C_4 56), .inLoop (C_4 56), .inBlock 0, .code (C_4 15)] ?_
  exact Runs.sW hE _ [] (kp [0] ++ [(3, .nilos 0)]) [(0, .nil 1 (fun zi => (cU .u16) (([] : List Int).getD zi 0)))] 1 [] trivial (g_b_limbs_L1_ok N N n ([] : List Int) _ h E hE)
noncomputable def C_3 (n : Nat) : Code := cat (bodyOf Try.f89) (pth n)
theorem g_b_Z_ok (N : Nat) (n : Int) (r : TInt) (h : g_b_Z N n = some r) : Sound Try.prog 89 [(aI n)] [] 0 (.agg (TInt.cells r)) [] := by
  unfold g_b_Z at h
  refine Sound.of_runs (fu := Try.f89) (c := C_3 1) (nt := 16) (by kernel_rfl) (by kernel_rfl) (by kernel_rfl) (by kernel_rfl) (fun hm => rfl) ?_
  intro E hE
  refine Runs.sA 1 [.code (C_3 2), .code (C_3 3)] ?_
  refine Runs.sR hE ⟨[(0, (aI n)), (2, (.op 0 0 0))], [(0, vO 2 [(aB false), .nil])], 16⟩ (C_3 2) [] [] (kp [0, 2]) (kq [0]) 16 [] trivial ?_
  refine Runs.sA 2 [.code (C_3 12), .code (C_3 13), .code (C_3 7)] ?_
  refine Runs.sR hE ⟨[(0, (aI n)), (2, (.op 0 0 0)), (4, (aB (decide (n < 0))))], [(0, vO 2 [(aB false), .nil])], 48⟩ (C_3 12) [] [] (kp [0, 2, 4]) (kq [0]) 48 [] trivial ?_
  refine Runs.sC 4 (C_3 26) (C_3 27) (decide (n < 0)) (fun hq2 => ?_) (fun hq2 => ?_)
  · have h := condT h hq2
    refine Runs.sA 1 [.code (C_3 52), .code (C_3 53), .code (C_3 7)] ?_
    obtain ⟨rlimbs, hr, h⟩ := bindSome h
    refine Runs.sR hE ⟨[(2, (.op 0 0 0))], [(0, vO 2 [(aB true), (encL (cU .u16) 0 rlimbs)])], 176⟩ (C_3 52) [(5, ⟨[], true, (encL (cU .u16) 0 rlimbs), [], 0, false, none⟩)] [] (kp [2]) (kq [0]) 176 [Sound Try.prog 150 [(.atom (.int .u64 (IntKind.u64.wrap ((IntKind.u64.wrap ((w64 (0 - (w64 (n + 1)))))) + 1))))] [] 0 (encL (cU .u16) 0 rlimbs) [], 0 < 1] ⟨(g_b_limbs_ok N (IntKind.u64.wrap ((IntKind.u64.wrap ((w64 (0 - (w64 (n + 1)))))) + 1)) rlimbs hr), o1, trivial⟩ ?_
    obtain rfl := Option.some.inj h
    refine Runs.sW hE ⟨[(2, (.op 16 0 0))], [(16, vO 2 [(aB true), (encL (cU .u16) 0 rlimbs)])], 176⟩ [] (kp [2]) [(16, .keep 0)] 176 [] trivial ?_
    exact Runs.sT Try.f89 [16] [0 < 1] ⟨o1, trivial⟩
  · have h := condF h hq2
    refine Runs.sA 2 [.code (C_3 14), .code (C_3 15)] ?_
    obtain ⟨rlimbs2, hr2, h⟩ := bindSome h
    refine Runs.sR hE ⟨[(2, (.op 0 0 0))], [(0, vO 2 [(aB false), (encL (cU .u16) 0 rlimbs2)])], 128⟩ (C_3 14) [(2, ⟨[], true, (encL (cU .u16) 0 rlimbs2), [], 0, false, none⟩)] [] (kp [2]) (kq [0]) 128 [Sound Try.prog 150 [(.atom (.int .u64 (IntKind.u64.wrap (n))))] [] 0 (encL (cU .u16) 0 rlimbs2) [], 0 < 1] ⟨(g_b_limbs_ok N (IntKind.u64.wrap (n)) rlimbs2 hr2), o1, trivial⟩ ?_
    obtain rfl := Option.some.inj h
    refine Runs.sW hE ⟨[(2, (.op 16 0 0))], [(16, vO 2 [(aB false), (encL (cU .u16) 0 rlimbs2)])], 128⟩ [] (kp [2]) [(16, .keep 0)] 128 [] trivial ?_
    exact Runs.sT Try.f89 [16] [0 < 1] ⟨o1, trivial⟩
noncomputable def C_6 (n : Nat) : Code := cat (bodyOf Try.f92) (pth n)
theorem g_e_trim_L1_ok (N : Nat) (fuel : Nat) : ∀ (n2 : List Int) (r : (List Int)), g_e_trim_L1 N fuel n2 = some r → ∀ E, EnvOk E 0 → Runs Try.prog E 92 21 (SPost E [] (encL (cU .u16) 0 r)) [.code (C_6 24), .inLoop (C_6 24), .inBlock 0, .code (C_6 7)] ⟨[(0, (encL (cU .u16) 0 n2))], [], 0⟩ := by
  induction fuel with
  | zero => intro _ r h; rw [g_e_trim_L1.eq_1] at h; cases h
  | succ fuel ih =>
    intro n2 r h E hE
    rw [g_e_trim_L1.eq_2] at h
    refine Runs.sA 2 [.code (C_6 96), .code (C_6 97), .code (C_6 49), .inLoop (C_6 24), .inBlock 0, .code (C_6 7)] ?_
    obtain ⟨c, h⟩ := ifSome h
    refine Runs.sR hE ⟨[(0, (encL (cU .u16) 0 n2)), (14, (aB (cond (decide (((n2.length : Nat) : Int) > 0)) ((n2.getD ((w64 (((n2.length : Nat) : Int) - 1)).toNat) 0) == 0) false)))], [], 192⟩ (C_6 96) [] [] (kp [0, 14]) [] 192 [(decide (((n2.length : Nat) : Int) > 0)) = true → AllP [(decide (((n2.length : Nat) : Int) > 0)) = true], (decide (((n2.length : Nat) : Int) > 0)) = true → AllP [(decide (((n2.length : Nat) : Int) > 0)) = true], (decide (((n2.length : Nat) : Int) > 0)) = true → AllP [(decide (((n2.length : Nat) : Int) > 0)) = true, (decide (((n2.length : Nat) : Int) > 0)) = true, 0 ≤ (w64 (((n2.length : Nat) : Int) - 1)) ∧ (w64 (((n2.length : Nat) : Int) - 1)) < ((n2.length : Nat) : Int)], (decide (((n2.length : Nat) : Int) > 0)) = true → AllP [(decide (((n2.length : Nat) : Int) > 0)) = true], (decide (((n2.length : Nat) : Int) > 0)) = true → AllP [(decide (((n2.length : Nat) : Int) > 0)) = true], (decide (((n2.length : Nat) : Int) > 0)) = true → AllP [(decide (((n2.length : Nat) : Int) > 0)) = true]] ⟨(fun hg => ⟨hg, trivial⟩), (fun hg => ⟨hg, trivial⟩), (fun hg => ⟨hg, hg, (c hg), trivial⟩), (fun hg => ⟨hg, trivial⟩), (fun hg => ⟨hg, trivial⟩), (fun hq => ⟨hq, trivial⟩), trivial⟩ ?_
    refine Runs.sC 14 (C_6 194) (C_6 195) (cond (decide (((n2.length : Nat) : Int) > 0)) ((n2.getD ((w64 (((n2.length : Nat) : Int) - 1)).toNat) 0) == 0) false) (fun hq2 => ?_) (fun hq2 => ?_)
    · have h := condT h hq2
      refine Runs.sA 2 [.code (C_6 98), .inBlock 1, .inLoop (C_6 24), .inBlock 0, .code (C_6 7)] ?_
      obtain ⟨c2, h⟩ := ifSome h
      obtain ⟨c3, h⟩ := ifSome h
      refine Runs.sR hE ⟨[(0, (encL (cU .u16) 0 ((n2.take ((w64 (((n2.length : Nat) : Int) - 1)).toNat)).drop 0)))], [], 288⟩ (C_6 98) [] [] [(0, .sl (((n2.take ((w64 (((n2.length : Nat) : Int) - 1)).toNat)).drop 0).length) (fun zi => (cU .u16) (((n2.take ((w64 (((n2.length : Nat) : Int) - 1)).toNat)).drop 0).getD zi 0)))] [] 288 [0 ≤ (w64 (((n2.length : Nat) : Int) - 1)).toNat ∧ (w64 (((n2.length : Nat) : Int) - 1)).toNat ≤ n2.length, 0 ≤ (w64 (((n2.length : Nat) : Int) - 1)), (w64 (((n2.length : Nat) : Int) - 1)).toNat - 0 = ((n2.take ((w64 (((n2.length : Nat) : Int) - 1)).toNat)).drop 0).length, ∀ zi, zi < ((n2.take ((w64 (((n2.length : Nat) : Int) - 1)).toNat)).drop 0).length → (fun zi => (cU .u16) (((n2.take ((w64 (((n2.length : Nat) : Int) - 1)).toNat)).drop 0).getD zi 0)) zi = (fun zi => (cU .u16) (n2.getD (addz 0 zi) 0)) zi] ⟨c2, c3, (len_ext' n2 0 ((w64 (((n2.length : Nat) : Int) - 1)).toNat) c2), (fun zq hzq => get_ext (cU .u16) 0 n2 0 ((w64 (((n2.length : Nat) : Int) - 1)).toNat) zq hzq), trivial⟩ ?_
      refine Runs.sA 2 [.code (C_6 24), .inLoop (C_6 24), .inBlock 0, .code (C_6 7)] ?_
      exact Runs.sW hE _ [] (kp [0]) [] 0 [] trivial (ih ((n2.take ((w64 (((n2.length : Nat) : Int) - 1)).toNat)).drop 0) _ h E hE)
    · have h := condF h hq2
      refine Runs.sA 2 [.code (C_6 14), .code (C_6 15)] ?_
      refine Runs.sR hE ⟨[(2, (encL (cU .u16) 0 n2))], [], 224⟩ (C_6 14) [] [] (kp [2]) [] 224 [] trivial ?_
      obtain rfl := Option.some.inj h
      refine Runs.sW hE ⟨[(2, (encL (cU .u16) 0 n2))], [], 224⟩ [] (kp [2]) [] 224 [] trivial ?_
      exact Runs.sT Try.f92 [] [] trivial
theorem g_e_trim_ok (N : Nat) (n : List Int) (r : (List Int)) (h : g_e_trim N n = some r) : Sound Try.prog 92 [(encL (cU .u16) 0 n)] [] 0 (encL (cU .u16) 0 r) [] := by
  unfold g_e_trim at h
  refine Sound.of_runs (fu := Try.f92) (c := C_6 1) (nt := 21) (by kernel_rfl) (by kernel_rfl) (by kernel_rfl) (by kernel_rfl) (fun hm => rfl) ?_
  intro E hE
  refine Runs.sA 1 [.code (C_6 2), .code (C_6 3)] ?_
  refine Runs.sR hE ⟨[(0, (encL (cU .u16) 0 n))], [], 16⟩ (C_6 2) [] [] (kp [0]) [] 16 [] trivial ?_
  refine Runs.sA 3 [.code (C_6 24), .inLoop (C_6 24), .inBlock 0, .code (C_6 7)] ?_
  exact Runs.sW hE _ [] (kp [0]) [] 0 [] trivial (g_e_trim_L1_ok N N n _ h E hE)
noncomputable def C_8 (n : Nat) : Code := cat (bodyOf Try.f95) (pth n)
theorem g_e_compare_L1_ok (N : Nat) (a : List Int) (b : List Int) (fuel : Nat) : ∀ (i : Int) (r : Int), g_e_compare_L1 N a b fuel i = some r → ∀ E, EnvOk E 0 → Runs Try.prog E 95 43 (SPost E [] (aI r)) [.code (C_8 116), .inLoop (C_8 116), .inBlock 0, .code (C_8 15)] ⟨[(0, (encL (cU .u16) 0 a)), (1, (encL (cU .u16) 0 b)), (5, (aI i))], [], 0⟩ := by
  induction fuel with
  | zero => intro _ r h; rw [g_e_compare_L1.eq_1] at h; cases h
  | succ fuel ih =>
    intro i r h E hE
    rw [g_e_compare_L1.eq_2] at h
    refine Runs.sA 2 [.code (C_8 464), .code (C_8 465), .code (C_8 233), .inLoop (C_8 116), .inBlock 0, .code (C_8 15)] ?_
    refine Runs.sR hE ⟨[(0, (encL (cU .u16) 0 a)), (1, (encL (cU .u16) 0 b)), (5, (aI i)), (20, (aB (decide (i ≥ 0))))], [], 32⟩ (C_8 464) [] [] (kp [0, 1, 5, 20]) [] 32 [] trivial ?_
    refine Runs.sC 20 (C_8 930) (C_8 931) (decide (i ≥ 0)) (fun hq3 => ?_) (fun hq3 => ?_)
    · have h := condT h hq3
      refine Runs.sA 4 [.code (C_8 1864), .code (C_8 1865), .inBlock 1, .code (C_8 467), .inLoop (C_8 116), .inBlock 0, .code (C_8 15)] ?_
      obtain ⟨c, h⟩ := ifSome h
      obtain ⟨c2, h⟩ := ifSome h
      refine Runs.sR hE ⟨[(0, (encL (cU .u16) 0 a)), (1, (encL (cU .u16) 0 b)), (5, (aI i)), (31, (aB ((a.getD ((i).toNat) 0) != (b.getD ((i).toNat) 0))))], [], 176⟩ (C_8 1864) [] [] (kp [0, 1, 5, 31]) [] 176 [0 ≤ i ∧ i < ((a.length : Nat) : Int), 0 ≤ i ∧ i < ((b.length : Nat) : Int)] ⟨c, c2, trivial⟩ ?_
      refine Runs.sC 31 (C_8 3730) (C_8 3731) ((a.getD ((i).toNat) 0) != (b.getD ((i).toNat) 0)) (fun hq4 => ?_) (fun hq4 => ?_)
      · have h := condT h hq4
        refine Runs.sA 1 [.code (C_8 7460), .code (C_8 7461), .inBlock 1, .code (C_8 467), .inLoop (C_8 116), .inBlock 0, .code (C_8 15)] ?_
        refine Runs.sR hE ⟨[(4, (aI (w64 ((w64 ((a.getD ((i).toNat) 0))) - (w64 ((b.getD ((i).toNat) 0)))))))], [], 368⟩ (C_8 7460) [] [] (kp [4]) [] 368 [0 ≤ i ∧ i < ((a.length : Nat) : Int), 0 ≤ i ∧ i < ((b.length : Nat) : Int)] ⟨c, c2, trivial⟩ ?_
        obtain rfl := Option.some.inj h
        refine Runs.sW hE ⟨[(4, (aI (w64 ((w64 ((a.getD ((i).toNat) 0))) - (w64 ((b.getD ((i).toNat) 0)))))))], [], 368⟩ [] (kp [4]) [] 368 [] trivial ?_
        exact Runs.sT Try.f95 [] [] trivial
      · have h := condF h hq4
        refine Runs.sA 2 [.code (C_8 467), .inLoop (C_8 116), .inBlock 0, .code (C_8 15)] ?_
        refine Runs.sR hE ⟨[(0, (encL (cU .u16) 0 a)), (1, (encL (cU .u16) 0 b)), (5, (aI (w64 (i - 1))))], [], 224⟩ (C_8 467) [] [] (kp [0, 1, 5]) [] 224 [] trivial ?_
        refine Runs.sA 1 [.code (C_8 116), .inLoop (C_8 116), .inBlock 0, .code (C_8 15)] ?_
        exact Runs.sW hE _ [] (kp [0, 1, 5]) [] 0 [] trivial (ih (w64 (i - 1)) _ h E hE)
    · have h := condF h hq3
      refine Runs.sA 2 [.code (C_8 30), .code (C_8 31)] ?_
      refine Runs.sR hE ⟨[(4, (aI 0))], [], 48⟩ (C_8 30) [] [] (kp [4]) [] 48 [] trivial ?_
      obtain rfl := Option.some.inj h
      refine Runs.sW hE ⟨[(4, (aI 0))], [], 48⟩ [] (kp [4]) [] 48 [] trivial ?_
      exact Runs.sT Try.f95 [] [] trivial
theorem g_e_compare_ok (N : Nat) (a : List Int) (b : List Int) (r : Int) (h : g_e_compare N a b = some r) : Sound Try.prog 95 [(encL (cU .u16) 0 a), (encL (cU .u16) 0 b)] [] 0 (aI r) [] := by
  unfold g_e_compare at h
  refine Sound.of_runs (fu := Try.f95) (c := C_8 1) (nt := 43) (by kernel_rfl) (by kernel_rfl) (by kernel_rfl) (by kernel_rfl) (fun hm => rfl) ?_
  intro E hE
  refine Runs.sA 1 [.code (C_8 2), .code (C_8 3)] ?_
  refine Runs.sR hE ⟨[(0, (encL (cU .u16) 0 a)), (1, (encL (cU .u16) 0 b))], [], 16⟩ (C_8 2) [] [] (kp [0, 1]) [] 16 [] trivial ?_
  refine Runs.sA 2 [.code (C_8 12), .code (C_8 13), .code (C_8 7)] ?_
  refine Runs.sR hE ⟨[(0, (encL (cU .u16) 0 a)), (1, (encL (cU .u16) 0 b)), (10, (aB (((a.length : Nat) : Int) != ((b.length : Nat) : Int))))], [], 96⟩ (C_8 12) [] [] (kp [0, 1, 10]) [] 96 [] trivial ?_
  refine Runs.sC 10 (C_8 26) (C_8 27) (((a.length : Nat) : Int) != ((b.length : Nat) : Int)) (fun hq2 => ?_) (fun hq2 => ?_)
  · have h := condT h hq2
    refine Runs.sA 1 [.code (C_8 52), .code (C_8 53), .code (C_8 7)] ?_
    refine Runs.sR hE ⟨[(4, (aI (w64 (((a.length : Nat) : Int) - ((b.length : Nat) : Int)))))], [], 192⟩ (C_8 52) [] [] (kp [4]) [] 192 [] trivial ?_
    obtain rfl := Option.some.inj h
    refine Runs.sW hE ⟨[(4, (aI (w64 (((a.length : Nat) : Int) - ((b.length : Nat) : Int)))))], [], 192⟩ [] (kp [4]) [] 192 [] trivial ?_
    exact Runs.sT Try.f95 [] [] trivial
  · have h := condF h hq2
    refine Runs.sA 3 [.code (C_8 28), .code (C_8 29), .code (C_8 15)] ?_
    refine Runs.sR hE ⟨[(0, (encL (cU .u16) 0 a)), (1, (encL (cU .u16) 0 b)), (5, (aI (w64 (((a.length : Nat) : Int) - 1))))], [], 160⟩ (C_8 28) [] [] (kp [0, 1, 5]) [] 160 [] trivial ?_
    refine Runs.sA 2 [.code (C_8 116), .inLoop (C_8 116), .inBlock 0, .code (C_8 15)] ?_
    exact Runs.sW hE _ [] (kp [0, 1, 5]) [] 0 [] trivial (g_e_compare_L1_ok N a b N (w64 (((a.length : Nat) : Int) - 1)) _ h E hE)
noncomputable def C_9 (n : Nat) : Code := cat (bodyOf Try.f151) (pth n)
theorem g_slices_Clone_uint16_uint16_ok (N : Nat) (s : List Int) (r : (List Int)) (h : g_slices_Clone_uint16_uint16 N s = some r) : Sound Try.prog 151 [(encL (cU .u16) 0 s)] [] 0 (encL (cU .u16) 0 r) [] := by
  unfold g_slices_Clone_uint16_uint16 at h
  refine Sound.of_runs (fu := Try.f151) (c := C_9 1) (nt := 8) (by kernel_rfl) (by kernel_rfl) (by kernel_rfl) (by kernel_rfl) (fun hm => rfl) ?_
  intro E hE
  refine Runs.sA 1 [.code (C_9 2), .code (C_9 3)] ?_
  refine Runs.sR hE ⟨[(0, (encL (cU .u16) 0 s))], [], 16⟩ (C_9 2) [] [] (kp [0]) [] 16 [] trivial ?_
  refine Runs.sA 2 [.code (C_9 12), .code (C_9 13), .code (C_9 7)] ?_
  refine Runs.sR hE ⟨[(0, (encL (cU .u16) 0 s)), (4, (.bn s.length))], [], 48⟩ (C_9 12) [] [] (kp [0, 4]) [] 48 [] trivial ?_
  refine Runs.condBn (o := .tmp 4) (x := C_9 26) (y := C_9 27) (n := s.length) (by kernel_rfl) (by kernel_rfl) (fun hq2 => ?_) ?_
  · replace hq2 := List.length_eq_zero_iff.1 hq2
    replace h : (some ([] : List Int)) = some r := by rw [hq2] at h; simpa using h
    refine Runs.sA 1 [.code (C_9 52), .code (C_9 53), .code (C_9 7)] ?_
    refine Runs.sR hE ⟨[(2, .nil)], [], 64⟩ (C_9 52) [] [] (kp [2]) [] 64 [] trivial ?_
    obtain rfl := Option.some.inj h
    refine Runs.sW hE ⟨[(2, (encL (cU .u16) 0 ([] : List Int)))], [], 64⟩ [] [(2, .sl (([] : List Int).length) (fun zi => (cU .u16) (([] : List Int).getD zi 0)))] [] 64 [([] : List Int).length = 0] ⟨rfl, trivial⟩ ?_
    exact Runs.sT Try.f151 [] [] trivial
  · refine Runs.sA 2 [.code (C_9 14), .code (C_9 15)] ?_
    obtain ⟨c, h⟩ := ifSome h
    refine Runs.sR hE ⟨[(2, (.os 80 0 ((([] : List Int) ++ s).length)))], [(80, aO 1 (cU .u16) 0 (([] : List Int) ++ s))], 112⟩ (C_9 14) [] [] [(2, .osl ((([] : List Int) ++ s).length))] [(80, .arr 80 ((([] : List Int) ++ s).length) (fun zi => (cU .u16) ((([] : List Int) ++ s).getD zi 0)))] 112 [0 = 0, (0 + s.length) * 2 ≤ 140737488355328, ∀ zi, zi < s.length → AV.oneL ((fun zi => (cU .u16) (s.getD zi 0)) zi) = true, (0 + s.length) = (([] : List Int) ++ s).length, 0 + s.length = (([] : List Int) ++ s).length, ∀ zi, zi < (([] : List Int) ++ s).length → (fun zi => (cU .u16) ((([] : List Int) ++ s).getD zi 0)) zi = ((fun zm => if zm < 0 then (fun _ => []) zm else (fun zi => (cU .u16) (s.getD zi 0)) (zm - 0))) zi] ⟨rfl, c, (fun _ _ => rfl), (len_app_raw rfl rfl), (len_app_raw rfl rfl), (get_app_raw (cU .u16) 0 ([] : List Int) s rfl (fun zq hzq => absurd hzq (Nat.not_lt_zero _)) (fun _ _ => rfl)), trivial⟩ ?_
    obtain rfl := Option.some.inj h
    refine Runs.sW hE ⟨[(2, (encL (cU .u16) 0 (([] : List Int) ++ s)))], [], 112⟩ [80] [(2, .sl ((([] : List Int) ++ s).length) (fun zi => (cU .u16) ((([] : List Int) ++ s).getD zi 0)))] [] 112 [(([] : List Int) ++ s).length = (([] : List Int) ++ s).length, 0 + (([] : List Int) ++ s).length ≤ (([] : List Int) ++ s).length, ∀ zi, zi < (([] : List Int) ++ s).length → (fun zi => (cU .u16) ((([] : List Int) ++ s).getD zi 0)) zi = (fun zi => (cU .u16) ((([] : List Int) ++ s).getD zi 0)) (addz 0 zi)] ⟨rfl, z0, (fun _ _ => rfl), trivial⟩ ?_
    exact Runs.sT Try.f151 [] [] trivial
noncomputable def C_10 (n : Nat) : Code := cat (bodyOf Try.f152) (pth n)
theorem g_e_short_L1_ok (N : Nat) (a : List Int) (b : Int) (fuel : Nat) : ∀ (q : List Int) (rest : Int) (i : Int) (r : (List Int) × Int), g_e_short_L1 N a b fuel q rest i = some r → ∀ E, EnvOk E 0 → Runs Try.prog E 152 43 (SPost E [] (.tup [(encL (cU .u16) 0 r.1), (.atom (.int .u16 r.2))])) [.code (C_10 244), .inLoop (C_10 244), .inBlock 0, .code (C_10 31)] ⟨[(0, (encL (cU .u16) 0 a)), (1, (.atom (.int .u16 b))), (6, (.os 0 0 q.length)), (7, (.atom (.int .u32 rest))), (8, (aI i))], [(0, aO 1 (cU .u16) 0 q)], 1⟩ := by
  induction fuel with
  | zero => intro _ _ _ r h; rw [g_e_short_L1.eq_1] at h; cases h
  | succ fuel ih =>
    intro q rest i r h E hE
    rw [g_e_short_L1.eq_2] at h
    refine Runs.sA 2 [.code (C_10 976), .code (C_10 977), .code (C_10 489), .inLoop (C_10 244), .inBlock 0, .code (C_10 31)] ?_
    refine Runs.sR hE ⟨[(0, (encL (cU .u16) 0 a)), (1, (.atom (.int .u16 b))), (6, (.os 0 0 q.length)), (7, (.atom (.int .u32 rest))), (8, (aI i)), (16, (aB (decide (i ≥ 0))))], [(0, aO 1 (cU .u16) 0 q)], 33⟩ (C_10 976) [] [] (kp [0, 1, 6, 7, 8, 16]) (kq [0]) 33 [] trivial ?_
    refine Runs.sC 16 (C_10 1954) (C_10 1955) (decide (i ≥ 0)) (fun hq2 => ?_) (fun hq2 => ?_)
    · have h := condT h hq2
      refine Runs.sA 4 [.code (C_10 3912), .code (C_10 3913), .inBlock 1, .code (C_10 979), .inLoop (C_10 244), .inBlock 0, .code (C_10 31)] ?_
      obtain ⟨c2, h⟩ := ifSome h
      refine Runs.sR hE ⟨[(0, (encL (cU .u16) 0 a)), (1, (.atom (.int .u16 b))), (6, (.os 0 0 q.length)), (7, (.atom (.int .u32 (orI .u32 (shlI .u32 rest 16) (IntKind.u32.wrap ((a.getD ((i).toNat) 0))))))), (8, (aI i))], [(0, aO 1 (cU .u16) 0 q)], 177⟩ (C_10 3912) [] [] (kp [0, 1, 6, 7, 8]) (kq [0]) 177 [(0 : Int) ≤ 16, 0 ≤ i ∧ i < ((a.length : Nat) : Int)] ⟨(by decide), c2, trivial⟩ ?_
      refine Runs.sA 1 [.code (C_10 7826), .code (C_10 7827), .inBlock 1, .code (C_10 979), .inLoop (C_10 244), .inBlock 0, .code (C_10 31)] ?_
      obtain ⟨c3, h⟩ := ifSome h
      obtain ⟨c4, h⟩ := ifSome h
      refine Runs.sR hE ⟨[(0, (encL (cU .u16) 0 a)), (1, (.atom (.int .u16 b))), (6, (.os 0 0 ((q.set ((i).toNat) (IntKind.u16.wrap ((IntKind.u32.wrap ((orI .u32 (shlI .u32 rest 16) (IntKind.u32.wrap ((a.getD ((i).toNat) 0)))).tdiv (IntKind.u32.wrap (b))))))).length))), (7, (.atom (.int .u32 (orI .u32 (shlI .u32 rest 16) (IntKind.u32.wrap ((a.getD ((i).toNat) 0))))))), (8, (aI i))], [(0, aO 1 (cU .u16) 0 (q.set ((i).toNat) (IntKind.u16.wrap ((IntKind.u32.wrap ((orI .u32 (shlI .u32 rest 16) (IntKind.u32.wrap ((a.getD ((i).toNat) 0)))).tdiv (IntKind.u32.wrap (b))))))))], 321⟩ (C_10 7826) [] [] (kp [0, 1] ++ [(6, .osl ((q.set ((i).toNat) (IntKind.u16.wrap ((IntKind.u32.wrap ((orI .u32 (shlI .u32 rest 16) (IntKind.u32.wrap ((a.getD ((i).toNat) 0)))).tdiv (IntKind.u32.wrap (b))))))).length))] ++ kp [7, 8]) [(0, .arr 0 ((q.set ((i).toNat) (IntKind.u16.wrap ((IntKind.u32.wrap ((orI .u32 (shlI .u32 rest 16) (IntKind.u32.wrap ((a.getD ((i).toNat) 0)))).tdiv (IntKind.u32.wrap (b))))))).length) (fun zi => (cU .u16) ((q.set ((i).toNat) (IntKind.u16.wrap ((IntKind.u32.wrap ((orI .u32 (shlI .u32 rest 16) (IntKind.u32.wrap ((a.getD ((i).toNat) 0)))).tdiv (IntKind.u32.wrap (b))))))).getD zi 0)))] 321 [((IntKind.u32.wrap (b)) : Int) ≠ 0, 0 ≤ i ∧ i < ((q.length : Nat) : Int), (i).toNat < q.length, q.length = (q.set ((i).toNat) (IntKind.u16.wrap ((IntKind.u32.wrap ((orI .u32 (shlI .u32 rest 16) (IntKind.u32.wrap ((a.getD ((i).toNat) 0)))).tdiv (IntKind.u32.wrap (b))))))).length, q.length = (q.set ((i).toNat) (IntKind.u16.wrap ((IntKind.u32.wrap ((orI .u32 (shlI .u32 rest 16) (IntKind.u32.wrap ((a.getD ((i).toNat) 0)))).tdiv (IntKind.u32.wrap (b))))))).length, ∀ zi, zi < (q.set ((i).toNat) (IntKind.u16.wrap ((IntKind.u32.wrap ((orI .u32 (shlI .u32 rest 16) (IntKind.u32.wrap ((a.getD ((i).toNat) 0)))).tdiv (IntKind.u32.wrap (b))))))).length → (fun zi => (cU .u16) ((q.set ((i).toNat) (IntKind.u16.wrap ((IntKind.u32.wrap ((orI .u32 (shlI .u32 rest 16) (IntKind.u32.wrap ((a.getD ((i).toNat) 0)))).tdiv (IntKind.u32.wrap (b))))))).getD zi 0)) zi = ((fun zm => if zm = (i).toNat then [(.atom (.int .u16 (IntKind.u16.wrap ((IntKind.u32.wrap ((orI .u32 (shlI .u32 rest 16) (IntKind.u32.wrap ((a.getD ((i).toNat) 0)))).tdiv (IntKind.u32.wrap (b))))))))] else (fun zi => (cU .u16) (q.getD zi 0)) zm)) zi] ⟨c3, c4, (ltOf c4), (len_set_raw rfl), (len_set_raw rfl), (get_set_raw (cU .u16) 0 q ((i).toNat) (IntKind.u16.wrap ((IntKind.u32.wrap ((orI .u32 (shlI .u32 rest 16) (IntKind.u32.wrap ((a.getD ((i).toNat) 0)))).tdiv (IntKind.u32.wrap (b)))))) (fun _ _ => rfl)), trivial⟩ ?_
      refine Runs.sR hE ⟨[(0, (encL (cU .u16) 0 a)), (1, (.atom (.int .u16 b))), (6, (.os 0 0 ((q.set ((i).toNat) (IntKind.u16.wrap ((IntKind.u32.wrap ((orI .u32 (shlI .u32 rest 16) (IntKind.u32.wrap ((a.getD ((i).toNat) 0)))).tdiv (IntKind.u32.wrap (b))))))).length))), (7, (.atom (.int .u32 ((orI .u32 (shlI .u32 rest 16) (IntKind.u32.wrap ((a.getD ((i).toNat) 0)))).tmod (IntKind.u32.wrap (b)))))), (8, (aI i))], [(0, aO 1 (cU .u16) 0 (q.set ((i).toNat) (IntKind.u16.wrap ((IntKind.u32.wrap ((orI .u32 (shlI .u32 rest 16) (IntKind.u32.wrap ((a.getD ((i).toNat) 0)))).tdiv (IntKind.u32.wrap (b))))))))], 401⟩ (C_10 7827) [] [] (kp [0, 1, 6, 7, 8]) (kq [0]) 401 [((IntKind.u32.wrap (b)) : Int) ≠ 0] ⟨c3, trivial⟩ ?_
      refine Runs.sA 1 [.code (C_10 979), .inLoop (C_10 244), .inBlock 0, .code (C_10 31)] ?_
      refine Runs.sR hE ⟨[(0, (encL (cU .u16) 0 a)), (1, (.atom (.int .u16 b))), (6, (.os 0 0 ((q.set ((i).toNat) (IntKind.u16.wrap ((IntKind.u32.wrap ((orI .u32 (shlI .u32 rest 16) (IntKind.u32.wrap ((a.getD ((i).toNat) 0)))).tdiv (IntKind.u32.wrap (b))))))).length))), (7, (.atom (.int .u32 ((orI .u32 (shlI .u32 rest 16) (IntKind.u32.wrap ((a.getD ((i).toNat) 0)))).tmod (IntKind.u32.wrap (b)))))), (8, (aI (w64 (i - 1))))], [(0, aO 1 (cU .u16) 0 (q.set ((i).toNat) (IntKind.u16.wrap ((IntKind.u32.wrap ((orI .u32 (shlI .u32 rest 16) (IntKind.u32.wrap ((a.getD ((i).toNat) 0)))).tdiv (IntKind.u32.wrap (b))))))))], 449⟩ (C_10 979) [] [] (kp [0, 1, 6, 7, 8]) (kq [0]) 449 [] trivial ?_
      refine Runs.sA 1 [.code (C_10 244), .inLoop (C_10 244), .inBlock 0, .code (C_10 31)] ?_
      exact Runs.sW hE _ [] (kp [0, 1, 6, 7, 8]) (kq [0]) 1 [] trivial (ih (q.set ((i).toNat) (IntKind.u16.wrap ((IntKind.u32.wrap ((orI .u32 (shlI .u32 rest 16) (IntKind.u32.wrap ((a.getD ((i).toNat) 0)))).tdiv (IntKind.u32.wrap (b))))))) ((orI .u32 (shlI .u32 rest 16) (IntKind.u32.wrap ((a.getD ((i).toNat) 0)))).tmod (IntKind.u32.wrap (b))) (w64 (i - 1)) _ h E hE)
    · have h := condF h hq2
      refine Runs.sA 2 [.code (C_10 62), .code (C_10 63)] ?_
      obtain ⟨rtrim, hr, h⟩ := bindSome h
      refine Runs.sR hE ⟨[(4, (encL (cU .u16) 0 rtrim)), (5, (.atom (.int .u16 (IntKind.u16.wrap (rest)))))], [], 129⟩ (C_10 62) [(1, ⟨[], true, (encL (cU .u16) 0 rtrim), [], 0, true, none⟩)] [] (kp [4, 5]) [] 129 [Sound Try.prog 92 [(encL (cU .u16) 0 q)] [] 0 (encL (cU .u16) 0 rtrim) [], 0 + q.length ≤ q.length] ⟨(g_e_trim_ok N q rtrim hr), z0, trivial⟩ ?_
      obtain rfl := Option.some.inj h
      refine Runs.sW hE ⟨[(4, (encL (cU .u16) 0 rtrim)), (5, (.atom (.int .u16 (IntKind.u16.wrap (rest)))))], [], 129⟩ [] (kp [4, 5]) [] 129 [] trivial ?_
      exact Runs.sT Try.f152 [] [] trivial
theorem g_e_short_ok (N : Nat) (a : List Int) (b : Int) (r : (List Int) × Int) (h : g_e_short N a b = some r) : Sound Try.prog 152 [(encL (cU .u16) 0 a), (.atom (.int .u16 b))] [] 0 (.tup [(encL (cU .u16) 0 r.1), (.atom (.int .u16 r.2))]) [] := by
  unfold g_e_short at h
  refine Sound.of_runs (fu := Try.f152) (c := C_10 1) (nt := 43) (by kernel_rfl) (by kernel_rfl) (by kernel_rfl) (by kernel_rfl) (fun hm => rfl) ?_
  intro E hE
  refine Runs.sA 1 [.code (C_10 2), .code (C_10 3)] ?_
  refine Runs.sR hE ⟨[(0, (encL (cU .u16) 0 a)), (1, (.atom (.int .u16 b)))], [], 32⟩ (C_10 2) [] [] (kp [0, 1]) [] 32 [] trivial ?_
  refine Runs.sA 1 [.code (C_10 6), .code (C_10 7)] ?_
  obtain ⟨c, h⟩ := ifSome h
  refine Runs.sR hE ⟨[(0, (encL (cU .u16) 0 a)), (1, (.atom (.int .u16 b))), (6, (.os 64 0 ((List.replicate a.length 0 : List Int).length)))], [(64, aO 1 (cU .u16) 0 (List.replicate a.length 0 : List Int))], 96⟩ (C_10 6) [] [] (kp [0, 1] ++ [(6, .osl ((List.replicate a.length 0 : List Int).length))]) [(64, .arr 64 ((List.replicate a.length 0 : List Int).length) (fun zi => (cU .u16) ((List.replicate a.length 0 : List Int).getD zi 0)))] 96 [0 ≤ ((a.length : Nat) : Int), ((a.length : Nat) : Int) ≤ ((a.length : Nat) : Int), (2 : Int) * ((a.length : Nat) : Int) ≤ 281474976710656, ((a.length : Nat) : Int) ≤ 9223372036854775807, a.length = (List.replicate a.length 0 : List Int).length, a.length = (List.replicate a.length 0 : List Int).length, ∀ zi, zi < (List.replicate a.length 0 : List Int).length → (fun zi => (cU .u16) ((List.replicate a.length 0 : List Int).getD zi 0)) zi = (fun _ => [(.atom (.int .u16 0))]) zi] ⟨c.1, (Int.le_refl _), c.2.1, c.2.2, (List.length_replicate).symm, (List.length_replicate).symm, (fun zq hzq => get_rep (cU .u16) 0 0 a.length zq hzq), trivial⟩ ?_
  refine Runs.sA 1 [.code (C_10 14), .code (C_10 15)] ?_
  refine Runs.sR hE ⟨[(0, (encL (cU .u16) 0 a)), (1, (.atom (.int .u16 b))), (6, (.os 64 0 ((List.replicate a.length 0 : List Int).length))), (7, (.atom (.int .u32 0)))], [(64, aO 1 (cU .u16) 0 (List.replicate a.length 0 : List Int))], 112⟩ (C_10 14) [] [] (kp [0, 1, 6, 7]) (kq [64]) 112 [] trivial ?_
  refine Runs.sA 2 [.code (C_10 60), .code (C_10 61), .code (C_10 31)] ?_
  refine Runs.sR hE ⟨[(0, (encL (cU .u16) 0 a)), (1, (.atom (.int .u16 b))), (6, (.os 64 0 ((List.replicate a.length 0 : List Int).length))), (7, (.atom (.int .u32 0))), (8, (aI (w64 (((a.length : Nat) : Int) - 1))))], [(64, aO 1 (cU .u16) 0 (List.replicate a.length 0 : List Int))], 176⟩ (C_10 60) [] [] (kp [0, 1, 6, 7, 8]) (kq [64]) 176 [] trivial ?_
  refine Runs.sA 2 [.code (C_10 244), .inLoop (C_10 244), .inBlock 0, .code (C_10 31)] ?_
  exact Runs.sW hE _ [] (kp [0, 1, 6, 7, 8]) [(0, .keep 64)] 1 [] trivial (g_e_short_L1_ok N a b N (List.replicate a.length 0 : List Int) 0 (w64 (((a.length : Nat) : Int) - 1)) _ h E hE)
noncomputable def C_12 (n : Nat) : Code := cat (bodyOf Try.f169) (pth n)
theorem g_math_bits_Len16_J1_ok (N : Nat) (x2 : Int) (n : Int) (r : Int) (h : g_math_bits_Len16_J1 N x2 n = some r) : ∀ E, EnvOk E 0 → Runs Try.prog E 169 13 (SPost E [] (aI r)) [.code (C_12 14), .code (C_12 15)] ⟨[(0, (.atom (.int .u16 x2))), (2, (aI n))], [], 0⟩ := by
  intro E hE
  unfold g_math_bits_Len16_J1 at h
  obtain ⟨c, h⟩ := ifSome h
  refine Runs.sR hE ⟨[(2, (aI (w64 (n + (w64 ((byteAt (⟨#[0, 1, 2, 2, 3, 3, 3, 3, 4, 4, 4, 4, 4, 4, 4, 4, 5, 5, 5, 5, 5, 5, 5, 5, 5, 5, 5, 5, 5, 5, 5, 5, 6, 6, 6, 6, 6, 6, 6, 6, 6, 6, 6, 6, 6, 6, 6, 6, 6, 6, 6, 6, 6, 6, 6, 6, 6, 6, 6, 6, 6, 6, 6, 6, 7, 7, 7, 7, 7, 7, 7, 7, 7, 7, 7, 7, 7, 7, 7, 7, 7, 7, 7, 7, 7, 7, 7, 7, 7, 7, 7, 7, 7, 7, 7, 7, 7, 7, 7, 7, 7, 7, 7, 7, 7, 7, 7, 7, 7, 7, 7, 7, 7, 7, 7, 7, 7, 7, 7, 7, 7, 7, 7, 7, 7, 7, 7, 7, 8, 8, 8, 8, 8, 8, 8, 8, 8, 8, 8, 8, 8, 8, 8, 8, 8, 8, 8, 8, 8, 8, 8, 8, 8, 8, 8, 8, 8, 8, 8, 8, 8, 8, 8, 8, 8, 8, 8, 8, 8, 8, 8, 8, 8, 8, 8, 8, 8, 8, 8, 8, 8, 8, 8, 8, 8, 8, 8, 8, 8, 8, 8, 8, 8, 8, 8, 8, 8, 8, 8, 8, 8, 8, 8, 8, 8, 8, 8, 8, 8, 8, 8, 8, 8, 8, 8, 8, 8, 8, 8, 8, 8, 8, 8, 8, 8, 8, 8, 8, 8, 8, 8, 8, 8, 8, 8, 8, 8, 8, 8, 8, 8, 8, 8, 8, 8, 8, 8, 8, 8, 8, 8, 8, 8, 8, 8, 8]⟩ : ByteArray) ((IntKind.u8.wrap (x2)).toNat))))))))], [], 112⟩ (C_12 14) [] [] (kp [2]) [] 112 [0 ≤ (IntKind.u8.wrap (x2)) ∧ (IntKind.u8.wrap (x2)) < (((⟨#[0, 1, 2, 2, 3, 3, 3, 3, 4, 4, 4, 4, 4, 4, 4, 4, 5, 5, 5, 5, 5, 5, 5, 5, 5, 5, 5, 5, 5, 5, 5, 5, 6, 6, 6, 6, 6, 6, 6, 6, 6, 6, 6, 6, 6, 6, 6, 6, 6, 6, 6, 6, 6, 6, 6, 6, 6, 6, 6, 6, 6, 6, 6, 6, 7, 7, 7, 7, 7, 7, 7, 7, 7, 7, 7, 7, 7, 7, 7, 7, 7, 7, 7, 7, 7, 7, 7, 7, 7, 7, 7, 7, 7, 7, 7, 7, 7, 7, 7, 7, 7, 7, 7, 7, 7, 7, 7, 7, 7, 7, 7, 7, 7, 7, 7, 7, 7, 7, 7, 7, 7, 7, 7, 7, 7, 7, 7, 7, 8, 8, 8, 8, 8, 8, 8, 8, 8, 8, 8, 8, 8, 8, 8, 8, 8, 8, 8, 8, 8, 8, 8, 8, 8, 8, 8, 8, 8, 8, 8, 8, 8, 8, 8, 8, 8, 8, 8, 8, 8, 8, 8, 8, 8, 8, 8, 8, 8, 8, 8, 8, 8, 8, 8, 8, 8, 8, 8, 8, 8, 8, 8, 8, 8, 8, 8, 8, 8, 8, 8, 8, 8, 8, 8, 8, 8, 8, 8, 8, 8, 8, 8, 8, 8, 8, 8, 8, 8, 8, 8, 8, 8, 8, 8, 8, 8, 8, 8, 8, 8, 8, 8, 8, 8, 8, 8, 8, 8, 8, 8, 8, 8, 8, 8, 8, 8, 8, 8, 8, 8, 8, 8, 8, 8, 8, 8, 8]⟩ : ByteArray).size : Nat) : Int)] ⟨c, trivial⟩ ?_
  obtain rfl := Option.some.inj h
  refine Runs.sW hE ⟨[(2, (aI (w64 (n + (w64 ((byteAt (⟨#[0, 1, 2, 2, 3, 3, 3, 3, 4, 4, 4, 4, 4, 4, 4, 4, 5, 5, 5, 5, 5, 5, 5, 5, 5, 5, 5, 5, 5, 5, 5, 5, 6, 6, 6, 6, 6, 6, 6, 6, 6, 6, 6, 6, 6, 6, 6, 6, 6, 6, 6, 6, 6, 6, 6, 6, 6, 6, 6, 6, 6, 6, 6, 6, 7, 7, 7, 7, 7, 7, 7, 7, 7, 7, 7, 7, 7, 7, 7, 7, 7, 7, 7, 7, 7, 7, 7, 7, 7, 7, 7, 7, 7, 7, 7, 7, 7, 7, 7, 7, 7, 7, 7, 7, 7, 7, 7, 7, 7, 7, 7, 7, 7, 7, 7, 7, 7, 7, 7, 7, 7, 7, 7, 7, 7, 7, 7, 7, 8, 8, 8, 8, 8, 8, 8, 8, 8, 8, 8, 8, 8, 8, 8, 8, 8, 8, 8, 8, 8, 8, 8, 8, 8, 8, 8, 8, 8, 8, 8, 8, 8, 8, 8, 8, 8, 8, 8, 8, 8, 8, 8, 8, 8, 8, 8, 8, 8, 8, 8, 8, 8, 8, 8, 8, 8, 8, 8, 8, 8, 8, 8, 8, 8, 8, 8, 8, 8, 8, 8, 8, 8, 8, 8, 8, 8, 8, 8, 8, 8, 8, 8, 8, 8, 8, 8, 8, 8, 8, 8, 8, 8, 8, 8, 8, 8, 8, 8, 8, 8, 8, 8, 8, 8, 8, 8, 8, 8, 8, 8, 8, 8, 8, 8, 8, 8, 8, 8, 8, 8, 8, 8, 8, 8, 8, 8, 8]⟩ : ByteArray) ((IntKind.u8.wrap (x2)).toNat))))))))], [], 112⟩ [] (kp [2]) [] 112 [] trivial ?_
  exact Runs.sT Try.f169 [] [] trivial
theorem g_math_bits_Len16_ok (N : Nat) (x : Int) (r : Int) (h : g_math_bits_Len16 N x = some r) : Sound Try.prog 169 [(.atom (.int .u16 x))] [] 0 (aI r) [] := by
  unfold g_math_bits_Len16 at h
  refine Sound.of_runs (fu := Try.f169) (c := C_12 1) (nt := 13) (by kernel_rfl) (by kernel_rfl) (by kernel_rfl) (by kernel_rfl) (fun hm => rfl) ?_
  intro E hE
  refine Runs.sA 1 [.code (C_12 2), .code (C_12 3)] ?_
  refine Runs.sR hE ⟨[(0, (.atom (.int .u16 x))), (2, (aI 0))], [], 16⟩ (C_12 2) [] [] (kp [0, 2]) [] 16 [] trivial ?_
  refine Runs.sA 2 [.code (C_12 12), .code (C_12 13), .code (C_12 7)] ?_
  refine Runs.sR hE ⟨[(0, (.atom (.int .u16 x))), (2, (aI 0)), (4, (aB (decide (x ≥ 256))))], [], 48⟩ (C_12 12) [] [] (kp [0, 2, 4]) [] 48 [] trivial ?_
  refine Runs.sC 4 (C_12 26) (C_12 27) (decide (x ≥ 256)) (fun hq2 => ?_) (fun hq2 => ?_)
  · have h := condT h hq2
    refine Runs.sA 1 [.code (C_12 52), .code (C_12 53), .code (C_12 7)] ?_
    refine Runs.sR hE ⟨[(0, (.atom (.int .u16 (shrI .u16 x 8))))], [], 96⟩ (C_12 52) [] [] (kp [0]) [] 96 [(0 : Int) ≤ 8] ⟨(by decide), trivial⟩ ?_
    refine Runs.sR hE ⟨[(0, (.atom (.int .u16 (shrI .u16 x 8)))), (2, (aI 8))], [], 112⟩ (C_12 53) [] [] (kp [0, 2]) [] 112 [] trivial ?_
    refine Runs.sA 1 [.code (C_12 14), .code (C_12 15)] ?_
    exact Runs.sW hE _ [] (kp [0, 2]) [] 0 [] trivial (g_math_bits_Len16_J1_ok N (shrI .u16 x 8) 8 _ h E hE)
  · have h := condF h hq2
    refine Runs.sA 2 [.code (C_12 14), .code (C_12 15)] ?_
    exact Runs.sW hE _ [] (kp [0, 2]) [] 0 [] trivial (g_math_bits_Len16_J1_ok N x 0 _ h E hE)
noncomputable def C_11 (n : Nat) : Code := cat (bodyOf Try.f153) (pth n)
theorem g_math_bits_LeadingZeros16_ok (N : Nat) (x : Int) (r : Int) (h : g_math_bits_LeadingZeros16 N x = some r) : Sound Try.prog 153 [(.atom (.int .u16 x))] [] 0 (aI r) [] := by
  unfold g_math_bits_LeadingZeros16 at h
  refine Sound.of_runs (fu := Try.f153) (c := C_11 1) (nt := 6) (by kernel_rfl) (by kernel_rfl) (by kernel_rfl) (by kernel_rfl) (fun hm => rfl) ?_
  intro E hE
  refine Runs.sA 1 [.code (C_11 2), .code (C_11 3)] ?_
  refine Runs.sR hE ⟨[(0, (.atom (.int .u16 x)))], [], 16⟩ (C_11 2) [] [] (kp [0]) [] 16 [] trivial ?_
  refine Runs.sA 1 [.code (C_11 6), .code (C_11 7)] ?_
  obtain ⟨rLen16, hr, h⟩ := bindSome h
  refine Runs.sR hE ⟨[(2, (aI (w64 (16 - rLen16))))], [], 80⟩ (C_11 6) [(1, ⟨[], true, (aI rLen16), [], 0, false, none⟩)] [] (kp [2]) [] 80 [Sound Try.prog 169 [(.atom (.int .u16 x))] [] 0 (aI rLen16) []] ⟨(g_math_bits_Len16_ok N x rLen16 hr), trivial⟩ ?_
  obtain rfl := Option.some.inj h
  refine Runs.sW hE ⟨[(2, (aI (w64 (16 - rLen16))))], [], 80⟩ [] (kp [2]) [] 80 [] trivial ?_
  exact Runs.sT Try.f153 [] [] trivial
noncomputable def C_13 (n : Nat) : Code := cat (bodyOf Try.f154) (pth n)
theorem g_e_shifted_L1_ok (N : Nat) (a : List Int) (vby : Int) (fuel : Nat) : ∀ (out : List Int) (x : Int) (r : (List Int)), g_e_shifted_L1 N a vby fuel out x = some r → ∀ E, EnvOk E 0 → Runs Try.prog E 154 41 (SPost E [(0, aO 1 (cU .u16) 0 r)] (.os 0 0 r.length)) [.code (C_13 116), .inLoop (C_13 116), .inBlock 0, .code (C_13 15)] ⟨[(1, (aI vby)), (5, (.os 0 0 out.length)), (13, (encL (cU .u16) 0 a)), (14, (aI ((a.length : Nat) : Int))), (15, (aI x))], [(0, aO 1 (cU .u16) 0 out)], 1⟩ := by
  induction fuel with
  | zero => intro _ _ r h; rw [g_e_shifted_L1.eq_1] at h; cases h
  | succ fuel ih =>
    intro out x r h E hE
    rw [g_e_shifted_L1.eq_2] at h
    refine Runs.sA 1 [.code (C_13 232), .code (C_13 233), .inLoop (C_13 116), .inBlock 0, .code (C_13 15)] ?_
    refine Runs.sR hE ⟨[(1, (aI vby)), (5, (.os 0 0 out.length)), (13, (encL (cU .u16) 0 a)), (14, (aI ((a.length : Nat) : Int))), (15, (aI x)), (16, (aB (decide (x < ((a.length : Nat) : Int)))))], [(0, aO 1 (cU .u16) 0 out)], 17⟩ (C_13 232) [] [] (kp [1, 5, 13, 14, 15, 16]) (kq [0]) 17 [] trivial ?_
    refine Runs.sA 1 [.code (C_13 466), .code (C_13 467), .inLoop (C_13 116), .inBlock 0, .code (C_13 15)] ?_
    refine Runs.sC 16 (C_13 932) (C_13 933) (decide (x < ((a.length : Nat) : Int))) (fun hq2 => ?_) (fun hq2 => ?_)
    · have h := condT h hq2
      refine Runs.sA 4 [.code (C_13 3736), .code (C_13 3737), .inBlock 1, .code (C_13 935), .inLoop (C_13 116), .inBlock 0, .code (C_13 15)] ?_
      obtain ⟨c2, h⟩ := ifSome h
      refine Runs.sR hE ⟨[(1, (aI vby)), (5, (.os 0 0 out.length)), (6, (aI x)), (7, (.atom (.int .u16 (a.getD ((x).toNat) 0)))), (13, (encL (cU .u16) 0 a)), (14, (aI ((a.length : Nat) : Int))), (15, (aI x))], [(0, aO 1 (cU .u16) 0 out)], 97⟩ (C_13 3736) [] [] (kp [1, 5, 6, 7, 13, 14, 15]) (kq [0]) 97 [0 ≤ x ∧ x < ((a.length : Nat) : Int)] ⟨c2, trivial⟩ ?_
      refine Runs.sA 1 [.code (C_13 7474), .code (C_13 7475), .inBlock 1, .code (C_13 935), .inLoop (C_13 116), .inBlock 0, .code (C_13 15)] ?_
      obtain ⟨c3, h⟩ := ifSome h
      refine Runs.sR hE ⟨[(1, (aI vby)), (5, (.os 0 0 out.length)), (6, (aI x)), (8, (.atom (.int .u32 (shlI .u32 (IntKind.u32.wrap ((a.getD ((x).toNat) 0))) vby)))), (13, (encL (cU .u16) 0 a)), (14, (aI ((a.length : Nat) : Int))), (15, (aI x))], [(0, aO 1 (cU .u16) 0 out)], 177⟩ (C_13 7474) [] [] (kp [1, 5, 6, 8, 13, 14, 15]) (kq [0]) 177 [(0 : Int) ≤ vby] ⟨c3, trivial⟩ ?_
      refine Runs.sA 1 [.code (C_13 14950), .code (C_13 14951), .inBlock 1, .code (C_13 935), .inLoop (C_13 116), .inBlock 0, .code (C_13 15)] ?_
      obtain ⟨c4, h⟩ := ifSome h
      refine Runs.sR hE ⟨[(1, (aI vby)), (5, (.os 0 0 ((out.set ((x).toNat) (orI .u16 (out.getD ((x).toNat) 0) (IntKind.u16.wrap ((shlI .u32 (IntKind.u32.wrap ((a.getD ((x).toNat) 0))) vby))))).length))), (6, (aI x)), (8, (.atom (.int .u32 (shlI .u32 (IntKind.u32.wrap ((a.getD ((x).toNat) 0))) vby)))), (13, (encL (cU .u16) 0 a)), (14, (aI ((a.length : Nat) : Int))), (15, (aI x))], [(0, aO 1 (cU .u16) 0 (out.set ((x).toNat) (orI .u16 (out.getD ((x).toNat) 0) (IntKind.u16.wrap ((shlI .u32 (IntKind.u32.wrap ((a.getD ((x).toNat) 0))) vby))))))], 321⟩ (C_13 14950) [] [] (kp [1] ++ [(5, .osl ((out.set ((x).toNat) (orI .u16 (out.getD ((x).toNat) 0) (IntKind.u16.wrap ((shlI .u32 (IntKind.u32.wrap ((a.getD ((x).toNat) 0))) vby))))).length))] ++ kp [6, 8, 13, 14, 15]) [(0, .arr 0 ((out.set ((x).toNat) (orI .u16 (out.getD ((x).toNat) 0) (IntKind.u16.wrap ((shlI .u32 (IntKind.u32.wrap ((a.getD ((x).toNat) 0))) vby))))).length) (fun zi => (cU .u16) ((out.set ((x).toNat) (orI .u16 (out.getD ((x).toNat) 0) (IntKind.u16.wrap ((shlI .u32 (IntKind.u32.wrap ((a.getD ((x).toNat) 0))) vby))))).getD zi 0)))] 321 [0 ≤ x ∧ x < ((out.length : Nat) : Int), (x).toNat < out.length, 0 ≤ x ∧ x < ((out.length : Nat) : Int), (x).toNat < out.length, out.length = (out.set ((x).toNat) (orI .u16 (out.getD ((x).toNat) 0) (IntKind.u16.wrap ((shlI .u32 (IntKind.u32.wrap ((a.getD ((x).toNat) 0))) vby))))).length, out.length = (out.set ((x).toNat) (orI .u16 (out.getD ((x).toNat) 0) (IntKind.u16.wrap ((shlI .u32 (IntKind.u32.wrap ((a.getD ((x).toNat) 0))) vby))))).length, ∀ zi, zi < (out.set ((x).toNat) (orI .u16 (out.getD ((x).toNat) 0) (IntKind.u16.wrap ((shlI .u32 (IntKind.u32.wrap ((a.getD ((x).toNat) 0))) vby))))).length → (fun zi => (cU .u16) ((out.set ((x).toNat) (orI .u16 (out.getD ((x).toNat) 0) (IntKind.u16.wrap ((shlI .u32 (IntKind.u32.wrap ((a.getD ((x).toNat) 0))) vby))))).getD zi 0)) zi = ((fun zm => if zm = (x).toNat then [(.atom (.int .u16 (orI .u16 (out.getD ((x).toNat) 0) (IntKind.u16.wrap ((shlI .u32 (IntKind.u32.wrap ((a.getD ((x).toNat) 0))) vby))))))] else (fun zi => (cU .u16) (out.getD zi 0)) zm)) zi] ⟨c4, (ltOf c4), c4, (ltOf c4), (len_set_raw rfl), (len_set_raw rfl), (get_set_raw (cU .u16) 0 out ((x).toNat) (orI .u16 (out.getD ((x).toNat) 0) (IntKind.u16.wrap ((shlI .u32 (IntKind.u32.wrap ((a.getD ((x).toNat) 0))) vby)))) (fun _ _ => rfl)), trivial⟩ ?_
      obtain ⟨c5, h⟩ := ifSome h
      refine Runs.sR hE ⟨[(1, (aI vby)), (5, (.os 0 0 (((out.set ((x).toNat) (orI .u16 (out.getD ((x).toNat) 0) (IntKind.u16.wrap ((shlI .u32 (IntKind.u32.wrap ((a.getD ((x).toNat) 0))) vby))))).set ((w64 (x + 1)).toNat) (IntKind.u16.wrap ((shrI .u32 (shlI .u32 (IntKind.u32.wrap ((a.getD ((x).toNat) 0))) vby) 16)))).length))), (13, (encL (cU .u16) 0 a)), (14, (aI ((a.length : Nat) : Int))), (15, (aI x))], [(0, aO 1 (cU .u16) 0 ((out.set ((x).toNat) (orI .u16 (out.getD ((x).toNat) 0) (IntKind.u16.wrap ((shlI .u32 (IntKind.u32.wrap ((a.getD ((x).toNat) 0))) vby))))).set ((w64 (x + 1)).toNat) (IntKind.u16.wrap ((shrI .u32 (shlI .u32 (IntKind.u32.wrap ((a.getD ((x).toNat) 0))) vby) 16)))))], 449⟩ (C_13 14951) [] [] (kp [1] ++ [(5, .osl (((out.set ((x).toNat) (orI .u16 (out.getD ((x).toNat) 0) (IntKind.u16.wrap ((shlI .u32 (IntKind.u32.wrap ((a.getD ((x).toNat) 0))) vby))))).set ((w64 (x + 1)).toNat) (IntKind.u16.wrap ((shrI .u32 (shlI .u32 (IntKind.u32.wrap ((a.getD ((x).toNat) 0))) vby) 16)))).length))] ++ kp [13, 14, 15]) [(0, .arr 0 (((out.set ((x).toNat) (orI .u16 (out.getD ((x).toNat) 0) (IntKind.u16.wrap ((shlI .u32 (IntKind.u32.wrap ((a.getD ((x).toNat) 0))) vby))))).set ((w64 (x + 1)).toNat) (IntKind.u16.wrap ((shrI .u32 (shlI .u32 (IntKind.u32.wrap ((a.getD ((x).toNat) 0))) vby) 16)))).length) (fun zi => (cU .u16) (((out.set ((x).toNat) (orI .u16 (out.getD ((x).toNat) 0) (IntKind.u16.wrap ((shlI .u32 (IntKind.u32.wrap ((a.getD ((x).toNat) 0))) vby))))).set ((w64 (x + 1)).toNat) (IntKind.u16.wrap ((shrI .u32 (shlI .u32 (IntKind.u32.wrap ((a.getD ((x).toNat) 0))) vby) 16)))).getD zi 0)))] 449 [(0 : Int) ≤ 16, 0 ≤ (w64 (x + 1)) ∧ (w64 (x + 1)) < (((out.set ((x).toNat) (orI .u16 (out.getD ((x).toNat) 0) (IntKind.u16.wrap ((shlI .u32 (IntKind.u32.wrap ((a.getD ((x).toNat) 0))) vby))))).length : Nat) : Int), (w64 (x + 1)).toNat < (out.set ((x).toNat) (orI .u16 (out.getD ((x).toNat) 0) (IntKind.u16.wrap ((shlI .u32 (IntKind.u32.wrap ((a.getD ((x).toNat) 0))) vby))))).length, (out.set ((x).toNat) (orI .u16 (out.getD ((x).toNat) 0) (IntKind.u16.wrap ((shlI .u32 (IntKind.u32.wrap ((a.getD ((x).toNat) 0))) vby))))).length = ((out.set ((x).toNat) (orI .u16 (out.getD ((x).toNat) 0) (IntKind.u16.wrap ((shlI .u32 (IntKind.u32.wrap ((a.getD ((x).toNat) 0))) vby))))).set ((w64 (x + 1)).toNat) (IntKind.u16.wrap ((shrI .u32 (shlI .u32 (IntKind.u32.wrap ((a.getD ((x).toNat) 0))) vby) 16)))).length, (out.set ((x).toNat) (orI .u16 (out.getD ((x).toNat) 0) (IntKind.u16.wrap ((shlI .u32 (IntKind.u32.wrap ((a.getD ((x).toNat) 0))) vby))))).length = ((out.set ((x).toNat) (orI .u16 (out.getD ((x).toNat) 0) (IntKind.u16.wrap ((shlI .u32 (IntKind.u32.wrap ((a.getD ((x).toNat) 0))) vby))))).set ((w64 (x + 1)).toNat) (IntKind.u16.wrap ((shrI .u32 (shlI .u32 (IntKind.u32.wrap ((a.getD ((x).toNat) 0))) vby) 16)))).length, ∀ zi, zi < ((out.set ((x).toNat) (orI .u16 (out.getD ((x).toNat) 0) (IntKind.u16.wrap ((shlI .u32 (IntKind.u32.wrap ((a.getD ((x).toNat) 0))) vby))))).set ((w64 (x + 1)).toNat) (IntKind.u16.wrap ((shrI .u32 (shlI .u32 (IntKind.u32.wrap ((a.getD ((x).toNat) 0))) vby) 16)))).length → (fun zi => (cU .u16) (((out.set ((x).toNat) (orI .u16 (out.getD ((x).toNat) 0) (IntKind.u16.wrap ((shlI .u32 (IntKind.u32.wrap ((a.getD ((x).toNat) 0))) vby))))).set ((w64 (x + 1)).toNat) (IntKind.u16.wrap ((shrI .u32 (shlI .u32 (IntKind.u32.wrap ((a.getD ((x).toNat) 0))) vby) 16)))).getD zi 0)) zi = ((fun zm => if zm = (w64 (x + 1)).toNat then [(.atom (.int .u16 (IntKind.u16.wrap ((shrI .u32 (shlI .u32 (IntKind.u32.wrap ((a.getD ((x).toNat) 0))) vby) 16)))))] else (fun zi => (cU .u16) ((out.set ((x).toNat) (orI .u16 (out.getD ((x).toNat) 0) (IntKind.u16.wrap ((shlI .u32 (IntKind.u32.wrap ((a.getD ((x).toNat) 0))) vby))))).getD zi 0)) zm)) zi] ⟨(by decide), c5, (ltOf c5), (len_set_raw rfl), (len_set_raw rfl), (get_set_raw (cU .u16) 0 (out.set ((x).toNat) (orI .u16 (out.getD ((x).toNat) 0) (IntKind.u16.wrap ((shlI .u32 (IntKind.u32.wrap ((a.getD ((x).toNat) 0))) vby))))) ((w64 (x + 1)).toNat) (IntKind.u16.wrap ((shrI .u32 (shlI .u32 (IntKind.u32.wrap ((a.getD ((x).toNat) 0))) vby) 16))) (fun _ _ => rfl)), trivial⟩ ?_
      refine Runs.sA 1 [.code (C_13 935), .inLoop (C_13 116), .inBlock 0, .code (C_13 15)] ?_
      refine Runs.sR hE ⟨[(1, (aI vby)), (5, (.os 0 0 (((out.set ((x).toNat) (orI .u16 (out.getD ((x).toNat) 0) (IntKind.u16.wrap ((shlI .u32 (IntKind.u32.wrap ((a.getD ((x).toNat) 0))) vby))))).set ((w64 (x + 1)).toNat) (IntKind.u16.wrap ((shrI .u32 (shlI .u32 (IntKind.u32.wrap ((a.getD ((x).toNat) 0))) vby) 16)))).length))), (13, (encL (cU .u16) 0 a)), (14, (aI ((a.length : Nat) : Int))), (15, (aI (w64 (x + 1))))], [(0, aO 1 (cU .u16) 0 ((out.set ((x).toNat) (orI .u16 (out.getD ((x).toNat) 0) (IntKind.u16.wrap ((shlI .u32 (IntKind.u32.wrap ((a.getD ((x).toNat) 0))) vby))))).set ((w64 (x + 1)).toNat) (IntKind.u16.wrap ((shrI .u32 (shlI .u32 (IntKind.u32.wrap ((a.getD ((x).toNat) 0))) vby) 16)))))], 481⟩ (C_13 935) [] [] (kp [1, 5, 13, 14, 15]) (kq [0]) 481 [] trivial ?_
      refine Runs.sA 1 [.code (C_13 116), .inLoop (C_13 116), .inBlock 0, .code (C_13 15)] ?_
      exact Runs.sW hE _ [] (kp [1, 5, 13, 14, 15]) (kq [0]) 1 [] trivial (ih ((out.set ((x).toNat) (orI .u16 (out.getD ((x).toNat) 0) (IntKind.u16.wrap ((shlI .u32 (IntKind.u32.wrap ((a.getD ((x).toNat) 0))) vby))))).set ((w64 (x + 1)).toNat) (IntKind.u16.wrap ((shrI .u32 (shlI .u32 (IntKind.u32.wrap ((a.getD ((x).toNat) 0))) vby) 16)))) (w64 (x + 1)) _ h E hE)
    · have h := condF h hq2
      refine Runs.sA 2 [.code (C_13 30), .code (C_13 31)] ?_
      refine Runs.sR hE ⟨[(4, (.os 0 0 out.length))], [(0, aO 1 (cU .u16) 0 out)], 49⟩ (C_13 30) [] [] (kp [4]) (kq [0]) 49 [] trivial ?_
      obtain rfl := Option.some.inj h
      refine Runs.sW hE ⟨[(4, (.os 0 0 out.length))], [(0, aO 1 (cU .u16) 0 out)], 49⟩ [] (kp [4]) (kq [0]) 49 [] trivial ?_
      exact Runs.sT Try.f154 [] [] trivial
theorem g_e_shifted_ok (N : Nat) (a : List Int) (vby : Int) (r : (List Int)) (h : g_e_shifted N a vby = some r) : Sound Try.prog 154 [(encL (cU .u16) 0 a), (aI vby)] [] 0 (.os 0 0 r.length) [(0, aO 1 (cU .u16) 0 r)] := by
  unfold g_e_shifted at h
  refine Sound.of_runs (fu := Try.f154) (c := C_13 1) (nt := 41) (by kernel_rfl) (by kernel_rfl) (by kernel_rfl) (by kernel_rfl) (fun hm => rfl) ?_
  intro E hE
  refine Runs.sA 1 [.code (C_13 2), .code (C_13 3)] ?_
  refine Runs.sR hE ⟨[(0, (encL (cU .u16) 0 a)), (1, (aI vby))], [], 16⟩ (C_13 2) [] [] (kp [0, 1]) [] 16 [] trivial ?_
  refine Runs.sA 1 [.code (C_13 6), .code (C_13 7)] ?_
  obtain ⟨c, h⟩ := ifSome h
  refine Runs.sR hE ⟨[(0, (encL (cU .u16) 0 a)), (1, (aI vby)), (5, (.os 64 0 ((List.replicate ((w64 (((a.length : Nat) : Int) + 1)).toNat) 0 : List Int).length)))], [(64, aO 1 (cU .u16) 0 (List.replicate ((w64 (((a.length : Nat) : Int) + 1)).toNat) 0 : List Int))], 96⟩ (C_13 6) [] [] (kp [0, 1] ++ [(5, .osl ((List.replicate ((w64 (((a.length : Nat) : Int) + 1)).toNat) 0 : List Int).length))]) [(64, .arr 64 ((List.replicate ((w64 (((a.length : Nat) : Int) + 1)).toNat) 0 : List Int).length) (fun zi => (cU .u16) ((List.replicate ((w64 (((a.length : Nat) : Int) + 1)).toNat) 0 : List Int).getD zi 0)))] 96 [0 ≤ (w64 (((a.length : Nat) : Int) + 1)), (w64 (((a.length : Nat) : Int) + 1)) ≤ (w64 (((a.length : Nat) : Int) + 1)), (2 : Int) * (w64 (((a.length : Nat) : Int) + 1)) ≤ 281474976710656, (w64 (((a.length : Nat) : Int) + 1)) ≤ 9223372036854775807, (w64 (((a.length : Nat) : Int) + 1)).toNat = (List.replicate ((w64 (((a.length : Nat) : Int) + 1)).toNat) 0 : List Int).length, (w64 (((a.length : Nat) : Int) + 1)).toNat = (List.replicate ((w64 (((a.length : Nat) : Int) + 1)).toNat) 0 : List Int).length, ∀ zi, zi < (List.replicate ((w64 (((a.length : Nat) : Int) + 1)).toNat) 0 : List Int).length → (fun zi => (cU .u16) ((List.replicate ((w64 (((a.length : Nat) : Int) + 1)).toNat) 0 : List Int).getD zi 0)) zi = (fun _ => [(.atom (.int .u16 0))]) zi] ⟨c.1, (Int.le_refl _), c.2.1, c.2.2, (List.length_replicate).symm, (List.length_replicate).symm, (fun zq hzq => get_rep (cU .u16) 0 0 ((w64 (((a.length : Nat) : Int) + 1)).toNat) zq hzq), trivial⟩ ?_
  refine Runs.sA 2 [.code (C_13 28), .code (C_13 29), .code (C_13 15)] ?_
  refine Runs.sR hE ⟨[(1, (aI vby)), (5, (.os 64 0 ((List.replicate ((w64 (((a.length : Nat) : Int) + 1)).toNat) 0 : List Int).length))), (13, (encL (cU .u16) 0 a)), (14, (aI ((a.length : Nat) : Int))), (15, (aI 0))], [(64, aO 1 (cU .u16) 0 (List.replicate ((w64 (((a.length : Nat) : Int) + 1)).toNat) 0 : List Int))], 144⟩ (C_13 28) [] [] (kp [1, 5, 13, 14, 15]) (kq [64]) 144 [] trivial ?_
  refine Runs.sA 2 [.code (C_13 116), .inLoop (C_13 116), .inBlock 0, .code (C_13 15)] ?_
  exact Runs.sW hE _ [] (kp [1, 5, 13, 14, 15]) [(0, .keep 64)] 1 [] trivial (g_e_shifted_L1_ok N a vby N (List.replicate ((w64 (((a.length : Nat) : Int) + 1)).toNat) 0 : List Int) 0 _ h E hE)
noncomputable def C_14 (n : Nat) : Code := cat (bodyOf Try.f155) (pth n)
theorem g_e_digit_J3_ok (N : Nat) (uo : Nat) (un : Nat) (v : List Int) (q : Int) (cap02 : List Int) (borrow : Int) (x : Int) (K_g_e_digit_L2 : (List Int) → Int → Int → Int → Option (Int × (List Int)))
    (hK_g_e_digit_L2 : ∀ (cap02 : List Int) (carry : Int) (borrow : Int) (x : Int) (r : Int × (List Int)), K_g_e_digit_L2 cap02 carry borrow x = some r → ∀ E, EnvOk E 1 → Runs Try.prog E 155 161 (SPost E [(0, aO 1 (cU .u16) 0 r.2)] (.atom (.int .u16 r.1))) [.code (C_14 2036), .inLoop (C_14 2036), .inBlock 2, .code (C_14 255)] ⟨[(0, (.os 0 uo un)), (1, (encL (cU .u16) 0 v)), (5, (aI ((v.length : Nat) : Int))), (7, (.atom (.int .u64 q))), (9, (.atom (.int .u64 carry))), (10, (aI borrow)), (84, (aI (w64 (((v.length : Nat) : Int) + 1)))), (85, (aI x))], [(0, aO 1 (cU .u16) 0 cap02)], 1⟩) (x2 : Int) (r : Int × (List Int)) (h : g_e_digit_J3 N uo un v q cap02 borrow x K_g_e_digit_L2 x2 = some r) : ∀ E, EnvOk E 1 → Runs Try.prog E 155 161 (SPost E [(0, aO 1 (cU .u16) 0 r.2)] (.atom (.int .u16 r.1))) [.code (C_14 521422), .code (C_14 521423), .inBlock 3, .code (C_14 16295), .inLoop (C_14 2036), .inBlock 2, .code (C_14 255)] ⟨[(0, (.os 0 uo un)), (1, (encL (cU .u16) 0 v)), (5, (aI ((v.length : Nat) : Int))), (7, (.atom (.int .u64 q))), (10, (aI borrow)), (11, (aI x)), (12, (.atom (.int .u64 x2))), (84, (aI (w64 (((v.length : Nat) : Int) + 1)))), (85, (aI x))], [(0, aO 1 (cU .u16) 0 cap02)], 1⟩ := by
  intro E hE
  unfold g_e_digit_J3 at h
  refine Runs.sR hE ⟨[(0, (.os 0 uo un)), (1, (encL (cU .u16) 0 v)), (5, (aI ((v.length : Nat) : Int))), (7, (.atom (.int .u64 q))), (9, (.atom (.int .u64 (shrI .u64 x2 16)))), (10, (aI borrow)), (11, (aI x)), (12, (.atom (.int .u64 x2))), (84, (aI (w64 (((v.length : Nat) : Int) + 1)))), (85, (aI x))], [(0, aO 1 (cU .u16) 0 cap02)], 49⟩ (C_14 521422) [] [] (kp [0, 1, 5, 7, 9, 10, 11, 12, 84, 85]) (kq [0]) 49 [(0 : Int) ≤ 16] ⟨(by decide), trivial⟩ ?_
  refine Runs.sA 1 [.code (C_14 1042846), .code (C_14 1042847), .inBlock 3, .code (C_14 16295), .inLoop (C_14 2036), .inBlock 2, .code (C_14 255)] ?_
  obtain ⟨c11, h⟩ := ifSome h
  obtain ⟨c12, h⟩ := ifSome h
  refine Runs.sR hE ⟨[(0, (.os 0 uo un)), (1, (encL (cU .u16) 0 v)), (5, (aI ((v.length : Nat) : Int))), (7, (.atom (.int .u64 q))), (9, (.atom (.int .u64 (shrI .u64 x2 16)))), (11, (aI x)), (13, (aI (w64 ((w64 ((w64 ((cap02.getD (addz uo (x).toNat) 0))) - (w64 ((andI .u64 x2 65535))))) + borrow)))), (84, (aI (w64 (((v.length : Nat) : Int) + 1)))), (85, (aI x))], [(0, aO 1 (cU .u16) 0 cap02)], 241⟩ (C_14 1042846) [] [] (kp [0, 1, 5, 7, 9, 11, 13, 84, 85]) (kq [0]) 241 [0 ≤ x ∧ x < ((un : Nat) : Int), (addz uo (x).toNat) < cap02.length] ⟨c11, (by have h1 := c11; have h2 := c12; simp only [addz_eq]; omega), trivial⟩ ?_
  refine Runs.sA 1 [.code (C_14 2085694), .code (C_14 2085695), .inBlock 3, .code (C_14 16295), .inLoop (C_14 2036), .inBlock 2, .code (C_14 255)] ?_
  refine Runs.sR hE ⟨[(0, (.os 0 uo un)), (1, (encL (cU .u16) 0 v)), (5, (aI ((v.length : Nat) : Int))), (7, (.atom (.int .u64 q))), (9, (.atom (.int .u64 (shrI .u64 x2 16)))), (13, (aI (w64 ((w64 ((w64 ((cap02.getD (addz uo (x).toNat) 0))) - (w64 ((andI .u64 x2 65535))))) + borrow)))), (84, (aI (w64 (((v.length : Nat) : Int) + 1)))), (85, (aI x))], [(0, aO 1 (cU .u16) 0 (cap02.set (addz uo (x).toNat) (IntKind.u16.wrap ((w64 ((w64 ((w64 ((cap02.getD (addz uo (x).toNat) 0))) - (w64 ((andI .u64 x2 65535))))) + borrow))))))], 337⟩ (C_14 2085694) [] [] (kp [0, 1, 5, 7, 9, 13, 84, 85]) [(0, .arr 0 ((cap02.set (addz uo (x).toNat) (IntKind.u16.wrap ((w64 ((w64 ((w64 ((cap02.getD (addz uo (x).toNat) 0))) - (w64 ((andI .u64 x2 65535))))) + borrow))))).length) (fun zi => (cU .u16) ((cap02.set (addz uo (x).toNat) (IntKind.u16.wrap ((w64 ((w64 ((w64 ((cap02.getD (addz uo (x).toNat) 0))) - (w64 ((andI .u64 x2 65535))))) + borrow))))).getD zi 0)))] 337 [0 ≤ x ∧ x < ((un : Nat) : Int), (addz uo (x).toNat) < cap02.length, cap02.length = (cap02.set (addz uo (x).toNat) (IntKind.u16.wrap ((w64 ((w64 ((w64 ((cap02.getD (addz uo (x).toNat) 0))) - (w64 ((andI .u64 x2 65535))))) + borrow))))).length, ∀ zi, zi < (cap02.set (addz uo (x).toNat) (IntKind.u16.wrap ((w64 ((w64 ((w64 ((cap02.getD (addz uo (x).toNat) 0))) - (w64 ((andI .u64 x2 65535))))) + borrow))))).length → (fun zi => (cU .u16) ((cap02.set (addz uo (x).toNat) (IntKind.u16.wrap ((w64 ((w64 ((w64 ((cap02.getD (addz uo (x).toNat) 0))) - (w64 ((andI .u64 x2 65535))))) + borrow))))).getD zi 0)) zi = ((fun zm => if zm = (addz uo (x).toNat) then [(.atom (.int .u16 (IntKind.u16.wrap ((w64 ((w64 ((w64 ((cap02.getD (addz uo (x).toNat) 0))) - (w64 ((andI .u64 x2 65535))))) + borrow))))))] else (fun zi => (cU .u16) (cap02.getD zi 0)) zm)) zi] ⟨c11, (by have h1 := c11; have h2 := c12; simp only [addz_eq]; omega), (len_set_raw rfl), (get_set_raw (cU .u16) 0 cap02 (addz uo (x).toNat) (IntKind.u16.wrap ((w64 ((w64 ((w64 ((cap02.getD (addz uo (x).toNat) 0))) - (w64 ((andI .u64 x2 65535))))) + borrow)))) (fun _ _ => rfl)), trivial⟩ ?_
  refine Runs.sR hE ⟨[(0, (.os 0 uo un)), (1, (encL (cU .u16) 0 v)), (5, (aI ((v.length : Nat) : Int))), (7, (.atom (.int .u64 q))), (9, (.atom (.int .u64 (shrI .u64 x2 16)))), (10, (aI (shrI .i64 (w64 ((w64 ((w64 ((cap02.getD (addz uo (x).toNat) 0))) - (w64 ((andI .u64 x2 65535))))) + borrow)) 16))), (84, (aI (w64 (((v.length : Nat) : Int) + 1)))), (85, (aI x))], [(0, aO 1 (cU .u16) 0 (cap02.set (addz uo (x).toNat) (IntKind.u16.wrap ((w64 ((w64 ((w64 ((cap02.getD (addz uo (x).toNat) 0))) - (w64 ((andI .u64 x2 65535))))) + borrow))))))], 385⟩ (C_14 2085695) [] [] (kp [0, 1, 5, 7, 9, 10, 84, 85]) (kq [0]) 385 [(0 : Int) ≤ 16] ⟨(by decide), trivial⟩ ?_
  refine Runs.sA 1 [.code (C_14 16295), .inLoop (C_14 2036), .inBlock 2, .code (C_14 255)] ?_
  refine Runs.sR hE ⟨[(0, (.os 0 uo un)), (1, (encL (cU .u16) 0 v)), (5, (aI ((v.length : Nat) : Int))), (7, (.atom (.int .u64 q))), (9, (.atom (.int .u64 (shrI .u64 x2 16)))), (10, (aI (shrI .i64 (w64 ((w64 ((w64 ((cap02.getD (addz uo (x).toNat) 0))) - (w64 ((andI .u64 x2 65535))))) + borrow)) 16))), (84, (aI (w64 (((v.length : Nat) : Int) + 1)))), (85, (aI (w64 (x + 1))))], [(0, aO 1 (cU .u16) 0 (cap02.set (addz uo (x).toNat) (IntKind.u16.wrap ((w64 ((w64 ((w64 ((cap02.getD (addz uo (x).toNat) 0))) - (w64 ((andI .u64 x2 65535))))) + borrow))))))], 417⟩ (C_14 16295) [] [] (kp [0, 1, 5, 7, 9, 10, 84, 85]) (kq [0]) 417 [] trivial ?_
  refine Runs.sA 1 [.code (C_14 2036), .inLoop (C_14 2036), .inBlock 2, .code (C_14 255)] ?_
  exact Runs.sW hE _ [] (kp [0, 1, 5, 7, 9, 10, 84, 85]) (kq [0]) 1 [] trivial (hK_g_e_digit_L2 (cap02.set (addz uo (x).toNat) (IntKind.u16.wrap ((w64 ((w64 ((w64 ((cap02.getD (addz uo (x).toNat) 0))) - (w64 ((andI .u64 x2 65535))))) + borrow))))) (shrI .u64 x2 16) (shrI .i64 (w64 ((w64 ((w64 ((cap02.getD (addz uo (x).toNat) 0))) - (w64 ((andI .u64 x2 65535))))) + borrow)) 16) (w64 (x + 1)) _ h E hE)
theorem g_e_digit_J5_ok (N : Nat) (cap04 : List Int) (q2 : Int) (r : Int × (List Int)) (h : g_e_digit_J5 N cap04 q2 = some r) : ∀ E, EnvOk E 1 → Runs Try.prog E 155 161 (SPost E [(0, aO 1 (cU .u16) 0 r.2)] (.atom (.int .u16 r.1))) [.code (C_14 1022), .code (C_14 1023)] ⟨[(7, (.atom (.int .u64 q2)))], [(0, aO 1 (cU .u16) 0 cap04)], 1⟩ := by
  intro E hE
  unfold g_e_digit_J5 at h
  refine Runs.sR hE ⟨[(4, (.atom (.int .u16 (IntKind.u16.wrap (q2)))))], [(0, aO 1 (cU .u16) 0 cap04)], 49⟩ (C_14 1022) [] [] (kp [4]) (kq [0]) 49 [] trivial ?_
  obtain rfl := Option.some.inj h
  refine Runs.sW hE ⟨[(4, (.atom (.int .u16 (IntKind.u16.wrap (q2)))))], [(0, aO 1 (cU .u16) 0 cap04)], 49⟩ [] (kp [4]) (kq [0]) 49 [] trivial ?_
  exact Runs.sT Try.f155 [] [] trivial
theorem g_e_digit_L4_ok (N : Nat) (uo : Nat) (un : Nat) (v : List Int) (q : Int) (fuel : Nat) : ∀ (cap03 : List Int) (carry2 : Int) (x3 : Int) (r : Int × (List Int)), g_e_digit_L4 N uo un v q fuel cap03 carry2 x3 = some r → ∀ E, EnvOk E 1 → Runs Try.prog E 155 161 (SPost E [(0, aO 1 (cU .u16) 0 r.2)] (.atom (.int .u16 r.1))) [.code (C_14 130740), .inLoop (C_14 130740), .inBlock 4, .code (C_14 16343), .code (C_14 511)] ⟨[(0, (.os 0 uo un)), (1, (encL (cU .u16) 0 v)), (5, (aI ((v.length : Nat) : Int))), (7, (.atom (.int .u64 (IntKind.u64.wrap (q - 1))))), (14, (.atom (.int .u32 carry2))), (126, (aI ((v.length : Nat) : Int))), (127, (aI x3))], [(0, aO 1 (cU .u16) 0 cap03)], 1⟩ := by
  induction fuel with
  | zero => intro _ _ _ r h; rw [g_e_digit_L4.eq_1] at h; cases h
  | succ fuel ih =>
    intro cap03 carry2 x3 r h E hE
    rw [g_e_digit_L4.eq_2] at h
    refine Runs.sA 1 [.code (C_14 261480), .code (C_14 261481), .inLoop (C_14 130740), .inBlock 4, .code (C_14 16343), .code (C_14 511)] ?_
    refine Runs.sR hE ⟨[(0, (.os 0 uo un)), (1, (encL (cU .u16) 0 v)), (5, (aI ((v.length : Nat) : Int))), (7, (.atom (.int .u64 (IntKind.u64.wrap (q - 1))))), (14, (.atom (.int .u32 carry2))), (126, (aI ((v.length : Nat) : Int))), (127, (aI x3)), (128, (aB (decide (x3 < ((v.length : Nat) : Int)))))], [(0, aO 1 (cU .u16) 0 cap03)], 17⟩ (C_14 261480) [] [] (kp [0, 1, 5, 7, 14, 126, 127, 128]) (kq [0]) 17 [] trivial ?_
    refine Runs.sA 1 [.code (C_14 522962), .code (C_14 522963), .inLoop (C_14 130740), .inBlock 4, .code (C_14 16343), .code (C_14 511)] ?_
    refine Runs.sC 128 (C_14 1045924) (C_14 1045925) (decide (x3 < ((v.length : Nat) : Int))) (fun hq6 => ?_) (fun hq6 => ?_)
    · have h := condT h hq6
      refine Runs.sA 4 [.code (C_14 4183704), .code (C_14 4183705), .inBlock 5, .code (C_14 1045927), .inLoop (C_14 130740), .inBlock 4, .code (C_14 16343), .code (C_14 511)] ?_
      refine Runs.sR hE ⟨[(0, (.os 0 uo un)), (1, (encL (cU .u16) 0 v)), (5, (aI ((v.length : Nat) : Int))), (7, (.atom (.int .u64 (IntKind.u64.wrap (q - 1))))), (14, (.atom (.int .u32 carry2))), (15, (aI x3)), (126, (aI ((v.length : Nat) : Int))), (127, (aI x3))], [(0, aO 1 (cU .u16) 0 cap03)], 49⟩ (C_14 4183704) [] [] (kp [0, 1, 5, 7, 14, 15, 126, 127]) (kq [0]) 49 [] trivial ?_
      refine Runs.sA 1 [.code (C_14 8367410), .code (C_14 8367411), .inBlock 5, .code (C_14 1045927), .inLoop (C_14 130740), .inBlock 4, .code (C_14 16343), .code (C_14 511)] ?_
      obtain ⟨c13, h⟩ := ifSome h
      obtain ⟨c14, h⟩ := ifSome h
      obtain ⟨c15, h⟩ := ifSome h
      refine Runs.sR hE ⟨[(0, (.os 0 uo un)), (1, (encL (cU .u16) 0 v)), (5, (aI ((v.length : Nat) : Int))), (7, (.atom (.int .u64 (IntKind.u64.wrap (q - 1))))), (14, (.atom (.int .u32 (IntKind.u32.wrap (carry2 + (IntKind.u32.wrap ((IntKind.u32.wrap ((cap03.getD (addz uo (x3).toNat) 0))) + (IntKind.u32.wrap ((v.getD ((x3).toNat) 0)))))))))), (15, (aI x3)), (126, (aI ((v.length : Nat) : Int))), (127, (aI x3))], [(0, aO 1 (cU .u16) 0 cap03)], 273⟩ (C_14 8367410) [] [] (kp [0, 1, 5, 7, 14, 15, 126, 127]) (kq [0]) 273 [0 ≤ x3 ∧ x3 < ((un : Nat) : Int), (addz uo (x3).toNat) < cap03.length, 0 ≤ x3 ∧ x3 < ((v.length : Nat) : Int)] ⟨c13, (by have h1 := c13; have h2 := c14; simp only [addz_eq]; omega), c15, trivial⟩ ?_
      refine Runs.sA 1 [.code (C_14 16734822), .code (C_14 16734823), .inBlock 5, .code (C_14 1045927), .inLoop (C_14 130740), .inBlock 4, .code (C_14 16343), .code (C_14 511)] ?_
      refine Runs.sR hE ⟨[(0, (.os 0 uo un)), (1, (encL (cU .u16) 0 v)), (5, (aI ((v.length : Nat) : Int))), (7, (.atom (.int .u64 (IntKind.u64.wrap (q - 1))))), (14, (.atom (.int .u32 (IntKind.u32.wrap (carry2 + (IntKind.u32.wrap ((IntKind.u32.wrap ((cap03.getD (addz uo (x3).toNat) 0))) + (IntKind.u32.wrap ((v.getD ((x3).toNat) 0)))))))))), (126, (aI ((v.length : Nat) : Int))), (127, (aI x3))], [(0, aO 1 (cU .u16) 0 (cap03.set (addz uo (x3).toNat) (IntKind.u16.wrap ((IntKind.u32.wrap (carry2 + (IntKind.u32.wrap ((IntKind.u32.wrap ((cap03.getD (addz uo (x3).toNat) 0))) + (IntKind.u32.wrap ((v.getD ((x3).toNat) 0)))))))))))], 369⟩ (C_14 16734822) [] [] (kp [0, 1, 5, 7, 14, 126, 127]) [(0, .arr 0 ((cap03.set (addz uo (x3).toNat) (IntKind.u16.wrap ((IntKind.u32.wrap (carry2 + (IntKind.u32.wrap ((IntKind.u32.wrap ((cap03.getD (addz uo (x3).toNat) 0))) + (IntKind.u32.wrap ((v.getD ((x3).toNat) 0)))))))))).length) (fun zi => (cU .u16) ((cap03.set (addz uo (x3).toNat) (IntKind.u16.wrap ((IntKind.u32.wrap (carry2 + (IntKind.u32.wrap ((IntKind.u32.wrap ((cap03.getD (addz uo (x3).toNat) 0))) + (IntKind.u32.wrap ((v.getD ((x3).toNat) 0)))))))))).getD zi 0)))] 369 [0 ≤ x3 ∧ x3 < ((un : Nat) : Int), (addz uo (x3).toNat) < cap03.length, cap03.length = (cap03.set (addz uo (x3).toNat) (IntKind.u16.wrap ((IntKind.u32.wrap (carry2 + (IntKind.u32.wrap ((IntKind.u32.wrap ((cap03.getD (addz uo (x3).toNat) 0))) + (IntKind.u32.wrap ((v.getD ((x3).toNat) 0)))))))))).length, ∀ zi, zi < (cap03.set (addz uo (x3).toNat) (IntKind.u16.wrap ((IntKind.u32.wrap (carry2 + (IntKind.u32.wrap ((IntKind.u32.wrap ((cap03.getD (addz uo (x3).toNat) 0))) + (IntKind.u32.wrap ((v.getD ((x3).toNat) 0)))))))))).length → (fun zi => (cU .u16) ((cap03.set (addz uo (x3).toNat) (IntKind.u16.wrap ((IntKind.u32.wrap (carry2 + (IntKind.u32.wrap ((IntKind.u32.wrap ((cap03.getD (addz uo (x3).toNat) 0))) + (IntKind.u32.wrap ((v.getD ((x3).toNat) 0)))))))))).getD zi 0)) zi = ((fun zm => if zm = (addz uo (x3).toNat) then [(.atom (.int .u16 (IntKind.u16.wrap ((IntKind.u32.wrap (carry2 + (IntKind.u32.wrap ((IntKind.u32.wrap ((cap03.getD (addz uo (x3).toNat) 0))) + (IntKind.u32.wrap ((v.getD ((x3).toNat) 0)))))))))))] else (fun zi => (cU .u16) (cap03.getD zi 0)) zm)) zi] ⟨c13, (by have h1 := c13; have h2 := c14; simp only [addz_eq]; omega), (len_set_raw rfl), (get_set_raw (cU .u16) 0 cap03 (addz uo (x3).toNat) (IntKind.u16.wrap ((IntKind.u32.wrap (carry2 + (IntKind.u32.wrap ((IntKind.u32.wrap ((cap03.getD (addz uo (x3).toNat) 0))) + (IntKind.u32.wrap ((v.getD ((x3).toNat) 0))))))))) (fun _ _ => rfl)), trivial⟩ ?_
      refine Runs.sR hE ⟨[(0, (.os 0 uo un)), (1, (encL (cU .u16) 0 v)), (5, (aI ((v.length : Nat) : Int))), (7, (.atom (.int .u64 (IntKind.u64.wrap (q - 1))))), (14, (.atom (.int .u32 (shrI .u32 (IntKind.u32.wrap (carry2 + (IntKind.u32.wrap ((IntKind.u32.wrap ((cap03.getD (addz uo (x3).toNat) 0))) + (IntKind.u32.wrap ((v.getD ((x3).toNat) 0))))))) 16)))), (126, (aI ((v.length : Nat) : Int))), (127, (aI x3))], [(0, aO 1 (cU .u16) 0 (cap03.set (addz uo (x3).toNat) (IntKind.u16.wrap ((IntKind.u32.wrap (carry2 + (IntKind.u32.wrap ((IntKind.u32.wrap ((cap03.getD (addz uo (x3).toNat) 0))) + (IntKind.u32.wrap ((v.getD ((x3).toNat) 0)))))))))))], 417⟩ (C_14 16734823) [] [] (kp [0, 1, 5, 7, 14, 126, 127]) (kq [0]) 417 [(0 : Int) ≤ 16] ⟨(by decide), trivial⟩ ?_
      refine Runs.sA 1 [.code (C_14 1045927), .inLoop (C_14 130740), .inBlock 4, .code (C_14 16343), .code (C_14 511)] ?_
      refine Runs.sR hE ⟨[(0, (.os 0 uo un)), (1, (encL (cU .u16) 0 v)), (5, (aI ((v.length : Nat) : Int))), (7, (.atom (.int .u64 (IntKind.u64.wrap (q - 1))))), (14, (.atom (.int .u32 (shrI .u32 (IntKind.u32.wrap (carry2 + (IntKind.u32.wrap ((IntKind.u32.wrap ((cap03.getD (addz uo (x3).toNat) 0))) + (IntKind.u32.wrap ((v.getD ((x3).toNat) 0))))))) 16)))), (126, (aI ((v.length : Nat) : Int))), (127, (aI (w64 (x3 + 1))))], [(0, aO 1 (cU .u16) 0 (cap03.set (addz uo (x3).toNat) (IntKind.u16.wrap ((IntKind.u32.wrap (carry2 + (IntKind.u32.wrap ((IntKind.u32.wrap ((cap03.getD (addz uo (x3).toNat) 0))) + (IntKind.u32.wrap ((v.getD ((x3).toNat) 0)))))))))))], 449⟩ (C_14 1045927) [] [] (kp [0, 1, 5, 7, 14, 126, 127]) (kq [0]) 449 [] trivial ?_
      refine Runs.sA 1 [.code (C_14 130740), .inLoop (C_14 130740), .inBlock 4, .code (C_14 16343), .code (C_14 511)] ?_
      exact Runs.sW hE _ [] (kp [0, 1, 5, 7, 14, 126, 127]) (kq [0]) 1 [] trivial (ih (cap03.set (addz uo (x3).toNat) (IntKind.u16.wrap ((IntKind.u32.wrap (carry2 + (IntKind.u32.wrap ((IntKind.u32.wrap ((cap03.getD (addz uo (x3).toNat) 0))) + (IntKind.u32.wrap ((v.getD ((x3).toNat) 0)))))))))) (shrI .u32 (IntKind.u32.wrap (carry2 + (IntKind.u32.wrap ((IntKind.u32.wrap ((cap03.getD (addz uo (x3).toNat) 0))) + (IntKind.u32.wrap ((v.getD ((x3).toNat) 0))))))) 16) (w64 (x3 + 1)) _ h E hE)
    · have h := condF h hq6
      refine Runs.sA 1 [.code (C_14 16343), .code (C_14 511)] ?_
      obtain ⟨c16, h⟩ := ifSome h
      obtain ⟨c17, h⟩ := ifSome h
      refine Runs.sR hE ⟨[(7, (.atom (.int .u64 (IntKind.u64.wrap (q - 1)))))], [(0, aO 1 (cU .u16) 0 (cap03.set (addz uo v.length) (IntKind.u16.wrap ((cap03.getD (addz uo v.length) 0) + (IntKind.u16.wrap (carry2))))))], 161⟩ (C_14 16343) [] [] (kp [7]) [(0, .arr 0 ((cap03.set (addz uo v.length) (IntKind.u16.wrap ((cap03.getD (addz uo v.length) 0) + (IntKind.u16.wrap (carry2))))).length) (fun zi => (cU .u16) ((cap03.set (addz uo v.length) (IntKind.u16.wrap ((cap03.getD (addz uo v.length) 0) + (IntKind.u16.wrap (carry2))))).getD zi 0)))] 161 [0 ≤ ((v.length : Nat) : Int) ∧ ((v.length : Nat) : Int) < ((un : Nat) : Int), (addz uo v.length) < cap03.length, 0 ≤ ((v.length : Nat) : Int) ∧ ((v.length : Nat) : Int) < ((un : Nat) : Int), (addz uo v.length) < cap03.length, cap03.length = (cap03.set (addz uo v.length) (IntKind.u16.wrap ((cap03.getD (addz uo v.length) 0) + (IntKind.u16.wrap (carry2))))).length, ∀ zi, zi < (cap03.set (addz uo v.length) (IntKind.u16.wrap ((cap03.getD (addz uo v.length) 0) + (IntKind.u16.wrap (carry2))))).length → (fun zi => (cU .u16) ((cap03.set (addz uo v.length) (IntKind.u16.wrap ((cap03.getD (addz uo v.length) 0) + (IntKind.u16.wrap (carry2))))).getD zi 0)) zi = ((fun zm => if zm = (addz uo v.length) then [(.atom (.int .u16 (IntKind.u16.wrap ((cap03.getD (addz uo v.length) 0) + (IntKind.u16.wrap (carry2))))))] else (fun zi => (cU .u16) (cap03.getD zi 0)) zm)) zi] ⟨c16, (by have h1 := c16; have h2 := c17; simp only [addz_eq]; omega), c16, (by have h1 := c16; have h2 := c17; simp only [addz_eq]; omega), (len_set_raw rfl), (get_set_raw (cU .u16) 0 cap03 (addz uo v.length) (IntKind.u16.wrap ((cap03.getD (addz uo v.length) 0) + (IntKind.u16.wrap (carry2)))) (fun _ _ => rfl)), trivial⟩ ?_
      refine Runs.sA 1 [.code (C_14 1022), .code (C_14 1023)] ?_
      exact Runs.sW hE _ [] (kp [7]) (kq [0]) 1 [] trivial (g_e_digit_J5_ok N (cap03.set (addz uo v.length) (IntKind.u16.wrap ((cap03.getD (addz uo v.length) 0) + (IntKind.u16.wrap (carry2))))) (IntKind.u64.wrap (q - 1)) _ h E hE)
theorem g_e_digit_L2_ok (N : Nat) (uo : Nat) (un : Nat) (v : List Int) (q : Int) (fuel : Nat) : ∀ (cap02 : List Int) (carry : Int) (borrow : Int) (x : Int) (r : Int × (List Int)), g_e_digit_L2 N uo un v q fuel cap02 carry borrow x = some r → ∀ E, EnvOk E 1 → Runs Try.prog E 155 161 (SPost E [(0, aO 1 (cU .u16) 0 r.2)] (.atom (.int .u16 r.1))) [.code (C_14 2036), .inLoop (C_14 2036), .inBlock 2, .code (C_14 255)] ⟨[(0, (.os 0 uo un)), (1, (encL (cU .u16) 0 v)), (5, (aI ((v.length : Nat) : Int))), (7, (.atom (.int .u64 q))), (9, (.atom (.int .u64 carry))), (10, (aI borrow)), (84, (aI (w64 (((v.length : Nat) : Int) + 1)))), (85, (aI x))], [(0, aO 1 (cU .u16) 0 cap02)], 1⟩ := by
  induction fuel with
  | zero => intro _ _ _ _ r h; rw [g_e_digit_L2.eq_1] at h; cases h
  | succ fuel ih =>
    intro cap02 carry borrow x r h E hE
    rw [g_e_digit_L2.eq_2] at h
    refine Runs.sA 1 [.code (C_14 4072), .code (C_14 4073), .inLoop (C_14 2036), .inBlock 2, .code (C_14 255)] ?_
    refine Runs.sR hE ⟨[(0, (.os 0 uo un)), (1, (encL (cU .u16) 0 v)), (5, (aI ((v.length : Nat) : Int))), (7, (.atom (.int .u64 q))), (9, (.atom (.int .u64 carry))), (10, (aI borrow)), (84, (aI (w64 (((v.length : Nat) : Int) + 1)))), (85, (aI x)), (86, (aB (decide (x < (w64 (((v.length : Nat) : Int) + 1))))))], [(0, aO 1 (cU .u16) 0 cap02)], 17⟩ (C_14 4072) [] [] (kp [0, 1, 5, 7, 9, 10, 84, 85, 86]) (kq [0]) 17 [] trivial ?_
    refine Runs.sA 1 [.code (C_14 8146), .code (C_14 8147), .inLoop (C_14 2036), .inBlock 2, .code (C_14 255)] ?_
    refine Runs.sC 86 (C_14 16292) (C_14 16293) (decide (x < (w64 (((v.length : Nat) : Int) + 1)))) (fun hq3 => ?_) (fun hq3 => ?_)
    · have h := condT h hq3
      refine Runs.sA 4 [.code (C_14 65176), .code (C_14 65177), .inBlock 3, .code (C_14 16295), .inLoop (C_14 2036), .inBlock 2, .code (C_14 255)] ?_
      refine Runs.sR hE ⟨[(0, (.os 0 uo un)), (1, (encL (cU .u16) 0 v)), (5, (aI ((v.length : Nat) : Int))), (7, (.atom (.int .u64 q))), (9, (.atom (.int .u64 carry))), (10, (aI borrow)), (11, (aI x)), (84, (aI (w64 (((v.length : Nat) : Int) + 1)))), (85, (aI x))], [(0, aO 1 (cU .u16) 0 cap02)], 49⟩ (C_14 65176) [] [] (kp [0, 1, 5, 7, 9, 10, 11, 84, 85]) (kq [0]) 49 [] trivial ?_
      refine Runs.sA 1 [.code (C_14 130354), .code (C_14 130355), .inBlock 3, .code (C_14 16295), .inLoop (C_14 2036), .inBlock 2, .code (C_14 255)] ?_
      refine Runs.sR hE ⟨[(0, (.os 0 uo un)), (1, (encL (cU .u16) 0 v)), (5, (aI ((v.length : Nat) : Int))), (7, (.atom (.int .u64 q))), (10, (aI borrow)), (11, (aI x)), (12, (.atom (.int .u64 carry))), (84, (aI (w64 (((v.length : Nat) : Int) + 1)))), (85, (aI x))], [(0, aO 1 (cU .u16) 0 cap02)], 81⟩ (C_14 130354) [] [] (kp [0, 1, 5, 7, 10, 11, 12, 84, 85]) (kq [0]) 81 [] trivial ?_
      refine Runs.sA 2 [.code (C_14 521420), .code (C_14 521421), .code (C_14 260711), .inBlock 3, .code (C_14 16295), .inLoop (C_14 2036), .inBlock 2, .code (C_14 255)] ?_
      refine Runs.sR hE ⟨[(0, (.os 0 uo un)), (1, (encL (cU .u16) 0 v)), (5, (aI ((v.length : Nat) : Int))), (7, (.atom (.int .u64 q))), (10, (aI borrow)), (11, (aI x)), (12, (.atom (.int .u64 carry))), (84, (aI (w64 (((v.length : Nat) : Int) + 1)))), (85, (aI x)), (91, (aB (decide (x < ((v.length : Nat) : Int)))))], [(0, aO 1 (cU .u16) 0 cap02)], 129⟩ (C_14 521420) [] [] (kp [0, 1, 5, 7, 10, 11, 12, 84, 85, 91]) (kq [0]) 129 [] trivial ?_
      refine Runs.sC 91 (C_14 1042842) (C_14 1042843) (decide (x < ((v.length : Nat) : Int))) (fun hq4 => ?_) (fun hq4 => ?_)
      · have h := condT h hq4
        obtain ⟨c10, h⟩ := ifSome h
        refine Runs.sR hE ⟨[(0, (.os 0 uo un)), (1, (encL (cU .u16) 0 v)), (5, (aI ((v.length : Nat) : Int))), (7, (.atom (.int .u64 q))), (10, (aI borrow)), (11, (aI x)), (12, (.atom (.int .u64 (IntKind.u64.wrap (carry + (IntKind.u64.wrap (q * (IntKind.u64.wrap ((v.getD ((x).toNat) 0)))))))))), (84, (aI (w64 (((v.length : Nat) : Int) + 1)))), (85, (aI x))], [(0, aO 1 (cU .u16) 0 cap02)], 289⟩ (C_14 1042842) [] [] (kp [0, 1, 5, 7, 10, 11, 12, 84, 85]) (kq [0]) 289 [0 ≤ x ∧ x < ((v.length : Nat) : Int)] ⟨c10, trivial⟩ ?_
        refine Runs.sA 1 [.code (C_14 521422), .code (C_14 521423), .inBlock 3, .code (C_14 16295), .inLoop (C_14 2036), .inBlock 2, .code (C_14 255)] ?_
        exact Runs.sW hE _ [] (kp [0, 1, 5, 7, 10, 11, 12, 84, 85]) (kq [0]) 1 [] trivial (g_e_digit_J3_ok N uo un v q cap02 borrow x (g_e_digit_L2 N uo un v q fuel) ih (IntKind.u64.wrap (carry + (IntKind.u64.wrap (q * (IntKind.u64.wrap ((v.getD ((x).toNat) 0))))))) _ h E hE)
      · have h := condF h hq4
        refine Runs.sA 2 [.code (C_14 521422), .code (C_14 521423), .inBlock 3, .code (C_14 16295), .inLoop (C_14 2036), .inBlock 2, .code (C_14 255)] ?_
        exact Runs.sW hE _ [] (kp [0, 1, 5, 7, 10, 11, 12, 84, 85]) (kq [0]) 1 [] trivial (g_e_digit_J3_ok N uo un v q cap02 borrow x (g_e_digit_L2 N uo un v q fuel) ih carry _ h E hE)
    · have h := condF h hq3
      refine Runs.sA 3 [.code (C_14 1020), .code (C_14 1021), .code (C_14 511)] ?_
      refine Runs.sR hE ⟨[(0, (.os 0 uo un)), (1, (encL (cU .u16) 0 v)), (5, (aI ((v.length : Nat) : Int))), (7, (.atom (.int .u64 q))), (123, (aB (decide (borrow < 0))))], [(0, aO 1 (cU .u16) 0 cap02)], 49⟩ (C_14 1020) [] [] (kp [0, 1, 5, 7, 123]) (kq [0]) 49 [] trivial ?_
      refine Runs.sC 123 (C_14 2042) (C_14 2043) (decide (borrow < 0)) (fun hq5 => ?_) (fun hq5 => ?_)
      · have h := condT h hq5
        refine Runs.sA 1 [.code (C_14 4084), .code (C_14 4085), .code (C_14 511)] ?_
        refine Runs.sR hE ⟨[(0, (.os 0 uo un)), (1, (encL (cU .u16) 0 v)), (5, (aI ((v.length : Nat) : Int))), (7, (.atom (.int .u64 (IntKind.u64.wrap (q - 1)))))], [(0, aO 1 (cU .u16) 0 cap02)], 97⟩ (C_14 4084) [] [] (kp [0, 1, 5, 7]) (kq [0]) 97 [] trivial ?_
        refine Runs.sA 1 [.code (C_14 8170), .code (C_14 8171), .code (C_14 511)] ?_
        refine Runs.sR hE ⟨[(0, (.os 0 uo un)), (1, (encL (cU .u16) 0 v)), (5, (aI ((v.length : Nat) : Int))), (7, (.atom (.int .u64 (IntKind.u64.wrap (q - 1))))), (14, (.atom (.int .u32 0)))], [(0, aO 1 (cU .u16) 0 cap02)], 113⟩ (C_14 8170) [] [] (kp [0, 1, 5, 7, 14]) (kq [0]) 113 [] trivial ?_
        refine Runs.sA 2 [.code (C_14 32684), .code (C_14 32685), .code (C_14 16343), .code (C_14 511)] ?_
        refine Runs.sR hE ⟨[(0, (.os 0 uo un)), (1, (encL (cU .u16) 0 v)), (5, (aI ((v.length : Nat) : Int))), (7, (.atom (.int .u64 (IntKind.u64.wrap (q - 1))))), (14, (.atom (.int .u32 0))), (126, (aI ((v.length : Nat) : Int))), (127, (aI 0))], [(0, aO 1 (cU .u16) 0 cap02)], 145⟩ (C_14 32684) [] [] (kp [0, 1, 5, 7, 14, 126, 127]) (kq [0]) 145 [] trivial ?_
        refine Runs.sA 2 [.code (C_14 130740), .inLoop (C_14 130740), .inBlock 4, .code (C_14 16343), .code (C_14 511)] ?_
        exact Runs.sW hE _ [] (kp [0, 1, 5, 7, 14, 126, 127]) (kq [0]) 1 [] trivial (g_e_digit_L4_ok N uo un v q N cap02 0 0 _ h E hE)
      · have h := condF h hq5
        refine Runs.sA 2 [.code (C_14 1022), .code (C_14 1023)] ?_
        exact Runs.sW hE _ [] (kp [7]) (kq [0]) 1 [] trivial (g_e_digit_J5_ok N cap02 q _ h E hE)
theorem g_e_digit_L1_ok (N : Nat) (uo : Nat) (un : Nat) (v : List Int) (cap0 : List Int) (fuel : Nat) : ∀ (q : Int) (rest : Int) (r : Int × (List Int)), g_e_digit_L1 N uo un v cap0 fuel q rest = some r → ∀ E, EnvOk E 1 → Runs Try.prog E 155 161 (SPost E [(0, aO 1 (cU .u16) 0 r.2)] (.atom (.int .u16 r.1))) [.code (C_14 248), .inLoop (C_14 248), .inBlock 0, .code (C_14 63)] ⟨[(0, (.os 0 uo un)), (1, (encL (cU .u16) 0 v)), (5, (aI ((v.length : Nat) : Int))), (7, (.atom (.int .u64 q))), (8, (.atom (.int .u64 rest)))], [(0, aO 1 (cU .u16) 0 cap0)], 1⟩ := by
  induction fuel with
  | zero => intro _ _ r h; rw [g_e_digit_L1.eq_1] at h; cases h
  | succ fuel ih =>
    intro q rest r h E hE
    rw [g_e_digit_L1.eq_2] at h
    refine Runs.sA 2 [.code (C_14 992), .code (C_14 993), .code (C_14 497), .inLoop (C_14 248), .inBlock 0, .code (C_14 63)] ?_
    obtain ⟨c6, h⟩ := ifSome h
    obtain ⟨c7, h⟩ := ifSome h
    obtain ⟨c8, h⟩ := ifSome h
    refine Runs.sR hE ⟨[(0, (.os 0 uo un)), (1, (encL (cU .u16) 0 v)), (5, (aI ((v.length : Nat) : Int))), (7, (.atom (.int .u64 q))), (8, (.atom (.int .u64 rest))), (72, (aB (cond (decide (rest < 65536)) (cond (decide (q > 65535)) true (decide ((IntKind.u64.wrap (q * (IntKind.u64.wrap ((v.getD ((w64 (((v.length : Nat) : Int) - 2)).toNat) 0))))) > (orI .u64 (shlI .u64 rest 16) (IntKind.u64.wrap ((cap0.getD (addz uo (w64 (((v.length : Nat) : Int) - 2)).toNat) 0))))))) false)))], [(0, aO 1 (cU .u16) 0 cap0)], 417⟩ (C_14 992) [] [] (kp [0, 1, 5, 7, 8, 72]) (kq [0]) 417 [(decide (rest < 65536)) = true → AllP [(decide (rest < 65536)) = true], ((decide (rest < 65536)) && ((decide (rest < 65536)) && (!(decide (q > 65535))))) = true → AllP [((decide (rest < 65536)) && ((decide (rest < 65536)) && (!(decide (q > 65535))))) = true], ((decide (rest < 65536)) && ((decide (rest < 65536)) && (!(decide (q > 65535))))) = true → AllP [((decide (rest < 65536)) && ((decide (rest < 65536)) && (!(decide (q > 65535))))) = true, ((decide (rest < 65536)) && ((decide (rest < 65536)) && (!(decide (q > 65535))))) = true, 0 ≤ (w64 (((v.length : Nat) : Int) - 2)) ∧ (w64 (((v.length : Nat) : Int) - 2)) < ((v.length : Nat) : Int)], ((decide (rest < 65536)) && ((decide (rest < 65536)) && (!(decide (q > 65535))))) = true → AllP [((decide (rest < 65536)) && ((decide (rest < 65536)) && (!(decide (q > 65535))))) = true], ((decide (rest < 65536)) && ((decide (rest < 65536)) && (!(decide (q > 65535))))) = true → AllP [((decide (rest < 65536)) && ((decide (rest < 65536)) && (!(decide (q > 65535))))) = true], ((decide (rest < 65536)) && ((decide (rest < 65536)) && (!(decide (q > 65535))))) = true → AllP [((decide (rest < 65536)) && ((decide (rest < 65536)) && (!(decide (q > 65535))))) = true, ((decide (rest < 65536)) && ((decide (rest < 65536)) && (!(decide (q > 65535))))) = true], ((decide (rest < 65536)) && ((decide (rest < 65536)) && (!(decide (q > 65535))))) = true → AllP [((decide (rest < 65536)) && ((decide (rest < 65536)) && (!(decide (q > 65535))))) = true, (0 : Int) ≤ 16], ((decide (rest < 65536)) && ((decide (rest < 65536)) && (!(decide (q > 65535))))) = true → AllP [((decide (rest < 65536)) && ((decide (rest < 65536)) && (!(decide (q > 65535))))) = true], ((decide (rest < 65536)) && ((decide (rest < 65536)) && (!(decide (q > 65535))))) = true → AllP [((decide (rest < 65536)) && ((decide (rest < 65536)) && (!(decide (q > 65535))))) = true, ((decide (rest < 65536)) && ((decide (rest < 65536)) && (!(decide (q > 65535))))) = true, 0 ≤ (w64 (((v.length : Nat) : Int) - 2)) ∧ (w64 (((v.length : Nat) : Int) - 2)) < ((un : Nat) : Int)], ((decide (rest < 65536)) && ((decide (rest < 65536)) && (!(decide (q > 65535))))) = true → AllP [((decide (rest < 65536)) && ((decide (rest < 65536)) && (!(decide (q > 65535))))) = true, (addz uo (w64 (((v.length : Nat) : Int) - 2)).toNat) < cap0.length], ((decide (rest < 65536)) && ((decide (rest < 65536)) && (!(decide (q > 65535))))) = true → AllP [((decide (rest < 65536)) && ((decide (rest < 65536)) && (!(decide (q > 65535))))) = true], ((decide (rest < 65536)) && ((decide (rest < 65536)) && (!(decide (q > 65535))))) = true → AllP [((decide (rest < 65536)) && ((decide (rest < 65536)) && (!(decide (q > 65535))))) = true, ((decide (rest < 65536)) && ((decide (rest < 65536)) && (!(decide (q > 65535))))) = true], ((decide (rest < 65536)) && ((decide (rest < 65536)) && (!(decide (q > 65535))))) = true → AllP [((decide (rest < 65536)) && ((decide (rest < 65536)) && (!(decide (q > 65535))))) = true, ((decide (rest < 65536)) && ((decide (rest < 65536)) && (!(decide (q > 65535))))) = true], (decide (rest < 65536)) = true → AllP [(decide (rest < 65536)) = true, (decide (rest < 65536)) = true, (!(decide (q > 65535))) = true → AllP [((decide (rest < 65536)) && ((decide (rest < 65536)) && (!(decide (q > 65535))))) = true]], (decide (rest < 65536)) = true → AllP [(decide (rest < 65536)) = true]] ⟨(fun hg => ⟨hg, trivial⟩), (fun hg => ⟨hg, trivial⟩), (fun hg => ⟨hg, hg, (c6 hg), trivial⟩), (fun hg => ⟨hg, trivial⟩), (fun hg => ⟨hg, trivial⟩), (fun hg => ⟨hg, hg, trivial⟩), (fun hg => ⟨hg, (by decide), trivial⟩), (fun hg => ⟨hg, trivial⟩), (fun hg => ⟨hg, hg, (c7 hg), trivial⟩), (fun hg => ⟨hg, (by have h1 := (c7 hg); have h2 := (c8 hg); simp only [addz_eq]; omega), trivial⟩), (fun hg => ⟨hg, trivial⟩), (fun hg => ⟨hg, hg, trivial⟩), (fun hg => ⟨hg, hg, trivial⟩), (fun hg => ⟨hg, hg, (fun hq => ⟨(andI' hg (andI' hg hq)), trivial⟩), trivial⟩), (fun hq => ⟨hq, trivial⟩), trivial⟩ ?_
    refine Runs.sC 72 (C_14 1986) (C_14 1987) (cond (decide (rest < 65536)) (cond (decide (q > 65535)) true (decide ((IntKind.u64.wrap (q * (IntKind.u64.wrap ((v.getD ((w64 (((v.length : Nat) : Int) - 2)).toNat) 0))))) > (orI .u64 (shlI .u64 rest 16) (IntKind.u64.wrap ((cap0.getD (addz uo (w64 (((v.length : Nat) : Int) - 2)).toNat) 0))))))) false) (fun hq2 => ?_) (fun hq2 => ?_)
    · have h := condT h hq2
      refine Runs.sA 3 [.code (C_14 1988), .code (C_14 1989), .inBlock 1, .inLoop (C_14 248), .inBlock 0, .code (C_14 63)] ?_
      refine Runs.sR hE ⟨[(0, (.os 0 uo un)), (1, (encL (cU .u16) 0 v)), (5, (aI ((v.length : Nat) : Int))), (7, (.atom (.int .u64 (IntKind.u64.wrap (q - 1))))), (8, (.atom (.int .u64 rest)))], [(0, aO 1 (cU .u16) 0 cap0)], 465⟩ (C_14 1988) [] [] (kp [0, 1, 5, 7, 8]) (kq [0]) 465 [] trivial ?_
      obtain ⟨c9, h⟩ := ifSome h
      refine Runs.sR hE ⟨[(0, (.os 0 uo un)), (1, (encL (cU .u16) 0 v)), (5, (aI ((v.length : Nat) : Int))), (7, (.atom (.int .u64 (IntKind.u64.wrap (q - 1))))), (8, (.atom (.int .u64 (IntKind.u64.wrap (rest + (IntKind.u64.wrap ((v.getD ((w64 (((v.length : Nat) : Int) - 1)).toNat) 0))))))))], [(0, aO 1 (cU .u16) 0 cap0)], 609⟩ (C_14 1989) [] [] (kp [0, 1, 5, 7, 8]) (kq [0]) 609 [0 ≤ (w64 (((v.length : Nat) : Int) - 1)) ∧ (w64 (((v.length : Nat) : Int) - 1)) < ((v.length : Nat) : Int)] ⟨c9, trivial⟩ ?_
      refine Runs.sA 2 [.code (C_14 248), .inLoop (C_14 248), .inBlock 0, .code (C_14 63)] ?_
      exact Runs.sW hE _ [] (kp [0, 1, 5, 7, 8]) (kq [0]) 1 [] trivial (ih (IntKind.u64.wrap (q - 1)) (IntKind.u64.wrap (rest + (IntKind.u64.wrap ((v.getD ((w64 (((v.length : Nat) : Int) - 1)).toNat) 0))))) _ h E hE)
    · have h := condF h hq2
      refine Runs.sA 2 [.code (C_14 126), .code (C_14 127)] ?_
      refine Runs.sR hE ⟨[(0, (.os 0 uo un)), (1, (encL (cU .u16) 0 v)), (5, (aI ((v.length : Nat) : Int))), (7, (.atom (.int .u64 q))), (9, (.atom (.int .u64 0))), (10, (aI 0))], [(0, aO 1 (cU .u16) 0 cap0)], 449⟩ (C_14 126) [] [] (kp [0, 1, 5, 7, 9, 10]) (kq [0]) 449 [] trivial ?_
      refine Runs.sA 2 [.code (C_14 508), .code (C_14 509), .code (C_14 255)] ?_
      refine Runs.sR hE ⟨[(0, (.os 0 uo un)), (1, (encL (cU .u16) 0 v)), (5, (aI ((v.length : Nat) : Int))), (7, (.atom (.int .u64 q))), (9, (.atom (.int .u64 0))), (10, (aI 0)), (84, (aI (w64 (((v.length : Nat) : Int) + 1)))), (85, (aI 0))], [(0, aO 1 (cU .u16) 0 cap0)], 497⟩ (C_14 508) [] [] (kp [0, 1, 5, 7, 9, 10, 84, 85]) (kq [0]) 497 [] trivial ?_
      refine Runs.sA 2 [.code (C_14 2036), .inLoop (C_14 2036), .inBlock 2, .code (C_14 255)] ?_
      exact Runs.sW hE _ [] (kp [0, 1, 5, 7, 9, 10, 84, 85]) (kq [0]) 1 [] trivial (g_e_digit_L2_ok N uo un v q N cap0 0 0 0 _ h E hE)
theorem g_e_digit_ok (N : Nat) (uo : Nat) (un : Nat) (v : List Int) (cap0 : List Int) (r : Int × (List Int)) (h : g_e_digit N uo un v cap0 = some r) : Sound Try.prog 155 [(.os 0 uo un), (encL (cU .u16) 0 v)] [(0, aO 1 (cU .u16) 0 cap0)] 1 (.atom (.int .u16 r.1)) [(0, aO 1 (cU .u16) 0 r.2)] := by
  unfold g_e_digit at h
  refine Sound.of_runs (fu := Try.f155) (c := C_14 1) (nt := 161) (by kernel_rfl) (by kernel_rfl) (by kernel_rfl) (by kernel_rfl) (fun hm => absurd hm (by decide)) ?_
  intro E hE
  refine Runs.sA 1 [.code (C_14 2), .code (C_14 3)] ?_
  refine Runs.sR hE ⟨[(0, (.os 0 uo un)), (1, (encL (cU .u16) 0 v))], [(0, aO 1 (cU .u16) 0 cap0)], 17⟩ (C_14 2) [] [] (kp [0, 1]) (kq [0]) 17 [] trivial ?_
  refine Runs.sA 1 [.code (C_14 6), .code (C_14 7)] ?_
  refine Runs.sR hE ⟨[(0, (.os 0 uo un)), (1, (encL (cU .u16) 0 v)), (5, (aI ((v.length : Nat) : Int)))], [(0, aO 1 (cU .u16) 0 cap0)], 65⟩ (C_14 6) [] [] (kp [0, 1, 5]) (kq [0]) 65 [] trivial ?_
  refine Runs.sA 1 [.code (C_14 14), .code (C_14 15)] ?_
  obtain ⟨c, h⟩ := ifSome h
  obtain ⟨c2, h⟩ := ifSome h
  obtain ⟨c3, h⟩ := ifSome h
  refine Runs.sR hE ⟨[(0, (.os 0 uo un)), (1, (encL (cU .u16) 0 v)), (5, (aI ((v.length : Nat) : Int))), (6, (.atom (.int .u64 (orI .u64 (shlI .u64 (IntKind.u64.wrap ((cap0.getD (addz uo v.length) 0))) 16) (IntKind.u64.wrap ((cap0.getD (addz uo (w64 (((v.length : Nat) : Int) - 1)).toNat) 0)))))))], [(0, aO 1 (cU .u16) 0 cap0)], 289⟩ (C_14 14) [] [] (kp [0, 1, 5, 6]) (kq [0]) 289 [0 ≤ ((v.length : Nat) : Int) ∧ ((v.length : Nat) : Int) < ((un : Nat) : Int), (addz uo v.length) < cap0.length, (0 : Int) ≤ 16, 0 ≤ (w64 (((v.length : Nat) : Int) - 1)) ∧ (w64 (((v.length : Nat) : Int) - 1)) < ((un : Nat) : Int), (addz uo (w64 (((v.length : Nat) : Int) - 1)).toNat) < cap0.length] ⟨c, (by have h1 := c; have h2 := c2; simp only [addz_eq]; omega), (by decide), c3, (by have h1 := c3; have h2 := c2; simp only [addz_eq]; omega), trivial⟩ ?_
  refine Runs.sA 1 [.code (C_14 30), .code (C_14 31)] ?_
  obtain ⟨c4, h⟩ := ifSome h
  obtain ⟨c5, h⟩ := ifSome h
  refine Runs.sR hE ⟨[(0, (.os 0 uo un)), (1, (encL (cU .u16) 0 v)), (5, (aI ((v.length : Nat) : Int))), (7, (.atom (.int .u64 (IntKind.u64.wrap ((orI .u64 (shlI .u64 (IntKind.u64.wrap ((cap0.getD (addz uo v.length) 0))) 16) (IntKind.u64.wrap ((cap0.getD (addz uo (w64 (((v.length : Nat) : Int) - 1)).toNat) 0)))).tdiv (IntKind.u64.wrap ((v.getD ((w64 (((v.length : Nat) : Int) - 1)).toNat) 0)))))))), (8, (.atom (.int .u64 ((orI .u64 (shlI .u64 (IntKind.u64.wrap ((cap0.getD (addz uo v.length) 0))) 16) (IntKind.u64.wrap ((cap0.getD (addz uo (w64 (((v.length : Nat) : Int) - 1)).toNat) 0)))).tmod (IntKind.u64.wrap ((v.getD ((w64 (((v.length : Nat) : Int) - 1)).toNat) 0)))))))], [(0, aO 1 (cU .u16) 0 cap0)], 577⟩ (C_14 30) [] [] (kp [0, 1, 5, 7, 8]) (kq [0]) 577 [0 ≤ (w64 (((v.length : Nat) : Int) - 1)) ∧ (w64 (((v.length : Nat) : Int) - 1)) < ((v.length : Nat) : Int), ((IntKind.u64.wrap ((v.getD ((w64 (((v.length : Nat) : Int) - 1)).toNat) 0))) : Int) ≠ 0, 0 ≤ (w64 (((v.length : Nat) : Int) - 1)) ∧ (w64 (((v.length : Nat) : Int) - 1)) < ((v.length : Nat) : Int), ((IntKind.u64.wrap ((v.getD ((w64 (((v.length : Nat) : Int) - 1)).toNat) 0))) : Int) ≠ 0] ⟨c4, c5, c4, c5, trivial⟩ ?_
  refine Runs.sA 3 [.code (C_14 248), .inLoop (C_14 248), .inBlock 0, .code (C_14 63)] ?_
  exact Runs.sW hE _ [] (kp [0, 1, 5, 7, 8]) (kq [0]) 1 [] trivial (g_e_digit_L1_ok N uo un v cap0 N (IntKind.u64.wrap ((orI .u64 (shlI .u64 (IntKind.u64.wrap ((cap0.getD (addz uo v.length) 0))) 16) (IntKind.u64.wrap ((cap0.getD (addz uo (w64 (((v.length : Nat) : Int) - 1)).toNat) 0)))).tdiv (IntKind.u64.wrap ((v.getD ((w64 (((v.length : Nat) : Int) - 1)).toNat) 0))))) ((orI .u64 (shlI .u64 (IntKind.u64.wrap ((cap0.getD (addz uo v.length) 0))) 16) (IntKind.u64.wrap ((cap0.getD (addz uo (w64 (((v.length : Nat) : Int) - 1)).toNat) 0)))).tmod (IntKind.u64.wrap ((v.getD ((w64 (((v.length : Nat) : Int) - 1)).toNat) 0)))) _ h E hE)
noncomputable def C_7 (n : Nat) : Code := cat (bodyOf Try.f100) (pth n)
theorem g_e_divide_L2_ok (N : Nat) (b : List Int) (rLeadingZeros : Int) (q : List Int) (u : List Int) (fuel : Nat) : ∀ (vr : List Int) (x : Int) (r : (List Int) × (List Int)), g_e_divide_L2 N b rLeadingZeros q u fuel vr x = some r → ∀ E, EnvOk E 0 → Runs Try.prog E 100 109 (SPost E [] (.tup [(encL (cU .u16) 0 r.1), (encL (cU .u16) 0 r.2)])) [.code (C_7 16372), .inLoop (C_7 16372), .inBlock 2, .code (C_7 2047)] ⟨[(4, (.os 0 0 q.length)), (5, (.os 1 0 vr.length)), (8, (aI rLeadingZeros)), (9, (.os 2 0 u.length)), (81, (aI (((b.length - 0) : Nat) : Int))), (82, (aI x))], [(0, aO 1 (cU .u16) 0 q), (1, aO 1 (cU .u16) 0 vr), (2, aO 1 (cU .u16) 0 u)], 3⟩ := by
  induction fuel with
  | zero => intro _ _ r h; rw [g_e_divide_L2.eq_1] at h; cases h
  | succ fuel ih =>
    intro vr x r h E hE
    rw [g_e_divide_L2.eq_2] at h
    refine Runs.sA 1 [.code (C_7 32744), .code (C_7 32745), .inLoop (C_7 16372), .inBlock 2, .code (C_7 2047)] ?_
    refine Runs.sR hE ⟨[(4, (.os 0 0 q.length)), (5, (.os 1 0 vr.length)), (8, (aI rLeadingZeros)), (9, (.os 2 0 u.length)), (81, (aI (((b.length - 0) : Nat) : Int))), (82, (aI x)), (83, (aB (decide (x < (((b.length - 0) : Nat) : Int)))))], [(0, aO 1 (cU .u16) 0 q), (1, aO 1 (cU .u16) 0 vr), (2, aO 1 (cU .u16) 0 u)], 19⟩ (C_7 32744) [] [] (kp [4, 5, 8, 9, 81, 82, 83]) (kq [0, 1, 2]) 19 [] trivial ?_
    refine Runs.sA 1 [.code (C_7 65490), .code (C_7 65491), .inLoop (C_7 16372), .inBlock 2, .code (C_7 2047)] ?_
    refine Runs.sC 83 (C_7 130980) (C_7 130981) (decide (x < (((b.length - 0) : Nat) : Int))) (fun hq5 => ?_) (fun hq5 => ?_)
    · have h := condT h hq5
      refine Runs.sA 4 [.code (C_7 523928), .code (C_7 523929), .inBlock 3, .code (C_7 130983), .inLoop (C_7 16372), .inBlock 2, .code (C_7 2047)] ?_
      refine Runs.sR hE ⟨[(4, (.os 0 0 q.length)), (5, (.os 1 0 vr.length)), (8, (aI rLeadingZeros)), (9, (.os 2 0 u.length)), (13, (aI x)), (81, (aI (((b.length - 0) : Nat) : Int))), (82, (aI x))], [(0, aO 1 (cU .u16) 0 q), (1, aO 1 (cU .u16) 0 vr), (2, aO 1 (cU .u16) 0 u)], 51⟩ (C_7 523928) [] [] (kp [4, 5, 8, 9, 13, 81, 82]) (kq [0, 1, 2]) 51 [] trivial ?_
      obtain ⟨c12, h⟩ := ifSome h
      obtain ⟨c13, h⟩ := ifSome h
      obtain ⟨c14, h⟩ := ifSome h
      obtain ⟨c15, h⟩ := ifSome h
      refine Runs.sR hE ⟨[(4, (.os 0 0 q.length)), (5, (.os 1 0 ((vr.set ((x).toNat) (IntKind.u16.wrap ((shrI .u32 (orI .u32 (IntKind.u32.wrap ((u.getD ((x).toNat) 0))) (shlI .u32 (IntKind.u32.wrap ((u.getD ((w64 (x + 1)).toNat) 0))) 16)) rLeadingZeros)))).length))), (8, (aI rLeadingZeros)), (9, (.os 2 0 u.length)), (81, (aI (((b.length - 0) : Nat) : Int))), (82, (aI x))], [(0, aO 1 (cU .u16) 0 q), (1, aO 1 (cU .u16) 0 (vr.set ((x).toNat) (IntKind.u16.wrap ((shrI .u32 (orI .u32 (IntKind.u32.wrap ((u.getD ((x).toNat) 0))) (shlI .u32 (IntKind.u32.wrap ((u.getD ((w64 (x + 1)).toNat) 0))) 16)) rLeadingZeros))))), (2, aO 1 (cU .u16) 0 u)], 371⟩ (C_7 523929) [] [] (kp [4] ++ [(5, .osl ((vr.set ((x).toNat) (IntKind.u16.wrap ((shrI .u32 (orI .u32 (IntKind.u32.wrap ((u.getD ((x).toNat) 0))) (shlI .u32 (IntKind.u32.wrap ((u.getD ((w64 (x + 1)).toNat) 0))) 16)) rLeadingZeros)))).length))] ++ kp [8, 9, 81, 82]) (kq [0] ++ [(1, .arr 1 ((vr.set ((x).toNat) (IntKind.u16.wrap ((shrI .u32 (orI .u32 (IntKind.u32.wrap ((u.getD ((x).toNat) 0))) (shlI .u32 (IntKind.u32.wrap ((u.getD ((w64 (x + 1)).toNat) 0))) 16)) rLeadingZeros)))).length) (fun zi => (cU .u16) ((vr.set ((x).toNat) (IntKind.u16.wrap ((shrI .u32 (orI .u32 (IntKind.u32.wrap ((u.getD ((x).toNat) 0))) (shlI .u32 (IntKind.u32.wrap ((u.getD ((w64 (x + 1)).toNat) 0))) 16)) rLeadingZeros)))).getD zi 0)))] ++ kq [2]) 371 [0 ≤ x ∧ x < ((u.length : Nat) : Int), (x).toNat < u.length, 0 ≤ (w64 (x + 1)) ∧ (w64 (x + 1)) < ((u.length : Nat) : Int), (w64 (x + 1)).toNat < u.length, (0 : Int) ≤ 16, (0 : Int) ≤ rLeadingZeros, 0 ≤ x ∧ x < ((vr.length : Nat) : Int), (x).toNat < vr.length, vr.length = (vr.set ((x).toNat) (IntKind.u16.wrap ((shrI .u32 (orI .u32 (IntKind.u32.wrap ((u.getD ((x).toNat) 0))) (shlI .u32 (IntKind.u32.wrap ((u.getD ((w64 (x + 1)).toNat) 0))) 16)) rLeadingZeros)))).length, vr.length = (vr.set ((x).toNat) (IntKind.u16.wrap ((shrI .u32 (orI .u32 (IntKind.u32.wrap ((u.getD ((x).toNat) 0))) (shlI .u32 (IntKind.u32.wrap ((u.getD ((w64 (x + 1)).toNat) 0))) 16)) rLeadingZeros)))).length, ∀ zi, zi < (vr.set ((x).toNat) (IntKind.u16.wrap ((shrI .u32 (orI .u32 (IntKind.u32.wrap ((u.getD ((x).toNat) 0))) (shlI .u32 (IntKind.u32.wrap ((u.getD ((w64 (x + 1)).toNat) 0))) 16)) rLeadingZeros)))).length → (fun zi => (cU .u16) ((vr.set ((x).toNat) (IntKind.u16.wrap ((shrI .u32 (orI .u32 (IntKind.u32.wrap ((u.getD ((x).toNat) 0))) (shlI .u32 (IntKind.u32.wrap ((u.getD ((w64 (x + 1)).toNat) 0))) 16)) rLeadingZeros)))).getD zi 0)) zi = ((fun zm => if zm = (x).toNat then [(.atom (.int .u16 (IntKind.u16.wrap ((shrI .u32 (orI .u32 (IntKind.u32.wrap ((u.getD ((x).toNat) 0))) (shlI .u32 (IntKind.u32.wrap ((u.getD ((w64 (x + 1)).toNat) 0))) 16)) rLeadingZeros)))))] else (fun zi => (cU .u16) (vr.getD zi 0)) zm)) zi] ⟨c12, (ltOf c12), c13, (ltOf c13), (by decide), c14, c15, (ltOf c15), (len_set_raw rfl), (len_set_raw rfl), (get_set_raw (cU .u16) 0 vr ((x).toNat) (IntKind.u16.wrap ((shrI .u32 (orI .u32 (IntKind.u32.wrap ((u.getD ((x).toNat) 0))) (shlI .u32 (IntKind.u32.wrap ((u.getD ((w64 (x + 1)).toNat) 0))) 16)) rLeadingZeros))) (fun _ _ => rfl)), trivial⟩ ?_
      refine Runs.sA 1 [.code (C_7 130983), .inLoop (C_7 16372), .inBlock 2, .code (C_7 2047)] ?_
      refine Runs.sR hE ⟨[(4, (.os 0 0 q.length)), (5, (.os 1 0 ((vr.set ((x).toNat) (IntKind.u16.wrap ((shrI .u32 (orI .u32 (IntKind.u32.wrap ((u.getD ((x).toNat) 0))) (shlI .u32 (IntKind.u32.wrap ((u.getD ((w64 (x + 1)).toNat) 0))) 16)) rLeadingZeros)))).length))), (8, (aI rLeadingZeros)), (9, (.os 2 0 u.length)), (81, (aI (((b.length - 0) : Nat) : Int))), (82, (aI (w64 (x + 1))))], [(0, aO 1 (cU .u16) 0 q), (1, aO 1 (cU .u16) 0 (vr.set ((x).toNat) (IntKind.u16.wrap ((shrI .u32 (orI .u32 (IntKind.u32.wrap ((u.getD ((x).toNat) 0))) (shlI .u32 (IntKind.u32.wrap ((u.getD ((w64 (x + 1)).toNat) 0))) 16)) rLeadingZeros))))), (2, aO 1 (cU .u16) 0 u)], 403⟩ (C_7 130983) [] [] (kp [4, 5, 8, 9, 81, 82]) (kq [0, 1, 2]) 403 [] trivial ?_
      refine Runs.sA 1 [.code (C_7 16372), .inLoop (C_7 16372), .inBlock 2, .code (C_7 2047)] ?_
      exact Runs.sW hE _ [] (kp [4, 5, 8, 9, 81, 82]) (kq [0, 1, 2]) 3 [] trivial (ih (vr.set ((x).toNat) (IntKind.u16.wrap ((shrI .u32 (orI .u32 (IntKind.u32.wrap ((u.getD ((x).toNat) 0))) (shlI .u32 (IntKind.u32.wrap ((u.getD ((w64 (x + 1)).toNat) 0))) 16)) rLeadingZeros)))) (w64 (x + 1)) _ h E hE)
    · have h := condF h hq5
      refine Runs.sA 2 [.code (C_7 4094), .code (C_7 4095)] ?_
      obtain ⟨rtrim2, hr9, h⟩ := bindSome h
      obtain ⟨rtrim3, hr10, h⟩ := bindSome h
      refine Runs.sR hE ⟨[(4, (encL (cU .u16) 0 rtrim2)), (5, (encL (cU .u16) 0 rtrim3))], [], 115⟩ (C_7 4094) [(1, ⟨[], true, (encL (cU .u16) 0 rtrim2), [], 0, true, none⟩), (3, ⟨[], true, (encL (cU .u16) 0 rtrim3), [], 0, true, none⟩)] [] (kp [4, 5]) [] 115 [Sound Try.prog 92 [(encL (cU .u16) 0 q)] [] 0 (encL (cU .u16) 0 rtrim2) [], 0 + q.length ≤ q.length, Sound Try.prog 92 [(encL (cU .u16) 0 vr)] [] 0 (encL (cU .u16) 0 rtrim3) [], 0 + vr.length ≤ vr.length] ⟨(g_e_trim_ok N q rtrim2 hr9), z0, (g_e_trim_ok N vr rtrim3 hr10), z0, trivial⟩ ?_
      obtain rfl := Option.some.inj h
      refine Runs.sW hE ⟨[(4, (encL (cU .u16) 0 rtrim2)), (5, (encL (cU .u16) 0 rtrim3))], [], 115⟩ [] (kp [4, 5]) [] 115 [] trivial ?_
      exact Runs.sT Try.f100 [] [] trivial
theorem g_e_divide_L1_ok (N : Nat) (b : List Int) (rLeadingZeros : Int) (rshifted2 : (List Int)) (fuel : Nat) : ∀ (q : List Int) (u : List Int) (j : Int) (r : (List Int) × (List Int)), g_e_divide_L1 N b rLeadingZeros rshifted2 fuel q u j = some r → ∀ E, EnvOk E 0 → Runs Try.prog E 100 109 (SPost E [] (.tup [(encL (cU .u16) 0 r.1), (encL (cU .u16) 0 r.2)])) [.code (C_7 4084), .inLoop (C_7 4084), .inBlock 0, .code (C_7 511)] ⟨[(4, (.os 0 0 q.length)), (8, (aI rLeadingZeros)), (9, (.os 1 0 u.length)), (10, (.os 2 0 (b.length - 0))), (11, (aI (((b.length - 0) : Nat) : Int))), (12, (aI j))], [(0, aO 1 (cU .u16) 0 q), (1, aO 1 (cU .u16) 0 u), (2, aO 1 (cU .u16) 0 rshifted2)], 3⟩ := by
  induction fuel with
  | zero => intro _ _ _ r h; rw [g_e_divide_L1.eq_1] at h; cases h
  | succ fuel ih =>
    intro q u j r h E hE
    rw [g_e_divide_L1.eq_2] at h
    refine Runs.sA 2 [.code (C_7 16336), .code (C_7 16337), .code (C_7 8169), .inLoop (C_7 4084), .inBlock 0, .code (C_7 511)] ?_
    refine Runs.sR hE ⟨[(4, (.os 0 0 q.length)), (8, (aI rLeadingZeros)), (9, (.os 1 0 u.length)), (10, (.os 2 0 (b.length - 0))), (11, (aI (((b.length - 0) : Nat) : Int))), (12, (aI j)), (64, (aB (decide (j ≥ 0))))], [(0, aO 1 (cU .u16) 0 q), (1, aO 1 (cU .u16) 0 u), (2, aO 1 (cU .u16) 0 rshifted2)], 35⟩ (C_7 16336) [] [] (kp [4, 8, 9, 10, 11, 12, 64]) (kq [0, 1, 2]) 35 [] trivial ?_
    refine Runs.sC 64 (C_7 32674) (C_7 32675) (decide (j ≥ 0)) (fun hq4 => ?_) (fun hq4 => ?_)
    · have h := condT h hq4
      refine Runs.sA 3 [.code (C_7 32676), .inBlock 1, .code (C_7 16339), .inLoop (C_7 4084), .inBlock 0, .code (C_7 511)] ?_
      obtain ⟨c5, h⟩ := ifSome h
      obtain ⟨c6, h⟩ := ifSome h
      obtain ⟨c7, h⟩ := ifSome h
      obtain ⟨c8, h⟩ := ifSome h
      obtain ⟨rdigit, hr8, h⟩ := bindSome h
      obtain ⟨c9, h⟩ := ifSome h
      obtain ⟨c10, h⟩ := ifSome h
      refine Runs.sR hE ⟨[(4, (.os 0 0 ((q.set ((j).toNat) rdigit.1).length))), (8, (aI rLeadingZeros)), (9, (.os 1 0 rdigit.2.length)), (10, (.os 2 0 (b.length - 0))), (11, (aI (((b.length - 0) : Nat) : Int))), (12, (aI j))], [(0, aO 1 (cU .u16) 0 (q.set ((j).toNat) rdigit.1)), (1, aO 1 (cU .u16) 0 rdigit.2), (2, aO 1 (cU .u16) 0 rshifted2)], 243⟩ (C_7 32676) [(10, ⟨[1], false, (.atom (.int .u16 rdigit.1)), [(0, aO 1 (cU .u16) 0 rdigit.2)], 0, false, none⟩)] [] ([(4, .osl ((q.set ((j).toNat) rdigit.1).length))] ++ kp [8] ++ [(9, .osl (rdigit.2.length))] ++ kp [10, 11, 12]) ([(0, .arr 0 ((q.set ((j).toNat) rdigit.1).length) (fun zi => (cU .u16) ((q.set ((j).toNat) rdigit.1).getD zi 0)))] ++ kq [1, 2]) 243 [(j).toNat ≤ (w64 ((w64 (j + (((b.length - 0) : Nat) : Int))) + 1)).toNat ∧ (w64 ((w64 (j + (((b.length - 0) : Nat) : Int))) + 1)).toNat ≤ u.length, 0 ≤ j, 0 ≤ (w64 ((w64 (j + (((b.length - 0) : Nat) : Int))) + 1)), Sound Try.prog 155 [(.os 0 ((j).toNat) ((w64 ((w64 (j + (((b.length - 0) : Nat) : Int))) + 1)).toNat - (j).toNat)), (.sl (b.length - 0) (fun zi => (cU .u16) (rshifted2.getD (addz 0 zi) 0)))] [(0, aO 1 (cU .u16) 0 u)] 1 (.atom (.int .u16 rdigit.1)) [(0, aO 1 (cU .u16) 0 rdigit.2)], ∀ zi, zi < rdigit.2.length → AV.flatL ((cU .u16) (rdigit.2.getD zi 0)) = true, 0 + (b.length - 0) ≤ rshifted2.length, 0 ≤ j ∧ j < ((q.length : Nat) : Int), (j).toNat < q.length, q.length = (q.set ((j).toNat) rdigit.1).length, u.length = rdigit.2.length, q.length = (q.set ((j).toNat) rdigit.1).length, ∀ zi, zi < (q.set ((j).toNat) rdigit.1).length → (fun zi => (cU .u16) ((q.set ((j).toNat) rdigit.1).getD zi 0)) zi = ((fun zm => if zm = (j).toNat then [(.atom (.int .u16 rdigit.1))] else (fun zi => (cU .u16) (q.getD zi 0)) zm)) zi] ⟨c5, c6, c7, (Sound.conv (g_e_digit_ok N ((j).toNat) ((w64 ((w64 (j + (((b.length - 0) : Nat) : Int))) + 1)).toNat - (j).toNat) ((rshifted2.take b.length).drop 0) u rdigit hr8) (.cons (Alike.refl _) (.cons (Alike.sl (len_ext' rshifted2 0 b.length c8) (fun zq hzq => get_ext (cU .u16) 0 rshifted2 0 b.length zq hzq)) .nil))), (fun _ _ => rfl), (by have := c8; omega), c10, (ltOf c10), (len_set_raw rfl), (Eq.symm c9), (len_set_raw rfl), (get_set_raw (cU .u16) 0 q ((j).toNat) rdigit.1 (fun _ _ => rfl)), trivial⟩ ?_
      refine Runs.sA 1 [.code (C_7 16339), .inLoop (C_7 4084), .inBlock 0, .code (C_7 511)] ?_
      refine Runs.sR hE ⟨[(4, (.os 0 0 ((q.set ((j).toNat) rdigit.1).length))), (8, (aI rLeadingZeros)), (9, (.os 1 0 rdigit.2.length)), (10, (.os 2 0 (b.length - 0))), (11, (aI (((b.length - 0) : Nat) : Int))), (12, (aI (w64 (j - 1))))], [(0, aO 1 (cU .u16) 0 (q.set ((j).toNat) rdigit.1)), (1, aO 1 (cU .u16) 0 rdigit.2), (2, aO 1 (cU .u16) 0 rshifted2)], 291⟩ (C_7 16339) [] [] (kp [4, 8, 9, 10, 11, 12]) (kq [0, 1, 2]) 291 [] trivial ?_
      refine Runs.sA 1 [.code (C_7 4084), .inLoop (C_7 4084), .inBlock 0, .code (C_7 511)] ?_
      exact Runs.sW hE _ [] (kp [4, 8, 9, 10, 11, 12]) (kq [0, 1, 2]) 3 [] trivial (ih (q.set ((j).toNat) rdigit.1) rdigit.2 (w64 (j - 1)) _ h E hE)
    · have h := condF h hq4
      refine Runs.sA 2 [.code (C_7 1022), .code (C_7 1023)] ?_
      obtain ⟨c11, h⟩ := ifSome h
      refine Runs.sR hE ⟨[(4, (.os 0 0 q.length)), (5, (.os 51 0 ((List.replicate (b.length - 0) 0 : List Int).length))), (8, (aI rLeadingZeros)), (9, (.os 1 0 u.length)), (11, (aI (((b.length - 0) : Nat) : Int)))], [(0, aO 1 (cU .u16) 0 q), (1, aO 1 (cU .u16) 0 u), (51, aO 1 (cU .u16) 0 (List.replicate (b.length - 0) 0 : List Int))], 83⟩ (C_7 1022) [] [] (kp [4] ++ [(5, .osl ((List.replicate (b.length - 0) 0 : List Int).length))] ++ kp [8, 9, 11]) (kq [0, 1] ++ [(51, .arr 51 ((List.replicate (b.length - 0) 0 : List Int).length) (fun zi => (cU .u16) ((List.replicate (b.length - 0) 0 : List Int).getD zi 0)))]) 83 [0 ≤ (((b.length - 0) : Nat) : Int), (((b.length - 0) : Nat) : Int) ≤ (((b.length - 0) : Nat) : Int), (2 : Int) * (((b.length - 0) : Nat) : Int) ≤ 281474976710656, (((b.length - 0) : Nat) : Int) ≤ 9223372036854775807, (b.length - 0) = (List.replicate (b.length - 0) 0 : List Int).length, (b.length - 0) = (List.replicate (b.length - 0) 0 : List Int).length, ∀ zi, zi < (List.replicate (b.length - 0) 0 : List Int).length → (fun zi => (cU .u16) ((List.replicate (b.length - 0) 0 : List Int).getD zi 0)) zi = (fun _ => [(.atom (.int .u16 0))]) zi] ⟨c11.1, (Int.le_refl _), c11.2.1, c11.2.2, (List.length_replicate).symm, (List.length_replicate).symm, (fun zq hzq => get_rep (cU .u16) 0 0 (b.length - 0) zq hzq), trivial⟩ ?_
      refine Runs.sA 2 [.code (C_7 4092), .code (C_7 4093), .code (C_7 2047)] ?_
      refine Runs.sR hE ⟨[(4, (.os 0 0 q.length)), (5, (.os 51 0 ((List.replicate (b.length - 0) 0 : List Int).length))), (8, (aI rLeadingZeros)), (9, (.os 1 0 u.length)), (81, (aI (((b.length - 0) : Nat) : Int))), (82, (aI 0))], [(0, aO 1 (cU .u16) 0 q), (1, aO 1 (cU .u16) 0 u), (51, aO 1 (cU .u16) 0 (List.replicate (b.length - 0) 0 : List Int))], 115⟩ (C_7 4092) [] [] (kp [4, 5, 8, 9, 81, 82]) (kq [0, 1, 51]) 115 [] trivial ?_
      refine Runs.sA 2 [.code (C_7 16372), .inLoop (C_7 16372), .inBlock 2, .code (C_7 2047)] ?_
      exact Runs.sW hE _ [] (kp [4, 5, 8, 9, 81, 82]) (kq [0] ++ [(1, .keep 51), (2, .keep 1)]) 3 [] trivial (g_e_divide_L2_ok N b rLeadingZeros q u N (List.replicate (b.length - 0) 0 : List Int) 0 _ h E hE)
theorem g_e_divide_ok (N : Nat) (a : List Int) (b : List Int) (r : (List Int) × (List Int)) (h : g_e_divide N a b = some r) : Sound Try.prog 100 [(encL (cU .u16) 0 a), (encL (cU .u16) 0 b)] [] 0 (.tup [(encL (cU .u16) 0 r.1), (encL (cU .u16) 0 r.2)]) [] := by
  unfold g_e_divide at h
  refine Sound.of_runs (fu := Try.f100) (c := C_7 1) (nt := 109) (by kernel_rfl) (by kernel_rfl) (by kernel_rfl) (by kernel_rfl) (fun hm => rfl) ?_
  intro E hE
  refine Runs.sA 1 [.code (C_7 2), .code (C_7 3)] ?_
  refine Runs.sR hE ⟨[(0, (encL (cU .u16) 0 a)), (1, (encL (cU .u16) 0 b))], [], 32⟩ (C_7 2) [] [] (kp [0, 1]) [] 32 [] trivial ?_
  refine Runs.sA 2 [.code (C_7 12), .code (C_7 13), .code (C_7 7)] ?_
  obtain ⟨rcompare, hr, h⟩ := bindSome h
  refine Runs.sR hE ⟨[(0, (encL (cU .u16) 0 a)), (1, (encL (cU .u16) 0 b)), (17, (aB (decide (rcompare < 0))))], [], 96⟩ (C_7 12) [(2, ⟨[], true, (aI rcompare), [], 0, false, none⟩)] [] (kp [0, 1, 17]) [] 96 [Sound Try.prog 95 [(encL (cU .u16) 0 a), (encL (cU .u16) 0 b)] [] 0 (aI rcompare) []] ⟨(g_e_compare_ok N a b rcompare hr), trivial⟩ ?_
  refine Runs.sC 17 (C_7 26) (C_7 27) (decide (rcompare < 0)) (fun hq2 => ?_) (fun hq2 => ?_)
  · have h := condT h hq2
    refine Runs.sA 1 [.code (C_7 52), .code (C_7 53), .code (C_7 7)] ?_
    obtain ⟨rClone, hr2, h⟩ := bindSome h
    refine Runs.sR hE ⟨[(4, .nil), (5, (encL (cU .u16) 0 rClone))], [], 160⟩ (C_7 52) [(1, ⟨[], true, (encL (cU .u16) 0 rClone), [], 0, false, none⟩)] [] (kp [4, 5]) [] 160 [Sound Try.prog 151 [(encL (cU .u16) 0 a)] [] 0 (encL (cU .u16) 0 rClone) []] ⟨(g_slices_Clone_uint16_uint16_ok N a rClone hr2), trivial⟩ ?_
    obtain rfl := Option.some.inj h
    refine Runs.sW hE ⟨[(4, (encL (cU .u16) 0 ([] : List Int))), (5, (encL (cU .u16) 0 rClone))], [], 160⟩ [] ([(4, .sl (([] : List Int).length) (fun zi => (cU .u16) (([] : List Int).getD zi 0)))] ++ kp [5]) [] 160 [([] : List Int).length = 0] ⟨rfl, trivial⟩ ?_
    exact Runs.sT Try.f100 [] [] trivial
  · have h := condF h hq2
    refine Runs.sA 3 [.code (C_7 28), .code (C_7 29), .code (C_7 15)] ?_
    refine Runs.sR hE ⟨[(0, (encL (cU .u16) 0 a)), (1, (encL (cU .u16) 0 b)), (22, (aB (((b.length : Nat) : Int) == 1)))], [], 144⟩ (C_7 28) [] [] (kp [0, 1, 22]) [] 144 [] trivial ?_
    refine Runs.sC 22 (C_7 58) (C_7 59) (((b.length : Nat) : Int) == 1) (fun hq3 => ?_) (fun hq3 => ?_)
    · have h := condT h hq3
      refine Runs.sA 1 [.code (C_7 116), .code (C_7 117), .code (C_7 15)] ?_
      obtain ⟨c, h⟩ := ifSome h
      obtain ⟨rshort, hr3, h⟩ := bindSome h
      refine Runs.sR hE ⟨[(6, (encL (cU .u16) 0 rshort.1)), (7, (.atom (.int .u16 rshort.2)))], [], 304⟩ (C_7 116) [(4, ⟨[], true, (.tup [(encL (cU .u16) 0 rshort.1), (.atom (.int .u16 rshort.2))]), [], 0, false, none⟩)] [] (kp [6, 7]) [] 304 [0 ≤ (0 : Int) ∧ 0 < ((b.length : Nat) : Int), Sound Try.prog 152 [(encL (cU .u16) 0 a), (.atom (.int .u16 (b.getD 0 0)))] [] 0 (.tup [(encL (cU .u16) 0 rshort.1), (.atom (.int .u16 rshort.2))]) []] ⟨c, (g_e_short_ok N a (b.getD 0 0) rshort hr3), trivial⟩ ?_
      refine Runs.sA 1 [.code (C_7 234), .code (C_7 235), .code (C_7 15)] ?_
      obtain ⟨rtrim, hr4, h⟩ := bindSome h
      refine Runs.sR hE ⟨[(4, (encL (cU .u16) 0 rshort.1)), (5, (encL (cU .u16) 0 rtrim))], [], 400⟩ (C_7 234) [(3, ⟨[], true, (encL (cU .u16) 0 rtrim), [], 0, true, none⟩)] [] (kp [4, 5]) [] 400 [Sound Try.prog 92 [(.sl 1 (fun zi => (fun zi => ([[(.atom (.int .u16 rshort.2))]] : List (List AV)).getD zi []) (addz 0 zi)))] [] 0 (encL (cU .u16) 0 rtrim) [], 0 + 1 ≤ 1] ⟨(Sound.conv (g_e_trim_ok N ([rshort.2] : List Int) rtrim hr4) (.cons (Alike.sl rfl (fun zq hzq => get_chunk (cU .u16) 0 ([rshort.2] : List Int) zq hzq)) .nil)), z0, trivial⟩ ?_
      obtain rfl := Option.some.inj h
      refine Runs.sW hE ⟨[(4, (encL (cU .u16) 0 rshort.1)), (5, (encL (cU .u16) 0 rtrim))], [], 400⟩ [] (kp [4, 5]) [] 400 [] trivial ?_
      exact Runs.sT Try.f100 [] [] trivial
    · have h := condF h hq3
      refine Runs.sA 2 [.code (C_7 30), .code (C_7 31)] ?_
      obtain ⟨c2, h⟩ := ifSome h
      obtain ⟨rLeadingZeros, hr5, h⟩ := bindSome h
      refine Runs.sR hE ⟨[(0, (encL (cU .u16) 0 a)), (1, (encL (cU .u16) 0 b)), (8, (aI rLeadingZeros))], [], 272⟩ (C_7 30) [(6, ⟨[], true, (aI rLeadingZeros), [], 0, false, none⟩)] [] (kp [0, 1, 8]) [] 272 [0 ≤ (w64 (((b.length : Nat) : Int) - 1)) ∧ (w64 (((b.length : Nat) : Int) - 1)) < ((b.length : Nat) : Int), Sound Try.prog 153 [(.atom (.int .u16 (b.getD ((w64 (((b.length : Nat) : Int) - 1)).toNat) 0)))] [] 0 (aI rLeadingZeros) []] ⟨c2, (g_math_bits_LeadingZeros16_ok N (b.getD ((w64 (((b.length : Nat) : Int) - 1)).toNat) 0) rLeadingZeros hr5), trivial⟩ ?_
      refine Runs.sA 1 [.code (C_7 62), .code (C_7 63)] ?_
      obtain ⟨rshifted, hr6, h⟩ := bindSome h
      obtain ⟨rshifted2, hr7, h⟩ := bindSome h
      obtain ⟨c3, h⟩ := ifSome h
      refine Runs.sR hE ⟨[(8, (aI rLeadingZeros)), (9, (.os 304 0 rshifted.length)), (10, (.os 352 0 (b.length - 0)))], [(304, aO 1 (cU .u16) 0 rshifted), (352, aO 1 (cU .u16) 0 rshifted2)], 448⟩ (C_7 62) [(2, ⟨[], false, (.os 0 0 rshifted.length), [(0, aO 1 (cU .u16) 0 rshifted)], 0, false, none⟩), (5, ⟨[], false, (.os 0 0 rshifted2.length), [(0, aO 1 (cU .u16) 0 rshifted2)], 0, false, none⟩)] [] (kp [8, 9, 10]) (kq [304, 352]) 448 [Sound Try.prog 154 [(encL (cU .u16) 0 a), (aI rLeadingZeros)] [] 0 (.os 0 0 rshifted.length) [(0, aO 1 (cU .u16) 0 rshifted)], Sound Try.prog 154 [(encL (cU .u16) 0 b), (aI rLeadingZeros)] [] 0 (.os 0 0 rshifted2.length) [(0, aO 1 (cU .u16) 0 rshifted2)], 0 ≤ b.length ∧ b.length ≤ rshifted2.length, 0 ≤ ((b.length : Nat) : Int)] ⟨(g_e_shifted_ok N a rLeadingZeros rshifted hr6), (g_e_shifted_ok N b rLeadingZeros rshifted2 hr7), c3, (Int.natCast_nonneg _), trivial⟩ ?_
      refine Runs.sA 1 [.code (C_7 126), .code (C_7 127)] ?_
      refine Runs.sR hE ⟨[(8, (aI rLeadingZeros)), (9, (.os 304 0 rshifted.length)), (10, (.os 352 0 (b.length - 0))), (11, (aI (((b.length - 0) : Nat) : Int)))], [(304, aO 1 (cU .u16) 0 rshifted), (352, aO 1 (cU .u16) 0 rshifted2)], 496⟩ (C_7 126) [] [] (kp [8, 9, 10, 11]) (kq [304, 352]) 496 [] trivial ?_
      refine Runs.sA 1 [.code (C_7 254), .code (C_7 255)] ?_
      obtain ⟨c4, h⟩ := ifSome h
      refine Runs.sR hE ⟨[(4, (.os 560 0 ((List.replicate ((w64 (((rshifted.length : Nat) : Int) - (((b.length - 0) : Nat) : Int))).toNat) 0 : List Int).length))), (8, (aI rLeadingZeros)), (9, (.os 304 0 rshifted.length)), (10, (.os 352 0 (b.length - 0))), (11, (aI (((b.length - 0) : Nat) : Int)))], [(304, aO 1 (cU .u16) 0 rshifted), (352, aO 1 (cU .u16) 0 rshifted2), (560, aO 1 (cU .u16) 0 (List.replicate ((w64 (((rshifted.length : Nat) : Int) - (((b.length - 0) : Nat) : Int))).toNat) 0 : List Int))], 592⟩ (C_7 254) [] [] ([(4, .osl ((List.replicate ((w64 (((rshifted.length : Nat) : Int) - (((b.length - 0) : Nat) : Int))).toNat) 0 : List Int).length))] ++ kp [8, 9, 10, 11]) (kq [304, 352] ++ [(560, .arr 560 ((List.replicate ((w64 (((rshifted.length : Nat) : Int) - (((b.length - 0) : Nat) : Int))).toNat) 0 : List Int).length) (fun zi => (cU .u16) ((List.replicate ((w64 (((rshifted.length : Nat) : Int) - (((b.length - 0) : Nat) : Int))).toNat) 0 : List Int).getD zi 0)))]) 592 [0 ≤ (w64 (((rshifted.length : Nat) : Int) - (((b.length - 0) : Nat) : Int))), (w64 (((rshifted.length : Nat) : Int) - (((b.length - 0) : Nat) : Int))) ≤ (w64 (((rshifted.length : Nat) : Int) - (((b.length - 0) : Nat) : Int))), (2 : Int) * (w64 (((rshifted.length : Nat) : Int) - (((b.length - 0) : Nat) : Int))) ≤ 281474976710656, (w64 (((rshifted.length : Nat) : Int) - (((b.length - 0) : Nat) : Int))) ≤ 9223372036854775807, (w64 (((rshifted.length : Nat) : Int) - (((b.length - 0) : Nat) : Int))).toNat = (List.replicate ((w64 (((rshifted.length : Nat) : Int) - (((b.length - 0) : Nat) : Int))).toNat) 0 : List Int).length, (w64 (((rshifted.length : Nat) : Int) - (((b.length - 0) : Nat) : Int))).toNat = (List.replicate ((w64 (((rshifted.length : Nat) : Int) - (((b.length - 0) : Nat) : Int))).toNat) 0 : List Int).length, ∀ zi, zi < (List.replicate ((w64 (((rshifted.length : Nat) : Int) - (((b.length - 0) : Nat) : Int))).toNat) 0 : List Int).length → (fun zi => (cU .u16) ((List.replicate ((w64 (((rshifted.length : Nat) : Int) - (((b.length - 0) : Nat) : Int))).toNat) 0 : List Int).getD zi 0)) zi = (fun _ => [(.atom (.int .u16 0))]) zi] ⟨c4.1, (Int.le_refl _), c4.2.1, c4.2.2, (List.length_replicate).symm, (List.length_replicate).symm, (fun zq hzq => get_rep (cU .u16) 0 0 ((w64 (((rshifted.length : Nat) : Int) - (((b.length - 0) : Nat) : Int))).toNat) zq hzq), trivial⟩ ?_
      refine Runs.sA 2 [.code (C_7 1020), .code (C_7 1021), .code (C_7 511)] ?_
      refine Runs.sR hE ⟨[(4, (.os 560 0 ((List.replicate ((w64 (((rshifted.length : Nat) : Int) - (((b.length - 0) : Nat) : Int))).toNat) 0 : List Int).length))), (8, (aI rLeadingZeros)), (9, (.os 304 0 rshifted.length)), (10, (.os 352 0 (b.length - 0))), (11, (aI (((b.length - 0) : Nat) : Int))), (12, (aI (w64 ((w64 (((rshifted.length : Nat) : Int) - (((b.length - 0) : Nat) : Int))) - 1))))], [(304, aO 1 (cU .u16) 0 rshifted), (352, aO 1 (cU .u16) 0 rshifted2), (560, aO 1 (cU .u16) 0 (List.replicate ((w64 (((rshifted.length : Nat) : Int) - (((b.length - 0) : Nat) : Int))).toNat) 0 : List Int))], 688⟩ (C_7 1020) [] [] (kp [4, 8, 9, 10, 11, 12]) (kq [304, 352, 560]) 688 [] trivial ?_
      refine Runs.sA 2 [.code (C_7 4084), .inLoop (C_7 4084), .inBlock 0, .code (C_7 511)] ?_
      exact Runs.sW hE _ [] (kp [4, 8, 9, 10, 11, 12]) [(0, .keep 560), (1, .keep 304), (2, .keep 352)] 3 [] trivial (g_e_divide_L1_ok N b rLeadingZeros rshifted2 N (List.replicate ((w64 (((rshifted.length : Nat) : Int) - (((b.length - 0) : Nat) : Int))).toNat) 0 : List Int) rshifted (w64 ((w64 (((rshifted.length : Nat) : Int) - (((b.length - 0) : Nat) : Int))) - 1)) _ h E hE)
noncomputable def C_15 (n : Nat) : Code := cat (bodyOf Try.f94) (pth n)
theorem g_e_plus_J3_ok (N : Nat) (a2 : List Int) (b2 : List Int) (out : List Int) (x : Int) (K_g_e_plus_L2 : (List Int) → Int → Int → Option ((List Int)))
    (hK_g_e_plus_L2 : ∀ (out : List Int) (carry : Int) (x : Int) (r : (List Int)), K_g_e_plus_L2 out carry x = some r → ∀ E, EnvOk E 0 → Runs Try.prog E 94 56 (SPost E [] (encL (cU .u16) 0 r)) [.code (C_15 500), .inLoop (C_15 500), .inBlock 0, .code (C_15 63)] ⟨[(1, (encL (cU .u16) 0 b2)), (5, (.os 0 0 out.length)), (6, (.atom (.int .u32 carry))), (20, (encL (cU .u16) 0 a2)), (21, (aI ((a2.length : Nat) : Int))), (22, (aI x))], [(0, aO 1 (cU .u16) 0 out)], 1⟩) (carry2 : Int) (r : (List Int)) (h : g_e_plus_J3 N a2 b2 out x K_g_e_plus_L2 carry2 = some r) : ∀ E, EnvOk E 0 → Runs Try.prog E 94 56 (SPost E [] (encL (cU .u16) 0 r)) [.code (C_15 128206), .code (C_15 128207), .inBlock 1, .code (C_15 4007), .inLoop (C_15 500), .inBlock 0, .code (C_15 63)] ⟨[(1, (encL (cU .u16) 0 b2)), (5, (.os 0 0 out.length)), (6, (.atom (.int .u32 carry2))), (20, (encL (cU .u16) 0 a2)), (21, (aI ((a2.length : Nat) : Int))), (22, (aI x))], [(0, aO 1 (cU .u16) 0 out)], 1⟩ := by
  intro E hE
  unfold g_e_plus_J3 at h
  obtain ⟨c4, h⟩ := ifSome h
  refine Runs.sR hE ⟨[(1, (encL (cU .u16) 0 b2)), (5, (.os 65 0 ((out ++ ([(IntKind.u16.wrap (carry2))] : List Int)).length))), (6, (.atom (.int .u32 carry2))), (20, (encL (cU .u16) 0 a2)), (21, (aI ((a2.length : Nat) : Int))), (22, (aI x))], [(65, aO 1 (cU .u16) 0 (out ++ ([(IntKind.u16.wrap (carry2))] : List Int)))], 97⟩ (C_15 128206) [] [] (kp [1] ++ [(5, .osl ((out ++ ([(IntKind.u16.wrap (carry2))] : List Int)).length))] ++ kp [6, 20, 21, 22]) [(65, .arr 65 ((out ++ ([(IntKind.u16.wrap (carry2))] : List Int)).length) (fun zi => (cU .u16) ((out ++ ([(IntKind.u16.wrap (carry2))] : List Int)).getD zi 0)))] 97 [out.length = out.length, (out.length + 1) * 2 ≤ 140737488355328, 0 + 1 ≤ 1, ∀ zi, zi < 1 → AV.oneL ((fun zi => ([[(.atom (.int .u16 (IntKind.u16.wrap (carry2))))]] : List (List AV)).getD zi []) (addz 0 zi)) = true, (out.length + 1) = (out ++ ([(IntKind.u16.wrap (carry2))] : List Int)).length, out.length + 1 = (out ++ ([(IntKind.u16.wrap (carry2))] : List Int)).length, ∀ zi, zi < (out ++ ([(IntKind.u16.wrap (carry2))] : List Int)).length → (fun zi => (cU .u16) ((out ++ ([(IntKind.u16.wrap (carry2))] : List Int)).getD zi 0)) zi = ((fun zm => if zm < out.length then (fun zi => (cU .u16) (out.getD zi 0)) zm else (fun zi => ([[(.atom (.int .u16 (IntKind.u16.wrap (carry2))))]] : List (List AV)).getD zi []) (zm - out.length))) zi] ⟨rfl, c4, z0, (oneN rfl), (len_app_raw rfl rfl), (len_app_raw rfl rfl), (get_app_raw (cU .u16) 0 out ([(IntKind.u16.wrap (carry2))] : List Int) rfl (fun _ _ => rfl) (fun zq hzq => get_chunk (cU .u16) 0 ([(IntKind.u16.wrap (carry2))] : List Int) zq hzq)), trivial⟩ ?_
  refine Runs.sR hE ⟨[(1, (encL (cU .u16) 0 b2)), (5, (.os 65 0 ((out ++ ([(IntKind.u16.wrap (carry2))] : List Int)).length))), (6, (.atom (.int .u32 (shrI .u32 carry2 16)))), (20, (encL (cU .u16) 0 a2)), (21, (aI ((a2.length : Nat) : Int))), (22, (aI x))], [(65, aO 1 (cU .u16) 0 (out ++ ([(IntKind.u16.wrap (carry2))] : List Int)))], 145⟩ (C_15 128207) [] [] (kp [1, 5, 6, 20, 21, 22]) (kq [65]) 145 [(0 : Int) ≤ 16] ⟨(by decide), trivial⟩ ?_
  refine Runs.sA 1 [.code (C_15 4007), .inLoop (C_15 500), .inBlock 0, .code (C_15 63)] ?_
  refine Runs.sR hE ⟨[(1, (encL (cU .u16) 0 b2)), (5, (.os 65 0 ((out ++ ([(IntKind.u16.wrap (carry2))] : List Int)).length))), (6, (.atom (.int .u32 (shrI .u32 carry2 16)))), (20, (encL (cU .u16) 0 a2)), (21, (aI ((a2.length : Nat) : Int))), (22, (aI (w64 (x + 1))))], [(65, aO 1 (cU .u16) 0 (out ++ ([(IntKind.u16.wrap (carry2))] : List Int)))], 177⟩ (C_15 4007) [] [] (kp [1, 5, 6, 20, 21, 22]) (kq [65]) 177 [] trivial ?_
  refine Runs.sA 1 [.code (C_15 500), .inLoop (C_15 500), .inBlock 0, .code (C_15 63)] ?_
  exact Runs.sW hE _ [] (kp [1, 5, 6, 20, 21, 22]) [(0, .keep 65)] 1 [] trivial (hK_g_e_plus_L2 (out ++ ([(IntKind.u16.wrap (carry2))] : List Int)) (shrI .u32 carry2 16) (w64 (x + 1)) _ h E hE)
theorem g_e_plus_L2_ok (N : Nat) (a2 : List Int) (b2 : List Int) (fuel : Nat) : ∀ (out : List Int) (carry : Int) (x : Int) (r : (List Int)), g_e_plus_L2 N a2 b2 fuel out carry x = some r → ∀ E, EnvOk E 0 → Runs Try.prog E 94 56 (SPost E [] (encL (cU .u16) 0 r)) [.code (C_15 500), .inLoop (C_15 500), .inBlock 0, .code (C_15 63)] ⟨[(1, (encL (cU .u16) 0 b2)), (5, (.os 0 0 out.length)), (6, (.atom (.int .u32 carry))), (20, (encL (cU .u16) 0 a2)), (21, (aI ((a2.length : Nat) : Int))), (22, (aI x))], [(0, aO 1 (cU .u16) 0 out)], 1⟩ := by
  induction fuel with
  | zero => intro _ _ _ r h; rw [g_e_plus_L2.eq_1] at h; cases h
  | succ fuel ih =>
    intro out carry x r h E hE
    rw [g_e_plus_L2.eq_2] at h
    refine Runs.sA 1 [.code (C_15 1000), .code (C_15 1001), .inLoop (C_15 500), .inBlock 0, .code (C_15 63)] ?_
    refine Runs.sR hE ⟨[(1, (encL (cU .u16) 0 b2)), (5, (.os 0 0 out.length)), (6, (.atom (.int .u32 carry))), (20, (encL (cU .u16) 0 a2)), (21, (aI ((a2.length : Nat) : Int))), (22, (aI x)), (23, (aB (decide (x < ((a2.length : Nat) : Int)))))], [(0, aO 1 (cU .u16) 0 out)], 17⟩ (C_15 1000) [] [] (kp [1, 5, 6, 20, 21, 22, 23]) (kq [0]) 17 [] trivial ?_
    refine Runs.sA 1 [.code (C_15 2002), .code (C_15 2003), .inLoop (C_15 500), .inBlock 0, .code (C_15 63)] ?_
    refine Runs.sC 23 (C_15 4004) (C_15 4005) (decide (x < ((a2.length : Nat) : Int))) (fun hq3 => ?_) (fun hq3 => ?_)
    · have h := condT h hq3
      refine Runs.sA 4 [.code (C_15 16024), .code (C_15 16025), .inBlock 1, .code (C_15 4007), .inLoop (C_15 500), .inBlock 0, .code (C_15 63)] ?_
      obtain ⟨c2, h⟩ := ifSome h
      refine Runs.sR hE ⟨[(1, (encL (cU .u16) 0 b2)), (5, (.os 0 0 out.length)), (6, (.atom (.int .u32 carry))), (7, (aI x)), (8, (.atom (.int .u16 (a2.getD ((x).toNat) 0)))), (20, (encL (cU .u16) 0 a2)), (21, (aI ((a2.length : Nat) : Int))), (22, (aI x))], [(0, aO 1 (cU .u16) 0 out)], 97⟩ (C_15 16024) [] [] (kp [1, 5, 6, 7, 8, 20, 21, 22]) (kq [0]) 97 [0 ≤ x ∧ x < ((a2.length : Nat) : Int)] ⟨c2, trivial⟩ ?_
      refine Runs.sA 1 [.code (C_15 32050), .code (C_15 32051), .inBlock 1, .code (C_15 4007), .inLoop (C_15 500), .inBlock 0, .code (C_15 63)] ?_
      refine Runs.sR hE ⟨[(1, (encL (cU .u16) 0 b2)), (5, (.os 0 0 out.length)), (6, (.atom (.int .u32 (IntKind.u32.wrap (carry + (IntKind.u32.wrap ((a2.getD ((x).toNat) 0)))))))), (7, (aI x)), (20, (encL (cU .u16) 0 a2)), (21, (aI ((a2.length : Nat) : Int))), (22, (aI x))], [(0, aO 1 (cU .u16) 0 out)], 177⟩ (C_15 32050) [] [] (kp [1, 5, 6, 7, 20, 21, 22]) (kq [0]) 177 [] trivial ?_
      refine Runs.sA 2 [.code (C_15 128204), .code (C_15 128205), .code (C_15 64103), .inBlock 1, .code (C_15 4007), .inLoop (C_15 500), .inBlock 0, .code (C_15 63)] ?_
      refine Runs.sR hE ⟨[(1, (encL (cU .u16) 0 b2)), (5, (.os 0 0 out.length)), (6, (.atom (.int .u32 (IntKind.u32.wrap (carry + (IntKind.u32.wrap ((a2.getD ((x).toNat) 0)))))))), (7, (aI x)), (20, (encL (cU .u16) 0 a2)), (21, (aI ((a2.length : Nat) : Int))), (22, (aI x)), (34, (aB (decide (x < ((b2.length : Nat) : Int)))))], [(0, aO 1 (cU .u16) 0 out)], 241⟩ (C_15 128204) [] [] (kp [1, 5, 6, 7, 20, 21, 22, 34]) (kq [0]) 241 [] trivial ?_
      refine Runs.sC 34 (C_15 256410) (C_15 256411) (decide (x < ((b2.length : Nat) : Int))) (fun hq4 => ?_) (fun hq4 => ?_)
      · have h := condT h hq4
        obtain ⟨c3, h⟩ := ifSome h
        refine Runs.sR hE ⟨[(1, (encL (cU .u16) 0 b2)), (5, (.os 0 0 out.length)), (6, (.atom (.int .u32 (IntKind.u32.wrap ((IntKind.u32.wrap (carry + (IntKind.u32.wrap ((a2.getD ((x).toNat) 0))))) + (IntKind.u32.wrap ((b2.getD ((x).toNat) 0)))))))), (20, (encL (cU .u16) 0 a2)), (21, (aI ((a2.length : Nat) : Int))), (22, (aI x))], [(0, aO 1 (cU .u16) 0 out)], 369⟩ (C_15 256410) [] [] (kp [1, 5, 6, 20, 21, 22]) (kq [0]) 369 [0 ≤ x ∧ x < ((b2.length : Nat) : Int)] ⟨c3, trivial⟩ ?_
        refine Runs.sA 1 [.code (C_15 128206), .code (C_15 128207), .inBlock 1, .code (C_15 4007), .inLoop (C_15 500), .inBlock 0, .code (C_15 63)] ?_
        exact Runs.sW hE _ [] (kp [1, 5, 6, 20, 21, 22]) (kq [0]) 1 [] trivial (g_e_plus_J3_ok N a2 b2 out x (g_e_plus_L2 N a2 b2 fuel) ih (IntKind.u32.wrap ((IntKind.u32.wrap (carry + (IntKind.u32.wrap ((a2.getD ((x).toNat) 0))))) + (IntKind.u32.wrap ((b2.getD ((x).toNat) 0))))) _ h E hE)
      · have h := condF h hq4
        refine Runs.sA 2 [.code (C_15 128206), .code (C_15 128207), .inBlock 1, .code (C_15 4007), .inLoop (C_15 500), .inBlock 0, .code (C_15 63)] ?_
        exact Runs.sW hE _ [] (kp [1, 5, 6, 20, 21, 22]) (kq [0]) 1 [] trivial (g_e_plus_J3_ok N a2 b2 out x (g_e_plus_L2 N a2 b2 fuel) ih (IntKind.u32.wrap (carry + (IntKind.u32.wrap ((a2.getD ((x).toNat) 0))))) _ h E hE)
    · have h := condF h hq3
      refine Runs.sA 2 [.code (C_15 126), .code (C_15 127)] ?_
      obtain ⟨c5, h⟩ := ifSome h
      obtain ⟨rtrim, hr, h⟩ := bindSome h
      refine Runs.sR hE ⟨[(4, (encL (cU .u16) 0 rtrim))], [], 129⟩ (C_15 126) [(5, ⟨[], true, (encL (cU .u16) 0 rtrim), [], 0, true, none⟩)] [] (kp [4]) [] 129 [out.length = out.length, (out.length + 1) * 2 ≤ 140737488355328, 0 + 1 ≤ 1, ∀ zi, zi < 1 → AV.oneL ((fun zi => ([[(.atom (.int .u16 (IntKind.u16.wrap (carry))))]] : List (List AV)).getD zi []) (addz 0 zi)) = true, Sound Try.prog 92 [(.sl (out.length + 1) (fun zi => ((fun zm => if zm < out.length then (fun zi => (cU .u16) (out.getD zi 0)) zm else (fun zi => ([[(.atom (.int .u16 (IntKind.u16.wrap (carry))))]] : List (List AV)).getD zi []) (zm - out.length))) (addz 0 zi)))] [] 0 (encL (cU .u16) 0 rtrim) [], 0 + (out.length + 1) ≤ out.length + 1] ⟨rfl, c5, z0, (oneN rfl), (Sound.conv (g_e_trim_ok N (out ++ ([(IntKind.u16.wrap (carry))] : List Int)) rtrim hr) (.cons (Alike.sl (len_app_raw rfl rfl) (get_app_raw (cU .u16) 0 out ([(IntKind.u16.wrap (carry))] : List Int) rfl (fun _ _ => rfl) (fun zq hzq => get_chunk (cU .u16) 0 ([(IntKind.u16.wrap (carry))] : List Int) zq hzq))) .nil)), z0, trivial⟩ ?_
      obtain rfl := Option.some.inj h
      refine Runs.sW hE ⟨[(4, (encL (cU .u16) 0 rtrim))], [], 129⟩ [] (kp [4]) [] 129 [] trivial ?_
      exact Runs.sT Try.f94 [] [] trivial
theorem g_e_plus_J1_ok (N : Nat) (a2 : List Int) (b2 : List Int) (r : (List Int)) (h : g_e_plus_J1 N a2 b2 = some r) : ∀ E, EnvOk E 0 → Runs Try.prog E 94 56 (SPost E [] (encL (cU .u16) 0 r)) [.code (C_15 14), .code (C_15 15)] ⟨[(0, (encL (cU .u16) 0 a2)), (1, (encL (cU .u16) 0 b2))], [], 0⟩ := by
  intro E hE
  unfold g_e_plus_J1 at h
  obtain ⟨c, h⟩ := ifSome h
  refine Runs.sR hE ⟨[(0, (encL (cU .u16) 0 a2)), (1, (encL (cU .u16) 0 b2)), (5, (.os 48 0 ((List.replicate 0 0 : List Int).length)))], [(48, aO 1 (cU .u16) 0 (List.replicate 0 0 : List Int))], 80⟩ (C_15 14) [] [] (kp [0, 1] ++ [(5, .osl ((List.replicate 0 0 : List Int).length))]) [(48, .arr 48 ((List.replicate 0 0 : List Int).length) (fun zi => (cU .u16) ((List.replicate 0 0 : List Int).getD zi 0)))] 80 [0 ≤ (0 : Int), (0 : Int) ≤ (w64 (((a2.length : Nat) : Int) + 1)), (2 : Int) * (w64 (((a2.length : Nat) : Int) + 1)) ≤ 281474976710656, (w64 (((a2.length : Nat) : Int) + 1)) ≤ 9223372036854775807, 0 = (List.replicate 0 0 : List Int).length, 0 = (List.replicate 0 0 : List Int).length, ∀ zi, zi < (List.replicate 0 0 : List Int).length → (fun zi => (cU .u16) ((List.replicate 0 0 : List Int).getD zi 0)) zi = (fun _ => [(.atom (.int .u16 0))]) zi] ⟨c.1, c.2.2.2, c.2.1, c.2.2.1, (List.length_replicate).symm, (List.length_replicate).symm, (fun zq hzq => get_rep (cU .u16) 0 0 0 zq hzq), trivial⟩ ?_
  refine Runs.sA 1 [.code (C_15 30), .code (C_15 31)] ?_
  refine Runs.sR hE ⟨[(0, (encL (cU .u16) 0 a2)), (1, (encL (cU .u16) 0 b2)), (5, (.os 48 0 ((List.replicate 0 0 : List Int).length))), (6, (.atom (.int .u32 0)))], [(48, aO 1 (cU .u16) 0 (List.replicate 0 0 : List Int))], 96⟩ (C_15 30) [] [] (kp [0, 1, 5, 6]) (kq [48]) 96 [] trivial ?_
  refine Runs.sA 2 [.code (C_15 124), .code (C_15 125), .code (C_15 63)] ?_
  refine Runs.sR hE ⟨[(1, (encL (cU .u16) 0 b2)), (5, (.os 48 0 ((List.replicate 0 0 : List Int).length))), (6, (.atom (.int .u32 0))), (20, (encL (cU .u16) 0 a2)), (21, (aI ((a2.length : Nat) : Int))), (22, (aI 0))], [(48, aO 1 (cU .u16) 0 (List.replicate 0 0 : List Int))], 144⟩ (C_15 124) [] [] (kp [1, 5, 6, 20, 21, 22]) (kq [48]) 144 [] trivial ?_
  refine Runs.sA 2 [.code (C_15 500), .inLoop (C_15 500), .inBlock 0, .code (C_15 63)] ?_
  exact Runs.sW hE _ [] (kp [1, 5, 6, 20, 21, 22]) [(0, .keep 48)] 1 [] trivial (g_e_plus_L2_ok N a2 b2 N (List.replicate 0 0 : List Int) 0 0 _ h E hE)
theorem g_e_plus_ok (N : Nat) (a : List Int) (b : List Int) (r : (List Int)) (h : g_e_plus N a b = some r) : Sound Try.prog 94 [(encL (cU .u16) 0 a), (encL (cU .u16) 0 b)] [] 0 (encL (cU .u16) 0 r) [] := by
  unfold g_e_plus at h
  refine Sound.of_runs (fu := Try.f94) (c := C_15 1) (nt := 56) (by kernel_rfl) (by kernel_rfl) (by kernel_rfl) (by kernel_rfl) (fun hm => rfl) ?_
  intro E hE
  refine Runs.sA 1 [.code (C_15 2), .code (C_15 3)] ?_
  refine Runs.sR hE ⟨[(0, (encL (cU .u16) 0 a)), (1, (encL (cU .u16) 0 b))], [], 16⟩ (C_15 2) [] [] (kp [0, 1]) [] 16 [] trivial ?_
  refine Runs.sA 2 [.code (C_15 12), .code (C_15 13), .code (C_15 7)] ?_
  refine Runs.sR hE ⟨[(0, (encL (cU .u16) 0 a)), (1, (encL (cU .u16) 0 b)), (13, (aB (decide (((a.length : Nat) : Int) < ((b.length : Nat) : Int)))))], [], 96⟩ (C_15 12) [] [] (kp [0, 1, 13]) [] 96 [] trivial ?_
  refine Runs.sC 13 (C_15 26) (C_15 27) (decide (((a.length : Nat) : Int) < ((b.length : Nat) : Int))) (fun hq2 => ?_) (fun hq2 => ?_)
  · have h := condT h hq2
    refine Runs.sR hE ⟨[(0, (encL (cU .u16) 0 b)), (1, (encL (cU .u16) 0 a))], [], 160⟩ (C_15 26) [] [] (kp [0, 1]) [] 160 [] trivial ?_
    refine Runs.sA 1 [.code (C_15 14), .code (C_15 15)] ?_
    exact Runs.sW hE _ [] (kp [0, 1]) [] 0 [] trivial (g_e_plus_J1_ok N b a _ h E hE)
  · have h := condF h hq2
    refine Runs.sA 2 [.code (C_15 14), .code (C_15 15)] ?_
    exact Runs.sW hE _ [] (kp [0, 1]) [] 0 [] trivial (g_e_plus_J1_ok N a b _ h E hE)
noncomputable def C_16 (n : Nat) : Code := cat (bodyOf Try.f96) (pth n)
theorem g_e_minus_J3_ok (N : Nat) (a : List Int) (b : List Int) (out : List Int) (x : Int) (y : Int) (K_g_e_minus_L1 : (List Int) → Int → Int → Option ((List Int)))
    (hK_g_e_minus_L1 : ∀ (out : List Int) (borrow : Int) (x : Int) (r : (List Int)), K_g_e_minus_L1 out borrow x = some r → ∀ E, EnvOk E 0 → Runs Try.prog E 96 50 (SPost E [] (encL (cU .u16) 0 r)) [.code (C_16 244), .inLoop (C_16 244), .inBlock 0, .code (C_16 31)] ⟨[(1, (encL (cU .u16) 0 b)), (5, (.os 0 0 out.length)), (6, (.atom (.int .u32 borrow))), (13, (encL (cU .u16) 0 a)), (14, (aI ((a.length : Nat) : Int))), (15, (aI x))], [(0, aO 1 (cU .u16) 0 out)], 1⟩) (borrow2 : Int) (r : (List Int)) (h : g_e_minus_J3 N a b out x y K_g_e_minus_L1 borrow2 = some r) : ∀ E, EnvOk E 0 → Runs Try.prog E 96 50 (SPost E [] (encL (cU .u16) 0 r)) [.code (C_16 125343), .inBlock 1, .code (C_16 1959), .inLoop (C_16 244), .inBlock 0, .code (C_16 31)] ⟨[(1, (encL (cU .u16) 0 b)), (5, (.os 0 0 out.length)), (6, (.atom (.int .u32 borrow2))), (7, (aI x)), (8, (.atom (.int .u16 (a.getD ((x).toNat) 0)))), (9, (.atom (.int .u32 y))), (13, (encL (cU .u16) 0 a)), (14, (aI ((a.length : Nat) : Int))), (15, (aI x))], [(0, aO 1 (cU .u16) 0 out)], 1⟩ := by
  intro E hE
  unfold g_e_minus_J3 at h
  obtain ⟨c4, h⟩ := ifSome h
  refine Runs.sR hE ⟨[(1, (encL (cU .u16) 0 b)), (5, (.os 0 0 ((out.set ((x).toNat) (IntKind.u16.wrap ((IntKind.u32.wrap ((IntKind.u32.wrap ((IntKind.u32.wrap ((a.getD ((x).toNat) 0))) + (shlI .u32 borrow2 16))) - y))))).length))), (6, (.atom (.int .u32 borrow2))), (13, (encL (cU .u16) 0 a)), (14, (aI ((a.length : Nat) : Int))), (15, (aI x))], [(0, aO 1 (cU .u16) 0 (out.set ((x).toNat) (IntKind.u16.wrap ((IntKind.u32.wrap ((IntKind.u32.wrap ((IntKind.u32.wrap ((a.getD ((x).toNat) 0))) + (shlI .u32 borrow2 16))) - y))))))], 193⟩ (C_16 125343) [] [] (kp [1] ++ [(5, .osl ((out.set ((x).toNat) (IntKind.u16.wrap ((IntKind.u32.wrap ((IntKind.u32.wrap ((IntKind.u32.wrap ((a.getD ((x).toNat) 0))) + (shlI .u32 borrow2 16))) - y))))).length))] ++ kp [6, 13, 14, 15]) [(0, .arr 0 ((out.set ((x).toNat) (IntKind.u16.wrap ((IntKind.u32.wrap ((IntKind.u32.wrap ((IntKind.u32.wrap ((a.getD ((x).toNat) 0))) + (shlI .u32 borrow2 16))) - y))))).length) (fun zi => (cU .u16) ((out.set ((x).toNat) (IntKind.u16.wrap ((IntKind.u32.wrap ((IntKind.u32.wrap ((IntKind.u32.wrap ((a.getD ((x).toNat) 0))) + (shlI .u32 borrow2 16))) - y))))).getD zi 0)))] 193 [(0 : Int) ≤ 16, 0 ≤ x ∧ x < ((out.length : Nat) : Int), (x).toNat < out.length, out.length = (out.set ((x).toNat) (IntKind.u16.wrap ((IntKind.u32.wrap ((IntKind.u32.wrap ((IntKind.u32.wrap ((a.getD ((x).toNat) 0))) + (shlI .u32 borrow2 16))) - y))))).length, out.length = (out.set ((x).toNat) (IntKind.u16.wrap ((IntKind.u32.wrap ((IntKind.u32.wrap ((IntKind.u32.wrap ((a.getD ((x).toNat) 0))) + (shlI .u32 borrow2 16))) - y))))).length, ∀ zi, zi < (out.set ((x).toNat) (IntKind.u16.wrap ((IntKind.u32.wrap ((IntKind.u32.wrap ((IntKind.u32.wrap ((a.getD ((x).toNat) 0))) + (shlI .u32 borrow2 16))) - y))))).length → (fun zi => (cU .u16) ((out.set ((x).toNat) (IntKind.u16.wrap ((IntKind.u32.wrap ((IntKind.u32.wrap ((IntKind.u32.wrap ((a.getD ((x).toNat) 0))) + (shlI .u32 borrow2 16))) - y))))).getD zi 0)) zi = ((fun zm => if zm = (x).toNat then [(.atom (.int .u16 (IntKind.u16.wrap ((IntKind.u32.wrap ((IntKind.u32.wrap ((IntKind.u32.wrap ((a.getD ((x).toNat) 0))) + (shlI .u32 borrow2 16))) - y))))))] else (fun zi => (cU .u16) (out.getD zi 0)) zm)) zi] ⟨(by decide), c4, (ltOf c4), (len_set_raw rfl), (len_set_raw rfl), (get_set_raw (cU .u16) 0 out ((x).toNat) (IntKind.u16.wrap ((IntKind.u32.wrap ((IntKind.u32.wrap ((IntKind.u32.wrap ((a.getD ((x).toNat) 0))) + (shlI .u32 borrow2 16))) - y)))) (fun _ _ => rfl)), trivial⟩ ?_
  refine Runs.sA 1 [.code (C_16 1959), .inLoop (C_16 244), .inBlock 0, .code (C_16 31)] ?_
  refine Runs.sR hE ⟨[(1, (encL (cU .u16) 0 b)), (5, (.os 0 0 ((out.set ((x).toNat) (IntKind.u16.wrap ((IntKind.u32.wrap ((IntKind.u32.wrap ((IntKind.u32.wrap ((a.getD ((x).toNat) 0))) + (shlI .u32 borrow2 16))) - y))))).length))), (6, (.atom (.int .u32 borrow2))), (13, (encL (cU .u16) 0 a)), (14, (aI ((a.length : Nat) : Int))), (15, (aI (w64 (x + 1))))], [(0, aO 1 (cU .u16) 0 (out.set ((x).toNat) (IntKind.u16.wrap ((IntKind.u32.wrap ((IntKind.u32.wrap ((IntKind.u32.wrap ((a.getD ((x).toNat) 0))) + (shlI .u32 borrow2 16))) - y))))))], 225⟩ (C_16 1959) [] [] (kp [1, 5, 6, 13, 14, 15]) (kq [0]) 225 [] trivial ?_
  refine Runs.sA 1 [.code (C_16 244), .inLoop (C_16 244), .inBlock 0, .code (C_16 31)] ?_
  exact Runs.sW hE _ [] (kp [1, 5, 6, 13, 14, 15]) (kq [0]) 1 [] trivial (hK_g_e_minus_L1 (out.set ((x).toNat) (IntKind.u16.wrap ((IntKind.u32.wrap ((IntKind.u32.wrap ((IntKind.u32.wrap ((a.getD ((x).toNat) 0))) + (shlI .u32 borrow2 16))) - y))))) borrow2 (w64 (x + 1)) _ h E hE)
theorem g_e_minus_J2_ok (N : Nat) (a : List Int) (b : List Int) (out : List Int) (x : Int) (K_g_e_minus_L1 : (List Int) → Int → Int → Option ((List Int)))
    (hK_g_e_minus_L1 : ∀ (out : List Int) (borrow : Int) (x : Int) (r : (List Int)), K_g_e_minus_L1 out borrow x = some r → ∀ E, EnvOk E 0 → Runs Try.prog E 96 50 (SPost E [] (encL (cU .u16) 0 r)) [.code (C_16 244), .inLoop (C_16 244), .inBlock 0, .code (C_16 31)] ⟨[(1, (encL (cU .u16) 0 b)), (5, (.os 0 0 out.length)), (6, (.atom (.int .u32 borrow))), (13, (encL (cU .u16) 0 a)), (14, (aI ((a.length : Nat) : Int))), (15, (aI x))], [(0, aO 1 (cU .u16) 0 out)], 1⟩) (y : Int) (r : (List Int)) (h : g_e_minus_J2 N a b out x K_g_e_minus_L1 y = some r) : ∀ E, EnvOk E 0 → Runs Try.prog E 96 50 (SPost E [] (encL (cU .u16) 0 r)) [.code (C_16 62670), .code (C_16 62671), .inBlock 1, .code (C_16 1959), .inLoop (C_16 244), .inBlock 0, .code (C_16 31)] ⟨[(1, (encL (cU .u16) 0 b)), (5, (.os 0 0 out.length)), (7, (aI x)), (8, (.atom (.int .u16 (a.getD ((x).toNat) 0)))), (9, (.atom (.int .u32 y))), (13, (encL (cU .u16) 0 a)), (14, (aI ((a.length : Nat) : Int))), (15, (aI x))], [(0, aO 1 (cU .u16) 0 out)], 1⟩ := by
  intro E hE
  unfold g_e_minus_J2 at h
  refine Runs.sR hE ⟨[(1, (encL (cU .u16) 0 b)), (5, (.os 0 0 out.length)), (6, (.atom (.int .u32 0))), (7, (aI x)), (8, (.atom (.int .u16 (a.getD ((x).toNat) 0)))), (9, (.atom (.int .u32 y))), (13, (encL (cU .u16) 0 a)), (14, (aI ((a.length : Nat) : Int))), (15, (aI x))], [(0, aO 1 (cU .u16) 0 out)], 17⟩ (C_16 62670) [] [] (kp [1, 5, 6, 7, 8, 9, 13, 14, 15]) (kq [0]) 17 [] trivial ?_
  refine Runs.sA 2 [.code (C_16 250684), .code (C_16 250685), .code (C_16 125343), .inBlock 1, .code (C_16 1959), .inLoop (C_16 244), .inBlock 0, .code (C_16 31)] ?_
  refine Runs.sR hE ⟨[(1, (encL (cU .u16) 0 b)), (5, (.os 0 0 out.length)), (6, (.atom (.int .u32 0))), (7, (aI x)), (8, (.atom (.int .u16 (a.getD ((x).toNat) 0)))), (9, (.atom (.int .u32 y))), (13, (encL (cU .u16) 0 a)), (14, (aI ((a.length : Nat) : Int))), (15, (aI x)), (35, (aB (decide ((IntKind.u32.wrap ((a.getD ((x).toNat) 0))) < y))))], [(0, aO 1 (cU .u16) 0 out)], 81⟩ (C_16 250684) [] [] (kp [1, 5, 6, 7, 8, 9, 13, 14, 15, 35]) (kq [0]) 81 [] trivial ?_
  refine Runs.sC 35 (C_16 501370) (C_16 501371) (decide ((IntKind.u32.wrap ((a.getD ((x).toNat) 0))) < y)) (fun hq4 => ?_) (fun hq4 => ?_)
  · have h := condT h hq4
    refine Runs.sR hE ⟨[(1, (encL (cU .u16) 0 b)), (5, (.os 0 0 out.length)), (6, (.atom (.int .u32 1))), (7, (aI x)), (8, (.atom (.int .u16 (a.getD ((x).toNat) 0)))), (9, (.atom (.int .u32 y))), (13, (encL (cU .u16) 0 a)), (14, (aI ((a.length : Nat) : Int))), (15, (aI x))], [(0, aO 1 (cU .u16) 0 out)], 97⟩ (C_16 501370) [] [] (kp [1, 5, 6, 7, 8, 9, 13, 14, 15]) (kq [0]) 97 [] trivial ?_
    exact Runs.sW hE _ [] (kp [1, 5, 6, 7, 8, 9, 13, 14, 15]) (kq [0]) 1 [] trivial (g_e_minus_J3_ok N a b out x y K_g_e_minus_L1 hK_g_e_minus_L1 1 _ h E hE)
  · have h := condF h hq4
    refine Runs.sA 1 [.code (C_16 125343), .inBlock 1, .code (C_16 1959), .inLoop (C_16 244), .inBlock 0, .code (C_16 31)] ?_
    exact Runs.sW hE _ [] (kp [1, 5, 6, 7, 8, 9, 13, 14, 15]) (kq [0]) 1 [] trivial (g_e_minus_J3_ok N a b out x y K_g_e_minus_L1 hK_g_e_minus_L1 0 _ h E hE)
theorem g_e_minus_L1_ok (N : Nat) (a : List Int) (b : List Int) (fuel : Nat) : ∀ (out : List Int) (borrow : Int) (x : Int) (r : (List Int)), g_e_minus_L1 N a b fuel out borrow x = some r → ∀ E, EnvOk E 0 → Runs Try.prog E 96 50 (SPost E [] (encL (cU .u16) 0 r)) [.code (C_16 244), .inLoop (C_16 244), .inBlock 0, .code (C_16 31)] ⟨[(1, (encL (cU .u16) 0 b)), (5, (.os 0 0 out.length)), (6, (.atom (.int .u32 borrow))), (13, (encL (cU .u16) 0 a)), (14, (aI ((a.length : Nat) : Int))), (15, (aI x))], [(0, aO 1 (cU .u16) 0 out)], 1⟩ := by
  induction fuel with
  | zero => intro _ _ _ r h; rw [g_e_minus_L1.eq_1] at h; cases h
  | succ fuel ih =>
    intro out borrow x r h E hE
    rw [g_e_minus_L1.eq_2] at h
    refine Runs.sA 1 [.code (C_16 488), .code (C_16 489), .inLoop (C_16 244), .inBlock 0, .code (C_16 31)] ?_
    refine Runs.sR hE ⟨[(1, (encL (cU .u16) 0 b)), (5, (.os 0 0 out.length)), (6, (.atom (.int .u32 borrow))), (13, (encL (cU .u16) 0 a)), (14, (aI ((a.length : Nat) : Int))), (15, (aI x)), (16, (aB (decide (x < ((a.length : Nat) : Int)))))], [(0, aO 1 (cU .u16) 0 out)], 17⟩ (C_16 488) [] [] (kp [1, 5, 6, 13, 14, 15, 16]) (kq [0]) 17 [] trivial ?_
    refine Runs.sA 1 [.code (C_16 978), .code (C_16 979), .inLoop (C_16 244), .inBlock 0, .code (C_16 31)] ?_
    refine Runs.sC 16 (C_16 1956) (C_16 1957) (decide (x < ((a.length : Nat) : Int))) (fun hq2 => ?_) (fun hq2 => ?_)
    · have h := condT h hq2
      refine Runs.sA 4 [.code (C_16 7832), .code (C_16 7833), .inBlock 1, .code (C_16 1959), .inLoop (C_16 244), .inBlock 0, .code (C_16 31)] ?_
      obtain ⟨c2, h⟩ := ifSome h
      refine Runs.sR hE ⟨[(1, (encL (cU .u16) 0 b)), (5, (.os 0 0 out.length)), (6, (.atom (.int .u32 borrow))), (7, (aI x)), (8, (.atom (.int .u16 (a.getD ((x).toNat) 0)))), (13, (encL (cU .u16) 0 a)), (14, (aI ((a.length : Nat) : Int))), (15, (aI x))], [(0, aO 1 (cU .u16) 0 out)], 97⟩ (C_16 7832) [] [] (kp [1, 5, 6, 7, 8, 13, 14, 15]) (kq [0]) 97 [0 ≤ x ∧ x < ((a.length : Nat) : Int)] ⟨c2, trivial⟩ ?_
      refine Runs.sA 1 [.code (C_16 15666), .code (C_16 15667), .inBlock 1, .code (C_16 1959), .inLoop (C_16 244), .inBlock 0, .code (C_16 31)] ?_
      refine Runs.sR hE ⟨[(1, (encL (cU .u16) 0 b)), (5, (.os 0 0 out.length)), (7, (aI x)), (8, (.atom (.int .u16 (a.getD ((x).toNat) 0)))), (9, (.atom (.int .u32 borrow))), (13, (encL (cU .u16) 0 a)), (14, (aI ((a.length : Nat) : Int))), (15, (aI x))], [(0, aO 1 (cU .u16) 0 out)], 129⟩ (C_16 15666) [] [] (kp [1, 5, 7, 8, 9, 13, 14, 15]) (kq [0]) 129 [] trivial ?_
      refine Runs.sA 2 [.code (C_16 62668), .code (C_16 62669), .code (C_16 31335), .inBlock 1, .code (C_16 1959), .inLoop (C_16 244), .inBlock 0, .code (C_16 31)] ?_
      refine Runs.sR hE ⟨[(1, (encL (cU .u16) 0 b)), (5, (.os 0 0 out.length)), (7, (aI x)), (8, (.atom (.int .u16 (a.getD ((x).toNat) 0)))), (9, (.atom (.int .u32 borrow))), (13, (encL (cU .u16) 0 a)), (14, (aI ((a.length : Nat) : Int))), (15, (aI x)), (24, (aB (decide (x < ((b.length : Nat) : Int)))))], [(0, aO 1 (cU .u16) 0 out)], 193⟩ (C_16 62668) [] [] (kp [1, 5, 7, 8, 9, 13, 14, 15, 24]) (kq [0]) 193 [] trivial ?_
      refine Runs.sC 24 (C_16 125338) (C_16 125339) (decide (x < ((b.length : Nat) : Int))) (fun hq3 => ?_) (fun hq3 => ?_)
      · have h := condT h hq3
        obtain ⟨c3, h⟩ := ifSome h
        refine Runs.sR hE ⟨[(1, (encL (cU .u16) 0 b)), (5, (.os 0 0 out.length)), (7, (aI x)), (8, (.atom (.int .u16 (a.getD ((x).toNat) 0)))), (9, (.atom (.int .u32 (IntKind.u32.wrap (borrow + (IntKind.u32.wrap ((b.getD ((x).toNat) 0)))))))), (13, (encL (cU .u16) 0 a)), (14, (aI ((a.length : Nat) : Int))), (15, (aI x))], [(0, aO 1 (cU .u16) 0 out)], 321⟩ (C_16 125338) [] [] (kp [1, 5, 7, 8, 9, 13, 14, 15]) (kq [0]) 321 [0 ≤ x ∧ x < ((b.length : Nat) : Int)] ⟨c3, trivial⟩ ?_
        refine Runs.sA 1 [.code (C_16 62670), .code (C_16 62671), .inBlock 1, .code (C_16 1959), .inLoop (C_16 244), .inBlock 0, .code (C_16 31)] ?_
        exact Runs.sW hE _ [] (kp [1, 5, 7, 8, 9, 13, 14, 15]) (kq [0]) 1 [] trivial (g_e_minus_J2_ok N a b out x (g_e_minus_L1 N a b fuel) ih (IntKind.u32.wrap (borrow + (IntKind.u32.wrap ((b.getD ((x).toNat) 0))))) _ h E hE)
      · have h := condF h hq3
        refine Runs.sA 2 [.code (C_16 62670), .code (C_16 62671), .inBlock 1, .code (C_16 1959), .inLoop (C_16 244), .inBlock 0, .code (C_16 31)] ?_
        exact Runs.sW hE _ [] (kp [1, 5, 7, 8, 9, 13, 14, 15]) (kq [0]) 1 [] trivial (g_e_minus_J2_ok N a b out x (g_e_minus_L1 N a b fuel) ih borrow _ h E hE)
    · have h := condF h hq2
      refine Runs.sA 2 [.code (C_16 62), .code (C_16 63)] ?_
      obtain ⟨rtrim, hr, h⟩ := bindSome h
      refine Runs.sR hE ⟨[(4, (encL (cU .u16) 0 rtrim))], [], 65⟩ (C_16 62) [(1, ⟨[], true, (encL (cU .u16) 0 rtrim), [], 0, true, none⟩)] [] (kp [4]) [] 65 [Sound Try.prog 92 [(encL (cU .u16) 0 out)] [] 0 (encL (cU .u16) 0 rtrim) [], 0 + out.length ≤ out.length] ⟨(g_e_trim_ok N out rtrim hr), z0, trivial⟩ ?_
      obtain rfl := Option.some.inj h
      refine Runs.sW hE ⟨[(4, (encL (cU .u16) 0 rtrim))], [], 65⟩ [] (kp [4]) [] 65 [] trivial ?_
      exact Runs.sT Try.f96 [] [] trivial
theorem g_e_minus_ok (N : Nat) (a : List Int) (b : List Int) (r : (List Int)) (h : g_e_minus N a b = some r) : Sound Try.prog 96 [(encL (cU .u16) 0 a), (encL (cU .u16) 0 b)] [] 0 (encL (cU .u16) 0 r) [] := by
  unfold g_e_minus at h
  refine Sound.of_runs (fu := Try.f96) (c := C_16 1) (nt := 50) (by kernel_rfl) (by kernel_rfl) (by kernel_rfl) (by kernel_rfl) (fun hm => rfl) ?_
  intro E hE
  refine Runs.sA 1 [.code (C_16 2), .code (C_16 3)] ?_
  refine Runs.sR hE ⟨[(0, (encL (cU .u16) 0 a)), (1, (encL (cU .u16) 0 b))], [], 16⟩ (C_16 2) [] [] (kp [0, 1]) [] 16 [] trivial ?_
  refine Runs.sA 1 [.code (C_16 6), .code (C_16 7)] ?_
  obtain ⟨c, h⟩ := ifSome h
  refine Runs.sR hE ⟨[(0, (encL (cU .u16) 0 a)), (1, (encL (cU .u16) 0 b)), (5, (.os 48 0 ((List.replicate a.length 0 : List Int).length)))], [(48, aO 1 (cU .u16) 0 (List.replicate a.length 0 : List Int))], 80⟩ (C_16 6) [] [] (kp [0, 1] ++ [(5, .osl ((List.replicate a.length 0 : List Int).length))]) [(48, .arr 48 ((List.replicate a.length 0 : List Int).length) (fun zi => (cU .u16) ((List.replicate a.length 0 : List Int).getD zi 0)))] 80 [0 ≤ ((a.length : Nat) : Int), ((a.length : Nat) : Int) ≤ ((a.length : Nat) : Int), (2 : Int) * ((a.length : Nat) : Int) ≤ 281474976710656, ((a.length : Nat) : Int) ≤ 9223372036854775807, a.length = (List.replicate a.length 0 : List Int).length, a.length = (List.replicate a.length 0 : List Int).length, ∀ zi, zi < (List.replicate a.length 0 : List Int).length → (fun zi => (cU .u16) ((List.replicate a.length 0 : List Int).getD zi 0)) zi = (fun _ => [(.atom (.int .u16 0))]) zi] ⟨c.1, (Int.le_refl _), c.2.1, c.2.2, (List.length_replicate).symm, (List.length_replicate).symm, (fun zq hzq => get_rep (cU .u16) 0 0 a.length zq hzq), trivial⟩ ?_
  refine Runs.sA 1 [.code (C_16 14), .code (C_16 15)] ?_
  refine Runs.sR hE ⟨[(0, (encL (cU .u16) 0 a)), (1, (encL (cU .u16) 0 b)), (5, (.os 48 0 ((List.replicate a.length 0 : List Int).length))), (6, (.atom (.int .u32 0)))], [(48, aO 1 (cU .u16) 0 (List.replicate a.length 0 : List Int))], 96⟩ (C_16 14) [] [] (kp [0, 1, 5, 6]) (kq [48]) 96 [] trivial ?_
  refine Runs.sA 2 [.code (C_16 60), .code (C_16 61), .code (C_16 31)] ?_
  refine Runs.sR hE ⟨[(1, (encL (cU .u16) 0 b)), (5, (.os 48 0 ((List.replicate a.length 0 : List Int).length))), (6, (.atom (.int .u32 0))), (13, (encL (cU .u16) 0 a)), (14, (aI ((a.length : Nat) : Int))), (15, (aI 0))], [(48, aO 1 (cU .u16) 0 (List.replicate a.length 0 : List Int))], 144⟩ (C_16 60) [] [] (kp [1, 5, 6, 13, 14, 15]) (kq [48]) 144 [] trivial ?_
  refine Runs.sA 2 [.code (C_16 244), .inLoop (C_16 244), .inBlock 0, .code (C_16 31)] ?_
  exact Runs.sW hE _ [] (kp [1, 5, 6, 13, 14, 15]) [(0, .keep 48)] 1 [] trivial (g_e_minus_L1_ok N a b N (List.replicate a.length 0 : List Int) 0 0 _ h E hE)
noncomputable def C_17 (n : Nat) : Code := cat (bodyOf Try.f93) (pth n)
theorem g_e_signed_ok (N : Nat) (neg : Bool) (n : List Int) (r : TInt) (h : g_e_signed N neg n = some r) : Sound Try.prog 93 [(aB neg), (encL (cU .u16) 0 n)] [] 0 (.agg (TInt.cells r)) [] := by
  unfold g_e_signed at h
  refine Sound.of_runs (fu := Try.f93) (c := C_17 1) (nt := 15) (by kernel_rfl) (by kernel_rfl) (by kernel_rfl) (by kernel_rfl) (fun hm => rfl) ?_
  intro E hE
  refine Runs.sA 1 [.code (C_17 2), .code (C_17 3)] ?_
  refine Runs.sR hE ⟨[(0, (aB neg)), (1, (encL (cU .u16) 0 n)), (4, (.op 0 0 0))], [(0, vO 2 [(aB false), .nil])], 16⟩ (C_17 2) [] [] (kp [0, 1, 4]) (kq [0]) 16 [] trivial ?_
  refine Runs.sA 1 [.code (C_17 6), .code (C_17 7)] ?_
  obtain ⟨rtrim, hr, h⟩ := bindSome h
  refine Runs.sR hE ⟨[(0, (aB neg)), (1, (encL (cU .u16) 0 rtrim)), (4, (.op 0 0 0))], [(0, vO 2 [(aB false), .nil])], 64⟩ (C_17 6) [(1, ⟨[], true, (encL (cU .u16) 0 rtrim), [], 0, false, none⟩)] [] (kp [0, 1, 4]) (kq [0]) 64 [Sound Try.prog 92 [(encL (cU .u16) 0 n)] [] 0 (encL (cU .u16) 0 rtrim) []] ⟨(g_e_trim_ok N n rtrim hr), trivial⟩ ?_
  refine Runs.sA 2 [.code (C_17 28), .code (C_17 29), .code (C_17 15)] ?_
  refine Runs.sR hE ⟨[(0, (aB neg)), (1, (encL (cU .u16) 0 rtrim)), (4, (.op 0 0 0)), (9, (aB (((rtrim.length : Nat) : Int) == 0)))], [(0, vO 2 [(aB false), .nil])], 112⟩ (C_17 28) [] [] (kp [0, 1, 4, 9]) (kq [0]) 112 [] trivial ?_
  refine Runs.sC 9 (C_17 58) (C_17 59) (((rtrim.length : Nat) : Int) == 0) (fun hq2 => ?_) (fun hq2 => ?_)
  · have h := condT h hq2
    refine Runs.sA 1 [.code (C_17 116), .code (C_17 117), .code (C_17 15)] ?_
    refine Runs.sR hE ⟨[(4, (.op 0 0 0))], [(0, vO 2 [(aB false), .nil])], 144⟩ (C_17 116) [] [] (kp [4]) (kq [0]) 144 [0 < 1] ⟨o1, trivial⟩ ?_
    obtain rfl := Option.some.inj h
    refine Runs.sW hE ⟨[(4, (.op 16 0 0))], [(16, vO 2 [(aB false), (encL (cU .u16) 0 ([] : List Int))])], 144⟩ [] (kp [4]) [(16, .var 0 [.keep, .sl (([] : List Int).length) (fun zi => (cU .u16) (([] : List Int).getD zi 0))])] 144 [([] : List Int).length = 0] ⟨rfl, trivial⟩ ?_
    exact Runs.sT Try.f93 [16] [0 < 1] ⟨o1, trivial⟩
  · have h := condF h hq2
    refine Runs.sA 2 [.code (C_17 30), .code (C_17 31)] ?_
    obtain ⟨rClone, hr2, h⟩ := bindSome h
    refine Runs.sR hE ⟨[(4, (.op 0 0 0))], [(0, vO 2 [(aB neg), (encL (cU .u16) 0 rClone)])], 192⟩ (C_17 30) [(2, ⟨[], true, (encL (cU .u16) 0 rClone), [], 0, false, none⟩)] [] (kp [4]) (kq [0]) 192 [Sound Try.prog 151 [(encL (cU .u16) 0 rtrim)] [] 0 (encL (cU .u16) 0 rClone) [], 0 < 1] ⟨(g_slices_Clone_uint16_uint16_ok N rtrim rClone hr2), o1, trivial⟩ ?_
    obtain rfl := Option.some.inj h
    refine Runs.sW hE ⟨[(4, (.op 16 0 0))], [(16, vO 2 [(aB neg), (encL (cU .u16) 0 rClone)])], 192⟩ [] (kp [4]) [(16, .keep 0)] 192 [] trivial ?_
    exact Runs.sT Try.f93 [16] [0 < 1] ⟨o1, trivial⟩
noncomputable def C_5 (n : Nat) : Code := cat (bodyOf Try.f20) (pth n)
theorem g_e_DivMod_J1_ok (N : Nat) (a : TInt) (b : TInt) (n : List Int) (rest : List Int) (r : TInt × TInt × Int) (h : g_e_DivMod_J1 N a b n rest = some r) : ∀ E, EnvOk E 0 → Runs Try.prog E 20 50 (SPost E [] (.tup [(.agg (TInt.cells r.1)), (.agg (TInt.cells r.2.1)), (aI r.2.2)])) [.code (C_5 126), .code (C_5 127)] ⟨[(2, (.op 0 0 0)), (3, (.op 1 0 0)), (4, (.op 2 0 0)), (5, (.op 3 0 0)), (9, (encL (cU .u16) 0 n)), (10, (encL (cU .u16) 0 rest))], [(0, vO 2 (TInt.cells a)), (1, vO 2 (TInt.cells b)), (2, vO 2 [(aB false), .nil]), (3, vO 2 [(aB false), .nil])], 4⟩ := by
  intro E hE
  unfold g_e_DivMod_J1 at h
  obtain ⟨rsigned, hr6, h⟩ := bindSome h
  obtain ⟨rsigned2, hr7, h⟩ := bindSome h
  refine Runs.sR hE ⟨[(4, (.op 2 0 0)), (5, (.op 3 0 0)), (6, (aI 0))], [(2, vO 2 (TInt.cells rsigned)), (3, vO 2 (TInt.cells rsigned2))], 196⟩ (C_5 126) [(6, ⟨[], true, (.agg (TInt.cells rsigned)), [], 0, false, none⟩), (8, ⟨[], true, (.agg (TInt.cells rsigned2)), [], 0, false, none⟩)] [] (kp [4, 5, 6]) (kq [2, 3]) 196 [0 < 1, 0 < 1, Sound Try.prog 93 [(aB (!(a.f_Neg == b.f_Neg))), (encL (cU .u16) 0 n)] [] 0 (.agg (TInt.cells rsigned)) [], Sound Try.prog 93 [(aB false), (encL (cU .u16) 0 rest)] [] 0 (.agg (TInt.cells rsigned2)) [], 0 < 1, 0 < 1] ⟨o1, o1, (g_e_signed_ok N (!(a.f_Neg == b.f_Neg)) n rsigned hr6), (g_e_signed_ok N false rest rsigned2 hr7), o1, o1, trivial⟩ ?_
  obtain rfl := Option.some.inj h
  refine Runs.sW hE ⟨[(4, (.op 16 0 0)), (5, (.op 17 0 0)), (6, (aI 0))], [(16, vO 2 (TInt.cells rsigned)), (17, vO 2 (TInt.cells rsigned2))], 196⟩ [] (kp [4, 5, 6]) [(16, .keep 2), (17, .keep 3)] 196 [] trivial ?_
  exact Runs.sT Try.f20 [16, 17] [0 < 1, 0 < 1] ⟨o1, o1, trivial⟩
theorem g_e_DivMod_ok (N : Nat) (a : TInt) (b : TInt) (r : TInt × TInt × Int) (h : g_e_DivMod N a b = some r) : Sound Try.prog 20 [(.agg (TInt.cells a)), (.agg (TInt.cells b))] [] 0 (.tup [(.agg (TInt.cells r.1)), (.agg (TInt.cells r.2.1)), (aI r.2.2)]) [] := by
  unfold g_e_DivMod at h
  refine Sound.of_runs (fu := Try.f20) (c := C_5 1) (nt := 50) (by kernel_rfl) (by kernel_rfl) (by kernel_rfl) (by kernel_rfl) (fun hm => rfl) ?_
  intro E hE
  refine Runs.sA 1 [.code (C_5 2), .code (C_5 3)] ?_
  refine Runs.sR hE ⟨[(2, (.op 0 0 0)), (3, (.op 16 0 0)), (4, (.op 32 0 0)), (5, (.op 48 0 0))], [(0, vO 2 (TInt.cells a)), (16, vO 2 (TInt.cells b)), (32, vO 2 [(aB false), .nil]), (48, vO 2 [(aB false), .nil])], 80⟩ (C_5 2) [] [] (kp [2, 3, 4, 5]) (kq [0, 16, 32, 48]) 80 [] trivial ?_
  refine Runs.sA 1 [.code (C_5 6), .code (C_5 7)] ?_
  obtain ⟨rtrim, hr, h⟩ := bindSome h
  obtain ⟨rtrim2, hr2, h⟩ := bindSome h
  refine Runs.sR hE ⟨[(2, (.op 0 0 0)), (3, (.op 16 0 0)), (4, (.op 32 0 0)), (5, (.op 48 0 0)), (7, (encL (cU .u16) 0 rtrim)), (8, (encL (cU .u16) 0 rtrim2))], [(0, vO 2 (TInt.cells a)), (16, vO 2 (TInt.cells b)), (32, vO 2 [(aB false), .nil]), (48, vO 2 [(aB false), .nil])], 208⟩ (C_5 6) [(2, ⟨[], true, (encL (cU .u16) 0 rtrim), [], 0, false, none⟩), (5, ⟨[], true, (encL (cU .u16) 0 rtrim2), [], 0, false, none⟩)] [] (kp [2, 3, 4, 5, 7, 8]) (kq [0, 16, 32, 48]) 208 [0 < 1, Sound Try.prog 92 [(encL (cU .u16) 0 a.f_Limbs)] [] 0 (encL (cU .u16) 0 rtrim) [], 0 < 1, Sound Try.prog 92 [(encL (cU .u16) 0 b.f_Limbs)] [] 0 (encL (cU .u16) 0 rtrim2) []] ⟨o1, (g_e_trim_ok N a.f_Limbs rtrim hr), o1, (g_e_trim_ok N b.f_Limbs rtrim2 hr2), trivial⟩ ?_
  refine Runs.sA 2 [.code (C_5 28), .code (C_5 29), .code (C_5 15)] ?_
  refine Runs.sR hE ⟨[(2, (.op 0 0 0)), (3, (.op 16 0 0)), (4, (.op 32 0 0)), (5, (.op 48 0 0)), (7, (encL (cU .u16) 0 rtrim)), (8, (encL (cU .u16) 0 rtrim2)), (19, (aB (((rtrim2.length : Nat) : Int) == 0)))], [(0, vO 2 (TInt.cells a)), (16, vO 2 (TInt.cells b)), (32, vO 2 [(aB false), .nil]), (48, vO 2 [(aB false), .nil])], 256⟩ (C_5 28) [] [] (kp [2, 3, 4, 5, 7, 8, 19]) (kq [0, 16, 32, 48]) 256 [] trivial ?_
  refine Runs.sC 19 (C_5 58) (C_5 59) (((rtrim2.length : Nat) : Int) == 0) (fun hq2 => ?_) (fun hq2 => ?_)
  · have h := condT h hq2
    refine Runs.sA 1 [.code (C_5 116), .code (C_5 117), .code (C_5 15)] ?_
    refine Runs.sR hE ⟨[(4, (.op 32 0 0)), (5, (.op 48 0 0)), (6, (aI 9))], [(32, vO 2 [(aB false), .nil]), (48, vO 2 [(aB false), .nil])], 336⟩ (C_5 116) [] [] (kp [4, 5, 6]) (kq [32, 48]) 336 [0 < 1, 0 < 1] ⟨o1, o1, trivial⟩ ?_
    obtain rfl := Option.some.inj h
    refine Runs.sW hE ⟨[(4, (.op 16 0 0)), (5, (.op 17 0 0)), (6, (aI 9))], [(16, vO 2 [(aB false), (encL (cU .u16) 0 ([] : List Int))]), (17, vO 2 [(aB false), (encL (cU .u16) 0 ([] : List Int))])], 336⟩ [] (kp [4, 5, 6]) [(16, .var 32 [.keep, .sl (([] : List Int).length) (fun zi => (cU .u16) (([] : List Int).getD zi 0))]), (17, .var 48 [.keep, .sl (([] : List Int).length) (fun zi => (cU .u16) (([] : List Int).getD zi 0))])] 336 [([] : List Int).length = 0, ([] : List Int).length = 0] ⟨rfl, rfl, trivial⟩ ?_
    exact Runs.sT Try.f20 [16, 17] [0 < 1, 0 < 1] ⟨o1, o1, trivial⟩
  · have h := condF h hq2
    refine Runs.sA 2 [.code (C_5 30), .code (C_5 31)] ?_
    obtain ⟨rdivide, hr3, h⟩ := bindSome h
    refine Runs.sR hE ⟨[(2, (.op 0 0 0)), (3, (.op 16 0 0)), (4, (.op 32 0 0)), (5, (.op 48 0 0)), (8, (encL (cU .u16) 0 rtrim2)), (9, (encL (cU .u16) 0 rdivide.1)), (10, (encL (cU .u16) 0 rdivide.2))], [(0, vO 2 (TInt.cells a)), (16, vO 2 (TInt.cells b)), (32, vO 2 [(aB false), .nil]), (48, vO 2 [(aB false), .nil])], 384⟩ (C_5 30) [(2, ⟨[], true, (.tup [(encL (cU .u16) 0 rdivide.1), (encL (cU .u16) 0 rdivide.2)]), [], 0, false, none⟩)] [] (kp [2, 3, 4, 5, 8, 9, 10]) (kq [0, 16, 32, 48]) 384 [Sound Try.prog 100 [(encL (cU .u16) 0 rtrim), (encL (cU .u16) 0 rtrim2)] [] 0 (.tup [(encL (cU .u16) 0 rdivide.1), (encL (cU .u16) 0 rdivide.2)]) []] ⟨(g_e_divide_ok N rtrim rtrim2 rdivide hr3), trivial⟩ ?_
    refine Runs.sA 2 [.code (C_5 124), .code (C_5 125), .code (C_5 63)] ?_
    refine Runs.sR hE ⟨[(2, (.op 0 0 0)), (3, (.op 16 0 0)), (4, (.op 32 0 0)), (5, (.op 48 0 0)), (8, (encL (cU .u16) 0 rtrim2)), (9, (encL (cU .u16) 0 rdivide.1)), (10, (encL (cU .u16) 0 rdivide.2)), (34, (aB (cond a.f_Neg (decide (((rdivide.2.length : Nat) : Int) > 0)) false)))], [(0, vO 2 (TInt.cells a)), (16, vO 2 (TInt.cells b)), (32, vO 2 [(aB false), .nil]), (48, vO 2 [(aB false), .nil])], 496⟩ (C_5 124) [] [] (kp [2, 3, 4, 5, 8, 9, 10, 34]) (kq [0, 16, 32, 48]) 496 [0 < 1, a.f_Neg = true → AllP [a.f_Neg = true], a.f_Neg = true → AllP [a.f_Neg = true], a.f_Neg = true → AllP [a.f_Neg = true]] ⟨o1, (fun hg => ⟨hg, trivial⟩), (fun hg => ⟨hg, trivial⟩), (fun hq => ⟨hq, trivial⟩), trivial⟩ ?_
    refine Runs.sC 34 (C_5 250) (C_5 251) (cond a.f_Neg (decide (((rdivide.2.length : Nat) : Int) > 0)) false) (fun hq3 => ?_) (fun hq3 => ?_)
    · have h := condT h hq3
      obtain ⟨rplus, hr4, h⟩ := bindSome h
      obtain ⟨rminus, hr5, h⟩ := bindSome h
      refine Runs.sR hE ⟨[(2, (.op 0 0 0)), (3, (.op 16 0 0)), (4, (.op 32 0 0)), (5, (.op 48 0 0)), (9, (encL (cU .u16) 0 rplus)), (10, (encL (cU .u16) 0 rminus))], [(0, vO 2 (TInt.cells a)), (16, vO 2 (TInt.cells b)), (32, vO 2 [(aB false), .nil]), (48, vO 2 [(aB false), .nil])], 624⟩ (C_5 250) [(2, ⟨[], true, (encL (cU .u16) 0 rplus), [], 0, true, none⟩), (5, ⟨[], true, (encL (cU .u16) 0 rminus), [], 0, false, none⟩)] [] (kp [2, 3, 4, 5, 9, 10]) (kq [0, 16, 32, 48]) 624 [Sound Try.prog 94 [(encL (cU .u16) 0 rdivide.1), (.sl 1 (fun zi => (fun zi => ([[(.atom (.int .u16 1))]] : List (List AV)).getD zi []) (addz 0 zi)))] [] 0 (encL (cU .u16) 0 rplus) [], 0 + 1 ≤ 1, Sound Try.prog 96 [(encL (cU .u16) 0 rtrim2), (encL (cU .u16) 0 rdivide.2)] [] 0 (encL (cU .u16) 0 rminus) []] ⟨(Sound.conv (g_e_plus_ok N rdivide.1 ([1] : List Int) rplus hr4) (.cons (Alike.refl _) (.cons (Alike.sl rfl (fun zq hzq => get_chunk (cU .u16) 0 ([1] : List Int) zq hzq)) .nil))), z0, (g_e_minus_ok N rtrim2 rdivide.2 rminus hr5), trivial⟩ ?_
      refine Runs.sA 1 [.code (C_5 126), .code (C_5 127)] ?_
      exact Runs.sW hE _ [] (kp [2, 3, 4, 5, 9, 10]) (kq [0] ++ [(1, .keep 16), (2, .keep 32), (3, .keep 48)]) 4 [] trivial (g_e_DivMod_J1_ok N a b rplus rminus _ h E hE)
    · have h := condF h hq3
      refine Runs.sA 2 [.code (C_5 126), .code (C_5 127)] ?_
      exact Runs.sW hE _ [] (kp [2, 3, 4, 5, 9, 10]) (kq [0] ++ [(1, .keep 16), (2, .keep 32), (3, .keep 48)]) 4 [] trivial (g_e_DivMod_J1_ok N a b rdivide.1 rdivide.2 _ h E hE)
noncomputable def C_20 (n : Nat) : Code := cat (bodyOf Try.f99) (pth n)
theorem g_e_natural_L1_ok (N : Nat) (fuel : Nat) : ∀ (n2 : Int) (out : List Int) (r : (List Int)), g_e_natural_L1 N fuel n2 out = some r → ∀ E, EnvOk E 0 → Runs Try.prog E 99 14 (SPost E [] (encL (cU .u16) 0 r)) [.code (C_20 56), .inLoop (C_20 56), .inBlock 0, .code (C_20 15)] ⟨[(0, (.atom (.int .u64 n2))), (3, (.os 0 0 out.length))], [(0, aO 1 (cU .u16) 0 out)], 1⟩ := by
  induction fuel with
  | zero => intro _ _ r h; rw [g_e_natural_L1.eq_1] at h; cases h
  | succ fuel ih =>
    intro n2 out r h E hE
    rw [g_e_natural_L1.eq_2] at h
    refine Runs.sA 2 [.code (C_20 224), .code (C_20 225), .code (C_20 113), .inLoop (C_20 56), .inBlock 0, .code (C_20 15)] ?_
    refine Runs.sR hE ⟨[(0, (.atom (.int .u64 n2))), (3, (.os 0 0 out.length)), (5, (aB (decide (n2 > 0))))], [(0, aO 1 (cU .u16) 0 out)], 33⟩ (C_20 224) [] [] (kp [0, 3, 5]) (kq [0]) 33 [] trivial ?_
    refine Runs.sC 5 (C_20 450) (C_20 451) (decide (n2 > 0)) (fun hq2 => ?_) (fun hq2 => ?_)
    · have h := condT h hq2
      refine Runs.sA 3 [.code (C_20 452), .inBlock 1, .code (C_20 227), .inLoop (C_20 56), .inBlock 0, .code (C_20 15)] ?_
      obtain ⟨c, h⟩ := ifSome h
      refine Runs.sR hE ⟨[(0, (.atom (.int .u64 n2))), (3, (.os 97 0 ((out ++ ([(IntKind.u16.wrap (n2))] : List Int)).length)))], [(97, aO 1 (cU .u16) 0 (out ++ ([(IntKind.u16.wrap (n2))] : List Int)))], 129⟩ (C_20 452) [] [] (kp [0] ++ [(3, .osl ((out ++ ([(IntKind.u16.wrap (n2))] : List Int)).length))]) [(97, .arr 97 ((out ++ ([(IntKind.u16.wrap (n2))] : List Int)).length) (fun zi => (cU .u16) ((out ++ ([(IntKind.u16.wrap (n2))] : List Int)).getD zi 0)))] 129 [out.length = out.length, (out.length + 1) * 2 ≤ 140737488355328, 0 + 1 ≤ 1, ∀ zi, zi < 1 → AV.oneL ((fun zi => ([[(.atom (.int .u16 (IntKind.u16.wrap (n2))))]] : List (List AV)).getD zi []) (addz 0 zi)) = true, (out.length + 1) = (out ++ ([(IntKind.u16.wrap (n2))] : List Int)).length, out.length + 1 = (out ++ ([(IntKind.u16.wrap (n2))] : List Int)).length, ∀ zi, zi < (out ++ ([(IntKind.u16.wrap (n2))] : List Int)).length → (fun zi => (cU .u16) ((out ++ ([(IntKind.u16.wrap (n2))] : List Int)).getD zi 0)) zi = ((fun zm => if zm < out.length then (fun zi => (cU .u16) (out.getD zi 0)) zm else (fun zi => ([[(.atom (.int .u16 (IntKind.u16.wrap (n2))))]] : List (List AV)).getD zi []) (zm - out.length))) zi] ⟨rfl, c, z0, (oneN rfl), (len_app_raw rfl rfl), (len_app_raw rfl rfl), (get_app_raw (cU .u16) 0 out ([(IntKind.u16.wrap (n2))] : List Int) rfl (fun _ _ => rfl) (fun zq hzq => get_chunk (cU .u16) 0 ([(IntKind.u16.wrap (n2))] : List Int) zq hzq)), trivial⟩ ?_
      refine Runs.sA 1 [.code (C_20 227), .inLoop (C_20 56), .inBlock 0, .code (C_20 15)] ?_
      refine Runs.sR hE ⟨[(0, (.atom (.int .u64 (shrI .u64 n2 16)))), (3, (.os 97 0 ((out ++ ([(IntKind.u16.wrap (n2))] : List Int)).length)))], [(97, aO 1 (cU .u16) 0 (out ++ ([(IntKind.u16.wrap (n2))] : List Int)))], 177⟩ (C_20 227) [] [] (kp [0, 3]) (kq [97]) 177 [(0 : Int) ≤ 16] ⟨(by decide), trivial⟩ ?_
      refine Runs.sA 1 [.code (C_20 56), .inLoop (C_20 56), .inBlock 0, .code (C_20 15)] ?_
      exact Runs.sW hE _ [] (kp [0, 3]) [(0, .keep 97)] 1 [] trivial (ih (shrI .u64 n2 16) (out ++ ([(IntKind.u16.wrap (n2))] : List Int)) _ h E hE)
    · have h := condF h hq2
      refine Runs.sA 2 [.code (C_20 30), .code (C_20 31)] ?_
      refine Runs.sR hE ⟨[(2, (.os 0 0 out.length))], [(0, aO 1 (cU .u16) 0 out)], 65⟩ (C_20 30) [] [] (kp [2]) (kq [0]) 65 [] trivial ?_
      obtain rfl := Option.some.inj h
      refine Runs.sW hE ⟨[(2, (encL (cU .u16) 0 out))], [], 65⟩ [0] [(2, .sl (out.length) (fun zi => (cU .u16) (out.getD zi 0)))] [] 65 [out.length = out.length, 0 + out.length ≤ out.length, ∀ zi, zi < out.length → (fun zi => (cU .u16) (out.getD zi 0)) zi = (fun zi => (cU .u16) (out.getD zi 0)) (addz 0 zi)] ⟨rfl, z0, (fun _ _ => rfl), trivial⟩ ?_
      exact Runs.sT Try.f99 [] [] trivial
theorem g_e_natural_ok (N : Nat) (n : Int) (r : (List Int)) (h : g_e_natural N n = some r) : Sound Try.prog 99 [(.atom (.int .u64 n))] [] 0 (encL (cU .u16) 0 r) [] := by
  unfold g_e_natural at h
  refine Sound.of_runs (fu := Try.f99) (c := C_20 1) (nt := 14) (by kernel_rfl) (by kernel_rfl) (by kernel_rfl) (by kernel_rfl) (fun hm => rfl) ?_
  intro E hE
  refine Runs.sA 1 [.code (C_20 2), .code (C_20 3)] ?_
  refine Runs.sR hE ⟨[(0, (.atom (.int .u64 n)))], [], 16⟩ (C_20 2) [] [] (kp [0]) [] 16 [] trivial ?_
  refine Runs.sA 1 [.code (C_20 6), .code (C_20 7)] ?_
  refine Runs.sR hE ⟨[(0, (.atom (.int .u64 n))), (3, .nil)], [], 32⟩ (C_20 6) [] [] (kp [0, 3]) [] 32 [] trivial ?_
  refine Runs.sA 3 [.code (C_20 56), .inLoop (C_20 56), .inBlock 0, .code (C_20 15)] ?_
  exact Runs.sW hE _ [] (kp [0] ++ [(3, .nilos 0)]) [(0, .nil 1 (fun zi => (cU .u16) (([] : List Int).getD zi 0)))] 1 [] trivial (g_e_natural_L1_ok N N n ([] : List Int) _ h E hE)
noncomputable def C_19 (n : Nat) : Code := cat (bodyOf Try.f19) (pth n)
theorem g_e_Of_ok (N : Nat) (n : Int) (r : TInt) (h : g_e_Of N n = some r) : Sound Try.prog 19 [(aI n)] [] 0 (.agg (TInt.cells r)) [] := by
  unfold g_e_Of at h
  refine Sound.of_runs (fu := Try.f19) (c := C_19 1) (nt := 14) (by kernel_rfl) (by kernel_rfl) (by kernel_rfl) (by kernel_rfl) (fun hm => rfl) ?_
  intro E hE
  refine Runs.sA 1 [.code (C_19 2), .code (C_19 3)] ?_
  refine Runs.sR hE ⟨[(0, (aI n)), (2, (.op 0 0 0))], [(0, vO 2 [(aB false), .nil])], 16⟩ (C_19 2) [] [] (kp [0, 2]) (kq [0]) 16 [] trivial ?_
  refine Runs.sA 2 [.code (C_19 12), .code (C_19 13), .code (C_19 7)] ?_
  refine Runs.sR hE ⟨[(0, (aI n)), (2, (.op 0 0 0)), (4, (aB (decide (n < 0))))], [(0, vO 2 [(aB false), .nil])], 48⟩ (C_19 12) [] [] (kp [0, 2, 4]) (kq [0]) 48 [] trivial ?_
  refine Runs.sC 4 (C_19 26) (C_19 27) (decide (n < 0)) (fun hq2 => ?_) (fun hq2 => ?_)
  · have h := condT h hq2
    refine Runs.sA 1 [.code (C_19 52), .code (C_19 53), .code (C_19 7)] ?_
    obtain ⟨rnatural, hr, h⟩ := bindSome h
    obtain ⟨rsigned, hr2, h⟩ := bindSome h
    refine Runs.sR hE ⟨[(2, (.op 0 0 0))], [(0, vO 2 (TInt.cells rsigned))], 144⟩ (C_19 52) [(3, ⟨[], true, (encL (cU .u16) 0 rnatural), [], 0, false, none⟩), (4, ⟨[], true, (.agg (TInt.cells rsigned)), [], 0, false, none⟩)] [] (kp [2]) (kq [0]) 144 [Sound Try.prog 99 [(.atom (.int .u64 (IntKind.u64.wrap (0 - (IntKind.u64.wrap (n))))))] [] 0 (encL (cU .u16) 0 rnatural) [], Sound Try.prog 93 [(aB true), (encL (cU .u16) 0 rnatural)] [] 0 (.agg (TInt.cells rsigned)) [], 0 < 1] ⟨(g_e_natural_ok N (IntKind.u64.wrap (0 - (IntKind.u64.wrap (n)))) rnatural hr), (g_e_signed_ok N true rnatural rsigned hr2), o1, trivial⟩ ?_
    obtain rfl := Option.some.inj h
    refine Runs.sW hE ⟨[(2, (.op 16 0 0))], [(16, vO 2 (TInt.cells rsigned))], 144⟩ [] (kp [2]) [(16, .keep 0)] 144 [] trivial ?_
    exact Runs.sT Try.f19 [16] [0 < 1] ⟨o1, trivial⟩
  · have h := condF h hq2
    refine Runs.sA 2 [.code (C_19 14), .code (C_19 15)] ?_
    obtain ⟨rnatural2, hr3, h⟩ := bindSome h
    obtain ⟨rsigned2, hr4, h⟩ := bindSome h
    refine Runs.sR hE ⟨[(2, (.op 0 0 0))], [(0, vO 2 (TInt.cells rsigned2))], 128⟩ (C_19 14) [(2, ⟨[], true, (encL (cU .u16) 0 rnatural2), [], 0, false, none⟩), (3, ⟨[], true, (.agg (TInt.cells rsigned2)), [], 0, false, none⟩)] [] (kp [2]) (kq [0]) 128 [Sound Try.prog 99 [(.atom (.int .u64 (IntKind.u64.wrap (n))))] [] 0 (encL (cU .u16) 0 rnatural2) [], Sound Try.prog 93 [(aB false), (encL (cU .u16) 0 rnatural2)] [] 0 (.agg (TInt.cells rsigned2)) [], 0 < 1] ⟨(g_e_natural_ok N (IntKind.u64.wrap (n)) rnatural2 hr3), (g_e_signed_ok N false rnatural2 rsigned2 hr4), o1, trivial⟩ ?_
    obtain rfl := Option.some.inj h
    refine Runs.sW hE ⟨[(2, (.op 16 0 0))], [(16, vO 2 (TInt.cells rsigned2))], 128⟩ [] (kp [2]) [(16, .keep 0)] 128 [] trivial ?_
    exact Runs.sT Try.f19 [16] [0 < 1] ⟨o1, trivial⟩
noncomputable def C_23 (n : Nat) : Code := cat (bodyOf Try.f102) (pth n)
theorem g_e_word_L1_ok (N : Nat) (n : List Int) (fuel : Nat) : ∀ (out : Int) (i : Int) (r : Int × Bool), g_e_word_L1 N n fuel out i = some r → ∀ E, EnvOk E 0 → Runs Try.prog E 102 25 (SPost E [] (.tup [(.atom (.int .u64 r.1)), (aB r.2)])) [.code (C_23 244), .inLoop (C_23 244), .inBlock 0, .code (C_23 31)] ⟨[(0, (encL (cU .u16) 0 n)), (4, (.atom (.int .u64 out))), (5, (aI i))], [], 0⟩ := by
  induction fuel with
  | zero => intro _ _ r h; rw [g_e_word_L1.eq_1] at h; cases h
  | succ fuel ih =>
    intro out i r h E hE
    rw [g_e_word_L1.eq_2] at h
    refine Runs.sA 2 [.code (C_23 976), .code (C_23 977), .code (C_23 489), .inLoop (C_23 244), .inBlock 0, .code (C_23 31)] ?_
    refine Runs.sR hE ⟨[(0, (encL (cU .u16) 0 n)), (4, (.atom (.int .u64 out))), (5, (aI i)), (13, (aB (decide (i ≥ 0))))], [], 32⟩ (C_23 976) [] [] (kp [0, 4, 5, 13]) [] 32 [] trivial ?_
    refine Runs.sC 13 (C_23 1954) (C_23 1955) (decide (i ≥ 0)) (fun hq3 => ?_) (fun hq3 => ?_)
    · have h := condT h hq3
      refine Runs.sA 3 [.code (C_23 1956), .inBlock 1, .code (C_23 979), .inLoop (C_23 244), .inBlock 0, .code (C_23 31)] ?_
      obtain ⟨c, h⟩ := ifSome h
      refine Runs.sR hE ⟨[(0, (encL (cU .u16) 0 n)), (4, (.atom (.int .u64 (orI .u64 (shlI .u64 out 16) (IntKind.u64.wrap ((n.getD ((i).toNat) 0))))))), (5, (aI i))], [], 176⟩ (C_23 1956) [] [] (kp [0, 4, 5]) [] 176 [(0 : Int) ≤ 16, 0 ≤ i ∧ i < ((n.length : Nat) : Int)] ⟨(by decide), c, trivial⟩ ?_
      refine Runs.sA 1 [.code (C_23 979), .inLoop (C_23 244), .inBlock 0, .code (C_23 31)] ?_
      refine Runs.sR hE ⟨[(0, (encL (cU .u16) 0 n)), (4, (.atom (.int .u64 (orI .u64 (shlI .u64 out 16) (IntKind.u64.wrap ((n.getD ((i).toNat) 0))))))), (5, (aI (w64 (i - 1))))], [], 224⟩ (C_23 979) [] [] (kp [0, 4, 5]) [] 224 [] trivial ?_
      refine Runs.sA 1 [.code (C_23 244), .inLoop (C_23 244), .inBlock 0, .code (C_23 31)] ?_
      exact Runs.sW hE _ [] (kp [0, 4, 5]) [] 0 [] trivial (ih (orI .u64 (shlI .u64 out 16) (IntKind.u64.wrap ((n.getD ((i).toNat) 0)))) (w64 (i - 1)) _ h E hE)
    · have h := condF h hq3
      refine Runs.sA 2 [.code (C_23 62), .code (C_23 63)] ?_
      refine Runs.sR hE ⟨[(2, (.atom (.int .u64 out))), (3, (aB true))], [], 80⟩ (C_23 62) [] [] (kp [2, 3]) [] 80 [] trivial ?_
      obtain rfl := Option.some.inj h
      refine Runs.sW hE ⟨[(2, (.atom (.int .u64 out))), (3, (aB true))], [], 80⟩ [] (kp [2, 3]) [] 80 [] trivial ?_
      exact Runs.sT Try.f102 [] [] trivial
theorem g_e_word_ok (N : Nat) (n : List Int) (r : Int × Bool) (h : g_e_word N n = some r) : Sound Try.prog 102 [(encL (cU .u16) 0 n)] [] 0 (.tup [(.atom (.int .u64 r.1)), (aB r.2)]) [] := by
  unfold g_e_word at h
  refine Sound.of_runs (fu := Try.f102) (c := C_23 1) (nt := 25) (by kernel_rfl) (by kernel_rfl) (by kernel_rfl) (by kernel_rfl) (fun hm => rfl) ?_
  intro E hE
  refine Runs.sA 1 [.code (C_23 2), .code (C_23 3)] ?_
  refine Runs.sR hE ⟨[(0, (encL (cU .u16) 0 n))], [], 32⟩ (C_23 2) [] [] (kp [0]) [] 32 [] trivial ?_
  refine Runs.sA 2 [.code (C_23 12), .code (C_23 13), .code (C_23 7)] ?_
  refine Runs.sR hE ⟨[(0, (encL (cU .u16) 0 n)), (8, (aB (decide (((n.length : Nat) : Int) > 4))))], [], 80⟩ (C_23 12) [] [] (kp [0, 8]) [] 80 [] trivial ?_
  refine Runs.sC 8 (C_23 26) (C_23 27) (decide (((n.length : Nat) : Int) > 4)) (fun hq2 => ?_) (fun hq2 => ?_)
  · have h := condT h hq2
    refine Runs.sA 1 [.code (C_23 52), .code (C_23 53), .code (C_23 7)] ?_
    refine Runs.sR hE ⟨[(2, (.atom (.int .u64 0))), (3, (aB false))], [], 112⟩ (C_23 52) [] [] (kp [2, 3]) [] 112 [] trivial ?_
    obtain rfl := Option.some.inj h
    refine Runs.sW hE ⟨[(2, (.atom (.int .u64 0))), (3, (aB false))], [], 112⟩ [] (kp [2, 3]) [] 112 [] trivial ?_
    exact Runs.sT Try.f102 [] [] trivial
  · have h := condF h hq2
    refine Runs.sA 2 [.code (C_23 14), .code (C_23 15)] ?_
    refine Runs.sR hE ⟨[(0, (encL (cU .u16) 0 n)), (4, (.atom (.int .u64 0)))], [], 96⟩ (C_23 14) [] [] (kp [0, 4]) [] 96 [] trivial ?_
    refine Runs.sA 2 [.code (C_23 60), .code (C_23 61), .code (C_23 31)] ?_
    refine Runs.sR hE ⟨[(0, (encL (cU .u16) 0 n)), (4, (.atom (.int .u64 0))), (5, (aI (w64 (((n.length : Nat) : Int) - 1))))], [], 160⟩ (C_23 60) [] [] (kp [0, 4, 5]) [] 160 [] trivial ?_
    refine Runs.sA 2 [.code (C_23 244), .inLoop (C_23 244), .inBlock 0, .code (C_23 31)] ?_
    exact Runs.sW hE _ [] (kp [0, 4, 5]) [] 0 [] trivial (g_e_word_L1_ok N n N 0 (w64 (((n.length : Nat) : Int) - 1)) _ h E hE)
noncomputable def C_22 (n : Nat) : Code := cat (bodyOf Try.f158) (pth n)
theorem g_e_common_L2_ok (N : Nat) (K_g_e_common_L1 : (List Int) → (List Int) → Option ((List Int)))
    (hK_g_e_common_L1 : ∀ (a2 : List Int) (b2 : List Int) (r : (List Int)), K_g_e_common_L1 a2 b2 = some r → ∀ E, EnvOk E 0 → Runs Try.prog E 158 45 (SPost E [] (encL (cU .u16) 0 r)) [.code (C_22 24), .inLoop (C_22 24), .inBlock 0, .code (C_22 7)] ⟨[(0, (encL (cU .u16) 0 a2)), (1, (encL (cU .u16) 0 b2))], [], 0⟩) (fuel : Nat) : ∀ (x : Int) (y : Int) (r : (List Int)), g_e_common_L2 N K_g_e_common_L1 fuel x y = some r → ∀ E, EnvOk E 0 → Runs Try.prog E 158 45 (SPost E [] (encL (cU .u16) 0 r)) [.code (C_22 25296), .inLoop (C_22 25296), .inBlock 2, .code (C_22 6325), .code (C_22 791), .inBlock 1, .inLoop (C_22 24), .inBlock 0, .code (C_22 7)] ⟨[(5, (.atom (.int .u64 x))), (7, (.atom (.int .u64 y)))], [], 0⟩ := by
  induction fuel with
  | zero => intro _ _ r h; rw [g_e_common_L2.eq_1] at h; cases h
  | succ fuel ih =>
    intro x y r h E hE
    rw [g_e_common_L2.eq_2] at h
    refine Runs.sA 2 [.code (C_22 101184), .code (C_22 101185), .code (C_22 50593), .inLoop (C_22 25296), .inBlock 2, .code (C_22 6325), .code (C_22 791), .inBlock 1, .inLoop (C_22 24), .inBlock 0, .code (C_22 7)] ?_
    refine Runs.sR hE ⟨[(5, (.atom (.int .u64 x))), (7, (.atom (.int .u64 y))), (29, (aB (decide (y > 0))))], [], 32⟩ (C_22 101184) [] [] (kp [5, 7, 29]) [] 32 [] trivial ?_
    refine Runs.sC 29 (C_22 202370) (C_22 202371) (decide (y > 0)) (fun hq4 => ?_) (fun hq4 => ?_)
    · have h := condT h hq4
      refine Runs.sA 2 [.code (C_22 101186), .inBlock 3, .inLoop (C_22 25296), .inBlock 2, .code (C_22 6325), .code (C_22 791), .inBlock 1, .inLoop (C_22 24), .inBlock 0, .code (C_22 7)] ?_
      obtain ⟨c, h⟩ := ifSome h
      refine Runs.sR hE ⟨[(5, (.atom (.int .u64 y))), (7, (.atom (.int .u64 (x.tmod y))))], [], 128⟩ (C_22 101186) [] [] (kp [5, 7]) [] 128 [(y : Int) ≠ 0] ⟨c, trivial⟩ ?_
      refine Runs.sA 2 [.code (C_22 25296), .inLoop (C_22 25296), .inBlock 2, .code (C_22 6325), .code (C_22 791), .inBlock 1, .inLoop (C_22 24), .inBlock 0, .code (C_22 7)] ?_
      exact Runs.sW hE _ [] (kp [5, 7]) [] 0 [] trivial (ih y (x.tmod y) _ h E hE)
    · have h := condF h hq4
      refine Runs.sA 2 [.code (C_22 12650), .code (C_22 12651), .code (C_22 791), .inBlock 1, .inLoop (C_22 24), .inBlock 0, .code (C_22 7)] ?_
      obtain ⟨rnatural, hr3, h⟩ := bindSome h
      refine Runs.sR hE ⟨[(4, (encL (cU .u16) 0 rnatural))], [], 80⟩ (C_22 12650) [(1, ⟨[], true, (encL (cU .u16) 0 rnatural), [], 0, false, none⟩)] [] (kp [4]) [] 80 [Sound Try.prog 99 [(.atom (.int .u64 x))] [] 0 (encL (cU .u16) 0 rnatural) []] ⟨(g_e_natural_ok N x rnatural hr3), trivial⟩ ?_
      obtain rfl := Option.some.inj h
      refine Runs.sW hE ⟨[(4, (encL (cU .u16) 0 rnatural))], [], 80⟩ [] (kp [4]) [] 80 [] trivial ?_
      exact Runs.sT Try.f158 [] [] trivial
theorem g_e_common_L1_ok (N : Nat) (fuel : Nat) : ∀ (a2 : List Int) (b2 : List Int) (r : (List Int)), g_e_common_L1 N fuel a2 b2 = some r → ∀ E, EnvOk E 0 → Runs Try.prog E 158 45 (SPost E [] (encL (cU .u16) 0 r)) [.code (C_22 24), .inLoop (C_22 24), .inBlock 0, .code (C_22 7)] ⟨[(0, (encL (cU .u16) 0 a2)), (1, (encL (cU .u16) 0 b2))], [], 0⟩ := by
  induction fuel with
  | zero => intro _ _ r h; rw [g_e_common_L1.eq_1] at h; cases h
  | succ fuel ih =>
    intro a2 b2 r h E hE
    rw [g_e_common_L1.eq_2] at h
    refine Runs.sA 2 [.code (C_22 96), .code (C_22 97), .code (C_22 49), .inLoop (C_22 24), .inBlock 0, .code (C_22 7)] ?_
    refine Runs.sR hE ⟨[(0, (encL (cU .u16) 0 a2)), (1, (encL (cU .u16) 0 b2)), (13, (aB (decide (((b2.length : Nat) : Int) > 0))))], [], 48⟩ (C_22 96) [] [] (kp [0, 1, 13]) [] 48 [] trivial ?_
    refine Runs.sC 13 (C_22 194) (C_22 195) (decide (((b2.length : Nat) : Int) > 0)) (fun hq2 => ?_) (fun hq2 => ?_)
    · have h := condT h hq2
      refine Runs.sA 3 [.code (C_22 196), .code (C_22 197), .inBlock 1, .inLoop (C_22 24), .inBlock 0, .code (C_22 7)] ?_
      obtain ⟨rword, hr, h⟩ := bindSome h
      refine Runs.sR hE ⟨[(0, (encL (cU .u16) 0 a2)), (1, (encL (cU .u16) 0 b2)), (5, (.atom (.int .u64 rword.1))), (6, (aB rword.2))], [], 160⟩ (C_22 196) [(1, ⟨[], true, (.tup [(.atom (.int .u64 rword.1)), (aB rword.2)]), [], 0, false, none⟩)] [] (kp [0, 1, 5, 6]) [] 160 [Sound Try.prog 102 [(encL (cU .u16) 0 a2)] [] 0 (.tup [(.atom (.int .u64 rword.1)), (aB rword.2)]) []] ⟨(g_e_word_ok N a2 rword hr), trivial⟩ ?_
      refine Runs.sA 1 [.code (C_22 394), .code (C_22 395), .inBlock 1, .inLoop (C_22 24), .inBlock 0, .code (C_22 7)] ?_
      obtain ⟨rword2, hr2, h⟩ := bindSome h
      refine Runs.sR hE ⟨[(0, (encL (cU .u16) 0 a2)), (1, (encL (cU .u16) 0 b2)), (5, (.atom (.int .u64 rword.1))), (6, (aB rword.2)), (7, (.atom (.int .u64 rword2.1))), (8, (aB rword2.2))], [], 272⟩ (C_22 394) [(1, ⟨[], true, (.tup [(.atom (.int .u64 rword2.1)), (aB rword2.2)]), [], 0, false, none⟩)] [] (kp [0, 1, 5, 6, 7, 8]) [] 272 [Sound Try.prog 102 [(encL (cU .u16) 0 b2)] [] 0 (.tup [(.atom (.int .u64 rword2.1)), (aB rword2.2)]) []] ⟨(g_e_word_ok N b2 rword2 hr2), trivial⟩ ?_
      refine Runs.sA 2 [.code (C_22 1580), .code (C_22 1581), .code (C_22 791), .inBlock 1, .inLoop (C_22 24), .inBlock 0, .code (C_22 7)] ?_
      refine Runs.sR hE ⟨[(0, (encL (cU .u16) 0 a2)), (1, (encL (cU .u16) 0 b2)), (5, (.atom (.int .u64 rword.1))), (7, (.atom (.int .u64 rword2.1))), (27, (aB (cond rword.2 rword2.2 false)))], [], 336⟩ (C_22 1580) [] [] (kp [0, 1, 5, 7, 27]) [] 336 [rword.2 = true → AllP [rword.2 = true]] ⟨(fun hq => ⟨hq, trivial⟩), trivial⟩ ?_
      refine Runs.sC 27 (C_22 3162) (C_22 3163) (cond rword.2 rword2.2 false) (fun hq3 => ?_) (fun hq3 => ?_)
      · have h := condT h hq3
        refine Runs.sA 3 [.code (C_22 25296), .inLoop (C_22 25296), .inBlock 2, .code (C_22 6325), .code (C_22 791), .inBlock 1, .inLoop (C_22 24), .inBlock 0, .code (C_22 7)] ?_
        exact Runs.sW hE _ [] (kp [5, 7]) [] 0 [] trivial (g_e_common_L2_ok N (g_e_common_L1 N fuel) ih N rword.1 rword2.1 _ h E hE)
      · have h := condF h hq3
        refine Runs.sA 2 [.code (C_22 1582), .code (C_22 1583), .inBlock 1, .inLoop (C_22 24), .inBlock 0, .code (C_22 7)] ?_
        obtain ⟨rdivide, hr4, h⟩ := bindSome h
        refine Runs.sR hE ⟨[(1, (encL (cU .u16) 0 b2)), (10, (encL (cU .u16) 0 rdivide.2))], [], 464⟩ (C_22 1582) [(2, ⟨[], true, (.tup [(encL (cU .u16) 0 rdivide.1), (encL (cU .u16) 0 rdivide.2)]), [], 0, false, none⟩)] [] (kp [1, 10]) [] 464 [Sound Try.prog 100 [(encL (cU .u16) 0 a2), (encL (cU .u16) 0 b2)] [] 0 (.tup [(encL (cU .u16) 0 rdivide.1), (encL (cU .u16) 0 rdivide.2)]) []] ⟨(g_e_divide_ok N a2 b2 rdivide hr4), trivial⟩ ?_
        refine Runs.sR hE ⟨[(0, (encL (cU .u16) 0 b2)), (1, (encL (cU .u16) 0 rdivide.2))], [], 528⟩ (C_22 1583) [] [] (kp [0, 1]) [] 528 [] trivial ?_
        refine Runs.sA 2 [.code (C_22 24), .inLoop (C_22 24), .inBlock 0, .code (C_22 7)] ?_
        exact Runs.sW hE _ [] (kp [0, 1]) [] 0 [] trivial (ih b2 rdivide.2 _ h E hE)
    · have h := condF h hq2
      refine Runs.sA 2 [.code (C_22 14), .code (C_22 15)] ?_
      refine Runs.sR hE ⟨[(4, (encL (cU .u16) 0 a2))], [], 80⟩ (C_22 14) [] [] (kp [4]) [] 80 [] trivial ?_
      obtain rfl := Option.some.inj h
      refine Runs.sW hE ⟨[(4, (encL (cU .u16) 0 a2))], [], 80⟩ [] (kp [4]) [] 80 [] trivial ?_
      exact Runs.sT Try.f158 [] [] trivial
theorem g_e_common_ok (N : Nat) (a : List Int) (b : List Int) (r : (List Int)) (h : g_e_common N a b = some r) : Sound Try.prog 158 [(encL (cU .u16) 0 a), (encL (cU .u16) 0 b)] [] 0 (encL (cU .u16) 0 r) [] := by
  unfold g_e_common at h
  refine Sound.of_runs (fu := Try.f158) (c := C_22 1) (nt := 45) (by kernel_rfl) (by kernel_rfl) (by kernel_rfl) (by kernel_rfl) (fun hm => rfl) ?_
  intro E hE
  refine Runs.sA 1 [.code (C_22 2), .code (C_22 3)] ?_
  refine Runs.sR hE ⟨[(0, (encL (cU .u16) 0 a)), (1, (encL (cU .u16) 0 b))], [], 16⟩ (C_22 2) [] [] (kp [0, 1]) [] 16 [] trivial ?_
  refine Runs.sA 3 [.code (C_22 24), .inLoop (C_22 24), .inBlock 0, .code (C_22 7)] ?_
  exact Runs.sW hE _ [] (kp [0, 1]) [] 0 [] trivial (g_e_common_L1_ok N N a b _ h E hE)
noncomputable def C_21 (n : Nat) : Code := cat (bodyOf Try.f111) (pth n)
theorem g_e_fraction_J1_ok (N : Nat) (a : TInt) (b : TInt) (x : List Int) (y : List Int) (r : TRat) (h : g_e_fraction_J1 N a b x y = some r) : ∀ E, EnvOk E 0 → Runs Try.prog E 111 48 (SPost E [] (.agg (TRat.cells r))) [.code (C_21 62), .code (C_21 63)] ⟨[(2, (.op 0 0 0)), (3, (.op 1 0 0)), (4, (.op 2 0 0)), (5, (encL (cU .u16) 0 x)), (6, (encL (cU .u16) 0 y))], [(0, vO 2 (TInt.cells a)), (1, vO 2 (TInt.cells b)), (2, vO 4 [(aB false), .nil, (aB false), .nil])], 3⟩ := by
  intro E hE
  unfold g_e_fraction_J1 at h
  obtain ⟨rsigned, hr6, h⟩ := bindSome h
  obtain ⟨rsigned2, hr7, h⟩ := bindSome h
  refine Runs.sR hE ⟨[(4, (.op 2 0 0))], [(2, vO 4 [(aB rsigned.f_Neg), (encL (cU .u16) 0 rsigned.f_Limbs), (aB rsigned2.f_Neg), (encL (cU .u16) 0 rsigned2.f_Limbs)])], 179⟩ (C_21 62) [(6, ⟨[], true, (.agg (TInt.cells rsigned)), [], 0, false, none⟩), (8, ⟨[], true, (.agg (TInt.cells rsigned2)), [], 0, false, none⟩)] [] (kp [4]) (kq [2]) 179 [0 < 1, 0 < 1, Sound Try.prog 93 [(aB (!(a.f_Neg == b.f_Neg))), (encL (cU .u16) 0 x)] [] 0 (.agg (TInt.cells rsigned)) [], Sound Try.prog 93 [(aB false), (encL (cU .u16) 0 y)] [] 0 (.agg (TInt.cells rsigned2)) [], 0 < 1] ⟨o1, o1, (g_e_signed_ok N (!(a.f_Neg == b.f_Neg)) x rsigned hr6), (g_e_signed_ok N false y rsigned2 hr7), o1, trivial⟩ ?_
  obtain rfl := Option.some.inj h
  refine Runs.sW hE ⟨[(4, (.op 16 0 0))], [(16, vO 4 [(aB rsigned.f_Neg), (encL (cU .u16) 0 rsigned.f_Limbs), (aB rsigned2.f_Neg), (encL (cU .u16) 0 rsigned2.f_Limbs)])], 179⟩ [] (kp [4]) [(16, .keep 2)] 179 [] trivial ?_
  exact Runs.sT Try.f111 [16] [0 < 1] ⟨o1, trivial⟩
theorem g_e_fraction_ok (N : Nat) (a : TInt) (b : TInt) (r : TRat) (h : g_e_fraction N a b = some r) : Sound Try.prog 111 [(.agg (TInt.cells a)), (.agg (TInt.cells b))] [] 0 (.agg (TRat.cells r)) [] := by
  unfold g_e_fraction at h
  refine Sound.of_runs (fu := Try.f111) (c := C_21 1) (nt := 48) (by kernel_rfl) (by kernel_rfl) (by kernel_rfl) (by kernel_rfl) (fun hm => rfl) ?_
  intro E hE
  refine Runs.sA 1 [.code (C_21 2), .code (C_21 3)] ?_
  refine Runs.sR hE ⟨[(2, (.op 0 0 0)), (3, (.op 16 0 0)), (4, (.op 32 0 0))], [(0, vO 2 (TInt.cells a)), (16, vO 2 (TInt.cells b)), (32, vO 4 [(aB false), .nil, (aB false), .nil])], 48⟩ (C_21 2) [] [] (kp [2, 3, 4]) (kq [0, 16, 32]) 48 [] trivial ?_
  refine Runs.sA 1 [.code (C_21 6), .code (C_21 7)] ?_
  obtain ⟨rtrim, hr, h⟩ := bindSome h
  obtain ⟨rtrim2, hr2, h⟩ := bindSome h
  refine Runs.sR hE ⟨[(2, (.op 0 0 0)), (3, (.op 16 0 0)), (4, (.op 32 0 0)), (5, (encL (cU .u16) 0 rtrim)), (6, (encL (cU .u16) 0 rtrim2))], [(0, vO 2 (TInt.cells a)), (16, vO 2 (TInt.cells b)), (32, vO 4 [(aB false), .nil, (aB false), .nil])], 176⟩ (C_21 6) [(2, ⟨[], true, (encL (cU .u16) 0 rtrim), [], 0, false, none⟩), (5, ⟨[], true, (encL (cU .u16) 0 rtrim2), [], 0, false, none⟩)] [] (kp [2, 3, 4, 5, 6]) (kq [0, 16, 32]) 176 [0 < 1, Sound Try.prog 92 [(encL (cU .u16) 0 a.f_Limbs)] [] 0 (encL (cU .u16) 0 rtrim) [], 0 < 1, Sound Try.prog 92 [(encL (cU .u16) 0 b.f_Limbs)] [] 0 (encL (cU .u16) 0 rtrim2) []] ⟨o1, (g_e_trim_ok N a.f_Limbs rtrim hr), o1, (g_e_trim_ok N b.f_Limbs rtrim2 hr2), trivial⟩ ?_
  refine Runs.sA 1 [.code (C_21 14), .code (C_21 15)] ?_
  obtain ⟨rcommon, hr3, h⟩ := bindSome h
  refine Runs.sR hE ⟨[(2, (.op 0 0 0)), (3, (.op 16 0 0)), (4, (.op 32 0 0)), (5, (encL (cU .u16) 0 rtrim)), (6, (encL (cU .u16) 0 rtrim2)), (7, (encL (cU .u16) 0 rcommon))], [(0, vO 2 (TInt.cells a)), (16, vO 2 (TInt.cells b)), (32, vO 4 [(aB false), .nil, (aB false), .nil])], 240⟩ (C_21 14) [(2, ⟨[], true, (encL (cU .u16) 0 rcommon), [], 0, false, none⟩)] [] (kp [2, 3, 4, 5, 6, 7]) (kq [0, 16, 32]) 240 [Sound Try.prog 158 [(encL (cU .u16) 0 rtrim), (encL (cU .u16) 0 rtrim2)] [] 0 (encL (cU .u16) 0 rcommon) []] ⟨(g_e_common_ok N rtrim rtrim2 rcommon hr3), trivial⟩ ?_
  refine Runs.sA 2 [.code (C_21 60), .code (C_21 61), .code (C_21 31)] ?_
  obtain ⟨c, h⟩ := ifSome h
  refine Runs.sR hE ⟨[(2, (.op 0 0 0)), (3, (.op 16 0 0)), (4, (.op 32 0 0)), (5, (encL (cU .u16) 0 rtrim)), (6, (encL (cU .u16) 0 rtrim2)), (7, (encL (cU .u16) 0 rcommon)), (25, (aB (cond (((rcommon.length : Nat) : Int) != 1) true ((rcommon.getD 0 0) != 1))))], [(0, vO 2 (TInt.cells a)), (16, vO 2 (TInt.cells b)), (32, vO 4 [(aB false), .nil, (aB false), .nil])], 384⟩ (C_21 60) [] [] (kp [2, 3, 4, 5, 6, 7, 25]) (kq [0, 16, 32]) 384 [(!(((rcommon.length : Nat) : Int) != 1)) = true → AllP [(!(((rcommon.length : Nat) : Int) != 1)) = true, 0 ≤ (0 : Int) ∧ 0 < ((rcommon.length : Nat) : Int)], (!(((rcommon.length : Nat) : Int) != 1)) = true → AllP [(!(((rcommon.length : Nat) : Int) != 1)) = true], (!(((rcommon.length : Nat) : Int) != 1)) = true → AllP [(!(((rcommon.length : Nat) : Int) != 1)) = true], (!(((rcommon.length : Nat) : Int) != 1)) = true → AllP [(!(((rcommon.length : Nat) : Int) != 1)) = true]] ⟨(fun hg => ⟨hg, (c hg), trivial⟩), (fun hg => ⟨hg, trivial⟩), (fun hg => ⟨hg, trivial⟩), (fun hq => ⟨hq, trivial⟩), trivial⟩ ?_
  refine Runs.sC 25 (C_21 122) (C_21 123) (cond (((rcommon.length : Nat) : Int) != 1) true ((rcommon.getD 0 0) != 1)) (fun hq2 => ?_) (fun hq2 => ?_)
  · have h := condT h hq2
    refine Runs.sA 1 [.code (C_21 244), .code (C_21 245), .code (C_21 31)] ?_
    obtain ⟨rdivide, hr4, h⟩ := bindSome h
    refine Runs.sR hE ⟨[(2, (.op 0 0 0)), (3, (.op 16 0 0)), (4, (.op 32 0 0)), (5, (encL (cU .u16) 0 rdivide.1)), (6, (encL (cU .u16) 0 rtrim2)), (7, (encL (cU .u16) 0 rcommon))], [(0, vO 2 (TInt.cells a)), (16, vO 2 (TInt.cells b)), (32, vO 4 [(aB false), .nil, (aB false), .nil])], 496⟩ (C_21 244) [(2, ⟨[], true, (.tup [(encL (cU .u16) 0 rdivide.1), (encL (cU .u16) 0 rdivide.2)]), [], 0, false, none⟩)] [] (kp [2, 3, 4, 5, 6, 7]) (kq [0, 16, 32]) 496 [Sound Try.prog 100 [(encL (cU .u16) 0 rtrim), (encL (cU .u16) 0 rcommon)] [] 0 (.tup [(encL (cU .u16) 0 rdivide.1), (encL (cU .u16) 0 rdivide.2)]) []] ⟨(g_e_divide_ok N rtrim rcommon rdivide hr4), trivial⟩ ?_
    obtain ⟨rdivide2, hr5, h⟩ := bindSome h
    refine Runs.sR hE ⟨[(2, (.op 0 0 0)), (3, (.op 16 0 0)), (4, (.op 32 0 0)), (5, (encL (cU .u16) 0 rdivide.1)), (6, (encL (cU .u16) 0 rdivide2.1))], [(0, vO 2 (TInt.cells a)), (16, vO 2 (TInt.cells b)), (32, vO 4 [(aB false), .nil, (aB false), .nil])], 608⟩ (C_21 245) [(2, ⟨[], true, (.tup [(encL (cU .u16) 0 rdivide2.1), (encL (cU .u16) 0 rdivide2.2)]), [], 0, false, none⟩)] [] (kp [2, 3, 4, 5, 6]) (kq [0, 16, 32]) 608 [Sound Try.prog 100 [(encL (cU .u16) 0 rtrim2), (encL (cU .u16) 0 rcommon)] [] 0 (.tup [(encL (cU .u16) 0 rdivide2.1), (encL (cU .u16) 0 rdivide2.2)]) []] ⟨(g_e_divide_ok N rtrim2 rcommon rdivide2 hr5), trivial⟩ ?_
    refine Runs.sA 1 [.code (C_21 62), .code (C_21 63)] ?_
    exact Runs.sW hE _ [] (kp [2, 3, 4, 5, 6]) (kq [0] ++ [(1, .keep 16), (2, .keep 32)]) 3 [] trivial (g_e_fraction_J1_ok N a b rdivide.1 rdivide2.1 _ h E hE)
  · have h := condF h hq2
    refine Runs.sA 2 [.code (C_21 62), .code (C_21 63)] ?_
    exact Runs.sW hE _ [] (kp [2, 3, 4, 5, 6]) (kq [0] ++ [(1, .keep 16), (2, .keep 32)]) 3 [] trivial (g_e_fraction_J1_ok N a b rtrim rtrim2 _ h E hE)
noncomputable def C_18 (n : Nat) : Code := cat (bodyOf Try.f41) (pth n)
theorem g_e_Ratio_ok (N : Nat) (a : Int) (b : Int) (r : TRat × Int) (h : g_e_Ratio N a b = some r) : Sound Try.prog 41 [(aI a), (aI b)] [] 0 (.tup [(.agg (TRat.cells r.1)), (aI r.2)]) [] := by
  unfold g_e_Ratio at h
  refine Sound.of_runs (fu := Try.f41) (c := C_18 1) (nt := 14) (by kernel_rfl) (by kernel_rfl) (by kernel_rfl) (by kernel_rfl) (fun hm => rfl) ?_
  intro E hE
  refine Runs.sA 1 [.code (C_18 2), .code (C_18 3)] ?_
  refine Runs.sR hE ⟨[(0, (aI a)), (1, (aI b)), (4, (.op 0 0 0))], [(0, vO 4 [(aB false), .nil, (aB false), .nil])], 32⟩ (C_18 2) [] [] (kp [0, 1, 4]) (kq [0]) 32 [] trivial ?_
  refine Runs.sA 2 [.code (C_18 12), .code (C_18 13), .code (C_18 7)] ?_
  refine Runs.sR hE ⟨[(0, (aI a)), (1, (aI b)), (4, (.op 0 0 0)), (7, (aB (b == 0)))], [(0, vO 4 [(aB false), .nil, (aB false), .nil])], 64⟩ (C_18 12) [] [] (kp [0, 1, 4, 7]) (kq [0]) 64 [] trivial ?_
  refine Runs.sC 7 (C_18 26) (C_18 27) (b == 0) (fun hq2 => ?_) (fun hq2 => ?_)
  · have h := condT h hq2
    refine Runs.sA 1 [.code (C_18 52), .code (C_18 53), .code (C_18 7)] ?_
    refine Runs.sR hE ⟨[(4, (.op 0 0 0)), (5, (aI 9))], [(0, vO 4 [(aB false), .nil, (aB false), .nil])], 112⟩ (C_18 52) [] [] (kp [4, 5]) (kq [0]) 112 [0 < 1] ⟨o1, trivial⟩ ?_
    obtain rfl := Option.some.inj h
    refine Runs.sW hE ⟨[(4, (.op 16 0 0)), (5, (aI 9))], [(16, vO 4 [(aB false), (encL (cU .u16) 0 ([] : List Int)), (aB false), (encL (cU .u16) 0 ([] : List Int))])], 112⟩ [] (kp [4, 5]) [(16, .var 0 [.keep, .sl (([] : List Int).length) (fun zi => (cU .u16) (([] : List Int).getD zi 0)), .keep, .sl (([] : List Int).length) (fun zi => (cU .u16) (([] : List Int).getD zi 0))])] 112 [([] : List Int).length = 0, ([] : List Int).length = 0] ⟨rfl, rfl, trivial⟩ ?_
    exact Runs.sT Try.f41 [16] [0 < 1] ⟨o1, trivial⟩
  · have h := condF h hq2
    refine Runs.sA 2 [.code (C_18 14), .code (C_18 15)] ?_
    obtain ⟨rOf, hr, h⟩ := bindSome h
    obtain ⟨rOf2, hr2, h⟩ := bindSome h
    obtain ⟨rfraction, hr3, h⟩ := bindSome h
    refine Runs.sR hE ⟨[(4, (.op 0 0 0)), (5, (aI 0))], [(0, vO 4 (TRat.cells rfraction))], 176⟩ (C_18 14) [(1, ⟨[], true, (.agg (TInt.cells rOf)), [], 0, false, none⟩), (3, ⟨[], true, (.agg (TInt.cells rOf2)), [], 0, false, none⟩), (4, ⟨[], true, (.agg (TRat.cells rfraction)), [], 0, false, none⟩)] [] (kp [4, 5]) (kq [0]) 176 [Sound Try.prog 19 [(aI a)] [] 0 (.agg (TInt.cells rOf)) [], Sound Try.prog 19 [(aI b)] [] 0 (.agg (TInt.cells rOf2)) [], Sound Try.prog 111 [(.agg (TInt.cells rOf)), (.agg (TInt.cells rOf2))] [] 0 (.agg (TRat.cells rfraction)) [], 0 < 1] ⟨(g_e_Of_ok N a rOf hr), (g_e_Of_ok N b rOf2 hr2), (g_e_fraction_ok N rOf rOf2 rfraction hr3), o1, trivial⟩ ?_
    obtain rfl := Option.some.inj h
    refine Runs.sW hE ⟨[(4, (.op 16 0 0)), (5, (aI 0))], [(16, vO 4 (TRat.cells rfraction))], 176⟩ [] (kp [4, 5]) [(16, .keep 0)] 176 [] trivial ?_
    exact Runs.sT Try.f41 [16] [0 < 1] ⟨o1, trivial⟩
noncomputable def C_25 (n : Nat) : Code := cat (bodyOf Try.f39) (pth n)
theorem g_b_W_ok (N : Nat) (n : Int) (r : TRat) (h : g_b_W N n = some r) : Sound Try.prog 39 [(aI n)] [] 0 (.agg (TRat.cells r)) [] := by
  unfold g_b_W at h
  refine Sound.of_runs (fu := Try.f39) (c := C_25 1) (nt := 7) (by kernel_rfl) (by kernel_rfl) (by kernel_rfl) (by kernel_rfl) (fun hm => rfl) ?_
  intro E hE
  refine Runs.sA 1 [.code (C_25 2), .code (C_25 3)] ?_
  refine Runs.sR hE ⟨[(0, (aI n)), (2, (.op 0 0 0))], [(0, vO 4 [(aB false), .nil, (aB false), .nil])], 16⟩ (C_25 2) [] [] (kp [0, 2]) (kq [0]) 16 [] trivial ?_
  refine Runs.sA 1 [.code (C_25 6), .code (C_25 7)] ?_
  obtain ⟨rZ, hr, h⟩ := bindSome h
  obtain ⟨rZ2, hr2, h⟩ := bindSome h
  refine Runs.sR hE ⟨[(2, (.op 0 0 0))], [(0, vO 4 [(aB rZ.f_Neg), (encL (cU .u16) 0 rZ.f_Limbs), (aB rZ2.f_Neg), (encL (cU .u16) 0 rZ2.f_Limbs)])], 96⟩ (C_25 6) [(1, ⟨[], true, (.agg (TInt.cells rZ)), [], 0, false, none⟩), (2, ⟨[], true, (.agg (TInt.cells rZ2)), [], 0, false, none⟩)] [] (kp [2]) (kq [0]) 96 [Sound Try.prog 89 [(aI n)] [] 0 (.agg (TInt.cells rZ)) [], Sound Try.prog 89 [(aI 1)] [] 0 (.agg (TInt.cells rZ2)) [], 0 < 1] ⟨(g_b_Z_ok N n rZ hr), (g_b_Z_ok N 1 rZ2 hr2), o1, trivial⟩ ?_
  obtain rfl := Option.some.inj h
  refine Runs.sW hE ⟨[(2, (.op 16 0 0))], [(16, vO 4 [(aB rZ.f_Neg), (encL (cU .u16) 0 rZ.f_Limbs), (aB rZ2.f_Neg), (encL (cU .u16) 0 rZ2.f_Limbs)])], 96⟩ [] (kp [2]) [(16, .keep 0)] 96 [] trivial ?_
  exact Runs.sT Try.f39 [16] [0 < 1] ⟨o1, trivial⟩
noncomputable def C_24 (n : Nat) : Code := cat (bodyOf Try.f90) (pth n)
theorem g_b_Ws_L1_ok (N : Nat) (l : List Int) (fuel : Nat) : ∀ (out : List TRat) (i : Int) (r : (List TRat)), g_b_Ws_L1 N l fuel out i = some r → ∀ E, EnvOk E 0 → Runs Try.prog E 90 20 (SPost E [] (encL TRat.cells TRat.d r)) [.code (C_24 116), .inLoop (C_24 116), .inBlock 0, .code (C_24 15)] ⟨[(0, (encL cI 0 l)), (3, (.os 0 0 out.length)), (4, (aI i))], [(0, aO 4 TRat.cells TRat.d out)], 1⟩ := by
  induction fuel with
  | zero => intro _ _ r h; rw [g_b_Ws_L1.eq_1] at h; cases h
  | succ fuel ih =>
    intro out i r h E hE
    rw [g_b_Ws_L1.eq_2] at h
    refine Runs.sA 2 [.code (C_24 464), .code (C_24 465), .code (C_24 233), .inLoop (C_24 116), .inBlock 0, .code (C_24 15)] ?_
    refine Runs.sR hE ⟨[(0, (encL cI 0 l)), (3, (.os 0 0 out.length)), (4, (aI i)), (8, (aB (decide (i < ((l.length : Nat) : Int)))))], [(0, aO 4 TRat.cells TRat.d out)], 65⟩ (C_24 464) [] [] (kp [0, 3, 4, 8]) (kq [0]) 65 [] trivial ?_
    refine Runs.sC 8 (C_24 930) (C_24 931) (decide (i < ((l.length : Nat) : Int))) (fun hq2 => ?_) (fun hq2 => ?_)
    · have h := condT h hq2
      refine Runs.sA 3 [.code (C_24 932), .inBlock 1, .code (C_24 467), .inLoop (C_24 116), .inBlock 0, .code (C_24 15)] ?_
      obtain ⟨c, h⟩ := ifSome h
      obtain ⟨rW, hr, h⟩ := bindSome h
      obtain ⟨c2, h⟩ := ifSome h
      refine Runs.sR hE ⟨[(0, (encL cI 0 l)), (3, (.os 177 0 ((out ++ ([rW] : List TRat)).length))), (4, (aI i))], [(177, aO 4 TRat.cells TRat.d (out ++ ([rW] : List TRat)))], 209⟩ (C_24 932) [(5, ⟨[], true, (.agg (TRat.cells rW)), [], 0, false, none⟩)] [] (kp [0] ++ [(3, .osl ((out ++ ([rW] : List TRat)).length))] ++ kp [4]) [(177, .arr 177 ((out ++ ([rW] : List TRat)).length) (fun zi => TRat.cells ((out ++ ([rW] : List TRat)).getD zi TRat.d)))] 209 [0 ≤ i ∧ i < ((l.length : Nat) : Int), Sound Try.prog 39 [(aI (l.getD ((i).toNat) 0))] [] 0 (.agg (TRat.cells rW)) [], out.length = out.length, (out.length + 1) * 64 ≤ 140737488355328, 0 + 1 ≤ 1, ∀ zi, zi < 1 → AV.oneL ((fun zi => ([[(aB rW.f_Num.f_Neg), (encL (cU .u16) 0 rW.f_Num.f_Limbs), (aB rW.f_Den.f_Neg), (encL (cU .u16) 0 rW.f_Den.f_Limbs)]] : List (List AV)).getD zi []) (addz 0 zi)) = true, (out.length + 1) = (out ++ ([rW] : List TRat)).length, out.length + 1 = (out ++ ([rW] : List TRat)).length, ∀ zi, zi < (out ++ ([rW] : List TRat)).length → (fun zi => TRat.cells ((out ++ ([rW] : List TRat)).getD zi TRat.d)) zi = ((fun zm => if zm < out.length then (fun zi => TRat.cells (out.getD zi TRat.d)) zm else (fun zi => ([[(aB rW.f_Num.f_Neg), (encL (cU .u16) 0 rW.f_Num.f_Limbs), (aB rW.f_Den.f_Neg), (encL (cU .u16) 0 rW.f_Den.f_Limbs)]] : List (List AV)).getD zi []) (zm - out.length))) zi] ⟨c, (g_b_W_ok N (l.getD ((i).toNat) 0) rW hr), rfl, c2, z0, (oneN rfl), (len_app_raw rfl rfl), (len_app_raw rfl rfl), (get_app_raw TRat.cells TRat.d out ([rW] : List TRat) rfl (fun _ _ => rfl) (fun zq hzq => get_chunk TRat.cells TRat.d ([rW] : List TRat) zq hzq)), trivial⟩ ?_
      refine Runs.sA 1 [.code (C_24 467), .inLoop (C_24 116), .inBlock 0, .code (C_24 15)] ?_
      refine Runs.sR hE ⟨[(0, (encL cI 0 l)), (3, (.os 177 0 ((out ++ ([rW] : List TRat)).length))), (4, (aI (w64 (i + 1))))], [(177, aO 4 TRat.cells TRat.d (out ++ ([rW] : List TRat)))], 257⟩ (C_24 467) [] [] (kp [0, 3, 4]) (kq [177]) 257 [] trivial ?_
      refine Runs.sA 1 [.code (C_24 116), .inLoop (C_24 116), .inBlock 0, .code (C_24 15)] ?_
      exact Runs.sW hE _ [] (kp [0, 3, 4]) [(0, .keep 177)] 1 [] trivial (ih (out ++ ([rW] : List TRat)) (w64 (i + 1)) _ h E hE)
    · have h := condF h hq2
      refine Runs.sA 2 [.code (C_24 30), .code (C_24 31)] ?_
      refine Runs.sR hE ⟨[(2, (.os 0 0 out.length))], [(0, aO 4 TRat.cells TRat.d out)], 97⟩ (C_24 30) [] [] (kp [2]) (kq [0]) 97 [] trivial ?_
      obtain rfl := Option.some.inj h
      refine Runs.sW hE ⟨[(2, (encL TRat.cells TRat.d out))], [], 97⟩ [0] [(2, .sl (out.length) (fun zi => TRat.cells (out.getD zi TRat.d)))] [] 97 [out.length = out.length, 0 + out.length ≤ out.length, ∀ zi, zi < out.length → (fun zi => TRat.cells (out.getD zi TRat.d)) zi = (fun zi => TRat.cells (out.getD zi TRat.d)) (addz 0 zi)] ⟨rfl, z0, (fun _ _ => rfl), trivial⟩ ?_
      exact Runs.sT Try.f90 [] [] trivial
theorem g_b_Ws_ok (N : Nat) (l : List Int) (r : (List TRat)) (h : g_b_Ws N l = some r) : Sound Try.prog 90 [(encL cI 0 l)] [] 0 (encL TRat.cells TRat.d r) [] := by
  unfold g_b_Ws at h
  refine Sound.of_runs (fu := Try.f90) (c := C_24 1) (nt := 20) (by kernel_rfl) (by kernel_rfl) (by kernel_rfl) (by kernel_rfl) (fun hm => rfl) ?_
  intro E hE
  refine Runs.sA 1 [.code (C_24 2), .code (C_24 3)] ?_
  refine Runs.sR hE ⟨[(0, (encL cI 0 l))], [], 16⟩ (C_24 2) [] [] (kp [0]) [] 16 [] trivial ?_
  refine Runs.sA 1 [.code (C_24 6), .code (C_24 7)] ?_
  refine Runs.sR hE ⟨[(0, (encL cI 0 l)), (3, .nil)], [], 32⟩ (C_24 6) [] [] (kp [0, 3]) [] 32 [] trivial ?_
  refine Runs.sA 2 [.code (C_24 28), .code (C_24 29), .code (C_24 15)] ?_
  refine Runs.sR hE ⟨[(0, (encL cI 0 l)), (3, .nil), (4, (aI 0))], [], 48⟩ (C_24 28) [] [] (kp [0, 3, 4]) [] 48 [] trivial ?_
  refine Runs.sA 2 [.code (C_24 116), .inLoop (C_24 116), .inBlock 0, .code (C_24 15)] ?_
  exact Runs.sW hE _ [] (kp [0] ++ [(3, .nilos 0)] ++ kp [4]) [(0, .nil 4 (fun zi => TRat.cells (([] : List TRat).getD zi TRat.d)))] 1 [] trivial (g_b_Ws_L1_ok N l N ([] : List TRat) 0 _ h E hE)
noncomputable def C_29 (n : Nat) : Code := cat (bodyOf Try.f101) (pth n)
theorem g_e_sign_ok (N : Nat) (a : TInt) (r : Int) (h : g_e_sign N a = some r) : Sound Try.prog 101 [(.agg (TInt.cells a))] [] 0 (aI r) [] := by
  unfold g_e_sign at h
  refine Sound.of_runs (fu := Try.f101) (c := C_29 1) (nt := 12) (by kernel_rfl) (by kernel_rfl) (by kernel_rfl) (by kernel_rfl) (fun hm => rfl) ?_
  intro E hE
  refine Runs.sA 1 [.code (C_29 2), .code (C_29 3)] ?_
  refine Runs.sR hE ⟨[(1, (.op 0 0 0))], [(0, vO 2 (TInt.cells a))], 32⟩ (C_29 2) [] [] (kp [1]) (kq [0]) 32 [] trivial ?_
  refine Runs.sA 3 [.code (C_29 24), .code (C_29 25), .inBlock 0, .code (C_29 7)] ?_
  obtain ⟨rtrim, hr, h⟩ := bindSome h
  refine Runs.sR hE ⟨[(1, (.op 0 0 0)), (3, (aB (((rtrim.length : Nat) : Int) == 0)))], [(0, vO 2 (TInt.cells a))], 128⟩ (C_29 24) [(2, ⟨[], true, (encL (cU .u16) 0 rtrim), [], 0, false, none⟩)] [] (kp [1, 3]) (kq [0]) 128 [0 < 1, Sound Try.prog 92 [(encL (cU .u16) 0 a.f_Limbs)] [] 0 (encL (cU .u16) 0 rtrim) []] ⟨o1, (g_e_trim_ok N a.f_Limbs rtrim hr), trivial⟩ ?_
  refine Runs.sC 3 (C_29 50) (C_29 51) (((rtrim.length : Nat) : Int) == 0) (fun hq2 => ?_) (fun hq2 => ?_)
  · have h := condT h hq2
    refine Runs.sA 1 [.code (C_29 100), .code (C_29 101), .inBlock 0, .code (C_29 7)] ?_
    refine Runs.sR hE ⟨[(2, (aI 0))], [], 144⟩ (C_29 100) [] [] (kp [2]) [] 144 [] trivial ?_
    obtain rfl := Option.some.inj h
    refine Runs.sW hE ⟨[(2, (aI 0))], [], 144⟩ [] (kp [2]) [] 144 [] trivial ?_
    exact Runs.sT Try.f101 [] [] trivial
  · have h := condF h hq2
    refine Runs.sA 1 [.code (C_29 102), .code (C_29 103), .inBlock 0, .code (C_29 7)] ?_
    refine Runs.sR hE ⟨[(9, (aB a.f_Neg))], [], 176⟩ (C_29 102) [] [] (kp [9]) [] 176 [0 < 1] ⟨o1, trivial⟩ ?_
    refine Runs.sC 9 (C_29 206) (C_29 207) a.f_Neg (fun hq3 => ?_) (fun hq3 => ?_)
    · have h := condT h hq3
      refine Runs.sA 1 [.code (C_29 412), .code (C_29 413), .inBlock 0, .code (C_29 7)] ?_
      refine Runs.sR hE ⟨[(2, (aI (-1)))], [], 192⟩ (C_29 412) [] [] (kp [2]) [] 192 [] trivial ?_
      obtain rfl := Option.some.inj h
      refine Runs.sW hE ⟨[(2, (aI (-1)))], [], 192⟩ [] (kp [2]) [] 192 [] trivial ?_
      exact Runs.sT Try.f101 [] [] trivial
    · have h := condF h hq3
      refine Runs.sA 3 [.code (C_29 14), .code (C_29 15)] ?_
      refine Runs.sR hE ⟨[(2, (aI 1))], [], 192⟩ (C_29 14) [] [] (kp [2]) [] 192 [] trivial ?_
      obtain rfl := Option.some.inj h
      refine Runs.sW hE ⟨[(2, (aI 1))], [], 192⟩ [] (kp [2]) [] 192 [] trivial ?_
      exact Runs.sT Try.f101 [] [] trivial
noncomputable def C_30 (n : Nat) : Code := cat (bodyOf Try.f112) (pth n)
theorem g_e_below_ok (N : Nat) (x : TRat) (r : TInt) (h : g_e_below N x = some r) : Sound Try.prog 112 [(.agg (TRat.cells x))] [] 0 (.agg (TInt.cells r)) [] := by
  unfold g_e_below at h
  refine Sound.of_runs (fu := Try.f112) (c := C_30 1) (nt := 11) (by kernel_rfl) (by kernel_rfl) (by kernel_rfl) (by kernel_rfl) (fun hm => rfl) ?_
  intro E hE
  refine Runs.sA 1 [.code (C_30 2), .code (C_30 3)] ?_
  refine Runs.sR hE ⟨[(1, (.op 0 0 0)), (2, (.op 16 0 0))], [(0, vO 4 (TRat.cells x)), (16, vO 2 [(aB false), .nil])], 32⟩ (C_30 2) [] [] (kp [1, 2]) (kq [0, 16]) 32 [] trivial ?_
  refine Runs.sA 2 [.code (C_30 12), .code (C_30 13), .code (C_30 7)] ?_
  obtain ⟨rsign, hr, h⟩ := bindSome h
  refine Runs.sR hE ⟨[(1, (.op 0 0 0)), (2, (.op 16 0 0)), (6, (aB (rsign == 0)))], [(0, vO 4 (TRat.cells x)), (16, vO 2 [(aB false), .nil])], 96⟩ (C_30 12) [(2, ⟨[], true, (aI rsign), [], 0, false, none⟩)] [] (kp [1, 2, 6]) (kq [0, 16]) 96 [0 < 1, Sound Try.prog 101 [(.agg (TInt.cells x.f_Den))] [] 0 (aI rsign) []] ⟨o1, (g_e_sign_ok N x.f_Den rsign hr), trivial⟩ ?_
  refine Runs.sC 6 (C_30 26) (C_30 27) (rsign == 0) (fun hq2 => ?_) (fun hq2 => ?_)
  · have h := condT h hq2
    refine Runs.sA 1 [.code (C_30 52), .code (C_30 53), .code (C_30 7)] ?_
    refine Runs.sR hE ⟨[(2, (.op 16 0 0))], [(16, vN 2 [(aB false), (.os 96 0 (([1] : List Int).length))]), (96, aO 1 (cU .u16) 0 ([1] : List Int))], 144⟩ (C_30 52) [] [] (kp [2]) [(16, .var 16 [.keep, .osl (([1] : List Int).length)]), (96, .arr 96 (([1] : List Int).length) (fun zi => (cU .u16) (([1] : List Int).getD zi 0)))] 144 [0 < 1, 1 = ([1] : List Int).length, 1 = ([1] : List Int).length, ∀ zi, zi < ([1] : List Int).length → (fun zi => (cU .u16) (([1] : List Int).getD zi 0)) zi = (fun zi => ([[(.atom (.int .u16 1))]] : List (List AV)).getD zi []) zi] ⟨o1, rfl, rfl, (fun zq hzq => get_chunk (cU .u16) 0 ([1] : List Int) zq hzq), trivial⟩ ?_
    obtain rfl := Option.some.inj h
    refine Runs.sW hE ⟨[(2, (.op 16 0 0))], [(16, vO 2 [(aB false), (encL (cU .u16) 0 ([1] : List Int))])], 144⟩ [96] (kp [2]) [(16, .var 16 [.keep, .sl (([1] : List Int).length) (fun zi => (cU .u16) (([1] : List Int).getD zi 0))])] 144 [([1] : List Int).length = ([1] : List Int).length, 0 + ([1] : List Int).length ≤ ([1] : List Int).length, ∀ zi, zi < ([1] : List Int).length → (fun zi => (cU .u16) (([1] : List Int).getD zi 0)) zi = (fun zi => (cU .u16) (([1] : List Int).getD zi 0)) (addz 0 zi)] ⟨rfl, z0, (fun _ _ => rfl), trivial⟩ ?_
    exact Runs.sT Try.f112 [16] [0 < 1] ⟨o1, trivial⟩
  · have h := condF h hq2
    refine Runs.sA 2 [.code (C_30 14), .code (C_30 15)] ?_
    refine Runs.sR hE ⟨[(2, (.op 16 0 0))], [(16, vO 2 (TInt.cells x.f_Den))], 144⟩ (C_30 14) [] [] (kp [2]) (kq [16]) 144 [0 < 1, 0 < 1] ⟨o1, o1, trivial⟩ ?_
    obtain rfl := Option.some.inj h
    refine Runs.sW hE ⟨[(2, (.op 16 0 0))], [(16, vO 2 (TInt.cells x.f_Den))], 144⟩ [] (kp [2]) (kq [16]) 144 [] trivial ?_
    exact Runs.sT Try.f112 [16] [0 < 1] ⟨o1, trivial⟩
noncomputable def C_28 (n : Nat) : Code := cat (bodyOf Try.f115) (pth n)
theorem g_e_signOf_ok (N : Nat) (x : TRat) (r : Int) (h : g_e_signOf N x = some r) : Sound Try.prog 115 [(.agg (TRat.cells x))] [] 0 (aI r) [] := by
  unfold g_e_signOf at h
  refine Sound.of_runs (fu := Try.f115) (c := C_28 1) (nt := 10) (by kernel_rfl) (by kernel_rfl) (by kernel_rfl) (by kernel_rfl) (fun hm => rfl) ?_
  intro E hE
  refine Runs.sA 1 [.code (C_28 2), .code (C_28 3)] ?_
  refine Runs.sR hE ⟨[(1, (.op 0 0 0))], [(0, vO 4 (TRat.cells x))], 32⟩ (C_28 2) [] [] (kp [1]) (kq [0]) 32 [] trivial ?_
  refine Runs.sA 1 [.code (C_28 6), .code (C_28 7)] ?_
  obtain ⟨rsign, hr, h⟩ := bindSome h
  obtain ⟨rbelow, hr2, h⟩ := bindSome h
  obtain ⟨rsign2, hr3, h⟩ := bindSome h
  refine Runs.sR hE ⟨[(2, (aI (w64 (rsign * rsign2))))], [], 160⟩ (C_28 6) [(2, ⟨[], true, (aI rsign), [], 0, false, none⟩), (4, ⟨[], true, (.agg (TInt.cells rbelow)), [], 0, false, none⟩), (5, ⟨[], true, (aI rsign2), [], 0, false, none⟩)] [] (kp [2]) [] 160 [0 < 1, Sound Try.prog 101 [(.agg (TInt.cells x.f_Num))] [] 0 (aI rsign) [], 0 < 1, Sound Try.prog 112 [(.agg (TRat.cells x))] [] 0 (.agg (TInt.cells rbelow)) [], Sound Try.prog 101 [(.agg (TInt.cells rbelow))] [] 0 (aI rsign2) []] ⟨o1, (g_e_sign_ok N x.f_Num rsign hr), o1, (g_e_below_ok N x rbelow hr2), (g_e_sign_ok N rbelow rsign2 hr3), trivial⟩ ?_
  obtain rfl := Option.some.inj h
  refine Runs.sW hE ⟨[(2, (aI (w64 (rsign * rsign2))))], [], 160⟩ [] (kp [2]) [] 160 [] trivial ?_
  exact Runs.sT Try.f115 [] [] trivial
noncomputable def C_27 (n : Nat) : Code := cat (bodyOf Try.f71) (pth n)
theorem g_e_CheckCurve_L1_ok (N : Nat) (c : TCurve) (fuel : Nat) : ∀ (x : Int) (r : Int), g_e_CheckCurve_L1 N c fuel x = some r → ∀ E, EnvOk E 0 → Runs Try.prog E 71 52 (SPost E [] (aI r)) [.code (C_27 244), .inLoop (C_27 244), .inBlock 0, .code (C_27 31)] ⟨[(1, (.op 0 0 0)), (17, (encL cI 0 c.f_Starts)), (18, (aI ((c.f_Starts.length : Nat) : Int))), (19, (aI x))], [(0, vO 2 (TCurve.cells c))], 1⟩ := by
  induction fuel with
  | zero => intro _ r h; rw [g_e_CheckCurve_L1.eq_1] at h; cases h
  | succ fuel ih =>
    intro x r h E hE
    rw [g_e_CheckCurve_L1.eq_2] at h
    refine Runs.sA 1 [.code (C_27 488), .code (C_27 489), .inLoop (C_27 244), .inBlock 0, .code (C_27 31)] ?_
    refine Runs.sR hE ⟨[(1, (.op 0 0 0)), (17, (encL cI 0 c.f_Starts)), (18, (aI ((c.f_Starts.length : Nat) : Int))), (19, (aI x)), (20, (aB (decide (x < ((c.f_Starts.length : Nat) : Int)))))], [(0, vO 2 (TCurve.cells c))], 17⟩ (C_27 488) [] [] (kp [1, 17, 18, 19, 20]) (kq [0]) 17 [] trivial ?_
    refine Runs.sA 1 [.code (C_27 978), .code (C_27 979), .inLoop (C_27 244), .inBlock 0, .code (C_27 31)] ?_
    refine Runs.sC 20 (C_27 1956) (C_27 1957) (decide (x < ((c.f_Starts.length : Nat) : Int))) (fun hq4 => ?_) (fun hq4 => ?_)
    · have h := condT h hq4
      refine Runs.sA 4 [.code (C_27 7832), .code (C_27 7833), .inBlock 1, .code (C_27 1959), .inLoop (C_27 244), .inBlock 0, .code (C_27 31)] ?_
      obtain ⟨c2, h⟩ := ifSome h
      refine Runs.sR hE ⟨[(1, (.op 0 0 0)), (3, (aI x)), (4, (aI (c.f_Starts.getD ((x).toNat) 0))), (17, (encL cI 0 c.f_Starts)), (18, (aI ((c.f_Starts.length : Nat) : Int))), (19, (aI x))], [(0, vO 2 (TCurve.cells c))], 97⟩ (C_27 7832) [] [] (kp [1, 3, 4, 17, 18, 19]) (kq [0]) 97 [0 ≤ x ∧ x < ((c.f_Starts.length : Nat) : Int)] ⟨c2, trivial⟩ ?_
      refine Runs.sA 2 [.code (C_27 31332), .code (C_27 31333), .code (C_27 15667), .inBlock 1, .code (C_27 1959), .inLoop (C_27 244), .inBlock 0, .code (C_27 31)] ?_
      obtain ⟨c3, h⟩ := ifSome h
      obtain ⟨rsignOf, hr, h⟩ := bindSome h
      refine Runs.sR hE ⟨[(1, (.op 0 0 0)), (3, (aI x)), (4, (aI (c.f_Starts.getD ((x).toNat) 0))), (17, (encL cI 0 c.f_Starts)), (18, (aI ((c.f_Starts.length : Nat) : Int))), (19, (aI x)), (38, (aB (cond (cond (decide ((c.f_Starts.getD ((x).toNat) 0) < (-10000000))) true (decide ((c.f_Starts.getD ((x).toNat) 0) > 10000000))) true (decide (rsignOf < 0)))))], [(0, vO 2 (TCurve.cells c))], 337⟩ (C_27 31332) [(12, ⟨[], true, (aI rsignOf), [], 0, false, none⟩)] [] (kp [1, 3, 4, 17, 18, 19, 38]) (kq [0]) 337 [(!(decide ((c.f_Starts.getD ((x).toNat) 0) < (-10000000)))) = true → AllP [(!(decide ((c.f_Starts.getD ((x).toNat) 0) < (-10000000)))) = true], (!(decide ((c.f_Starts.getD ((x).toNat) 0) < (-10000000)))) = true → AllP [(!(decide ((c.f_Starts.getD ((x).toNat) 0) < (-10000000)))) = true], (!(cond (decide ((c.f_Starts.getD ((x).toNat) 0) < (-10000000))) true (decide ((c.f_Starts.getD ((x).toNat) 0) > 10000000)))) = true → AllP [(!(cond (decide ((c.f_Starts.getD ((x).toNat) 0) < (-10000000))) true (decide ((c.f_Starts.getD ((x).toNat) 0) > 10000000)))) = true, 0 < 1], (!(cond (decide ((c.f_Starts.getD ((x).toNat) 0) < (-10000000))) true (decide ((c.f_Starts.getD ((x).toNat) 0) > 10000000)))) = true → AllP [(!(cond (decide ((c.f_Starts.getD ((x).toNat) 0) < (-10000000))) true (decide ((c.f_Starts.getD ((x).toNat) 0) > 10000000)))) = true, (!(cond (decide ((c.f_Starts.getD ((x).toNat) 0) < (-10000000))) true (decide ((c.f_Starts.getD ((x).toNat) 0) > 10000000)))) = true, 0 ≤ x ∧ x < ((c.f_Slopes.length : Nat) : Int)], (!(cond (decide ((c.f_Starts.getD ((x).toNat) 0) < (-10000000))) true (decide ((c.f_Starts.getD ((x).toNat) 0) > 10000000)))) = true → AllP [(!(cond (decide ((c.f_Starts.getD ((x).toNat) 0) < (-10000000))) true (decide ((c.f_Starts.getD ((x).toNat) 0) > 10000000)))) = true], (!(cond (decide ((c.f_Starts.getD ((x).toNat) 0) < (-10000000))) true (decide ((c.f_Starts.getD ((x).toNat) 0) > 10000000)))) = true → AllP [Sound Try.prog 115 [(.agg [(aB (((c.f_Slopes.getD ((x).toNat) TRat.d).f_Num).f_Neg)), (encL (cU .u16) 0 (((c.f_Slopes.getD ((x).toNat) TRat.d).f_Num).f_Limbs)), (aB (((c.f_Slopes.getD ((x).toNat) TRat.d).f_Den).f_Neg)), (encL (cU .u16) 0 (((c.f_Slopes.getD ((x).toNat) TRat.d).f_Den).f_Limbs))])] [] 0 (aI rsignOf) [], (!(cond (decide ((c.f_Starts.getD ((x).toNat) 0) < (-10000000))) true (decide ((c.f_Starts.getD ((x).toNat) 0) > 10000000)))) = true], (!(cond (decide ((c.f_Starts.getD ((x).toNat) 0) < (-10000000))) true (decide ((c.f_Starts.getD ((x).toNat) 0) > 10000000)))) = true → AllP [(!(cond (decide ((c.f_Starts.getD ((x).toNat) 0) < (-10000000))) true (decide ((c.f_Starts.getD ((x).toNat) 0) > 10000000)))) = true], (!(cond (decide ((c.f_Starts.getD ((x).toNat) 0) < (-10000000))) true (decide ((c.f_Starts.getD ((x).toNat) 0) > 10000000)))) = true → AllP [(!(cond (decide ((c.f_Starts.getD ((x).toNat) 0) < (-10000000))) true (decide ((c.f_Starts.getD ((x).toNat) 0) > 10000000)))) = true]] ⟨(fun hg => ⟨hg, trivial⟩), (fun hq => ⟨hq, trivial⟩), (fun hg => ⟨hg, o1, trivial⟩), (fun hg => ⟨hg, hg, (c3 hg), trivial⟩), (fun hg => ⟨hg, trivial⟩), (fun hg => ⟨(g_e_signOf_ok N (⟨((c.f_Slopes.getD ((x).toNat) TRat.d).f_Num), ((c.f_Slopes.getD ((x).toNat) TRat.d).f_Den)⟩ : TRat) rsignOf (condT hr hg)), hg, trivial⟩), (fun hg => ⟨hg, trivial⟩), (fun hq => ⟨hq, trivial⟩), trivial⟩ ?_
      refine Runs.sC 38 (C_27 62666) (C_27 62667) (cond (cond (decide ((c.f_Starts.getD ((x).toNat) 0) < (-10000000))) true (decide ((c.f_Starts.getD ((x).toNat) 0) > 10000000))) true (decide (rsignOf < 0))) (fun hq5 => ?_) (fun hq5 => ?_)
      · have h := condT h hq5
        refine Runs.sA 1 [.code (C_27 125332), .code (C_27 125333), .code (C_27 15667), .inBlock 1, .code (C_27 1959), .inLoop (C_27 244), .inBlock 0, .code (C_27 31)] ?_
        refine Runs.sR hE ⟨[(2, (aI 2))], [], 353⟩ (C_27 125332) [] [] (kp [2]) [] 353 [] trivial ?_
        obtain rfl := Option.some.inj h
        refine Runs.sW hE ⟨[(2, (aI 2))], [], 353⟩ [] (kp [2]) [] 353 [] trivial ?_
        exact Runs.sT Try.f71 [] [] trivial
      · have h := condF h hq5
        refine Runs.sA 2 [.code (C_27 31334), .code (C_27 31335), .inBlock 1, .code (C_27 1959), .inLoop (C_27 244), .inBlock 0, .code (C_27 31)] ?_
        obtain ⟨c4, h⟩ := ifSome h
        refine Runs.sR hE ⟨[(1, (.op 0 0 0)), (17, (encL cI 0 c.f_Starts)), (18, (aI ((c.f_Starts.length : Nat) : Int))), (19, (aI x)), (50, (aB (cond (decide (x > 0)) (decide ((c.f_Starts.getD ((x).toNat) 0) ≤ (c.f_Starts.getD ((w64 (x - 1)).toNat) 0))) false)))], [(0, vO 2 (TCurve.cells c))], 529⟩ (C_27 31334) [] [] (kp [1, 17, 18, 19, 50]) (kq [0]) 529 [(decide (x > 0)) = true → AllP [(decide (x > 0)) = true, 0 < 1], (decide (x > 0)) = true → AllP [(decide (x > 0)) = true], (decide (x > 0)) = true → AllP [(decide (x > 0)) = true, (decide (x > 0)) = true, 0 ≤ (w64 (x - 1)) ∧ (w64 (x - 1)) < ((c.f_Starts.length : Nat) : Int)], (decide (x > 0)) = true → AllP [(decide (x > 0)) = true], (decide (x > 0)) = true → AllP [(decide (x > 0)) = true, (decide (x > 0)) = true], (decide (x > 0)) = true → AllP [(decide (x > 0)) = true]] ⟨(fun hg => ⟨hg, o1, trivial⟩), (fun hg => ⟨hg, trivial⟩), (fun hg => ⟨hg, hg, (c4 hg), trivial⟩), (fun hg => ⟨hg, trivial⟩), (fun hg => ⟨hg, hg, trivial⟩), (fun hq => ⟨hq, trivial⟩), trivial⟩ ?_
        refine Runs.sC 50 (C_27 62670) (C_27 62671) (cond (decide (x > 0)) (decide ((c.f_Starts.getD ((x).toNat) 0) ≤ (c.f_Starts.getD ((w64 (x - 1)).toNat) 0))) false) (fun hq6 => ?_) (fun hq6 => ?_)
        · have h := condT h hq6
          refine Runs.sA 1 [.code (C_27 125340), .code (C_27 125341), .inBlock 1, .code (C_27 1959), .inLoop (C_27 244), .inBlock 0, .code (C_27 31)] ?_
          refine Runs.sR hE ⟨[(2, (aI 10))], [], 545⟩ (C_27 125340) [] [] (kp [2]) [] 545 [] trivial ?_
          obtain rfl := Option.some.inj h
          refine Runs.sW hE ⟨[(2, (aI 10))], [], 545⟩ [] (kp [2]) [] 545 [] trivial ?_
          exact Runs.sT Try.f71 [] [] trivial
        · have h := condF h hq6
          refine Runs.sA 2 [.code (C_27 1959), .inLoop (C_27 244), .inBlock 0, .code (C_27 31)] ?_
          refine Runs.sR hE ⟨[(1, (.op 0 0 0)), (17, (encL cI 0 c.f_Starts)), (18, (aI ((c.f_Starts.length : Nat) : Int))), (19, (aI (w64 (x + 1))))], [(0, vO 2 (TCurve.cells c))], 561⟩ (C_27 1959) [] [] (kp [1, 17, 18, 19]) (kq [0]) 561 [] trivial ?_
          refine Runs.sA 1 [.code (C_27 244), .inLoop (C_27 244), .inBlock 0, .code (C_27 31)] ?_
          exact Runs.sW hE _ [] (kp [1, 17, 18, 19]) (kq [0]) 1 [] trivial (ih (w64 (x + 1)) _ h E hE)
    · have h := condF h hq4
      refine Runs.sA 2 [.code (C_27 62), .code (C_27 63)] ?_
      refine Runs.sR hE ⟨[(2, (aI 0))], [], 33⟩ (C_27 62) [] [] (kp [2]) [] 33 [] trivial ?_
      obtain rfl := Option.some.inj h
      refine Runs.sW hE ⟨[(2, (aI 0))], [], 48⟩ [] (kp [2]) [] 48 [] trivial ?_
      exact Runs.sT Try.f71 [] [] trivial
theorem g_e_CheckCurve_ok (N : Nat) (c : TCurve) (r : Int) (h : g_e_CheckCurve N c = some r) : Sound Try.prog 71 [(.agg (TCurve.cells c))] [] 0 (aI r) [] := by
  unfold g_e_CheckCurve at h
  refine Sound.of_runs (fu := Try.f71) (c := C_27 1) (nt := 52) (by kernel_rfl) (by kernel_rfl) (by kernel_rfl) (by kernel_rfl) (fun hm => rfl) ?_
  intro E hE
  refine Runs.sA 1 [.code (C_27 2), .code (C_27 3)] ?_
  refine Runs.sR hE ⟨[(1, (.op 0 0 0))], [(0, vO 2 (TCurve.cells c))], 32⟩ (C_27 2) [] [] (kp [1]) (kq [0]) 32 [] trivial ?_
  refine Runs.sA 2 [.code (C_27 12), .code (C_27 13), .code (C_27 7)] ?_
  refine Runs.sR hE ⟨[(1, (.op 0 0 0)), (8, (aB (decide (((c.f_Starts.length : Nat) : Int) > 40))))], [(0, vO 2 (TCurve.cells c))], 96⟩ (C_27 12) [] [] (kp [1, 8]) (kq [0]) 96 [0 < 1] ⟨o1, trivial⟩ ?_
  refine Runs.sC 8 (C_27 26) (C_27 27) (decide (((c.f_Starts.length : Nat) : Int) > 40)) (fun hq2 => ?_) (fun hq2 => ?_)
  · have h := condT h hq2
    refine Runs.sA 1 [.code (C_27 52), .code (C_27 53), .code (C_27 7)] ?_
    refine Runs.sR hE ⟨[(2, (aI 8))], [], 112⟩ (C_27 52) [] [] (kp [2]) [] 112 [] trivial ?_
    obtain rfl := Option.some.inj h
    refine Runs.sW hE ⟨[(2, (aI 8))], [], 112⟩ [] (kp [2]) [] 112 [] trivial ?_
    exact Runs.sT Try.f71 [] [] trivial
  · have h := condF h hq2
    refine Runs.sA 3 [.code (C_27 28), .code (C_27 29), .code (C_27 15)] ?_
    refine Runs.sR hE ⟨[(1, (.op 0 0 0)), (15, (aB (((c.f_Slopes.length : Nat) : Int) != ((c.f_Starts.length : Nat) : Int))))], [(0, vO 2 (TCurve.cells c))], 208⟩ (C_27 28) [] [] (kp [1, 15]) (kq [0]) 208 [0 < 1, 0 < 1] ⟨o1, o1, trivial⟩ ?_
    refine Runs.sC 15 (C_27 58) (C_27 59) (((c.f_Slopes.length : Nat) : Int) != ((c.f_Starts.length : Nat) : Int)) (fun hq3 => ?_) (fun hq3 => ?_)
    · have h := condT h hq3
      refine Runs.sA 1 [.code (C_27 116), .code (C_27 117), .code (C_27 15)] ?_
      refine Runs.sR hE ⟨[(2, (aI 11))], [], 224⟩ (C_27 116) [] [] (kp [2]) [] 224 [] trivial ?_
      obtain rfl := Option.some.inj h
      refine Runs.sW hE ⟨[(2, (aI 11))], [], 224⟩ [] (kp [2]) [] 224 [] trivial ?_
      exact Runs.sT Try.f71 [] [] trivial
    · have h := condF h hq3
      refine Runs.sA 3 [.code (C_27 60), .code (C_27 61), .code (C_27 31)] ?_
      refine Runs.sR hE ⟨[(1, (.op 0 0 0)), (17, (encL cI 0 c.f_Starts)), (18, (aI ((c.f_Starts.length : Nat) : Int))), (19, (aI 0))], [(0, vO 2 (TCurve.cells c))], 272⟩ (C_27 60) [] [] (kp [1, 17, 18, 19]) (kq [0]) 272 [0 < 1] ⟨o1, trivial⟩ ?_
      refine Runs.sA 2 [.code (C_27 244), .inLoop (C_27 244), .inBlock 0, .code (C_27 31)] ?_
      exact Runs.sW hE _ [] (kp [1, 17, 18, 19]) (kq [0]) 1 [] trivial (g_e_CheckCurve_L1_ok N c N 0 _ h E hE)
noncomputable def C_32 (n : Nat) : Code := cat (bodyOf Try.f37) (pth n)
theorem g_e_Whole_ok (N : Nat) (a : TInt) (r : TRat) (h : g_e_Whole N a = some r) : Sound Try.prog 37 [(.agg (TInt.cells a))] [] 0 (.agg (TRat.cells r)) [] := by
  unfold g_e_Whole at h
  refine Sound.of_runs (fu := Try.f37) (c := C_32 1) (nt := 7) (by kernel_rfl) (by kernel_rfl) (by kernel_rfl) (by kernel_rfl) (fun hm => rfl) ?_
  intro E hE
  refine Runs.sA 1 [.code (C_32 2), .code (C_32 3)] ?_
  refine Runs.sR hE ⟨[(1, (.op 0 0 0)), (2, (.op 16 0 0))], [(0, vO 2 (TInt.cells a)), (16, vO 4 [(aB false), .nil, (aB false), .nil])], 32⟩ (C_32 2) [] [] (kp [1, 2]) (kq [0, 16]) 32 [] trivial ?_
  refine Runs.sA 1 [.code (C_32 6), .code (C_32 7)] ?_
  obtain ⟨rfraction, hr, h⟩ := bindSome h
  refine Runs.sR hE ⟨[(2, (.op 16 0 0))], [(16, vO 4 (TRat.cells rfraction))], 112⟩ (C_32 6) [(3, ⟨[], true, (.agg (TRat.cells rfraction)), [], 0, true, none⟩)] [] (kp [2]) (kq [16]) 112 [0 < 1, Sound Try.prog 111 [(.agg (TInt.cells a)), (.agg [(aB false), (.sl 1 (fun zi => (fun zi => ([[(.atom (.int .u16 1))]] : List (List AV)).getD zi []) (addz 0 zi)))])] [] 0 (.agg (TRat.cells rfraction)) [], 0 + 1 ≤ 1, 0 < 1] ⟨o1, (Sound.conv (g_e_fraction_ok N a (⟨false, ([1] : List Int)⟩ : TInt) rfraction hr) (.cons (Alike.refl _) (.cons (Alike.agg (.cons (Alike.refl _) (.cons (Alike.sl rfl (fun zq hzq => get_chunk (cU .u16) 0 ([1] : List Int) zq hzq)) .nil))) .nil))), z0, o1, trivial⟩ ?_
  obtain rfl := Option.some.inj h
  refine Runs.sW hE ⟨[(2, (.op 16 0 0))], [(16, vO 4 (TRat.cells rfraction))], 112⟩ [] (kp [2]) (kq [16]) 112 [] trivial ?_
  exact Runs.sT Try.f37 [16] [0 < 1] ⟨o1, trivial⟩
noncomputable def C_31 (n : Nat) : Code := cat (bodyOf Try.f122) (pth n)
theorem g_e_number_ok (N : Nat) (n : Int) (r : TRat) (h : g_e_number N n = some r) : Sound Try.prog 122 [(aI n)] [] 0 (.agg (TRat.cells r)) [] := by
  unfold g_e_number at h
  refine Sound.of_runs (fu := Try.f122) (c := C_31 1) (nt := 6) (by kernel_rfl) (by kernel_rfl) (by kernel_rfl) (by kernel_rfl) (fun hm => rfl) ?_
  intro E hE
  refine Runs.sA 1 [.code (C_31 2), .code (C_31 3)] ?_
  refine Runs.sR hE ⟨[(0, (aI n)), (2, (.op 0 0 0))], [(0, vO 4 [(aB false), .nil, (aB false), .nil])], 16⟩ (C_31 2) [] [] (kp [0, 2]) (kq [0]) 16 [] trivial ?_
  refine Runs.sA 1 [.code (C_31 6), .code (C_31 7)] ?_
  obtain ⟨rOf, hr, h⟩ := bindSome h
  obtain ⟨rWhole, hr2, h⟩ := bindSome h
  refine Runs.sR hE ⟨[(2, (.op 0 0 0))], [(0, vO 4 (TRat.cells rWhole))], 80⟩ (C_31 6) [(1, ⟨[], true, (.agg (TInt.cells rOf)), [], 0, false, none⟩), (2, ⟨[], true, (.agg (TRat.cells rWhole)), [], 0, false, none⟩)] [] (kp [2]) (kq [0]) 80 [Sound Try.prog 19 [(aI n)] [] 0 (.agg (TInt.cells rOf)) [], Sound Try.prog 37 [(.agg (TInt.cells rOf))] [] 0 (.agg (TRat.cells rWhole)) [], 0 < 1] ⟨(g_e_Of_ok N n rOf hr), (g_e_Whole_ok N rOf rWhole hr2), o1, trivial⟩ ?_
  obtain rfl := Option.some.inj h
  refine Runs.sW hE ⟨[(2, (.op 16 0 0))], [(16, vO 4 (TRat.cells rWhole))], 80⟩ [] (kp [2]) [(16, .keep 0)] 80 [] trivial ?_
  exact Runs.sT Try.f122 [16] [0 < 1] ⟨o1, trivial⟩
noncomputable def C_33 (n : Nat) : Code := cat (bodyOf Try.f123) (pth n)
theorem g_e_ramps_ok (N : Nat) (c : TCurve) (y : TRat) (r : TCurve × TRat) (h : g_e_ramps N c y = some r) : Sound Try.prog 123 [(.agg (TCurve.cells c)), (.agg (TRat.cells y))] [] 0 (.fn (.func 159) [] [(.op 0 0 0), (.op 1 0 0)]) [(0, vO 2 (TCurve.cells r.1)), (1, vO 4 (TRat.cells r.2))] := by
  unfold g_e_ramps at h
  refine Sound.of_runs (fu := Try.f123) (c := C_33 1) (nt := 6) (by kernel_rfl) (by kernel_rfl) (by kernel_rfl) (by kernel_rfl) (fun hm => rfl) ?_
  intro E hE
  refine Runs.sA 1 [.code (C_33 2), .code (C_33 3)] ?_
  refine Runs.sR hE ⟨[(2, (.op 0 0 0)), (3, (.op 16 0 0))], [(0, vO 2 (TCurve.cells c)), (16, vO 4 (TRat.cells y))], 48⟩ (C_33 2) [] [] (kp [2, 3]) (kq [0, 16]) 48 [] trivial ?_
  refine Runs.sA 1 [.code (C_33 6), .code (C_33 7)] ?_
  refine Runs.sR hE ⟨[(4, (.fn (.func 159) [] [(.op 0 0 0), (.op 16 0 0)]))], [(0, vO 2 (TCurve.cells c)), (16, vO 4 (TRat.cells y))], 80⟩ (C_33 6) [] [] (kp [4]) (kq [0, 16]) 80 [] trivial ?_
  obtain rfl := Option.some.inj h
  refine Runs.sW hE ⟨[(4, (.fn (.func 159) [] [(.op 0 0 0), (.op 1 0 0)]))], [(0, vO 2 (TCurve.cells c)), (1, vO 4 (TRat.cells y))], 80⟩ [] (kp [4]) (kq [0] ++ [(1, .keep 16)]) 80 [] trivial ?_
  exact Runs.sT Try.f123 [] [] trivial
noncomputable def C_36 (n : Nat) : Code := cat (bodyOf Try.f97) (pth n)
theorem g_e_times_L2_ok (N : Nat) (a : List Int) (b : List Int) (x : Int) (K_g_e_times_L1 : (List Int) → Int → Option ((List Int)))
    (hK_g_e_times_L1 : ∀ (out : List Int) (x : Int) (r : (List Int)), K_g_e_times_L1 out x = some r → ∀ E, EnvOk E 0 → Runs Try.prog E 97 67 (SPost E [] (encL (cU .u16) 0 r)) [.code (C_36 116), .inLoop (C_36 116), .inBlock 0, .code (C_36 15)] ⟨[(1, (encL (cU .u16) 0 b)), (5, (.os 0 0 out.length)), (17, (encL (cU .u16) 0 a)), (18, (aI ((a.length : Nat) : Int))), (19, (aI x))], [(0, aO 1 (cU .u16) 0 out)], 1⟩) (fuel : Nat) : ∀ (out2 : List Int) (carry : Int) (x2 : Int) (r : (List Int)), g_e_times_L2 N a b x K_g_e_times_L1 fuel out2 carry x2 = some r → ∀ E, EnvOk E 0 → Runs Try.prog E 97 67 (SPost E [] (encL (cU .u16) 0 r)) [.code (C_36 119604), .inLoop (C_36 119604), .inBlock 2, .code (C_36 14951), .inBlock 1, .code (C_36 935), .inLoop (C_36 116), .inBlock 0, .code (C_36 15)] ⟨[(1, (encL (cU .u16) 0 b)), (5, (.os 0 0 out2.length)), (6, (aI x)), (7, (.atom (.int .u16 (a.getD ((x).toNat) 0)))), (8, (.atom (.int .u32 carry))), (17, (encL (cU .u16) 0 a)), (18, (aI ((a.length : Nat) : Int))), (19, (aI x)), (24, (encL (cU .u16) 0 b)), (25, (aI ((b.length : Nat) : Int))), (26, (aI x2))], [(0, aO 1 (cU .u16) 0 out2)], 1⟩ := by
  induction fuel with
  | zero => intro _ _ _ r h; rw [g_e_times_L2.eq_1] at h; cases h
  | succ fuel ih =>
    intro out2 carry x2 r h E hE
    rw [g_e_times_L2.eq_2] at h
    refine Runs.sA 1 [.code (C_36 239208), .code (C_36 239209), .inLoop (C_36 119604), .inBlock 2, .code (C_36 14951), .inBlock 1, .code (C_36 935), .inLoop (C_36 116), .inBlock 0, .code (C_36 15)] ?_
    refine Runs.sR hE ⟨[(1, (encL (cU .u16) 0 b)), (5, (.os 0 0 out2.length)), (6, (aI x)), (7, (.atom (.int .u16 (a.getD ((x).toNat) 0)))), (8, (.atom (.int .u32 carry))), (17, (encL (cU .u16) 0 a)), (18, (aI ((a.length : Nat) : Int))), (19, (aI x)), (24, (encL (cU .u16) 0 b)), (25, (aI ((b.length : Nat) : Int))), (26, (aI x2)), (27, (aB (decide (x2 < ((b.length : Nat) : Int)))))], [(0, aO 1 (cU .u16) 0 out2)], 17⟩ (C_36 239208) [] [] (kp [1, 5, 6, 7, 8, 17, 18, 19, 24, 25, 26, 27]) (kq [0]) 17 [] trivial ?_
    refine Runs.sA 1 [.code (C_36 478418), .code (C_36 478419), .inLoop (C_36 119604), .inBlock 2, .code (C_36 14951), .inBlock 1, .code (C_36 935), .inLoop (C_36 116), .inBlock 0, .code (C_36 15)] ?_
    refine Runs.sC 27 (C_36 956836) (C_36 956837) (decide (x2 < ((b.length : Nat) : Int))) (fun hq3 => ?_) (fun hq3 => ?_)
    · have h := condT h hq3
      refine Runs.sA 4 [.code (C_36 3827352), .code (C_36 3827353), .inBlock 3, .code (C_36 956839), .inLoop (C_36 119604), .inBlock 2, .code (C_36 14951), .inBlock 1, .code (C_36 935), .inLoop (C_36 116), .inBlock 0, .code (C_36 15)] ?_
      obtain ⟨c3, h⟩ := ifSome h
      refine Runs.sR hE ⟨[(1, (encL (cU .u16) 0 b)), (5, (.os 0 0 out2.length)), (6, (aI x)), (7, (.atom (.int .u16 (a.getD ((x).toNat) 0)))), (8, (.atom (.int .u32 carry))), (9, (aI x2)), (10, (.atom (.int .u16 (b.getD ((x2).toNat) 0)))), (17, (encL (cU .u16) 0 a)), (18, (aI ((a.length : Nat) : Int))), (19, (aI x)), (24, (encL (cU .u16) 0 b)), (25, (aI ((b.length : Nat) : Int))), (26, (aI x2))], [(0, aO 1 (cU .u16) 0 out2)], 97⟩ (C_36 3827352) [] [] (kp [1, 5, 6, 7, 8, 9, 10, 17, 18, 19, 24, 25, 26]) (kq [0]) 97 [0 ≤ x2 ∧ x2 < ((b.length : Nat) : Int)] ⟨c3, trivial⟩ ?_
      refine Runs.sA 1 [.code (C_36 7654706), .code (C_36 7654707), .inBlock 3, .code (C_36 956839), .inLoop (C_36 119604), .inBlock 2, .code (C_36 14951), .inBlock 1, .code (C_36 935), .inLoop (C_36 116), .inBlock 0, .code (C_36 15)] ?_
      obtain ⟨c4, h⟩ := ifSome h
      refine Runs.sR hE ⟨[(1, (encL (cU .u16) 0 b)), (5, (.os 0 0 out2.length)), (6, (aI x)), (7, (.atom (.int .u16 (a.getD ((x).toNat) 0)))), (8, (.atom (.int .u32 (IntKind.u32.wrap (carry + (IntKind.u32.wrap ((IntKind.u32.wrap ((IntKind.u32.wrap ((a.getD ((x).toNat) 0))) * (IntKind.u32.wrap ((b.getD ((x2).toNat) 0))))) + (IntKind.u32.wrap ((out2.getD ((w64 (x + x2)).toNat) 0)))))))))), (9, (aI x2)), (17, (encL (cU .u16) 0 a)), (18, (aI ((a.length : Nat) : Int))), (19, (aI x)), (24, (encL (cU .u16) 0 b)), (25, (aI ((b.length : Nat) : Int))), (26, (aI x2))], [(0, aO 1 (cU .u16) 0 out2)], 353⟩ (C_36 7654706) [] [] (kp [1, 5, 6, 7, 8, 9, 17, 18, 19, 24, 25, 26]) (kq [0]) 353 [0 ≤ (w64 (x + x2)) ∧ (w64 (x + x2)) < ((out2.length : Nat) : Int), (w64 (x + x2)).toNat < out2.length] ⟨c4, (ltOf c4), trivial⟩ ?_
      refine Runs.sA 1 [.code (C_36 15309414), .code (C_36 15309415), .inBlock 3, .code (C_36 956839), .inLoop (C_36 119604), .inBlock 2, .code (C_36 14951), .inBlock 1, .code (C_36 935), .inLoop (C_36 116), .inBlock 0, .code (C_36 15)] ?_
      refine Runs.sR hE ⟨[(1, (encL (cU .u16) 0 b)), (5, (.os 0 0 ((out2.set ((w64 (x + x2)).toNat) (IntKind.u16.wrap ((IntKind.u32.wrap (carry + (IntKind.u32.wrap ((IntKind.u32.wrap ((IntKind.u32.wrap ((a.getD ((x).toNat) 0))) * (IntKind.u32.wrap ((b.getD ((x2).toNat) 0))))) + (IntKind.u32.wrap ((out2.getD ((w64 (x + x2)).toNat) 0)))))))))).length))), (6, (aI x)), (7, (.atom (.int .u16 (a.getD ((x).toNat) 0)))), (8, (.atom (.int .u32 (IntKind.u32.wrap (carry + (IntKind.u32.wrap ((IntKind.u32.wrap ((IntKind.u32.wrap ((a.getD ((x).toNat) 0))) * (IntKind.u32.wrap ((b.getD ((x2).toNat) 0))))) + (IntKind.u32.wrap ((out2.getD ((w64 (x + x2)).toNat) 0)))))))))), (17, (encL (cU .u16) 0 a)), (18, (aI ((a.length : Nat) : Int))), (19, (aI x)), (24, (encL (cU .u16) 0 b)), (25, (aI ((b.length : Nat) : Int))), (26, (aI x2))], [(0, aO 1 (cU .u16) 0 (out2.set ((w64 (x + x2)).toNat) (IntKind.u16.wrap ((IntKind.u32.wrap (carry + (IntKind.u32.wrap ((IntKind.u32.wrap ((IntKind.u32.wrap ((a.getD ((x).toNat) 0))) * (IntKind.u32.wrap ((b.getD ((x2).toNat) 0))))) + (IntKind.u32.wrap ((out2.getD ((w64 (x + x2)).toNat) 0)))))))))))], 481⟩ (C_36 15309414) [] [] (kp [1] ++ [(5, .osl ((out2.set ((w64 (x + x2)).toNat) (IntKind.u16.wrap ((IntKind.u32.wrap (carry + (IntKind.u32.wrap ((IntKind.u32.wrap ((IntKind.u32.wrap ((a.getD ((x).toNat) 0))) * (IntKind.u32.wrap ((b.getD ((x2).toNat) 0))))) + (IntKind.u32.wrap ((out2.getD ((w64 (x + x2)).toNat) 0)))))))))).length))] ++ kp [6, 7, 8, 17, 18, 19, 24, 25, 26]) [(0, .arr 0 ((out2.set ((w64 (x + x2)).toNat) (IntKind.u16.wrap ((IntKind.u32.wrap (carry + (IntKind.u32.wrap ((IntKind.u32.wrap ((IntKind.u32.wrap ((a.getD ((x).toNat) 0))) * (IntKind.u32.wrap ((b.getD ((x2).toNat) 0))))) + (IntKind.u32.wrap ((out2.getD ((w64 (x + x2)).toNat) 0)))))))))).length) (fun zi => (cU .u16) ((out2.set ((w64 (x + x2)).toNat) (IntKind.u16.wrap ((IntKind.u32.wrap (carry + (IntKind.u32.wrap ((IntKind.u32.wrap ((IntKind.u32.wrap ((a.getD ((x).toNat) 0))) * (IntKind.u32.wrap ((b.getD ((x2).toNat) 0))))) + (IntKind.u32.wrap ((out2.getD ((w64 (x + x2)).toNat) 0)))))))))).getD zi 0)))] 481 [0 ≤ (w64 (x + x2)) ∧ (w64 (x + x2)) < ((out2.length : Nat) : Int), (w64 (x + x2)).toNat < out2.length, out2.length = (out2.set ((w64 (x + x2)).toNat) (IntKind.u16.wrap ((IntKind.u32.wrap (carry + (IntKind.u32.wrap ((IntKind.u32.wrap ((IntKind.u32.wrap ((a.getD ((x).toNat) 0))) * (IntKind.u32.wrap ((b.getD ((x2).toNat) 0))))) + (IntKind.u32.wrap ((out2.getD ((w64 (x + x2)).toNat) 0)))))))))).length, out2.length = (out2.set ((w64 (x + x2)).toNat) (IntKind.u16.wrap ((IntKind.u32.wrap (carry + (IntKind.u32.wrap ((IntKind.u32.wrap ((IntKind.u32.wrap ((a.getD ((x).toNat) 0))) * (IntKind.u32.wrap ((b.getD ((x2).toNat) 0))))) + (IntKind.u32.wrap ((out2.getD ((w64 (x + x2)).toNat) 0)))))))))).length, ∀ zi, zi < (out2.set ((w64 (x + x2)).toNat) (IntKind.u16.wrap ((IntKind.u32.wrap (carry + (IntKind.u32.wrap ((IntKind.u32.wrap ((IntKind.u32.wrap ((a.getD ((x).toNat) 0))) * (IntKind.u32.wrap ((b.getD ((x2).toNat) 0))))) + (IntKind.u32.wrap ((out2.getD ((w64 (x + x2)).toNat) 0)))))))))).length → (fun zi => (cU .u16) ((out2.set ((w64 (x + x2)).toNat) (IntKind.u16.wrap ((IntKind.u32.wrap (carry + (IntKind.u32.wrap ((IntKind.u32.wrap ((IntKind.u32.wrap ((a.getD ((x).toNat) 0))) * (IntKind.u32.wrap ((b.getD ((x2).toNat) 0))))) + (IntKind.u32.wrap ((out2.getD ((w64 (x + x2)).toNat) 0)))))))))).getD zi 0)) zi = ((fun zm => if zm = (w64 (x + x2)).toNat then [(.atom (.int .u16 (IntKind.u16.wrap ((IntKind.u32.wrap (carry + (IntKind.u32.wrap ((IntKind.u32.wrap ((IntKind.u32.wrap ((a.getD ((x).toNat) 0))) * (IntKind.u32.wrap ((b.getD ((x2).toNat) 0))))) + (IntKind.u32.wrap ((out2.getD ((w64 (x + x2)).toNat) 0)))))))))))] else (fun zi => (cU .u16) (out2.getD zi 0)) zm)) zi] ⟨c4, (ltOf c4), (len_set_raw rfl), (len_set_raw rfl), (get_set_raw (cU .u16) 0 out2 ((w64 (x + x2)).toNat) (IntKind.u16.wrap ((IntKind.u32.wrap (carry + (IntKind.u32.wrap ((IntKind.u32.wrap ((IntKind.u32.wrap ((a.getD ((x).toNat) 0))) * (IntKind.u32.wrap ((b.getD ((x2).toNat) 0))))) + (IntKind.u32.wrap ((out2.getD ((w64 (x + x2)).toNat) 0))))))))) (fun _ _ => rfl)), trivial⟩ ?_
      refine Runs.sR hE ⟨[(1, (encL (cU .u16) 0 b)), (5, (.os 0 0 ((out2.set ((w64 (x + x2)).toNat) (IntKind.u16.wrap ((IntKind.u32.wrap (carry + (IntKind.u32.wrap ((IntKind.u32.wrap ((IntKind.u32.wrap ((a.getD ((x).toNat) 0))) * (IntKind.u32.wrap ((b.getD ((x2).toNat) 0))))) + (IntKind.u32.wrap ((out2.getD ((w64 (x + x2)).toNat) 0)))))))))).length))), (6, (aI x)), (7, (.atom (.int .u16 (a.getD ((x).toNat) 0)))), (8, (.atom (.int .u32 (shrI .u32 (IntKind.u32.wrap (carry + (IntKind.u32.wrap ((IntKind.u32.wrap ((IntKind.u32.wrap ((a.getD ((x).toNat) 0))) * (IntKind.u32.wrap ((b.getD ((x2).toNat) 0))))) + (IntKind.u32.wrap ((out2.getD ((w64 (x + x2)).toNat) 0))))))) 16)))), (17, (encL (cU .u16) 0 a)), (18, (aI ((a.length : Nat) : Int))), (19, (aI x)), (24, (encL (cU .u16) 0 b)), (25, (aI ((b.length : Nat) : Int))), (26, (aI x2))], [(0, aO 1 (cU .u16) 0 (out2.set ((w64 (x + x2)).toNat) (IntKind.u16.wrap ((IntKind.u32.wrap (carry + (IntKind.u32.wrap ((IntKind.u32.wrap ((IntKind.u32.wrap ((a.getD ((x).toNat) 0))) * (IntKind.u32.wrap ((b.getD ((x2).toNat) 0))))) + (IntKind.u32.wrap ((out2.getD ((w64 (x + x2)).toNat) 0)))))))))))], 529⟩ (C_36 15309415) [] [] (kp [1, 5, 6, 7, 8, 17, 18, 19, 24, 25, 26]) (kq [0]) 529 [(0 : Int) ≤ 16] ⟨(by decide), trivial⟩ ?_
      refine Runs.sA 1 [.code (C_36 956839), .inLoop (C_36 119604), .inBlock 2, .code (C_36 14951), .inBlock 1, .code (C_36 935), .inLoop (C_36 116), .inBlock 0, .code (C_36 15)] ?_
      refine Runs.sR hE ⟨[(1, (encL (cU .u16) 0 b)), (5, (.os 0 0 ((out2.set ((w64 (x + x2)).toNat) (IntKind.u16.wrap ((IntKind.u32.wrap (carry + (IntKind.u32.wrap ((IntKind.u32.wrap ((IntKind.u32.wrap ((a.getD ((x).toNat) 0))) * (IntKind.u32.wrap ((b.getD ((x2).toNat) 0))))) + (IntKind.u32.wrap ((out2.getD ((w64 (x + x2)).toNat) 0)))))))))).length))), (6, (aI x)), (7, (.atom (.int .u16 (a.getD ((x).toNat) 0)))), (8, (.atom (.int .u32 (shrI .u32 (IntKind.u32.wrap (carry + (IntKind.u32.wrap ((IntKind.u32.wrap ((IntKind.u32.wrap ((a.getD ((x).toNat) 0))) * (IntKind.u32.wrap ((b.getD ((x2).toNat) 0))))) + (IntKind.u32.wrap ((out2.getD ((w64 (x + x2)).toNat) 0))))))) 16)))), (17, (encL (cU .u16) 0 a)), (18, (aI ((a.length : Nat) : Int))), (19, (aI x)), (24, (encL (cU .u16) 0 b)), (25, (aI ((b.length : Nat) : Int))), (26, (aI (w64 (x2 + 1))))], [(0, aO 1 (cU .u16) 0 (out2.set ((w64 (x + x2)).toNat) (IntKind.u16.wrap ((IntKind.u32.wrap (carry + (IntKind.u32.wrap ((IntKind.u32.wrap ((IntKind.u32.wrap ((a.getD ((x).toNat) 0))) * (IntKind.u32.wrap ((b.getD ((x2).toNat) 0))))) + (IntKind.u32.wrap ((out2.getD ((w64 (x + x2)).toNat) 0)))))))))))], 561⟩ (C_36 956839) [] [] (kp [1, 5, 6, 7, 8, 17, 18, 19, 24, 25, 26]) (kq [0]) 561 [] trivial ?_
      refine Runs.sA 1 [.code (C_36 119604), .inLoop (C_36 119604), .inBlock 2, .code (C_36 14951), .inBlock 1, .code (C_36 935), .inLoop (C_36 116), .inBlock 0, .code (C_36 15)] ?_
      exact Runs.sW hE _ [] (kp [1, 5, 6, 7, 8, 17, 18, 19, 24, 25, 26]) (kq [0]) 1 [] trivial (ih (out2.set ((w64 (x + x2)).toNat) (IntKind.u16.wrap ((IntKind.u32.wrap (carry + (IntKind.u32.wrap ((IntKind.u32.wrap ((IntKind.u32.wrap ((a.getD ((x).toNat) 0))) * (IntKind.u32.wrap ((b.getD ((x2).toNat) 0))))) + (IntKind.u32.wrap ((out2.getD ((w64 (x + x2)).toNat) 0)))))))))) (shrI .u32 (IntKind.u32.wrap (carry + (IntKind.u32.wrap ((IntKind.u32.wrap ((IntKind.u32.wrap ((a.getD ((x).toNat) 0))) * (IntKind.u32.wrap ((b.getD ((x2).toNat) 0))))) + (IntKind.u32.wrap ((out2.getD ((w64 (x + x2)).toNat) 0))))))) 16) (w64 (x2 + 1)) _ h E hE)
    · have h := condF h hq3
      refine Runs.sA 1 [.code (C_36 14951), .inBlock 1, .code (C_36 935), .inLoop (C_36 116), .inBlock 0, .code (C_36 15)] ?_
      obtain ⟨c5, h⟩ := ifSome h
      refine Runs.sR hE ⟨[(1, (encL (cU .u16) 0 b)), (5, (.os 0 0 ((out2.set ((w64 (x + ((b.length : Nat) : Int))).toNat) (IntKind.u16.wrap (carry))).length))), (17, (encL (cU .u16) 0 a)), (18, (aI ((a.length : Nat) : Int))), (19, (aI x))], [(0, aO 1 (cU .u16) 0 (out2.set ((w64 (x + ((b.length : Nat) : Int))).toNat) (IntKind.u16.wrap (carry))))], 161⟩ (C_36 14951) [] [] (kp [1] ++ [(5, .osl ((out2.set ((w64 (x + ((b.length : Nat) : Int))).toNat) (IntKind.u16.wrap (carry))).length))] ++ kp [17, 18, 19]) [(0, .arr 0 ((out2.set ((w64 (x + ((b.length : Nat) : Int))).toNat) (IntKind.u16.wrap (carry))).length) (fun zi => (cU .u16) ((out2.set ((w64 (x + ((b.length : Nat) : Int))).toNat) (IntKind.u16.wrap (carry))).getD zi 0)))] 161 [0 ≤ (w64 (x + ((b.length : Nat) : Int))) ∧ (w64 (x + ((b.length : Nat) : Int))) < ((out2.length : Nat) : Int), (w64 (x + ((b.length : Nat) : Int))).toNat < out2.length, out2.length = (out2.set ((w64 (x + ((b.length : Nat) : Int))).toNat) (IntKind.u16.wrap (carry))).length, out2.length = (out2.set ((w64 (x + ((b.length : Nat) : Int))).toNat) (IntKind.u16.wrap (carry))).length, ∀ zi, zi < (out2.set ((w64 (x + ((b.length : Nat) : Int))).toNat) (IntKind.u16.wrap (carry))).length → (fun zi => (cU .u16) ((out2.set ((w64 (x + ((b.length : Nat) : Int))).toNat) (IntKind.u16.wrap (carry))).getD zi 0)) zi = ((fun zm => if zm = (w64 (x + ((b.length : Nat) : Int))).toNat then [(.atom (.int .u16 (IntKind.u16.wrap (carry))))] else (fun zi => (cU .u16) (out2.getD zi 0)) zm)) zi] ⟨c5, (ltOf c5), (len_set_raw rfl), (len_set_raw rfl), (get_set_raw (cU .u16) 0 out2 ((w64 (x + ((b.length : Nat) : Int))).toNat) (IntKind.u16.wrap (carry)) (fun _ _ => rfl)), trivial⟩ ?_
      refine Runs.sA 1 [.code (C_36 935), .inLoop (C_36 116), .inBlock 0, .code (C_36 15)] ?_
      refine Runs.sR hE ⟨[(1, (encL (cU .u16) 0 b)), (5, (.os 0 0 ((out2.set ((w64 (x + ((b.length : Nat) : Int))).toNat) (IntKind.u16.wrap (carry))).length))), (17, (encL (cU .u16) 0 a)), (18, (aI ((a.length : Nat) : Int))), (19, (aI (w64 (x + 1))))], [(0, aO 1 (cU .u16) 0 (out2.set ((w64 (x + ((b.length : Nat) : Int))).toNat) (IntKind.u16.wrap (carry))))], 193⟩ (C_36 935) [] [] (kp [1, 5, 17, 18, 19]) (kq [0]) 193 [] trivial ?_
      refine Runs.sA 1 [.code (C_36 116), .inLoop (C_36 116), .inBlock 0, .code (C_36 15)] ?_
      exact Runs.sW hE _ [] (kp [1, 5, 17, 18, 19]) (kq [0]) 1 [] trivial (hK_g_e_times_L1 (out2.set ((w64 (x + ((b.length : Nat) : Int))).toNat) (IntKind.u16.wrap (carry))) (w64 (x + 1)) _ h E hE)
theorem g_e_times_L1_ok (N : Nat) (a : List Int) (b : List Int) (fuel : Nat) : ∀ (out : List Int) (x : Int) (r : (List Int)), g_e_times_L1 N a b fuel out x = some r → ∀ E, EnvOk E 0 → Runs Try.prog E 97 67 (SPost E [] (encL (cU .u16) 0 r)) [.code (C_36 116), .inLoop (C_36 116), .inBlock 0, .code (C_36 15)] ⟨[(1, (encL (cU .u16) 0 b)), (5, (.os 0 0 out.length)), (17, (encL (cU .u16) 0 a)), (18, (aI ((a.length : Nat) : Int))), (19, (aI x))], [(0, aO 1 (cU .u16) 0 out)], 1⟩ := by
  induction fuel with
  | zero => intro _ _ r h; rw [g_e_times_L1.eq_1] at h; cases h
  | succ fuel ih =>
    intro out x r h E hE
    rw [g_e_times_L1.eq_2] at h
    refine Runs.sA 1 [.code (C_36 232), .code (C_36 233), .inLoop (C_36 116), .inBlock 0, .code (C_36 15)] ?_
    refine Runs.sR hE ⟨[(1, (encL (cU .u16) 0 b)), (5, (.os 0 0 out.length)), (17, (encL (cU .u16) 0 a)), (18, (aI ((a.length : Nat) : Int))), (19, (aI x)), (20, (aB (decide (x < ((a.length : Nat) : Int)))))], [(0, aO 1 (cU .u16) 0 out)], 17⟩ (C_36 232) [] [] (kp [1, 5, 17, 18, 19, 20]) (kq [0]) 17 [] trivial ?_
    refine Runs.sA 1 [.code (C_36 466), .code (C_36 467), .inLoop (C_36 116), .inBlock 0, .code (C_36 15)] ?_
    refine Runs.sC 20 (C_36 932) (C_36 933) (decide (x < ((a.length : Nat) : Int))) (fun hq2 => ?_) (fun hq2 => ?_)
    · have h := condT h hq2
      refine Runs.sA 4 [.code (C_36 3736), .code (C_36 3737), .inBlock 1, .code (C_36 935), .inLoop (C_36 116), .inBlock 0, .code (C_36 15)] ?_
      obtain ⟨c2, h⟩ := ifSome h
      refine Runs.sR hE ⟨[(1, (encL (cU .u16) 0 b)), (5, (.os 0 0 out.length)), (6, (aI x)), (7, (.atom (.int .u16 (a.getD ((x).toNat) 0)))), (17, (encL (cU .u16) 0 a)), (18, (aI ((a.length : Nat) : Int))), (19, (aI x))], [(0, aO 1 (cU .u16) 0 out)], 97⟩ (C_36 3736) [] [] (kp [1, 5, 6, 7, 17, 18, 19]) (kq [0]) 97 [0 ≤ x ∧ x < ((a.length : Nat) : Int)] ⟨c2, trivial⟩ ?_
      refine Runs.sA 1 [.code (C_36 7474), .code (C_36 7475), .inBlock 1, .code (C_36 935), .inLoop (C_36 116), .inBlock 0, .code (C_36 15)] ?_
      refine Runs.sR hE ⟨[(1, (encL (cU .u16) 0 b)), (5, (.os 0 0 out.length)), (6, (aI x)), (7, (.atom (.int .u16 (a.getD ((x).toNat) 0)))), (8, (.atom (.int .u32 0))), (17, (encL (cU .u16) 0 a)), (18, (aI ((a.length : Nat) : Int))), (19, (aI x))], [(0, aO 1 (cU .u16) 0 out)], 113⟩ (C_36 7474) [] [] (kp [1, 5, 6, 7, 8, 17, 18, 19]) (kq [0]) 113 [] trivial ?_
      refine Runs.sA 2 [.code (C_36 29900), .code (C_36 29901), .code (C_36 14951), .inBlock 1, .code (C_36 935), .inLoop (C_36 116), .inBlock 0, .code (C_36 15)] ?_
      refine Runs.sR hE ⟨[(1, (encL (cU .u16) 0 b)), (5, (.os 0 0 out.length)), (6, (aI x)), (7, (.atom (.int .u16 (a.getD ((x).toNat) 0)))), (8, (.atom (.int .u32 0))), (17, (encL (cU .u16) 0 a)), (18, (aI ((a.length : Nat) : Int))), (19, (aI x)), (24, (encL (cU .u16) 0 b)), (25, (aI ((b.length : Nat) : Int))), (26, (aI 0))], [(0, aO 1 (cU .u16) 0 out)], 161⟩ (C_36 29900) [] [] (kp [1, 5, 6, 7, 8, 17, 18, 19, 24, 25, 26]) (kq [0]) 161 [] trivial ?_
      refine Runs.sA 2 [.code (C_36 119604), .inLoop (C_36 119604), .inBlock 2, .code (C_36 14951), .inBlock 1, .code (C_36 935), .inLoop (C_36 116), .inBlock 0, .code (C_36 15)] ?_
      exact Runs.sW hE _ [] (kp [1, 5, 6, 7, 8, 17, 18, 19, 24, 25, 26]) (kq [0]) 1 [] trivial (g_e_times_L2_ok N a b x (g_e_times_L1 N a b fuel) ih N out 0 0 _ h E hE)
    · have h := condF h hq2
      refine Runs.sA 2 [.code (C_36 30), .code (C_36 31)] ?_
      obtain ⟨rtrim, hr, h⟩ := bindSome h
      refine Runs.sR hE ⟨[(4, (encL (cU .u16) 0 rtrim))], [], 65⟩ (C_36 30) [(1, ⟨[], true, (encL (cU .u16) 0 rtrim), [], 0, true, none⟩)] [] (kp [4]) [] 65 [Sound Try.prog 92 [(encL (cU .u16) 0 out)] [] 0 (encL (cU .u16) 0 rtrim) [], 0 + out.length ≤ out.length] ⟨(g_e_trim_ok N out rtrim hr), z0, trivial⟩ ?_
      obtain rfl := Option.some.inj h
      refine Runs.sW hE ⟨[(4, (encL (cU .u16) 0 rtrim))], [], 65⟩ [] (kp [4]) [] 65 [] trivial ?_
      exact Runs.sT Try.f97 [] [] trivial
theorem g_e_times_ok (N : Nat) (a : List Int) (b : List Int) (r : (List Int)) (h : g_e_times N a b = some r) : Sound Try.prog 97 [(encL (cU .u16) 0 a), (encL (cU .u16) 0 b)] [] 0 (encL (cU .u16) 0 r) [] := by
  unfold g_e_times at h
  refine Sound.of_runs (fu := Try.f97) (c := C_36 1) (nt := 67) (by kernel_rfl) (by kernel_rfl) (by kernel_rfl) (by kernel_rfl) (fun hm => rfl) ?_
  intro E hE
  refine Runs.sA 1 [.code (C_36 2), .code (C_36 3)] ?_
  refine Runs.sR hE ⟨[(0, (encL (cU .u16) 0 a)), (1, (encL (cU .u16) 0 b))], [], 16⟩ (C_36 2) [] [] (kp [0, 1]) [] 16 [] trivial ?_
  refine Runs.sA 1 [.code (C_36 6), .code (C_36 7)] ?_
  obtain ⟨c, h⟩ := ifSome h
  refine Runs.sR hE ⟨[(0, (encL (cU .u16) 0 a)), (1, (encL (cU .u16) 0 b)), (5, (.os 96 0 ((List.replicate ((w64 (((a.length : Nat) : Int) + ((b.length : Nat) : Int))).toNat) 0 : List Int).length)))], [(96, aO 1 (cU .u16) 0 (List.replicate ((w64 (((a.length : Nat) : Int) + ((b.length : Nat) : Int))).toNat) 0 : List Int))], 128⟩ (C_36 6) [] [] (kp [0, 1] ++ [(5, .osl ((List.replicate ((w64 (((a.length : Nat) : Int) + ((b.length : Nat) : Int))).toNat) 0 : List Int).length))]) [(96, .arr 96 ((List.replicate ((w64 (((a.length : Nat) : Int) + ((b.length : Nat) : Int))).toNat) 0 : List Int).length) (fun zi => (cU .u16) ((List.replicate ((w64 (((a.length : Nat) : Int) + ((b.length : Nat) : Int))).toNat) 0 : List Int).getD zi 0)))] 128 [0 ≤ (w64 (((a.length : Nat) : Int) + ((b.length : Nat) : Int))), (w64 (((a.length : Nat) : Int) + ((b.length : Nat) : Int))) ≤ (w64 (((a.length : Nat) : Int) + ((b.length : Nat) : Int))), (2 : Int) * (w64 (((a.length : Nat) : Int) + ((b.length : Nat) : Int))) ≤ 281474976710656, (w64 (((a.length : Nat) : Int) + ((b.length : Nat) : Int))) ≤ 9223372036854775807, (w64 (((a.length : Nat) : Int) + ((b.length : Nat) : Int))).toNat = (List.replicate ((w64 (((a.length : Nat) : Int) + ((b.length : Nat) : Int))).toNat) 0 : List Int).length, (w64 (((a.length : Nat) : Int) + ((b.length : Nat) : Int))).toNat = (List.replicate ((w64 (((a.length : Nat) : Int) + ((b.length : Nat) : Int))).toNat) 0 : List Int).length, ∀ zi, zi < (List.replicate ((w64 (((a.length : Nat) : Int) + ((b.length : Nat) : Int))).toNat) 0 : List Int).length → (fun zi => (cU .u16) ((List.replicate ((w64 (((a.length : Nat) : Int) + ((b.length : Nat) : Int))).toNat) 0 : List Int).getD zi 0)) zi = (fun _ => [(.atom (.int .u16 0))]) zi] ⟨c.1, (Int.le_refl _), c.2.1, c.2.2, (List.length_replicate).symm, (List.length_replicate).symm, (fun zq hzq => get_rep (cU .u16) 0 0 ((w64 (((a.length : Nat) : Int) + ((b.length : Nat) : Int))).toNat) zq hzq), trivial⟩ ?_
  refine Runs.sA 2 [.code (C_36 28), .code (C_36 29), .code (C_36 15)] ?_
  refine Runs.sR hE ⟨[(1, (encL (cU .u16) 0 b)), (5, (.os 96 0 ((List.replicate ((w64 (((a.length : Nat) : Int) + ((b.length : Nat) : Int))).toNat) 0 : List Int).length))), (17, (encL (cU .u16) 0 a)), (18, (aI ((a.length : Nat) : Int))), (19, (aI 0))], [(96, aO 1 (cU .u16) 0 (List.replicate ((w64 (((a.length : Nat) : Int) + ((b.length : Nat) : Int))).toNat) 0 : List Int))], 176⟩ (C_36 28) [] [] (kp [1, 5, 17, 18, 19]) (kq [96]) 176 [] trivial ?_
  refine Runs.sA 2 [.code (C_36 116), .inLoop (C_36 116), .inBlock 0, .code (C_36 15)] ?_
  exact Runs.sW hE _ [] (kp [1, 5, 17, 18, 19]) [(0, .keep 96)] 1 [] trivial (g_e_times_L1_ok N a b N (List.replicate ((w64 (((a.length : Nat) : Int) + ((b.length : Nat) : Int))).toNat) 0 : List Int) 0 _ h E hE)
noncomputable def C_35 (n : Nat) : Code := cat (bodyOf Try.f16) (pth n)
theorem g_e_Mul_ok (N : Nat) (a : TInt) (b : TInt) (r : TInt) (h : g_e_Mul N a b = some r) : Sound Try.prog 16 [(.agg (TInt.cells a)), (.agg (TInt.cells b))] [] 0 (.agg (TInt.cells r)) [] := by
  unfold g_e_Mul at h
  refine Sound.of_runs (fu := Try.f16) (c := C_35 1) (nt := 18) (by kernel_rfl) (by kernel_rfl) (by kernel_rfl) (by kernel_rfl) (fun hm => rfl) ?_
  intro E hE
  refine Runs.sA 1 [.code (C_35 2), .code (C_35 3)] ?_
  refine Runs.sR hE ⟨[(2, (.op 0 0 0)), (3, (.op 16 0 0)), (4, (.op 32 0 0))], [(0, vO 2 (TInt.cells a)), (16, vO 2 (TInt.cells b)), (32, vO 2 [(aB false), .nil])], 48⟩ (C_35 2) [] [] (kp [2, 3, 4]) (kq [0, 16, 32]) 48 [] trivial ?_
  refine Runs.sA 1 [.code (C_35 6), .code (C_35 7)] ?_
  obtain ⟨rtrim, hr, h⟩ := bindSome h
  obtain ⟨rtrim2, hr2, h⟩ := bindSome h
  obtain ⟨rtimes, hr3, h⟩ := bindSome h
  obtain ⟨rsigned, hr4, h⟩ := bindSome h
  refine Runs.sR hE ⟨[(4, (.op 32 0 0))], [(32, vO 2 (TInt.cells rsigned))], 272⟩ (C_35 6) [(7, ⟨[], true, (encL (cU .u16) 0 rtrim), [], 0, false, none⟩), (10, ⟨[], true, (encL (cU .u16) 0 rtrim2), [], 0, false, none⟩), (11, ⟨[], true, (encL (cU .u16) 0 rtimes), [], 0, false, none⟩), (12, ⟨[], true, (.agg (TInt.cells rsigned)), [], 0, false, none⟩)] [] (kp [4]) (kq [32]) 272 [0 < 1, 0 < 1, 0 < 1, Sound Try.prog 92 [(encL (cU .u16) 0 a.f_Limbs)] [] 0 (encL (cU .u16) 0 rtrim) [], 0 < 1, Sound Try.prog 92 [(encL (cU .u16) 0 b.f_Limbs)] [] 0 (encL (cU .u16) 0 rtrim2) [], Sound Try.prog 97 [(encL (cU .u16) 0 rtrim), (encL (cU .u16) 0 rtrim2)] [] 0 (encL (cU .u16) 0 rtimes) [], Sound Try.prog 93 [(aB (!(a.f_Neg == b.f_Neg))), (encL (cU .u16) 0 rtimes)] [] 0 (.agg (TInt.cells rsigned)) [], 0 < 1] ⟨o1, o1, o1, (g_e_trim_ok N a.f_Limbs rtrim hr), o1, (g_e_trim_ok N b.f_Limbs rtrim2 hr2), (g_e_times_ok N rtrim rtrim2 rtimes hr3), (g_e_signed_ok N (!(a.f_Neg == b.f_Neg)) rtimes rsigned hr4), o1, trivial⟩ ?_
  obtain rfl := Option.some.inj h
  refine Runs.sW hE ⟨[(4, (.op 16 0 0))], [(16, vO 2 (TInt.cells rsigned))], 272⟩ [] (kp [4]) [(16, .keep 32)] 272 [] trivial ?_
  exact Runs.sT Try.f16 [16] [0 < 1] ⟨o1, trivial⟩
noncomputable def C_34 (n : Nat) : Code := cat (bodyOf Try.f32) (pth n)
theorem g_e_MulRat_ok (N : Nat) (x : TRat) (y : TRat) (r : TRat) (h : g_e_MulRat N x y = some r) : Sound Try.prog 32 [(.agg (TRat.cells x)), (.agg (TRat.cells y))] [] 0 (.agg (TRat.cells r)) [] := by
  unfold g_e_MulRat at h
  refine Sound.of_runs (fu := Try.f32) (c := C_34 1) (nt := 16) (by kernel_rfl) (by kernel_rfl) (by kernel_rfl) (by kernel_rfl) (fun hm => rfl) ?_
  intro E hE
  refine Runs.sA 1 [.code (C_34 2), .code (C_34 3)] ?_
  refine Runs.sR hE ⟨[(2, (.op 0 0 0)), (3, (.op 16 0 0)), (4, (.op 32 0 0))], [(0, vO 4 (TRat.cells x)), (16, vO 4 (TRat.cells y)), (32, vO 4 [(aB false), .nil, (aB false), .nil])], 48⟩ (C_34 2) [] [] (kp [2, 3, 4]) (kq [0, 16, 32]) 48 [] trivial ?_
  refine Runs.sA 1 [.code (C_34 6), .code (C_34 7)] ?_
  obtain ⟨rMul, hr, h⟩ := bindSome h
  obtain ⟨rbelow, hr2, h⟩ := bindSome h
  obtain ⟨rbelow2, hr3, h⟩ := bindSome h
  obtain ⟨rMul2, hr4, h⟩ := bindSome h
  obtain ⟨rfraction, hr5, h⟩ := bindSome h
  refine Runs.sR hE ⟨[(4, (.op 32 0 0))], [(32, vO 4 (TRat.cells rfraction))], 240⟩ (C_34 6) [(4, ⟨[], true, (.agg (TInt.cells rMul)), [], 0, false, none⟩), (6, ⟨[], true, (.agg (TInt.cells rbelow)), [], 0, false, none⟩), (8, ⟨[], true, (.agg (TInt.cells rbelow2)), [], 0, false, none⟩), (9, ⟨[], true, (.agg (TInt.cells rMul2)), [], 0, false, none⟩), (10, ⟨[], true, (.agg (TRat.cells rfraction)), [], 0, false, none⟩)] [] (kp [4]) (kq [32]) 240 [0 < 1, 0 < 1, Sound Try.prog 16 [(.agg (TInt.cells x.f_Num)), (.agg (TInt.cells y.f_Num))] [] 0 (.agg (TInt.cells rMul)) [], 0 < 1, Sound Try.prog 112 [(.agg (TRat.cells x))] [] 0 (.agg (TInt.cells rbelow)) [], 0 < 1, Sound Try.prog 112 [(.agg (TRat.cells y))] [] 0 (.agg (TInt.cells rbelow2)) [], Sound Try.prog 16 [(.agg (TInt.cells rbelow)), (.agg (TInt.cells rbelow2))] [] 0 (.agg (TInt.cells rMul2)) [], Sound Try.prog 111 [(.agg (TInt.cells rMul)), (.agg (TInt.cells rMul2))] [] 0 (.agg (TRat.cells rfraction)) [], 0 < 1] ⟨o1, o1, (g_e_Mul_ok N x.f_Num y.f_Num rMul hr), o1, (g_e_below_ok N x rbelow hr2), o1, (g_e_below_ok N y rbelow2 hr3), (g_e_Mul_ok N rbelow rbelow2 rMul2 hr4), (g_e_fraction_ok N rMul rMul2 rfraction hr5), o1, trivial⟩ ?_
  obtain rfl := Option.some.inj h
  refine Runs.sW hE ⟨[(4, (.op 16 0 0))], [(16, vO 4 (TRat.cells rfraction))], 240⟩ [] (kp [4]) [(16, .keep 32)] 240 [] trivial ?_
  exact Runs.sT Try.f32 [16] [0 < 1] ⟨o1, trivial⟩
noncomputable def C_38 (n : Nat) : Code := cat (bodyOf Try.f113) (pth n)
theorem g_e_isZero_ok (N : Nat) (x : TRat) (r : Bool) (h : g_e_isZero N x = some r) : Sound Try.prog 113 [(.agg (TRat.cells x))] [] 0 (aB r) [] := by
  unfold g_e_isZero at h
  refine Sound.of_runs (fu := Try.f113) (c := C_38 1) (nt := 7) (by kernel_rfl) (by kernel_rfl) (by kernel_rfl) (by kernel_rfl) (fun hm => rfl) ?_
  intro E hE
  refine Runs.sA 1 [.code (C_38 2), .code (C_38 3)] ?_
  refine Runs.sR hE ⟨[(1, (.op 0 0 0))], [(0, vO 4 (TRat.cells x))], 32⟩ (C_38 2) [] [] (kp [1]) (kq [0]) 32 [] trivial ?_
  refine Runs.sA 1 [.code (C_38 6), .code (C_38 7)] ?_
  obtain ⟨rsign, hr, h⟩ := bindSome h
  refine Runs.sR hE ⟨[(2, (aB (rsign == 0)))], [], 112⟩ (C_38 6) [(2, ⟨[], true, (aI rsign), [], 0, false, none⟩)] [] (kp [2]) [] 112 [0 < 1, Sound Try.prog 101 [(.agg (TInt.cells x.f_Num))] [] 0 (aI rsign) []] ⟨o1, (g_e_sign_ok N x.f_Num rsign hr), trivial⟩ ?_
  obtain rfl := Option.some.inj h
  refine Runs.sW hE ⟨[(2, (aB (rsign == 0)))], [], 112⟩ [] (kp [2]) [] 112 [] trivial ?_
  exact Runs.sT Try.f113 [] [] trivial
noncomputable def C_39 (n : Nat) : Code := cat (bodyOf Try.f114) (pth n)
theorem g_e_lowest_ok (N : Nat) (x : TRat) (r : TRat) (h : g_e_lowest N x = some r) : Sound Try.prog 114 [(.agg (TRat.cells x))] [] 0 (.agg (TRat.cells r)) [] := by
  unfold g_e_lowest at h
  refine Sound.of_runs (fu := Try.f114) (c := C_39 1) (nt := 8) (by kernel_rfl) (by kernel_rfl) (by kernel_rfl) (by kernel_rfl) (fun hm => rfl) ?_
  intro E hE
  refine Runs.sA 1 [.code (C_39 2), .code (C_39 3)] ?_
  refine Runs.sR hE ⟨[(1, (.op 0 0 0)), (2, (.op 16 0 0))], [(0, vO 4 (TRat.cells x)), (16, vO 4 [(aB false), .nil, (aB false), .nil])], 32⟩ (C_39 2) [] [] (kp [1, 2]) (kq [0, 16]) 32 [] trivial ?_
  refine Runs.sA 1 [.code (C_39 6), .code (C_39 7)] ?_
  obtain ⟨rbelow, hr, h⟩ := bindSome h
  obtain ⟨rfraction, hr2, h⟩ := bindSome h
  refine Runs.sR hE ⟨[(2, (.op 16 0 0))], [(16, vO 4 (TRat.cells rfraction))], 128⟩ (C_39 6) [(3, ⟨[], true, (.agg (TInt.cells rbelow)), [], 0, false, none⟩), (4, ⟨[], true, (.agg (TRat.cells rfraction)), [], 0, false, none⟩)] [] (kp [2]) (kq [16]) 128 [0 < 1, 0 < 1, Sound Try.prog 112 [(.agg (TRat.cells x))] [] 0 (.agg (TInt.cells rbelow)) [], Sound Try.prog 111 [(.agg (TInt.cells x.f_Num)), (.agg (TInt.cells rbelow))] [] 0 (.agg (TRat.cells rfraction)) [], 0 < 1] ⟨o1, o1, (g_e_below_ok N x rbelow hr), (g_e_fraction_ok N x.f_Num rbelow rfraction hr2), o1, trivial⟩ ?_
  obtain rfl := Option.some.inj h
  refine Runs.sW hE ⟨[(2, (.op 16 0 0))], [(16, vO 4 (TRat.cells rfraction))], 128⟩ [] (kp [2]) (kq [16]) 128 [] trivial ?_
  exact Runs.sT Try.f114 [16] [0 < 1] ⟨o1, trivial⟩
noncomputable def C_40 (n : Nat) : Code := cat (bodyOf Try.f15) (pth n)
theorem g_e_Add_ok (N : Nat) (a : TInt) (b : TInt) (r : TInt) (h : g_e_Add N a b = some r) : Sound Try.prog 15 [(.agg (TInt.cells a)), (.agg (TInt.cells b))] [] 0 (.agg (TInt.cells r)) [] := by
  unfold g_e_Add at h
  refine Sound.of_runs (fu := Try.f15) (c := C_40 1) (nt := 40) (by kernel_rfl) (by kernel_rfl) (by kernel_rfl) (by kernel_rfl) (fun hm => rfl) ?_
  intro E hE
  refine Runs.sA 1 [.code (C_40 2), .code (C_40 3)] ?_
  refine Runs.sR hE ⟨[(2, (.op 0 0 0)), (3, (.op 16 0 0)), (4, (.op 32 0 0))], [(0, vO 2 (TInt.cells a)), (16, vO 2 (TInt.cells b)), (32, vO 2 [(aB false), .nil])], 48⟩ (C_40 2) [] [] (kp [2, 3, 4]) (kq [0, 16, 32]) 48 [] trivial ?_
  refine Runs.sA 1 [.code (C_40 6), .code (C_40 7)] ?_
  obtain ⟨rtrim, hr, h⟩ := bindSome h
  obtain ⟨rtrim2, hr2, h⟩ := bindSome h
  refine Runs.sR hE ⟨[(2, (.op 0 0 0)), (3, (.op 16 0 0)), (4, (.op 32 0 0)), (5, (encL (cU .u16) 0 rtrim)), (6, (encL (cU .u16) 0 rtrim2))], [(0, vO 2 (TInt.cells a)), (16, vO 2 (TInt.cells b)), (32, vO 2 [(aB false), .nil])], 176⟩ (C_40 6) [(2, ⟨[], true, (encL (cU .u16) 0 rtrim), [], 0, false, none⟩), (5, ⟨[], true, (encL (cU .u16) 0 rtrim2), [], 0, false, none⟩)] [] (kp [2, 3, 4, 5, 6]) (kq [0, 16, 32]) 176 [0 < 1, Sound Try.prog 92 [(encL (cU .u16) 0 a.f_Limbs)] [] 0 (encL (cU .u16) 0 rtrim) [], 0 < 1, Sound Try.prog 92 [(encL (cU .u16) 0 b.f_Limbs)] [] 0 (encL (cU .u16) 0 rtrim2) []] ⟨o1, (g_e_trim_ok N a.f_Limbs rtrim hr), o1, (g_e_trim_ok N b.f_Limbs rtrim2 hr2), trivial⟩ ?_
  refine Runs.sA 2 [.code (C_40 28), .code (C_40 29), .code (C_40 15)] ?_
  refine Runs.sR hE ⟨[(2, (.op 0 0 0)), (3, (.op 16 0 0)), (4, (.op 32 0 0)), (5, (encL (cU .u16) 0 rtrim)), (6, (encL (cU .u16) 0 rtrim2)), (17, (aB (a.f_Neg == b.f_Neg)))], [(0, vO 2 (TInt.cells a)), (16, vO 2 (TInt.cells b)), (32, vO 2 [(aB false), .nil])], 256⟩ (C_40 28) [] [] (kp [2, 3, 4, 5, 6, 17]) (kq [0, 16, 32]) 256 [0 < 1, 0 < 1] ⟨o1, o1, trivial⟩ ?_
  refine Runs.sC 17 (C_40 58) (C_40 59) (a.f_Neg == b.f_Neg) (fun hq2 => ?_) (fun hq2 => ?_)
  · have h := condT h hq2
    refine Runs.sA 1 [.code (C_40 116), .code (C_40 117), .code (C_40 15)] ?_
    obtain ⟨rplus, hr3, h⟩ := bindSome h
    obtain ⟨rsigned, hr4, h⟩ := bindSome h
    refine Runs.sR hE ⟨[(4, (.op 32 0 0))], [(32, vO 2 (TInt.cells rsigned))], 368⟩ (C_40 116) [(4, ⟨[], true, (encL (cU .u16) 0 rplus), [], 0, false, none⟩), (5, ⟨[], true, (.agg (TInt.cells rsigned)), [], 0, false, none⟩)] [] (kp [4]) (kq [32]) 368 [0 < 1, Sound Try.prog 94 [(encL (cU .u16) 0 rtrim), (encL (cU .u16) 0 rtrim2)] [] 0 (encL (cU .u16) 0 rplus) [], Sound Try.prog 93 [(aB a.f_Neg), (encL (cU .u16) 0 rplus)] [] 0 (.agg (TInt.cells rsigned)) [], 0 < 1] ⟨o1, (g_e_plus_ok N rtrim rtrim2 rplus hr3), (g_e_signed_ok N a.f_Neg rplus rsigned hr4), o1, trivial⟩ ?_
    obtain rfl := Option.some.inj h
    refine Runs.sW hE ⟨[(4, (.op 16 0 0))], [(16, vO 2 (TInt.cells rsigned))], 368⟩ [] (kp [4]) [(16, .keep 32)] 368 [] trivial ?_
    exact Runs.sT Try.f15 [16] [0 < 1] ⟨o1, trivial⟩
  · have h := condF h hq2
    refine Runs.sA 3 [.code (C_40 60), .code (C_40 61), .code (C_40 31)] ?_
    obtain ⟨rcompare, hr5, h⟩ := bindSome h
    refine Runs.sR hE ⟨[(2, (.op 0 0 0)), (3, (.op 16 0 0)), (4, (.op 32 0 0)), (5, (encL (cU .u16) 0 rtrim)), (6, (encL (cU .u16) 0 rtrim2)), (27, (aB (decide (rcompare ≥ 0))))], [(0, vO 2 (TInt.cells a)), (16, vO 2 (TInt.cells b)), (32, vO 2 [(aB false), .nil])], 320⟩ (C_40 60) [(2, ⟨[], true, (aI rcompare), [], 0, false, none⟩)] [] (kp [2, 3, 4, 5, 6, 27]) (kq [0, 16, 32]) 320 [Sound Try.prog 95 [(encL (cU .u16) 0 rtrim), (encL (cU .u16) 0 rtrim2)] [] 0 (aI rcompare) []] ⟨(g_e_compare_ok N rtrim rtrim2 rcompare hr5), trivial⟩ ?_
    refine Runs.sC 27 (C_40 122) (C_40 123) (decide (rcompare ≥ 0)) (fun hq3 => ?_) (fun hq3 => ?_)
    · have h := condT h hq3
      refine Runs.sA 1 [.code (C_40 244), .code (C_40 245), .code (C_40 31)] ?_
      obtain ⟨rminus, hr6, h⟩ := bindSome h
      obtain ⟨rsigned2, hr7, h⟩ := bindSome h
      refine Runs.sR hE ⟨[(4, (.op 32 0 0))], [(32, vO 2 (TInt.cells rsigned2))], 432⟩ (C_40 244) [(4, ⟨[], true, (encL (cU .u16) 0 rminus), [], 0, false, none⟩), (5, ⟨[], true, (.agg (TInt.cells rsigned2)), [], 0, false, none⟩)] [] (kp [4]) (kq [32]) 432 [0 < 1, Sound Try.prog 96 [(encL (cU .u16) 0 rtrim), (encL (cU .u16) 0 rtrim2)] [] 0 (encL (cU .u16) 0 rminus) [], Sound Try.prog 93 [(aB a.f_Neg), (encL (cU .u16) 0 rminus)] [] 0 (.agg (TInt.cells rsigned2)) [], 0 < 1] ⟨o1, (g_e_minus_ok N rtrim rtrim2 rminus hr6), (g_e_signed_ok N a.f_Neg rminus rsigned2 hr7), o1, trivial⟩ ?_
      obtain rfl := Option.some.inj h
      refine Runs.sW hE ⟨[(4, (.op 16 0 0))], [(16, vO 2 (TInt.cells rsigned2))], 432⟩ [] (kp [4]) [(16, .keep 32)] 432 [] trivial ?_
      exact Runs.sT Try.f15 [16] [0 < 1] ⟨o1, trivial⟩
    · have h := condF h hq3
      refine Runs.sA 2 [.code (C_40 62), .code (C_40 63)] ?_
      obtain ⟨rminus2, hr8, h⟩ := bindSome h
      obtain ⟨rsigned3, hr9, h⟩ := bindSome h
      refine Runs.sR hE ⟨[(4, (.op 32 0 0))], [(32, vO 2 (TInt.cells rsigned3))], 432⟩ (C_40 62) [(4, ⟨[], true, (encL (cU .u16) 0 rminus2), [], 0, false, none⟩), (5, ⟨[], true, (.agg (TInt.cells rsigned3)), [], 0, false, none⟩)] [] (kp [4]) (kq [32]) 432 [0 < 1, Sound Try.prog 96 [(encL (cU .u16) 0 rtrim2), (encL (cU .u16) 0 rtrim)] [] 0 (encL (cU .u16) 0 rminus2) [], Sound Try.prog 93 [(aB b.f_Neg), (encL (cU .u16) 0 rminus2)] [] 0 (.agg (TInt.cells rsigned3)) [], 0 < 1] ⟨o1, (g_e_minus_ok N rtrim2 rtrim rminus2 hr8), (g_e_signed_ok N b.f_Neg rminus2 rsigned3 hr9), o1, trivial⟩ ?_
      obtain rfl := Option.some.inj h
      refine Runs.sW hE ⟨[(4, (.op 16 0 0))], [(16, vO 2 (TInt.cells rsigned3))], 432⟩ [] (kp [4]) [(16, .keep 32)] 432 [] trivial ?_
      exact Runs.sT Try.f15 [16] [0 < 1] ⟨o1, trivial⟩
noncomputable def C_37 (n : Nat) : Code := cat (bodyOf Try.f33) (pth n)
theorem g_e_AddRat_ok (N : Nat) (x : TRat) (y : TRat) (r : TRat) (h : g_e_AddRat N x y = some r) : Sound Try.prog 33 [(.agg (TRat.cells x)), (.agg (TRat.cells y))] [] 0 (.agg (TRat.cells r)) [] := by
  unfold g_e_AddRat at h
  refine Sound.of_runs (fu := Try.f33) (c := C_37 1) (nt := 32) (by kernel_rfl) (by kernel_rfl) (by kernel_rfl) (by kernel_rfl) (fun hm => rfl) ?_
  intro E hE
  refine Runs.sA 1 [.code (C_37 2), .code (C_37 3)] ?_
  refine Runs.sR hE ⟨[(2, (.op 0 0 0)), (3, (.op 16 0 0)), (4, (.op 32 0 0))], [(0, vO 4 (TRat.cells x)), (16, vO 4 (TRat.cells y)), (32, vO 4 [(aB false), .nil, (aB false), .nil])], 48⟩ (C_37 2) [] [] (kp [2, 3, 4]) (kq [0, 16, 32]) 48 [] trivial ?_
  refine Runs.sA 2 [.code (C_37 12), .code (C_37 13), .code (C_37 7)] ?_
  obtain ⟨risZero, hr, h⟩ := bindSome h
  refine Runs.sR hE ⟨[(2, (.op 0 0 0)), (3, (.op 16 0 0)), (4, (.op 32 0 0)), (8, (aB risZero))], [(0, vO 4 (TRat.cells x)), (16, vO 4 (TRat.cells y)), (32, vO 4 [(aB false), .nil, (aB false), .nil])], 80⟩ (C_37 12) [(1, ⟨[], true, (aB risZero), [], 0, false, none⟩)] [] (kp [2, 3, 4, 8]) (kq [0, 16, 32]) 80 [0 < 1, Sound Try.prog 113 [(.agg (TRat.cells x))] [] 0 (aB risZero) []] ⟨o1, (g_e_isZero_ok N x risZero hr), trivial⟩ ?_
  refine Runs.sC 8 (C_37 26) (C_37 27) risZero (fun hq2 => ?_) (fun hq2 => ?_)
  · have h := condT h hq2
    refine Runs.sA 1 [.code (C_37 52), .code (C_37 53), .code (C_37 7)] ?_
    obtain ⟨rlowest, hr2, h⟩ := bindSome h
    refine Runs.sR hE ⟨[(4, (.op 32 0 0))], [(32, vO 4 (TRat.cells rlowest))], 128⟩ (C_37 52) [(1, ⟨[], true, (.agg (TRat.cells rlowest)), [], 0, false, none⟩)] [] (kp [4]) (kq [32]) 128 [0 < 1, Sound Try.prog 114 [(.agg (TRat.cells y))] [] 0 (.agg (TRat.cells rlowest)) [], 0 < 1] ⟨o1, (g_e_lowest_ok N y rlowest hr2), o1, trivial⟩ ?_
    obtain rfl := Option.some.inj h
    refine Runs.sW hE ⟨[(4, (.op 16 0 0))], [(16, vO 4 (TRat.cells rlowest))], 128⟩ [] (kp [4]) [(16, .keep 32)] 128 [] trivial ?_
    exact Runs.sT Try.f33 [16] [0 < 1] ⟨o1, trivial⟩
  · have h := condF h hq2
    refine Runs.sA 3 [.code (C_37 28), .code (C_37 29), .code (C_37 15)] ?_
    obtain ⟨risZero2, hr3, h⟩ := bindSome h
    refine Runs.sR hE ⟨[(2, (.op 0 0 0)), (3, (.op 16 0 0)), (4, (.op 32 0 0)), (12, (aB risZero2))], [(0, vO 4 (TRat.cells x)), (16, vO 4 (TRat.cells y)), (32, vO 4 [(aB false), .nil, (aB false), .nil])], 112⟩ (C_37 28) [(1, ⟨[], true, (aB risZero2), [], 0, false, none⟩)] [] (kp [2, 3, 4, 12]) (kq [0, 16, 32]) 112 [0 < 1, Sound Try.prog 113 [(.agg (TRat.cells y))] [] 0 (aB risZero2) []] ⟨o1, (g_e_isZero_ok N y risZero2 hr3), trivial⟩ ?_
    refine Runs.sC 12 (C_37 58) (C_37 59) risZero2 (fun hq3 => ?_) (fun hq3 => ?_)
    · have h := condT h hq3
      refine Runs.sA 1 [.code (C_37 116), .code (C_37 117), .code (C_37 15)] ?_
      obtain ⟨rlowest2, hr4, h⟩ := bindSome h
      refine Runs.sR hE ⟨[(4, (.op 32 0 0))], [(32, vO 4 (TRat.cells rlowest2))], 160⟩ (C_37 116) [(1, ⟨[], true, (.agg (TRat.cells rlowest2)), [], 0, false, none⟩)] [] (kp [4]) (kq [32]) 160 [0 < 1, Sound Try.prog 114 [(.agg (TRat.cells x))] [] 0 (.agg (TRat.cells rlowest2)) [], 0 < 1] ⟨o1, (g_e_lowest_ok N x rlowest2 hr4), o1, trivial⟩ ?_
      obtain rfl := Option.some.inj h
      refine Runs.sW hE ⟨[(4, (.op 16 0 0))], [(16, vO 4 (TRat.cells rlowest2))], 160⟩ [] (kp [4]) [(16, .keep 32)] 160 [] trivial ?_
      exact Runs.sT Try.f33 [16] [0 < 1] ⟨o1, trivial⟩
    · have h := condF h hq3
      refine Runs.sA 2 [.code (C_37 30), .code (C_37 31)] ?_
      obtain ⟨rbelow, hr5, h⟩ := bindSome h
      obtain ⟨rbelow2, hr6, h⟩ := bindSome h
      refine Runs.sR hE ⟨[(2, (.op 0 0 0)), (3, (.op 16 0 0)), (4, (.op 32 0 0)), (5, (.op 176 0 0)), (6, (.op 192 0 0))], [(0, vO 4 (TRat.cells x)), (16, vO 4 (TRat.cells y)), (32, vO 4 [(aB false), .nil, (aB false), .nil]), (176, vO 2 (TInt.cells rbelow)), (192, vO 2 (TInt.cells rbelow2))], 240⟩ (C_37 30) [(1, ⟨[], true, (.agg (TInt.cells rbelow)), [], 0, false, none⟩), (3, ⟨[], true, (.agg (TInt.cells rbelow2)), [], 0, false, none⟩)] [] (kp [2, 3, 4, 5, 6]) (kq [0, 16, 32, 176, 192]) 240 [0 < 1, Sound Try.prog 112 [(.agg (TRat.cells x))] [] 0 (.agg (TInt.cells rbelow)) [], 0 < 1, Sound Try.prog 112 [(.agg (TRat.cells y))] [] 0 (.agg (TInt.cells rbelow2)) [], 0 < 1, 0 < 1] ⟨o1, (g_e_below_ok N x rbelow hr5), o1, (g_e_below_ok N y rbelow2 hr6), o1, o1, trivial⟩ ?_
      refine Runs.sA 1 [.code (C_37 62), .code (C_37 63)] ?_
      obtain ⟨rMul, hr7, h⟩ := bindSome h
      obtain ⟨rMul2, hr8, h⟩ := bindSome h
      obtain ⟨rAdd, hr9, h⟩ := bindSome h
      obtain ⟨rMul3, hr10, h⟩ := bindSome h
      obtain ⟨rfraction, hr11, h⟩ := bindSome h
      refine Runs.sR hE ⟨[(4, (.op 32 0 0))], [(32, vO 4 (TRat.cells rfraction))], 464⟩ (C_37 62) [(3, ⟨[], true, (.agg (TInt.cells rMul)), [], 0, false, none⟩), (7, ⟨[], true, (.agg (TInt.cells rMul2)), [], 0, false, none⟩), (8, ⟨[], true, (.agg (TInt.cells rAdd)), [], 0, false, none⟩), (11, ⟨[], true, (.agg (TInt.cells rMul3)), [], 0, false, none⟩), (12, ⟨[], true, (.agg (TRat.cells rfraction)), [], 0, false, none⟩)] [] (kp [4]) (kq [32]) 464 [0 < 1, 0 < 1, Sound Try.prog 16 [(.agg (TInt.cells x.f_Num)), (.agg (TInt.cells rbelow2))] [] 0 (.agg (TInt.cells rMul)) [], 0 < 1, 0 < 1, Sound Try.prog 16 [(.agg (TInt.cells y.f_Num)), (.agg (TInt.cells rbelow))] [] 0 (.agg (TInt.cells rMul2)) [], Sound Try.prog 15 [(.agg (TInt.cells rMul)), (.agg (TInt.cells rMul2))] [] 0 (.agg (TInt.cells rAdd)) [], 0 < 1, 0 < 1, Sound Try.prog 16 [(.agg (TInt.cells rbelow)), (.agg (TInt.cells rbelow2))] [] 0 (.agg (TInt.cells rMul3)) [], Sound Try.prog 111 [(.agg (TInt.cells rAdd)), (.agg (TInt.cells rMul3))] [] 0 (.agg (TRat.cells rfraction)) [], 0 < 1] ⟨o1, o1, (g_e_Mul_ok N x.f_Num rbelow2 rMul hr7), o1, o1, (g_e_Mul_ok N y.f_Num rbelow rMul2 hr8), (g_e_Add_ok N rMul rMul2 rAdd hr9), o1, o1, (g_e_Mul_ok N rbelow rbelow2 rMul3 hr10), (g_e_fraction_ok N rAdd rMul3 rfraction hr11), o1, trivial⟩ ?_
      obtain rfl := Option.some.inj h
      refine Runs.sW hE ⟨[(4, (.op 16 0 0))], [(16, vO 4 (TRat.cells rfraction))], 464⟩ [] (kp [4]) [(16, .keep 32)] 464 [] trivial ?_
      exact Runs.sT Try.f33 [16] [0 < 1] ⟨o1, trivial⟩
noncomputable def C_44 (n : Nat) : Code := cat (bodyOf Try.f98) (pth n)
theorem g_e_opposite_ok (N : Nat) (a : TInt) (r : TInt) (h : g_e_opposite N a = some r) : Sound Try.prog 98 [(.agg (TInt.cells a))] [] 0 (.agg (TInt.cells r)) [] := by
  unfold g_e_opposite at h
  refine Sound.of_runs (fu := Try.f98) (c := C_44 1) (nt := 9) (by kernel_rfl) (by kernel_rfl) (by kernel_rfl) (by kernel_rfl) (fun hm => rfl) ?_
  intro E hE
  refine Runs.sA 1 [.code (C_44 2), .code (C_44 3)] ?_
  refine Runs.sR hE ⟨[(1, (.op 0 0 0)), (2, (.op 16 0 0))], [(0, vO 2 (TInt.cells a)), (16, vO 2 [(aB false), .nil])], 32⟩ (C_44 2) [] [] (kp [1, 2]) (kq [0, 16]) 32 [] trivial ?_
  refine Runs.sA 1 [.code (C_44 6), .code (C_44 7)] ?_
  refine Runs.sR hE ⟨[(2, (.op 16 0 0))], [(16, vO 2 [(aB (!a.f_Neg)), (encL (cU .u16) 0 a.f_Limbs)])], 144⟩ (C_44 6) [] [] (kp [2]) (kq [16]) 144 [0 < 1, 0 < 1, 0 < 1] ⟨o1, o1, o1, trivial⟩ ?_
  obtain rfl := Option.some.inj h
  refine Runs.sW hE ⟨[(2, (.op 16 0 0))], [(16, vO 2 [(aB (!a.f_Neg)), (encL (cU .u16) 0 a.f_Limbs)])], 144⟩ [] (kp [2]) (kq [16]) 144 [] trivial ?_
  exact Runs.sT Try.f98 [16] [0 < 1] ⟨o1, trivial⟩
noncomputable def C_43 (n : Nat) : Code := cat (bodyOf Try.f116) (pth n)
theorem g_e_negative_ok (N : Nat) (x : TRat) (r : TRat) (h : g_e_negative N x = some r) : Sound Try.prog 116 [(.agg (TRat.cells x))] [] 0 (.agg (TRat.cells r)) [] := by
  unfold g_e_negative at h
  refine Sound.of_runs (fu := Try.f116) (c := C_43 1) (nt := 9) (by kernel_rfl) (by kernel_rfl) (by kernel_rfl) (by kernel_rfl) (fun hm => rfl) ?_
  intro E hE
  refine Runs.sA 1 [.code (C_43 2), .code (C_43 3)] ?_
  refine Runs.sR hE ⟨[(1, (.op 0 0 0)), (2, (.op 16 0 0))], [(0, vO 4 (TRat.cells x)), (16, vO 4 [(aB false), .nil, (aB false), .nil])], 32⟩ (C_43 2) [] [] (kp [1, 2]) (kq [0, 16]) 32 [] trivial ?_
  refine Runs.sA 1 [.code (C_43 6), .code (C_43 7)] ?_
  obtain ⟨ropposite, hr, h⟩ := bindSome h
  obtain ⟨rbelow, hr2, h⟩ := bindSome h
  obtain ⟨rfraction, hr3, h⟩ := bindSome h
  refine Runs.sR hE ⟨[(2, (.op 16 0 0))], [(16, vO 4 (TRat.cells rfraction))], 144⟩ (C_43 6) [(2, ⟨[], true, (.agg (TInt.cells ropposite)), [], 0, false, none⟩), (4, ⟨[], true, (.agg (TInt.cells rbelow)), [], 0, false, none⟩), (5, ⟨[], true, (.agg (TRat.cells rfraction)), [], 0, false, none⟩)] [] (kp [2]) (kq [16]) 144 [0 < 1, Sound Try.prog 98 [(.agg (TInt.cells x.f_Num))] [] 0 (.agg (TInt.cells ropposite)) [], 0 < 1, Sound Try.prog 112 [(.agg (TRat.cells x))] [] 0 (.agg (TInt.cells rbelow)) [], Sound Try.prog 111 [(.agg (TInt.cells ropposite)), (.agg (TInt.cells rbelow))] [] 0 (.agg (TRat.cells rfraction)) [], 0 < 1] ⟨o1, (g_e_opposite_ok N x.f_Num ropposite hr), o1, (g_e_below_ok N x rbelow hr2), (g_e_fraction_ok N ropposite rbelow rfraction hr3), o1, trivial⟩ ?_
  obtain rfl := Option.some.inj h
  refine Runs.sW hE ⟨[(2, (.op 16 0 0))], [(16, vO 4 (TRat.cells rfraction))], 144⟩ [] (kp [2]) (kq [16]) 144 [] trivial ?_
  exact Runs.sT Try.f116 [16] [0 < 1] ⟨o1, trivial⟩
noncomputable def C_42 (n : Nat) : Code := cat (bodyOf Try.f36) (pth n)
theorem g_e_SubRat_ok (N : Nat) (x : TRat) (y : TRat) (r : TRat) (h : g_e_SubRat N x y = some r) : Sound Try.prog 36 [(.agg (TRat.cells x)), (.agg (TRat.cells y))] [] 0 (.agg (TRat.cells r)) [] := by
  unfold g_e_SubRat at h
  refine Sound.of_runs (fu := Try.f36) (c := C_42 1) (nt := 9) (by kernel_rfl) (by kernel_rfl) (by kernel_rfl) (by kernel_rfl) (fun hm => rfl) ?_
  intro E hE
  refine Runs.sA 1 [.code (C_42 2), .code (C_42 3)] ?_
  refine Runs.sR hE ⟨[(2, (.op 0 0 0)), (3, (.op 16 0 0)), (4, (.op 32 0 0))], [(0, vO 4 (TRat.cells x)), (16, vO 4 (TRat.cells y)), (32, vO 4 [(aB false), .nil, (aB false), .nil])], 48⟩ (C_42 2) [] [] (kp [2, 3, 4]) (kq [0, 16, 32]) 48 [] trivial ?_
  refine Runs.sA 1 [.code (C_42 6), .code (C_42 7)] ?_
  obtain ⟨rnegative, hr, h⟩ := bindSome h
  obtain ⟨rAddRat, hr2, h⟩ := bindSome h
  refine Runs.sR hE ⟨[(4, (.op 32 0 0))], [(32, vO 4 (TRat.cells rAddRat))], 128⟩ (C_42 6) [(2, ⟨[], true, (.agg (TRat.cells rnegative)), [], 0, false, none⟩), (3, ⟨[], true, (.agg (TRat.cells rAddRat)), [], 0, false, none⟩)] [] (kp [4]) (kq [32]) 128 [0 < 1, 0 < 1, Sound Try.prog 116 [(.agg (TRat.cells y))] [] 0 (.agg (TRat.cells rnegative)) [], Sound Try.prog 33 [(.agg (TRat.cells x)), (.agg (TRat.cells rnegative))] [] 0 (.agg (TRat.cells rAddRat)) [], 0 < 1] ⟨o1, o1, (g_e_negative_ok N y rnegative hr), (g_e_AddRat_ok N x rnegative rAddRat hr2), o1, trivial⟩ ?_
  obtain rfl := Option.some.inj h
  refine Runs.sW hE ⟨[(4, (.op 16 0 0))], [(16, vO 4 (TRat.cells rAddRat))], 128⟩ [] (kp [4]) [(16, .keep 32)] 128 [] trivial ?_
  exact Runs.sT Try.f36 [16] [0 < 1] ⟨o1, trivial⟩
end Go.Den
