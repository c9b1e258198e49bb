/- Each function of the program does what its Lean function computes (part 3). No conditions. -/
import Derived.Test.YtakkcneiophofaaExactSumsSb
import Derived.Test.YtakkcneiophofaaProg
set_option linter.unusedVariables false
set_option maxRecDepth 100000
namespace Go.Den
open Go.Ab Go.Proofs

noncomputable def C_105 (n : Nat) : Code := cat (bodyOf Try.f62) (pth n)

theorem g_keelblockbase_SameRats_L1_ok (N : Nat) (a : List Tapi_Rat) (b : List Tapi_Rat) (fuel : Nat) : ∀ (i : Int) (r : Bool), g_keelblockbase_SameRats_L1 N a b fuel i = some r → ∀ E, EnvOk E 0 → Runs Try.prog E 62 27 (SPost E [] (aB r)) [.code (C_105 116), .inLoop (C_105 116), .inBlock 0, .code (C_105 15)] ⟨[(0, (encL Tapi_Rat.cells Tapi_Rat.d a)), (1, (encL Tapi_Rat.cells Tapi_Rat.d b)), (5, (aI i))], [], 0⟩ := by
  induction fuel with
  | zero => intro _ r h; rw [g_keelblockbase_SameRats_L1.eq_1] at h; cases h
  | succ fuel ih =>
    intro i r h E hE
    rw [g_keelblockbase_SameRats_L1.eq_2] at h
    refine Runs.sA 2 [.code (C_105 464), .code (C_105 465), .code (C_105 233), .inLoop (C_105 116), .inBlock 0, .code (C_105 15)] ?_
    refine Runs.sR hE ⟨[(0, (encL Tapi_Rat.cells Tapi_Rat.d a)), (1, (encL Tapi_Rat.cells Tapi_Rat.d b)), (5, (aI i)), (14, (aB (decide (i < ((a.length : Nat) : Int)))))], [], 64⟩ (C_105 464) [] [] (kp [0, 1, 5, 14]) [] 64 [] trivial ?_
    refine Runs.sC 14 (C_105 930) (C_105 931) (decide (i < ((a.length : Nat) : Int))) (fun hq3 => ?_) (fun hq3 => ?_)
    · have h := condT h hq3
      refine Runs.sA 4 [.code (C_105 1864), .code (C_105 1865), .inBlock 1, .code (C_105 467), .inLoop (C_105 116), .inBlock 0, .code (C_105 15)] ?_
      obtain ⟨c, h⟩ := ifSome h
      obtain ⟨c2, h⟩ := ifSome h
      obtain ⟨rSameRat, hr, h⟩ := bindSome h
      refine Runs.sR hE ⟨[(0, (encL Tapi_Rat.cells Tapi_Rat.d a)), (1, (encL Tapi_Rat.cells Tapi_Rat.d b)), (5, (aI i)), (26, (aB (!rSameRat)))], [], 224⟩ (C_105 1864) [(8, ⟨[], true, (aB rSameRat), [], 0, false, none⟩)] [] (kp [0, 1, 5, 26]) [] 224 [0 ≤ i ∧ i < ((a.length : Nat) : Int), 0 ≤ i ∧ i < ((b.length : Nat) : Int), Sound Try.prog 34 [(.agg [(aB (((a.getD ((i).toNat) Tapi_Rat.d).f_Num).f_Neg)), (encL (cU .u16) 0 (((a.getD ((i).toNat) Tapi_Rat.d).f_Num).f_Limbs)), (aB (((a.getD ((i).toNat) Tapi_Rat.d).f_Den).f_Neg)), (encL (cU .u16) 0 (((a.getD ((i).toNat) Tapi_Rat.d).f_Den).f_Limbs))]), (.agg [(aB (((b.getD ((i).toNat) Tapi_Rat.d).f_Num).f_Neg)), (encL (cU .u16) 0 (((b.getD ((i).toNat) Tapi_Rat.d).f_Num).f_Limbs)), (aB (((b.getD ((i).toNat) Tapi_Rat.d).f_Den).f_Neg)), (encL (cU .u16) 0 (((b.getD ((i).toNat) Tapi_Rat.d).f_Den).f_Limbs))])] [] 0 (aB rSameRat) []] ⟨c, c2, (g_keelblockbase_SameRat_ok N (⟨((a.getD ((i).toNat) Tapi_Rat.d).f_Num), ((a.getD ((i).toNat) Tapi_Rat.d).f_Den)⟩ : Tapi_Rat) (⟨((b.getD ((i).toNat) Tapi_Rat.d).f_Num), ((b.getD ((i).toNat) Tapi_Rat.d).f_Den)⟩ : Tapi_Rat) rSameRat hr), trivial⟩ ?_
      refine Runs.sC 26 (C_105 3730) (C_105 3731) (!rSameRat) (fun hq4 => ?_) (fun hq4 => ?_)
      · have h := condT h hq4
        refine Runs.sA 1 [.code (C_105 7460), .code (C_105 7461), .inBlock 1, .code (C_105 467), .inLoop (C_105 116), .inBlock 0, .code (C_105 15)] ?_
        refine Runs.sR hE ⟨[(4, (aB false))], [], 240⟩ (C_105 7460) [] [] (kp [4]) [] 240 [] trivial ?_
        obtain rfl := Option.some.inj h
        refine Runs.sW hE ⟨[(4, (aB false))], [], 240⟩ [] (kp [4]) [] 240 [] trivial ?_
        exact Runs.sT Try.f62 [] [] trivial
      · have h := condF h hq4
        refine Runs.sA 2 [.code (C_105 467), .inLoop (C_105 116), .inBlock 0, .code (C_105 15)] ?_
        refine Runs.sR hE ⟨[(0, (encL Tapi_Rat.cells Tapi_Rat.d a)), (1, (encL Tapi_Rat.cells Tapi_Rat.d b)), (5, (aI (w64 (i + 1))))], [], 272⟩ (C_105 467) [] [] (kp [0, 1, 5]) [] 272 [] trivial ?_
        refine Runs.sA 1 [.code (C_105 116), .inLoop (C_105 116), .inBlock 0, .code (C_105 15)] ?_
        exact Runs.sW hE _ [] (kp [0, 1, 5]) [] 0 [] trivial (ih (w64 (i + 1)) _ h E hE)
    · have h := condF h hq3
      refine Runs.sA 2 [.code (C_105 30), .code (C_105 31)] ?_
      refine Runs.sR hE ⟨[(4, (aB true))], [], 80⟩ (C_105 30) [] [] (kp [4]) [] 80 [] trivial ?_
      obtain rfl := Option.some.inj h
      refine Runs.sW hE ⟨[(4, (aB true))], [], 80⟩ [] (kp [4]) [] 80 [] trivial ?_
      exact Runs.sT Try.f62 [] [] trivial

theorem g_keelblockbase_SameRats_ok (N : Nat) (a : List Tapi_Rat) (b : List Tapi_Rat) (r : Bool) (h : g_keelblockbase_SameRats N a b = some r) : Sound Try.prog 62 [(encL Tapi_Rat.cells Tapi_Rat.d a), (encL Tapi_Rat.cells Tapi_Rat.d b)] [] 0 (aB r) [] := by
  unfold g_keelblockbase_SameRats at h
  refine Sound.of_runs (fu := Try.f62) (c := C_105 1) (nt := 27) (by kernel_rfl) (by kernel_rfl) (by kernel_rfl) (by kernel_rfl) (fun hm => rfl) ?_
  intro E hE
  refine Runs.sA 1 [.code (C_105 2), .code (C_105 3)] ?_
  refine Runs.sR hE ⟨[(0, (encL Tapi_Rat.cells Tapi_Rat.d a)), (1, (encL Tapi_Rat.cells Tapi_Rat.d b))], [], 16⟩ (C_105 2) [] [] (kp [0, 1]) [] 16 [] trivial ?_
  refine Runs.sA 2 [.code (C_105 12), .code (C_105 13), .code (C_105 7)] ?_
  refine Runs.sR hE ⟨[(0, (encL Tapi_Rat.cells Tapi_Rat.d a)), (1, (encL Tapi_Rat.cells Tapi_Rat.d b)), (10, (aB (((a.length : Nat) : Int) != ((b.length : Nat) : Int))))], [], 96⟩ (C_105 12) [] [] (kp [0, 1, 10]) [] 96 [] trivial ?_
  refine Runs.sC 10 (C_105 26) (C_105 27) (((a.length : Nat) : Int) != ((b.length : Nat) : Int)) (fun hq2 => ?_) (fun hq2 => ?_)
  · have h := condT h hq2
    refine Runs.sA 1 [.code (C_105 52), .code (C_105 53), .code (C_105 7)] ?_
    refine Runs.sR hE ⟨[(4, (aB false))], [], 112⟩ (C_105 52) [] [] (kp [4]) [] 112 [] trivial ?_
    obtain rfl := Option.some.inj h
    refine Runs.sW hE ⟨[(4, (aB false))], [], 112⟩ [] (kp [4]) [] 112 [] trivial ?_
    exact Runs.sT Try.f62 [] [] trivial
  · have h := condF h hq2
    refine Runs.sA 3 [.code (C_105 28), .code (C_105 29), .code (C_105 15)] ?_
    refine Runs.sR hE ⟨[(0, (encL Tapi_Rat.cells Tapi_Rat.d a)), (1, (encL Tapi_Rat.cells Tapi_Rat.d b)), (5, (aI 0))], [], 112⟩ (C_105 28) [] [] (kp [0, 1, 5]) [] 112 [] trivial ?_
    refine Runs.sA 2 [.code (C_105 116), .inLoop (C_105 116), .inBlock 0, .code (C_105 15)] ?_
    exact Runs.sW hE _ [] (kp [0, 1, 5]) [] 0 [] trivial (g_keelblockbase_SameRats_L1_ok N a b N 0 _ h E hE)

noncomputable def C_103 (n : Nat) : Code := cat (bodyOf Try.f65) (pth n)

theorem g_keelblockbase_SameCurve_ok (N : Nat) (a : Tapi_Curve) (b : Tapi_Curve) (r : Bool) (h : g_keelblockbase_SameCurve N a b = some r) : Sound Try.prog 65 [(.agg (Tapi_Curve.cells a)), (.agg (Tapi_Curve.cells b))] [] 0 (aB r) [] := by
  unfold g_keelblockbase_SameCurve at h
  refine Sound.of_runs (fu := Try.f65) (c := C_103 1) (nt := 17) (by kernel_rfl) (by kernel_rfl) (by kernel_rfl) (by kernel_rfl) (fun hm => rfl) ?_
  intro E hE
  refine Runs.sA 1 [.code (C_103 2), .code (C_103 3)] ?_
  refine Runs.sR hE ⟨[(2, (.op 0 0 0)), (3, (.op 16 0 0))], [(0, vO 2 (Tapi_Curve.cells a)), (16, vO 2 (Tapi_Curve.cells b))], 48⟩ (C_103 2) [] [] (kp [2, 3]) (kq [0, 16]) 48 [] trivial ?_
  refine Runs.sA 1 [.code (C_103 6), .code (C_103 7)] ?_
  obtain ⟨rInts, hr, h⟩ := bindSome h
  obtain ⟨rSameRats, hr2, h⟩ := bindSome h
  refine Runs.sR hE ⟨[(4, (aB (cond rInts rSameRats false)))], [], 256⟩ (C_103 6) [(4, ⟨[], true, (aB rInts), [], 0, false, none⟩), (10, ⟨[], true, (aB rSameRats), [], 0, false, none⟩)] [] (kp [4]) [] 256 [0 < 1, 0 < 1, Sound Try.prog 130 [(encL cI 0 a.f_Starts), (encL cI 0 b.f_Starts)] [] 0 (aB rInts) [], rInts = true → AllP [rInts = true, 0 < 1], rInts = true → AllP [rInts = true, 0 < 1], rInts = true → AllP [Sound Try.prog 62 [(encL Tapi_Rat.cells Tapi_Rat.d a.f_Slopes), (encL Tapi_Rat.cells Tapi_Rat.d b.f_Slopes)] [] 0 (aB rSameRats) [], rInts = true, rInts = true], rInts = true → AllP [rInts = true]] ⟨o1, o1, (g_keelblockbase_Ints_ok N a.f_Starts b.f_Starts rInts hr), (fun hg => ⟨hg, o1, trivial⟩), (fun hg => ⟨hg, o1, trivial⟩), (fun hg => ⟨(g_keelblockbase_SameRats_ok N a.f_Slopes b.f_Slopes rSameRats (condT hr2 hg)), hg, hg, trivial⟩), (fun hq => ⟨hq, trivial⟩), trivial⟩ ?_
  obtain rfl := Option.some.inj h
  refine Runs.sW hE ⟨[(4, (aB (cond rInts rSameRats false)))], [], 256⟩ [] (kp [4]) [] 256 [] trivial ?_
  exact Runs.sT Try.f65 [] [] trivial

noncomputable def C_108 (n : Nat) : Code := cat (bodyOf Try.f132) (pth n)

theorem g_r01_Q_ok (N : Nat) (n : Int) (r : Tapi_Rat) (h : g_r01_Q N n = some r) : Sound Try.prog 132 [(aI n)] [] 0 (.agg (Tapi_Rat.cells r)) [] := by
  unfold g_r01_Q at h
  refine Sound.of_runs (fu := Try.f132) (c := C_108 1) (nt := 7) (by kernel_rfl) (by kernel_rfl) (by kernel_rfl) (by kernel_rfl) (fun hm => rfl) ?_
  intro E hE
  refine Runs.sA 1 [.code (C_108 2), .code (C_108 3)] ?_
  refine Runs.sR hE ⟨[(0, (aI n)), (2, (.op 0 0 0))], [(0, vO 4 [(aB false), .nil, (aB false), .nil])], 16⟩ (C_108 2) [] [] (kp [0, 2]) (kq [0]) 16 [] trivial ?_
  refine Runs.sA 1 [.code (C_108 6), .code (C_108 7)] ?_
  obtain ⟨rOf, hr, h⟩ := bindSome h
  obtain ⟨rOf2, hr2, h⟩ := bindSome h
  refine Runs.sR hE ⟨[(2, (.op 0 0 0))], [(0, vO 4 [(aB rOf.f_Neg), (encL (cU .u16) 0 rOf.f_Limbs), (aB rOf2.f_Neg), (encL (cU .u16) 0 rOf2.f_Limbs)])], 96⟩ (C_108 6) [(1, ⟨[], true, (.agg (Tapi_Int.cells rOf)), [], 0, false, none⟩), (2, ⟨[], true, (.agg (Tapi_Int.cells rOf2)), [], 0, false, none⟩)] [] (kp [2]) (kq [0]) 96 [Sound Try.prog 24 [(aI n)] [] 0 (.agg (Tapi_Int.cells rOf)) [], Sound Try.prog 24 [(aI 1)] [] 0 (.agg (Tapi_Int.cells rOf2)) [], 0 < 1] ⟨(g_r01_Of_ok N n rOf hr), (g_r01_Of_ok N 1 rOf2 hr2), o1, trivial⟩ ?_
  obtain rfl := Option.some.inj h
  refine Runs.sW hE ⟨[(2, (.op 16 0 0))], [(16, vO 4 [(aB rOf.f_Neg), (encL (cU .u16) 0 rOf.f_Limbs), (aB rOf2.f_Neg), (encL (cU .u16) 0 rOf2.f_Limbs)])], 96⟩ [] (kp [2]) [(16, .keep 0)] 96 [] trivial ?_
  exact Runs.sT Try.f132 [16] [0 < 1] ⟨o1, trivial⟩

noncomputable def C_107 (n : Nat) : Code := cat (bodyOf Try.f131) (pth n)

theorem g_r01_Normal_J2_ok (N : Nat) (c : Tapi_Curve) (i : Int) (K_g_r01_Normal_L1 : (List Int) → (List Tapi_Rat) → Tapi_Rat → Int → Option (Tapi_Curve))
    (hK_g_r01_Normal_L1 : ∀ (out : List Int) (out2 : List Tapi_Rat) (last : Tapi_Rat) (i : Int) (r : Tapi_Curve), K_g_r01_Normal_L1 out out2 last i = some r → ∀ E, EnvOk E 0 → Runs Try.prog E 131 43 (SPost E [(0, aO 1 cI 0 r.f_Starts)] (.agg [(.os 0 0 r.f_Starts.length), (encL Tapi_Rat.cells Tapi_Rat.d r.f_Slopes)])) [.code (C_107 244), .inLoop (C_107 244), .inBlock 0, .code (C_107 31)] ⟨[(1, (.op 0 0 0)), (2, (.op 1 0 0)), (3, (.op 2 0 0)), (4, (.op 5 0 0)), (5, (aI i))], [(0, vO 2 (Tapi_Curve.cells c)), (1, vO 2 [.nil, .nil]), (2, vN 2 [(.os 3 0 out.length), (.os 4 0 out2.length)]), (3, aO 1 cI 0 out), (4, aO 4 Tapi_Rat.cells Tapi_Rat.d out2), (5, vO 4 (Tapi_Rat.cells last))], 6⟩) (out3 : List Int) (out4 : List Tapi_Rat) (last2 : Tapi_Rat) (r : Tapi_Curve) (h : g_r01_Normal_J2 N c i K_g_r01_Normal_L1 out3 out4 last2 = some r) : ∀ E, EnvOk E 0 → Runs Try.prog E 131 43 (SPost E [(0, aO 1 cI 0 r.f_Starts)] (.agg [(.os 0 0 r.f_Starts.length), (encL Tapi_Rat.cells Tapi_Rat.d r.f_Slopes)])) [.code (C_107 979), .inLoop (C_107 244), .inBlock 0, .code (C_107 31)] ⟨[(1, (.op 0 0 0)), (2, (.op 1 0 0)), (3, (.op 2 0 0)), (4, (.op 5 0 0)), (5, (aI i))], [(0, vO 2 (Tapi_Curve.cells c)), (1, vO 2 [.nil, .nil]), (2, vN 2 [(.os 3 0 out3.length), (.os 4 0 out4.length)]), (3, aO 1 cI 0 out3), (4, aO 4 Tapi_Rat.cells Tapi_Rat.d out4), (5, vO 4 (Tapi_Rat.cells last2))], 6⟩ := by
  intro E hE
  unfold g_r01_Normal_J2 at h
  refine Runs.sR hE ⟨[(1, (.op 0 0 0)), (2, (.op 1 0 0)), (3, (.op 2 0 0)), (4, (.op 5 0 0)), (5, (aI (w64 (i + 1))))], [(0, vO 2 (Tapi_Curve.cells c)), (1, vO 2 [.nil, .nil]), (2, vN 2 [(.os 3 0 out3.length), (.os 4 0 out4.length)]), (3, aO 1 cI 0 out3), (4, aO 4 Tapi_Rat.cells Tapi_Rat.d out4), (5, vO 4 (Tapi_Rat.cells last2))], 54⟩ (C_107 979) [] [] (kp [1, 2, 3, 4, 5]) (kq [0, 1, 2, 3, 4, 5]) 54 [] trivial ?_
  refine Runs.sA 1 [.code (C_107 244), .inLoop (C_107 244), .inBlock 0, .code (C_107 31)] ?_
  exact Runs.sW hE _ [] (kp [1, 2, 3, 4, 5]) (kq [0, 1, 2, 3, 4, 5]) 6 [] trivial (hK_g_r01_Normal_L1 out3 out4 last2 (w64 (i + 1)) _ h E hE)

theorem g_r01_Normal_L1_ok (N : Nat) (c : Tapi_Curve) (fuel : Nat) : ∀ (out : List Int) (out2 : List Tapi_Rat) (last : Tapi_Rat) (i : Int) (r : Tapi_Curve), g_r01_Normal_L1 N c fuel out out2 last i = some r → ∀ E, EnvOk E 0 → Runs Try.prog E 131 43 (SPost E [(0, aO 1 cI 0 r.f_Starts)] (.agg [(.os 0 0 r.f_Starts.length), (encL Tapi_Rat.cells Tapi_Rat.d r.f_Slopes)])) [.code (C_107 244), .inLoop (C_107 244), .inBlock 0, .code (C_107 31)] ⟨[(1, (.op 0 0 0)), (2, (.op 1 0 0)), (3, (.op 2 0 0)), (4, (.op 5 0 0)), (5, (aI i))], [(0, vO 2 (Tapi_Curve.cells c)), (1, vO 2 [.nil, .nil]), (2, vN 2 [(.os 3 0 out.length), (.os 4 0 out2.length)]), (3, aO 1 cI 0 out), (4, aO 4 Tapi_Rat.cells Tapi_Rat.d out2), (5, vO 4 (Tapi_Rat.cells last))], 6⟩ := by
  induction fuel with
  | zero => intro _ _ _ _ r h; rw [g_r01_Normal_L1.eq_1] at h; cases h
  | succ fuel ih =>
    intro out out2 last i r h E hE
    rw [g_r01_Normal_L1.eq_2] at h
    refine Runs.sA 2 [.code (C_107 976), .code (C_107 977), .code (C_107 489), .inLoop (C_107 244), .inBlock 0, .code (C_107 31)] ?_
    refine Runs.sR hE ⟨[(1, (.op 0 0 0)), (2, (.op 1 0 0)), (3, (.op 2 0 0)), (4, (.op 5 0 0)), (5, (aI i)), (12, (aB (decide (i < ((c.f_Starts.length : Nat) : Int)))))], [(0, vO 2 (Tapi_Curve.cells c)), (1, vO 2 [.nil, .nil]), (2, vN 2 [(.os 3 0 out.length), (.os 4 0 out2.length)]), (3, aO 1 cI 0 out), (4, aO 4 Tapi_Rat.cells Tapi_Rat.d out2), (5, vO 4 (Tapi_Rat.cells last))], 86⟩ (C_107 976) [] [] (kp [1, 2, 3, 4, 5, 12]) (kq [0, 1, 2, 3, 4, 5]) 86 [0 < 1] ⟨o1, trivial⟩ ?_
    refine Runs.sC 12 (C_107 1954) (C_107 1955) (decide (i < ((c.f_Starts.length : Nat) : Int))) (fun hq2 => ?_) (fun hq2 => ?_)
    · have h := condT h hq2
      refine Runs.sA 4 [.code (C_107 3912), .code (C_107 3913), .inBlock 1, .code (C_107 979), .inLoop (C_107 244), .inBlock 0, .code (C_107 31)] ?_
      obtain ⟨c2, h⟩ := ifSome h
      obtain ⟨rNormRat, hr2, h⟩ := bindSome h
      refine Runs.sR hE ⟨[(1, (.op 0 0 0)), (2, (.op 1 0 0)), (3, (.op 2 0 0)), (4, (.op 5 0 0)), (5, (aI i)), (6, (.op 182 0 0))], [(0, vO 2 (Tapi_Curve.cells c)), (1, vO 2 [.nil, .nil]), (2, vN 2 [(.os 3 0 out.length), (.os 4 0 out2.length)]), (3, aO 1 cI 0 out), (4, aO 4 Tapi_Rat.cells Tapi_Rat.d out2), (5, vO 4 (Tapi_Rat.cells last)), (182, vO 4 (Tapi_Rat.cells rNormRat))], 214⟩ (C_107 3912) [(5, ⟨[], true, (.agg (Tapi_Rat.cells rNormRat)), [], 0, false, none⟩)] [] (kp [1, 2, 3, 4, 5, 6]) (kq [0, 1, 2, 3, 4, 5, 182]) 214 [0 < 1, 0 ≤ i ∧ i < ((c.f_Slopes.length : Nat) : Int), Sound Try.prog 57 [(.agg [(aB (((c.f_Slopes.getD ((i).toNat) Tapi_Rat.d).f_Num).f_Neg)), (encL (cU .u16) 0 (((c.f_Slopes.getD ((i).toNat) Tapi_Rat.d).f_Num).f_Limbs)), (aB (((c.f_Slopes.getD ((i).toNat) Tapi_Rat.d).f_Den).f_Neg)), (encL (cU .u16) 0 (((c.f_Slopes.getD ((i).toNat) Tapi_Rat.d).f_Den).f_Limbs))])] [] 0 (.agg (Tapi_Rat.cells rNormRat)) [], 0 < 1] ⟨o1, c2, (g_r01_NormRat_ok N (⟨((c.f_Slopes.getD ((i).toNat) Tapi_Rat.d).f_Num), ((c.f_Slopes.getD ((i).toNat) Tapi_Rat.d).f_Den)⟩ : Tapi_Rat) rNormRat hr2), o1, trivial⟩ ?_
      refine Runs.sA 1 [.code (C_107 7826), .code (C_107 7827), .inBlock 1, .code (C_107 979), .inLoop (C_107 244), .inBlock 0, .code (C_107 31)] ?_
      obtain ⟨rCmpRat, hr3, h⟩ := bindSome h
      refine Runs.sR hE ⟨[(1, (.op 0 0 0)), (2, (.op 1 0 0)), (3, (.op 2 0 0)), (4, (.op 5 0 0)), (5, (aI i)), (6, (.op 182 0 0)), (24, (aB (rCmpRat != 0)))], [(0, vO 2 (Tapi_Curve.cells c)), (1, vO 2 [.nil, .nil]), (2, vN 2 [(.os 3 0 out.length), (.os 4 0 out2.length)]), (3, aO 1 cI 0 out), (4, aO 4 Tapi_Rat.cells Tapi_Rat.d out2), (5, vO 4 (Tapi_Rat.cells last)), (182, vO 4 (Tapi_Rat.cells rNormRat))], 278⟩ (C_107 7826) [(2, ⟨[], true, (aI rCmpRat), [], 0, false, none⟩)] [] (kp [1, 2, 3, 4, 5, 6, 24]) (kq [0, 1, 2, 3, 4, 5, 182]) 278 [0 < 1, 0 < 1, Sound Try.prog 50 [(.agg (Tapi_Rat.cells rNormRat)), (.agg (Tapi_Rat.cells last))] [] 0 (aI rCmpRat) []] ⟨o1, o1, (g_r01_CmpRat_ok N rNormRat last rCmpRat hr3), trivial⟩ ?_
      refine Runs.sC 24 (C_107 15654) (C_107 15655) (rCmpRat != 0) (fun hq3 => ?_) (fun hq3 => ?_)
      · have h := condT h hq3
        refine Runs.sA 1 [.code (C_107 31308), .code (C_107 31309), .inBlock 1, .code (C_107 979), .inLoop (C_107 244), .inBlock 0, .code (C_107 31)] ?_
        obtain ⟨c3, h⟩ := ifSome h
        obtain ⟨c4, h⟩ := ifSome h
        refine Runs.sR hE ⟨[(1, (.op 0 0 0)), (2, (.op 1 0 0)), (3, (.op 2 0 0)), (4, (.op 5 0 0)), (5, (aI i)), (6, (.op 182 0 0))], [(0, vO 2 (Tapi_Curve.cells c)), (1, vO 2 [.nil, .nil]), (2, vN 2 [(.os 406 0 ((out ++ ([(c.f_Starts.getD ((i).toNat) 0)] : List Int)).length)), (.os 4 0 out2.length)]), (4, aO 4 Tapi_Rat.cells Tapi_Rat.d out2), (5, vO 4 (Tapi_Rat.cells last)), (182, vO 4 (Tapi_Rat.cells rNormRat)), (406, aO 1 cI 0 (out ++ ([(c.f_Starts.getD ((i).toNat) 0)] : List Int)))], 454⟩ (C_107 31308) [] [] (kp [1, 2, 3, 4, 5, 6]) (kq [0, 1] ++ [(2, .var 2 [.osl ((out ++ ([(c.f_Starts.getD ((i).toNat) 0)] : List Int)).length), .keep])] ++ kq [4, 5, 182] ++ [(406, .arr 406 ((out ++ ([(c.f_Starts.getD ((i).toNat) 0)] : List Int)).length) (fun zi => cI ((out ++ ([(c.f_Starts.getD ((i).toNat) 0)] : List Int)).getD zi 0)))]) 454 [0 < 1, 0 < 1, 0 ≤ i ∧ i < ((c.f_Starts.length : Nat) : Int), out.length = out.length, (out.length + 1) * 8 ≤ 140737488355328, 0 + 1 ≤ 1, ∀ zi, zi < 1 → AV.oneL ((fun zi => ([[(aI (c.f_Starts.getD ((i).toNat) 0))]] : List (List AV)).getD zi []) (addz 0 zi)) = true, 0 < 1, (out.length + 1) = (out ++ ([(c.f_Starts.getD ((i).toNat) 0)] : List Int)).length, out.length + 1 = (out ++ ([(c.f_Starts.getD ((i).toNat) 0)] : List Int)).length, ∀ zi, zi < (out ++ ([(c.f_Starts.getD ((i).toNat) 0)] : List Int)).length → (fun zi => cI ((out ++ ([(c.f_Starts.getD ((i).toNat) 0)] : List Int)).getD zi 0)) zi = ((fun zm => if zm < out.length then (fun zi => cI (out.getD zi 0)) zm else (fun zi => ([[(aI (c.f_Starts.getD ((i).toNat) 0))]] : List (List AV)).getD zi []) (zm - out.length))) zi] ⟨o1, o1, c3, rfl, c4, z0, (oneN rfl), o1, (len_app_raw rfl rfl), (len_app_raw rfl rfl), (get_app_raw cI 0 out ([(c.f_Starts.getD ((i).toNat) 0)] : List Int) rfl (fun _ _ => rfl) (fun zq hzq => get_chunk cI 0 ([(c.f_Starts.getD ((i).toNat) 0)] : List Int) zq hzq)), trivial⟩ ?_
        refine Runs.sA 1 [.code (C_107 62618), .code (C_107 62619), .inBlock 1, .code (C_107 979), .inLoop (C_107 244), .inBlock 0, .code (C_107 31)] ?_
        obtain ⟨c5, h⟩ := ifSome h
        refine Runs.sR hE ⟨[(1, (.op 0 0 0)), (2, (.op 1 0 0)), (3, (.op 2 0 0)), (4, (.op 5 0 0)), (5, (aI i)), (6, (.op 182 0 0))], [(0, vO 2 (Tapi_Curve.cells c)), (1, vO 2 [.nil, .nil]), (2, vN 2 [(.os 406 0 ((out ++ ([(c.f_Starts.getD ((i).toNat) 0)] : List Int)).length)), (.os 518 0 ((out2 ++ ([rNormRat] : List Tapi_Rat)).length))]), (5, vO 4 (Tapi_Rat.cells last)), (182, vO 4 (Tapi_Rat.cells rNormRat)), (406, aO 1 cI 0 (out ++ ([(c.f_Starts.getD ((i).toNat) 0)] : List Int))), (518, aO 4 Tapi_Rat.cells Tapi_Rat.d (out2 ++ ([rNormRat] : List Tapi_Rat)))], 566⟩ (C_107 62618) [] [] (kp [1, 2, 3, 4, 5, 6]) (kq [0, 1] ++ [(2, .var 2 [.keep, .osl ((out2 ++ ([rNormRat] : List Tapi_Rat)).length)])] ++ kq [5, 182, 406] ++ [(518, .arr 518 ((out2 ++ ([rNormRat] : List Tapi_Rat)).length) (fun zi => Tapi_Rat.cells ((out2 ++ ([rNormRat] : List Tapi_Rat)).getD zi Tapi_Rat.d)))]) 566 [0 < 1, 0 < 1, out2.length = out2.length, (out2.length + 1) * 64 ≤ 140737488355328, 0 + 1 ≤ 1, ∀ zi, zi < 1 → AV.oneL ((fun zi => ([[(aB rNormRat.f_Num.f_Neg), (encL (cU .u16) 0 rNormRat.f_Num.f_Limbs), (aB rNormRat.f_Den.f_Neg), (encL (cU .u16) 0 rNormRat.f_Den.f_Limbs)]] : List (List AV)).getD zi []) (addz 0 zi)) = true, 0 < 1, (out2.length + 1) = (out2 ++ ([rNormRat] : List Tapi_Rat)).length, out2.length + 1 = (out2 ++ ([rNormRat] : List Tapi_Rat)).length, ∀ zi, zi < (out2 ++ ([rNormRat] : List Tapi_Rat)).length → (fun zi => Tapi_Rat.cells ((out2 ++ ([rNormRat] : List Tapi_Rat)).getD zi Tapi_Rat.d)) zi = ((fun zm => if zm < out2.length then (fun zi => Tapi_Rat.cells (out2.getD zi Tapi_Rat.d)) zm else (fun zi => ([[(aB rNormRat.f_Num.f_Neg), (encL (cU .u16) 0 rNormRat.f_Num.f_Limbs), (aB rNormRat.f_Den.f_Neg), (encL (cU .u16) 0 rNormRat.f_Den.f_Limbs)]] : List (List AV)).getD zi []) (zm - out2.length))) zi] ⟨o1, o1, rfl, c5, z0, (oneN rfl), o1, (len_app_raw rfl rfl), (len_app_raw rfl rfl), (get_app_raw Tapi_Rat.cells Tapi_Rat.d out2 ([rNormRat] : List Tapi_Rat) rfl (fun _ _ => rfl) (fun zq hzq => get_chunk Tapi_Rat.cells Tapi_Rat.d ([rNormRat] : List Tapi_Rat) zq hzq)), trivial⟩ ?_
        refine Runs.sR hE ⟨[(1, (.op 0 0 0)), (2, (.op 1 0 0)), (3, (.op 2 0 0)), (4, (.op 5 0 0)), (5, (aI i))], [(0, vO 2 (Tapi_Curve.cells c)), (1, vO 2 [.nil, .nil]), (2, vN 2 [(.os 406 0 ((out ++ ([(c.f_Starts.getD ((i).toNat) 0)] : List Int)).length)), (.os 518 0 ((out2 ++ ([rNormRat] : List Tapi_Rat)).length))]), (5, vO 4 (Tapi_Rat.cells rNormRat)), (406, aO 1 cI 0 (out ++ ([(c.f_Starts.getD ((i).toNat) 0)] : List Int))), (518, aO 4 Tapi_Rat.cells Tapi_Rat.d (out2 ++ ([rNormRat] : List Tapi_Rat)))], 598⟩ (C_107 62619) [] [] (kp [1, 2, 3, 4, 5]) (kq [0, 1, 2, 5, 406, 518]) 598 [0 < 1, 0 < 1] ⟨o1, o1, trivial⟩ ?_
        refine Runs.sA 1 [.code (C_107 979), .inLoop (C_107 244), .inBlock 0, .code (C_107 31)] ?_
        exact Runs.sW hE _ [] (kp [1, 2, 3, 4, 5]) (kq [0, 1, 2] ++ [(3, .keep 406), (4, .keep 518)] ++ kq [5]) 6 [] trivial (g_r01_Normal_J2_ok N c i (g_r01_Normal_L1 N c fuel) ih (out ++ ([(c.f_Starts.getD ((i).toNat) 0)] : List Int)) (out2 ++ ([rNormRat] : List Tapi_Rat)) rNormRat _ h E hE)
      · have h := condF h hq3
        refine Runs.sA 2 [.code (C_107 979), .inLoop (C_107 244), .inBlock 0, .code (C_107 31)] ?_
        exact Runs.sW hE _ [] (kp [1, 2, 3, 4, 5]) (kq [0, 1, 2, 3, 4, 5]) 6 [] trivial (g_r01_Normal_J2_ok N c i (g_r01_Normal_L1 N c fuel) ih out out2 last _ h E hE)
    · have h := condF h hq2
      refine Runs.sA 2 [.code (C_107 62), .code (C_107 63)] ?_
      refine Runs.sR hE ⟨[(2, (.op 1 0 0))], [(1, vN 2 [(.os 3 0 out.length), (.os 4 0 out2.length)]), (3, aO 1 cI 0 out), (4, aO 4 Tapi_Rat.cells Tapi_Rat.d out2)], 118⟩ (C_107 62) [] [] (kp [2]) (kq [1, 3, 4]) 118 [0 < 1, 0 < 1] ⟨o1, o1, trivial⟩ ?_
      obtain rfl := Option.some.inj h
      refine Runs.sW hE ⟨[(2, (.op 16 0 0))], [(0, aO 1 cI 0 out), (16, vN 2 [(.os 0 0 out.length), (encL Tapi_Rat.cells Tapi_Rat.d out2)])], 118⟩ [4] (kp [2]) [(0, .keep 3), (16, .var 1 [.keep, .sl (out2.length) (fun zi => Tapi_Rat.cells (out2.getD zi Tapi_Rat.d))])] 118 [out2.length = out2.length, 0 + out2.length ≤ out2.length, ∀ zi, zi < out2.length → (fun zi => Tapi_Rat.cells (out2.getD zi Tapi_Rat.d)) zi = (fun zi => Tapi_Rat.cells (out2.getD zi Tapi_Rat.d)) (addz 0 zi)] ⟨rfl, z0, (fun _ _ => rfl), trivial⟩ ?_
      exact Runs.sT Try.f131 [16] [0 < 1] ⟨o1, trivial⟩

theorem g_r01_Normal_ok (N : Nat) (c : Tapi_Curve) (r : Tapi_Curve) (h : g_r01_Normal N c = some r) : Sound Try.prog 131 [(.agg (Tapi_Curve.cells c))] [] 0 (.agg [(.os 0 0 r.f_Starts.length), (encL Tapi_Rat.cells Tapi_Rat.d r.f_Slopes)]) [(0, aO 1 cI 0 r.f_Starts)] := by
  unfold g_r01_Normal at h
  refine Sound.of_runs (fu := Try.f131) (c := C_107 1) (nt := 43) (by kernel_rfl) (by kernel_rfl) (by kernel_rfl) (by kernel_rfl) (fun hm => rfl) ?_
  intro E hE
  refine Runs.sA 1 [.code (C_107 2), .code (C_107 3)] ?_
  refine Runs.sR hE ⟨[(1, (.op 0 0 0)), (2, (.op 16 0 0))], [(0, vO 2 (Tapi_Curve.cells c)), (16, vO 2 [.nil, .nil])], 32⟩ (C_107 2) [] [] (kp [1, 2]) (kq [0, 16]) 32 [] trivial ?_
  refine Runs.sA 1 [.code (C_107 6), .code (C_107 7)] ?_
  refine Runs.sR hE ⟨[(1, (.op 0 0 0)), (2, (.op 16 0 0)), (3, (.op 32 0 0))], [(0, vO 2 (Tapi_Curve.cells c)), (16, vO 2 [.nil, .nil]), (32, vO 2 [.nil, .nil])], 48⟩ (C_107 6) [] [] (kp [1, 2, 3]) (kq [0, 16, 32]) 48 [] trivial ?_
  refine Runs.sA 1 [.code (C_107 14), .code (C_107 15)] ?_
  obtain ⟨rQ, hr, h⟩ := bindSome h
  refine Runs.sR hE ⟨[(1, (.op 0 0 0)), (2, (.op 16 0 0)), (3, (.op 32 0 0)), (4, (.op 64 0 0))], [(0, vO 2 (Tapi_Curve.cells c)), (16, vO 2 [.nil, .nil]), (32, vO 2 [.nil, .nil]), (64, vO 4 (Tapi_Rat.cells rQ))], 96⟩ (C_107 14) [(0, ⟨[], true, (.agg (Tapi_Rat.cells rQ)), [], 0, false, none⟩)] [] (kp [1, 2, 3, 4]) (kq [0, 16, 32, 64]) 96 [Sound Try.prog 132 [(aI 0)] [] 0 (.agg (Tapi_Rat.cells rQ)) [], 0 < 1] ⟨(g_r01_Q_ok N 0 rQ hr), o1, trivial⟩ ?_
  refine Runs.sA 2 [.code (C_107 60), .code (C_107 61), .code (C_107 31)] ?_
  refine Runs.sR hE ⟨[(1, (.op 0 0 0)), (2, (.op 16 0 0)), (3, (.op 32 0 0)), (4, (.op 64 0 0)), (5, (aI 0))], [(0, vO 2 (Tapi_Curve.cells c)), (16, vO 2 [.nil, .nil]), (32, vO 2 [.nil, .nil]), (64, vO 4 (Tapi_Rat.cells rQ))], 112⟩ (C_107 60) [] [] (kp [1, 2, 3, 4, 5]) (kq [0, 16, 32, 64]) 112 [] trivial ?_
  refine Runs.sA 2 [.code (C_107 244), .inLoop (C_107 244), .inBlock 0, .code (C_107 31)] ?_
  exact Runs.sW hE _ [] (kp [1, 2, 3, 4, 5]) (kq [0] ++ [(1, .keep 16), (2, .var 32 [.nilos 3, .nilos 4]), (3, .nil 1 (fun zi => cI (([] : List Int).getD zi 0))), (4, .nil 4 (fun zi => Tapi_Rat.cells (([] : List Tapi_Rat).getD zi Tapi_Rat.d))), (5, .keep 64)]) 6 [] trivial (g_r01_Normal_L1_ok N c N ([] : List Int) ([] : List Tapi_Rat) rQ 0 _ h E hE)

noncomputable def C_106 (n : Nat) : Code := cat (bodyOf Try.f66) (pth n)

theorem g_r01_Shift_L2_ok (N : Nat) (vby : Int) (rNormal : Tapi_Curve) (fuel : Nat) : ∀ (out : List Int) (i2 : Int) (r : Tapi_Curve × Int), g_r01_Shift_L2 N vby rNormal fuel out i2 = some r → ∀ E, EnvOk E 0 → Runs Try.prog E 66 64 (SPost E [] (.tup [(.agg (Tapi_Curve.cells r.1)), (aI r.2)])) [.code (C_106 244), .inLoop (C_106 244), .inBlock 2, .code (C_106 31)] ⟨[(1, (aI vby)), (4, (.op 0 0 0)), (6, (.op 1 0 0)), (8, (aI i2))], [(0, vO 2 [.nil, .nil]), (1, vN 2 [(.os 2 0 out.length), (encL Tapi_Rat.cells Tapi_Rat.d rNormal.f_Slopes)]), (2, aO 1 cI 0 out)], 3⟩ := by
  induction fuel with
  | zero => intro _ _ r h; rw [g_r01_Shift_L2.eq_1] at h; cases h
  | succ fuel ih =>
    intro out i2 r h E hE
    rw [g_r01_Shift_L2.eq_2] at h
    refine Runs.sA 2 [.code (C_106 976), .code (C_106 977), .code (C_106 489), .inLoop (C_106 244), .inBlock 2, .code (C_106 31)] ?_
    refine Runs.sR hE ⟨[(1, (aI vby)), (4, (.op 0 0 0)), (6, (.op 1 0 0)), (8, (aI i2)), (49, (aB (decide (i2 < ((out.length : Nat) : Int)))))], [(0, vO 2 [.nil, .nil]), (1, vN 2 [(.os 2 0 out.length), (encL Tapi_Rat.cells Tapi_Rat.d rNormal.f_Slopes)]), (2, aO 1 cI 0 out)], 83⟩ (C_106 976) [] [] (kp [1, 4, 6, 8, 49]) (kq [0, 1, 2]) 83 [0 < 1] ⟨o1, trivial⟩ ?_
    refine Runs.sC 49 (C_106 1954) (C_106 1955) (decide (i2 < ((out.length : Nat) : Int))) (fun hq4 => ?_) (fun hq4 => ?_)
    · have h := condT h hq4
      refine Runs.sA 3 [.code (C_106 1956), .inBlock 3, .code (C_106 979), .inLoop (C_106 244), .inBlock 2, .code (C_106 31)] ?_
      obtain ⟨c4, h⟩ := ifSome h
      refine Runs.sR hE ⟨[(1, (aI vby)), (4, (.op 0 0 0)), (6, (.op 1 0 0)), (8, (aI i2))], [(0, vO 2 [.nil, .nil]), (1, vN 2 [(.os 2 0 ((out.set ((i2).toNat) (w64 ((out.getD ((i2).toNat) 0) + vby))).length)), (encL Tapi_Rat.cells Tapi_Rat.d rNormal.f_Slopes)]), (2, aO 1 cI 0 (out.set ((i2).toNat) (w64 ((out.getD ((i2).toNat) 0) + vby))))], 275⟩ (C_106 1956) [] [] (kp [1, 4, 6, 8]) (kq [0] ++ [(1, .var 1 [.osl ((out.set ((i2).toNat) (w64 ((out.getD ((i2).toNat) 0) + vby))).length), .keep]), (2, .arr 2 ((out.set ((i2).toNat) (w64 ((out.getD ((i2).toNat) 0) + vby))).length) (fun zi => cI ((out.set ((i2).toNat) (w64 ((out.getD ((i2).toNat) 0) + vby))).getD zi 0)))]) 275 [0 < 1, 0 < 1, 0 ≤ i2 ∧ i2 < ((out.length : Nat) : Int), (i2).toNat < out.length, 0 ≤ i2 ∧ i2 < ((out.length : Nat) : Int), (i2).toNat < out.length, out.length = (out.set ((i2).toNat) (w64 ((out.getD ((i2).toNat) 0) + vby))).length, out.length = (out.set ((i2).toNat) (w64 ((out.getD ((i2).toNat) 0) + vby))).length, ∀ zi, zi < (out.set ((i2).toNat) (w64 ((out.getD ((i2).toNat) 0) + vby))).length → (fun zi => cI ((out.set ((i2).toNat) (w64 ((out.getD ((i2).toNat) 0) + vby))).getD zi 0)) zi = ((fun zm => if zm = (i2).toNat then [(aI (w64 ((out.getD ((i2).toNat) 0) + vby)))] else (fun zi => cI (out.getD zi 0)) zm)) zi] ⟨o1, o1, c4, (ltOf c4), c4, (ltOf c4), (len_set_raw rfl), (len_set_raw rfl), (get_set_raw cI 0 out ((i2).toNat) (w64 ((out.getD ((i2).toNat) 0) + vby)) (fun _ _ => rfl)), trivial⟩ ?_
      refine Runs.sA 1 [.code (C_106 979), .inLoop (C_106 244), .inBlock 2, .code (C_106 31)] ?_
      refine Runs.sR hE ⟨[(1, (aI vby)), (4, (.op 0 0 0)), (6, (.op 1 0 0)), (8, (aI (w64 (i2 + 1))))], [(0, vO 2 [.nil, .nil]), (1, vN 2 [(.os 2 0 ((out.set ((i2).toNat) (w64 ((out.getD ((i2).toNat) 0) + vby))).length)), (encL Tapi_Rat.cells Tapi_Rat.d rNormal.f_Slopes)]), (2, aO 1 cI 0 (out.set ((i2).toNat) (w64 ((out.getD ((i2).toNat) 0) + vby))))], 323⟩ (C_106 979) [] [] (kp [1, 4, 6, 8]) (kq [0, 1, 2]) 323 [] trivial ?_
      refine Runs.sA 1 [.code (C_106 244), .inLoop (C_106 244), .inBlock 2, .code (C_106 31)] ?_
      exact Runs.sW hE _ [] (kp [1, 4, 6, 8]) (kq [0, 1, 2]) 3 [] trivial (ih (out.set ((i2).toNat) (w64 ((out.getD ((i2).toNat) 0) + vby))) (w64 (i2 + 1)) _ h E hE)
    · have h := condF h hq4
      refine Runs.sA 2 [.code (C_106 62), .code (C_106 63)] ?_
      refine Runs.sR hE ⟨[(4, (.op 0 0 0)), (5, (aI 0))], [(0, vN 2 [(.os 2 0 out.length), (encL Tapi_Rat.cells Tapi_Rat.d rNormal.f_Slopes)]), (2, aO 1 cI 0 out)], 131⟩ (C_106 62) [] [] (kp [4, 5]) (kq [0, 2]) 131 [0 < 1, 0 < 1] ⟨o1, o1, trivial⟩ ?_
      obtain rfl := Option.some.inj h
      refine Runs.sW hE ⟨[(4, (.op 16 0 0)), (5, (aI 0))], [(16, vO 2 [(encL cI 0 out), (encL Tapi_Rat.cells Tapi_Rat.d rNormal.f_Slopes)])], 131⟩ [2] (kp [4, 5]) [(16, .var 0 [.sl (out.length) (fun zi => cI (out.getD zi 0)), .keep])] 131 [out.length = out.length, 0 + out.length ≤ out.length, ∀ zi, zi < out.length → (fun zi => cI (out.getD zi 0)) zi = (fun zi => cI (out.getD zi 0)) (addz 0 zi)] ⟨rfl, z0, (fun _ _ => rfl), trivial⟩ ?_
      exact Runs.sT Try.f66 [16] [0 < 1] ⟨o1, trivial⟩

theorem g_r01_Shift_L1_ok (N : Nat) (vby : Int) (rNormal : Tapi_Curve) (fuel : Nat) : ∀ (i : Int) (r : Tapi_Curve × Int), g_r01_Shift_L1 N vby rNormal fuel i = some r → ∀ E, EnvOk E 0 → Runs Try.prog E 66 64 (SPost E [] (.tup [(.agg (Tapi_Curve.cells r.1)), (aI r.2)])) [.code (C_106 116), .inLoop (C_106 116), .inBlock 0, .code (C_106 15)] ⟨[(1, (aI vby)), (4, (.op 0 0 0)), (6, (.op 1 0 0)), (7, (aI i))], [(0, vO 2 [.nil, .nil]), (1, vN 2 [(.os 2 0 rNormal.f_Starts.length), (encL Tapi_Rat.cells Tapi_Rat.d rNormal.f_Slopes)]), (2, aO 1 cI 0 rNormal.f_Starts)], 3⟩ := by
  induction fuel with
  | zero => intro _ r h; rw [g_r01_Shift_L1.eq_1] at h; cases h
  | succ fuel ih =>
    intro i r h E hE
    rw [g_r01_Shift_L1.eq_2] at h
    refine Runs.sA 2 [.code (C_106 464), .code (C_106 465), .code (C_106 233), .inLoop (C_106 116), .inBlock 0, .code (C_106 15)] ?_
    refine Runs.sR hE ⟨[(1, (aI vby)), (4, (.op 0 0 0)), (6, (.op 1 0 0)), (7, (aI i)), (15, (aB (decide (i < ((rNormal.f_Starts.length : Nat) : Int)))))], [(0, vO 2 [.nil, .nil]), (1, vN 2 [(.os 2 0 rNormal.f_Starts.length), (encL Tapi_Rat.cells Tapi_Rat.d rNormal.f_Slopes)]), (2, aO 1 cI 0 rNormal.f_Starts)], 83⟩ (C_106 464) [] [] (kp [1, 4, 6, 7, 15]) (kq [0, 1, 2]) 83 [0 < 1] ⟨o1, trivial⟩ ?_
    refine Runs.sC 15 (C_106 930) (C_106 931) (decide (i < ((rNormal.f_Starts.length : Nat) : Int))) (fun hq2 => ?_) (fun hq2 => ?_)
    · have h := condT h hq2
      refine Runs.sA 4 [.code (C_106 1864), .code (C_106 1865), .inBlock 1, .code (C_106 467), .inLoop (C_106 116), .inBlock 0, .code (C_106 15)] ?_
      obtain ⟨c2, h⟩ := ifSome h
      obtain ⟨c3, h⟩ := ifSome h
      refine Runs.sR hE ⟨[(1, (aI vby)), (4, (.op 0 0 0)), (6, (.op 1 0 0)), (7, (aI i)), (43, (aB (cond (cond (cond (decide (vby < (-20000000))) true (decide (vby > 20000000))) true (decide ((w64 ((rNormal.f_Starts.getD ((i).toNat) 0) + vby)) < (-10000000)))) true (decide ((w64 ((rNormal.f_Starts.getD ((i).toNat) 0) + vby)) > 10000000)))))], [(0, vO 2 [.nil, .nil]), (1, vN 2 [(.os 2 0 rNormal.f_Starts.length), (encL Tapi_Rat.cells Tapi_Rat.d rNormal.f_Slopes)]), (2, aO 1 cI 0 rNormal.f_Starts)], 499⟩ (C_106 1864) [] [] (kp [1, 4, 6, 7, 43]) (kq [0, 1, 2]) 499 [(!(decide (vby < (-20000000)))) = true → AllP [(!(decide (vby < (-20000000)))) = true], (!(decide (vby < (-20000000)))) = true → AllP [(!(decide (vby < (-20000000)))) = true], (!(cond (decide (vby < (-20000000))) true (decide (vby > 20000000)))) = true → AllP [(!(cond (decide (vby < (-20000000))) true (decide (vby > 20000000)))) = true, 0 < 1], (!(cond (decide (vby < (-20000000))) true (decide (vby > 20000000)))) = true → AllP [(!(cond (decide (vby < (-20000000))) true (decide (vby > 20000000)))) = true, (!(cond (decide (vby < (-20000000))) true (decide (vby > 20000000)))) = true, 0 ≤ i ∧ i < ((rNormal.f_Starts.length : Nat) : Int)], (!(cond (decide (vby < (-20000000))) true (decide (vby > 20000000)))) = true → AllP [(!(cond (decide (vby < (-20000000))) true (decide (vby > 20000000)))) = true, (i).toNat < rNormal.f_Starts.length], (!(cond (decide (vby < (-20000000))) true (decide (vby > 20000000)))) = true → AllP [(!(cond (decide (vby < (-20000000))) true (decide (vby > 20000000)))) = true, (!(cond (decide (vby < (-20000000))) true (decide (vby > 20000000)))) = true], (!(cond (decide (vby < (-20000000))) true (decide (vby > 20000000)))) = true → AllP [(!(cond (decide (vby < (-20000000))) true (decide (vby > 20000000)))) = true], (!(cond (decide (vby < (-20000000))) true (decide (vby > 20000000)))) = true → AllP [(!(cond (decide (vby < (-20000000))) true (decide (vby > 20000000)))) = true], (!(cond (cond (decide (vby < (-20000000))) true (decide (vby > 20000000))) true (decide ((w64 ((rNormal.f_Starts.getD ((i).toNat) 0) + vby)) < (-10000000))))) = true → AllP [(!(cond (cond (decide (vby < (-20000000))) true (decide (vby > 20000000))) true (decide ((w64 ((rNormal.f_Starts.getD ((i).toNat) 0) + vby)) < (-10000000))))) = true, 0 < 1], (!(cond (cond (decide (vby < (-20000000))) true (decide (vby > 20000000))) true (decide ((w64 ((rNormal.f_Starts.getD ((i).toNat) 0) + vby)) < (-10000000))))) = true → AllP [(!(cond (cond (decide (vby < (-20000000))) true (decide (vby > 20000000))) true (decide ((w64 ((rNormal.f_Starts.getD ((i).toNat) 0) + vby)) < (-10000000))))) = true, (!(cond (cond (decide (vby < (-20000000))) true (decide (vby > 20000000))) true (decide ((w64 ((rNormal.f_Starts.getD ((i).toNat) 0) + vby)) < (-10000000))))) = true, 0 ≤ i ∧ i < ((rNormal.f_Starts.length : Nat) : Int)], (!(cond (cond (decide (vby < (-20000000))) true (decide (vby > 20000000))) true (decide ((w64 ((rNormal.f_Starts.getD ((i).toNat) 0) + vby)) < (-10000000))))) = true → AllP [(!(cond (cond (decide (vby < (-20000000))) true (decide (vby > 20000000))) true (decide ((w64 ((rNormal.f_Starts.getD ((i).toNat) 0) + vby)) < (-10000000))))) = true, (i).toNat < rNormal.f_Starts.length], (!(cond (cond (decide (vby < (-20000000))) true (decide (vby > 20000000))) true (decide ((w64 ((rNormal.f_Starts.getD ((i).toNat) 0) + vby)) < (-10000000))))) = true → AllP [(!(cond (cond (decide (vby < (-20000000))) true (decide (vby > 20000000))) true (decide ((w64 ((rNormal.f_Starts.getD ((i).toNat) 0) + vby)) < (-10000000))))) = true, (!(cond (cond (decide (vby < (-20000000))) true (decide (vby > 20000000))) true (decide ((w64 ((rNormal.f_Starts.getD ((i).toNat) 0) + vby)) < (-10000000))))) = true], (!(cond (cond (decide (vby < (-20000000))) true (decide (vby > 20000000))) true (decide ((w64 ((rNormal.f_Starts.getD ((i).toNat) 0) + vby)) < (-10000000))))) = true → AllP [(!(cond (cond (decide (vby < (-20000000))) true (decide (vby > 20000000))) true (decide ((w64 ((rNormal.f_Starts.getD ((i).toNat) 0) + vby)) < (-10000000))))) = true], (!(cond (cond (decide (vby < (-20000000))) true (decide (vby > 20000000))) true (decide ((w64 ((rNormal.f_Starts.getD ((i).toNat) 0) + vby)) < (-10000000))))) = true → AllP [(!(cond (cond (decide (vby < (-20000000))) true (decide (vby > 20000000))) true (decide ((w64 ((rNormal.f_Starts.getD ((i).toNat) 0) + vby)) < (-10000000))))) = true]] ⟨(fun hg => ⟨hg, trivial⟩), (fun hq => ⟨hq, trivial⟩), (fun hg => ⟨hg, o1, trivial⟩), (fun hg => ⟨hg, hg, (c2 hg), trivial⟩), (fun hg => ⟨hg, (ltOf (c2 hg)), trivial⟩), (fun hg => ⟨hg, hg, trivial⟩), (fun hg => ⟨hg, trivial⟩), (fun hq => ⟨hq, trivial⟩), (fun hg => ⟨hg, o1, trivial⟩), (fun hg => ⟨hg, hg, (c3 hg), trivial⟩), (fun hg => ⟨hg, (ltOf (c3 hg)), trivial⟩), (fun hg => ⟨hg, hg, trivial⟩), (fun hg => ⟨hg, trivial⟩), (fun hq => ⟨hq, trivial⟩), trivial⟩ ?_
      refine Runs.sC 43 (C_106 3730) (C_106 3731) (cond (cond (cond (decide (vby < (-20000000))) true (decide (vby > 20000000))) true (decide ((w64 ((rNormal.f_Starts.getD ((i).toNat) 0) + vby)) < (-10000000)))) true (decide ((w64 ((rNormal.f_Starts.getD ((i).toNat) 0) + vby)) > 10000000))) (fun hq3 => ?_) (fun hq3 => ?_)
      · have h := condT h hq3
        refine Runs.sA 1 [.code (C_106 7460), .code (C_106 7461), .inBlock 1, .code (C_106 467), .inLoop (C_106 116), .inBlock 0, .code (C_106 15)] ?_
        refine Runs.sR hE ⟨[(4, (.op 0 0 0)), (5, (aI 2))], [(0, vO 2 [.nil, .nil])], 547⟩ (C_106 7460) [] [] (kp [4, 5]) (kq [0]) 547 [0 < 1] ⟨o1, trivial⟩ ?_
        obtain rfl := Option.some.inj h
        refine Runs.sW hE ⟨[(4, (.op 16 0 0)), (5, (aI 2))], [(16, vO 2 [(encL cI 0 ([] : List Int)), (encL Tapi_Rat.cells Tapi_Rat.d ([] : List Tapi_Rat))])], 547⟩ [] (kp [4, 5]) [(16, .var 0 [.sl (([] : List Int).length) (fun zi => cI (([] : List Int).getD zi 0)), .sl (([] : List Tapi_Rat).length) (fun zi => Tapi_Rat.cells (([] : List Tapi_Rat).getD zi Tapi_Rat.d))])] 547 [([] : List Int).length = 0, ([] : List Tapi_Rat).length = 0] ⟨rfl, rfl, trivial⟩ ?_
        exact Runs.sT Try.f66 [16] [0 < 1] ⟨o1, trivial⟩
      · have h := condF h hq3
        refine Runs.sA 2 [.code (C_106 467), .inLoop (C_106 116), .inBlock 0, .code (C_106 15)] ?_
        refine Runs.sR hE ⟨[(1, (aI vby)), (4, (.op 0 0 0)), (6, (.op 1 0 0)), (7, (aI (w64 (i + 1))))], [(0, vO 2 [.nil, .nil]), (1, vN 2 [(.os 2 0 rNormal.f_Starts.length), (encL Tapi_Rat.cells Tapi_Rat.d rNormal.f_Slopes)]), (2, aO 1 cI 0 rNormal.f_Starts)], 547⟩ (C_106 467) [] [] (kp [1, 4, 6, 7]) (kq [0, 1, 2]) 547 [] trivial ?_
        refine Runs.sA 1 [.code (C_106 116), .inLoop (C_106 116), .inBlock 0, .code (C_106 15)] ?_
        exact Runs.sW hE _ [] (kp [1, 4, 6, 7]) (kq [0, 1, 2]) 3 [] trivial (ih (w64 (i + 1)) _ h E hE)
    · have h := condF h hq2
      refine Runs.sA 3 [.code (C_106 60), .code (C_106 61), .code (C_106 31)] ?_
      refine Runs.sR hE ⟨[(1, (aI vby)), (4, (.op 0 0 0)), (6, (.op 1 0 0)), (8, (aI 0))], [(0, vO 2 [.nil, .nil]), (1, vN 2 [(.os 2 0 rNormal.f_Starts.length), (encL Tapi_Rat.cells Tapi_Rat.d rNormal.f_Slopes)]), (2, aO 1 cI 0 rNormal.f_Starts)], 99⟩ (C_106 60) [] [] (kp [1, 4, 6, 8]) (kq [0, 1, 2]) 99 [] trivial ?_
      refine Runs.sA 2 [.code (C_106 244), .inLoop (C_106 244), .inBlock 2, .code (C_106 31)] ?_
      exact Runs.sW hE _ [] (kp [1, 4, 6, 8]) (kq [0, 1, 2]) 3 [] trivial (g_r01_Shift_L2_ok N vby rNormal N rNormal.f_Starts 0 _ h E hE)

theorem g_r01_Shift_ok (N : Nat) (c : Tapi_Curve) (vby : Int) (r : Tapi_Curve × Int) (h : g_r01_Shift N c vby = some r) : Sound Try.prog 66 [(.agg (Tapi_Curve.cells c)), (aI vby)] [] 0 (.tup [(.agg (Tapi_Curve.cells r.1)), (aI r.2)]) [] := by
  unfold g_r01_Shift at h
  refine Sound.of_runs (fu := Try.f66) (c := C_106 1) (nt := 64) (by kernel_rfl) (by kernel_rfl) (by kernel_rfl) (by kernel_rfl) (fun hm => rfl) ?_
  intro E hE
  refine Runs.sA 1 [.code (C_106 2), .code (C_106 3)] ?_
  refine Runs.sR hE ⟨[(1, (aI vby)), (2, (.op 0 0 0)), (4, (.op 16 0 0))], [(0, vO 2 (Tapi_Curve.cells c)), (16, vO 2 [.nil, .nil])], 48⟩ (C_106 2) [] [] (kp [1, 2, 4]) (kq [0, 16]) 48 [] trivial ?_
  refine Runs.sA 1 [.code (C_106 6), .code (C_106 7)] ?_
  obtain ⟨rNormal, hr, h⟩ := bindSome h
  refine Runs.sR hE ⟨[(1, (aI vby)), (4, (.op 16 0 0)), (6, (.op 80 0 0))], [(16, vO 2 [.nil, .nil]), (64, aO 1 cI 0 rNormal.f_Starts), (80, vN 2 [(.os 64 0 rNormal.f_Starts.length), (encL Tapi_Rat.cells Tapi_Rat.d rNormal.f_Slopes)])], 112⟩ (C_106 6) [(1, ⟨[], false, (.agg [(.os 0 0 rNormal.f_Starts.length), (encL Tapi_Rat.cells Tapi_Rat.d rNormal.f_Slopes)]), [(0, aO 1 cI 0 rNormal.f_Starts)], 0, false, none⟩)] [] (kp [1, 4, 6]) (kq [16, 64, 80]) 112 [0 < 1, Sound Try.prog 131 [(.agg (Tapi_Curve.cells c))] [] 0 (.agg [(.os 0 0 rNormal.f_Starts.length), (encL Tapi_Rat.cells Tapi_Rat.d rNormal.f_Slopes)]) [(0, aO 1 cI 0 rNormal.f_Starts)], 0 < 1] ⟨o1, (g_r01_Normal_ok N c rNormal hr), o1, trivial⟩ ?_
  refine Runs.sA 2 [.code (C_106 28), .code (C_106 29), .code (C_106 15)] ?_
  refine Runs.sR hE ⟨[(1, (aI vby)), (4, (.op 16 0 0)), (6, (.op 80 0 0)), (7, (aI 0))], [(16, vO 2 [.nil, .nil]), (64, aO 1 cI 0 rNormal.f_Starts), (80, vN 2 [(.os 64 0 rNormal.f_Starts.length), (encL Tapi_Rat.cells Tapi_Rat.d rNormal.f_Slopes)])], 128⟩ (C_106 28) [] [] (kp [1, 4, 6, 7]) (kq [16, 64, 80]) 128 [] trivial ?_
  refine Runs.sA 2 [.code (C_106 116), .inLoop (C_106 116), .inBlock 0, .code (C_106 15)] ?_
  exact Runs.sW hE _ [] (kp [1, 4, 6, 7]) [(0, .keep 16), (1, .keep 80), (2, .keep 64)] 3 [] trivial (g_r01_Shift_L1_ok N vby rNormal N 0 _ h E hE)

noncomputable def C_110 (n : Nat) : Code := cat (bodyOf Try.f75) (pth n)

theorem g_r01_Slope_J2_ok (N : Nat) (c : Tapi_Curve) (y : Tapi_Rat) (i : Int) (K_g_r01_Slope_L1 : Tapi_Rat → Int → Option (Tapi_Rat))
    (hK_g_r01_Slope_L1 : ∀ (out : Tapi_Rat) (i : Int) (r : Tapi_Rat), K_g_r01_Slope_L1 out i = some r → ∀ E, EnvOk E 0 → Runs Try.prog E 75 31 (SPost E [] (.agg (Tapi_Rat.cells r))) [.code (C_110 116), .inLoop (C_110 116), .inBlock 0, .code (C_110 15)] ⟨[(2, (.op 0 0 0)), (3, (.op 1 0 0)), (4, (.op 2 0 0)), (5, (.op 3 0 0)), (6, (aI i))], [(0, vO 2 (Tapi_Curve.cells c)), (1, vO 4 (Tapi_Rat.cells y)), (2, vO 4 [(aB false), .nil, (aB false), .nil]), (3, vO 4 (Tapi_Rat.cells out))], 4⟩) (out2 : Tapi_Rat) (r : Tapi_Rat) (h : g_r01_Slope_J2 N c y i K_g_r01_Slope_L1 out2 = some r) : ∀ E, EnvOk E 0 → Runs Try.prog E 75 31 (SPost E [] (.agg (Tapi_Rat.cells r))) [.code (C_110 467), .inLoop (C_110 116), .inBlock 0, .code (C_110 15)] ⟨[(2, (.op 0 0 0)), (3, (.op 1 0 0)), (4, (.op 2 0 0)), (5, (.op 3 0 0)), (6, (aI i))], [(0, vO 2 (Tapi_Curve.cells c)), (1, vO 4 (Tapi_Rat.cells y)), (2, vO 4 [(aB false), .nil, (aB false), .nil]), (3, vO 4 (Tapi_Rat.cells out2))], 4⟩ := by
  intro E hE
  unfold g_r01_Slope_J2 at h
  refine Runs.sR hE ⟨[(2, (.op 0 0 0)), (3, (.op 1 0 0)), (4, (.op 2 0 0)), (5, (.op 3 0 0)), (6, (aI (w64 (i + 1))))], [(0, vO 2 (Tapi_Curve.cells c)), (1, vO 4 (Tapi_Rat.cells y)), (2, vO 4 [(aB false), .nil, (aB false), .nil]), (3, vO 4 (Tapi_Rat.cells out2))], 52⟩ (C_110 467) [] [] (kp [2, 3, 4, 5, 6]) (kq [0, 1, 2, 3]) 52 [] trivial ?_
  refine Runs.sA 1 [.code (C_110 116), .inLoop (C_110 116), .inBlock 0, .code (C_110 15)] ?_
  exact Runs.sW hE _ [] (kp [2, 3, 4, 5, 6]) (kq [0, 1, 2, 3]) 4 [] trivial (hK_g_r01_Slope_L1 out2 (w64 (i + 1)) _ h E hE)

theorem g_r01_Slope_L1_ok (N : Nat) (c : Tapi_Curve) (y : Tapi_Rat) (fuel : Nat) : ∀ (out : Tapi_Rat) (i : Int) (r : Tapi_Rat), g_r01_Slope_L1 N c y fuel out i = some r → ∀ E, EnvOk E 0 → Runs Try.prog E 75 31 (SPost E [] (.agg (Tapi_Rat.cells r))) [.code (C_110 116), .inLoop (C_110 116), .inBlock 0, .code (C_110 15)] ⟨[(2, (.op 0 0 0)), (3, (.op 1 0 0)), (4, (.op 2 0 0)), (5, (.op 3 0 0)), (6, (aI i))], [(0, vO 2 (Tapi_Curve.cells c)), (1, vO 4 (Tapi_Rat.cells y)), (2, vO 4 [(aB false), .nil, (aB false), .nil]), (3, vO 4 (Tapi_Rat.cells out))], 4⟩ := by
  induction fuel with
  | zero => intro _ _ r h; rw [g_r01_Slope_L1.eq_1] at h; cases h
  | succ fuel ih =>
    intro out i r h E hE
    rw [g_r01_Slope_L1.eq_2] at h
    refine Runs.sA 2 [.code (C_110 464), .code (C_110 465), .code (C_110 233), .inLoop (C_110 116), .inBlock 0, .code (C_110 15)] ?_
    refine Runs.sR hE ⟨[(2, (.op 0 0 0)), (3, (.op 1 0 0)), (4, (.op 2 0 0)), (5, (.op 3 0 0)), (6, (aI i)), (12, (aB (decide (i < ((c.f_Starts.length : Nat) : Int)))))], [(0, vO 2 (Tapi_Curve.cells c)), (1, vO 4 (Tapi_Rat.cells y)), (2, vO 4 [(aB false), .nil, (aB false), .nil]), (3, vO 4 (Tapi_Rat.cells out))], 84⟩ (C_110 464) [] [] (kp [2, 3, 4, 5, 6, 12]) (kq [0, 1, 2, 3]) 84 [0 < 1] ⟨o1, trivial⟩ ?_
    refine Runs.sC 12 (C_110 930) (C_110 931) (decide (i < ((c.f_Starts.length : Nat) : Int))) (fun hq2 => ?_) (fun hq2 => ?_)
    · have h := condT h hq2
      refine Runs.sA 4 [.code (C_110 1864), .code (C_110 1865), .inBlock 1, .code (C_110 467), .inLoop (C_110 116), .inBlock 0, .code (C_110 15)] ?_
      obtain ⟨c2, h⟩ := ifSome h
      obtain ⟨rQ2, hr2, h⟩ := bindSome h
      obtain ⟨rCmpRat, hr3, h⟩ := bindSome h
      refine Runs.sR hE ⟨[(2, (.op 0 0 0)), (3, (.op 1 0 0)), (4, (.op 2 0 0)), (5, (.op 3 0 0)), (6, (aI i)), (23, (aB (decide (rCmpRat ≤ 0))))], [(0, vO 2 (Tapi_Curve.cells c)), (1, vO 4 (Tapi_Rat.cells y)), (2, vO 4 [(aB false), .nil, (aB false), .nil]), (3, vO 4 (Tapi_Rat.cells out))], 228⟩ (C_110 1864) [(5, ⟨[], true, (.agg (Tapi_Rat.cells rQ2)), [], 0, false, none⟩), (7, ⟨[], true, (aI rCmpRat), [], 0, false, none⟩)] [] (kp [2, 3, 4, 5, 6, 23]) (kq [0, 1, 2, 3]) 228 [0 < 1, 0 ≤ i ∧ i < ((c.f_Starts.length : Nat) : Int), Sound Try.prog 132 [(aI (c.f_Starts.getD ((i).toNat) 0))] [] 0 (.agg (Tapi_Rat.cells rQ2)) [], 0 < 1, Sound Try.prog 50 [(.agg (Tapi_Rat.cells rQ2)), (.agg (Tapi_Rat.cells y))] [] 0 (aI rCmpRat) []] ⟨o1, c2, (g_r01_Q_ok N (c.f_Starts.getD ((i).toNat) 0) rQ2 hr2), o1, (g_r01_CmpRat_ok N rQ2 y rCmpRat hr3), trivial⟩ ?_
      refine Runs.sC 23 (C_110 3730) (C_110 3731) (decide (rCmpRat ≤ 0)) (fun hq3 => ?_) (fun hq3 => ?_)
      · have h := condT h hq3
        obtain ⟨c3, h⟩ := ifSome h
        obtain ⟨rNormRat, hr4, h⟩ := bindSome h
        refine Runs.sR hE ⟨[(2, (.op 0 0 0)), (3, (.op 1 0 0)), (4, (.op 2 0 0)), (5, (.op 3 0 0)), (6, (aI i))], [(0, vO 2 (Tapi_Curve.cells c)), (1, vO 4 (Tapi_Rat.cells y)), (2, vO 4 [(aB false), .nil, (aB false), .nil]), (3, vO 4 (Tapi_Rat.cells rNormRat))], 340⟩ (C_110 3730) [(5, ⟨[], true, (.agg (Tapi_Rat.cells rNormRat)), [], 0, false, none⟩)] [] (kp [2, 3, 4, 5, 6]) (kq [0, 1, 2, 3]) 340 [0 < 1, 0 ≤ i ∧ i < ((c.f_Slopes.length : Nat) : Int), Sound Try.prog 57 [(.agg [(aB (((c.f_Slopes.getD ((i).toNat) Tapi_Rat.d).f_Num).f_Neg)), (encL (cU .u16) 0 (((c.f_Slopes.getD ((i).toNat) Tapi_Rat.d).f_Num).f_Limbs)), (aB (((c.f_Slopes.getD ((i).toNat) Tapi_Rat.d).f_Den).f_Neg)), (encL (cU .u16) 0 (((c.f_Slopes.getD ((i).toNat) Tapi_Rat.d).f_Den).f_Limbs))])] [] 0 (.agg (Tapi_Rat.cells rNormRat)) [], 0 < 1] ⟨o1, c3, (g_r01_NormRat_ok N (⟨((c.f_Slopes.getD ((i).toNat) Tapi_Rat.d).f_Num), ((c.f_Slopes.getD ((i).toNat) Tapi_Rat.d).f_Den)⟩ : Tapi_Rat) rNormRat hr4), o1, trivial⟩ ?_
        refine Runs.sA 1 [.code (C_110 467), .inLoop (C_110 116), .inBlock 0, .code (C_110 15)] ?_
        exact Runs.sW hE _ [] (kp [2, 3, 4, 5, 6]) (kq [0, 1, 2, 3]) 4 [] trivial (g_r01_Slope_J2_ok N c y i (g_r01_Slope_L1 N c y fuel) ih rNormRat _ h E hE)
      · have h := condF h hq3
        refine Runs.sA 2 [.code (C_110 467), .inLoop (C_110 116), .inBlock 0, .code (C_110 15)] ?_
        exact Runs.sW hE _ [] (kp [2, 3, 4, 5, 6]) (kq [0, 1, 2, 3]) 4 [] trivial (g_r01_Slope_J2_ok N c y i (g_r01_Slope_L1 N c y fuel) ih out _ h E hE)
    · have h := condF h hq2
      refine Runs.sA 2 [.code (C_110 30), .code (C_110 31)] ?_
      refine Runs.sR hE ⟨[(4, (.op 2 0 0))], [(2, vO 4 (Tapi_Rat.cells out))], 116⟩ (C_110 30) [] [] (kp [4]) (kq [2]) 116 [0 < 1, 0 < 1] ⟨o1, o1, trivial⟩ ?_
      obtain rfl := Option.some.inj h
      refine Runs.sW hE ⟨[(4, (.op 16 0 0))], [(16, vO 4 (Tapi_Rat.cells out))], 116⟩ [] (kp [4]) [(16, .keep 2)] 116 [] trivial ?_
      exact Runs.sT Try.f75 [16] [0 < 1] ⟨o1, trivial⟩

theorem g_r01_Slope_ok (N : Nat) (c : Tapi_Curve) (y : Tapi_Rat) (r : Tapi_Rat) (h : g_r01_Slope N c y = some r) : Sound Try.prog 75 [(.agg (Tapi_Curve.cells c)), (.agg (Tapi_Rat.cells y))] [] 0 (.agg (Tapi_Rat.cells r)) [] := by
  unfold g_r01_Slope at h
  refine Sound.of_runs (fu := Try.f75) (c := C_110 1) (nt := 31) (by kernel_rfl) (by kernel_rfl) (by kernel_rfl) (by kernel_rfl) (fun hm => rfl) ?_
  intro E hE
  refine Runs.sA 1 [.code (C_110 2), .code (C_110 3)] ?_
  refine Runs.sR hE ⟨[(2, (.op 0 0 0)), (3, (.op 16 0 0)), (4, (.op 32 0 0))], [(0, vO 2 (Tapi_Curve.cells c)), (16, vO 4 (Tapi_Rat.cells y)), (32, vO 4 [(aB false), .nil, (aB false), .nil])], 48⟩ (C_110 2) [] [] (kp [2, 3, 4]) (kq [0, 16, 32]) 48 [] trivial ?_
  refine Runs.sA 1 [.code (C_110 6), .code (C_110 7)] ?_
  obtain ⟨rQ, hr, h⟩ := bindSome h
  refine Runs.sR hE ⟨[(2, (.op 0 0 0)), (3, (.op 16 0 0)), (4, (.op 32 0 0)), (5, (.op 64 0 0))], [(0, vO 2 (Tapi_Curve.cells c)), (16, vO 4 (Tapi_Rat.cells y)), (32, vO 4 [(aB false), .nil, (aB false), .nil]), (64, vO 4 (Tapi_Rat.cells rQ))], 96⟩ (C_110 6) [(0, ⟨[], true, (.agg (Tapi_Rat.cells rQ)), [], 0, false, none⟩)] [] (kp [2, 3, 4, 5]) (kq [0, 16, 32, 64]) 96 [Sound Try.prog 132 [(aI 0)] [] 0 (.agg (Tapi_Rat.cells rQ)) [], 0 < 1] ⟨(g_r01_Q_ok N 0 rQ hr), o1, trivial⟩ ?_
  refine Runs.sA 2 [.code (C_110 28), .code (C_110 29), .code (C_110 15)] ?_
  refine Runs.sR hE ⟨[(2, (.op 0 0 0)), (3, (.op 16 0 0)), (4, (.op 32 0 0)), (5, (.op 64 0 0)), (6, (aI 0))], [(0, vO 2 (Tapi_Curve.cells c)), (16, vO 4 (Tapi_Rat.cells y)), (32, vO 4 [(aB false), .nil, (aB false), .nil]), (64, vO 4 (Tapi_Rat.cells rQ))], 112⟩ (C_110 28) [] [] (kp [2, 3, 4, 5, 6]) (kq [0, 16, 32, 64]) 112 [] trivial ?_
  refine Runs.sA 2 [.code (C_110 116), .inLoop (C_110 116), .inBlock 0, .code (C_110 15)] ?_
  exact Runs.sW hE _ [] (kp [2, 3, 4, 5, 6]) (kq [0] ++ [(1, .keep 16), (2, .keep 32), (3, .keep 64)]) 4 [] trivial (g_r01_Slope_L1_ok N c y N rQ 0 _ h E hE)

noncomputable def C_109 (n : Nat) : Code := cat (bodyOf Try.f67) (pth n)

theorem g_r01_Sum_L4_ok (N : Nat) (a : Tapi_Curve) (b : Tapi_Curve) (c : List Int) (c2 : List Tapi_Rat) (vat : Int) (rAddRat : Tapi_Rat) (i2 : Int) (K_g_r01_Sum_L1 : (List Int) → (List Tapi_Rat) → Int → Int → Option (Tapi_Curve × Int))
    (hK_g_r01_Sum_L1 : ∀ (c : List Int) (c2 : List Tapi_Rat) (i : Int) (k : Int) (r : Tapi_Curve × Int), K_g_r01_Sum_L1 c c2 i k = some r → ∀ E, EnvOk E 0 → Runs Try.prog E 67 117 (SPost E [] (.tup [(.agg (Tapi_Curve.cells r.1)), (aI r.2)])) [.code (C_109 120), .inLoop (C_109 120), .inBlock 0, .code (C_109 31)] ⟨[(2, (.op 0 0 0)), (3, (.op 1 0 0)), (4, (.op 2 0 0)), (6, (.op 3 0 0)), (7, (aI i)), (8, (aI k))], [(0, vO 2 (Tapi_Curve.cells a)), (1, vO 2 (Tapi_Curve.cells b)), (2, vO 2 [.nil, .nil]), (3, vN 2 [(.os 4 0 c.length), (.os 5 0 c2.length)]), (4, aO 1 cI 0 c), (5, aO 4 Tapi_Rat.cells Tapi_Rat.d c2)], 6⟩) (fuel : Nat) : ∀ (k2 : Int) (r : Tapi_Curve × Int), g_r01_Sum_L4 N a b c c2 vat rAddRat i2 K_g_r01_Sum_L1 fuel k2 = some r → ∀ E, EnvOk E 0 → Runs Try.prog E 67 117 (SPost E [] (.tup [(.agg (Tapi_Curve.cells r.1)), (aI r.2)])) [.code (C_109 61820), .inLoop (C_109 61820), .inBlock 4, .inBlock 1, .inLoop (C_109 120), .inBlock 0, .code (C_109 31)] ⟨[(2, (.op 0 0 0)), (3, (.op 1 0 0)), (4, (.op 2 0 0)), (6, (.op 3 0 0)), (7, (aI i2)), (8, (aI k2)), (9, (aI vat))], [(0, vO 2 (Tapi_Curve.cells a)), (1, vO 2 (Tapi_Curve.cells b)), (2, vO 2 [.nil, .nil]), (3, vN 2 [(.os 4 0 ((c ++ ([vat] : List Int)).length)), (.os 5 0 ((c2 ++ ([rAddRat] : List Tapi_Rat)).length))]), (4, aO 1 cI 0 (c ++ ([vat] : List Int))), (5, aO 4 Tapi_Rat.cells Tapi_Rat.d (c2 ++ ([rAddRat] : List Tapi_Rat)))], 6⟩ := by
  induction fuel with
  | zero => intro _ r h; rw [g_r01_Sum_L4.eq_1] at h; cases h
  | succ fuel ih =>
    intro k2 r h E hE
    rw [g_r01_Sum_L4.eq_2] at h
    refine Runs.sA 2 [.code (C_109 247280), .code (C_109 247281), .code (C_109 123641), .inLoop (C_109 61820), .inBlock 4, .inBlock 1, .inLoop (C_109 120), .inBlock 0, .code (C_109 31)] ?_
    obtain ⟨c9, h⟩ := ifSome h
    refine Runs.sR hE ⟨[(2, (.op 0 0 0)), (3, (.op 1 0 0)), (4, (.op 2 0 0)), (6, (.op 3 0 0)), (7, (aI i2)), (8, (aI k2)), (9, (aI vat)), (106, (aB (cond (decide (k2 < ((b.f_Starts.length : Nat) : Int))) (decide ((b.f_Starts.getD ((k2).toNat) 0) ≤ vat)) false)))], [(0, vO 2 (Tapi_Curve.cells a)), (1, vO 2 (Tapi_Curve.cells b)), (2, vO 2 [.nil, .nil]), (3, vN 2 [(.os 4 0 ((c ++ ([vat] : List Int)).length)), (.os 5 0 ((c2 ++ ([rAddRat] : List Tapi_Rat)).length))]), (4, aO 1 cI 0 (c ++ ([vat] : List Int))), (5, aO 4 Tapi_Rat.cells Tapi_Rat.d (c2 ++ ([rAddRat] : List Tapi_Rat)))], 230⟩ (C_109 247280) [] [] (kp [2, 3, 4, 6, 7, 8, 9, 106]) (kq [0, 1, 2, 3, 4, 5]) 230 [0 < 1, (decide (k2 < ((b.f_Starts.length : Nat) : Int))) = true → AllP [(decide (k2 < ((b.f_Starts.length : Nat) : Int))) = true, 0 < 1], (decide (k2 < ((b.f_Starts.length : Nat) : Int))) = true → AllP [(decide (k2 < ((b.f_Starts.length : Nat) : Int))) = true, (decide (k2 < ((b.f_Starts.length : Nat) : Int))) = true, 0 ≤ k2 ∧ k2 < ((b.f_Starts.length : Nat) : Int)], (decide (k2 < ((b.f_Starts.length : Nat) : Int))) = true → AllP [(decide (k2 < ((b.f_Starts.length : Nat) : Int))) = true], (decide (k2 < ((b.f_Starts.length : Nat) : Int))) = true → AllP [(decide (k2 < ((b.f_Starts.length : Nat) : Int))) = true, (decide (k2 < ((b.f_Starts.length : Nat) : Int))) = true], (decide (k2 < ((b.f_Starts.length : Nat) : Int))) = true → AllP [(decide (k2 < ((b.f_Starts.length : Nat) : Int))) = true]] ⟨o1, (fun hg => ⟨hg, o1, trivial⟩), (fun hg => ⟨hg, hg, (c9 hg), trivial⟩), (fun hg => ⟨hg, trivial⟩), (fun hg => ⟨hg, hg, trivial⟩), (fun hq => ⟨hq, trivial⟩), trivial⟩ ?_
    refine Runs.sC 106 (C_109 494562) (C_109 494563) (cond (decide (k2 < ((b.f_Starts.length : Nat) : Int))) (decide ((b.f_Starts.getD ((k2).toNat) 0) ≤ vat)) false) (fun hq5 => ?_) (fun hq5 => ?_)
    · have h := condT h hq5
      refine Runs.sA 2 [.code (C_109 247282), .inBlock 5, .inLoop (C_109 61820), .inBlock 4, .inBlock 1, .inLoop (C_109 120), .inBlock 0, .code (C_109 31)] ?_
      refine Runs.sR hE ⟨[(2, (.op 0 0 0)), (3, (.op 1 0 0)), (4, (.op 2 0 0)), (6, (.op 3 0 0)), (7, (aI i2)), (8, (aI (w64 (k2 + 1)))), (9, (aI vat))], [(0, vO 2 (Tapi_Curve.cells a)), (1, vO 2 (Tapi_Curve.cells b)), (2, vO 2 [.nil, .nil]), (3, vN 2 [(.os 4 0 ((c ++ ([vat] : List Int)).length)), (.os 5 0 ((c2 ++ ([rAddRat] : List Tapi_Rat)).length))]), (4, aO 1 cI 0 (c ++ ([vat] : List Int))), (5, aO 4 Tapi_Rat.cells Tapi_Rat.d (c2 ++ ([rAddRat] : List Tapi_Rat)))], 278⟩ (C_109 247282) [] [] (kp [2, 3, 4, 6, 7, 8, 9]) (kq [0, 1, 2, 3, 4, 5]) 278 [] trivial ?_
      refine Runs.sA 2 [.code (C_109 61820), .inLoop (C_109 61820), .inBlock 4, .inBlock 1, .inLoop (C_109 120), .inBlock 0, .code (C_109 31)] ?_
      exact Runs.sW hE _ [] (kp [2, 3, 4, 6, 7, 8, 9]) (kq [0, 1, 2, 3, 4, 5]) 6 [] trivial (ih (w64 (k2 + 1)) _ h E hE)
    · have h := condF h hq5
      refine Runs.sA 3 [.code (C_109 120), .inLoop (C_109 120), .inBlock 0, .code (C_109 31)] ?_
      exact Runs.sW hE _ [] (kp [2, 3, 4, 6, 7, 8]) (kq [0, 1, 2, 3, 4, 5]) 6 [] trivial (hK_g_r01_Sum_L1 (c ++ ([vat] : List Int)) (c2 ++ ([rAddRat] : List Tapi_Rat)) i2 k2 _ h E hE)

theorem g_r01_Sum_L3_ok (N : Nat) (a : Tapi_Curve) (b : Tapi_Curve) (c : List Int) (c2 : List Tapi_Rat) (k : Int) (vat : Int) (rAddRat : Tapi_Rat) (K_g_r01_Sum_L1 : (List Int) → (List Tapi_Rat) → Int → Int → Option (Tapi_Curve × Int))
    (hK_g_r01_Sum_L1 : ∀ (c : List Int) (c2 : List Tapi_Rat) (i : Int) (k : Int) (r : Tapi_Curve × Int), K_g_r01_Sum_L1 c c2 i k = some r → ∀ E, EnvOk E 0 → Runs Try.prog E 67 117 (SPost E [] (.tup [(.agg (Tapi_Curve.cells r.1)), (aI r.2)])) [.code (C_109 120), .inLoop (C_109 120), .inBlock 0, .code (C_109 31)] ⟨[(2, (.op 0 0 0)), (3, (.op 1 0 0)), (4, (.op 2 0 0)), (6, (.op 3 0 0)), (7, (aI i)), (8, (aI k))], [(0, vO 2 (Tapi_Curve.cells a)), (1, vO 2 (Tapi_Curve.cells b)), (2, vO 2 [.nil, .nil]), (3, vN 2 [(.os 4 0 c.length), (.os 5 0 c2.length)]), (4, aO 1 cI 0 c), (5, aO 4 Tapi_Rat.cells Tapi_Rat.d c2)], 6⟩) (fuel : Nat) : ∀ (i2 : Int) (r : Tapi_Curve × Int), g_r01_Sum_L3 N a b c c2 k vat rAddRat K_g_r01_Sum_L1 fuel i2 = some r → ∀ E, EnvOk E 0 → Runs Try.prog E 67 117 (SPost E [] (.tup [(.agg (Tapi_Curve.cells r.1)), (aI r.2)])) [.code (C_109 61816), .inLoop (C_109 61816), .inBlock 2, .code (C_109 15455), .inBlock 1, .inLoop (C_109 120), .inBlock 0, .code (C_109 31)] ⟨[(2, (.op 0 0 0)), (3, (.op 1 0 0)), (4, (.op 2 0 0)), (6, (.op 3 0 0)), (7, (aI i2)), (8, (aI k)), (9, (aI vat))], [(0, vO 2 (Tapi_Curve.cells a)), (1, vO 2 (Tapi_Curve.cells b)), (2, vO 2 [.nil, .nil]), (3, vN 2 [(.os 4 0 ((c ++ ([vat] : List Int)).length)), (.os 5 0 ((c2 ++ ([rAddRat] : List Tapi_Rat)).length))]), (4, aO 1 cI 0 (c ++ ([vat] : List Int))), (5, aO 4 Tapi_Rat.cells Tapi_Rat.d (c2 ++ ([rAddRat] : List Tapi_Rat)))], 6⟩ := by
  induction fuel with
  | zero => intro _ r h; rw [g_r01_Sum_L3.eq_1] at h; cases h
  | succ fuel ih =>
    intro i2 r h E hE
    rw [g_r01_Sum_L3.eq_2] at h
    refine Runs.sA 2 [.code (C_109 247264), .code (C_109 247265), .code (C_109 123633), .inLoop (C_109 61816), .inBlock 2, .code (C_109 15455), .inBlock 1, .inLoop (C_109 120), .inBlock 0, .code (C_109 31)] ?_
    obtain ⟨c8, h⟩ := ifSome h
    refine Runs.sR hE ⟨[(2, (.op 0 0 0)), (3, (.op 1 0 0)), (4, (.op 2 0 0)), (6, (.op 3 0 0)), (7, (aI i2)), (8, (aI k)), (9, (aI vat)), (90, (aB (cond (decide (i2 < ((a.f_Starts.length : Nat) : Int))) (decide ((a.f_Starts.getD ((i2).toNat) 0) ≤ vat)) false)))], [(0, vO 2 (Tapi_Curve.cells a)), (1, vO 2 (Tapi_Curve.cells b)), (2, vO 2 [.nil, .nil]), (3, vN 2 [(.os 4 0 ((c ++ ([vat] : List Int)).length)), (.os 5 0 ((c2 ++ ([rAddRat] : List Tapi_Rat)).length))]), (4, aO 1 cI 0 (c ++ ([vat] : List Int))), (5, aO 4 Tapi_Rat.cells Tapi_Rat.d (c2 ++ ([rAddRat] : List Tapi_Rat)))], 230⟩ (C_109 247264) [] [] (kp [2, 3, 4, 6, 7, 8, 9, 90]) (kq [0, 1, 2, 3, 4, 5]) 230 [0 < 1, (decide (i2 < ((a.f_Starts.length : Nat) : Int))) = true → AllP [(decide (i2 < ((a.f_Starts.length : Nat) : Int))) = true, 0 < 1], (decide (i2 < ((a.f_Starts.length : Nat) : Int))) = true → AllP [(decide (i2 < ((a.f_Starts.length : Nat) : Int))) = true, (decide (i2 < ((a.f_Starts.length : Nat) : Int))) = true, 0 ≤ i2 ∧ i2 < ((a.f_Starts.length : Nat) : Int)], (decide (i2 < ((a.f_Starts.length : Nat) : Int))) = true → AllP [(decide (i2 < ((a.f_Starts.length : Nat) : Int))) = true], (decide (i2 < ((a.f_Starts.length : Nat) : Int))) = true → AllP [(decide (i2 < ((a.f_Starts.length : Nat) : Int))) = true, (decide (i2 < ((a.f_Starts.length : Nat) : Int))) = true], (decide (i2 < ((a.f_Starts.length : Nat) : Int))) = true → AllP [(decide (i2 < ((a.f_Starts.length : Nat) : Int))) = true]] ⟨o1, (fun hg => ⟨hg, o1, trivial⟩), (fun hg => ⟨hg, hg, (c8 hg), trivial⟩), (fun hg => ⟨hg, trivial⟩), (fun hg => ⟨hg, hg, trivial⟩), (fun hq => ⟨hq, trivial⟩), trivial⟩ ?_
    refine Runs.sC 90 (C_109 494530) (C_109 494531) (cond (decide (i2 < ((a.f_Starts.length : Nat) : Int))) (decide ((a.f_Starts.getD ((i2).toNat) 0) ≤ vat)) false) (fun hq4 => ?_) (fun hq4 => ?_)
    · have h := condT h hq4
      refine Runs.sA 2 [.code (C_109 247266), .inBlock 3, .inLoop (C_109 61816), .inBlock 2, .code (C_109 15455), .inBlock 1, .inLoop (C_109 120), .inBlock 0, .code (C_109 31)] ?_
      refine Runs.sR hE ⟨[(2, (.op 0 0 0)), (3, (.op 1 0 0)), (4, (.op 2 0 0)), (6, (.op 3 0 0)), (7, (aI (w64 (i2 + 1)))), (8, (aI k)), (9, (aI vat))], [(0, vO 2 (Tapi_Curve.cells a)), (1, vO 2 (Tapi_Curve.cells b)), (2, vO 2 [.nil, .nil]), (3, vN 2 [(.os 4 0 ((c ++ ([vat] : List Int)).length)), (.os 5 0 ((c2 ++ ([rAddRat] : List Tapi_Rat)).length))]), (4, aO 1 cI 0 (c ++ ([vat] : List Int))), (5, aO 4 Tapi_Rat.cells Tapi_Rat.d (c2 ++ ([rAddRat] : List Tapi_Rat)))], 278⟩ (C_109 247266) [] [] (kp [2, 3, 4, 6, 7, 8, 9]) (kq [0, 1, 2, 3, 4, 5]) 278 [] trivial ?_
      refine Runs.sA 2 [.code (C_109 61816), .inLoop (C_109 61816), .inBlock 2, .code (C_109 15455), .inBlock 1, .inLoop (C_109 120), .inBlock 0, .code (C_109 31)] ?_
      exact Runs.sW hE _ [] (kp [2, 3, 4, 6, 7, 8, 9]) (kq [0, 1, 2, 3, 4, 5]) 6 [] trivial (ih (w64 (i2 + 1)) _ h E hE)
    · have h := condF h hq4
      refine Runs.sA 3 [.code (C_109 61820), .inLoop (C_109 61820), .inBlock 4, .inBlock 1, .inLoop (C_109 120), .inBlock 0, .code (C_109 31)] ?_
      exact Runs.sW hE _ [] (kp [2, 3, 4, 6, 7, 8, 9]) (kq [0, 1, 2, 3, 4, 5]) 6 [] trivial (g_r01_Sum_L4_ok N a b c c2 vat rAddRat i2 K_g_r01_Sum_L1 hK_g_r01_Sum_L1 N k _ h E hE)

theorem g_r01_Sum_J2_ok (N : Nat) (a : Tapi_Curve) (b : Tapi_Curve) (c : List Int) (c2 : List Tapi_Rat) (i : Int) (k : Int) (K_g_r01_Sum_L1 : (List Int) → (List Tapi_Rat) → Int → Int → Option (Tapi_Curve × Int))
    (hK_g_r01_Sum_L1 : ∀ (c : List Int) (c2 : List Tapi_Rat) (i : Int) (k : Int) (r : Tapi_Curve × Int), K_g_r01_Sum_L1 c c2 i k = some r → ∀ E, EnvOk E 0 → Runs Try.prog E 67 117 (SPost E [] (.tup [(.agg (Tapi_Curve.cells r.1)), (aI r.2)])) [.code (C_109 120), .inLoop (C_109 120), .inBlock 0, .code (C_109 31)] ⟨[(2, (.op 0 0 0)), (3, (.op 1 0 0)), (4, (.op 2 0 0)), (6, (.op 3 0 0)), (7, (aI i)), (8, (aI k))], [(0, vO 2 (Tapi_Curve.cells a)), (1, vO 2 (Tapi_Curve.cells b)), (2, vO 2 [.nil, .nil]), (3, vN 2 [(.os 4 0 c.length), (.os 5 0 c2.length)]), (4, aO 1 cI 0 c), (5, aO 4 Tapi_Rat.cells Tapi_Rat.d c2)], 6⟩) (vat : Int) (r : Tapi_Curve × Int) (h : g_r01_Sum_J2 N a b c c2 i k K_g_r01_Sum_L1 vat = some r) : ∀ E, EnvOk E 0 → Runs Try.prog E 67 117 (SPost E [] (.tup [(.agg (Tapi_Curve.cells r.1)), (aI r.2)])) [.code (C_109 3862), .code (C_109 3863), .inBlock 1, .inLoop (C_109 120), .inBlock 0, .code (C_109 31)] ⟨[(2, (.op 0 0 0)), (3, (.op 1 0 0)), (4, (.op 2 0 0)), (6, (.op 3 0 0)), (7, (aI i)), (8, (aI k)), (9, (aI vat))], [(0, vO 2 (Tapi_Curve.cells a)), (1, vO 2 (Tapi_Curve.cells b)), (2, vO 2 [.nil, .nil]), (3, vN 2 [(.os 4 0 c.length), (.os 5 0 c2.length)]), (4, aO 1 cI 0 c), (5, aO 4 Tapi_Rat.cells Tapi_Rat.d c2)], 6⟩ := by
  intro E hE
  unfold g_r01_Sum_J2 at h
  obtain ⟨c6, h⟩ := ifSome h
  refine Runs.sR hE ⟨[(2, (.op 0 0 0)), (3, (.op 1 0 0)), (4, (.op 2 0 0)), (6, (.op 3 0 0)), (7, (aI i)), (8, (aI k)), (9, (aI vat))], [(0, vO 2 (Tapi_Curve.cells a)), (1, vO 2 (Tapi_Curve.cells b)), (2, vO 2 [.nil, .nil]), (3, vN 2 [(.os 70 0 ((c ++ ([vat] : List Int)).length)), (.os 5 0 c2.length)]), (5, aO 4 Tapi_Rat.cells Tapi_Rat.d c2), (70, aO 1 cI 0 (c ++ ([vat] : List Int)))], 118⟩ (C_109 3862) [] [] (kp [2, 3, 4, 6, 7, 8, 9]) (kq [0, 1, 2] ++ [(3, .var 3 [.osl ((c ++ ([vat] : List Int)).length), .keep])] ++ kq [5] ++ [(70, .arr 70 ((c ++ ([vat] : List Int)).length) (fun zi => cI ((c ++ ([vat] : List Int)).getD zi 0)))]) 118 [0 < 1, c.length = c.length, (c.length + 1) * 8 ≤ 140737488355328, 0 + 1 ≤ 1, ∀ zi, zi < 1 → AV.oneL ((fun zi => ([[(aI vat)]] : List (List AV)).getD zi []) (addz 0 zi)) = true, 0 < 1, (c.length + 1) = (c ++ ([vat] : List Int)).length, c.length + 1 = (c ++ ([vat] : List Int)).length, ∀ zi, zi < (c ++ ([vat] : List Int)).length → (fun zi => cI ((c ++ ([vat] : List Int)).getD zi 0)) zi = ((fun zm => if zm < c.length then (fun zi => cI (c.getD zi 0)) zm else (fun zi => ([[(aI vat)]] : List (List AV)).getD zi []) (zm - c.length))) zi] ⟨o1, rfl, c6, z0, (oneN rfl), o1, (len_app_raw rfl rfl), (len_app_raw rfl rfl), (get_app_raw cI 0 c ([vat] : List Int) rfl (fun _ _ => rfl) (fun zq hzq => get_chunk cI 0 ([vat] : List Int) zq hzq)), trivial⟩ ?_
  refine Runs.sA 1 [.code (C_109 7726), .code (C_109 7727), .inBlock 1, .inLoop (C_109 120), .inBlock 0, .code (C_109 31)] ?_
  obtain ⟨rQ, hr, h⟩ := bindSome h
  obtain ⟨rSlope, hr2, h⟩ := bindSome h
  obtain ⟨rQ2, hr3, h⟩ := bindSome h
  obtain ⟨rSlope2, hr4, h⟩ := bindSome h
  obtain ⟨rAddRat, hr5, h⟩ := bindSome h
  obtain ⟨c7, h⟩ := ifSome h
  refine Runs.sR hE ⟨[(2, (.op 0 0 0)), (3, (.op 1 0 0)), (4, (.op 2 0 0)), (6, (.op 3 0 0)), (7, (aI i)), (8, (aI k)), (9, (aI vat))], [(0, vO 2 (Tapi_Curve.cells a)), (1, vO 2 (Tapi_Curve.cells b)), (2, vO 2 [.nil, .nil]), (3, vN 2 [(.os 70 0 ((c ++ ([vat] : List Int)).length)), (.os 310 0 ((c2 ++ ([rAddRat] : List Tapi_Rat)).length))]), (70, aO 1 cI 0 (c ++ ([vat] : List Int))), (310, aO 4 Tapi_Rat.cells Tapi_Rat.d (c2 ++ ([rAddRat] : List Tapi_Rat)))], 358⟩ (C_109 7726) [(4, ⟨[], true, (.agg (Tapi_Rat.cells rQ)), [], 0, false, none⟩), (5, ⟨[], true, (.agg (Tapi_Rat.cells rSlope)), [], 0, false, none⟩), (8, ⟨[], true, (.agg (Tapi_Rat.cells rQ2)), [], 0, false, none⟩), (9, ⟨[], true, (.agg (Tapi_Rat.cells rSlope2)), [], 0, false, none⟩), (10, ⟨[], true, (.agg (Tapi_Rat.cells rAddRat)), [], 0, false, none⟩)] [] (kp [2, 3, 4, 6, 7, 8, 9]) (kq [0, 1, 2] ++ [(3, .var 3 [.keep, .osl ((c2 ++ ([rAddRat] : List Tapi_Rat)).length)])] ++ kq [70] ++ [(310, .arr 310 ((c2 ++ ([rAddRat] : List Tapi_Rat)).length) (fun zi => Tapi_Rat.cells ((c2 ++ ([rAddRat] : List Tapi_Rat)).getD zi Tapi_Rat.d)))]) 358 [0 < 1, 0 < 1, Sound Try.prog 132 [(aI vat)] [] 0 (.agg (Tapi_Rat.cells rQ)) [], Sound Try.prog 75 [(.agg (Tapi_Curve.cells a)), (.agg (Tapi_Rat.cells rQ))] [] 0 (.agg (Tapi_Rat.cells rSlope)) [], 0 < 1, Sound Try.prog 132 [(aI vat)] [] 0 (.agg (Tapi_Rat.cells rQ2)) [], Sound Try.prog 75 [(.agg (Tapi_Curve.cells b)), (.agg (Tapi_Rat.cells rQ2))] [] 0 (.agg (Tapi_Rat.cells rSlope2)) [], Sound Try.prog 46 [(.agg (Tapi_Rat.cells rSlope)), (.agg (Tapi_Rat.cells rSlope2))] [] 0 (.agg (Tapi_Rat.cells rAddRat)) [], c2.length = c2.length, (c2.length + 1) * 64 ≤ 140737488355328, 0 + 1 ≤ 1, ∀ zi, zi < 1 → AV.oneL ((fun zi => ([[(aB rAddRat.f_Num.f_Neg), (encL (cU .u16) 0 rAddRat.f_Num.f_Limbs), (aB rAddRat.f_Den.f_Neg), (encL (cU .u16) 0 rAddRat.f_Den.f_Limbs)]] : List (List AV)).getD zi []) (addz 0 zi)) = true, 0 < 1, (c2.length + 1) = (c2 ++ ([rAddRat] : List Tapi_Rat)).length, c2.length + 1 = (c2 ++ ([rAddRat] : List Tapi_Rat)).length, ∀ zi, zi < (c2 ++ ([rAddRat] : List Tapi_Rat)).length → (fun zi => Tapi_Rat.cells ((c2 ++ ([rAddRat] : List Tapi_Rat)).getD zi Tapi_Rat.d)) zi = ((fun zm => if zm < c2.length then (fun zi => Tapi_Rat.cells (c2.getD zi Tapi_Rat.d)) zm else (fun zi => ([[(aB rAddRat.f_Num.f_Neg), (encL (cU .u16) 0 rAddRat.f_Num.f_Limbs), (aB rAddRat.f_Den.f_Neg), (encL (cU .u16) 0 rAddRat.f_Den.f_Limbs)]] : List (List AV)).getD zi []) (zm - c2.length))) zi] ⟨o1, o1, (g_r01_Q_ok N vat rQ hr), (g_r01_Slope_ok N a rQ rSlope hr2), o1, (g_r01_Q_ok N vat rQ2 hr3), (g_r01_Slope_ok N b rQ2 rSlope2 hr4), (g_r01_AddRat_ok N rSlope rSlope2 rAddRat hr5), rfl, c7, z0, (oneN rfl), o1, (len_app_raw rfl rfl), (len_app_raw rfl rfl), (get_app_raw Tapi_Rat.cells Tapi_Rat.d c2 ([rAddRat] : List Tapi_Rat) rfl (fun _ _ => rfl) (fun zq hzq => get_chunk Tapi_Rat.cells Tapi_Rat.d ([rAddRat] : List Tapi_Rat) zq hzq)), trivial⟩ ?_
  refine Runs.sA 3 [.code (C_109 61816), .inLoop (C_109 61816), .inBlock 2, .code (C_109 15455), .inBlock 1, .inLoop (C_109 120), .inBlock 0, .code (C_109 31)] ?_
  exact Runs.sW hE _ [] (kp [2, 3, 4, 6, 7, 8, 9]) (kq [0, 1, 2, 3] ++ [(4, .keep 70), (5, .keep 310)]) 6 [] trivial (g_r01_Sum_L3_ok N a b c c2 k vat rAddRat K_g_r01_Sum_L1 hK_g_r01_Sum_L1 N i _ h E hE)

theorem g_r01_Sum_L1_ok (N : Nat) (a : Tapi_Curve) (b : Tapi_Curve) (fuel : Nat) : ∀ (c : List Int) (c2 : List Tapi_Rat) (i : Int) (k : Int) (r : Tapi_Curve × Int), g_r01_Sum_L1 N a b fuel c c2 i k = some r → ∀ E, EnvOk E 0 → Runs Try.prog E 67 117 (SPost E [] (.tup [(.agg (Tapi_Curve.cells r.1)), (aI r.2)])) [.code (C_109 120), .inLoop (C_109 120), .inBlock 0, .code (C_109 31)] ⟨[(2, (.op 0 0 0)), (3, (.op 1 0 0)), (4, (.op 2 0 0)), (6, (.op 3 0 0)), (7, (aI i)), (8, (aI k))], [(0, vO 2 (Tapi_Curve.cells a)), (1, vO 2 (Tapi_Curve.cells b)), (2, vO 2 [.nil, .nil]), (3, vN 2 [(.os 4 0 c.length), (.os 5 0 c2.length)]), (4, aO 1 cI 0 c), (5, aO 4 Tapi_Rat.cells Tapi_Rat.d c2)], 6⟩ := by
  induction fuel with
  | zero => intro _ _ _ _ r h; rw [g_r01_Sum_L1.eq_1] at h; cases h
  | succ fuel ih =>
    intro c c2 i k r h E hE
    rw [g_r01_Sum_L1.eq_2] at h
    refine Runs.sA 2 [.code (C_109 480), .code (C_109 481), .code (C_109 241), .inLoop (C_109 120), .inBlock 0, .code (C_109 31)] ?_
    refine Runs.sR hE ⟨[(2, (.op 0 0 0)), (3, (.op 1 0 0)), (4, (.op 2 0 0)), (6, (.op 3 0 0)), (7, (aI i)), (8, (aI k)), (21, (aB (cond (decide (i < ((a.f_Starts.length : Nat) : Int))) true (decide (k < ((b.f_Starts.length : Nat) : Int))))))], [(0, vO 2 (Tapi_Curve.cells a)), (1, vO 2 (Tapi_Curve.cells b)), (2, vO 2 [.nil, .nil]), (3, vN 2 [(.os 4 0 c.length), (.os 5 0 c2.length)]), (4, aO 1 cI 0 c), (5, aO 4 Tapi_Rat.cells Tapi_Rat.d c2)], 198⟩ (C_109 480) [] [] (kp [2, 3, 4, 6, 7, 8, 21]) (kq [0, 1, 2, 3, 4, 5]) 198 [0 < 1, (!(decide (i < ((a.f_Starts.length : Nat) : Int)))) = true → AllP [(!(decide (i < ((a.f_Starts.length : Nat) : Int)))) = true, 0 < 1], (!(decide (i < ((a.f_Starts.length : Nat) : Int)))) = true → AllP [(!(decide (i < ((a.f_Starts.length : Nat) : Int)))) = true], (!(decide (i < ((a.f_Starts.length : Nat) : Int)))) = true → AllP [(!(decide (i < ((a.f_Starts.length : Nat) : Int)))) = true, (!(decide (i < ((a.f_Starts.length : Nat) : Int)))) = true], (!(decide (i < ((a.f_Starts.length : Nat) : Int)))) = true → AllP [(!(decide (i < ((a.f_Starts.length : Nat) : Int)))) = true]] ⟨o1, (fun hg => ⟨hg, o1, trivial⟩), (fun hg => ⟨hg, trivial⟩), (fun hg => ⟨hg, hg, trivial⟩), (fun hq => ⟨hq, trivial⟩), trivial⟩ ?_
    refine Runs.sC 21 (C_109 962) (C_109 963) (cond (decide (i < ((a.f_Starts.length : Nat) : Int))) true (decide (k < ((b.f_Starts.length : Nat) : Int)))) (fun hq2 => ?_) (fun hq2 => ?_)
    · have h := condT h hq2
      refine Runs.sA 3 [.code (C_109 964), .code (C_109 965), .inBlock 1, .inLoop (C_109 120), .inBlock 0, .code (C_109 31)] ?_
      refine Runs.sR hE ⟨[(2, (.op 0 0 0)), (3, (.op 1 0 0)), (4, (.op 2 0 0)), (6, (.op 3 0 0)), (7, (aI i)), (8, (aI k))], [(0, vO 2 (Tapi_Curve.cells a)), (1, vO 2 (Tapi_Curve.cells b)), (2, vO 2 [.nil, .nil]), (3, vN 2 [(.os 4 0 c.length), (.os 5 0 c2.length)]), (4, aO 1 cI 0 c), (5, aO 4 Tapi_Rat.cells Tapi_Rat.d c2)], 214⟩ (C_109 964) [] [] (kp [2, 3, 4, 6, 7, 8]) (kq [0, 1, 2, 3, 4, 5]) 214 [] trivial ?_
      refine Runs.sA 2 [.code (C_109 3860), .code (C_109 3861), .code (C_109 1931), .inBlock 1, .inLoop (C_109 120), .inBlock 0, .code (C_109 31)] ?_
      obtain ⟨c3, h⟩ := ifSome h
      obtain ⟨c4, h⟩ := ifSome h
      refine Runs.sR hE ⟨[(2, (.op 0 0 0)), (3, (.op 1 0 0)), (4, (.op 2 0 0)), (6, (.op 3 0 0)), (7, (aI i)), (8, (aI k)), (46, (aB (cond (decide (k ≥ ((b.f_Starts.length : Nat) : Int))) true (cond (decide (i < ((a.f_Starts.length : Nat) : Int))) (decide ((a.f_Starts.getD ((i).toNat) 0) ≤ (b.f_Starts.getD ((k).toNat) 0))) false))))], [(0, vO 2 (Tapi_Curve.cells a)), (1, vO 2 (Tapi_Curve.cells b)), (2, vO 2 [.nil, .nil]), (3, vN 2 [(.os 4 0 c.length), (.os 5 0 c2.length)]), (4, aO 1 cI 0 c), (5, aO 4 Tapi_Rat.cells Tapi_Rat.d c2)], 614⟩ (C_109 3860) [] [] (kp [2, 3, 4, 6, 7, 8, 46]) (kq [0, 1, 2, 3, 4, 5]) 614 [0 < 1, (!(decide (k ≥ ((b.f_Starts.length : Nat) : Int)))) = true → AllP [(!(decide (k ≥ ((b.f_Starts.length : Nat) : Int)))) = true, 0 < 1], (!(decide (k ≥ ((b.f_Starts.length : Nat) : Int)))) = true → AllP [(!(decide (k ≥ ((b.f_Starts.length : Nat) : Int)))) = true], (!(decide (k ≥ ((b.f_Starts.length : Nat) : Int)))) = true → AllP [(!(decide (k ≥ ((b.f_Starts.length : Nat) : Int)))) = true, (!(decide (k ≥ ((b.f_Starts.length : Nat) : Int)))) = true], ((!(decide (k ≥ ((b.f_Starts.length : Nat) : Int)))) && ((!(decide (k ≥ ((b.f_Starts.length : Nat) : Int)))) && (decide (i < ((a.f_Starts.length : Nat) : Int))))) = true → AllP [((!(decide (k ≥ ((b.f_Starts.length : Nat) : Int)))) && ((!(decide (k ≥ ((b.f_Starts.length : Nat) : Int)))) && (decide (i < ((a.f_Starts.length : Nat) : Int))))) = true, 0 < 1], ((!(decide (k ≥ ((b.f_Starts.length : Nat) : Int)))) && ((!(decide (k ≥ ((b.f_Starts.length : Nat) : Int)))) && (decide (i < ((a.f_Starts.length : Nat) : Int))))) = true → AllP [((!(decide (k ≥ ((b.f_Starts.length : Nat) : Int)))) && ((!(decide (k ≥ ((b.f_Starts.length : Nat) : Int)))) && (decide (i < ((a.f_Starts.length : Nat) : Int))))) = true, ((!(decide (k ≥ ((b.f_Starts.length : Nat) : Int)))) && ((!(decide (k ≥ ((b.f_Starts.length : Nat) : Int)))) && (decide (i < ((a.f_Starts.length : Nat) : Int))))) = true, 0 ≤ i ∧ i < ((a.f_Starts.length : Nat) : Int)], ((!(decide (k ≥ ((b.f_Starts.length : Nat) : Int)))) && ((!(decide (k ≥ ((b.f_Starts.length : Nat) : Int)))) && (decide (i < ((a.f_Starts.length : Nat) : Int))))) = true → AllP [((!(decide (k ≥ ((b.f_Starts.length : Nat) : Int)))) && ((!(decide (k ≥ ((b.f_Starts.length : Nat) : Int)))) && (decide (i < ((a.f_Starts.length : Nat) : Int))))) = true], ((!(decide (k ≥ ((b.f_Starts.length : Nat) : Int)))) && ((!(decide (k ≥ ((b.f_Starts.length : Nat) : Int)))) && (decide (i < ((a.f_Starts.length : Nat) : Int))))) = true → AllP [((!(decide (k ≥ ((b.f_Starts.length : Nat) : Int)))) && ((!(decide (k ≥ ((b.f_Starts.length : Nat) : Int)))) && (decide (i < ((a.f_Starts.length : Nat) : Int))))) = true, 0 < 1], ((!(decide (k ≥ ((b.f_Starts.length : Nat) : Int)))) && ((!(decide (k ≥ ((b.f_Starts.length : Nat) : Int)))) && (decide (i < ((a.f_Starts.length : Nat) : Int))))) = true → AllP [((!(decide (k ≥ ((b.f_Starts.length : Nat) : Int)))) && ((!(decide (k ≥ ((b.f_Starts.length : Nat) : Int)))) && (decide (i < ((a.f_Starts.length : Nat) : Int))))) = true, ((!(decide (k ≥ ((b.f_Starts.length : Nat) : Int)))) && ((!(decide (k ≥ ((b.f_Starts.length : Nat) : Int)))) && (decide (i < ((a.f_Starts.length : Nat) : Int))))) = true, 0 ≤ k ∧ k < ((b.f_Starts.length : Nat) : Int)], ((!(decide (k ≥ ((b.f_Starts.length : Nat) : Int)))) && ((!(decide (k ≥ ((b.f_Starts.length : Nat) : Int)))) && (decide (i < ((a.f_Starts.length : Nat) : Int))))) = true → AllP [((!(decide (k ≥ ((b.f_Starts.length : Nat) : Int)))) && ((!(decide (k ≥ ((b.f_Starts.length : Nat) : Int)))) && (decide (i < ((a.f_Starts.length : Nat) : Int))))) = true], ((!(decide (k ≥ ((b.f_Starts.length : Nat) : Int)))) && ((!(decide (k ≥ ((b.f_Starts.length : Nat) : Int)))) && (decide (i < ((a.f_Starts.length : Nat) : Int))))) = true → AllP [((!(decide (k ≥ ((b.f_Starts.length : Nat) : Int)))) && ((!(decide (k ≥ ((b.f_Starts.length : Nat) : Int)))) && (decide (i < ((a.f_Starts.length : Nat) : Int))))) = true, ((!(decide (k ≥ ((b.f_Starts.length : Nat) : Int)))) && ((!(decide (k ≥ ((b.f_Starts.length : Nat) : Int)))) && (decide (i < ((a.f_Starts.length : Nat) : Int))))) = true], (!(decide (k ≥ ((b.f_Starts.length : Nat) : Int)))) = true → AllP [(!(decide (k ≥ ((b.f_Starts.length : Nat) : Int)))) = true, (!(decide (k ≥ ((b.f_Starts.length : Nat) : Int)))) = true, (decide (i < ((a.f_Starts.length : Nat) : Int))) = true → AllP [((!(decide (k ≥ ((b.f_Starts.length : Nat) : Int)))) && ((!(decide (k ≥ ((b.f_Starts.length : Nat) : Int)))) && (decide (i < ((a.f_Starts.length : Nat) : Int))))) = true]], (!(decide (k ≥ ((b.f_Starts.length : Nat) : Int)))) = true → AllP [(!(decide (k ≥ ((b.f_Starts.length : Nat) : Int)))) = true]] ⟨o1, (fun hg => ⟨hg, o1, trivial⟩), (fun hg => ⟨hg, trivial⟩), (fun hg => ⟨hg, hg, trivial⟩), (fun hg => ⟨hg, o1, trivial⟩), (fun hg => ⟨hg, hg, (c3 hg), trivial⟩), (fun hg => ⟨hg, trivial⟩), (fun hg => ⟨hg, o1, trivial⟩), (fun hg => ⟨hg, hg, (c4 hg), trivial⟩), (fun hg => ⟨hg, trivial⟩), (fun hg => ⟨hg, hg, trivial⟩), (fun hg => ⟨hg, hg, (fun hq => ⟨(andI' hg (andI' hg hq)), trivial⟩), trivial⟩), (fun hq => ⟨hq, trivial⟩), trivial⟩ ?_
      refine Runs.sC 46 (C_109 7722) (C_109 7723) (cond (decide (k ≥ ((b.f_Starts.length : Nat) : Int))) true (cond (decide (i < ((a.f_Starts.length : Nat) : Int))) (decide ((a.f_Starts.getD ((i).toNat) 0) ≤ (b.f_Starts.getD ((k).toNat) 0))) false)) (fun hq3 => ?_) (fun hq3 => ?_)
      · have h := condT h hq3
        obtain ⟨c5, h⟩ := ifSome h
        refine Runs.sR hE ⟨[(2, (.op 0 0 0)), (3, (.op 1 0 0)), (4, (.op 2 0 0)), (6, (.op 3 0 0)), (7, (aI i)), (8, (aI k)), (9, (aI (a.f_Starts.getD ((i).toNat) 0)))], [(0, vO 2 (Tapi_Curve.cells a)), (1, vO 2 (Tapi_Curve.cells b)), (2, vO 2 [.nil, .nil]), (3, vN 2 [(.os 4 0 c.length), (.os 5 0 c2.length)]), (4, aO 1 cI 0 c), (5, aO 4 Tapi_Rat.cells Tapi_Rat.d c2)], 710⟩ (C_109 7722) [] [] (kp [2, 3, 4, 6, 7, 8, 9]) (kq [0, 1, 2, 3, 4, 5]) 710 [0 < 1, 0 ≤ i ∧ i < ((a.f_Starts.length : Nat) : Int)] ⟨o1, c5, trivial⟩ ?_
        refine Runs.sA 1 [.code (C_109 3862), .code (C_109 3863), .inBlock 1, .inLoop (C_109 120), .inBlock 0, .code (C_109 31)] ?_
        exact Runs.sW hE _ [] (kp [2, 3, 4, 6, 7, 8, 9]) (kq [0, 1, 2, 3, 4, 5]) 6 [] trivial (g_r01_Sum_J2_ok N a b c c2 i k (g_r01_Sum_L1 N a b fuel) ih (a.f_Starts.getD ((i).toNat) 0) _ h E hE)
      · have h := condF h hq3
        obtain ⟨c10, h⟩ := ifSome h
        refine Runs.sR hE ⟨[(2, (.op 0 0 0)), (3, (.op 1 0 0)), (4, (.op 2 0 0)), (6, (.op 3 0 0)), (7, (aI i)), (8, (aI k)), (9, (aI (b.f_Starts.getD ((k).toNat) 0)))], [(0, vO 2 (Tapi_Curve.cells a)), (1, vO 2 (Tapi_Curve.cells b)), (2, vO 2 [.nil, .nil]), (3, vN 2 [(.os 4 0 c.length), (.os 5 0 c2.length)]), (4, aO 1 cI 0 c), (5, aO 4 Tapi_Rat.cells Tapi_Rat.d c2)], 710⟩ (C_109 7723) [] [] (kp [2, 3, 4, 6, 7, 8, 9]) (kq [0, 1, 2, 3, 4, 5]) 710 [0 < 1, 0 ≤ k ∧ k < ((b.f_Starts.length : Nat) : Int)] ⟨o1, c10, trivial⟩ ?_
        refine Runs.sA 1 [.code (C_109 3862), .code (C_109 3863), .inBlock 1, .inLoop (C_109 120), .inBlock 0, .code (C_109 31)] ?_
        exact Runs.sW hE _ [] (kp [2, 3, 4, 6, 7, 8, 9]) (kq [0, 1, 2, 3, 4, 5]) 6 [] trivial (g_r01_Sum_J2_ok N a b c c2 i k (g_r01_Sum_L1 N a b fuel) ih (b.f_Starts.getD ((k).toNat) 0) _ h E hE)
    · have h := condF h hq2
      refine Runs.sA 2 [.code (C_109 62), .code (C_109 63)] ?_
      obtain ⟨rNormal, hr6, h⟩ := bindSome h
      refine Runs.sR hE ⟨[(4, (.op 2 0 0)), (6, (.op 3 0 0))], [(2, vO 2 [.nil, .nil]), (3, vN 2 [(.os 214 0 rNormal.f_Starts.length), (encL Tapi_Rat.cells Tapi_Rat.d rNormal.f_Slopes)]), (214, aO 1 cI 0 rNormal.f_Starts)], 246⟩ (C_109 62) [(1, ⟨[], false, (.agg [(.os 0 0 rNormal.f_Starts.length), (encL Tapi_Rat.cells Tapi_Rat.d rNormal.f_Slopes)]), [(0, aO 1 cI 0 rNormal.f_Starts)], 0, true, none⟩)] [] (kp [4, 6]) (kq [2, 3, 214]) 246 [0 < 1, Sound Try.prog 131 [(.agg [(encL cI 0 c), (encL Tapi_Rat.cells Tapi_Rat.d c2)])] [] 0 (.agg [(.os 0 0 rNormal.f_Starts.length), (encL Tapi_Rat.cells Tapi_Rat.d rNormal.f_Slopes)]) [(0, aO 1 cI 0 rNormal.f_Starts)], 0 + c.length ≤ c.length, 0 + c2.length ≤ c2.length, 0 < 1] ⟨o1, (g_r01_Normal_ok N (⟨c, c2⟩ : Tapi_Curve) rNormal hr6), z0, z0, o1, trivial⟩ ?_
      refine Runs.sA 2 [.code (C_109 252), .code (C_109 253), .code (C_109 127)] ?_
      refine Runs.sR hE ⟨[(4, (.op 2 0 0)), (6, (.op 3 0 0)), (114, (aB (decide (((rNormal.f_Starts.length : Nat) : Int) > 40))))], [(2, vO 2 [.nil, .nil]), (3, vN 2 [(.os 214 0 rNormal.f_Starts.length), (encL Tapi_Rat.cells Tapi_Rat.d rNormal.f_Slopes)]), (214, aO 1 cI 0 rNormal.f_Starts)], 310⟩ (C_109 252) [] [] (kp [4, 6, 114]) (kq [2, 3, 214]) 310 [0 < 1] ⟨o1, trivial⟩ ?_
      refine Runs.sC 114 (C_109 506) (C_109 507) (decide (((rNormal.f_Starts.length : Nat) : Int) > 40)) (fun hq6 => ?_) (fun hq6 => ?_)
      · have h := condT h hq6
        refine Runs.sA 1 [.code (C_109 1012), .code (C_109 1013), .code (C_109 127)] ?_
        refine Runs.sR hE ⟨[(4, (.op 2 0 0)), (5, (aI 8))], [(2, vO 2 [.nil, .nil])], 358⟩ (C_109 1012) [] [] (kp [4, 5]) (kq [2]) 358 [0 < 1] ⟨o1, trivial⟩ ?_
        obtain rfl := Option.some.inj h
        refine Runs.sW hE ⟨[(4, (.op 16 0 0)), (5, (aI 8))], [(16, vO 2 [(encL cI 0 ([] : List Int)), (encL Tapi_Rat.cells Tapi_Rat.d ([] : List Tapi_Rat))])], 358⟩ [] (kp [4, 5]) [(16, .var 2 [.sl (([] : List Int).length) (fun zi => cI (([] : List Int).getD zi 0)), .sl (([] : List Tapi_Rat).length) (fun zi => Tapi_Rat.cells (([] : List Tapi_Rat).getD zi Tapi_Rat.d))])] 358 [([] : List Int).length = 0, ([] : List Tapi_Rat).length = 0] ⟨rfl, rfl, trivial⟩ ?_
        exact Runs.sT Try.f67 [16] [0 < 1] ⟨o1, trivial⟩
      · have h := condF h hq6
        refine Runs.sA 2 [.code (C_109 254), .code (C_109 255)] ?_
        refine Runs.sR hE ⟨[(4, (.op 2 0 0)), (5, (aI 0))], [(2, vN 2 [(.os 214 0 rNormal.f_Starts.length), (encL Tapi_Rat.cells Tapi_Rat.d rNormal.f_Slopes)]), (214, aO 1 cI 0 rNormal.f_Starts)], 358⟩ (C_109 254) [] [] (kp [4, 5]) (kq [2, 214]) 358 [0 < 1, 0 < 1] ⟨o1, o1, trivial⟩ ?_
        obtain rfl := Option.some.inj h
        refine Runs.sW hE ⟨[(4, (.op 16 0 0)), (5, (aI 0))], [(16, vO 2 (Tapi_Curve.cells rNormal))], 358⟩ [214] (kp [4, 5]) [(16, .var 2 [.sl (rNormal.f_Starts.length) (fun zi => cI (rNormal.f_Starts.getD zi 0)), .keep])] 358 [rNormal.f_Starts.length = rNormal.f_Starts.length, 0 + rNormal.f_Starts.length ≤ rNormal.f_Starts.length, ∀ zi, zi < rNormal.f_Starts.length → (fun zi => cI (rNormal.f_Starts.getD zi 0)) zi = (fun zi => cI (rNormal.f_Starts.getD zi 0)) (addz 0 zi)] ⟨rfl, z0, (fun _ _ => rfl), trivial⟩ ?_
        exact Runs.sT Try.f67 [16] [0 < 1] ⟨o1, trivial⟩

theorem g_r01_Sum_ok (N : Nat) (a : Tapi_Curve) (b : Tapi_Curve) (r : Tapi_Curve × Int) (h : g_r01_Sum N a b = some r) : Sound Try.prog 67 [(.agg (Tapi_Curve.cells a)), (.agg (Tapi_Curve.cells b))] [] 0 (.tup [(.agg (Tapi_Curve.cells r.1)), (aI r.2)]) [] := by
  unfold g_r01_Sum at h
  refine Sound.of_runs (fu := Try.f67) (c := C_109 1) (nt := 117) (by kernel_rfl) (by kernel_rfl) (by kernel_rfl) (by kernel_rfl) (fun hm => rfl) ?_
  intro E hE
  refine Runs.sA 1 [.code (C_109 2), .code (C_109 3)] ?_
  refine Runs.sR hE ⟨[(2, (.op 0 0 0)), (3, (.op 16 0 0)), (4, (.op 32 0 0))], [(0, vO 2 (Tapi_Curve.cells a)), (16, vO 2 (Tapi_Curve.cells b)), (32, vO 2 [.nil, .nil])], 64⟩ (C_109 2) [] [] (kp [2, 3, 4]) (kq [0, 16, 32]) 64 [] trivial ?_
  refine Runs.sA 1 [.code (C_109 6), .code (C_109 7)] ?_
  refine Runs.sR hE ⟨[(2, (.op 0 0 0)), (3, (.op 16 0 0)), (4, (.op 32 0 0)), (6, (.op 64 0 0))], [(0, vO 2 (Tapi_Curve.cells a)), (16, vO 2 (Tapi_Curve.cells b)), (32, vO 2 [.nil, .nil]), (64, vO 2 [.nil, .nil])], 80⟩ (C_109 6) [] [] (kp [2, 3, 4, 6]) (kq [0, 16, 32, 64]) 80 [] trivial ?_
  refine Runs.sA 1 [.code (C_109 14), .code (C_109 15)] ?_
  refine Runs.sR hE ⟨[(2, (.op 0 0 0)), (3, (.op 16 0 0)), (4, (.op 32 0 0)), (6, (.op 64 0 0)), (7, (aI 0)), (8, (aI 0))], [(0, vO 2 (Tapi_Curve.cells a)), (16, vO 2 (Tapi_Curve.cells b)), (32, vO 2 [.nil, .nil]), (64, vO 2 [.nil, .nil])], 112⟩ (C_109 14) [] [] (kp [2, 3, 4, 6, 7, 8]) (kq [0, 16, 32, 64]) 112 [] trivial ?_
  refine Runs.sA 3 [.code (C_109 120), .inLoop (C_109 120), .inBlock 0, .code (C_109 31)] ?_
  exact Runs.sW hE _ [] (kp [2, 3, 4, 6, 7, 8]) (kq [0] ++ [(1, .keep 16), (2, .keep 32), (3, .var 64 [.nilos 4, .nilos 5]), (4, .nil 1 (fun zi => cI (([] : List Int).getD zi 0))), (5, .nil 4 (fun zi => Tapi_Rat.cells (([] : List Tapi_Rat).getD zi Tapi_Rat.d)))]) 6 [] trivial (g_r01_Sum_L1_ok N a b N ([] : List Int) ([] : List Tapi_Rat) 0 0 _ h E hE)

noncomputable def C_99 (n : Nat) : Code := cat (bodyOf Try.f9) (pth n)

theorem g_w01_ExactSums_ok (N : Nat) (a : Tapi_Curve) (b : Tapi_Curve) (vby : Int) (r : Bool) (h : g_w01_ExactSums N a b vby = some r) : Sound Try.prog 9 [(.agg (Tapi_Curve.cells a)), (.agg (Tapi_Curve.cells b)), (aI vby)] [] 0 (aB r) [] := by
  unfold g_w01_ExactSums at h
  refine Sound.of_runs (fu := Try.f9) (c := C_99 1) (nt := 108) (by kernel_rfl) (by kernel_rfl) (by kernel_rfl) (by kernel_rfl) (fun hm => rfl) ?_
  intro E hE
  refine Runs.sA 1 [.code (C_99 2), .code (C_99 3)] ?_
  refine Runs.sR hE ⟨[(2, (aI vby)), (3, (.op 0 0 0)), (4, (.op 16 0 0))], [(0, vO 2 (Tapi_Curve.cells a)), (16, vO 2 (Tapi_Curve.cells b))], 48⟩ (C_99 2) [] [] (kp [2, 3, 4]) (kq [0, 16]) 48 [] trivial ?_
  refine Runs.sA 2 [.code (C_99 12), .code (C_99 13), .code (C_99 7)] ?_
  obtain ⟨rheavy, hr, h⟩ := bindSome h
  obtain ⟨rheavy2, hr2, h⟩ := bindSome h
  refine Runs.sR hE ⟨[(2, (aI vby)), (3, (.op 0 0 0)), (4, (.op 16 0 0)), (22, (aB (cond rheavy true rheavy2)))], [(0, vO 2 (Tapi_Curve.cells a)), (16, vO 2 (Tapi_Curve.cells b))], 144⟩ (C_99 12) [(1, ⟨[], true, (aB rheavy), [], 0, false, none⟩), (4, ⟨[], true, (aB rheavy2), [], 0, false, none⟩)] [] (kp [2, 3, 4, 22]) (kq [0, 16]) 144 [0 < 1, Sound Try.prog 54 [(.agg (Tapi_Curve.cells a))] [] 0 (aB rheavy) [], (!rheavy) = true → AllP [0 < 1], (!rheavy) = true → AllP [Sound Try.prog 54 [(.agg (Tapi_Curve.cells b))] [] 0 (aB rheavy2) [], (!rheavy) = true], (!rheavy) = true → AllP [(!rheavy) = true]] ⟨o1, (g_w01_heavy_ok N a rheavy hr), (fun hg => ⟨o1, trivial⟩), (fun hg => ⟨(g_w01_heavy_ok N b rheavy2 (condT hr2 hg)), hg, trivial⟩), (fun hq => ⟨hq, trivial⟩), trivial⟩ ?_
  refine Runs.sC 22 (C_99 26) (C_99 27) (cond rheavy true rheavy2) (fun hq2 => ?_) (fun hq2 => ?_)
  · have h := condT h hq2
    refine Runs.sA 1 [.code (C_99 52), .code (C_99 53), .code (C_99 7)] ?_
    obtain ⟨rawake, hr3, h⟩ := bindSome h
    refine Runs.sR hE ⟨[(6, (aB rawake))], [], 176⟩ (C_99 52) [(0, ⟨[], true, (aB rawake), [], 0, false, none⟩)] [] (kp [6]) [] 176 [Sound Try.prog 14 [] [] 0 (aB rawake) []] ⟨(g_w01_awake_ok N rawake hr3), trivial⟩ ?_
    obtain rfl := Option.some.inj h
    refine Runs.sW hE ⟨[(6, (aB rawake))], [], 176⟩ [] (kp [6]) [] 176 [] trivial ?_
    exact Runs.sT Try.f9 [] [] trivial
  · have h := condF h hq2
    refine Runs.sA 2 [.code (C_99 14), .code (C_99 15)] ?_
    obtain ⟨rCheckCurve, hr4, h⟩ := bindSome h
    obtain ⟨rCheckCurve2, hr5, h⟩ := bindSome h
    refine Runs.sR hE ⟨[(2, (aI vby)), (3, (.op 0 0 0)), (4, (.op 16 0 0)), (7, (aI rCheckCurve)), (8, (aI rCheckCurve2))], [(0, vO 2 (Tapi_Curve.cells a)), (16, vO 2 (Tapi_Curve.cells b))], 240⟩ (C_99 14) [(1, ⟨[], true, (aI rCheckCurve), [], 0, false, none⟩), (3, ⟨[], true, (aI rCheckCurve2), [], 0, false, none⟩)] [] (kp [2, 3, 4, 7, 8]) (kq [0, 16]) 240 [0 < 1, Sound Try.prog 55 [(.agg (Tapi_Curve.cells a))] [] 0 (aI rCheckCurve) [], 0 < 1, Sound Try.prog 55 [(.agg (Tapi_Curve.cells b))] [] 0 (aI rCheckCurve2) []] ⟨o1, (g_r01_CheckCurve_ok N a rCheckCurve hr4), o1, (g_r01_CheckCurve_ok N b rCheckCurve2 hr5), trivial⟩ ?_
    refine Runs.sA 1 [.code (C_99 30), .code (C_99 31)] ?_
    obtain ⟨rSum, hr6, h⟩ := bindSome h
    refine Runs.sR hE ⟨[(2, (aI vby)), (3, (.op 0 0 0)), (4, (.op 16 0 0)), (7, (aI rCheckCurve)), (8, (aI rCheckCurve2)), (9, (.op 336 0 0)), (10, (aI rSum.2))], [(0, vO 2 (Tapi_Curve.cells a)), (16, vO 2 (Tapi_Curve.cells b)), (336, vO 2 (Tapi_Curve.cells rSum.1))], 384⟩ (C_99 30) [(2, ⟨[], true, (.tup [(.agg (Tapi_Curve.cells rSum.1)), (aI rSum.2)]), [], 0, false, none⟩)] [] (kp [2, 3, 4, 7, 8, 9, 10]) (kq [0, 16, 336]) 384 [0 < 1, 0 < 1, Sound Try.prog 63 [(.agg (Tapi_Curve.cells a)), (.agg (Tapi_Curve.cells b))] [] 0 (.tup [(.agg (Tapi_Curve.cells rSum.1)), (aI rSum.2)]) [], 0 < 1] ⟨o1, o1, (g_exact_Sum_ok N a b rSum hr6), o1, trivial⟩ ?_
    refine Runs.sA 1 [.code (C_99 62), .code (C_99 63)] ?_
    obtain ⟨rShift, hr7, h⟩ := bindSome h
    refine Runs.sR hE ⟨[(2, (aI vby)), (3, (.op 0 0 0)), (4, (.op 16 0 0)), (7, (aI rCheckCurve)), (8, (aI rCheckCurve2)), (9, (.op 336 0 0)), (10, (aI rSum.2)), (11, (.op 480 0 0)), (12, (aI rShift.2))], [(0, vO 2 (Tapi_Curve.cells a)), (16, vO 2 (Tapi_Curve.cells b)), (336, vO 2 (Tapi_Curve.cells rSum.1)), (480, vO 2 (Tapi_Curve.cells rShift.1))], 528⟩ (C_99 62) [(2, ⟨[], true, (.tup [(.agg (Tapi_Curve.cells rShift.1)), (aI rShift.2)]), [], 0, false, none⟩)] [] (kp [2, 3, 4, 7, 8, 9, 10, 11, 12]) (kq [0, 16, 336, 480]) 528 [0 < 1, Sound Try.prog 64 [(.agg (Tapi_Curve.cells a)), (aI vby)] [] 0 (.tup [(.agg (Tapi_Curve.cells rShift.1)), (aI rShift.2)]) [], 0 < 1] ⟨o1, (g_exact_Shift_ok N a vby rShift hr7), o1, trivial⟩ ?_
    refine Runs.sA 2 [.code (C_99 252), .code (C_99 253), .code (C_99 127)] ?_
    refine Runs.sR hE ⟨[(2, (aI vby)), (3, (.op 0 0 0)), (4, (.op 16 0 0)), (7, (aI rCheckCurve)), (8, (aI rCheckCurve2)), (9, (.op 336 0 0)), (10, (aI rSum.2)), (11, (.op 480 0 0)), (12, (aI rShift.2)), (41, (aB (rCheckCurve != 0)))], [(0, vO 2 (Tapi_Curve.cells a)), (16, vO 2 (Tapi_Curve.cells b)), (336, vO 2 (Tapi_Curve.cells rSum.1)), (480, vO 2 (Tapi_Curve.cells rShift.1))], 560⟩ (C_99 252) [] [] (kp [2, 3, 4, 7, 8, 9, 10, 11, 12, 41]) (kq [0, 16, 336, 480]) 560 [] trivial ?_
    refine Runs.sC 41 (C_99 506) (C_99 507) (rCheckCurve != 0) (fun hq3 => ?_) (fun hq3 => ?_)
    · have h := condT h hq3
      refine Runs.sA 1 [.code (C_99 1012), .code (C_99 1013), .code (C_99 127)] ?_
      obtain ⟨rSameCurve, hr8, h⟩ := bindSome h
      obtain ⟨rSameCurve2, hr9, h⟩ := bindSome h
      obtain ⟨rawake2, hr10, h⟩ := bindSome h
      refine Runs.sR hE ⟨[(6, (aB (cond (cond (cond (cond rSameCurve (rSum.2 == rCheckCurve) false) rSameCurve2 false) (rShift.2 == rCheckCurve) false) rawake2 false)))], [], 912⟩ (C_99 1012) [(2, ⟨[], true, (aB rSameCurve), [], 0, false, none⟩), (11, ⟨[], true, (aB rSameCurve2), [], 0, false, none⟩), (19, ⟨[], true, (aB rawake2), [], 0, false, none⟩)] [] (kp [6]) [] 912 [0 < 1, Sound Try.prog 65 [(.agg (Tapi_Curve.cells rSum.1)), (.agg [.nil, .nil])] [] 0 (aB rSameCurve) [], rSameCurve = true → AllP [rSameCurve = true, rSameCurve = true], rSameCurve = true → AllP [rSameCurve = true], (cond rSameCurve (rSum.2 == rCheckCurve) false) = true → AllP [0 < 1], (cond rSameCurve (rSum.2 == rCheckCurve) false) = true → AllP [Sound Try.prog 65 [(.agg (Tapi_Curve.cells rShift.1)), (.agg [.nil, .nil])] [] 0 (aB rSameCurve2) [], (cond rSameCurve (rSum.2 == rCheckCurve) false) = true, (cond rSameCurve (rSum.2 == rCheckCurve) false) = true], (cond rSameCurve (rSum.2 == rCheckCurve) false) = true → AllP [(cond rSameCurve (rSum.2 == rCheckCurve) false) = true], (cond (cond rSameCurve (rSum.2 == rCheckCurve) false) rSameCurve2 false) = true → AllP [(cond (cond rSameCurve (rSum.2 == rCheckCurve) false) rSameCurve2 false) = true, (cond (cond rSameCurve (rSum.2 == rCheckCurve) false) rSameCurve2 false) = true], (cond (cond rSameCurve (rSum.2 == rCheckCurve) false) rSameCurve2 false) = true → AllP [(cond (cond rSameCurve (rSum.2 == rCheckCurve) false) rSameCurve2 false) = true], (cond (cond (cond rSameCurve (rSum.2 == rCheckCurve) false) rSameCurve2 false) (rShift.2 == rCheckCurve) false) = true → AllP [Sound Try.prog 14 [] [] 0 (aB rawake2) []], (cond (cond (cond rSameCurve (rSum.2 == rCheckCurve) false) rSameCurve2 false) (rShift.2 == rCheckCurve) false) = true → AllP [(cond (cond (cond rSameCurve (rSum.2 == rCheckCurve) false) rSameCurve2 false) (rShift.2 == rCheckCurve) false) = true]] ⟨o1, (Sound.conv (g_keelblockbase_SameCurve_ok N rSum.1 (⟨([] : List Int), ([] : List Tapi_Rat)⟩ : Tapi_Curve) rSameCurve hr8) (.cons (Alike.refl _) (.cons (Alike.agg (.cons Alike.nil (.cons Alike.nil .nil))) .nil))), (fun hg => ⟨hg, hg, trivial⟩), (fun hq => ⟨hq, trivial⟩), (fun hg => ⟨o1, trivial⟩), (fun hg => ⟨(Sound.conv (g_keelblockbase_SameCurve_ok N rShift.1 (⟨([] : List Int), ([] : List Tapi_Rat)⟩ : Tapi_Curve) rSameCurve2 (condT hr9 hg)) (.cons (Alike.refl _) (.cons (Alike.agg (.cons Alike.nil (.cons Alike.nil .nil))) .nil))), hg, hg, trivial⟩), (fun hq => ⟨hq, trivial⟩), (fun hg => ⟨hg, hg, trivial⟩), (fun hq => ⟨hq, trivial⟩), (fun hg => ⟨(g_w01_awake_ok N rawake2 (condT hr10 hg)), trivial⟩), (fun hq => ⟨hq, trivial⟩), trivial⟩ ?_
      obtain rfl := Option.some.inj h
      refine Runs.sW hE ⟨[(6, (aB (cond (cond (cond (cond rSameCurve (rSum.2 == rCheckCurve) false) rSameCurve2 false) (rShift.2 == rCheckCurve) false) rawake2 false)))], [], 912⟩ [] (kp [6]) [] 912 [] trivial ?_
      exact Runs.sT Try.f9 [] [] trivial
    · have h := condF h hq3
      refine Runs.sA 2 [.code (C_99 254), .code (C_99 255)] ?_
      obtain ⟨rShift2, hr11, h⟩ := bindSome h
      refine Runs.sR hE ⟨[(3, (.op 0 0 0)), (4, (.op 16 0 0)), (8, (aI rCheckCurve2)), (9, (.op 336 0 0)), (10, (aI rSum.2)), (11, (.op 480 0 0)), (12, (aI rShift.2)), (13, (.op 656 0 0)), (14, (aI rShift2.2))], [(0, vO 2 (Tapi_Curve.cells a)), (16, vO 2 (Tapi_Curve.cells b)), (336, vO 2 (Tapi_Curve.cells rSum.1)), (480, vO 2 (Tapi_Curve.cells rShift.1)), (656, vO 2 (Tapi_Curve.cells rShift2.1))], 704⟩ (C_99 254) [(2, ⟨[], true, (.tup [(.agg (Tapi_Curve.cells rShift2.1)), (aI rShift2.2)]), [], 0, false, none⟩)] [] (kp [3, 4, 8, 9, 10, 11, 12, 13, 14]) (kq [0, 16, 336, 480, 656]) 704 [0 < 1, Sound Try.prog 66 [(.agg (Tapi_Curve.cells a)), (aI vby)] [] 0 (.tup [(.agg (Tapi_Curve.cells rShift2.1)), (aI rShift2.2)]) [], 0 < 1] ⟨o1, (g_r01_Shift_ok N a vby rShift2 hr11), o1, trivial⟩ ?_
      refine Runs.sA 2 [.code (C_99 1020), .code (C_99 1021), .code (C_99 511)] ?_
      obtain ⟨rSameCurve3, hr12, h⟩ := bindSome h
      refine Runs.sR hE ⟨[(3, (.op 0 0 0)), (4, (.op 16 0 0)), (8, (aI rCheckCurve2)), (9, (.op 336 0 0)), (10, (aI rSum.2)), (77, (aB (cond (!rSameCurve3) true (rShift.2 != rShift2.2))))], [(0, vO 2 (Tapi_Curve.cells a)), (16, vO 2 (Tapi_Curve.cells b)), (336, vO 2 (Tapi_Curve.cells rSum.1))], 848⟩ (C_99 1020) [(2, ⟨[], true, (aB rSameCurve3), [], 0, false, none⟩)] [] (kp [3, 4, 8, 9, 10, 77]) (kq [0, 16, 336]) 848 [0 < 1, 0 < 1, Sound Try.prog 65 [(.agg (Tapi_Curve.cells rShift.1)), (.agg (Tapi_Curve.cells rShift2.1))] [] 0 (aB rSameCurve3) [], (!(!rSameCurve3)) = true → AllP [(!(!rSameCurve3)) = true, (!(!rSameCurve3)) = true], (!(!rSameCurve3)) = true → AllP [(!(!rSameCurve3)) = true]] ⟨o1, o1, (g_keelblockbase_SameCurve_ok N rShift.1 rShift2.1 rSameCurve3 hr12), (fun hg => ⟨hg, hg, trivial⟩), (fun hq => ⟨hq, trivial⟩), trivial⟩ ?_
      refine Runs.sC 77 (C_99 2042) (C_99 2043) (cond (!rSameCurve3) true (rShift.2 != rShift2.2)) (fun hq4 => ?_) (fun hq4 => ?_)
      · have h := condT h hq4
        refine Runs.sA 1 [.code (C_99 4084), .code (C_99 4085), .code (C_99 511)] ?_
        refine Runs.sR hE ⟨[(6, (aB false))], [], 864⟩ (C_99 4084) [] [] (kp [6]) [] 864 [] trivial ?_
        obtain rfl := Option.some.inj h
        refine Runs.sW hE ⟨[(6, (aB false))], [], 864⟩ [] (kp [6]) [] 864 [] trivial ?_
        exact Runs.sT Try.f9 [] [] trivial
      · have h := condF h hq4
        refine Runs.sA 3 [.code (C_99 2044), .code (C_99 2045), .code (C_99 1023)] ?_
        refine Runs.sR hE ⟨[(3, (.op 0 0 0)), (4, (.op 16 0 0)), (8, (aI rCheckCurve2)), (9, (.op 336 0 0)), (10, (aI rSum.2)), (79, (aB (rCheckCurve2 != 0)))], [(0, vO 2 (Tapi_Curve.cells a)), (16, vO 2 (Tapi_Curve.cells b)), (336, vO 2 (Tapi_Curve.cells rSum.1))], 880⟩ (C_99 2044) [] [] (kp [3, 4, 8, 9, 10, 79]) (kq [0, 16, 336]) 880 [] trivial ?_
        refine Runs.sC 79 (C_99 4090) (C_99 4091) (rCheckCurve2 != 0) (fun hq5 => ?_) (fun hq5 => ?_)
        · have h := condT h hq5
          refine Runs.sA 1 [.code (C_99 8180), .code (C_99 8181), .code (C_99 1023)] ?_
          obtain ⟨rSameCurve4, hr13, h⟩ := bindSome h
          obtain ⟨rawake3, hr14, h⟩ := bindSome h
          refine Runs.sR hE ⟨[(6, (aB (cond (cond rSameCurve4 (rSum.2 == rCheckCurve2) false) rawake3 false)))], [], 1072⟩ (C_99 8180) [(2, ⟨[], true, (aB rSameCurve4), [], 0, false, none⟩), (9, ⟨[], true, (aB rawake3), [], 0, false, none⟩)] [] (kp [6]) [] 1072 [0 < 1, Sound Try.prog 65 [(.agg (Tapi_Curve.cells rSum.1)), (.agg [.nil, .nil])] [] 0 (aB rSameCurve4) [], rSameCurve4 = true → AllP [rSameCurve4 = true, rSameCurve4 = true], rSameCurve4 = true → AllP [rSameCurve4 = true], (cond rSameCurve4 (rSum.2 == rCheckCurve2) false) = true → AllP [Sound Try.prog 14 [] [] 0 (aB rawake3) []], (cond rSameCurve4 (rSum.2 == rCheckCurve2) false) = true → AllP [(cond rSameCurve4 (rSum.2 == rCheckCurve2) false) = true]] ⟨o1, (Sound.conv (g_keelblockbase_SameCurve_ok N rSum.1 (⟨([] : List Int), ([] : List Tapi_Rat)⟩ : Tapi_Curve) rSameCurve4 hr13) (.cons (Alike.refl _) (.cons (Alike.agg (.cons Alike.nil (.cons Alike.nil .nil))) .nil))), (fun hg => ⟨hg, hg, trivial⟩), (fun hq => ⟨hq, trivial⟩), (fun hg => ⟨(g_w01_awake_ok N rawake3 (condT hr14 hg)), trivial⟩), (fun hq => ⟨hq, trivial⟩), trivial⟩ ?_
          obtain rfl := Option.some.inj h
          refine Runs.sW hE ⟨[(6, (aB (cond (cond rSameCurve4 (rSum.2 == rCheckCurve2) false) rawake3 false)))], [], 1072⟩ [] (kp [6]) [] 1072 [] trivial ?_
          exact Runs.sT Try.f9 [] [] trivial
        · have h := condF h hq5
          refine Runs.sA 2 [.code (C_99 2046), .code (C_99 2047)] ?_
          obtain ⟨rSum2, hr15, h⟩ := bindSome h
          refine Runs.sR hE ⟨[(9, (.op 336 0 0)), (10, (aI rSum.2)), (15, (.op 976 0 0)), (16, (aI rSum2.2))], [(336, vO 2 (Tapi_Curve.cells rSum.1)), (976, vO 2 (Tapi_Curve.cells rSum2.1))], 1024⟩ (C_99 2046) [(2, ⟨[], true, (.tup [(.agg (Tapi_Curve.cells rSum2.1)), (aI rSum2.2)]), [], 0, false, none⟩)] [] (kp [9, 10, 15, 16]) (kq [336, 976]) 1024 [0 < 1, 0 < 1, Sound Try.prog 67 [(.agg (Tapi_Curve.cells a)), (.agg (Tapi_Curve.cells b))] [] 0 (.tup [(.agg (Tapi_Curve.cells rSum2.1)), (aI rSum2.2)]) [], 0 < 1] ⟨o1, o1, (g_r01_Sum_ok N a b rSum2 hr15), o1, trivial⟩ ?_
          refine Runs.sA 1 [.code (C_99 4094), .code (C_99 4095)] ?_
          obtain ⟨rSameCurve5, hr16, h⟩ := bindSome h
          obtain ⟨rawake4, hr17, h⟩ := bindSome h
          refine Runs.sR hE ⟨[(6, (aB (cond (cond rSameCurve5 (rSum.2 == rSum2.2) false) rawake4 false)))], [], 1216⟩ (C_99 4094) [(2, ⟨[], true, (aB rSameCurve5), [], 0, false, none⟩), (9, ⟨[], true, (aB rawake4), [], 0, false, none⟩)] [] (kp [6]) [] 1216 [0 < 1, 0 < 1, Sound Try.prog 65 [(.agg (Tapi_Curve.cells rSum.1)), (.agg (Tapi_Curve.cells rSum2.1))] [] 0 (aB rSameCurve5) [], rSameCurve5 = true → AllP [rSameCurve5 = true, rSameCurve5 = true], rSameCurve5 = true → AllP [rSameCurve5 = true], (cond rSameCurve5 (rSum.2 == rSum2.2) false) = true → AllP [Sound Try.prog 14 [] [] 0 (aB rawake4) []], (cond rSameCurve5 (rSum.2 == rSum2.2) false) = true → AllP [(cond rSameCurve5 (rSum.2 == rSum2.2) false) = true]] ⟨o1, o1, (g_keelblockbase_SameCurve_ok N rSum.1 rSum2.1 rSameCurve5 hr16), (fun hg => ⟨hg, hg, trivial⟩), (fun hq => ⟨hq, trivial⟩), (fun hg => ⟨(g_w01_awake_ok N rawake4 (condT hr17 hg)), trivial⟩), (fun hq => ⟨hq, trivial⟩), trivial⟩ ?_
          obtain rfl := Option.some.inj h
          refine Runs.sW hE ⟨[(6, (aB (cond (cond rSameCurve5 (rSum.2 == rSum2.2) false) rawake4 false)))], [], 1216⟩ [] (kp [6]) [] 1216 [] trivial ?_
          exact Runs.sT Try.f9 [] [] trivial

end Go.Den
