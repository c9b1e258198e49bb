/- Each function of the program does what its Lean function computes (part 2). No conditions. -/
import Derived.Test.YtakkcneiophofaaExactFieldSa
import Derived.Test.YtakkcneiophofaaProg
set_option linter.unusedVariables false
set_option maxRecDepth 100000
namespace Go.Den
open Go.Ab Go.Proofs

noncomputable def C_41 (n : Nat) : Code := cat (bodyOf Try.f159) (pth n)

theorem g_exact_ramps_1_L1_ok (N : Nat) (RD : Tapi_Rat → Tapi_Rat → Tapi_Rat → Option Tapi_Rat) (cap1 : Tapi_Curve) (cap2 : Tapi_Rat) (fuel : Nat) : ∀ (cap02 : Tapi_Rat) (before : Tapi_Rat) (x : Int) (r : Tapi_Rat), g_exact_ramps_1_L1 N RD cap1 cap2 fuel cap02 before x = some r → ∀ E, EnvOk E 3 → ∀ lY, (∀ (ych : Tapi_Rat) (yfr : Tapi_Rat) (yx yr : Tapi_Rat), RD ych yfr yx = some yr → YOK Try.prog E ⟨lY, [.agg (Tapi_Rat.cells ych), .agg (Tapi_Rat.cells yfr)], 0, vO 4 (Tapi_Rat.cells yx), vO 4 (Tapi_Rat.cells yr)⟩) → Runs Try.prog E 159 43 (SPost E [(0, vO 4 (Tapi_Rat.cells r)), (1, vO 2 (Tapi_Curve.cells cap1)), (2, vO 4 (Tapi_Rat.cells cap2))] (.tup [])) [.code (C_41 28), .inLoop (C_41 28), .inBlock 0] ⟨[(0, (.atom (.func (.yield lY) #[] #[]))), (1, (.op 1 0 0)), (2, (.op 2 0 0)), (4, (.op 3 0 0)), (10, (encL cI 0 cap1.f_Starts)), (11, (aI ((cap1.f_Starts.length : Nat) : Int))), (12, (aI x))], [(0, vO 4 (Tapi_Rat.cells cap02)), (1, vO 2 (Tapi_Curve.cells cap1)), (2, vO 4 (Tapi_Rat.cells cap2)), (3, vO 4 (Tapi_Rat.cells before))], 4⟩ := by
  induction fuel with
  | zero => intro _ _ _ r h; rw [g_exact_ramps_1_L1.eq_1] at h; cases h
  | succ fuel ih =>
    intro cap02 before x r h E hE lY hY
    rw [g_exact_ramps_1_L1.eq_2] at h
    refine Runs.sA 1 [.code (C_41 56), .code (C_41 57), .inLoop (C_41 28), .inBlock 0] ?_
    refine Runs.sR hE ⟨[(0, (.atom (.func (.yield lY) #[] #[]))), (1, (.op 1 0 0)), (2, (.op 2 0 0)), (4, (.op 3 0 0)), (10, (encL cI 0 cap1.f_Starts)), (11, (aI ((cap1.f_Starts.length : Nat) : Int))), (12, (aI x)), (13, (aB (decide (x < ((cap1.f_Starts.length : Nat) : Int)))))], [(0, vO 4 (Tapi_Rat.cells cap02)), (1, vO 2 (Tapi_Curve.cells cap1)), (2, vO 4 (Tapi_Rat.cells cap2)), (3, vO 4 (Tapi_Rat.cells before))], 20⟩ (C_41 56) [] [] (kp [0, 1, 2, 4, 10, 11, 12, 13]) (kq [0, 1, 2, 3]) 20 [] trivial ?_
    refine Runs.sA 1 [.code (C_41 114), .code (C_41 115), .inLoop (C_41 28), .inBlock 0] ?_
    refine Runs.sC 13 (C_41 228) (C_41 229) (decide (x < ((cap1.f_Starts.length : Nat) : Int))) (fun hq2 => ?_) (fun hq2 => ?_)
    · have h := condT h hq2
      refine Runs.sA 4 [.code (C_41 920), .code (C_41 921), .inBlock 1, .code (C_41 231), .inLoop (C_41 28), .inBlock 0] ?_
      obtain ⟨c, h⟩ := ifSome h
      refine Runs.sR hE ⟨[(0, (.atom (.func (.yield lY) #[] #[]))), (1, (.op 1 0 0)), (2, (.op 2 0 0)), (4, (.op 3 0 0)), (5, (aI x)), (6, (aI (cap1.f_Starts.getD ((x).toNat) 0))), (10, (encL cI 0 cap1.f_Starts)), (11, (aI ((cap1.f_Starts.length : Nat) : Int))), (12, (aI x))], [(0, vO 4 (Tapi_Rat.cells cap02)), (1, vO 2 (Tapi_Curve.cells cap1)), (2, vO 4 (Tapi_Rat.cells cap2)), (3, vO 4 (Tapi_Rat.cells before))], 100⟩ (C_41 920) [] [] (kp [0, 1, 2, 4, 5, 6, 10, 11, 12]) (kq [0, 1, 2, 3]) 100 [0 ≤ x ∧ x < ((cap1.f_Starts.length : Nat) : Int)] ⟨c, trivial⟩ ?_
      refine Runs.sA 1 [.code (C_41 1842), .code (C_41 1843), .inBlock 1, .code (C_41 231), .inLoop (C_41 28), .inBlock 0] ?_
      obtain ⟨rnumber2, hr2, h⟩ := bindSome h
      obtain ⟨rSubRat, hr3, h⟩ := bindSome h
      refine Runs.sR hE ⟨[(0, (.atom (.func (.yield lY) #[] #[]))), (1, (.op 1 0 0)), (2, (.op 2 0 0)), (4, (.op 3 0 0)), (5, (aI x)), (7, (.op 164 0 0)), (10, (encL cI 0 cap1.f_Starts)), (11, (aI ((cap1.f_Starts.length : Nat) : Int))), (12, (aI x))], [(0, vO 4 (Tapi_Rat.cells cap02)), (1, vO 2 (Tapi_Curve.cells cap1)), (2, vO 4 (Tapi_Rat.cells cap2)), (3, vO 4 (Tapi_Rat.cells before)), (164, vO 4 (Tapi_Rat.cells rSubRat))], 196⟩ (C_41 1842) [(2, ⟨[], true, (.agg (Tapi_Rat.cells rnumber2)), [], 0, false, none⟩), (3, ⟨[], true, (.agg (Tapi_Rat.cells rSubRat)), [], 0, false, none⟩)] [] (kp [0, 1, 2, 4, 5, 7, 10, 11, 12]) (kq [0, 1, 2, 3, 164]) 196 [0 < 1, Sound Try.prog 122 [(aI (cap1.f_Starts.getD ((x).toNat) 0))] [] 0 (.agg (Tapi_Rat.cells rnumber2)) [], Sound Try.prog 36 [(.agg (Tapi_Rat.cells cap2)), (.agg (Tapi_Rat.cells rnumber2))] [] 0 (.agg (Tapi_Rat.cells rSubRat)) [], 0 < 1] ⟨o1, (g_exact_number_ok N (cap1.f_Starts.getD ((x).toNat) 0) rnumber2 hr2), (g_exact_SubRat_ok N cap2 rnumber2 rSubRat hr3), o1, trivial⟩ ?_
      refine Runs.sA 2 [.code (C_41 7372), .code (C_41 7373), .code (C_41 3687), .inBlock 1, .code (C_41 231), .inLoop (C_41 28), .inBlock 0] ?_
      obtain ⟨rsignOf, hr4, h⟩ := bindSome h
      obtain ⟨c2, h⟩ := ifSome h
      obtain ⟨rSubRat2, hr5, h⟩ := bindSome h
      rcases condSplit h with ⟨hG, h⟩ | ⟨hG, h⟩
      · obtain ⟨ry, hry, h⟩ := bindSome h
        refine Runs.sRY hE ⟨[(0, (.atom (.func (.yield lY) #[] #[]))), (1, (.op 1 0 0)), (2, (.op 2 0 0)), (4, (.op 3 0 0)), (5, (aI x)), (10, (encL cI 0 cap1.f_Starts)), (11, (aI ((cap1.f_Starts.length : Nat) : Int))), (12, (aI x)), (36, (aB (cond (decide (rsignOf < 0)) true (!true))))], [(0, vO 4 (Tapi_Rat.cells ry)), (1, vO 2 (Tapi_Curve.cells cap1)), (2, vO 4 (Tapi_Rat.cells cap2)), (3, vO 4 (Tapi_Rat.cells before))], 452⟩ (C_41 7372) [(1, ⟨[], true, (aI rsignOf), [], 0, false, none⟩), (11, ⟨[], true, (.agg (Tapi_Rat.cells rSubRat2)), [], 0, false, none⟩), (13, ⟨[], true, .unk, [], 1, false, some ⟨lY, [(.agg (Tapi_Rat.cells rSubRat2)), (.agg (Tapi_Rat.cells rSubRat))], 0, vO 4 (Tapi_Rat.cells cap02), vO 4 (Tapi_Rat.cells ry)⟩⟩), (14, ⟨[], true, .unk, [], 1, false, none⟩)] [] (kp [0, 1, 2, 4, 5, 10, 11, 12, 36]) (kq [0, 1, 2, 3]) 452 [0 < 1, Sound Try.prog 115 [(.agg (Tapi_Rat.cells rSubRat))] [] 0 (aI rsignOf) [], (!(decide (rsignOf < 0))) = true → AllP [(!(decide (rsignOf < 0))) = true, 0 < 1], (!(decide (rsignOf < 0))) = true → AllP [(!(decide (rsignOf < 0))) = true, (!(decide (rsignOf < 0))) = true, 0 ≤ x ∧ x < ((cap1.f_Slopes.length : Nat) : Int)], (!(decide (rsignOf < 0))) = true → AllP [(!(decide (rsignOf < 0))) = true], (!(decide (rsignOf < 0))) = true → AllP [0 < 1], (!(decide (rsignOf < 0))) = true → AllP [Sound Try.prog 36 [(.agg [(aB (((cap1.f_Slopes.getD ((x).toNat) Tapi_Rat.d).f_Num).f_Neg)), (encL (cU .u16) 0 (((cap1.f_Slopes.getD ((x).toNat) Tapi_Rat.d).f_Num).f_Limbs)), (aB (((cap1.f_Slopes.getD ((x).toNat) Tapi_Rat.d).f_Den).f_Neg)), (encL (cU .u16) 0 (((cap1.f_Slopes.getD ((x).toNat) Tapi_Rat.d).f_Den).f_Limbs))]), (.agg (Tapi_Rat.cells before))] [] 0 (.agg (Tapi_Rat.cells rSubRat2)) [], (!(decide (rsignOf < 0))) = true, (!(decide (rsignOf < 0))) = true], (!(decide (rsignOf < 0))) = true → AllP [0 < 1], (!(decide (rsignOf < 0))) = true, (lY = lY ∧ (#[] : Array Value) = #[] ∧ (#[] : Array Value) = #[] ∧ ([(.agg (Tapi_Rat.cells rSubRat2)), (.agg (Tapi_Rat.cells rSubRat))] : List AV) = [(.agg (Tapi_Rat.cells rSubRat2)), (.agg (Tapi_Rat.cells rSubRat))] ∧ (vO 4 (Tapi_Rat.cells cap02) : Ob) = vO 4 (Tapi_Rat.cells cap02)), (!(decide (rsignOf < 0))) = true, (!(decide (rsignOf < 0))) = true, (!(decide (rsignOf < 0))) = true, (!(decide (rsignOf < 0))) = true] ⟨o1, (g_exact_signOf_ok N rSubRat rsignOf hr4), (fun hg => ⟨hg, o1, trivial⟩), (fun hg => ⟨hg, hg, (c2 hg), trivial⟩), (fun hg => ⟨hg, trivial⟩), (fun hg => ⟨o1, trivial⟩), (fun hg => ⟨(g_exact_SubRat_ok N (⟨((cap1.f_Slopes.getD ((x).toNat) Tapi_Rat.d).f_Num), ((cap1.f_Slopes.getD ((x).toNat) Tapi_Rat.d).f_Den)⟩ : Tapi_Rat) before rSubRat2 (condT hr5 hg)), hg, hg, trivial⟩), (fun hg => ⟨o1, trivial⟩), hG, ⟨rfl, rfl, rfl, rfl, rfl⟩, hG, hG, hG, hG, trivial⟩ ⟨trivial, ⟨trivial, ⟨hY rSubRat2 rSubRat cap02 ry hry, ⟨trivial, trivial⟩⟩⟩⟩ ?_
        refine Runs.sC 36 (C_41 14746) (C_41 14747) (cond (decide (rsignOf < 0)) true (!true)) (fun hq3 => ?_) (fun hq3 => ?_)
        · have h := condT h hq3
          obtain rfl := Option.some.inj h
          refine Runs.sW hE ⟨[], [(0, vO 4 (Tapi_Rat.cells ry)), (1, vO 2 (Tapi_Curve.cells cap1)), (2, vO 4 (Tapi_Rat.cells cap2))], 452⟩ [] [] (kq [0, 1, 2]) 452 [] trivial ?_
          exact Runs.sT Try.f159 [] [] trivial
        · have h := condF h hq3
          refine Runs.sA 1 [.code (C_41 3687), .inBlock 1, .code (C_41 231), .inLoop (C_41 28), .inBlock 0] ?_
          obtain ⟨c3, h⟩ := ifSome h
          refine Runs.sR hE ⟨[(0, (.atom (.func (.yield lY) #[] #[]))), (1, (.op 1 0 0)), (2, (.op 2 0 0)), (4, (.op 3 0 0)), (10, (encL cI 0 cap1.f_Starts)), (11, (aI ((cap1.f_Starts.length : Nat) : Int))), (12, (aI x))], [(0, vO 4 (Tapi_Rat.cells ry)), (1, vO 2 (Tapi_Curve.cells cap1)), (2, vO 4 (Tapi_Rat.cells cap2)), (3, vO 4 [(aB (((cap1.f_Slopes.getD ((x).toNat) Tapi_Rat.d).f_Num).f_Neg)), (encL (cU .u16) 0 (((cap1.f_Slopes.getD ((x).toNat) Tapi_Rat.d).f_Num).f_Limbs)), (aB (((cap1.f_Slopes.getD ((x).toNat) Tapi_Rat.d).f_Den).f_Neg)), (encL (cU .u16) 0 (((cap1.f_Slopes.getD ((x).toNat) Tapi_Rat.d).f_Den).f_Limbs))])], 548⟩ (C_41 3687) [] [] (kp [0, 1, 2, 4, 10, 11, 12]) (kq [0, 1, 2, 3]) 548 [0 < 1, 0 ≤ x ∧ x < ((cap1.f_Slopes.length : Nat) : Int), 0 < 1] ⟨o1, c3, o1, trivial⟩ ?_
          refine Runs.sA 1 [.code (C_41 231), .inLoop (C_41 28), .inBlock 0] ?_
          refine Runs.sR hE ⟨[(0, (.atom (.func (.yield lY) #[] #[]))), (1, (.op 1 0 0)), (2, (.op 2 0 0)), (4, (.op 3 0 0)), (10, (encL cI 0 cap1.f_Starts)), (11, (aI ((cap1.f_Starts.length : Nat) : Int))), (12, (aI (w64 (x + 1))))], [(0, vO 4 (Tapi_Rat.cells ry)), (1, vO 2 (Tapi_Curve.cells cap1)), (2, vO 4 (Tapi_Rat.cells cap2)), (3, vO 4 [(aB (((cap1.f_Slopes.getD ((x).toNat) Tapi_Rat.d).f_Num).f_Neg)), (encL (cU .u16) 0 (((cap1.f_Slopes.getD ((x).toNat) Tapi_Rat.d).f_Num).f_Limbs)), (aB (((cap1.f_Slopes.getD ((x).toNat) Tapi_Rat.d).f_Den).f_Neg)), (encL (cU .u16) 0 (((cap1.f_Slopes.getD ((x).toNat) Tapi_Rat.d).f_Den).f_Limbs))])], 580⟩ (C_41 231) [] [] (kp [0, 1, 2, 4, 10, 11, 12]) (kq [0, 1, 2, 3]) 580 [] trivial ?_
          refine Runs.sA 1 [.code (C_41 28), .inLoop (C_41 28), .inBlock 0] ?_
          exact Runs.sW hE _ [] (kp [0, 1, 2, 4, 10, 11, 12]) (kq [0, 1, 2, 3]) 4 [] trivial (ih ry (⟨((cap1.f_Slopes.getD ((x).toNat) Tapi_Rat.d).f_Num), ((cap1.f_Slopes.getD ((x).toNat) Tapi_Rat.d).f_Den)⟩ : Tapi_Rat) (w64 (x + 1)) _ h E hE lY hY)
      · refine Runs.sR hE ⟨[(0, (.atom (.func (.yield lY) #[] #[]))), (1, (.op 1 0 0)), (2, (.op 2 0 0)), (4, (.op 3 0 0)), (5, (aI x)), (10, (encL cI 0 cap1.f_Starts)), (11, (aI ((cap1.f_Starts.length : Nat) : Int))), (12, (aI x)), (36, (aB (cond (decide (rsignOf < 0)) true false)))], [(0, vO 4 (Tapi_Rat.cells cap02)), (1, vO 2 (Tapi_Curve.cells cap1)), (2, vO 4 (Tapi_Rat.cells cap2)), (3, vO 4 (Tapi_Rat.cells before))], 452⟩ (C_41 7372) [(1, ⟨[], true, (aI rsignOf), [], 0, false, none⟩), (11, ⟨[], true, (.agg (Tapi_Rat.cells rSubRat2)), [], 0, false, none⟩), (13, ⟨[], true, (aB false), [], 2, false, none⟩), (14, ⟨[], true, (aB false), [], 2, false, none⟩)] [] (kp [0, 1, 2, 4, 5, 10, 11, 12, 36]) (kq [0, 1, 2, 3]) 452 [0 < 1, Sound Try.prog 115 [(.agg (Tapi_Rat.cells rSubRat))] [] 0 (aI rsignOf) [], (!(decide (rsignOf < 0))) = true → AllP [(!(decide (rsignOf < 0))) = true, 0 < 1], (!(decide (rsignOf < 0))) = true → AllP [(!(decide (rsignOf < 0))) = true, (!(decide (rsignOf < 0))) = true, 0 ≤ x ∧ x < ((cap1.f_Slopes.length : Nat) : Int)], (!(decide (rsignOf < 0))) = true → AllP [(!(decide (rsignOf < 0))) = true], (!(decide (rsignOf < 0))) = true → AllP [0 < 1], (!(decide (rsignOf < 0))) = true → AllP [Sound Try.prog 36 [(.agg [(aB (((cap1.f_Slopes.getD ((x).toNat) Tapi_Rat.d).f_Num).f_Neg)), (encL (cU .u16) 0 (((cap1.f_Slopes.getD ((x).toNat) Tapi_Rat.d).f_Num).f_Limbs)), (aB (((cap1.f_Slopes.getD ((x).toNat) Tapi_Rat.d).f_Den).f_Neg)), (encL (cU .u16) 0 (((cap1.f_Slopes.getD ((x).toNat) Tapi_Rat.d).f_Den).f_Limbs))]), (.agg (Tapi_Rat.cells before))] [] 0 (.agg (Tapi_Rat.cells rSubRat2)) [], (!(decide (rsignOf < 0))) = true, (!(decide (rsignOf < 0))) = true], (!(decide (rsignOf < 0))) = true → AllP [0 < 1], (!(decide (rsignOf < 0))) = false, (!(decide (rsignOf < 0))) = false, (!(decide (rsignOf < 0))) = true → AllP [(!(decide (rsignOf < 0))) = true]] ⟨o1, (g_exact_signOf_ok N rSubRat rsignOf hr4), (fun hg => ⟨hg, o1, trivial⟩), (fun hg => ⟨hg, hg, (c2 hg), trivial⟩), (fun hg => ⟨hg, trivial⟩), (fun hg => ⟨o1, trivial⟩), (fun hg => ⟨(g_exact_SubRat_ok N (⟨((cap1.f_Slopes.getD ((x).toNat) Tapi_Rat.d).f_Num), ((cap1.f_Slopes.getD ((x).toNat) Tapi_Rat.d).f_Den)⟩ : Tapi_Rat) before rSubRat2 (condT hr5 hg)), hg, hg, trivial⟩), (fun hg => ⟨o1, trivial⟩), hG, hG, (fun hq => ⟨hq, trivial⟩), trivial⟩ ?_
        refine Runs.sC 36 (C_41 14746) (C_41 14747) (cond (decide (rsignOf < 0)) true false) (fun hq4 => ?_) (fun hq4 => ?_)
        · have h := condT h hq4
          obtain rfl := Option.some.inj h
          refine Runs.sW hE ⟨[], [(0, vO 4 (Tapi_Rat.cells cap02)), (1, vO 2 (Tapi_Curve.cells cap1)), (2, vO 4 (Tapi_Rat.cells cap2))], 452⟩ [] [] (kq [0, 1, 2]) 452 [] trivial ?_
          exact Runs.sT Try.f159 [] [] trivial
        · have h := condF h hq4
          refine Runs.sA 1 [.code (C_41 3687), .inBlock 1, .code (C_41 231), .inLoop (C_41 28), .inBlock 0] ?_
          obtain ⟨c4, h⟩ := ifSome h
          refine Runs.sR hE ⟨[(0, (.atom (.func (.yield lY) #[] #[]))), (1, (.op 1 0 0)), (2, (.op 2 0 0)), (4, (.op 3 0 0)), (10, (encL cI 0 cap1.f_Starts)), (11, (aI ((cap1.f_Starts.length : Nat) : Int))), (12, (aI x))], [(0, vO 4 (Tapi_Rat.cells cap02)), (1, vO 2 (Tapi_Curve.cells cap1)), (2, vO 4 (Tapi_Rat.cells cap2)), (3, vO 4 [(aB (((cap1.f_Slopes.getD ((x).toNat) Tapi_Rat.d).f_Num).f_Neg)), (encL (cU .u16) 0 (((cap1.f_Slopes.getD ((x).toNat) Tapi_Rat.d).f_Num).f_Limbs)), (aB (((cap1.f_Slopes.getD ((x).toNat) Tapi_Rat.d).f_Den).f_Neg)), (encL (cU .u16) 0 (((cap1.f_Slopes.getD ((x).toNat) Tapi_Rat.d).f_Den).f_Limbs))])], 548⟩ (C_41 3687) [] [] (kp [0, 1, 2, 4, 10, 11, 12]) (kq [0, 1, 2, 3]) 548 [0 < 1, 0 ≤ x ∧ x < ((cap1.f_Slopes.length : Nat) : Int), 0 < 1] ⟨o1, c4, o1, trivial⟩ ?_
          refine Runs.sA 1 [.code (C_41 231), .inLoop (C_41 28), .inBlock 0] ?_
          refine Runs.sR hE ⟨[(0, (.atom (.func (.yield lY) #[] #[]))), (1, (.op 1 0 0)), (2, (.op 2 0 0)), (4, (.op 3 0 0)), (10, (encL cI 0 cap1.f_Starts)), (11, (aI ((cap1.f_Starts.length : Nat) : Int))), (12, (aI (w64 (x + 1))))], [(0, vO 4 (Tapi_Rat.cells cap02)), (1, vO 2 (Tapi_Curve.cells cap1)), (2, vO 4 (Tapi_Rat.cells cap2)), (3, vO 4 [(aB (((cap1.f_Slopes.getD ((x).toNat) Tapi_Rat.d).f_Num).f_Neg)), (encL (cU .u16) 0 (((cap1.f_Slopes.getD ((x).toNat) Tapi_Rat.d).f_Num).f_Limbs)), (aB (((cap1.f_Slopes.getD ((x).toNat) Tapi_Rat.d).f_Den).f_Neg)), (encL (cU .u16) 0 (((cap1.f_Slopes.getD ((x).toNat) Tapi_Rat.d).f_Den).f_Limbs))])], 580⟩ (C_41 231) [] [] (kp [0, 1, 2, 4, 10, 11, 12]) (kq [0, 1, 2, 3]) 580 [] trivial ?_
          refine Runs.sA 1 [.code (C_41 28), .inLoop (C_41 28), .inBlock 0] ?_
          exact Runs.sW hE _ [] (kp [0, 1, 2, 4, 10, 11, 12]) (kq [0, 1, 2, 3]) 4 [] trivial (ih cap02 (⟨((cap1.f_Slopes.getD ((x).toNat) Tapi_Rat.d).f_Num), ((cap1.f_Slopes.getD ((x).toNat) Tapi_Rat.d).f_Den)⟩ : Tapi_Rat) (w64 (x + 1)) _ h E hE lY hY)
    · have h := condF h hq2
      refine Runs.sA 1 [] ?_
      obtain rfl := Option.some.inj h
      refine Runs.sW hE ⟨[], [(0, vO 4 (Tapi_Rat.cells cap02)), (1, vO 2 (Tapi_Curve.cells cap1)), (2, vO 4 (Tapi_Rat.cells cap2))], 51⟩ [] [] (kq [0, 1, 2]) 51 [] trivial ?_
      exact Runs.sF Try.f159 [] [] trivial

theorem g_exact_ramps_1_ok (N : Nat) (RD : Tapi_Rat → Tapi_Rat → Tapi_Rat → Option Tapi_Rat) (cap0 : Tapi_Rat) (cap1 : Tapi_Curve) (cap2 : Tapi_Rat) (r : Tapi_Rat) (h : g_exact_ramps_1 N RD cap0 cap1 cap2 = some r) : ∀ E, EnvOk E 3 → ∀ lY, (∀ (ych : Tapi_Rat) (yfr : Tapi_Rat) (yx yr : Tapi_Rat), RD ych yfr yx = some yr → YOK Try.prog E ⟨lY, [.agg (Tapi_Rat.cells ych), .agg (Tapi_Rat.cells yfr)], 0, vO 4 (Tapi_Rat.cells yx), vO 4 (Tapi_Rat.cells yr)⟩) → Runs Try.prog E 159 43 (SPost E [(0, vO 4 (Tapi_Rat.cells r)), (1, vO 2 (Tapi_Curve.cells cap1)), (2, vO 4 (Tapi_Rat.cells cap2))] (.tup [])) [.code (C_41 1)] ⟨initTm [(.atom (.func (.yield lY) #[] #[])), (.op 1 0 0), (.op 2 0 0)] 0, [(0, vO 4 (Tapi_Rat.cells cap0)), (1, vO 2 (Tapi_Curve.cells cap1)), (2, vO 4 (Tapi_Rat.cells cap2))], 3⟩ := by
  intro E hE lY hY
  unfold g_exact_ramps_1 at h
  refine Runs.sA 1 [.code (C_41 2), .code (C_41 3)] ?_
  obtain ⟨rnumber, hr, h⟩ := bindSome h
  refine Runs.sR hE ⟨[(0, (.atom (.func (.yield lY) #[] #[]))), (1, (.op 1 0 0)), (2, (.op 2 0 0)), (4, (.op 19 0 0))], [(0, vO 4 (Tapi_Rat.cells cap0)), (1, vO 2 (Tapi_Curve.cells cap1)), (2, vO 4 (Tapi_Rat.cells cap2)), (19, vO 4 (Tapi_Rat.cells rnumber))], 51⟩ (C_41 2) [(0, ⟨[], true, (.agg (Tapi_Rat.cells rnumber)), [], 0, false, none⟩)] [] (kp [0, 1, 2, 4]) (kq [0, 1, 2, 19]) 51 [Sound Try.prog 122 [(aI 0)] [] 0 (.agg (Tapi_Rat.cells rnumber)) [], 0 < 1] ⟨(g_exact_number_ok N 0 rnumber hr), o1, trivial⟩ ?_
  refine Runs.sA 1 [.code (C_41 6), .code (C_41 7)] ?_
  refine Runs.sR hE ⟨[(0, (.atom (.func (.yield lY) #[] #[]))), (1, (.op 1 0 0)), (2, (.op 2 0 0)), (4, (.op 19 0 0)), (10, (encL cI 0 cap1.f_Starts)), (11, (aI ((cap1.f_Starts.length : Nat) : Int))), (12, (aI 0))], [(0, vO 4 (Tapi_Rat.cells cap0)), (1, vO 2 (Tapi_Curve.cells cap1)), (2, vO 4 (Tapi_Rat.cells cap2)), (19, vO 4 (Tapi_Rat.cells rnumber))], 115⟩ (C_41 6) [] [] (kp [0, 1, 2, 4, 10, 11, 12]) (kq [0, 1, 2, 19]) 115 [0 < 1] ⟨o1, trivial⟩ ?_
  refine Runs.sA 2 [.code (C_41 28), .inLoop (C_41 28), .inBlock 0] ?_
  exact Runs.sW hE _ [] (kp [0, 1, 2, 4, 10, 11, 12]) (kq [0, 1, 2] ++ [(3, .keep 19)]) 4 [] trivial (g_exact_ramps_1_L1_ok N RD cap1 cap2 N cap0 rnumber 0 _ h E hE lY hY)

noncomputable def C_26 (n : Nat) : Code := cat (bodyOf Try.f56) (pth n)

theorem g_exact_Value_R_ok (N : Nat) (change : Tapi_Rat) (far : Tapi_Rat) (sum : Tapi_Rat) (r : Tapi_Rat) (h : g_exact_Value_R N change far sum = some r) : ∀ E, EnvOk E 1 →
    WI Try.prog E 28 (rfA (C_26 122)) ⟨[(7, (.op 0 0 0)), (20, (.agg (Tapi_Rat.cells change))), (21, (.agg (Tapi_Rat.cells far)))], [(0, vO 4 (Tapi_Rat.cells sum))], 1⟩ ⟨[(7, (.op 0 0 0)), (8, (.op 1 0 0)), (9, (.op 33 0 0))], [(0, vO 4 (Tapi_Rat.cells sum)), (1, vO 4 (Tapi_Rat.cells change)), (33, vO 4 (Tapi_Rat.cells far))], 65⟩ ∧ WI Try.prog E 28 (rfB (C_26 122)) ⟨[(7, (.op 0 0 0)), (8, (.op 1 0 0)), (9, (.op 33 0 0))], [(0, vO 4 (Tapi_Rat.cells sum)), (1, vO 4 (Tapi_Rat.cells change)), (33, vO 4 (Tapi_Rat.cells far))], 65⟩ ⟨[], [(0, vO 4 (Tapi_Rat.cells r))], 161⟩ := by
  unfold g_exact_Value_R at h
  obtain ⟨rMulRat, hr, h⟩ := bindSome h
  obtain ⟨rAddRat, hr2, h⟩ := bindSome h
  obtain rfl := Option.some.inj h
  exact fun E hE => ⟨(WI.sS (cat (rfA (C_26 122)) (pth 2)) (cat (rfA (C_26 122)) (pth 3)) (WI.sR hE ⟨[(7, (.op 0 0 0)), (20, (.agg (Tapi_Rat.cells change))), (21, (.agg (Tapi_Rat.cells far)))], [(0, vO 4 (Tapi_Rat.cells sum))], 1⟩ ⟨[(7, (.op 0 0 0)), (8, (.op 1 0 0)), (21, (.agg (Tapi_Rat.cells far)))], [(0, vO 4 (Tapi_Rat.cells sum)), (1, vO 4 (Tapi_Rat.cells change))], 33⟩ (cat (rfA (C_26 122)) (pth 2)) [] [] (kp [7, 8, 21]) (kq [0, 1]) 33 [0 < 1] ⟨o1, trivial⟩) (WI.sR hE ⟨[(7, (.op 0 0 0)), (8, (.op 1 0 0)), (21, (.agg (Tapi_Rat.cells far)))], [(0, vO 4 (Tapi_Rat.cells sum)), (1, vO 4 (Tapi_Rat.cells change))], 33⟩ ⟨[(7, (.op 0 0 0)), (8, (.op 1 0 0)), (9, (.op 33 0 0))], [(0, vO 4 (Tapi_Rat.cells sum)), (1, vO 4 (Tapi_Rat.cells change)), (33, vO 4 (Tapi_Rat.cells far))], 65⟩ (cat (rfA (C_26 122)) (pth 3)) [] [] (kp [7, 8, 9]) (kq [0, 1, 33]) 65 [0 < 1] ⟨o1, trivial⟩)), (WI.sB 1 (cat (rfB (C_26 122)) (pth 2)) (WI.sR hE ⟨[(7, (.op 0 0 0)), (8, (.op 1 0 0)), (9, (.op 33 0 0))], [(0, vO 4 (Tapi_Rat.cells sum)), (1, vO 4 (Tapi_Rat.cells change)), (33, vO 4 (Tapi_Rat.cells far))], 65⟩ ⟨[], [(0, vO 4 (Tapi_Rat.cells rAddRat))], 161⟩ (cat (rfB (C_26 122)) (pth 2)) [(3, ⟨[], true, (.agg (Tapi_Rat.cells rMulRat)), [], 0, false, none⟩), (4, ⟨[], true, (.agg (Tapi_Rat.cells rAddRat)), [], 0, false, none⟩)] [] [] (kq [0]) 161 [0 < 1, 0 < 1, 0 < 1, Sound Try.prog 32 [(.agg (Tapi_Rat.cells change)), (.agg (Tapi_Rat.cells far))] [] 0 (.agg (Tapi_Rat.cells rMulRat)) [], Sound Try.prog 33 [(.agg (Tapi_Rat.cells sum)), (.agg (Tapi_Rat.cells rMulRat))] [] 0 (.agg (Tapi_Rat.cells rAddRat)) [], 0 < 1] ⟨o1, o1, o1, (g_exact_MulRat_ok N change far rMulRat hr), (g_exact_AddRat_ok N sum rMulRat rAddRat hr2), o1, trivial⟩))⟩

theorem g_exact_Value_ok (N : Nat) (c : Tapi_Curve) (y : Tapi_Rat) (r : Tapi_Rat × Int) (h : g_exact_Value N c y = some r) : Sound Try.prog 56 [(.agg (Tapi_Curve.cells c)), (.agg (Tapi_Rat.cells y))] [] 0 (.tup [(.agg (Tapi_Rat.cells r.1)), (aI r.2)]) [] := by
  unfold g_exact_Value at h
  refine Sound.of_runs (fu := Try.f56) (c := C_26 1) (nt := 28) (by kernel_rfl) (by kernel_rfl) (by kernel_rfl) (by kernel_rfl) (fun hm => rfl) ?_
  intro E hE
  refine Runs.sA 1 [.code (C_26 2), .code (C_26 3)] ?_
  refine Runs.sR hE ⟨[(2, (.op 0 0 0)), (3, (.op 16 0 0)), (4, (.op 32 0 0))], [(0, vO 2 (Tapi_Curve.cells c)), (16, vO 4 (Tapi_Rat.cells y)), (32, vO 4 [(aB false), .nil, (aB false), .nil])], 64⟩ (C_26 2) [] [] (kp [2, 3, 4]) (kq [0, 16, 32]) 64 [] trivial ?_
  refine Runs.sA 2 [.code (C_26 12), .code (C_26 13), .code (C_26 7)] ?_
  obtain ⟨rCheckCurve, hr, h⟩ := bindSome h
  refine Runs.sR hE ⟨[(2, (.op 0 0 0)), (3, (.op 16 0 0)), (4, (.op 32 0 0)), (6, (aI rCheckCurve))], [(0, vO 2 (Tapi_Curve.cells c)), (16, vO 4 (Tapi_Rat.cells y)), (32, vO 4 [(aB false), .nil, (aB false), .nil])], 112⟩ (C_26 12) [(1, ⟨[], true, (aI rCheckCurve), [], 0, false, none⟩)] [] (kp [2, 3, 4, 6]) (kq [0, 16, 32]) 112 [0 < 1, Sound Try.prog 71 [(.agg (Tapi_Curve.cells c))] [] 0 (aI rCheckCurve) []] ⟨o1, (g_exact_CheckCurve_ok N c rCheckCurve hr), trivial⟩ ?_
  refine Runs.sA 1 [.code (C_26 26), .code (C_26 27), .code (C_26 7)] ?_
  refine Runs.sR hE ⟨[(2, (.op 0 0 0)), (3, (.op 16 0 0)), (4, (.op 32 0 0)), (6, (aI rCheckCurve)), (13, (aB (rCheckCurve != 0)))], [(0, vO 2 (Tapi_Curve.cells c)), (16, vO 4 (Tapi_Rat.cells y)), (32, vO 4 [(aB false), .nil, (aB false), .nil])], 144⟩ (C_26 26) [] [] (kp [2, 3, 4, 6, 13]) (kq [0, 16, 32]) 144 [] trivial ?_
  refine Runs.sC 13 (C_26 54) (C_26 55) (rCheckCurve != 0) (fun hq2 => ?_) (fun hq2 => ?_)
  · have h := condT h hq2
    refine Runs.sA 1 [.code (C_26 108), .code (C_26 109), .code (C_26 7)] ?_
    refine Runs.sR hE ⟨[(4, (.op 32 0 0)), (5, (aI rCheckCurve))], [(32, vO 4 [(aB false), .nil, (aB false), .nil])], 208⟩ (C_26 108) [] [] (kp [4, 5]) (kq [32]) 208 [0 < 1] ⟨o1, trivial⟩ ?_
    obtain rfl := Option.some.inj h
    refine Runs.sW hE ⟨[(4, (.op 16 0 0)), (5, (aI rCheckCurve))], [(16, vO 4 [(aB false), (encL (cU .u16) 0 ([] : List Int)), (aB false), (encL (cU .u16) 0 ([] : List Int))])], 208⟩ [] (kp [4, 5]) [(16, .var 32 [.keep, .sl (([] : List Int).length) (fun zi => (cU .u16) (([] : List Int).getD zi 0)), .keep, .sl (([] : List Int).length) (fun zi => (cU .u16) (([] : List Int).getD zi 0))])] 208 [([] : List Int).length = 0, ([] : List Int).length = 0] ⟨rfl, rfl, trivial⟩ ?_
    exact Runs.sT Try.f56 [16] [0 < 1] ⟨o1, trivial⟩
  · have h := condF h hq2
    refine Runs.sA 2 [.code (C_26 14), .code (C_26 15)] ?_
    obtain ⟨rnumber, hr2, h⟩ := bindSome h
    refine Runs.sR hE ⟨[(2, (.op 0 0 0)), (3, (.op 16 0 0)), (4, (.op 32 0 0)), (7, (.op 160 0 0))], [(0, vO 2 (Tapi_Curve.cells c)), (16, vO 4 (Tapi_Rat.cells y)), (32, vO 4 [(aB false), .nil, (aB false), .nil]), (160, vO 4 (Tapi_Rat.cells rnumber))], 192⟩ (C_26 14) [(0, ⟨[], true, (.agg (Tapi_Rat.cells rnumber)), [], 0, false, none⟩)] [] (kp [2, 3, 4, 7]) (kq [0, 16, 32, 160]) 192 [Sound Try.prog 122 [(aI 0)] [] 0 (.agg (Tapi_Rat.cells rnumber)) [], 0 < 1] ⟨(g_exact_number_ok N 0 rnumber hr2), o1, trivial⟩ ?_
    refine Runs.sA 2 [.code (C_26 60), .code (C_26 61), .code (C_26 31)] ?_
    obtain ⟨rramps, hr3, h⟩ := bindSome h
    refine Runs.sR hE ⟨[(4, (.op 32 0 0)), (7, (.op 160 0 0)), (19, (.fn (.func 159) [] [(.op 224 0 0), (.op 225 0 0)]))], [(32, vO 4 [(aB false), .nil, (aB false), .nil]), (160, vO 4 (Tapi_Rat.cells rnumber)), (224, vO 2 (Tapi_Curve.cells rramps.1)), (225, vO 4 (Tapi_Rat.cells rramps.2))], 240⟩ (C_26 60) [(2, ⟨[], false, (.fn (.func 159) [] [(.op 0 0 0), (.op 1 0 0)]), [(0, vO 2 (Tapi_Curve.cells rramps.1)), (1, vO 4 (Tapi_Rat.cells rramps.2))], 0, false, none⟩)] [] (kp [4, 7, 19]) (kq [32, 160, 224, 225]) 240 [0 < 1, 0 < 1, Sound Try.prog 123 [(.agg (Tapi_Curve.cells c)), (.agg (Tapi_Rat.cells y))] [] 0 (.fn (.func 159) [] [(.op 0 0 0), (.op 1 0 0)]) [(0, vO 2 (Tapi_Curve.cells rramps.1)), (1, vO 4 (Tapi_Rat.cells rramps.2))]] ⟨o1, o1, (g_exact_ramps_ok N c y rramps hr3), trivial⟩ ?_
    refine Runs.sA 1 [.code (C_26 122), .inBlock 0, .code (C_26 31)] ?_
    obtain ⟨rr, hrr, h⟩ := bindSome h
    refine Runs.range (m1 := 3) (m9 := 1) (nt1 := 43) (orc := ⟨[160, 224, 225], false, .tup [], [(0, vO 4 (Tapi_Rat.cells rr)), (1, vO 2 (Tapi_Curve.cells rramps.1)), (2, vO 4 (Tapi_Rat.cells rramps.2))], 0, false, none⟩) (avs := fun l => [.atom (.func (.yield l) #[] #[]), .op 1 0 0, .op 2 0 0]) (σc := [(0, vO 4 (Tapi_Rat.cells rnumber)), (1, vO 2 (Tapi_Curve.cells rramps.1)), (2, vO 4 (Tapi_Rat.cells rramps.2))]) (σ' := [(0, vO 4 (Tapi_Rat.cells rr)), (1, vO 2 (Tapi_Curve.cells rramps.1)), (2, vO 4 (Tapi_Rat.cells rramps.2))]) (res := .tup []) (x := .tup []) (gid := 159) (fu := Try.f159) (c1 := C_41 1) (rds := [160, 224, 225]) (upd := backU [160, 224, 225] 240 [(0, vO 4 (Tapi_Rat.cells rr)), (1, vO 2 (Tapi_Curve.cells rramps.1)), (2, vO 4 (Tapi_Rat.cells rramps.2))] 0 [160, 224, 225] ++ (newU [160, 224, 225] 240 [(0, vO 4 (Tapi_Rat.cells rr)), (1, vO 2 (Tapi_Curve.cells rramps.1)), (2, vO 4 (Tapi_Rat.cells rramps.2))] ++ [])) hE rfl rfl (by kernel_rfl) (by kernel_rfl) (by kernel_rfl) (fun _ => by kernel_rfl) (fun l => by kernel_rfl) (fun E1 l rq hm hl hfp hst hpd hps has hbd hsz hsn => ?_) (by decide) (by decide) (by show (1 : Nat) ≤ 256; decide) (fun E9 D hE9 HB hmm hD hfp hDE => ?_)
    · refine g_exact_ramps_1_ok N (g_exact_Value_R N) rnumber rramps.1 rramps.2 rr hrr E1 ⟨hm, fun h => absurd h (by decide)⟩ l (fun ych yfr yx yr hy => ?_)
      have W := g_exact_Value_R_ok N ych yfr yx yr hy
      refine yok_of (nt := 28) hl hfp hst hpd (by rw [hm]; decide) rfl rfl (by show (4 : Nat) ≠ 0; decide) rfl (by rw [hps]; rfl) (st0 := ⟨[(7, (.op 0 0 0)), (20, (.agg (Tapi_Rat.cells ych))), (21, (.agg (Tapi_Rat.cells yfr)))], [(0, vO 4 (Tapi_Rat.cells yx))], 1⟩) rfl rfl ?_ ?_ (fun E' hE' => by rw [has]; exact (W E' hE').1) (fun E' hE' => by rw [hbd]; exact (W E' hE').2)
      · rfl
      · intro w S μ vs hrl hmu; exact round_in2 hps hsz (by decide) (by decide) (by decide) (by decide) (by decide) (hsn 7) hrl hmu
    · refine RunsD.sA 2 [.code (C_26 62), .code (C_26 63)] ?_
      refine RunsD.sR hE9 ⟨[(4, (.op 32 0 0)), (5, (aI 0))], [(32, vO 4 (Tapi_Rat.cells rr))], 304⟩ (C_26 62) [] [] (kp [4, 5]) (kq [32]) 304 [0 < 1, 0 < 1] ⟨o1, o1, trivial⟩ ?_
      obtain rfl := Option.some.inj h
      refine RunsD.sW hE9 ⟨[(4, (.op 16 0 0)), (5, (aI 0))], [(16, vO 4 (Tapi_Rat.cells rr))], 304⟩ [] (kp [4, 5]) [(16, .keep 32)] 304 [] trivial ?_
      exact RunsD.sT HB hmm hD hfp hDE Try.f56 [16] [0 < 1] ⟨o1, trivial⟩

noncomputable def C_45 (n : Nat) : Code := cat (bodyOf Try.f17) (pth n)

theorem g_keelblockbase_SameInt_L1_ok (N : Nat) (a : Tapi_Int) (b : Tapi_Int) (fuel : Nat) : ∀ (i : Int) (r : Bool), g_keelblockbase_SameInt_L1 N a b fuel i = some r → ∀ E, EnvOk E 0 → Runs Try.prog E 17 38 (SPost E [] (aB r)) [.code (C_45 116), .inLoop (C_45 116), .inBlock 0, .code (C_45 15)] ⟨[(2, (.op 0 0 0)), (3, (.op 1 0 0)), (5, (aI i))], [(0, vO 2 (Tapi_Int.cells a)), (1, vO 2 (Tapi_Int.cells b))], 2⟩ := by
  induction fuel with
  | zero => intro _ r h; rw [g_keelblockbase_SameInt_L1.eq_1] at h; cases h
  | succ fuel ih =>
    intro i r h E hE
    rw [g_keelblockbase_SameInt_L1.eq_2] at h
    refine Runs.sA 2 [.code (C_45 464), .code (C_45 465), .code (C_45 233), .inLoop (C_45 116), .inBlock 0, .code (C_45 15)] ?_
    refine Runs.sR hE ⟨[(2, (.op 0 0 0)), (3, (.op 1 0 0)), (5, (aI i)), (24, (aB (decide (i < ((a.f_Limbs.length : Nat) : Int)))))], [(0, vO 2 (Tapi_Int.cells a)), (1, vO 2 (Tapi_Int.cells b))], 82⟩ (C_45 464) [] [] (kp [2, 3, 5, 24]) (kq [0, 1]) 82 [0 < 1] ⟨o1, trivial⟩ ?_
    refine Runs.sC 24 (C_45 930) (C_45 931) (decide (i < ((a.f_Limbs.length : Nat) : Int))) (fun hq3 => ?_) (fun hq3 => ?_)
    · have h := condT h hq3
      refine Runs.sA 4 [.code (C_45 1864), .code (C_45 1865), .inBlock 1, .code (C_45 467), .inLoop (C_45 116), .inBlock 0, .code (C_45 15)] ?_
      obtain ⟨c, h⟩ := ifSome h
      obtain ⟨c2, h⟩ := ifSome h
      refine Runs.sR hE ⟨[(2, (.op 0 0 0)), (3, (.op 1 0 0)), (5, (aI i)), (37, (aB ((a.f_Limbs.getD ((i).toNat) 0) != (b.f_Limbs.getD ((i).toNat) 0))))], [(0, vO 2 (Tapi_Int.cells a)), (1, vO 2 (Tapi_Int.cells b))], 258⟩ (C_45 1864) [] [] (kp [2, 3, 5, 37]) (kq [0, 1]) 258 [0 < 1, 0 ≤ i ∧ i < ((a.f_Limbs.length : Nat) : Int), 0 < 1, 0 ≤ i ∧ i < ((b.f_Limbs.length : Nat) : Int)] ⟨o1, c, o1, c2, trivial⟩ ?_
      refine Runs.sC 37 (C_45 3730) (C_45 3731) ((a.f_Limbs.getD ((i).toNat) 0) != (b.f_Limbs.getD ((i).toNat) 0)) (fun hq4 => ?_) (fun hq4 => ?_)
      · have h := condT h hq4
        refine Runs.sA 1 [.code (C_45 7460), .code (C_45 7461), .inBlock 1, .code (C_45 467), .inLoop (C_45 116), .inBlock 0, .code (C_45 15)] ?_
        refine Runs.sR hE ⟨[(4, (aB false))], [], 274⟩ (C_45 7460) [] [] (kp [4]) [] 274 [] trivial ?_
        obtain rfl := Option.some.inj h
        refine Runs.sW hE ⟨[(4, (aB false))], [], 274⟩ [] (kp [4]) [] 274 [] trivial ?_
        exact Runs.sT Try.f17 [] [] trivial
      · have h := condF h hq4
        refine Runs.sA 2 [.code (C_45 467), .inLoop (C_45 116), .inBlock 0, .code (C_45 15)] ?_
        refine Runs.sR hE ⟨[(2, (.op 0 0 0)), (3, (.op 1 0 0)), (5, (aI (w64 (i + 1))))], [(0, vO 2 (Tapi_Int.cells a)), (1, vO 2 (Tapi_Int.cells b))], 306⟩ (C_45 467) [] [] (kp [2, 3, 5]) (kq [0, 1]) 306 [] trivial ?_
        refine Runs.sA 1 [.code (C_45 116), .inLoop (C_45 116), .inBlock 0, .code (C_45 15)] ?_
        exact Runs.sW hE _ [] (kp [2, 3, 5]) (kq [0, 1]) 2 [] trivial (ih (w64 (i + 1)) _ h E hE)
    · have h := condF h hq3
      refine Runs.sA 2 [.code (C_45 30), .code (C_45 31)] ?_
      refine Runs.sR hE ⟨[(4, (aB true))], [], 98⟩ (C_45 30) [] [] (kp [4]) [] 98 [] trivial ?_
      obtain rfl := Option.some.inj h
      refine Runs.sW hE ⟨[(4, (aB true))], [], 98⟩ [] (kp [4]) [] 98 [] trivial ?_
      exact Runs.sT Try.f17 [] [] trivial

theorem g_keelblockbase_SameInt_ok (N : Nat) (a : Tapi_Int) (b : Tapi_Int) (r : Bool) (h : g_keelblockbase_SameInt N a b = some r) : Sound Try.prog 17 [(.agg (Tapi_Int.cells a)), (.agg (Tapi_Int.cells b))] [] 0 (aB r) [] := by
  unfold g_keelblockbase_SameInt at h
  refine Sound.of_runs (fu := Try.f17) (c := C_45 1) (nt := 38) (by kernel_rfl) (by kernel_rfl) (by kernel_rfl) (by kernel_rfl) (fun hm => rfl) ?_
  intro E hE
  refine Runs.sA 1 [.code (C_45 2), .code (C_45 3)] ?_
  refine Runs.sR hE ⟨[(2, (.op 0 0 0)), (3, (.op 16 0 0))], [(0, vO 2 (Tapi_Int.cells a)), (16, vO 2 (Tapi_Int.cells b))], 48⟩ (C_45 2) [] [] (kp [2, 3]) (kq [0, 16]) 48 [] trivial ?_
  refine Runs.sA 2 [.code (C_45 12), .code (C_45 13), .code (C_45 7)] ?_
  refine Runs.sR hE ⟨[(2, (.op 0 0 0)), (3, (.op 16 0 0)), (19, (aB (cond (!(a.f_Neg == b.f_Neg)) true (((a.f_Limbs.length : Nat) : Int) != ((b.f_Limbs.length : Nat) : Int)))))], [(0, vO 2 (Tapi_Int.cells a)), (16, vO 2 (Tapi_Int.cells b))], 272⟩ (C_45 12) [] [] (kp [2, 3, 19]) (kq [0, 16]) 272 [0 < 1, 0 < 1, (!(!(a.f_Neg == b.f_Neg))) = true → AllP [(!(!(a.f_Neg == b.f_Neg))) = true, 0 < 1], (!(!(a.f_Neg == b.f_Neg))) = true → AllP [(!(!(a.f_Neg == b.f_Neg))) = true], (!(!(a.f_Neg == b.f_Neg))) = true → AllP [(!(!(a.f_Neg == b.f_Neg))) = true, 0 < 1], (!(!(a.f_Neg == b.f_Neg))) = true → AllP [(!(!(a.f_Neg == b.f_Neg))) = true], (!(!(a.f_Neg == b.f_Neg))) = true → AllP [(!(!(a.f_Neg == b.f_Neg))) = true, (!(!(a.f_Neg == b.f_Neg))) = true], (!(!(a.f_Neg == b.f_Neg))) = true → AllP [(!(!(a.f_Neg == b.f_Neg))) = true]] ⟨o1, o1, (fun hg => ⟨hg, o1, trivial⟩), (fun hg => ⟨hg, trivial⟩), (fun hg => ⟨hg, o1, trivial⟩), (fun hg => ⟨hg, trivial⟩), (fun hg => ⟨hg, hg, trivial⟩), (fun hq => ⟨hq, trivial⟩), trivial⟩ ?_
  refine Runs.sC 19 (C_45 26) (C_45 27) (cond (!(a.f_Neg == b.f_Neg)) true (((a.f_Limbs.length : Nat) : Int) != ((b.f_Limbs.length : Nat) : Int))) (fun hq2 => ?_) (fun hq2 => ?_)
  · have h := condT h hq2
    refine Runs.sA 1 [.code (C_45 52), .code (C_45 53), .code (C_45 7)] ?_
    refine Runs.sR hE ⟨[(4, (aB false))], [], 288⟩ (C_45 52) [] [] (kp [4]) [] 288 [] trivial ?_
    obtain rfl := Option.some.inj h
    refine Runs.sW hE ⟨[(4, (aB false))], [], 288⟩ [] (kp [4]) [] 288 [] trivial ?_
    exact Runs.sT Try.f17 [] [] trivial
  · have h := condF h hq2
    refine Runs.sA 3 [.code (C_45 28), .code (C_45 29), .code (C_45 15)] ?_
    refine Runs.sR hE ⟨[(2, (.op 0 0 0)), (3, (.op 16 0 0)), (5, (aI 0))], [(0, vO 2 (Tapi_Int.cells a)), (16, vO 2 (Tapi_Int.cells b))], 288⟩ (C_45 28) [] [] (kp [2, 3, 5]) (kq [0, 16]) 288 [] trivial ?_
    refine Runs.sA 2 [.code (C_45 116), .inLoop (C_45 116), .inBlock 0, .code (C_45 15)] ?_
    exact Runs.sW hE _ [] (kp [2, 3, 5]) (kq [0] ++ [(1, .keep 16)]) 2 [] trivial (g_keelblockbase_SameInt_L1_ok N a b N 0 _ h E hE)

noncomputable def C_46 (n : Nat) : Code := cat (bodyOf Try.f91) (pth n)

theorem g_keelblockbase_Q_L2_ok (N : Nat) (a2 : Int) (b2 : Int) (fuel : Nat) : ∀ (x : Int) (y : Int) (r : Tapi_Rat), g_keelblockbase_Q_L2 N a2 b2 fuel x y = some r → ∀ E, EnvOk E 0 → Runs Try.prog E 91 34 (SPost E [] (.agg (Tapi_Rat.cells r))) [.code (C_46 248), .inLoop (C_46 248), .inBlock 0, .code (C_46 63)] ⟨[(0, (aI a2)), (1, (aI b2)), (4, (.op 0 0 0)), (5, (aI x)), (6, (aI y))], [(0, vO 4 [(aB false), .nil, (aB false), .nil])], 1⟩ := by
  induction fuel with
  | zero => intro _ _ r h; rw [g_keelblockbase_Q_L2.eq_1] at h; cases h
  | succ fuel ih =>
    intro x y r h E hE
    rw [g_keelblockbase_Q_L2.eq_2] at h
    refine Runs.sA 2 [.code (C_46 992), .code (C_46 993), .code (C_46 497), .inLoop (C_46 248), .inBlock 0, .code (C_46 63)] ?_
    refine Runs.sR hE ⟨[(0, (aI a2)), (1, (aI b2)), (4, (.op 0 0 0)), (5, (aI x)), (6, (aI y)), (20, (aB (decide (y > 0))))], [(0, vO 4 [(aB false), .nil, (aB false), .nil])], 33⟩ (C_46 992) [] [] (kp [0, 1, 4, 5, 6, 20]) (kq [0]) 33 [] trivial ?_
    refine Runs.sC 20 (C_46 1986) (C_46 1987) (decide (y > 0)) (fun hq4 => ?_) (fun hq4 => ?_)
    · have h := condT h hq4
      refine Runs.sA 2 [.code (C_46 994), .inBlock 1, .inLoop (C_46 248), .inBlock 0, .code (C_46 63)] ?_
      obtain ⟨c, h⟩ := ifSome h
      refine Runs.sR hE ⟨[(0, (aI a2)), (1, (aI b2)), (4, (.op 0 0 0)), (5, (aI y)), (6, (aI (x.tmod y)))], [(0, vO 4 [(aB false), .nil, (aB false), .nil])], 129⟩ (C_46 994) [] [] (kp [0, 1, 4, 5, 6]) (kq [0]) 129 [(y : Int) ≠ 0] ⟨c, trivial⟩ ?_
      refine Runs.sA 2 [.code (C_46 248), .inLoop (C_46 248), .inBlock 0, .code (C_46 63)] ?_
      exact Runs.sW hE _ [] (kp [0, 1, 4, 5, 6]) (kq [0]) 1 [] trivial (ih y (x.tmod y) _ h E hE)
    · have h := condF h hq4
      refine Runs.sA 2 [.code (C_46 126), .code (C_46 127)] ?_
      obtain ⟨c2, h⟩ := ifSome h
      obtain ⟨rZ, hr, h⟩ := bindSome h
      obtain ⟨rZ2, hr2, h⟩ := bindSome h
      refine Runs.sR hE ⟨[(4, (.op 0 0 0))], [(0, vO 4 [(aB rZ.f_Neg), (encL (cU .u16) 0 rZ.f_Limbs), (aB rZ2.f_Neg), (encL (cU .u16) 0 rZ2.f_Limbs)])], 193⟩ (C_46 126) [(3, ⟨[], true, (.agg (Tapi_Int.cells rZ)), [], 0, false, none⟩), (7, ⟨[], true, (.agg (Tapi_Int.cells rZ2)), [], 0, false, none⟩)] [] (kp [4]) (kq [0]) 193 [(x : Int) ≠ 0, Sound Try.prog 89 [(aI (w64 (a2.tdiv x)))] [] 0 (.agg (Tapi_Int.cells rZ)) [], (x : Int) ≠ 0, Sound Try.prog 89 [(aI (w64 (b2.tdiv x)))] [] 0 (.agg (Tapi_Int.cells rZ2)) [], 0 < 1] ⟨c2, (g_keelblockbase_Z_ok N (w64 (a2.tdiv x)) rZ hr), c2, (g_keelblockbase_Z_ok N (w64 (b2.tdiv x)) rZ2 hr2), o1, trivial⟩ ?_
      obtain rfl := Option.some.inj h
      refine Runs.sW hE ⟨[(4, (.op 16 0 0))], [(16, vO 4 [(aB rZ.f_Neg), (encL (cU .u16) 0 rZ.f_Limbs), (aB rZ2.f_Neg), (encL (cU .u16) 0 rZ2.f_Limbs)])], 193⟩ [] (kp [4]) [(16, .keep 0)] 193 [] trivial ?_
      exact Runs.sT Try.f91 [16] [0 < 1] ⟨o1, trivial⟩

theorem g_keelblockbase_Q_J1_ok (N : Nat) (a2 : Int) (b2 : Int) (r : Tapi_Rat) (h : g_keelblockbase_Q_J1 N a2 b2 = some r) : ∀ E, EnvOk E 0 → Runs Try.prog E 91 34 (SPost E [] (.agg (Tapi_Rat.cells r))) [.code (C_46 14), .code (C_46 15)] ⟨[(0, (aI a2)), (1, (aI b2)), (4, (.op 0 0 0))], [(0, vO 4 [(aB false), .nil, (aB false), .nil])], 1⟩ := by
  intro E hE
  unfold g_keelblockbase_Q_J1 at h
  refine Runs.sR hE ⟨[(0, (aI a2)), (1, (aI b2)), (4, (.op 0 0 0)), (5, (aI a2)), (6, (aI b2))], [(0, vO 4 [(aB false), .nil, (aB false), .nil])], 65⟩ (C_46 14) [] [] (kp [0, 1, 4, 5, 6]) (kq [0]) 65 [] trivial ?_
  refine Runs.sA 2 [.code (C_46 60), .code (C_46 61), .code (C_46 31)] ?_
  refine Runs.sR hE ⟨[(0, (aI a2)), (1, (aI b2)), (4, (.op 0 0 0)), (5, (aI a2)), (6, (aI b2)), (16, (aB (decide (a2 < 0))))], [(0, vO 4 [(aB false), .nil, (aB false), .nil])], 97⟩ (C_46 60) [] [] (kp [0, 1, 4, 5, 6, 16]) (kq [0]) 97 [] trivial ?_
  refine Runs.sC 16 (C_46 122) (C_46 123) (decide (a2 < 0)) (fun hq3 => ?_) (fun hq3 => ?_)
  · have h := condT h hq3
    refine Runs.sR hE ⟨[(0, (aI a2)), (1, (aI b2)), (4, (.op 0 0 0)), (5, (aI (w64 (0 - a2)))), (6, (aI b2))], [(0, vO 4 [(aB false), .nil, (aB false), .nil])], 145⟩ (C_46 122) [] [] (kp [0, 1, 4, 5, 6]) (kq [0]) 145 [] trivial ?_
    refine Runs.sA 3 [.code (C_46 248), .inLoop (C_46 248), .inBlock 0, .code (C_46 63)] ?_
    exact Runs.sW hE _ [] (kp [0, 1, 4, 5, 6]) (kq [0]) 1 [] trivial (g_keelblockbase_Q_L2_ok N a2 b2 N (w64 (0 - a2)) b2 _ h E hE)
  · have h := condF h hq3
    refine Runs.sA 4 [.code (C_46 248), .inLoop (C_46 248), .inBlock 0, .code (C_46 63)] ?_
    exact Runs.sW hE _ [] (kp [0, 1, 4, 5, 6]) (kq [0]) 1 [] trivial (g_keelblockbase_Q_L2_ok N a2 b2 N a2 b2 _ h E hE)

theorem g_keelblockbase_Q_ok (N : Nat) (a : Int) (b : Int) (r : Tapi_Rat) (h : g_keelblockbase_Q N a b = some r) : Sound Try.prog 91 [(aI a), (aI b)] [] 0 (.agg (Tapi_Rat.cells r)) [] := by
  unfold g_keelblockbase_Q at h
  refine Sound.of_runs (fu := Try.f91) (c := C_46 1) (nt := 34) (by kernel_rfl) (by kernel_rfl) (by kernel_rfl) (by kernel_rfl) (fun hm => rfl) ?_
  intro E hE
  refine Runs.sA 1 [.code (C_46 2), .code (C_46 3)] ?_
  refine Runs.sR hE ⟨[(0, (aI a)), (1, (aI b)), (4, (.op 0 0 0))], [(0, vO 4 [(aB false), .nil, (aB false), .nil])], 16⟩ (C_46 2) [] [] (kp [0, 1, 4]) (kq [0]) 16 [] trivial ?_
  refine Runs.sA 2 [.code (C_46 12), .code (C_46 13), .code (C_46 7)] ?_
  refine Runs.sR hE ⟨[(0, (aI a)), (1, (aI b)), (4, (.op 0 0 0)), (8, (aB (decide (b < 0))))], [(0, vO 4 [(aB false), .nil, (aB false), .nil])], 48⟩ (C_46 12) [] [] (kp [0, 1, 4, 8]) (kq [0]) 48 [] trivial ?_
  refine Runs.sC 8 (C_46 26) (C_46 27) (decide (b < 0)) (fun hq2 => ?_) (fun hq2 => ?_)
  · have h := condT h hq2
    refine Runs.sR hE ⟨[(0, (aI (w64 (0 - a)))), (1, (aI (w64 (0 - b)))), (4, (.op 0 0 0))], [(0, vO 4 [(aB false), .nil, (aB false), .nil])], 144⟩ (C_46 26) [] [] (kp [0, 1, 4]) (kq [0]) 144 [] trivial ?_
    refine Runs.sA 1 [.code (C_46 14), .code (C_46 15)] ?_
    exact Runs.sW hE _ [] (kp [0, 1, 4]) (kq [0]) 1 [] trivial (g_keelblockbase_Q_J1_ok N (w64 (0 - a)) (w64 (0 - b)) _ h E hE)
  · have h := condF h hq2
    refine Runs.sA 2 [.code (C_46 14), .code (C_46 15)] ?_
    exact Runs.sW hE _ [] (kp [0, 1, 4]) (kq [0]) 1 [] trivial (g_keelblockbase_Q_J1_ok N a b _ h E hE)

noncomputable def C_47 (n : Nat) : Code := cat (bodyOf Try.f34) (pth n)

theorem g_keelblockbase_SameRat_ok (N : Nat) (a : Tapi_Rat) (b : Tapi_Rat) (r : Bool) (h : g_keelblockbase_SameRat N a b = some r) : Sound Try.prog 34 [(.agg (Tapi_Rat.cells a)), (.agg (Tapi_Rat.cells b))] [] 0 (aB r) [] := by
  unfold g_keelblockbase_SameRat at h
  refine Sound.of_runs (fu := Try.f34) (c := C_47 1) (nt := 17) (by kernel_rfl) (by kernel_rfl) (by kernel_rfl) (by kernel_rfl) (fun hm => rfl) ?_
  intro E hE
  refine Runs.sA 1 [.code (C_47 2), .code (C_47 3)] ?_
  refine Runs.sR hE ⟨[(2, (.op 0 0 0)), (3, (.op 16 0 0))], [(0, vO 4 (Tapi_Rat.cells a)), (16, vO 4 (Tapi_Rat.cells b))], 48⟩ (C_47 2) [] [] (kp [2, 3]) (kq [0, 16]) 48 [] trivial ?_
  refine Runs.sA 1 [.code (C_47 6), .code (C_47 7)] ?_
  obtain ⟨rSameInt, hr, h⟩ := bindSome h
  obtain ⟨rSameInt2, hr2, h⟩ := bindSome h
  refine Runs.sR hE ⟨[(4, (aB (cond rSameInt rSameInt2 false)))], [], 256⟩ (C_47 6) [(4, ⟨[], true, (aB rSameInt), [], 0, false, none⟩), (10, ⟨[], true, (aB rSameInt2), [], 0, false, none⟩)] [] (kp [4]) [] 256 [0 < 1, 0 < 1, Sound Try.prog 17 [(.agg (Tapi_Int.cells a.f_Num)), (.agg (Tapi_Int.cells b.f_Num))] [] 0 (aB rSameInt) [], rSameInt = true → AllP [rSameInt = true, 0 < 1], rSameInt = true → AllP [rSameInt = true, 0 < 1], rSameInt = true → AllP [Sound Try.prog 17 [(.agg (Tapi_Int.cells a.f_Den)), (.agg (Tapi_Int.cells b.f_Den))] [] 0 (aB rSameInt2) [], rSameInt = true, rSameInt = true], rSameInt = true → AllP [rSameInt = true]] ⟨o1, o1, (g_keelblockbase_SameInt_ok N a.f_Num b.f_Num rSameInt hr), (fun hg => ⟨hg, o1, trivial⟩), (fun hg => ⟨hg, o1, trivial⟩), (fun hg => ⟨(g_keelblockbase_SameInt_ok N a.f_Den b.f_Den rSameInt2 (condT hr2 hg)), hg, hg, trivial⟩), (fun hq => ⟨hq, trivial⟩), trivial⟩ ?_
  obtain rfl := Option.some.inj h
  refine Runs.sW hE ⟨[(4, (aB (cond rSameInt rSameInt2 false)))], [], 256⟩ [] (kp [4]) [] 256 [] trivial ?_
  exact Runs.sT Try.f34 [] [] trivial

noncomputable def C_2 (n : Nat) : Code := cat (bodyOf Try.f14) (pth n)

theorem g_w01_awake_ok (N : Nat) (r : Bool) (h : g_w01_awake N = some r) : Sound Try.prog 14 [] [] 0 (aB r) [] := by
  unfold g_w01_awake at h
  refine Sound.of_runs (fu := Try.f14) (c := C_2 1) (nt := 60) (by kernel_rfl) (by kernel_rfl) (by kernel_rfl) (by kernel_rfl) (fun hm => rfl) ?_
  intro E hE
  refine Runs.sA 1 [.code (C_2 2), .code (C_2 3)] ?_
  refine Runs.sR hE ⟨[], [], 16⟩ (C_2 2) [] [] [] [] 16 [] trivial ?_
  refine Runs.sA 1 [.code (C_2 6), .code (C_2 7)] ?_
  obtain ⟨rZ, hr, h⟩ := bindSome h
  obtain ⟨rZ2, hr2, h⟩ := bindSome h
  obtain ⟨rDivMod, hr3, h⟩ := bindSome h
  refine Runs.sR hE ⟨[(1, (.op 128 0 0)), (2, (.op 144 0 0)), (3, (aI rDivMod.2.2))], [(128, vO 2 (Tapi_Int.cells rDivMod.1)), (144, vO 2 (Tapi_Int.cells rDivMod.2.1))], 208⟩ (C_2 6) [(0, ⟨[], true, (.agg (Tapi_Int.cells rZ)), [], 0, false, none⟩), (1, ⟨[], true, (.agg (Tapi_Int.cells rZ2)), [], 0, false, none⟩), (2, ⟨[], true, (.tup [(.agg (Tapi_Int.cells rDivMod.1)), (.agg (Tapi_Int.cells rDivMod.2.1)), (aI rDivMod.2.2)]), [], 0, false, none⟩)] [] (kp [1, 2, 3]) (kq [128, 144]) 208 [Sound Try.prog 89 [(aI (-7))] [] 0 (.agg (Tapi_Int.cells rZ)) [], Sound Try.prog 89 [(aI 2)] [] 0 (.agg (Tapi_Int.cells rZ2)) [], Sound Try.prog 20 [(.agg (Tapi_Int.cells rZ)), (.agg (Tapi_Int.cells rZ2))] [] 0 (.tup [(.agg (Tapi_Int.cells rDivMod.1)), (.agg (Tapi_Int.cells rDivMod.2.1)), (aI rDivMod.2.2)]) [], 0 < 1, 0 < 1] ⟨(g_keelblockbase_Z_ok N (-7) rZ hr), (g_keelblockbase_Z_ok N 2 rZ2 hr2), (g_exact_DivMod_ok N rZ rZ2 rDivMod hr3), o1, o1, trivial⟩ ?_
  refine Runs.sA 1 [.code (C_2 14), .code (C_2 15)] ?_
  obtain ⟨rRatio, hr4, h⟩ := bindSome h
  refine Runs.sR hE ⟨[(1, (.op 128 0 0)), (2, (.op 144 0 0)), (3, (aI rDivMod.2.2)), (4, (.op 272 0 0)), (5, (aI rRatio.2))], [(128, vO 2 (Tapi_Int.cells rDivMod.1)), (144, vO 2 (Tapi_Int.cells rDivMod.2.1)), (272, vO 4 (Tapi_Rat.cells rRatio.1))], 320⟩ (C_2 14) [(0, ⟨[], true, (.tup [(.agg (Tapi_Rat.cells rRatio.1)), (aI rRatio.2)]), [], 0, false, none⟩)] [] (kp [1, 2, 3, 4, 5]) (kq [128, 144, 272]) 320 [Sound Try.prog 41 [(aI 6), (aI (-4))] [] 0 (.tup [(.agg (Tapi_Rat.cells rRatio.1)), (aI rRatio.2)]) [], 0 < 1] ⟨(g_exact_Ratio_ok N 6 (-4) rRatio hr4), o1, trivial⟩ ?_
  refine Runs.sA 1 [.code (C_2 30), .code (C_2 31)] ?_
  obtain ⟨rWs, hr5, h⟩ := bindSome h
  refine Runs.sR hE ⟨[(1, (.op 128 0 0)), (2, (.op 144 0 0)), (3, (aI rDivMod.2.2)), (4, (.op 272 0 0)), (5, (aI rRatio.2)), (6, (.op 384 0 0))], [(128, vO 2 (Tapi_Int.cells rDivMod.1)), (144, vO 2 (Tapi_Int.cells rDivMod.2.1)), (272, vO 4 (Tapi_Rat.cells rRatio.1)), (320, aO 1 cI 0 ([0, 10] : List Int)), (384, vN 2 [(.os 320 0 (([0, 10] : List Int).length)), (encL Tapi_Rat.cells Tapi_Rat.d rWs)])], 416⟩ (C_2 30) [(2, ⟨[], true, (encL Tapi_Rat.cells Tapi_Rat.d rWs), [], 0, true, none⟩)] [] (kp [1, 2, 3, 4, 5, 6]) (kq [128, 144, 272] ++ [(320, .arr 320 (([0, 10] : List Int).length) (fun zi => cI (([0, 10] : List Int).getD zi 0))), (384, .var 384 [.osl (([0, 10] : List Int).length), .keep])]) 416 [Sound Try.prog 90 [(.sl 2 (fun zi => (fun zi => ([[(aI 2)], [(aI 0)]] : List (List AV)).getD zi []) (addz 0 zi)))] [] 0 (encL Tapi_Rat.cells Tapi_Rat.d rWs) [], 0 + 2 ≤ 2, 0 < 1, 2 = ([0, 10] : List Int).length, ∀ zi, zi < ([0, 10] : List Int).length → (fun zi => cI (([0, 10] : List Int).getD zi 0)) zi = (fun zi => ([[(aI 0)], [(aI 10)]] : List (List AV)).getD zi []) zi, 2 = ([0, 10] : List Int).length] ⟨(Sound.conv (g_keelblockbase_Ws_ok N ([2, 0] : List Int) rWs hr5) (.cons (Alike.sl rfl (fun zq hzq => get_chunk cI 0 ([2, 0] : List Int) zq hzq)) .nil)), z0, o1, rfl, (fun zq hzq => get_chunk cI 0 ([0, 10] : List Int) zq hzq), rfl, trivial⟩ ?_
  refine Runs.sA 1 [.code (C_2 62), .code (C_2 63)] ?_
  obtain ⟨rW, hr6, h⟩ := bindSome h
  obtain ⟨rValue, hr7, h⟩ := bindSome h
  refine Runs.sR hE ⟨[(1, (.op 128 0 0)), (2, (.op 144 0 0)), (3, (aI rDivMod.2.2)), (4, (.op 272 0 0)), (5, (aI rRatio.2)), (7, (.op 512 0 0)), (8, (aI rValue.2))], [(128, vO 2 (Tapi_Int.cells rDivMod.1)), (144, vO 2 (Tapi_Int.cells rDivMod.2.1)), (272, vO 4 (Tapi_Rat.cells rRatio.1)), (512, vO 4 (Tapi_Rat.cells rValue.1))], 560⟩ (C_2 62) [(1, ⟨[], true, (.agg (Tapi_Rat.cells rW)), [], 0, false, none⟩), (2, ⟨[], true, (.tup [(.agg (Tapi_Rat.cells rValue.1)), (aI rValue.2)]), [], 0, true, none⟩)] [] (kp [1, 2, 3, 4, 5, 7, 8]) (kq [128, 144, 272, 512]) 560 [0 < 1, Sound Try.prog 39 [(aI 5)] [] 0 (.agg (Tapi_Rat.cells rW)) [], Sound Try.prog 56 [(.agg [(encL cI 0 ([0, 10] : List Int)), (encL Tapi_Rat.cells Tapi_Rat.d rWs)]), (.agg (Tapi_Rat.cells rW))] [] 0 (.tup [(.agg (Tapi_Rat.cells rValue.1)), (aI rValue.2)]) [], 0 + ([0, 10] : List Int).length ≤ ([0, 10] : List Int).length, 0 < 1] ⟨o1, (g_keelblockbase_W_ok N 5 rW hr6), (g_exact_Value_ok N (⟨([0, 10] : List Int), rWs⟩ : Tapi_Curve) rW rValue hr7), z0, o1, trivial⟩ ?_
  refine Runs.sA 1 [.code (C_2 126), .code (C_2 127)] ?_
  obtain ⟨rZ3, hr8, h⟩ := bindSome h
  obtain ⟨rSameInt, hr9, h⟩ := bindSome h
  obtain ⟨rZ4, hr10, h⟩ := bindSome h
  obtain ⟨rSameInt2, hr11, h⟩ := bindSome h
  obtain ⟨rQ, hr12, h⟩ := bindSome h
  obtain ⟨rSameRat, hr13, h⟩ := bindSome h
  obtain ⟨rW2, hr14, h⟩ := bindSome h
  obtain ⟨rSameRat2, hr15, h⟩ := bindSome h
  refine Runs.sR hE ⟨[(0, (aB (cond (cond (cond (cond (cond (cond (rDivMod.2.2 == 0) rSameInt false) rSameInt2 false) (rRatio.2 == 0) false) rSameRat false) (rValue.2 == 0) false) rSameRat2 false)))], [], 1056⟩ (C_2 126) [(4, ⟨[], true, (.agg (Tapi_Int.cells rZ3)), [], 0, false, none⟩), (5, ⟨[], true, (aB rSameInt), [], 0, false, none⟩), (9, ⟨[], true, (.agg (Tapi_Int.cells rZ4)), [], 0, false, none⟩), (10, ⟨[], true, (aB rSameInt2), [], 0, false, none⟩), (18, ⟨[], true, (.agg (Tapi_Rat.cells rQ)), [], 0, false, none⟩), (19, ⟨[], true, (aB rSameRat), [], 0, false, none⟩), (27, ⟨[], true, (.agg (Tapi_Rat.cells rW2)), [], 0, false, none⟩), (28, ⟨[], true, (aB rSameRat2), [], 0, false, none⟩)] [] (kp [0]) [] 1056 [(rDivMod.2.2 == 0) = true → AllP [0 < 1], (rDivMod.2.2 == 0) = true → AllP [Sound Try.prog 89 [(aI (-4))] [] 0 (.agg (Tapi_Int.cells rZ3)) []], (rDivMod.2.2 == 0) = true → AllP [Sound Try.prog 17 [(.agg (Tapi_Int.cells rDivMod.1)), (.agg (Tapi_Int.cells rZ3))] [] 0 (aB rSameInt) [], (rDivMod.2.2 == 0) = true, (rDivMod.2.2 == 0) = true], (rDivMod.2.2 == 0) = true → AllP [(rDivMod.2.2 == 0) = true], (cond (rDivMod.2.2 == 0) rSameInt false) = true → AllP [0 < 1], (cond (rDivMod.2.2 == 0) rSameInt false) = true → AllP [Sound Try.prog 89 [(aI 1)] [] 0 (.agg (Tapi_Int.cells rZ4)) []], (cond (rDivMod.2.2 == 0) rSameInt false) = true → AllP [Sound Try.prog 17 [(.agg (Tapi_Int.cells rDivMod.2.1)), (.agg (Tapi_Int.cells rZ4))] [] 0 (aB rSameInt2) [], (cond (rDivMod.2.2 == 0) rSameInt false) = true, (cond (rDivMod.2.2 == 0) rSameInt false) = true], (cond (rDivMod.2.2 == 0) rSameInt false) = true → AllP [(cond (rDivMod.2.2 == 0) rSameInt false) = true], (cond (cond (rDivMod.2.2 == 0) rSameInt false) rSameInt2 false) = true → AllP [(cond (cond (rDivMod.2.2 == 0) rSameInt false) rSameInt2 false) = true], (cond (cond (rDivMod.2.2 == 0) rSameInt false) rSameInt2 false) = true → AllP [(cond (cond (rDivMod.2.2 == 0) rSameInt false) rSameInt2 false) = true], (cond (cond (cond (rDivMod.2.2 == 0) rSameInt false) rSameInt2 false) (rRatio.2 == 0) false) = true → AllP [0 < 1], (cond (cond (cond (rDivMod.2.2 == 0) rSameInt false) rSameInt2 false) (rRatio.2 == 0) false) = true → AllP [Sound Try.prog 91 [(aI (-3)), (aI 2)] [] 0 (.agg (Tapi_Rat.cells rQ)) []], (cond (cond (cond (rDivMod.2.2 == 0) rSameInt false) rSameInt2 false) (rRatio.2 == 0) false) = true → AllP [Sound Try.prog 34 [(.agg (Tapi_Rat.cells rRatio.1)), (.agg (Tapi_Rat.cells rQ))] [] 0 (aB rSameRat) [], (cond (cond (cond (rDivMod.2.2 == 0) rSameInt false) rSameInt2 false) (rRatio.2 == 0) false) = true, (cond (cond (cond (rDivMod.2.2 == 0) rSameInt false) rSameInt2 false) (rRatio.2 == 0) false) = true], (cond (cond (cond (rDivMod.2.2 == 0) rSameInt false) rSameInt2 false) (rRatio.2 == 0) false) = true → AllP [(cond (cond (cond (rDivMod.2.2 == 0) rSameInt false) rSameInt2 false) (rRatio.2 == 0) false) = true], (cond (cond (cond (cond (rDivMod.2.2 == 0) rSameInt false) rSameInt2 false) (rRatio.2 == 0) false) rSameRat false) = true → AllP [(cond (cond (cond (cond (rDivMod.2.2 == 0) rSameInt false) rSameInt2 false) (rRatio.2 == 0) false) rSameRat false) = true], (cond (cond (cond (cond (rDivMod.2.2 == 0) rSameInt false) rSameInt2 false) (rRatio.2 == 0) false) rSameRat false) = true → AllP [(cond (cond (cond (cond (rDivMod.2.2 == 0) rSameInt false) rSameInt2 false) (rRatio.2 == 0) false) rSameRat false) = true], (cond (cond (cond (cond (cond (rDivMod.2.2 == 0) rSameInt false) rSameInt2 false) (rRatio.2 == 0) false) rSameRat false) (rValue.2 == 0) false) = true → AllP [0 < 1], (cond (cond (cond (cond (cond (rDivMod.2.2 == 0) rSameInt false) rSameInt2 false) (rRatio.2 == 0) false) rSameRat false) (rValue.2 == 0) false) = true → AllP [Sound Try.prog 39 [(aI 10)] [] 0 (.agg (Tapi_Rat.cells rW2)) []], (cond (cond (cond (cond (cond (rDivMod.2.2 == 0) rSameInt false) rSameInt2 false) (rRatio.2 == 0) false) rSameRat false) (rValue.2 == 0) false) = true → AllP [Sound Try.prog 34 [(.agg (Tapi_Rat.cells rValue.1)), (.agg (Tapi_Rat.cells rW2))] [] 0 (aB rSameRat2) [], (cond (cond (cond (cond (cond (rDivMod.2.2 == 0) rSameInt false) rSameInt2 false) (rRatio.2 == 0) false) rSameRat false) (rValue.2 == 0) false) = true, (cond (cond (cond (cond (cond (rDivMod.2.2 == 0) rSameInt false) rSameInt2 false) (rRatio.2 == 0) false) rSameRat false) (rValue.2 == 0) false) = true], (cond (cond (cond (cond (cond (rDivMod.2.2 == 0) rSameInt false) rSameInt2 false) (rRatio.2 == 0) false) rSameRat false) (rValue.2 == 0) false) = true → AllP [(cond (cond (cond (cond (cond (rDivMod.2.2 == 0) rSameInt false) rSameInt2 false) (rRatio.2 == 0) false) rSameRat false) (rValue.2 == 0) false) = true]] ⟨(fun hg => ⟨o1, trivial⟩), (fun hg => ⟨(g_keelblockbase_Z_ok N (-4) rZ3 (condT hr8 hg)), trivial⟩), (fun hg => ⟨(g_keelblockbase_SameInt_ok N rDivMod.1 rZ3 rSameInt (condT hr9 hg)), hg, hg, trivial⟩), (fun hq => ⟨hq, trivial⟩), (fun hg => ⟨o1, trivial⟩), (fun hg => ⟨(g_keelblockbase_Z_ok N 1 rZ4 (condT hr10 hg)), trivial⟩), (fun hg => ⟨(g_keelblockbase_SameInt_ok N rDivMod.2.1 rZ4 rSameInt2 (condT hr11 hg)), hg, hg, trivial⟩), (fun hq => ⟨hq, trivial⟩), (fun hg => ⟨hg, trivial⟩), (fun hq => ⟨hq, trivial⟩), (fun hg => ⟨o1, trivial⟩), (fun hg => ⟨(g_keelblockbase_Q_ok N (-3) 2 rQ (condT hr12 hg)), trivial⟩), (fun hg => ⟨(g_keelblockbase_SameRat_ok N rRatio.1 rQ rSameRat (condT hr13 hg)), hg, hg, trivial⟩), (fun hq => ⟨hq, trivial⟩), (fun hg => ⟨hg, trivial⟩), (fun hq => ⟨hq, trivial⟩), (fun hg => ⟨o1, trivial⟩), (fun hg => ⟨(g_keelblockbase_W_ok N 10 rW2 (condT hr14 hg)), trivial⟩), (fun hg => ⟨(g_keelblockbase_SameRat_ok N rValue.1 rW2 rSameRat2 (condT hr15 hg)), hg, hg, trivial⟩), (fun hq => ⟨hq, trivial⟩), trivial⟩ ?_
  obtain rfl := Option.some.inj h
  refine Runs.sW hE ⟨[(0, (aB (cond (cond (cond (cond (cond (cond (rDivMod.2.2 == 0) rSameInt false) rSameInt2 false) (rRatio.2 == 0) false) rSameRat false) (rValue.2 == 0) false) rSameRat2 false)))], [], 1056⟩ [] (kp [0]) [] 1056 [] trivial ?_
  exact Runs.sT Try.f14 [] [] trivial

noncomputable def C_71 (n : Nat) : Code := cat (bodyOf Try.f31) (pth n)

theorem g_w01_wide_ok (N : Nat) (x : Tapi_Rat) (r : Bool) (h : g_w01_wide N x = some r) : Sound Try.prog 31 [(.agg (Tapi_Rat.cells x))] [] 0 (aB r) [] := by
  unfold g_w01_wide at h
  refine Sound.of_runs (fu := Try.f31) (c := C_71 1) (nt := 15) (by kernel_rfl) (by kernel_rfl) (by kernel_rfl) (by kernel_rfl) (fun hm => rfl) ?_
  intro E hE
  refine Runs.sA 1 [.code (C_71 2), .code (C_71 3)] ?_
  refine Runs.sR hE ⟨[(1, (.op 0 0 0))], [(0, vO 4 (Tapi_Rat.cells x))], 32⟩ (C_71 2) [] [] (kp [1]) (kq [0]) 32 [] trivial ?_
  refine Runs.sA 1 [.code (C_71 6), .code (C_71 7)] ?_
  refine Runs.sR hE ⟨[(2, (aB (cond (decide (((x.f_Num.f_Limbs.length : Nat) : Int) > 12)) true (decide (((x.f_Den.f_Limbs.length : Nat) : Int) > 12)))))], [], 240⟩ (C_71 6) [] [] (kp [2]) [] 240 [0 < 1, (!(decide (((x.f_Num.f_Limbs.length : Nat) : Int) > 12))) = true → AllP [(!(decide (((x.f_Num.f_Limbs.length : Nat) : Int) > 12))) = true], (!(decide (((x.f_Num.f_Limbs.length : Nat) : Int) > 12))) = true → AllP [(!(decide (((x.f_Num.f_Limbs.length : Nat) : Int) > 12))) = true, 0 < 1], (!(decide (((x.f_Num.f_Limbs.length : Nat) : Int) > 12))) = true → AllP [(!(decide (((x.f_Num.f_Limbs.length : Nat) : Int) > 12))) = true], (!(decide (((x.f_Num.f_Limbs.length : Nat) : Int) > 12))) = true → AllP [(!(decide (((x.f_Num.f_Limbs.length : Nat) : Int) > 12))) = true], (!(decide (((x.f_Num.f_Limbs.length : Nat) : Int) > 12))) = true → AllP [(!(decide (((x.f_Num.f_Limbs.length : Nat) : Int) > 12))) = true]] ⟨o1, (fun hg => ⟨hg, trivial⟩), (fun hg => ⟨hg, o1, trivial⟩), (fun hg => ⟨hg, trivial⟩), (fun hg => ⟨hg, trivial⟩), (fun hq => ⟨hq, trivial⟩), trivial⟩ ?_
  obtain rfl := Option.some.inj h
  refine Runs.sW hE ⟨[(2, (aB (cond (decide (((x.f_Num.f_Limbs.length : Nat) : Int) > 12)) true (decide (((x.f_Den.f_Limbs.length : Nat) : Int) > 12)))))], [], 240⟩ [] (kp [2]) [] 240 [] trivial ?_
  exact Runs.sT Try.f31 [] [] trivial

noncomputable def C_72 (n : Nat) : Code := cat (bodyOf Try.f35) (pth n)

theorem g_exact_CmpRat_ok (N : Nat) (x : Tapi_Rat) (y : Tapi_Rat) (r : Int) (h : g_exact_CmpRat N x y = some r) : Sound Try.prog 35 [(.agg (Tapi_Rat.cells x)), (.agg (Tapi_Rat.cells y))] [] 0 (aI r) [] := by
  unfold g_exact_CmpRat at h
  refine Sound.of_runs (fu := Try.f35) (c := C_72 1) (nt := 9) (by kernel_rfl) (by kernel_rfl) (by kernel_rfl) (by kernel_rfl) (fun hm => rfl) ?_
  intro E hE
  refine Runs.sA 1 [.code (C_72 2), .code (C_72 3)] ?_
  refine Runs.sR hE ⟨[(2, (.op 0 0 0)), (3, (.op 16 0 0))], [(0, vO 4 (Tapi_Rat.cells x)), (16, vO 4 (Tapi_Rat.cells y))], 48⟩ (C_72 2) [] [] (kp [2, 3]) (kq [0, 16]) 48 [] trivial ?_
  refine Runs.sA 1 [.code (C_72 6), .code (C_72 7)] ?_
  obtain ⟨rSubRat, hr, h⟩ := bindSome h
  obtain ⟨rsignOf, hr2, h⟩ := bindSome h
  refine Runs.sR hE ⟨[(4, (aI rsignOf))], [], 128⟩ (C_72 6) [(2, ⟨[], true, (.agg (Tapi_Rat.cells rSubRat)), [], 0, false, none⟩), (3, ⟨[], true, (aI rsignOf), [], 0, false, none⟩)] [] (kp [4]) [] 128 [0 < 1, 0 < 1, Sound Try.prog 36 [(.agg (Tapi_Rat.cells x)), (.agg (Tapi_Rat.cells y))] [] 0 (.agg (Tapi_Rat.cells rSubRat)) [], Sound Try.prog 115 [(.agg (Tapi_Rat.cells rSubRat))] [] 0 (aI rsignOf) []] ⟨o1, o1, (g_exact_SubRat_ok N x y rSubRat hr), (g_exact_signOf_ok N rSubRat rsignOf hr2), trivial⟩ ?_
  obtain rfl := Option.some.inj h
  refine Runs.sW hE ⟨[(4, (aI rsignOf))], [], 128⟩ [] (kp [4]) [] 128 [] trivial ?_
  exact Runs.sT Try.f35 [] [] trivial

noncomputable def C_73 (n : Nat) : Code := cat (bodyOf Try.f38) (pth n)

theorem g_exact_Floor_ok (N : Nat) (x : Tapi_Rat) (r : Tapi_Int) (h : g_exact_Floor N x = some r) : Sound Try.prog 38 [(.agg (Tapi_Rat.cells x))] [] 0 (.agg (Tapi_Int.cells r)) [] := by
  unfold g_exact_Floor at h
  refine Sound.of_runs (fu := Try.f38) (c := C_73 1) (nt := 18) (by kernel_rfl) (by kernel_rfl) (by kernel_rfl) (by kernel_rfl) (fun hm => rfl) ?_
  intro E hE
  refine Runs.sA 1 [.code (C_73 2), .code (C_73 3)] ?_
  refine Runs.sR hE ⟨[(1, (.op 0 0 0)), (2, (.op 16 0 0))], [(0, vO 4 (Tapi_Rat.cells x)), (16, vO 2 [(aB false), .nil])], 32⟩ (C_73 2) [] [] (kp [1, 2]) (kq [0, 16]) 32 [] trivial ?_
  refine Runs.sA 1 [.code (C_73 6), .code (C_73 7)] ?_
  obtain ⟨rlowest, hr, h⟩ := bindSome h
  refine Runs.sR hE ⟨[(1, (.op 0 0 0)), (2, (.op 16 0 0))], [(0, vO 4 (Tapi_Rat.cells rlowest)), (16, vO 2 [(aB false), .nil])], 80⟩ (C_73 6) [(1, ⟨[], true, (.agg (Tapi_Rat.cells rlowest)), [], 0, false, none⟩)] [] (kp [1, 2]) (kq [0, 16]) 80 [0 < 1, Sound Try.prog 114 [(.agg (Tapi_Rat.cells x))] [] 0 (.agg (Tapi_Rat.cells rlowest)) [], 0 < 1] ⟨o1, (g_exact_lowest_ok N x rlowest hr), o1, trivial⟩ ?_
  refine Runs.sA 1 [.code (C_73 14), .code (C_73 15)] ?_
  obtain ⟨rDivMod, hr2, h⟩ := bindSome h
  refine Runs.sR hE ⟨[(2, (.op 16 0 0)), (3, (.op 224 0 0))], [(16, vO 2 [(aB false), .nil]), (224, vO 2 (Tapi_Int.cells rDivMod.1))], 304⟩ (C_73 14) [(4, ⟨[], true, (.tup [(.agg (Tapi_Int.cells rDivMod.1)), (.agg (Tapi_Int.cells rDivMod.2.1)), (aI rDivMod.2.2)]), [], 0, false, none⟩)] [] (kp [2, 3]) (kq [16, 224]) 304 [0 < 1, 0 < 1, Sound Try.prog 20 [(.agg (Tapi_Int.cells rlowest.f_Num)), (.agg (Tapi_Int.cells rlowest.f_Den))] [] 0 (.tup [(.agg (Tapi_Int.cells rDivMod.1)), (.agg (Tapi_Int.cells rDivMod.2.1)), (aI rDivMod.2.2)]) [], 0 < 1, 0 < 1] ⟨o1, o1, (g_exact_DivMod_ok N rlowest.f_Num rlowest.f_Den rDivMod hr2), o1, o1, trivial⟩ ?_
  refine Runs.sA 1 [.code (C_73 30), .code (C_73 31)] ?_
  refine Runs.sR hE ⟨[(2, (.op 16 0 0))], [(16, vO 2 (Tapi_Int.cells rDivMod.1))], 336⟩ (C_73 30) [] [] (kp [2]) (kq [16]) 336 [0 < 1, 0 < 1] ⟨o1, o1, trivial⟩ ?_
  obtain rfl := Option.some.inj h
  refine Runs.sW hE ⟨[(2, (.op 16 0 0))], [(16, vO 2 (Tapi_Int.cells rDivMod.1))], 336⟩ [] (kp [2]) (kq [16]) 336 [] trivial ?_
  exact Runs.sT Try.f38 [16] [0 < 1] ⟨o1, trivial⟩

noncomputable def C_75 (n : Nat) : Code := cat (bodyOf Try.f117) (pth n)

theorem g_exact_over_ok (N : Nat) (x : Tapi_Rat) (y : Tapi_Rat) (r : Tapi_Rat) (h : g_exact_over N x y = some r) : Sound Try.prog 117 [(.agg (Tapi_Rat.cells x)), (.agg (Tapi_Rat.cells y))] [] 0 (.agg (Tapi_Rat.cells r)) [] := by
  unfold g_exact_over at h
  refine Sound.of_runs (fu := Try.f117) (c := C_75 1) (nt := 16) (by kernel_rfl) (by kernel_rfl) (by kernel_rfl) (by kernel_rfl) (fun hm => rfl) ?_
  intro E hE
  refine Runs.sA 1 [.code (C_75 2), .code (C_75 3)] ?_
  refine Runs.sR hE ⟨[(2, (.op 0 0 0)), (3, (.op 16 0 0)), (4, (.op 32 0 0))], [(0, vO 4 (Tapi_Rat.cells x)), (16, vO 4 (Tapi_Rat.cells y)), (32, vO 4 [(aB false), .nil, (aB false), .nil])], 48⟩ (C_75 2) [] [] (kp [2, 3, 4]) (kq [0, 16, 32]) 48 [] trivial ?_
  refine Runs.sA 1 [.code (C_75 6), .code (C_75 7)] ?_
  obtain ⟨rbelow, hr, h⟩ := bindSome h
  obtain ⟨rMul, hr2, h⟩ := bindSome h
  obtain ⟨rbelow2, hr3, h⟩ := bindSome h
  obtain ⟨rMul2, hr4, h⟩ := bindSome h
  obtain ⟨rfraction, hr5, h⟩ := bindSome h
  refine Runs.sR hE ⟨[(4, (.op 32 0 0))], [(32, vO 4 (Tapi_Rat.cells rfraction))], 240⟩ (C_75 6) [(3, ⟨[], true, (.agg (Tapi_Int.cells rbelow)), [], 0, false, none⟩), (4, ⟨[], true, (.agg (Tapi_Int.cells rMul)), [], 0, false, none⟩), (6, ⟨[], true, (.agg (Tapi_Int.cells rbelow2)), [], 0, false, none⟩), (9, ⟨[], true, (.agg (Tapi_Int.cells rMul2)), [], 0, false, none⟩), (10, ⟨[], true, (.agg (Tapi_Rat.cells rfraction)), [], 0, false, none⟩)] [] (kp [4]) (kq [32]) 240 [0 < 1, 0 < 1, Sound Try.prog 112 [(.agg (Tapi_Rat.cells y))] [] 0 (.agg (Tapi_Int.cells rbelow)) [], Sound Try.prog 16 [(.agg (Tapi_Int.cells x.f_Num)), (.agg (Tapi_Int.cells rbelow))] [] 0 (.agg (Tapi_Int.cells rMul)) [], 0 < 1, Sound Try.prog 112 [(.agg (Tapi_Rat.cells x))] [] 0 (.agg (Tapi_Int.cells rbelow2)) [], 0 < 1, Sound Try.prog 16 [(.agg (Tapi_Int.cells rbelow2)), (.agg (Tapi_Int.cells y.f_Num))] [] 0 (.agg (Tapi_Int.cells rMul2)) [], Sound Try.prog 111 [(.agg (Tapi_Int.cells rMul)), (.agg (Tapi_Int.cells rMul2))] [] 0 (.agg (Tapi_Rat.cells rfraction)) [], 0 < 1] ⟨o1, o1, (g_exact_below_ok N y rbelow hr), (g_exact_Mul_ok N x.f_Num rbelow rMul hr2), o1, (g_exact_below_ok N x rbelow2 hr3), o1, (g_exact_Mul_ok N rbelow2 y.f_Num rMul2 hr4), (g_exact_fraction_ok N rMul rMul2 rfraction hr5), o1, trivial⟩ ?_
  obtain rfl := Option.some.inj h
  refine Runs.sW hE ⟨[(4, (.op 16 0 0))], [(16, vO 4 (Tapi_Rat.cells rfraction))], 240⟩ [] (kp [4]) [(16, .keep 32)] 240 [] trivial ?_
  exact Runs.sT Try.f117 [16] [0 < 1] ⟨o1, trivial⟩

noncomputable def C_74 (n : Nat) : Code := cat (bodyOf Try.f40) (pth n)

theorem g_exact_QuoRat_ok (N : Nat) (x : Tapi_Rat) (y : Tapi_Rat) (r : Tapi_Rat × Int) (h : g_exact_QuoRat N x y = some r) : Sound Try.prog 40 [(.agg (Tapi_Rat.cells x)), (.agg (Tapi_Rat.cells y))] [] 0 (.tup [(.agg (Tapi_Rat.cells r.1)), (aI r.2)]) [] := by
  unfold g_exact_QuoRat at h
  refine Sound.of_runs (fu := Try.f40) (c := C_74 1) (nt := 12) (by kernel_rfl) (by kernel_rfl) (by kernel_rfl) (by kernel_rfl) (fun hm => rfl) ?_
  intro E hE
  refine Runs.sA 1 [.code (C_74 2), .code (C_74 3)] ?_
  refine Runs.sR hE ⟨[(2, (.op 0 0 0)), (3, (.op 16 0 0)), (4, (.op 32 0 0))], [(0, vO 4 (Tapi_Rat.cells x)), (16, vO 4 (Tapi_Rat.cells y)), (32, vO 4 [(aB false), .nil, (aB false), .nil])], 64⟩ (C_74 2) [] [] (kp [2, 3, 4]) (kq [0, 16, 32]) 64 [] trivial ?_
  refine Runs.sA 2 [.code (C_74 12), .code (C_74 13), .code (C_74 7)] ?_
  obtain ⟨risZero, hr, h⟩ := bindSome h
  refine Runs.sR hE ⟨[(2, (.op 0 0 0)), (3, (.op 16 0 0)), (4, (.op 32 0 0)), (7, (aB risZero))], [(0, vO 4 (Tapi_Rat.cells x)), (16, vO 4 (Tapi_Rat.cells y)), (32, vO 4 [(aB false), .nil, (aB false), .nil])], 96⟩ (C_74 12) [(1, ⟨[], true, (aB risZero), [], 0, false, none⟩)] [] (kp [2, 3, 4, 7]) (kq [0, 16, 32]) 96 [0 < 1, Sound Try.prog 113 [(.agg (Tapi_Rat.cells y))] [] 0 (aB risZero) []] ⟨o1, (g_exact_isZero_ok N y risZero hr), trivial⟩ ?_
  refine Runs.sC 7 (C_74 26) (C_74 27) risZero (fun hq2 => ?_) (fun hq2 => ?_)
  · have h := condT h hq2
    refine Runs.sA 1 [.code (C_74 52), .code (C_74 53), .code (C_74 7)] ?_
    refine Runs.sR hE ⟨[(4, (.op 32 0 0)), (5, (aI 9))], [(32, vO 4 [(aB false), .nil, (aB false), .nil])], 144⟩ (C_74 52) [] [] (kp [4, 5]) (kq [32]) 144 [0 < 1] ⟨o1, trivial⟩ ?_
    obtain rfl := Option.some.inj h
    refine Runs.sW hE ⟨[(4, (.op 16 0 0)), (5, (aI 9))], [(16, vO 4 [(aB false), (encL (cU .u16) 0 ([] : List Int)), (aB false), (encL (cU .u16) 0 ([] : List Int))])], 144⟩ [] (kp [4, 5]) [(16, .var 32 [.keep, .sl (([] : List Int).length) (fun zi => (cU .u16) (([] : List Int).getD zi 0)), .keep, .sl (([] : List Int).length) (fun zi => (cU .u16) (([] : List Int).getD zi 0))])] 144 [([] : List Int).length = 0, ([] : List Int).length = 0] ⟨rfl, rfl, trivial⟩ ?_
    exact Runs.sT Try.f40 [16] [0 < 1] ⟨o1, trivial⟩
  · have h := condF h hq2
    refine Runs.sA 2 [.code (C_74 14), .code (C_74 15)] ?_
    obtain ⟨rover, hr2, h⟩ := bindSome h
    refine Runs.sR hE ⟨[(4, (.op 32 0 0)), (5, (aI 0))], [(32, vO 4 (Tapi_Rat.cells rover))], 176⟩ (C_74 14) [(2, ⟨[], true, (.agg (Tapi_Rat.cells rover)), [], 0, false, none⟩)] [] (kp [4, 5]) (kq [32]) 176 [0 < 1, 0 < 1, Sound Try.prog 117 [(.agg (Tapi_Rat.cells x)), (.agg (Tapi_Rat.cells y))] [] 0 (.agg (Tapi_Rat.cells rover)) [], 0 < 1] ⟨o1, o1, (g_exact_over_ok N x y rover hr2), o1, trivial⟩ ?_
    obtain rfl := Option.some.inj h
    refine Runs.sW hE ⟨[(4, (.op 16 0 0)), (5, (aI 0))], [(16, vO 4 (Tapi_Rat.cells rover))], 176⟩ [] (kp [4, 5]) [(16, .keep 32)] 176 [] trivial ?_
    exact Runs.sT Try.f40 [16] [0 < 1] ⟨o1, trivial⟩

noncomputable def C_70 (n : Nat) : Code := cat (bodyOf Try.f5) (pth n)

theorem g_w01_ExactField_ok (N : Nat) (x : Tapi_Rat) (y : Tapi_Rat) (z : Tapi_Rat) (r : Bool) (h : g_w01_ExactField N x y z = some r) : Sound Try.prog 5 [(.agg (Tapi_Rat.cells x)), (.agg (Tapi_Rat.cells y)), (.agg (Tapi_Rat.cells z))] [] 0 (aB r) [] := by
  unfold g_w01_ExactField at h
  refine Sound.of_runs (fu := Try.f5) (c := C_70 1) (nt := 88) (by kernel_rfl) (by kernel_rfl) (by kernel_rfl) (by kernel_rfl) (fun hm => rfl) ?_
  intro E hE
  refine Runs.sA 1 [.code (C_70 2), .code (C_70 3)] ?_
  refine Runs.sR hE ⟨[(3, (.op 0 0 0)), (4, (.op 16 0 0)), (5, (.op 32 0 0))], [(0, vO 4 (Tapi_Rat.cells x)), (16, vO 4 (Tapi_Rat.cells y)), (32, vO 4 (Tapi_Rat.cells z))], 64⟩ (C_70 2) [] [] (kp [3, 4, 5]) (kq [0, 16, 32]) 64 [] trivial ?_
  refine Runs.sA 2 [.code (C_70 12), .code (C_70 13), .code (C_70 7)] ?_
  obtain ⟨rwide, hr, h⟩ := bindSome h
  obtain ⟨rwide2, hr2, h⟩ := bindSome h
  obtain ⟨rwide3, hr3, h⟩ := bindSome h
  refine Runs.sR hE ⟨[(3, (.op 0 0 0)), (4, (.op 16 0 0)), (5, (.op 32 0 0)), (21, (aB (cond (cond rwide true rwide2) true rwide3)))], [(0, vO 4 (Tapi_Rat.cells x)), (16, vO 4 (Tapi_Rat.cells y)), (32, vO 4 (Tapi_Rat.cells z))], 224⟩ (C_70 12) [(1, ⟨[], true, (aB rwide), [], 0, false, none⟩), (4, ⟨[], true, (aB rwide2), [], 0, false, none⟩), (8, ⟨[], true, (aB rwide3), [], 0, false, none⟩)] [] (kp [3, 4, 5, 21]) (kq [0, 16, 32]) 224 [0 < 1, Sound Try.prog 31 [(.agg (Tapi_Rat.cells x))] [] 0 (aB rwide) [], (!rwide) = true → AllP [0 < 1], (!rwide) = true → AllP [Sound Try.prog 31 [(.agg (Tapi_Rat.cells y))] [] 0 (aB rwide2) [], (!rwide) = true], (!rwide) = true → AllP [(!rwide) = true], (!(cond rwide true rwide2)) = true → AllP [0 < 1], (!(cond rwide true rwide2)) = true → AllP [Sound Try.prog 31 [(.agg (Tapi_Rat.cells z))] [] 0 (aB rwide3) [], (!(cond rwide true rwide2)) = true], (!(cond rwide true rwide2)) = true → AllP [(!(cond rwide true rwide2)) = true]] ⟨o1, (g_w01_wide_ok N x rwide hr), (fun hg => ⟨o1, trivial⟩), (fun hg => ⟨(g_w01_wide_ok N y rwide2 (condT hr2 hg)), hg, trivial⟩), (fun hq => ⟨hq, trivial⟩), (fun hg => ⟨o1, trivial⟩), (fun hg => ⟨(g_w01_wide_ok N z rwide3 (condT hr3 hg)), hg, trivial⟩), (fun hq => ⟨hq, trivial⟩), trivial⟩ ?_
  refine Runs.sC 21 (C_70 26) (C_70 27) (cond (cond rwide true rwide2) true rwide3) (fun hq2 => ?_) (fun hq2 => ?_)
  · have h := condT h hq2
    refine Runs.sA 1 [.code (C_70 52), .code (C_70 53), .code (C_70 7)] ?_
    obtain ⟨rawake, hr4, h⟩ := bindSome h
    refine Runs.sR hE ⟨[(6, (aB rawake))], [], 256⟩ (C_70 52) [(0, ⟨[], true, (aB rawake), [], 0, false, none⟩)] [] (kp [6]) [] 256 [Sound Try.prog 14 [] [] 0 (aB rawake) []] ⟨(g_w01_awake_ok N rawake hr4), trivial⟩ ?_
    obtain rfl := Option.some.inj h
    refine Runs.sW hE ⟨[(6, (aB rawake))], [], 256⟩ [] (kp [6]) [] 256 [] trivial ?_
    exact Runs.sT Try.f5 [] [] trivial
  · have h := condF h hq2
    refine Runs.sA 2 [.code (C_70 14), .code (C_70 15)] ?_
    obtain ⟨rAddRat, hr5, h⟩ := bindSome h
    obtain ⟨rMulRat, hr6, h⟩ := bindSome h
    refine Runs.sR hE ⟨[(3, (.op 0 0 0)), (4, (.op 16 0 0)), (5, (.op 32 0 0)), (7, (.op 304 0 0))], [(0, vO 4 (Tapi_Rat.cells x)), (16, vO 4 (Tapi_Rat.cells y)), (32, vO 4 (Tapi_Rat.cells z)), (304, vO 4 (Tapi_Rat.cells rMulRat))], 336⟩ (C_70 14) [(3, ⟨[], true, (.agg (Tapi_Rat.cells rAddRat)), [], 0, false, none⟩), (4, ⟨[], true, (.agg (Tapi_Rat.cells rMulRat)), [], 0, false, none⟩)] [] (kp [3, 4, 5, 7]) (kq [0, 16, 32, 304]) 336 [0 < 1, 0 < 1, 0 < 1, Sound Try.prog 33 [(.agg (Tapi_Rat.cells y)), (.agg (Tapi_Rat.cells z))] [] 0 (.agg (Tapi_Rat.cells rAddRat)) [], Sound Try.prog 32 [(.agg (Tapi_Rat.cells x)), (.agg (Tapi_Rat.cells rAddRat))] [] 0 (.agg (Tapi_Rat.cells rMulRat)) [], 0 < 1] ⟨o1, o1, o1, (g_exact_AddRat_ok N y z rAddRat hr5), (g_exact_MulRat_ok N x rAddRat rMulRat hr6), o1, trivial⟩ ?_
    refine Runs.sA 1 [.code (C_70 30), .code (C_70 31)] ?_
    obtain ⟨rMulRat2, hr7, h⟩ := bindSome h
    obtain ⟨rMulRat3, hr8, h⟩ := bindSome h
    obtain ⟨rAddRat2, hr9, h⟩ := bindSome h
    refine Runs.sR hE ⟨[(3, (.op 0 0 0)), (4, (.op 16 0 0)), (7, (.op 304 0 0)), (8, (.op 448 0 0))], [(0, vO 4 (Tapi_Rat.cells x)), (16, vO 4 (Tapi_Rat.cells y)), (304, vO 4 (Tapi_Rat.cells rMulRat)), (448, vO 4 (Tapi_Rat.cells rAddRat2))], 480⟩ (C_70 30) [(2, ⟨[], true, (.agg (Tapi_Rat.cells rMulRat2)), [], 0, false, none⟩), (5, ⟨[], true, (.agg (Tapi_Rat.cells rMulRat3)), [], 0, false, none⟩), (6, ⟨[], true, (.agg (Tapi_Rat.cells rAddRat2)), [], 0, false, none⟩)] [] (kp [3, 4, 7, 8]) (kq [0, 16, 304, 448]) 480 [0 < 1, 0 < 1, Sound Try.prog 32 [(.agg (Tapi_Rat.cells x)), (.agg (Tapi_Rat.cells y))] [] 0 (.agg (Tapi_Rat.cells rMulRat2)) [], 0 < 1, 0 < 1, Sound Try.prog 32 [(.agg (Tapi_Rat.cells x)), (.agg (Tapi_Rat.cells z))] [] 0 (.agg (Tapi_Rat.cells rMulRat3)) [], Sound Try.prog 33 [(.agg (Tapi_Rat.cells rMulRat2)), (.agg (Tapi_Rat.cells rMulRat3))] [] 0 (.agg (Tapi_Rat.cells rAddRat2)) [], 0 < 1] ⟨o1, o1, (g_exact_MulRat_ok N x y rMulRat2 hr7), o1, o1, (g_exact_MulRat_ok N x z rMulRat3 hr8), (g_exact_AddRat_ok N rMulRat2 rMulRat3 rAddRat2 hr9), o1, trivial⟩ ?_
    refine Runs.sA 2 [.code (C_70 124), .code (C_70 125), .code (C_70 63)] ?_
    obtain ⟨rSameRat, hr10, h⟩ := bindSome h
    obtain ⟨rAddRat3, hr11, h⟩ := bindSome h
    obtain ⟨rSubRat, hr12, h⟩ := bindSome h
    obtain ⟨rCmpRat, hr13, h⟩ := bindSome h
    refine Runs.sR hE ⟨[(3, (.op 0 0 0)), (4, (.op 16 0 0)), (48, (aB (cond (!rSameRat) true (rCmpRat != 0))))], [(0, vO 4 (Tapi_Rat.cells x)), (16, vO 4 (Tapi_Rat.cells y))], 704⟩ (C_70 124) [(2, ⟨[], true, (aB rSameRat), [], 0, false, none⟩), (7, ⟨[], true, (.agg (Tapi_Rat.cells rAddRat3)), [], 0, false, none⟩), (9, ⟨[], true, (.agg (Tapi_Rat.cells rSubRat)), [], 0, false, none⟩), (11, ⟨[], true, (aI rCmpRat), [], 0, false, none⟩)] [] (kp [3, 4, 48]) (kq [0, 16]) 704 [0 < 1, 0 < 1, Sound Try.prog 34 [(.agg (Tapi_Rat.cells rMulRat)), (.agg (Tapi_Rat.cells rAddRat2))] [] 0 (aB rSameRat) [], (!(!rSameRat)) = true → AllP [0 < 1], (!(!rSameRat)) = true → AllP [0 < 1], (!(!rSameRat)) = true → AllP [Sound Try.prog 33 [(.agg (Tapi_Rat.cells x)), (.agg (Tapi_Rat.cells y))] [] 0 (.agg (Tapi_Rat.cells rAddRat3)) [], (!(!rSameRat)) = true, (!(!rSameRat)) = true], (!(!rSameRat)) = true → AllP [0 < 1], (!(!rSameRat)) = true → AllP [Sound Try.prog 36 [(.agg (Tapi_Rat.cells rAddRat3)), (.agg (Tapi_Rat.cells y))] [] 0 (.agg (Tapi_Rat.cells rSubRat)) [], (!(!rSameRat)) = true, (!(!rSameRat)) = true], (!(!rSameRat)) = true → AllP [0 < 1], (!(!rSameRat)) = true → AllP [Sound Try.prog 35 [(.agg (Tapi_Rat.cells rSubRat)), (.agg (Tapi_Rat.cells x))] [] 0 (aI rCmpRat) [], (!(!rSameRat)) = true, (!(!rSameRat)) = true], (!(!rSameRat)) = true → AllP [(!(!rSameRat)) = true], (!(!rSameRat)) = true → AllP [(!(!rSameRat)) = true]] ⟨o1, o1, (g_keelblockbase_SameRat_ok N rMulRat rAddRat2 rSameRat hr10), (fun hg => ⟨o1, trivial⟩), (fun hg => ⟨o1, trivial⟩), (fun hg => ⟨(g_exact_AddRat_ok N x y rAddRat3 (condT hr11 hg)), hg, hg, trivial⟩), (fun hg => ⟨o1, trivial⟩), (fun hg => ⟨(g_exact_SubRat_ok N rAddRat3 y rSubRat (condT hr12 hg)), hg, hg, trivial⟩), (fun hg => ⟨o1, trivial⟩), (fun hg => ⟨(g_exact_CmpRat_ok N rSubRat x rCmpRat (condT hr13 hg)), hg, hg, trivial⟩), (fun hg => ⟨hg, trivial⟩), (fun hq => ⟨hq, trivial⟩), trivial⟩ ?_
    refine Runs.sC 48 (C_70 250) (C_70 251) (cond (!rSameRat) true (rCmpRat != 0)) (fun hq3 => ?_) (fun hq3 => ?_)
    · have h := condT h hq3
      refine Runs.sA 1 [.code (C_70 500), .code (C_70 501), .code (C_70 63)] ?_
      refine Runs.sR hE ⟨[(6, (aB false))], [], 720⟩ (C_70 500) [] [] (kp [6]) [] 720 [] trivial ?_
      obtain rfl := Option.some.inj h
      refine Runs.sW hE ⟨[(6, (aB false))], [], 720⟩ [] (kp [6]) [] 720 [] trivial ?_
      exact Runs.sT Try.f5 [] [] trivial
    · have h := condF h hq3
      refine Runs.sA 2 [.code (C_70 126), .code (C_70 127)] ?_
      obtain ⟨rFloor, hr14, h⟩ := bindSome h
      obtain ⟨rWhole, hr15, h⟩ := bindSome h
      refine Runs.sR hE ⟨[(3, (.op 0 0 0)), (4, (.op 16 0 0)), (9, (.op 752 0 0))], [(0, vO 4 (Tapi_Rat.cells x)), (16, vO 4 (Tapi_Rat.cells y)), (752, vO 4 (Tapi_Rat.cells rWhole))], 784⟩ (C_70 126) [(1, ⟨[], true, (.agg (Tapi_Int.cells rFloor)), [], 0, false, none⟩), (2, ⟨[], true, (.agg (Tapi_Rat.cells rWhole)), [], 0, false, none⟩)] [] (kp [3, 4, 9]) (kq [0, 16, 752]) 784 [0 < 1, Sound Try.prog 38 [(.agg (Tapi_Rat.cells x))] [] 0 (.agg (Tapi_Int.cells rFloor)) [], Sound Try.prog 37 [(.agg (Tapi_Int.cells rFloor))] [] 0 (.agg (Tapi_Rat.cells rWhole)) [], 0 < 1] ⟨o1, (g_exact_Floor_ok N x rFloor hr14), (g_exact_Whole_ok N rFloor rWhole hr15), o1, trivial⟩ ?_
      refine Runs.sA 2 [.code (C_70 508), .code (C_70 509), .code (C_70 255)] ?_
      obtain ⟨rCmpRat2, hr16, h⟩ := bindSome h
      obtain ⟨rW, hr17, h⟩ := bindSome h
      obtain ⟨rAddRat4, hr18, h⟩ := bindSome h
      obtain ⟨rCmpRat3, hr19, h⟩ := bindSome h
      refine Runs.sR hE ⟨[(3, (.op 0 0 0)), (4, (.op 16 0 0)), (63, (aB (cond (decide (rCmpRat2 > 0)) true (decide (rCmpRat3 ≤ 0)))))], [(0, vO 4 (Tapi_Rat.cells x)), (16, vO 4 (Tapi_Rat.cells y))], 976⟩ (C_70 508) [(2, ⟨[], true, (aI rCmpRat2), [], 0, false, none⟩), (6, ⟨[], true, (.agg (Tapi_Rat.cells rW)), [], 0, false, none⟩), (7, ⟨[], true, (.agg (Tapi_Rat.cells rAddRat4)), [], 0, false, none⟩), (9, ⟨[], true, (aI rCmpRat3), [], 0, false, none⟩)] [] (kp [3, 4, 63]) (kq [0, 16]) 976 [0 < 1, 0 < 1, Sound Try.prog 35 [(.agg (Tapi_Rat.cells rWhole)), (.agg (Tapi_Rat.cells x))] [] 0 (aI rCmpRat2) [], (!(decide (rCmpRat2 > 0))) = true → AllP [0 < 1], (!(decide (rCmpRat2 > 0))) = true → AllP [Sound Try.prog 39 [(aI 1)] [] 0 (.agg (Tapi_Rat.cells rW)) []], (!(decide (rCmpRat2 > 0))) = true → AllP [Sound Try.prog 33 [(.agg (Tapi_Rat.cells rWhole)), (.agg (Tapi_Rat.cells rW))] [] 0 (.agg (Tapi_Rat.cells rAddRat4)) [], (!(decide (rCmpRat2 > 0))) = true, (!(decide (rCmpRat2 > 0))) = true], (!(decide (rCmpRat2 > 0))) = true → AllP [0 < 1], (!(decide (rCmpRat2 > 0))) = true → AllP [Sound Try.prog 35 [(.agg (Tapi_Rat.cells rAddRat4)), (.agg (Tapi_Rat.cells x))] [] 0 (aI rCmpRat3) [], (!(decide (rCmpRat2 > 0))) = true, (!(decide (rCmpRat2 > 0))) = true], (!(decide (rCmpRat2 > 0))) = true → AllP [(!(decide (rCmpRat2 > 0))) = true], (!(decide (rCmpRat2 > 0))) = true → AllP [(!(decide (rCmpRat2 > 0))) = true]] ⟨o1, o1, (g_exact_CmpRat_ok N rWhole x rCmpRat2 hr16), (fun hg => ⟨o1, trivial⟩), (fun hg => ⟨(g_keelblockbase_W_ok N 1 rW (condT hr17 hg)), trivial⟩), (fun hg => ⟨(g_exact_AddRat_ok N rWhole rW rAddRat4 (condT hr18 hg)), hg, hg, trivial⟩), (fun hg => ⟨o1, trivial⟩), (fun hg => ⟨(g_exact_CmpRat_ok N rAddRat4 x rCmpRat3 (condT hr19 hg)), hg, hg, trivial⟩), (fun hg => ⟨hg, trivial⟩), (fun hq => ⟨hq, trivial⟩), trivial⟩ ?_
      refine Runs.sC 63 (C_70 1018) (C_70 1019) (cond (decide (rCmpRat2 > 0)) true (decide (rCmpRat3 ≤ 0))) (fun hq4 => ?_) (fun hq4 => ?_)
      · have h := condT h hq4
        refine Runs.sA 1 [.code (C_70 2036), .code (C_70 2037), .code (C_70 255)] ?_
        refine Runs.sR hE ⟨[(6, (aB false))], [], 992⟩ (C_70 2036) [] [] (kp [6]) [] 992 [] trivial ?_
        obtain rfl := Option.some.inj h
        refine Runs.sW hE ⟨[(6, (aB false))], [], 992⟩ [] (kp [6]) [] 992 [] trivial ?_
        exact Runs.sT Try.f5 [] [] trivial
      · have h := condF h hq4
        refine Runs.sA 2 [.code (C_70 510), .code (C_70 511)] ?_
        obtain ⟨rMulRat4, hr20, h⟩ := bindSome h
        obtain ⟨rQuoRat, hr21, h⟩ := bindSome h
        refine Runs.sR hE ⟨[(3, (.op 0 0 0)), (4, (.op 16 0 0)), (10, (.op 1104 0 0)), (11, (aI rQuoRat.2))], [(0, vO 4 (Tapi_Rat.cells x)), (16, vO 4 (Tapi_Rat.cells y)), (1104, vO 4 (Tapi_Rat.cells rQuoRat.1))], 1152⟩ (C_70 510) [(2, ⟨[], true, (.agg (Tapi_Rat.cells rMulRat4)), [], 0, false, none⟩), (4, ⟨[], true, (.tup [(.agg (Tapi_Rat.cells rQuoRat.1)), (aI rQuoRat.2)]), [], 0, false, none⟩)] [] (kp [3, 4, 10, 11]) (kq [0, 16, 1104]) 1152 [0 < 1, 0 < 1, Sound Try.prog 32 [(.agg (Tapi_Rat.cells x)), (.agg (Tapi_Rat.cells y))] [] 0 (.agg (Tapi_Rat.cells rMulRat4)) [], 0 < 1, Sound Try.prog 40 [(.agg (Tapi_Rat.cells rMulRat4)), (.agg (Tapi_Rat.cells y))] [] 0 (.tup [(.agg (Tapi_Rat.cells rQuoRat.1)), (aI rQuoRat.2)]) [], 0 < 1] ⟨o1, o1, (g_exact_MulRat_ok N x y rMulRat4 hr20), o1, (g_exact_QuoRat_ok N rMulRat4 y rQuoRat hr21), o1, trivial⟩ ?_
        refine Runs.sA 2 [.code (C_70 2044), .code (C_70 2045), .code (C_70 1023)] ?_
        refine Runs.sR hE ⟨[(3, (.op 0 0 0)), (4, (.op 16 0 0)), (10, (.op 1104 0 0)), (73, (aB (rQuoRat.2 != 0)))], [(0, vO 4 (Tapi_Rat.cells x)), (16, vO 4 (Tapi_Rat.cells y)), (1104, vO 4 (Tapi_Rat.cells rQuoRat.1))], 1184⟩ (C_70 2044) [] [] (kp [3, 4, 10, 73]) (kq [0, 16, 1104]) 1184 [] trivial ?_
        refine Runs.sC 73 (C_70 4090) (C_70 4091) (rQuoRat.2 != 0) (fun hq5 => ?_) (fun hq5 => ?_)
        · have h := condT h hq5
          refine Runs.sA 1 [.code (C_70 8180), .code (C_70 8181), .code (C_70 1023)] ?_
          obtain ⟨rW2, hr22, h⟩ := bindSome h
          obtain ⟨rCmpRat4, hr23, h⟩ := bindSome h
          obtain ⟨rawake2, hr24, h⟩ := bindSome h
          refine Runs.sR hE ⟨[(6, (aB (cond (rCmpRat4 == 0) rawake2 false)))], [], 1312⟩ (C_70 8180) [(1, ⟨[], true, (.agg (Tapi_Rat.cells rW2)), [], 0, false, none⟩), (2, ⟨[], true, (aI rCmpRat4), [], 0, false, none⟩), (5, ⟨[], true, (aB rawake2), [], 0, false, none⟩)] [] (kp [6]) [] 1312 [0 < 1, Sound Try.prog 39 [(aI 0)] [] 0 (.agg (Tapi_Rat.cells rW2)) [], Sound Try.prog 35 [(.agg (Tapi_Rat.cells y)), (.agg (Tapi_Rat.cells rW2))] [] 0 (aI rCmpRat4) [], (rCmpRat4 == 0) = true → AllP [Sound Try.prog 14 [] [] 0 (aB rawake2) []], (rCmpRat4 == 0) = true → AllP [(rCmpRat4 == 0) = true]] ⟨o1, (g_keelblockbase_W_ok N 0 rW2 hr22), (g_exact_CmpRat_ok N y rW2 rCmpRat4 hr23), (fun hg => ⟨(g_w01_awake_ok N rawake2 (condT hr24 hg)), trivial⟩), (fun hq => ⟨hq, trivial⟩), trivial⟩ ?_
          obtain rfl := Option.some.inj h
          refine Runs.sW hE ⟨[(6, (aB (cond (rCmpRat4 == 0) rawake2 false)))], [], 1312⟩ [] (kp [6]) [] 1312 [] trivial ?_
          exact Runs.sT Try.f5 [] [] trivial
        · have h := condF h hq5
          refine Runs.sA 2 [.code (C_70 2046), .code (C_70 2047)] ?_
          obtain ⟨rCmpRat5, hr25, h⟩ := bindSome h
          obtain ⟨rawake3, hr26, h⟩ := bindSome h
          refine Runs.sR hE ⟨[(6, (aB (cond (rCmpRat5 == 0) rawake3 false)))], [], 1312⟩ (C_70 2046) [(2, ⟨[], true, (aI rCmpRat5), [], 0, false, none⟩), (5, ⟨[], true, (aB rawake3), [], 0, false, none⟩)] [] (kp [6]) [] 1312 [0 < 1, 0 < 1, Sound Try.prog 35 [(.agg (Tapi_Rat.cells rQuoRat.1)), (.agg (Tapi_Rat.cells x))] [] 0 (aI rCmpRat5) [], (rCmpRat5 == 0) = true → AllP [Sound Try.prog 14 [] [] 0 (aB rawake3) []], (rCmpRat5 == 0) = true → AllP [(rCmpRat5 == 0) = true]] ⟨o1, o1, (g_exact_CmpRat_ok N rQuoRat.1 x rCmpRat5 hr25), (fun hg => ⟨(g_w01_awake_ok N rawake3 (condT hr26 hg)), trivial⟩), (fun hq => ⟨hq, trivial⟩), trivial⟩ ?_
          obtain rfl := Option.some.inj h
          refine Runs.sW hE ⟨[(6, (aB (cond (rCmpRat5 == 0) rawake3 false)))], [], 1312⟩ [] (kp [6]) [] 1312 [] trivial ?_
          exact Runs.sT Try.f5 [] [] trivial

end Go.Den
