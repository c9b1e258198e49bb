/- Each function of the program does what its Lean function computes (part 2). No conditions. -/
import Derived.Test.YtakkcneiophofaaExactChecksSa
import Derived.Test.YtakkcneiophofaaProg
set_option linter.unusedVariables false
set_option maxRecDepth 100000
namespace Go.Den
open Go.Ab Go.Proofs
noncomputable def C_41 (n : Nat) : Code := cat (bodyOf Try.f159) (pth n)
theorem g_e_ramps_1_L1_ok (N : Nat) (RD : TRat → TRat → TRat → Option TRat) (cap1 : TCurve) (cap2 : TRat) (fuel : Nat) : ∀ (cap02 : TRat) (before : TRat) (x : Int) (r : TRat), g_e_ramps_1_L1 N RD cap1 cap2 fuel cap02 before x = some r → ∀ E, EnvOk E 3 → ∀ lY, (∀ (ych : TRat) (yfr : TRat) (yx yr : TRat), RD ych yfr yx = some yr → YOK Try.prog E ⟨lY, [.agg (TRat.cells ych), .agg (TRat.cells yfr)], 0, vO 4 (TRat.cells yx), vO 4 (TRat.cells yr)⟩) → Runs Try.prog E 159 43 (SPost E [(0, vO 4 (TRat.cells r)), (1, vO 2 (TCurve.cells cap1)), (2, vO 4 (TRat.cells cap2))] (.tup [])) [.code (C_41 28), .inLoop (C_41 28), .inBlock 0] ⟨[(0, (.atom (.func (.yield lY) #[] #[]))), (1, (.op 1 0 0)), (2, (.op 2 0 0)), (4, (.op 3 0 0)), (10, (encL cI 0 cap1.f_Starts)), (11, (aI ((cap1.f_Starts.length : Nat) : Int))), (12, (aI x))], [(0, vO 4 (TRat.cells cap02)), (1, vO 2 (TCurve.cells cap1)), (2, vO 4 (TRat.cells cap2)), (3, vO 4 (TRat.cells before))], 4⟩ := by
  induction fuel with
  | zero => intro _ _ _ r h; rw [g_e_ramps_1_L1.eq_1] at h; cases h
  | succ fuel ih =>
    intro cap02 before x r h E hE lY hY
    rw [g_e_ramps_1_L1.eq_2] at h
    refine Runs.sA 1 [.code (C_41 56), .code (C_41 57), .inLoop (C_41 28), .inBlock 0] ?_
    refine Runs.sR hE ⟨[(0, (.atom (.func (.yield lY) #[] #[]))), (1, (.op 1 0 0)), (2, (.op 2 0 0)), (4, (.op 3 0 0)), (10, (encL cI 0 cap1.f_Starts)), (11, (aI ((cap1.f_Starts.length : Nat) : Int))), (12, (aI x)), (13, (aB (decide (x < ((cap1.f_Starts.length : Nat) : Int)))))], [(0, vO 4 (TRat.cells cap02)), (1, vO 2 (TCurve.cells cap1)), (2, vO 4 (TRat.cells cap2)), (3, vO 4 (TRat.cells before))], 20⟩ (C_41 56) [] [] (kp [0, 1, 2, 4, 10, 11, 12, 13]) (kq [0, 1, 2, 3]) 20 [] trivial ?_
    refine Runs.sA 1 [.code (C_41 114), .code (C_41 115), .inLoop (C_41 28), .inBlock 0] ?_
    refine Runs.sC 13 (C_41 228) (C_41 229) (decide (x < ((cap1.f_Starts.length : Nat) : Int))) (fun hq2 => ?_) (fun hq2 => ?_)
    · have h := condT h hq2
      refine Runs.sA 4 [.code (C_41 920), .code (C_41 921), .inBlock 1, .code (C_41 231), .inLoop (C_41 28), .inBlock 0] ?_
      obtain ⟨c, h⟩ := ifSome h
      refine Runs.sR hE ⟨[(0, (.atom (.func (.yield lY) #[] #[]))), (1, (.op 1 0 0)), (2, (.op 2 0 0)), (4, (.op 3 0 0)), (5, (aI x)), (6, (aI (cap1.f_Starts.getD ((x).toNat) 0))), (10, (encL cI 0 cap1.f_Starts)), (11, (aI ((cap1.f_Starts.length : Nat) : Int))), (12, (aI x))], [(0, vO 4 (TRat.cells cap02)), (1, vO 2 (TCurve.cells cap1)), (2, vO 4 (TRat.cells cap2)), (3, vO 4 (TRat.cells before))], 100⟩ (C_41 920) [] [] (kp [0, 1, 2, 4, 5, 6, 10, 11, 12]) (kq [0, 1, 2, 3]) 100 [0 ≤ x ∧ x < ((cap1.f_Starts.length : Nat) : Int)] ⟨c, trivial⟩ ?_
      refine Runs.sA 1 [.code (C_41 1842), .code (C_41 1843), .inBlock 1, .code (C_41 231), .inLoop (C_41 28), .inBlock 0] ?_
      obtain ⟨rnumber2, hr2, h⟩ := bindSome h
      obtain ⟨rSubRat, hr3, h⟩ := bindSome h
      refine Runs.sR hE ⟨[(0, (.atom (.func (.yield lY) #[] #[]))), (1, (.op 1 0 0)), (2, (.op 2 0 0)), (4, (.op 3 0 0)), (5, (aI x)), (7, (.op 164 0 0)), (10, (encL cI 0 cap1.f_Starts)), (11, (aI ((cap1.f_Starts.length : Nat) : Int))), (12, (aI x))], [(0, vO 4 (TRat.cells cap02)), (1, vO 2 (TCurve.cells cap1)), (2, vO 4 (TRat.cells cap2)), (3, vO 4 (TRat.cells before)), (164, vO 4 (TRat.cells rSubRat))], 196⟩ (C_41 1842) [(2, ⟨[], true, (.agg (TRat.cells rnumber2)), [], 0, false, none⟩), (3, ⟨[], true, (.agg (TRat.cells rSubRat)), [], 0, false, none⟩)] [] (kp [0, 1, 2, 4, 5, 7, 10, 11, 12]) (kq [0, 1, 2, 3, 164]) 196 [0 < 1, Sound Try.prog 122 [(aI (cap1.f_Starts.getD ((x).toNat) 0))] [] 0 (.agg (TRat.cells rnumber2)) [], Sound Try.prog 36 [(.agg (TRat.cells cap2)), (.agg (TRat.cells rnumber2))] [] 0 (.agg (TRat.cells rSubRat)) [], 0 < 1] ⟨o1, (g_e_number_ok N (cap1.f_Starts.getD ((x).toNat) 0) rnumber2 hr2), (g_e_SubRat_ok N cap2 rnumber2 rSubRat hr3), o1, trivial⟩ ?_
      refine Runs.sA 2 [.code (C_41 7372), .code (C_41 7373), .code (C_41 3687), .inBlock 1, .code (C_41 231), .inLoop (C_41 28), .inBlock 0] ?_
      obtain ⟨rsignOf, hr4, h⟩ := bindSome h
      obtain ⟨c2, h⟩ := ifSome h
      obtain ⟨rSubRat2, hr5, h⟩ := bindSome h
      rcases condSplit h with ⟨hG, h⟩ | ⟨hG, h⟩
      · obtain ⟨ry, hry, h⟩ := bindSome h
        refine Runs.sRY hE ⟨[(0, (.atom (.func (.yield lY) #[] #[]))), (1, (.op 1 0 0)), (2, (.op 2 0 0)), (4, (.op 3 0 0)), (5, (aI x)), (10, (encL cI 0 cap1.f_Starts)), (11, (aI ((cap1.f_Starts.length : Nat) : Int))), (12, (aI x)), (36, (aB (cond (decide (rsignOf < 0)) true (!true))))], [(0, vO 4 (TRat.cells ry)), (1, vO 2 (TCurve.cells cap1)), (2, vO 4 (TRat.cells cap2)), (3, vO 4 (TRat.cells before))], 452⟩ (C_41 7372) [(1, ⟨[], true, (aI rsignOf), [], 0, false, none⟩), (11, ⟨[], true, (.agg (TRat.cells rSubRat2)), [], 0, false, none⟩), (13, ⟨[], true, .unk, [], 1, false, some ⟨lY, [(.agg (TRat.cells rSubRat2)), (.agg (TRat.cells rSubRat))], 0, vO 4 (TRat.cells cap02), vO 4 (TRat.cells ry)⟩⟩), (14, ⟨[], true, .unk, [], 1, false, none⟩)] [] (kp [0, 1, 2, 4, 5, 10, 11, 12, 36]) (kq [0, 1, 2, 3]) 452 [0 < 1, Sound Try.prog 115 [(.agg (TRat.cells rSubRat))] [] 0 (aI rsignOf) [], (!(decide (rsignOf < 0))) = true → AllP [(!(decide (rsignOf < 0))) = true, 0 < 1], (!(decide (rsignOf < 0))) = true → AllP [(!(decide (rsignOf < 0))) = true, (!(decide (rsignOf < 0))) = true, 0 ≤ x ∧ x < ((cap1.f_Slopes.length : Nat) : Int)], (!(decide (rsignOf < 0))) = true → AllP [(!(decide (rsignOf < 0))) = true], (!(decide (rsignOf < 0))) = true → AllP [0 < 1], (!(decide (rsignOf < 0))) = true → AllP [Sound Try.prog 36 [(.agg [(aB (((cap1.f_Slopes.getD ((x).toNat) TRat.d).f_Num).f_Neg)), (encL (cU .u16) 0 (((cap1.f_Slopes.getD ((x).toNat) TRat.d).f_Num).f_Limbs)), (aB (((cap1.f_Slopes.getD ((x).toNat) TRat.d).f_Den).f_Neg)), (encL (cU .u16) 0 (((cap1.f_Slopes.getD ((x).toNat) TRat.d).f_Den).f_Limbs))]), (.agg (TRat.cells before))] [] 0 (.agg (TRat.cells rSubRat2)) [], (!(decide (rsignOf < 0))) = true, (!(decide (rsignOf < 0))) = true], (!(decide (rsignOf < 0))) = true → AllP [0 < 1], (!(decide (rsignOf < 0))) = true, (lY = lY ∧ (#[] : Array Value) = #[] ∧ (#[] : Array Value) = #[] ∧ ([(.agg (TRat.cells rSubRat2)), (.agg (TRat.cells rSubRat))] : List AV) = [(.agg (TRat.cells rSubRat2)), (.agg (TRat.cells rSubRat))] ∧ (vO 4 (TRat.cells cap02) : Ob) = vO 4 (TRat.cells cap02)), (!(decide (rsignOf < 0))) = true, (!(decide (rsignOf < 0))) = true, (!(decide (rsignOf < 0))) = true, (!(decide (rsignOf < 0))) = true] ⟨o1, (g_e_signOf_ok N rSubRat rsignOf hr4), (fun hg => ⟨hg, o1, trivial⟩), (fun hg => ⟨hg, hg, (c2 hg), trivial⟩), (fun hg => ⟨hg, trivial⟩), (fun hg => ⟨o1, trivial⟩), (fun hg => ⟨(g_e_SubRat_ok N (⟨((cap1.f_Slopes.getD ((x).toNat) TRat.d).f_Num), ((cap1.f_Slopes.getD ((x).toNat) TRat.d).f_Den)⟩ : TRat) before rSubRat2 (condT hr5 hg)), hg, hg, trivial⟩), (fun hg => ⟨o1, trivial⟩), hG, ⟨rfl, rfl, rfl, rfl, rfl⟩, hG, hG, hG, hG, trivial⟩ ⟨trivial, ⟨trivial, ⟨hY rSubRat2 rSubRat cap02 ry hry, ⟨trivial, trivial⟩⟩⟩⟩ ?_
        refine Runs.sC 36 (C_41 14746) (C_41 14747) (cond (decide (rsignOf < 0)) true (!true)) (fun hq3 => ?_) (fun hq3 => ?_)
        · have h := condT h hq3
          obtain rfl := Option.some.inj h
          refine Runs.sW hE ⟨[], [(0, vO 4 (TRat.cells ry)), (1, vO 2 (TCurve.cells cap1)), (2, vO 4 (TRat.cells cap2))], 452⟩ [] [] (kq [0, 1, 2]) 452 [] trivial ?_
          exact Runs.sT Try.f159 [] [] trivial
        · have h := condF h hq3
          refine Runs.sA 1 [.code (C_41 3687), .inBlock 1, .code (C_41 231), .inLoop (C_41 28), .inBlock 0] ?_
          obtain ⟨c3, h⟩ := ifSome h
          refine Runs.sR hE ⟨[(0, (.atom (.func (.yield lY) #[] #[]))), (1, (.op 1 0 0)), (2, (.op 2 0 0)), (4, (.op 3 0 0)), (10, (encL cI 0 cap1.f_Starts)), (11, (aI ((cap1.f_Starts.length : Nat) : Int))), (12, (aI x))], [(0, vO 4 (TRat.cells ry)), (1, vO 2 (TCurve.cells cap1)), (2, vO 4 (TRat.cells cap2)), (3, vO 4 [(aB (((cap1.f_Slopes.getD ((x).toNat) TRat.d).f_Num).f_Neg)), (encL (cU .u16) 0 (((cap1.f_Slopes.getD ((x).toNat) TRat.d).f_Num).f_Limbs)), (aB (((cap1.f_Slopes.getD ((x).toNat) TRat.d).f_Den).f_Neg)), (encL (cU .u16) 0 (((cap1.f_Slopes.getD ((x).toNat) TRat.d).f_Den).f_Limbs))])], 548⟩ (C_41 3687) [] [] (kp [0, 1, 2, 4, 10, 11, 12]) (kq [0, 1, 2, 3]) 548 [0 < 1, 0 ≤ x ∧ x < ((cap1.f_Slopes.length : Nat) : Int), 0 < 1] ⟨o1, c3, o1, trivial⟩ ?_
          refine Runs.sA 1 [.code (C_41 231), .inLoop (C_41 28), .inBlock 0] ?_
          refine Runs.sR hE ⟨[(0, (.atom (.func (.yield lY) #[] #[]))), (1, (.op 1 0 0)), (2, (.op 2 0 0)), (4, (.op 3 0 0)), (10, (encL cI 0 cap1.f_Starts)), (11, (aI ((cap1.f_Starts.length : Nat) : Int))), (12, (aI (w64 (x + 1))))], [(0, vO 4 (TRat.cells ry)), (1, vO 2 (TCurve.cells cap1)), (2, vO 4 (TRat.cells cap2)), (3, vO 4 [(aB (((cap1.f_Slopes.getD ((x).toNat) TRat.d).f_Num).f_Neg)), (encL (cU .u16) 0 (((cap1.f_Slopes.getD ((x).toNat) TRat.d).f_Num).f_Limbs)), (aB (((cap1.f_Slopes.getD ((x).toNat) TRat.d).f_Den).f_Neg)), (encL (cU .u16) 0 (((cap1.f_Slopes.getD ((x).toNat) TRat.d).f_Den).f_Limbs))])], 580⟩ (C_41 231) [] [] (kp [0, 1, 2, 4, 10, 11, 12]) (kq [0, 1, 2, 3]) 580 [] trivial ?_
          refine Runs.sA 1 [.code (C_41 28), .inLoop (C_41 28), .inBlock 0] ?_
          exact Runs.sW hE _ [] (kp [0, 1, 2, 4, 10, 11, 12]) (kq [0, 1, 2, 3]) 4 [] trivial (ih ry (⟨((cap1.f_Slopes.getD ((x).toNat) TRat.d).f_Num), ((cap1.f_Slopes.getD ((x).toNat) TRat.d).f_Den)⟩ : TRat) (w64 (x + 1)) _ h E hE lY hY)
      · refine Runs.sR hE ⟨[(0, (.atom (.func (.yield lY) #[] #[]))), (1, (.op 1 0 0)), (2, (.op 2 0 0)), (4, (.op 3 0 0)), (5, (aI x)), (10, (encL cI 0 cap1.f_Starts)), (11, (aI ((cap1.f_Starts.length : Nat) : Int))), (12, (aI x)), (36, (aB (cond (decide (rsignOf < 0)) true false)))], [(0, vO 4 (TRat.cells cap02)), (1, vO 2 (TCurve.cells cap1)), (2, vO 4 (TRat.cells cap2)), (3, vO 4 (TRat.cells before))], 452⟩ (C_41 7372) [(1, ⟨[], true, (aI rsignOf), [], 0, false, none⟩), (11, ⟨[], true, (.agg (TRat.cells rSubRat2)), [], 0, false, none⟩), (13, ⟨[], true, (aB false), [], 2, false, none⟩), (14, ⟨[], true, (aB false), [], 2, false, none⟩)] [] (kp [0, 1, 2, 4, 5, 10, 11, 12, 36]) (kq [0, 1, 2, 3]) 452 [0 < 1, Sound Try.prog 115 [(.agg (TRat.cells rSubRat))] [] 0 (aI rsignOf) [], (!(decide (rsignOf < 0))) = true → AllP [(!(decide (rsignOf < 0))) = true, 0 < 1], (!(decide (rsignOf < 0))) = true → AllP [(!(decide (rsignOf < 0))) = true, (!(decide (rsignOf < 0))) = true, 0 ≤ x ∧ x < ((cap1.f_Slopes.length : Nat) : Int)], (!(decide (rsignOf < 0))) = true → AllP [(!(decide (rsignOf < 0))) = true], (!(decide (rsignOf < 0))) = true → AllP [0 < 1], (!(decide (rsignOf < 0))) = true → AllP [Sound Try.prog 36 [(.agg [(aB (((cap1.f_Slopes.getD ((x).toNat) TRat.d).f_Num).f_Neg)), (encL (cU .u16) 0 (((cap1.f_Slopes.getD ((x).toNat) TRat.d).f_Num).f_Limbs)), (aB (((cap1.f_Slopes.getD ((x).toNat) TRat.d).f_Den).f_Neg)), (encL (cU .u16) 0 (((cap1.f_Slopes.getD ((x).toNat) TRat.d).f_Den).f_Limbs))]), (.agg (TRat.cells before))] [] 0 (.agg (TRat.cells rSubRat2)) [], (!(decide (rsignOf < 0))) = true, (!(decide (rsignOf < 0))) = true], (!(decide (rsignOf < 0))) = true → AllP [0 < 1], (!(decide (rsignOf < 0))) = false, (!(decide (rsignOf < 0))) = false, (!(decide (rsignOf < 0))) = true → AllP [(!(decide (rsignOf < 0))) = true]] ⟨o1, (g_e_signOf_ok N rSubRat rsignOf hr4), (fun hg => ⟨hg, o1, trivial⟩), (fun hg => ⟨hg, hg, (c2 hg), trivial⟩), (fun hg => ⟨hg, trivial⟩), (fun hg => ⟨o1, trivial⟩), (fun hg => ⟨(g_e_SubRat_ok N (⟨((cap1.f_Slopes.getD ((x).toNat) TRat.d).f_Num), ((cap1.f_Slopes.getD ((x).toNat) TRat.d).f_Den)⟩ : TRat) before rSubRat2 (condT hr5 hg)), hg, hg, trivial⟩), (fun hg => ⟨o1, trivial⟩), hG, hG, (fun hq => ⟨hq, trivial⟩), trivial⟩ ?_
        refine Runs.sC 36 (C_41 14746) (C_41 14747) (cond (decide (rsignOf < 0)) true false) (fun hq4 => ?_) (fun hq4 => ?_)
        · have h := condT h hq4
          obtain rfl := Option.some.inj h
          refine Runs.sW hE ⟨[], [(0, vO 4 (TRat.cells cap02)), (1, vO 2 (TCurve.cells cap1)), (2, vO 4 (TRat.cells cap2))], 452⟩ [] [] (kq [0, 1, 2]) 452 [] trivial ?_
          exact Runs.sT Try.f159 [] [] trivial
        · have h := condF h hq4
          refine Runs.sA 1 [.code (C_41 3687), .inBlock 1, .code (C_41 231), .inLoop (C_41 28), .inBlock 0] ?_
          obtain ⟨c4, h⟩ := ifSome h
          refine Runs.sR hE ⟨[(0, (.atom (.func (.yield lY) #[] #[]))), (1, (.op 1 0 0)), (2, (.op 2 0 0)), (4, (.op 3 0 0)), (10, (encL cI 0 cap1.f_Starts)), (11, (aI ((cap1.f_Starts.length : Nat) : Int))), (12, (aI x))], [(0, vO 4 (TRat.cells cap02)), (1, vO 2 (TCurve.cells cap1)), (2, vO 4 (TRat.cells cap2)), (3, vO 4 [(aB (((cap1.f_Slopes.getD ((x).toNat) TRat.d).f_Num).f_Neg)), (encL (cU .u16) 0 (((cap1.f_Slopes.getD ((x).toNat) TRat.d).f_Num).f_Limbs)), (aB (((cap1.f_Slopes.getD ((x).toNat) TRat.d).f_Den).f_Neg)), (encL (cU .u16) 0 (((cap1.f_Slopes.getD ((x).toNat) TRat.d).f_Den).f_Limbs))])], 548⟩ (C_41 3687) [] [] (kp [0, 1, 2, 4, 10, 11, 12]) (kq [0, 1, 2, 3]) 548 [0 < 1, 0 ≤ x ∧ x < ((cap1.f_Slopes.length : Nat) : Int), 0 < 1] ⟨o1, c4, o1, trivial⟩ ?_
          refine Runs.sA 1 [.code (C_41 231), .inLoop (C_41 28), .inBlock 0] ?_
          refine Runs.sR hE ⟨[(0, (.atom (.func (.yield lY) #[] #[]))), (1, (.op 1 0 0)), (2, (.op 2 0 0)), (4, (.op 3 0 0)), (10, (encL cI 0 cap1.f_Starts)), (11, (aI ((cap1.f_Starts.length : Nat) : Int))), (12, (aI (w64 (x + 1))))], [(0, vO 4 (TRat.cells cap02)), (1, vO 2 (TCurve.cells cap1)), (2, vO 4 (TRat.cells cap2)), (3, vO 4 [(aB (((cap1.f_Slopes.getD ((x).toNat) TRat.d).f_Num).f_Neg)), (encL (cU .u16) 0 (((cap1.f_Slopes.getD ((x).toNat) TRat.d).f_Num).f_Limbs)), (aB (((cap1.f_Slopes.getD ((x).toNat) TRat.d).f_Den).f_Neg)), (encL (cU .u16) 0 (((cap1.f_Slopes.getD ((x).toNat) TRat.d).f_Den).f_Limbs))])], 580⟩ (C_41 231) [] [] (kp [0, 1, 2, 4, 10, 11, 12]) (kq [0, 1, 2, 3]) 580 [] trivial ?_
          refine Runs.sA 1 [.code (C_41 28), .inLoop (C_41 28), .inBlock 0] ?_
          exact Runs.sW hE _ [] (kp [0, 1, 2, 4, 10, 11, 12]) (kq [0, 1, 2, 3]) 4 [] trivial (ih cap02 (⟨((cap1.f_Slopes.getD ((x).toNat) TRat.d).f_Num), ((cap1.f_Slopes.getD ((x).toNat) TRat.d).f_Den)⟩ : TRat) (w64 (x + 1)) _ h E hE lY hY)
    · have h := condF h hq2
      refine Runs.sA 1 [] ?_
      obtain rfl := Option.some.inj h
      refine Runs.sW hE ⟨[], [(0, vO 4 (TRat.cells cap02)), (1, vO 2 (TCurve.cells cap1)), (2, vO 4 (TRat.cells cap2))], 51⟩ [] [] (kq [0, 1, 2]) 51 [] trivial ?_
      exact Runs.sF Try.f159 [] [] trivial
theorem g_e_ramps_1_ok (N : Nat) (RD : TRat → TRat → TRat → Option TRat) (cap0 : TRat) (cap1 : TCurve) (cap2 : TRat) (r : TRat) (h : g_e_ramps_1 N RD cap0 cap1 cap2 = some r) : ∀ E, EnvOk E 3 → ∀ lY, (∀ (ych : TRat) (yfr : TRat) (yx yr : TRat), RD ych yfr yx = some yr → YOK Try.prog E ⟨lY, [.agg (TRat.cells ych), .agg (TRat.cells yfr)], 0, vO 4 (TRat.cells yx), vO 4 (TRat.cells yr)⟩) → Runs Try.prog E 159 43 (SPost E [(0, vO 4 (TRat.cells r)), (1, vO 2 (TCurve.cells cap1)), (2, vO 4 (TRat.cells cap2))] (.tup [])) [.code (C_41 1)] ⟨initTm [(.atom (.func (.yield lY) #[] #[])), (.op 1 0 0), (.op 2 0 0)] 0, [(0, vO 4 (TRat.cells cap0)), (1, vO 2 (TCurve.cells cap1)), (2, vO 4 (TRat.cells cap2))], 3⟩ := by
  intro E hE lY hY
  unfold g_e_ramps_1 at h
  refine Runs.sA 1 [.code (C_41 2), .code (C_41 3)] ?_
  obtain ⟨rnumber, hr, h⟩ := bindSome h
  refine Runs.sR hE ⟨[(0, (.atom (.func (.yield lY) #[] #[]))), (1, (.op 1 0 0)), (2, (.op 2 0 0)), (4, (.op 19 0 0))], [(0, vO 4 (TRat.cells cap0)), (1, vO 2 (TCurve.cells cap1)), (2, vO 4 (TRat.cells cap2)), (19, vO 4 (TRat.cells rnumber))], 51⟩ (C_41 2) [(0, ⟨[], true, (.agg (TRat.cells rnumber)), [], 0, false, none⟩)] [] (kp [0, 1, 2, 4]) (kq [0, 1, 2, 19]) 51 [Sound Try.prog 122 [(aI 0)] [] 0 (.agg (TRat.cells rnumber)) [], 0 < 1] ⟨(g_e_number_ok N 0 rnumber hr), o1, trivial⟩ ?_
  refine Runs.sA 1 [.code (C_41 6), .code (C_41 7)] ?_
  refine Runs.sR hE ⟨[(0, (.atom (.func (.yield lY) #[] #[]))), (1, (.op 1 0 0)), (2, (.op 2 0 0)), (4, (.op 19 0 0)), (10, (encL cI 0 cap1.f_Starts)), (11, (aI ((cap1.f_Starts.length : Nat) : Int))), (12, (aI 0))], [(0, vO 4 (TRat.cells cap0)), (1, vO 2 (TCurve.cells cap1)), (2, vO 4 (TRat.cells cap2)), (19, vO 4 (TRat.cells rnumber))], 115⟩ (C_41 6) [] [] (kp [0, 1, 2, 4, 10, 11, 12]) (kq [0, 1, 2, 19]) 115 [0 < 1] ⟨o1, trivial⟩ ?_
  refine Runs.sA 2 [.code (C_41 28), .inLoop (C_41 28), .inBlock 0] ?_
  exact Runs.sW hE _ [] (kp [0, 1, 2, 4, 10, 11, 12]) (kq [0, 1, 2] ++ [(3, .keep 19)]) 4 [] trivial (g_e_ramps_1_L1_ok N RD cap1 cap2 N cap0 rnumber 0 _ h E hE lY hY)
noncomputable def C_26 (n : Nat) : Code := cat (bodyOf Try.f56) (pth n)
theorem g_e_Value_R_ok (N : Nat) (change : TRat) (far : TRat) (sum : TRat) (r : TRat) (h : g_e_Value_R N change far sum = some r) : ∀ E, EnvOk E 1 →
    WI Try.prog E 28 (rfA (C_26 122)) ⟨[(7, (.op 0 0 0)), (20, (.agg (TRat.cells change))), (21, (.agg (TRat.cells far)))], [(0, vO 4 (TRat.cells sum))], 1⟩ ⟨[(7, (.op 0 0 0)), (8, (.op 1 0 0)), (9, (.op 33 0 0))], [(0, vO 4 (TRat.cells sum)), (1, vO 4 (TRat.cells change)), (33, vO 4 (TRat.cells far))], 65⟩ ∧ WI Try.prog E 28 (rfB (C_26 122)) ⟨[(7, (.op 0 0 0)), (8, (.op 1 0 0)), (9, (.op 33 0 0))], [(0, vO 4 (TRat.cells sum)), (1, vO 4 (TRat.cells change)), (33, vO 4 (TRat.cells far))], 65⟩ ⟨[], [(0, vO 4 (TRat.cells r))], 161⟩ := by
  unfold g_e_Value_R at h
  obtain ⟨rMulRat, hr, h⟩ := bindSome h
  obtain ⟨rAddRat, hr2, h⟩ := bindSome h
  obtain rfl := Option.some.inj h
  exact fun E hE => ⟨(WI.sS (cat (rfA (C_26 122)) (pth 2)) (cat (rfA (C_26 122)) (pth 3)) (WI.sR hE ⟨[(7, (.op 0 0 0)), (20, (.agg (TRat.cells change))), (21, (.agg (TRat.cells far)))], [(0, vO 4 (TRat.cells sum))], 1⟩ ⟨[(7, (.op 0 0 0)), (8, (.op 1 0 0)), (21, (.agg (TRat.cells far)))], [(0, vO 4 (TRat.cells sum)), (1, vO 4 (TRat.cells change))], 33⟩ (cat (rfA (C_26 122)) (pth 2)) [] [] (kp [7, 8, 21]) (kq [0, 1]) 33 [0 < 1] ⟨o1, trivial⟩) (WI.sR hE ⟨[(7, (.op 0 0 0)), (8, (.op 1 0 0)), (21, (.agg (TRat.cells far)))], [(0, vO 4 (TRat.cells sum)), (1, vO 4 (TRat.cells change))], 33⟩ ⟨[(7, (.op 0 0 0)), (8, (.op 1 0 0)), (9, (.op 33 0 0))], [(0, vO 4 (TRat.cells sum)), (1, vO 4 (TRat.cells change)), (33, vO 4 (TRat.cells far))], 65⟩ (cat (rfA (C_26 122)) (pth 3)) [] [] (kp [7, 8, 9]) (kq [0, 1, 33]) 65 [0 < 1] ⟨o1, trivial⟩)), (WI.sB 1 (cat (rfB (C_26 122)) (pth 2)) (WI.sR hE ⟨[(7, (.op 0 0 0)), (8, (.op 1 0 0)), (9, (.op 33 0 0))], [(0, vO 4 (TRat.cells sum)), (1, vO 4 (TRat.cells change)), (33, vO 4 (TRat.cells far))], 65⟩ ⟨[], [(0, vO 4 (TRat.cells rAddRat))], 161⟩ (cat (rfB (C_26 122)) (pth 2)) [(3, ⟨[], true, (.agg (TRat.cells rMulRat)), [], 0, false, none⟩), (4, ⟨[], true, (.agg (TRat.cells rAddRat)), [], 0, false, none⟩)] [] [] (kq [0]) 161 [0 < 1, 0 < 1, 0 < 1, Sound Try.prog 32 [(.agg (TRat.cells change)), (.agg (TRat.cells far))] [] 0 (.agg (TRat.cells rMulRat)) [], Sound Try.prog 33 [(.agg (TRat.cells sum)), (.agg (TRat.cells rMulRat))] [] 0 (.agg (TRat.cells rAddRat)) [], 0 < 1] ⟨o1, o1, o1, (g_e_MulRat_ok N change far rMulRat hr), (g_e_AddRat_ok N sum rMulRat rAddRat hr2), o1, trivial⟩))⟩
theorem g_e_Value_ok (N : Nat) (c : TCurve) (y : TRat) (r : TRat × Int) (h : g_e_Value N c y = some r) : Sound Try.prog 56 [(.agg (TCurve.cells c)), (.agg (TRat.cells y))] [] 0 (.tup [(.agg (TRat.cells r.1)), (aI r.2)]) [] := by
  unfold g_e_Value at h
  refine Sound.of_runs (fu := Try.f56) (c := C_26 1) (nt := 28) (by kernel_rfl) (by kernel_rfl) (by kernel_rfl) (by kernel_rfl) (fun hm => rfl) ?_
  intro E hE
  refine Runs.sA 1 [.code (C_26 2), .code (C_26 3)] ?_
  refine Runs.sR hE ⟨[(2, (.op 0 0 0)), (3, (.op 16 0 0)), (4, (.op 32 0 0))], [(0, vO 2 (TCurve.cells c)), (16, vO 4 (TRat.cells y)), (32, vO 4 [(aB false), .nil, (aB false), .nil])], 64⟩ (C_26 2) [] [] (kp [2, 3, 4]) (kq [0, 16, 32]) 64 [] trivial ?_
  refine Runs.sA 2 [.code (C_26 12), .code (C_26 13), .code (C_26 7)] ?_
  obtain ⟨rCheckCurve, hr, h⟩ := bindSome h
  refine Runs.sR hE ⟨[(2, (.op 0 0 0)), (3, (.op 16 0 0)), (4, (.op 32 0 0)), (6, (aI rCheckCurve))], [(0, vO 2 (TCurve.cells c)), (16, vO 4 (TRat.cells y)), (32, vO 4 [(aB false), .nil, (aB false), .nil])], 112⟩ (C_26 12) [(1, ⟨[], true, (aI rCheckCurve), [], 0, false, none⟩)] [] (kp [2, 3, 4, 6]) (kq [0, 16, 32]) 112 [0 < 1, Sound Try.prog 71 [(.agg (TCurve.cells c))] [] 0 (aI rCheckCurve) []] ⟨o1, (g_e_CheckCurve_ok N c rCheckCurve hr), trivial⟩ ?_
  refine Runs.sA 1 [.code (C_26 26), .code (C_26 27), .code (C_26 7)] ?_
  refine Runs.sR hE ⟨[(2, (.op 0 0 0)), (3, (.op 16 0 0)), (4, (.op 32 0 0)), (6, (aI rCheckCurve)), (13, (aB (rCheckCurve != 0)))], [(0, vO 2 (TCurve.cells c)), (16, vO 4 (TRat.cells y)), (32, vO 4 [(aB false), .nil, (aB false), .nil])], 144⟩ (C_26 26) [] [] (kp [2, 3, 4, 6, 13]) (kq [0, 16, 32]) 144 [] trivial ?_
  refine Runs.sC 13 (C_26 54) (C_26 55) (rCheckCurve != 0) (fun hq2 => ?_) (fun hq2 => ?_)
  · have h := condT h hq2
    refine Runs.sA 1 [.code (C_26 108), .code (C_26 109), .code (C_26 7)] ?_
    refine Runs.sR hE ⟨[(4, (.op 32 0 0)), (5, (aI rCheckCurve))], [(32, vO 4 [(aB false), .nil, (aB false), .nil])], 208⟩ (C_26 108) [] [] (kp [4, 5]) (kq [32]) 208 [0 < 1] ⟨o1, trivial⟩ ?_
    obtain rfl := Option.some.inj h
    refine Runs.sW hE ⟨[(4, (.op 16 0 0)), (5, (aI rCheckCurve))], [(16, vO 4 [(aB false), (encL (cU .u16) 0 ([] : List Int)), (aB false), (encL (cU .u16) 0 ([] : List Int))])], 208⟩ [] (kp [4, 5]) [(16, .var 32 [.keep, .sl (([] : List Int).length) (fun zi => (cU .u16) (([] : List Int).getD zi 0)), .keep, .sl (([] : List Int).length) (fun zi => (cU .u16) (([] : List Int).getD zi 0))])] 208 [([] : List Int).length = 0, ([] : List Int).length = 0] ⟨rfl, rfl, trivial⟩ ?_
    exact Runs.sT Try.f56 [16] [0 < 1] ⟨o1, trivial⟩
  · have h := condF h hq2
    refine Runs.sA 2 [.code (C_26 14), .code (C_26 15)] ?_
    obtain ⟨rnumber, hr2, h⟩ := bindSome h
    refine Runs.sR hE ⟨[(2, (.op 0 0 0)), (3, (.op 16 0 0)), (4, (.op 32 0 0)), (7, (.op 160 0 0))], [(0, vO 2 (TCurve.cells c)), (16, vO 4 (TRat.cells y)), (32, vO 4 [(aB false), .nil, (aB false), .nil]), (160, vO 4 (TRat.cells rnumber))], 192⟩ (C_26 14) [(0, ⟨[], true, (.agg (TRat.cells rnumber)), [], 0, false, none⟩)] [] (kp [2, 3, 4, 7]) (kq [0, 16, 32, 160]) 192 [Sound Try.prog 122 [(aI 0)] [] 0 (.agg (TRat.cells rnumber)) [], 0 < 1] ⟨(g_e_number_ok N 0 rnumber hr2), o1, trivial⟩ ?_
    refine Runs.sA 2 [.code (C_26 60), .code (C_26 61), .code (C_26 31)] ?_
    obtain ⟨rramps, hr3, h⟩ := bindSome h
    refine Runs.sR hE ⟨[(4, (.op 32 0 0)), (7, (.op 160 0 0)), (19, (.fn (.func 159) [] [(.op 224 0 0), (.op 225 0 0)]))], [(32, vO 4 [(aB false), .nil, (aB false), .nil]), (160, vO 4 (TRat.cells rnumber)), (224, vO 2 (TCurve.cells rramps.1)), (225, vO 4 (TRat.cells rramps.2))], 240⟩ (C_26 60) [(2, ⟨[], false, (.fn (.func 159) [] [(.op 0 0 0), (.op 1 0 0)]), [(0, vO 2 (TCurve.cells rramps.1)), (1, vO 4 (TRat.cells rramps.2))], 0, false, none⟩)] [] (kp [4, 7, 19]) (kq [32, 160, 224, 225]) 240 [0 < 1, 0 < 1, Sound Try.prog 123 [(.agg (TCurve.cells c)), (.agg (TRat.cells y))] [] 0 (.fn (.func 159) [] [(.op 0 0 0), (.op 1 0 0)]) [(0, vO 2 (TCurve.cells rramps.1)), (1, vO 4 (TRat.cells rramps.2))]] ⟨o1, o1, (g_e_ramps_ok N c y rramps hr3), trivial⟩ ?_
    refine Runs.sA 1 [.code (C_26 122), .inBlock 0, .code (C_26 31)] ?_
    obtain ⟨rr, hrr, h⟩ := bindSome h
    refine Runs.range (m1 := 3) (m9 := 1) (nt1 := 43) (orc := ⟨[160, 224, 225], false, .tup [], [(0, vO 4 (TRat.cells rr)), (1, vO 2 (TCurve.cells rramps.1)), (2, vO 4 (TRat.cells rramps.2))], 0, false, none⟩) (avs := fun l => [.atom (.func (.yield l) #[] #[]), .op 1 0 0, .op 2 0 0]) (σc := [(0, vO 4 (TRat.cells rnumber)), (1, vO 2 (TCurve.cells rramps.1)), (2, vO 4 (TRat.cells rramps.2))]) (σ' := [(0, vO 4 (TRat.cells rr)), (1, vO 2 (TCurve.cells rramps.1)), (2, vO 4 (TRat.cells rramps.2))]) (res := .tup []) (x := .tup []) (gid := 159) (fu := Try.f159) (c1 := C_41 1) (rds := [160, 224, 225]) (upd := backU [160, 224, 225] 240 [(0, vO 4 (TRat.cells rr)), (1, vO 2 (TCurve.cells rramps.1)), (2, vO 4 (TRat.cells rramps.2))] 0 [160, 224, 225] ++ (newU [160, 224, 225] 240 [(0, vO 4 (TRat.cells rr)), (1, vO 2 (TCurve.cells rramps.1)), (2, vO 4 (TRat.cells rramps.2))] ++ [])) hE rfl rfl (by kernel_rfl) (by kernel_rfl) (by kernel_rfl) (fun _ => by kernel_rfl) (fun l => by kernel_rfl) (fun E1 l rq hm hl hfp hst hpd hps has hbd hsz hsn => ?_) (by decide) (by decide) (by show (1 : Nat) ≤ 256; decide) (fun E9 D hE9 HB hmm hD hfp hDE => ?_)
    · refine g_e_ramps_1_ok N (g_e_Value_R N) rnumber rramps.1 rramps.2 rr hrr E1 ⟨hm, fun h => absurd h (by decide)⟩ l (fun ych yfr yx yr hy => ?_)
      have W := g_e_Value_R_ok N ych yfr yx yr hy
      refine yok_of (nt := 28) hl hfp hst hpd (by rw [hm]; decide) rfl rfl (by show (4 : Nat) ≠ 0; decide) rfl (by rw [hps]; rfl) (st0 := ⟨[(7, (.op 0 0 0)), (20, (.agg (TRat.cells ych))), (21, (.agg (TRat.cells yfr)))], [(0, vO 4 (TRat.cells yx))], 1⟩) rfl rfl ?_ ?_ (fun E' hE' => by rw [has]; exact (W E' hE').1) (fun E' hE' => by rw [hbd]; exact (W E' hE').2)
      · rfl
      · intro w S μ vs hrl hmu; exact round_in2 hps hsz (by decide) (by decide) (by decide) (by decide) (by decide) (hsn 7) hrl hmu
    · refine RunsD.sA 2 [.code (C_26 62), .code (C_26 63)] ?_
      refine RunsD.sR hE9 ⟨[(4, (.op 32 0 0)), (5, (aI 0))], [(32, vO 4 (TRat.cells rr))], 304⟩ (C_26 62) [] [] (kp [4, 5]) (kq [32]) 304 [0 < 1, 0 < 1] ⟨o1, o1, trivial⟩ ?_
      obtain rfl := Option.some.inj h
      refine RunsD.sW hE9 ⟨[(4, (.op 16 0 0)), (5, (aI 0))], [(16, vO 4 (TRat.cells rr))], 304⟩ [] (kp [4, 5]) [(16, .keep 32)] 304 [] trivial ?_
      exact RunsD.sT HB hmm hD hfp hDE Try.f56 [16] [0 < 1] ⟨o1, trivial⟩
noncomputable def C_45 (n : Nat) : Code := cat (bodyOf Try.f17) (pth n)
theorem g_b_SameInt_L1_ok (N : Nat) (a : TInt) (b : TInt) (fuel : Nat) : ∀ (i : Int) (r : Bool), g_b_SameInt_L1 N a b fuel i = some r → ∀ E, EnvOk E 0 → Runs Try.prog E 17 38 (SPost E [] (aB r)) [.code (C_45 116), .inLoop (C_45 116), .inBlock 0, .code (C_45 15)] ⟨[(2, (.op 0 0 0)), (3, (.op 1 0 0)), (5, (aI i))], [(0, vO 2 (TInt.cells a)), (1, vO 2 (TInt.cells b))], 2⟩ := by
  induction fuel with
  | zero => intro _ r h; rw [g_b_SameInt_L1.eq_1] at h; cases h
  | succ fuel ih =>
    intro i r h E hE
    rw [g_b_SameInt_L1.eq_2] at h
    refine Runs.sA 2 [.code (C_45 464), .code (C_45 465), .code (C_45 233), .inLoop (C_45 116), .inBlock 0, .code (C_45 15)] ?_
    refine Runs.sR hE ⟨[(2, (.op 0 0 0)), (3, (.op 1 0 0)), (5, (aI i)), (24, (aB (decide (i < ((a.f_Limbs.length : Nat) : Int)))))], [(0, vO 2 (TInt.cells a)), (1, vO 2 (TInt.cells b))], 82⟩ (C_45 464) [] [] (kp [2, 3, 5, 24]) (kq [0, 1]) 82 [0 < 1] ⟨o1, trivial⟩ ?_
    refine Runs.sC 24 (C_45 930) (C_45 931) (decide (i < ((a.f_Limbs.length : Nat) : Int))) (fun hq3 => ?_) (fun hq3 => ?_)
    · have h := condT h hq3
      refine Runs.sA 4 [.code (C_45 1864), .code (C_45 1865), .inBlock 1, .code (C_45 467), .inLoop (C_45 116), .inBlock 0, .code (C_45 15)] ?_
      obtain ⟨c, h⟩ := ifSome h
      obtain ⟨c2, h⟩ := ifSome h
      refine Runs.sR hE ⟨[(2, (.op 0 0 0)), (3, (.op 1 0 0)), (5, (aI i)), (37, (aB ((a.f_Limbs.getD ((i).toNat) 0) != (b.f_Limbs.getD ((i).toNat) 0))))], [(0, vO 2 (TInt.cells a)), (1, vO 2 (TInt.cells b))], 258⟩ (C_45 1864) [] [] (kp [2, 3, 5, 37]) (kq [0, 1]) 258 [0 < 1, 0 ≤ i ∧ i < ((a.f_Limbs.length : Nat) : Int), 0 < 1, 0 ≤ i ∧ i < ((b.f_Limbs.length : Nat) : Int)] ⟨o1, c, o1, c2, trivial⟩ ?_
      refine Runs.sC 37 (C_45 3730) (C_45 3731) ((a.f_Limbs.getD ((i).toNat) 0) != (b.f_Limbs.getD ((i).toNat) 0)) (fun hq4 => ?_) (fun hq4 => ?_)
      · have h := condT h hq4
        refine Runs.sA 1 [.code (C_45 7460), .code (C_45 7461), .inBlock 1, .code (C_45 467), .inLoop (C_45 116), .inBlock 0, .code (C_45 15)] ?_
        refine Runs.sR hE ⟨[(4, (aB false))], [], 274⟩ (C_45 7460) [] [] (kp [4]) [] 274 [] trivial ?_
        obtain rfl := Option.some.inj h
        refine Runs.sW hE ⟨[(4, (aB false))], [], 274⟩ [] (kp [4]) [] 274 [] trivial ?_
        exact Runs.sT Try.f17 [] [] trivial
      · have h := condF h hq4
        refine Runs.sA 2 [.code (C_45 467), .inLoop (C_45 116), .inBlock 0, .code (C_45 15)] ?_
        refine Runs.sR hE ⟨[(2, (.op 0 0 0)), (3, (.op 1 0 0)), (5, (aI (w64 (i + 1))))], [(0, vO 2 (TInt.cells a)), (1, vO 2 (TInt.cells b))], 306⟩ (C_45 467) [] [] (kp [2, 3, 5]) (kq [0, 1]) 306 [] trivial ?_
        refine Runs.sA 1 [.code (C_45 116), .inLoop (C_45 116), .inBlock 0, .code (C_45 15)] ?_
        exact Runs.sW hE _ [] (kp [2, 3, 5]) (kq [0, 1]) 2 [] trivial (ih (w64 (i + 1)) _ h E hE)
    · have h := condF h hq3
      refine Runs.sA 2 [.code (C_45 30), .code (C_45 31)] ?_
      refine Runs.sR hE ⟨[(4, (aB true))], [], 98⟩ (C_45 30) [] [] (kp [4]) [] 98 [] trivial ?_
      obtain rfl := Option.some.inj h
      refine Runs.sW hE ⟨[(4, (aB true))], [], 98⟩ [] (kp [4]) [] 98 [] trivial ?_
      exact Runs.sT Try.f17 [] [] trivial
theorem g_b_SameInt_ok (N : Nat) (a : TInt) (b : TInt) (r : Bool) (h : g_b_SameInt N a b = some r) : Sound Try.prog 17 [(.agg (TInt.cells a)), (.agg (TInt.cells b))] [] 0 (aB r) [] := by
  unfold g_b_SameInt at h
  refine Sound.of_runs (fu := Try.f17) (c := C_45 1) (nt := 38) (by kernel_rfl) (by kernel_rfl) (by kernel_rfl) (by kernel_rfl) (fun hm => rfl) ?_
  intro E hE
  refine Runs.sA 1 [.code (C_45 2), .code (C_45 3)] ?_
  refine Runs.sR hE ⟨[(2, (.op 0 0 0)), (3, (.op 16 0 0))], [(0, vO 2 (TInt.cells a)), (16, vO 2 (TInt.cells b))], 48⟩ (C_45 2) [] [] (kp [2, 3]) (kq [0, 16]) 48 [] trivial ?_
  refine Runs.sA 2 [.code (C_45 12), .code (C_45 13), .code (C_45 7)] ?_
  refine Runs.sR hE ⟨[(2, (.op 0 0 0)), (3, (.op 16 0 0)), (19, (aB (cond (!(a.f_Neg == b.f_Neg)) true (((a.f_Limbs.length : Nat) : Int) != ((b.f_Limbs.length : Nat) : Int)))))], [(0, vO 2 (TInt.cells a)), (16, vO 2 (TInt.cells b))], 272⟩ (C_45 12) [] [] (kp [2, 3, 19]) (kq [0, 16]) 272 [0 < 1, 0 < 1, (!(!(a.f_Neg == b.f_Neg))) = true → AllP [(!(!(a.f_Neg == b.f_Neg))) = true, 0 < 1], (!(!(a.f_Neg == b.f_Neg))) = true → AllP [(!(!(a.f_Neg == b.f_Neg))) = true], (!(!(a.f_Neg == b.f_Neg))) = true → AllP [(!(!(a.f_Neg == b.f_Neg))) = true, 0 < 1], (!(!(a.f_Neg == b.f_Neg))) = true → AllP [(!(!(a.f_Neg == b.f_Neg))) = true], (!(!(a.f_Neg == b.f_Neg))) = true → AllP [(!(!(a.f_Neg == b.f_Neg))) = true, (!(!(a.f_Neg == b.f_Neg))) = true], (!(!(a.f_Neg == b.f_Neg))) = true → AllP [(!(!(a.f_Neg == b.f_Neg))) = true]] ⟨o1, o1, (fun hg => ⟨hg, o1, trivial⟩), (fun hg => ⟨hg, trivial⟩), (fun hg => ⟨hg, o1, trivial⟩), (fun hg => ⟨hg, trivial⟩), (fun hg => ⟨hg, hg, trivial⟩), (fun hq => ⟨hq, trivial⟩), trivial⟩ ?_
  refine Runs.sC 19 (C_45 26) (C_45 27) (cond (!(a.f_Neg == b.f_Neg)) true (((a.f_Limbs.length : Nat) : Int) != ((b.f_Limbs.length : Nat) : Int))) (fun hq2 => ?_) (fun hq2 => ?_)
  · have h := condT h hq2
    refine Runs.sA 1 [.code (C_45 52), .code (C_45 53), .code (C_45 7)] ?_
    refine Runs.sR hE ⟨[(4, (aB false))], [], 288⟩ (C_45 52) [] [] (kp [4]) [] 288 [] trivial ?_
    obtain rfl := Option.some.inj h
    refine Runs.sW hE ⟨[(4, (aB false))], [], 288⟩ [] (kp [4]) [] 288 [] trivial ?_
    exact Runs.sT Try.f17 [] [] trivial
  · have h := condF h hq2
    refine Runs.sA 3 [.code (C_45 28), .code (C_45 29), .code (C_45 15)] ?_
    refine Runs.sR hE ⟨[(2, (.op 0 0 0)), (3, (.op 16 0 0)), (5, (aI 0))], [(0, vO 2 (TInt.cells a)), (16, vO 2 (TInt.cells b))], 288⟩ (C_45 28) [] [] (kp [2, 3, 5]) (kq [0, 16]) 288 [] trivial ?_
    refine Runs.sA 2 [.code (C_45 116), .inLoop (C_45 116), .inBlock 0, .code (C_45 15)] ?_
    exact Runs.sW hE _ [] (kp [2, 3, 5]) (kq [0] ++ [(1, .keep 16)]) 2 [] trivial (g_b_SameInt_L1_ok N a b N 0 _ h E hE)
noncomputable def C_46 (n : Nat) : Code := cat (bodyOf Try.f91) (pth n)
theorem g_b_Q_L2_ok (N : Nat) (a2 : Int) (b2 : Int) (fuel : Nat) : ∀ (x : Int) (y : Int) (r : TRat), g_b_Q_L2 N a2 b2 fuel x y = some r → ∀ E, EnvOk E 0 → Runs Try.prog E 91 34 (SPost E [] (.agg (TRat.cells r))) [.code (C_46 248), .inLoop (C_46 248), .inBlock 0, .code (C_46 63)] ⟨[(0, (aI a2)), (1, (aI b2)), (4, (.op 0 0 0)), (5, (aI x)), (6, (aI y))], [(0, vO 4 [(aB false), .nil, (aB false), .nil])], 1⟩ := by
  induction fuel with
  | zero => intro _ _ r h; rw [g_b_Q_L2.eq_1] at h; cases h
  | succ fuel ih =>
    intro x y r h E hE
    rw [g_b_Q_L2.eq_2] at h
    refine Runs.sA 2 [.code (C_46 992), .code (C_46 993), .code (C_46 497), .inLoop (C_46 248), .inBlock 0, .code (C_46 63)] ?_
    refine Runs.sR hE ⟨[(0, (aI a2)), (1, (aI b2)), (4, (.op 0 0 0)), (5, (aI x)), (6, (aI y)), (20, (aB (decide (y > 0))))], [(0, vO 4 [(aB false), .nil, (aB false), .nil])], 33⟩ (C_46 992) [] [] (kp [0, 1, 4, 5, 6, 20]) (kq [0]) 33 [] trivial ?_
    refine Runs.sC 20 (C_46 1986) (C_46 1987) (decide (y > 0)) (fun hq4 => ?_) (fun hq4 => ?_)
    · have h := condT h hq4
      refine Runs.sA 2 [.code (C_46 994), .inBlock 1, .inLoop (C_46 248), .inBlock 0, .code (C_46 63)] ?_
      obtain ⟨c, h⟩ := ifSome h
      refine Runs.sR hE ⟨[(0, (aI a2)), (1, (aI b2)), (4, (.op 0 0 0)), (5, (aI y)), (6, (aI (x.tmod y)))], [(0, vO 4 [(aB false), .nil, (aB false), .nil])], 129⟩ (C_46 994) [] [] (kp [0, 1, 4, 5, 6]) (kq [0]) 129 [(y : Int) ≠ 0] ⟨c, trivial⟩ ?_
      refine Runs.sA 2 [.code (C_46 248), .inLoop (C_46 248), .inBlock 0, .code (C_46 63)] ?_
      exact Runs.sW hE _ [] (kp [0, 1, 4, 5, 6]) (kq [0]) 1 [] trivial (ih y (x.tmod y) _ h E hE)
    · have h := condF h hq4
      refine Runs.sA 2 [.code (C_46 126), .code (C_46 127)] ?_
      obtain ⟨c2, h⟩ := ifSome h
      obtain ⟨rZ, hr, h⟩ := bindSome h
      obtain ⟨rZ2, hr2, h⟩ := bindSome h
      refine Runs.sR hE ⟨[(4, (.op 0 0 0))], [(0, vO 4 [(aB rZ.f_Neg), (encL (cU .u16) 0 rZ.f_Limbs), (aB rZ2.f_Neg), (encL (cU .u16) 0 rZ2.f_Limbs)])], 193⟩ (C_46 126) [(3, ⟨[], true, (.agg (TInt.cells rZ)), [], 0, false, none⟩), (7, ⟨[], true, (.agg (TInt.cells rZ2)), [], 0, false, none⟩)] [] (kp [4]) (kq [0]) 193 [(x : Int) ≠ 0, Sound Try.prog 89 [(aI (w64 (a2.tdiv x)))] [] 0 (.agg (TInt.cells rZ)) [], (x : Int) ≠ 0, Sound Try.prog 89 [(aI (w64 (b2.tdiv x)))] [] 0 (.agg (TInt.cells rZ2)) [], 0 < 1] ⟨c2, (g_b_Z_ok N (w64 (a2.tdiv x)) rZ hr), c2, (g_b_Z_ok N (w64 (b2.tdiv x)) rZ2 hr2), o1, trivial⟩ ?_
      obtain rfl := Option.some.inj h
      refine Runs.sW hE ⟨[(4, (.op 16 0 0))], [(16, vO 4 [(aB rZ.f_Neg), (encL (cU .u16) 0 rZ.f_Limbs), (aB rZ2.f_Neg), (encL (cU .u16) 0 rZ2.f_Limbs)])], 193⟩ [] (kp [4]) [(16, .keep 0)] 193 [] trivial ?_
      exact Runs.sT Try.f91 [16] [0 < 1] ⟨o1, trivial⟩
theorem g_b_Q_J1_ok (N : Nat) (a2 : Int) (b2 : Int) (r : TRat) (h : g_b_Q_J1 N a2 b2 = some r) : ∀ E, EnvOk E 0 → Runs Try.prog E 91 34 (SPost E [] (.agg (TRat.cells r))) [.code (C_46 14), .code (C_46 15)] ⟨[(0, (aI a2)), (1, (aI b2)), (4, (.op 0 0 0))], [(0, vO 4 [(aB false), .nil, (aB false), .nil])], 1⟩ := by
  intro E hE
  unfold g_b_Q_J1 at h
  refine Runs.sR hE ⟨[(0, (aI a2)), (1, (aI b2)), (4, (.op 0 0 0)), (5, (aI a2)), (6, (aI b2))], [(0, vO 4 [(aB false), .nil, (aB false), .nil])], 65⟩ (C_46 14) [] [] (kp [0, 1, 4, 5, 6]) (kq [0]) 65 [] trivial ?_
  refine Runs.sA 2 [.code (C_46 60), .code (C_46 61), .code (C_46 31)] ?_
  refine Runs.sR hE ⟨[(0, (aI a2)), (1, (aI b2)), (4, (.op 0 0 0)), (5, (aI a2)), (6, (aI b2)), (16, (aB (decide (a2 < 0))))], [(0, vO 4 [(aB false), .nil, (aB false), .nil])], 97⟩ (C_46 60) [] [] (kp [0, 1, 4, 5, 6, 16]) (kq [0]) 97 [] trivial ?_
  refine Runs.sC 16 (C_46 122) (C_46 123) (decide (a2 < 0)) (fun hq3 => ?_) (fun hq3 => ?_)
  · have h := condT h hq3
    refine Runs.sR hE ⟨[(0, (aI a2)), (1, (aI b2)), (4, (.op 0 0 0)), (5, (aI (w64 (0 - a2)))), (6, (aI b2))], [(0, vO 4 [(aB false), .nil, (aB false), .nil])], 145⟩ (C_46 122) [] [] (kp [0, 1, 4, 5, 6]) (kq [0]) 145 [] trivial ?_
    refine Runs.sA 3 [.code (C_46 248), .inLoop (C_46 248), .inBlock 0, .code (C_46 63)] ?_
    exact Runs.sW hE _ [] (kp [0, 1, 4, 5, 6]) (kq [0]) 1 [] trivial (g_b_Q_L2_ok N a2 b2 N (w64 (0 - a2)) b2 _ h E hE)
  · have h := condF h hq3
    refine Runs.sA 4 [.code (C_46 248), .inLoop (C_46 248), .inBlock 0, .code (C_46 63)] ?_
    exact Runs.sW hE _ [] (kp [0, 1, 4, 5, 6]) (kq [0]) 1 [] trivial (g_b_Q_L2_ok N a2 b2 N a2 b2 _ h E hE)
theorem g_b_Q_ok (N : Nat) (a : Int) (b : Int) (r : TRat) (h : g_b_Q N a b = some r) : Sound Try.prog 91 [(aI a), (aI b)] [] 0 (.agg (TRat.cells r)) [] := by
  unfold g_b_Q at h
  refine Sound.of_runs (fu := Try.f91) (c := C_46 1) (nt := 34) (by kernel_rfl) (by kernel_rfl) (by kernel_rfl) (by kernel_rfl) (fun hm => rfl) ?_
  intro E hE
  refine Runs.sA 1 [.code (C_46 2), .code (C_46 3)] ?_
  refine Runs.sR hE ⟨[(0, (aI a)), (1, (aI b)), (4, (.op 0 0 0))], [(0, vO 4 [(aB false), .nil, (aB false), .nil])], 16⟩ (C_46 2) [] [] (kp [0, 1, 4]) (kq [0]) 16 [] trivial ?_
  refine Runs.sA 2 [.code (C_46 12), .code (C_46 13), .code (C_46 7)] ?_
  refine Runs.sR hE ⟨[(0, (aI a)), (1, (aI b)), (4, (.op 0 0 0)), (8, (aB (decide (b < 0))))], [(0, vO 4 [(aB false), .nil, (aB false), .nil])], 48⟩ (C_46 12) [] [] (kp [0, 1, 4, 8]) (kq [0]) 48 [] trivial ?_
  refine Runs.sC 8 (C_46 26) (C_46 27) (decide (b < 0)) (fun hq2 => ?_) (fun hq2 => ?_)
  · have h := condT h hq2
    refine Runs.sR hE ⟨[(0, (aI (w64 (0 - a)))), (1, (aI (w64 (0 - b)))), (4, (.op 0 0 0))], [(0, vO 4 [(aB false), .nil, (aB false), .nil])], 144⟩ (C_46 26) [] [] (kp [0, 1, 4]) (kq [0]) 144 [] trivial ?_
    refine Runs.sA 1 [.code (C_46 14), .code (C_46 15)] ?_
    exact Runs.sW hE _ [] (kp [0, 1, 4]) (kq [0]) 1 [] trivial (g_b_Q_J1_ok N (w64 (0 - a)) (w64 (0 - b)) _ h E hE)
  · have h := condF h hq2
    refine Runs.sA 2 [.code (C_46 14), .code (C_46 15)] ?_
    exact Runs.sW hE _ [] (kp [0, 1, 4]) (kq [0]) 1 [] trivial (g_b_Q_J1_ok N a b _ h E hE)
noncomputable def C_47 (n : Nat) : Code := cat (bodyOf Try.f34) (pth n)
theorem g_b_SameRat_ok (N : Nat) (a : TRat) (b : TRat) (r : Bool) (h : g_b_SameRat N a b = some r) : Sound Try.prog 34 [(.agg (TRat.cells a)), (.agg (TRat.cells b))] [] 0 (aB r) [] := by
  unfold g_b_SameRat at h
  refine Sound.of_runs (fu := Try.f34) (c := C_47 1) (nt := 17) (by kernel_rfl) (by kernel_rfl) (by kernel_rfl) (by kernel_rfl) (fun hm => rfl) ?_
  intro E hE
  refine Runs.sA 1 [.code (C_47 2), .code (C_47 3)] ?_
  refine Runs.sR hE ⟨[(2, (.op 0 0 0)), (3, (.op 16 0 0))], [(0, vO 4 (TRat.cells a)), (16, vO 4 (TRat.cells b))], 48⟩ (C_47 2) [] [] (kp [2, 3]) (kq [0, 16]) 48 [] trivial ?_
  refine Runs.sA 1 [.code (C_47 6), .code (C_47 7)] ?_
  obtain ⟨rSameInt, hr, h⟩ := bindSome h
  obtain ⟨rSameInt2, hr2, h⟩ := bindSome h
  refine Runs.sR hE ⟨[(4, (aB (cond rSameInt rSameInt2 false)))], [], 256⟩ (C_47 6) [(4, ⟨[], true, (aB rSameInt), [], 0, false, none⟩), (10, ⟨[], true, (aB rSameInt2), [], 0, false, none⟩)] [] (kp [4]) [] 256 [0 < 1, 0 < 1, Sound Try.prog 17 [(.agg (TInt.cells a.f_Num)), (.agg (TInt.cells b.f_Num))] [] 0 (aB rSameInt) [], rSameInt = true → AllP [rSameInt = true, 0 < 1], rSameInt = true → AllP [rSameInt = true, 0 < 1], rSameInt = true → AllP [Sound Try.prog 17 [(.agg (TInt.cells a.f_Den)), (.agg (TInt.cells b.f_Den))] [] 0 (aB rSameInt2) [], rSameInt = true, rSameInt = true], rSameInt = true → AllP [rSameInt = true]] ⟨o1, o1, (g_b_SameInt_ok N a.f_Num b.f_Num rSameInt hr), (fun hg => ⟨hg, o1, trivial⟩), (fun hg => ⟨hg, o1, trivial⟩), (fun hg => ⟨(g_b_SameInt_ok N a.f_Den b.f_Den rSameInt2 (condT hr2 hg)), hg, hg, trivial⟩), (fun hq => ⟨hq, trivial⟩), trivial⟩ ?_
  obtain rfl := Option.some.inj h
  refine Runs.sW hE ⟨[(4, (aB (cond rSameInt rSameInt2 false)))], [], 256⟩ [] (kp [4]) [] 256 [] trivial ?_
  exact Runs.sT Try.f34 [] [] trivial
noncomputable def C_2 (n : Nat) : Code := cat (bodyOf Try.f14) (pth n)
theorem g_w01_awake_ok (N : Nat) (r : Bool) (h : g_w01_awake N = some r) : Sound Try.prog 14 [] [] 0 (aB r) [] := by
  unfold g_w01_awake at h
  refine Sound.of_runs (fu := Try.f14) (c := C_2 1) (nt := 60) (by kernel_rfl) (by kernel_rfl) (by kernel_rfl) (by kernel_rfl) (fun hm => rfl) ?_
  intro E hE
  refine Runs.sA 1 [.code (C_2 2), .code (C_2 3)] ?_
  refine Runs.sR hE ⟨[], [], 16⟩ (C_2 2) [] [] [] [] 16 [] trivial ?_
  refine Runs.sA 1 [.code (C_2 6), .code (C_2 7)] ?_
  obtain ⟨rZ, hr, h⟩ := bindSome h
  obtain ⟨rZ2, hr2, h⟩ := bindSome h
  obtain ⟨rDivMod, hr3, h⟩ := bindSome h
  refine Runs.sR hE ⟨[(1, (.op 128 0 0)), (2, (.op 144 0 0)), (3, (aI rDivMod.2.2))], [(128, vO 2 (TInt.cells rDivMod.1)), (144, vO 2 (TInt.cells rDivMod.2.1))], 208⟩ (C_2 6) [(0, ⟨[], true, (.agg (TInt.cells rZ)), [], 0, false, none⟩), (1, ⟨[], true, (.agg (TInt.cells rZ2)), [], 0, false, none⟩), (2, ⟨[], true, (.tup [(.agg (TInt.cells rDivMod.1)), (.agg (TInt.cells rDivMod.2.1)), (aI rDivMod.2.2)]), [], 0, false, none⟩)] [] (kp [1, 2, 3]) (kq [128, 144]) 208 [Sound Try.prog 89 [(aI (-7))] [] 0 (.agg (TInt.cells rZ)) [], Sound Try.prog 89 [(aI 2)] [] 0 (.agg (TInt.cells rZ2)) [], Sound Try.prog 20 [(.agg (TInt.cells rZ)), (.agg (TInt.cells rZ2))] [] 0 (.tup [(.agg (TInt.cells rDivMod.1)), (.agg (TInt.cells rDivMod.2.1)), (aI rDivMod.2.2)]) [], 0 < 1, 0 < 1] ⟨(g_b_Z_ok N (-7) rZ hr), (g_b_Z_ok N 2 rZ2 hr2), (g_e_DivMod_ok N rZ rZ2 rDivMod hr3), o1, o1, trivial⟩ ?_
  refine Runs.sA 1 [.code (C_2 14), .code (C_2 15)] ?_
  obtain ⟨rRatio, hr4, h⟩ := bindSome h
  refine Runs.sR hE ⟨[(1, (.op 128 0 0)), (2, (.op 144 0 0)), (3, (aI rDivMod.2.2)), (4, (.op 272 0 0)), (5, (aI rRatio.2))], [(128, vO 2 (TInt.cells rDivMod.1)), (144, vO 2 (TInt.cells rDivMod.2.1)), (272, vO 4 (TRat.cells rRatio.1))], 320⟩ (C_2 14) [(0, ⟨[], true, (.tup [(.agg (TRat.cells rRatio.1)), (aI rRatio.2)]), [], 0, false, none⟩)] [] (kp [1, 2, 3, 4, 5]) (kq [128, 144, 272]) 320 [Sound Try.prog 41 [(aI 6), (aI (-4))] [] 0 (.tup [(.agg (TRat.cells rRatio.1)), (aI rRatio.2)]) [], 0 < 1] ⟨(g_e_Ratio_ok N 6 (-4) rRatio hr4), o1, trivial⟩ ?_
  refine Runs.sA 1 [.code (C_2 30), .code (C_2 31)] ?_
  obtain ⟨rWs, hr5, h⟩ := bindSome h
  refine Runs.sR hE ⟨[(1, (.op 128 0 0)), (2, (.op 144 0 0)), (3, (aI rDivMod.2.2)), (4, (.op 272 0 0)), (5, (aI rRatio.2)), (6, (.op 384 0 0))], [(128, vO 2 (TInt.cells rDivMod.1)), (144, vO 2 (TInt.cells rDivMod.2.1)), (272, vO 4 (TRat.cells rRatio.1)), (320, aO 1 cI 0 ([0, 10] : List Int)), (384, vN 2 [(.os 320 0 (([0, 10] : List Int).length)), (encL TRat.cells TRat.d rWs)])], 416⟩ (C_2 30) [(2, ⟨[], true, (encL TRat.cells TRat.d rWs), [], 0, true, none⟩)] [] (kp [1, 2, 3, 4, 5, 6]) (kq [128, 144, 272] ++ [(320, .arr 320 (([0, 10] : List Int).length) (fun zi => cI (([0, 10] : List Int).getD zi 0))), (384, .var 384 [.osl (([0, 10] : List Int).length), .keep])]) 416 [Sound Try.prog 90 [(.sl 2 (fun zi => (fun zi => ([[(aI 2)], [(aI 0)]] : List (List AV)).getD zi []) (addz 0 zi)))] [] 0 (encL TRat.cells TRat.d rWs) [], 0 + 2 ≤ 2, 0 < 1, 2 = ([0, 10] : List Int).length, ∀ zi, zi < ([0, 10] : List Int).length → (fun zi => cI (([0, 10] : List Int).getD zi 0)) zi = (fun zi => ([[(aI 0)], [(aI 10)]] : List (List AV)).getD zi []) zi, 2 = ([0, 10] : List Int).length] ⟨(Sound.conv (g_b_Ws_ok N ([2, 0] : List Int) rWs hr5) (.cons (Alike.sl rfl (fun zq hzq => get_chunk cI 0 ([2, 0] : List Int) zq hzq)) .nil)), z0, o1, rfl, (fun zq hzq => get_chunk cI 0 ([0, 10] : List Int) zq hzq), rfl, trivial⟩ ?_
  refine Runs.sA 1 [.code (C_2 62), .code (C_2 63)] ?_
  obtain ⟨rW, hr6, h⟩ := bindSome h
  obtain ⟨rValue, hr7, h⟩ := bindSome h
  refine Runs.sR hE ⟨[(1, (.op 128 0 0)), (2, (.op 144 0 0)), (3, (aI rDivMod.2.2)), (4, (.op 272 0 0)), (5, (aI rRatio.2)), (7, (.op 512 0 0)), (8, (aI rValue.2))], [(128, vO 2 (TInt.cells rDivMod.1)), (144, vO 2 (TInt.cells rDivMod.2.1)), (272, vO 4 (TRat.cells rRatio.1)), (512, vO 4 (TRat.cells rValue.1))], 560⟩ (C_2 62) [(1, ⟨[], true, (.agg (TRat.cells rW)), [], 0, false, none⟩), (2, ⟨[], true, (.tup [(.agg (TRat.cells rValue.1)), (aI rValue.2)]), [], 0, true, none⟩)] [] (kp [1, 2, 3, 4, 5, 7, 8]) (kq [128, 144, 272, 512]) 560 [0 < 1, Sound Try.prog 39 [(aI 5)] [] 0 (.agg (TRat.cells rW)) [], Sound Try.prog 56 [(.agg [(encL cI 0 ([0, 10] : List Int)), (encL TRat.cells TRat.d rWs)]), (.agg (TRat.cells rW))] [] 0 (.tup [(.agg (TRat.cells rValue.1)), (aI rValue.2)]) [], 0 + ([0, 10] : List Int).length ≤ ([0, 10] : List Int).length, 0 < 1] ⟨o1, (g_b_W_ok N 5 rW hr6), (g_e_Value_ok N (⟨([0, 10] : List Int), rWs⟩ : TCurve) rW rValue hr7), z0, o1, trivial⟩ ?_
  refine Runs.sA 1 [.code (C_2 126), .code (C_2 127)] ?_
  obtain ⟨rZ3, hr8, h⟩ := bindSome h
  obtain ⟨rSameInt, hr9, h⟩ := bindSome h
  obtain ⟨rZ4, hr10, h⟩ := bindSome h
  obtain ⟨rSameInt2, hr11, h⟩ := bindSome h
  obtain ⟨rQ, hr12, h⟩ := bindSome h
  obtain ⟨rSameRat, hr13, h⟩ := bindSome h
  obtain ⟨rW2, hr14, h⟩ := bindSome h
  obtain ⟨rSameRat2, hr15, h⟩ := bindSome h
  refine Runs.sR hE ⟨[(0, (aB (cond (cond (cond (cond (cond (cond (rDivMod.2.2 == 0) rSameInt false) rSameInt2 false) (rRatio.2 == 0) false) rSameRat false) (rValue.2 == 0) false) rSameRat2 false)))], [], 1056⟩ (C_2 126) [(4, ⟨[], true, (.agg (TInt.cells rZ3)), [], 0, false, none⟩), (5, ⟨[], true, (aB rSameInt), [], 0, false, none⟩), (9, ⟨[], true, (.agg (TInt.cells rZ4)), [], 0, false, none⟩), (10, ⟨[], true, (aB rSameInt2), [], 0, false, none⟩), (18, ⟨[], true, (.agg (TRat.cells rQ)), [], 0, false, none⟩), (19, ⟨[], true, (aB rSameRat), [], 0, false, none⟩), (27, ⟨[], true, (.agg (TRat.cells rW2)), [], 0, false, none⟩), (28, ⟨[], true, (aB rSameRat2), [], 0, false, none⟩)] [] (kp [0]) [] 1056 [(rDivMod.2.2 == 0) = true → AllP [0 < 1], (rDivMod.2.2 == 0) = true → AllP [Sound Try.prog 89 [(aI (-4))] [] 0 (.agg (TInt.cells rZ3)) []], (rDivMod.2.2 == 0) = true → AllP [Sound Try.prog 17 [(.agg (TInt.cells rDivMod.1)), (.agg (TInt.cells rZ3))] [] 0 (aB rSameInt) [], (rDivMod.2.2 == 0) = true, (rDivMod.2.2 == 0) = true], (rDivMod.2.2 == 0) = true → AllP [(rDivMod.2.2 == 0) = true], (cond (rDivMod.2.2 == 0) rSameInt false) = true → AllP [0 < 1], (cond (rDivMod.2.2 == 0) rSameInt false) = true → AllP [Sound Try.prog 89 [(aI 1)] [] 0 (.agg (TInt.cells rZ4)) []], (cond (rDivMod.2.2 == 0) rSameInt false) = true → AllP [Sound Try.prog 17 [(.agg (TInt.cells rDivMod.2.1)), (.agg (TInt.cells rZ4))] [] 0 (aB rSameInt2) [], (cond (rDivMod.2.2 == 0) rSameInt false) = true, (cond (rDivMod.2.2 == 0) rSameInt false) = true], (cond (rDivMod.2.2 == 0) rSameInt false) = true → AllP [(cond (rDivMod.2.2 == 0) rSameInt false) = true], (cond (cond (rDivMod.2.2 == 0) rSameInt false) rSameInt2 false) = true → AllP [(cond (cond (rDivMod.2.2 == 0) rSameInt false) rSameInt2 false) = true], (cond (cond (rDivMod.2.2 == 0) rSameInt false) rSameInt2 false) = true → AllP [(cond (cond (rDivMod.2.2 == 0) rSameInt false) rSameInt2 false) = true], (cond (cond (cond (rDivMod.2.2 == 0) rSameInt false) rSameInt2 false) (rRatio.2 == 0) false) = true → AllP [0 < 1], (cond (cond (cond (rDivMod.2.2 == 0) rSameInt false) rSameInt2 false) (rRatio.2 == 0) false) = true → AllP [Sound Try.prog 91 [(aI (-3)), (aI 2)] [] 0 (.agg (TRat.cells rQ)) []], (cond (cond (cond (rDivMod.2.2 == 0) rSameInt false) rSameInt2 false) (rRatio.2 == 0) false) = true → AllP [Sound Try.prog 34 [(.agg (TRat.cells rRatio.1)), (.agg (TRat.cells rQ))] [] 0 (aB rSameRat) [], (cond (cond (cond (rDivMod.2.2 == 0) rSameInt false) rSameInt2 false) (rRatio.2 == 0) false) = true, (cond (cond (cond (rDivMod.2.2 == 0) rSameInt false) rSameInt2 false) (rRatio.2 == 0) false) = true], (cond (cond (cond (rDivMod.2.2 == 0) rSameInt false) rSameInt2 false) (rRatio.2 == 0) false) = true → AllP [(cond (cond (cond (rDivMod.2.2 == 0) rSameInt false) rSameInt2 false) (rRatio.2 == 0) false) = true], (cond (cond (cond (cond (rDivMod.2.2 == 0) rSameInt false) rSameInt2 false) (rRatio.2 == 0) false) rSameRat false) = true → AllP [(cond (cond (cond (cond (rDivMod.2.2 == 0) rSameInt false) rSameInt2 false) (rRatio.2 == 0) false) rSameRat false) = true], (cond (cond (cond (cond (rDivMod.2.2 == 0) rSameInt false) rSameInt2 false) (rRatio.2 == 0) false) rSameRat false) = true → AllP [(cond (cond (cond (cond (rDivMod.2.2 == 0) rSameInt false) rSameInt2 false) (rRatio.2 == 0) false) rSameRat false) = true], (cond (cond (cond (cond (cond (rDivMod.2.2 == 0) rSameInt false) rSameInt2 false) (rRatio.2 == 0) false) rSameRat false) (rValue.2 == 0) false) = true → AllP [0 < 1], (cond (cond (cond (cond (cond (rDivMod.2.2 == 0) rSameInt false) rSameInt2 false) (rRatio.2 == 0) false) rSameRat false) (rValue.2 == 0) false) = true → AllP [Sound Try.prog 39 [(aI 10)] [] 0 (.agg (TRat.cells rW2)) []], (cond (cond (cond (cond (cond (rDivMod.2.2 == 0) rSameInt false) rSameInt2 false) (rRatio.2 == 0) false) rSameRat false) (rValue.2 == 0) false) = true → AllP [Sound Try.prog 34 [(.agg (TRat.cells rValue.1)), (.agg (TRat.cells rW2))] [] 0 (aB rSameRat2) [], (cond (cond (cond (cond (cond (rDivMod.2.2 == 0) rSameInt false) rSameInt2 false) (rRatio.2 == 0) false) rSameRat false) (rValue.2 == 0) false) = true, (cond (cond (cond (cond (cond (rDivMod.2.2 == 0) rSameInt false) rSameInt2 false) (rRatio.2 == 0) false) rSameRat false) (rValue.2 == 0) false) = true], (cond (cond (cond (cond (cond (rDivMod.2.2 == 0) rSameInt false) rSameInt2 false) (rRatio.2 == 0) false) rSameRat false) (rValue.2 == 0) false) = true → AllP [(cond (cond (cond (cond (cond (rDivMod.2.2 == 0) rSameInt false) rSameInt2 false) (rRatio.2 == 0) false) rSameRat false) (rValue.2 == 0) false) = true]] ⟨(fun hg => ⟨o1, trivial⟩), (fun hg => ⟨(g_b_Z_ok N (-4) rZ3 (condT hr8 hg)), trivial⟩), (fun hg => ⟨(g_b_SameInt_ok N rDivMod.1 rZ3 rSameInt (condT hr9 hg)), hg, hg, trivial⟩), (fun hq => ⟨hq, trivial⟩), (fun hg => ⟨o1, trivial⟩), (fun hg => ⟨(g_b_Z_ok N 1 rZ4 (condT hr10 hg)), trivial⟩), (fun hg => ⟨(g_b_SameInt_ok N rDivMod.2.1 rZ4 rSameInt2 (condT hr11 hg)), hg, hg, trivial⟩), (fun hq => ⟨hq, trivial⟩), (fun hg => ⟨hg, trivial⟩), (fun hq => ⟨hq, trivial⟩), (fun hg => ⟨o1, trivial⟩), (fun hg => ⟨(g_b_Q_ok N (-3) 2 rQ (condT hr12 hg)), trivial⟩), (fun hg => ⟨(g_b_SameRat_ok N rRatio.1 rQ rSameRat (condT hr13 hg)), hg, hg, trivial⟩), (fun hq => ⟨hq, trivial⟩), (fun hg => ⟨hg, trivial⟩), (fun hq => ⟨hq, trivial⟩), (fun hg => ⟨o1, trivial⟩), (fun hg => ⟨(g_b_W_ok N 10 rW2 (condT hr14 hg)), trivial⟩), (fun hg => ⟨(g_b_SameRat_ok N rValue.1 rW2 rSameRat2 (condT hr15 hg)), hg, hg, trivial⟩), (fun hq => ⟨hq, trivial⟩), trivial⟩ ?_
  obtain rfl := Option.some.inj h
  refine Runs.sW hE ⟨[(0, (aB (cond (cond (cond (cond (cond (cond (rDivMod.2.2 == 0) rSameInt false) rSameInt2 false) (rRatio.2 == 0) false) rSameRat false) (rValue.2 == 0) false) rSameRat2 false)))], [], 1056⟩ [] (kp [0]) [] 1056 [] trivial ?_
  exact Runs.sT Try.f14 [] [] trivial
noncomputable def C_54 (n : Nat) : Code := cat (bodyOf Try.f156) (pth n)
theorem g_r01_trim_L1_ok (N : Nat) (a : List Int) (fuel : Nat) : ∀ (n : Int) (r : (List Int)), g_r01_trim_L1 N a fuel n = some r → ∀ E, EnvOk E 0 → Runs Try.prog E 156 23 (SPost E [] (encL cI 0 r)) [.code (C_54 56), .inLoop (C_54 56), .inBlock 0, .code (C_54 15)] ⟨[(0, (encL cI 0 a)), (3, (aI n))], [], 0⟩ := by
  induction fuel with
  | zero => intro _ r h; rw [g_r01_trim_L1.eq_1] at h; cases h
  | succ fuel ih =>
    intro n r h E hE
    rw [g_r01_trim_L1.eq_2] at h
    refine Runs.sA 2 [.code (C_54 224), .code (C_54 225), .code (C_54 113), .inLoop (C_54 56), .inBlock 0, .code (C_54 15)] ?_
    obtain ⟨c, h⟩ := ifSome h
    refine Runs.sR hE ⟨[(0, (encL cI 0 a)), (3, (aI n)), (15, (aB (cond (decide (n > 0)) ((a.getD ((w64 (n - 1)).toNat) 0) == 0) false)))], [], 160⟩ (C_54 224) [] [] (kp [0, 3, 15]) [] 160 [(decide (n > 0)) = true → AllP [(decide (n > 0)) = true], (decide (n > 0)) = true → AllP [(decide (n > 0)) = true, (decide (n > 0)) = true, 0 ≤ (w64 (n - 1)) ∧ (w64 (n - 1)) < ((a.length : Nat) : Int)], (decide (n > 0)) = true → AllP [(decide (n > 0)) = true], (decide (n > 0)) = true → AllP [(decide (n > 0)) = true], (decide (n > 0)) = true → AllP [(decide (n > 0)) = true]] ⟨(fun hg => ⟨hg, trivial⟩), (fun hg => ⟨hg, hg, (c hg), trivial⟩), (fun hg => ⟨hg, trivial⟩), (fun hg => ⟨hg, trivial⟩), (fun hq => ⟨hq, trivial⟩), trivial⟩ ?_
    refine Runs.sC 15 (C_54 450) (C_54 451) (cond (decide (n > 0)) ((a.getD ((w64 (n - 1)).toNat) 0) == 0) false) (fun hq2 => ?_) (fun hq2 => ?_)
    · have h := condT h hq2
      refine Runs.sA 2 [.code (C_54 226), .inBlock 1, .inLoop (C_54 56), .inBlock 0, .code (C_54 15)] ?_
      refine Runs.sR hE ⟨[(0, (encL cI 0 a)), (3, (aI (w64 (n - 1))))], [], 208⟩ (C_54 226) [] [] (kp [0, 3]) [] 208 [] trivial ?_
      refine Runs.sA 2 [.code (C_54 56), .inLoop (C_54 56), .inBlock 0, .code (C_54 15)] ?_
      exact Runs.sW hE _ [] (kp [0, 3]) [] 0 [] trivial (ih (w64 (n - 1)) _ h E hE)
    · have h := condF h hq2
      refine Runs.sA 2 [.code (C_54 30), .code (C_54 31)] ?_
      obtain ⟨c2, h⟩ := ifSome h
      obtain ⟨c3, h⟩ := ifSome h
      obtain ⟨c4, h⟩ := ifSome h
      refine Runs.sR hE ⟨[(2, (.os 224 0 ((([] : List Int) ++ ((a.take ((n).toNat)).drop 0)).length)))], [(224, aO 1 cI 0 (([] : List Int) ++ ((a.take ((n).toNat)).drop 0)))], 256⟩ (C_54 30) [] [] [(2, .osl ((([] : List Int) ++ ((a.take ((n).toNat)).drop 0)).length))] [(224, .arr 224 ((([] : List Int) ++ ((a.take ((n).toNat)).drop 0)).length) (fun zi => cI ((([] : List Int) ++ ((a.take ((n).toNat)).drop 0)).getD zi 0)))] 256 [0 ≤ (n).toNat ∧ (n).toNat ≤ a.length, 0 ≤ n, 0 = 0, (0 + (n).toNat - 0) * 8 ≤ 140737488355328, ∀ zi, zi < (n).toNat - 0 → AV.oneL ((fun zi => cI (a.getD (addz 0 zi) 0)) zi) = true, (0 + (n).toNat - 0) = (([] : List Int) ++ ((a.take ((n).toNat)).drop 0)).length, 0 + (n).toNat - 0 = (([] : List Int) ++ ((a.take ((n).toNat)).drop 0)).length, ∀ zi, zi < (([] : List Int) ++ ((a.take ((n).toNat)).drop 0)).length → (fun zi => cI ((([] : List Int) ++ ((a.take ((n).toNat)).drop 0)).getD zi 0)) zi = ((fun zm => if zm < 0 then (fun _ => []) zm else (fun zi => cI (a.getD (addz 0 zi) 0)) (zm - 0))) zi] ⟨c2, c3, rfl, c4, (fun _ _ => rfl), (len_app_raw rfl (len_ext' a 0 ((n).toNat) c2)), (len_app_raw rfl (len_ext' a 0 ((n).toNat) c2)), (get_app_raw cI 0 ([] : List Int) ((a.take ((n).toNat)).drop 0) rfl (fun zq hzq => absurd hzq (Nat.not_lt_zero _)) (fun zq hzq => get_ext cI 0 a 0 ((n).toNat) zq hzq)), trivial⟩ ?_
      obtain rfl := Option.some.inj h
      refine Runs.sW hE ⟨[(2, (encL cI 0 (([] : List Int) ++ ((a.take ((n).toNat)).drop 0))))], [], 256⟩ [224] [(2, .sl ((([] : List Int) ++ ((a.take ((n).toNat)).drop 0)).length) (fun zi => cI ((([] : List Int) ++ ((a.take ((n).toNat)).drop 0)).getD zi 0)))] [] 256 [(([] : List Int) ++ ((a.take ((n).toNat)).drop 0)).length = (([] : List Int) ++ ((a.take ((n).toNat)).drop 0)).length, 0 + (([] : List Int) ++ ((a.take ((n).toNat)).drop 0)).length ≤ (([] : List Int) ++ ((a.take ((n).toNat)).drop 0)).length, ∀ zi, zi < (([] : List Int) ++ ((a.take ((n).toNat)).drop 0)).length → (fun zi => cI ((([] : List Int) ++ ((a.take ((n).toNat)).drop 0)).getD zi 0)) zi = (fun zi => cI ((([] : List Int) ++ ((a.take ((n).toNat)).drop 0)).getD zi 0)) (addz 0 zi)] ⟨rfl, z0, (fun _ _ => rfl), trivial⟩ ?_
      exact Runs.sT Try.f156 [] [] trivial
theorem g_r01_trim_ok (N : Nat) (a : List Int) (r : (List Int)) (h : g_r01_trim N a = some r) : Sound Try.prog 156 [(encL cI 0 a)] [] 0 (encL cI 0 r) [] := by
  unfold g_r01_trim at h
  refine Sound.of_runs (fu := Try.f156) (c := C_54 1) (nt := 23) (by kernel_rfl) (by kernel_rfl) (by kernel_rfl) (by kernel_rfl) (fun hm => rfl) ?_
  intro E hE
  refine Runs.sA 1 [.code (C_54 2), .code (C_54 3)] ?_
  refine Runs.sR hE ⟨[(0, (encL cI 0 a))], [], 16⟩ (C_54 2) [] [] (kp [0]) [] 16 [] trivial ?_
  refine Runs.sA 1 [.code (C_54 6), .code (C_54 7)] ?_
  refine Runs.sR hE ⟨[(0, (encL cI 0 a)), (3, (aI ((a.length : Nat) : Int)))], [], 64⟩ (C_54 6) [] [] (kp [0, 3]) [] 64 [] trivial ?_
  refine Runs.sA 3 [.code (C_54 56), .inLoop (C_54 56), .inBlock 0, .code (C_54 15)] ?_
  exact Runs.sW hE _ [] (kp [0, 3]) [] 0 [] trivial (g_r01_trim_L1_ok N a N ((a.length : Nat) : Int) _ h E hE)
noncomputable def C_53 (n : Nat) : Code := cat (bodyOf Try.f103) (pth n)
theorem g_r01_read_L1_ok (N : Nat) (l : List Int) (fuel : Nat) : ∀ (a : List Int) (i : Int) (r : (List Int)), g_r01_read_L1 N l fuel a i = some r → ∀ E, EnvOk E 0 → Runs Try.prog E 103 21 (SPost E [] (encL cI 0 r)) [.code (C_53 116), .inLoop (C_53 116), .inBlock 0, .code (C_53 15)] ⟨[(0, (encL (cU .u16) 0 l)), (3, (.os 0 0 a.length)), (4, (aI i))], [(0, aO 1 cI 0 a)], 1⟩ := by
  induction fuel with
  | zero => intro _ _ r h; rw [g_r01_read_L1.eq_1] at h; cases h
  | succ fuel ih =>
    intro a i r h E hE
    rw [g_r01_read_L1.eq_2] at h
    refine Runs.sA 2 [.code (C_53 464), .code (C_53 465), .code (C_53 233), .inLoop (C_53 116), .inBlock 0, .code (C_53 15)] ?_
    refine Runs.sR hE ⟨[(0, (encL (cU .u16) 0 l)), (3, (.os 0 0 a.length)), (4, (aI i)), (8, (aB (decide (i < ((l.length : Nat) : Int)))))], [(0, aO 1 cI 0 a)], 65⟩ (C_53 464) [] [] (kp [0, 3, 4, 8]) (kq [0]) 65 [] trivial ?_
    refine Runs.sC 8 (C_53 930) (C_53 931) (decide (i < ((l.length : Nat) : Int))) (fun hq2 => ?_) (fun hq2 => ?_)
    · have h := condT h hq2
      refine Runs.sA 3 [.code (C_53 932), .inBlock 1, .code (C_53 467), .inLoop (C_53 116), .inBlock 0, .code (C_53 15)] ?_
      obtain ⟨c, h⟩ := ifSome h
      obtain ⟨c2, h⟩ := ifSome h
      refine Runs.sR hE ⟨[(0, (encL (cU .u16) 0 l)), (3, (.os 177 0 ((a ++ ([(w64 ((l.getD ((i).toNat) 0)))] : List Int)).length))), (4, (aI i))], [(177, aO 1 cI 0 (a ++ ([(w64 ((l.getD ((i).toNat) 0)))] : List Int)))], 209⟩ (C_53 932) [] [] (kp [0] ++ [(3, .osl ((a ++ ([(w64 ((l.getD ((i).toNat) 0)))] : List Int)).length))] ++ kp [4]) [(177, .arr 177 ((a ++ ([(w64 ((l.getD ((i).toNat) 0)))] : List Int)).length) (fun zi => cI ((a ++ ([(w64 ((l.getD ((i).toNat) 0)))] : List Int)).getD zi 0)))] 209 [0 ≤ i ∧ i < ((l.length : Nat) : Int), a.length = a.length, (a.length + 1) * 8 ≤ 140737488355328, 0 + 1 ≤ 1, ∀ zi, zi < 1 → AV.oneL ((fun zi => ([[(aI (w64 ((l.getD ((i).toNat) 0))))]] : List (List AV)).getD zi []) (addz 0 zi)) = true, (a.length + 1) = (a ++ ([(w64 ((l.getD ((i).toNat) 0)))] : List Int)).length, a.length + 1 = (a ++ ([(w64 ((l.getD ((i).toNat) 0)))] : List Int)).length, ∀ zi, zi < (a ++ ([(w64 ((l.getD ((i).toNat) 0)))] : List Int)).length → (fun zi => cI ((a ++ ([(w64 ((l.getD ((i).toNat) 0)))] : List Int)).getD zi 0)) zi = ((fun zm => if zm < a.length then (fun zi => cI (a.getD zi 0)) zm else (fun zi => ([[(aI (w64 ((l.getD ((i).toNat) 0))))]] : List (List AV)).getD zi []) (zm - a.length))) zi] ⟨c, rfl, c2, z0, (oneN rfl), (len_app_raw rfl rfl), (len_app_raw rfl rfl), (get_app_raw cI 0 a ([(w64 ((l.getD ((i).toNat) 0)))] : List Int) rfl (fun _ _ => rfl) (fun zq hzq => get_chunk cI 0 ([(w64 ((l.getD ((i).toNat) 0)))] : List Int) zq hzq)), trivial⟩ ?_
      refine Runs.sA 1 [.code (C_53 467), .inLoop (C_53 116), .inBlock 0, .code (C_53 15)] ?_
      refine Runs.sR hE ⟨[(0, (encL (cU .u16) 0 l)), (3, (.os 177 0 ((a ++ ([(w64 ((l.getD ((i).toNat) 0)))] : List Int)).length))), (4, (aI (w64 (i + 1))))], [(177, aO 1 cI 0 (a ++ ([(w64 ((l.getD ((i).toNat) 0)))] : List Int)))], 257⟩ (C_53 467) [] [] (kp [0, 3, 4]) (kq [177]) 257 [] trivial ?_
      refine Runs.sA 1 [.code (C_53 116), .inLoop (C_53 116), .inBlock 0, .code (C_53 15)] ?_
      exact Runs.sW hE _ [] (kp [0, 3, 4]) [(0, .keep 177)] 1 [] trivial (ih (a ++ ([(w64 ((l.getD ((i).toNat) 0)))] : List Int)) (w64 (i + 1)) _ h E hE)
    · have h := condF h hq2
      refine Runs.sA 2 [.code (C_53 30), .code (C_53 31)] ?_
      obtain ⟨rtrim, hr, h⟩ := bindSome h
      refine Runs.sR hE ⟨[(2, (encL cI 0 rtrim))], [], 113⟩ (C_53 30) [(1, ⟨[], true, (encL cI 0 rtrim), [], 0, true, none⟩)] [] (kp [2]) [] 113 [Sound Try.prog 156 [(encL cI 0 a)] [] 0 (encL cI 0 rtrim) [], 0 + a.length ≤ a.length] ⟨(g_r01_trim_ok N a rtrim hr), z0, trivial⟩ ?_
      obtain rfl := Option.some.inj h
      refine Runs.sW hE ⟨[(2, (encL cI 0 rtrim))], [], 113⟩ [] (kp [2]) [] 113 [] trivial ?_
      exact Runs.sT Try.f103 [] [] trivial
theorem g_r01_read_ok (N : Nat) (l : List Int) (r : (List Int)) (h : g_r01_read N l = some r) : Sound Try.prog 103 [(encL (cU .u16) 0 l)] [] 0 (encL cI 0 r) [] := by
  unfold g_r01_read at h
  refine Sound.of_runs (fu := Try.f103) (c := C_53 1) (nt := 21) (by kernel_rfl) (by kernel_rfl) (by kernel_rfl) (by kernel_rfl) (fun hm => rfl) ?_
  intro E hE
  refine Runs.sA 1 [.code (C_53 2), .code (C_53 3)] ?_
  refine Runs.sR hE ⟨[(0, (encL (cU .u16) 0 l))], [], 16⟩ (C_53 2) [] [] (kp [0]) [] 16 [] trivial ?_
  refine Runs.sA 1 [.code (C_53 6), .code (C_53 7)] ?_
  refine Runs.sR hE ⟨[(0, (encL (cU .u16) 0 l)), (3, .nil)], [], 32⟩ (C_53 6) [] [] (kp [0, 3]) [] 32 [] trivial ?_
  refine Runs.sA 2 [.code (C_53 28), .code (C_53 29), .code (C_53 15)] ?_
  refine Runs.sR hE ⟨[(0, (encL (cU .u16) 0 l)), (3, .nil), (4, (aI 0))], [], 48⟩ (C_53 28) [] [] (kp [0, 3, 4]) [] 48 [] trivial ?_
  refine Runs.sA 2 [.code (C_53 116), .inLoop (C_53 116), .inBlock 0, .code (C_53 15)] ?_
  exact Runs.sW hE _ [] (kp [0] ++ [(3, .nilos 0)] ++ kp [4]) [(0, .nil 1 (fun zi => cI (([] : List Int).getD zi 0)))] 1 [] trivial (g_r01_read_L1_ok N l N ([] : List Int) 0 _ h E hE)
noncomputable def C_56 (n : Nat) : Code := cat (bodyOf Try.f104) (pth n)
theorem g_r01_made_L1_ok (N : Nat) (neg : Bool) (a : List Int) (fuel : Nat) : ∀ (x : List Int) (i : Int) (r : TInt), g_r01_made_L1 N neg a fuel x i = some r → ∀ E, EnvOk E 0 → Runs Try.prog E 104 31 (SPost E [] (.agg (TInt.cells r))) [.code (C_56 116), .inLoop (C_56 116), .inBlock 0, .code (C_56 15)] ⟨[(1, (encL cI 0 a)), (4, (.op 0 0 0)), (5, (.op 1 0 0)), (6, (aI i))], [(0, vO 2 [(aB false), .nil]), (1, vN 2 [(aB (cond neg (decide (((a.length : Nat) : Int) > 0)) false)), (.os 2 0 x.length)]), (2, aO 1 (cU .u16) 0 x)], 3⟩ := by
  induction fuel with
  | zero => intro _ _ r h; rw [g_r01_made_L1.eq_1] at h; cases h
  | succ fuel ih =>
    intro x i r h E hE
    rw [g_r01_made_L1.eq_2] at h
    refine Runs.sA 2 [.code (C_56 464), .code (C_56 465), .code (C_56 233), .inLoop (C_56 116), .inBlock 0, .code (C_56 15)] ?_
    refine Runs.sR hE ⟨[(1, (encL cI 0 a)), (4, (.op 0 0 0)), (5, (.op 1 0 0)), (6, (aI i)), (17, (aB (decide (i < ((a.length : Nat) : Int)))))], [(0, vO 2 [(aB false), .nil]), (1, vN 2 [(aB (cond neg (decide (((a.length : Nat) : Int) > 0)) false)), (.os 2 0 x.length)]), (2, aO 1 (cU .u16) 0 x)], 67⟩ (C_56 464) [] [] (kp [1, 4, 5, 6, 17]) (kq [0, 1, 2]) 67 [] trivial ?_
    refine Runs.sC 17 (C_56 930) (C_56 931) (decide (i < ((a.length : Nat) : Int))) (fun hq2 => ?_) (fun hq2 => ?_)
    · have h := condT h hq2
      refine Runs.sA 3 [.code (C_56 932), .inBlock 1, .code (C_56 467), .inLoop (C_56 116), .inBlock 0, .code (C_56 15)] ?_
      obtain ⟨c, h⟩ := ifSome h
      obtain ⟨c2, h⟩ := ifSome h
      refine Runs.sR hE ⟨[(1, (encL cI 0 a)), (4, (.op 0 0 0)), (5, (.op 1 0 0)), (6, (aI i))], [(0, vO 2 [(aB false), .nil]), (1, vN 2 [(aB (cond neg (decide (((a.length : Nat) : Int) > 0)) false)), (.os 195 0 ((x ++ ([(IntKind.u16.wrap ((a.getD ((i).toNat) 0)))] : List Int)).length))]), (195, aO 1 (cU .u16) 0 (x ++ ([(IntKind.u16.wrap ((a.getD ((i).toNat) 0)))] : List Int)))], 243⟩ (C_56 932) [] [] (kp [1, 4, 5, 6]) (kq [0] ++ [(1, .var 1 [.keep, .osl ((x ++ ([(IntKind.u16.wrap ((a.getD ((i).toNat) 0)))] : List Int)).length)]), (195, .arr 195 ((x ++ ([(IntKind.u16.wrap ((a.getD ((i).toNat) 0)))] : List Int)).length) (fun zi => (cU .u16) ((x ++ ([(IntKind.u16.wrap ((a.getD ((i).toNat) 0)))] : List Int)).getD zi 0)))]) 243 [0 < 1, 0 ≤ i ∧ i < ((a.length : Nat) : Int), x.length = x.length, (x.length + 1) * 2 ≤ 140737488355328, 0 + 1 ≤ 1, ∀ zi, zi < 1 → AV.oneL ((fun zi => ([[(.atom (.int .u16 (IntKind.u16.wrap ((a.getD ((i).toNat) 0)))))]] : List (List AV)).getD zi []) (addz 0 zi)) = true, 0 < 1, (x.length + 1) = (x ++ ([(IntKind.u16.wrap ((a.getD ((i).toNat) 0)))] : List Int)).length, x.length + 1 = (x ++ ([(IntKind.u16.wrap ((a.getD ((i).toNat) 0)))] : List Int)).length, ∀ zi, zi < (x ++ ([(IntKind.u16.wrap ((a.getD ((i).toNat) 0)))] : List Int)).length → (fun zi => (cU .u16) ((x ++ ([(IntKind.u16.wrap ((a.getD ((i).toNat) 0)))] : List Int)).getD zi 0)) zi = ((fun zm => if zm < x.length then (fun zi => (cU .u16) (x.getD zi 0)) zm else (fun zi => ([[(.atom (.int .u16 (IntKind.u16.wrap ((a.getD ((i).toNat) 0)))))]] : List (List AV)).getD zi []) (zm - x.length))) zi] ⟨o1, c, rfl, c2, z0, (oneN rfl), o1, (len_app_raw rfl rfl), (len_app_raw rfl rfl), (get_app_raw (cU .u16) 0 x ([(IntKind.u16.wrap ((a.getD ((i).toNat) 0)))] : List Int) rfl (fun _ _ => rfl) (fun zq hzq => get_chunk (cU .u16) 0 ([(IntKind.u16.wrap ((a.getD ((i).toNat) 0)))] : List Int) zq hzq)), trivial⟩ ?_
      refine Runs.sA 1 [.code (C_56 467), .inLoop (C_56 116), .inBlock 0, .code (C_56 15)] ?_
      refine Runs.sR hE ⟨[(1, (encL cI 0 a)), (4, (.op 0 0 0)), (5, (.op 1 0 0)), (6, (aI (w64 (i + 1))))], [(0, vO 2 [(aB false), .nil]), (1, vN 2 [(aB (cond neg (decide (((a.length : Nat) : Int) > 0)) false)), (.os 195 0 ((x ++ ([(IntKind.u16.wrap ((a.getD ((i).toNat) 0)))] : List Int)).length))]), (195, aO 1 (cU .u16) 0 (x ++ ([(IntKind.u16.wrap ((a.getD ((i).toNat) 0)))] : List Int)))], 291⟩ (C_56 467) [] [] (kp [1, 4, 5, 6]) (kq [0, 1, 195]) 291 [] trivial ?_
      refine Runs.sA 1 [.code (C_56 116), .inLoop (C_56 116), .inBlock 0, .code (C_56 15)] ?_
      exact Runs.sW hE _ [] (kp [1, 4, 5, 6]) (kq [0, 1] ++ [(2, .keep 195)]) 3 [] trivial (ih (x ++ ([(IntKind.u16.wrap ((a.getD ((i).toNat) 0)))] : List Int)) (w64 (i + 1)) _ h E hE)
    · have h := condF h hq2
      refine Runs.sA 2 [.code (C_56 30), .code (C_56 31)] ?_
      refine Runs.sR hE ⟨[(4, (.op 0 0 0))], [(0, vN 2 [(aB (cond neg (decide (((a.length : Nat) : Int) > 0)) false)), (.os 2 0 x.length)]), (2, aO 1 (cU .u16) 0 x)], 99⟩ (C_56 30) [] [] (kp [4]) (kq [0, 2]) 99 [0 < 1, 0 < 1] ⟨o1, o1, trivial⟩ ?_
      obtain rfl := Option.some.inj h
      refine Runs.sW hE ⟨[(4, (.op 16 0 0))], [(16, vO 2 [(aB (cond neg (decide (((a.length : Nat) : Int) > 0)) false)), (encL (cU .u16) 0 x)])], 99⟩ [2] (kp [4]) [(16, .var 0 [.keep, .sl (x.length) (fun zi => (cU .u16) (x.getD zi 0))])] 99 [x.length = x.length, 0 + x.length ≤ x.length, ∀ zi, zi < x.length → (fun zi => (cU .u16) (x.getD zi 0)) zi = (fun zi => (cU .u16) (x.getD zi 0)) (addz 0 zi)] ⟨rfl, z0, (fun _ _ => rfl), trivial⟩ ?_
      exact Runs.sT Try.f104 [16] [0 < 1] ⟨o1, trivial⟩
theorem g_r01_made_ok (N : Nat) (neg : Bool) (a : List Int) (r : TInt) (h : g_r01_made N neg a = some r) : Sound Try.prog 104 [(aB neg), (encL cI 0 a)] [] 0 (.agg (TInt.cells r)) [] := by
  unfold g_r01_made at h
  refine Sound.of_runs (fu := Try.f104) (c := C_56 1) (nt := 31) (by kernel_rfl) (by kernel_rfl) (by kernel_rfl) (by kernel_rfl) (fun hm => rfl) ?_
  intro E hE
  refine Runs.sA 1 [.code (C_56 2), .code (C_56 3)] ?_
  refine Runs.sR hE ⟨[(0, (aB neg)), (1, (encL cI 0 a)), (4, (.op 0 0 0))], [(0, vO 2 [(aB false), .nil])], 16⟩ (C_56 2) [] [] (kp [0, 1, 4]) (kq [0]) 16 [] trivial ?_
  refine Runs.sA 1 [.code (C_56 6), .code (C_56 7)] ?_
  refine Runs.sR hE ⟨[(1, (encL cI 0 a)), (4, (.op 0 0 0)), (5, (.op 128 0 0))], [(0, vO 2 [(aB false), .nil]), (128, vO 2 [(aB (cond neg (decide (((a.length : Nat) : Int) > 0)) false)), .nil])], 160⟩ (C_56 6) [] [] (kp [1, 4, 5]) (kq [0, 128]) 160 [neg = true → AllP [neg = true], neg = true → AllP [neg = true], neg = true → AllP [neg = true], 0 < 1] ⟨(fun hg => ⟨hg, trivial⟩), (fun hg => ⟨hg, trivial⟩), (fun hq => ⟨hq, trivial⟩), o1, trivial⟩ ?_
  refine Runs.sA 2 [.code (C_56 28), .code (C_56 29), .code (C_56 15)] ?_
  refine Runs.sR hE ⟨[(1, (encL cI 0 a)), (4, (.op 0 0 0)), (5, (.op 128 0 0)), (6, (aI 0))], [(0, vO 2 [(aB false), .nil]), (128, vO 2 [(aB (cond neg (decide (((a.length : Nat) : Int) > 0)) false)), .nil])], 176⟩ (C_56 28) [] [] (kp [1, 4, 5, 6]) (kq [0, 128]) 176 [] trivial ?_
  refine Runs.sA 2 [.code (C_56 116), .inLoop (C_56 116), .inBlock 0, .code (C_56 15)] ?_
  exact Runs.sW hE _ [] (kp [1, 4, 5, 6]) (kq [0] ++ [(1, .var 128 [.keep, .nilos 2]), (2, .nil 1 (fun zi => (cU .u16) (([] : List Int).getD zi 0)))]) 3 [] trivial (g_r01_made_L1_ok N neg a N ([] : List Int) 0 _ h E hE)
noncomputable def C_55 (n : Nat) : Code := cat (bodyOf Try.f24) (pth n)
theorem g_r01_Of_L1_ok (N : Nat) (n : Int) (fuel : Nat) : ∀ (a : List Int) (u : Int) (r : TInt), g_r01_Of_L1 N n fuel a u = some r → ∀ E, EnvOk E 0 → Runs Try.prog E 24 25 (SPost E [] (.agg (TInt.cells r))) [.code (C_55 248), .inLoop (C_55 248), .inBlock 0, .code (C_55 63)] ⟨[(0, (aI n)), (2, (.op 0 0 0)), (3, (.os 1 0 a.length)), (4, (.atom (.int .u64 u)))], [(0, vO 2 [(aB false), .nil]), (1, aO 1 cI 0 a)], 2⟩ := by
  induction fuel with
  | zero => intro _ _ r h; rw [g_r01_Of_L1.eq_1] at h; cases h
  | succ fuel ih =>
    intro a u r h E hE
    rw [g_r01_Of_L1.eq_2] at h
    refine Runs.sA 2 [.code (C_55 992), .code (C_55 993), .code (C_55 497), .inLoop (C_55 248), .inBlock 0, .code (C_55 63)] ?_
    refine Runs.sR hE ⟨[(0, (aI n)), (2, (.op 0 0 0)), (3, (.os 1 0 a.length)), (4, (.atom (.int .u64 u))), (12, (aB (decide (u > 0))))], [(0, vO 2 [(aB false), .nil]), (1, aO 1 cI 0 a)], 34⟩ (C_55 992) [] [] (kp [0, 2, 3, 4, 12]) (kq [0, 1]) 34 [] trivial ?_
    refine Runs.sC 12 (C_55 1986) (C_55 1987) (decide (u > 0)) (fun hq3 => ?_) (fun hq3 => ?_)
    · have h := condT h hq3
      refine Runs.sA 3 [.code (C_55 1988), .inBlock 1, .code (C_55 995), .inLoop (C_55 248), .inBlock 0, .code (C_55 63)] ?_
      obtain ⟨c, h⟩ := ifSome h
      refine Runs.sR hE ⟨[(0, (aI n)), (2, (.op 0 0 0)), (3, (.os 114 0 ((a ++ ([(w64 ((u.tmod 65536)))] : List Int)).length))), (4, (.atom (.int .u64 u)))], [(0, vO 2 [(aB false), .nil]), (114, aO 1 cI 0 (a ++ ([(w64 ((u.tmod 65536)))] : List Int)))], 146⟩ (C_55 1988) [] [] (kp [0, 2] ++ [(3, .osl ((a ++ ([(w64 ((u.tmod 65536)))] : List Int)).length))] ++ kp [4]) (kq [0] ++ [(114, .arr 114 ((a ++ ([(w64 ((u.tmod 65536)))] : List Int)).length) (fun zi => cI ((a ++ ([(w64 ((u.tmod 65536)))] : List Int)).getD zi 0)))]) 146 [(65536 : Int) ≠ 0, a.length = a.length, (a.length + 1) * 8 ≤ 140737488355328, 0 + 1 ≤ 1, ∀ zi, zi < 1 → AV.oneL ((fun zi => ([[(aI (w64 ((u.tmod 65536))))]] : List (List AV)).getD zi []) (addz 0 zi)) = true, (a.length + 1) = (a ++ ([(w64 ((u.tmod 65536)))] : List Int)).length, a.length + 1 = (a ++ ([(w64 ((u.tmod 65536)))] : List Int)).length, ∀ zi, zi < (a ++ ([(w64 ((u.tmod 65536)))] : List Int)).length → (fun zi => cI ((a ++ ([(w64 ((u.tmod 65536)))] : List Int)).getD zi 0)) zi = ((fun zm => if zm < a.length then (fun zi => cI (a.getD zi 0)) zm else (fun zi => ([[(aI (w64 ((u.tmod 65536))))]] : List (List AV)).getD zi []) (zm - a.length))) zi] ⟨(by decide), rfl, c, z0, (oneN rfl), (len_app_raw rfl rfl), (len_app_raw rfl rfl), (get_app_raw cI 0 a ([(w64 ((u.tmod 65536)))] : List Int) rfl (fun _ _ => rfl) (fun zq hzq => get_chunk cI 0 ([(w64 ((u.tmod 65536)))] : List Int) zq hzq)), trivial⟩ ?_
      refine Runs.sA 1 [.code (C_55 995), .inLoop (C_55 248), .inBlock 0, .code (C_55 63)] ?_
      refine Runs.sR hE ⟨[(0, (aI n)), (2, (.op 0 0 0)), (3, (.os 114 0 ((a ++ ([(w64 ((u.tmod 65536)))] : List Int)).length))), (4, (.atom (.int .u64 (IntKind.u64.wrap (u.tdiv 65536)))))], [(0, vO 2 [(aB false), .nil]), (114, aO 1 cI 0 (a ++ ([(w64 ((u.tmod 65536)))] : List Int)))], 194⟩ (C_55 995) [] [] (kp [0, 2, 3, 4]) (kq [0, 114]) 194 [(65536 : Int) ≠ 0] ⟨(by decide), trivial⟩ ?_
      refine Runs.sA 1 [.code (C_55 248), .inLoop (C_55 248), .inBlock 0, .code (C_55 63)] ?_
      exact Runs.sW hE _ [] (kp [0, 2, 3, 4]) (kq [0] ++ [(1, .keep 114)]) 2 [] trivial (ih (a ++ ([(w64 ((u.tmod 65536)))] : List Int)) (IntKind.u64.wrap (u.tdiv 65536)) _ h E hE)
    · have h := condF h hq3
      refine Runs.sA 2 [.code (C_55 126), .code (C_55 127)] ?_
      obtain ⟨rmade, hr, h⟩ := bindSome h
      refine Runs.sR hE ⟨[(2, (.op 0 0 0))], [(0, vO 2 (TInt.cells rmade))], 114⟩ (C_55 126) [(3, ⟨[], true, (.agg (TInt.cells rmade)), [], 0, true, none⟩)] [] (kp [2]) (kq [0]) 114 [Sound Try.prog 104 [(aB (decide (n < 0))), (encL cI 0 a)] [] 0 (.agg (TInt.cells rmade)) [], 0 + a.length ≤ a.length, 0 < 1] ⟨(g_r01_made_ok N (decide (n < 0)) a rmade hr), z0, o1, trivial⟩ ?_
      obtain rfl := Option.some.inj h
      refine Runs.sW hE ⟨[(2, (.op 16 0 0))], [(16, vO 2 (TInt.cells rmade))], 114⟩ [] (kp [2]) [(16, .keep 0)] 114 [] trivial ?_
      exact Runs.sT Try.f24 [16] [0 < 1] ⟨o1, trivial⟩
theorem g_r01_Of_ok (N : Nat) (n : Int) (r : TInt) (h : g_r01_Of N n = some r) : Sound Try.prog 24 [(aI n)] [] 0 (.agg (TInt.cells r)) [] := by
  unfold g_r01_Of at h
  refine Sound.of_runs (fu := Try.f24) (c := C_55 1) (nt := 25) (by kernel_rfl) (by kernel_rfl) (by kernel_rfl) (by kernel_rfl) (fun hm => rfl) ?_
  intro E hE
  refine Runs.sA 1 [.code (C_55 2), .code (C_55 3)] ?_
  refine Runs.sR hE ⟨[(0, (aI n)), (2, (.op 0 0 0))], [(0, vO 2 [(aB false), .nil])], 16⟩ (C_55 2) [] [] (kp [0, 2]) (kq [0]) 16 [] trivial ?_
  refine Runs.sA 1 [.code (C_55 6), .code (C_55 7)] ?_
  refine Runs.sR hE ⟨[(0, (aI n)), (2, (.op 0 0 0)), (3, .nil)], [(0, vO 2 [(aB false), .nil])], 32⟩ (C_55 6) [] [] (kp [0, 2, 3]) (kq [0]) 32 [] trivial ?_
  refine Runs.sA 1 [.code (C_55 14), .code (C_55 15)] ?_
  refine Runs.sR hE ⟨[(0, (aI n)), (2, (.op 0 0 0)), (3, .nil), (4, (.atom (.int .u64 (IntKind.u64.wrap (n)))))], [(0, vO 2 [(aB false), .nil])], 80⟩ (C_55 14) [] [] (kp [0, 2, 3, 4]) (kq [0]) 80 [] trivial ?_
  refine Runs.sA 2 [.code (C_55 60), .code (C_55 61), .code (C_55 31)] ?_
  refine Runs.sR hE ⟨[(0, (aI n)), (2, (.op 0 0 0)), (3, .nil), (4, (.atom (.int .u64 (IntKind.u64.wrap (n))))), (8, (aB (decide (n < 0))))], [(0, vO 2 [(aB false), .nil])], 112⟩ (C_55 60) [] [] (kp [0, 2, 3, 4, 8]) (kq [0]) 112 [] trivial ?_
  refine Runs.sC 8 (C_55 122) (C_55 123) (decide (n < 0)) (fun hq2 => ?_) (fun hq2 => ?_)
  · have h := condT h hq2
    refine Runs.sR hE ⟨[(0, (aI n)), (2, (.op 0 0 0)), (3, .nil), (4, (.atom (.int .u64 (IntKind.u64.wrap (0 - (IntKind.u64.wrap (n)))))))], [(0, vO 2 [(aB false), .nil])], 160⟩ (C_55 122) [] [] (kp [0, 2, 3, 4]) (kq [0]) 160 [] trivial ?_
    refine Runs.sA 3 [.code (C_55 248), .inLoop (C_55 248), .inBlock 0, .code (C_55 63)] ?_
    exact Runs.sW hE _ [] (kp [0, 2] ++ [(3, .nilos 1)] ++ kp [4]) (kq [0] ++ [(1, .nil 1 (fun zi => cI (([] : List Int).getD zi 0)))]) 2 [] trivial (g_r01_Of_L1_ok N n N ([] : List Int) (IntKind.u64.wrap (0 - (IntKind.u64.wrap (n)))) _ h E hE)
  · have h := condF h hq2
    refine Runs.sA 4 [.code (C_55 248), .inLoop (C_55 248), .inBlock 0, .code (C_55 63)] ?_
    exact Runs.sW hE _ [] (kp [0, 2] ++ [(3, .nilos 1)] ++ kp [4]) (kq [0] ++ [(1, .nil 1 (fun zi => cI (([] : List Int).getD zi 0)))]) 2 [] trivial (g_r01_Of_L1_ok N n N ([] : List Int) (IntKind.u64.wrap (n)) _ h E hE)
noncomputable def C_59 (n : Nat) : Code := cat (bodyOf Try.f109) (pth n)
theorem g_r01_Neg_ok (N : Nat) (a : TInt) (r : TInt) (h : g_r01_Neg N a = some r) : Sound Try.prog 109 [(.agg (TInt.cells a))] [] 0 (.agg (TInt.cells r)) [] := by
  unfold g_r01_Neg at h
  refine Sound.of_runs (fu := Try.f109) (c := C_59 1) (nt := 10) (by kernel_rfl) (by kernel_rfl) (by kernel_rfl) (by kernel_rfl) (fun hm => rfl) ?_
  intro E hE
  refine Runs.sA 1 [.code (C_59 2), .code (C_59 3)] ?_
  refine Runs.sR hE ⟨[(1, (.op 0 0 0)), (2, (.op 16 0 0))], [(0, vO 2 (TInt.cells a)), (16, vO 2 [(aB false), .nil])], 32⟩ (C_59 2) [] [] (kp [1, 2]) (kq [0, 16]) 32 [] trivial ?_
  refine Runs.sA 1 [.code (C_59 6), .code (C_59 7)] ?_
  obtain ⟨rread, hr, h⟩ := bindSome h
  obtain ⟨rmade, hr2, h⟩ := bindSome h
  refine Runs.sR hE ⟨[(2, (.op 16 0 0))], [(16, vO 2 (TInt.cells rmade))], 160⟩ (C_59 6) [(5, ⟨[], true, (encL cI 0 rread), [], 0, false, none⟩), (6, ⟨[], true, (.agg (TInt.cells rmade)), [], 0, false, none⟩)] [] (kp [2]) (kq [16]) 160 [0 < 1, 0 < 1, Sound Try.prog 103 [(encL (cU .u16) 0 a.f_Limbs)] [] 0 (encL cI 0 rread) [], Sound Try.prog 104 [(aB (!a.f_Neg)), (encL cI 0 rread)] [] 0 (.agg (TInt.cells rmade)) [], 0 < 1] ⟨o1, o1, (g_r01_read_ok N a.f_Limbs rread hr), (g_r01_made_ok N (!a.f_Neg) rread rmade hr2), o1, trivial⟩ ?_
  obtain rfl := Option.some.inj h
  refine Runs.sW hE ⟨[(2, (.op 16 0 0))], [(16, vO 2 (TInt.cells rmade))], 160⟩ [] (kp [2]) (kq [16]) 160 [] trivial ?_
  exact Runs.sT Try.f109 [16] [0 < 1] ⟨o1, trivial⟩
noncomputable def C_62 (n : Nat) : Code := cat (bodyOf Try.f157) (pth n)
theorem g_r01_digit_ok (N : Nat) (a : List Int) (i : Int) (r : Int) (h : g_r01_digit N a i = some r) : Sound Try.prog 157 [(encL cI 0 a), (aI i)] [] 0 (aI r) [] := by
  unfold g_r01_digit at h
  refine Sound.of_runs (fu := Try.f157) (c := C_62 1) (nt := 13) (by kernel_rfl) (by kernel_rfl) (by kernel_rfl) (by kernel_rfl) (fun hm => rfl) ?_
  intro E hE
  refine Runs.sA 1 [.code (C_62 2), .code (C_62 3)] ?_
  refine Runs.sR hE ⟨[(0, (encL cI 0 a)), (1, (aI i))], [], 16⟩ (C_62 2) [] [] (kp [0, 1]) [] 16 [] trivial ?_
  refine Runs.sA 2 [.code (C_62 12), .code (C_62 13), .code (C_62 7)] ?_
  refine Runs.sR hE ⟨[(0, (encL cI 0 a)), (1, (aI i)), (8, (aB (decide (i < ((a.length : Nat) : Int)))))], [], 80⟩ (C_62 12) [] [] (kp [0, 1, 8]) [] 80 [] trivial ?_
  refine Runs.sC 8 (C_62 26) (C_62 27) (decide (i < ((a.length : Nat) : Int))) (fun hq2 => ?_) (fun hq2 => ?_)
  · have h := condT h hq2
    refine Runs.sA 1 [.code (C_62 52), .code (C_62 53), .code (C_62 7)] ?_
    obtain ⟨c, h⟩ := ifSome h
    refine Runs.sR hE ⟨[(4, (aI (a.getD ((i).toNat) 0)))], [], 160⟩ (C_62 52) [] [] (kp [4]) [] 160 [0 ≤ i ∧ i < ((a.length : Nat) : Int)] ⟨c, trivial⟩ ?_
    obtain rfl := Option.some.inj h
    refine Runs.sW hE ⟨[(4, (aI (a.getD ((i).toNat) 0)))], [], 160⟩ [] (kp [4]) [] 160 [] trivial ?_
    exact Runs.sT Try.f157 [] [] trivial
  · have h := condF h hq2
    refine Runs.sA 2 [.code (C_62 14), .code (C_62 15)] ?_
    refine Runs.sR hE ⟨[(4, (aI 0))], [], 96⟩ (C_62 14) [] [] (kp [4]) [] 96 [] trivial ?_
    obtain rfl := Option.some.inj h
    refine Runs.sW hE ⟨[(4, (aI 0))], [], 96⟩ [] (kp [4]) [] 96 [] trivial ?_
    exact Runs.sT Try.f157 [] [] trivial
noncomputable def C_61 (n : Nat) : Code := cat (bodyOf Try.f106) (pth n)
theorem g_r01_plus_L1_ok (N : Nat) (a : List Int) (b : List Int) (fuel : Nat) : ∀ (out : List Int) (carry : Int) (i : Int) (r : (List Int)), g_r01_plus_L1 N a b fuel out carry i = some r → ∀ E, EnvOk E 0 → Runs Try.prog E 106 43 (SPost E [] (encL cI 0 r)) [.code (C_61 244), .inLoop (C_61 244), .inBlock 0, .code (C_61 31)] ⟨[(0, (encL cI 0 a)), (1, (encL cI 0 b)), (5, (.os 0 0 out.length)), (6, (aI carry)), (7, (aI i))], [(0, aO 1 cI 0 out)], 1⟩ := by
  induction fuel with
  | zero => intro _ _ _ r h; rw [g_r01_plus_L1.eq_1] at h; cases h
  | succ fuel ih =>
    intro out carry i r h E hE
    rw [g_r01_plus_L1.eq_2] at h
    refine Runs.sA 2 [.code (C_61 976), .code (C_61 977), .code (C_61 489), .inLoop (C_61 244), .inBlock 0, .code (C_61 31)] ?_
    refine Runs.sR hE ⟨[(0, (encL cI 0 a)), (1, (encL cI 0 b)), (5, (.os 0 0 out.length)), (6, (aI carry)), (7, (aI i)), (22, (aB (cond (cond (decide (i < ((a.length : Nat) : Int))) true (decide (i < ((b.length : Nat) : Int)))) true (decide (carry > 0)))))], [(0, aO 1 cI 0 out)], 225⟩ (C_61 976) [] [] (kp [0, 1, 5, 6, 7, 22]) (kq [0]) 225 [(!(decide (i < ((a.length : Nat) : Int)))) = true → AllP [(!(decide (i < ((a.length : Nat) : Int)))) = true], (!(decide (i < ((a.length : Nat) : Int)))) = true → AllP [(!(decide (i < ((a.length : Nat) : Int)))) = true, (!(decide (i < ((a.length : Nat) : Int)))) = true], (!(decide (i < ((a.length : Nat) : Int)))) = true → AllP [(!(decide (i < ((a.length : Nat) : Int)))) = true], (!(cond (decide (i < ((a.length : Nat) : Int))) true (decide (i < ((b.length : Nat) : Int))))) = true → AllP [(!(cond (decide (i < ((a.length : Nat) : Int))) true (decide (i < ((b.length : Nat) : Int))))) = true], (!(cond (decide (i < ((a.length : Nat) : Int))) true (decide (i < ((b.length : Nat) : Int))))) = true → AllP [(!(cond (decide (i < ((a.length : Nat) : Int))) true (decide (i < ((b.length : Nat) : Int))))) = true]] ⟨(fun hg => ⟨hg, trivial⟩), (fun hg => ⟨hg, hg, trivial⟩), (fun hq => ⟨hq, trivial⟩), (fun hg => ⟨hg, trivial⟩), (fun hq => ⟨hq, trivial⟩), trivial⟩ ?_
    refine Runs.sC 22 (C_61 1954) (C_61 1955) (cond (cond (decide (i < ((a.length : Nat) : Int))) true (decide (i < ((b.length : Nat) : Int)))) true (decide (carry > 0))) (fun hq2 => ?_) (fun hq2 => ?_)
    · have h := condT h hq2
      refine Runs.sA 4 [.code (C_61 3912), .code (C_61 3913), .inBlock 1, .code (C_61 979), .inLoop (C_61 244), .inBlock 0, .code (C_61 31)] ?_
      obtain ⟨rdigit, hr, h⟩ := bindSome h
      obtain ⟨rdigit2, hr2, h⟩ := bindSome h
      refine Runs.sR hE ⟨[(0, (encL cI 0 a)), (1, (encL cI 0 b)), (5, (.os 0 0 out.length)), (7, (aI i)), (8, (aI (w64 ((w64 (rdigit + rdigit2)) + carry))))], [(0, aO 1 cI 0 out)], 385⟩ (C_61 3912) [(2, ⟨[], true, (aI rdigit), [], 0, false, none⟩), (5, ⟨[], true, (aI rdigit2), [], 0, false, none⟩)] [] (kp [0, 1, 5, 7, 8]) (kq [0]) 385 [Sound Try.prog 157 [(encL cI 0 a), (aI i)] [] 0 (aI rdigit) [], Sound Try.prog 157 [(encL cI 0 b), (aI i)] [] 0 (aI rdigit2) []] ⟨(g_r01_digit_ok N a i rdigit hr), (g_r01_digit_ok N b i rdigit2 hr2), trivial⟩ ?_
      refine Runs.sA 1 [.code (C_61 7826), .code (C_61 7827), .inBlock 1, .code (C_61 979), .inLoop (C_61 244), .inBlock 0, .code (C_61 31)] ?_
      obtain ⟨c, h⟩ := ifSome h
      refine Runs.sR hE ⟨[(0, (encL cI 0 a)), (1, (encL cI 0 b)), (5, (.os 449 0 ((out ++ ([((w64 ((w64 (rdigit + rdigit2)) + carry)).tmod 65536)] : List Int)).length))), (7, (aI i)), (8, (aI (w64 ((w64 (rdigit + rdigit2)) + carry))))], [(449, aO 1 cI 0 (out ++ ([((w64 ((w64 (rdigit + rdigit2)) + carry)).tmod 65536)] : List Int)))], 481⟩ (C_61 7826) [] [] (kp [0, 1] ++ [(5, .osl ((out ++ ([((w64 ((w64 (rdigit + rdigit2)) + carry)).tmod 65536)] : List Int)).length))] ++ kp [7, 8]) [(449, .arr 449 ((out ++ ([((w64 ((w64 (rdigit + rdigit2)) + carry)).tmod 65536)] : List Int)).length) (fun zi => cI ((out ++ ([((w64 ((w64 (rdigit + rdigit2)) + carry)).tmod 65536)] : List Int)).getD zi 0)))] 481 [(65536 : Int) ≠ 0, out.length = out.length, (out.length + 1) * 8 ≤ 140737488355328, 0 + 1 ≤ 1, ∀ zi, zi < 1 → AV.oneL ((fun zi => ([[(aI ((w64 ((w64 (rdigit + rdigit2)) + carry)).tmod 65536))]] : List (List AV)).getD zi []) (addz 0 zi)) = true, (out.length + 1) = (out ++ ([((w64 ((w64 (rdigit + rdigit2)) + carry)).tmod 65536)] : List Int)).length, out.length + 1 = (out ++ ([((w64 ((w64 (rdigit + rdigit2)) + carry)).tmod 65536)] : List Int)).length, ∀ zi, zi < (out ++ ([((w64 ((w64 (rdigit + rdigit2)) + carry)).tmod 65536)] : List Int)).length → (fun zi => cI ((out ++ ([((w64 ((w64 (rdigit + rdigit2)) + carry)).tmod 65536)] : List Int)).getD zi 0)) zi = ((fun zm => if zm < out.length then (fun zi => cI (out.getD zi 0)) zm else (fun zi => ([[(aI ((w64 ((w64 (rdigit + rdigit2)) + carry)).tmod 65536))]] : List (List AV)).getD zi []) (zm - out.length))) zi] ⟨(by decide), rfl, c, z0, (oneN rfl), (len_app_raw rfl rfl), (len_app_raw rfl rfl), (get_app_raw cI 0 out ([((w64 ((w64 (rdigit + rdigit2)) + carry)).tmod 65536)] : List Int) rfl (fun _ _ => rfl) (fun zq hzq => get_chunk cI 0 ([((w64 ((w64 (rdigit + rdigit2)) + carry)).tmod 65536)] : List Int) zq hzq)), trivial⟩ ?_
      refine Runs.sR hE ⟨[(0, (encL cI 0 a)), (1, (encL cI 0 b)), (5, (.os 449 0 ((out ++ ([((w64 ((w64 (rdigit + rdigit2)) + carry)).tmod 65536)] : List Int)).length))), (6, (aI (w64 ((w64 ((w64 (rdigit + rdigit2)) + carry)).tdiv 65536)))), (7, (aI i))], [(449, aO 1 cI 0 (out ++ ([((w64 ((w64 (rdigit + rdigit2)) + carry)).tmod 65536)] : List Int)))], 529⟩ (C_61 7827) [] [] (kp [0, 1, 5, 6, 7]) (kq [449]) 529 [(65536 : Int) ≠ 0] ⟨(by decide), trivial⟩ ?_
      refine Runs.sA 1 [.code (C_61 979), .inLoop (C_61 244), .inBlock 0, .code (C_61 31)] ?_
      refine Runs.sR hE ⟨[(0, (encL cI 0 a)), (1, (encL cI 0 b)), (5, (.os 449 0 ((out ++ ([((w64 ((w64 (rdigit + rdigit2)) + carry)).tmod 65536)] : List Int)).length))), (6, (aI (w64 ((w64 ((w64 (rdigit + rdigit2)) + carry)).tdiv 65536)))), (7, (aI (w64 (i + 1))))], [(449, aO 1 cI 0 (out ++ ([((w64 ((w64 (rdigit + rdigit2)) + carry)).tmod 65536)] : List Int)))], 577⟩ (C_61 979) [] [] (kp [0, 1, 5, 6, 7]) (kq [449]) 577 [] trivial ?_
      refine Runs.sA 1 [.code (C_61 244), .inLoop (C_61 244), .inBlock 0, .code (C_61 31)] ?_
      exact Runs.sW hE _ [] (kp [0, 1, 5, 6, 7]) [(0, .keep 449)] 1 [] trivial (ih (out ++ ([((w64 ((w64 (rdigit + rdigit2)) + carry)).tmod 65536)] : List Int)) (w64 ((w64 ((w64 (rdigit + rdigit2)) + carry)).tdiv 65536)) (w64 (i + 1)) _ h E hE)
    · have h := condF h hq2
      refine Runs.sA 2 [.code (C_61 62), .code (C_61 63)] ?_
      obtain ⟨rtrim, hr3, h⟩ := bindSome h
      refine Runs.sR hE ⟨[(4, (encL cI 0 rtrim))], [], 273⟩ (C_61 62) [(1, ⟨[], true, (encL cI 0 rtrim), [], 0, true, none⟩)] [] (kp [4]) [] 273 [Sound Try.prog 156 [(encL cI 0 out)] [] 0 (encL cI 0 rtrim) [], 0 + out.length ≤ out.length] ⟨(g_r01_trim_ok N out rtrim hr3), z0, trivial⟩ ?_
      obtain rfl := Option.some.inj h
      refine Runs.sW hE ⟨[(4, (encL cI 0 rtrim))], [], 273⟩ [] (kp [4]) [] 273 [] trivial ?_
      exact Runs.sT Try.f106 [] [] trivial
theorem g_r01_plus_ok (N : Nat) (a : List Int) (b : List Int) (r : (List Int)) (h : g_r01_plus N a b = some r) : Sound Try.prog 106 [(encL cI 0 a), (encL cI 0 b)] [] 0 (encL cI 0 r) [] := by
  unfold g_r01_plus at h
  refine Sound.of_runs (fu := Try.f106) (c := C_61 1) (nt := 43) (by kernel_rfl) (by kernel_rfl) (by kernel_rfl) (by kernel_rfl) (fun hm => rfl) ?_
  intro E hE
  refine Runs.sA 1 [.code (C_61 2), .code (C_61 3)] ?_
  refine Runs.sR hE ⟨[(0, (encL cI 0 a)), (1, (encL cI 0 b))], [], 16⟩ (C_61 2) [] [] (kp [0, 1]) [] 16 [] trivial ?_
  refine Runs.sA 1 [.code (C_61 6), .code (C_61 7)] ?_
  refine Runs.sR hE ⟨[(0, (encL cI 0 a)), (1, (encL cI 0 b)), (5, .nil)], [], 32⟩ (C_61 6) [] [] (kp [0, 1, 5]) [] 32 [] trivial ?_
  refine Runs.sA 1 [.code (C_61 14), .code (C_61 15)] ?_
  refine Runs.sR hE ⟨[(0, (encL cI 0 a)), (1, (encL cI 0 b)), (5, .nil), (6, (aI 0))], [], 48⟩ (C_61 14) [] [] (kp [0, 1, 5, 6]) [] 48 [] trivial ?_
  refine Runs.sA 2 [.code (C_61 60), .code (C_61 61), .code (C_61 31)] ?_
  refine Runs.sR hE ⟨[(0, (encL cI 0 a)), (1, (encL cI 0 b)), (5, .nil), (6, (aI 0)), (7, (aI 0))], [], 64⟩ (C_61 60) [] [] (kp [0, 1, 5, 6, 7]) [] 64 [] trivial ?_
  refine Runs.sA 2 [.code (C_61 244), .inLoop (C_61 244), .inBlock 0, .code (C_61 31)] ?_
  exact Runs.sW hE _ [] (kp [0, 1] ++ [(5, .nilos 0)] ++ kp [6, 7]) [(0, .nil 1 (fun zi => cI (([] : List Int).getD zi 0)))] 1 [] trivial (g_r01_plus_L1_ok N a b N ([] : List Int) 0 0 _ h E hE)
noncomputable def C_63 (n : Nat) : Code := cat (bodyOf Try.f107) (pth n)
theorem g_r01_compare_L1_ok (N : Nat) (a : List Int) (b : List Int) (fuel : Nat) : ∀ (i : Int) (r : Int), g_r01_compare_L1 N a b fuel i = some r → ∀ E, EnvOk E 0 → Runs Try.prog E 107 41 (SPost E [] (aI r)) [.code (C_63 116), .inLoop (C_63 116), .inBlock 0, .code (C_63 15)] ⟨[(0, (encL cI 0 a)), (1, (encL cI 0 b)), (5, (aI i))], [], 0⟩ := by
  induction fuel with
  | zero => intro _ r h; rw [g_r01_compare_L1.eq_1] at h; cases h
  | succ fuel ih =>
    intro i r h E hE
    rw [g_r01_compare_L1.eq_2] at h
    refine Runs.sA 2 [.code (C_63 464), .code (C_63 465), .code (C_63 233), .inLoop (C_63 116), .inBlock 0, .code (C_63 15)] ?_
    refine Runs.sR hE ⟨[(0, (encL cI 0 a)), (1, (encL cI 0 b)), (5, (aI i)), (20, (aB (decide (i ≥ 0))))], [], 32⟩ (C_63 464) [] [] (kp [0, 1, 5, 20]) [] 32 [] trivial ?_
    refine Runs.sC 20 (C_63 930) (C_63 931) (decide (i ≥ 0)) (fun hq3 => ?_) (fun hq3 => ?_)
    · have h := condT h hq3
      refine Runs.sA 4 [.code (C_63 1864), .code (C_63 1865), .inBlock 1, .code (C_63 467), .inLoop (C_63 116), .inBlock 0, .code (C_63 15)] ?_
      obtain ⟨c, h⟩ := ifSome h
      obtain ⟨c2, h⟩ := ifSome h
      refine Runs.sR hE ⟨[(0, (encL cI 0 a)), (1, (encL cI 0 b)), (5, (aI i)), (31, (aB ((a.getD ((i).toNat) 0) != (b.getD ((i).toNat) 0))))], [], 176⟩ (C_63 1864) [] [] (kp [0, 1, 5, 31]) [] 176 [0 ≤ i ∧ i < ((a.length : Nat) : Int), 0 ≤ i ∧ i < ((b.length : Nat) : Int)] ⟨c, c2, trivial⟩ ?_
      refine Runs.sC 31 (C_63 3730) (C_63 3731) ((a.getD ((i).toNat) 0) != (b.getD ((i).toNat) 0)) (fun hq4 => ?_) (fun hq4 => ?_)
      · have h := condT h hq4
        refine Runs.sA 1 [.code (C_63 7460), .code (C_63 7461), .inBlock 1, .code (C_63 467), .inLoop (C_63 116), .inBlock 0, .code (C_63 15)] ?_
        refine Runs.sR hE ⟨[(4, (aI (w64 ((a.getD ((i).toNat) 0) - (b.getD ((i).toNat) 0)))))], [], 336⟩ (C_63 7460) [] [] (kp [4]) [] 336 [0 ≤ i ∧ i < ((a.length : Nat) : Int), 0 ≤ i ∧ i < ((b.length : Nat) : Int)] ⟨c, c2, trivial⟩ ?_
        obtain rfl := Option.some.inj h
        refine Runs.sW hE ⟨[(4, (aI (w64 ((a.getD ((i).toNat) 0) - (b.getD ((i).toNat) 0)))))], [], 336⟩ [] (kp [4]) [] 336 [] trivial ?_
        exact Runs.sT Try.f107 [] [] trivial
      · have h := condF h hq4
        refine Runs.sA 2 [.code (C_63 467), .inLoop (C_63 116), .inBlock 0, .code (C_63 15)] ?_
        refine Runs.sR hE ⟨[(0, (encL cI 0 a)), (1, (encL cI 0 b)), (5, (aI (w64 (i - 1))))], [], 224⟩ (C_63 467) [] [] (kp [0, 1, 5]) [] 224 [] trivial ?_
        refine Runs.sA 1 [.code (C_63 116), .inLoop (C_63 116), .inBlock 0, .code (C_63 15)] ?_
        exact Runs.sW hE _ [] (kp [0, 1, 5]) [] 0 [] trivial (ih (w64 (i - 1)) _ h E hE)
    · have h := condF h hq3
      refine Runs.sA 2 [.code (C_63 30), .code (C_63 31)] ?_
      refine Runs.sR hE ⟨[(4, (aI 0))], [], 48⟩ (C_63 30) [] [] (kp [4]) [] 48 [] trivial ?_
      obtain rfl := Option.some.inj h
      refine Runs.sW hE ⟨[(4, (aI 0))], [], 48⟩ [] (kp [4]) [] 48 [] trivial ?_
      exact Runs.sT Try.f107 [] [] trivial
theorem g_r01_compare_ok (N : Nat) (a : List Int) (b : List Int) (r : Int) (h : g_r01_compare N a b = some r) : Sound Try.prog 107 [(encL cI 0 a), (encL cI 0 b)] [] 0 (aI r) [] := by
  unfold g_r01_compare at h
  refine Sound.of_runs (fu := Try.f107) (c := C_63 1) (nt := 41) (by kernel_rfl) (by kernel_rfl) (by kernel_rfl) (by kernel_rfl) (fun hm => rfl) ?_
  intro E hE
  refine Runs.sA 1 [.code (C_63 2), .code (C_63 3)] ?_
  refine Runs.sR hE ⟨[(0, (encL cI 0 a)), (1, (encL cI 0 b))], [], 16⟩ (C_63 2) [] [] (kp [0, 1]) [] 16 [] trivial ?_
  refine Runs.sA 2 [.code (C_63 12), .code (C_63 13), .code (C_63 7)] ?_
  refine Runs.sR hE ⟨[(0, (encL cI 0 a)), (1, (encL cI 0 b)), (10, (aB (((a.length : Nat) : Int) != ((b.length : Nat) : Int))))], [], 96⟩ (C_63 12) [] [] (kp [0, 1, 10]) [] 96 [] trivial ?_
  refine Runs.sC 10 (C_63 26) (C_63 27) (((a.length : Nat) : Int) != ((b.length : Nat) : Int)) (fun hq2 => ?_) (fun hq2 => ?_)
  · have h := condT h hq2
    refine Runs.sA 1 [.code (C_63 52), .code (C_63 53), .code (C_63 7)] ?_
    refine Runs.sR hE ⟨[(4, (aI (w64 (((a.length : Nat) : Int) - ((b.length : Nat) : Int)))))], [], 192⟩ (C_63 52) [] [] (kp [4]) [] 192 [] trivial ?_
    obtain rfl := Option.some.inj h
    refine Runs.sW hE ⟨[(4, (aI (w64 (((a.length : Nat) : Int) - ((b.length : Nat) : Int)))))], [], 192⟩ [] (kp [4]) [] 192 [] trivial ?_
    exact Runs.sT Try.f107 [] [] trivial
  · have h := condF h hq2
    refine Runs.sA 3 [.code (C_63 28), .code (C_63 29), .code (C_63 15)] ?_
    refine Runs.sR hE ⟨[(0, (encL cI 0 a)), (1, (encL cI 0 b)), (5, (aI (w64 (((a.length : Nat) : Int) - 1))))], [], 160⟩ (C_63 28) [] [] (kp [0, 1, 5]) [] 160 [] trivial ?_
    refine Runs.sA 2 [.code (C_63 116), .inLoop (C_63 116), .inBlock 0, .code (C_63 15)] ?_
    exact Runs.sW hE _ [] (kp [0, 1, 5]) [] 0 [] trivial (g_r01_compare_L1_ok N a b N (w64 (((a.length : Nat) : Int) - 1)) _ h E hE)
noncomputable def C_64 (n : Nat) : Code := cat (bodyOf Try.f108) (pth n)
theorem g_r01_minus_J2_ok (N : Nat) (a : List Int) (b : List Int) (out : List Int) (i : Int) (K_g_r01_minus_L1 : (List Int) → Int → Int → Option ((List Int)))
    (hK_g_r01_minus_L1 : ∀ (out : List Int) (borrow : Int) (i : Int) (r : (List Int)), K_g_r01_minus_L1 out borrow i = some r → ∀ E, EnvOk E 0 → Runs Try.prog E 108 35 (SPost E [] (encL cI 0 r)) [.code (C_64 244), .inLoop (C_64 244), .inBlock 0, .code (C_64 31)] ⟨[(0, (encL cI 0 a)), (1, (encL cI 0 b)), (5, (.os 0 0 out.length)), (6, (aI borrow)), (7, (aI i))], [(0, aO 1 cI 0 out)], 1⟩) (borrow2 : Int) (s : Int) (r : (List Int)) (h : g_r01_minus_J2 N a b out i K_g_r01_minus_L1 borrow2 s = some r) : ∀ E, EnvOk E 0 → Runs Try.prog E 108 35 (SPost E [] (encL cI 0 r)) [.code (C_64 15655), .inBlock 1, .code (C_64 979), .inLoop (C_64 244), .inBlock 0, .code (C_64 31)] ⟨[(0, (encL cI 0 a)), (1, (encL cI 0 b)), (5, (.os 0 0 out.length)), (6, (aI borrow2)), (7, (aI i)), (8, (aI s))], [(0, aO 1 cI 0 out)], 1⟩ := by
  intro E hE
  unfold g_r01_minus_J2 at h
  obtain ⟨c2, h⟩ := ifSome h
  refine Runs.sR hE ⟨[(0, (encL cI 0 a)), (1, (encL cI 0 b)), (5, (.os 49 0 ((out ++ ([s] : List Int)).length))), (6, (aI borrow2)), (7, (aI i))], [(49, aO 1 cI 0 (out ++ ([s] : List Int)))], 81⟩ (C_64 15655) [] [] (kp [0, 1] ++ [(5, .osl ((out ++ ([s] : List Int)).length))] ++ kp [6, 7]) [(49, .arr 49 ((out ++ ([s] : List Int)).length) (fun zi => cI ((out ++ ([s] : List Int)).getD zi 0)))] 81 [out.length = out.length, (out.length + 1) * 8 ≤ 140737488355328, 0 + 1 ≤ 1, ∀ zi, zi < 1 → AV.oneL ((fun zi => ([[(aI s)]] : List (List AV)).getD zi []) (addz 0 zi)) = true, (out.length + 1) = (out ++ ([s] : List Int)).length, out.length + 1 = (out ++ ([s] : List Int)).length, ∀ zi, zi < (out ++ ([s] : List Int)).length → (fun zi => cI ((out ++ ([s] : List Int)).getD zi 0)) zi = ((fun zm => if zm < out.length then (fun zi => cI (out.getD zi 0)) zm else (fun zi => ([[(aI s)]] : List (List AV)).getD zi []) (zm - out.length))) zi] ⟨rfl, c2, z0, (oneN rfl), (len_app_raw rfl rfl), (len_app_raw rfl rfl), (get_app_raw cI 0 out ([s] : List Int) rfl (fun _ _ => rfl) (fun zq hzq => get_chunk cI 0 ([s] : List Int) zq hzq)), trivial⟩ ?_
  refine Runs.sA 1 [.code (C_64 979), .inLoop (C_64 244), .inBlock 0, .code (C_64 31)] ?_
  refine Runs.sR hE ⟨[(0, (encL cI 0 a)), (1, (encL cI 0 b)), (5, (.os 49 0 ((out ++ ([s] : List Int)).length))), (6, (aI borrow2)), (7, (aI (w64 (i + 1))))], [(49, aO 1 cI 0 (out ++ ([s] : List Int)))], 129⟩ (C_64 979) [] [] (kp [0, 1, 5, 6, 7]) (kq [49]) 129 [] trivial ?_
  refine Runs.sA 1 [.code (C_64 244), .inLoop (C_64 244), .inBlock 0, .code (C_64 31)] ?_
  exact Runs.sW hE _ [] (kp [0, 1, 5, 6, 7]) [(0, .keep 49)] 1 [] trivial (hK_g_r01_minus_L1 (out ++ ([s] : List Int)) borrow2 (w64 (i + 1)) _ h E hE)
theorem g_r01_minus_L1_ok (N : Nat) (a : List Int) (b : List Int) (fuel : Nat) : ∀ (out : List Int) (borrow : Int) (i : Int) (r : (List Int)), g_r01_minus_L1 N a b fuel out borrow i = some r → ∀ E, EnvOk E 0 → Runs Try.prog E 108 35 (SPost E [] (encL cI 0 r)) [.code (C_64 244), .inLoop (C_64 244), .inBlock 0, .code (C_64 31)] ⟨[(0, (encL cI 0 a)), (1, (encL cI 0 b)), (5, (.os 0 0 out.length)), (6, (aI borrow)), (7, (aI i))], [(0, aO 1 cI 0 out)], 1⟩ := by
  induction fuel with
  | zero => intro _ _ _ r h; rw [g_r01_minus_L1.eq_1] at h; cases h
  | succ fuel ih =>
    intro out borrow i r h E hE
    rw [g_r01_minus_L1.eq_2] at h
    refine Runs.sA 2 [.code (C_64 976), .code (C_64 977), .code (C_64 489), .inLoop (C_64 244), .inBlock 0, .code (C_64 31)] ?_
    refine Runs.sR hE ⟨[(0, (encL cI 0 a)), (1, (encL cI 0 b)), (5, (.os 0 0 out.length)), (6, (aI borrow)), (7, (aI i)), (12, (aB (decide (i < ((a.length : Nat) : Int)))))], [(0, aO 1 cI 0 out)], 65⟩ (C_64 976) [] [] (kp [0, 1, 5, 6, 7, 12]) (kq [0]) 65 [] trivial ?_
    refine Runs.sC 12 (C_64 1954) (C_64 1955) (decide (i < ((a.length : Nat) : Int))) (fun hq2 => ?_) (fun hq2 => ?_)
    · have h := condT h hq2
      refine Runs.sA 4 [.code (C_64 3912), .code (C_64 3913), .inBlock 1, .code (C_64 979), .inLoop (C_64 244), .inBlock 0, .code (C_64 31)] ?_
      obtain ⟨c, h⟩ := ifSome h
      obtain ⟨rdigit, hr, h⟩ := bindSome h
      refine Runs.sR hE ⟨[(0, (encL cI 0 a)), (1, (encL cI 0 b)), (5, (.os 0 0 out.length)), (7, (aI i)), (8, (aI (w64 ((w64 ((a.getD ((i).toNat) 0) - rdigit)) - borrow))))], [(0, aO 1 cI 0 out)], 241⟩ (C_64 3912) [(6, ⟨[], true, (aI rdigit), [], 0, false, none⟩)] [] (kp [0, 1, 5, 7, 8]) (kq [0]) 241 [0 ≤ i ∧ i < ((a.length : Nat) : Int), Sound Try.prog 157 [(encL cI 0 b), (aI i)] [] 0 (aI rdigit) []] ⟨c, (g_r01_digit_ok N b i rdigit hr), trivial⟩ ?_
      refine Runs.sA 1 [.code (C_64 7826), .code (C_64 7827), .inBlock 1, .code (C_64 979), .inLoop (C_64 244), .inBlock 0, .code (C_64 31)] ?_
      refine Runs.sR hE ⟨[(0, (encL cI 0 a)), (1, (encL cI 0 b)), (5, (.os 0 0 out.length)), (6, (aI 0)), (7, (aI i)), (8, (aI (w64 ((w64 ((a.getD ((i).toNat) 0) - rdigit)) - borrow))))], [(0, aO 1 cI 0 out)], 257⟩ (C_64 7826) [] [] (kp [0, 1, 5, 6, 7, 8]) (kq [0]) 257 [] trivial ?_
      refine Runs.sA 2 [.code (C_64 31308), .code (C_64 31309), .code (C_64 15655), .inBlock 1, .code (C_64 979), .inLoop (C_64 244), .inBlock 0, .code (C_64 31)] ?_
      refine Runs.sR hE ⟨[(0, (encL cI 0 a)), (1, (encL cI 0 b)), (5, (.os 0 0 out.length)), (6, (aI 0)), (7, (aI i)), (8, (aI (w64 ((w64 ((a.getD ((i).toNat) 0) - rdigit)) - borrow)))), (26, (aB (decide ((w64 ((w64 ((a.getD ((i).toNat) 0) - rdigit)) - borrow)) < 0))))], [(0, aO 1 cI 0 out)], 289⟩ (C_64 31308) [] [] (kp [0, 1, 5, 6, 7, 8, 26]) (kq [0]) 289 [] trivial ?_
      refine Runs.sC 26 (C_64 62618) (C_64 62619) (decide ((w64 ((w64 ((a.getD ((i).toNat) 0) - rdigit)) - borrow)) < 0)) (fun hq3 => ?_) (fun hq3 => ?_)
      · have h := condT h hq3
        refine Runs.sA 1 [.code (C_64 125236), .code (C_64 125237), .code (C_64 15655), .inBlock 1, .code (C_64 979), .inLoop (C_64 244), .inBlock 0, .code (C_64 31)] ?_
        refine Runs.sR hE ⟨[(0, (encL cI 0 a)), (1, (encL cI 0 b)), (5, (.os 0 0 out.length)), (7, (aI i)), (8, (aI (w64 ((w64 ((w64 ((a.getD ((i).toNat) 0) - rdigit)) - borrow)) + 65536))))], [(0, aO 1 cI 0 out)], 337⟩ (C_64 125236) [] [] (kp [0, 1, 5, 7, 8]) (kq [0]) 337 [] trivial ?_
        refine Runs.sR hE ⟨[(0, (encL cI 0 a)), (1, (encL cI 0 b)), (5, (.os 0 0 out.length)), (6, (aI 1)), (7, (aI i)), (8, (aI (w64 ((w64 ((w64 ((a.getD ((i).toNat) 0) - rdigit)) - borrow)) + 65536))))], [(0, aO 1 cI 0 out)], 353⟩ (C_64 125237) [] [] (kp [0, 1, 5, 6, 7, 8]) (kq [0]) 353 [] trivial ?_
        exact Runs.sW hE _ [] (kp [0, 1, 5, 6, 7, 8]) (kq [0]) 1 [] trivial (g_r01_minus_J2_ok N a b out i (g_r01_minus_L1 N a b fuel) ih 1 (w64 ((w64 ((w64 ((a.getD ((i).toNat) 0) - rdigit)) - borrow)) + 65536)) _ h E hE)
      · have h := condF h hq3
        refine Runs.sA 1 [.code (C_64 15655), .inBlock 1, .code (C_64 979), .inLoop (C_64 244), .inBlock 0, .code (C_64 31)] ?_
        exact Runs.sW hE _ [] (kp [0, 1, 5, 6, 7, 8]) (kq [0]) 1 [] trivial (g_r01_minus_J2_ok N a b out i (g_r01_minus_L1 N a b fuel) ih 0 (w64 ((w64 ((a.getD ((i).toNat) 0) - rdigit)) - borrow)) _ h E hE)
    · have h := condF h hq2
      refine Runs.sA 2 [.code (C_64 62), .code (C_64 63)] ?_
      obtain ⟨rtrim, hr2, h⟩ := bindSome h
      refine Runs.sR hE ⟨[(4, (encL cI 0 rtrim))], [], 113⟩ (C_64 62) [(1, ⟨[], true, (encL cI 0 rtrim), [], 0, true, none⟩)] [] (kp [4]) [] 113 [Sound Try.prog 156 [(encL cI 0 out)] [] 0 (encL cI 0 rtrim) [], 0 + out.length ≤ out.length] ⟨(g_r01_trim_ok N out rtrim hr2), z0, trivial⟩ ?_
      obtain rfl := Option.some.inj h
      refine Runs.sW hE ⟨[(4, (encL cI 0 rtrim))], [], 113⟩ [] (kp [4]) [] 113 [] trivial ?_
      exact Runs.sT Try.f108 [] [] trivial
theorem g_r01_minus_ok (N : Nat) (a : List Int) (b : List Int) (r : (List Int)) (h : g_r01_minus N a b = some r) : Sound Try.prog 108 [(encL cI 0 a), (encL cI 0 b)] [] 0 (encL cI 0 r) [] := by
  unfold g_r01_minus at h
  refine Sound.of_runs (fu := Try.f108) (c := C_64 1) (nt := 35) (by kernel_rfl) (by kernel_rfl) (by kernel_rfl) (by kernel_rfl) (fun hm => rfl) ?_
  intro E hE
  refine Runs.sA 1 [.code (C_64 2), .code (C_64 3)] ?_
  refine Runs.sR hE ⟨[(0, (encL cI 0 a)), (1, (encL cI 0 b))], [], 16⟩ (C_64 2) [] [] (kp [0, 1]) [] 16 [] trivial ?_
  refine Runs.sA 1 [.code (C_64 6), .code (C_64 7)] ?_
  refine Runs.sR hE ⟨[(0, (encL cI 0 a)), (1, (encL cI 0 b)), (5, .nil)], [], 32⟩ (C_64 6) [] [] (kp [0, 1, 5]) [] 32 [] trivial ?_
  refine Runs.sA 1 [.code (C_64 14), .code (C_64 15)] ?_
  refine Runs.sR hE ⟨[(0, (encL cI 0 a)), (1, (encL cI 0 b)), (5, .nil), (6, (aI 0))], [], 48⟩ (C_64 14) [] [] (kp [0, 1, 5, 6]) [] 48 [] trivial ?_
  refine Runs.sA 2 [.code (C_64 60), .code (C_64 61), .code (C_64 31)] ?_
  refine Runs.sR hE ⟨[(0, (encL cI 0 a)), (1, (encL cI 0 b)), (5, .nil), (6, (aI 0)), (7, (aI 0))], [], 64⟩ (C_64 60) [] [] (kp [0, 1, 5, 6, 7]) [] 64 [] trivial ?_
  refine Runs.sA 2 [.code (C_64 244), .inLoop (C_64 244), .inBlock 0, .code (C_64 31)] ?_
  exact Runs.sW hE _ [] (kp [0, 1] ++ [(5, .nilos 0)] ++ kp [6, 7]) [(0, .nil 1 (fun zi => cI (([] : List Int).getD zi 0)))] 1 [] trivial (g_r01_minus_L1_ok N a b N ([] : List Int) 0 0 _ h E hE)
noncomputable def C_60 (n : Nat) : Code := cat (bodyOf Try.f28) (pth n)
theorem g_r01_Add_ok (N : Nat) (a : TInt) (b : TInt) (r : TInt) (h : g_r01_Add N a b = some r) : Sound Try.prog 28 [(.agg (TInt.cells a)), (.agg (TInt.cells b))] [] 0 (.agg (TInt.cells r)) [] := by
  unfold g_r01_Add at h
  refine Sound.of_runs (fu := Try.f28) (c := C_60 1) (nt := 40) (by kernel_rfl) (by kernel_rfl) (by kernel_rfl) (by kernel_rfl) (fun hm => rfl) ?_
  intro E hE
  refine Runs.sA 1 [.code (C_60 2), .code (C_60 3)] ?_
  refine Runs.sR hE ⟨[(2, (.op 0 0 0)), (3, (.op 16 0 0)), (4, (.op 32 0 0))], [(0, vO 2 (TInt.cells a)), (16, vO 2 (TInt.cells b)), (32, vO 2 [(aB false), .nil])], 48⟩ (C_60 2) [] [] (kp [2, 3, 4]) (kq [0, 16, 32]) 48 [] trivial ?_
  refine Runs.sA 1 [.code (C_60 6), .code (C_60 7)] ?_
  obtain ⟨rread, hr, h⟩ := bindSome h
  obtain ⟨rread2, hr2, h⟩ := bindSome h
  refine Runs.sR hE ⟨[(2, (.op 0 0 0)), (3, (.op 16 0 0)), (4, (.op 32 0 0)), (5, (encL cI 0 rread)), (6, (encL cI 0 rread2))], [(0, vO 2 (TInt.cells a)), (16, vO 2 (TInt.cells b)), (32, vO 2 [(aB false), .nil])], 176⟩ (C_60 6) [(2, ⟨[], true, (encL cI 0 rread), [], 0, false, none⟩), (5, ⟨[], true, (encL cI 0 rread2), [], 0, false, none⟩)] [] (kp [2, 3, 4, 5, 6]) (kq [0, 16, 32]) 176 [0 < 1, Sound Try.prog 103 [(encL (cU .u16) 0 a.f_Limbs)] [] 0 (encL cI 0 rread) [], 0 < 1, Sound Try.prog 103 [(encL (cU .u16) 0 b.f_Limbs)] [] 0 (encL cI 0 rread2) []] ⟨o1, (g_r01_read_ok N a.f_Limbs rread hr), o1, (g_r01_read_ok N b.f_Limbs rread2 hr2), trivial⟩ ?_
  refine Runs.sA 2 [.code (C_60 28), .code (C_60 29), .code (C_60 15)] ?_
  refine Runs.sR hE ⟨[(2, (.op 0 0 0)), (3, (.op 16 0 0)), (4, (.op 32 0 0)), (5, (encL cI 0 rread)), (6, (encL cI 0 rread2)), (17, (aB (a.f_Neg == b.f_Neg)))], [(0, vO 2 (TInt.cells a)), (16, vO 2 (TInt.cells b)), (32, vO 2 [(aB false), .nil])], 256⟩ (C_60 28) [] [] (kp [2, 3, 4, 5, 6, 17]) (kq [0, 16, 32]) 256 [0 < 1, 0 < 1] ⟨o1, o1, trivial⟩ ?_
  refine Runs.sC 17 (C_60 58) (C_60 59) (a.f_Neg == b.f_Neg) (fun hq2 => ?_) (fun hq2 => ?_)
  · have h := condT h hq2
    refine Runs.sA 1 [.code (C_60 116), .code (C_60 117), .code (C_60 15)] ?_
    obtain ⟨rplus, hr3, h⟩ := bindSome h
    obtain ⟨rmade, hr4, h⟩ := bindSome h
    refine Runs.sR hE ⟨[(4, (.op 32 0 0))], [(32, vO 2 (TInt.cells rmade))], 368⟩ (C_60 116) [(4, ⟨[], true, (encL cI 0 rplus), [], 0, false, none⟩), (5, ⟨[], true, (.agg (TInt.cells rmade)), [], 0, false, none⟩)] [] (kp [4]) (kq [32]) 368 [0 < 1, Sound Try.prog 106 [(encL cI 0 rread), (encL cI 0 rread2)] [] 0 (encL cI 0 rplus) [], Sound Try.prog 104 [(aB a.f_Neg), (encL cI 0 rplus)] [] 0 (.agg (TInt.cells rmade)) [], 0 < 1] ⟨o1, (g_r01_plus_ok N rread rread2 rplus hr3), (g_r01_made_ok N a.f_Neg rplus rmade hr4), o1, trivial⟩ ?_
    obtain rfl := Option.some.inj h
    refine Runs.sW hE ⟨[(4, (.op 16 0 0))], [(16, vO 2 (TInt.cells rmade))], 368⟩ [] (kp [4]) [(16, .keep 32)] 368 [] trivial ?_
    exact Runs.sT Try.f28 [16] [0 < 1] ⟨o1, trivial⟩
  · have h := condF h hq2
    refine Runs.sA 3 [.code (C_60 60), .code (C_60 61), .code (C_60 31)] ?_
    obtain ⟨rcompare, hr5, h⟩ := bindSome h
    refine Runs.sR hE ⟨[(2, (.op 0 0 0)), (3, (.op 16 0 0)), (4, (.op 32 0 0)), (5, (encL cI 0 rread)), (6, (encL cI 0 rread2)), (27, (aB (decide (rcompare ≥ 0))))], [(0, vO 2 (TInt.cells a)), (16, vO 2 (TInt.cells b)), (32, vO 2 [(aB false), .nil])], 320⟩ (C_60 60) [(2, ⟨[], true, (aI rcompare), [], 0, false, none⟩)] [] (kp [2, 3, 4, 5, 6, 27]) (kq [0, 16, 32]) 320 [Sound Try.prog 107 [(encL cI 0 rread), (encL cI 0 rread2)] [] 0 (aI rcompare) []] ⟨(g_r01_compare_ok N rread rread2 rcompare hr5), trivial⟩ ?_
    refine Runs.sC 27 (C_60 122) (C_60 123) (decide (rcompare ≥ 0)) (fun hq3 => ?_) (fun hq3 => ?_)
    · have h := condT h hq3
      refine Runs.sA 1 [.code (C_60 244), .code (C_60 245), .code (C_60 31)] ?_
      obtain ⟨rminus, hr6, h⟩ := bindSome h
      obtain ⟨rmade2, hr7, h⟩ := bindSome h
      refine Runs.sR hE ⟨[(4, (.op 32 0 0))], [(32, vO 2 (TInt.cells rmade2))], 432⟩ (C_60 244) [(4, ⟨[], true, (encL cI 0 rminus), [], 0, false, none⟩), (5, ⟨[], true, (.agg (TInt.cells rmade2)), [], 0, false, none⟩)] [] (kp [4]) (kq [32]) 432 [0 < 1, Sound Try.prog 108 [(encL cI 0 rread), (encL cI 0 rread2)] [] 0 (encL cI 0 rminus) [], Sound Try.prog 104 [(aB a.f_Neg), (encL cI 0 rminus)] [] 0 (.agg (TInt.cells rmade2)) [], 0 < 1] ⟨o1, (g_r01_minus_ok N rread rread2 rminus hr6), (g_r01_made_ok N a.f_Neg rminus rmade2 hr7), o1, trivial⟩ ?_
      obtain rfl := Option.some.inj h
      refine Runs.sW hE ⟨[(4, (.op 16 0 0))], [(16, vO 2 (TInt.cells rmade2))], 432⟩ [] (kp [4]) [(16, .keep 32)] 432 [] trivial ?_
      exact Runs.sT Try.f28 [16] [0 < 1] ⟨o1, trivial⟩
    · have h := condF h hq3
      refine Runs.sA 2 [.code (C_60 62), .code (C_60 63)] ?_
      obtain ⟨rminus2, hr8, h⟩ := bindSome h
      obtain ⟨rmade3, hr9, h⟩ := bindSome h
      refine Runs.sR hE ⟨[(4, (.op 32 0 0))], [(32, vO 2 (TInt.cells rmade3))], 432⟩ (C_60 62) [(4, ⟨[], true, (encL cI 0 rminus2), [], 0, false, none⟩), (5, ⟨[], true, (.agg (TInt.cells rmade3)), [], 0, false, none⟩)] [] (kp [4]) (kq [32]) 432 [0 < 1, Sound Try.prog 108 [(encL cI 0 rread2), (encL cI 0 rread)] [] 0 (encL cI 0 rminus2) [], Sound Try.prog 104 [(aB b.f_Neg), (encL cI 0 rminus2)] [] 0 (.agg (TInt.cells rmade3)) [], 0 < 1] ⟨o1, (g_r01_minus_ok N rread2 rread rminus2 hr8), (g_r01_made_ok N b.f_Neg rminus2 rmade3 hr9), o1, trivial⟩ ?_
      obtain rfl := Option.some.inj h
      refine Runs.sW hE ⟨[(4, (.op 16 0 0))], [(16, vO 2 (TInt.cells rmade3))], 432⟩ [] (kp [4]) [(16, .keep 32)] 432 [] trivial ?_
      exact Runs.sT Try.f28 [16] [0 < 1] ⟨o1, trivial⟩
noncomputable def C_65 (n : Nat) : Code := cat (bodyOf Try.f26) (pth n)
theorem g_r01_Sign_ok (N : Nat) (a : TInt) (r : Int) (h : g_r01_Sign N a = some r) : Sound Try.prog 26 [(.agg (TInt.cells a))] [] 0 (aI r) [] := by
  unfold g_r01_Sign at h
  refine Sound.of_runs (fu := Try.f26) (c := C_65 1) (nt := 10) (by kernel_rfl) (by kernel_rfl) (by kernel_rfl) (by kernel_rfl) (fun hm => rfl) ?_
  intro E hE
  refine Runs.sA 1 [.code (C_65 2), .code (C_65 3)] ?_
  refine Runs.sR hE ⟨[(1, (.op 0 0 0))], [(0, vO 2 (TInt.cells a))], 32⟩ (C_65 2) [] [] (kp [1]) (kq [0]) 32 [] trivial ?_
  refine Runs.sA 2 [.code (C_65 12), .code (C_65 13), .code (C_65 7)] ?_
  obtain ⟨rread, hr, h⟩ := bindSome h
  refine Runs.sR hE ⟨[(1, (.op 0 0 0)), (7, (aB (((rread.length : Nat) : Int) == 0)))], [(0, vO 2 (TInt.cells a))], 112⟩ (C_65 12) [(2, ⟨[], true, (encL cI 0 rread), [], 0, false, none⟩)] [] (kp [1, 7]) (kq [0]) 112 [0 < 1, Sound Try.prog 103 [(encL (cU .u16) 0 a.f_Limbs)] [] 0 (encL cI 0 rread) []] ⟨o1, (g_r01_read_ok N a.f_Limbs rread hr), trivial⟩ ?_
  refine Runs.sC 7 (C_65 26) (C_65 27) (((rread.length : Nat) : Int) == 0) (fun hq2 => ?_) (fun hq2 => ?_)
  · have h := condT h hq2
    refine Runs.sA 1 [.code (C_65 52), .code (C_65 53), .code (C_65 7)] ?_
    refine Runs.sR hE ⟨[(2, (aI 0))], [], 128⟩ (C_65 52) [] [] (kp [2]) [] 128 [] trivial ?_
    obtain rfl := Option.some.inj h
    refine Runs.sW hE ⟨[(2, (aI 0))], [], 128⟩ [] (kp [2]) [] 128 [] trivial ?_
    exact Runs.sT Try.f26 [] [] trivial
  · have h := condF h hq2
    refine Runs.sA 3 [.code (C_65 28), .code (C_65 29), .code (C_65 15)] ?_
    refine Runs.sR hE ⟨[(9, (aB a.f_Neg))], [], 144⟩ (C_65 28) [] [] (kp [9]) [] 144 [0 < 1] ⟨o1, trivial⟩ ?_
    refine Runs.sC 9 (C_65 58) (C_65 59) a.f_Neg (fun hq3 => ?_) (fun hq3 => ?_)
    · have h := condT h hq3
      refine Runs.sA 1 [.code (C_65 116), .code (C_65 117), .code (C_65 15)] ?_
      refine Runs.sR hE ⟨[(2, (aI (-1)))], [], 160⟩ (C_65 116) [] [] (kp [2]) [] 160 [] trivial ?_
      obtain rfl := Option.some.inj h
      refine Runs.sW hE ⟨[(2, (aI (-1)))], [], 160⟩ [] (kp [2]) [] 160 [] trivial ?_
      exact Runs.sT Try.f26 [] [] trivial
    · have h := condF h hq3
      refine Runs.sA 2 [.code (C_65 30), .code (C_65 31)] ?_
      refine Runs.sR hE ⟨[(2, (aI 1))], [], 160⟩ (C_65 30) [] [] (kp [2]) [] 160 [] trivial ?_
      obtain rfl := Option.some.inj h
      refine Runs.sW hE ⟨[(2, (aI 1))], [], 160⟩ [] (kp [2]) [] 160 [] trivial ?_
      exact Runs.sT Try.f26 [] [] trivial
noncomputable def C_67 (n : Nat) : Code := cat (bodyOf Try.f110) (pth n)
theorem g_r01_times_L2_ok (N : Nat) (a : List Int) (b : List Int) (i : Int) (K_g_r01_times_L1 : (List Int) → Int → Option ((List Int)))
    (hK_g_r01_times_L1 : ∀ (out : List Int) (i : Int) (r : (List Int)), K_g_r01_times_L1 out i = some r → ∀ E, EnvOk E 0 → Runs Try.prog E 110 61 (SPost E [] (encL cI 0 r)) [.code (C_67 116), .inLoop (C_67 116), .inBlock 0, .code (C_67 15)] ⟨[(0, (encL cI 0 a)), (1, (encL cI 0 b)), (5, (.os 0 0 out.length)), (6, (aI i))], [(0, aO 1 cI 0 out)], 1⟩) (fuel : Nat) : ∀ (out2 : List Int) (carry : Int) (k : Int) (r : (List Int)), g_r01_times_L2 N a b i K_g_r01_times_L1 fuel out2 carry k = some r → ∀ E, EnvOk E 0 → Runs Try.prog E 110 61 (SPost E [] (encL cI 0 r)) [.code (C_67 14924), .inLoop (C_67 14924), .inBlock 2, .inBlock 1, .code (C_67 467), .inLoop (C_67 116), .inBlock 0, .code (C_67 15)] ⟨[(0, (encL cI 0 a)), (1, (encL cI 0 b)), (5, (.os 0 0 out2.length)), (6, (aI i)), (7, (aI carry)), (8, (aI k))], [(0, aO 1 cI 0 out2)], 1⟩ := by
  induction fuel with
  | zero => intro _ _ _ r h; rw [g_r01_times_L2.eq_1] at h; cases h
  | succ fuel ih =>
    intro out2 carry k r h E hE
    rw [g_r01_times_L2.eq_2] at h
    refine Runs.sA 2 [.code (C_67 59696), .code (C_67 59697), .code (C_67 29849), .inLoop (C_67 14924), .inBlock 2, .inBlock 1, .code (C_67 467), .inLoop (C_67 116), .inBlock 0, .code (C_67 15)] ?_
    refine Runs.sR hE ⟨[(0, (encL cI 0 a)), (1, (encL cI 0 b)), (5, (.os 0 0 out2.length)), (6, (aI i)), (7, (aI carry)), (8, (aI k)), (30, (aB (cond (decide (k < ((b.length : Nat) : Int))) true (decide (carry > 0)))))], [(0, aO 1 cI 0 out2)], 129⟩ (C_67 59696) [] [] (kp [0, 1, 5, 6, 7, 8, 30]) (kq [0]) 129 [(!(decide (k < ((b.length : Nat) : Int)))) = true → AllP [(!(decide (k < ((b.length : Nat) : Int)))) = true], (!(decide (k < ((b.length : Nat) : Int)))) = true → AllP [(!(decide (k < ((b.length : Nat) : Int)))) = true]] ⟨(fun hg => ⟨hg, trivial⟩), (fun hq => ⟨hq, trivial⟩), trivial⟩ ?_
    refine Runs.sC 30 (C_67 119394) (C_67 119395) (cond (decide (k < ((b.length : Nat) : Int))) true (decide (carry > 0))) (fun hq3 => ?_) (fun hq3 => ?_)
    · have h := condT h hq3
      refine Runs.sA 4 [.code (C_67 238792), .code (C_67 238793), .inBlock 3, .code (C_67 59699), .inLoop (C_67 14924), .inBlock 2, .inBlock 1, .code (C_67 467), .inLoop (C_67 116), .inBlock 0, .code (C_67 15)] ?_
      obtain ⟨c2, h⟩ := ifSome h
      obtain ⟨c3, h⟩ := ifSome h
      obtain ⟨rdigit, hr, h⟩ := bindSome h
      refine Runs.sR hE ⟨[(0, (encL cI 0 a)), (1, (encL cI 0 b)), (5, (.os 0 0 out2.length)), (6, (aI i)), (8, (aI k)), (9, (aI (w64 ((w64 ((out2.getD ((w64 (i + k)).toNat) 0) + (w64 ((a.getD ((i).toNat) 0) * rdigit)))) + carry))))], [(0, aO 1 cI 0 out2)], 417⟩ (C_67 238792) [(12, ⟨[], true, (aI rdigit), [], 0, false, none⟩)] [] (kp [0, 1, 5, 6, 8, 9]) (kq [0]) 417 [0 ≤ (w64 (i + k)) ∧ (w64 (i + k)) < ((out2.length : Nat) : Int), (w64 (i + k)).toNat < out2.length, 0 ≤ i ∧ i < ((a.length : Nat) : Int), Sound Try.prog 157 [(encL cI 0 b), (aI k)] [] 0 (aI rdigit) []] ⟨c2, (ltOf c2), c3, (g_r01_digit_ok N b k rdigit hr), trivial⟩ ?_
      refine Runs.sA 1 [.code (C_67 477586), .code (C_67 477587), .inBlock 3, .code (C_67 59699), .inLoop (C_67 14924), .inBlock 2, .inBlock 1, .code (C_67 467), .inLoop (C_67 116), .inBlock 0, .code (C_67 15)] ?_
      refine Runs.sR hE ⟨[(0, (encL cI 0 a)), (1, (encL cI 0 b)), (5, (.os 0 0 ((out2.set ((w64 (i + k)).toNat) ((w64 ((w64 ((out2.getD ((w64 (i + k)).toNat) 0) + (w64 ((a.getD ((i).toNat) 0) * rdigit)))) + carry)).tmod 65536)).length))), (6, (aI i)), (8, (aI k)), (9, (aI (w64 ((w64 ((out2.getD ((w64 (i + k)).toNat) 0) + (w64 ((a.getD ((i).toNat) 0) * rdigit)))) + carry))))], [(0, aO 1 cI 0 (out2.set ((w64 (i + k)).toNat) ((w64 ((w64 ((out2.getD ((w64 (i + k)).toNat) 0) + (w64 ((a.getD ((i).toNat) 0) * rdigit)))) + carry)).tmod 65536)))], 545⟩ (C_67 477586) [] [] (kp [0, 1] ++ [(5, .osl ((out2.set ((w64 (i + k)).toNat) ((w64 ((w64 ((out2.getD ((w64 (i + k)).toNat) 0) + (w64 ((a.getD ((i).toNat) 0) * rdigit)))) + carry)).tmod 65536)).length))] ++ kp [6, 8, 9]) [(0, .arr 0 ((out2.set ((w64 (i + k)).toNat) ((w64 ((w64 ((out2.getD ((w64 (i + k)).toNat) 0) + (w64 ((a.getD ((i).toNat) 0) * rdigit)))) + carry)).tmod 65536)).length) (fun zi => cI ((out2.set ((w64 (i + k)).toNat) ((w64 ((w64 ((out2.getD ((w64 (i + k)).toNat) 0) + (w64 ((a.getD ((i).toNat) 0) * rdigit)))) + carry)).tmod 65536)).getD zi 0)))] 545 [(65536 : Int) ≠ 0, 0 ≤ (w64 (i + k)) ∧ (w64 (i + k)) < ((out2.length : Nat) : Int), (w64 (i + k)).toNat < out2.length, out2.length = (out2.set ((w64 (i + k)).toNat) ((w64 ((w64 ((out2.getD ((w64 (i + k)).toNat) 0) + (w64 ((a.getD ((i).toNat) 0) * rdigit)))) + carry)).tmod 65536)).length, out2.length = (out2.set ((w64 (i + k)).toNat) ((w64 ((w64 ((out2.getD ((w64 (i + k)).toNat) 0) + (w64 ((a.getD ((i).toNat) 0) * rdigit)))) + carry)).tmod 65536)).length, ∀ zi, zi < (out2.set ((w64 (i + k)).toNat) ((w64 ((w64 ((out2.getD ((w64 (i + k)).toNat) 0) + (w64 ((a.getD ((i).toNat) 0) * rdigit)))) + carry)).tmod 65536)).length → (fun zi => cI ((out2.set ((w64 (i + k)).toNat) ((w64 ((w64 ((out2.getD ((w64 (i + k)).toNat) 0) + (w64 ((a.getD ((i).toNat) 0) * rdigit)))) + carry)).tmod 65536)).getD zi 0)) zi = ((fun zm => if zm = (w64 (i + k)).toNat then [(aI ((w64 ((w64 ((out2.getD ((w64 (i + k)).toNat) 0) + (w64 ((a.getD ((i).toNat) 0) * rdigit)))) + carry)).tmod 65536))] else (fun zi => cI (out2.getD zi 0)) zm)) zi] ⟨(by decide), c2, (ltOf c2), (len_set_raw rfl), (len_set_raw rfl), (get_set_raw cI 0 out2 ((w64 (i + k)).toNat) ((w64 ((w64 ((out2.getD ((w64 (i + k)).toNat) 0) + (w64 ((a.getD ((i).toNat) 0) * rdigit)))) + carry)).tmod 65536) (fun _ _ => rfl)), trivial⟩ ?_
      refine Runs.sR hE ⟨[(0, (encL cI 0 a)), (1, (encL cI 0 b)), (5, (.os 0 0 ((out2.set ((w64 (i + k)).toNat) ((w64 ((w64 ((out2.getD ((w64 (i + k)).toNat) 0) + (w64 ((a.getD ((i).toNat) 0) * rdigit)))) + carry)).tmod 65536)).length))), (6, (aI i)), (7, (aI (w64 ((w64 ((w64 ((out2.getD ((w64 (i + k)).toNat) 0) + (w64 ((a.getD ((i).toNat) 0) * rdigit)))) + carry)).tdiv 65536)))), (8, (aI k))], [(0, aO 1 cI 0 (out2.set ((w64 (i + k)).toNat) ((w64 ((w64 ((out2.getD ((w64 (i + k)).toNat) 0) + (w64 ((a.getD ((i).toNat) 0) * rdigit)))) + carry)).tmod 65536)))], 593⟩ (C_67 477587) [] [] (kp [0, 1, 5, 6, 7, 8]) (kq [0]) 593 [(65536 : Int) ≠ 0] ⟨(by decide), trivial⟩ ?_
      refine Runs.sA 1 [.code (C_67 59699), .inLoop (C_67 14924), .inBlock 2, .inBlock 1, .code (C_67 467), .inLoop (C_67 116), .inBlock 0, .code (C_67 15)] ?_
      refine Runs.sR hE ⟨[(0, (encL cI 0 a)), (1, (encL cI 0 b)), (5, (.os 0 0 ((out2.set ((w64 (i + k)).toNat) ((w64 ((w64 ((out2.getD ((w64 (i + k)).toNat) 0) + (w64 ((a.getD ((i).toNat) 0) * rdigit)))) + carry)).tmod 65536)).length))), (6, (aI i)), (7, (aI (w64 ((w64 ((w64 ((out2.getD ((w64 (i + k)).toNat) 0) + (w64 ((a.getD ((i).toNat) 0) * rdigit)))) + carry)).tdiv 65536)))), (8, (aI (w64 (k + 1))))], [(0, aO 1 cI 0 (out2.set ((w64 (i + k)).toNat) ((w64 ((w64 ((out2.getD ((w64 (i + k)).toNat) 0) + (w64 ((a.getD ((i).toNat) 0) * rdigit)))) + carry)).tmod 65536)))], 641⟩ (C_67 59699) [] [] (kp [0, 1, 5, 6, 7, 8]) (kq [0]) 641 [] trivial ?_
      refine Runs.sA 1 [.code (C_67 14924), .inLoop (C_67 14924), .inBlock 2, .inBlock 1, .code (C_67 467), .inLoop (C_67 116), .inBlock 0, .code (C_67 15)] ?_
      exact Runs.sW hE _ [] (kp [0, 1, 5, 6, 7, 8]) (kq [0]) 1 [] trivial (ih (out2.set ((w64 (i + k)).toNat) ((w64 ((w64 ((out2.getD ((w64 (i + k)).toNat) 0) + (w64 ((a.getD ((i).toNat) 0) * rdigit)))) + carry)).tmod 65536)) (w64 ((w64 ((w64 ((out2.getD ((w64 (i + k)).toNat) 0) + (w64 ((a.getD ((i).toNat) 0) * rdigit)))) + carry)).tdiv 65536)) (w64 (k + 1)) _ h E hE)
    · have h := condF h hq3
      refine Runs.sA 2 [.code (C_67 467), .inLoop (C_67 116), .inBlock 0, .code (C_67 15)] ?_
      refine Runs.sR hE ⟨[(0, (encL cI 0 a)), (1, (encL cI 0 b)), (5, (.os 0 0 out2.length)), (6, (aI (w64 (i + 1))))], [(0, aO 1 cI 0 out2)], 177⟩ (C_67 467) [] [] (kp [0, 1, 5, 6]) (kq [0]) 177 [] trivial ?_
      refine Runs.sA 1 [.code (C_67 116), .inLoop (C_67 116), .inBlock 0, .code (C_67 15)] ?_
      exact Runs.sW hE _ [] (kp [0, 1, 5, 6]) (kq [0]) 1 [] trivial (hK_g_r01_times_L1 out2 (w64 (i + 1)) _ h E hE)
theorem g_r01_times_L1_ok (N : Nat) (a : List Int) (b : List Int) (fuel : Nat) : ∀ (out : List Int) (i : Int) (r : (List Int)), g_r01_times_L1 N a b fuel out i = some r → ∀ E, EnvOk E 0 → Runs Try.prog E 110 61 (SPost E [] (encL cI 0 r)) [.code (C_67 116), .inLoop (C_67 116), .inBlock 0, .code (C_67 15)] ⟨[(0, (encL cI 0 a)), (1, (encL cI 0 b)), (5, (.os 0 0 out.length)), (6, (aI i))], [(0, aO 1 cI 0 out)], 1⟩ := by
  induction fuel with
  | zero => intro _ _ r h; rw [g_r01_times_L1.eq_1] at h; cases h
  | succ fuel ih =>
    intro out i r h E hE
    rw [g_r01_times_L1.eq_2] at h
    refine Runs.sA 2 [.code (C_67 464), .code (C_67 465), .code (C_67 233), .inLoop (C_67 116), .inBlock 0, .code (C_67 15)] ?_
    refine Runs.sR hE ⟨[(0, (encL cI 0 a)), (1, (encL cI 0 b)), (5, (.os 0 0 out.length)), (6, (aI i)), (20, (aB (decide (i < ((a.length : Nat) : Int)))))], [(0, aO 1 cI 0 out)], 65⟩ (C_67 464) [] [] (kp [0, 1, 5, 6, 20]) (kq [0]) 65 [] trivial ?_
    refine Runs.sC 20 (C_67 930) (C_67 931) (decide (i < ((a.length : Nat) : Int))) (fun hq2 => ?_) (fun hq2 => ?_)
    · have h := condT h hq2
      refine Runs.sA 4 [.code (C_67 1864), .code (C_67 1865), .inBlock 1, .code (C_67 467), .inLoop (C_67 116), .inBlock 0, .code (C_67 15)] ?_
      refine Runs.sR hE ⟨[(0, (encL cI 0 a)), (1, (encL cI 0 b)), (5, (.os 0 0 out.length)), (6, (aI i)), (7, (aI 0))], [(0, aO 1 cI 0 out)], 81⟩ (C_67 1864) [] [] (kp [0, 1, 5, 6, 7]) (kq [0]) 81 [] trivial ?_
      refine Runs.sA 1 [.code (C_67 3730), .code (C_67 3731), .inBlock 1, .code (C_67 467), .inLoop (C_67 116), .inBlock 0, .code (C_67 15)] ?_
      refine Runs.sR hE ⟨[(0, (encL cI 0 a)), (1, (encL cI 0 b)), (5, (.os 0 0 out.length)), (6, (aI i)), (7, (aI 0)), (8, (aI 0))], [(0, aO 1 cI 0 out)], 97⟩ (C_67 3730) [] [] (kp [0, 1, 5, 6, 7, 8]) (kq [0]) 97 [] trivial ?_
      refine Runs.sA 2 [.code (C_67 14924), .inLoop (C_67 14924), .inBlock 2, .inBlock 1, .code (C_67 467), .inLoop (C_67 116), .inBlock 0, .code (C_67 15)] ?_
      exact Runs.sW hE _ [] (kp [0, 1, 5, 6, 7, 8]) (kq [0]) 1 [] trivial (g_r01_times_L2_ok N a b i (g_r01_times_L1 N a b fuel) ih N out 0 0 _ h E hE)
    · have h := condF h hq2
      refine Runs.sA 2 [.code (C_67 30), .code (C_67 31)] ?_
      obtain ⟨rtrim, hr2, h⟩ := bindSome h
      refine Runs.sR hE ⟨[(4, (encL cI 0 rtrim))], [], 113⟩ (C_67 30) [(1, ⟨[], true, (encL cI 0 rtrim), [], 0, true, none⟩)] [] (kp [4]) [] 113 [Sound Try.prog 156 [(encL cI 0 out)] [] 0 (encL cI 0 rtrim) [], 0 + out.length ≤ out.length] ⟨(g_r01_trim_ok N out rtrim hr2), z0, trivial⟩ ?_
      obtain rfl := Option.some.inj h
      refine Runs.sW hE ⟨[(4, (encL cI 0 rtrim))], [], 113⟩ [] (kp [4]) [] 113 [] trivial ?_
      exact Runs.sT Try.f110 [] [] trivial
theorem g_r01_times_ok (N : Nat) (a : List Int) (b : List Int) (r : (List Int)) (h : g_r01_times N a b = some r) : Sound Try.prog 110 [(encL cI 0 a), (encL cI 0 b)] [] 0 (encL cI 0 r) [] := by
  unfold g_r01_times at h
  refine Sound.of_runs (fu := Try.f110) (c := C_67 1) (nt := 61) (by kernel_rfl) (by kernel_rfl) (by kernel_rfl) (by kernel_rfl) (fun hm => rfl) ?_
  intro E hE
  refine Runs.sA 1 [.code (C_67 2), .code (C_67 3)] ?_
  refine Runs.sR hE ⟨[(0, (encL cI 0 a)), (1, (encL cI 0 b))], [], 16⟩ (C_67 2) [] [] (kp [0, 1]) [] 16 [] trivial ?_
  refine Runs.sA 1 [.code (C_67 6), .code (C_67 7)] ?_
  obtain ⟨c, h⟩ := ifSome h
  refine Runs.sR hE ⟨[(0, (encL cI 0 a)), (1, (encL cI 0 b)), (5, (.os 112 0 ((List.replicate ((w64 ((w64 (((a.length : Nat) : Int) + ((b.length : Nat) : Int))) + 1)).toNat) 0 : List Int).length)))], [(112, aO 1 cI 0 (List.replicate ((w64 ((w64 (((a.length : Nat) : Int) + ((b.length : Nat) : Int))) + 1)).toNat) 0 : List Int))], 144⟩ (C_67 6) [] [] (kp [0, 1] ++ [(5, .osl ((List.replicate ((w64 ((w64 (((a.length : Nat) : Int) + ((b.length : Nat) : Int))) + 1)).toNat) 0 : List Int).length))]) [(112, .arr 112 ((List.replicate ((w64 ((w64 (((a.length : Nat) : Int) + ((b.length : Nat) : Int))) + 1)).toNat) 0 : List Int).length) (fun zi => cI ((List.replicate ((w64 ((w64 (((a.length : Nat) : Int) + ((b.length : Nat) : Int))) + 1)).toNat) 0 : List Int).getD zi 0)))] 144 [0 ≤ (w64 ((w64 (((a.length : Nat) : Int) + ((b.length : Nat) : Int))) + 1)), (w64 ((w64 (((a.length : Nat) : Int) + ((b.length : Nat) : Int))) + 1)) ≤ (w64 ((w64 (((a.length : Nat) : Int) + ((b.length : Nat) : Int))) + 1)), (8 : Int) * (w64 ((w64 (((a.length : Nat) : Int) + ((b.length : Nat) : Int))) + 1)) ≤ 281474976710656, (w64 ((w64 (((a.length : Nat) : Int) + ((b.length : Nat) : Int))) + 1)) ≤ 9223372036854775807, (w64 ((w64 (((a.length : Nat) : Int) + ((b.length : Nat) : Int))) + 1)).toNat = (List.replicate ((w64 ((w64 (((a.length : Nat) : Int) + ((b.length : Nat) : Int))) + 1)).toNat) 0 : List Int).length, (w64 ((w64 (((a.length : Nat) : Int) + ((b.length : Nat) : Int))) + 1)).toNat = (List.replicate ((w64 ((w64 (((a.length : Nat) : Int) + ((b.length : Nat) : Int))) + 1)).toNat) 0 : List Int).length, ∀ zi, zi < (List.replicate ((w64 ((w64 (((a.length : Nat) : Int) + ((b.length : Nat) : Int))) + 1)).toNat) 0 : List Int).length → (fun zi => cI ((List.replicate ((w64 ((w64 (((a.length : Nat) : Int) + ((b.length : Nat) : Int))) + 1)).toNat) 0 : List Int).getD zi 0)) zi = (fun _ => [(aI 0)]) zi] ⟨c.1, (Int.le_refl _), c.2.1, c.2.2, (List.length_replicate).symm, (List.length_replicate).symm, (fun zq hzq => get_rep cI 0 0 ((w64 ((w64 (((a.length : Nat) : Int) + ((b.length : Nat) : Int))) + 1)).toNat) zq hzq), trivial⟩ ?_
  refine Runs.sA 2 [.code (C_67 28), .code (C_67 29), .code (C_67 15)] ?_
  refine Runs.sR hE ⟨[(0, (encL cI 0 a)), (1, (encL cI 0 b)), (5, (.os 112 0 ((List.replicate ((w64 ((w64 (((a.length : Nat) : Int) + ((b.length : Nat) : Int))) + 1)).toNat) 0 : List Int).length))), (6, (aI 0))], [(112, aO 1 cI 0 (List.replicate ((w64 ((w64 (((a.length : Nat) : Int) + ((b.length : Nat) : Int))) + 1)).toNat) 0 : List Int))], 160⟩ (C_67 28) [] [] (kp [0, 1, 5, 6]) (kq [112]) 160 [] trivial ?_
  refine Runs.sA 2 [.code (C_67 116), .inLoop (C_67 116), .inBlock 0, .code (C_67 15)] ?_
  exact Runs.sW hE _ [] (kp [0, 1, 5, 6]) [(0, .keep 112)] 1 [] trivial (g_r01_times_L1_ok N a b N (List.replicate ((w64 ((w64 (((a.length : Nat) : Int) + ((b.length : Nat) : Int))) + 1)).toNat) 0 : List Int) 0 _ h E hE)
noncomputable def C_66 (n : Nat) : Code := cat (bodyOf Try.f30) (pth n)
theorem g_r01_Mul_ok (N : Nat) (a : TInt) (b : TInt) (r : TInt) (h : g_r01_Mul N a b = some r) : Sound Try.prog 30 [(.agg (TInt.cells a)), (.agg (TInt.cells b))] [] 0 (.agg (TInt.cells r)) [] := by
  unfold g_r01_Mul at h
  refine Sound.of_runs (fu := Try.f30) (c := C_66 1) (nt := 18) (by kernel_rfl) (by kernel_rfl) (by kernel_rfl) (by kernel_rfl) (fun hm => rfl) ?_
  intro E hE
  refine Runs.sA 1 [.code (C_66 2), .code (C_66 3)] ?_
  refine Runs.sR hE ⟨[(2, (.op 0 0 0)), (3, (.op 16 0 0)), (4, (.op 32 0 0))], [(0, vO 2 (TInt.cells a)), (16, vO 2 (TInt.cells b)), (32, vO 2 [(aB false), .nil])], 48⟩ (C_66 2) [] [] (kp [2, 3, 4]) (kq [0, 16, 32]) 48 [] trivial ?_
  refine Runs.sA 1 [.code (C_66 6), .code (C_66 7)] ?_
  obtain ⟨rread, hr, h⟩ := bindSome h
  obtain ⟨rread2, hr2, h⟩ := bindSome h
  obtain ⟨rtimes, hr3, h⟩ := bindSome h
  obtain ⟨rmade, hr4, h⟩ := bindSome h
  refine Runs.sR hE ⟨[(4, (.op 32 0 0))], [(32, vO 2 (TInt.cells rmade))], 272⟩ (C_66 6) [(7, ⟨[], true, (encL cI 0 rread), [], 0, false, none⟩), (10, ⟨[], true, (encL cI 0 rread2), [], 0, false, none⟩), (11, ⟨[], true, (encL cI 0 rtimes), [], 0, false, none⟩), (12, ⟨[], true, (.agg (TInt.cells rmade)), [], 0, false, none⟩)] [] (kp [4]) (kq [32]) 272 [0 < 1, 0 < 1, 0 < 1, Sound Try.prog 103 [(encL (cU .u16) 0 a.f_Limbs)] [] 0 (encL cI 0 rread) [], 0 < 1, Sound Try.prog 103 [(encL (cU .u16) 0 b.f_Limbs)] [] 0 (encL cI 0 rread2) [], Sound Try.prog 110 [(encL cI 0 rread), (encL cI 0 rread2)] [] 0 (encL cI 0 rtimes) [], Sound Try.prog 104 [(aB (!(a.f_Neg == b.f_Neg))), (encL cI 0 rtimes)] [] 0 (.agg (TInt.cells rmade)) [], 0 < 1] ⟨o1, o1, o1, (g_r01_read_ok N a.f_Limbs rread hr), o1, (g_r01_read_ok N b.f_Limbs rread2 hr2), (g_r01_times_ok N rread rread2 rtimes hr3), (g_r01_made_ok N (!(a.f_Neg == b.f_Neg)) rtimes rmade hr4), o1, trivial⟩ ?_
  obtain rfl := Option.some.inj h
  refine Runs.sW hE ⟨[(4, (.op 16 0 0))], [(16, vO 2 (TInt.cells rmade))], 272⟩ [] (kp [4]) [(16, .keep 32)] 272 [] trivial ?_
  exact Runs.sT Try.f30 [16] [0 < 1] ⟨o1, trivial⟩
noncomputable def C_69 (n : Nat) : Code := cat (bodyOf Try.f105) (pth n)
theorem g_r01_over_J3_ok (N : Nat) (a : List Int) (b : List Int) (q : List Int) (i : Int) (lo : Int) (K_g_r01_over_L1 : (List Int) → (List Int) → Int → Option ((List Int) × (List Int)))
    (hK_g_r01_over_L1 : ∀ (rest : List Int) (q : List Int) (i : Int) (r : (List Int) × (List Int)), K_g_r01_over_L1 rest q i = some r → ∀ E, EnvOk E 0 → Runs Try.prog E 105 63 (SPost E [] (.tup [(encL cI 0 r.1), (encL cI 0 r.2)])) [.code (C_69 244), .inLoop (C_69 244), .inBlock 0, .code (C_69 31)] ⟨[(0, (encL cI 0 a)), (1, (encL cI 0 b)), (6, (encL cI 0 rest)), (7, (.os 0 0 q.length)), (8, (aI i))], [(0, aO 1 cI 0 q)], 1⟩) (rest2 : List Int) (r : (List Int) × (List Int)) (h : g_r01_over_J3 N a b q i lo K_g_r01_over_L1 rest2 = some r) : ∀ E, EnvOk E 0 → Runs Try.prog E 105 63 (SPost E [] (.tup [(encL cI 0 r.1), (encL cI 0 r.2)])) [.code (C_69 979), .inLoop (C_69 244), .inBlock 0, .code (C_69 31)] ⟨[(0, (encL cI 0 a)), (1, (encL cI 0 b)), (6, (encL cI 0 rest2)), (7, (.os 0 0 ((q.set ((i).toNat) lo).length))), (8, (aI i))], [(0, aO 1 cI 0 (q.set ((i).toNat) lo))], 1⟩ := by
  intro E hE
  unfold g_r01_over_J3 at h
  refine Runs.sR hE ⟨[(0, (encL cI 0 a)), (1, (encL cI 0 b)), (6, (encL cI 0 rest2)), (7, (.os 0 0 ((q.set ((i).toNat) lo).length))), (8, (aI (w64 (i - 1))))], [(0, aO 1 cI 0 (q.set ((i).toNat) lo))], 49⟩ (C_69 979) [] [] (kp [0, 1, 6, 7, 8]) (kq [0]) 49 [] trivial ?_
  refine Runs.sA 1 [.code (C_69 244), .inLoop (C_69 244), .inBlock 0, .code (C_69 31)] ?_
  exact Runs.sW hE _ [] (kp [0, 1, 6, 7, 8]) (kq [0]) 1 [] trivial (hK_g_r01_over_L1 rest2 (q.set ((i).toNat) lo) (w64 (i - 1)) _ h E hE)
theorem g_r01_over_L2_ok (N : Nat) (a : List Int) (b : List Int) (q : List Int) (i : Int) (rtrim : (List Int)) (K_g_r01_over_L1 : (List Int) → (List Int) → Int → Option ((List Int) × (List Int)))
    (hK_g_r01_over_L1 : ∀ (rest : List Int) (q : List Int) (i : Int) (r : (List Int) × (List Int)), K_g_r01_over_L1 rest q i = some r → ∀ E, EnvOk E 0 → Runs Try.prog E 105 63 (SPost E [] (.tup [(encL cI 0 r.1), (encL cI 0 r.2)])) [.code (C_69 244), .inLoop (C_69 244), .inBlock 0, .code (C_69 31)] ⟨[(0, (encL cI 0 a)), (1, (encL cI 0 b)), (6, (encL cI 0 rest)), (7, (.os 0 0 q.length)), (8, (aI i))], [(0, aO 1 cI 0 q)], 1⟩) (fuel : Nat) : ∀ (lo : Int) (hi : Int) (r : (List Int) × (List Int)), g_r01_over_L2 N a b q i rtrim K_g_r01_over_L1 fuel lo hi = some r → ∀ E, EnvOk E 0 → Runs Try.prog E 105 63 (SPost E [] (.tup [(encL cI 0 r.1), (encL cI 0 r.2)])) [.code (C_69 62616), .inLoop (C_69 62616), .inBlock 2, .code (C_69 15655), .inBlock 1, .code (C_69 979), .inLoop (C_69 244), .inBlock 0, .code (C_69 31)] ⟨[(0, (encL cI 0 a)), (1, (encL cI 0 b)), (6, (encL cI 0 rtrim)), (7, (.os 0 0 q.length)), (8, (aI i)), (9, (aI lo)), (10, (aI hi))], [(0, aO 1 cI 0 q)], 1⟩ := by
  induction fuel with
  | zero => intro _ _ r h; rw [g_r01_over_L2.eq_1] at h; cases h
  | succ fuel ih =>
    intro lo hi r h E hE
    rw [g_r01_over_L2.eq_2] at h
    refine Runs.sA 2 [.code (C_69 250464), .code (C_69 250465), .code (C_69 125233), .inLoop (C_69 62616), .inBlock 2, .code (C_69 15655), .inBlock 1, .code (C_69 979), .inLoop (C_69 244), .inBlock 0, .code (C_69 31)] ?_
    refine Runs.sR hE ⟨[(0, (encL cI 0 a)), (1, (encL cI 0 b)), (6, (encL cI 0 rtrim)), (7, (.os 0 0 q.length)), (8, (aI i)), (9, (aI lo)), (10, (aI hi)), (32, (aB (decide (lo < hi))))], [(0, aO 1 cI 0 q)], 49⟩ (C_69 250464) [] [] (kp [0, 1, 6, 7, 8, 9, 10, 32]) (kq [0]) 49 [] trivial ?_
    refine Runs.sC 32 (C_69 500930) (C_69 500931) (decide (lo < hi)) (fun hq3 => ?_) (fun hq3 => ?_)
    · have h := condT h hq3
      refine Runs.sA 3 [.code (C_69 500932), .code (C_69 500933), .inBlock 3, .inLoop (C_69 62616), .inBlock 2, .code (C_69 15655), .inBlock 1, .code (C_69 979), .inLoop (C_69 244), .inBlock 0, .code (C_69 31)] ?_
      refine Runs.sR hE ⟨[(0, (encL cI 0 a)), (1, (encL cI 0 b)), (6, (encL cI 0 rtrim)), (7, (.os 0 0 q.length)), (8, (aI i)), (9, (aI lo)), (10, (aI hi)), (11, (aI (w64 ((w64 ((w64 (lo + hi)) + 1)).tdiv 2))))], [(0, aO 1 cI 0 q)], 145⟩ (C_69 500932) [] [] (kp [0, 1, 6, 7, 8, 9, 10, 11]) (kq [0]) 145 [(2 : Int) ≠ 0] ⟨(by decide), trivial⟩ ?_
      refine Runs.sA 1 [.code (C_69 1001866), .code (C_69 1001867), .inBlock 3, .inLoop (C_69 62616), .inBlock 2, .code (C_69 15655), .inBlock 1, .code (C_69 979), .inLoop (C_69 244), .inBlock 0, .code (C_69 31)] ?_
      obtain ⟨rtimes, hr2, h⟩ := bindSome h
      obtain ⟨rcompare, hr3, h⟩ := bindSome h
      refine Runs.sR hE ⟨[(0, (encL cI 0 a)), (1, (encL cI 0 b)), (6, (encL cI 0 rtrim)), (7, (.os 0 0 q.length)), (8, (aI i)), (9, (aI lo)), (10, (aI hi)), (11, (aI (w64 ((w64 ((w64 (lo + hi)) + 1)).tdiv 2)))), (44, (aB (decide (rcompare ≤ 0))))], [(0, aO 1 cI 0 q)], 257⟩ (C_69 1001866) [(3, ⟨[], true, (encL cI 0 rtimes), [], 0, true, none⟩), (5, ⟨[], true, (aI rcompare), [], 0, false, none⟩)] [] (kp [0, 1, 6, 7, 8, 9, 10, 11, 44]) (kq [0]) 257 [Sound Try.prog 110 [(encL cI 0 b), (.sl 1 (fun zi => (fun zi => ([[(aI (w64 ((w64 ((w64 (lo + hi)) + 1)).tdiv 2)))]] : List (List AV)).getD zi []) (addz 0 zi)))] [] 0 (encL cI 0 rtimes) [], 0 + 1 ≤ 1, Sound Try.prog 107 [(encL cI 0 rtimes), (encL cI 0 rtrim)] [] 0 (aI rcompare) []] ⟨(Sound.conv (g_r01_times_ok N b ([(w64 ((w64 ((w64 (lo + hi)) + 1)).tdiv 2))] : List Int) rtimes hr2) (.cons (Alike.refl _) (.cons (Alike.sl rfl (fun zq hzq => get_chunk cI 0 ([(w64 ((w64 ((w64 (lo + hi)) + 1)).tdiv 2))] : List Int) zq hzq)) .nil))), z0, (g_r01_compare_ok N rtimes rtrim rcompare hr3), trivial⟩ ?_
      refine Runs.sC 44 (C_69 2003734) (C_69 2003735) (decide (rcompare ≤ 0)) (fun hq4 => ?_) (fun hq4 => ?_)
      · have h := condT h hq4
        refine Runs.sR hE ⟨[(0, (encL cI 0 a)), (1, (encL cI 0 b)), (6, (encL cI 0 rtrim)), (7, (.os 0 0 q.length)), (8, (aI i)), (9, (aI (w64 ((w64 ((w64 (lo + hi)) + 1)).tdiv 2)))), (10, (aI hi))], [(0, aO 1 cI 0 q)], 289⟩ (C_69 2003734) [] [] (kp [0, 1, 6, 7, 8, 9, 10]) (kq [0]) 289 [] trivial ?_
        refine Runs.sA 2 [.code (C_69 62616), .inLoop (C_69 62616), .inBlock 2, .code (C_69 15655), .inBlock 1, .code (C_69 979), .inLoop (C_69 244), .inBlock 0, .code (C_69 31)] ?_
        exact Runs.sW hE _ [] (kp [0, 1, 6, 7, 8, 9, 10]) (kq [0]) 1 [] trivial (ih (w64 ((w64 ((w64 (lo + hi)) + 1)).tdiv 2)) hi _ h E hE)
      · have h := condF h hq4
        refine Runs.sR hE ⟨[(0, (encL cI 0 a)), (1, (encL cI 0 b)), (6, (encL cI 0 rtrim)), (7, (.os 0 0 q.length)), (8, (aI i)), (9, (aI lo)), (10, (aI (w64 ((w64 ((w64 ((w64 (lo + hi)) + 1)).tdiv 2)) - 1))))], [(0, aO 1 cI 0 q)], 305⟩ (C_69 2003735) [] [] (kp [0, 1, 6, 7, 8, 9, 10]) (kq [0]) 305 [] trivial ?_
        refine Runs.sA 2 [.code (C_69 62616), .inLoop (C_69 62616), .inBlock 2, .code (C_69 15655), .inBlock 1, .code (C_69 979), .inLoop (C_69 244), .inBlock 0, .code (C_69 31)] ?_
        exact Runs.sW hE _ [] (kp [0, 1, 6, 7, 8, 9, 10]) (kq [0]) 1 [] trivial (ih lo (w64 ((w64 ((w64 ((w64 (lo + hi)) + 1)).tdiv 2)) - 1)) _ h E hE)
    · have h := condF h hq3
      refine Runs.sA 2 [.code (C_69 31310), .code (C_69 31311), .inBlock 1, .code (C_69 979), .inLoop (C_69 244), .inBlock 0, .code (C_69 31)] ?_
      obtain ⟨c4, h⟩ := ifSome h
      refine Runs.sR hE ⟨[(0, (encL cI 0 a)), (1, (encL cI 0 b)), (6, (encL cI 0 rtrim)), (7, (.os 0 0 ((q.set ((i).toNat) lo).length))), (8, (aI i)), (9, (aI lo))], [(0, aO 1 cI 0 (q.set ((i).toNat) lo))], 129⟩ (C_69 31310) [] [] (kp [0, 1, 6] ++ [(7, .osl ((q.set ((i).toNat) lo).length))] ++ kp [8, 9]) [(0, .arr 0 ((q.set ((i).toNat) lo).length) (fun zi => cI ((q.set ((i).toNat) lo).getD zi 0)))] 129 [0 ≤ i ∧ i < ((q.length : Nat) : Int), (i).toNat < q.length, q.length = (q.set ((i).toNat) lo).length, q.length = (q.set ((i).toNat) lo).length, ∀ zi, zi < (q.set ((i).toNat) lo).length → (fun zi => cI ((q.set ((i).toNat) lo).getD zi 0)) zi = ((fun zm => if zm = (i).toNat then [(aI lo)] else (fun zi => cI (q.getD zi 0)) zm)) zi] ⟨c4, (ltOf c4), (len_set_raw rfl), (len_set_raw rfl), (get_set_raw cI 0 q ((i).toNat) lo (fun _ _ => rfl)), trivial⟩ ?_
      refine Runs.sA 1 [.code (C_69 62622), .code (C_69 62623), .inBlock 1, .code (C_69 979), .inLoop (C_69 244), .inBlock 0, .code (C_69 31)] ?_
      refine Runs.sR hE ⟨[(0, (encL cI 0 a)), (1, (encL cI 0 b)), (6, (encL cI 0 rtrim)), (7, (.os 0 0 ((q.set ((i).toNat) lo).length))), (8, (aI i)), (9, (aI lo)), (53, (aB (decide (lo > 0))))], [(0, aO 1 cI 0 (q.set ((i).toNat) lo))], 161⟩ (C_69 62622) [] [] (kp [0, 1, 6, 7, 8, 9, 53]) (kq [0]) 161 [] trivial ?_
      refine Runs.sC 53 (C_69 125246) (C_69 125247) (decide (lo > 0)) (fun hq5 => ?_) (fun hq5 => ?_)
      · have h := condT h hq5
        obtain ⟨rtimes2, hr4, h⟩ := bindSome h
        obtain ⟨rminus, hr5, h⟩ := bindSome h
        refine Runs.sR hE ⟨[(0, (encL cI 0 a)), (1, (encL cI 0 b)), (6, (encL cI 0 rminus)), (7, (.os 0 0 ((q.set ((i).toNat) lo).length))), (8, (aI i))], [(0, aO 1 cI 0 (q.set ((i).toNat) lo))], 273⟩ (C_69 125246) [(4, ⟨[], true, (encL cI 0 rtimes2), [], 0, true, none⟩), (5, ⟨[], true, (encL cI 0 rminus), [], 0, false, none⟩)] [] (kp [0, 1, 6, 7, 8]) (kq [0]) 273 [Sound Try.prog 110 [(encL cI 0 b), (.sl 1 (fun zi => (fun zi => ([[(aI lo)]] : List (List AV)).getD zi []) (addz 0 zi)))] [] 0 (encL cI 0 rtimes2) [], 0 + 1 ≤ 1, Sound Try.prog 108 [(encL cI 0 rtrim), (encL cI 0 rtimes2)] [] 0 (encL cI 0 rminus) []] ⟨(Sound.conv (g_r01_times_ok N b ([lo] : List Int) rtimes2 hr4) (.cons (Alike.refl _) (.cons (Alike.sl rfl (fun zq hzq => get_chunk cI 0 ([lo] : List Int) zq hzq)) .nil))), z0, (g_r01_minus_ok N rtrim rtimes2 rminus hr5), trivial⟩ ?_
        refine Runs.sA 1 [.code (C_69 979), .inLoop (C_69 244), .inBlock 0, .code (C_69 31)] ?_
        exact Runs.sW hE _ [] (kp [0, 1, 6, 7, 8]) (kq [0]) 1 [] trivial (g_r01_over_J3_ok N a b q i lo K_g_r01_over_L1 hK_g_r01_over_L1 rminus _ h E hE)
      · have h := condF h hq5
        refine Runs.sA 2 [.code (C_69 979), .inLoop (C_69 244), .inBlock 0, .code (C_69 31)] ?_
        exact Runs.sW hE _ [] (kp [0, 1, 6, 7, 8]) (kq [0]) 1 [] trivial (g_r01_over_J3_ok N a b q i lo K_g_r01_over_L1 hK_g_r01_over_L1 rtrim _ h E hE)
theorem g_r01_over_L1_ok (N : Nat) (a : List Int) (b : List Int) (fuel : Nat) : ∀ (rest : List Int) (q : List Int) (i : Int) (r : (List Int) × (List Int)), g_r01_over_L1 N a b fuel rest q i = some r → ∀ E, EnvOk E 0 → Runs Try.prog E 105 63 (SPost E [] (.tup [(encL cI 0 r.1), (encL cI 0 r.2)])) [.code (C_69 244), .inLoop (C_69 244), .inBlock 0, .code (C_69 31)] ⟨[(0, (encL cI 0 a)), (1, (encL cI 0 b)), (6, (encL cI 0 rest)), (7, (.os 0 0 q.length)), (8, (aI i))], [(0, aO 1 cI 0 q)], 1⟩ := by
  induction fuel with
  | zero => intro _ _ _ r h; rw [g_r01_over_L1.eq_1] at h; cases h
  | succ fuel ih =>
    intro rest q i r h E hE
    rw [g_r01_over_L1.eq_2] at h
    refine Runs.sA 2 [.code (C_69 976), .code (C_69 977), .code (C_69 489), .inLoop (C_69 244), .inBlock 0, .code (C_69 31)] ?_
    refine Runs.sR hE ⟨[(0, (encL cI 0 a)), (1, (encL cI 0 b)), (6, (encL cI 0 rest)), (7, (.os 0 0 q.length)), (8, (aI i)), (19, (aB (decide (i ≥ 0))))], [(0, aO 1 cI 0 q)], 33⟩ (C_69 976) [] [] (kp [0, 1, 6, 7, 8, 19]) (kq [0]) 33 [] trivial ?_
    refine Runs.sC 19 (C_69 1954) (C_69 1955) (decide (i ≥ 0)) (fun hq2 => ?_) (fun hq2 => ?_)
    · have h := condT h hq2
      refine Runs.sA 4 [.code (C_69 3912), .code (C_69 3913), .inBlock 1, .code (C_69 979), .inLoop (C_69 244), .inBlock 0, .code (C_69 31)] ?_
      obtain ⟨c2, h⟩ := ifSome h
      obtain ⟨c3, h⟩ := ifSome h
      obtain ⟨rtrim, hr, h⟩ := bindSome h
      refine Runs.sR hE ⟨[(0, (encL cI 0 a)), (1, (encL cI 0 b)), (6, (encL cI 0 rtrim)), (7, (.os 0 0 q.length)), (8, (aI i))], [(0, aO 1 cI 0 q)], 177⟩ (C_69 3912) [(7, ⟨[], true, (encL cI 0 rtrim), [], 0, true, none⟩)] [] (kp [0, 1, 6, 7, 8]) (kq [0]) 177 [0 ≤ i ∧ i < ((a.length : Nat) : Int), 1 = 1, (1 + rest.length) * 8 ≤ 140737488355328, ∀ zi, zi < rest.length → AV.oneL ((fun zi => cI (rest.getD zi 0)) zi) = true, Sound Try.prog 156 [(.sl (1 + rest.length) (fun zi => ((fun zm => if zm < 1 then (fun zi => ([[(aI (a.getD ((i).toNat) 0))]] : List (List AV)).getD zi []) zm else (fun zi => cI (rest.getD zi 0)) (zm - 1))) (addz 0 zi)))] [] 0 (encL cI 0 rtrim) [], 0 + (1 + rest.length) ≤ 1 + rest.length] ⟨c2, rfl, c3, (fun _ _ => rfl), (Sound.conv (g_r01_trim_ok N (([(a.getD ((i).toNat) 0)] : List Int) ++ rest) rtrim hr) (.cons (Alike.sl (len_app_raw rfl rfl) (get_app_raw cI 0 ([(a.getD ((i).toNat) 0)] : List Int) rest rfl (fun zq hzq => get_chunk cI 0 ([(a.getD ((i).toNat) 0)] : List Int) zq hzq) (fun _ _ => rfl))) .nil)), z0, trivial⟩ ?_
      refine Runs.sA 1 [.code (C_69 7826), .code (C_69 7827), .inBlock 1, .code (C_69 979), .inLoop (C_69 244), .inBlock 0, .code (C_69 31)] ?_
      refine Runs.sR hE ⟨[(0, (encL cI 0 a)), (1, (encL cI 0 b)), (6, (encL cI 0 rtrim)), (7, (.os 0 0 q.length)), (8, (aI i)), (9, (aI 0)), (10, (aI 65535))], [(0, aO 1 cI 0 q)], 209⟩ (C_69 7826) [] [] (kp [0, 1, 6, 7, 8, 9, 10]) (kq [0]) 209 [] trivial ?_
      refine Runs.sA 3 [.code (C_69 62616), .inLoop (C_69 62616), .inBlock 2, .code (C_69 15655), .inBlock 1, .code (C_69 979), .inLoop (C_69 244), .inBlock 0, .code (C_69 31)] ?_
      exact Runs.sW hE _ [] (kp [0, 1, 6, 7, 8, 9, 10]) (kq [0]) 1 [] trivial (g_r01_over_L2_ok N a b q i rtrim (g_r01_over_L1 N a b fuel) ih N 0 65535 _ h E hE)
    · have h := condF h hq2
      refine Runs.sA 2 [.code (C_69 62), .code (C_69 63)] ?_
      obtain ⟨rtrim2, hr6, h⟩ := bindSome h
      refine Runs.sR hE ⟨[(4, (encL cI 0 rtrim2)), (5, (encL cI 0 rest))], [], 113⟩ (C_69 62) [(1, ⟨[], true, (encL cI 0 rtrim2), [], 0, true, none⟩)] [] (kp [4, 5]) [] 113 [Sound Try.prog 156 [(encL cI 0 q)] [] 0 (encL cI 0 rtrim2) [], 0 + q.length ≤ q.length] ⟨(g_r01_trim_ok N q rtrim2 hr6), z0, trivial⟩ ?_
      obtain rfl := Option.some.inj h
      refine Runs.sW hE ⟨[(4, (encL cI 0 rtrim2)), (5, (encL cI 0 rest))], [], 113⟩ [] (kp [4, 5]) [] 113 [] trivial ?_
      exact Runs.sT Try.f105 [] [] trivial
theorem g_r01_over_ok (N : Nat) (a : List Int) (b : List Int) (r : (List Int) × (List Int)) (h : g_r01_over N a b = some r) : Sound Try.prog 105 [(encL cI 0 a), (encL cI 0 b)] [] 0 (.tup [(encL cI 0 r.1), (encL cI 0 r.2)]) [] := by
  unfold g_r01_over at h
  refine Sound.of_runs (fu := Try.f105) (c := C_69 1) (nt := 63) (by kernel_rfl) (by kernel_rfl) (by kernel_rfl) (by kernel_rfl) (fun hm => rfl) ?_
  intro E hE
  refine Runs.sA 1 [.code (C_69 2), .code (C_69 3)] ?_
  refine Runs.sR hE ⟨[(0, (encL cI 0 a)), (1, (encL cI 0 b))], [], 32⟩ (C_69 2) [] [] (kp [0, 1]) [] 32 [] trivial ?_
  refine Runs.sA 1 [.code (C_69 6), .code (C_69 7)] ?_
  refine Runs.sR hE ⟨[(0, (encL cI 0 a)), (1, (encL cI 0 b)), (6, .nil)], [], 48⟩ (C_69 6) [] [] (kp [0, 1, 6]) [] 48 [] trivial ?_
  refine Runs.sA 1 [.code (C_69 14), .code (C_69 15)] ?_
  obtain ⟨c, h⟩ := ifSome h
  refine Runs.sR hE ⟨[(0, (encL cI 0 a)), (1, (encL cI 0 b)), (6, .nil), (7, (.os 80 0 ((List.replicate a.length 0 : List Int).length)))], [(80, aO 1 cI 0 (List.replicate a.length 0 : List Int))], 112⟩ (C_69 14) [] [] (kp [0, 1, 6] ++ [(7, .osl ((List.replicate a.length 0 : List Int).length))]) [(80, .arr 80 ((List.replicate a.length 0 : List Int).length) (fun zi => cI ((List.replicate a.length 0 : List Int).getD zi 0)))] 112 [0 ≤ ((a.length : Nat) : Int), ((a.length : Nat) : Int) ≤ ((a.length : Nat) : Int), (8 : Int) * ((a.length : Nat) : Int) ≤ 281474976710656, ((a.length : Nat) : Int) ≤ 9223372036854775807, a.length = (List.replicate a.length 0 : List Int).length, a.length = (List.replicate a.length 0 : List Int).length, ∀ zi, zi < (List.replicate a.length 0 : List Int).length → (fun zi => cI ((List.replicate a.length 0 : List Int).getD zi 0)) zi = (fun _ => [(aI 0)]) zi] ⟨c.1, (Int.le_refl _), c.2.1, c.2.2, (List.length_replicate).symm, (List.length_replicate).symm, (fun zq hzq => get_rep cI 0 0 a.length zq hzq), trivial⟩ ?_
  refine Runs.sA 2 [.code (C_69 60), .code (C_69 61), .code (C_69 31)] ?_
  refine Runs.sR hE ⟨[(0, (encL cI 0 a)), (1, (encL cI 0 b)), (6, .nil), (7, (.os 80 0 ((List.replicate a.length 0 : List Int).length))), (8, (aI (w64 (((a.length : Nat) : Int) - 1))))], [(80, aO 1 cI 0 (List.replicate a.length 0 : List Int))], 176⟩ (C_69 60) [] [] (kp [0, 1, 6, 7, 8]) (kq [80]) 176 [] trivial ?_
  refine Runs.sA 2 [.code (C_69 244), .inLoop (C_69 244), .inBlock 0, .code (C_69 31)] ?_
  exact Runs.sW hE _ [] (kp [0, 1] ++ [(6, .sl (([] : List Int).length) (fun zi => cI (([] : List Int).getD zi 0)))] ++ kp [7, 8]) [(0, .keep 80)] 1 [([] : List Int).length = 0] ⟨rfl, trivial⟩ (g_r01_over_L1_ok N a b N ([] : List Int) (List.replicate a.length 0 : List Int) (w64 (((a.length : Nat) : Int) - 1)) _ h E hE)
noncomputable def C_71 (n : Nat) : Code := cat (bodyOf Try.f31) (pth n)
theorem g_w01_wide_ok (N : Nat) (x : TRat) (r : Bool) (h : g_w01_wide N x = some r) : Sound Try.prog 31 [(.agg (TRat.cells x))] [] 0 (aB r) [] := by
  unfold g_w01_wide at h
  refine Sound.of_runs (fu := Try.f31) (c := C_71 1) (nt := 15) (by kernel_rfl) (by kernel_rfl) (by kernel_rfl) (by kernel_rfl) (fun hm => rfl) ?_
  intro E hE
  refine Runs.sA 1 [.code (C_71 2), .code (C_71 3)] ?_
  refine Runs.sR hE ⟨[(1, (.op 0 0 0))], [(0, vO 4 (TRat.cells x))], 32⟩ (C_71 2) [] [] (kp [1]) (kq [0]) 32 [] trivial ?_
  refine Runs.sA 1 [.code (C_71 6), .code (C_71 7)] ?_
  refine Runs.sR hE ⟨[(2, (aB (cond (decide (((x.f_Num.f_Limbs.length : Nat) : Int) > 12)) true (decide (((x.f_Den.f_Limbs.length : Nat) : Int) > 12)))))], [], 240⟩ (C_71 6) [] [] (kp [2]) [] 240 [0 < 1, (!(decide (((x.f_Num.f_Limbs.length : Nat) : Int) > 12))) = true → AllP [(!(decide (((x.f_Num.f_Limbs.length : Nat) : Int) > 12))) = true], (!(decide (((x.f_Num.f_Limbs.length : Nat) : Int) > 12))) = true → AllP [(!(decide (((x.f_Num.f_Limbs.length : Nat) : Int) > 12))) = true, 0 < 1], (!(decide (((x.f_Num.f_Limbs.length : Nat) : Int) > 12))) = true → AllP [(!(decide (((x.f_Num.f_Limbs.length : Nat) : Int) > 12))) = true], (!(decide (((x.f_Num.f_Limbs.length : Nat) : Int) > 12))) = true → AllP [(!(decide (((x.f_Num.f_Limbs.length : Nat) : Int) > 12))) = true], (!(decide (((x.f_Num.f_Limbs.length : Nat) : Int) > 12))) = true → AllP [(!(decide (((x.f_Num.f_Limbs.length : Nat) : Int) > 12))) = true]] ⟨o1, (fun hg => ⟨hg, trivial⟩), (fun hg => ⟨hg, o1, trivial⟩), (fun hg => ⟨hg, trivial⟩), (fun hg => ⟨hg, trivial⟩), (fun hq => ⟨hq, trivial⟩), trivial⟩ ?_
  obtain rfl := Option.some.inj h
  refine Runs.sW hE ⟨[(2, (aB (cond (decide (((x.f_Num.f_Limbs.length : Nat) : Int) > 12)) true (decide (((x.f_Den.f_Limbs.length : Nat) : Int) > 12)))))], [], 240⟩ [] (kp [2]) [] 240 [] trivial ?_
  exact Runs.sT Try.f31 [] [] trivial
noncomputable def C_72 (n : Nat) : Code := cat (bodyOf Try.f35) (pth n)
theorem g_e_CmpRat_ok (N : Nat) (x : TRat) (y : TRat) (r : Int) (h : g_e_CmpRat N x y = some r) : Sound Try.prog 35 [(.agg (TRat.cells x)), (.agg (TRat.cells y))] [] 0 (aI r) [] := by
  unfold g_e_CmpRat at h
  refine Sound.of_runs (fu := Try.f35) (c := C_72 1) (nt := 9) (by kernel_rfl) (by kernel_rfl) (by kernel_rfl) (by kernel_rfl) (fun hm => rfl) ?_
  intro E hE
  refine Runs.sA 1 [.code (C_72 2), .code (C_72 3)] ?_
  refine Runs.sR hE ⟨[(2, (.op 0 0 0)), (3, (.op 16 0 0))], [(0, vO 4 (TRat.cells x)), (16, vO 4 (TRat.cells y))], 48⟩ (C_72 2) [] [] (kp [2, 3]) (kq [0, 16]) 48 [] trivial ?_
  refine Runs.sA 1 [.code (C_72 6), .code (C_72 7)] ?_
  obtain ⟨rSubRat, hr, h⟩ := bindSome h
  obtain ⟨rsignOf, hr2, h⟩ := bindSome h
  refine Runs.sR hE ⟨[(4, (aI rsignOf))], [], 128⟩ (C_72 6) [(2, ⟨[], true, (.agg (TRat.cells rSubRat)), [], 0, false, none⟩), (3, ⟨[], true, (aI rsignOf), [], 0, false, none⟩)] [] (kp [4]) [] 128 [0 < 1, 0 < 1, Sound Try.prog 36 [(.agg (TRat.cells x)), (.agg (TRat.cells y))] [] 0 (.agg (TRat.cells rSubRat)) [], Sound Try.prog 115 [(.agg (TRat.cells rSubRat))] [] 0 (aI rsignOf) []] ⟨o1, o1, (g_e_SubRat_ok N x y rSubRat hr), (g_e_signOf_ok N rSubRat rsignOf hr2), trivial⟩ ?_
  obtain rfl := Option.some.inj h
  refine Runs.sW hE ⟨[(4, (aI rsignOf))], [], 128⟩ [] (kp [4]) [] 128 [] trivial ?_
  exact Runs.sT Try.f35 [] [] trivial
noncomputable def C_80 (n : Nat) : Code := cat (bodyOf Try.f118) (pth n)
theorem g_r01_gcd_L1_ok (N : Nat) (fuel : Nat) : ∀ (a2 : List Int) (b2 : List Int) (r : (List Int)), g_r01_gcd_L1 N fuel a2 b2 = some r → ∀ E, EnvOk E 0 → Runs Try.prog E 118 19 (SPost E [] (encL cI 0 r)) [.code (C_80 24), .inLoop (C_80 24), .inBlock 0, .code (C_80 7)] ⟨[(0, (encL cI 0 a2)), (1, (encL cI 0 b2))], [], 0⟩ := by
  induction fuel with
  | zero => intro _ _ r h; rw [g_r01_gcd_L1.eq_1] at h; cases h
  | succ fuel ih =>
    intro a2 b2 r h E hE
    rw [g_r01_gcd_L1.eq_2] at h
    refine Runs.sA 2 [.code (C_80 96), .code (C_80 97), .code (C_80 49), .inLoop (C_80 24), .inBlock 0, .code (C_80 7)] ?_
    refine Runs.sR hE ⟨[(0, (encL cI 0 a2)), (1, (encL cI 0 b2)), (9, (aB (decide (((b2.length : Nat) : Int) > 0))))], [], 48⟩ (C_80 96) [] [] (kp [0, 1, 9]) [] 48 [] trivial ?_
    refine Runs.sC 9 (C_80 194) (C_80 195) (decide (((b2.length : Nat) : Int) > 0)) (fun hq2 => ?_) (fun hq2 => ?_)
    · have h := condT h hq2
      refine Runs.sA 3 [.code (C_80 196), .code (C_80 197), .inBlock 1, .inLoop (C_80 24), .inBlock 0, .code (C_80 7)] ?_
      obtain ⟨rover, hr, h⟩ := bindSome h
      refine Runs.sR hE ⟨[(1, (encL cI 0 b2)), (6, (encL cI 0 rover.2))], [], 176⟩ (C_80 196) [(2, ⟨[], true, (.tup [(encL cI 0 rover.1), (encL cI 0 rover.2)]), [], 0, false, none⟩)] [] (kp [1, 6]) [] 176 [Sound Try.prog 105 [(encL cI 0 a2), (encL cI 0 b2)] [] 0 (.tup [(encL cI 0 rover.1), (encL cI 0 rover.2)]) []] ⟨(g_r01_over_ok N a2 b2 rover hr), trivial⟩ ?_
      refine Runs.sR hE ⟨[(0, (encL cI 0 b2)), (1, (encL cI 0 rover.2))], [], 240⟩ (C_80 197) [] [] (kp [0, 1]) [] 240 [] trivial ?_
      refine Runs.sA 2 [.code (C_80 24), .inLoop (C_80 24), .inBlock 0, .code (C_80 7)] ?_
      exact Runs.sW hE _ [] (kp [0, 1]) [] 0 [] trivial (ih b2 rover.2 _ h E hE)
    · have h := condF h hq2
      refine Runs.sA 2 [.code (C_80 14), .code (C_80 15)] ?_
      refine Runs.sR hE ⟨[(4, (encL cI 0 a2))], [], 80⟩ (C_80 14) [] [] (kp [4]) [] 80 [] trivial ?_
      obtain rfl := Option.some.inj h
      refine Runs.sW hE ⟨[(4, (encL cI 0 a2))], [], 80⟩ [] (kp [4]) [] 80 [] trivial ?_
      exact Runs.sT Try.f118 [] [] trivial
theorem g_r01_gcd_ok (N : Nat) (a : List Int) (b : List Int) (r : (List Int)) (h : g_r01_gcd N a b = some r) : Sound Try.prog 118 [(encL cI 0 a), (encL cI 0 b)] [] 0 (encL cI 0 r) [] := by
  unfold g_r01_gcd at h
  refine Sound.of_runs (fu := Try.f118) (c := C_80 1) (nt := 19) (by kernel_rfl) (by kernel_rfl) (by kernel_rfl) (by kernel_rfl) (fun hm => rfl) ?_
  intro E hE
  refine Runs.sA 1 [.code (C_80 2), .code (C_80 3)] ?_
  refine Runs.sR hE ⟨[(0, (encL cI 0 a)), (1, (encL cI 0 b))], [], 16⟩ (C_80 2) [] [] (kp [0, 1]) [] 16 [] trivial ?_
  refine Runs.sA 3 [.code (C_80 24), .inLoop (C_80 24), .inBlock 0, .code (C_80 7)] ?_
  exact Runs.sW hE _ [] (kp [0, 1]) [] 0 [] trivial (g_r01_gcd_L1_ok N N a b _ h E hE)
noncomputable def C_79 (n : Nat) : Code := cat (bodyOf Try.f45) (pth n)
theorem g_r01_Over_ok (N : Nat) (a : TInt) (b : TInt) (r : TRat) (h : g_r01_Over N a b = some r) : Sound Try.prog 45 [(.agg (TInt.cells a)), (.agg (TInt.cells b))] [] 0 (.agg (TRat.cells r)) [] := by
  unfold g_r01_Over at h
  refine Sound.of_runs (fu := Try.f45) (c := C_79 1) (nt := 52) (by kernel_rfl) (by kernel_rfl) (by kernel_rfl) (by kernel_rfl) (fun hm => rfl) ?_
  intro E hE
  refine Runs.sA 1 [.code (C_79 2), .code (C_79 3)] ?_
  refine Runs.sR hE ⟨[(2, (.op 0 0 0)), (3, (.op 16 0 0)), (4, (.op 32 0 0))], [(0, vO 2 (TInt.cells a)), (16, vO 2 (TInt.cells b)), (32, vO 4 [(aB false), .nil, (aB false), .nil])], 48⟩ (C_79 2) [] [] (kp [2, 3, 4]) (kq [0, 16, 32]) 48 [] trivial ?_
  refine Runs.sA 1 [.code (C_79 6), .code (C_79 7)] ?_
  obtain ⟨rread, hr, h⟩ := bindSome h
  obtain ⟨rread2, hr2, h⟩ := bindSome h
  refine Runs.sR hE ⟨[(2, (.op 0 0 0)), (3, (.op 16 0 0)), (4, (.op 32 0 0)), (5, (encL cI 0 rread)), (6, (encL cI 0 rread2))], [(0, vO 2 (TInt.cells a)), (16, vO 2 (TInt.cells b)), (32, vO 4 [(aB false), .nil, (aB false), .nil])], 176⟩ (C_79 6) [(2, ⟨[], true, (encL cI 0 rread), [], 0, false, none⟩), (5, ⟨[], true, (encL cI 0 rread2), [], 0, false, none⟩)] [] (kp [2, 3, 4, 5, 6]) (kq [0, 16, 32]) 176 [0 < 1, Sound Try.prog 103 [(encL (cU .u16) 0 a.f_Limbs)] [] 0 (encL cI 0 rread) [], 0 < 1, Sound Try.prog 103 [(encL (cU .u16) 0 b.f_Limbs)] [] 0 (encL cI 0 rread2) []] ⟨o1, (g_r01_read_ok N a.f_Limbs rread hr), o1, (g_r01_read_ok N b.f_Limbs rread2 hr2), trivial⟩ ?_
  refine Runs.sA 2 [.code (C_79 28), .code (C_79 29), .code (C_79 15)] ?_
  refine Runs.sR hE ⟨[(2, (.op 0 0 0)), (3, (.op 16 0 0)), (4, (.op 32 0 0)), (5, (encL cI 0 rread)), (6, (encL cI 0 rread2)), (20, (aB (((rread2.length : Nat) : Int) == 0)))], [(0, vO 2 (TInt.cells a)), (16, vO 2 (TInt.cells b)), (32, vO 4 [(aB false), .nil, (aB false), .nil])], 224⟩ (C_79 28) [] [] (kp [2, 3, 4, 5, 6, 20]) (kq [0, 16, 32]) 224 [] trivial ?_
  refine Runs.sC 20 (C_79 58) (C_79 59) (((rread2.length : Nat) : Int) == 0) (fun hq2 => ?_) (fun hq2 => ?_)
  · have h := condT h hq2
    refine Runs.sA 1 [.code (C_79 116), .code (C_79 117), .code (C_79 15)] ?_
    obtain ⟨rmade, hr3, h⟩ := bindSome h
    obtain ⟨rOf, hr4, h⟩ := bindSome h
    refine Runs.sR hE ⟨[(4, (.op 32 0 0))], [(32, vO 4 [(aB rmade.f_Neg), (encL (cU .u16) 0 rmade.f_Limbs), (aB rOf.f_Neg), (encL (cU .u16) 0 rOf.f_Limbs)])], 336⟩ (C_79 116) [(3, ⟨[], true, (.agg (TInt.cells rmade)), [], 0, false, none⟩), (4, ⟨[], true, (.agg (TInt.cells rOf)), [], 0, false, none⟩)] [] (kp [4]) (kq [32]) 336 [0 < 1, Sound Try.prog 104 [(aB a.f_Neg), (encL cI 0 rread)] [] 0 (.agg (TInt.cells rmade)) [], Sound Try.prog 24 [(aI 1)] [] 0 (.agg (TInt.cells rOf)) [], 0 < 1] ⟨o1, (g_r01_made_ok N a.f_Neg rread rmade hr3), (g_r01_Of_ok N 1 rOf hr4), o1, trivial⟩ ?_
    obtain rfl := Option.some.inj h
    refine Runs.sW hE ⟨[(4, (.op 16 0 0))], [(16, vO 4 [(aB rmade.f_Neg), (encL (cU .u16) 0 rmade.f_Limbs), (aB rOf.f_Neg), (encL (cU .u16) 0 rOf.f_Limbs)])], 336⟩ [] (kp [4]) [(16, .keep 32)] 336 [] trivial ?_
    exact Runs.sT Try.f45 [16] [0 < 1] ⟨o1, trivial⟩
  · have h := condF h hq2
    refine Runs.sA 2 [.code (C_79 30), .code (C_79 31)] ?_
    obtain ⟨rgcd, hr5, h⟩ := bindSome h
    refine Runs.sR hE ⟨[(2, (.op 0 0 0)), (3, (.op 16 0 0)), (4, (.op 32 0 0)), (5, (encL cI 0 rread)), (6, (encL cI 0 rread2)), (7, (encL cI 0 rgcd))], [(0, vO 2 (TInt.cells a)), (16, vO 2 (TInt.cells b)), (32, vO 4 [(aB false), .nil, (aB false), .nil])], 288⟩ (C_79 30) [(2, ⟨[], true, (encL cI 0 rgcd), [], 0, false, none⟩)] [] (kp [2, 3, 4, 5, 6, 7]) (kq [0, 16, 32]) 288 [Sound Try.prog 118 [(encL cI 0 rread), (encL cI 0 rread2)] [] 0 (encL cI 0 rgcd) []] ⟨(g_r01_gcd_ok N rread rread2 rgcd hr5), trivial⟩ ?_
    refine Runs.sA 1 [.code (C_79 62), .code (C_79 63)] ?_
    obtain ⟨rover, hr6, h⟩ := bindSome h
    refine Runs.sR hE ⟨[(2, (.op 0 0 0)), (3, (.op 16 0 0)), (4, (.op 32 0 0)), (6, (encL cI 0 rread2)), (7, (encL cI 0 rgcd)), (8, (encL cI 0 rover.1))], [(0, vO 2 (TInt.cells a)), (16, vO 2 (TInt.cells b)), (32, vO 4 [(aB false), .nil, (aB false), .nil])], 416⟩ (C_79 62) [(2, ⟨[], true, (.tup [(encL cI 0 rover.1), (encL cI 0 rover.2)]), [], 0, false, none⟩)] [] (kp [2, 3, 4, 6, 7, 8]) (kq [0, 16, 32]) 416 [Sound Try.prog 105 [(encL cI 0 rread), (encL cI 0 rgcd)] [] 0 (.tup [(encL cI 0 rover.1), (encL cI 0 rover.2)]) []] ⟨(g_r01_over_ok N rread rgcd rover hr6), trivial⟩ ?_
    refine Runs.sA 1 [.code (C_79 126), .code (C_79 127)] ?_
    obtain ⟨rover2, hr7, h⟩ := bindSome h
    refine Runs.sR hE ⟨[(2, (.op 0 0 0)), (3, (.op 16 0 0)), (4, (.op 32 0 0)), (8, (encL cI 0 rover.1)), (10, (encL cI 0 rover2.1))], [(0, vO 2 (TInt.cells a)), (16, vO 2 (TInt.cells b)), (32, vO 4 [(aB false), .nil, (aB false), .nil])], 544⟩ (C_79 126) [(2, ⟨[], true, (.tup [(encL cI 0 rover2.1), (encL cI 0 rover2.2)]), [], 0, false, none⟩)] [] (kp [2, 3, 4, 8, 10]) (kq [0, 16, 32]) 544 [Sound Try.prog 105 [(encL cI 0 rread2), (encL cI 0 rgcd)] [] 0 (.tup [(encL cI 0 rover2.1), (encL cI 0 rover2.2)]) []] ⟨(g_r01_over_ok N rread2 rgcd rover2 hr7), trivial⟩ ?_
    refine Runs.sA 1 [.code (C_79 254), .code (C_79 255)] ?_
    obtain ⟨rmade2, hr8, h⟩ := bindSome h
    obtain ⟨rmade3, hr9, h⟩ := bindSome h
    refine Runs.sR hE ⟨[(4, (.op 32 0 0))], [(32, vO 4 [(aB rmade2.f_Neg), (encL (cU .u16) 0 rmade2.f_Limbs), (aB rmade3.f_Neg), (encL (cU .u16) 0 rmade3.f_Limbs)])], 720⟩ (C_79 254) [(6, ⟨[], true, (.agg (TInt.cells rmade2)), [], 0, false, none⟩), (8, ⟨[], true, (.agg (TInt.cells rmade3)), [], 0, false, none⟩)] [] (kp [4]) (kq [32]) 720 [0 < 1, 0 < 1, Sound Try.prog 104 [(aB (!(a.f_Neg == b.f_Neg))), (encL cI 0 rover.1)] [] 0 (.agg (TInt.cells rmade2)) [], Sound Try.prog 104 [(aB false), (encL cI 0 rover2.1)] [] 0 (.agg (TInt.cells rmade3)) [], 0 < 1] ⟨o1, o1, (g_r01_made_ok N (!(a.f_Neg == b.f_Neg)) rover.1 rmade2 hr8), (g_r01_made_ok N false rover2.1 rmade3 hr9), o1, trivial⟩ ?_
    obtain rfl := Option.some.inj h
    refine Runs.sW hE ⟨[(4, (.op 16 0 0))], [(16, vO 4 [(aB rmade2.f_Neg), (encL (cU .u16) 0 rmade2.f_Limbs), (aB rmade3.f_Neg), (encL (cU .u16) 0 rmade3.f_Limbs)])], 720⟩ [] (kp [4]) [(16, .keep 32)] 720 [] trivial ?_
    exact Runs.sT Try.f45 [16] [0 < 1] ⟨o1, trivial⟩
noncomputable def C_78 (n : Nat) : Code := cat (bodyOf Try.f57) (pth n)
theorem g_r01_NormRat_ok (N : Nat) (x : TRat) (r : TRat) (h : g_r01_NormRat N x = some r) : Sound Try.prog 57 [(.agg (TRat.cells x))] [] 0 (.agg (TRat.cells r)) [] := by
  unfold g_r01_NormRat at h
  refine Sound.of_runs (fu := Try.f57) (c := C_78 1) (nt := 8) (by kernel_rfl) (by kernel_rfl) (by kernel_rfl) (by kernel_rfl) (fun hm => rfl) ?_
  intro E hE
  refine Runs.sA 1 [.code (C_78 2), .code (C_78 3)] ?_
  refine Runs.sR hE ⟨[(1, (.op 0 0 0)), (2, (.op 16 0 0))], [(0, vO 4 (TRat.cells x)), (16, vO 4 [(aB false), .nil, (aB false), .nil])], 32⟩ (C_78 2) [] [] (kp [1, 2]) (kq [0, 16]) 32 [] trivial ?_
  refine Runs.sA 1 [.code (C_78 6), .code (C_78 7)] ?_
  obtain ⟨rOver, hr, h⟩ := bindSome h
  refine Runs.sR hE ⟨[(2, (.op 16 0 0))], [(16, vO 4 (TRat.cells rOver))], 128⟩ (C_78 6) [(4, ⟨[], true, (.agg (TRat.cells rOver)), [], 0, false, none⟩)] [] (kp [2]) (kq [16]) 128 [0 < 1, 0 < 1, Sound Try.prog 45 [(.agg (TInt.cells x.f_Num)), (.agg (TInt.cells x.f_Den))] [] 0 (.agg (TRat.cells rOver)) [], 0 < 1] ⟨o1, o1, (g_r01_Over_ok N x.f_Num x.f_Den rOver hr), o1, trivial⟩ ?_
  obtain rfl := Option.some.inj h
  refine Runs.sW hE ⟨[(2, (.op 16 0 0))], [(16, vO 4 (TRat.cells rOver))], 128⟩ [] (kp [2]) (kq [16]) 128 [] trivial ?_
  exact Runs.sT Try.f57 [16] [0 < 1] ⟨o1, trivial⟩
noncomputable def C_77 (n : Nat) : Code := cat (bodyOf Try.f42) (pth n)
theorem g_r01_SignRat_ok (N : Nat) (x : TRat) (r : Int) (h : g_r01_SignRat N x = some r) : Sound Try.prog 42 [(.agg (TRat.cells x))] [] 0 (aI r) [] := by
  unfold g_r01_SignRat at h
  refine Sound.of_runs (fu := Try.f42) (c := C_77 1) (nt := 7) (by kernel_rfl) (by kernel_rfl) (by kernel_rfl) (by kernel_rfl) (fun hm => rfl) ?_
  intro E hE
  refine Runs.sA 1 [.code (C_77 2), .code (C_77 3)] ?_
  refine Runs.sR hE ⟨[(1, (.op 0 0 0))], [(0, vO 4 (TRat.cells x))], 32⟩ (C_77 2) [] [] (kp [1]) (kq [0]) 32 [] trivial ?_
  refine Runs.sA 1 [.code (C_77 6), .code (C_77 7)] ?_
  obtain ⟨rNormRat, hr, h⟩ := bindSome h
  obtain ⟨rSign, hr2, h⟩ := bindSome h
  refine Runs.sR hE ⟨[(2, (aI rSign))], [], 112⟩ (C_77 6) [(1, ⟨[], true, (.agg (TRat.cells rNormRat)), [], 0, false, none⟩), (3, ⟨[], true, (aI rSign), [], 0, false, none⟩)] [] (kp [2]) [] 112 [0 < 1, Sound Try.prog 57 [(.agg (TRat.cells x))] [] 0 (.agg (TRat.cells rNormRat)) [], Sound Try.prog 26 [(.agg (TInt.cells rNormRat.f_Num))] [] 0 (aI rSign) []] ⟨o1, (g_r01_NormRat_ok N x rNormRat hr), (g_r01_Sign_ok N rNormRat.f_Num rSign hr2), trivial⟩ ?_
  obtain rfl := Option.some.inj h
  refine Runs.sW hE ⟨[(2, (aI rSign))], [], 112⟩ [] (kp [2]) [] 112 [] trivial ?_
  exact Runs.sT Try.f42 [] [] trivial
noncomputable def C_82 (n : Nat) : Code := cat (bodyOf Try.f46) (pth n)
theorem g_r01_AddRat_ok (N : Nat) (x : TRat) (y : TRat) (r : TRat) (h : g_r01_AddRat N x y = some r) : Sound Try.prog 46 [(.agg (TRat.cells x)), (.agg (TRat.cells y))] [] 0 (.agg (TRat.cells r)) [] := by
  unfold g_r01_AddRat at h
  refine Sound.of_runs (fu := Try.f46) (c := C_82 1) (nt := 28) (by kernel_rfl) (by kernel_rfl) (by kernel_rfl) (by kernel_rfl) (fun hm => rfl) ?_
  intro E hE
  refine Runs.sA 1 [.code (C_82 2), .code (C_82 3)] ?_
  refine Runs.sR hE ⟨[(2, (.op 0 0 0)), (3, (.op 16 0 0)), (4, (.op 32 0 0))], [(0, vO 4 (TRat.cells x)), (16, vO 4 (TRat.cells y)), (32, vO 4 [(aB false), .nil, (aB false), .nil])], 48⟩ (C_82 2) [] [] (kp [2, 3, 4]) (kq [0, 16, 32]) 48 [] trivial ?_
  refine Runs.sA 1 [.code (C_82 6), .code (C_82 7)] ?_
  obtain ⟨rNormRat, hr, h⟩ := bindSome h
  obtain ⟨rNormRat2, hr2, h⟩ := bindSome h
  refine Runs.sR hE ⟨[(4, (.op 32 0 0)), (5, (.op 112 0 0)), (6, (.op 128 0 0))], [(32, vO 4 [(aB false), .nil, (aB false), .nil]), (112, vO 4 (TRat.cells rNormRat)), (128, vO 4 (TRat.cells rNormRat2))], 176⟩ (C_82 6) [(1, ⟨[], true, (.agg (TRat.cells rNormRat)), [], 0, false, none⟩), (3, ⟨[], true, (.agg (TRat.cells rNormRat2)), [], 0, false, none⟩)] [] (kp [4, 5, 6]) (kq [32, 112, 128]) 176 [0 < 1, Sound Try.prog 57 [(.agg (TRat.cells x))] [] 0 (.agg (TRat.cells rNormRat)) [], 0 < 1, Sound Try.prog 57 [(.agg (TRat.cells y))] [] 0 (.agg (TRat.cells rNormRat2)) [], 0 < 1, 0 < 1] ⟨o1, (g_r01_NormRat_ok N x rNormRat hr), o1, (g_r01_NormRat_ok N y rNormRat2 hr2), o1, o1, trivial⟩ ?_
  refine Runs.sA 1 [.code (C_82 14), .code (C_82 15)] ?_
  obtain ⟨rMul, hr3, h⟩ := bindSome h
  obtain ⟨rMul2, hr4, h⟩ := bindSome h
  obtain ⟨rAdd, hr5, h⟩ := bindSome h
  obtain ⟨rMul3, hr6, h⟩ := bindSome h
  obtain ⟨rOver, hr7, h⟩ := bindSome h
  refine Runs.sR hE ⟨[(4, (.op 32 0 0))], [(32, vO 4 (TRat.cells rOver))], 464⟩ (C_82 14) [(4, ⟨[], true, (.agg (TInt.cells rMul)), [], 0, false, none⟩), (9, ⟨[], true, (.agg (TInt.cells rMul2)), [], 0, false, none⟩), (10, ⟨[], true, (.agg (TInt.cells rAdd)), [], 0, false, none⟩), (15, ⟨[], true, (.agg (TInt.cells rMul3)), [], 0, false, none⟩), (16, ⟨[], true, (.agg (TRat.cells rOver)), [], 0, false, none⟩)] [] (kp [4]) (kq [32]) 464 [0 < 1, 0 < 1, Sound Try.prog 30 [(.agg (TInt.cells rNormRat.f_Num)), (.agg (TInt.cells rNormRat2.f_Den))] [] 0 (.agg (TInt.cells rMul)) [], 0 < 1, 0 < 1, Sound Try.prog 30 [(.agg (TInt.cells rNormRat2.f_Num)), (.agg (TInt.cells rNormRat.f_Den))] [] 0 (.agg (TInt.cells rMul2)) [], Sound Try.prog 28 [(.agg (TInt.cells rMul)), (.agg (TInt.cells rMul2))] [] 0 (.agg (TInt.cells rAdd)) [], 0 < 1, 0 < 1, Sound Try.prog 30 [(.agg (TInt.cells rNormRat.f_Den)), (.agg (TInt.cells rNormRat2.f_Den))] [] 0 (.agg (TInt.cells rMul3)) [], Sound Try.prog 45 [(.agg (TInt.cells rAdd)), (.agg (TInt.cells rMul3))] [] 0 (.agg (TRat.cells rOver)) [], 0 < 1] ⟨o1, o1, (g_r01_Mul_ok N rNormRat.f_Num rNormRat2.f_Den rMul hr3), o1, o1, (g_r01_Mul_ok N rNormRat2.f_Num rNormRat.f_Den rMul2 hr4), (g_r01_Add_ok N rMul rMul2 rAdd hr5), o1, o1, (g_r01_Mul_ok N rNormRat.f_Den rNormRat2.f_Den rMul3 hr6), (g_r01_Over_ok N rAdd rMul3 rOver hr7), o1, trivial⟩ ?_
  obtain rfl := Option.some.inj h
  refine Runs.sW hE ⟨[(4, (.op 16 0 0))], [(16, vO 4 (TRat.cells rOver))], 464⟩ [] (kp [4]) [(16, .keep 32)] 464 [] trivial ?_
  exact Runs.sT Try.f46 [16] [0 < 1] ⟨o1, trivial⟩
noncomputable def C_84 (n : Nat) : Code := cat (bodyOf Try.f119) (pth n)
theorem g_r01_NegRat_ok (N : Nat) (x : TRat) (r : TRat) (h : g_r01_NegRat N x = some r) : Sound Try.prog 119 [(.agg (TRat.cells x))] [] 0 (.agg (TRat.cells r)) [] := by
  unfold g_r01_NegRat at h
  refine Sound.of_runs (fu := Try.f119) (c := C_84 1) (nt := 12) (by kernel_rfl) (by kernel_rfl) (by kernel_rfl) (by kernel_rfl) (fun hm => rfl) ?_
  intro E hE
  refine Runs.sA 1 [.code (C_84 2), .code (C_84 3)] ?_
  refine Runs.sR hE ⟨[(1, (.op 0 0 0)), (2, (.op 16 0 0))], [(0, vO 4 (TRat.cells x)), (16, vO 4 [(aB false), .nil, (aB false), .nil])], 32⟩ (C_84 2) [] [] (kp [1, 2]) (kq [0, 16]) 32 [] trivial ?_
  refine Runs.sA 1 [.code (C_84 6), .code (C_84 7)] ?_
  obtain ⟨rNormRat, hr, h⟩ := bindSome h
  refine Runs.sR hE ⟨[(2, (.op 16 0 0)), (3, (.op 64 0 0))], [(16, vO 4 [(aB false), .nil, (aB false), .nil]), (64, vO 4 (TRat.cells rNormRat))], 96⟩ (C_84 6) [(1, ⟨[], true, (.agg (TRat.cells rNormRat)), [], 0, false, none⟩)] [] (kp [2, 3]) (kq [16, 64]) 96 [0 < 1, Sound Try.prog 57 [(.agg (TRat.cells x))] [] 0 (.agg (TRat.cells rNormRat)) [], 0 < 1] ⟨o1, (g_r01_NormRat_ok N x rNormRat hr), o1, trivial⟩ ?_
  refine Runs.sA 1 [.code (C_84 14), .code (C_84 15)] ?_
  obtain ⟨rNeg, hr2, h⟩ := bindSome h
  refine Runs.sR hE ⟨[(2, (.op 16 0 0))], [(16, vO 4 [(aB rNeg.f_Neg), (encL (cU .u16) 0 rNeg.f_Limbs), (aB rNormRat.f_Den.f_Neg), (encL (cU .u16) 0 rNormRat.f_Den.f_Limbs)])], 208⟩ (C_84 14) [(2, ⟨[], true, (.agg (TInt.cells rNeg)), [], 0, false, none⟩)] [] (kp [2]) (kq [16]) 208 [0 < 1, Sound Try.prog 109 [(.agg (TInt.cells rNormRat.f_Num))] [] 0 (.agg (TInt.cells rNeg)) [], 0 < 1, 0 < 1] ⟨o1, (g_r01_Neg_ok N rNormRat.f_Num rNeg hr2), o1, o1, trivial⟩ ?_
  obtain rfl := Option.some.inj h
  refine Runs.sW hE ⟨[(2, (.op 16 0 0))], [(16, vO 4 [(aB rNeg.f_Neg), (encL (cU .u16) 0 rNeg.f_Limbs), (aB rNormRat.f_Den.f_Neg), (encL (cU .u16) 0 rNormRat.f_Den.f_Limbs)])], 208⟩ [] (kp [2]) (kq [16]) 208 [] trivial ?_
  exact Runs.sT Try.f119 [16] [0 < 1] ⟨o1, trivial⟩
noncomputable def C_83 (n : Nat) : Code := cat (bodyOf Try.f47) (pth n)
theorem g_r01_SubRat_ok (N : Nat) (x : TRat) (y : TRat) (r : TRat) (h : g_r01_SubRat N x y = some r) : Sound Try.prog 47 [(.agg (TRat.cells x)), (.agg (TRat.cells y))] [] 0 (.agg (TRat.cells r)) [] := by
  unfold g_r01_SubRat at h
  refine Sound.of_runs (fu := Try.f47) (c := C_83 1) (nt := 9) (by kernel_rfl) (by kernel_rfl) (by kernel_rfl) (by kernel_rfl) (fun hm => rfl) ?_
  intro E hE
  refine Runs.sA 1 [.code (C_83 2), .code (C_83 3)] ?_
  refine Runs.sR hE ⟨[(2, (.op 0 0 0)), (3, (.op 16 0 0)), (4, (.op 32 0 0))], [(0, vO 4 (TRat.cells x)), (16, vO 4 (TRat.cells y)), (32, vO 4 [(aB false), .nil, (aB false), .nil])], 48⟩ (C_83 2) [] [] (kp [2, 3, 4]) (kq [0, 16, 32]) 48 [] trivial ?_
  refine Runs.sA 1 [.code (C_83 6), .code (C_83 7)] ?_
  obtain ⟨rNegRat, hr, h⟩ := bindSome h
  obtain ⟨rAddRat, hr2, h⟩ := bindSome h
  refine Runs.sR hE ⟨[(4, (.op 32 0 0))], [(32, vO 4 (TRat.cells rAddRat))], 128⟩ (C_83 6) [(2, ⟨[], true, (.agg (TRat.cells rNegRat)), [], 0, false, none⟩), (3, ⟨[], true, (.agg (TRat.cells rAddRat)), [], 0, false, none⟩)] [] (kp [4]) (kq [32]) 128 [0 < 1, 0 < 1, Sound Try.prog 119 [(.agg (TRat.cells y))] [] 0 (.agg (TRat.cells rNegRat)) [], Sound Try.prog 46 [(.agg (TRat.cells x)), (.agg (TRat.cells rNegRat))] [] 0 (.agg (TRat.cells rAddRat)) [], 0 < 1] ⟨o1, o1, (g_r01_NegRat_ok N y rNegRat hr), (g_r01_AddRat_ok N x rNegRat rAddRat hr2), o1, trivial⟩ ?_
  obtain rfl := Option.some.inj h
  refine Runs.sW hE ⟨[(4, (.op 16 0 0))], [(16, vO 4 (TRat.cells rAddRat))], 128⟩ [] (kp [4]) [(16, .keep 32)] 128 [] trivial ?_
  exact Runs.sT Try.f47 [16] [0 < 1] ⟨o1, trivial⟩
noncomputable def C_85 (n : Nat) : Code := cat (bodyOf Try.f48) (pth n)
theorem g_r01_MulRat_ok (N : Nat) (x : TRat) (y : TRat) (r : TRat) (h : g_r01_MulRat N x y = some r) : Sound Try.prog 48 [(.agg (TRat.cells x)), (.agg (TRat.cells y))] [] 0 (.agg (TRat.cells r)) [] := by
  unfold g_r01_MulRat at h
  refine Sound.of_runs (fu := Try.f48) (c := C_85 1) (nt := 22) (by kernel_rfl) (by kernel_rfl) (by kernel_rfl) (by kernel_rfl) (fun hm => rfl) ?_
  intro E hE
  refine Runs.sA 1 [.code (C_85 2), .code (C_85 3)] ?_
  refine Runs.sR hE ⟨[(2, (.op 0 0 0)), (3, (.op 16 0 0)), (4, (.op 32 0 0))], [(0, vO 4 (TRat.cells x)), (16, vO 4 (TRat.cells y)), (32, vO 4 [(aB false), .nil, (aB false), .nil])], 48⟩ (C_85 2) [] [] (kp [2, 3, 4]) (kq [0, 16, 32]) 48 [] trivial ?_
  refine Runs.sA 1 [.code (C_85 6), .code (C_85 7)] ?_
  obtain ⟨rNormRat, hr, h⟩ := bindSome h
  obtain ⟨rNormRat2, hr2, h⟩ := bindSome h
  refine Runs.sR hE ⟨[(4, (.op 32 0 0)), (5, (.op 112 0 0)), (6, (.op 128 0 0))], [(32, vO 4 [(aB false), .nil, (aB false), .nil]), (112, vO 4 (TRat.cells rNormRat)), (128, vO 4 (TRat.cells rNormRat2))], 176⟩ (C_85 6) [(1, ⟨[], true, (.agg (TRat.cells rNormRat)), [], 0, false, none⟩), (3, ⟨[], true, (.agg (TRat.cells rNormRat2)), [], 0, false, none⟩)] [] (kp [4, 5, 6]) (kq [32, 112, 128]) 176 [0 < 1, Sound Try.prog 57 [(.agg (TRat.cells x))] [] 0 (.agg (TRat.cells rNormRat)) [], 0 < 1, Sound Try.prog 57 [(.agg (TRat.cells y))] [] 0 (.agg (TRat.cells rNormRat2)) [], 0 < 1, 0 < 1] ⟨o1, (g_r01_NormRat_ok N x rNormRat hr), o1, (g_r01_NormRat_ok N y rNormRat2 hr2), o1, o1, trivial⟩ ?_
  refine Runs.sA 1 [.code (C_85 14), .code (C_85 15)] ?_
  obtain ⟨rMul, hr3, h⟩ := bindSome h
  obtain ⟨rMul2, hr4, h⟩ := bindSome h
  obtain ⟨rOver, hr5, h⟩ := bindSome h
  refine Runs.sR hE ⟨[(4, (.op 32 0 0))], [(32, vO 4 (TRat.cells rOver))], 368⟩ (C_85 14) [(4, ⟨[], true, (.agg (TInt.cells rMul)), [], 0, false, none⟩), (9, ⟨[], true, (.agg (TInt.cells rMul2)), [], 0, false, none⟩), (10, ⟨[], true, (.agg (TRat.cells rOver)), [], 0, false, none⟩)] [] (kp [4]) (kq [32]) 368 [0 < 1, 0 < 1, Sound Try.prog 30 [(.agg (TInt.cells rNormRat.f_Num)), (.agg (TInt.cells rNormRat2.f_Num))] [] 0 (.agg (TInt.cells rMul)) [], 0 < 1, 0 < 1, Sound Try.prog 30 [(.agg (TInt.cells rNormRat.f_Den)), (.agg (TInt.cells rNormRat2.f_Den))] [] 0 (.agg (TInt.cells rMul2)) [], Sound Try.prog 45 [(.agg (TInt.cells rMul)), (.agg (TInt.cells rMul2))] [] 0 (.agg (TRat.cells rOver)) [], 0 < 1] ⟨o1, o1, (g_r01_Mul_ok N rNormRat.f_Num rNormRat2.f_Num rMul hr3), o1, o1, (g_r01_Mul_ok N rNormRat.f_Den rNormRat2.f_Den rMul2 hr4), (g_r01_Over_ok N rMul rMul2 rOver hr5), o1, trivial⟩ ?_
  obtain rfl := Option.some.inj h
  refine Runs.sW hE ⟨[(4, (.op 16 0 0))], [(16, vO 4 (TRat.cells rOver))], 368⟩ [] (kp [4]) [(16, .keep 32)] 368 [] trivial ?_
  exact Runs.sT Try.f48 [16] [0 < 1] ⟨o1, trivial⟩
noncomputable def C_88 (n : Nat) : Code := cat (bodyOf Try.f50) (pth n)
theorem g_r01_CmpRat_ok (N : Nat) (x : TRat) (y : TRat) (r : Int) (h : g_r01_CmpRat N x y = some r) : Sound Try.prog 50 [(.agg (TRat.cells x)), (.agg (TRat.cells y))] [] 0 (aI r) [] := by
  unfold g_r01_CmpRat at h
  refine Sound.of_runs (fu := Try.f50) (c := C_88 1) (nt := 9) (by kernel_rfl) (by kernel_rfl) (by kernel_rfl) (by kernel_rfl) (fun hm => rfl) ?_
  intro E hE
  refine Runs.sA 1 [.code (C_88 2), .code (C_88 3)] ?_
  refine Runs.sR hE ⟨[(2, (.op 0 0 0)), (3, (.op 16 0 0))], [(0, vO 4 (TRat.cells x)), (16, vO 4 (TRat.cells y))], 48⟩ (C_88 2) [] [] (kp [2, 3]) (kq [0, 16]) 48 [] trivial ?_
  refine Runs.sA 1 [.code (C_88 6), .code (C_88 7)] ?_
  obtain ⟨rSubRat, hr, h⟩ := bindSome h
  obtain ⟨rSignRat, hr2, h⟩ := bindSome h
  refine Runs.sR hE ⟨[(4, (aI rSignRat))], [], 128⟩ (C_88 6) [(2, ⟨[], true, (.agg (TRat.cells rSubRat)), [], 0, false, none⟩), (3, ⟨[], true, (aI rSignRat), [], 0, false, none⟩)] [] (kp [4]) [] 128 [0 < 1, 0 < 1, Sound Try.prog 47 [(.agg (TRat.cells x)), (.agg (TRat.cells y))] [] 0 (.agg (TRat.cells rSubRat)) [], Sound Try.prog 42 [(.agg (TRat.cells rSubRat))] [] 0 (aI rSignRat) []] ⟨o1, o1, (g_r01_SubRat_ok N x y rSubRat hr), (g_r01_SignRat_ok N rSubRat rSignRat hr2), trivial⟩ ?_
  obtain rfl := Option.some.inj h
  refine Runs.sW hE ⟨[(4, (aI rSignRat))], [], 128⟩ [] (kp [4]) [] 128 [] trivial ?_
  exact Runs.sT Try.f50 [] [] trivial
noncomputable def C_96 (n : Nat) : Code := cat (bodyOf Try.f59) (pth n)
theorem g_w01_wideAll_L1_ok (N : Nat) (l : List TRat) (fuel : Nat) : ∀ (i : Int) (r : Bool), g_w01_wideAll_L1 N l fuel i = some r → ∀ E, EnvOk E 0 → Runs Try.prog E 59 21 (SPost E [] (aB r)) [.code (C_96 116), .inLoop (C_96 116), .inBlock 0, .code (C_96 15)] ⟨[(0, (encL TRat.cells TRat.d l)), (5, (aI i))], [], 0⟩ := by
  induction fuel with
  | zero => intro _ r h; rw [g_w01_wideAll_L1.eq_1] at h; cases h
  | succ fuel ih =>
    intro i r h E hE
    rw [g_w01_wideAll_L1.eq_2] at h
    refine Runs.sA 2 [.code (C_96 464), .code (C_96 465), .code (C_96 233), .inLoop (C_96 116), .inBlock 0, .code (C_96 15)] ?_
    refine Runs.sR hE ⟨[(0, (encL TRat.cells TRat.d l)), (5, (aI i)), (13, (aB (decide (i < ((l.length : Nat) : Int)))))], [], 64⟩ (C_96 464) [] [] (kp [0, 5, 13]) [] 64 [] trivial ?_
    refine Runs.sC 13 (C_96 930) (C_96 931) (decide (i < ((l.length : Nat) : Int))) (fun hq3 => ?_) (fun hq3 => ?_)
    · have h := condT h hq3
      refine Runs.sA 4 [.code (C_96 1864), .code (C_96 1865), .inBlock 1, .code (C_96 467), .inLoop (C_96 116), .inBlock 0, .code (C_96 15)] ?_
      obtain ⟨c, h⟩ := ifSome h
      obtain ⟨rwide, hr, h⟩ := bindSome h
      refine Runs.sR hE ⟨[(0, (encL TRat.cells TRat.d l)), (5, (aI i)), (20, (aB rwide))], [], 144⟩ (C_96 1864) [(4, ⟨[], true, (aB rwide), [], 0, false, none⟩)] [] (kp [0, 5, 20]) [] 144 [0 ≤ i ∧ i < ((l.length : Nat) : Int), Sound Try.prog 31 [(.agg [(aB (((l.getD ((i).toNat) TRat.d).f_Num).f_Neg)), (encL (cU .u16) 0 (((l.getD ((i).toNat) TRat.d).f_Num).f_Limbs)), (aB (((l.getD ((i).toNat) TRat.d).f_Den).f_Neg)), (encL (cU .u16) 0 (((l.getD ((i).toNat) TRat.d).f_Den).f_Limbs))])] [] 0 (aB rwide) []] ⟨c, (g_w01_wide_ok N (⟨((l.getD ((i).toNat) TRat.d).f_Num), ((l.getD ((i).toNat) TRat.d).f_Den)⟩ : TRat) rwide hr), trivial⟩ ?_
      refine Runs.sC 20 (C_96 3730) (C_96 3731) rwide (fun hq4 => ?_) (fun hq4 => ?_)
      · have h := condT h hq4
        refine Runs.sA 1 [.code (C_96 7460), .code (C_96 7461), .inBlock 1, .code (C_96 467), .inLoop (C_96 116), .inBlock 0, .code (C_96 15)] ?_
        refine Runs.sR hE ⟨[(4, (aB true))], [], 160⟩ (C_96 7460) [] [] (kp [4]) [] 160 [] trivial ?_
        obtain rfl := Option.some.inj h
        refine Runs.sW hE ⟨[(4, (aB true))], [], 160⟩ [] (kp [4]) [] 160 [] trivial ?_
        exact Runs.sT Try.f59 [] [] trivial
      · have h := condF h hq4
        refine Runs.sA 2 [.code (C_96 467), .inLoop (C_96 116), .inBlock 0, .code (C_96 15)] ?_
        refine Runs.sR hE ⟨[(0, (encL TRat.cells TRat.d l)), (5, (aI (w64 (i + 1))))], [], 192⟩ (C_96 467) [] [] (kp [0, 5]) [] 192 [] trivial ?_
        refine Runs.sA 1 [.code (C_96 116), .inLoop (C_96 116), .inBlock 0, .code (C_96 15)] ?_
        exact Runs.sW hE _ [] (kp [0, 5]) [] 0 [] trivial (ih (w64 (i + 1)) _ h E hE)
    · have h := condF h hq3
      refine Runs.sA 2 [.code (C_96 30), .code (C_96 31)] ?_
      refine Runs.sR hE ⟨[(4, (aB false))], [], 80⟩ (C_96 30) [] [] (kp [4]) [] 80 [] trivial ?_
      obtain rfl := Option.some.inj h
      refine Runs.sW hE ⟨[(4, (aB false))], [], 80⟩ [] (kp [4]) [] 80 [] trivial ?_
      exact Runs.sT Try.f59 [] [] trivial
theorem g_w01_wideAll_ok (N : Nat) (l : List TRat) (most : Int) (r : Bool) (h : g_w01_wideAll N l most = some r) : Sound Try.prog 59 [(encL TRat.cells TRat.d l), (aI most)] [] 0 (aB r) [] := by
  unfold g_w01_wideAll at h
  refine Sound.of_runs (fu := Try.f59) (c := C_96 1) (nt := 21) (by kernel_rfl) (by kernel_rfl) (by kernel_rfl) (by kernel_rfl) (fun hm => rfl) ?_
  intro E hE
  refine Runs.sA 1 [.code (C_96 2), .code (C_96 3)] ?_
  refine Runs.sR hE ⟨[(0, (encL TRat.cells TRat.d l)), (1, (aI most))], [], 16⟩ (C_96 2) [] [] (kp [0, 1]) [] 16 [] trivial ?_
  refine Runs.sA 2 [.code (C_96 12), .code (C_96 13), .code (C_96 7)] ?_
  refine Runs.sR hE ⟨[(0, (encL TRat.cells TRat.d l)), (9, (aB (decide (((l.length : Nat) : Int) > most))))], [], 80⟩ (C_96 12) [] [] (kp [0, 9]) [] 80 [] trivial ?_
  refine Runs.sC 9 (C_96 26) (C_96 27) (decide (((l.length : Nat) : Int) > most)) (fun hq2 => ?_) (fun hq2 => ?_)
  · have h := condT h hq2
    refine Runs.sA 1 [.code (C_96 52), .code (C_96 53), .code (C_96 7)] ?_
    refine Runs.sR hE ⟨[(4, (aB true))], [], 96⟩ (C_96 52) [] [] (kp [4]) [] 96 [] trivial ?_
    obtain rfl := Option.some.inj h
    refine Runs.sW hE ⟨[(4, (aB true))], [], 96⟩ [] (kp [4]) [] 96 [] trivial ?_
    exact Runs.sT Try.f59 [] [] trivial
  · have h := condF h hq2
    refine Runs.sA 3 [.code (C_96 28), .code (C_96 29), .code (C_96 15)] ?_
    refine Runs.sR hE ⟨[(0, (encL TRat.cells TRat.d l)), (5, (aI 0))], [], 96⟩ (C_96 28) [] [] (kp [0, 5]) [] 96 [] trivial ?_
    refine Runs.sA 2 [.code (C_96 116), .inLoop (C_96 116), .inBlock 0, .code (C_96 15)] ?_
    exact Runs.sW hE _ [] (kp [0, 5]) [] 0 [] trivial (g_w01_wideAll_L1_ok N l N 0 _ h E hE)
noncomputable def C_108 (n : Nat) : Code := cat (bodyOf Try.f132) (pth n)
theorem g_r01_Q_ok (N : Nat) (n : Int) (r : TRat) (h : g_r01_Q N n = some r) : Sound Try.prog 132 [(aI n)] [] 0 (.agg (TRat.cells r)) [] := by
  unfold g_r01_Q at h
  refine Sound.of_runs (fu := Try.f132) (c := C_108 1) (nt := 7) (by kernel_rfl) (by kernel_rfl) (by kernel_rfl) (by kernel_rfl) (fun hm => rfl) ?_
  intro E hE
  refine Runs.sA 1 [.code (C_108 2), .code (C_108 3)] ?_
  refine Runs.sR hE ⟨[(0, (aI n)), (2, (.op 0 0 0))], [(0, vO 4 [(aB false), .nil, (aB false), .nil])], 16⟩ (C_108 2) [] [] (kp [0, 2]) (kq [0]) 16 [] trivial ?_
  refine Runs.sA 1 [.code (C_108 6), .code (C_108 7)] ?_
  obtain ⟨rOf, hr, h⟩ := bindSome h
  obtain ⟨rOf2, hr2, h⟩ := bindSome h
  refine Runs.sR hE ⟨[(2, (.op 0 0 0))], [(0, vO 4 [(aB rOf.f_Neg), (encL (cU .u16) 0 rOf.f_Limbs), (aB rOf2.f_Neg), (encL (cU .u16) 0 rOf2.f_Limbs)])], 96⟩ (C_108 6) [(1, ⟨[], true, (.agg (TInt.cells rOf)), [], 0, false, none⟩), (2, ⟨[], true, (.agg (TInt.cells rOf2)), [], 0, false, none⟩)] [] (kp [2]) (kq [0]) 96 [Sound Try.prog 24 [(aI n)] [] 0 (.agg (TInt.cells rOf)) [], Sound Try.prog 24 [(aI 1)] [] 0 (.agg (TInt.cells rOf2)) [], 0 < 1] ⟨(g_r01_Of_ok N n rOf hr), (g_r01_Of_ok N 1 rOf2 hr2), o1, trivial⟩ ?_
  obtain rfl := Option.some.inj h
  refine Runs.sW hE ⟨[(2, (.op 16 0 0))], [(16, vO 4 [(aB rOf.f_Neg), (encL (cU .u16) 0 rOf.f_Limbs), (aB rOf2.f_Neg), (encL (cU .u16) 0 rOf2.f_Limbs)])], 96⟩ [] (kp [2]) [(16, .keep 0)] 96 [] trivial ?_
  exact Runs.sT Try.f132 [16] [0 < 1] ⟨o1, trivial⟩
noncomputable def C_122 (n : Nat) : Code := cat (bodyOf Try.f79) (pth n)
theorem g_r01_CheckRows_L1_ok (N : Nat) (n : Int) (l : List TRow) (fuel : Nat) : ∀ (i : Int) (r : Int), g_r01_CheckRows_L1 N n l fuel i = some r → ∀ E, EnvOk E 0 → Runs Try.prog E 79 29 (SPost E [] (aI r)) [.code (C_122 244), .inLoop (C_122 244), .inBlock 0, .code (C_122 31)] ⟨[(0, (aI n)), (1, (encL TRow.cells TRow.d l)), (5, (aI i))], [], 0⟩ := by
  induction fuel with
  | zero => intro _ r h; rw [g_r01_CheckRows_L1.eq_1] at h; cases h
  | succ fuel ih =>
    intro i r h E hE
    rw [g_r01_CheckRows_L1.eq_2] at h
    refine Runs.sA 2 [.code (C_122 976), .code (C_122 977), .code (C_122 489), .inLoop (C_122 244), .inBlock 0, .code (C_122 31)] ?_
    refine Runs.sR hE ⟨[(0, (aI n)), (1, (encL TRow.cells TRow.d l)), (5, (aI i)), (18, (aB (decide (i < ((l.length : Nat) : Int)))))], [], 64⟩ (C_122 976) [] [] (kp [0, 1, 5, 18]) [] 64 [] trivial ?_
    refine Runs.sC 18 (C_122 1954) (C_122 1955) (decide (i < ((l.length : Nat) : Int))) (fun hq4 => ?_) (fun hq4 => ?_)
    · have h := condT h hq4
      refine Runs.sA 4 [.code (C_122 3912), .code (C_122 3913), .inBlock 1, .code (C_122 979), .inLoop (C_122 244), .inBlock 0, .code (C_122 31)] ?_
      obtain ⟨c, h⟩ := ifSome h
      refine Runs.sR hE ⟨[(0, (aI n)), (1, (encL TRow.cells TRow.d l)), (5, (aI i)), (28, (aB (decide (((((l.getD ((i).toNat) TRow.d).f_Coefs).length : Nat) : Int) > n))))], [], 192⟩ (C_122 3912) [] [] (kp [0, 1, 5, 28]) [] 192 [0 ≤ i ∧ i < ((l.length : Nat) : Int)] ⟨c, trivial⟩ ?_
      refine Runs.sC 28 (C_122 7826) (C_122 7827) (decide (((((l.getD ((i).toNat) TRow.d).f_Coefs).length : Nat) : Int) > n)) (fun hq5 => ?_) (fun hq5 => ?_)
      · have h := condT h hq5
        refine Runs.sA 1 [.code (C_122 15652), .code (C_122 15653), .inBlock 1, .code (C_122 979), .inLoop (C_122 244), .inBlock 0, .code (C_122 31)] ?_
        refine Runs.sR hE ⟨[(4, (aI 11))], [], 208⟩ (C_122 15652) [] [] (kp [4]) [] 208 [] trivial ?_
        obtain rfl := Option.some.inj h
        refine Runs.sW hE ⟨[(4, (aI 11))], [], 208⟩ [] (kp [4]) [] 208 [] trivial ?_
        exact Runs.sT Try.f79 [] [] trivial
      · have h := condF h hq5
        refine Runs.sA 2 [.code (C_122 979), .inLoop (C_122 244), .inBlock 0, .code (C_122 31)] ?_
        refine Runs.sR hE ⟨[(0, (aI n)), (1, (encL TRow.cells TRow.d l)), (5, (aI (w64 (i + 1))))], [], 240⟩ (C_122 979) [] [] (kp [0, 1, 5]) [] 240 [] trivial ?_
        refine Runs.sA 1 [.code (C_122 244), .inLoop (C_122 244), .inBlock 0, .code (C_122 31)] ?_
        exact Runs.sW hE _ [] (kp [0, 1, 5]) [] 0 [] trivial (ih (w64 (i + 1)) _ h E hE)
    · have h := condF h hq4
      refine Runs.sA 2 [.code (C_122 62), .code (C_122 63)] ?_
      refine Runs.sR hE ⟨[(4, (aI 0))], [], 80⟩ (C_122 62) [] [] (kp [4]) [] 80 [] trivial ?_
      obtain rfl := Option.some.inj h
      refine Runs.sW hE ⟨[(4, (aI 0))], [], 80⟩ [] (kp [4]) [] 80 [] trivial ?_
      exact Runs.sT Try.f79 [] [] trivial
theorem g_r01_CheckRows_ok (N : Nat) (n : Int) (l : List TRow) (r : Int) (h : g_r01_CheckRows N n l = some r) : Sound Try.prog 79 [(aI n), (encL TRow.cells TRow.d l)] [] 0 (aI r) [] := by
  unfold g_r01_CheckRows at h
  refine Sound.of_runs (fu := Try.f79) (c := C_122 1) (nt := 29) (by kernel_rfl) (by kernel_rfl) (by kernel_rfl) (by kernel_rfl) (fun hm => rfl) ?_
  intro E hE
  refine Runs.sA 1 [.code (C_122 2), .code (C_122 3)] ?_
  refine Runs.sR hE ⟨[(0, (aI n)), (1, (encL TRow.cells TRow.d l))], [], 16⟩ (C_122 2) [] [] (kp [0, 1]) [] 16 [] trivial ?_
  refine Runs.sA 2 [.code (C_122 12), .code (C_122 13), .code (C_122 7)] ?_
  refine Runs.sR hE ⟨[(0, (aI n)), (1, (encL TRow.cells TRow.d l)), (11, (aB (cond (decide (n < 0)) true (decide (n > 12)))))], [], 112⟩ (C_122 12) [] [] (kp [0, 1, 11]) [] 112 [(!(decide (n < 0))) = true → AllP [(!(decide (n < 0))) = true], (!(decide (n < 0))) = true → AllP [(!(decide (n < 0))) = true]] ⟨(fun hg => ⟨hg, trivial⟩), (fun hq => ⟨hq, trivial⟩), trivial⟩ ?_
  refine Runs.sC 11 (C_122 26) (C_122 27) (cond (decide (n < 0)) true (decide (n > 12))) (fun hq2 => ?_) (fun hq2 => ?_)
  · have h := condT h hq2
    refine Runs.sA 1 [.code (C_122 52), .code (C_122 53), .code (C_122 7)] ?_
    refine Runs.sR hE ⟨[(4, (aI 2))], [], 128⟩ (C_122 52) [] [] (kp [4]) [] 128 [] trivial ?_
    obtain rfl := Option.some.inj h
    refine Runs.sW hE ⟨[(4, (aI 2))], [], 128⟩ [] (kp [4]) [] 128 [] trivial ?_
    exact Runs.sT Try.f79 [] [] trivial
  · have h := condF h hq2
    refine Runs.sA 3 [.code (C_122 28), .code (C_122 29), .code (C_122 15)] ?_
    refine Runs.sR hE ⟨[(0, (aI n)), (1, (encL TRow.cells TRow.d l)), (14, (aB (decide (((l.length : Nat) : Int) > 40))))], [], 160⟩ (C_122 28) [] [] (kp [0, 1, 14]) [] 160 [] trivial ?_
    refine Runs.sC 14 (C_122 58) (C_122 59) (decide (((l.length : Nat) : Int) > 40)) (fun hq3 => ?_) (fun hq3 => ?_)
    · have h := condT h hq3
      refine Runs.sA 1 [.code (C_122 116), .code (C_122 117), .code (C_122 15)] ?_
      refine Runs.sR hE ⟨[(4, (aI 8))], [], 176⟩ (C_122 116) [] [] (kp [4]) [] 176 [] trivial ?_
      obtain rfl := Option.some.inj h
      refine Runs.sW hE ⟨[(4, (aI 8))], [], 176⟩ [] (kp [4]) [] 176 [] trivial ?_
      exact Runs.sT Try.f79 [] [] trivial
    · have h := condF h hq3
      refine Runs.sA 3 [.code (C_122 60), .code (C_122 61), .code (C_122 31)] ?_
      refine Runs.sR hE ⟨[(0, (aI n)), (1, (encL TRow.cells TRow.d l)), (5, (aI 0))], [], 176⟩ (C_122 60) [] [] (kp [0, 1, 5]) [] 176 [] trivial ?_
      refine Runs.sA 2 [.code (C_122 244), .inLoop (C_122 244), .inBlock 0, .code (C_122 31)] ?_
      exact Runs.sW hE _ [] (kp [0, 1, 5]) [] 0 [] trivial (g_r01_CheckRows_L1_ok N n l N 0 _ h E hE)
noncomputable def C_121 (n : Nat) : Code := cat (bodyOf Try.f77) (pth n)
theorem g_w01_Problem_modest_L2_ok (N : Nat) (p : Tw01_Problem) (i : Int) (K_g_w01_Problem_modest_L1 : Int → Option (Bool))
    (hK_g_w01_Problem_modest_L1 : ∀ (i : Int) (r : Bool), K_g_w01_Problem_modest_L1 i = some r → ∀ E, EnvOk E 0 → Runs Try.prog E 77 104 (SPost E [] (aB r)) [.code (C_121 116), .inLoop (C_121 116), .inBlock 0, .code (C_121 15)] ⟨[(1, (.op 0 0 0)), (3, (aI i))], [(0, vO 2 (Tw01_Problem.cells p))], 1⟩) (fuel : Nat) : ∀ (j : Int) (r : Bool), g_w01_Problem_modest_L2 N p i K_g_w01_Problem_modest_L1 fuel j = some r → ∀ E, EnvOk E 0 → Runs Try.prog E 77 104 (SPost E [] (aB r)) [.code (C_121 14924), .inLoop (C_121 14924), .inBlock 2, .inBlock 1, .code (C_121 467), .inLoop (C_121 116), .inBlock 0, .code (C_121 15)] ⟨[(1, (.op 0 0 0)), (3, (aI i)), (4, (aI j))], [(0, vO 2 (Tw01_Problem.cells p))], 1⟩ := by
  induction fuel with
  | zero => intro _ r h; rw [g_w01_Problem_modest_L2.eq_1] at h; cases h
  | succ fuel ih =>
    intro j r h E hE
    rw [g_w01_Problem_modest_L2.eq_2] at h
    refine Runs.sA 2 [.code (C_121 59696), .code (C_121 59697), .code (C_121 29849), .inLoop (C_121 14924), .inBlock 2, .inBlock 1, .code (C_121 467), .inLoop (C_121 116), .inBlock 0, .code (C_121 15)] ?_
    obtain ⟨c4, h⟩ := ifSome h
    refine Runs.sR hE ⟨[(1, (.op 0 0 0)), (3, (aI i)), (4, (aI j)), (56, (aB (decide (j < ((((p.f_L.getD ((i).toNat) TRow.d).f_Coefs).length : Nat) : Int)))))], [(0, vO 2 (Tw01_Problem.cells p))], 145⟩ (C_121 59696) [] [] (kp [1, 3, 4, 56]) (kq [0]) 145 [0 < 1, 0 ≤ i ∧ i < ((p.f_L.length : Nat) : Int)] ⟨o1, c4, trivial⟩ ?_
    refine Runs.sC 56 (C_121 119394) (C_121 119395) (decide (j < ((((p.f_L.getD ((i).toNat) TRow.d).f_Coefs).length : Nat) : Int))) (fun hq5 => ?_) (fun hq5 => ?_)
    · have h := condT h hq5
      refine Runs.sA 4 [.code (C_121 238792), .code (C_121 238793), .inBlock 3, .code (C_121 59699), .inLoop (C_121 14924), .inBlock 2, .inBlock 1, .code (C_121 467), .inLoop (C_121 116), .inBlock 0, .code (C_121 15)] ?_
      obtain ⟨c5, h⟩ := ifSome h
      obtain ⟨c6, h⟩ := ifSome h
      obtain ⟨c7, h⟩ := ifSome h
      refine Runs.sR hE ⟨[(1, (.op 0 0 0)), (3, (aI i)), (4, (aI j)), (86, (aB (cond (decide ((((((((p.f_L.getD ((i).toNat) TRow.d).f_Coefs).getD ((j).toNat) TRat.d).f_Num).f_Limbs).length : Nat) : Int) > 2)) true (decide ((((((((p.f_L.getD ((i).toNat) TRow.d).f_Coefs).getD ((j).toNat) TRat.d).f_Den).f_Limbs).length : Nat) : Int) > 2)))))], [(0, vO 2 (Tw01_Problem.cells p))], 593⟩ (C_121 238792) [] [] (kp [1, 3, 4, 86]) (kq [0]) 593 [0 < 1, 0 ≤ i ∧ i < ((p.f_L.length : Nat) : Int), 0 ≤ j ∧ j < ((((p.f_L.getD ((i).toNat) TRow.d).f_Coefs).length : Nat) : Int), (!(decide ((((((((p.f_L.getD ((i).toNat) TRow.d).f_Coefs).getD ((j).toNat) TRat.d).f_Num).f_Limbs).length : Nat) : Int) > 2))) = true → AllP [(!(decide ((((((((p.f_L.getD ((i).toNat) TRow.d).f_Coefs).getD ((j).toNat) TRat.d).f_Num).f_Limbs).length : Nat) : Int) > 2))) = true, 0 < 1], (!(decide ((((((((p.f_L.getD ((i).toNat) TRow.d).f_Coefs).getD ((j).toNat) TRat.d).f_Num).f_Limbs).length : Nat) : Int) > 2))) = true → AllP [(!(decide ((((((((p.f_L.getD ((i).toNat) TRow.d).f_Coefs).getD ((j).toNat) TRat.d).f_Num).f_Limbs).length : Nat) : Int) > 2))) = true, (!(decide ((((((((p.f_L.getD ((i).toNat) TRow.d).f_Coefs).getD ((j).toNat) TRat.d).f_Num).f_Limbs).length : Nat) : Int) > 2))) = true, 0 ≤ i ∧ i < ((p.f_L.length : Nat) : Int)], (!(decide ((((((((p.f_L.getD ((i).toNat) TRow.d).f_Coefs).getD ((j).toNat) TRat.d).f_Num).f_Limbs).length : Nat) : Int) > 2))) = true → AllP [(!(decide ((((((((p.f_L.getD ((i).toNat) TRow.d).f_Coefs).getD ((j).toNat) TRat.d).f_Num).f_Limbs).length : Nat) : Int) > 2))) = true], (!(decide ((((((((p.f_L.getD ((i).toNat) TRow.d).f_Coefs).getD ((j).toNat) TRat.d).f_Num).f_Limbs).length : Nat) : Int) > 2))) = true → AllP [(!(decide ((((((((p.f_L.getD ((i).toNat) TRow.d).f_Coefs).getD ((j).toNat) TRat.d).f_Num).f_Limbs).length : Nat) : Int) > 2))) = true], (!(decide ((((((((p.f_L.getD ((i).toNat) TRow.d).f_Coefs).getD ((j).toNat) TRat.d).f_Num).f_Limbs).length : Nat) : Int) > 2))) = true → AllP [(!(decide ((((((((p.f_L.getD ((i).toNat) TRow.d).f_Coefs).getD ((j).toNat) TRat.d).f_Num).f_Limbs).length : Nat) : Int) > 2))) = true, (!(decide ((((((((p.f_L.getD ((i).toNat) TRow.d).f_Coefs).getD ((j).toNat) TRat.d).f_Num).f_Limbs).length : Nat) : Int) > 2))) = true, 0 ≤ j ∧ j < ((((p.f_L.getD ((i).toNat) TRow.d).f_Coefs).length : Nat) : Int)], (!(decide ((((((((p.f_L.getD ((i).toNat) TRow.d).f_Coefs).getD ((j).toNat) TRat.d).f_Num).f_Limbs).length : Nat) : Int) > 2))) = true → AllP [(!(decide ((((((((p.f_L.getD ((i).toNat) TRow.d).f_Coefs).getD ((j).toNat) TRat.d).f_Num).f_Limbs).length : Nat) : Int) > 2))) = true], (!(decide ((((((((p.f_L.getD ((i).toNat) TRow.d).f_Coefs).getD ((j).toNat) TRat.d).f_Num).f_Limbs).length : Nat) : Int) > 2))) = true → AllP [(!(decide ((((((((p.f_L.getD ((i).toNat) TRow.d).f_Coefs).getD ((j).toNat) TRat.d).f_Num).f_Limbs).length : Nat) : Int) > 2))) = true], (!(decide ((((((((p.f_L.getD ((i).toNat) TRow.d).f_Coefs).getD ((j).toNat) TRat.d).f_Num).f_Limbs).length : Nat) : Int) > 2))) = true → AllP [(!(decide ((((((((p.f_L.getD ((i).toNat) TRow.d).f_Coefs).getD ((j).toNat) TRat.d).f_Num).f_Limbs).length : Nat) : Int) > 2))) = true], (!(decide ((((((((p.f_L.getD ((i).toNat) TRow.d).f_Coefs).getD ((j).toNat) TRat.d).f_Num).f_Limbs).length : Nat) : Int) > 2))) = true → AllP [(!(decide ((((((((p.f_L.getD ((i).toNat) TRow.d).f_Coefs).getD ((j).toNat) TRat.d).f_Num).f_Limbs).length : Nat) : Int) > 2))) = true], (!(decide ((((((((p.f_L.getD ((i).toNat) TRow.d).f_Coefs).getD ((j).toNat) TRat.d).f_Num).f_Limbs).length : Nat) : Int) > 2))) = true → AllP [(!(decide ((((((((p.f_L.getD ((i).toNat) TRow.d).f_Coefs).getD ((j).toNat) TRat.d).f_Num).f_Limbs).length : Nat) : Int) > 2))) = true], (!(decide ((((((((p.f_L.getD ((i).toNat) TRow.d).f_Coefs).getD ((j).toNat) TRat.d).f_Num).f_Limbs).length : Nat) : Int) > 2))) = true → AllP [(!(decide ((((((((p.f_L.getD ((i).toNat) TRow.d).f_Coefs).getD ((j).toNat) TRat.d).f_Num).f_Limbs).length : Nat) : Int) > 2))) = true]] ⟨o1, c4, c5, (fun hg => ⟨hg, o1, trivial⟩), (fun hg => ⟨hg, hg, (c6 hg), trivial⟩), (fun hg => ⟨hg, trivial⟩), (fun hg => ⟨hg, trivial⟩), (fun hg => ⟨hg, hg, (c7 hg), trivial⟩), (fun hg => ⟨hg, trivial⟩), (fun hg => ⟨hg, trivial⟩), (fun hg => ⟨hg, trivial⟩), (fun hg => ⟨hg, trivial⟩), (fun hg => ⟨hg, trivial⟩), (fun hq => ⟨hq, trivial⟩), trivial⟩ ?_
      refine Runs.sC 86 (C_121 477586) (C_121 477587) (cond (decide ((((((((p.f_L.getD ((i).toNat) TRow.d).f_Coefs).getD ((j).toNat) TRat.d).f_Num).f_Limbs).length : Nat) : Int) > 2)) true (decide ((((((((p.f_L.getD ((i).toNat) TRow.d).f_Coefs).getD ((j).toNat) TRat.d).f_Den).f_Limbs).length : Nat) : Int) > 2))) (fun hq6 => ?_) (fun hq6 => ?_)
      · have h := condT h hq6
        refine Runs.sA 1 [.code (C_121 955172), .code (C_121 955173), .inBlock 3, .code (C_121 59699), .inLoop (C_121 14924), .inBlock 2, .inBlock 1, .code (C_121 467), .inLoop (C_121 116), .inBlock 0, .code (C_121 15)] ?_
        refine Runs.sR hE ⟨[(2, (aB false))], [], 609⟩ (C_121 955172) [] [] (kp [2]) [] 609 [] trivial ?_
        obtain rfl := Option.some.inj h
        refine Runs.sW hE ⟨[(2, (aB false))], [], 609⟩ [] (kp [2]) [] 609 [] trivial ?_
        exact Runs.sT Try.f77 [] [] trivial
      · have h := condF h hq6
        refine Runs.sA 2 [.code (C_121 59699), .inLoop (C_121 14924), .inBlock 2, .inBlock 1, .code (C_121 467), .inLoop (C_121 116), .inBlock 0, .code (C_121 15)] ?_
        refine Runs.sR hE ⟨[(1, (.op 0 0 0)), (3, (aI i)), (4, (aI (w64 (j + 1))))], [(0, vO 2 (Tw01_Problem.cells p))], 641⟩ (C_121 59699) [] [] (kp [1, 3, 4]) (kq [0]) 641 [] trivial ?_
        refine Runs.sA 1 [.code (C_121 14924), .inLoop (C_121 14924), .inBlock 2, .inBlock 1, .code (C_121 467), .inLoop (C_121 116), .inBlock 0, .code (C_121 15)] ?_
        exact Runs.sW hE _ [] (kp [1, 3, 4]) (kq [0]) 1 [] trivial (ih (w64 (j + 1)) _ h E hE)
    · have h := condF h hq5
      refine Runs.sA 2 [.code (C_121 467), .inLoop (C_121 116), .inBlock 0, .code (C_121 15)] ?_
      refine Runs.sR hE ⟨[(1, (.op 0 0 0)), (3, (aI (w64 (i + 1))))], [(0, vO 2 (Tw01_Problem.cells p))], 193⟩ (C_121 467) [] [] (kp [1, 3]) (kq [0]) 193 [] trivial ?_
      refine Runs.sA 1 [.code (C_121 116), .inLoop (C_121 116), .inBlock 0, .code (C_121 15)] ?_
      exact Runs.sW hE _ [] (kp [1, 3]) (kq [0]) 1 [] trivial (hK_g_w01_Problem_modest_L1 (w64 (i + 1)) _ h E hE)
theorem g_w01_Problem_modest_L1_ok (N : Nat) (p : Tw01_Problem) (fuel : Nat) : ∀ (i : Int) (r : Bool), g_w01_Problem_modest_L1 N p fuel i = some r → ∀ E, EnvOk E 0 → Runs Try.prog E 77 104 (SPost E [] (aB r)) [.code (C_121 116), .inLoop (C_121 116), .inBlock 0, .code (C_121 15)] ⟨[(1, (.op 0 0 0)), (3, (aI i))], [(0, vO 2 (Tw01_Problem.cells p))], 1⟩ := by
  induction fuel with
  | zero => intro _ r h; rw [g_w01_Problem_modest_L1.eq_1] at h; cases h
  | succ fuel ih =>
    intro i r h E hE
    rw [g_w01_Problem_modest_L1.eq_2] at h
    refine Runs.sA 2 [.code (C_121 464), .code (C_121 465), .code (C_121 233), .inLoop (C_121 116), .inBlock 0, .code (C_121 15)] ?_
    refine Runs.sR hE ⟨[(1, (.op 0 0 0)), (3, (aI i)), (13, (aB (decide (i < ((p.f_L.length : Nat) : Int)))))], [(0, vO 2 (Tw01_Problem.cells p))], 81⟩ (C_121 464) [] [] (kp [1, 3, 13]) (kq [0]) 81 [0 < 1] ⟨o1, trivial⟩ ?_
    refine Runs.sC 13 (C_121 930) (C_121 931) (decide (i < ((p.f_L.length : Nat) : Int))) (fun hq3 => ?_) (fun hq3 => ?_)
    · have h := condT h hq3
      refine Runs.sA 5 [.code (C_121 3728), .code (C_121 3729), .code (C_121 1865), .inBlock 1, .code (C_121 467), .inLoop (C_121 116), .inBlock 0, .code (C_121 15)] ?_
      obtain ⟨c, h⟩ := ifSome h
      obtain ⟨c2, h⟩ := ifSome h
      obtain ⟨c3, h⟩ := ifSome h
      refine Runs.sR hE ⟨[(1, (.op 0 0 0)), (3, (aI i)), (47, (aB (cond (cond (decide (((((((p.f_L.getD ((i).toNat) TRow.d).f_Bound).f_Num).f_Limbs).length : Nat) : Int) > 2)) true (decide (((((((p.f_L.getD ((i).toNat) TRow.d).f_Bound).f_Den).f_Limbs).length : Nat) : Int) > 2))) true (decide (((((p.f_L.getD ((i).toNat) TRow.d).f_Coefs).length : Nat) : Int) > 20)))))], [(0, vO 2 (Tw01_Problem.cells p))], 593⟩ (C_121 3728) [] [] (kp [1, 3, 47]) (kq [0]) 593 [0 < 1, 0 ≤ i ∧ i < ((p.f_L.length : Nat) : Int), (!(decide (((((((p.f_L.getD ((i).toNat) TRow.d).f_Bound).f_Num).f_Limbs).length : Nat) : Int) > 2))) = true → AllP [(!(decide (((((((p.f_L.getD ((i).toNat) TRow.d).f_Bound).f_Num).f_Limbs).length : Nat) : Int) > 2))) = true, 0 < 1], (!(decide (((((((p.f_L.getD ((i).toNat) TRow.d).f_Bound).f_Num).f_Limbs).length : Nat) : Int) > 2))) = true → AllP [(!(decide (((((((p.f_L.getD ((i).toNat) TRow.d).f_Bound).f_Num).f_Limbs).length : Nat) : Int) > 2))) = true, (!(decide (((((((p.f_L.getD ((i).toNat) TRow.d).f_Bound).f_Num).f_Limbs).length : Nat) : Int) > 2))) = true, 0 ≤ i ∧ i < ((p.f_L.length : Nat) : Int)], (!(decide (((((((p.f_L.getD ((i).toNat) TRow.d).f_Bound).f_Num).f_Limbs).length : Nat) : Int) > 2))) = true → AllP [(!(decide (((((((p.f_L.getD ((i).toNat) TRow.d).f_Bound).f_Num).f_Limbs).length : Nat) : Int) > 2))) = true], (!(decide (((((((p.f_L.getD ((i).toNat) TRow.d).f_Bound).f_Num).f_Limbs).length : Nat) : Int) > 2))) = true → AllP [(!(decide (((((((p.f_L.getD ((i).toNat) TRow.d).f_Bound).f_Num).f_Limbs).length : Nat) : Int) > 2))) = true], (!(decide (((((((p.f_L.getD ((i).toNat) TRow.d).f_Bound).f_Num).f_Limbs).length : Nat) : Int) > 2))) = true → AllP [(!(decide (((((((p.f_L.getD ((i).toNat) TRow.d).f_Bound).f_Num).f_Limbs).length : Nat) : Int) > 2))) = true], (!(decide (((((((p.f_L.getD ((i).toNat) TRow.d).f_Bound).f_Num).f_Limbs).length : Nat) : Int) > 2))) = true → AllP [(!(decide (((((((p.f_L.getD ((i).toNat) TRow.d).f_Bound).f_Num).f_Limbs).length : Nat) : Int) > 2))) = true], (!(decide (((((((p.f_L.getD ((i).toNat) TRow.d).f_Bound).f_Num).f_Limbs).length : Nat) : Int) > 2))) = true → AllP [(!(decide (((((((p.f_L.getD ((i).toNat) TRow.d).f_Bound).f_Num).f_Limbs).length : Nat) : Int) > 2))) = true], (!(decide (((((((p.f_L.getD ((i).toNat) TRow.d).f_Bound).f_Num).f_Limbs).length : Nat) : Int) > 2))) = true → AllP [(!(decide (((((((p.f_L.getD ((i).toNat) TRow.d).f_Bound).f_Num).f_Limbs).length : Nat) : Int) > 2))) = true], (!(decide (((((((p.f_L.getD ((i).toNat) TRow.d).f_Bound).f_Num).f_Limbs).length : Nat) : Int) > 2))) = true → AllP [(!(decide (((((((p.f_L.getD ((i).toNat) TRow.d).f_Bound).f_Num).f_Limbs).length : Nat) : Int) > 2))) = true], (!(cond (decide (((((((p.f_L.getD ((i).toNat) TRow.d).f_Bound).f_Num).f_Limbs).length : Nat) : Int) > 2)) true (decide (((((((p.f_L.getD ((i).toNat) TRow.d).f_Bound).f_Den).f_Limbs).length : Nat) : Int) > 2)))) = true → AllP [(!(cond (decide (((((((p.f_L.getD ((i).toNat) TRow.d).f_Bound).f_Num).f_Limbs).length : Nat) : Int) > 2)) true (decide (((((((p.f_L.getD ((i).toNat) TRow.d).f_Bound).f_Den).f_Limbs).length : Nat) : Int) > 2)))) = true, 0 < 1], (!(cond (decide (((((((p.f_L.getD ((i).toNat) TRow.d).f_Bound).f_Num).f_Limbs).length : Nat) : Int) > 2)) true (decide (((((((p.f_L.getD ((i).toNat) TRow.d).f_Bound).f_Den).f_Limbs).length : Nat) : Int) > 2)))) = true → AllP [(!(cond (decide (((((((p.f_L.getD ((i).toNat) TRow.d).f_Bound).f_Num).f_Limbs).length : Nat) : Int) > 2)) true (decide (((((((p.f_L.getD ((i).toNat) TRow.d).f_Bound).f_Den).f_Limbs).length : Nat) : Int) > 2)))) = true, (!(cond (decide (((((((p.f_L.getD ((i).toNat) TRow.d).f_Bound).f_Num).f_Limbs).length : Nat) : Int) > 2)) true (decide (((((((p.f_L.getD ((i).toNat) TRow.d).f_Bound).f_Den).f_Limbs).length : Nat) : Int) > 2)))) = true, 0 ≤ i ∧ i < ((p.f_L.length : Nat) : Int)], (!(cond (decide (((((((p.f_L.getD ((i).toNat) TRow.d).f_Bound).f_Num).f_Limbs).length : Nat) : Int) > 2)) true (decide (((((((p.f_L.getD ((i).toNat) TRow.d).f_Bound).f_Den).f_Limbs).length : Nat) : Int) > 2)))) = true → AllP [(!(cond (decide (((((((p.f_L.getD ((i).toNat) TRow.d).f_Bound).f_Num).f_Limbs).length : Nat) : Int) > 2)) true (decide (((((((p.f_L.getD ((i).toNat) TRow.d).f_Bound).f_Den).f_Limbs).length : Nat) : Int) > 2)))) = true], (!(cond (decide (((((((p.f_L.getD ((i).toNat) TRow.d).f_Bound).f_Num).f_Limbs).length : Nat) : Int) > 2)) true (decide (((((((p.f_L.getD ((i).toNat) TRow.d).f_Bound).f_Den).f_Limbs).length : Nat) : Int) > 2)))) = true → AllP [(!(cond (decide (((((((p.f_L.getD ((i).toNat) TRow.d).f_Bound).f_Num).f_Limbs).length : Nat) : Int) > 2)) true (decide (((((((p.f_L.getD ((i).toNat) TRow.d).f_Bound).f_Den).f_Limbs).length : Nat) : Int) > 2)))) = true], (!(cond (decide (((((((p.f_L.getD ((i).toNat) TRow.d).f_Bound).f_Num).f_Limbs).length : Nat) : Int) > 2)) true (decide (((((((p.f_L.getD ((i).toNat) TRow.d).f_Bound).f_Den).f_Limbs).length : Nat) : Int) > 2)))) = true → AllP [(!(cond (decide (((((((p.f_L.getD ((i).toNat) TRow.d).f_Bound).f_Num).f_Limbs).length : Nat) : Int) > 2)) true (decide (((((((p.f_L.getD ((i).toNat) TRow.d).f_Bound).f_Den).f_Limbs).length : Nat) : Int) > 2)))) = true], (!(cond (decide (((((((p.f_L.getD ((i).toNat) TRow.d).f_Bound).f_Num).f_Limbs).length : Nat) : Int) > 2)) true (decide (((((((p.f_L.getD ((i).toNat) TRow.d).f_Bound).f_Den).f_Limbs).length : Nat) : Int) > 2)))) = true → AllP [(!(cond (decide (((((((p.f_L.getD ((i).toNat) TRow.d).f_Bound).f_Num).f_Limbs).length : Nat) : Int) > 2)) true (decide (((((((p.f_L.getD ((i).toNat) TRow.d).f_Bound).f_Den).f_Limbs).length : Nat) : Int) > 2)))) = true], (!(cond (decide (((((((p.f_L.getD ((i).toNat) TRow.d).f_Bound).f_Num).f_Limbs).length : Nat) : Int) > 2)) true (decide (((((((p.f_L.getD ((i).toNat) TRow.d).f_Bound).f_Den).f_Limbs).length : Nat) : Int) > 2)))) = true → AllP [(!(cond (decide (((((((p.f_L.getD ((i).toNat) TRow.d).f_Bound).f_Num).f_Limbs).length : Nat) : Int) > 2)) true (decide (((((((p.f_L.getD ((i).toNat) TRow.d).f_Bound).f_Den).f_Limbs).length : Nat) : Int) > 2)))) = true]] ⟨o1, c, (fun hg => ⟨hg, o1, trivial⟩), (fun hg => ⟨hg, hg, (c2 hg), trivial⟩), (fun hg => ⟨hg, trivial⟩), (fun hg => ⟨hg, trivial⟩), (fun hg => ⟨hg, trivial⟩), (fun hg => ⟨hg, trivial⟩), (fun hg => ⟨hg, trivial⟩), (fun hg => ⟨hg, trivial⟩), (fun hq => ⟨hq, trivial⟩), (fun hg => ⟨hg, o1, trivial⟩), (fun hg => ⟨hg, hg, (c3 hg), trivial⟩), (fun hg => ⟨hg, trivial⟩), (fun hg => ⟨hg, trivial⟩), (fun hg => ⟨hg, trivial⟩), (fun hg => ⟨hg, trivial⟩), (fun hq => ⟨hq, trivial⟩), trivial⟩ ?_
      refine Runs.sC 47 (C_121 7458) (C_121 7459) (cond (cond (decide (((((((p.f_L.getD ((i).toNat) TRow.d).f_Bound).f_Num).f_Limbs).length : Nat) : Int) > 2)) true (decide (((((((p.f_L.getD ((i).toNat) TRow.d).f_Bound).f_Den).f_Limbs).length : Nat) : Int) > 2))) true (decide (((((p.f_L.getD ((i).toNat) TRow.d).f_Coefs).length : Nat) : Int) > 20))) (fun hq4 => ?_) (fun hq4 => ?_)
      · have h := condT h hq4
        refine Runs.sA 1 [.code (C_121 14916), .code (C_121 14917), .code (C_121 1865), .inBlock 1, .code (C_121 467), .inLoop (C_121 116), .inBlock 0, .code (C_121 15)] ?_
        refine Runs.sR hE ⟨[(2, (aB false))], [], 609⟩ (C_121 14916) [] [] (kp [2]) [] 609 [] trivial ?_
        obtain rfl := Option.some.inj h
        refine Runs.sW hE ⟨[(2, (aB false))], [], 609⟩ [] (kp [2]) [] 609 [] trivial ?_
        exact Runs.sT Try.f77 [] [] trivial
      · have h := condF h hq4
        refine Runs.sA 2 [.code (C_121 3730), .code (C_121 3731), .inBlock 1, .code (C_121 467), .inLoop (C_121 116), .inBlock 0, .code (C_121 15)] ?_
        refine Runs.sR hE ⟨[(1, (.op 0 0 0)), (3, (aI i)), (4, (aI 0))], [(0, vO 2 (Tw01_Problem.cells p))], 609⟩ (C_121 3730) [] [] (kp [1, 3, 4]) (kq [0]) 609 [] trivial ?_
        refine Runs.sA 2 [.code (C_121 14924), .inLoop (C_121 14924), .inBlock 2, .inBlock 1, .code (C_121 467), .inLoop (C_121 116), .inBlock 0, .code (C_121 15)] ?_
        exact Runs.sW hE _ [] (kp [1, 3, 4]) (kq [0]) 1 [] trivial (g_w01_Problem_modest_L2_ok N p i (g_w01_Problem_modest_L1 N p fuel) ih N 0 _ h E hE)
    · have h := condF h hq3
      refine Runs.sA 2 [.code (C_121 30), .code (C_121 31)] ?_
      obtain ⟨rCheckRows, hr, h⟩ := bindSome h
      refine Runs.sR hE ⟨[(2, (aB (cond (rCheckRows != 0) true (cond (decide (p.f_N ≤ 4)) (decide (((p.f_L.length : Nat) : Int) ≤ 7)) false))))], [], 369⟩ (C_121 30) [(4, ⟨[], true, (aI rCheckRows), [], 0, false, none⟩)] [] (kp [2]) [] 369 [0 < 1, 0 < 1, Sound Try.prog 79 [(aI p.f_N), (encL TRow.cells TRow.d p.f_L)] [] 0 (aI rCheckRows) [], (!(rCheckRows != 0)) = true → AllP [(!(rCheckRows != 0)) = true, 0 < 1], (!(rCheckRows != 0)) = true → AllP [(!(rCheckRows != 0)) = true], ((!(rCheckRows != 0)) && ((!(rCheckRows != 0)) && (decide (p.f_N ≤ 4)))) = true → AllP [((!(rCheckRows != 0)) && ((!(rCheckRows != 0)) && (decide (p.f_N ≤ 4)))) = true, 0 < 1], ((!(rCheckRows != 0)) && ((!(rCheckRows != 0)) && (decide (p.f_N ≤ 4)))) = true → AllP [((!(rCheckRows != 0)) && ((!(rCheckRows != 0)) && (decide (p.f_N ≤ 4)))) = true], ((!(rCheckRows != 0)) && ((!(rCheckRows != 0)) && (decide (p.f_N ≤ 4)))) = true → AllP [((!(rCheckRows != 0)) && ((!(rCheckRows != 0)) && (decide (p.f_N ≤ 4)))) = true], (!(rCheckRows != 0)) = true → AllP [(!(rCheckRows != 0)) = true, (!(rCheckRows != 0)) = true, (decide (p.f_N ≤ 4)) = true → AllP [((!(rCheckRows != 0)) && ((!(rCheckRows != 0)) && (decide (p.f_N ≤ 4)))) = true]], (!(rCheckRows != 0)) = true → AllP [(!(rCheckRows != 0)) = true]] ⟨o1, o1, (g_r01_CheckRows_ok N p.f_N p.f_L rCheckRows hr), (fun hg => ⟨hg, o1, trivial⟩), (fun hg => ⟨hg, trivial⟩), (fun hg => ⟨hg, o1, trivial⟩), (fun hg => ⟨hg, trivial⟩), (fun hg => ⟨hg, trivial⟩), (fun hg => ⟨hg, hg, (fun hq => ⟨(andI' hg (andI' hg hq)), trivial⟩), trivial⟩), (fun hq => ⟨hq, trivial⟩), trivial⟩ ?_
      obtain rfl := Option.some.inj h
      refine Runs.sW hE ⟨[(2, (aB (cond (rCheckRows != 0) true (cond (decide (p.f_N ≤ 4)) (decide (((p.f_L.length : Nat) : Int) ≤ 7)) false))))], [], 369⟩ [] (kp [2]) [] 369 [] trivial ?_
      exact Runs.sT Try.f77 [] [] trivial
theorem g_w01_Problem_modest_ok (N : Nat) (p : Tw01_Problem) (r : Bool) (h : g_w01_Problem_modest N p = some r) : Sound Try.prog 77 [(.agg (Tw01_Problem.cells p))] [] 0 (aB r) [] := by
  unfold g_w01_Problem_modest at h
  refine Sound.of_runs (fu := Try.f77) (c := C_121 1) (nt := 104) (by kernel_rfl) (by kernel_rfl) (by kernel_rfl) (by kernel_rfl) (fun hm => rfl) ?_
  intro E hE
  refine Runs.sA 1 [.code (C_121 2), .code (C_121 3)] ?_
  refine Runs.sR hE ⟨[(1, (.op 0 0 0))], [(0, vO 2 (Tw01_Problem.cells p))], 32⟩ (C_121 2) [] [] (kp [1]) (kq [0]) 32 [] trivial ?_
  refine Runs.sA 2 [.code (C_121 12), .code (C_121 13), .code (C_121 7)] ?_
  refine Runs.sR hE ⟨[(1, (.op 0 0 0)), (8, (aB (decide (((p.f_L.length : Nat) : Int) > 60))))], [(0, vO 2 (Tw01_Problem.cells p))], 96⟩ (C_121 12) [] [] (kp [1, 8]) (kq [0]) 96 [0 < 1] ⟨o1, trivial⟩ ?_
  refine Runs.sC 8 (C_121 26) (C_121 27) (decide (((p.f_L.length : Nat) : Int) > 60)) (fun hq2 => ?_) (fun hq2 => ?_)
  · have h := condT h hq2
    refine Runs.sA 1 [.code (C_121 52), .code (C_121 53), .code (C_121 7)] ?_
    refine Runs.sR hE ⟨[(2, (aB false))], [], 112⟩ (C_121 52) [] [] (kp [2]) [] 112 [] trivial ?_
    obtain rfl := Option.some.inj h
    refine Runs.sW hE ⟨[(2, (aB false))], [], 112⟩ [] (kp [2]) [] 112 [] trivial ?_
    exact Runs.sT Try.f77 [] [] trivial
  · have h := condF h hq2
    refine Runs.sA 3 [.code (C_121 28), .code (C_121 29), .code (C_121 15)] ?_
    refine Runs.sR hE ⟨[(1, (.op 0 0 0)), (3, (aI 0))], [(0, vO 2 (Tw01_Problem.cells p))], 112⟩ (C_121 28) [] [] (kp [1, 3]) (kq [0]) 112 [] trivial ?_
    refine Runs.sA 2 [.code (C_121 116), .inLoop (C_121 116), .inBlock 0, .code (C_121 15)] ?_
    exact Runs.sW hE _ [] (kp [1, 3]) (kq [0]) 1 [] trivial (g_w01_Problem_modest_L1_ok N p N 0 _ h E hE)
noncomputable def C_126 (n : Nat) : Code := cat (bodyOf Try.f135) (pth n)
theorem g_e_CheckRows_1_ok (N : Nat) (vr : TRow) (cap0 : Int) (r : Bool) (h : g_e_CheckRows_1 N vr cap0 = some r) : Sound Try.prog 135 [(.agg (TRow.cells vr)), (.op 0 0 0)] [(0, vO 1 [(aI cap0)])] 1 (aB r) [(0, vO 1 [(aI cap0)])] := by
  unfold g_e_CheckRows_1 at h
  refine Sound.of_runs (fu := Try.f135) (c := C_126 1) (nt := 9) (by kernel_rfl) (by kernel_rfl) (by kernel_rfl) (by kernel_rfl) (fun hm => absurd hm (by decide)) ?_
  intro E hE
  refine Runs.sA 1 [.code (C_126 2), .code (C_126 3)] ?_
  refine Runs.sR hE ⟨[(1, (.op 0 0 0)), (2, (.op 1 0 0))], [(0, vO 1 [(aI cap0)]), (1, vO 5 (TRow.cells vr))], 33⟩ (C_126 2) [] [] (kp [1, 2]) (kq [0, 1]) 33 [] trivial ?_
  refine Runs.sA 1 [.code (C_126 6), .code (C_126 7)] ?_
  refine Runs.sR hE ⟨[(3, (aB (decide (((vr.f_Coefs.length : Nat) : Int) > cap0))))], [(0, vO 1 [(aI cap0)])], 129⟩ (C_126 6) [] [] (kp [3]) (kq [0]) 129 [0 < 1, 0 < 1] ⟨o1, o1, trivial⟩ ?_
  obtain rfl := Option.some.inj h
  refine Runs.sW hE ⟨[(3, (aB (decide (((vr.f_Coefs.length : Nat) : Int) > cap0))))], [(0, vO 1 [(aI cap0)])], 129⟩ [] (kp [3]) (kq [0]) 129 [] trivial ?_
  exact Runs.sT Try.f135 [] [] trivial
noncomputable def C_125 (n : Nat) : Code := cat (bodyOf Try.f160) (pth n)
theorem g_slices_IndexFunc_Row_L1_ok (N : Nat) (s : List TRow) (cap0 : Int) (fuel : Nat) : ∀ (x : Int) (r : Int), g_slices_IndexFunc_Row_L1 N s cap0 fuel x = some r → ∀ E, EnvOk E 1 → Runs Try.prog E 160 19 (SPost E [(0, vO 1 [(aI cap0)])] (aI r)) [.code (C_125 52), .inLoop (C_125 52), .inBlock 0, .code (C_125 7)] ⟨[(0, (encL TRow.cells TRow.d s)), (1, (.fn (.func 135) [] [(.op 0 0 0)])), (7, (aI ((s.length : Nat) : Int))), (8, (aI x))], [(0, vO 1 [(aI cap0)])], 1⟩ := by
  induction fuel with
  | zero => intro _ r h; rw [g_slices_IndexFunc_Row_L1.eq_1] at h; cases h
  | succ fuel ih =>
    intro x r h E hE
    rw [g_slices_IndexFunc_Row_L1.eq_2] at h
    refine Runs.sA 1 [.code (C_125 104), .code (C_125 105), .inLoop (C_125 52), .inBlock 0, .code (C_125 7)] ?_
    refine Runs.sR hE ⟨[(0, (encL TRow.cells TRow.d s)), (1, (.fn (.func 135) [] [(.op 0 0 0)])), (7, (aI ((s.length : Nat) : Int))), (8, (aI x)), (9, (aB (decide (x < ((s.length : Nat) : Int)))))], [(0, vO 1 [(aI cap0)])], 17⟩ (C_125 104) [] [] (kp [0, 1, 7, 8, 9]) (kq [0]) 17 [] trivial ?_
    refine Runs.sA 1 [.code (C_125 210), .code (C_125 211), .inLoop (C_125 52), .inBlock 0, .code (C_125 7)] ?_
    refine Runs.sC 9 (C_125 420) (C_125 421) (decide (x < ((s.length : Nat) : Int))) (fun hq2 => ?_) (fun hq2 => ?_)
    · have h := condT h hq2
      refine Runs.sA 4 [.code (C_125 1688), .code (C_125 1689), .inBlock 1, .code (C_125 423), .inLoop (C_125 52), .inBlock 0, .code (C_125 7)] ?_
      refine Runs.sR hE ⟨[(0, (encL TRow.cells TRow.d s)), (1, (.fn (.func 135) [] [(.op 0 0 0)])), (5, (aI x)), (7, (aI ((s.length : Nat) : Int))), (8, (aI x))], [(0, vO 1 [(aI cap0)])], 49⟩ (C_125 1688) [] [] (kp [0, 1, 5, 7, 8]) (kq [0]) 49 [] trivial ?_
      refine Runs.sA 1 [.code (C_125 3378), .code (C_125 3379), .inBlock 1, .code (C_125 423), .inLoop (C_125 52), .inBlock 0, .code (C_125 7)] ?_
      obtain ⟨c, h⟩ := ifSome h
      obtain ⟨rCheckRows1, hr, h⟩ := bindSome h
      refine Runs.sR hE ⟨[(0, (encL TRow.cells TRow.d s)), (1, (.fn (.func 135) [] [(.op 0 0 0)])), (5, (aI x)), (7, (aI ((s.length : Nat) : Int))), (8, (aI x)), (16, (aB rCheckRows1))], [(0, vO 1 [(aI cap0)])], 145⟩ (C_125 3378) [(5, ⟨[0], true, (aB rCheckRows1), [], 0, false, none⟩)] [] (kp [0, 1, 5, 7, 8, 16]) (kq [0]) 145 [0 ≤ x ∧ x < ((s.length : Nat) : Int), Sound Try.prog 135 [(.agg (TRow.cells (s.getD ((x).toNat) TRow.d))), (.op 0 0 0)] [(0, vO 1 [(aI cap0)])] 1 (aB rCheckRows1) [(0, vO 1 [(aI cap0)])]] ⟨c, (g_e_CheckRows_1_ok N (s.getD ((x).toNat) TRow.d) cap0 rCheckRows1 hr), trivial⟩ ?_
      refine Runs.sC 16 (C_125 6758) (C_125 6759) rCheckRows1 (fun hq3 => ?_) (fun hq3 => ?_)
      · have h := condT h hq3
        refine Runs.sA 1 [.code (C_125 13516), .code (C_125 13517), .inBlock 1, .code (C_125 423), .inLoop (C_125 52), .inBlock 0, .code (C_125 7)] ?_
        refine Runs.sR hE ⟨[(4, (aI x))], [(0, vO 1 [(aI cap0)])], 177⟩ (C_125 13516) [] [] (kp [4]) (kq [0]) 177 [] trivial ?_
        obtain rfl := Option.some.inj h
        refine Runs.sW hE ⟨[(4, (aI x))], [(0, vO 1 [(aI cap0)])], 177⟩ [] (kp [4]) (kq [0]) 177 [] trivial ?_
        exact Runs.sT Try.f160 [] [] trivial
      · have h := condF h hq3
        refine Runs.sA 2 [.code (C_125 423), .inLoop (C_125 52), .inBlock 0, .code (C_125 7)] ?_
        refine Runs.sR hE ⟨[(0, (encL TRow.cells TRow.d s)), (1, (.fn (.func 135) [] [(.op 0 0 0)])), (7, (aI ((s.length : Nat) : Int))), (8, (aI (w64 (x + 1))))], [(0, vO 1 [(aI cap0)])], 177⟩ (C_125 423) [] [] (kp [0, 1, 7, 8]) (kq [0]) 177 [] trivial ?_
        refine Runs.sA 1 [.code (C_125 52), .inLoop (C_125 52), .inBlock 0, .code (C_125 7)] ?_
        exact Runs.sW hE _ [] (kp [0, 1, 7, 8]) (kq [0]) 1 [] trivial (ih (w64 (x + 1)) _ h E hE)
    · have h := condF h hq2
      refine Runs.sA 2 [.code (C_125 14), .code (C_125 15)] ?_
      refine Runs.sR hE ⟨[(4, (aI (-1)))], [(0, vO 1 [(aI cap0)])], 33⟩ (C_125 14) [] [] (kp [4]) (kq [0]) 33 [] trivial ?_
      obtain rfl := Option.some.inj h
      refine Runs.sW hE ⟨[(4, (aI (-1)))], [(0, vO 1 [(aI cap0)])], 49⟩ [] (kp [4]) (kq [0]) 49 [] trivial ?_
      exact Runs.sT Try.f160 [] [] trivial
theorem g_slices_IndexFunc_Row_ok (N : Nat) (s : List TRow) (cap0 : Int) (r : Int) (h : g_slices_IndexFunc_Row N s cap0 = some r) : Sound Try.prog 160 [(encL TRow.cells TRow.d s), (.fn (.func 135) [] [(.op 0 0 0)])] [(0, vO 1 [(aI cap0)])] 1 (aI r) [(0, vO 1 [(aI cap0)])] := by
  unfold g_slices_IndexFunc_Row at h
  refine Sound.of_runs (fu := Try.f160) (c := C_125 1) (nt := 19) (by kernel_rfl) (by kernel_rfl) (by kernel_rfl) (by kernel_rfl) (fun hm => absurd hm (by decide)) ?_
  intro E hE
  refine Runs.sA 1 [.code (C_125 2), .code (C_125 3)] ?_
  refine Runs.sR hE ⟨[(0, (encL TRow.cells TRow.d s)), (1, (.fn (.func 135) [] [(.op 0 0 0)]))], [(0, vO 1 [(aI cap0)])], 17⟩ (C_125 2) [] [] (kp [0, 1]) (kq [0]) 17 [] trivial ?_
  refine Runs.sA 2 [.code (C_125 12), .code (C_125 13), .code (C_125 7)] ?_
  refine Runs.sR hE ⟨[(0, (encL TRow.cells TRow.d s)), (1, (.fn (.func 135) [] [(.op 0 0 0)])), (7, (aI ((s.length : Nat) : Int))), (8, (aI 0))], [(0, vO 1 [(aI cap0)])], 65⟩ (C_125 12) [] [] (kp [0, 1, 7, 8]) (kq [0]) 65 [] trivial ?_
  refine Runs.sA 2 [.code (C_125 52), .inLoop (C_125 52), .inBlock 0, .code (C_125 7)] ?_
  exact Runs.sW hE _ [] (kp [0, 1, 7, 8]) (kq [0]) 1 [] trivial (g_slices_IndexFunc_Row_L1_ok N s cap0 N 0 _ h E hE)
noncomputable def C_124 (n : Nat) : Code := cat (bodyOf Try.f134) (pth n)
theorem g_slices_ContainsFunc_Row_ok (N : Nat) (s : List TRow) (cap0 : Int) (r : Bool) (h : g_slices_ContainsFunc_Row N s cap0 = some r) : Sound Try.prog 134 [(encL TRow.cells TRow.d s), (.fn (.func 135) [] [(.op 0 0 0)])] [(0, vO 1 [(aI cap0)])] 1 (aB r) [(0, vO 1 [(aI cap0)])] := by
  unfold g_slices_ContainsFunc_Row at h
  refine Sound.of_runs (fu := Try.f134) (c := C_124 1) (nt := 9) (by kernel_rfl) (by kernel_rfl) (by kernel_rfl) (by kernel_rfl) (fun hm => absurd hm (by decide)) ?_
  intro E hE
  refine Runs.sA 1 [.code (C_124 2), .code (C_124 3)] ?_
  refine Runs.sR hE ⟨[(0, (encL TRow.cells TRow.d s)), (1, (.fn (.func 135) [] [(.op 0 0 0)]))], [(0, vO 1 [(aI cap0)])], 17⟩ (C_124 2) [] [] (kp [0, 1]) (kq [0]) 17 [] trivial ?_
  refine Runs.sA 1 [.code (C_124 6), .code (C_124 7)] ?_
  obtain ⟨rRow, hr, h⟩ := bindSome h
  refine Runs.sR hE ⟨[(4, (aB (decide (rRow ≥ 0))))], [(0, vO 1 [(aI cap0)])], 97⟩ (C_124 6) [(2, ⟨[0], true, (aI rRow), [], 0, false, none⟩)] [] (kp [4]) (kq [0]) 97 [Sound Try.prog 160 [(encL TRow.cells TRow.d s), (.fn (.func 135) [] [(.op 0 0 0)])] [(0, vO 1 [(aI cap0)])] 1 (aI rRow) [(0, vO 1 [(aI cap0)])]] ⟨(g_slices_IndexFunc_Row_ok N s cap0 rRow hr), trivial⟩ ?_
  obtain rfl := Option.some.inj h
  refine Runs.sW hE ⟨[(4, (aB (decide (rRow ≥ 0))))], [(0, vO 1 [(aI cap0)])], 97⟩ [] (kp [4]) (kq [0]) 97 [] trivial ?_
  exact Runs.sT Try.f134 [] [] trivial
noncomputable def C_123 (n : Nat) : Code := cat (bodyOf Try.f78) (pth n)
theorem g_e_CheckRows_ok (N : Nat) (n : Int) (l : List TRow) (r : Int) (h : g_e_CheckRows N n l = some r) : Sound Try.prog 78 [(aI n), (encL TRow.cells TRow.d l)] [] 0 (aI r) [] := by
  unfold g_e_CheckRows at h
  refine Sound.of_runs (fu := Try.f78) (c := C_123 1) (nt := 17) (by kernel_rfl) (by kernel_rfl) (by kernel_rfl) (by kernel_rfl) (fun hm => rfl) ?_
  intro E hE
  refine Runs.sA 1 [.code (C_123 2), .code (C_123 3)] ?_
  refine Runs.sR hE ⟨[(1, (encL TRow.cells TRow.d l)), (2, (.op 0 0 0))], [(0, vO 1 [(aI n)])], 32⟩ (C_123 2) [] [] (kp [1, 2]) (kq [0]) 32 [] trivial ?_
  refine Runs.sA 2 [.code (C_123 12), .code (C_123 13), .code (C_123 7)] ?_
  refine Runs.sR hE ⟨[(1, (encL TRow.cells TRow.d l)), (2, (.op 0 0 0)), (10, (aB (cond (decide (n < 0)) true (decide (n > 12)))))], [(0, vO 1 [(aI n)])], 128⟩ (C_123 12) [] [] (kp [1, 2, 10]) (kq [0]) 128 [0 < 1, (!(decide (n < 0))) = true → AllP [0 < 1], (!(decide (n < 0))) = true → AllP [(!(decide (n < 0))) = true], (!(decide (n < 0))) = true → AllP [(!(decide (n < 0))) = true]] ⟨o1, (fun hg => ⟨o1, trivial⟩), (fun hg => ⟨hg, trivial⟩), (fun hq => ⟨hq, trivial⟩), trivial⟩ ?_
  refine Runs.sC 10 (C_123 26) (C_123 27) (cond (decide (n < 0)) true (decide (n > 12))) (fun hq2 => ?_) (fun hq2 => ?_)
  · have h := condT h hq2
    refine Runs.sA 1 [.code (C_123 52), .code (C_123 53), .code (C_123 7)] ?_
    refine Runs.sR hE ⟨[(4, (aI 2))], [], 144⟩ (C_123 52) [] [] (kp [4]) [] 144 [] trivial ?_
    obtain rfl := Option.some.inj h
    refine Runs.sW hE ⟨[(4, (aI 2))], [], 144⟩ [] (kp [4]) [] 144 [] trivial ?_
    exact Runs.sT Try.f78 [] [] trivial
  · have h := condF h hq2
    refine Runs.sA 3 [.code (C_123 28), .code (C_123 29), .code (C_123 15)] ?_
    refine Runs.sR hE ⟨[(1, (encL TRow.cells TRow.d l)), (2, (.op 0 0 0)), (13, (aB (decide (((l.length : Nat) : Int) > 40))))], [(0, vO 1 [(aI n)])], 176⟩ (C_123 28) [] [] (kp [1, 2, 13]) (kq [0]) 176 [] trivial ?_
    refine Runs.sC 13 (C_123 58) (C_123 59) (decide (((l.length : Nat) : Int) > 40)) (fun hq3 => ?_) (fun hq3 => ?_)
    · have h := condT h hq3
      refine Runs.sA 1 [.code (C_123 116), .code (C_123 117), .code (C_123 15)] ?_
      refine Runs.sR hE ⟨[(4, (aI 8))], [], 192⟩ (C_123 116) [] [] (kp [4]) [] 192 [] trivial ?_
      obtain rfl := Option.some.inj h
      refine Runs.sW hE ⟨[(4, (aI 8))], [], 192⟩ [] (kp [4]) [] 192 [] trivial ?_
      exact Runs.sT Try.f78 [] [] trivial
    · have h := condF h hq3
      refine Runs.sA 3 [.code (C_123 60), .code (C_123 61), .code (C_123 31)] ?_
      obtain ⟨rRow, hr, h⟩ := bindSome h
      refine Runs.sR hE ⟨[(16, (aB rRow))], [], 224⟩ (C_123 60) [(2, ⟨[0], true, (aB rRow), [], 0, false, none⟩)] [] (kp [16]) [] 224 [Sound Try.prog 134 [(encL TRow.cells TRow.d l), (.fn (.func 135) [] [(.op 0 0 0)])] [(0, vO 1 [(aI n)])] 1 (aB rRow) [(0, vO 1 [(aI n)])]] ⟨(g_slices_ContainsFunc_Row_ok N l n rRow hr), trivial⟩ ?_
      refine Runs.sC 16 (C_123 122) (C_123 123) rRow (fun hq4 => ?_) (fun hq4 => ?_)
      · have h := condT h hq4
        refine Runs.sA 1 [.code (C_123 244), .code (C_123 245), .code (C_123 31)] ?_
        refine Runs.sR hE ⟨[(4, (aI 11))], [], 240⟩ (C_123 244) [] [] (kp [4]) [] 240 [] trivial ?_
        obtain rfl := Option.some.inj h
        refine Runs.sW hE ⟨[(4, (aI 11))], [], 240⟩ [] (kp [4]) [] 240 [] trivial ?_
        exact Runs.sT Try.f78 [] [] trivial
      · have h := condF h hq4
        refine Runs.sA 2 [.code (C_123 62), .code (C_123 63)] ?_
        refine Runs.sR hE ⟨[(4, (aI 0))], [], 240⟩ (C_123 62) [] [] (kp [4]) [] 240 [] trivial ?_
        obtain rfl := Option.some.inj h
        refine Runs.sW hE ⟨[(4, (aI 0))], [], 240⟩ [] (kp [4]) [] 240 [] trivial ?_
        exact Runs.sT Try.f78 [] [] trivial
noncomputable def C_132 (n : Nat) : Code := cat (bodyOf Try.f140) (pth n)
theorem g_e_dot_L1_ok (N : Nat) (c : List TRat) (x : List TRat) (fuel : Nat) : ∀ (sum : TRat) (x2 : Int) (r : TRat), g_e_dot_L1 N c x fuel sum x2 = some r → ∀ E, EnvOk E 0 → Runs Try.prog E 140 26 (SPost E [] (.agg (TRat.cells r))) [.code (C_132 116), .inLoop (C_132 116), .inBlock 0, .code (C_132 15)] ⟨[(1, (encL TRat.cells TRat.d x)), (4, (.op 0 0 0)), (5, (.op 1 0 0)), (9, (encL TRat.cells TRat.d c)), (10, (aI ((c.length : Nat) : Int))), (11, (aI x2))], [(0, vO 4 [(aB false), .nil, (aB false), .nil]), (1, vO 4 (TRat.cells sum))], 2⟩ := by
  induction fuel with
  | zero => intro _ _ r h; rw [g_e_dot_L1.eq_1] at h; cases h
  | succ fuel ih =>
    intro sum x2 r h E hE
    rw [g_e_dot_L1.eq_2] at h
    refine Runs.sA 1 [.code (C_132 232), .code (C_132 233), .inLoop (C_132 116), .inBlock 0, .code (C_132 15)] ?_
    refine Runs.sR hE ⟨[(1, (encL TRat.cells TRat.d x)), (4, (.op 0 0 0)), (5, (.op 1 0 0)), (9, (encL TRat.cells TRat.d c)), (10, (aI ((c.length : Nat) : Int))), (11, (aI x2)), (12, (aB (decide (x2 < ((c.length : Nat) : Int)))))], [(0, vO 4 [(aB false), .nil, (aB false), .nil]), (1, vO 4 (TRat.cells sum))], 18⟩ (C_132 232) [] [] (kp [1, 4, 5, 9, 10, 11, 12]) (kq [0, 1]) 18 [] trivial ?_
    refine Runs.sA 1 [.code (C_132 466), .code (C_132 467), .inLoop (C_132 116), .inBlock 0, .code (C_132 15)] ?_
    refine Runs.sC 12 (C_132 932) (C_132 933) (decide (x2 < ((c.length : Nat) : Int))) (fun hq2 => ?_) (fun hq2 => ?_)
    · have h := condT h hq2
      refine Runs.sA 4 [.code (C_132 3736), .code (C_132 3737), .inBlock 1, .code (C_132 935), .inLoop (C_132 116), .inBlock 0, .code (C_132 15)] ?_
      obtain ⟨c2, h⟩ := ifSome h
      refine Runs.sR hE ⟨[(1, (encL TRat.cells TRat.d x)), (4, (.op 0 0 0)), (5, (.op 1 0 0)), (6, (aI x2)), (7, (.op 66 0 0)), (9, (encL TRat.cells TRat.d c)), (10, (aI ((c.length : Nat) : Int))), (11, (aI x2))], [(0, vO 4 [(aB false), .nil, (aB false), .nil]), (1, vO 4 (TRat.cells sum)), (66, vO 4 [(aB (((c.getD ((x2).toNat) TRat.d).f_Num).f_Neg)), (encL (cU .u16) 0 (((c.getD ((x2).toNat) TRat.d).f_Num).f_Limbs)), (aB (((c.getD ((x2).toNat) TRat.d).f_Den).f_Neg)), (encL (cU .u16) 0 (((c.getD ((x2).toNat) TRat.d).f_Den).f_Limbs))])], 114⟩ (C_132 3736) [] [] (kp [1, 4, 5, 6, 7, 9, 10, 11]) (kq [0, 1, 66]) 114 [0 ≤ x2 ∧ x2 < ((c.length : Nat) : Int), 0 < 1] ⟨c2, o1, trivial⟩ ?_
      obtain ⟨c3, h⟩ := ifSome h
      obtain ⟨rMulRat, hr2, h⟩ := bindSome h
      obtain ⟨rAddRat, hr3, h⟩ := bindSome h
      refine Runs.sR hE ⟨[(1, (encL TRat.cells TRat.d x)), (4, (.op 0 0 0)), (5, (.op 1 0 0)), (9, (encL TRat.cells TRat.d c)), (10, (aI ((c.length : Nat) : Int))), (11, (aI x2))], [(0, vO 4 [(aB false), .nil, (aB false), .nil]), (1, vO 4 (TRat.cells rAddRat))], 258⟩ (C_132 3737) [(6, ⟨[], true, (.agg (TRat.cells rMulRat)), [], 0, false, none⟩), (7, ⟨[], true, (.agg (TRat.cells rAddRat)), [], 0, false, none⟩)] [] (kp [1, 4, 5, 9, 10, 11]) (kq [0, 1]) 258 [0 < 1, 0 < 1, 0 ≤ x2 ∧ x2 < ((x.length : Nat) : Int), Sound Try.prog 32 [(.agg [(aB (((c.getD ((x2).toNat) TRat.d).f_Num).f_Neg)), (encL (cU .u16) 0 (((c.getD ((x2).toNat) TRat.d).f_Num).f_Limbs)), (aB (((c.getD ((x2).toNat) TRat.d).f_Den).f_Neg)), (encL (cU .u16) 0 (((c.getD ((x2).toNat) TRat.d).f_Den).f_Limbs))]), (.agg [(aB (((x.getD ((x2).toNat) TRat.d).f_Num).f_Neg)), (encL (cU .u16) 0 (((x.getD ((x2).toNat) TRat.d).f_Num).f_Limbs)), (aB (((x.getD ((x2).toNat) TRat.d).f_Den).f_Neg)), (encL (cU .u16) 0 (((x.getD ((x2).toNat) TRat.d).f_Den).f_Limbs))])] [] 0 (.agg (TRat.cells rMulRat)) [], Sound Try.prog 33 [(.agg (TRat.cells sum)), (.agg (TRat.cells rMulRat))] [] 0 (.agg (TRat.cells rAddRat)) [], 0 < 1] ⟨o1, o1, c3, (g_e_MulRat_ok N (⟨((c.getD ((x2).toNat) TRat.d).f_Num), ((c.getD ((x2).toNat) TRat.d).f_Den)⟩ : TRat) (⟨((x.getD ((x2).toNat) TRat.d).f_Num), ((x.getD ((x2).toNat) TRat.d).f_Den)⟩ : TRat) rMulRat hr2), (g_e_AddRat_ok N sum rMulRat rAddRat hr3), o1, trivial⟩ ?_
      refine Runs.sA 1 [.code (C_132 935), .inLoop (C_132 116), .inBlock 0, .code (C_132 15)] ?_
      refine Runs.sR hE ⟨[(1, (encL TRat.cells TRat.d x)), (4, (.op 0 0 0)), (5, (.op 1 0 0)), (9, (encL TRat.cells TRat.d c)), (10, (aI ((c.length : Nat) : Int))), (11, (aI (w64 (x2 + 1))))], [(0, vO 4 [(aB false), .nil, (aB false), .nil]), (1, vO 4 (TRat.cells rAddRat))], 290⟩ (C_132 935) [] [] (kp [1, 4, 5, 9, 10, 11]) (kq [0, 1]) 290 [] trivial ?_
      refine Runs.sA 1 [.code (C_132 116), .inLoop (C_132 116), .inBlock 0, .code (C_132 15)] ?_
      exact Runs.sW hE _ [] (kp [1, 4, 5, 9, 10, 11]) (kq [0, 1]) 2 [] trivial (ih rAddRat (w64 (x2 + 1)) _ h E hE)
    · have h := condF h hq2
      refine Runs.sA 2 [.code (C_132 30), .code (C_132 31)] ?_
      refine Runs.sR hE ⟨[(4, (.op 0 0 0))], [(0, vO 4 (TRat.cells sum))], 50⟩ (C_132 30) [] [] (kp [4]) (kq [0]) 50 [0 < 1, 0 < 1] ⟨o1, o1, trivial⟩ ?_
      obtain rfl := Option.some.inj h
      refine Runs.sW hE ⟨[(4, (.op 16 0 0))], [(16, vO 4 (TRat.cells sum))], 50⟩ [] (kp [4]) [(16, .keep 0)] 50 [] trivial ?_
      exact Runs.sT Try.f140 [16] [0 < 1] ⟨o1, trivial⟩
theorem g_e_dot_ok (N : Nat) (c : List TRat) (x : List TRat) (r : TRat) (h : g_e_dot N c x = some r) : Sound Try.prog 140 [(encL TRat.cells TRat.d c), (encL TRat.cells TRat.d x)] [] 0 (.agg (TRat.cells r)) [] := by
  unfold g_e_dot at h
  refine Sound.of_runs (fu := Try.f140) (c := C_132 1) (nt := 26) (by kernel_rfl) (by kernel_rfl) (by kernel_rfl) (by kernel_rfl) (fun hm => rfl) ?_
  intro E hE
  refine Runs.sA 1 [.code (C_132 2), .code (C_132 3)] ?_
  refine Runs.sR hE ⟨[(0, (encL TRat.cells TRat.d c)), (1, (encL TRat.cells TRat.d x)), (4, (.op 0 0 0))], [(0, vO 4 [(aB false), .nil, (aB false), .nil])], 16⟩ (C_132 2) [] [] (kp [0, 1, 4]) (kq [0]) 16 [] trivial ?_
  refine Runs.sA 1 [.code (C_132 6), .code (C_132 7)] ?_
  obtain ⟨rnumber, hr, h⟩ := bindSome h
  refine Runs.sR hE ⟨[(0, (encL TRat.cells TRat.d c)), (1, (encL TRat.cells TRat.d x)), (4, (.op 0 0 0)), (5, (.op 32 0 0))], [(0, vO 4 [(aB false), .nil, (aB false), .nil]), (32, vO 4 (TRat.cells rnumber))], 64⟩ (C_132 6) [(0, ⟨[], true, (.agg (TRat.cells rnumber)), [], 0, false, none⟩)] [] (kp [0, 1, 4, 5]) (kq [0, 32]) 64 [Sound Try.prog 122 [(aI 0)] [] 0 (.agg (TRat.cells rnumber)) [], 0 < 1] ⟨(g_e_number_ok N 0 rnumber hr), o1, trivial⟩ ?_
  refine Runs.sA 2 [.code (C_132 28), .code (C_132 29), .code (C_132 15)] ?_
  refine Runs.sR hE ⟨[(1, (encL TRat.cells TRat.d x)), (4, (.op 0 0 0)), (5, (.op 32 0 0)), (9, (encL TRat.cells TRat.d c)), (10, (aI ((c.length : Nat) : Int))), (11, (aI 0))], [(0, vO 4 [(aB false), .nil, (aB false), .nil]), (32, vO 4 (TRat.cells rnumber))], 112⟩ (C_132 28) [] [] (kp [1, 4, 5, 9, 10, 11]) (kq [0, 32]) 112 [] trivial ?_
  refine Runs.sA 2 [.code (C_132 116), .inLoop (C_132 116), .inBlock 0, .code (C_132 15)] ?_
  exact Runs.sW hE _ [] (kp [1, 4, 5, 9, 10, 11]) (kq [0] ++ [(1, .keep 32)]) 2 [] trivial (g_e_dot_L1_ok N c x N rnumber 0 _ h E hE)
noncomputable def C_131 (n : Nat) : Code := cat (bodyOf Try.f161) (pth n)
theorem g_e_satisfied_1_ok (N : Nat) (vr : TRow) (cap0 : List TRat) (r : Bool) (h : g_e_satisfied_1 N vr cap0 = some r) : Sound Try.prog 161 [(.agg (TRow.cells vr)), (.op 0 0 0)] [(0, vO 1 [(encL TRat.cells TRat.d cap0)])] 1 (aB r) [(0, vO 1 [(encL TRat.cells TRat.d cap0)])] := by
  unfold g_e_satisfied_1 at h
  refine Sound.of_runs (fu := Try.f161) (c := C_131 1) (nt := 12) (by kernel_rfl) (by kernel_rfl) (by kernel_rfl) (by kernel_rfl) (fun hm => absurd hm (by decide)) ?_
  intro E hE
  refine Runs.sA 1 [.code (C_131 2), .code (C_131 3)] ?_
  refine Runs.sR hE ⟨[(1, (.op 0 0 0)), (2, (.op 1 0 0))], [(0, vO 1 [(encL TRat.cells TRat.d cap0)]), (1, vO 5 (TRow.cells vr))], 33⟩ (C_131 2) [] [] (kp [1, 2]) (kq [0, 1]) 33 [] trivial ?_
  refine Runs.sA 1 [.code (C_131 6), .code (C_131 7)] ?_
  obtain ⟨rdot, hr, h⟩ := bindSome h
  obtain ⟨rCmpRat, hr2, h⟩ := bindSome h
  refine Runs.sR hE ⟨[(3, (aB (decide (rCmpRat > 0))))], [(0, vO 1 [(encL TRat.cells TRat.d cap0)])], 177⟩ (C_131 6) [(3, ⟨[], true, (.agg (TRat.cells rdot)), [], 0, false, none⟩), (6, ⟨[], true, (aI rCmpRat), [], 0, false, none⟩)] [] (kp [3]) (kq [0]) 177 [0 < 1, 0 < 1, Sound Try.prog 140 [(encL TRat.cells TRat.d vr.f_Coefs), (encL TRat.cells TRat.d cap0)] [] 0 (.agg (TRat.cells rdot)) [], 0 < 1, Sound Try.prog 35 [(.agg (TRat.cells rdot)), (.agg (TRat.cells vr.f_Bound))] [] 0 (aI rCmpRat) []] ⟨o1, o1, (g_e_dot_ok N vr.f_Coefs cap0 rdot hr), o1, (g_e_CmpRat_ok N rdot vr.f_Bound rCmpRat hr2), trivial⟩ ?_
  obtain rfl := Option.some.inj h
  refine Runs.sW hE ⟨[(3, (aB (decide (rCmpRat > 0))))], [(0, vO 1 [(encL TRat.cells TRat.d cap0)])], 177⟩ [] (kp [3]) (kq [0]) 177 [] trivial ?_
  exact Runs.sT Try.f161 [] [] trivial
noncomputable def C_130 (n : Nat) : Code := cat (bodyOf Try.f160) (pth n)
theorem g_slices_IndexFunc_Row_v2_L1_ok (N : Nat) (s : List TRow) (cap0 : List TRat) (fuel : Nat) : ∀ (x : Int) (r : Int), g_slices_IndexFunc_Row_v2_L1 N s cap0 fuel x = some r → ∀ E, EnvOk E 1 → Runs Try.prog E 160 19 (SPost E [(0, vO 1 [(encL TRat.cells TRat.d cap0)])] (aI r)) [.code (C_130 52), .inLoop (C_130 52), .inBlock 0, .code (C_130 7)] ⟨[(0, (encL TRow.cells TRow.d s)), (1, (.fn (.func 161) [] [(.op 0 0 0)])), (7, (aI ((s.length : Nat) : Int))), (8, (aI x))], [(0, vO 1 [(encL TRat.cells TRat.d cap0)])], 1⟩ := by
  induction fuel with
  | zero => intro _ r h; rw [g_slices_IndexFunc_Row_v2_L1.eq_1] at h; cases h
  | succ fuel ih =>
    intro x r h E hE
    rw [g_slices_IndexFunc_Row_v2_L1.eq_2] at h
    refine Runs.sA 1 [.code (C_130 104), .code (C_130 105), .inLoop (C_130 52), .inBlock 0, .code (C_130 7)] ?_
    refine Runs.sR hE ⟨[(0, (encL TRow.cells TRow.d s)), (1, (.fn (.func 161) [] [(.op 0 0 0)])), (7, (aI ((s.length : Nat) : Int))), (8, (aI x)), (9, (aB (decide (x < ((s.length : Nat) : Int)))))], [(0, vO 1 [(encL TRat.cells TRat.d cap0)])], 17⟩ (C_130 104) [] [] (kp [0, 1, 7, 8, 9]) (kq [0]) 17 [] trivial ?_
    refine Runs.sA 1 [.code (C_130 210), .code (C_130 211), .inLoop (C_130 52), .inBlock 0, .code (C_130 7)] ?_
    refine Runs.sC 9 (C_130 420) (C_130 421) (decide (x < ((s.length : Nat) : Int))) (fun hq2 => ?_) (fun hq2 => ?_)
    · have h := condT h hq2
      refine Runs.sA 4 [.code (C_130 1688), .code (C_130 1689), .inBlock 1, .code (C_130 423), .inLoop (C_130 52), .inBlock 0, .code (C_130 7)] ?_
      refine Runs.sR hE ⟨[(0, (encL TRow.cells TRow.d s)), (1, (.fn (.func 161) [] [(.op 0 0 0)])), (5, (aI x)), (7, (aI ((s.length : Nat) : Int))), (8, (aI x))], [(0, vO 1 [(encL TRat.cells TRat.d cap0)])], 49⟩ (C_130 1688) [] [] (kp [0, 1, 5, 7, 8]) (kq [0]) 49 [] trivial ?_
      refine Runs.sA 1 [.code (C_130 3378), .code (C_130 3379), .inBlock 1, .code (C_130 423), .inLoop (C_130 52), .inBlock 0, .code (C_130 7)] ?_
      obtain ⟨c, h⟩ := ifSome h
      obtain ⟨rsatisfied1, hr, h⟩ := bindSome h
      refine Runs.sR hE ⟨[(0, (encL TRow.cells TRow.d s)), (1, (.fn (.func 161) [] [(.op 0 0 0)])), (5, (aI x)), (7, (aI ((s.length : Nat) : Int))), (8, (aI x)), (16, (aB rsatisfied1))], [(0, vO 1 [(encL TRat.cells TRat.d cap0)])], 145⟩ (C_130 3378) [(5, ⟨[0], true, (aB rsatisfied1), [], 0, false, none⟩)] [] (kp [0, 1, 5, 7, 8, 16]) (kq [0]) 145 [0 ≤ x ∧ x < ((s.length : Nat) : Int), Sound Try.prog 161 [(.agg (TRow.cells (s.getD ((x).toNat) TRow.d))), (.op 0 0 0)] [(0, vO 1 [(encL TRat.cells TRat.d cap0)])] 1 (aB rsatisfied1) [(0, vO 1 [(encL TRat.cells TRat.d cap0)])]] ⟨c, (g_e_satisfied_1_ok N (s.getD ((x).toNat) TRow.d) cap0 rsatisfied1 hr), trivial⟩ ?_
      refine Runs.sC 16 (C_130 6758) (C_130 6759) rsatisfied1 (fun hq3 => ?_) (fun hq3 => ?_)
      · have h := condT h hq3
        refine Runs.sA 1 [.code (C_130 13516), .code (C_130 13517), .inBlock 1, .code (C_130 423), .inLoop (C_130 52), .inBlock 0, .code (C_130 7)] ?_
        refine Runs.sR hE ⟨[(4, (aI x))], [(0, vO 1 [(encL TRat.cells TRat.d cap0)])], 177⟩ (C_130 13516) [] [] (kp [4]) (kq [0]) 177 [] trivial ?_
        obtain rfl := Option.some.inj h
        refine Runs.sW hE ⟨[(4, (aI x))], [(0, vO 1 [(encL TRat.cells TRat.d cap0)])], 177⟩ [] (kp [4]) (kq [0]) 177 [] trivial ?_
        exact Runs.sT Try.f160 [] [] trivial
      · have h := condF h hq3
        refine Runs.sA 2 [.code (C_130 423), .inLoop (C_130 52), .inBlock 0, .code (C_130 7)] ?_
        refine Runs.sR hE ⟨[(0, (encL TRow.cells TRow.d s)), (1, (.fn (.func 161) [] [(.op 0 0 0)])), (7, (aI ((s.length : Nat) : Int))), (8, (aI (w64 (x + 1))))], [(0, vO 1 [(encL TRat.cells TRat.d cap0)])], 177⟩ (C_130 423) [] [] (kp [0, 1, 7, 8]) (kq [0]) 177 [] trivial ?_
        refine Runs.sA 1 [.code (C_130 52), .inLoop (C_130 52), .inBlock 0, .code (C_130 7)] ?_
        exact Runs.sW hE _ [] (kp [0, 1, 7, 8]) (kq [0]) 1 [] trivial (ih (w64 (x + 1)) _ h E hE)
    · have h := condF h hq2
      refine Runs.sA 2 [.code (C_130 14), .code (C_130 15)] ?_
      refine Runs.sR hE ⟨[(4, (aI (-1)))], [(0, vO 1 [(encL TRat.cells TRat.d cap0)])], 33⟩ (C_130 14) [] [] (kp [4]) (kq [0]) 33 [] trivial ?_
      obtain rfl := Option.some.inj h
      refine Runs.sW hE ⟨[(4, (aI (-1)))], [(0, vO 1 [(encL TRat.cells TRat.d cap0)])], 49⟩ [] (kp [4]) (kq [0]) 49 [] trivial ?_
      exact Runs.sT Try.f160 [] [] trivial
theorem g_slices_IndexFunc_Row_v2_ok (N : Nat) (s : List TRow) (cap0 : List TRat) (r : Int) (h : g_slices_IndexFunc_Row_v2 N s cap0 = some r) : Sound Try.prog 160 [(encL TRow.cells TRow.d s), (.fn (.func 161) [] [(.op 0 0 0)])] [(0, vO 1 [(encL TRat.cells TRat.d cap0)])] 1 (aI r) [(0, vO 1 [(encL TRat.cells TRat.d cap0)])] := by
  unfold g_slices_IndexFunc_Row_v2 at h
  refine Sound.of_runs (fu := Try.f160) (c := C_130 1) (nt := 19) (by kernel_rfl) (by kernel_rfl) (by kernel_rfl) (by kernel_rfl) (fun hm => absurd hm (by decide)) ?_
  intro E hE
  refine Runs.sA 1 [.code (C_130 2), .code (C_130 3)] ?_
  refine Runs.sR hE ⟨[(0, (encL TRow.cells TRow.d s)), (1, (.fn (.func 161) [] [(.op 0 0 0)]))], [(0, vO 1 [(encL TRat.cells TRat.d cap0)])], 17⟩ (C_130 2) [] [] (kp [0, 1]) (kq [0]) 17 [] trivial ?_
  refine Runs.sA 2 [.code (C_130 12), .code (C_130 13), .code (C_130 7)] ?_
  refine Runs.sR hE ⟨[(0, (encL TRow.cells TRow.d s)), (1, (.fn (.func 161) [] [(.op 0 0 0)])), (7, (aI ((s.length : Nat) : Int))), (8, (aI 0))], [(0, vO 1 [(encL TRat.cells TRat.d cap0)])], 65⟩ (C_130 12) [] [] (kp [0, 1, 7, 8]) (kq [0]) 65 [] trivial ?_
  refine Runs.sA 2 [.code (C_130 52), .inLoop (C_130 52), .inBlock 0, .code (C_130 7)] ?_
  exact Runs.sW hE _ [] (kp [0, 1, 7, 8]) (kq [0]) 1 [] trivial (g_slices_IndexFunc_Row_v2_L1_ok N s cap0 N 0 _ h E hE)
noncomputable def C_129 (n : Nat) : Code := cat (bodyOf Try.f134) (pth n)
theorem g_slices_ContainsFunc_Row_v2_ok (N : Nat) (s : List TRow) (cap0 : List TRat) (r : Bool) (h : g_slices_ContainsFunc_Row_v2 N s cap0 = some r) : Sound Try.prog 134 [(encL TRow.cells TRow.d s), (.fn (.func 161) [] [(.op 0 0 0)])] [(0, vO 1 [(encL TRat.cells TRat.d cap0)])] 1 (aB r) [(0, vO 1 [(encL TRat.cells TRat.d cap0)])] := by
  unfold g_slices_ContainsFunc_Row_v2 at h
  refine Sound.of_runs (fu := Try.f134) (c := C_129 1) (nt := 9) (by kernel_rfl) (by kernel_rfl) (by kernel_rfl) (by kernel_rfl) (fun hm => absurd hm (by decide)) ?_
  intro E hE
  refine Runs.sA 1 [.code (C_129 2), .code (C_129 3)] ?_
  refine Runs.sR hE ⟨[(0, (encL TRow.cells TRow.d s)), (1, (.fn (.func 161) [] [(.op 0 0 0)]))], [(0, vO 1 [(encL TRat.cells TRat.d cap0)])], 17⟩ (C_129 2) [] [] (kp [0, 1]) (kq [0]) 17 [] trivial ?_
  refine Runs.sA 1 [.code (C_129 6), .code (C_129 7)] ?_
  obtain ⟨rRow, hr, h⟩ := bindSome h
  refine Runs.sR hE ⟨[(4, (aB (decide (rRow ≥ 0))))], [(0, vO 1 [(encL TRat.cells TRat.d cap0)])], 97⟩ (C_129 6) [(2, ⟨[0], true, (aI rRow), [], 0, false, none⟩)] [] (kp [4]) (kq [0]) 97 [Sound Try.prog 160 [(encL TRow.cells TRow.d s), (.fn (.func 161) [] [(.op 0 0 0)])] [(0, vO 1 [(encL TRat.cells TRat.d cap0)])] 1 (aI rRow) [(0, vO 1 [(encL TRat.cells TRat.d cap0)])]] ⟨(g_slices_IndexFunc_Row_v2_ok N s cap0 rRow hr), trivial⟩ ?_
  obtain rfl := Option.some.inj h
  refine Runs.sW hE ⟨[(4, (aB (decide (rRow ≥ 0))))], [(0, vO 1 [(encL TRat.cells TRat.d cap0)])], 97⟩ [] (kp [4]) (kq [0]) 97 [] trivial ?_
  exact Runs.sT Try.f134 [] [] trivial
noncomputable def C_128 (n : Nat) : Code := cat (bodyOf Try.f136) (pth n)
theorem g_e_satisfied_ok (N : Nat) (l : List TRow) (point : List TRat) (r : Bool) (h : g_e_satisfied N l point = some r) : Sound Try.prog 136 [(encL TRow.cells TRow.d l), (encL TRat.cells TRat.d point)] [] 0 (aB r) [] := by
  unfold g_e_satisfied at h
  refine Sound.of_runs (fu := Try.f136) (c := C_128 1) (nt := 9) (by kernel_rfl) (by kernel_rfl) (by kernel_rfl) (by kernel_rfl) (fun hm => rfl) ?_
  intro E hE
  refine Runs.sA 1 [.code (C_128 2), .code (C_128 3)] ?_
  refine Runs.sR hE ⟨[(0, (encL TRow.cells TRow.d l)), (3, (.op 0 0 0))], [(0, vO 1 [(encL TRat.cells TRat.d point)])], 32⟩ (C_128 2) [] [] (kp [0, 3]) (kq [0]) 32 [] trivial ?_
  refine Runs.sA 1 [.code (C_128 6), .code (C_128 7)] ?_
  obtain ⟨rRow, hr, h⟩ := bindSome h
  refine Runs.sR hE ⟨[(4, (aB (!rRow)))], [], 112⟩ (C_128 6) [(2, ⟨[0], true, (aB rRow), [], 0, false, none⟩)] [] (kp [4]) [] 112 [Sound Try.prog 134 [(encL TRow.cells TRow.d l), (.fn (.func 161) [] [(.op 0 0 0)])] [(0, vO 1 [(encL TRat.cells TRat.d point)])] 1 (aB rRow) [(0, vO 1 [(encL TRat.cells TRat.d point)])]] ⟨(g_slices_ContainsFunc_Row_v2_ok N l point rRow hr), trivial⟩ ?_
  obtain rfl := Option.some.inj h
  refine Runs.sW hE ⟨[(4, (aB (!rRow)))], [], 112⟩ [] (kp [4]) [] 112 [] trivial ?_
  exact Runs.sT Try.f136 [] [] trivial
noncomputable def C_127 (n : Nat) : Code := cat (bodyOf Try.f80) (pth n)
theorem g_e_CheckPoint_ok (N : Nat) (l : List TRow) (point : List TRat) (r : Int) (h : g_e_CheckPoint N l point = some r) : Sound Try.prog 80 [(encL TRow.cells TRow.d l), (encL TRat.cells TRat.d point)] [] 0 (aI r) [] := by
  unfold g_e_CheckPoint at h
  refine Sound.of_runs (fu := Try.f80) (c := C_127 1) (nt := 17) (by kernel_rfl) (by kernel_rfl) (by kernel_rfl) (by kernel_rfl) (fun hm => rfl) ?_
  intro E hE
  refine Runs.sA 1 [.code (C_127 2), .code (C_127 3)] ?_
  refine Runs.sR hE ⟨[(0, (encL TRow.cells TRow.d l)), (1, (encL TRat.cells TRat.d point))], [], 16⟩ (C_127 2) [] [] (kp [0, 1]) [] 16 [] trivial ?_
  refine Runs.sA 2 [.code (C_127 12), .code (C_127 13), .code (C_127 7)] ?_
  obtain ⟨rCheckRows, hr, h⟩ := bindSome h
  refine Runs.sR hE ⟨[(0, (encL TRow.cells TRow.d l)), (1, (encL TRat.cells TRat.d point)), (5, (aI rCheckRows))], [], 96⟩ (C_127 12) [(3, ⟨[], true, (aI rCheckRows), [], 0, false, none⟩)] [] (kp [0, 1, 5]) [] 96 [Sound Try.prog 78 [(aI ((point.length : Nat) : Int)), (encL TRow.cells TRow.d l)] [] 0 (aI rCheckRows) []] ⟨(g_e_CheckRows_ok N ((point.length : Nat) : Int) l rCheckRows hr), trivial⟩ ?_
  refine Runs.sA 1 [.code (C_127 26), .code (C_127 27), .code (C_127 7)] ?_
  refine Runs.sR hE ⟨[(0, (encL TRow.cells TRow.d l)), (1, (encL TRat.cells TRat.d point)), (5, (aI rCheckRows)), (11, (aB (rCheckRows != 0)))], [], 128⟩ (C_127 26) [] [] (kp [0, 1, 5, 11]) [] 128 [] trivial ?_
  refine Runs.sC 11 (C_127 54) (C_127 55) (rCheckRows != 0) (fun hq2 => ?_) (fun hq2 => ?_)
  · have h := condT h hq2
    refine Runs.sA 1 [.code (C_127 108), .code (C_127 109), .code (C_127 7)] ?_
    refine Runs.sR hE ⟨[(4, (aI rCheckRows))], [], 160⟩ (C_127 108) [] [] (kp [4]) [] 160 [] trivial ?_
    obtain rfl := Option.some.inj h
    refine Runs.sW hE ⟨[(4, (aI rCheckRows))], [], 160⟩ [] (kp [4]) [] 160 [] trivial ?_
    exact Runs.sT Try.f80 [] [] trivial
  · have h := condF h hq2
    refine Runs.sA 3 [.code (C_127 28), .code (C_127 29), .code (C_127 15)] ?_
    obtain ⟨rsatisfied, hr2, h⟩ := bindSome h
    refine Runs.sR hE ⟨[(16, (aB (!rsatisfied)))], [], 192⟩ (C_127 28) [(2, ⟨[], true, (aB rsatisfied), [], 0, false, none⟩)] [] (kp [16]) [] 192 [Sound Try.prog 136 [(encL TRow.cells TRow.d l), (encL TRat.cells TRat.d point)] [] 0 (aB rsatisfied) []] ⟨(g_e_satisfied_ok N l point rsatisfied hr2), trivial⟩ ?_
    refine Runs.sC 16 (C_127 58) (C_127 59) (!rsatisfied) (fun hq3 => ?_) (fun hq3 => ?_)
    · have h := condT h hq3
      refine Runs.sA 1 [.code (C_127 116), .code (C_127 117), .code (C_127 15)] ?_
      refine Runs.sR hE ⟨[(4, (aI 24))], [], 208⟩ (C_127 116) [] [] (kp [4]) [] 208 [] trivial ?_
      obtain rfl := Option.some.inj h
      refine Runs.sW hE ⟨[(4, (aI 24))], [], 208⟩ [] (kp [4]) [] 208 [] trivial ?_
      exact Runs.sT Try.f80 [] [] trivial
    · have h := condF h hq3
      refine Runs.sA 2 [.code (C_127 30), .code (C_127 31)] ?_
      refine Runs.sR hE ⟨[(4, (aI 0))], [], 208⟩ (C_127 30) [] [] (kp [4]) [] 208 [] trivial ?_
      obtain rfl := Option.some.inj h
      refine Runs.sW hE ⟨[(4, (aI 0))], [], 208⟩ [] (kp [4]) [] 208 [] trivial ?_
      exact Runs.sT Try.f80 [] [] trivial
noncomputable def C_135 (n : Nat) : Code := cat (bodyOf Try.f149) (pth n)
theorem g_r01_Product_L1_ok (N : Nat) (a : List TRat) (b : List TRat) (fuel : Nat) : ∀ (out : TRat) (i : Int) (r : TRat), g_r01_Product_L1 N a b fuel out i = some r → ∀ E, EnvOk E 0 → Runs Try.prog E 149 32 (SPost E [] (.agg (TRat.cells r))) [.code (C_135 116), .inLoop (C_135 116), .inBlock 0, .code (C_135 15)] ⟨[(0, (encL TRat.cells TRat.d a)), (1, (encL TRat.cells TRat.d b)), (4, (.op 0 0 0)), (5, (.op 1 0 0)), (6, (aI i))], [(0, vO 4 [(aB false), .nil, (aB false), .nil]), (1, vO 4 (TRat.cells out))], 2⟩ := by
  induction fuel with
  | zero => intro _ _ r h; rw [g_r01_Product_L1.eq_1] at h; cases h
  | succ fuel ih =>
    intro out i r h E hE
    rw [g_r01_Product_L1.eq_2] at h
    refine Runs.sA 2 [.code (C_135 464), .code (C_135 465), .code (C_135 233), .inLoop (C_135 116), .inBlock 0, .code (C_135 15)] ?_
    refine Runs.sR hE ⟨[(0, (encL TRat.cells TRat.d a)), (1, (encL TRat.cells TRat.d b)), (4, (.op 0 0 0)), (5, (.op 1 0 0)), (6, (aI i)), (17, (aB (cond (decide (i < ((a.length : Nat) : Int))) (decide (i < ((b.length : Nat) : Int))) false)))], [(0, vO 4 [(aB false), .nil, (aB false), .nil]), (1, vO 4 (TRat.cells out))], 162⟩ (C_135 464) [] [] (kp [0, 1, 4, 5, 6, 17]) (kq [0, 1]) 162 [(decide (i < ((a.length : Nat) : Int))) = true → AllP [(decide (i < ((a.length : Nat) : Int))) = true], (decide (i < ((a.length : Nat) : Int))) = true → AllP [(decide (i < ((a.length : Nat) : Int))) = true, (decide (i < ((a.length : Nat) : Int))) = true], (decide (i < ((a.length : Nat) : Int))) = true → AllP [(decide (i < ((a.length : Nat) : Int))) = true]] ⟨(fun hg => ⟨hg, trivial⟩), (fun hg => ⟨hg, hg, trivial⟩), (fun hq => ⟨hq, trivial⟩), trivial⟩ ?_
    refine Runs.sC 17 (C_135 930) (C_135 931) (cond (decide (i < ((a.length : Nat) : Int))) (decide (i < ((b.length : Nat) : Int))) false) (fun hq2 => ?_) (fun hq2 => ?_)
    · have h := condT h hq2
      refine Runs.sA 3 [.code (C_135 932), .inBlock 1, .code (C_135 467), .inLoop (C_135 116), .inBlock 0, .code (C_135 15)] ?_
      obtain ⟨c, h⟩ := ifSome h
      obtain ⟨c2, h⟩ := ifSome h
      obtain ⟨rMulRat, hr2, h⟩ := bindSome h
      obtain ⟨rAddRat, hr3, h⟩ := bindSome h
      refine Runs.sR hE ⟨[(0, (encL TRat.cells TRat.d a)), (1, (encL TRat.cells TRat.d b)), (4, (.op 0 0 0)), (5, (.op 1 0 0)), (6, (aI i))], [(0, vO 4 [(aB false), .nil, (aB false), .nil]), (1, vO 4 (TRat.cells rAddRat))], 354⟩ (C_135 932) [(9, ⟨[], true, (.agg (TRat.cells rMulRat)), [], 0, false, none⟩), (10, ⟨[], true, (.agg (TRat.cells rAddRat)), [], 0, false, none⟩)] [] (kp [0, 1, 4, 5, 6]) (kq [0, 1]) 354 [0 < 1, 0 ≤ i ∧ i < ((a.length : Nat) : Int), 0 ≤ i ∧ i < ((b.length : Nat) : Int), Sound Try.prog 48 [(.agg [(aB (((a.getD ((i).toNat) TRat.d).f_Num).f_Neg)), (encL (cU .u16) 0 (((a.getD ((i).toNat) TRat.d).f_Num).f_Limbs)), (aB (((a.getD ((i).toNat) TRat.d).f_Den).f_Neg)), (encL (cU .u16) 0 (((a.getD ((i).toNat) TRat.d).f_Den).f_Limbs))]), (.agg [(aB (((b.getD ((i).toNat) TRat.d).f_Num).f_Neg)), (encL (cU .u16) 0 (((b.getD ((i).toNat) TRat.d).f_Num).f_Limbs)), (aB (((b.getD ((i).toNat) TRat.d).f_Den).f_Neg)), (encL (cU .u16) 0 (((b.getD ((i).toNat) TRat.d).f_Den).f_Limbs))])] [] 0 (.agg (TRat.cells rMulRat)) [], Sound Try.prog 46 [(.agg (TRat.cells out)), (.agg (TRat.cells rMulRat))] [] 0 (.agg (TRat.cells rAddRat)) [], 0 < 1] ⟨o1, c, c2, (g_r01_MulRat_ok N (⟨((a.getD ((i).toNat) TRat.d).f_Num), ((a.getD ((i).toNat) TRat.d).f_Den)⟩ : TRat) (⟨((b.getD ((i).toNat) TRat.d).f_Num), ((b.getD ((i).toNat) TRat.d).f_Den)⟩ : TRat) rMulRat hr2), (g_r01_AddRat_ok N out rMulRat rAddRat hr3), o1, trivial⟩ ?_
      refine Runs.sA 1 [.code (C_135 467), .inLoop (C_135 116), .inBlock 0, .code (C_135 15)] ?_
      refine Runs.sR hE ⟨[(0, (encL TRat.cells TRat.d a)), (1, (encL TRat.cells TRat.d b)), (4, (.op 0 0 0)), (5, (.op 1 0 0)), (6, (aI (w64 (i + 1))))], [(0, vO 4 [(aB false), .nil, (aB false), .nil]), (1, vO 4 (TRat.cells rAddRat))], 402⟩ (C_135 467) [] [] (kp [0, 1, 4, 5, 6]) (kq [0, 1]) 402 [] trivial ?_
      refine Runs.sA 1 [.code (C_135 116), .inLoop (C_135 116), .inBlock 0, .code (C_135 15)] ?_
      exact Runs.sW hE _ [] (kp [0, 1, 4, 5, 6]) (kq [0, 1]) 2 [] trivial (ih rAddRat (w64 (i + 1)) _ h E hE)
    · have h := condF h hq2
      refine Runs.sA 2 [.code (C_135 30), .code (C_135 31)] ?_
      refine Runs.sR hE ⟨[(4, (.op 0 0 0))], [(0, vO 4 (TRat.cells out))], 194⟩ (C_135 30) [] [] (kp [4]) (kq [0]) 194 [0 < 1, 0 < 1] ⟨o1, o1, trivial⟩ ?_
      obtain rfl := Option.some.inj h
      refine Runs.sW hE ⟨[(4, (.op 16 0 0))], [(16, vO 4 (TRat.cells out))], 194⟩ [] (kp [4]) [(16, .keep 0)] 194 [] trivial ?_
      exact Runs.sT Try.f149 [16] [0 < 1] ⟨o1, trivial⟩
theorem g_r01_Product_ok (N : Nat) (a : List TRat) (b : List TRat) (r : TRat) (h : g_r01_Product N a b = some r) : Sound Try.prog 149 [(encL TRat.cells TRat.d a), (encL TRat.cells TRat.d b)] [] 0 (.agg (TRat.cells r)) [] := by
  unfold g_r01_Product at h
  refine Sound.of_runs (fu := Try.f149) (c := C_135 1) (nt := 32) (by kernel_rfl) (by kernel_rfl) (by kernel_rfl) (by kernel_rfl) (fun hm => rfl) ?_
  intro E hE
  refine Runs.sA 1 [.code (C_135 2), .code (C_135 3)] ?_
  refine Runs.sR hE ⟨[(0, (encL TRat.cells TRat.d a)), (1, (encL TRat.cells TRat.d b)), (4, (.op 0 0 0))], [(0, vO 4 [(aB false), .nil, (aB false), .nil])], 16⟩ (C_135 2) [] [] (kp [0, 1, 4]) (kq [0]) 16 [] trivial ?_
  refine Runs.sA 1 [.code (C_135 6), .code (C_135 7)] ?_
  obtain ⟨rQ, hr, h⟩ := bindSome h
  refine Runs.sR hE ⟨[(0, (encL TRat.cells TRat.d a)), (1, (encL TRat.cells TRat.d b)), (4, (.op 0 0 0)), (5, (.op 32 0 0))], [(0, vO 4 [(aB false), .nil, (aB false), .nil]), (32, vO 4 (TRat.cells rQ))], 64⟩ (C_135 6) [(0, ⟨[], true, (.agg (TRat.cells rQ)), [], 0, false, none⟩)] [] (kp [0, 1, 4, 5]) (kq [0, 32]) 64 [Sound Try.prog 132 [(aI 0)] [] 0 (.agg (TRat.cells rQ)) [], 0 < 1] ⟨(g_r01_Q_ok N 0 rQ hr), o1, trivial⟩ ?_
  refine Runs.sA 2 [.code (C_135 28), .code (C_135 29), .code (C_135 15)] ?_
  refine Runs.sR hE ⟨[(0, (encL TRat.cells TRat.d a)), (1, (encL TRat.cells TRat.d b)), (4, (.op 0 0 0)), (5, (.op 32 0 0)), (6, (aI 0))], [(0, vO 4 [(aB false), .nil, (aB false), .nil]), (32, vO 4 (TRat.cells rQ))], 80⟩ (C_135 28) [] [] (kp [0, 1, 4, 5, 6]) (kq [0, 32]) 80 [] trivial ?_
  refine Runs.sA 2 [.code (C_135 116), .inLoop (C_135 116), .inBlock 0, .code (C_135 15)] ?_
  exact Runs.sW hE _ [] (kp [0, 1, 4, 5, 6]) (kq [0] ++ [(1, .keep 32)]) 2 [] trivial (g_r01_Product_L1_ok N a b N rQ 0 _ h E hE)
noncomputable def C_134 (n : Nat) : Code := cat (bodyOf Try.f88) (pth n)
theorem g_r01_Holds_L1_ok (N : Nat) (l : List TRow) (point : List TRat) (fuel : Nat) : ∀ (i : Int) (r : Bool), g_r01_Holds_L1 N l point fuel i = some r → ∀ E, EnvOk E 0 → Runs Try.prog E 88 26 (SPost E [] (aB r)) [.code (C_134 52), .inLoop (C_134 52), .inBlock 0, .code (C_134 7)] ⟨[(0, (encL TRow.cells TRow.d l)), (1, (encL TRat.cells TRat.d point)), (5, (aI i))], [], 0⟩ := by
  induction fuel with
  | zero => intro _ r h; rw [g_r01_Holds_L1.eq_1] at h; cases h
  | succ fuel ih =>
    intro i r h E hE
    rw [g_r01_Holds_L1.eq_2] at h
    refine Runs.sA 2 [.code (C_134 208), .code (C_134 209), .code (C_134 105), .inLoop (C_134 52), .inBlock 0, .code (C_134 7)] ?_
    refine Runs.sR hE ⟨[(0, (encL TRow.cells TRow.d l)), (1, (encL TRat.cells TRat.d point)), (5, (aI i)), (9, (aB (decide (i < ((l.length : Nat) : Int)))))], [], 64⟩ (C_134 208) [] [] (kp [0, 1, 5, 9]) [] 64 [] trivial ?_
    refine Runs.sC 9 (C_134 418) (C_134 419) (decide (i < ((l.length : Nat) : Int))) (fun hq2 => ?_) (fun hq2 => ?_)
    · have h := condT h hq2
      refine Runs.sA 4 [.code (C_134 840), .code (C_134 841), .inBlock 1, .code (C_134 211), .inLoop (C_134 52), .inBlock 0, .code (C_134 7)] ?_
      obtain ⟨c, h⟩ := ifSome h
      obtain ⟨rProduct, hr, h⟩ := bindSome h
      obtain ⟨rCmpRat, hr2, h⟩ := bindSome h
      refine Runs.sR hE ⟨[(0, (encL TRow.cells TRow.d l)), (1, (encL TRat.cells TRat.d point)), (5, (aI i)), (25, (aB (decide (rCmpRat > 0))))], [], 288⟩ (C_134 840) [(6, ⟨[], true, (.agg (TRat.cells rProduct)), [], 0, false, none⟩), (12, ⟨[], true, (aI rCmpRat), [], 0, false, none⟩)] [] (kp [0, 1, 5, 25]) [] 288 [0 ≤ i ∧ i < ((l.length : Nat) : Int), Sound Try.prog 149 [(encL TRat.cells TRat.d ((l.getD ((i).toNat) TRow.d).f_Coefs)), (encL TRat.cells TRat.d point)] [] 0 (.agg (TRat.cells rProduct)) [], 0 ≤ i ∧ i < ((l.length : Nat) : Int), Sound Try.prog 50 [(.agg (TRat.cells rProduct)), (.agg [(aB ((((l.getD ((i).toNat) TRow.d).f_Bound).f_Num).f_Neg)), (encL (cU .u16) 0 ((((l.getD ((i).toNat) TRow.d).f_Bound).f_Num).f_Limbs)), (aB ((((l.getD ((i).toNat) TRow.d).f_Bound).f_Den).f_Neg)), (encL (cU .u16) 0 ((((l.getD ((i).toNat) TRow.d).f_Bound).f_Den).f_Limbs))])] [] 0 (aI rCmpRat) []] ⟨c, (g_r01_Product_ok N ((l.getD ((i).toNat) TRow.d).f_Coefs) point rProduct hr), c, (g_r01_CmpRat_ok N rProduct (⟨(((l.getD ((i).toNat) TRow.d).f_Bound).f_Num), (((l.getD ((i).toNat) TRow.d).f_Bound).f_Den)⟩ : TRat) rCmpRat hr2), trivial⟩ ?_
      refine Runs.sC 25 (C_134 1682) (C_134 1683) (decide (rCmpRat > 0)) (fun hq3 => ?_) (fun hq3 => ?_)
      · have h := condT h hq3
        refine Runs.sA 1 [.code (C_134 3364), .code (C_134 3365), .inBlock 1, .code (C_134 211), .inLoop (C_134 52), .inBlock 0, .code (C_134 7)] ?_
        refine Runs.sR hE ⟨[(4, (aB false))], [], 304⟩ (C_134 3364) [] [] (kp [4]) [] 304 [] trivial ?_
        obtain rfl := Option.some.inj h
        refine Runs.sW hE ⟨[(4, (aB false))], [], 304⟩ [] (kp [4]) [] 304 [] trivial ?_
        exact Runs.sT Try.f88 [] [] trivial
      · have h := condF h hq3
        refine Runs.sA 2 [.code (C_134 211), .inLoop (C_134 52), .inBlock 0, .code (C_134 7)] ?_
        refine Runs.sR hE ⟨[(0, (encL TRow.cells TRow.d l)), (1, (encL TRat.cells TRat.d point)), (5, (aI (w64 (i + 1))))], [], 336⟩ (C_134 211) [] [] (kp [0, 1, 5]) [] 336 [] trivial ?_
        refine Runs.sA 1 [.code (C_134 52), .inLoop (C_134 52), .inBlock 0, .code (C_134 7)] ?_
        exact Runs.sW hE _ [] (kp [0, 1, 5]) [] 0 [] trivial (ih (w64 (i + 1)) _ h E hE)
    · have h := condF h hq2
      refine Runs.sA 2 [.code (C_134 14), .code (C_134 15)] ?_
      refine Runs.sR hE ⟨[(4, (aB true))], [], 80⟩ (C_134 14) [] [] (kp [4]) [] 80 [] trivial ?_
      obtain rfl := Option.some.inj h
      refine Runs.sW hE ⟨[(4, (aB true))], [], 80⟩ [] (kp [4]) [] 80 [] trivial ?_
      exact Runs.sT Try.f88 [] [] trivial
theorem g_r01_Holds_ok (N : Nat) (l : List TRow) (point : List TRat) (r : Bool) (h : g_r01_Holds N l point = some r) : Sound Try.prog 88 [(encL TRow.cells TRow.d l), (encL TRat.cells TRat.d point)] [] 0 (aB r) [] := by
  unfold g_r01_Holds at h
  refine Sound.of_runs (fu := Try.f88) (c := C_134 1) (nt := 26) (by kernel_rfl) (by kernel_rfl) (by kernel_rfl) (by kernel_rfl) (fun hm => rfl) ?_
  intro E hE
  refine Runs.sA 1 [.code (C_134 2), .code (C_134 3)] ?_
  refine Runs.sR hE ⟨[(0, (encL TRow.cells TRow.d l)), (1, (encL TRat.cells TRat.d point))], [], 16⟩ (C_134 2) [] [] (kp [0, 1]) [] 16 [] trivial ?_
  refine Runs.sA 2 [.code (C_134 12), .code (C_134 13), .code (C_134 7)] ?_
  refine Runs.sR hE ⟨[(0, (encL TRow.cells TRow.d l)), (1, (encL TRat.cells TRat.d point)), (5, (aI 0))], [], 32⟩ (C_134 12) [] [] (kp [0, 1, 5]) [] 32 [] trivial ?_
  refine Runs.sA 2 [.code (C_134 52), .inLoop (C_134 52), .inBlock 0, .code (C_134 7)] ?_
  exact Runs.sW hE _ [] (kp [0, 1, 5]) [] 0 [] trivial (g_r01_Holds_L1_ok N l point N 0 _ h E hE)
noncomputable def C_133 (n : Nat) : Code := cat (bodyOf Try.f81) (pth n)
theorem g_r01_CheckPoint_ok (N : Nat) (l : List TRow) (point : List TRat) (r : Int) (h : g_r01_CheckPoint N l point = some r) : Sound Try.prog 81 [(encL TRow.cells TRow.d l), (encL TRat.cells TRat.d point)] [] 0 (aI r) [] := by
  unfold g_r01_CheckPoint at h
  refine Sound.of_runs (fu := Try.f81) (c := C_133 1) (nt := 17) (by kernel_rfl) (by kernel_rfl) (by kernel_rfl) (by kernel_rfl) (fun hm => rfl) ?_
  intro E hE
  refine Runs.sA 1 [.code (C_133 2), .code (C_133 3)] ?_
  refine Runs.sR hE ⟨[(0, (encL TRow.cells TRow.d l)), (1, (encL TRat.cells TRat.d point))], [], 16⟩ (C_133 2) [] [] (kp [0, 1]) [] 16 [] trivial ?_
  refine Runs.sA 2 [.code (C_133 12), .code (C_133 13), .code (C_133 7)] ?_
  obtain ⟨rCheckRows, hr, h⟩ := bindSome h
  refine Runs.sR hE ⟨[(0, (encL TRow.cells TRow.d l)), (1, (encL TRat.cells TRat.d point)), (5, (aI rCheckRows))], [], 96⟩ (C_133 12) [(3, ⟨[], true, (aI rCheckRows), [], 0, false, none⟩)] [] (kp [0, 1, 5]) [] 96 [Sound Try.prog 79 [(aI ((point.length : Nat) : Int)), (encL TRow.cells TRow.d l)] [] 0 (aI rCheckRows) []] ⟨(g_r01_CheckRows_ok N ((point.length : Nat) : Int) l rCheckRows hr), trivial⟩ ?_
  refine Runs.sA 1 [.code (C_133 26), .code (C_133 27), .code (C_133 7)] ?_
  refine Runs.sR hE ⟨[(0, (encL TRow.cells TRow.d l)), (1, (encL TRat.cells TRat.d point)), (5, (aI rCheckRows)), (11, (aB (rCheckRows != 0)))], [], 128⟩ (C_133 26) [] [] (kp [0, 1, 5, 11]) [] 128 [] trivial ?_
  refine Runs.sC 11 (C_133 54) (C_133 55) (rCheckRows != 0) (fun hq2 => ?_) (fun hq2 => ?_)
  · have h := condT h hq2
    refine Runs.sA 1 [.code (C_133 108), .code (C_133 109), .code (C_133 7)] ?_
    refine Runs.sR hE ⟨[(4, (aI rCheckRows))], [], 160⟩ (C_133 108) [] [] (kp [4]) [] 160 [] trivial ?_
    obtain rfl := Option.some.inj h
    refine Runs.sW hE ⟨[(4, (aI rCheckRows))], [], 160⟩ [] (kp [4]) [] 160 [] trivial ?_
    exact Runs.sT Try.f81 [] [] trivial
  · have h := condF h hq2
    refine Runs.sA 3 [.code (C_133 28), .code (C_133 29), .code (C_133 15)] ?_
    obtain ⟨rHolds, hr2, h⟩ := bindSome h
    refine Runs.sR hE ⟨[(16, (aB (!rHolds)))], [], 192⟩ (C_133 28) [(2, ⟨[], true, (aB rHolds), [], 0, false, none⟩)] [] (kp [16]) [] 192 [Sound Try.prog 88 [(encL TRow.cells TRow.d l), (encL TRat.cells TRat.d point)] [] 0 (aB rHolds) []] ⟨(g_r01_Holds_ok N l point rHolds hr2), trivial⟩ ?_
    refine Runs.sC 16 (C_133 58) (C_133 59) (!rHolds) (fun hq3 => ?_) (fun hq3 => ?_)
    · have h := condT h hq3
      refine Runs.sA 1 [.code (C_133 116), .code (C_133 117), .code (C_133 15)] ?_
      refine Runs.sR hE ⟨[(4, (aI 24))], [], 208⟩ (C_133 116) [] [] (kp [4]) [] 208 [] trivial ?_
      obtain rfl := Option.some.inj h
      refine Runs.sW hE ⟨[(4, (aI 24))], [], 208⟩ [] (kp [4]) [] 208 [] trivial ?_
      exact Runs.sT Try.f81 [] [] trivial
    · have h := condF h hq3
      refine Runs.sA 2 [.code (C_133 30), .code (C_133 31)] ?_
      refine Runs.sR hE ⟨[(4, (aI 0))], [], 208⟩ (C_133 30) [] [] (kp [4]) [] 208 [] trivial ?_
      obtain rfl := Option.some.inj h
      refine Runs.sW hE ⟨[(4, (aI 0))], [], 208⟩ [] (kp [4]) [] 208 [] trivial ?_
      exact Runs.sT Try.f81 [] [] trivial
end Go.Den
