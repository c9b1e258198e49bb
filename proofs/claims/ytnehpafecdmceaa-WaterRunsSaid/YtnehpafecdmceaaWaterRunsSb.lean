/- Each function of the program does what its Lean function computes (part 2). No conditions. -/
import Derived.Test.YtnehpafecdmceaaWaterRunsSa
import Derived.Test.YtnehpafecdmceaaProg
set_option linter.unusedVariables false
set_option maxRecDepth 100000
namespace Go.Den
open Go.Ab Go.Proofs

noncomputable def C_51 (n : Nat) : Code := cat (bodyOf Try.f80) (pth n)

theorem g_water_checkLink_L1_ok (N : Nat) (n : Tapi_Network) (l : Tapi_Link) (fuel : Nat) : ∀ (x : Int) (r : Int), g_water_checkLink_L1 N n l fuel x = some r → ∀ E, EnvOk E 0 → Runs Try.prog E 80 86 (SPost E [] (aI r)) [.code (C_51 116), .inLoop (C_51 116), .inBlock 0, .code (C_51 15)] ⟨[(2, (.op 0 0 0)), (3, (.op 1 0 0)), (19, (.os 2 0 (([l.f_From, l.f_To] : List ByteArray).length))), (20, (aI ((2 : Nat) : Int))), (21, (aI x))], [(0, vO 3 (Tapi_Network.cells n)), (1, vO 8 (Tapi_Link.cells l)), (2, aO 1 cS ByteArray.empty ([l.f_From, l.f_To] : List ByteArray))], 3⟩ := by
  induction fuel with
  | zero => intro _ r h; rw [g_water_checkLink_L1.eq_1] at h; cases h
  | succ fuel ih =>
    intro x r h E hE
    rw [g_water_checkLink_L1.eq_2] at h
    refine Runs.sA 1 [.code (C_51 232), .code (C_51 233), .inLoop (C_51 116), .inBlock 0, .code (C_51 15)] ?_
    refine Runs.sR hE ⟨[(2, (.op 0 0 0)), (3, (.op 1 0 0)), (19, (.os 2 0 (([l.f_From, l.f_To] : List ByteArray).length))), (20, (aI ((2 : Nat) : Int))), (21, (aI x)), (22, (aB (decide (x < ((2 : Nat) : Int)))))], [(0, vO 3 (Tapi_Network.cells n)), (1, vO 8 (Tapi_Link.cells l)), (2, aO 1 cS ByteArray.empty ([l.f_From, l.f_To] : List ByteArray))], 19⟩ (C_51 232) [] [] (kp [2, 3, 19, 20, 21, 22]) (kq [0, 1, 2]) 19 [] trivial ?_
    refine Runs.sA 1 [.code (C_51 466), .code (C_51 467), .inLoop (C_51 116), .inBlock 0, .code (C_51 15)] ?_
    refine Runs.sC 22 (C_51 932) (C_51 933) (decide (x < ((2 : Nat) : Int))) (fun hq3 => ?_) (fun hq3 => ?_)
    · have h := condT h hq3
      refine Runs.sA 4 [.code (C_51 3736), .code (C_51 3737), .inBlock 1, .code (C_51 935), .inLoop (C_51 116), .inBlock 0, .code (C_51 15)] ?_
      obtain ⟨c, h⟩ := ifSome h
      refine Runs.sR hE ⟨[(2, (.op 0 0 0)), (3, (.op 1 0 0)), (6, (aS (([l.f_From, l.f_To] : List ByteArray).getD ((x).toNat) ByteArray.empty))), (19, (.os 2 0 (([l.f_From, l.f_To] : List ByteArray).length))), (20, (aI ((2 : Nat) : Int))), (21, (aI x))], [(0, vO 3 (Tapi_Network.cells n)), (1, vO 8 (Tapi_Link.cells l)), (2, aO 1 cS ByteArray.empty ([l.f_From, l.f_To] : List ByteArray))], 67⟩ (C_51 3736) [] [] (kp [2, 3, 6, 19, 20, 21]) (kq [0, 1, 2]) 67 [0 ≤ x ∧ x < ((([l.f_From, l.f_To] : List ByteArray).length : Nat) : Int), (x).toNat < ([l.f_From, l.f_To] : List ByteArray).length] ⟨c, (ltOf c), trivial⟩ ?_
      refine Runs.sA 1 [.code (C_51 7474), .code (C_51 7475), .inBlock 1, .code (C_51 935), .inLoop (C_51 116), .inBlock 0, .code (C_51 15)] ?_
      obtain ⟨rbasinOf, hr, h⟩ := bindSome h
      refine Runs.sR hE ⟨[(2, (.op 0 0 0)), (3, (.op 1 0 0)), (19, (.os 2 0 (([l.f_From, l.f_To] : List ByteArray).length))), (20, (aI ((2 : Nat) : Int))), (21, (aI x)), (32, (aB (cond (!(streq (([l.f_From, l.f_To] : List ByteArray).getD ((x).toNat) ByteArray.empty) ByteArray.empty)) (decide (rbasinOf < 0)) false)))], [(0, vO 3 (Tapi_Network.cells n)), (1, vO 8 (Tapi_Link.cells l)), (2, aO 1 cS ByteArray.empty ([l.f_From, l.f_To] : List ByteArray))], 195⟩ (C_51 7474) [(5, ⟨[], true, (aI rbasinOf), [], 0, false⟩)] [] (kp [2, 3, 19, 20, 21, 32]) (kq [0, 1, 2]) 195 [(!(streq (([l.f_From, l.f_To] : List ByteArray).getD ((x).toNat) ByteArray.empty) ByteArray.empty)) = true → AllP [0 < 1], (!(streq (([l.f_From, l.f_To] : List ByteArray).getD ((x).toNat) ByteArray.empty) ByteArray.empty)) = true → AllP [Sound Try.prog 94 [(.agg (Tapi_Network.cells n)), (aS (([l.f_From, l.f_To] : List ByteArray).getD ((x).toNat) ByteArray.empty))] [] 0 (aI rbasinOf) [], (!(streq (([l.f_From, l.f_To] : List ByteArray).getD ((x).toNat) ByteArray.empty) ByteArray.empty)) = true, (!(streq (([l.f_From, l.f_To] : List ByteArray).getD ((x).toNat) ByteArray.empty) ByteArray.empty)) = true], (!(streq (([l.f_From, l.f_To] : List ByteArray).getD ((x).toNat) ByteArray.empty) ByteArray.empty)) = true → AllP [(!(streq (([l.f_From, l.f_To] : List ByteArray).getD ((x).toNat) ByteArray.empty) ByteArray.empty)) = true], (!(streq (([l.f_From, l.f_To] : List ByteArray).getD ((x).toNat) ByteArray.empty) ByteArray.empty)) = true → AllP [(!(streq (([l.f_From, l.f_To] : List ByteArray).getD ((x).toNat) ByteArray.empty) ByteArray.empty)) = true]] ⟨(fun hg => ⟨o1, trivial⟩), (fun hg => ⟨(g_water_basinOf_ok N n (([l.f_From, l.f_To] : List ByteArray).getD ((x).toNat) ByteArray.empty) rbasinOf (condT hr hg)), hg, hg, trivial⟩), (fun hg => ⟨hg, trivial⟩), (fun hq => ⟨hq, trivial⟩), trivial⟩ ?_
      refine Runs.sC 32 (C_51 14950) (C_51 14951) (cond (!(streq (([l.f_From, l.f_To] : List ByteArray).getD ((x).toNat) ByteArray.empty) ByteArray.empty)) (decide (rbasinOf < 0)) false) (fun hq4 => ?_) (fun hq4 => ?_)
      · have h := condT h hq4
        refine Runs.sA 1 [.code (C_51 29900), .code (C_51 29901), .inBlock 1, .code (C_51 935), .inLoop (C_51 116), .inBlock 0, .code (C_51 15)] ?_
        refine Runs.sR hE ⟨[(4, (aI 6))], [], 211⟩ (C_51 29900) [] [] (kp [4]) [] 211 [] trivial ?_
        obtain rfl := Option.some.inj h
        refine Runs.sW hE ⟨[(4, (aI 6))], [], 211⟩ [] (kp [4]) [] 211 [] trivial ?_
        exact Runs.sT Try.f80 [] [] trivial
      · have h := condF h hq4
        refine Runs.sA 2 [.code (C_51 935), .inLoop (C_51 116), .inBlock 0, .code (C_51 15)] ?_
        refine Runs.sR hE ⟨[(2, (.op 0 0 0)), (3, (.op 1 0 0)), (19, (.os 2 0 (([l.f_From, l.f_To] : List ByteArray).length))), (20, (aI ((2 : Nat) : Int))), (21, (aI (w64 (x + 1))))], [(0, vO 3 (Tapi_Network.cells n)), (1, vO 8 (Tapi_Link.cells l)), (2, aO 1 cS ByteArray.empty ([l.f_From, l.f_To] : List ByteArray))], 227⟩ (C_51 935) [] [] (kp [2, 3, 19, 20, 21]) (kq [0, 1, 2]) 227 [] trivial ?_
        refine Runs.sA 1 [.code (C_51 116), .inLoop (C_51 116), .inBlock 0, .code (C_51 15)] ?_
        exact Runs.sW hE _ [] (kp [2, 3, 19, 20, 21]) (kq [0, 1, 2]) 3 [] trivial (ih (w64 (x + 1)) _ h E hE)
    · have h := condF h hq3
      refine Runs.sA 4 [.code (C_51 120), .code (C_51 121), .inBlock 2, .code (C_51 31)] ?_
      refine Runs.sR hE ⟨[(2, (.op 0 0 0)), (3, (.op 1 0 0)), (34, (aB (streq l.f_From l.f_To)))], [(0, vO 3 (Tapi_Network.cells n)), (1, vO 8 (Tapi_Link.cells l))], 115⟩ (C_51 120) [] [] (kp [2, 3, 34]) (kq [0, 1]) 115 [0 < 1, 0 < 1] ⟨o1, o1, trivial⟩ ?_
      refine Runs.sC 34 (C_51 242) (C_51 243) (streq l.f_From l.f_To) (fun hq5 => ?_) (fun hq5 => ?_)
      · have h := condT h hq5
        refine Runs.sA 1 [.code (C_51 484), .code (C_51 485), .inBlock 2, .code (C_51 31)] ?_
        refine Runs.sR hE ⟨[(4, (aI 3))], [], 131⟩ (C_51 484) [] [] (kp [4]) [] 131 [] trivial ?_
        obtain rfl := Option.some.inj h
        refine Runs.sW hE ⟨[(4, (aI 3))], [], 131⟩ [] (kp [4]) [] 131 [] trivial ?_
        exact Runs.sT Try.f80 [] [] trivial
      · have h := condF h hq5
        refine Runs.sA 1 [.code (C_51 486), .code (C_51 487), .inBlock 2, .code (C_51 31)] ?_
        refine Runs.sR hE ⟨[(3, (.op 1 0 0)), (40, (aB (cond (cond (streq l.f_From ByteArray.empty) true (streq l.f_To ByteArray.empty)) (((n.f_Sea.length : Nat) : Int) == 0) false)))], [(1, vO 8 (Tapi_Link.cells l))], 355⟩ (C_51 486) [] [] (kp [3, 40]) (kq [1]) 355 [0 < 1, (!(streq l.f_From ByteArray.empty)) = true → AllP [(!(streq l.f_From ByteArray.empty)) = true, 0 < 1], (!(streq l.f_From ByteArray.empty)) = true → AllP [(!(streq l.f_From ByteArray.empty)) = true], (!(streq l.f_From ByteArray.empty)) = true → AllP [(!(streq l.f_From ByteArray.empty)) = true], (cond (streq l.f_From ByteArray.empty) true (streq l.f_To ByteArray.empty)) = true → AllP [(cond (streq l.f_From ByteArray.empty) true (streq l.f_To ByteArray.empty)) = true, 0 < 1], (cond (streq l.f_From ByteArray.empty) true (streq l.f_To ByteArray.empty)) = true → AllP [(cond (streq l.f_From ByteArray.empty) true (streq l.f_To ByteArray.empty)) = true], (cond (streq l.f_From ByteArray.empty) true (streq l.f_To ByteArray.empty)) = true → AllP [(cond (streq l.f_From ByteArray.empty) true (streq l.f_To ByteArray.empty)) = true], (cond (streq l.f_From ByteArray.empty) true (streq l.f_To ByteArray.empty)) = true → AllP [(cond (streq l.f_From ByteArray.empty) true (streq l.f_To ByteArray.empty)) = true]] ⟨o1, (fun hg => ⟨hg, o1, trivial⟩), (fun hg => ⟨hg, trivial⟩), (fun hq => ⟨hq, trivial⟩), (fun hg => ⟨hg, o1, trivial⟩), (fun hg => ⟨hg, trivial⟩), (fun hg => ⟨hg, trivial⟩), (fun hq => ⟨hq, trivial⟩), trivial⟩ ?_
        refine Runs.sC 40 (C_51 974) (C_51 975) (cond (cond (streq l.f_From ByteArray.empty) true (streq l.f_To ByteArray.empty)) (((n.f_Sea.length : Nat) : Int) == 0) false) (fun hq6 => ?_) (fun hq6 => ?_)
        · have h := condT h hq6
          refine Runs.sA 1 [.code (C_51 1948), .code (C_51 1949), .inBlock 2, .code (C_51 31)] ?_
          refine Runs.sR hE ⟨[(4, (aI 29))], [], 371⟩ (C_51 1948) [] [] (kp [4]) [] 371 [] trivial ?_
          obtain rfl := Option.some.inj h
          refine Runs.sW hE ⟨[(4, (aI 29))], [], 371⟩ [] (kp [4]) [] 371 [] trivial ?_
          exact Runs.sT Try.f80 [] [] trivial
        · have h := condF h hq6
          refine Runs.sA 1 [.code (C_51 1950), .code (C_51 1951), .inBlock 2, .code (C_51 31)] ?_
          obtain ⟨rbetween, hr2, h⟩ := bindSome h
          refine Runs.sR hE ⟨[(3, (.op 1 0 0)), (55, (aB (!rbetween)))], [(1, vO 8 (Tapi_Link.cells l))], 435⟩ (C_51 1950) [(2, ⟨[], true, (aB rbetween), [], 0, false⟩)] [] (kp [3, 55]) (kq [1]) 435 [0 < 1, Sound Try.prog 59 [(aI l.f_Rate), (aI 0), (aI 1000000000)] [] 0 (aB rbetween) []] ⟨o1, (g_water_between_ok N l.f_Rate 0 1000000000 rbetween hr2), trivial⟩ ?_
          refine Runs.sC 55 (C_51 3902) (C_51 3903) (!rbetween) (fun hq7 => ?_) (fun hq7 => ?_)
          · have h := condT h hq7
            refine Runs.sA 1 [.code (C_51 7804), .code (C_51 7805), .inBlock 2, .code (C_51 31)] ?_
            refine Runs.sR hE ⟨[(4, (aI 2))], [], 451⟩ (C_51 7804) [] [] (kp [4]) [] 451 [] trivial ?_
            obtain rfl := Option.some.inj h
            refine Runs.sW hE ⟨[(4, (aI 2))], [], 451⟩ [] (kp [4]) [] 451 [] trivial ?_
            exact Runs.sT Try.f80 [] [] trivial
          · have h := condF h hq7
            refine Runs.sA 1 [.code (C_51 7806), .code (C_51 7807), .inBlock 2, .code (C_51 31)] ?_
            obtain ⟨rbetween2, hr3, h⟩ := bindSome h
            obtain ⟨rbetween3, hr4, h⟩ := bindSome h
            refine Runs.sR hE ⟨[(3, (.op 1 0 0)), (60, (aB (cond (l.f_Kind == 0) (cond (!rbetween2) true (!rbetween3)) false)))], [(1, vO 8 (Tapi_Link.cells l))], 691⟩ (C_51 7806) [(6, ⟨[], true, (aB rbetween2), [], 0, false⟩), (11, ⟨[], true, (aB rbetween3), [], 0, false⟩)] [] (kp [3, 60]) (kq [1]) 691 [0 < 1, (l.f_Kind == 0) = true → AllP [(l.f_Kind == 0) = true, 0 < 1], (l.f_Kind == 0) = true → AllP [Sound Try.prog 59 [(aI l.f_Sill), (aI (-1000000)), (aI 1000000)] [] 0 (aB rbetween2) [], (l.f_Kind == 0) = true], (l.f_Kind == 0) = true → AllP [(l.f_Kind == 0) = true], ((l.f_Kind == 0) && ((l.f_Kind == 0) && (!(!rbetween2)))) = true → AllP [((l.f_Kind == 0) && ((l.f_Kind == 0) && (!(!rbetween2)))) = true, 0 < 1], ((l.f_Kind == 0) && ((l.f_Kind == 0) && (!(!rbetween2)))) = true → AllP [Sound Try.prog 59 [(aI l.f_Factor), (aI 0), (aI 1000000000)] [] 0 (aB rbetween3) [], ((l.f_Kind == 0) && ((l.f_Kind == 0) && (!(!rbetween2)))) = true], ((l.f_Kind == 0) && ((l.f_Kind == 0) && (!(!rbetween2)))) = true → AllP [((l.f_Kind == 0) && ((l.f_Kind == 0) && (!(!rbetween2)))) = true], (l.f_Kind == 0) = true → AllP [(l.f_Kind == 0) = true, (l.f_Kind == 0) = true, (!(!rbetween2)) = true → AllP [((l.f_Kind == 0) && ((l.f_Kind == 0) && (!(!rbetween2)))) = true]], (l.f_Kind == 0) = true → AllP [(l.f_Kind == 0) = true]] ⟨o1, (fun hg => ⟨hg, o1, trivial⟩), (fun hg => ⟨(g_water_between_ok N l.f_Sill (-1000000) 1000000 rbetween2 (condT hr3 hg)), hg, trivial⟩), (fun hg => ⟨hg, trivial⟩), (fun hg => ⟨hg, o1, trivial⟩), (fun hg => ⟨(g_water_between_ok N l.f_Factor 0 1000000000 rbetween3 (condT hr4 hg)), hg, trivial⟩), (fun hg => ⟨hg, trivial⟩), (fun hg => ⟨hg, hg, (fun hq => ⟨(andI' hg (andI' hg hq)), trivial⟩), trivial⟩), (fun hq => ⟨hq, trivial⟩), trivial⟩ ?_
            refine Runs.sC 60 (C_51 15614) (C_51 15615) (cond (l.f_Kind == 0) (cond (!rbetween2) true (!rbetween3)) false) (fun hq8 => ?_) (fun hq8 => ?_)
            · have h := condT h hq8
              refine Runs.sA 1 [.code (C_51 31228), .code (C_51 31229), .inBlock 2, .code (C_51 31)] ?_
              refine Runs.sR hE ⟨[(4, (aI 2))], [], 707⟩ (C_51 31228) [] [] (kp [4]) [] 707 [] trivial ?_
              obtain rfl := Option.some.inj h
              refine Runs.sW hE ⟨[(4, (aI 2))], [], 707⟩ [] (kp [4]) [] 707 [] trivial ?_
              exact Runs.sT Try.f80 [] [] trivial
            · have h := condF h hq8
              refine Runs.sA 1 [.code (C_51 31230), .code (C_51 31231), .inBlock 2, .code (C_51 31)] ?_
              obtain ⟨rbetween4, hr5, h⟩ := bindSome h
              refine Runs.sR hE ⟨[(76, (aB (cond (l.f_Kind == 1) (!rbetween4) false)))], [], 851⟩ (C_51 31230) [(6, ⟨[], true, (aB rbetween4), [], 0, false⟩)] [] (kp [76]) [] 851 [0 < 1, (l.f_Kind == 1) = true → AllP [(l.f_Kind == 1) = true, 0 < 1], (l.f_Kind == 1) = true → AllP [Sound Try.prog 59 [(aI l.f_Lift), (aI 0), (aI 1000000)] [] 0 (aB rbetween4) [], (l.f_Kind == 1) = true], (l.f_Kind == 1) = true → AllP [(l.f_Kind == 1) = true], (l.f_Kind == 1) = true → AllP [(l.f_Kind == 1) = true]] ⟨o1, (fun hg => ⟨hg, o1, trivial⟩), (fun hg => ⟨(g_water_between_ok N l.f_Lift 0 1000000 rbetween4 (condT hr5 hg)), hg, trivial⟩), (fun hg => ⟨hg, trivial⟩), (fun hq => ⟨hq, trivial⟩), trivial⟩ ?_
              refine Runs.sC 76 (C_51 62462) (C_51 62463) (cond (l.f_Kind == 1) (!rbetween4) false) (fun hq9 => ?_) (fun hq9 => ?_)
              · have h := condT h hq9
                refine Runs.sA 1 [.code (C_51 124924), .code (C_51 124925), .inBlock 2, .code (C_51 31)] ?_
                refine Runs.sR hE ⟨[(4, (aI 2))], [], 867⟩ (C_51 124924) [] [] (kp [4]) [] 867 [] trivial ?_
                obtain rfl := Option.some.inj h
                refine Runs.sW hE ⟨[(4, (aI 2))], [], 867⟩ [] (kp [4]) [] 867 [] trivial ?_
                exact Runs.sT Try.f80 [] [] trivial
              · have h := condF h hq9
                refine Runs.sA 3 [.code (C_51 62), .code (C_51 63)] ?_
                refine Runs.sR hE ⟨[(4, (aI 0))], [], 867⟩ (C_51 62) [] [] (kp [4]) [] 867 [] trivial ?_
                obtain rfl := Option.some.inj h
                refine Runs.sW hE ⟨[(4, (aI 0))], [], 867⟩ [] (kp [4]) [] 867 [] trivial ?_
                exact Runs.sT Try.f80 [] [] trivial

theorem g_water_checkLink_ok (N : Nat) (n : Tapi_Network) (l : Tapi_Link) (r : Int) (h : g_water_checkLink N n l = some r) : Sound Try.prog 80 [(.agg (Tapi_Network.cells n)), (.agg (Tapi_Link.cells l))] [] 0 (aI r) [] := by
  unfold g_water_checkLink at h
  refine Sound.of_runs (fu := Try.f80) (c := C_51 1) (nt := 86) (by kernel_rfl) (by kernel_rfl) (by kernel_rfl) (by kernel_rfl) (fun hm => rfl) ?_
  intro E hE
  refine Runs.sA 1 [.code (C_51 2), .code (C_51 3)] ?_
  refine Runs.sR hE ⟨[(2, (.op 0 0 0)), (3, (.op 16 0 0))], [(0, vO 3 (Tapi_Network.cells n)), (16, vO 8 (Tapi_Link.cells l))], 48⟩ (C_51 2) [] [] (kp [2, 3]) (kq [0, 16]) 48 [] trivial ?_
  refine Runs.sA 2 [.code (C_51 12), .code (C_51 13), .code (C_51 7)] ?_
  refine Runs.sR hE ⟨[(2, (.op 0 0 0)), (3, (.op 16 0 0)), (14, (aB (cond (l.f_Kind != 0) (l.f_Kind != 1) false)))], [(0, vO 3 (Tapi_Network.cells n)), (16, vO 8 (Tapi_Link.cells l))], 176⟩ (C_51 12) [] [] (kp [2, 3, 14]) (kq [0, 16]) 176 [0 < 1, (l.f_Kind != 0) = true → AllP [(l.f_Kind != 0) = true, 0 < 1], (l.f_Kind != 0) = true → AllP [(l.f_Kind != 0) = true], (l.f_Kind != 0) = true → AllP [(l.f_Kind != 0) = true]] ⟨o1, (fun hg => ⟨hg, o1, trivial⟩), (fun hg => ⟨hg, trivial⟩), (fun hq => ⟨hq, trivial⟩), trivial⟩ ?_
  refine Runs.sC 14 (C_51 26) (C_51 27) (cond (l.f_Kind != 0) (l.f_Kind != 1) false) (fun hq2 => ?_) (fun hq2 => ?_)
  · have h := condT h hq2
    refine Runs.sA 1 [.code (C_51 52), .code (C_51 53), .code (C_51 7)] ?_
    refine Runs.sR hE ⟨[(4, (aI 3))], [], 192⟩ (C_51 52) [] [] (kp [4]) [] 192 [] trivial ?_
    obtain rfl := Option.some.inj h
    refine Runs.sW hE ⟨[(4, (aI 3))], [], 192⟩ [] (kp [4]) [] 192 [] trivial ?_
    exact Runs.sT Try.f80 [] [] trivial
  · have h := condF h hq2
    refine Runs.sA 3 [.code (C_51 28), .code (C_51 29), .code (C_51 15)] ?_
    refine Runs.sR hE ⟨[(2, (.op 0 0 0)), (3, (.op 16 0 0)), (19, (.os 240 0 (([l.f_From, l.f_To] : List ByteArray).length))), (20, (aI ((2 : Nat) : Int))), (21, (aI 0))], [(0, vO 3 (Tapi_Network.cells n)), (16, vO 8 (Tapi_Link.cells l)), (240, aO 1 cS ByteArray.empty ([l.f_From, l.f_To] : List ByteArray))], 288⟩ (C_51 28) [] [] (kp [2, 3] ++ [(19, .osl (([l.f_From, l.f_To] : List ByteArray).length))] ++ kp [20, 21]) (kq [0, 16] ++ [(240, .arr 240 (([l.f_From, l.f_To] : List ByteArray).length) (fun zi => cS (([l.f_From, l.f_To] : List ByteArray).getD zi ByteArray.empty)))]) 288 [0 < 1, 0 < 1, 2 = ([l.f_From, l.f_To] : List ByteArray).length, 2 = ([l.f_From, l.f_To] : List ByteArray).length, ∀ zi, zi < ([l.f_From, l.f_To] : List ByteArray).length → (fun zi => cS (([l.f_From, l.f_To] : List ByteArray).getD zi ByteArray.empty)) zi = (fun zi => ([[(aS l.f_From)], [(aS l.f_To)]] : List (List AV)).getD zi []) zi] ⟨o1, o1, rfl, rfl, (fun zq hzq => get_chunk cS ByteArray.empty ([l.f_From, l.f_To] : List ByteArray) zq hzq), trivial⟩ ?_
    refine Runs.sA 2 [.code (C_51 116), .inLoop (C_51 116), .inBlock 0, .code (C_51 15)] ?_
    exact Runs.sW hE _ [] (kp [2, 3, 19, 20, 21]) (kq [0] ++ [(1, .keep 16), (2, .keep 240)]) 3 [] trivial (g_water_checkLink_L1_ok N n l N 0 _ h E hE)

noncomputable def C_50 (n : Nat) : Code := cat (bodyOf Try.f79) (pth n)

theorem g_water_CheckNetwork_4_ok (N : Nat) (i : Int) (cap0 : Tapi_Network) (r : Int) (h : g_water_CheckNetwork_4 N i cap0 = some r) : Sound Try.prog 79 [(aI i), (.op 0 0 0)] [(0, vO 3 (Tapi_Network.cells cap0))] 1 (aI r) [(0, vO 3 (Tapi_Network.cells cap0))] := by
  unfold g_water_CheckNetwork_4 at h
  refine Sound.of_runs (fu := Try.f79) (c := C_50 1) (nt := 11) (by kernel_rfl) (by kernel_rfl) (by kernel_rfl) (by kernel_rfl) (fun hm => absurd hm (by decide)) ?_
  intro E hE
  refine Runs.sA 1 [.code (C_50 2), .code (C_50 3)] ?_
  refine Runs.sR hE ⟨[(0, (aI i)), (1, (.op 0 0 0))], [(0, vO 3 (Tapi_Network.cells cap0))], 17⟩ (C_50 2) [] [] (kp [0, 1]) (kq [0]) 17 [] trivial ?_
  refine Runs.sA 1 [.code (C_50 6), .code (C_50 7)] ?_
  obtain ⟨c, h⟩ := ifSome h
  obtain ⟨rcheckLink, hr, h⟩ := bindSome h
  refine Runs.sR hE ⟨[(3, (aI rcheckLink))], [(0, vO 3 (Tapi_Network.cells cap0))], 145⟩ (C_50 6) [(6, ⟨[], true, (aI rcheckLink), [], 0, false⟩)] [] (kp [3]) (kq [0]) 145 [0 < 1, 0 < 1, 0 ≤ i ∧ i < ((cap0.f_Links.length : Nat) : Int), Sound Try.prog 80 [(.agg (Tapi_Network.cells cap0)), (.agg (Tapi_Link.cells (cap0.f_Links.getD ((i).toNat) Tapi_Link.d)))] [] 0 (aI rcheckLink) []] ⟨o1, o1, c, (g_water_checkLink_ok N cap0 (cap0.f_Links.getD ((i).toNat) Tapi_Link.d) rcheckLink hr), trivial⟩ ?_
  obtain rfl := Option.some.inj h
  refine Runs.sW hE ⟨[(3, (aI rcheckLink))], [(0, vO 3 (Tapi_Network.cells cap0))], 145⟩ [] (kp [3]) (kq [0]) 145 [] trivial ?_
  exact Runs.sT Try.f79 [] [] trivial

noncomputable def C_48 (n : Nat) : Code := cat (bodyOf Try.f75) (pth n)

theorem g_water_checkNamed_v2_L1_ok (N : Nat) (n : Int) (cap0 : Tapi_Network) (fuel : Nat) : ∀ (names : List (ByteArray × Bool)) (x : Int) (r : Int), g_water_checkNamed_v2_L1 N n cap0 fuel names x = some r → ∀ E, EnvOk E 1 → Runs Try.prog E 75 41 (SPost E [(0, vO 3 (Tapi_Network.cells cap0))] (aI r)) [.code (C_48 244), .inLoop (C_48 244), .inBlock 0, .code (C_48 31)] ⟨[(2, (.fn (.func 78) [] [(.op 0 0 0)])), (3, (.fn (.func 79) [] [(.op 0 0 0)])), (9, (.mp 1)), (17, (aI n)), (18, (aI x))], [(0, vO 3 (Tapi_Network.cells cap0)), (1, ⟨false, 0, 0, true, fun _ => encM aS aB names⟩)], 2⟩ := by
  induction fuel with
  | zero => intro _ _ r h; rw [g_water_checkNamed_v2_L1.eq_1] at h; cases h
  | succ fuel ih =>
    intro names x r h E hE
    rw [g_water_checkNamed_v2_L1.eq_2] at h
    refine Runs.sA 1 [.code (C_48 488), .code (C_48 489), .inLoop (C_48 244), .inBlock 0, .code (C_48 31)] ?_
    refine Runs.sR hE ⟨[(2, (.fn (.func 78) [] [(.op 0 0 0)])), (3, (.fn (.func 79) [] [(.op 0 0 0)])), (9, (.mp 1)), (17, (aI n)), (18, (aI x)), (19, (aB (decide (x < n))))], [(0, vO 3 (Tapi_Network.cells cap0)), (1, ⟨false, 0, 0, true, fun _ => encM aS aB names⟩)], 18⟩ (C_48 488) [] [] (kp [2, 3, 9, 17, 18, 19]) (kq [0, 1]) 18 [] trivial ?_
    refine Runs.sA 1 [.code (C_48 978), .code (C_48 979), .inLoop (C_48 244), .inBlock 0, .code (C_48 31)] ?_
    refine Runs.sC 19 (C_48 1956) (C_48 1957) (decide (x < n)) (fun hq3 => ?_) (fun hq3 => ?_)
    · have h := condT h hq3
      refine Runs.sA 4 [.code (C_48 7832), .code (C_48 7833), .inBlock 1, .code (C_48 1959), .inLoop (C_48 244), .inBlock 0, .code (C_48 31)] ?_
      refine Runs.sR hE ⟨[(2, (.fn (.func 78) [] [(.op 0 0 0)])), (3, (.fn (.func 79) [] [(.op 0 0 0)])), (9, (.mp 1)), (10, (aI x)), (17, (aI n)), (18, (aI x))], [(0, vO 3 (Tapi_Network.cells cap0)), (1, ⟨false, 0, 0, true, fun _ => encM aS aB names⟩)], 50⟩ (C_48 7832) [] [] (kp [2, 3, 9, 10, 17, 18]) (kq [0, 1]) 50 [] trivial ?_
      refine Runs.sA 2 [.code (C_48 31332), .code (C_48 31333), .code (C_48 15667), .inBlock 1, .code (C_48 1959), .inLoop (C_48 244), .inBlock 0, .code (C_48 31)] ?_
      obtain ⟨rCheckNetwork, hr, h⟩ := bindSome h
      refine Runs.sR hE ⟨[(2, (.fn (.func 78) [] [(.op 0 0 0)])), (3, (.fn (.func 79) [] [(.op 0 0 0)])), (9, (.mp 1)), (10, (aI x)), (11, (aS rCheckNetwork)), (17, (aI n)), (18, (aI x))], [(0, vO 3 (Tapi_Network.cells cap0)), (1, ⟨false, 0, 0, true, fun _ => encM aS aB names⟩)], 114⟩ (C_48 31332) [(2, ⟨[0], true, (aS rCheckNetwork), [], 0, false⟩)] [] (kp [2, 3, 9, 10, 11, 17, 18]) (kq [0, 1]) 114 [Sound Try.prog 78 [(aI x), (.op 0 0 0)] [(0, vO 3 (Tapi_Network.cells cap0))] 1 (aS rCheckNetwork) [(0, vO 3 (Tapi_Network.cells cap0))]] ⟨(g_water_CheckNetwork_3_ok N x cap0 rCheckNetwork hr), trivial⟩ ?_
      refine Runs.sA 2 [.code (C_48 125332), .code (C_48 125333), .inBlock 2, .code (C_48 15667), .inBlock 1, .code (C_48 1959), .inLoop (C_48 244), .inBlock 0, .code (C_48 31)] ?_
      obtain ⟨risName, hr2, h⟩ := bindSome h
      refine Runs.sR hE ⟨[(2, (.fn (.func 78) [] [(.op 0 0 0)])), (3, (.fn (.func 79) [] [(.op 0 0 0)])), (9, (.mp 1)), (10, (aI x)), (11, (aS rCheckNetwork)), (17, (aI n)), (18, (aI x)), (26, (aB (!risName)))], [(0, vO 3 (Tapi_Network.cells cap0)), (1, ⟨false, 0, 0, true, fun _ => encM aS aB names⟩)], 178⟩ (C_48 125332) [(1, ⟨[], true, (aB risName), [], 0, false⟩)] [] (kp [2, 3, 9, 10, 11, 17, 18, 26]) (kq [0, 1]) 178 [Sound Try.prog 67 [(aS rCheckNetwork)] [] 0 (aB risName) []] ⟨(g_water_isName_ok N rCheckNetwork risName hr2), trivial⟩ ?_
      refine Runs.sC 26 (C_48 250666) (C_48 250667) (!risName) (fun hq4 => ?_) (fun hq4 => ?_)
      · have h := condT h hq4
        refine Runs.sA 1 [.code (C_48 501332), .code (C_48 501333), .inBlock 2, .code (C_48 15667), .inBlock 1, .code (C_48 1959), .inLoop (C_48 244), .inBlock 0, .code (C_48 31)] ?_
        refine Runs.sR hE ⟨[(8, (aI 4))], [(0, vO 3 (Tapi_Network.cells cap0))], 194⟩ (C_48 501332) [] [] (kp [8]) (kq [0]) 194 [] trivial ?_
        obtain rfl := Option.some.inj h
        refine Runs.sW hE ⟨[(8, (aI 4))], [(0, vO 3 (Tapi_Network.cells cap0))], 194⟩ [] (kp [8]) (kq [0]) 194 [] trivial ?_
        exact Runs.sT Try.f75 [] [] trivial
      · have h := condF h hq4
        refine Runs.sA 1 [.code (C_48 501334), .code (C_48 501335), .inBlock 2, .code (C_48 15667), .inBlock 1, .code (C_48 1959), .inLoop (C_48 244), .inBlock 0, .code (C_48 31)] ?_
        refine Runs.sR hE ⟨[(2, (.fn (.func 78) [] [(.op 0 0 0)])), (3, (.fn (.func 79) [] [(.op 0 0 0)])), (9, (.mp 1)), (10, (aI x)), (11, (aS rCheckNetwork)), (17, (aI n)), (18, (aI x)), (30, (aB ((mGet streq names rCheckNetwork).getD false)))], [(0, vO 3 (Tapi_Network.cells cap0)), (1, ⟨false, 0, 0, true, fun _ => encM aS aB names⟩)], 242⟩ (C_48 501334) [(2, ⟨[], true, (aB ((mGet streq names rCheckNetwork).getD false)), [], 0, false⟩)] [] (kp [2, 3, 9, 10, 11, 17, 18, 30]) (kq [0, 1]) 242 [(Go.Ab.look (encM aS aB names) (aS rCheckNetwork)).map (fun zr => zr.getD (ofConst (.bool false))) = some (aB ((mGet streq names rCheckNetwork).getD false))] ⟨(look_get aS aB (d := false) keyS rfl _ _), trivial⟩ ?_
        refine Runs.sC 30 (C_48 1002670) (C_48 1002671) ((mGet streq names rCheckNetwork).getD false) (fun hq5 => ?_) (fun hq5 => ?_)
        · have h := condT h hq5
          refine Runs.sA 1 [.code (C_48 2005340), .code (C_48 2005341), .inBlock 2, .code (C_48 15667), .inBlock 1, .code (C_48 1959), .inLoop (C_48 244), .inBlock 0, .code (C_48 31)] ?_
          refine Runs.sR hE ⟨[(8, (aI 5))], [(0, vO 3 (Tapi_Network.cells cap0))], 258⟩ (C_48 2005340) [] [] (kp [8]) (kq [0]) 258 [] trivial ?_
          obtain rfl := Option.some.inj h
          refine Runs.sW hE ⟨[(8, (aI 5))], [(0, vO 3 (Tapi_Network.cells cap0))], 258⟩ [] (kp [8]) (kq [0]) 258 [] trivial ?_
          exact Runs.sT Try.f75 [] [] trivial
        · have h := condF h hq5
          refine Runs.sR hE ⟨[(2, (.fn (.func 78) [] [(.op 0 0 0)])), (3, (.fn (.func 79) [] [(.op 0 0 0)])), (9, (.mp 1)), (10, (aI x)), (17, (aI n)), (18, (aI x))], [(0, vO 3 (Tapi_Network.cells cap0)), (1, ⟨false, 0, 0, true, fun _ => encM aS aB (mPut streq names rCheckNetwork true)⟩)], 290⟩ (C_48 1002671) [(2, ⟨[], true, (.tup (encM aS aB (mPut streq names rCheckNetwork true))), [], 0, false⟩)] [] (kp [2, 3, 9, 10, 17, 18]) (kq [0, 1]) 290 [Go.Ab.insA (encM aS aB names) (aS rCheckNetwork) (aB true) = some (encM aS aB (mPut streq names rCheckNetwork true))] ⟨(insA_enc aS aB keyS _ _ _), trivial⟩ ?_
          refine Runs.sA 2 [.code (C_48 31334), .code (C_48 31335), .inBlock 1, .code (C_48 1959), .inLoop (C_48 244), .inBlock 0, .code (C_48 31)] ?_
          obtain ⟨rCheckNetwork2, hr3, h⟩ := bindSome h
          refine Runs.sR hE ⟨[(2, (.fn (.func 78) [] [(.op 0 0 0)])), (3, (.fn (.func 79) [] [(.op 0 0 0)])), (9, (.mp 1)), (12, (aI rCheckNetwork2)), (17, (aI n)), (18, (aI x))], [(0, vO 3 (Tapi_Network.cells cap0)), (1, ⟨false, 0, 0, true, fun _ => encM aS aB (mPut streq names rCheckNetwork true)⟩)], 354⟩ (C_48 31334) [(2, ⟨[0], true, (aI rCheckNetwork2), [], 0, false⟩)] [] (kp [2, 3, 9, 12, 17, 18]) (kq [0, 1]) 354 [Sound Try.prog 79 [(aI x), (.op 0 0 0)] [(0, vO 3 (Tapi_Network.cells cap0))] 1 (aI rCheckNetwork2) [(0, vO 3 (Tapi_Network.cells cap0))]] ⟨(g_water_CheckNetwork_4_ok N x cap0 rCheckNetwork2 hr3), trivial⟩ ?_
          refine Runs.sA 1 [.code (C_48 62670), .code (C_48 62671), .inBlock 1, .code (C_48 1959), .inLoop (C_48 244), .inBlock 0, .code (C_48 31)] ?_
          refine Runs.sR hE ⟨[(2, (.fn (.func 78) [] [(.op 0 0 0)])), (3, (.fn (.func 79) [] [(.op 0 0 0)])), (9, (.mp 1)), (12, (aI rCheckNetwork2)), (17, (aI n)), (18, (aI x)), (38, (aB (rCheckNetwork2 != 0)))], [(0, vO 3 (Tapi_Network.cells cap0)), (1, ⟨false, 0, 0, true, fun _ => encM aS aB (mPut streq names rCheckNetwork true)⟩)], 386⟩ (C_48 62670) [] [] (kp [2, 3, 9, 12, 17, 18, 38]) (kq [0, 1]) 386 [] trivial ?_
          refine Runs.sC 38 (C_48 125342) (C_48 125343) (rCheckNetwork2 != 0) (fun hq6 => ?_) (fun hq6 => ?_)
          · have h := condT h hq6
            refine Runs.sA 1 [.code (C_48 250684), .code (C_48 250685), .inBlock 1, .code (C_48 1959), .inLoop (C_48 244), .inBlock 0, .code (C_48 31)] ?_
            refine Runs.sR hE ⟨[(8, (aI rCheckNetwork2))], [(0, vO 3 (Tapi_Network.cells cap0))], 418⟩ (C_48 250684) [] [] (kp [8]) (kq [0]) 418 [] trivial ?_
            obtain rfl := Option.some.inj h
            refine Runs.sW hE ⟨[(8, (aI rCheckNetwork2))], [(0, vO 3 (Tapi_Network.cells cap0))], 418⟩ [] (kp [8]) (kq [0]) 418 [] trivial ?_
            exact Runs.sT Try.f75 [] [] trivial
          · have h := condF h hq6
            refine Runs.sA 2 [.code (C_48 1959), .inLoop (C_48 244), .inBlock 0, .code (C_48 31)] ?_
            refine Runs.sR hE ⟨[(2, (.fn (.func 78) [] [(.op 0 0 0)])), (3, (.fn (.func 79) [] [(.op 0 0 0)])), (9, (.mp 1)), (17, (aI n)), (18, (aI (w64 (x + 1))))], [(0, vO 3 (Tapi_Network.cells cap0)), (1, ⟨false, 0, 0, true, fun _ => encM aS aB (mPut streq names rCheckNetwork true)⟩)], 418⟩ (C_48 1959) [] [] (kp [2, 3, 9, 17, 18]) (kq [0, 1]) 418 [] trivial ?_
            refine Runs.sA 1 [.code (C_48 244), .inLoop (C_48 244), .inBlock 0, .code (C_48 31)] ?_
            exact Runs.sW hE _ [] (kp [2, 3, 9, 17, 18]) (kq [0, 1]) 2 [] trivial (ih (mPut streq names rCheckNetwork true) (w64 (x + 1)) _ h E hE)
    · have h := condF h hq3
      refine Runs.sA 2 [.code (C_48 62), .code (C_48 63)] ?_
      refine Runs.sR hE ⟨[(8, (aI 0))], [(0, vO 3 (Tapi_Network.cells cap0))], 34⟩ (C_48 62) [] [] (kp [8]) (kq [0]) 34 [] trivial ?_
      obtain rfl := Option.some.inj h
      refine Runs.sW hE ⟨[(8, (aI 0))], [(0, vO 3 (Tapi_Network.cells cap0))], 49⟩ [] (kp [8]) (kq [0]) 49 [] trivial ?_
      exact Runs.sT Try.f75 [] [] trivial

theorem g_water_checkNamed_v2_ok (N : Nat) (n : Int) (most : Int) (cap0 : Tapi_Network) (r : Int) (h : g_water_checkNamed_v2 N n most cap0 = some r) : Sound Try.prog 75 [(aI n), (aI most), (.fn (.func 78) [] [(.op 0 0 0)]), (.fn (.func 79) [] [(.op 0 0 0)])] [(0, vO 3 (Tapi_Network.cells cap0))] 1 (aI r) [(0, vO 3 (Tapi_Network.cells cap0))] := by
  unfold g_water_checkNamed_v2 at h
  refine Sound.of_runs (fu := Try.f75) (c := C_48 1) (nt := 41) (by kernel_rfl) (by kernel_rfl) (by kernel_rfl) (by kernel_rfl) (fun hm => absurd hm (by decide)) ?_
  intro E hE
  refine Runs.sA 1 [.code (C_48 2), .code (C_48 3)] ?_
  refine Runs.sR hE ⟨[(0, (aI n)), (1, (aI most)), (2, (.fn (.func 78) [] [(.op 0 0 0)])), (3, (.fn (.func 79) [] [(.op 0 0 0)]))], [(0, vO 3 (Tapi_Network.cells cap0))], 17⟩ (C_48 2) [] [] (kp [0, 1, 2, 3]) (kq [0]) 17 [] trivial ?_
  refine Runs.sA 2 [.code (C_48 12), .code (C_48 13), .code (C_48 7)] ?_
  refine Runs.sR hE ⟨[(0, (aI n)), (2, (.fn (.func 78) [] [(.op 0 0 0)])), (3, (.fn (.func 79) [] [(.op 0 0 0)])), (15, (aB (decide (n > most))))], [(0, vO 3 (Tapi_Network.cells cap0))], 65⟩ (C_48 12) [] [] (kp [0, 2, 3, 15]) (kq [0]) 65 [] trivial ?_
  refine Runs.sC 15 (C_48 26) (C_48 27) (decide (n > most)) (fun hq2 => ?_) (fun hq2 => ?_)
  · have h := condT h hq2
    refine Runs.sA 1 [.code (C_48 52), .code (C_48 53), .code (C_48 7)] ?_
    refine Runs.sR hE ⟨[(8, (aI 8))], [(0, vO 3 (Tapi_Network.cells cap0))], 81⟩ (C_48 52) [] [] (kp [8]) (kq [0]) 81 [] trivial ?_
    obtain rfl := Option.some.inj h
    refine Runs.sW hE ⟨[(8, (aI 8))], [(0, vO 3 (Tapi_Network.cells cap0))], 81⟩ [] (kp [8]) (kq [0]) 81 [] trivial ?_
    exact Runs.sT Try.f75 [] [] trivial
  · have h := condF h hq2
    refine Runs.sA 2 [.code (C_48 14), .code (C_48 15)] ?_
    refine Runs.sR hE ⟨[(0, (aI n)), (2, (.fn (.func 78) [] [(.op 0 0 0)])), (3, (.fn (.func 79) [] [(.op 0 0 0)])), (9, (.mp 65))], [(0, vO 3 (Tapi_Network.cells cap0)), (65, ⟨false, 0, 0, true, fun _ => encM aS aB ([] : List (ByteArray × Bool))⟩)], 97⟩ (C_48 14) [] [] (kp [0, 2, 3, 9]) (kq [0, 65]) 97 [] trivial ?_
    refine Runs.sA 2 [.code (C_48 60), .code (C_48 61), .code (C_48 31)] ?_
    refine Runs.sR hE ⟨[(2, (.fn (.func 78) [] [(.op 0 0 0)])), (3, (.fn (.func 79) [] [(.op 0 0 0)])), (9, (.mp 65)), (17, (aI n)), (18, (aI 0))], [(0, vO 3 (Tapi_Network.cells cap0)), (65, ⟨false, 0, 0, true, fun _ => encM aS aB ([] : List (ByteArray × Bool))⟩)], 129⟩ (C_48 60) [] [] (kp [2, 3, 9, 17, 18]) (kq [0, 65]) 129 [] trivial ?_
    refine Runs.sA 2 [.code (C_48 244), .inLoop (C_48 244), .inBlock 0, .code (C_48 31)] ?_
    exact Runs.sW hE _ [] (kp [2, 3, 9, 17, 18]) (kq [0] ++ [(1, .keep 65)]) 2 [] trivial (g_water_checkNamed_v2_L1_ok N n cap0 N ([] : List (ByteArray × Bool)) 0 _ h E hE)

noncomputable def C_44 (n : Nat) : Code := cat (bodyOf Try.f29) (pth n)

theorem g_water_CheckNetwork_ok (N : Nat) (n : Tapi_Network) (r : Int) (h : g_water_CheckNetwork N n = some r) : Sound Try.prog 29 [(.agg (Tapi_Network.cells n))] [] 0 (aI r) [] := by
  unfold g_water_CheckNetwork at h
  refine Sound.of_runs (fu := Try.f29) (c := C_44 1) (nt := 26) (by kernel_rfl) (by kernel_rfl) (by kernel_rfl) (by kernel_rfl) (fun hm => rfl) ?_
  intro E hE
  refine Runs.sA 1 [.code (C_44 2), .code (C_44 3)] ?_
  refine Runs.sR hE ⟨[(1, (.op 0 0 0))], [(0, vO 3 (Tapi_Network.cells n))], 32⟩ (C_44 2) [] [] (kp [1]) (kq [0]) 32 [] trivial ?_
  refine Runs.sA 1 [.code (C_44 6), .code (C_44 7)] ?_
  obtain ⟨rcheckNamed, hr, h⟩ := bindSome h
  refine Runs.sR hE ⟨[(1, (.op 0 0 0)), (3, (aI rcheckNamed))], [(0, vO 3 (Tapi_Network.cells n))], 144⟩ (C_44 6) [(5, ⟨[0], true, (aI rcheckNamed), [], 0, false⟩)] [] (kp [1, 3]) (kq [0]) 144 [0 < 1, Sound Try.prog 75 [(aI ((n.f_Basins.length : Nat) : Int)), (aI 8), (.fn (.func 76) [] [(.op 0 0 0)]), (.fn (.func 77) [] [(.op 0 0 0)])] [(0, vO 3 (Tapi_Network.cells n))] 1 (aI rcheckNamed) [(0, vO 3 (Tapi_Network.cells n))]] ⟨o1, (g_water_checkNamed_ok N ((n.f_Basins.length : Nat) : Int) 8 n rcheckNamed hr), trivial⟩ ?_
  refine Runs.sA 2 [.code (C_44 28), .code (C_44 29), .code (C_44 15)] ?_
  refine Runs.sR hE ⟨[(1, (.op 0 0 0)), (3, (aI rcheckNamed)), (12, (aB (rcheckNamed != 0)))], [(0, vO 3 (Tapi_Network.cells n))], 176⟩ (C_44 28) [] [] (kp [1, 3, 12]) (kq [0]) 176 [] trivial ?_
  refine Runs.sC 12 (C_44 58) (C_44 59) (rcheckNamed != 0) (fun hq2 => ?_) (fun hq2 => ?_)
  · have h := condT h hq2
    refine Runs.sA 1 [.code (C_44 116), .code (C_44 117), .code (C_44 15)] ?_
    refine Runs.sR hE ⟨[(2, (aI rcheckNamed))], [], 208⟩ (C_44 116) [] [] (kp [2]) [] 208 [] trivial ?_
    obtain rfl := Option.some.inj h
    refine Runs.sW hE ⟨[(2, (aI rcheckNamed))], [], 208⟩ [] (kp [2]) [] 208 [] trivial ?_
    exact Runs.sT Try.f29 [] [] trivial
  · have h := condF h hq2
    refine Runs.sA 3 [.code (C_44 60), .code (C_44 61), .code (C_44 31)] ?_
    obtain ⟨rCheckSea, hr2, h⟩ := bindSome h
    refine Runs.sR hE ⟨[(1, (.op 0 0 0)), (4, (aI rCheckSea))], [(0, vO 3 (Tapi_Network.cells n))], 240⟩ (C_44 60) [(2, ⟨[], true, (aI rCheckSea), [], 0, false⟩)] [] (kp [1, 4]) (kq [0]) 240 [0 < 1, Sound Try.prog 24 [(encL Tapi_Mark.cells Tapi_Mark.d n.f_Sea)] [] 0 (aI rCheckSea) []] ⟨o1, (g_water_CheckSea_ok N n.f_Sea rCheckSea hr2), trivial⟩ ?_
    refine Runs.sA 1 [.code (C_44 122), .code (C_44 123), .code (C_44 31)] ?_
    refine Runs.sR hE ⟨[(1, (.op 0 0 0)), (4, (aI rCheckSea)), (18, (aB (rCheckSea != 0)))], [(0, vO 3 (Tapi_Network.cells n))], 272⟩ (C_44 122) [] [] (kp [1, 4, 18]) (kq [0]) 272 [] trivial ?_
    refine Runs.sC 18 (C_44 246) (C_44 247) (rCheckSea != 0) (fun hq3 => ?_) (fun hq3 => ?_)
    · have h := condT h hq3
      refine Runs.sA 1 [.code (C_44 492), .code (C_44 493), .code (C_44 31)] ?_
      refine Runs.sR hE ⟨[(2, (aI rCheckSea))], [], 304⟩ (C_44 492) [] [] (kp [2]) [] 304 [] trivial ?_
      obtain rfl := Option.some.inj h
      refine Runs.sW hE ⟨[(2, (aI rCheckSea))], [], 304⟩ [] (kp [2]) [] 304 [] trivial ?_
      exact Runs.sT Try.f29 [] [] trivial
    · have h := condF h hq3
      refine Runs.sA 2 [.code (C_44 62), .code (C_44 63)] ?_
      obtain ⟨rcheckNamed2, hr3, h⟩ := bindSome h
      refine Runs.sR hE ⟨[(2, (aI rcheckNamed2))], [], 384⟩ (C_44 62) [(5, ⟨[0], true, (aI rcheckNamed2), [], 0, false⟩)] [] (kp [2]) [] 384 [0 < 1, Sound Try.prog 75 [(aI ((n.f_Links.length : Nat) : Int)), (aI 12), (.fn (.func 78) [] [(.op 0 0 0)]), (.fn (.func 79) [] [(.op 0 0 0)])] [(0, vO 3 (Tapi_Network.cells n))] 1 (aI rcheckNamed2) [(0, vO 3 (Tapi_Network.cells n))]] ⟨o1, (g_water_checkNamed_v2_ok N ((n.f_Links.length : Nat) : Int) 12 n rcheckNamed2 hr3), trivial⟩ ?_
      obtain rfl := Option.some.inj h
      refine Runs.sW hE ⟨[(2, (aI rcheckNamed2))], [], 384⟩ [] (kp [2]) [] 384 [] trivial ?_
      exact Runs.sT Try.f29 [] [] trivial

noncomputable def C_57 (n : Nat) : Code := cat (bodyOf Try.f33) (pth n)

theorem g_keelblockbase_Ints_L1_ok (N : Nat) (a : List Int) (b : List Int) (fuel : Nat) : ∀ (i : Int) (r : Bool), g_keelblockbase_Ints_L1 N a b fuel i = some r → ∀ E, EnvOk E 0 → Runs Try.prog E 33 26 (SPost E [] (aB r)) [.code (C_57 116), .inLoop (C_57 116), .inBlock 0, .code (C_57 15)] ⟨[(0, (encL cI 0 a)), (1, (encL cI 0 b)), (5, (aI i))], [], 0⟩ := by
  induction fuel with
  | zero => intro _ r h; rw [g_keelblockbase_Ints_L1.eq_1] at h; cases h
  | succ fuel ih =>
    intro i r h E hE
    rw [g_keelblockbase_Ints_L1.eq_2] at h
    refine Runs.sA 2 [.code (C_57 464), .code (C_57 465), .code (C_57 233), .inLoop (C_57 116), .inBlock 0, .code (C_57 15)] ?_
    refine Runs.sR hE ⟨[(0, (encL cI 0 a)), (1, (encL cI 0 b)), (5, (aI i)), (14, (aB (decide (i < ((a.length : Nat) : Int)))))], [], 64⟩ (C_57 464) [] [] (kp [0, 1, 5, 14]) [] 64 [] trivial ?_
    refine Runs.sC 14 (C_57 930) (C_57 931) (decide (i < ((a.length : Nat) : Int))) (fun hq3 => ?_) (fun hq3 => ?_)
    · have h := condT h hq3
      refine Runs.sA 4 [.code (C_57 1864), .code (C_57 1865), .inBlock 1, .code (C_57 467), .inLoop (C_57 116), .inBlock 0, .code (C_57 15)] ?_
      obtain ⟨c, h⟩ := ifSome h
      obtain ⟨c2, h⟩ := ifSome h
      refine Runs.sR hE ⟨[(0, (encL cI 0 a)), (1, (encL cI 0 b)), (5, (aI i)), (25, (aB ((a.getD ((i).toNat) 0) != (b.getD ((i).toNat) 0))))], [], 208⟩ (C_57 1864) [] [] (kp [0, 1, 5, 25]) [] 208 [0 ≤ i ∧ i < ((a.length : Nat) : Int), 0 ≤ i ∧ i < ((b.length : Nat) : Int)] ⟨c, c2, trivial⟩ ?_
      refine Runs.sC 25 (C_57 3730) (C_57 3731) ((a.getD ((i).toNat) 0) != (b.getD ((i).toNat) 0)) (fun hq4 => ?_) (fun hq4 => ?_)
      · have h := condT h hq4
        refine Runs.sA 1 [.code (C_57 7460), .code (C_57 7461), .inBlock 1, .code (C_57 467), .inLoop (C_57 116), .inBlock 0, .code (C_57 15)] ?_
        refine Runs.sR hE ⟨[(4, (aB false))], [], 224⟩ (C_57 7460) [] [] (kp [4]) [] 224 [] trivial ?_
        obtain rfl := Option.some.inj h
        refine Runs.sW hE ⟨[(4, (aB false))], [], 224⟩ [] (kp [4]) [] 224 [] trivial ?_
        exact Runs.sT Try.f33 [] [] trivial
      · have h := condF h hq4
        refine Runs.sA 2 [.code (C_57 467), .inLoop (C_57 116), .inBlock 0, .code (C_57 15)] ?_
        refine Runs.sR hE ⟨[(0, (encL cI 0 a)), (1, (encL cI 0 b)), (5, (aI (w64 (i + 1))))], [], 256⟩ (C_57 467) [] [] (kp [0, 1, 5]) [] 256 [] trivial ?_
        refine Runs.sA 1 [.code (C_57 116), .inLoop (C_57 116), .inBlock 0, .code (C_57 15)] ?_
        exact Runs.sW hE _ [] (kp [0, 1, 5]) [] 0 [] trivial (ih (w64 (i + 1)) _ h E hE)
    · have h := condF h hq3
      refine Runs.sA 2 [.code (C_57 30), .code (C_57 31)] ?_
      refine Runs.sR hE ⟨[(4, (aB true))], [], 80⟩ (C_57 30) [] [] (kp [4]) [] 80 [] trivial ?_
      obtain rfl := Option.some.inj h
      refine Runs.sW hE ⟨[(4, (aB true))], [], 80⟩ [] (kp [4]) [] 80 [] trivial ?_
      exact Runs.sT Try.f33 [] [] trivial

theorem g_keelblockbase_Ints_ok (N : Nat) (a : List Int) (b : List Int) (r : Bool) (h : g_keelblockbase_Ints N a b = some r) : Sound Try.prog 33 [(encL cI 0 a), (encL cI 0 b)] [] 0 (aB r) [] := by
  unfold g_keelblockbase_Ints at h
  refine Sound.of_runs (fu := Try.f33) (c := C_57 1) (nt := 26) (by kernel_rfl) (by kernel_rfl) (by kernel_rfl) (by kernel_rfl) (fun hm => rfl) ?_
  intro E hE
  refine Runs.sA 1 [.code (C_57 2), .code (C_57 3)] ?_
  refine Runs.sR hE ⟨[(0, (encL cI 0 a)), (1, (encL cI 0 b))], [], 16⟩ (C_57 2) [] [] (kp [0, 1]) [] 16 [] trivial ?_
  refine Runs.sA 2 [.code (C_57 12), .code (C_57 13), .code (C_57 7)] ?_
  refine Runs.sR hE ⟨[(0, (encL cI 0 a)), (1, (encL cI 0 b)), (10, (aB (((a.length : Nat) : Int) != ((b.length : Nat) : Int))))], [], 96⟩ (C_57 12) [] [] (kp [0, 1, 10]) [] 96 [] trivial ?_
  refine Runs.sC 10 (C_57 26) (C_57 27) (((a.length : Nat) : Int) != ((b.length : Nat) : Int)) (fun hq2 => ?_) (fun hq2 => ?_)
  · have h := condT h hq2
    refine Runs.sA 1 [.code (C_57 52), .code (C_57 53), .code (C_57 7)] ?_
    refine Runs.sR hE ⟨[(4, (aB false))], [], 112⟩ (C_57 52) [] [] (kp [4]) [] 112 [] trivial ?_
    obtain rfl := Option.some.inj h
    refine Runs.sW hE ⟨[(4, (aB false))], [], 112⟩ [] (kp [4]) [] 112 [] trivial ?_
    exact Runs.sT Try.f33 [] [] trivial
  · have h := condF h hq2
    refine Runs.sA 3 [.code (C_57 28), .code (C_57 29), .code (C_57 15)] ?_
    refine Runs.sR hE ⟨[(0, (encL cI 0 a)), (1, (encL cI 0 b)), (5, (aI 0))], [], 112⟩ (C_57 28) [] [] (kp [0, 1, 5]) [] 112 [] trivial ?_
    refine Runs.sA 2 [.code (C_57 116), .inLoop (C_57 116), .inBlock 0, .code (C_57 15)] ?_
    exact Runs.sW hE _ [] (kp [0, 1, 5]) [] 0 [] trivial (g_keelblockbase_Ints_L1_ok N a b N 0 _ h E hE)

noncomputable def C_56 (n : Nat) : Code := cat (bodyOf Try.f32) (pth n)

theorem g_w05_SameWater_L1_ok (N : Nat) (a : Tapi_Water) (b : Tapi_Water) (fuel : Nat) : ∀ (i : Int) (r : Bool), g_w05_SameWater_L1 N a b fuel i = some r → ∀ E, EnvOk E 0 → Runs Try.prog E 32 46 (SPost E [] (aB r)) [.code (C_56 116), .inLoop (C_56 116), .inBlock 0, .code (C_56 15)] ⟨[(2, (.op 0 0 0)), (3, (.op 1 0 0)), (5, (aI i))], [(0, vO 3 (Tapi_Water.cells a)), (1, vO 3 (Tapi_Water.cells b))], 2⟩ := by
  induction fuel with
  | zero => intro _ r h; rw [g_w05_SameWater_L1.eq_1] at h; cases h
  | succ fuel ih =>
    intro i r h E hE
    rw [g_w05_SameWater_L1.eq_2] at h
    refine Runs.sA 2 [.code (C_56 464), .code (C_56 465), .code (C_56 233), .inLoop (C_56 116), .inBlock 0, .code (C_56 15)] ?_
    refine Runs.sR hE ⟨[(2, (.op 0 0 0)), (3, (.op 1 0 0)), (5, (aI i)), (32, (aB (decide (i < ((a.f_Open.length : Nat) : Int)))))], [(0, vO 3 (Tapi_Water.cells a)), (1, vO 3 (Tapi_Water.cells b))], 82⟩ (C_56 464) [] [] (kp [2, 3, 5, 32]) (kq [0, 1]) 82 [0 < 1] ⟨o1, trivial⟩ ?_
    refine Runs.sC 32 (C_56 930) (C_56 931) (decide (i < ((a.f_Open.length : Nat) : Int))) (fun hq3 => ?_) (fun hq3 => ?_)
    · have h := condT h hq3
      refine Runs.sA 4 [.code (C_56 1864), .code (C_56 1865), .inBlock 1, .code (C_56 467), .inLoop (C_56 116), .inBlock 0, .code (C_56 15)] ?_
      obtain ⟨c, h⟩ := ifSome h
      obtain ⟨c2, h⟩ := ifSome h
      refine Runs.sR hE ⟨[(2, (.op 0 0 0)), (3, (.op 1 0 0)), (5, (aI i)), (45, (aB (!((a.f_Open.getD ((i).toNat) false) == (b.f_Open.getD ((i).toNat) false)))))], [(0, vO 3 (Tapi_Water.cells a)), (1, vO 3 (Tapi_Water.cells b))], 258⟩ (C_56 1864) [] [] (kp [2, 3, 5, 45]) (kq [0, 1]) 258 [0 < 1, 0 ≤ i ∧ i < ((a.f_Open.length : Nat) : Int), 0 < 1, 0 ≤ i ∧ i < ((b.f_Open.length : Nat) : Int)] ⟨o1, c, o1, c2, trivial⟩ ?_
      refine Runs.sC 45 (C_56 3730) (C_56 3731) (!((a.f_Open.getD ((i).toNat) false) == (b.f_Open.getD ((i).toNat) false))) (fun hq4 => ?_) (fun hq4 => ?_)
      · have h := condT h hq4
        refine Runs.sA 1 [.code (C_56 7460), .code (C_56 7461), .inBlock 1, .code (C_56 467), .inLoop (C_56 116), .inBlock 0, .code (C_56 15)] ?_
        refine Runs.sR hE ⟨[(4, (aB false))], [], 274⟩ (C_56 7460) [] [] (kp [4]) [] 274 [] trivial ?_
        obtain rfl := Option.some.inj h
        refine Runs.sW hE ⟨[(4, (aB false))], [], 274⟩ [] (kp [4]) [] 274 [] trivial ?_
        exact Runs.sT Try.f32 [] [] trivial
      · have h := condF h hq4
        refine Runs.sA 2 [.code (C_56 467), .inLoop (C_56 116), .inBlock 0, .code (C_56 15)] ?_
        refine Runs.sR hE ⟨[(2, (.op 0 0 0)), (3, (.op 1 0 0)), (5, (aI (w64 (i + 1))))], [(0, vO 3 (Tapi_Water.cells a)), (1, vO 3 (Tapi_Water.cells b))], 306⟩ (C_56 467) [] [] (kp [2, 3, 5]) (kq [0, 1]) 306 [] trivial ?_
        refine Runs.sA 1 [.code (C_56 116), .inLoop (C_56 116), .inBlock 0, .code (C_56 15)] ?_
        exact Runs.sW hE _ [] (kp [2, 3, 5]) (kq [0, 1]) 2 [] trivial (ih (w64 (i + 1)) _ h E hE)
    · have h := condF h hq3
      refine Runs.sA 2 [.code (C_56 30), .code (C_56 31)] ?_
      refine Runs.sR hE ⟨[(4, (aB true))], [], 98⟩ (C_56 30) [] [] (kp [4]) [] 98 [] trivial ?_
      obtain rfl := Option.some.inj h
      refine Runs.sW hE ⟨[(4, (aB true))], [], 98⟩ [] (kp [4]) [] 98 [] trivial ?_
      exact Runs.sT Try.f32 [] [] trivial

theorem g_w05_SameWater_ok (N : Nat) (a : Tapi_Water) (b : Tapi_Water) (r : Bool) (h : g_w05_SameWater N a b = some r) : Sound Try.prog 32 [(.agg (Tapi_Water.cells a)), (.agg (Tapi_Water.cells b))] [] 0 (aB r) [] := by
  unfold g_w05_SameWater at h
  refine Sound.of_runs (fu := Try.f32) (c := C_56 1) (nt := 46) (by kernel_rfl) (by kernel_rfl) (by kernel_rfl) (by kernel_rfl) (fun hm => rfl) ?_
  intro E hE
  refine Runs.sA 1 [.code (C_56 2), .code (C_56 3)] ?_
  refine Runs.sR hE ⟨[(2, (.op 0 0 0)), (3, (.op 16 0 0))], [(0, vO 3 (Tapi_Water.cells a)), (16, vO 3 (Tapi_Water.cells b))], 48⟩ (C_56 2) [] [] (kp [2, 3]) (kq [0, 16]) 48 [] trivial ?_
  refine Runs.sA 2 [.code (C_56 12), .code (C_56 13), .code (C_56 7)] ?_
  obtain ⟨rInts, hr, h⟩ := bindSome h
  refine Runs.sR hE ⟨[(2, (.op 0 0 0)), (3, (.op 16 0 0)), (27, (aB (cond (cond (a.f_Minute != b.f_Minute) true (!rInts)) true (((a.f_Open.length : Nat) : Int) != ((b.f_Open.length : Nat) : Int)))))], [(0, vO 3 (Tapi_Water.cells a)), (16, vO 3 (Tapi_Water.cells b))], 400⟩ (C_56 12) [(10, ⟨[], true, (aB rInts), [], 0, false⟩)] [] (kp [2, 3, 27]) (kq [0, 16]) 400 [0 < 1, 0 < 1, (!(a.f_Minute != b.f_Minute)) = true → AllP [(!(a.f_Minute != b.f_Minute)) = true, 0 < 1], (!(a.f_Minute != b.f_Minute)) = true → AllP [(!(a.f_Minute != b.f_Minute)) = true, 0 < 1], (!(a.f_Minute != b.f_Minute)) = true → AllP [Sound Try.prog 33 [(encL cI 0 a.f_Litres), (encL cI 0 b.f_Litres)] [] 0 (aB rInts) [], (!(a.f_Minute != b.f_Minute)) = true, (!(a.f_Minute != b.f_Minute)) = true], (!(a.f_Minute != b.f_Minute)) = true → AllP [(!(a.f_Minute != b.f_Minute)) = true], (!(a.f_Minute != b.f_Minute)) = true → AllP [(!(a.f_Minute != b.f_Minute)) = true], (!(cond (a.f_Minute != b.f_Minute) true (!rInts))) = true → AllP [(!(cond (a.f_Minute != b.f_Minute) true (!rInts))) = true, 0 < 1], (!(cond (a.f_Minute != b.f_Minute) true (!rInts))) = true → AllP [(!(cond (a.f_Minute != b.f_Minute) true (!rInts))) = true], (!(cond (a.f_Minute != b.f_Minute) true (!rInts))) = true → AllP [(!(cond (a.f_Minute != b.f_Minute) true (!rInts))) = true, 0 < 1], (!(cond (a.f_Minute != b.f_Minute) true (!rInts))) = true → AllP [(!(cond (a.f_Minute != b.f_Minute) true (!rInts))) = true], (!(cond (a.f_Minute != b.f_Minute) true (!rInts))) = true → AllP [(!(cond (a.f_Minute != b.f_Minute) true (!rInts))) = true, (!(cond (a.f_Minute != b.f_Minute) true (!rInts))) = true], (!(cond (a.f_Minute != b.f_Minute) true (!rInts))) = true → AllP [(!(cond (a.f_Minute != b.f_Minute) true (!rInts))) = true]] ⟨o1, o1, (fun hg => ⟨hg, o1, trivial⟩), (fun hg => ⟨hg, o1, trivial⟩), (fun hg => ⟨(g_keelblockbase_Ints_ok N a.f_Litres b.f_Litres rInts (condT hr hg)), hg, hg, trivial⟩), (fun hg => ⟨hg, trivial⟩), (fun hq => ⟨hq, trivial⟩), (fun hg => ⟨hg, o1, trivial⟩), (fun hg => ⟨hg, trivial⟩), (fun hg => ⟨hg, o1, trivial⟩), (fun hg => ⟨hg, trivial⟩), (fun hg => ⟨hg, hg, trivial⟩), (fun hq => ⟨hq, trivial⟩), trivial⟩ ?_
  refine Runs.sC 27 (C_56 26) (C_56 27) (cond (cond (a.f_Minute != b.f_Minute) true (!rInts)) true (((a.f_Open.length : Nat) : Int) != ((b.f_Open.length : Nat) : Int))) (fun hq2 => ?_) (fun hq2 => ?_)
  · have h := condT h hq2
    refine Runs.sA 1 [.code (C_56 52), .code (C_56 53), .code (C_56 7)] ?_
    refine Runs.sR hE ⟨[(4, (aB false))], [], 416⟩ (C_56 52) [] [] (kp [4]) [] 416 [] trivial ?_
    obtain rfl := Option.some.inj h
    refine Runs.sW hE ⟨[(4, (aB false))], [], 416⟩ [] (kp [4]) [] 416 [] trivial ?_
    exact Runs.sT Try.f32 [] [] trivial
  · have h := condF h hq2
    refine Runs.sA 3 [.code (C_56 28), .code (C_56 29), .code (C_56 15)] ?_
    refine Runs.sR hE ⟨[(2, (.op 0 0 0)), (3, (.op 16 0 0)), (5, (aI 0))], [(0, vO 3 (Tapi_Water.cells a)), (16, vO 3 (Tapi_Water.cells b))], 416⟩ (C_56 28) [] [] (kp [2, 3, 5]) (kq [0, 16]) 416 [] trivial ?_
    refine Runs.sA 2 [.code (C_56 116), .inLoop (C_56 116), .inBlock 0, .code (C_56 15)] ?_
    exact Runs.sW hE _ [] (kp [2, 3, 5]) (kq [0] ++ [(1, .keep 16)]) 2 [] trivial (g_w05_SameWater_L1_ok N a b N 0 _ h E hE)

noncomputable def C_59 (n : Nat) : Code := cat (bodyOf Try.f81) (pth n)

theorem g_water_checkState_L1_ok (N : Nat) (n : Tapi_Network) (w : Tapi_Water) (fuel : Nat) : ∀ (x : Int) (r : Int), g_water_checkState_L1 N n w fuel x = some r → ∀ E, EnvOk E 0 → Runs Try.prog E 81 55 (SPost E [] (aI r)) [.code (C_59 244), .inLoop (C_59 244), .inBlock 1, .code (C_59 31)] ⟨[(3, (.op 0 0 0)), (36, (encL Tapi_Basin.cells Tapi_Basin.d n.f_Basins)), (37, (aI ((n.f_Basins.length : Nat) : Int))), (38, (aI x))], [(0, vO 3 (Tapi_Water.cells w))], 1⟩ := by
  induction fuel with
  | zero => intro _ r h; rw [g_water_checkState_L1.eq_1] at h; cases h
  | succ fuel ih =>
    intro x r h E hE
    rw [g_water_checkState_L1.eq_2] at h
    refine Runs.sA 1 [.code (C_59 488), .code (C_59 489), .inLoop (C_59 244), .inBlock 1, .code (C_59 31)] ?_
    refine Runs.sR hE ⟨[(3, (.op 0 0 0)), (36, (encL Tapi_Basin.cells Tapi_Basin.d n.f_Basins)), (37, (aI ((n.f_Basins.length : Nat) : Int))), (38, (aI x)), (39, (aB (decide (x < ((n.f_Basins.length : Nat) : Int)))))], [(0, vO 3 (Tapi_Water.cells w))], 17⟩ (C_59 488) [] [] (kp [3, 36, 37, 38, 39]) (kq [0]) 17 [] trivial ?_
    refine Runs.sA 1 [.code (C_59 978), .code (C_59 979), .inLoop (C_59 244), .inBlock 1, .code (C_59 31)] ?_
    refine Runs.sC 39 (C_59 1956) (C_59 1957) (decide (x < ((n.f_Basins.length : Nat) : Int))) (fun hq5 => ?_) (fun hq5 => ?_)
    · have h := condT h hq5
      refine Runs.sA 4 [.code (C_59 7832), .code (C_59 7833), .inBlock 2, .code (C_59 1959), .inLoop (C_59 244), .inBlock 1, .code (C_59 31)] ?_
      obtain ⟨c, h⟩ := ifSome h
      refine Runs.sR hE ⟨[(3, (.op 0 0 0)), (6, (aI x)), (7, (.op 65 0 0)), (36, (encL Tapi_Basin.cells Tapi_Basin.d n.f_Basins)), (37, (aI ((n.f_Basins.length : Nat) : Int))), (38, (aI x))], [(0, vO 3 (Tapi_Water.cells w)), (65, vO 3 (Tapi_Basin.cells (n.f_Basins.getD ((x).toNat) Tapi_Basin.d)))], 113⟩ (C_59 7832) [] [] (kp [3, 6, 7, 36, 37, 38]) (kq [0, 65]) 113 [0 ≤ x ∧ x < ((n.f_Basins.length : Nat) : Int), 0 < 1] ⟨c, o1, trivial⟩ ?_
      refine Runs.sA 1 [.code (C_59 15666), .code (C_59 15667), .inBlock 2, .code (C_59 1959), .inLoop (C_59 244), .inBlock 1, .code (C_59 31)] ?_
      obtain ⟨c2, h⟩ := ifSome h
      obtain ⟨rvolume, hr3, h⟩ := bindSome h
      obtain ⟨rbetween2, hr4, h⟩ := bindSome h
      refine Runs.sR hE ⟨[(3, (.op 0 0 0)), (36, (encL Tapi_Basin.cells Tapi_Basin.d n.f_Basins)), (37, (aI ((n.f_Basins.length : Nat) : Int))), (38, (aI x)), (53, (aB (!rbetween2)))], [(0, vO 3 (Tapi_Water.cells w))], 289⟩ (C_59 15666) [(8, ⟨[], true, (aI rvolume), [], 0, false⟩), (9, ⟨[], true, (aB rbetween2), [], 0, false⟩)] [] (kp [3, 36, 37, 38, 53]) (kq [0]) 289 [0 < 1, 0 ≤ x ∧ x < ((w.f_Litres.length : Nat) : Int), 0 < 1, 0 < 1, Sound Try.prog 61 [(.agg (Tapi_Basin.cells (n.f_Basins.getD ((x).toNat) Tapi_Basin.d))), (aI ((n.f_Basins.getD ((x).toNat) Tapi_Basin.d).f_Rim))] [] 0 (aI rvolume) [], Sound Try.prog 59 [(aI (w.f_Litres.getD ((x).toNat) 0)), (aI 0), (aI rvolume)] [] 0 (aB rbetween2) []] ⟨o1, c2, o1, o1, (g_water_volume_ok N (n.f_Basins.getD ((x).toNat) Tapi_Basin.d) ((n.f_Basins.getD ((x).toNat) Tapi_Basin.d).f_Rim) rvolume hr3), (g_water_between_ok N (w.f_Litres.getD ((x).toNat) 0) 0 rvolume rbetween2 hr4), trivial⟩ ?_
      refine Runs.sC 53 (C_59 31334) (C_59 31335) (!rbetween2) (fun hq6 => ?_) (fun hq6 => ?_)
      · have h := condT h hq6
        refine Runs.sA 1 [.code (C_59 62668), .code (C_59 62669), .inBlock 2, .code (C_59 1959), .inLoop (C_59 244), .inBlock 1, .code (C_59 31)] ?_
        refine Runs.sR hE ⟨[(4, (aI 2))], [], 305⟩ (C_59 62668) [] [] (kp [4]) [] 305 [] trivial ?_
        obtain rfl := Option.some.inj h
        refine Runs.sW hE ⟨[(4, (aI 2))], [], 305⟩ [] (kp [4]) [] 305 [] trivial ?_
        exact Runs.sT Try.f81 [] [] trivial
      · have h := condF h hq6
        refine Runs.sA 2 [.code (C_59 1959), .inLoop (C_59 244), .inBlock 1, .code (C_59 31)] ?_
        refine Runs.sR hE ⟨[(3, (.op 0 0 0)), (36, (encL Tapi_Basin.cells Tapi_Basin.d n.f_Basins)), (37, (aI ((n.f_Basins.length : Nat) : Int))), (38, (aI (w64 (x + 1))))], [(0, vO 3 (Tapi_Water.cells w))], 321⟩ (C_59 1959) [] [] (kp [3, 36, 37, 38]) (kq [0]) 321 [] trivial ?_
        refine Runs.sA 1 [.code (C_59 244), .inLoop (C_59 244), .inBlock 1, .code (C_59 31)] ?_
        exact Runs.sW hE _ [] (kp [3, 36, 37, 38]) (kq [0]) 1 [] trivial (ih (w64 (x + 1)) _ h E hE)
    · have h := condF h hq5
      refine Runs.sA 2 [.code (C_59 62), .code (C_59 63)] ?_
      refine Runs.sR hE ⟨[(4, (aI 0))], [], 33⟩ (C_59 62) [] [] (kp [4]) [] 33 [] trivial ?_
      obtain rfl := Option.some.inj h
      refine Runs.sW hE ⟨[(4, (aI 0))], [], 48⟩ [] (kp [4]) [] 48 [] trivial ?_
      exact Runs.sT Try.f81 [] [] trivial

theorem g_water_checkState_ok (N : Nat) (n : Tapi_Network) (w : Tapi_Water) (r : Int) (h : g_water_checkState N n w = some r) : Sound Try.prog 81 [(.agg (Tapi_Network.cells n)), (.agg (Tapi_Water.cells w))] [] 0 (aI r) [] := by
  unfold g_water_checkState at h
  refine Sound.of_runs (fu := Try.f81) (c := C_59 1) (nt := 55) (by kernel_rfl) (by kernel_rfl) (by kernel_rfl) (by kernel_rfl) (fun hm => rfl) ?_
  intro E hE
  refine Runs.sA 1 [.code (C_59 2), .code (C_59 3)] ?_
  refine Runs.sR hE ⟨[(2, (.op 0 0 0)), (3, (.op 16 0 0))], [(0, vO 3 (Tapi_Network.cells n)), (16, vO 3 (Tapi_Water.cells w))], 48⟩ (C_59 2) [] [] (kp [2, 3]) (kq [0, 16]) 48 [] trivial ?_
  refine Runs.sA 2 [.code (C_59 12), .code (C_59 13), .code (C_59 7)] ?_
  obtain ⟨rCheckNetwork, hr, h⟩ := bindSome h
  refine Runs.sR hE ⟨[(2, (.op 0 0 0)), (3, (.op 16 0 0)), (5, (aI rCheckNetwork))], [(0, vO 3 (Tapi_Network.cells n)), (16, vO 3 (Tapi_Water.cells w))], 96⟩ (C_59 12) [(1, ⟨[], true, (aI rCheckNetwork), [], 0, false⟩)] [] (kp [2, 3, 5]) (kq [0, 16]) 96 [0 < 1, Sound Try.prog 29 [(.agg (Tapi_Network.cells n))] [] 0 (aI rCheckNetwork) []] ⟨o1, (g_water_CheckNetwork_ok N n rCheckNetwork hr), trivial⟩ ?_
  refine Runs.sA 1 [.code (C_59 26), .code (C_59 27), .code (C_59 7)] ?_
  refine Runs.sR hE ⟨[(2, (.op 0 0 0)), (3, (.op 16 0 0)), (5, (aI rCheckNetwork)), (11, (aB (rCheckNetwork != 0)))], [(0, vO 3 (Tapi_Network.cells n)), (16, vO 3 (Tapi_Water.cells w))], 128⟩ (C_59 26) [] [] (kp [2, 3, 5, 11]) (kq [0, 16]) 128 [] trivial ?_
  refine Runs.sC 11 (C_59 54) (C_59 55) (rCheckNetwork != 0) (fun hq2 => ?_) (fun hq2 => ?_)
  · have h := condT h hq2
    refine Runs.sA 1 [.code (C_59 108), .code (C_59 109), .code (C_59 7)] ?_
    refine Runs.sR hE ⟨[(4, (aI rCheckNetwork))], [], 160⟩ (C_59 108) [] [] (kp [4]) [] 160 [] trivial ?_
    obtain rfl := Option.some.inj h
    refine Runs.sW hE ⟨[(4, (aI rCheckNetwork))], [], 160⟩ [] (kp [4]) [] 160 [] trivial ?_
    exact Runs.sT Try.f81 [] [] trivial
  · have h := condF h hq2
    refine Runs.sA 4 [.code (C_59 56), .code (C_59 57), .inBlock 0, .code (C_59 15)] ?_
    obtain ⟨rbetween, hr2, h⟩ := bindSome h
    refine Runs.sR hE ⟨[(2, (.op 0 0 0)), (3, (.op 16 0 0)), (13, (aB (!rbetween)))], [(0, vO 3 (Tapi_Network.cells n)), (16, vO 3 (Tapi_Water.cells w))], 208⟩ (C_59 56) [(2, ⟨[], true, (aB rbetween), [], 0, false⟩)] [] (kp [2, 3, 13]) (kq [0, 16]) 208 [0 < 1, Sound Try.prog 59 [(aI w.f_Minute), (aI 0), (aI 1000000)] [] 0 (aB rbetween) []] ⟨o1, (g_water_between_ok N w.f_Minute 0 1000000 rbetween hr2), trivial⟩ ?_
    refine Runs.sC 13 (C_59 114) (C_59 115) (!rbetween) (fun hq3 => ?_) (fun hq3 => ?_)
    · have h := condT h hq3
      refine Runs.sA 1 [.code (C_59 228), .code (C_59 229), .inBlock 0, .code (C_59 15)] ?_
      refine Runs.sR hE ⟨[(4, (aI 2))], [], 224⟩ (C_59 228) [] [] (kp [4]) [] 224 [] trivial ?_
      obtain rfl := Option.some.inj h
      refine Runs.sW hE ⟨[(4, (aI 2))], [], 224⟩ [] (kp [4]) [] 224 [] trivial ?_
      exact Runs.sT Try.f81 [] [] trivial
    · have h := condF h hq3
      refine Runs.sA 1 [.code (C_59 230), .code (C_59 231), .inBlock 0, .code (C_59 15)] ?_
      refine Runs.sR hE ⟨[(2, (.op 0 0 0)), (3, (.op 16 0 0)), (18, (aB (cond (((w.f_Litres.length : Nat) : Int) != ((n.f_Basins.length : Nat) : Int)) true (((w.f_Open.length : Nat) : Int) != ((n.f_Links.length : Nat) : Int)))))], [(0, vO 3 (Tapi_Network.cells n)), (16, vO 3 (Tapi_Water.cells w))], 480⟩ (C_59 230) [] [] (kp [2, 3, 18]) (kq [0, 16]) 480 [0 < 1, 0 < 1, (!(((w.f_Litres.length : Nat) : Int) != ((n.f_Basins.length : Nat) : Int))) = true → AllP [(!(((w.f_Litres.length : Nat) : Int) != ((n.f_Basins.length : Nat) : Int))) = true, 0 < 1], (!(((w.f_Litres.length : Nat) : Int) != ((n.f_Basins.length : Nat) : Int))) = true → AllP [(!(((w.f_Litres.length : Nat) : Int) != ((n.f_Basins.length : Nat) : Int))) = true], (!(((w.f_Litres.length : Nat) : Int) != ((n.f_Basins.length : Nat) : Int))) = true → AllP [(!(((w.f_Litres.length : Nat) : Int) != ((n.f_Basins.length : Nat) : Int))) = true, 0 < 1], (!(((w.f_Litres.length : Nat) : Int) != ((n.f_Basins.length : Nat) : Int))) = true → AllP [(!(((w.f_Litres.length : Nat) : Int) != ((n.f_Basins.length : Nat) : Int))) = true], (!(((w.f_Litres.length : Nat) : Int) != ((n.f_Basins.length : Nat) : Int))) = true → AllP [(!(((w.f_Litres.length : Nat) : Int) != ((n.f_Basins.length : Nat) : Int))) = true, (!(((w.f_Litres.length : Nat) : Int) != ((n.f_Basins.length : Nat) : Int))) = true], (!(((w.f_Litres.length : Nat) : Int) != ((n.f_Basins.length : Nat) : Int))) = true → AllP [(!(((w.f_Litres.length : Nat) : Int) != ((n.f_Basins.length : Nat) : Int))) = true]] ⟨o1, o1, (fun hg => ⟨hg, o1, trivial⟩), (fun hg => ⟨hg, trivial⟩), (fun hg => ⟨hg, o1, trivial⟩), (fun hg => ⟨hg, trivial⟩), (fun hg => ⟨hg, hg, trivial⟩), (fun hq => ⟨hq, trivial⟩), trivial⟩ ?_
      refine Runs.sC 18 (C_59 462) (C_59 463) (cond (((w.f_Litres.length : Nat) : Int) != ((n.f_Basins.length : Nat) : Int)) true (((w.f_Open.length : Nat) : Int) != ((n.f_Links.length : Nat) : Int))) (fun hq4 => ?_) (fun hq4 => ?_)
      · have h := condT h hq4
        refine Runs.sA 1 [.code (C_59 924), .code (C_59 925), .inBlock 0, .code (C_59 15)] ?_
        refine Runs.sR hE ⟨[(4, (aI 11))], [], 496⟩ (C_59 924) [] [] (kp [4]) [] 496 [] trivial ?_
        obtain rfl := Option.some.inj h
        refine Runs.sW hE ⟨[(4, (aI 11))], [], 496⟩ [] (kp [4]) [] 496 [] trivial ?_
        exact Runs.sT Try.f81 [] [] trivial
      · have h := condF h hq4
        refine Runs.sA 4 [.code (C_59 60), .code (C_59 61), .code (C_59 31)] ?_
        refine Runs.sR hE ⟨[(3, (.op 16 0 0)), (36, (encL Tapi_Basin.cells Tapi_Basin.d n.f_Basins)), (37, (aI ((n.f_Basins.length : Nat) : Int))), (38, (aI 0))], [(16, vO 3 (Tapi_Water.cells w))], 544⟩ (C_59 60) [] [] (kp [3, 36, 37, 38]) (kq [16]) 544 [0 < 1] ⟨o1, trivial⟩ ?_
        refine Runs.sA 2 [.code (C_59 244), .inLoop (C_59 244), .inBlock 1, .code (C_59 31)] ?_
        exact Runs.sW hE _ [] (kp [3, 36, 37, 38]) [(0, .keep 16)] 1 [] trivial (g_water_checkState_L1_ok N n w N 0 _ h E hE)

noncomputable def C_61 (n : Nat) : Code := cat (bodyOf Try.f34) (pth n)

theorem g_w05_Case_Short_L1_ok (N : Nat) (c : Tkeelblocklaw05_Case) (fuel : Nat) : ∀ (i : Int) (r : Bool), g_w05_Case_Short_L1 N c fuel i = some r → ∀ E, EnvOk E 0 → Runs Try.prog E 34 49 (SPost E [] (aB r)) [.code (C_61 116), .inLoop (C_61 116), .inBlock 0, .code (C_61 15)] ⟨[(1, (.op 0 0 0)), (3, (aI i))], [(0, vO 7 (Tkeelblocklaw05_Case.cells c))], 1⟩ := by
  induction fuel with
  | zero => intro _ r h; rw [g_w05_Case_Short_L1.eq_1] at h; cases h
  | succ fuel ih =>
    intro i r h E hE
    rw [g_w05_Case_Short_L1.eq_2] at h
    refine Runs.sA 2 [.code (C_61 464), .code (C_61 465), .code (C_61 233), .inLoop (C_61 116), .inBlock 0, .code (C_61 15)] ?_
    refine Runs.sR hE ⟨[(1, (.op 0 0 0)), (3, (aI i)), (38, (aB (decide (i < ((c.f_Turns.length : Nat) : Int)))))], [(0, vO 7 (Tkeelblocklaw05_Case.cells c))], 81⟩ (C_61 464) [] [] (kp [1, 3, 38]) (kq [0]) 81 [0 < 1] ⟨o1, trivial⟩ ?_
    refine Runs.sC 38 (C_61 930) (C_61 931) (decide (i < ((c.f_Turns.length : Nat) : Int))) (fun hq3 => ?_) (fun hq3 => ?_)
    · have h := condT h hq3
      refine Runs.sA 4 [.code (C_61 1864), .code (C_61 1865), .inBlock 1, .code (C_61 467), .inLoop (C_61 116), .inBlock 0, .code (C_61 15)] ?_
      obtain ⟨c2, h⟩ := ifSome h
      refine Runs.sR hE ⟨[(1, (.op 0 0 0)), (3, (aI i)), (48, (aB (decide (((((c.f_Turns.getD ((i).toNat) Tapi_Turn.d).f_Link).size : Nat) : Int) > 40))))], [(0, vO 7 (Tkeelblocklaw05_Case.cells c))], 209⟩ (C_61 1864) [] [] (kp [1, 3, 48]) (kq [0]) 209 [0 < 1, 0 ≤ i ∧ i < ((c.f_Turns.length : Nat) : Int)] ⟨o1, c2, trivial⟩ ?_
      refine Runs.sC 48 (C_61 3730) (C_61 3731) (decide (((((c.f_Turns.getD ((i).toNat) Tapi_Turn.d).f_Link).size : Nat) : Int) > 40)) (fun hq4 => ?_) (fun hq4 => ?_)
      · have h := condT h hq4
        refine Runs.sA 1 [.code (C_61 7460), .code (C_61 7461), .inBlock 1, .code (C_61 467), .inLoop (C_61 116), .inBlock 0, .code (C_61 15)] ?_
        refine Runs.sR hE ⟨[(2, (aB false))], [], 225⟩ (C_61 7460) [] [] (kp [2]) [] 225 [] trivial ?_
        obtain rfl := Option.some.inj h
        refine Runs.sW hE ⟨[(2, (aB false))], [], 225⟩ [] (kp [2]) [] 225 [] trivial ?_
        exact Runs.sT Try.f34 [] [] trivial
      · have h := condF h hq4
        refine Runs.sA 2 [.code (C_61 467), .inLoop (C_61 116), .inBlock 0, .code (C_61 15)] ?_
        refine Runs.sR hE ⟨[(1, (.op 0 0 0)), (3, (aI (w64 (i + 1))))], [(0, vO 7 (Tkeelblocklaw05_Case.cells c))], 257⟩ (C_61 467) [] [] (kp [1, 3]) (kq [0]) 257 [] trivial ?_
        refine Runs.sA 1 [.code (C_61 116), .inLoop (C_61 116), .inBlock 0, .code (C_61 15)] ?_
        exact Runs.sW hE _ [] (kp [1, 3]) (kq [0]) 1 [] trivial (ih (w64 (i + 1)) _ h E hE)
    · have h := condF h hq3
      refine Runs.sA 2 [.code (C_61 30), .code (C_61 31)] ?_
      refine Runs.sR hE ⟨[(2, (aB true))], [], 97⟩ (C_61 30) [] [] (kp [2]) [] 97 [] trivial ?_
      obtain rfl := Option.some.inj h
      refine Runs.sW hE ⟨[(2, (aB true))], [], 97⟩ [] (kp [2]) [] 97 [] trivial ?_
      exact Runs.sT Try.f34 [] [] trivial

theorem g_w05_Case_Short_ok (N : Nat) (c : Tkeelblocklaw05_Case) (r : Bool) (h : g_w05_Case_Short N c = some r) : Sound Try.prog 34 [(.agg (Tkeelblocklaw05_Case.cells c))] [] 0 (aB r) [] := by
  unfold g_w05_Case_Short at h
  refine Sound.of_runs (fu := Try.f34) (c := C_61 1) (nt := 49) (by kernel_rfl) (by kernel_rfl) (by kernel_rfl) (by kernel_rfl) (fun hm => rfl) ?_
  intro E hE
  refine Runs.sA 1 [.code (C_61 2), .code (C_61 3)] ?_
  refine Runs.sR hE ⟨[(1, (.op 0 0 0))], [(0, vO 7 (Tkeelblocklaw05_Case.cells c))], 32⟩ (C_61 2) [] [] (kp [1]) (kq [0]) 32 [] trivial ?_
  refine Runs.sA 2 [.code (C_61 12), .code (C_61 13), .code (C_61 7)] ?_
  obtain ⟨rshort, hr, h⟩ := bindSome h
  refine Runs.sR hE ⟨[(1, (.op 0 0 0)), (33, (aB (cond (cond (cond (!rshort) true (decide (((c.f_W.f_Litres.length : Nat) : Int) > 20))) true (decide (((c.f_W.f_Open.length : Nat) : Int) > 20))) true (cond (decide (((c.f_Turns.length : Nat) : Int) > 30)) (decide (((c.f_Turns.length : Nat) : Int) ≤ 200)) false))))], [(0, vO 7 (Tkeelblocklaw05_Case.cells c))], 512⟩ (C_61 12) [(2, ⟨[], true, (aB rshort), [], 0, false⟩)] [] (kp [1, 33]) (kq [0]) 512 [0 < 1, Sound Try.prog 26 [(.agg (Tapi_Network.cells c.f_N))] [] 0 (aB rshort) [], (!(!rshort)) = true → AllP [(!(!rshort)) = true], (!(!rshort)) = true → AllP [(!(!rshort)) = true, 0 < 1], (!(!rshort)) = true → AllP [(!(!rshort)) = true], (!(!rshort)) = true → AllP [(!(!rshort)) = true], (!(!rshort)) = true → AllP [(!(!rshort)) = true], (!(cond (!rshort) true (decide (((c.f_W.f_Litres.length : Nat) : Int) > 20)))) = true → AllP [(!(cond (!rshort) true (decide (((c.f_W.f_Litres.length : Nat) : Int) > 20)))) = true], (!(cond (!rshort) true (decide (((c.f_W.f_Litres.length : Nat) : Int) > 20)))) = true → AllP [(!(cond (!rshort) true (decide (((c.f_W.f_Litres.length : Nat) : Int) > 20)))) = true, 0 < 1], (!(cond (!rshort) true (decide (((c.f_W.f_Litres.length : Nat) : Int) > 20)))) = true → AllP [(!(cond (!rshort) true (decide (((c.f_W.f_Litres.length : Nat) : Int) > 20)))) = true], (!(cond (!rshort) true (decide (((c.f_W.f_Litres.length : Nat) : Int) > 20)))) = true → AllP [(!(cond (!rshort) true (decide (((c.f_W.f_Litres.length : Nat) : Int) > 20)))) = true], (!(cond (!rshort) true (decide (((c.f_W.f_Litres.length : Nat) : Int) > 20)))) = true → AllP [(!(cond (!rshort) true (decide (((c.f_W.f_Litres.length : Nat) : Int) > 20)))) = true], (!(cond (cond (!rshort) true (decide (((c.f_W.f_Litres.length : Nat) : Int) > 20))) true (decide (((c.f_W.f_Open.length : Nat) : Int) > 20)))) = true → AllP [(!(cond (cond (!rshort) true (decide (((c.f_W.f_Litres.length : Nat) : Int) > 20))) true (decide (((c.f_W.f_Open.length : Nat) : Int) > 20)))) = true, 0 < 1], (!(cond (cond (!rshort) true (decide (((c.f_W.f_Litres.length : Nat) : Int) > 20))) true (decide (((c.f_W.f_Open.length : Nat) : Int) > 20)))) = true → AllP [(!(cond (cond (!rshort) true (decide (((c.f_W.f_Litres.length : Nat) : Int) > 20))) true (decide (((c.f_W.f_Open.length : Nat) : Int) > 20)))) = true], (!(cond (cond (!rshort) true (decide (((c.f_W.f_Litres.length : Nat) : Int) > 20))) true (decide (((c.f_W.f_Open.length : Nat) : Int) > 20)))) = true → AllP [(!(cond (cond (!rshort) true (decide (((c.f_W.f_Litres.length : Nat) : Int) > 20))) true (decide (((c.f_W.f_Open.length : Nat) : Int) > 20)))) = true], ((!(cond (cond (!rshort) true (decide (((c.f_W.f_Litres.length : Nat) : Int) > 20))) true (decide (((c.f_W.f_Open.length : Nat) : Int) > 20)))) && ((!(cond (cond (!rshort) true (decide (((c.f_W.f_Litres.length : Nat) : Int) > 20))) true (decide (((c.f_W.f_Open.length : Nat) : Int) > 20)))) && (decide (((c.f_Turns.length : Nat) : Int) > 30)))) = true → AllP [((!(cond (cond (!rshort) true (decide (((c.f_W.f_Litres.length : Nat) : Int) > 20))) true (decide (((c.f_W.f_Open.length : Nat) : Int) > 20)))) && ((!(cond (cond (!rshort) true (decide (((c.f_W.f_Litres.length : Nat) : Int) > 20))) true (decide (((c.f_W.f_Open.length : Nat) : Int) > 20)))) && (decide (((c.f_Turns.length : Nat) : Int) > 30)))) = true, 0 < 1], ((!(cond (cond (!rshort) true (decide (((c.f_W.f_Litres.length : Nat) : Int) > 20))) true (decide (((c.f_W.f_Open.length : Nat) : Int) > 20)))) && ((!(cond (cond (!rshort) true (decide (((c.f_W.f_Litres.length : Nat) : Int) > 20))) true (decide (((c.f_W.f_Open.length : Nat) : Int) > 20)))) && (decide (((c.f_Turns.length : Nat) : Int) > 30)))) = true → AllP [((!(cond (cond (!rshort) true (decide (((c.f_W.f_Litres.length : Nat) : Int) > 20))) true (decide (((c.f_W.f_Open.length : Nat) : Int) > 20)))) && ((!(cond (cond (!rshort) true (decide (((c.f_W.f_Litres.length : Nat) : Int) > 20))) true (decide (((c.f_W.f_Open.length : Nat) : Int) > 20)))) && (decide (((c.f_Turns.length : Nat) : Int) > 30)))) = true], ((!(cond (cond (!rshort) true (decide (((c.f_W.f_Litres.length : Nat) : Int) > 20))) true (decide (((c.f_W.f_Open.length : Nat) : Int) > 20)))) && ((!(cond (cond (!rshort) true (decide (((c.f_W.f_Litres.length : Nat) : Int) > 20))) true (decide (((c.f_W.f_Open.length : Nat) : Int) > 20)))) && (decide (((c.f_Turns.length : Nat) : Int) > 30)))) = true → AllP [((!(cond (cond (!rshort) true (decide (((c.f_W.f_Litres.length : Nat) : Int) > 20))) true (decide (((c.f_W.f_Open.length : Nat) : Int) > 20)))) && ((!(cond (cond (!rshort) true (decide (((c.f_W.f_Litres.length : Nat) : Int) > 20))) true (decide (((c.f_W.f_Open.length : Nat) : Int) > 20)))) && (decide (((c.f_Turns.length : Nat) : Int) > 30)))) = true], (!(cond (cond (!rshort) true (decide (((c.f_W.f_Litres.length : Nat) : Int) > 20))) true (decide (((c.f_W.f_Open.length : Nat) : Int) > 20)))) = true → AllP [(!(cond (cond (!rshort) true (decide (((c.f_W.f_Litres.length : Nat) : Int) > 20))) true (decide (((c.f_W.f_Open.length : Nat) : Int) > 20)))) = true, (!(cond (cond (!rshort) true (decide (((c.f_W.f_Litres.length : Nat) : Int) > 20))) true (decide (((c.f_W.f_Open.length : Nat) : Int) > 20)))) = true, (decide (((c.f_Turns.length : Nat) : Int) > 30)) = true → AllP [((!(cond (cond (!rshort) true (decide (((c.f_W.f_Litres.length : Nat) : Int) > 20))) true (decide (((c.f_W.f_Open.length : Nat) : Int) > 20)))) && ((!(cond (cond (!rshort) true (decide (((c.f_W.f_Litres.length : Nat) : Int) > 20))) true (decide (((c.f_W.f_Open.length : Nat) : Int) > 20)))) && (decide (((c.f_Turns.length : Nat) : Int) > 30)))) = true]], (!(cond (cond (!rshort) true (decide (((c.f_W.f_Litres.length : Nat) : Int) > 20))) true (decide (((c.f_W.f_Open.length : Nat) : Int) > 20)))) = true → AllP [(!(cond (cond (!rshort) true (decide (((c.f_W.f_Litres.length : Nat) : Int) > 20))) true (decide (((c.f_W.f_Open.length : Nat) : Int) > 20)))) = true]] ⟨o1, (g_w05_short_ok N c.f_N rshort hr), (fun hg => ⟨hg, trivial⟩), (fun hg => ⟨hg, o1, trivial⟩), (fun hg => ⟨hg, trivial⟩), (fun hg => ⟨hg, trivial⟩), (fun hq => ⟨hq, trivial⟩), (fun hg => ⟨hg, trivial⟩), (fun hg => ⟨hg, o1, trivial⟩), (fun hg => ⟨hg, trivial⟩), (fun hg => ⟨hg, trivial⟩), (fun hq => ⟨hq, trivial⟩), (fun hg => ⟨hg, o1, trivial⟩), (fun hg => ⟨hg, trivial⟩), (fun hg => ⟨hg, trivial⟩), (fun hg => ⟨hg, o1, trivial⟩), (fun hg => ⟨hg, trivial⟩), (fun hg => ⟨hg, trivial⟩), (fun hg => ⟨hg, hg, (fun hq => ⟨(andI' hg (andI' hg hq)), trivial⟩), trivial⟩), (fun hq => ⟨hq, trivial⟩), trivial⟩ ?_
  refine Runs.sC 33 (C_61 26) (C_61 27) (cond (cond (cond (!rshort) true (decide (((c.f_W.f_Litres.length : Nat) : Int) > 20))) true (decide (((c.f_W.f_Open.length : Nat) : Int) > 20))) true (cond (decide (((c.f_Turns.length : Nat) : Int) > 30)) (decide (((c.f_Turns.length : Nat) : Int) ≤ 200)) false)) (fun hq2 => ?_) (fun hq2 => ?_)
  · have h := condT h hq2
    refine Runs.sA 1 [.code (C_61 52), .code (C_61 53), .code (C_61 7)] ?_
    refine Runs.sR hE ⟨[(2, (aB false))], [], 528⟩ (C_61 52) [] [] (kp [2]) [] 528 [] trivial ?_
    obtain rfl := Option.some.inj h
    refine Runs.sW hE ⟨[(2, (aB false))], [], 528⟩ [] (kp [2]) [] 528 [] trivial ?_
    exact Runs.sT Try.f34 [] [] trivial
  · have h := condF h hq2
    refine Runs.sA 3 [.code (C_61 28), .code (C_61 29), .code (C_61 15)] ?_
    refine Runs.sR hE ⟨[(1, (.op 0 0 0)), (3, (aI 0))], [(0, vO 7 (Tkeelblocklaw05_Case.cells c))], 528⟩ (C_61 28) [] [] (kp [1, 3]) (kq [0]) 528 [] trivial ?_
    refine Runs.sA 2 [.code (C_61 116), .inLoop (C_61 116), .inBlock 0, .code (C_61 15)] ?_
    exact Runs.sW hE _ [] (kp [1, 3]) (kq [0]) 1 [] trivial (g_w05_Case_Short_L1_ok N c N 0 _ h E hE)

noncomputable def C_65 (n : Nat) : Code := cat (bodyOf Try.f105) (pth n)

theorem g_water_linkOf_1_ok (N : Nat) (l : Tapi_Link) (cap0 : ByteArray) (r : Bool) (h : g_water_linkOf_1 N l cap0 = some r) : Sound Try.prog 105 [(.agg (Tapi_Link.cells l)), (.op 0 0 0)] [(0, vO 1 [(aS cap0)])] 1 (aB r) [(0, vO 1 [(aS cap0)])] := by
  unfold g_water_linkOf_1 at h
  refine Sound.of_runs (fu := Try.f105) (c := C_65 1) (nt := 8) (by kernel_rfl) (by kernel_rfl) (by kernel_rfl) (by kernel_rfl) (fun hm => absurd hm (by decide)) ?_
  intro E hE
  refine Runs.sA 1 [.code (C_65 2), .code (C_65 3)] ?_
  refine Runs.sR hE ⟨[(1, (.op 0 0 0)), (2, (.op 1 0 0))], [(0, vO 1 [(aS cap0)]), (1, vO 8 (Tapi_Link.cells l))], 33⟩ (C_65 2) [] [] (kp [1, 2]) (kq [0, 1]) 33 [] trivial ?_
  refine Runs.sA 1 [.code (C_65 6), .code (C_65 7)] ?_
  refine Runs.sR hE ⟨[(3, (aB (streq l.f_Name cap0)))], [(0, vO 1 [(aS cap0)])], 113⟩ (C_65 6) [] [] (kp [3]) (kq [0]) 113 [0 < 1, 0 < 1] ⟨o1, o1, trivial⟩ ?_
  obtain rfl := Option.some.inj h
  refine Runs.sW hE ⟨[(3, (aB (streq l.f_Name cap0)))], [(0, vO 1 [(aS cap0)])], 113⟩ [] (kp [3]) (kq [0]) 113 [] trivial ?_
  exact Runs.sT Try.f105 [] [] trivial

noncomputable def C_64 (n : Nat) : Code := cat (bodyOf Try.f104) (pth n)

theorem g_slices_IndexFunc_api_Link_api_Link_L1_ok (N : Nat) (s : List Tapi_Link) (cap0 : ByteArray) (fuel : Nat) : ∀ (x : Int) (r : Int), g_slices_IndexFunc_api_Link_api_Link_L1 N s cap0 fuel x = some r → ∀ E, EnvOk E 1 → Runs Try.prog E 104 19 (SPost E [(0, vO 1 [(aS cap0)])] (aI r)) [.code (C_64 52), .inLoop (C_64 52), .inBlock 0, .code (C_64 7)] ⟨[(0, (encL Tapi_Link.cells Tapi_Link.d s)), (1, (.fn (.func 105) [] [(.op 0 0 0)])), (7, (aI ((s.length : Nat) : Int))), (8, (aI x))], [(0, vO 1 [(aS cap0)])], 1⟩ := by
  induction fuel with
  | zero => intro _ r h; rw [g_slices_IndexFunc_api_Link_api_Link_L1.eq_1] at h; cases h
  | succ fuel ih =>
    intro x r h E hE
    rw [g_slices_IndexFunc_api_Link_api_Link_L1.eq_2] at h
    refine Runs.sA 1 [.code (C_64 104), .code (C_64 105), .inLoop (C_64 52), .inBlock 0, .code (C_64 7)] ?_
    refine Runs.sR hE ⟨[(0, (encL Tapi_Link.cells Tapi_Link.d s)), (1, (.fn (.func 105) [] [(.op 0 0 0)])), (7, (aI ((s.length : Nat) : Int))), (8, (aI x)), (9, (aB (decide (x < ((s.length : Nat) : Int)))))], [(0, vO 1 [(aS cap0)])], 17⟩ (C_64 104) [] [] (kp [0, 1, 7, 8, 9]) (kq [0]) 17 [] trivial ?_
    refine Runs.sA 1 [.code (C_64 210), .code (C_64 211), .inLoop (C_64 52), .inBlock 0, .code (C_64 7)] ?_
    refine Runs.sC 9 (C_64 420) (C_64 421) (decide (x < ((s.length : Nat) : Int))) (fun hq2 => ?_) (fun hq2 => ?_)
    · have h := condT h hq2
      refine Runs.sA 4 [.code (C_64 1688), .code (C_64 1689), .inBlock 1, .code (C_64 423), .inLoop (C_64 52), .inBlock 0, .code (C_64 7)] ?_
      refine Runs.sR hE ⟨[(0, (encL Tapi_Link.cells Tapi_Link.d s)), (1, (.fn (.func 105) [] [(.op 0 0 0)])), (5, (aI x)), (7, (aI ((s.length : Nat) : Int))), (8, (aI x))], [(0, vO 1 [(aS cap0)])], 49⟩ (C_64 1688) [] [] (kp [0, 1, 5, 7, 8]) (kq [0]) 49 [] trivial ?_
      refine Runs.sA 1 [.code (C_64 3378), .code (C_64 3379), .inBlock 1, .code (C_64 423), .inLoop (C_64 52), .inBlock 0, .code (C_64 7)] ?_
      obtain ⟨c, h⟩ := ifSome h
      obtain ⟨rlinkOf1, hr, h⟩ := bindSome h
      refine Runs.sR hE ⟨[(0, (encL Tapi_Link.cells Tapi_Link.d s)), (1, (.fn (.func 105) [] [(.op 0 0 0)])), (5, (aI x)), (7, (aI ((s.length : Nat) : Int))), (8, (aI x)), (16, (aB rlinkOf1))], [(0, vO 1 [(aS cap0)])], 145⟩ (C_64 3378) [(5, ⟨[0], true, (aB rlinkOf1), [], 0, false⟩)] [] (kp [0, 1, 5, 7, 8, 16]) (kq [0]) 145 [0 ≤ x ∧ x < ((s.length : Nat) : Int), Sound Try.prog 105 [(.agg (Tapi_Link.cells (s.getD ((x).toNat) Tapi_Link.d))), (.op 0 0 0)] [(0, vO 1 [(aS cap0)])] 1 (aB rlinkOf1) [(0, vO 1 [(aS cap0)])]] ⟨c, (g_water_linkOf_1_ok N (s.getD ((x).toNat) Tapi_Link.d) cap0 rlinkOf1 hr), trivial⟩ ?_
      refine Runs.sC 16 (C_64 6758) (C_64 6759) rlinkOf1 (fun hq3 => ?_) (fun hq3 => ?_)
      · have h := condT h hq3
        refine Runs.sA 1 [.code (C_64 13516), .code (C_64 13517), .inBlock 1, .code (C_64 423), .inLoop (C_64 52), .inBlock 0, .code (C_64 7)] ?_
        refine Runs.sR hE ⟨[(4, (aI x))], [(0, vO 1 [(aS cap0)])], 177⟩ (C_64 13516) [] [] (kp [4]) (kq [0]) 177 [] trivial ?_
        obtain rfl := Option.some.inj h
        refine Runs.sW hE ⟨[(4, (aI x))], [(0, vO 1 [(aS cap0)])], 177⟩ [] (kp [4]) (kq [0]) 177 [] trivial ?_
        exact Runs.sT Try.f104 [] [] trivial
      · have h := condF h hq3
        refine Runs.sA 2 [.code (C_64 423), .inLoop (C_64 52), .inBlock 0, .code (C_64 7)] ?_
        refine Runs.sR hE ⟨[(0, (encL Tapi_Link.cells Tapi_Link.d s)), (1, (.fn (.func 105) [] [(.op 0 0 0)])), (7, (aI ((s.length : Nat) : Int))), (8, (aI (w64 (x + 1))))], [(0, vO 1 [(aS cap0)])], 177⟩ (C_64 423) [] [] (kp [0, 1, 7, 8]) (kq [0]) 177 [] trivial ?_
        refine Runs.sA 1 [.code (C_64 52), .inLoop (C_64 52), .inBlock 0, .code (C_64 7)] ?_
        exact Runs.sW hE _ [] (kp [0, 1, 7, 8]) (kq [0]) 1 [] trivial (ih (w64 (x + 1)) _ h E hE)
    · have h := condF h hq2
      refine Runs.sA 2 [.code (C_64 14), .code (C_64 15)] ?_
      refine Runs.sR hE ⟨[(4, (aI (-1)))], [(0, vO 1 [(aS cap0)])], 33⟩ (C_64 14) [] [] (kp [4]) (kq [0]) 33 [] trivial ?_
      obtain rfl := Option.some.inj h
      refine Runs.sW hE ⟨[(4, (aI (-1)))], [(0, vO 1 [(aS cap0)])], 49⟩ [] (kp [4]) (kq [0]) 49 [] trivial ?_
      exact Runs.sT Try.f104 [] [] trivial

theorem g_slices_IndexFunc_api_Link_api_Link_ok (N : Nat) (s : List Tapi_Link) (cap0 : ByteArray) (r : Int) (h : g_slices_IndexFunc_api_Link_api_Link N s cap0 = some r) : Sound Try.prog 104 [(encL Tapi_Link.cells Tapi_Link.d s), (.fn (.func 105) [] [(.op 0 0 0)])] [(0, vO 1 [(aS cap0)])] 1 (aI r) [(0, vO 1 [(aS cap0)])] := by
  unfold g_slices_IndexFunc_api_Link_api_Link at h
  refine Sound.of_runs (fu := Try.f104) (c := C_64 1) (nt := 19) (by kernel_rfl) (by kernel_rfl) (by kernel_rfl) (by kernel_rfl) (fun hm => absurd hm (by decide)) ?_
  intro E hE
  refine Runs.sA 1 [.code (C_64 2), .code (C_64 3)] ?_
  refine Runs.sR hE ⟨[(0, (encL Tapi_Link.cells Tapi_Link.d s)), (1, (.fn (.func 105) [] [(.op 0 0 0)]))], [(0, vO 1 [(aS cap0)])], 17⟩ (C_64 2) [] [] (kp [0, 1]) (kq [0]) 17 [] trivial ?_
  refine Runs.sA 2 [.code (C_64 12), .code (C_64 13), .code (C_64 7)] ?_
  refine Runs.sR hE ⟨[(0, (encL Tapi_Link.cells Tapi_Link.d s)), (1, (.fn (.func 105) [] [(.op 0 0 0)])), (7, (aI ((s.length : Nat) : Int))), (8, (aI 0))], [(0, vO 1 [(aS cap0)])], 65⟩ (C_64 12) [] [] (kp [0, 1, 7, 8]) (kq [0]) 65 [] trivial ?_
  refine Runs.sA 2 [.code (C_64 52), .inLoop (C_64 52), .inBlock 0, .code (C_64 7)] ?_
  exact Runs.sW hE _ [] (kp [0, 1, 7, 8]) (kq [0]) 1 [] trivial (g_slices_IndexFunc_api_Link_api_Link_L1_ok N s cap0 N 0 _ h E hE)

noncomputable def C_63 (n : Nat) : Code := cat (bodyOf Try.f82) (pth n)

theorem g_water_linkOf_ok (N : Nat) (n : Tapi_Network) (name : ByteArray) (r : Int) (h : g_water_linkOf N n name = some r) : Sound Try.prog 82 [(.agg (Tapi_Network.cells n)), (aS name)] [] 0 (aI r) [] := by
  unfold g_water_linkOf at h
  refine Sound.of_runs (fu := Try.f82) (c := C_63 1) (nt := 9) (by kernel_rfl) (by kernel_rfl) (by kernel_rfl) (by kernel_rfl) (fun hm => rfl) ?_
  intro E hE
  refine Runs.sA 1 [.code (C_63 2), .code (C_63 3)] ?_
  refine Runs.sR hE ⟨[(2, (.op 0 0 0)), (3, (.op 16 0 0))], [(0, vO 3 (Tapi_Network.cells n)), (16, vO 1 [(aS name)])], 48⟩ (C_63 2) [] [] (kp [2, 3]) (kq [0, 16]) 48 [] trivial ?_
  refine Runs.sA 1 [.code (C_63 6), .code (C_63 7)] ?_
  obtain ⟨rLink, hr, h⟩ := bindSome h
  refine Runs.sR hE ⟨[(4, (aI rLink))], [], 128⟩ (C_63 6) [(3, ⟨[16], true, (aI rLink), [], 0, false⟩)] [] (kp [4]) [] 128 [0 < 1, Sound Try.prog 104 [(encL Tapi_Link.cells Tapi_Link.d n.f_Links), (.fn (.func 105) [] [(.op 0 0 0)])] [(0, vO 1 [(aS name)])] 1 (aI rLink) [(0, vO 1 [(aS name)])]] ⟨o1, (g_slices_IndexFunc_api_Link_api_Link_ok N n.f_Links name rLink hr), trivial⟩ ?_
  obtain rfl := Option.some.inj h
  refine Runs.sW hE ⟨[(4, (aI rLink))], [], 128⟩ [] (kp [4]) [] 128 [] trivial ?_
  exact Runs.sT Try.f82 [] [] trivial

noncomputable def C_67 (n : Nat) : Code := cat (bodyOf Try.f106) (pth n)

theorem g_water_sideOf_ok (N : Nat) (n : Tapi_Network) (w : Tapi_Water) (name : ByteArray) (r : Twater_side) (h : g_water_sideOf N n w name = some r) : Sound Try.prog 106 [(.agg (Tapi_Network.cells n)), (.agg (Tapi_Water.cells w)), (aS name)] [] 0 (.agg (Twater_side.cells r)) [] := by
  unfold g_water_sideOf at h
  refine Sound.of_runs (fu := Try.f106) (c := C_67 1) (nt := 29) (by kernel_rfl) (by kernel_rfl) (by kernel_rfl) (by kernel_rfl) (fun hm => rfl) ?_
  intro E hE
  refine Runs.sA 1 [.code (C_67 2), .code (C_67 3)] ?_
  refine Runs.sR hE ⟨[(2, (aS name)), (3, (.op 0 0 0)), (4, (.op 16 0 0)), (6, (.op 32 0 0))], [(0, vO 3 (Tapi_Network.cells n)), (16, vO 3 (Tapi_Water.cells w)), (32, vO 3 [(.atom (.pointer none)), (aI 0), (aI 0)])], 48⟩ (C_67 2) [] [] (kp [2, 3, 4, 6]) (kq [0, 16, 32]) 48 [] trivial ?_
  refine Runs.sA 2 [.code (C_67 12), .code (C_67 13), .code (C_67 7)] ?_
  refine Runs.sR hE ⟨[(2, (aS name)), (3, (.op 0 0 0)), (4, (.op 16 0 0)), (6, (.op 32 0 0)), (9, (aB (streq name ByteArray.empty)))], [(0, vO 3 (Tapi_Network.cells n)), (16, vO 3 (Tapi_Water.cells w)), (32, vO 3 [(.atom (.pointer none)), (aI 0), (aI 0)])], 80⟩ (C_67 12) [] [] (kp [2, 3, 4, 6, 9]) (kq [0, 16, 32]) 80 [] trivial ?_
  refine Runs.sC 9 (C_67 26) (C_67 27) (streq name ByteArray.empty) (fun hq2 => ?_) (fun hq2 => ?_)
  · have h := condT h hq2
    refine Runs.sA 1 [.code (C_67 52), .code (C_67 53), .code (C_67 7)] ?_
    obtain ⟨rtide, hr, h⟩ := bindSome h
    refine Runs.sR hE ⟨[(6, (.op 32 0 0))], [(32, vO 3 [(.atom (.pointer none)), (aI 0), (aI rtide)])], 192⟩ (C_67 52) [(4, ⟨[], true, (aI rtide), [], 0, false⟩)] [] (kp [6]) (kq [32]) 192 [0 < 1, 0 < 1, Sound Try.prog 70 [(encL Tapi_Mark.cells Tapi_Mark.d n.f_Sea), (aI w.f_Minute)] [] 0 (aI rtide) [], 0 < 1] ⟨o1, o1, (g_water_tide_ok N n.f_Sea w.f_Minute rtide hr), o1, trivial⟩ ?_
    obtain rfl := Option.some.inj h
    refine Runs.sW hE ⟨[(6, (.op 16 0 0))], [(16, vO 3 [(.pt (none : Option Tapi_Basin).isSome (Tapi_Basin.cells ((none : Option Tapi_Basin).getD Tapi_Basin.d))), (aI 0), (aI rtide)])], 192⟩ [] (kp [6]) [(16, .var 32 [.pt ((none : Option Tapi_Basin).isSome) (Tapi_Basin.cells ((none : Option Tapi_Basin).getD Tapi_Basin.d)), .keep, .keep])] 192 [(none : Option Tapi_Basin).isSome = false] ⟨rfl, trivial⟩ ?_
    exact Runs.sT Try.f106 [16] [0 < 1] ⟨o1, trivial⟩
  · have h := condF h hq2
    refine Runs.sA 2 [.code (C_67 14), .code (C_67 15)] ?_
    obtain ⟨rbasinOf, hr2, h⟩ := bindSome h
    refine Runs.sR hE ⟨[(3, (.op 0 0 0)), (4, (.op 16 0 0)), (6, (.op 32 0 0)), (7, (aI rbasinOf))], [(0, vO 3 (Tapi_Network.cells n)), (16, vO 3 (Tapi_Water.cells w)), (32, vO 3 [(.atom (.pointer none)), (aI 0), (aI 0)])], 144⟩ (C_67 14) [(2, ⟨[], true, (aI rbasinOf), [], 0, false⟩)] [] (kp [3, 4, 6, 7]) (kq [0, 16, 32]) 144 [0 < 1, Sound Try.prog 94 [(.agg (Tapi_Network.cells n)), (aS name)] [] 0 (aI rbasinOf) []] ⟨o1, (g_water_basinOf_ok N n name rbasinOf hr2), trivial⟩ ?_
    refine Runs.sA 1 [.code (C_67 30), .code (C_67 31)] ?_
    obtain ⟨c, h⟩ := ifSome h
    obtain ⟨c2, h⟩ := ifSome h
    refine Runs.sR hE ⟨[(6, (.op 32 0 0))], [(32, vO 3 [(.pt (some (n.f_Basins.getD ((rbasinOf).toNat) Tapi_Basin.d)).isSome (Tapi_Basin.cells ((some (n.f_Basins.getD ((rbasinOf).toNat) Tapi_Basin.d)).getD Tapi_Basin.d))), (aI (w.f_Litres.getD ((rbasinOf).toNat) 0)), (aI 0)])], 320⟩ (C_67 30) [] [] (kp [6]) [(32, .var 32 [.pt ((some (n.f_Basins.getD ((rbasinOf).toNat) Tapi_Basin.d)).isSome) (Tapi_Basin.cells ((some (n.f_Basins.getD ((rbasinOf).toNat) Tapi_Basin.d)).getD Tapi_Basin.d)), .keep, .keep])] 320 [0 < 1, 0 ≤ rbasinOf ∧ rbasinOf < ((n.f_Basins.length : Nat) : Int), 0 < 1, 0 ≤ rbasinOf ∧ rbasinOf < ((w.f_Litres.length : Nat) : Int), 0 < 1, (some (n.f_Basins.getD ((rbasinOf).toNat) Tapi_Basin.d)).isSome = true, Tapi_Basin.cells ((some (n.f_Basins.getD ((rbasinOf).toNat) Tapi_Basin.d)).getD Tapi_Basin.d) = [(aS ((n.f_Basins.getD ((rbasinOf).toNat) Tapi_Basin.d).f_Name)), (encL Tapi_Area.cells Tapi_Area.d ((n.f_Basins.getD ((rbasinOf).toNat) Tapi_Basin.d).f_Areas)), (aI ((n.f_Basins.getD ((rbasinOf).toNat) Tapi_Basin.d).f_Rim))]] ⟨o1, c, o1, c2, o1, rfl, rfl, trivial⟩ ?_
    obtain rfl := Option.some.inj h
    refine Runs.sW hE ⟨[(6, (.op 16 0 0))], [(16, vO 3 [(.pt (some (n.f_Basins.getD ((rbasinOf).toNat) Tapi_Basin.d)).isSome (Tapi_Basin.cells ((some (n.f_Basins.getD ((rbasinOf).toNat) Tapi_Basin.d)).getD Tapi_Basin.d))), (aI (w.f_Litres.getD ((rbasinOf).toNat) 0)), (aI 0)])], 320⟩ [] (kp [6]) [(16, .keep 32)] 320 [] trivial ?_
    exact Runs.sT Try.f106 [16] [0 < 1] ⟨o1, trivial⟩

noncomputable def C_68 (n : Nat) : Code := cat (bodyOf Try.f107) (pth n)

theorem g_water_side_level_ok (N : Nat) (s : Twater_side) (more : Int) (r : Int) (h : g_water_side_level N s more = some r) : Sound Try.prog 107 [(.agg (Twater_side.cells s)), (aI more)] [] 0 (aI r) [] := by
  unfold g_water_side_level at h
  refine Sound.of_runs (fu := Try.f107) (c := C_68 1) (nt := 19) (by kernel_rfl) (by kernel_rfl) (by kernel_rfl) (by kernel_rfl) (fun hm => rfl) ?_
  intro E hE
  refine Runs.sA 1 [.code (C_68 2), .code (C_68 3)] ?_
  refine Runs.sR hE ⟨[(1, (aI more)), (2, (.op 0 0 0))], [(0, vO 3 (Twater_side.cells s))], 32⟩ (C_68 2) [] [] (kp [1, 2]) (kq [0]) 32 [] trivial ?_
  refine Runs.sA 2 [.code (C_68 12), .code (C_68 13), .code (C_68 7)] ?_
  refine Runs.sR hE ⟨[(1, (aI more)), (2, (.op 0 0 0)), (7, (aB (!s.f_basin.isSome)))], [(0, vO 3 (Twater_side.cells s))], 80⟩ (C_68 12) [] [] (kp [1, 2, 7]) (kq [0]) 80 [0 < 1] ⟨o1, trivial⟩ ?_
  refine Runs.sC 7 (C_68 26) (C_68 27) (!s.f_basin.isSome) (fun hq2 => ?_) (fun hq2 => ?_)
  · have h := condT h hq2
    refine Runs.sA 1 [.code (C_68 52), .code (C_68 53), .code (C_68 7)] ?_
    refine Runs.sR hE ⟨[(4, (aI s.f_sea))], [], 128⟩ (C_68 52) [] [] (kp [4]) [] 128 [0 < 1] ⟨o1, trivial⟩ ?_
    obtain rfl := Option.some.inj h
    refine Runs.sW hE ⟨[(4, (aI s.f_sea))], [], 128⟩ [] (kp [4]) [] 128 [] trivial ?_
    exact Runs.sT Try.f107 [] [] trivial
  · have h := condF h hq2
    refine Runs.sA 2 [.code (C_68 14), .code (C_68 15)] ?_
    obtain ⟨c, h⟩ := ifSome h
    obtain ⟨rlevelOf, hr, h⟩ := bindSome h
    refine Runs.sR hE ⟨[(4, (aI rlevelOf))], [], 240⟩ (C_68 14) [(8, ⟨[], true, (aI rlevelOf), [], 0, false⟩)] [] (kp [4]) [] 240 [0 < 1, s.f_basin.isSome = true, 0 < 1, Sound Try.prog 65 [(.agg (Tapi_Basin.cells (s.f_basin.getD Tapi_Basin.d))), (aI (w64 (s.f_litres + more)))] [] 0 (aI rlevelOf) []] ⟨o1, c, o1, (g_water_levelOf_ok N (s.f_basin.getD Tapi_Basin.d) (w64 (s.f_litres + more)) rlevelOf hr), trivial⟩ ?_
    obtain rfl := Option.some.inj h
    refine Runs.sW hE ⟨[(4, (aI rlevelOf))], [], 240⟩ [] (kp [4]) [] 240 [] trivial ?_
    exact Runs.sT Try.f107 [] [] trivial

noncomputable def C_69 (n : Nat) : Code := cat (bodyOf Try.f108) (pth n)

theorem g_water_side_room_ok (N : Nat) (s : Twater_side) (many : Int) (r : Int) (h : g_water_side_room N s many = some r) : Sound Try.prog 108 [(.agg (Twater_side.cells s)), (aI many)] [] 0 (aI r) [] := by
  unfold g_water_side_room at h
  refine Sound.of_runs (fu := Try.f108) (c := C_69 1) (nt := 22) (by kernel_rfl) (by kernel_rfl) (by kernel_rfl) (by kernel_rfl) (fun hm => rfl) ?_
  intro E hE
  refine Runs.sA 1 [.code (C_69 2), .code (C_69 3)] ?_
  refine Runs.sR hE ⟨[(1, (aI many)), (2, (.op 0 0 0))], [(0, vO 3 (Twater_side.cells s))], 32⟩ (C_69 2) [] [] (kp [1, 2]) (kq [0]) 32 [] trivial ?_
  refine Runs.sA 2 [.code (C_69 12), .code (C_69 13), .code (C_69 7)] ?_
  refine Runs.sR hE ⟨[(1, (aI many)), (2, (.op 0 0 0)), (7, (aB (!s.f_basin.isSome)))], [(0, vO 3 (Twater_side.cells s))], 80⟩ (C_69 12) [] [] (kp [1, 2, 7]) (kq [0]) 80 [0 < 1] ⟨o1, trivial⟩ ?_
  refine Runs.sC 7 (C_69 26) (C_69 27) (!s.f_basin.isSome) (fun hq2 => ?_) (fun hq2 => ?_)
  · have h := condT h hq2
    refine Runs.sA 1 [.code (C_69 52), .code (C_69 53), .code (C_69 7)] ?_
    refine Runs.sR hE ⟨[(4, (aI many))], [], 112⟩ (C_69 52) [] [] (kp [4]) [] 112 [] trivial ?_
    obtain rfl := Option.some.inj h
    refine Runs.sW hE ⟨[(4, (aI many))], [], 112⟩ [] (kp [4]) [] 112 [] trivial ?_
    exact Runs.sT Try.f108 [] [] trivial
  · have h := condF h hq2
    refine Runs.sA 2 [.code (C_69 14), .code (C_69 15)] ?_
    obtain ⟨c, h⟩ := ifSome h
    obtain ⟨rvolume, hr, h⟩ := bindSome h
    refine Runs.sR hE ⟨[(4, (aI (w64 (rvolume - s.f_litres))))], [], 304⟩ (C_69 14) [(9, ⟨[], true, (aI rvolume), [], 0, false⟩)] [] (kp [4]) [] 304 [0 < 1, s.f_basin.isSome = true, 0 < 1, s.f_basin.isSome = true, Sound Try.prog 61 [(.agg (Tapi_Basin.cells (s.f_basin.getD Tapi_Basin.d))), (aI ((s.f_basin.getD Tapi_Basin.d).f_Rim))] [] 0 (aI rvolume) [], 0 < 1] ⟨o1, c, o1, c, (g_water_volume_ok N (s.f_basin.getD Tapi_Basin.d) ((s.f_basin.getD Tapi_Basin.d).f_Rim) rvolume hr), o1, trivial⟩ ?_
    obtain rfl := Option.some.inj h
    refine Runs.sW hE ⟨[(4, (aI (w64 (rvolume - s.f_litres))))], [], 304⟩ [] (kp [4]) [] 304 [] trivial ?_
    exact Runs.sT Try.f108 [] [] trivial

noncomputable def C_71 (n : Nat) : Code := cat (bodyOf Try.f117) (pth n)

theorem g_water_side_spare_ok (N : Nat) (s : Twater_side) (sill : Int) (many : Int) (r : Int) (h : g_water_side_spare N s sill many = some r) : Sound Try.prog 117 [(.agg (Twater_side.cells s)), (aI sill), (aI many)] [] 0 (aI r) [] := by
  unfold g_water_side_spare at h
  refine Sound.of_runs (fu := Try.f117) (c := C_71 1) (nt := 21) (by kernel_rfl) (by kernel_rfl) (by kernel_rfl) (by kernel_rfl) (fun hm => rfl) ?_
  intro E hE
  refine Runs.sA 1 [.code (C_71 2), .code (C_71 3)] ?_
  refine Runs.sR hE ⟨[(1, (aI sill)), (2, (aI many)), (3, (.op 0 0 0))], [(0, vO 3 (Twater_side.cells s))], 32⟩ (C_71 2) [] [] (kp [1, 2, 3]) (kq [0]) 32 [] trivial ?_
  refine Runs.sA 2 [.code (C_71 12), .code (C_71 13), .code (C_71 7)] ?_
  refine Runs.sR hE ⟨[(1, (aI sill)), (2, (aI many)), (3, (.op 0 0 0)), (9, (aB (!s.f_basin.isSome)))], [(0, vO 3 (Twater_side.cells s))], 80⟩ (C_71 12) [] [] (kp [1, 2, 3, 9]) (kq [0]) 80 [0 < 1] ⟨o1, trivial⟩ ?_
  refine Runs.sC 9 (C_71 26) (C_71 27) (!s.f_basin.isSome) (fun hq2 => ?_) (fun hq2 => ?_)
  · have h := condT h hq2
    refine Runs.sA 1 [.code (C_71 52), .code (C_71 53), .code (C_71 7)] ?_
    refine Runs.sR hE ⟨[(6, (aI many))], [], 112⟩ (C_71 52) [] [] (kp [6]) [] 112 [] trivial ?_
    obtain rfl := Option.some.inj h
    refine Runs.sW hE ⟨[(6, (aI many))], [], 112⟩ [] (kp [6]) [] 112 [] trivial ?_
    exact Runs.sT Try.f117 [] [] trivial
  · have h := condF h hq2
    refine Runs.sA 2 [.code (C_71 14), .code (C_71 15)] ?_
    obtain ⟨c, h⟩ := ifSome h
    obtain ⟨rvolume, hr, h⟩ := bindSome h
    refine Runs.sR hE ⟨[(6, (aI (if (w64 (s.f_litres - rvolume)) > 0 then (w64 (s.f_litres - rvolume)) else 0)))], [], 256⟩ (C_71 14) [(7, ⟨[], true, (aI rvolume), [], 0, false⟩)] [] (kp [6]) [] 256 [0 < 1, 0 < 1, s.f_basin.isSome = true, Sound Try.prog 61 [(.agg (Tapi_Basin.cells (s.f_basin.getD Tapi_Basin.d))), (aI sill)] [] 0 (aI rvolume) []] ⟨o1, o1, c, (g_water_volume_ok N (s.f_basin.getD Tapi_Basin.d) sill rvolume hr), trivial⟩ ?_
    obtain rfl := Option.some.inj h
    refine Runs.sW hE ⟨[(6, (aI (if (w64 (s.f_litres - rvolume)) > 0 then (w64 (s.f_litres - rvolume)) else 0)))], [], 256⟩ [] (kp [6]) [] 256 [] trivial ?_
    exact Runs.sT Try.f117 [] [] trivial

noncomputable def C_73 (n : Nat) : Code := cat (bodyOf Try.f118) (pth n)

theorem g_water_gate_1_ok (N : Nat) (q : Int) (cap0 : Twater_side) (cap1 : Twater_side) (r : Bool) (h : g_water_gate_1 N q cap0 cap1 = some r) : Sound Try.prog 118 [(aI q), (.op 0 0 0), (.op 1 0 0)] [(0, vO 3 (Twater_side.cells cap0)), (1, vO 3 (Twater_side.cells cap1))] 2 (aB r) [(0, vO 3 (Twater_side.cells cap0)), (1, vO 3 (Twater_side.cells cap1))] := by
  unfold g_water_gate_1 at h
  refine Sound.of_runs (fu := Try.f118) (c := C_73 1) (nt := 15) (by kernel_rfl) (by kernel_rfl) (by kernel_rfl) (by kernel_rfl) (fun hm => absurd hm (by decide)) ?_
  intro E hE
  refine Runs.sA 1 [.code (C_73 2), .code (C_73 3)] ?_
  refine Runs.sR hE ⟨[(0, (aI q)), (1, (.op 0 0 0)), (2, (.op 1 0 0))], [(0, vO 3 (Twater_side.cells cap0)), (1, vO 3 (Twater_side.cells cap1))], 18⟩ (C_73 2) [] [] (kp [0, 1, 2]) (kq [0, 1]) 18 [] trivial ?_
  refine Runs.sA 1 [.code (C_73 6), .code (C_73 7)] ?_
  obtain ⟨rlevel, hr, h⟩ := bindSome h
  obtain ⟨rlevel2, hr2, h⟩ := bindSome h
  refine Runs.sR hE ⟨[(4, (aB (decide (rlevel < rlevel2))))], [(0, vO 3 (Twater_side.cells cap0)), (1, vO 3 (Twater_side.cells cap1))], 194⟩ (C_73 6) [(4, ⟨[], true, (aI rlevel), [], 0, false⟩), (8, ⟨[], true, (aI rlevel2), [], 0, false⟩)] [] (kp [4]) (kq [0, 1]) 194 [0 < 1, Sound Try.prog 107 [(.agg (Twater_side.cells cap0)), (aI (w64 ((w64 (0 - q)) - 1)))] [] 0 (aI rlevel) [], 0 < 1, Sound Try.prog 107 [(.agg (Twater_side.cells cap1)), (aI (w64 (q + 1)))] [] 0 (aI rlevel2) []] ⟨o1, (g_water_side_level_ok N cap0 (w64 ((w64 (0 - q)) - 1)) rlevel hr), o1, (g_water_side_level_ok N cap1 (w64 (q + 1)) rlevel2 hr2), trivial⟩ ?_
  obtain rfl := Option.some.inj h
  refine Runs.sW hE ⟨[(4, (aB (decide (rlevel < rlevel2))))], [(0, vO 3 (Twater_side.cells cap0)), (1, vO 3 (Twater_side.cells cap1))], 194⟩ [] (kp [4]) (kq [0, 1]) 194 [] trivial ?_
  exact Runs.sT Try.f118 [] [] trivial

noncomputable def C_72 (n : Nat) : Code := cat (bodyOf Try.f98) (pth n)

theorem g_sort_Search_v2_L1_ok (N : Nat) (cap0 : Twater_side) (cap1 : Twater_side) (fuel : Nat) : ∀ (i : Int) (j : Int) (r : Int), g_sort_Search_v2_L1 N cap0 cap1 fuel i j = some r → ∀ E, EnvOk E 2 → Runs Try.prog E 98 26 (SPost E [(0, vO 3 (Twater_side.cells cap0)), (1, vO 3 (Twater_side.cells cap1))] (aI r)) [.code (C_72 56), .inLoop (C_72 56), .inBlock 0, .code (C_72 15)] ⟨[(1, (.fn (.func 118) [] [(.op 0 0 0), (.op 1 0 0)])), (5, (aI i)), (6, (aI j))], [(0, vO 3 (Twater_side.cells cap0)), (1, vO 3 (Twater_side.cells cap1))], 2⟩ := by
  induction fuel with
  | zero => intro _ _ r h; rw [g_sort_Search_v2_L1.eq_1] at h; cases h
  | succ fuel ih =>
    intro i j r h E hE
    rw [g_sort_Search_v2_L1.eq_2] at h
    refine Runs.sA 2 [.code (C_72 224), .code (C_72 225), .code (C_72 113), .inLoop (C_72 56), .inBlock 0, .code (C_72 15)] ?_
    refine Runs.sR hE ⟨[(1, (.fn (.func 118) [] [(.op 0 0 0), (.op 1 0 0)])), (5, (aI i)), (6, (aI j)), (11, (aB (decide (i < j))))], [(0, vO 3 (Twater_side.cells cap0)), (1, vO 3 (Twater_side.cells cap1))], 50⟩ (C_72 224) [] [] (kp [1, 5, 6, 11]) (kq [0, 1]) 50 [] trivial ?_
    refine Runs.sC 11 (C_72 450) (C_72 451) (decide (i < j)) (fun hq2 => ?_) (fun hq2 => ?_)
    · have h := condT h hq2
      refine Runs.sA 3 [.code (C_72 452), .code (C_72 453), .inBlock 1, .inLoop (C_72 56), .inBlock 0, .code (C_72 15)] ?_
      refine Runs.sR hE ⟨[(1, (.fn (.func 118) [] [(.op 0 0 0), (.op 1 0 0)])), (5, (aI i)), (6, (aI j)), (7, (aI (w64 ((shrI .u64 (IntKind.u64.wrap ((w64 (i + j)))) 1)))))], [(0, vO 3 (Twater_side.cells cap0)), (1, vO 3 (Twater_side.cells cap1))], 162⟩ (C_72 452) [] [] (kp [1, 5, 6, 7]) (kq [0, 1]) 162 [(0 : Int) ≤ 1] ⟨(by decide), trivial⟩ ?_
      refine Runs.sA 1 [.code (C_72 906), .code (C_72 907), .inBlock 1, .inLoop (C_72 56), .inBlock 0, .code (C_72 15)] ?_
      obtain ⟨rgate1, hr, h⟩ := bindSome h
      refine Runs.sR hE ⟨[(1, (.fn (.func 118) [] [(.op 0 0 0), (.op 1 0 0)])), (5, (aI i)), (6, (aI j)), (7, (aI (w64 ((shrI .u64 (IntKind.u64.wrap ((w64 (i + j)))) 1))))), (21, (aB (!rgate1)))], [(0, vO 3 (Twater_side.cells cap0)), (1, vO 3 (Twater_side.cells cap1))], 226⟩ (C_72 906) [(2, ⟨[0, 1], true, (aB rgate1), [], 0, false⟩)] [] (kp [1, 5, 6, 7, 21]) (kq [0, 1]) 226 [Sound Try.prog 118 [(aI (w64 ((shrI .u64 (IntKind.u64.wrap ((w64 (i + j)))) 1)))), (.op 0 0 0), (.op 1 0 0)] [(0, vO 3 (Twater_side.cells cap0)), (1, vO 3 (Twater_side.cells cap1))] 2 (aB rgate1) [(0, vO 3 (Twater_side.cells cap0)), (1, vO 3 (Twater_side.cells cap1))]] ⟨(g_water_gate_1_ok N (w64 ((shrI .u64 (IntKind.u64.wrap ((w64 (i + j)))) 1))) cap0 cap1 rgate1 hr), trivial⟩ ?_
      refine Runs.sC 21 (C_72 1814) (C_72 1815) (!rgate1) (fun hq3 => ?_) (fun hq3 => ?_)
      · have h := condT h hq3
        refine Runs.sR hE ⟨[(1, (.fn (.func 118) [] [(.op 0 0 0), (.op 1 0 0)])), (5, (aI (w64 ((w64 ((shrI .u64 (IntKind.u64.wrap ((w64 (i + j)))) 1))) + 1)))), (6, (aI j))], [(0, vO 3 (Twater_side.cells cap0)), (1, vO 3 (Twater_side.cells cap1))], 274⟩ (C_72 1814) [] [] (kp [1, 5, 6]) (kq [0, 1]) 274 [] trivial ?_
        refine Runs.sA 2 [.code (C_72 56), .inLoop (C_72 56), .inBlock 0, .code (C_72 15)] ?_
        exact Runs.sW hE _ [] (kp [1, 5, 6]) (kq [0, 1]) 2 [] trivial (ih (w64 ((w64 ((shrI .u64 (IntKind.u64.wrap ((w64 (i + j)))) 1))) + 1)) j _ h E hE)
      · have h := condF h hq3
        refine Runs.sR hE ⟨[(1, (.fn (.func 118) [] [(.op 0 0 0), (.op 1 0 0)])), (5, (aI i)), (6, (aI (w64 ((shrI .u64 (IntKind.u64.wrap ((w64 (i + j)))) 1)))))], [(0, vO 3 (Twater_side.cells cap0)), (1, vO 3 (Twater_side.cells cap1))], 258⟩ (C_72 1815) [] [] (kp [1, 5, 6]) (kq [0, 1]) 258 [] trivial ?_
        refine Runs.sA 2 [.code (C_72 56), .inLoop (C_72 56), .inBlock 0, .code (C_72 15)] ?_
        exact Runs.sW hE _ [] (kp [1, 5, 6]) (kq [0, 1]) 2 [] trivial (ih i (w64 ((shrI .u64 (IntKind.u64.wrap ((w64 (i + j)))) 1))) _ h E hE)
    · have h := condF h hq2
      refine Runs.sA 2 [.code (C_72 30), .code (C_72 31)] ?_
      refine Runs.sR hE ⟨[(4, (aI i))], [(0, vO 3 (Twater_side.cells cap0)), (1, vO 3 (Twater_side.cells cap1))], 82⟩ (C_72 30) [] [] (kp [4]) (kq [0, 1]) 82 [] trivial ?_
      obtain rfl := Option.some.inj h
      refine Runs.sW hE ⟨[(4, (aI i))], [(0, vO 3 (Twater_side.cells cap0)), (1, vO 3 (Twater_side.cells cap1))], 82⟩ [] (kp [4]) (kq [0, 1]) 82 [] trivial ?_
      exact Runs.sT Try.f98 [] [] trivial

theorem g_sort_Search_v2_ok (N : Nat) (n : Int) (cap0 : Twater_side) (cap1 : Twater_side) (r : Int) (h : g_sort_Search_v2 N n cap0 cap1 = some r) : Sound Try.prog 98 [(aI n), (.fn (.func 118) [] [(.op 0 0 0), (.op 1 0 0)])] [(0, vO 3 (Twater_side.cells cap0)), (1, vO 3 (Twater_side.cells cap1))] 2 (aI r) [(0, vO 3 (Twater_side.cells cap0)), (1, vO 3 (Twater_side.cells cap1))] := by
  unfold g_sort_Search_v2 at h
  refine Sound.of_runs (fu := Try.f98) (c := C_72 1) (nt := 26) (by kernel_rfl) (by kernel_rfl) (by kernel_rfl) (by kernel_rfl) (fun hm => absurd hm (by decide)) ?_
  intro E hE
  refine Runs.sA 1 [.code (C_72 2), .code (C_72 3)] ?_
  refine Runs.sR hE ⟨[(0, (aI n)), (1, (.fn (.func 118) [] [(.op 0 0 0), (.op 1 0 0)]))], [(0, vO 3 (Twater_side.cells cap0)), (1, vO 3 (Twater_side.cells cap1))], 18⟩ (C_72 2) [] [] (kp [0, 1]) (kq [0, 1]) 18 [] trivial ?_
  refine Runs.sA 1 [.code (C_72 6), .code (C_72 7)] ?_
  refine Runs.sR hE ⟨[(1, (.fn (.func 118) [] [(.op 0 0 0), (.op 1 0 0)])), (5, (aI 0)), (6, (aI n))], [(0, vO 3 (Twater_side.cells cap0)), (1, vO 3 (Twater_side.cells cap1))], 66⟩ (C_72 6) [] [] (kp [1, 5, 6]) (kq [0, 1]) 66 [] trivial ?_
  refine Runs.sA 3 [.code (C_72 56), .inLoop (C_72 56), .inBlock 0, .code (C_72 15)] ?_
  exact Runs.sW hE _ [] (kp [1, 5, 6]) (kq [0, 1]) 2 [] trivial (g_sort_Search_v2_L1_ok N cap0 cap1 N 0 n _ h E hE)

noncomputable def C_70 (n : Nat) : Code := cat (bodyOf Try.f109) (pth n)

theorem g_water_gate_ok (N : Nat) (l : Tapi_Link) (upper : Twater_side) (lower : Twater_side) (r : Int) (h : g_water_gate N l upper lower = some r) : Sound Try.prog 109 [(.agg (Tapi_Link.cells l)), (.agg (Twater_side.cells upper)), (.agg (Twater_side.cells lower))] [] 0 (aI r) [] := by
  unfold g_water_gate at h
  refine Sound.of_runs (fu := Try.f109) (c := C_70 1) (nt := 42) (by kernel_rfl) (by kernel_rfl) (by kernel_rfl) (by kernel_rfl) (fun hm => rfl) ?_
  intro E hE
  refine Runs.sA 1 [.code (C_70 2), .code (C_70 3)] ?_
  refine Runs.sR hE ⟨[(3, (.op 0 0 0)), (4, (.op 16 0 0)), (5, (.op 32 0 0))], [(0, vO 8 (Tapi_Link.cells l)), (16, vO 3 (Twater_side.cells upper)), (32, vO 3 (Twater_side.cells lower))], 64⟩ (C_70 2) [] [] (kp [3, 4, 5]) (kq [0, 16, 32]) 64 [] trivial ?_
  refine Runs.sA 2 [.code (C_70 12), .code (C_70 13), .code (C_70 7)] ?_
  obtain ⟨rlevel, hr, h⟩ := bindSome h
  refine Runs.sR hE ⟨[(3, (.op 0 0 0)), (4, (.op 16 0 0)), (5, (.op 32 0 0)), (13, (aB (decide (rlevel ≤ l.f_Sill))))], [(0, vO 8 (Tapi_Link.cells l)), (16, vO 3 (Twater_side.cells upper)), (32, vO 3 (Twater_side.cells lower))], 144⟩ (C_70 12) [(1, ⟨[], true, (aI rlevel), [], 0, false⟩)] [] (kp [3, 4, 5, 13]) (kq [0, 16, 32]) 144 [0 < 1, Sound Try.prog 107 [(.agg (Twater_side.cells upper)), (aI 0)] [] 0 (aI rlevel) [], 0 < 1] ⟨o1, (g_water_side_level_ok N upper 0 rlevel hr), o1, trivial⟩ ?_
  refine Runs.sC 13 (C_70 26) (C_70 27) (decide (rlevel ≤ l.f_Sill)) (fun hq2 => ?_) (fun hq2 => ?_)
  · have h := condT h hq2
    refine Runs.sA 1 [.code (C_70 52), .code (C_70 53), .code (C_70 7)] ?_
    refine Runs.sR hE ⟨[(6, (aI 0))], [], 160⟩ (C_70 52) [] [] (kp [6]) [] 160 [] trivial ?_
    obtain rfl := Option.some.inj h
    refine Runs.sW hE ⟨[(6, (aI 0))], [], 160⟩ [] (kp [6]) [] 160 [] trivial ?_
    exact Runs.sT Try.f109 [] [] trivial
  · have h := condF h hq2
    refine Runs.sA 2 [.code (C_70 14), .code (C_70 15)] ?_
    obtain ⟨rlevel2, hr2, h⟩ := bindSome h
    obtain ⟨rlevel3, hr3, h⟩ := bindSome h
    refine Runs.sR hE ⟨[(3, (.op 0 0 0)), (4, (.op 16 0 0)), (5, (.op 32 0 0)), (7, (aI (w64 (rlevel2 - (if rlevel3 > l.f_Sill then rlevel3 else l.f_Sill)))))], [(0, vO 8 (Tapi_Link.cells l)), (16, vO 3 (Twater_side.cells upper)), (32, vO 3 (Twater_side.cells lower))], 288⟩ (C_70 14) [(1, ⟨[], true, (aI rlevel2), [], 0, false⟩), (5, ⟨[], true, (aI rlevel3), [], 0, false⟩)] [] (kp [3, 4, 5, 7]) (kq [0, 16, 32]) 288 [0 < 1, Sound Try.prog 107 [(.agg (Twater_side.cells upper)), (aI 0)] [] 0 (aI rlevel2) [], 0 < 1, 0 < 1, Sound Try.prog 107 [(.agg (Twater_side.cells lower)), (aI 0)] [] 0 (aI rlevel3) []] ⟨o1, (g_water_side_level_ok N upper 0 rlevel2 hr2), o1, o1, (g_water_side_level_ok N lower 0 rlevel3 hr3), trivial⟩ ?_
    refine Runs.sA 1 [.code (C_70 30), .code (C_70 31)] ?_
    obtain ⟨rspare, hr4, h⟩ := bindSome h
    obtain ⟨rroom, hr5, h⟩ := bindSome h
    refine Runs.sR hE ⟨[(4, (.op 16 0 0)), (5, (.op 32 0 0)), (8, (aI (if rroom < (if rspare < (if (w64 (l.f_Factor * (w64 (rlevel2 - (if rlevel3 > l.f_Sill then rlevel3 else l.f_Sill))))) < l.f_Rate then (w64 (l.f_Factor * (w64 (rlevel2 - (if rlevel3 > l.f_Sill then rlevel3 else l.f_Sill))))) else l.f_Rate) then rspare else (if (w64 (l.f_Factor * (w64 (rlevel2 - (if rlevel3 > l.f_Sill then rlevel3 else l.f_Sill))))) < l.f_Rate then (w64 (l.f_Factor * (w64 (rlevel2 - (if rlevel3 > l.f_Sill then rlevel3 else l.f_Sill))))) else l.f_Rate)) then rroom else (if rspare < (if (w64 (l.f_Factor * (w64 (rlevel2 - (if rlevel3 > l.f_Sill then rlevel3 else l.f_Sill))))) < l.f_Rate then (w64 (l.f_Factor * (w64 (rlevel2 - (if rlevel3 > l.f_Sill then rlevel3 else l.f_Sill))))) else l.f_Rate) then rspare else (if (w64 (l.f_Factor * (w64 (rlevel2 - (if rlevel3 > l.f_Sill then rlevel3 else l.f_Sill))))) < l.f_Rate then (w64 (l.f_Factor * (w64 (rlevel2 - (if rlevel3 > l.f_Sill then rlevel3 else l.f_Sill))))) else l.f_Rate)))))], [(16, vO 3 (Twater_side.cells upper)), (32, vO 3 (Twater_side.cells lower))], 576⟩ (C_70 30) [(11, ⟨[], true, (aI rspare), [], 0, false⟩), (15, ⟨[], true, (aI rroom), [], 0, false⟩)] [] (kp [4, 5, 8]) (kq [16, 32]) 576 [0 < 1, 0 < 1, 0 < 1, 0 < 1, 0 < 1, Sound Try.prog 117 [(.agg (Twater_side.cells upper)), (aI l.f_Sill), (aI l.f_Rate)] [] 0 (aI rspare) [], 0 < 1, 0 < 1, Sound Try.prog 108 [(.agg (Twater_side.cells lower)), (aI l.f_Rate)] [] 0 (aI rroom) []] ⟨o1, o1, o1, o1, o1, (g_water_side_spare_ok N upper l.f_Sill l.f_Rate rspare hr4), o1, o1, (g_water_side_room_ok N lower l.f_Rate rroom hr5), trivial⟩ ?_
    refine Runs.sA 1 [.code (C_70 62), .code (C_70 63)] ?_
    obtain ⟨rSearch, hr6, h⟩ := bindSome h
    refine Runs.sR hE ⟨[(6, (aI rSearch))], [], 640⟩ (C_70 62) [(2, ⟨[16, 32], true, (aI rSearch), [], 0, false⟩)] [] (kp [6]) [] 640 [Sound Try.prog 98 [(aI (if rroom < (if rspare < (if (w64 (l.f_Factor * (w64 (rlevel2 - (if rlevel3 > l.f_Sill then rlevel3 else l.f_Sill))))) < l.f_Rate then (w64 (l.f_Factor * (w64 (rlevel2 - (if rlevel3 > l.f_Sill then rlevel3 else l.f_Sill))))) else l.f_Rate) then rspare else (if (w64 (l.f_Factor * (w64 (rlevel2 - (if rlevel3 > l.f_Sill then rlevel3 else l.f_Sill))))) < l.f_Rate then (w64 (l.f_Factor * (w64 (rlevel2 - (if rlevel3 > l.f_Sill then rlevel3 else l.f_Sill))))) else l.f_Rate)) then rroom else (if rspare < (if (w64 (l.f_Factor * (w64 (rlevel2 - (if rlevel3 > l.f_Sill then rlevel3 else l.f_Sill))))) < l.f_Rate then (w64 (l.f_Factor * (w64 (rlevel2 - (if rlevel3 > l.f_Sill then rlevel3 else l.f_Sill))))) else l.f_Rate) then rspare else (if (w64 (l.f_Factor * (w64 (rlevel2 - (if rlevel3 > l.f_Sill then rlevel3 else l.f_Sill))))) < l.f_Rate then (w64 (l.f_Factor * (w64 (rlevel2 - (if rlevel3 > l.f_Sill then rlevel3 else l.f_Sill))))) else l.f_Rate)))), (.fn (.func 118) [] [(.op 0 0 0), (.op 1 0 0)])] [(0, vO 3 (Twater_side.cells upper)), (1, vO 3 (Twater_side.cells lower))] 2 (aI rSearch) [(0, vO 3 (Twater_side.cells upper)), (1, vO 3 (Twater_side.cells lower))]] ⟨(g_sort_Search_v2_ok N (if rroom < (if rspare < (if (w64 (l.f_Factor * (w64 (rlevel2 - (if rlevel3 > l.f_Sill then rlevel3 else l.f_Sill))))) < l.f_Rate then (w64 (l.f_Factor * (w64 (rlevel2 - (if rlevel3 > l.f_Sill then rlevel3 else l.f_Sill))))) else l.f_Rate) then rspare else (if (w64 (l.f_Factor * (w64 (rlevel2 - (if rlevel3 > l.f_Sill then rlevel3 else l.f_Sill))))) < l.f_Rate then (w64 (l.f_Factor * (w64 (rlevel2 - (if rlevel3 > l.f_Sill then rlevel3 else l.f_Sill))))) else l.f_Rate)) then rroom else (if rspare < (if (w64 (l.f_Factor * (w64 (rlevel2 - (if rlevel3 > l.f_Sill then rlevel3 else l.f_Sill))))) < l.f_Rate then (w64 (l.f_Factor * (w64 (rlevel2 - (if rlevel3 > l.f_Sill then rlevel3 else l.f_Sill))))) else l.f_Rate) then rspare else (if (w64 (l.f_Factor * (w64 (rlevel2 - (if rlevel3 > l.f_Sill then rlevel3 else l.f_Sill))))) < l.f_Rate then (w64 (l.f_Factor * (w64 (rlevel2 - (if rlevel3 > l.f_Sill then rlevel3 else l.f_Sill))))) else l.f_Rate))) upper lower rSearch hr6), trivial⟩ ?_
    obtain rfl := Option.some.inj h
    refine Runs.sW hE ⟨[(6, (aI rSearch))], [], 640⟩ [] (kp [6]) [] 640 [] trivial ?_
    exact Runs.sT Try.f109 [] [] trivial

noncomputable def C_66 (n : Nat) : Code := cat (bodyOf Try.f83) (pth n)

theorem g_water_flow_J1_ok (N : Nat) (n : Tapi_Network) (i : Int) (rsideOf2 : Twater_side) (give : Int) (r : Int) (h : g_water_flow_J1 N n i rsideOf2 give = some r) : ∀ E, EnvOk E 0 → Runs Try.prog E 83 76 (SPost E [] (aI r)) [.code (C_66 16046), .code (C_66 16047), .inBlock 0, .code (C_66 63)] ⟨[(7, (.op 0 0 0)), (9, (.op 1 0 0)), (11, (aI give))], [(0, vO 8 (Tapi_Link.cells (n.f_Links.getD ((i).toNat) Tapi_Link.d))), (1, vO 3 (Twater_side.cells rsideOf2))], 2⟩ := by
  intro E hE
  unfold g_water_flow_J1 at h
  obtain ⟨rroom, hr5, h⟩ := bindSome h
  refine Runs.sR hE ⟨[(6, (aI (if rroom < (if give < (n.f_Links.getD ((i).toNat) Tapi_Link.d).f_Rate then give else (n.f_Links.getD ((i).toNat) Tapi_Link.d).f_Rate) then rroom else (if give < (n.f_Links.getD ((i).toNat) Tapi_Link.d).f_Rate then give else (n.f_Links.getD ((i).toNat) Tapi_Link.d).f_Rate))))], [], 146⟩ (C_66 16046) [(6, ⟨[], true, (aI rroom), [], 0, false⟩)] [] (kp [6]) [] 146 [0 < 1, 0 < 1, 0 < 1, Sound Try.prog 108 [(.agg (Twater_side.cells rsideOf2)), (aI ((n.f_Links.getD ((i).toNat) Tapi_Link.d).f_Rate))] [] 0 (aI rroom) []] ⟨o1, o1, o1, (g_water_side_room_ok N rsideOf2 ((n.f_Links.getD ((i).toNat) Tapi_Link.d).f_Rate) rroom hr5), trivial⟩ ?_
  obtain rfl := Option.some.inj h
  refine Runs.sW hE ⟨[(6, (aI (if rroom < (if give < (n.f_Links.getD ((i).toNat) Tapi_Link.d).f_Rate then give else (n.f_Links.getD ((i).toNat) Tapi_Link.d).f_Rate) then rroom else (if give < (n.f_Links.getD ((i).toNat) Tapi_Link.d).f_Rate then give else (n.f_Links.getD ((i).toNat) Tapi_Link.d).f_Rate))))], [], 146⟩ [] (kp [6]) [] 146 [] trivial ?_
  exact Runs.sT Try.f83 [] [] trivial

theorem g_water_flow_ok (N : Nat) (n : Tapi_Network) (w : Tapi_Water) (i : Int) (r : Int) (h : g_water_flow N n w i = some r) : Sound Try.prog 83 [(.agg (Tapi_Network.cells n)), (.agg (Tapi_Water.cells w)), (aI i)] [] 0 (aI r) [] := by
  unfold g_water_flow at h
  refine Sound.of_runs (fu := Try.f83) (c := C_66 1) (nt := 76) (by kernel_rfl) (by kernel_rfl) (by kernel_rfl) (by kernel_rfl) (fun hm => rfl) ?_
  intro E hE
  refine Runs.sA 1 [.code (C_66 2), .code (C_66 3)] ?_
  refine Runs.sR hE ⟨[(2, (aI i)), (3, (.op 0 0 0)), (4, (.op 16 0 0))], [(0, vO 3 (Tapi_Network.cells n)), (16, vO 3 (Tapi_Water.cells w))], 48⟩ (C_66 2) [] [] (kp [2, 3, 4]) (kq [0, 16]) 48 [] trivial ?_
  refine Runs.sA 1 [.code (C_66 6), .code (C_66 7)] ?_
  obtain ⟨c, h⟩ := ifSome h
  refine Runs.sR hE ⟨[(2, (aI i)), (3, (.op 0 0 0)), (4, (.op 16 0 0)), (7, (.op 128 0 0))], [(0, vO 3 (Tapi_Network.cells n)), (16, vO 3 (Tapi_Water.cells w)), (128, vO 8 (Tapi_Link.cells (n.f_Links.getD ((i).toNat) Tapi_Link.d)))], 160⟩ (C_66 6) [] [] (kp [2, 3, 4, 7]) (kq [0, 16, 128]) 160 [0 < 1, 0 ≤ i ∧ i < ((n.f_Links.length : Nat) : Int), 0 < 1] ⟨o1, c, o1, trivial⟩ ?_
  refine Runs.sA 2 [.code (C_66 28), .code (C_66 29), .code (C_66 15)] ?_
  obtain ⟨c2, h⟩ := ifSome h
  refine Runs.sR hE ⟨[(3, (.op 0 0 0)), (4, (.op 16 0 0)), (7, (.op 128 0 0)), (22, (aB (!(w.f_Open.getD ((i).toNat) false))))], [(0, vO 3 (Tapi_Network.cells n)), (16, vO 3 (Tapi_Water.cells w)), (128, vO 8 (Tapi_Link.cells (n.f_Links.getD ((i).toNat) Tapi_Link.d)))], 256⟩ (C_66 28) [] [] (kp [3, 4, 7, 22]) (kq [0, 16, 128]) 256 [0 < 1, 0 ≤ i ∧ i < ((w.f_Open.length : Nat) : Int)] ⟨o1, c2, trivial⟩ ?_
  refine Runs.sC 22 (C_66 58) (C_66 59) (!(w.f_Open.getD ((i).toNat) false)) (fun hq2 => ?_) (fun hq2 => ?_)
  · have h := condT h hq2
    refine Runs.sA 1 [.code (C_66 116), .code (C_66 117), .code (C_66 15)] ?_
    refine Runs.sR hE ⟨[(6, (aI 0))], [], 272⟩ (C_66 116) [] [] (kp [6]) [] 272 [] trivial ?_
    obtain rfl := Option.some.inj h
    refine Runs.sW hE ⟨[(6, (aI 0))], [], 272⟩ [] (kp [6]) [] 272 [] trivial ?_
    exact Runs.sT Try.f83 [] [] trivial
  · have h := condF h hq2
    refine Runs.sA 2 [.code (C_66 30), .code (C_66 31)] ?_
    obtain ⟨rsideOf, hr, h⟩ := bindSome h
    obtain ⟨rsideOf2, hr2, h⟩ := bindSome h
    refine Runs.sR hE ⟨[(7, (.op 128 0 0)), (8, (.op 416 0 0)), (9, (.op 432 0 0))], [(128, vO 8 (Tapi_Link.cells (n.f_Links.getD ((i).toNat) Tapi_Link.d))), (416, vO 3 (Twater_side.cells rsideOf)), (432, vO 3 (Twater_side.cells rsideOf2))], 480⟩ (C_66 30) [(4, ⟨[], true, (.agg (Twater_side.cells rsideOf)), [], 0, false⟩), (9, ⟨[], true, (.agg (Twater_side.cells rsideOf2)), [], 0, false⟩)] [] (kp [7, 8, 9]) (kq [128, 416, 432]) 480 [0 < 1, 0 < 1, 0 < 1, Sound Try.prog 106 [(.agg (Tapi_Network.cells n)), (.agg (Tapi_Water.cells w)), (aS ((n.f_Links.getD ((i).toNat) Tapi_Link.d).f_From))] [] 0 (.agg (Twater_side.cells rsideOf)) [], 0 < 1, 0 < 1, 0 < 1, Sound Try.prog 106 [(.agg (Tapi_Network.cells n)), (.agg (Tapi_Water.cells w)), (aS ((n.f_Links.getD ((i).toNat) Tapi_Link.d).f_To))] [] 0 (.agg (Twater_side.cells rsideOf2)) [], 0 < 1, 0 < 1] ⟨o1, o1, o1, (g_water_sideOf_ok N n w ((n.f_Links.getD ((i).toNat) Tapi_Link.d).f_From) rsideOf hr), o1, o1, o1, (g_water_sideOf_ok N n w ((n.f_Links.getD ((i).toNat) Tapi_Link.d).f_To) rsideOf2 hr2), o1, o1, trivial⟩ ?_
    refine Runs.sA 2 [.code (C_66 124), .code (C_66 125), .code (C_66 63)] ?_
    obtain ⟨rlevel, hr3, h⟩ := bindSome h
    obtain ⟨rlevel2, hr4, h⟩ := bindSome h
    refine Runs.sR hE ⟨[(7, (.op 128 0 0)), (8, (.op 416 0 0)), (9, (.op 432 0 0)), (10, (aI (w64 (rlevel - rlevel2))))], [(128, vO 8 (Tapi_Link.cells (n.f_Links.getD ((i).toNat) Tapi_Link.d))), (416, vO 3 (Twater_side.cells rsideOf)), (432, vO 3 (Twater_side.cells rsideOf2))], 576⟩ (C_66 124) [(1, ⟨[], true, (aI rlevel), [], 0, false⟩), (3, ⟨[], true, (aI rlevel2), [], 0, false⟩)] [] (kp [7, 8, 9, 10]) (kq [128, 416, 432]) 576 [0 < 1, Sound Try.prog 107 [(.agg (Twater_side.cells rsideOf2)), (aI 0)] [] 0 (aI rlevel) [], 0 < 1, Sound Try.prog 107 [(.agg (Twater_side.cells rsideOf)), (aI 0)] [] 0 (aI rlevel2) []] ⟨o1, (g_water_side_level_ok N rsideOf2 0 rlevel hr3), o1, (g_water_side_level_ok N rsideOf 0 rlevel2 hr4), trivial⟩ ?_
    refine Runs.sA 2 [.code (C_66 500), .code (C_66 501), .inBlock 0, .code (C_66 63)] ?_
    refine Runs.sR hE ⟨[(7, (.op 128 0 0)), (8, (.op 416 0 0)), (9, (.op 432 0 0)), (10, (aI (w64 (rlevel - rlevel2)))), (38, (aB ((n.f_Links.getD ((i).toNat) Tapi_Link.d).f_Kind == 1)))], [(128, vO 8 (Tapi_Link.cells (n.f_Links.getD ((i).toNat) Tapi_Link.d))), (416, vO 3 (Twater_side.cells rsideOf)), (432, vO 3 (Twater_side.cells rsideOf2))], 640⟩ (C_66 500) [] [] (kp [7, 8, 9, 10, 38]) (kq [128, 416, 432]) 640 [0 < 1] ⟨o1, trivial⟩ ?_
    refine Runs.sC 38 (C_66 1002) (C_66 1003) ((n.f_Links.getD ((i).toNat) Tapi_Link.d).f_Kind == 1) (fun hq3 => ?_) (fun hq3 => ?_)
    · have h := condT h hq3
      refine Runs.sA 2 [.code (C_66 4008), .code (C_66 4009), .code (C_66 2005), .inBlock 0, .code (C_66 63)] ?_
      refine Runs.sR hE ⟨[(7, (.op 128 0 0)), (8, (.op 416 0 0)), (9, (.op 432 0 0)), (45, (aB (decide ((w64 (rlevel - rlevel2)) > (n.f_Links.getD ((i).toNat) Tapi_Link.d).f_Lift))))], [(128, vO 8 (Tapi_Link.cells (n.f_Links.getD ((i).toNat) Tapi_Link.d))), (416, vO 3 (Twater_side.cells rsideOf)), (432, vO 3 (Twater_side.cells rsideOf2))], 704⟩ (C_66 4008) [] [] (kp [7, 8, 9, 45]) (kq [128, 416, 432]) 704 [0 < 1] ⟨o1, trivial⟩ ?_
      refine Runs.sC 45 (C_66 8018) (C_66 8019) (decide ((w64 (rlevel - rlevel2)) > (n.f_Links.getD ((i).toNat) Tapi_Link.d).f_Lift)) (fun hq4 => ?_) (fun hq4 => ?_)
      · have h := condT h hq4
        refine Runs.sA 1 [.code (C_66 16036), .code (C_66 16037), .code (C_66 2005), .inBlock 0, .code (C_66 63)] ?_
        refine Runs.sR hE ⟨[(6, (aI 0))], [], 720⟩ (C_66 16036) [] [] (kp [6]) [] 720 [] trivial ?_
        obtain rfl := Option.some.inj h
        refine Runs.sW hE ⟨[(6, (aI 0))], [], 720⟩ [] (kp [6]) [] 720 [] trivial ?_
        exact Runs.sT Try.f83 [] [] trivial
      · have h := condF h hq4
        refine Runs.sA 2 [.code (C_66 4010), .code (C_66 4011), .inBlock 0, .code (C_66 63)] ?_
        refine Runs.sR hE ⟨[(7, (.op 128 0 0)), (8, (.op 416 0 0)), (9, (.op 432 0 0)), (11, (aI ((n.f_Links.getD ((i).toNat) Tapi_Link.d).f_Rate)))], [(128, vO 8 (Tapi_Link.cells (n.f_Links.getD ((i).toNat) Tapi_Link.d))), (416, vO 3 (Twater_side.cells rsideOf)), (432, vO 3 (Twater_side.cells rsideOf2))], 752⟩ (C_66 4010) [] [] (kp [7, 8, 9, 11]) (kq [128, 416, 432]) 752 [0 < 1] ⟨o1, trivial⟩ ?_
        refine Runs.sA 2 [.code (C_66 16044), .code (C_66 16045), .code (C_66 8023), .inBlock 0, .code (C_66 63)] ?_
        refine Runs.sR hE ⟨[(7, (.op 128 0 0)), (8, (.op 416 0 0)), (9, (.op 432 0 0)), (11, (aI ((n.f_Links.getD ((i).toNat) Tapi_Link.d).f_Rate))), (50, (aB (!(!rsideOf.f_basin.isSome))))], [(128, vO 8 (Tapi_Link.cells (n.f_Links.getD ((i).toNat) Tapi_Link.d))), (416, vO 3 (Twater_side.cells rsideOf)), (432, vO 3 (Twater_side.cells rsideOf2))], 800⟩ (C_66 16044) [] [] (kp [7, 8, 9, 11, 50]) (kq [128, 416, 432]) 800 [0 < 1] ⟨o1, trivial⟩ ?_
        refine Runs.sC 50 (C_66 32090) (C_66 32091) (!(!rsideOf.f_basin.isSome)) (fun hq5 => ?_) (fun hq5 => ?_)
        · have h := condT h hq5
          refine Runs.sR hE ⟨[(7, (.op 128 0 0)), (9, (.op 432 0 0)), (11, (aI rsideOf.f_litres))], [(128, vO 8 (Tapi_Link.cells (n.f_Links.getD ((i).toNat) Tapi_Link.d))), (432, vO 3 (Twater_side.cells rsideOf2))], 848⟩ (C_66 32090) [] [] (kp [7, 9, 11]) (kq [128, 432]) 848 [0 < 1] ⟨o1, trivial⟩ ?_
          refine Runs.sA 1 [.code (C_66 16046), .code (C_66 16047), .inBlock 0, .code (C_66 63)] ?_
          exact Runs.sW hE _ [] (kp [7, 9, 11]) [(0, .keep 128), (1, .keep 432)] 2 [] trivial (g_water_flow_J1_ok N n i rsideOf2 rsideOf.f_litres _ h E hE)
        · have h := condF h hq5
          refine Runs.sA 2 [.code (C_66 16046), .code (C_66 16047), .inBlock 0, .code (C_66 63)] ?_
          exact Runs.sW hE _ [] (kp [7, 9, 11]) [(0, .keep 128), (1, .keep 432)] 2 [] trivial (g_water_flow_J1_ok N n i rsideOf2 ((n.f_Links.getD ((i).toNat) Tapi_Link.d).f_Rate) _ h E hE)
    · have h := condF h hq3
      refine Runs.sA 1 [.code (C_66 2006), .code (C_66 2007), .inBlock 0, .code (C_66 63)] ?_
      refine Runs.sR hE ⟨[(7, (.op 128 0 0)), (8, (.op 416 0 0)), (9, (.op 432 0 0)), (10, (aI (w64 (rlevel - rlevel2)))), (61, (aB (decide ((w64 (rlevel - rlevel2)) < 0))))], [(128, vO 8 (Tapi_Link.cells (n.f_Links.getD ((i).toNat) Tapi_Link.d))), (416, vO 3 (Twater_side.cells rsideOf)), (432, vO 3 (Twater_side.cells rsideOf2))], 688⟩ (C_66 2006) [] [] (kp [7, 8, 9, 10, 61]) (kq [128, 416, 432]) 688 [] trivial ?_
      refine Runs.sC 61 (C_66 4014) (C_66 4015) (decide ((w64 (rlevel - rlevel2)) < 0)) (fun hq6 => ?_) (fun hq6 => ?_)
      · have h := condT h hq6
        refine Runs.sA 1 [.code (C_66 8028), .code (C_66 8029), .inBlock 0, .code (C_66 63)] ?_
        obtain ⟨rgate, hr6, h⟩ := bindSome h
        refine Runs.sR hE ⟨[(6, (aI rgate))], [], 768⟩ (C_66 8028) [(3, ⟨[], true, (aI rgate), [], 0, false⟩)] [] (kp [6]) [] 768 [0 < 1, 0 < 1, 0 < 1, Sound Try.prog 109 [(.agg (Tapi_Link.cells (n.f_Links.getD ((i).toNat) Tapi_Link.d))), (.agg (Twater_side.cells rsideOf)), (.agg (Twater_side.cells rsideOf2))] [] 0 (aI rgate) []] ⟨o1, o1, o1, (g_water_gate_ok N (n.f_Links.getD ((i).toNat) Tapi_Link.d) rsideOf rsideOf2 rgate hr6), trivial⟩ ?_
        obtain rfl := Option.some.inj h
        refine Runs.sW hE ⟨[(6, (aI rgate))], [], 768⟩ [] (kp [6]) [] 768 [] trivial ?_
        exact Runs.sT Try.f83 [] [] trivial
      · have h := condF h hq6
        refine Runs.sA 1 [.code (C_66 8030), .code (C_66 8031), .inBlock 0, .code (C_66 63)] ?_
        refine Runs.sR hE ⟨[(7, (.op 128 0 0)), (8, (.op 416 0 0)), (9, (.op 432 0 0)), (68, (aB (decide ((w64 (rlevel - rlevel2)) > 0))))], [(128, vO 8 (Tapi_Link.cells (n.f_Links.getD ((i).toNat) Tapi_Link.d))), (416, vO 3 (Twater_side.cells rsideOf)), (432, vO 3 (Twater_side.cells rsideOf2))], 736⟩ (C_66 8030) [] [] (kp [7, 8, 9, 68]) (kq [128, 416, 432]) 736 [] trivial ?_
        refine Runs.sC 68 (C_66 16062) (C_66 16063) (decide ((w64 (rlevel - rlevel2)) > 0)) (fun hq7 => ?_) (fun hq7 => ?_)
        · have h := condT h hq7
          refine Runs.sA 1 [.code (C_66 32124), .code (C_66 32125), .inBlock 0, .code (C_66 63)] ?_
          obtain ⟨rgate2, hr7, h⟩ := bindSome h
          refine Runs.sR hE ⟨[(6, (aI (w64 (0 - rgate2))))], [], 832⟩ (C_66 32124) [(3, ⟨[], true, (aI rgate2), [], 0, false⟩)] [] (kp [6]) [] 832 [0 < 1, 0 < 1, 0 < 1, Sound Try.prog 109 [(.agg (Tapi_Link.cells (n.f_Links.getD ((i).toNat) Tapi_Link.d))), (.agg (Twater_side.cells rsideOf2)), (.agg (Twater_side.cells rsideOf))] [] 0 (aI rgate2) []] ⟨o1, o1, o1, (g_water_gate_ok N (n.f_Links.getD ((i).toNat) Tapi_Link.d) rsideOf2 rsideOf rgate2 hr7), trivial⟩ ?_
          obtain rfl := Option.some.inj h
          refine Runs.sW hE ⟨[(6, (aI (w64 (0 - rgate2))))], [], 832⟩ [] (kp [6]) [] 832 [] trivial ?_
          exact Runs.sT Try.f83 [] [] trivial
        · have h := condF h hq7
          refine Runs.sA 3 [.code (C_66 126), .code (C_66 127)] ?_
          refine Runs.sR hE ⟨[(6, (aI 0))], [], 752⟩ (C_66 126) [] [] (kp [6]) [] 752 [] trivial ?_
          obtain rfl := Option.some.inj h
          refine Runs.sW hE ⟨[(6, (aI 0))], [], 752⟩ [] (kp [6]) [] 752 [] trivial ?_
          exact Runs.sT Try.f83 [] [] trivial

noncomputable def C_75 (n : Nat) : Code := cat (bodyOf Try.f84) (pth n)

theorem g_r05_CheckWater_L1_ok (N : Nat) (n : Tapi_Network) (w : Tapi_Water) (fuel : Nat) : ∀ (i : Int) (r : Int), g_r05_CheckWater_L1 N n w fuel i = some r → ∀ E, EnvOk E 0 → Runs Try.prog E 84 46 (SPost E [] (aI r)) [.code (C_75 244), .inLoop (C_75 244), .inBlock 0, .code (C_75 31)] ⟨[(2, (.op 0 0 0)), (3, (.op 1 0 0)), (5, (aI i))], [(0, vO 3 (Tapi_Network.cells n)), (1, vO 3 (Tapi_Water.cells w))], 2⟩ := by
  induction fuel with
  | zero => intro _ r h; rw [g_r05_CheckWater_L1.eq_1] at h; cases h
  | succ fuel ih =>
    intro i r h E hE
    rw [g_r05_CheckWater_L1.eq_2] at h
    refine Runs.sA 2 [.code (C_75 976), .code (C_75 977), .code (C_75 489), .inLoop (C_75 244), .inBlock 0, .code (C_75 31)] ?_
    refine Runs.sR hE ⟨[(2, (.op 0 0 0)), (3, (.op 1 0 0)), (5, (aI i)), (30, (aB (decide (i < ((w.f_Litres.length : Nat) : Int)))))], [(0, vO 3 (Tapi_Network.cells n)), (1, vO 3 (Tapi_Water.cells w))], 82⟩ (C_75 976) [] [] (kp [2, 3, 5, 30]) (kq [0, 1]) 82 [0 < 1] ⟨o1, trivial⟩ ?_
    refine Runs.sC 30 (C_75 1954) (C_75 1955) (decide (i < ((w.f_Litres.length : Nat) : Int))) (fun hq4 => ?_) (fun hq4 => ?_)
    · have h := condT h hq4
      refine Runs.sA 4 [.code (C_75 3912), .code (C_75 3913), .inBlock 1, .code (C_75 979), .inLoop (C_75 244), .inBlock 0, .code (C_75 31)] ?_
      obtain ⟨c, h⟩ := ifSome h
      obtain ⟨c2, h⟩ := ifSome h
      obtain ⟨rCapacity, hr2, h⟩ := bindSome h
      obtain ⟨rinside2, hr3, h⟩ := bindSome h
      refine Runs.sR hE ⟨[(2, (.op 0 0 0)), (3, (.op 1 0 0)), (5, (aI i)), (45, (aB (!rinside2)))], [(0, vO 3 (Tapi_Network.cells n)), (1, vO 3 (Tapi_Water.cells w))], 290⟩ (C_75 3912) [(10, ⟨[], true, (aI rCapacity), [], 0, false⟩), (11, ⟨[], true, (aB rinside2), [], 0, false⟩)] [] (kp [2, 3, 5, 45]) (kq [0, 1]) 290 [0 < 1, 0 ≤ i ∧ i < ((w.f_Litres.length : Nat) : Int), 0 < 1, 0 ≤ i ∧ i < ((n.f_Basins.length : Nat) : Int), Sound Try.prog 44 [(.agg (Tapi_Basin.cells (n.f_Basins.getD ((i).toNat) Tapi_Basin.d)))] [] 0 (aI rCapacity) [], Sound Try.prog 62 [(aI (w.f_Litres.getD ((i).toNat) 0)), (aI 0), (aI rCapacity)] [] 0 (aB rinside2) []] ⟨o1, c, o1, c2, (g_r05_Capacity_ok N (n.f_Basins.getD ((i).toNat) Tapi_Basin.d) rCapacity hr2), (g_r05_inside_ok N (w.f_Litres.getD ((i).toNat) 0) 0 rCapacity rinside2 hr3), trivial⟩ ?_
      refine Runs.sC 45 (C_75 7826) (C_75 7827) (!rinside2) (fun hq5 => ?_) (fun hq5 => ?_)
      · have h := condT h hq5
        refine Runs.sA 1 [.code (C_75 15652), .code (C_75 15653), .inBlock 1, .code (C_75 979), .inLoop (C_75 244), .inBlock 0, .code (C_75 31)] ?_
        refine Runs.sR hE ⟨[(4, (aI 2))], [], 306⟩ (C_75 15652) [] [] (kp [4]) [] 306 [] trivial ?_
        obtain rfl := Option.some.inj h
        refine Runs.sW hE ⟨[(4, (aI 2))], [], 306⟩ [] (kp [4]) [] 306 [] trivial ?_
        exact Runs.sT Try.f84 [] [] trivial
      · have h := condF h hq5
        refine Runs.sA 2 [.code (C_75 979), .inLoop (C_75 244), .inBlock 0, .code (C_75 31)] ?_
        refine Runs.sR hE ⟨[(2, (.op 0 0 0)), (3, (.op 1 0 0)), (5, (aI (w64 (i + 1))))], [(0, vO 3 (Tapi_Network.cells n)), (1, vO 3 (Tapi_Water.cells w))], 338⟩ (C_75 979) [] [] (kp [2, 3, 5]) (kq [0, 1]) 338 [] trivial ?_
        refine Runs.sA 1 [.code (C_75 244), .inLoop (C_75 244), .inBlock 0, .code (C_75 31)] ?_
        exact Runs.sW hE _ [] (kp [2, 3, 5]) (kq [0, 1]) 2 [] trivial (ih (w64 (i + 1)) _ h E hE)
    · have h := condF h hq4
      refine Runs.sA 2 [.code (C_75 62), .code (C_75 63)] ?_
      refine Runs.sR hE ⟨[(4, (aI 0))], [], 98⟩ (C_75 62) [] [] (kp [4]) [] 98 [] trivial ?_
      obtain rfl := Option.some.inj h
      refine Runs.sW hE ⟨[(4, (aI 0))], [], 98⟩ [] (kp [4]) [] 98 [] trivial ?_
      exact Runs.sT Try.f84 [] [] trivial

theorem g_r05_CheckWater_ok (N : Nat) (n : Tapi_Network) (w : Tapi_Water) (r : Int) (h : g_r05_CheckWater N n w = some r) : Sound Try.prog 84 [(.agg (Tapi_Network.cells n)), (.agg (Tapi_Water.cells w))] [] 0 (aI r) [] := by
  unfold g_r05_CheckWater at h
  refine Sound.of_runs (fu := Try.f84) (c := C_75 1) (nt := 46) (by kernel_rfl) (by kernel_rfl) (by kernel_rfl) (by kernel_rfl) (fun hm => rfl) ?_
  intro E hE
  refine Runs.sA 1 [.code (C_75 2), .code (C_75 3)] ?_
  refine Runs.sR hE ⟨[(2, (.op 0 0 0)), (3, (.op 16 0 0))], [(0, vO 3 (Tapi_Network.cells n)), (16, vO 3 (Tapi_Water.cells w))], 48⟩ (C_75 2) [] [] (kp [2, 3]) (kq [0, 16]) 48 [] trivial ?_
  refine Runs.sA 2 [.code (C_75 12), .code (C_75 13), .code (C_75 7)] ?_
  obtain ⟨rinside, hr, h⟩ := bindSome h
  refine Runs.sR hE ⟨[(2, (.op 0 0 0)), (3, (.op 16 0 0)), (9, (aB (!rinside)))], [(0, vO 3 (Tapi_Network.cells n)), (16, vO 3 (Tapi_Water.cells w))], 112⟩ (C_75 12) [(2, ⟨[], true, (aB rinside), [], 0, false⟩)] [] (kp [2, 3, 9]) (kq [0, 16]) 112 [0 < 1, Sound Try.prog 62 [(aI w.f_Minute), (aI 0), (aI 1000000)] [] 0 (aB rinside) []] ⟨o1, (g_r05_inside_ok N w.f_Minute 0 1000000 rinside hr), trivial⟩ ?_
  refine Runs.sC 9 (C_75 26) (C_75 27) (!rinside) (fun hq2 => ?_) (fun hq2 => ?_)
  · have h := condT h hq2
    refine Runs.sA 1 [.code (C_75 52), .code (C_75 53), .code (C_75 7)] ?_
    refine Runs.sR hE ⟨[(4, (aI 2))], [], 128⟩ (C_75 52) [] [] (kp [4]) [] 128 [] trivial ?_
    obtain rfl := Option.some.inj h
    refine Runs.sW hE ⟨[(4, (aI 2))], [], 128⟩ [] (kp [4]) [] 128 [] trivial ?_
    exact Runs.sT Try.f84 [] [] trivial
  · have h := condF h hq2
    refine Runs.sA 3 [.code (C_75 28), .code (C_75 29), .code (C_75 15)] ?_
    refine Runs.sR hE ⟨[(2, (.op 0 0 0)), (3, (.op 16 0 0)), (25, (aB (cond (((w.f_Litres.length : Nat) : Int) != ((n.f_Basins.length : Nat) : Int)) true (((w.f_Open.length : Nat) : Int) != ((n.f_Links.length : Nat) : Int)))))], [(0, vO 3 (Tapi_Network.cells n)), (16, vO 3 (Tapi_Water.cells w))], 368⟩ (C_75 28) [] [] (kp [2, 3, 25]) (kq [0, 16]) 368 [0 < 1, 0 < 1, (!(((w.f_Litres.length : Nat) : Int) != ((n.f_Basins.length : Nat) : Int))) = true → AllP [(!(((w.f_Litres.length : Nat) : Int) != ((n.f_Basins.length : Nat) : Int))) = true, 0 < 1], (!(((w.f_Litres.length : Nat) : Int) != ((n.f_Basins.length : Nat) : Int))) = true → AllP [(!(((w.f_Litres.length : Nat) : Int) != ((n.f_Basins.length : Nat) : Int))) = true], (!(((w.f_Litres.length : Nat) : Int) != ((n.f_Basins.length : Nat) : Int))) = true → AllP [(!(((w.f_Litres.length : Nat) : Int) != ((n.f_Basins.length : Nat) : Int))) = true, 0 < 1], (!(((w.f_Litres.length : Nat) : Int) != ((n.f_Basins.length : Nat) : Int))) = true → AllP [(!(((w.f_Litres.length : Nat) : Int) != ((n.f_Basins.length : Nat) : Int))) = true], (!(((w.f_Litres.length : Nat) : Int) != ((n.f_Basins.length : Nat) : Int))) = true → AllP [(!(((w.f_Litres.length : Nat) : Int) != ((n.f_Basins.length : Nat) : Int))) = true, (!(((w.f_Litres.length : Nat) : Int) != ((n.f_Basins.length : Nat) : Int))) = true], (!(((w.f_Litres.length : Nat) : Int) != ((n.f_Basins.length : Nat) : Int))) = true → AllP [(!(((w.f_Litres.length : Nat) : Int) != ((n.f_Basins.length : Nat) : Int))) = true]] ⟨o1, o1, (fun hg => ⟨hg, o1, trivial⟩), (fun hg => ⟨hg, trivial⟩), (fun hg => ⟨hg, o1, trivial⟩), (fun hg => ⟨hg, trivial⟩), (fun hg => ⟨hg, hg, trivial⟩), (fun hq => ⟨hq, trivial⟩), trivial⟩ ?_
    refine Runs.sC 25 (C_75 58) (C_75 59) (cond (((w.f_Litres.length : Nat) : Int) != ((n.f_Basins.length : Nat) : Int)) true (((w.f_Open.length : Nat) : Int) != ((n.f_Links.length : Nat) : Int))) (fun hq3 => ?_) (fun hq3 => ?_)
    · have h := condT h hq3
      refine Runs.sA 1 [.code (C_75 116), .code (C_75 117), .code (C_75 15)] ?_
      refine Runs.sR hE ⟨[(4, (aI 11))], [], 384⟩ (C_75 116) [] [] (kp [4]) [] 384 [] trivial ?_
      obtain rfl := Option.some.inj h
      refine Runs.sW hE ⟨[(4, (aI 11))], [], 384⟩ [] (kp [4]) [] 384 [] trivial ?_
      exact Runs.sT Try.f84 [] [] trivial
    · have h := condF h hq3
      refine Runs.sA 3 [.code (C_75 60), .code (C_75 61), .code (C_75 31)] ?_
      refine Runs.sR hE ⟨[(2, (.op 0 0 0)), (3, (.op 16 0 0)), (5, (aI 0))], [(0, vO 3 (Tapi_Network.cells n)), (16, vO 3 (Tapi_Water.cells w))], 384⟩ (C_75 60) [] [] (kp [2, 3, 5]) (kq [0, 16]) 384 [] trivial ?_
      refine Runs.sA 2 [.code (C_75 244), .inLoop (C_75 244), .inBlock 0, .code (C_75 31)] ?_
      exact Runs.sW hE _ [] (kp [2, 3, 5]) (kq [0] ++ [(1, .keep 16)]) 2 [] trivial (g_r05_CheckWater_L1_ok N n w N 0 _ h E hE)

noncomputable def C_76 (n : Nat) : Code := cat (bodyOf Try.f85) (pth n)

theorem g_r05_CheckTurns_L1_ok (N : Nat) (n : Tapi_Network) (l : List Tapi_Turn) (fuel : Nat) : ∀ (i : Int) (r : Int), g_r05_CheckTurns_L1 N n l fuel i = some r → ∀ E, EnvOk E 0 → Runs Try.prog E 85 46 (SPost E [] (aI r)) [.code (C_76 116), .inLoop (C_76 116), .inBlock 0, .code (C_76 15)] ⟨[(1, (encL Tapi_Turn.cells Tapi_Turn.d l)), (2, (.op 0 0 0)), (5, (aI i))], [(0, vO 3 (Tapi_Network.cells n))], 1⟩ := by
  induction fuel with
  | zero => intro _ r h; rw [g_r05_CheckTurns_L1.eq_1] at h; cases h
  | succ fuel ih =>
    intro i r h E hE
    rw [g_r05_CheckTurns_L1.eq_2] at h
    refine Runs.sA 2 [.code (C_76 464), .code (C_76 465), .code (C_76 233), .inLoop (C_76 116), .inBlock 0, .code (C_76 15)] ?_
    refine Runs.sR hE ⟨[(1, (encL Tapi_Turn.cells Tapi_Turn.d l)), (2, (.op 0 0 0)), (5, (aI i)), (12, (aB (decide (i < ((l.length : Nat) : Int)))))], [(0, vO 3 (Tapi_Network.cells n))], 65⟩ (C_76 464) [] [] (kp [1, 2, 5, 12]) (kq [0]) 65 [] trivial ?_
    refine Runs.sC 12 (C_76 930) (C_76 931) (decide (i < ((l.length : Nat) : Int))) (fun hq3 => ?_) (fun hq3 => ?_)
    · have h := condT h hq3
      refine Runs.sA 5 [.code (C_76 3728), .code (C_76 3729), .code (C_76 1865), .inBlock 1, .code (C_76 467), .inLoop (C_76 116), .inBlock 0, .code (C_76 15)] ?_
      obtain ⟨c, h⟩ := ifSome h
      obtain ⟨rinside, hr, h⟩ := bindSome h
      refine Runs.sR hE ⟨[(1, (encL Tapi_Turn.cells Tapi_Turn.d l)), (2, (.op 0 0 0)), (5, (aI i)), (21, (aB (!rinside)))], [(0, vO 3 (Tapi_Network.cells n))], 177⟩ (C_76 3728) [(5, ⟨[], true, (aB rinside), [], 0, false⟩)] [] (kp [1, 2, 5, 21]) (kq [0]) 177 [0 ≤ i ∧ i < ((l.length : Nat) : Int), Sound Try.prog 62 [(aI ((l.getD ((i).toNat) Tapi_Turn.d).f_Minute)), (aI 0), (aI 1000000)] [] 0 (aB rinside) []] ⟨c, (g_r05_inside_ok N ((l.getD ((i).toNat) Tapi_Turn.d).f_Minute) 0 1000000 rinside hr), trivial⟩ ?_
      refine Runs.sC 21 (C_76 7458) (C_76 7459) (!rinside) (fun hq4 => ?_) (fun hq4 => ?_)
      · have h := condT h hq4
        refine Runs.sA 1 [.code (C_76 14916), .code (C_76 14917), .code (C_76 1865), .inBlock 1, .code (C_76 467), .inLoop (C_76 116), .inBlock 0, .code (C_76 15)] ?_
        refine Runs.sR hE ⟨[(4, (aI 2))], [], 193⟩ (C_76 14916) [] [] (kp [4]) [] 193 [] trivial ?_
        obtain rfl := Option.some.inj h
        refine Runs.sW hE ⟨[(4, (aI 2))], [], 193⟩ [] (kp [4]) [] 193 [] trivial ?_
        exact Runs.sT Try.f85 [] [] trivial
      · have h := condF h hq4
        refine Runs.sA 3 [.code (C_76 7460), .code (C_76 7461), .code (C_76 3731), .inBlock 1, .code (C_76 467), .inLoop (C_76 116), .inBlock 0, .code (C_76 15)] ?_
        obtain ⟨c2, h⟩ := ifSome h
        obtain ⟨c3, h⟩ := ifSome h
        refine Runs.sR hE ⟨[(1, (encL Tapi_Turn.cells Tapi_Turn.d l)), (2, (.op 0 0 0)), (5, (aI i)), (37, (aB (cond (decide (i > 0)) (decide ((l.getD ((i).toNat) Tapi_Turn.d).f_Minute < (l.getD ((w64 (i - 1)).toNat) Tapi_Turn.d).f_Minute)) false)))], [(0, vO 3 (Tapi_Network.cells n))], 433⟩ (C_76 7460) [] [] (kp [1, 2, 5, 37]) (kq [0]) 433 [(decide (i > 0)) = true → AllP [(decide (i > 0)) = true, (decide (i > 0)) = true, 0 ≤ i ∧ i < ((l.length : Nat) : Int)], (decide (i > 0)) = true → AllP [(decide (i > 0)) = true], (decide (i > 0)) = true → AllP [(decide (i > 0)) = true], (decide (i > 0)) = true → AllP [(decide (i > 0)) = true], (decide (i > 0)) = true → AllP [(decide (i > 0)) = true, (decide (i > 0)) = true, 0 ≤ (w64 (i - 1)) ∧ (w64 (i - 1)) < ((l.length : Nat) : Int)], (decide (i > 0)) = true → AllP [(decide (i > 0)) = true], (decide (i > 0)) = true → AllP [(decide (i > 0)) = true], (decide (i > 0)) = true → AllP [(decide (i > 0)) = true, (decide (i > 0)) = true], (decide (i > 0)) = true → AllP [(decide (i > 0)) = true]] ⟨(fun hg => ⟨hg, hg, (c2 hg), trivial⟩), (fun hg => ⟨hg, trivial⟩), (fun hg => ⟨hg, trivial⟩), (fun hg => ⟨hg, trivial⟩), (fun hg => ⟨hg, hg, (c3 hg), trivial⟩), (fun hg => ⟨hg, trivial⟩), (fun hg => ⟨hg, trivial⟩), (fun hg => ⟨hg, hg, trivial⟩), (fun hq => ⟨hq, trivial⟩), trivial⟩ ?_
        refine Runs.sC 37 (C_76 14922) (C_76 14923) (cond (decide (i > 0)) (decide ((l.getD ((i).toNat) Tapi_Turn.d).f_Minute < (l.getD ((w64 (i - 1)).toNat) Tapi_Turn.d).f_Minute)) false) (fun hq5 => ?_) (fun hq5 => ?_)
        · have h := condT h hq5
          refine Runs.sA 1 [.code (C_76 29844), .code (C_76 29845), .code (C_76 3731), .inBlock 1, .code (C_76 467), .inLoop (C_76 116), .inBlock 0, .code (C_76 15)] ?_
          refine Runs.sR hE ⟨[(4, (aI 10))], [], 449⟩ (C_76 29844) [] [] (kp [4]) [] 449 [] trivial ?_
          obtain rfl := Option.some.inj h
          refine Runs.sW hE ⟨[(4, (aI 10))], [], 449⟩ [] (kp [4]) [] 449 [] trivial ?_
          exact Runs.sT Try.f85 [] [] trivial
        · have h := condF h hq5
          refine Runs.sA 2 [.code (C_76 7462), .code (C_76 7463), .inBlock 1, .code (C_76 467), .inLoop (C_76 116), .inBlock 0, .code (C_76 15)] ?_
          obtain ⟨rLink, hr2, h⟩ := bindSome h
          refine Runs.sR hE ⟨[(1, (encL Tapi_Turn.cells Tapi_Turn.d l)), (2, (.op 0 0 0)), (5, (aI i)), (45, (aB (decide (rLink < 0))))], [(0, vO 3 (Tapi_Network.cells n))], 561⟩ (C_76 7462) [(6, ⟨[], true, (aI rLink), [], 0, false⟩)] [] (kp [1, 2, 5, 45]) (kq [0]) 561 [0 < 1, 0 ≤ i ∧ i < ((l.length : Nat) : Int), Sound Try.prog 37 [(.agg (Tapi_Network.cells n)), (aS ((l.getD ((i).toNat) Tapi_Turn.d).f_Link))] [] 0 (aI rLink) []] ⟨o1, c, (g_r05_Link_ok N n ((l.getD ((i).toNat) Tapi_Turn.d).f_Link) rLink hr2), trivial⟩ ?_
          refine Runs.sC 45 (C_76 14926) (C_76 14927) (decide (rLink < 0)) (fun hq6 => ?_) (fun hq6 => ?_)
          · have h := condT h hq6
            refine Runs.sA 1 [.code (C_76 29852), .code (C_76 29853), .inBlock 1, .code (C_76 467), .inLoop (C_76 116), .inBlock 0, .code (C_76 15)] ?_
            refine Runs.sR hE ⟨[(4, (aI 6))], [], 577⟩ (C_76 29852) [] [] (kp [4]) [] 577 [] trivial ?_
            obtain rfl := Option.some.inj h
            refine Runs.sW hE ⟨[(4, (aI 6))], [], 577⟩ [] (kp [4]) [] 577 [] trivial ?_
            exact Runs.sT Try.f85 [] [] trivial
          · have h := condF h hq6
            refine Runs.sA 2 [.code (C_76 467), .inLoop (C_76 116), .inBlock 0, .code (C_76 15)] ?_
            refine Runs.sR hE ⟨[(1, (encL Tapi_Turn.cells Tapi_Turn.d l)), (2, (.op 0 0 0)), (5, (aI (w64 (i + 1))))], [(0, vO 3 (Tapi_Network.cells n))], 609⟩ (C_76 467) [] [] (kp [1, 2, 5]) (kq [0]) 609 [] trivial ?_
            refine Runs.sA 1 [.code (C_76 116), .inLoop (C_76 116), .inBlock 0, .code (C_76 15)] ?_
            exact Runs.sW hE _ [] (kp [1, 2, 5]) (kq [0]) 1 [] trivial (ih (w64 (i + 1)) _ h E hE)
    · have h := condF h hq3
      refine Runs.sA 2 [.code (C_76 30), .code (C_76 31)] ?_
      refine Runs.sR hE ⟨[(4, (aI 0))], [], 81⟩ (C_76 30) [] [] (kp [4]) [] 81 [] trivial ?_
      obtain rfl := Option.some.inj h
      refine Runs.sW hE ⟨[(4, (aI 0))], [], 81⟩ [] (kp [4]) [] 81 [] trivial ?_
      exact Runs.sT Try.f85 [] [] trivial

theorem g_r05_CheckTurns_ok (N : Nat) (n : Tapi_Network) (l : List Tapi_Turn) (r : Int) (h : g_r05_CheckTurns N n l = some r) : Sound Try.prog 85 [(.agg (Tapi_Network.cells n)), (encL Tapi_Turn.cells Tapi_Turn.d l)] [] 0 (aI r) [] := by
  unfold g_r05_CheckTurns at h
  refine Sound.of_runs (fu := Try.f85) (c := C_76 1) (nt := 46) (by kernel_rfl) (by kernel_rfl) (by kernel_rfl) (by kernel_rfl) (fun hm => rfl) ?_
  intro E hE
  refine Runs.sA 1 [.code (C_76 2), .code (C_76 3)] ?_
  refine Runs.sR hE ⟨[(1, (encL Tapi_Turn.cells Tapi_Turn.d l)), (2, (.op 0 0 0))], [(0, vO 3 (Tapi_Network.cells n))], 32⟩ (C_76 2) [] [] (kp [1, 2]) (kq [0]) 32 [] trivial ?_
  refine Runs.sA 2 [.code (C_76 12), .code (C_76 13), .code (C_76 7)] ?_
  refine Runs.sR hE ⟨[(1, (encL Tapi_Turn.cells Tapi_Turn.d l)), (2, (.op 0 0 0)), (8, (aB (decide (((l.length : Nat) : Int) > 200))))], [(0, vO 3 (Tapi_Network.cells n))], 80⟩ (C_76 12) [] [] (kp [1, 2, 8]) (kq [0]) 80 [] trivial ?_
  refine Runs.sC 8 (C_76 26) (C_76 27) (decide (((l.length : Nat) : Int) > 200)) (fun hq2 => ?_) (fun hq2 => ?_)
  · have h := condT h hq2
    refine Runs.sA 1 [.code (C_76 52), .code (C_76 53), .code (C_76 7)] ?_
    refine Runs.sR hE ⟨[(4, (aI 8))], [], 96⟩ (C_76 52) [] [] (kp [4]) [] 96 [] trivial ?_
    obtain rfl := Option.some.inj h
    refine Runs.sW hE ⟨[(4, (aI 8))], [], 96⟩ [] (kp [4]) [] 96 [] trivial ?_
    exact Runs.sT Try.f85 [] [] trivial
  · have h := condF h hq2
    refine Runs.sA 3 [.code (C_76 28), .code (C_76 29), .code (C_76 15)] ?_
    refine Runs.sR hE ⟨[(1, (encL Tapi_Turn.cells Tapi_Turn.d l)), (2, (.op 0 0 0)), (5, (aI 0))], [(0, vO 3 (Tapi_Network.cells n))], 96⟩ (C_76 28) [] [] (kp [1, 2, 5]) (kq [0]) 96 [] trivial ?_
    refine Runs.sA 2 [.code (C_76 116), .inLoop (C_76 116), .inBlock 0, .code (C_76 15)] ?_
    exact Runs.sW hE _ [] (kp [1, 2, 5]) (kq [0]) 1 [] trivial (g_r05_CheckTurns_L1_ok N n l N 0 _ h E hE)

noncomputable def C_74 (n : Nat) : Code := cat (bodyOf Try.f36) (pth n)

theorem g_r05_Started_ok (N : Nat) (n : Tapi_Network) (w : Tapi_Water) (turns : List Tapi_Turn) (r : Int) (h : g_r05_Started N n w turns = some r) : Sound Try.prog 36 [(.agg (Tapi_Network.cells n)), (.agg (Tapi_Water.cells w)), (encL Tapi_Turn.cells Tapi_Turn.d turns)] [] 0 (aI r) [] := by
  unfold g_r05_Started at h
  refine Sound.of_runs (fu := Try.f36) (c := C_74 1) (nt := 23) (by kernel_rfl) (by kernel_rfl) (by kernel_rfl) (by kernel_rfl) (fun hm => rfl) ?_
  intro E hE
  refine Runs.sA 1 [.code (C_74 2), .code (C_74 3)] ?_
  refine Runs.sR hE ⟨[(2, (encL Tapi_Turn.cells Tapi_Turn.d turns)), (3, (.op 0 0 0)), (4, (.op 16 0 0))], [(0, vO 3 (Tapi_Network.cells n)), (16, vO 3 (Tapi_Water.cells w))], 48⟩ (C_74 2) [] [] (kp [2, 3, 4]) (kq [0, 16]) 48 [] trivial ?_
  refine Runs.sA 2 [.code (C_74 12), .code (C_74 13), .code (C_74 7)] ?_
  obtain ⟨rCheckNetwork, hr, h⟩ := bindSome h
  refine Runs.sR hE ⟨[(2, (encL Tapi_Turn.cells Tapi_Turn.d turns)), (3, (.op 0 0 0)), (4, (.op 16 0 0)), (7, (aI rCheckNetwork))], [(0, vO 3 (Tapi_Network.cells n)), (16, vO 3 (Tapi_Water.cells w))], 96⟩ (C_74 12) [(1, ⟨[], true, (aI rCheckNetwork), [], 0, false⟩)] [] (kp [2, 3, 4, 7]) (kq [0, 16]) 96 [0 < 1, Sound Try.prog 27 [(.agg (Tapi_Network.cells n))] [] 0 (aI rCheckNetwork) []] ⟨o1, (g_r05_CheckNetwork_ok N n rCheckNetwork hr), trivial⟩ ?_
  refine Runs.sA 1 [.code (C_74 26), .code (C_74 27), .code (C_74 7)] ?_
  refine Runs.sR hE ⟨[(2, (encL Tapi_Turn.cells Tapi_Turn.d turns)), (3, (.op 0 0 0)), (4, (.op 16 0 0)), (7, (aI rCheckNetwork)), (12, (aB (rCheckNetwork != 0)))], [(0, vO 3 (Tapi_Network.cells n)), (16, vO 3 (Tapi_Water.cells w))], 128⟩ (C_74 26) [] [] (kp [2, 3, 4, 7, 12]) (kq [0, 16]) 128 [] trivial ?_
  refine Runs.sC 12 (C_74 54) (C_74 55) (rCheckNetwork != 0) (fun hq2 => ?_) (fun hq2 => ?_)
  · have h := condT h hq2
    refine Runs.sA 1 [.code (C_74 108), .code (C_74 109), .code (C_74 7)] ?_
    refine Runs.sR hE ⟨[(6, (aI rCheckNetwork))], [], 160⟩ (C_74 108) [] [] (kp [6]) [] 160 [] trivial ?_
    obtain rfl := Option.some.inj h
    refine Runs.sW hE ⟨[(6, (aI rCheckNetwork))], [], 160⟩ [] (kp [6]) [] 160 [] trivial ?_
    exact Runs.sT Try.f36 [] [] trivial
  · have h := condF h hq2
    refine Runs.sA 3 [.code (C_74 28), .code (C_74 29), .code (C_74 15)] ?_
    obtain ⟨rCheckWater, hr2, h⟩ := bindSome h
    refine Runs.sR hE ⟨[(2, (encL Tapi_Turn.cells Tapi_Turn.d turns)), (3, (.op 0 0 0)), (8, (aI rCheckWater))], [(0, vO 3 (Tapi_Network.cells n))], 192⟩ (C_74 28) [(2, ⟨[], true, (aI rCheckWater), [], 0, false⟩)] [] (kp [2, 3, 8]) (kq [0]) 192 [0 < 1, 0 < 1, Sound Try.prog 84 [(.agg (Tapi_Network.cells n)), (.agg (Tapi_Water.cells w))] [] 0 (aI rCheckWater) []] ⟨o1, o1, (g_r05_CheckWater_ok N n w rCheckWater hr2), trivial⟩ ?_
    refine Runs.sA 1 [.code (C_74 58), .code (C_74 59), .code (C_74 15)] ?_
    refine Runs.sR hE ⟨[(2, (encL Tapi_Turn.cells Tapi_Turn.d turns)), (3, (.op 0 0 0)), (8, (aI rCheckWater)), (18, (aB (rCheckWater != 0)))], [(0, vO 3 (Tapi_Network.cells n))], 224⟩ (C_74 58) [] [] (kp [2, 3, 8, 18]) (kq [0]) 224 [] trivial ?_
    refine Runs.sC 18 (C_74 118) (C_74 119) (rCheckWater != 0) (fun hq3 => ?_) (fun hq3 => ?_)
    · have h := condT h hq3
      refine Runs.sA 1 [.code (C_74 236), .code (C_74 237), .code (C_74 15)] ?_
      refine Runs.sR hE ⟨[(6, (aI rCheckWater))], [], 256⟩ (C_74 236) [] [] (kp [6]) [] 256 [] trivial ?_
      obtain rfl := Option.some.inj h
      refine Runs.sW hE ⟨[(6, (aI rCheckWater))], [], 256⟩ [] (kp [6]) [] 256 [] trivial ?_
      exact Runs.sT Try.f36 [] [] trivial
    · have h := condF h hq3
      refine Runs.sA 2 [.code (C_74 30), .code (C_74 31)] ?_
      obtain ⟨rCheckTurns, hr3, h⟩ := bindSome h
      refine Runs.sR hE ⟨[(6, (aI rCheckTurns))], [], 288⟩ (C_74 30) [(2, ⟨[], true, (aI rCheckTurns), [], 0, false⟩)] [] (kp [6]) [] 288 [0 < 1, Sound Try.prog 85 [(.agg (Tapi_Network.cells n)), (encL Tapi_Turn.cells Tapi_Turn.d turns)] [] 0 (aI rCheckTurns) []] ⟨o1, (g_r05_CheckTurns_ok N n turns rCheckTurns hr3), trivial⟩ ?_
      obtain rfl := Option.some.inj h
      refine Runs.sW hE ⟨[(6, (aI rCheckTurns))], [], 288⟩ [] (kp [6]) [] 288 [] trivial ?_
      exact Runs.sT Try.f36 [] [] trivial

noncomputable def C_77 (n : Nat) : Code := cat (bodyOf Try.f38) (pth n)

theorem g_r05_Levels_L1_ok (N : Nat) (n : Tapi_Network) (w : Tapi_Water) (fuel : Nat) : ∀ (out : List Int) (i : Int) (r : (List Int)), g_r05_Levels_L1 N n w fuel out i = some r → ∀ E, EnvOk E 0 → Runs Try.prog E 38 29 (SPost E [] (encL cI 0 r)) [.code (C_77 116), .inLoop (C_77 116), .inBlock 0, .code (C_77 15)] ⟨[(2, (.op 0 0 0)), (3, (.op 1 0 0)), (5, (.os 2 0 out.length)), (6, (aI i))], [(0, vO 3 (Tapi_Network.cells n)), (1, vO 3 (Tapi_Water.cells w)), (2, aO 1 cI 0 out)], 3⟩ := by
  induction fuel with
  | zero => intro _ _ r h; rw [g_r05_Levels_L1.eq_1] at h; cases h
  | succ fuel ih =>
    intro out i r h E hE
    rw [g_r05_Levels_L1.eq_2] at h
    refine Runs.sA 2 [.code (C_77 464), .code (C_77 465), .code (C_77 233), .inLoop (C_77 116), .inBlock 0, .code (C_77 15)] ?_
    refine Runs.sR hE ⟨[(2, (.op 0 0 0)), (3, (.op 1 0 0)), (5, (.os 2 0 out.length)), (6, (aI i)), (11, (aB (decide (i < ((n.f_Basins.length : Nat) : Int)))))], [(0, vO 3 (Tapi_Network.cells n)), (1, vO 3 (Tapi_Water.cells w)), (2, aO 1 cI 0 out)], 83⟩ (C_77 464) [] [] (kp [2, 3, 5, 6, 11]) (kq [0, 1, 2]) 83 [0 < 1] ⟨o1, trivial⟩ ?_
    refine Runs.sC 11 (C_77 930) (C_77 931) (decide (i < ((n.f_Basins.length : Nat) : Int))) (fun hq2 => ?_) (fun hq2 => ?_)
    · have h := condT h hq2
      refine Runs.sA 3 [.code (C_77 932), .inBlock 1, .code (C_77 467), .inLoop (C_77 116), .inBlock 0, .code (C_77 15)] ?_
      obtain ⟨c, h⟩ := ifSome h
      obtain ⟨c2, h⟩ := ifSome h
      obtain ⟨rLevelOf, hr, h⟩ := bindSome h
      obtain ⟨c3, h⟩ := ifSome h
      refine Runs.sR hE ⟨[(2, (.op 0 0 0)), (3, (.op 1 0 0)), (5, (.os 291 0 ((out ++ ([rLevelOf] : List Int)).length))), (6, (aI i))], [(0, vO 3 (Tapi_Network.cells n)), (1, vO 3 (Tapi_Water.cells w)), (291, aO 1 cI 0 (out ++ ([rLevelOf] : List Int)))], 323⟩ (C_77 932) [(11, ⟨[], true, (aI rLevelOf), [], 0, false⟩)] [] (kp [2, 3] ++ [(5, .osl ((out ++ ([rLevelOf] : List Int)).length))] ++ kp [6]) (kq [0, 1] ++ [(291, .arr 291 ((out ++ ([rLevelOf] : List Int)).length) (fun zi => cI ((out ++ ([rLevelOf] : List Int)).getD zi 0)))]) 323 [0 < 1, 0 ≤ i ∧ i < ((n.f_Basins.length : Nat) : Int), 0 < 1, 0 ≤ i ∧ i < ((w.f_Litres.length : Nat) : Int), Sound Try.prog 66 [(.agg (Tapi_Basin.cells (n.f_Basins.getD ((i).toNat) Tapi_Basin.d))), (aI (w.f_Litres.getD ((i).toNat) 0))] [] 0 (aI rLevelOf) [], out.length = out.length, (out.length + 1) * 8 ≤ 140737488355328, 0 + 1 ≤ 1, ∀ zi, zi < 1 → AV.oneL ((fun zi => ([[(aI rLevelOf)]] : List (List AV)).getD zi []) (addz 0 zi)) = true, (out.length + 1) = (out ++ ([rLevelOf] : List Int)).length, out.length + 1 = (out ++ ([rLevelOf] : List Int)).length, ∀ zi, zi < (out ++ ([rLevelOf] : List Int)).length → (fun zi => cI ((out ++ ([rLevelOf] : List Int)).getD zi 0)) zi = ((fun zm => if zm < out.length then (fun zi => cI (out.getD zi 0)) zm else (fun zi => ([[(aI rLevelOf)]] : List (List AV)).getD zi []) (zm - out.length))) zi] ⟨o1, c, o1, c2, (g_r05_LevelOf_ok N (n.f_Basins.getD ((i).toNat) Tapi_Basin.d) (w.f_Litres.getD ((i).toNat) 0) rLevelOf hr), rfl, c3, z0, (oneN rfl), (len_app_raw rfl rfl), (len_app_raw rfl rfl), (get_app_raw cI 0 out ([rLevelOf] : List Int) rfl (fun _ _ => rfl) (fun zq hzq => get_chunk cI 0 ([rLevelOf] : List Int) zq hzq)), trivial⟩ ?_
      refine Runs.sA 1 [.code (C_77 467), .inLoop (C_77 116), .inBlock 0, .code (C_77 15)] ?_
      refine Runs.sR hE ⟨[(2, (.op 0 0 0)), (3, (.op 1 0 0)), (5, (.os 291 0 ((out ++ ([rLevelOf] : List Int)).length))), (6, (aI (w64 (i + 1))))], [(0, vO 3 (Tapi_Network.cells n)), (1, vO 3 (Tapi_Water.cells w)), (291, aO 1 cI 0 (out ++ ([rLevelOf] : List Int)))], 371⟩ (C_77 467) [] [] (kp [2, 3, 5, 6]) (kq [0, 1, 291]) 371 [] trivial ?_
      refine Runs.sA 1 [.code (C_77 116), .inLoop (C_77 116), .inBlock 0, .code (C_77 15)] ?_
      exact Runs.sW hE _ [] (kp [2, 3, 5, 6]) (kq [0, 1] ++ [(2, .keep 291)]) 3 [] trivial (ih (out ++ ([rLevelOf] : List Int)) (w64 (i + 1)) _ h E hE)
    · have h := condF h hq2
      refine Runs.sA 2 [.code (C_77 30), .code (C_77 31)] ?_
      refine Runs.sR hE ⟨[(4, (.os 2 0 out.length))], [(2, aO 1 cI 0 out)], 115⟩ (C_77 30) [] [] (kp [4]) (kq [2]) 115 [] trivial ?_
      obtain rfl := Option.some.inj h
      refine Runs.sW hE ⟨[(4, (encL cI 0 out))], [], 115⟩ [2] [(4, .sl (out.length) (fun zi => cI (out.getD zi 0)))] [] 115 [out.length = out.length, 0 + out.length ≤ out.length, ∀ zi, zi < out.length → (fun zi => cI (out.getD zi 0)) zi = (fun zi => cI (out.getD zi 0)) (addz 0 zi)] ⟨rfl, z0, (fun _ _ => rfl), trivial⟩ ?_
      exact Runs.sT Try.f38 [] [] trivial

theorem g_r05_Levels_ok (N : Nat) (n : Tapi_Network) (w : Tapi_Water) (r : (List Int)) (h : g_r05_Levels N n w = some r) : Sound Try.prog 38 [(.agg (Tapi_Network.cells n)), (.agg (Tapi_Water.cells w))] [] 0 (encL cI 0 r) [] := by
  unfold g_r05_Levels at h
  refine Sound.of_runs (fu := Try.f38) (c := C_77 1) (nt := 29) (by kernel_rfl) (by kernel_rfl) (by kernel_rfl) (by kernel_rfl) (fun hm => rfl) ?_
  intro E hE
  refine Runs.sA 1 [.code (C_77 2), .code (C_77 3)] ?_
  refine Runs.sR hE ⟨[(2, (.op 0 0 0)), (3, (.op 16 0 0))], [(0, vO 3 (Tapi_Network.cells n)), (16, vO 3 (Tapi_Water.cells w))], 48⟩ (C_77 2) [] [] (kp [2, 3]) (kq [0, 16]) 48 [] trivial ?_
  refine Runs.sA 1 [.code (C_77 6), .code (C_77 7)] ?_
  refine Runs.sR hE ⟨[(2, (.op 0 0 0)), (3, (.op 16 0 0)), (5, .nil)], [(0, vO 3 (Tapi_Network.cells n)), (16, vO 3 (Tapi_Water.cells w))], 64⟩ (C_77 6) [] [] (kp [2, 3, 5]) (kq [0, 16]) 64 [] trivial ?_
  refine Runs.sA 2 [.code (C_77 28), .code (C_77 29), .code (C_77 15)] ?_
  refine Runs.sR hE ⟨[(2, (.op 0 0 0)), (3, (.op 16 0 0)), (5, .nil), (6, (aI 0))], [(0, vO 3 (Tapi_Network.cells n)), (16, vO 3 (Tapi_Water.cells w))], 80⟩ (C_77 28) [] [] (kp [2, 3, 5, 6]) (kq [0, 16]) 80 [] trivial ?_
  refine Runs.sA 2 [.code (C_77 116), .inLoop (C_77 116), .inBlock 0, .code (C_77 15)] ?_
  exact Runs.sW hE _ [] (kp [2, 3] ++ [(5, .nilos 2)] ++ kp [6]) (kq [0] ++ [(1, .keep 16), (2, .nil 1 (fun zi => cI (([] : List Int).getD zi 0)))]) 3 [] trivial (g_r05_Levels_L1_ok N n w N ([] : List Int) 0 _ h E hE)

noncomputable def C_79 (n : Nat) : Code := cat (bodyOf Try.f86) (pth n)

theorem g_r05_height_ok (N : Nat) (n : Tapi_Network) (w : Tapi_Water) (name : ByteArray) (r : Int) (h : g_r05_height N n w name = some r) : Sound Try.prog 86 [(.agg (Tapi_Network.cells n)), (.agg (Tapi_Water.cells w)), (aS name)] [] 0 (aI r) [] := by
  unfold g_r05_height at h
  refine Sound.of_runs (fu := Try.f86) (c := C_79 1) (nt := 29) (by kernel_rfl) (by kernel_rfl) (by kernel_rfl) (by kernel_rfl) (fun hm => rfl) ?_
  intro E hE
  refine Runs.sA 1 [.code (C_79 2), .code (C_79 3)] ?_
  refine Runs.sR hE ⟨[(2, (aS name)), (3, (.op 0 0 0)), (4, (.op 16 0 0))], [(0, vO 3 (Tapi_Network.cells n)), (16, vO 3 (Tapi_Water.cells w))], 48⟩ (C_79 2) [] [] (kp [2, 3, 4]) (kq [0, 16]) 48 [] trivial ?_
  refine Runs.sA 2 [.code (C_79 12), .code (C_79 13), .code (C_79 7)] ?_
  refine Runs.sR hE ⟨[(2, (aS name)), (3, (.op 0 0 0)), (4, (.op 16 0 0)), (9, (aB (streq name ByteArray.empty)))], [(0, vO 3 (Tapi_Network.cells n)), (16, vO 3 (Tapi_Water.cells w))], 80⟩ (C_79 12) [] [] (kp [2, 3, 4, 9]) (kq [0, 16]) 80 [] trivial ?_
  refine Runs.sC 9 (C_79 26) (C_79 27) (streq name ByteArray.empty) (fun hq2 => ?_) (fun hq2 => ?_)
  · have h := condT h hq2
    refine Runs.sA 1 [.code (C_79 52), .code (C_79 53), .code (C_79 7)] ?_
    obtain ⟨rAt, hr, h⟩ := bindSome h
    refine Runs.sR hE ⟨[(6, (aI rAt))], [], 176⟩ (C_79 52) [(4, ⟨[], true, (aI rAt), [], 0, false⟩)] [] (kp [6]) [] 176 [0 < 1, 0 < 1, Sound Try.prog 71 [(encL Tapi_Mark.cells Tapi_Mark.d n.f_Sea), (aI w.f_Minute)] [] 0 (aI rAt) []] ⟨o1, o1, (g_r05_At_ok N n.f_Sea w.f_Minute rAt hr), trivial⟩ ?_
    obtain rfl := Option.some.inj h
    refine Runs.sW hE ⟨[(6, (aI rAt))], [], 176⟩ [] (kp [6]) [] 176 [] trivial ?_
    exact Runs.sT Try.f86 [] [] trivial
  · have h := condF h hq2
    refine Runs.sA 2 [.code (C_79 14), .code (C_79 15)] ?_
    obtain ⟨rBasin, hr2, h⟩ := bindSome h
    refine Runs.sR hE ⟨[(3, (.op 0 0 0)), (4, (.op 16 0 0)), (7, (aI rBasin))], [(0, vO 3 (Tapi_Network.cells n)), (16, vO 3 (Tapi_Water.cells w))], 144⟩ (C_79 14) [(2, ⟨[], true, (aI rBasin), [], 0, false⟩)] [] (kp [3, 4, 7]) (kq [0, 16]) 144 [0 < 1, Sound Try.prog 55 [(.agg (Tapi_Network.cells n)), (aS name)] [] 0 (aI rBasin) []] ⟨o1, (g_r05_Basin_ok N n name rBasin hr2), trivial⟩ ?_
    refine Runs.sA 1 [.code (C_79 30), .code (C_79 31)] ?_
    obtain ⟨c, h⟩ := ifSome h
    obtain ⟨c2, h⟩ := ifSome h
    obtain ⟨rLevelOf, hr3, h⟩ := bindSome h
    refine Runs.sR hE ⟨[(6, (aI rLevelOf))], [], 336⟩ (C_79 30) [(10, ⟨[], true, (aI rLevelOf), [], 0, false⟩)] [] (kp [6]) [] 336 [0 < 1, 0 ≤ rBasin ∧ rBasin < ((n.f_Basins.length : Nat) : Int), 0 < 1, 0 ≤ rBasin ∧ rBasin < ((w.f_Litres.length : Nat) : Int), Sound Try.prog 66 [(.agg (Tapi_Basin.cells (n.f_Basins.getD ((rBasin).toNat) Tapi_Basin.d))), (aI (w.f_Litres.getD ((rBasin).toNat) 0))] [] 0 (aI rLevelOf) []] ⟨o1, c, o1, c2, (g_r05_LevelOf_ok N (n.f_Basins.getD ((rBasin).toNat) Tapi_Basin.d) (w.f_Litres.getD ((rBasin).toNat) 0) rLevelOf hr3), trivial⟩ ?_
    obtain rfl := Option.some.inj h
    refine Runs.sW hE ⟨[(6, (aI rLevelOf))], [], 336⟩ [] (kp [6]) [] 336 [] trivial ?_
    exact Runs.sT Try.f86 [] [] trivial

noncomputable def C_83 (n : Nat) : Code := cat (bodyOf Try.f92) (pth n)

theorem g_r05_Copy_ok (N : Nat) (w : Tapi_Water) (r : Tapi_Water) (h : g_r05_Copy N w = some r) : Sound Try.prog 92 [(.agg (Tapi_Water.cells w))] [] 0 (.agg [(aI r.f_Minute), (.os 0 0 r.f_Litres.length), (.os 1 0 r.f_Open.length)]) [(0, aO 1 cI 0 r.f_Litres), (1, aO 1 cB false r.f_Open)] := by
  unfold g_r05_Copy at h
  refine Sound.of_runs (fu := Try.f92) (c := C_83 1) (nt := 14) (by kernel_rfl) (by kernel_rfl) (by kernel_rfl) (by kernel_rfl) (fun hm => rfl) ?_
  intro E hE
  refine Runs.sA 1 [.code (C_83 2), .code (C_83 3)] ?_
  refine Runs.sR hE ⟨[(1, (.op 0 0 0)), (2, (.op 16 0 0))], [(0, vO 3 (Tapi_Water.cells w)), (16, vO 3 [(aI 0), .nil, .nil])], 32⟩ (C_83 2) [] [] (kp [1, 2]) (kq [0, 16]) 32 [] trivial ?_
  refine Runs.sA 1 [.code (C_83 6), .code (C_83 7)] ?_
  obtain ⟨c, h⟩ := ifSome h
  obtain ⟨c2, h⟩ := ifSome h
  refine Runs.sR hE ⟨[(2, (.op 16 0 0))], [(16, vN 3 [(aI w.f_Minute), (.os 112 0 ((([] : List Int) ++ w.f_Litres).length)), (.os 176 0 ((([] : List Bool) ++ w.f_Open).length))]), (112, aO 1 cI 0 (([] : List Int) ++ w.f_Litres)), (176, aO 1 cB false (([] : List Bool) ++ w.f_Open))], 224⟩ (C_83 6) [] [] (kp [2]) [(16, .var 16 [.keep, .osl ((([] : List Int) ++ w.f_Litres).length), .osl ((([] : List Bool) ++ w.f_Open).length)]), (112, .arr 112 ((([] : List Int) ++ w.f_Litres).length) (fun zi => cI ((([] : List Int) ++ w.f_Litres).getD zi 0))), (176, .arr 176 ((([] : List Bool) ++ w.f_Open).length) (fun zi => cB ((([] : List Bool) ++ w.f_Open).getD zi false)))] 224 [0 < 1, 0 < 1, 0 = 0, (0 + w.f_Litres.length) * 8 ≤ 140737488355328, ∀ zi, zi < w.f_Litres.length → AV.oneL ((fun zi => cI (w.f_Litres.getD zi 0)) zi) = true, 0 < 1, 0 = 0, (0 + w.f_Open.length) * 1 ≤ 140737488355328, ∀ zi, zi < w.f_Open.length → AV.oneL ((fun zi => cB (w.f_Open.getD zi false)) zi) = true, 0 < 1, (0 + w.f_Litres.length) = (([] : List Int) ++ w.f_Litres).length, (0 + w.f_Open.length) = (([] : List Bool) ++ w.f_Open).length, 0 + w.f_Litres.length = (([] : List Int) ++ w.f_Litres).length, ∀ zi, zi < (([] : List Int) ++ w.f_Litres).length → (fun zi => cI ((([] : List Int) ++ w.f_Litres).getD zi 0)) zi = ((fun zm => if zm < 0 then (fun _ => []) zm else (fun zi => cI (w.f_Litres.getD zi 0)) (zm - 0))) zi, 0 + w.f_Open.length = (([] : List Bool) ++ w.f_Open).length, ∀ zi, zi < (([] : List Bool) ++ w.f_Open).length → (fun zi => cB ((([] : List Bool) ++ w.f_Open).getD zi false)) zi = ((fun zm => if zm < 0 then (fun _ => []) zm else (fun zi => cB (w.f_Open.getD zi false)) (zm - 0))) zi] ⟨o1, o1, rfl, c, (fun _ _ => rfl), o1, rfl, c2, (fun _ _ => rfl), o1, (len_app_raw rfl rfl), (len_app_raw rfl rfl), (len_app_raw rfl rfl), (get_app_raw cI 0 ([] : List Int) w.f_Litres rfl (fun zq hzq => absurd hzq (Nat.not_lt_zero _)) (fun _ _ => rfl)), (len_app_raw rfl rfl), (get_app_raw cB false ([] : List Bool) w.f_Open rfl (fun zq hzq => absurd hzq (Nat.not_lt_zero _)) (fun _ _ => rfl)), trivial⟩ ?_
  obtain rfl := Option.some.inj h
  refine Runs.sW hE ⟨[(2, (.op 16 0 0))], [(0, aO 1 cI 0 (([] : List Int) ++ w.f_Litres)), (1, aO 1 cB false (([] : List Bool) ++ w.f_Open)), (16, vN 3 [(aI w.f_Minute), (.os 0 0 ((([] : List Int) ++ w.f_Litres).length)), (.os 1 0 ((([] : List Bool) ++ w.f_Open).length))])], 224⟩ [] (kp [2]) [(0, .keep 112), (1, .keep 176), (16, .var 16 [.keep, .keep, .keep])] 224 [] trivial ?_
  exact Runs.sT Try.f92 [16] [0 < 1] ⟨o1, trivial⟩

noncomputable def C_82 (n : Nat) : Code := cat (bodyOf Try.f93) (pth n)

theorem g_r05_moved_J2_ok (N : Nat) (rCopy : Tapi_Water) (out2 : List Int) (r : Tapi_Water) (h : g_r05_moved_J2 N rCopy out2 = some r) : ∀ E, EnvOk E 0 → Runs Try.prog E 93 49 (SPost E [(0, aO 1 cI 0 r.f_Litres), (1, aO 1 cB false r.f_Open)] (.agg [(aI r.f_Minute), (.os 0 0 r.f_Litres.length), (.os 1 0 r.f_Open.length)])) [.code (C_82 62), .code (C_82 63)] ⟨[(10, (.op 0 0 0)), (11, (.op 1 0 0))], [(0, vO 3 [(aI 0), .nil, .nil]), (1, vN 3 [(aI rCopy.f_Minute), (.os 2 0 out2.length), (.os 3 0 rCopy.f_Open.length)]), (2, aO 1 cI 0 out2), (3, aO 1 cB false rCopy.f_Open)], 4⟩ := by
  intro E hE
  unfold g_r05_moved_J2 at h
  refine Runs.sR hE ⟨[(10, (.op 0 0 0))], [(0, vN 3 [(aI rCopy.f_Minute), (.os 2 0 out2.length), (.os 3 0 rCopy.f_Open.length)]), (2, aO 1 cI 0 out2), (3, aO 1 cB false rCopy.f_Open)], 36⟩ (C_82 62) [] [] (kp [10]) (kq [0, 2, 3]) 36 [0 < 1, 0 < 1] ⟨o1, o1, trivial⟩ ?_
  obtain rfl := Option.some.inj h
  refine Runs.sW hE ⟨[(10, (.op 16 0 0))], [(0, aO 1 cI 0 out2), (1, aO 1 cB false rCopy.f_Open), (16, vN 3 [(aI rCopy.f_Minute), (.os 0 0 out2.length), (.os 1 0 rCopy.f_Open.length)])], 48⟩ [] (kp [10]) [(0, .keep 2), (1, .keep 3), (16, .var 0 [.keep, .keep, .keep])] 48 [] trivial ?_
  exact Runs.sT Try.f93 [16] [0 < 1] ⟨o1, trivial⟩

theorem g_r05_moved_J1_ok (N : Nat) (n : Tapi_Network) (vto : ByteArray) (q : Int) (rCopy : Tapi_Water) (out : List Int) (r : Tapi_Water) (h : g_r05_moved_J1 N n vto q rCopy out = some r) : ∀ E, EnvOk E 0 → Runs Try.prog E 93 49 (SPost E [(0, aO 1 cI 0 r.f_Litres), (1, aO 1 cB false r.f_Open)] (.agg [(aI r.f_Minute), (.os 0 0 r.f_Litres.length), (.os 1 0 r.f_Open.length)])) [.code (C_82 60), .code (C_82 61), .code (C_82 31)] ⟨[(3, (aS vto)), (4, (aI q)), (5, (.op 0 0 0)), (10, (.op 1 0 0)), (11, (.op 2 0 0))], [(0, vO 3 (Tapi_Network.cells n)), (1, vO 3 [(aI 0), .nil, .nil]), (2, vN 3 [(aI rCopy.f_Minute), (.os 3 0 out.length), (.os 4 0 rCopy.f_Open.length)]), (3, aO 1 cI 0 out), (4, aO 1 cB false rCopy.f_Open)], 5⟩ := by
  intro E hE
  unfold g_r05_moved_J1 at h
  obtain ⟨rBasin2, hr3, h⟩ := bindSome h
  refine Runs.sR hE ⟨[(4, (aI q)), (10, (.op 1 0 0)), (11, (.op 2 0 0)), (13, (aI rBasin2))], [(1, vO 3 [(aI 0), .nil, .nil]), (2, vN 3 [(aI rCopy.f_Minute), (.os 3 0 out.length), (.os 4 0 rCopy.f_Open.length)]), (3, aO 1 cI 0 out), (4, aO 1 cB false rCopy.f_Open)], 69⟩ (C_82 60) [(2, ⟨[], true, (aI rBasin2), [], 0, false⟩)] [] (kp [4, 10, 11, 13]) (kq [1, 2, 3, 4]) 69 [0 < 1, Sound Try.prog 55 [(.agg (Tapi_Network.cells n)), (aS vto)] [] 0 (aI rBasin2) []] ⟨o1, (g_r05_Basin_ok N n vto rBasin2 hr3), trivial⟩ ?_
  refine Runs.sA 1 [.code (C_82 122), .code (C_82 123), .code (C_82 31)] ?_
  refine Runs.sR hE ⟨[(4, (aI q)), (10, (.op 1 0 0)), (11, (.op 2 0 0)), (13, (aI rBasin2)), (36, (aB (decide (rBasin2 ≥ 0))))], [(1, vO 3 [(aI 0), .nil, .nil]), (2, vN 3 [(aI rCopy.f_Minute), (.os 3 0 out.length), (.os 4 0 rCopy.f_Open.length)]), (3, aO 1 cI 0 out), (4, aO 1 cB false rCopy.f_Open)], 101⟩ (C_82 122) [] [] (kp [4, 10, 11, 13, 36]) (kq [1, 2, 3, 4]) 101 [] trivial ?_
  refine Runs.sC 36 (C_82 246) (C_82 247) (decide (rBasin2 ≥ 0)) (fun hq3 => ?_) (fun hq3 => ?_)
  · have h := condT h hq3
    obtain ⟨c2, h⟩ := ifSome h
    refine Runs.sR hE ⟨[(10, (.op 1 0 0)), (11, (.op 2 0 0))], [(1, vO 3 [(aI 0), .nil, .nil]), (2, vN 3 [(aI rCopy.f_Minute), (.os 3 0 ((out.set ((rBasin2).toNat) (w64 ((out.getD ((rBasin2).toNat) 0) + q))).length)), (.os 4 0 rCopy.f_Open.length)]), (3, aO 1 cI 0 (out.set ((rBasin2).toNat) (w64 ((out.getD ((rBasin2).toNat) 0) + q)))), (4, aO 1 cB false rCopy.f_Open)], 293⟩ (C_82 246) [] [] (kp [10, 11]) (kq [1] ++ [(2, .var 2 [.keep, .osl ((out.set ((rBasin2).toNat) (w64 ((out.getD ((rBasin2).toNat) 0) + q))).length), .keep]), (3, .arr 3 ((out.set ((rBasin2).toNat) (w64 ((out.getD ((rBasin2).toNat) 0) + q))).length) (fun zi => cI ((out.set ((rBasin2).toNat) (w64 ((out.getD ((rBasin2).toNat) 0) + q))).getD zi 0)))] ++ kq [4]) 293 [0 < 1, 0 < 1, 0 ≤ rBasin2 ∧ rBasin2 < ((out.length : Nat) : Int), (rBasin2).toNat < out.length, 0 ≤ rBasin2 ∧ rBasin2 < ((out.length : Nat) : Int), (rBasin2).toNat < out.length, out.length = (out.set ((rBasin2).toNat) (w64 ((out.getD ((rBasin2).toNat) 0) + q))).length, out.length = (out.set ((rBasin2).toNat) (w64 ((out.getD ((rBasin2).toNat) 0) + q))).length, ∀ zi, zi < (out.set ((rBasin2).toNat) (w64 ((out.getD ((rBasin2).toNat) 0) + q))).length → (fun zi => cI ((out.set ((rBasin2).toNat) (w64 ((out.getD ((rBasin2).toNat) 0) + q))).getD zi 0)) zi = ((fun zm => if zm = (rBasin2).toNat then [(aI (w64 ((out.getD ((rBasin2).toNat) 0) + q)))] else (fun zi => cI (out.getD zi 0)) zm)) zi] ⟨o1, o1, c2, (ltOf c2), c2, (ltOf c2), (len_set_raw rfl), (len_set_raw rfl), (get_set_raw cI 0 out ((rBasin2).toNat) (w64 ((out.getD ((rBasin2).toNat) 0) + q)) (fun _ _ => rfl)), trivial⟩ ?_
    refine Runs.sA 1 [.code (C_82 62), .code (C_82 63)] ?_
    exact Runs.sW hE _ [] (kp [10, 11]) [(0, .keep 1), (1, .keep 2), (2, .keep 3), (3, .keep 4)] 4 [] trivial (g_r05_moved_J2_ok N rCopy (out.set ((rBasin2).toNat) (w64 ((out.getD ((rBasin2).toNat) 0) + q))) _ h E hE)
  · have h := condF h hq3
    refine Runs.sA 2 [.code (C_82 62), .code (C_82 63)] ?_
    exact Runs.sW hE _ [] (kp [10, 11]) [(0, .keep 1), (1, .keep 2), (2, .keep 3), (3, .keep 4)] 4 [] trivial (g_r05_moved_J2_ok N rCopy out _ h E hE)

theorem g_r05_moved_ok (N : Nat) (n : Tapi_Network) (w : Tapi_Water) (vfrom : ByteArray) (vto : ByteArray) (q : Int) (r : Tapi_Water) (h : g_r05_moved N n w vfrom vto q = some r) : Sound Try.prog 93 [(.agg (Tapi_Network.cells n)), (.agg (Tapi_Water.cells w)), (aS vfrom), (aS vto), (aI q)] [] 0 (.agg [(aI r.f_Minute), (.os 0 0 r.f_Litres.length), (.os 1 0 r.f_Open.length)]) [(0, aO 1 cI 0 r.f_Litres), (1, aO 1 cB false r.f_Open)] := by
  unfold g_r05_moved at h
  refine Sound.of_runs (fu := Try.f93) (c := C_82 1) (nt := 49) (by kernel_rfl) (by kernel_rfl) (by kernel_rfl) (by kernel_rfl) (fun hm => rfl) ?_
  intro E hE
  refine Runs.sA 1 [.code (C_82 2), .code (C_82 3)] ?_
  refine Runs.sR hE ⟨[(2, (aS vfrom)), (3, (aS vto)), (4, (aI q)), (5, (.op 0 0 0)), (6, (.op 16 0 0)), (10, (.op 32 0 0))], [(0, vO 3 (Tapi_Network.cells n)), (16, vO 3 (Tapi_Water.cells w)), (32, vO 3 [(aI 0), .nil, .nil])], 48⟩ (C_82 2) [] [] (kp [2, 3, 4, 5, 6, 10]) (kq [0, 16, 32]) 48 [] trivial ?_
  refine Runs.sA 1 [.code (C_82 6), .code (C_82 7)] ?_
  obtain ⟨rCopy, hr, h⟩ := bindSome h
  refine Runs.sR hE ⟨[(2, (aS vfrom)), (3, (aS vto)), (4, (aI q)), (5, (.op 0 0 0)), (10, (.op 32 0 0)), (11, (.op 80 0 0))], [(0, vO 3 (Tapi_Network.cells n)), (32, vO 3 [(aI 0), .nil, .nil]), (64, aO 1 cI 0 rCopy.f_Litres), (65, aO 1 cB false rCopy.f_Open), (80, vN 3 [(aI rCopy.f_Minute), (.os 64 0 rCopy.f_Litres.length), (.os 65 0 rCopy.f_Open.length)])], 112⟩ (C_82 6) [(1, ⟨[], false, (.agg [(aI rCopy.f_Minute), (.os 0 0 rCopy.f_Litres.length), (.os 1 0 rCopy.f_Open.length)]), [(0, aO 1 cI 0 rCopy.f_Litres), (1, aO 1 cB false rCopy.f_Open)], 0, false⟩)] [] (kp [2, 3, 4, 5, 10, 11]) (kq [0, 32, 64, 65, 80]) 112 [0 < 1, Sound Try.prog 92 [(.agg (Tapi_Water.cells w))] [] 0 (.agg [(aI rCopy.f_Minute), (.os 0 0 rCopy.f_Litres.length), (.os 1 0 rCopy.f_Open.length)]) [(0, aO 1 cI 0 rCopy.f_Litres), (1, aO 1 cB false rCopy.f_Open)], 0 < 1] ⟨o1, (g_r05_Copy_ok N w rCopy hr), o1, trivial⟩ ?_
  refine Runs.sA 2 [.code (C_82 28), .code (C_82 29), .code (C_82 15)] ?_
  obtain ⟨rBasin, hr2, h⟩ := bindSome h
  refine Runs.sR hE ⟨[(3, (aS vto)), (4, (aI q)), (5, (.op 0 0 0)), (10, (.op 32 0 0)), (11, (.op 80 0 0)), (12, (aI rBasin))], [(0, vO 3 (Tapi_Network.cells n)), (32, vO 3 [(aI 0), .nil, .nil]), (64, aO 1 cI 0 rCopy.f_Litres), (65, aO 1 cB false rCopy.f_Open), (80, vN 3 [(aI rCopy.f_Minute), (.os 64 0 rCopy.f_Litres.length), (.os 65 0 rCopy.f_Open.length)])], 176⟩ (C_82 28) [(2, ⟨[], true, (aI rBasin), [], 0, false⟩)] [] (kp [3, 4, 5, 10, 11, 12]) (kq [0, 32, 64, 65, 80]) 176 [0 < 1, Sound Try.prog 55 [(.agg (Tapi_Network.cells n)), (aS vfrom)] [] 0 (aI rBasin) []] ⟨o1, (g_r05_Basin_ok N n vfrom rBasin hr2), trivial⟩ ?_
  refine Runs.sA 1 [.code (C_82 58), .code (C_82 59), .code (C_82 15)] ?_
  refine Runs.sR hE ⟨[(3, (aS vto)), (4, (aI q)), (5, (.op 0 0 0)), (10, (.op 32 0 0)), (11, (.op 80 0 0)), (12, (aI rBasin)), (20, (aB (decide (rBasin ≥ 0))))], [(0, vO 3 (Tapi_Network.cells n)), (32, vO 3 [(aI 0), .nil, .nil]), (64, aO 1 cI 0 rCopy.f_Litres), (65, aO 1 cB false rCopy.f_Open), (80, vN 3 [(aI rCopy.f_Minute), (.os 64 0 rCopy.f_Litres.length), (.os 65 0 rCopy.f_Open.length)])], 208⟩ (C_82 58) [] [] (kp [3, 4, 5, 10, 11, 12, 20]) (kq [0, 32, 64, 65, 80]) 208 [] trivial ?_
  refine Runs.sC 20 (C_82 118) (C_82 119) (decide (rBasin ≥ 0)) (fun hq2 => ?_) (fun hq2 => ?_)
  · have h := condT h hq2
    obtain ⟨c, h⟩ := ifSome h
    refine Runs.sR hE ⟨[(3, (aS vto)), (4, (aI q)), (5, (.op 0 0 0)), (10, (.op 32 0 0)), (11, (.op 80 0 0))], [(0, vO 3 (Tapi_Network.cells n)), (32, vO 3 [(aI 0), .nil, .nil]), (64, aO 1 cI 0 (rCopy.f_Litres.set ((rBasin).toNat) (w64 ((rCopy.f_Litres.getD ((rBasin).toNat) 0) - q)))), (65, aO 1 cB false rCopy.f_Open), (80, vN 3 [(aI rCopy.f_Minute), (.os 64 0 ((rCopy.f_Litres.set ((rBasin).toNat) (w64 ((rCopy.f_Litres.getD ((rBasin).toNat) 0) - q))).length)), (.os 65 0 rCopy.f_Open.length)])], 400⟩ (C_82 118) [] [] (kp [3, 4, 5, 10, 11]) (kq [0, 32] ++ [(64, .arr 64 ((rCopy.f_Litres.set ((rBasin).toNat) (w64 ((rCopy.f_Litres.getD ((rBasin).toNat) 0) - q))).length) (fun zi => cI ((rCopy.f_Litres.set ((rBasin).toNat) (w64 ((rCopy.f_Litres.getD ((rBasin).toNat) 0) - q))).getD zi 0)))] ++ kq [65] ++ [(80, .var 80 [.keep, .osl ((rCopy.f_Litres.set ((rBasin).toNat) (w64 ((rCopy.f_Litres.getD ((rBasin).toNat) 0) - q))).length), .keep])]) 400 [0 < 1, 0 < 1, 0 ≤ rBasin ∧ rBasin < ((rCopy.f_Litres.length : Nat) : Int), (rBasin).toNat < rCopy.f_Litres.length, 0 ≤ rBasin ∧ rBasin < ((rCopy.f_Litres.length : Nat) : Int), (rBasin).toNat < rCopy.f_Litres.length, rCopy.f_Litres.length = (rCopy.f_Litres.set ((rBasin).toNat) (w64 ((rCopy.f_Litres.getD ((rBasin).toNat) 0) - q))).length, ∀ zi, zi < (rCopy.f_Litres.set ((rBasin).toNat) (w64 ((rCopy.f_Litres.getD ((rBasin).toNat) 0) - q))).length → (fun zi => cI ((rCopy.f_Litres.set ((rBasin).toNat) (w64 ((rCopy.f_Litres.getD ((rBasin).toNat) 0) - q))).getD zi 0)) zi = ((fun zm => if zm = (rBasin).toNat then [(aI (w64 ((rCopy.f_Litres.getD ((rBasin).toNat) 0) - q)))] else (fun zi => cI (rCopy.f_Litres.getD zi 0)) zm)) zi, rCopy.f_Litres.length = (rCopy.f_Litres.set ((rBasin).toNat) (w64 ((rCopy.f_Litres.getD ((rBasin).toNat) 0) - q))).length] ⟨o1, o1, c, (ltOf c), c, (ltOf c), (len_set_raw rfl), (get_set_raw cI 0 rCopy.f_Litres ((rBasin).toNat) (w64 ((rCopy.f_Litres.getD ((rBasin).toNat) 0) - q)) (fun _ _ => rfl)), (len_set_raw rfl), trivial⟩ ?_
    refine Runs.sA 2 [.code (C_82 60), .code (C_82 61), .code (C_82 31)] ?_
    exact Runs.sW hE _ [] (kp [3, 4, 5, 10, 11]) (kq [0] ++ [(1, .keep 32), (2, .keep 80), (3, .keep 64), (4, .keep 65)]) 5 [] trivial (g_r05_moved_J1_ok N n vto q rCopy (rCopy.f_Litres.set ((rBasin).toNat) (w64 ((rCopy.f_Litres.getD ((rBasin).toNat) 0) - q))) _ h E hE)
  · have h := condF h hq2
    refine Runs.sA 3 [.code (C_82 60), .code (C_82 61), .code (C_82 31)] ?_
    exact Runs.sW hE _ [] (kp [3, 4, 5, 10, 11]) (kq [0] ++ [(1, .keep 32), (2, .keep 80), (3, .keep 64), (4, .keep 65)]) 5 [] trivial (g_r05_moved_J1_ok N n vto q rCopy rCopy.f_Litres _ h E hE)

noncomputable def C_81 (n : Nat) : Code := cat (bodyOf Try.f110) (pth n)

theorem g_r05_may_ok (N : Nat) (n : Tapi_Network) (w : Tapi_Water) (l : Tapi_Link) (vfrom : ByteArray) (vto : ByteArray) (q : Int) (r : Bool) (h : g_r05_may N n w l vfrom vto q = some r) : Sound Try.prog 110 [(.agg (Tapi_Network.cells n)), (.agg (Tapi_Water.cells w)), (.agg (Tapi_Link.cells l)), (aS vfrom), (aS vto), (aI q)] [] 0 (aB r) [] := by
  unfold g_r05_may at h
  refine Sound.of_runs (fu := Try.f110) (c := C_81 1) (nt := 102) (by kernel_rfl) (by kernel_rfl) (by kernel_rfl) (by kernel_rfl) (fun hm => rfl) ?_
  intro E hE
  refine Runs.sA 1 [.code (C_81 2), .code (C_81 3)] ?_
  refine Runs.sR hE ⟨[(3, (aS vfrom)), (4, (aS vto)), (5, (aI q)), (6, (.op 0 0 0)), (7, (.op 16 0 0)), (8, (.op 32 0 0))], [(0, vO 3 (Tapi_Network.cells n)), (16, vO 3 (Tapi_Water.cells w)), (32, vO 8 (Tapi_Link.cells l))], 64⟩ (C_81 2) [] [] (kp [3, 4, 5, 6, 7, 8]) (kq [0, 16, 32]) 64 [] trivial ?_
  refine Runs.sA 1 [.code (C_81 6), .code (C_81 7)] ?_
  obtain ⟨rheight, hr, h⟩ := bindSome h
  refine Runs.sR hE ⟨[(3, (aS vfrom)), (4, (aS vto)), (5, (aI q)), (6, (.op 0 0 0)), (7, (.op 16 0 0)), (8, (.op 32 0 0)), (13, (aI (if l.f_Sill > rheight then l.f_Sill else rheight)))], [(0, vO 3 (Tapi_Network.cells n)), (16, vO 3 (Tapi_Water.cells w)), (32, vO 8 (Tapi_Link.cells l))], 192⟩ (C_81 6) [(3, ⟨[], true, (aI rheight), [], 0, false⟩)] [] (kp [3, 4, 5, 6, 7, 8, 13]) (kq [0, 16, 32]) 192 [0 < 1, 0 < 1, Sound Try.prog 86 [(.agg (Tapi_Network.cells n)), (.agg (Tapi_Water.cells w)), (aS vto)] [] 0 (aI rheight) [], 0 < 1] ⟨o1, o1, (g_r05_height_ok N n w vto rheight hr), o1, trivial⟩ ?_
  refine Runs.sA 1 [.code (C_81 14), .code (C_81 15)] ?_
  obtain ⟨rheight2, hr2, h⟩ := bindSome h
  refine Runs.sR hE ⟨[(3, (aS vfrom)), (4, (aS vto)), (5, (aI q)), (6, (.op 0 0 0)), (7, (.op 16 0 0)), (8, (.op 32 0 0)), (14, (aI (w64 (rheight2 - (if l.f_Sill > rheight then l.f_Sill else rheight)))))], [(0, vO 3 (Tapi_Network.cells n)), (16, vO 3 (Tapi_Water.cells w)), (32, vO 8 (Tapi_Link.cells l))], 304⟩ (C_81 14) [(3, ⟨[], true, (aI rheight2), [], 0, false⟩)] [] (kp [3, 4, 5, 6, 7, 8, 14]) (kq [0, 16, 32]) 304 [0 < 1, 0 < 1, Sound Try.prog 86 [(.agg (Tapi_Network.cells n)), (.agg (Tapi_Water.cells w)), (aS vfrom)] [] 0 (aI rheight2) []] ⟨o1, o1, (g_r05_height_ok N n w vfrom rheight2 hr2), trivial⟩ ?_
  refine Runs.sA 2 [.code (C_81 60), .code (C_81 61), .code (C_81 31)] ?_
  refine Runs.sR hE ⟨[(3, (aS vfrom)), (4, (aS vto)), (5, (aI q)), (6, (.op 0 0 0)), (7, (.op 16 0 0)), (8, (.op 32 0 0)), (42, (aB (cond (decide (q > l.f_Rate)) true (decide (q > (w64 (l.f_Factor * (w64 (rheight2 - (if l.f_Sill > rheight then l.f_Sill else rheight))))))))))], [(0, vO 3 (Tapi_Network.cells n)), (16, vO 3 (Tapi_Water.cells w)), (32, vO 8 (Tapi_Link.cells l))], 496⟩ (C_81 60) [] [] (kp [3, 4, 5, 6, 7, 8, 42]) (kq [0, 16, 32]) 496 [0 < 1, (!(decide (q > l.f_Rate))) = true → AllP [(!(decide (q > l.f_Rate))) = true, 0 < 1], (!(decide (q > l.f_Rate))) = true → AllP [(!(decide (q > l.f_Rate))) = true, (!(decide (q > l.f_Rate))) = true], (!(decide (q > l.f_Rate))) = true → AllP [(!(decide (q > l.f_Rate))) = true, (!(decide (q > l.f_Rate))) = true], (!(decide (q > l.f_Rate))) = true → AllP [(!(decide (q > l.f_Rate))) = true]] ⟨o1, (fun hg => ⟨hg, o1, trivial⟩), (fun hg => ⟨hg, hg, trivial⟩), (fun hg => ⟨hg, hg, trivial⟩), (fun hq => ⟨hq, trivial⟩), trivial⟩ ?_
  refine Runs.sC 42 (C_81 122) (C_81 123) (cond (decide (q > l.f_Rate)) true (decide (q > (w64 (l.f_Factor * (w64 (rheight2 - (if l.f_Sill > rheight then l.f_Sill else rheight)))))))) (fun hq2 => ?_) (fun hq2 => ?_)
  · have h := condT h hq2
    refine Runs.sA 1 [.code (C_81 244), .code (C_81 245), .code (C_81 31)] ?_
    refine Runs.sR hE ⟨[(12, (aB false))], [], 512⟩ (C_81 244) [] [] (kp [12]) [] 512 [] trivial ?_
    obtain rfl := Option.some.inj h
    refine Runs.sW hE ⟨[(12, (aB false))], [], 512⟩ [] (kp [12]) [] 512 [] trivial ?_
    exact Runs.sT Try.f110 [] [] trivial
  · have h := condF h hq2
    refine Runs.sA 3 [.code (C_81 124), .code (C_81 125), .code (C_81 63)] ?_
    obtain ⟨rBasin, hr3, h⟩ := bindSome h
    refine Runs.sR hE ⟨[(3, (aS vfrom)), (4, (aS vto)), (5, (aI q)), (6, (.op 0 0 0)), (7, (.op 16 0 0)), (8, (.op 32 0 0)), (15, (aI rBasin))], [(0, vO 3 (Tapi_Network.cells n)), (16, vO 3 (Tapi_Water.cells w)), (32, vO 8 (Tapi_Link.cells l))], 560⟩ (C_81 124) [(2, ⟨[], true, (aI rBasin), [], 0, false⟩)] [] (kp [3, 4, 5, 6, 7, 8, 15]) (kq [0, 16, 32]) 560 [0 < 1, Sound Try.prog 55 [(.agg (Tapi_Network.cells n)), (aS vfrom)] [] 0 (aI rBasin) []] ⟨o1, (g_r05_Basin_ok N n vfrom rBasin hr3), trivial⟩ ?_
    refine Runs.sA 1 [.code (C_81 250), .code (C_81 251), .code (C_81 63)] ?_
    obtain ⟨c, h⟩ := ifSome h
    obtain ⟨c2, h⟩ := ifSome h
    obtain ⟨rBelow, hr4, h⟩ := bindSome h
    refine Runs.sR hE ⟨[(3, (aS vfrom)), (4, (aS vto)), (5, (aI q)), (6, (.op 0 0 0)), (7, (.op 16 0 0)), (65, (aB (cond (decide (rBasin ≥ 0)) (decide ((w64 ((w.f_Litres.getD ((rBasin).toNat) 0) - q)) < rBelow)) false)))], [(0, vO 3 (Tapi_Network.cells n)), (16, vO 3 (Tapi_Water.cells w))], 880⟩ (C_81 250) [(17, ⟨[], true, (aI rBelow), [], 0, false⟩)] [] (kp [3, 4, 5, 6, 7, 65]) (kq [0, 16]) 880 [(decide (rBasin ≥ 0)) = true → AllP [(decide (rBasin ≥ 0)) = true, 0 < 1], (decide (rBasin ≥ 0)) = true → AllP [(decide (rBasin ≥ 0)) = true, (decide (rBasin ≥ 0)) = true, 0 ≤ rBasin ∧ rBasin < ((w.f_Litres.length : Nat) : Int)], (decide (rBasin ≥ 0)) = true → AllP [(decide (rBasin ≥ 0)) = true], (decide (rBasin ≥ 0)) = true → AllP [(decide (rBasin ≥ 0)) = true, (decide (rBasin ≥ 0)) = true], (decide (rBasin ≥ 0)) = true → AllP [(decide (rBasin ≥ 0)) = true, 0 < 1], (decide (rBasin ≥ 0)) = true → AllP [(decide (rBasin ≥ 0)) = true, (decide (rBasin ≥ 0)) = true, 0 ≤ rBasin ∧ rBasin < ((n.f_Basins.length : Nat) : Int)], (decide (rBasin ≥ 0)) = true → AllP [(decide (rBasin ≥ 0)) = true], (decide (rBasin ≥ 0)) = true → AllP [(decide (rBasin ≥ 0)) = true, 0 < 1], (decide (rBasin ≥ 0)) = true → AllP [Sound Try.prog 64 [(.agg (Tapi_Basin.cells (n.f_Basins.getD ((rBasin).toNat) Tapi_Basin.d))), (aI l.f_Sill)] [] 0 (aI rBelow) [], (decide (rBasin ≥ 0)) = true, (decide (rBasin ≥ 0)) = true], (decide (rBasin ≥ 0)) = true → AllP [(decide (rBasin ≥ 0)) = true, (decide (rBasin ≥ 0)) = true], (decide (rBasin ≥ 0)) = true → AllP [(decide (rBasin ≥ 0)) = true]] ⟨(fun hg => ⟨hg, o1, trivial⟩), (fun hg => ⟨hg, hg, (c hg), trivial⟩), (fun hg => ⟨hg, trivial⟩), (fun hg => ⟨hg, hg, trivial⟩), (fun hg => ⟨hg, o1, trivial⟩), (fun hg => ⟨hg, hg, (c2 hg), trivial⟩), (fun hg => ⟨hg, trivial⟩), (fun hg => ⟨hg, o1, trivial⟩), (fun hg => ⟨(g_r05_Below_ok N (n.f_Basins.getD ((rBasin).toNat) Tapi_Basin.d) l.f_Sill rBelow (condT hr4 hg)), hg, hg, trivial⟩), (fun hg => ⟨hg, hg, trivial⟩), (fun hq => ⟨hq, trivial⟩), trivial⟩ ?_
    refine Runs.sC 65 (C_81 502) (C_81 503) (cond (decide (rBasin ≥ 0)) (decide ((w64 ((w.f_Litres.getD ((rBasin).toNat) 0) - q)) < rBelow)) false) (fun hq3 => ?_) (fun hq3 => ?_)
    · have h := condT h hq3
      refine Runs.sA 1 [.code (C_81 1004), .code (C_81 1005), .code (C_81 63)] ?_
      refine Runs.sR hE ⟨[(12, (aB false))], [], 896⟩ (C_81 1004) [] [] (kp [12]) [] 896 [] trivial ?_
      obtain rfl := Option.some.inj h
      refine Runs.sW hE ⟨[(12, (aB false))], [], 896⟩ [] (kp [12]) [] 896 [] trivial ?_
      exact Runs.sT Try.f110 [] [] trivial
    · have h := condF h hq3
      refine Runs.sA 3 [.code (C_81 252), .code (C_81 253), .code (C_81 127)] ?_
      obtain ⟨rBasin2, hr5, h⟩ := bindSome h
      refine Runs.sR hE ⟨[(3, (aS vfrom)), (4, (aS vto)), (5, (aI q)), (6, (.op 0 0 0)), (7, (.op 16 0 0)), (16, (aI rBasin2))], [(0, vO 3 (Tapi_Network.cells n)), (16, vO 3 (Tapi_Water.cells w))], 944⟩ (C_81 252) [(2, ⟨[], true, (aI rBasin2), [], 0, false⟩)] [] (kp [3, 4, 5, 6, 7, 16]) (kq [0, 16]) 944 [0 < 1, Sound Try.prog 55 [(.agg (Tapi_Network.cells n)), (aS vto)] [] 0 (aI rBasin2) []] ⟨o1, (g_r05_Basin_ok N n vto rBasin2 hr5), trivial⟩ ?_
      refine Runs.sA 1 [.code (C_81 506), .code (C_81 507), .code (C_81 127)] ?_
      obtain ⟨c3, h⟩ := ifSome h
      obtain ⟨c4, h⟩ := ifSome h
      obtain ⟨rCapacity, hr6, h⟩ := bindSome h
      refine Runs.sR hE ⟨[(3, (aS vfrom)), (4, (aS vto)), (5, (aI q)), (6, (.op 0 0 0)), (7, (.op 16 0 0)), (86, (aB (cond (decide (rBasin2 ≥ 0)) (decide ((w64 ((w.f_Litres.getD ((rBasin2).toNat) 0) + q)) > rCapacity)) false)))], [(0, vO 3 (Tapi_Network.cells n)), (16, vO 3 (Tapi_Water.cells w))], 1232⟩ (C_81 506) [(15, ⟨[], true, (aI rCapacity), [], 0, false⟩)] [] (kp [3, 4, 5, 6, 7, 86]) (kq [0, 16]) 1232 [(decide (rBasin2 ≥ 0)) = true → AllP [(decide (rBasin2 ≥ 0)) = true, 0 < 1], (decide (rBasin2 ≥ 0)) = true → AllP [(decide (rBasin2 ≥ 0)) = true, (decide (rBasin2 ≥ 0)) = true, 0 ≤ rBasin2 ∧ rBasin2 < ((w.f_Litres.length : Nat) : Int)], (decide (rBasin2 ≥ 0)) = true → AllP [(decide (rBasin2 ≥ 0)) = true], (decide (rBasin2 ≥ 0)) = true → AllP [(decide (rBasin2 ≥ 0)) = true, (decide (rBasin2 ≥ 0)) = true], (decide (rBasin2 ≥ 0)) = true → AllP [(decide (rBasin2 ≥ 0)) = true, 0 < 1], (decide (rBasin2 ≥ 0)) = true → AllP [(decide (rBasin2 ≥ 0)) = true, (decide (rBasin2 ≥ 0)) = true, 0 ≤ rBasin2 ∧ rBasin2 < ((n.f_Basins.length : Nat) : Int)], (decide (rBasin2 ≥ 0)) = true → AllP [(decide (rBasin2 ≥ 0)) = true], (decide (rBasin2 ≥ 0)) = true → AllP [Sound Try.prog 44 [(.agg (Tapi_Basin.cells (n.f_Basins.getD ((rBasin2).toNat) Tapi_Basin.d)))] [] 0 (aI rCapacity) [], (decide (rBasin2 ≥ 0)) = true], (decide (rBasin2 ≥ 0)) = true → AllP [(decide (rBasin2 ≥ 0)) = true, (decide (rBasin2 ≥ 0)) = true], (decide (rBasin2 ≥ 0)) = true → AllP [(decide (rBasin2 ≥ 0)) = true]] ⟨(fun hg => ⟨hg, o1, trivial⟩), (fun hg => ⟨hg, hg, (c3 hg), trivial⟩), (fun hg => ⟨hg, trivial⟩), (fun hg => ⟨hg, hg, trivial⟩), (fun hg => ⟨hg, o1, trivial⟩), (fun hg => ⟨hg, hg, (c4 hg), trivial⟩), (fun hg => ⟨hg, trivial⟩), (fun hg => ⟨(g_r05_Capacity_ok N (n.f_Basins.getD ((rBasin2).toNat) Tapi_Basin.d) rCapacity (condT hr6 hg)), hg, trivial⟩), (fun hg => ⟨hg, hg, trivial⟩), (fun hq => ⟨hq, trivial⟩), trivial⟩ ?_
      refine Runs.sC 86 (C_81 1014) (C_81 1015) (cond (decide (rBasin2 ≥ 0)) (decide ((w64 ((w.f_Litres.getD ((rBasin2).toNat) 0) + q)) > rCapacity)) false) (fun hq4 => ?_) (fun hq4 => ?_)
      · have h := condT h hq4
        refine Runs.sA 1 [.code (C_81 2028), .code (C_81 2029), .code (C_81 127)] ?_
        refine Runs.sR hE ⟨[(12, (aB false))], [], 1248⟩ (C_81 2028) [] [] (kp [12]) [] 1248 [] trivial ?_
        obtain rfl := Option.some.inj h
        refine Runs.sW hE ⟨[(12, (aB false))], [], 1248⟩ [] (kp [12]) [] 1248 [] trivial ?_
        exact Runs.sT Try.f110 [] [] trivial
      · have h := condF h hq4
        refine Runs.sA 2 [.code (C_81 254), .code (C_81 255)] ?_
        obtain ⟨rmoved, hr7, h⟩ := bindSome h
        refine Runs.sR hE ⟨[(3, (aS vfrom)), (4, (aS vto)), (6, (.op 0 0 0)), (17, (.op 1328 0 0))], [(0, vO 3 (Tapi_Network.cells n)), (1312, aO 1 cI 0 rmoved.f_Litres), (1313, aO 1 cB false rmoved.f_Open), (1328, vN 3 [(aI rmoved.f_Minute), (.os 1312 0 rmoved.f_Litres.length), (.os 1313 0 rmoved.f_Open.length)])], 1360⟩ (C_81 254) [(5, ⟨[], false, (.agg [(aI rmoved.f_Minute), (.os 0 0 rmoved.f_Litres.length), (.os 1 0 rmoved.f_Open.length)]), [(0, aO 1 cI 0 rmoved.f_Litres), (1, aO 1 cB false rmoved.f_Open)], 0, false⟩)] [] (kp [3, 4, 6, 17]) (kq [0, 1312, 1313, 1328]) 1360 [0 < 1, 0 < 1, Sound Try.prog 93 [(.agg (Tapi_Network.cells n)), (.agg (Tapi_Water.cells w)), (aS vfrom), (aS vto), (aI q)] [] 0 (.agg [(aI rmoved.f_Minute), (.os 0 0 rmoved.f_Litres.length), (.os 1 0 rmoved.f_Open.length)]) [(0, aO 1 cI 0 rmoved.f_Litres), (1, aO 1 cB false rmoved.f_Open)], 0 < 1] ⟨o1, o1, (g_r05_moved_ok N n w vfrom vto q rmoved hr7), o1, trivial⟩ ?_
        refine Runs.sA 1 [.code (C_81 510), .code (C_81 511)] ?_
        obtain ⟨rheight3, hr8, h⟩ := bindSome h
        obtain ⟨rheight4, hr9, h⟩ := bindSome h
        refine Runs.sR hE ⟨[(12, (aB (decide (rheight3 ≥ rheight4))))], [], 1520⟩ (C_81 510) [(3, ⟨[], true, (aI rheight3), [], 0, false⟩), (7, ⟨[], true, (aI rheight4), [], 0, false⟩)] [] (kp [12]) [] 1520 [0 < 1, 0 < 1, Sound Try.prog 86 [(.agg (Tapi_Network.cells n)), (.agg [(aI rmoved.f_Minute), (encL cI 0 rmoved.f_Litres), (encL cB false rmoved.f_Open)]), (aS vfrom)] [] 0 (aI rheight3) [], 0 + rmoved.f_Litres.length ≤ rmoved.f_Litres.length, 0 + rmoved.f_Open.length ≤ rmoved.f_Open.length, 0 < 1, 0 < 1, Sound Try.prog 86 [(.agg (Tapi_Network.cells n)), (.agg [(aI rmoved.f_Minute), (encL cI 0 rmoved.f_Litres), (encL cB false rmoved.f_Open)]), (aS vto)] [] 0 (aI rheight4) [], 0 + rmoved.f_Litres.length ≤ rmoved.f_Litres.length, 0 + rmoved.f_Open.length ≤ rmoved.f_Open.length] ⟨o1, o1, (g_r05_height_ok N n (⟨rmoved.f_Minute, rmoved.f_Litres, rmoved.f_Open⟩ : Tapi_Water) vfrom rheight3 hr8), z0, z0, o1, o1, (g_r05_height_ok N n (⟨rmoved.f_Minute, rmoved.f_Litres, rmoved.f_Open⟩ : Tapi_Water) vto rheight4 hr9), z0, z0, trivial⟩ ?_
        obtain rfl := Option.some.inj h
        refine Runs.sW hE ⟨[(12, (aB (decide (rheight3 ≥ rheight4))))], [], 1520⟩ [] (kp [12]) [] 1520 [] trivial ?_
        exact Runs.sT Try.f110 [] [] trivial

noncomputable def C_80 (n : Nat) : Code := cat (bodyOf Try.f87) (pth n)

theorem g_r05_through_J2_ok (N : Nat) (n : Tapi_Network) (w : Tapi_Water) (l : Tapi_Link) (vfrom : ByteArray) (vto : ByteArray) (step : Int) (K_g_r05_through_L1 : Int → Int → Option (Int))
    (hK_g_r05_through_L1 : ∀ (q : Int) (step : Int) (r : Int), K_g_r05_through_L1 q step = some r → ∀ E, EnvOk E 0 → Runs Try.prog E 87 37 (SPost E [] (aI r)) [.code (C_80 244), .inLoop (C_80 244), .inBlock 0, .code (C_80 31)] ⟨[(3, (aS vfrom)), (4, (aS vto)), (5, (.op 0 0 0)), (6, (.op 1 0 0)), (7, (.op 2 0 0)), (11, (aI q)), (12, (aI step))], [(0, vO 3 (Tapi_Network.cells n)), (1, vO 3 (Tapi_Water.cells w)), (2, vO 8 (Tapi_Link.cells l))], 3⟩) (q2 : Int) (r : Int) (h : g_r05_through_J2 N n w l vfrom vto step K_g_r05_through_L1 q2 = some r) : ∀ E, EnvOk E 0 → Runs Try.prog E 87 37 (SPost E [] (aI r)) [.code (C_80 979), .inLoop (C_80 244), .inBlock 0, .code (C_80 31)] ⟨[(3, (aS vfrom)), (4, (aS vto)), (5, (.op 0 0 0)), (6, (.op 1 0 0)), (7, (.op 2 0 0)), (11, (aI q2)), (12, (aI step))], [(0, vO 3 (Tapi_Network.cells n)), (1, vO 3 (Tapi_Water.cells w)), (2, vO 8 (Tapi_Link.cells l))], 3⟩ := by
  intro E hE
  unfold g_r05_through_J2 at h
  refine Runs.sR hE ⟨[(3, (aS vfrom)), (4, (aS vto)), (5, (.op 0 0 0)), (6, (.op 1 0 0)), (7, (.op 2 0 0)), (11, (aI q2)), (12, (aI (w64 (step.tdiv 2))))], [(0, vO 3 (Tapi_Network.cells n)), (1, vO 3 (Tapi_Water.cells w)), (2, vO 8 (Tapi_Link.cells l))], 51⟩ (C_80 979) [] [] (kp [3, 4, 5, 6, 7, 11, 12]) (kq [0, 1, 2]) 51 [(2 : Int) ≠ 0] ⟨(by decide), trivial⟩ ?_
  refine Runs.sA 1 [.code (C_80 244), .inLoop (C_80 244), .inBlock 0, .code (C_80 31)] ?_
  exact Runs.sW hE _ [] (kp [3, 4, 5, 6, 7, 11, 12]) (kq [0, 1, 2]) 3 [] trivial (hK_g_r05_through_L1 q2 (w64 (step.tdiv 2)) _ h E hE)

theorem g_r05_through_L1_ok (N : Nat) (n : Tapi_Network) (w : Tapi_Water) (l : Tapi_Link) (vfrom : ByteArray) (vto : ByteArray) (fuel : Nat) : ∀ (q : Int) (step : Int) (r : Int), g_r05_through_L1 N n w l vfrom vto fuel q step = some r → ∀ E, EnvOk E 0 → Runs Try.prog E 87 37 (SPost E [] (aI r)) [.code (C_80 244), .inLoop (C_80 244), .inBlock 0, .code (C_80 31)] ⟨[(3, (aS vfrom)), (4, (aS vto)), (5, (.op 0 0 0)), (6, (.op 1 0 0)), (7, (.op 2 0 0)), (11, (aI q)), (12, (aI step))], [(0, vO 3 (Tapi_Network.cells n)), (1, vO 3 (Tapi_Water.cells w)), (2, vO 8 (Tapi_Link.cells l))], 3⟩ := by
  induction fuel with
  | zero => intro _ _ r h; rw [g_r05_through_L1.eq_1] at h; cases h
  | succ fuel ih =>
    intro q step r h E hE
    rw [g_r05_through_L1.eq_2] at h
    refine Runs.sA 2 [.code (C_80 976), .code (C_80 977), .code (C_80 489), .inLoop (C_80 244), .inBlock 0, .code (C_80 31)] ?_
    refine Runs.sR hE ⟨[(3, (aS vfrom)), (4, (aS vto)), (5, (.op 0 0 0)), (6, (.op 1 0 0)), (7, (.op 2 0 0)), (11, (aI q)), (12, (aI step)), (21, (aB (decide (step > 0))))], [(0, vO 3 (Tapi_Network.cells n)), (1, vO 3 (Tapi_Water.cells w)), (2, vO 8 (Tapi_Link.cells l))], 35⟩ (C_80 976) [] [] (kp [3, 4, 5, 6, 7, 11, 12, 21]) (kq [0, 1, 2]) 35 [] trivial ?_
    refine Runs.sC 21 (C_80 1954) (C_80 1955) (decide (step > 0)) (fun hq3 => ?_) (fun hq3 => ?_)
    · have h := condT h hq3
      refine Runs.sA 4 [.code (C_80 3912), .code (C_80 3913), .inBlock 1, .code (C_80 979), .inLoop (C_80 244), .inBlock 0, .code (C_80 31)] ?_
      obtain ⟨rmay, hr2, h⟩ := bindSome h
      refine Runs.sR hE ⟨[(3, (aS vfrom)), (4, (aS vto)), (5, (.op 0 0 0)), (6, (.op 1 0 0)), (7, (.op 2 0 0)), (11, (aI q)), (12, (aI step)), (32, (aB rmay))], [(0, vO 3 (Tapi_Network.cells n)), (1, vO 3 (Tapi_Water.cells w)), (2, vO 8 (Tapi_Link.cells l))], 179⟩ (C_80 3912) [(8, ⟨[], true, (aB rmay), [], 0, false⟩)] [] (kp [3, 4, 5, 6, 7, 11, 12, 32]) (kq [0, 1, 2]) 179 [0 < 1, 0 < 1, 0 < 1, Sound Try.prog 110 [(.agg (Tapi_Network.cells n)), (.agg (Tapi_Water.cells w)), (.agg (Tapi_Link.cells l)), (aS vfrom), (aS vto), (aI (w64 (q + step)))] [] 0 (aB rmay) []] ⟨o1, o1, o1, (g_r05_may_ok N n w l vfrom vto (w64 (q + step)) rmay hr2), trivial⟩ ?_
      refine Runs.sC 32 (C_80 7826) (C_80 7827) rmay (fun hq4 => ?_) (fun hq4 => ?_)
      · have h := condT h hq4
        refine Runs.sR hE ⟨[(3, (aS vfrom)), (4, (aS vto)), (5, (.op 0 0 0)), (6, (.op 1 0 0)), (7, (.op 2 0 0)), (11, (aI (w64 (q + step)))), (12, (aI step))], [(0, vO 3 (Tapi_Network.cells n)), (1, vO 3 (Tapi_Water.cells w)), (2, vO 8 (Tapi_Link.cells l))], 243⟩ (C_80 7826) [] [] (kp [3, 4, 5, 6, 7, 11, 12]) (kq [0, 1, 2]) 243 [] trivial ?_
        refine Runs.sA 1 [.code (C_80 979), .inLoop (C_80 244), .inBlock 0, .code (C_80 31)] ?_
        exact Runs.sW hE _ [] (kp [3, 4, 5, 6, 7, 11, 12]) (kq [0, 1, 2]) 3 [] trivial (g_r05_through_J2_ok N n w l vfrom vto step (g_r05_through_L1 N n w l vfrom vto fuel) ih (w64 (q + step)) _ h E hE)
      · have h := condF h hq4
        refine Runs.sA 2 [.code (C_80 979), .inLoop (C_80 244), .inBlock 0, .code (C_80 31)] ?_
        exact Runs.sW hE _ [] (kp [3, 4, 5, 6, 7, 11, 12]) (kq [0, 1, 2]) 3 [] trivial (g_r05_through_J2_ok N n w l vfrom vto step (g_r05_through_L1 N n w l vfrom vto fuel) ih q _ h E hE)
    · have h := condF h hq3
      refine Runs.sA 2 [.code (C_80 62), .code (C_80 63)] ?_
      refine Runs.sR hE ⟨[(10, (aI q))], [], 67⟩ (C_80 62) [] [] (kp [10]) [] 67 [] trivial ?_
      obtain rfl := Option.some.inj h
      refine Runs.sW hE ⟨[(10, (aI q))], [], 67⟩ [] (kp [10]) [] 67 [] trivial ?_
      exact Runs.sT Try.f87 [] [] trivial

theorem g_r05_through_ok (N : Nat) (n : Tapi_Network) (w : Tapi_Water) (l : Tapi_Link) (vfrom : ByteArray) (vto : ByteArray) (r : Int) (h : g_r05_through N n w l vfrom vto = some r) : Sound Try.prog 87 [(.agg (Tapi_Network.cells n)), (.agg (Tapi_Water.cells w)), (.agg (Tapi_Link.cells l)), (aS vfrom), (aS vto)] [] 0 (aI r) [] := by
  unfold g_r05_through at h
  refine Sound.of_runs (fu := Try.f87) (c := C_80 1) (nt := 37) (by kernel_rfl) (by kernel_rfl) (by kernel_rfl) (by kernel_rfl) (fun hm => rfl) ?_
  intro E hE
  refine Runs.sA 1 [.code (C_80 2), .code (C_80 3)] ?_
  refine Runs.sR hE ⟨[(3, (aS vfrom)), (4, (aS vto)), (5, (.op 0 0 0)), (6, (.op 16 0 0)), (7, (.op 32 0 0))], [(0, vO 3 (Tapi_Network.cells n)), (16, vO 3 (Tapi_Water.cells w)), (32, vO 8 (Tapi_Link.cells l))], 64⟩ (C_80 2) [] [] (kp [3, 4, 5, 6, 7]) (kq [0, 16, 32]) 64 [] trivial ?_
  refine Runs.sA 2 [.code (C_80 12), .code (C_80 13), .code (C_80 7)] ?_
  obtain ⟨rheight, hr, h⟩ := bindSome h
  refine Runs.sR hE ⟨[(3, (aS vfrom)), (4, (aS vto)), (5, (.op 0 0 0)), (6, (.op 16 0 0)), (7, (.op 32 0 0)), (19, (aB (decide (rheight ≤ l.f_Sill))))], [(0, vO 3 (Tapi_Network.cells n)), (16, vO 3 (Tapi_Water.cells w)), (32, vO 8 (Tapi_Link.cells l))], 176⟩ (C_80 12) [(3, ⟨[], true, (aI rheight), [], 0, false⟩)] [] (kp [3, 4, 5, 6, 7, 19]) (kq [0, 16, 32]) 176 [0 < 1, 0 < 1, Sound Try.prog 86 [(.agg (Tapi_Network.cells n)), (.agg (Tapi_Water.cells w)), (aS vfrom)] [] 0 (aI rheight) [], 0 < 1] ⟨o1, o1, (g_r05_height_ok N n w vfrom rheight hr), o1, trivial⟩ ?_
  refine Runs.sC 19 (C_80 26) (C_80 27) (decide (rheight ≤ l.f_Sill)) (fun hq2 => ?_) (fun hq2 => ?_)
  · have h := condT h hq2
    refine Runs.sA 1 [.code (C_80 52), .code (C_80 53), .code (C_80 7)] ?_
    refine Runs.sR hE ⟨[(10, (aI 0))], [], 192⟩ (C_80 52) [] [] (kp [10]) [] 192 [] trivial ?_
    obtain rfl := Option.some.inj h
    refine Runs.sW hE ⟨[(10, (aI 0))], [], 192⟩ [] (kp [10]) [] 192 [] trivial ?_
    exact Runs.sT Try.f87 [] [] trivial
  · have h := condF h hq2
    refine Runs.sA 2 [.code (C_80 14), .code (C_80 15)] ?_
    refine Runs.sR hE ⟨[(3, (aS vfrom)), (4, (aS vto)), (5, (.op 0 0 0)), (6, (.op 16 0 0)), (7, (.op 32 0 0)), (11, (aI 0))], [(0, vO 3 (Tapi_Network.cells n)), (16, vO 3 (Tapi_Water.cells w)), (32, vO 8 (Tapi_Link.cells l))], 192⟩ (C_80 14) [] [] (kp [3, 4, 5, 6, 7, 11]) (kq [0, 16, 32]) 192 [] trivial ?_
    refine Runs.sA 2 [.code (C_80 60), .code (C_80 61), .code (C_80 31)] ?_
    refine Runs.sR hE ⟨[(3, (aS vfrom)), (4, (aS vto)), (5, (.op 0 0 0)), (6, (.op 16 0 0)), (7, (.op 32 0 0)), (11, (aI 0)), (12, (aI 1073741824))], [(0, vO 3 (Tapi_Network.cells n)), (16, vO 3 (Tapi_Water.cells w)), (32, vO 8 (Tapi_Link.cells l))], 208⟩ (C_80 60) [] [] (kp [3, 4, 5, 6, 7, 11, 12]) (kq [0, 16, 32]) 208 [] trivial ?_
    refine Runs.sA 2 [.code (C_80 244), .inLoop (C_80 244), .inBlock 0, .code (C_80 31)] ?_
    exact Runs.sW hE _ [] (kp [3, 4, 5, 6, 7, 11, 12]) (kq [0] ++ [(1, .keep 16), (2, .keep 32)]) 3 [] trivial (g_r05_through_L1_ok N n w l vfrom vto N 0 1073741824 _ h E hE)

noncomputable def C_78 (n : Nat) : Code := cat (bodyOf Try.f39) (pth n)

theorem g_r05_Act_J2_ok (N : Nat) (q2 : Int) (r : Int) (h : g_r05_Act_J2 N q2 = some r) : ∀ E, EnvOk E 0 → Runs Try.prog E 39 90 (SPost E [] (aI r)) [.code (C_78 510), .code (C_78 511)] ⟨[(9, (aI q2))], [], 0⟩ := by
  intro E hE
  unfold g_r05_Act_J2 at h
  refine Runs.sR hE ⟨[(6, (aI q2))], [], 32⟩ (C_78 510) [] [] (kp [6]) [] 32 [] trivial ?_
  obtain rfl := Option.some.inj h
  refine Runs.sW hE ⟨[(6, (aI q2))], [], 48⟩ [] (kp [6]) [] 48 [] trivial ?_
  exact Runs.sT Try.f39 [] [] trivial

theorem g_r05_Act_J1_ok (N : Nat) (n : Tapi_Network) (w : Tapi_Water) (l : Tapi_Link) (q : Int) (r : Int) (h : g_r05_Act_J1 N n w l q = some r) : ∀ E, EnvOk E 0 → Runs Try.prog E 39 90 (SPost E [] (aI r)) [.code (C_78 508), .code (C_78 509), .code (C_78 255)] ⟨[(3, (.op 0 0 0)), (4, (.op 1 0 0)), (5, (.op 2 0 0)), (9, (aI q))], [(0, vO 3 (Tapi_Network.cells n)), (1, vO 3 (Tapi_Water.cells w)), (2, vO 8 (Tapi_Link.cells l))], 3⟩ := by
  intro E hE
  unfold g_r05_Act_J1 at h
  obtain ⟨rBasin2, hr6, h⟩ := bindSome h
  refine Runs.sR hE ⟨[(3, (.op 0 0 0)), (4, (.op 1 0 0)), (9, (aI q)), (11, (aI rBasin2))], [(0, vO 3 (Tapi_Network.cells n)), (1, vO 3 (Tapi_Water.cells w))], 83⟩ (C_78 508) [(3, ⟨[], true, (aI rBasin2), [], 0, false⟩)] [] (kp [3, 4, 9, 11]) (kq [0, 1]) 83 [0 < 1, 0 < 1, Sound Try.prog 55 [(.agg (Tapi_Network.cells n)), (aS l.f_To)] [] 0 (aI rBasin2) []] ⟨o1, o1, (g_r05_Basin_ok N n l.f_To rBasin2 hr6), trivial⟩ ?_
  refine Runs.sA 1 [.code (C_78 1018), .code (C_78 1019), .code (C_78 255)] ?_
  refine Runs.sR hE ⟨[(3, (.op 0 0 0)), (4, (.op 1 0 0)), (9, (aI q)), (11, (aI rBasin2)), (74, (aB (decide (rBasin2 ≥ 0))))], [(0, vO 3 (Tapi_Network.cells n)), (1, vO 3 (Tapi_Water.cells w))], 115⟩ (C_78 1018) [] [] (kp [3, 4, 9, 11, 74]) (kq [0, 1]) 115 [] trivial ?_
  refine Runs.sC 74 (C_78 2038) (C_78 2039) (decide (rBasin2 ≥ 0)) (fun hq7 => ?_) (fun hq7 => ?_)
  · have h := condT h hq7
    obtain ⟨c2, h⟩ := ifSome h
    obtain ⟨rCapacity, hr7, h⟩ := bindSome h
    obtain ⟨c3, h⟩ := ifSome h
    refine Runs.sR hE ⟨[(9, (aI (if (w64 (rCapacity - (w.f_Litres.getD ((rBasin2).toNat) 0))) < q then (w64 (rCapacity - (w.f_Litres.getD ((rBasin2).toNat) 0))) else q)))], [], 355⟩ (C_78 2038) [(6, ⟨[], true, (aI rCapacity), [], 0, false⟩)] [] (kp [9]) [] 355 [0 < 1, 0 ≤ rBasin2 ∧ rBasin2 < ((n.f_Basins.length : Nat) : Int), Sound Try.prog 44 [(.agg (Tapi_Basin.cells (n.f_Basins.getD ((rBasin2).toNat) Tapi_Basin.d)))] [] 0 (aI rCapacity) [], 0 < 1, 0 ≤ rBasin2 ∧ rBasin2 < ((w.f_Litres.length : Nat) : Int)] ⟨o1, c2, (g_r05_Capacity_ok N (n.f_Basins.getD ((rBasin2).toNat) Tapi_Basin.d) rCapacity hr7), o1, c3, trivial⟩ ?_
    refine Runs.sA 1 [.code (C_78 510), .code (C_78 511)] ?_
    exact Runs.sW hE _ [] (kp [9]) [] 0 [] trivial (g_r05_Act_J2_ok N (if (w64 (rCapacity - (w.f_Litres.getD ((rBasin2).toNat) 0))) < q then (w64 (rCapacity - (w.f_Litres.getD ((rBasin2).toNat) 0))) else q) _ h E hE)
  · have h := condF h hq7
    refine Runs.sA 2 [.code (C_78 510), .code (C_78 511)] ?_
    exact Runs.sW hE _ [] (kp [9]) [] 0 [] trivial (g_r05_Act_J2_ok N q _ h E hE)

theorem g_r05_Act_ok (N : Nat) (n : Tapi_Network) (w : Tapi_Water) (l : Tapi_Link) (r : Int) (h : g_r05_Act N n w l = some r) : Sound Try.prog 39 [(.agg (Tapi_Network.cells n)), (.agg (Tapi_Water.cells w)), (.agg (Tapi_Link.cells l))] [] 0 (aI r) [] := by
  unfold g_r05_Act at h
  refine Sound.of_runs (fu := Try.f39) (c := C_78 1) (nt := 90) (by kernel_rfl) (by kernel_rfl) (by kernel_rfl) (by kernel_rfl) (fun hm => rfl) ?_
  intro E hE
  refine Runs.sA 1 [.code (C_78 2), .code (C_78 3)] ?_
  refine Runs.sR hE ⟨[(3, (.op 0 0 0)), (4, (.op 16 0 0)), (5, (.op 32 0 0))], [(0, vO 3 (Tapi_Network.cells n)), (16, vO 3 (Tapi_Water.cells w)), (32, vO 8 (Tapi_Link.cells l))], 64⟩ (C_78 2) [] [] (kp [3, 4, 5]) (kq [0, 16, 32]) 64 [] trivial ?_
  refine Runs.sA 1 [.code (C_78 6), .code (C_78 7)] ?_
  obtain ⟨rheight, hr, h⟩ := bindSome h
  obtain ⟨rheight2, hr2, h⟩ := bindSome h
  refine Runs.sR hE ⟨[(3, (.op 0 0 0)), (4, (.op 16 0 0)), (5, (.op 32 0 0)), (7, (aI rheight)), (8, (aI rheight2))], [(0, vO 3 (Tapi_Network.cells n)), (16, vO 3 (Tapi_Water.cells w)), (32, vO 8 (Tapi_Link.cells l))], 256⟩ (C_78 6) [(4, ⟨[], true, (aI rheight), [], 0, false⟩), (9, ⟨[], true, (aI rheight2), [], 0, false⟩)] [] (kp [3, 4, 5, 7, 8]) (kq [0, 16, 32]) 256 [0 < 1, 0 < 1, 0 < 1, Sound Try.prog 86 [(.agg (Tapi_Network.cells n)), (.agg (Tapi_Water.cells w)), (aS l.f_From)] [] 0 (aI rheight) [], 0 < 1, 0 < 1, 0 < 1, Sound Try.prog 86 [(.agg (Tapi_Network.cells n)), (.agg (Tapi_Water.cells w)), (aS l.f_To)] [] 0 (aI rheight2) []] ⟨o1, o1, o1, (g_r05_height_ok N n w l.f_From rheight hr), o1, o1, o1, (g_r05_height_ok N n w l.f_To rheight2 hr2), trivial⟩ ?_
  refine Runs.sA 2 [.code (C_78 28), .code (C_78 29), .code (C_78 15)] ?_
  refine Runs.sR hE ⟨[(3, (.op 0 0 0)), (4, (.op 16 0 0)), (5, (.op 32 0 0)), (7, (aI rheight)), (8, (aI rheight2)), (24, (aB (l.f_Kind == 0)))], [(0, vO 3 (Tapi_Network.cells n)), (16, vO 3 (Tapi_Water.cells w)), (32, vO 8 (Tapi_Link.cells l))], 304⟩ (C_78 28) [] [] (kp [3, 4, 5, 7, 8, 24]) (kq [0, 16, 32]) 304 [0 < 1] ⟨o1, trivial⟩ ?_
  refine Runs.sC 24 (C_78 58) (C_78 59) (l.f_Kind == 0) (fun hq2 => ?_) (fun hq2 => ?_)
  · have h := condT h hq2
    refine Runs.sA 2 [.code (C_78 232), .code (C_78 233), .code (C_78 117), .code (C_78 15)] ?_
    refine Runs.sR hE ⟨[(3, (.op 0 0 0)), (4, (.op 16 0 0)), (5, (.op 32 0 0)), (7, (aI rheight)), (8, (aI rheight2)), (27, (aB (decide (rheight > rheight2))))], [(0, vO 3 (Tapi_Network.cells n)), (16, vO 3 (Tapi_Water.cells w)), (32, vO 8 (Tapi_Link.cells l))], 352⟩ (C_78 232) [] [] (kp [3, 4, 5, 7, 8, 27]) (kq [0, 16, 32]) 352 [] trivial ?_
    refine Runs.sC 27 (C_78 466) (C_78 467) (decide (rheight > rheight2)) (fun hq3 => ?_) (fun hq3 => ?_)
    · have h := condT h hq3
      refine Runs.sA 1 [.code (C_78 932), .code (C_78 933), .code (C_78 117), .code (C_78 15)] ?_
      obtain ⟨rthrough, hr3, h⟩ := bindSome h
      refine Runs.sR hE ⟨[(6, (aI rthrough))], [], 496⟩ (C_78 932) [(7, ⟨[], true, (aI rthrough), [], 0, false⟩)] [] (kp [6]) [] 496 [0 < 1, 0 < 1, 0 < 1, 0 < 1, 0 < 1, Sound Try.prog 87 [(.agg (Tapi_Network.cells n)), (.agg (Tapi_Water.cells w)), (.agg (Tapi_Link.cells l)), (aS l.f_From), (aS l.f_To)] [] 0 (aI rthrough) []] ⟨o1, o1, o1, o1, o1, (g_r05_through_ok N n w l l.f_From l.f_To rthrough hr3), trivial⟩ ?_
      obtain rfl := Option.some.inj h
      refine Runs.sW hE ⟨[(6, (aI rthrough))], [], 496⟩ [] (kp [6]) [] 496 [] trivial ?_
      exact Runs.sT Try.f39 [] [] trivial
    · have h := condF h hq3
      refine Runs.sA 3 [.code (C_78 468), .code (C_78 469), .code (C_78 235), .code (C_78 15)] ?_
      refine Runs.sR hE ⟨[(3, (.op 0 0 0)), (4, (.op 16 0 0)), (5, (.op 32 0 0)), (38, (aB (decide (rheight2 > rheight))))], [(0, vO 3 (Tapi_Network.cells n)), (16, vO 3 (Tapi_Water.cells w)), (32, vO 8 (Tapi_Link.cells l))], 400⟩ (C_78 468) [] [] (kp [3, 4, 5, 38]) (kq [0, 16, 32]) 400 [] trivial ?_
      refine Runs.sC 38 (C_78 938) (C_78 939) (decide (rheight2 > rheight)) (fun hq4 => ?_) (fun hq4 => ?_)
      · have h := condT h hq4
        refine Runs.sA 1 [.code (C_78 1876), .code (C_78 1877), .code (C_78 235), .code (C_78 15)] ?_
        obtain ⟨rthrough2, hr4, h⟩ := bindSome h
        refine Runs.sR hE ⟨[(6, (aI (w64 (0 - rthrough2))))], [], 560⟩ (C_78 1876) [(7, ⟨[], true, (aI rthrough2), [], 0, false⟩)] [] (kp [6]) [] 560 [0 < 1, 0 < 1, 0 < 1, 0 < 1, 0 < 1, Sound Try.prog 87 [(.agg (Tapi_Network.cells n)), (.agg (Tapi_Water.cells w)), (.agg (Tapi_Link.cells l)), (aS l.f_To), (aS l.f_From)] [] 0 (aI rthrough2) []] ⟨o1, o1, o1, o1, o1, (g_r05_through_ok N n w l l.f_To l.f_From rthrough2 hr4), trivial⟩ ?_
        obtain rfl := Option.some.inj h
        refine Runs.sW hE ⟨[(6, (aI (w64 (0 - rthrough2))))], [], 560⟩ [] (kp [6]) [] 560 [] trivial ?_
        exact Runs.sT Try.f39 [] [] trivial
      · have h := condF h hq4
        refine Runs.sA 2 [.code (C_78 470), .code (C_78 471), .code (C_78 15)] ?_
        refine Runs.sR hE ⟨[(6, (aI 0))], [], 416⟩ (C_78 470) [] [] (kp [6]) [] 416 [] trivial ?_
        obtain rfl := Option.some.inj h
        refine Runs.sW hE ⟨[(6, (aI 0))], [], 416⟩ [] (kp [6]) [] 416 [] trivial ?_
        exact Runs.sT Try.f39 [] [] trivial
  · have h := condF h hq2
    refine Runs.sA 3 [.code (C_78 60), .code (C_78 61), .code (C_78 31)] ?_
    refine Runs.sR hE ⟨[(3, (.op 0 0 0)), (4, (.op 16 0 0)), (5, (.op 32 0 0)), (53, (aB (decide ((w64 (rheight2 - rheight)) > l.f_Lift))))], [(0, vO 3 (Tapi_Network.cells n)), (16, vO 3 (Tapi_Water.cells w)), (32, vO 8 (Tapi_Link.cells l))], 400⟩ (C_78 60) [] [] (kp [3, 4, 5, 53]) (kq [0, 16, 32]) 400 [0 < 1] ⟨o1, trivial⟩ ?_
    refine Runs.sC 53 (C_78 122) (C_78 123) (decide ((w64 (rheight2 - rheight)) > l.f_Lift)) (fun hq5 => ?_) (fun hq5 => ?_)
    · have h := condT h hq5
      refine Runs.sA 1 [.code (C_78 244), .code (C_78 245), .code (C_78 31)] ?_
      refine Runs.sR hE ⟨[(6, (aI 0))], [], 416⟩ (C_78 244) [] [] (kp [6]) [] 416 [] trivial ?_
      obtain rfl := Option.some.inj h
      refine Runs.sW hE ⟨[(6, (aI 0))], [], 416⟩ [] (kp [6]) [] 416 [] trivial ?_
      exact Runs.sT Try.f39 [] [] trivial
    · have h := condF h hq5
      refine Runs.sA 2 [.code (C_78 62), .code (C_78 63)] ?_
      refine Runs.sR hE ⟨[(3, (.op 0 0 0)), (4, (.op 16 0 0)), (5, (.op 32 0 0)), (9, (aI l.f_Rate))], [(0, vO 3 (Tapi_Network.cells n)), (16, vO 3 (Tapi_Water.cells w)), (32, vO 8 (Tapi_Link.cells l))], 448⟩ (C_78 62) [] [] (kp [3, 4, 5, 9]) (kq [0, 16, 32]) 448 [0 < 1] ⟨o1, trivial⟩ ?_
      refine Runs.sA 2 [.code (C_78 252), .code (C_78 253), .code (C_78 127)] ?_
      obtain ⟨rBasin, hr5, h⟩ := bindSome h
      refine Runs.sR hE ⟨[(3, (.op 0 0 0)), (4, (.op 16 0 0)), (5, (.op 32 0 0)), (9, (aI l.f_Rate)), (10, (aI rBasin))], [(0, vO 3 (Tapi_Network.cells n)), (16, vO 3 (Tapi_Water.cells w)), (32, vO 8 (Tapi_Link.cells l))], 528⟩ (C_78 252) [(3, ⟨[], true, (aI rBasin), [], 0, false⟩)] [] (kp [3, 4, 5, 9, 10]) (kq [0, 16, 32]) 528 [0 < 1, 0 < 1, Sound Try.prog 55 [(.agg (Tapi_Network.cells n)), (aS l.f_From)] [] 0 (aI rBasin) []] ⟨o1, o1, (g_r05_Basin_ok N n l.f_From rBasin hr5), trivial⟩ ?_
      refine Runs.sA 1 [.code (C_78 506), .code (C_78 507), .code (C_78 127)] ?_
      refine Runs.sR hE ⟨[(3, (.op 0 0 0)), (4, (.op 16 0 0)), (5, (.op 32 0 0)), (9, (aI l.f_Rate)), (10, (aI rBasin)), (61, (aB (decide (rBasin ≥ 0))))], [(0, vO 3 (Tapi_Network.cells n)), (16, vO 3 (Tapi_Water.cells w)), (32, vO 8 (Tapi_Link.cells l))], 560⟩ (C_78 506) [] [] (kp [3, 4, 5, 9, 10, 61]) (kq [0, 16, 32]) 560 [] trivial ?_
      refine Runs.sC 61 (C_78 1014) (C_78 1015) (decide (rBasin ≥ 0)) (fun hq6 => ?_) (fun hq6 => ?_)
      · have h := condT h hq6
        obtain ⟨c, h⟩ := ifSome h
        refine Runs.sR hE ⟨[(3, (.op 0 0 0)), (4, (.op 16 0 0)), (5, (.op 32 0 0)), (9, (aI (if (w.f_Litres.getD ((rBasin).toNat) 0) < l.f_Rate then (w.f_Litres.getD ((rBasin).toNat) 0) else l.f_Rate)))], [(0, vO 3 (Tapi_Network.cells n)), (16, vO 3 (Tapi_Water.cells w)), (32, vO 8 (Tapi_Link.cells l))], 688⟩ (C_78 1014) [] [] (kp [3, 4, 5, 9]) (kq [0, 16, 32]) 688 [0 < 1, 0 ≤ rBasin ∧ rBasin < ((w.f_Litres.length : Nat) : Int)] ⟨o1, c, trivial⟩ ?_
        refine Runs.sA 2 [.code (C_78 508), .code (C_78 509), .code (C_78 255)] ?_
        exact Runs.sW hE _ [] (kp [3, 4, 5, 9]) (kq [0] ++ [(1, .keep 16), (2, .keep 32)]) 3 [] trivial (g_r05_Act_J1_ok N n w l (if (w.f_Litres.getD ((rBasin).toNat) 0) < l.f_Rate then (w.f_Litres.getD ((rBasin).toNat) 0) else l.f_Rate) _ h E hE)
      · have h := condF h hq6
        refine Runs.sA 3 [.code (C_78 508), .code (C_78 509), .code (C_78 255)] ?_
        exact Runs.sW hE _ [] (kp [3, 4, 5, 9]) (kq [0] ++ [(1, .keep 16), (2, .keep 32)]) 3 [] trivial (g_r05_Act_J1_ok N n w l l.f_Rate _ h E hE)

noncomputable def C_87 (n : Nat) : Code := cat (bodyOf Try.f111) (pth n)

theorem g_slices_Clone_int_int_ok (N : Nat) (s : List Int) (r : (List Int)) (h : g_slices_Clone_int_int N s = some r) : Sound Try.prog 111 [(encL cI 0 s)] [] 0 (.os 0 0 r.length) [(0, aO 1 cI 0 r)] := by
  unfold g_slices_Clone_int_int at h
  refine Sound.of_runs (fu := Try.f111) (c := C_87 1) (nt := 8) (by kernel_rfl) (by kernel_rfl) (by kernel_rfl) (by kernel_rfl) (fun hm => rfl) ?_
  intro E hE
  refine Runs.sA 1 [.code (C_87 2), .code (C_87 3)] ?_
  refine Runs.sR hE ⟨[(0, (encL cI 0 s))], [], 16⟩ (C_87 2) [] [] (kp [0]) [] 16 [] trivial ?_
  refine Runs.sA 2 [.code (C_87 12), .code (C_87 13), .code (C_87 7)] ?_
  refine Runs.sR hE ⟨[(0, (encL cI 0 s)), (4, (.bn s.length))], [], 48⟩ (C_87 12) [] [] (kp [0, 4]) [] 48 [] trivial ?_
  refine Runs.condBn (o := .tmp 4) (x := C_87 26) (y := C_87 27) (n := s.length) (by kernel_rfl) (by kernel_rfl) (fun hq2 => ?_) ?_
  · replace hq2 := List.length_eq_zero_iff.1 hq2
    replace h : (some ([] : List Int)) = some r := by rw [hq2] at h; simpa using h
    refine Runs.sA 1 [.code (C_87 52), .code (C_87 53), .code (C_87 7)] ?_
    refine Runs.sR hE ⟨[(2, .nil)], [], 64⟩ (C_87 52) [] [] (kp [2]) [] 64 [] trivial ?_
    obtain rfl := Option.some.inj h
    refine Runs.sW hE ⟨[(2, (.os 0 0 (([] : List Int).length)))], [(0, aO 1 cI 0 ([] : List Int))], 64⟩ [] [(2, .nilos 0)] [(0, .nil 1 (fun zi => cI (([] : List Int).getD zi 0)))] 64 [] trivial ?_
    exact Runs.sT Try.f111 [] [] trivial
  · refine Runs.sA 2 [.code (C_87 14), .code (C_87 15)] ?_
    obtain ⟨c, h⟩ := ifSome h
    refine Runs.sR hE ⟨[(2, (.os 80 0 ((([] : List Int) ++ s).length)))], [(80, aO 1 cI 0 (([] : List Int) ++ s))], 112⟩ (C_87 14) [] [] [(2, .osl ((([] : List Int) ++ s).length))] [(80, .arr 80 ((([] : List Int) ++ s).length) (fun zi => cI ((([] : List Int) ++ s).getD zi 0)))] 112 [0 = 0, (0 + s.length) * 8 ≤ 140737488355328, ∀ zi, zi < s.length → AV.oneL ((fun zi => cI (s.getD zi 0)) zi) = true, (0 + s.length) = (([] : List Int) ++ s).length, 0 + s.length = (([] : List Int) ++ s).length, ∀ zi, zi < (([] : List Int) ++ s).length → (fun zi => cI ((([] : List Int) ++ s).getD zi 0)) zi = ((fun zm => if zm < 0 then (fun _ => []) zm else (fun zi => cI (s.getD zi 0)) (zm - 0))) zi] ⟨rfl, c, (fun _ _ => rfl), (len_app_raw rfl rfl), (len_app_raw rfl rfl), (get_app_raw cI 0 ([] : List Int) s rfl (fun zq hzq => absurd hzq (Nat.not_lt_zero _)) (fun _ _ => rfl)), trivial⟩ ?_
    obtain rfl := Option.some.inj h
    refine Runs.sW hE ⟨[(2, (.os 0 0 ((([] : List Int) ++ s).length)))], [(0, aO 1 cI 0 (([] : List Int) ++ s))], 112⟩ [] (kp [2]) [(0, .keep 80)] 112 [] trivial ?_
    exact Runs.sT Try.f111 [] [] trivial

noncomputable def C_88 (n : Nat) : Code := cat (bodyOf Try.f112) (pth n)

theorem g_slices_Clone_bool_bool_ok (N : Nat) (s : List Bool) (r : (List Bool)) (h : g_slices_Clone_bool_bool N s = some r) : Sound Try.prog 112 [(encL cB false s)] [] 0 (.os 0 0 r.length) [(0, aO 1 cB false r)] := by
  unfold g_slices_Clone_bool_bool at h
  refine Sound.of_runs (fu := Try.f112) (c := C_88 1) (nt := 8) (by kernel_rfl) (by kernel_rfl) (by kernel_rfl) (by kernel_rfl) (fun hm => rfl) ?_
  intro E hE
  refine Runs.sA 1 [.code (C_88 2), .code (C_88 3)] ?_
  refine Runs.sR hE ⟨[(0, (encL cB false s))], [], 16⟩ (C_88 2) [] [] (kp [0]) [] 16 [] trivial ?_
  refine Runs.sA 2 [.code (C_88 12), .code (C_88 13), .code (C_88 7)] ?_
  refine Runs.sR hE ⟨[(0, (encL cB false s)), (4, (.bn s.length))], [], 48⟩ (C_88 12) [] [] (kp [0, 4]) [] 48 [] trivial ?_
  refine Runs.condBn (o := .tmp 4) (x := C_88 26) (y := C_88 27) (n := s.length) (by kernel_rfl) (by kernel_rfl) (fun hq2 => ?_) ?_
  · replace hq2 := List.length_eq_zero_iff.1 hq2
    replace h : (some ([] : List Bool)) = some r := by rw [hq2] at h; simpa using h
    refine Runs.sA 1 [.code (C_88 52), .code (C_88 53), .code (C_88 7)] ?_
    refine Runs.sR hE ⟨[(2, .nil)], [], 64⟩ (C_88 52) [] [] (kp [2]) [] 64 [] trivial ?_
    obtain rfl := Option.some.inj h
    refine Runs.sW hE ⟨[(2, (.os 0 0 (([] : List Bool).length)))], [(0, aO 1 cB false ([] : List Bool))], 64⟩ [] [(2, .nilos 0)] [(0, .nil 1 (fun zi => cB (([] : List Bool).getD zi false)))] 64 [] trivial ?_
    exact Runs.sT Try.f112 [] [] trivial
  · refine Runs.sA 2 [.code (C_88 14), .code (C_88 15)] ?_
    obtain ⟨c, h⟩ := ifSome h
    refine Runs.sR hE ⟨[(2, (.os 80 0 ((([] : List Bool) ++ s).length)))], [(80, aO 1 cB false (([] : List Bool) ++ s))], 112⟩ (C_88 14) [] [] [(2, .osl ((([] : List Bool) ++ s).length))] [(80, .arr 80 ((([] : List Bool) ++ s).length) (fun zi => cB ((([] : List Bool) ++ s).getD zi false)))] 112 [0 = 0, (0 + s.length) * 1 ≤ 140737488355328, ∀ zi, zi < s.length → AV.oneL ((fun zi => cB (s.getD zi false)) zi) = true, (0 + s.length) = (([] : List Bool) ++ s).length, 0 + s.length = (([] : List Bool) ++ s).length, ∀ zi, zi < (([] : List Bool) ++ s).length → (fun zi => cB ((([] : List Bool) ++ s).getD zi false)) zi = ((fun zm => if zm < 0 then (fun _ => []) zm else (fun zi => cB (s.getD zi false)) (zm - 0))) zi] ⟨rfl, c, (fun _ _ => rfl), (len_app_raw rfl rfl), (len_app_raw rfl rfl), (get_app_raw cB false ([] : List Bool) s rfl (fun zq hzq => absurd hzq (Nat.not_lt_zero _)) (fun _ _ => rfl)), trivial⟩ ?_
    obtain rfl := Option.some.inj h
    refine Runs.sW hE ⟨[(2, (.os 0 0 ((([] : List Bool) ++ s).length)))], [(0, aO 1 cB false (([] : List Bool) ++ s))], 112⟩ [] (kp [2]) [(0, .keep 80)] 112 [] trivial ?_
    exact Runs.sT Try.f112 [] [] trivial

noncomputable def C_86 (n : Nat) : Code := cat (bodyOf Try.f88) (pth n)

theorem g_water_clone_ok (N : Nat) (w : Tapi_Water) (r : Tapi_Water) (h : g_water_clone N w = some r) : Sound Try.prog 88 [(.agg (Tapi_Water.cells w))] [] 0 (.agg [(aI r.f_Minute), (.os 0 0 r.f_Litres.length), (.os 1 0 r.f_Open.length)]) [(0, aO 1 cI 0 r.f_Litres), (1, aO 1 cB false r.f_Open)] := by
  unfold g_water_clone at h
  refine Sound.of_runs (fu := Try.f88) (c := C_86 1) (nt := 12) (by kernel_rfl) (by kernel_rfl) (by kernel_rfl) (by kernel_rfl) (fun hm => rfl) ?_
  intro E hE
  refine Runs.sA 1 [.code (C_86 2), .code (C_86 3)] ?_
  refine Runs.sR hE ⟨[(1, (.op 0 0 0)), (2, (.op 16 0 0))], [(0, vO 3 (Tapi_Water.cells w)), (16, vO 3 [(aI 0), .nil, .nil])], 32⟩ (C_86 2) [] [] (kp [1, 2]) (kq [0, 16]) 32 [] trivial ?_
  refine Runs.sA 1 [.code (C_86 6), .code (C_86 7)] ?_
  obtain ⟨rClone, hr, h⟩ := bindSome h
  obtain ⟨rClone2, hr2, h⟩ := bindSome h
  refine Runs.sR hE ⟨[(2, (.op 16 0 0))], [(16, vN 3 [(aI w.f_Minute), (.os 96 0 rClone.length), (.os 144 0 rClone2.length)]), (96, aO 1 cI 0 rClone), (144, aO 1 cB false rClone2)], 192⟩ (C_86 6) [(4, ⟨[], false, (.os 0 0 rClone.length), [(0, aO 1 cI 0 rClone)], 0, false⟩), (7, ⟨[], false, (.os 0 0 rClone2.length), [(0, aO 1 cB false rClone2)], 0, false⟩)] [] (kp [2]) (kq [16, 96, 144]) 192 [0 < 1, 0 < 1, Sound Try.prog 111 [(encL cI 0 w.f_Litres)] [] 0 (.os 0 0 rClone.length) [(0, aO 1 cI 0 rClone)], 0 < 1, Sound Try.prog 112 [(encL cB false w.f_Open)] [] 0 (.os 0 0 rClone2.length) [(0, aO 1 cB false rClone2)], 0 < 1] ⟨o1, o1, (g_slices_Clone_int_int_ok N w.f_Litres rClone hr), o1, (g_slices_Clone_bool_bool_ok N w.f_Open rClone2 hr2), o1, trivial⟩ ?_
  obtain rfl := Option.some.inj h
  refine Runs.sW hE ⟨[(2, (.op 16 0 0))], [(0, aO 1 cI 0 rClone), (1, aO 1 cB false rClone2), (16, vN 3 [(aI w.f_Minute), (.os 0 0 rClone.length), (.os 1 0 rClone2.length)])], 192⟩ [] (kp [2]) [(0, .keep 96), (1, .keep 144), (16, .var 16 [.keep, .keep, .keep])] 192 [] trivial ?_
  exact Runs.sT Try.f88 [16] [0 < 1] ⟨o1, trivial⟩

noncomputable def C_89 (n : Nat) : Code := cat (bodyOf Try.f89) (pth n)

theorem g_water_step_J3_ok (N : Nat) (n : Tapi_Network) (cap0 : Int) (cap2 : List Bool) (out : List Int) (x : Int) (rflow : Int) (K_g_water_step_L1 : (List Int) → (List Int) → Int → Option ((List Int) × Tapi_Water × (List Int)))
    (hK_g_water_step_L1 : ∀ (cap02 : List Int) (out : List Int) (x : Int) (r : (List Int) × Tapi_Water × (List Int)), K_g_water_step_L1 cap02 out x = some r → ∀ E, EnvOk E 3 → Runs Try.prog E 89 70 (SPost E [(0, vN 3 [(aI r.2.1.f_Minute), (.os 1 0 r.2.2.length), (.os 2 0 cap2.length)]), (1, aO 1 cI 0 r.2.2), (2, aO 1 cB false cap2), (3, aO 1 cI 0 r.1)] (.os 3 0 r.1.length)) [.code (C_89 116), .inLoop (C_89 116), .inBlock 0, .code (C_89 15)] ⟨[(1, (.op 0 0 0)), (2, (.op 3 0 0)), (5, (.os 4 0 out.length)), (12, (encL Tapi_Link.cells Tapi_Link.d n.f_Links)), (13, (aI ((n.f_Links.length : Nat) : Int))), (14, (aI x))], [(0, vN 3 [(aI cap0), (.os 1 0 cap02.length), (.os 2 0 cap2.length)]), (1, aO 1 cI 0 cap02), (2, aO 1 cB false cap2), (3, vO 3 (Tapi_Network.cells n)), (4, aO 1 cI 0 out)], 5⟩) (cap04 : List Int) (r : (List Int) × Tapi_Water × (List Int)) (h : g_water_step_J3 N n cap0 cap2 out x rflow K_g_water_step_L1 cap04 = some r) : ∀ E, EnvOk E 3 → Runs Try.prog E 89 70 (SPost E [(0, vN 3 [(aI r.2.1.f_Minute), (.os 1 0 r.2.2.length), (.os 2 0 cap2.length)]), (1, aO 1 cI 0 r.2.2), (2, aO 1 cB false cap2), (3, aO 1 cI 0 r.1)] (.os 3 0 r.1.length)) [.code (C_89 29903), .inBlock 1, .code (C_89 935), .inLoop (C_89 116), .inBlock 0, .code (C_89 15)] ⟨[(1, (.op 0 0 0)), (2, (.op 3 0 0)), (5, (.os 4 0 out.length)), (8, (aI rflow)), (12, (encL Tapi_Link.cells Tapi_Link.d n.f_Links)), (13, (aI ((n.f_Links.length : Nat) : Int))), (14, (aI x))], [(0, vN 3 [(aI cap0), (.os 1 0 cap04.length), (.os 2 0 cap2.length)]), (1, aO 1 cI 0 cap04), (2, aO 1 cB false cap2), (3, vO 3 (Tapi_Network.cells n)), (4, aO 1 cI 0 out)], 5⟩ := by
  intro E hE
  unfold g_water_step_J3 at h
  obtain ⟨c4, h⟩ := ifSome h
  refine Runs.sR hE ⟨[(1, (.op 0 0 0)), (2, (.op 3 0 0)), (5, (.os 53 0 ((out ++ ([rflow] : List Int)).length))), (12, (encL Tapi_Link.cells Tapi_Link.d n.f_Links)), (13, (aI ((n.f_Links.length : Nat) : Int))), (14, (aI x))], [(0, vN 3 [(aI cap0), (.os 1 0 cap04.length), (.os 2 0 cap2.length)]), (1, aO 1 cI 0 cap04), (2, aO 1 cB false cap2), (3, vO 3 (Tapi_Network.cells n)), (53, aO 1 cI 0 (out ++ ([rflow] : List Int)))], 85⟩ (C_89 29903) [] [] (kp [1, 2] ++ [(5, .osl ((out ++ ([rflow] : List Int)).length))] ++ kp [12, 13, 14]) (kq [0, 1, 2, 3] ++ [(53, .arr 53 ((out ++ ([rflow] : List Int)).length) (fun zi => cI ((out ++ ([rflow] : List Int)).getD zi 0)))]) 85 [out.length = out.length, (out.length + 1) * 8 ≤ 140737488355328, 0 + 1 ≤ 1, ∀ zi, zi < 1 → AV.oneL ((fun zi => ([[(aI rflow)]] : List (List AV)).getD zi []) (addz 0 zi)) = true, (out.length + 1) = (out ++ ([rflow] : List Int)).length, out.length + 1 = (out ++ ([rflow] : List Int)).length, ∀ zi, zi < (out ++ ([rflow] : List Int)).length → (fun zi => cI ((out ++ ([rflow] : List Int)).getD zi 0)) zi = ((fun zm => if zm < out.length then (fun zi => cI (out.getD zi 0)) zm else (fun zi => ([[(aI rflow)]] : List (List AV)).getD zi []) (zm - out.length))) zi] ⟨rfl, c4, z0, (oneN rfl), (len_app_raw rfl rfl), (len_app_raw rfl rfl), (get_app_raw cI 0 out ([rflow] : List Int) rfl (fun _ _ => rfl) (fun zq hzq => get_chunk cI 0 ([rflow] : List Int) zq hzq)), trivial⟩ ?_
  refine Runs.sA 1 [.code (C_89 935), .inLoop (C_89 116), .inBlock 0, .code (C_89 15)] ?_
  refine Runs.sR hE ⟨[(1, (.op 0 0 0)), (2, (.op 3 0 0)), (5, (.os 53 0 ((out ++ ([rflow] : List Int)).length))), (12, (encL Tapi_Link.cells Tapi_Link.d n.f_Links)), (13, (aI ((n.f_Links.length : Nat) : Int))), (14, (aI (w64 (x + 1))))], [(0, vN 3 [(aI cap0), (.os 1 0 cap04.length), (.os 2 0 cap2.length)]), (1, aO 1 cI 0 cap04), (2, aO 1 cB false cap2), (3, vO 3 (Tapi_Network.cells n)), (53, aO 1 cI 0 (out ++ ([rflow] : List Int)))], 117⟩ (C_89 935) [] [] (kp [1, 2, 5, 12, 13, 14]) (kq [0, 1, 2, 3, 53]) 117 [] trivial ?_
  refine Runs.sA 1 [.code (C_89 116), .inLoop (C_89 116), .inBlock 0, .code (C_89 15)] ?_
  exact Runs.sW hE _ [] (kp [1, 2, 5, 12, 13, 14]) (kq [0, 1, 2, 3] ++ [(4, .keep 53)]) 5 [] trivial (hK_g_water_step_L1 cap04 (out ++ ([rflow] : List Int)) (w64 (x + 1)) _ h E hE)

theorem g_water_step_J2_ok (N : Nat) (n : Tapi_Network) (cap0 : Int) (cap2 : List Bool) (out : List Int) (x : Int) (rflow : Int) (K_g_water_step_L1 : (List Int) → (List Int) → Int → Option ((List Int) × Tapi_Water × (List Int)))
    (hK_g_water_step_L1 : ∀ (cap02 : List Int) (out : List Int) (x : Int) (r : (List Int) × Tapi_Water × (List Int)), K_g_water_step_L1 cap02 out x = some r → ∀ E, EnvOk E 3 → Runs Try.prog E 89 70 (SPost E [(0, vN 3 [(aI r.2.1.f_Minute), (.os 1 0 r.2.2.length), (.os 2 0 cap2.length)]), (1, aO 1 cI 0 r.2.2), (2, aO 1 cB false cap2), (3, aO 1 cI 0 r.1)] (.os 3 0 r.1.length)) [.code (C_89 116), .inLoop (C_89 116), .inBlock 0, .code (C_89 15)] ⟨[(1, (.op 0 0 0)), (2, (.op 3 0 0)), (5, (.os 4 0 out.length)), (12, (encL Tapi_Link.cells Tapi_Link.d n.f_Links)), (13, (aI ((n.f_Links.length : Nat) : Int))), (14, (aI x))], [(0, vN 3 [(aI cap0), (.os 1 0 cap02.length), (.os 2 0 cap2.length)]), (1, aO 1 cI 0 cap02), (2, aO 1 cB false cap2), (3, vO 3 (Tapi_Network.cells n)), (4, aO 1 cI 0 out)], 5⟩) (cap03 : List Int) (r : (List Int) × Tapi_Water × (List Int)) (h : g_water_step_J2 N n cap0 cap2 out x rflow K_g_water_step_L1 cap03 = some r) : ∀ E, EnvOk E 3 → Runs Try.prog E 89 70 (SPost E [(0, vN 3 [(aI r.2.1.f_Minute), (.os 1 0 r.2.2.length), (.os 2 0 cap2.length)]), (1, aO 1 cI 0 r.2.2), (2, aO 1 cB false cap2), (3, aO 1 cI 0 r.1)] (.os 3 0 r.1.length)) [.code (C_89 59804), .code (C_89 59805), .code (C_89 29903), .inBlock 1, .code (C_89 935), .inLoop (C_89 116), .inBlock 0, .code (C_89 15)] ⟨[(1, (.op 0 0 0)), (2, (.op 3 0 0)), (5, (.os 4 0 out.length)), (7, (.op 5 0 0)), (8, (aI rflow)), (12, (encL Tapi_Link.cells Tapi_Link.d n.f_Links)), (13, (aI ((n.f_Links.length : Nat) : Int))), (14, (aI x))], [(0, vN 3 [(aI cap0), (.os 1 0 cap03.length), (.os 2 0 cap2.length)]), (1, aO 1 cI 0 cap03), (2, aO 1 cB false cap2), (3, vO 3 (Tapi_Network.cells n)), (4, aO 1 cI 0 out), (5, vO 8 (Tapi_Link.cells (n.f_Links.getD ((x).toNat) Tapi_Link.d)))], 6⟩ := by
  intro E hE
  unfold g_water_step_J2 at h
  obtain ⟨rbasinOf2, hr3, h⟩ := bindSome h
  refine Runs.sR hE ⟨[(1, (.op 0 0 0)), (2, (.op 3 0 0)), (5, (.os 4 0 out.length)), (8, (aI rflow)), (10, (aI rbasinOf2)), (12, (encL Tapi_Link.cells Tapi_Link.d n.f_Links)), (13, (aI ((n.f_Links.length : Nat) : Int))), (14, (aI x))], [(0, vN 3 [(aI cap0), (.os 1 0 cap03.length), (.os 2 0 cap2.length)]), (1, aO 1 cI 0 cap03), (2, aO 1 cB false cap2), (3, vO 3 (Tapi_Network.cells n)), (4, aO 1 cI 0 out)], 86⟩ (C_89 59804) [(3, ⟨[], true, (aI rbasinOf2), [], 0, false⟩)] [] (kp [1, 2, 5, 8, 10, 12, 13, 14]) (kq [0, 1, 2, 3, 4]) 86 [0 < 1, 0 < 1, Sound Try.prog 94 [(.agg (Tapi_Network.cells n)), (aS ((n.f_Links.getD ((x).toNat) Tapi_Link.d).f_To))] [] 0 (aI rbasinOf2) []] ⟨o1, o1, (g_water_basinOf_ok N n ((n.f_Links.getD ((x).toNat) Tapi_Link.d).f_To) rbasinOf2 hr3), trivial⟩ ?_
  refine Runs.sA 1 [.code (C_89 119610), .code (C_89 119611), .code (C_89 29903), .inBlock 1, .code (C_89 935), .inLoop (C_89 116), .inBlock 0, .code (C_89 15)] ?_
  refine Runs.sR hE ⟨[(1, (.op 0 0 0)), (2, (.op 3 0 0)), (5, (.os 4 0 out.length)), (8, (aI rflow)), (10, (aI rbasinOf2)), (12, (encL Tapi_Link.cells Tapi_Link.d n.f_Links)), (13, (aI ((n.f_Links.length : Nat) : Int))), (14, (aI x)), (46, (aB (decide (rbasinOf2 ≥ 0))))], [(0, vN 3 [(aI cap0), (.os 1 0 cap03.length), (.os 2 0 cap2.length)]), (1, aO 1 cI 0 cap03), (2, aO 1 cB false cap2), (3, vO 3 (Tapi_Network.cells n)), (4, aO 1 cI 0 out)], 118⟩ (C_89 119610) [] [] (kp [1, 2, 5, 8, 10, 12, 13, 14, 46]) (kq [0, 1, 2, 3, 4]) 118 [] trivial ?_
  refine Runs.sC 46 (C_89 239222) (C_89 239223) (decide (rbasinOf2 ≥ 0)) (fun hq4 => ?_) (fun hq4 => ?_)
  · have h := condT h hq4
    obtain ⟨c3, h⟩ := ifSome h
    refine Runs.sR hE ⟨[(1, (.op 0 0 0)), (2, (.op 3 0 0)), (5, (.os 4 0 out.length)), (8, (aI rflow)), (12, (encL Tapi_Link.cells Tapi_Link.d n.f_Links)), (13, (aI ((n.f_Links.length : Nat) : Int))), (14, (aI x))], [(0, vN 3 [(aI cap0), (.os 1 0 ((cap03.set ((rbasinOf2).toNat) (w64 ((cap03.getD ((rbasinOf2).toNat) 0) + rflow))).length)), (.os 2 0 cap2.length)]), (1, aO 1 cI 0 (cap03.set ((rbasinOf2).toNat) (w64 ((cap03.getD ((rbasinOf2).toNat) 0) + rflow)))), (2, aO 1 cB false cap2), (3, vO 3 (Tapi_Network.cells n)), (4, aO 1 cI 0 out)], 294⟩ (C_89 239222) [] [] (kp [1, 2, 5, 8, 12, 13, 14]) ([(0, .var 0 [.keep, .osl ((cap03.set ((rbasinOf2).toNat) (w64 ((cap03.getD ((rbasinOf2).toNat) 0) + rflow))).length), .keep]), (1, .arr 1 ((cap03.set ((rbasinOf2).toNat) (w64 ((cap03.getD ((rbasinOf2).toNat) 0) + rflow))).length) (fun zi => cI ((cap03.set ((rbasinOf2).toNat) (w64 ((cap03.getD ((rbasinOf2).toNat) 0) + rflow))).getD zi 0)))] ++ kq [2, 3, 4]) 294 [0 < 1, 0 ≤ rbasinOf2 ∧ rbasinOf2 < ((cap03.length : Nat) : Int), (rbasinOf2).toNat < cap03.length, 0 ≤ rbasinOf2 ∧ rbasinOf2 < ((cap03.length : Nat) : Int), (rbasinOf2).toNat < cap03.length, cap03.length = (cap03.set ((rbasinOf2).toNat) (w64 ((cap03.getD ((rbasinOf2).toNat) 0) + rflow))).length, cap03.length = (cap03.set ((rbasinOf2).toNat) (w64 ((cap03.getD ((rbasinOf2).toNat) 0) + rflow))).length, ∀ zi, zi < (cap03.set ((rbasinOf2).toNat) (w64 ((cap03.getD ((rbasinOf2).toNat) 0) + rflow))).length → (fun zi => cI ((cap03.set ((rbasinOf2).toNat) (w64 ((cap03.getD ((rbasinOf2).toNat) 0) + rflow))).getD zi 0)) zi = ((fun zm => if zm = (rbasinOf2).toNat then [(aI (w64 ((cap03.getD ((rbasinOf2).toNat) 0) + rflow)))] else (fun zi => cI (cap03.getD zi 0)) zm)) zi] ⟨o1, c3, (ltOf c3), c3, (ltOf c3), (len_set_raw rfl), (len_set_raw rfl), (get_set_raw cI 0 cap03 ((rbasinOf2).toNat) (w64 ((cap03.getD ((rbasinOf2).toNat) 0) + rflow)) (fun _ _ => rfl)), trivial⟩ ?_
    exact Runs.sW hE _ [] (kp [1, 2, 5, 8, 12, 13, 14]) (kq [0, 1, 2, 3, 4]) 5 [] trivial (g_water_step_J3_ok N n cap0 cap2 out x rflow K_g_water_step_L1 hK_g_water_step_L1 (cap03.set ((rbasinOf2).toNat) (w64 ((cap03.getD ((rbasinOf2).toNat) 0) + rflow))) _ h E hE)
  · have h := condF h hq4
    refine Runs.sA 1 [.code (C_89 29903), .inBlock 1, .code (C_89 935), .inLoop (C_89 116), .inBlock 0, .code (C_89 15)] ?_
    exact Runs.sW hE _ [] (kp [1, 2, 5, 8, 12, 13, 14]) (kq [0, 1, 2, 3, 4]) 5 [] trivial (g_water_step_J3_ok N n cap0 cap2 out x rflow K_g_water_step_L1 hK_g_water_step_L1 cap03 _ h E hE)

theorem g_water_step_L1_ok (N : Nat) (n : Tapi_Network) (cap0 : Int) (cap2 : List Bool) (fuel : Nat) : ∀ (cap02 : List Int) (out : List Int) (x : Int) (r : (List Int) × Tapi_Water × (List Int)), g_water_step_L1 N n cap0 cap2 fuel cap02 out x = some r → ∀ E, EnvOk E 3 → Runs Try.prog E 89 70 (SPost E [(0, vN 3 [(aI r.2.1.f_Minute), (.os 1 0 r.2.2.length), (.os 2 0 cap2.length)]), (1, aO 1 cI 0 r.2.2), (2, aO 1 cB false cap2), (3, aO 1 cI 0 r.1)] (.os 3 0 r.1.length)) [.code (C_89 116), .inLoop (C_89 116), .inBlock 0, .code (C_89 15)] ⟨[(1, (.op 0 0 0)), (2, (.op 3 0 0)), (5, (.os 4 0 out.length)), (12, (encL Tapi_Link.cells Tapi_Link.d n.f_Links)), (13, (aI ((n.f_Links.length : Nat) : Int))), (14, (aI x))], [(0, vN 3 [(aI cap0), (.os 1 0 cap02.length), (.os 2 0 cap2.length)]), (1, aO 1 cI 0 cap02), (2, aO 1 cB false cap2), (3, vO 3 (Tapi_Network.cells n)), (4, aO 1 cI 0 out)], 5⟩ := by
  induction fuel with
  | zero => intro _ _ _ r h; rw [g_water_step_L1.eq_1] at h; cases h
  | succ fuel ih =>
    intro cap02 out x r h E hE
    rw [g_water_step_L1.eq_2] at h
    refine Runs.sA 1 [.code (C_89 232), .code (C_89 233), .inLoop (C_89 116), .inBlock 0, .code (C_89 15)] ?_
    refine Runs.sR hE ⟨[(1, (.op 0 0 0)), (2, (.op 3 0 0)), (5, (.os 4 0 out.length)), (12, (encL Tapi_Link.cells Tapi_Link.d n.f_Links)), (13, (aI ((n.f_Links.length : Nat) : Int))), (14, (aI x)), (15, (aB (decide (x < ((n.f_Links.length : Nat) : Int)))))], [(0, vN 3 [(aI cap0), (.os 1 0 cap02.length), (.os 2 0 cap2.length)]), (1, aO 1 cI 0 cap02), (2, aO 1 cB false cap2), (3, vO 3 (Tapi_Network.cells n)), (4, aO 1 cI 0 out)], 21⟩ (C_89 232) [] [] (kp [1, 2, 5, 12, 13, 14, 15]) (kq [0, 1, 2, 3, 4]) 21 [] trivial ?_
    refine Runs.sA 1 [.code (C_89 466), .code (C_89 467), .inLoop (C_89 116), .inBlock 0, .code (C_89 15)] ?_
    refine Runs.sC 15 (C_89 932) (C_89 933) (decide (x < ((n.f_Links.length : Nat) : Int))) (fun hq2 => ?_) (fun hq2 => ?_)
    · have h := condT h hq2
      refine Runs.sA 4 [.code (C_89 3736), .code (C_89 3737), .inBlock 1, .code (C_89 935), .inLoop (C_89 116), .inBlock 0, .code (C_89 15)] ?_
      obtain ⟨c, h⟩ := ifSome h
      refine Runs.sR hE ⟨[(1, (.op 0 0 0)), (2, (.op 3 0 0)), (5, (.os 4 0 out.length)), (6, (aI x)), (7, (.op 69 0 0)), (12, (encL Tapi_Link.cells Tapi_Link.d n.f_Links)), (13, (aI ((n.f_Links.length : Nat) : Int))), (14, (aI x))], [(0, vN 3 [(aI cap0), (.os 1 0 cap02.length), (.os 2 0 cap2.length)]), (1, aO 1 cI 0 cap02), (2, aO 1 cB false cap2), (3, vO 3 (Tapi_Network.cells n)), (4, aO 1 cI 0 out), (69, vO 8 (Tapi_Link.cells (n.f_Links.getD ((x).toNat) Tapi_Link.d)))], 117⟩ (C_89 3736) [] [] (kp [1, 2, 5, 6, 7, 12, 13, 14]) (kq [0, 1, 2, 3, 4, 69]) 117 [0 ≤ x ∧ x < ((n.f_Links.length : Nat) : Int), 0 < 1] ⟨c, o1, trivial⟩ ?_
      refine Runs.sA 1 [.code (C_89 7474), .code (C_89 7475), .inBlock 1, .code (C_89 935), .inLoop (C_89 116), .inBlock 0, .code (C_89 15)] ?_
      obtain ⟨rflow, hr, h⟩ := bindSome h
      refine Runs.sR hE ⟨[(1, (.op 0 0 0)), (2, (.op 3 0 0)), (5, (.os 4 0 out.length)), (7, (.op 69 0 0)), (8, (aI rflow)), (12, (encL Tapi_Link.cells Tapi_Link.d n.f_Links)), (13, (aI ((n.f_Links.length : Nat) : Int))), (14, (aI x))], [(0, vN 3 [(aI cap0), (.os 1 0 cap02.length), (.os 2 0 cap2.length)]), (1, aO 1 cI 0 cap02), (2, aO 1 cB false cap2), (3, vO 3 (Tapi_Network.cells n)), (4, aO 1 cI 0 out), (69, vO 8 (Tapi_Link.cells (n.f_Links.getD ((x).toNat) Tapi_Link.d)))], 229⟩ (C_89 7474) [(5, ⟨[], true, (aI rflow), [], 0, false⟩)] [] (kp [1, 2, 5, 7, 8, 12, 13, 14]) (kq [0, 1, 2, 3, 4, 69]) 229 [0 < 1, 0 < 1, Sound Try.prog 83 [(.agg (Tapi_Network.cells n)), (.agg [(aI cap0), (encL cI 0 cap02), (encL cB false cap2)]), (aI x)] [] 0 (aI rflow) [], 0 + cap02.length ≤ cap02.length, 0 + cap2.length ≤ cap2.length] ⟨o1, o1, (g_water_flow_ok N n (⟨cap0, cap02, cap2⟩ : Tapi_Water) x rflow hr), z0, z0, trivial⟩ ?_
      refine Runs.sA 2 [.code (C_89 29900), .code (C_89 29901), .code (C_89 14951), .inBlock 1, .code (C_89 935), .inLoop (C_89 116), .inBlock 0, .code (C_89 15)] ?_
      obtain ⟨rbasinOf, hr2, h⟩ := bindSome h
      refine Runs.sR hE ⟨[(1, (.op 0 0 0)), (2, (.op 3 0 0)), (5, (.os 4 0 out.length)), (7, (.op 69 0 0)), (8, (aI rflow)), (9, (aI rbasinOf)), (12, (encL Tapi_Link.cells Tapi_Link.d n.f_Links)), (13, (aI ((n.f_Links.length : Nat) : Int))), (14, (aI x))], [(0, vN 3 [(aI cap0), (.os 1 0 cap02.length), (.os 2 0 cap2.length)]), (1, aO 1 cI 0 cap02), (2, aO 1 cB false cap2), (3, vO 3 (Tapi_Network.cells n)), (4, aO 1 cI 0 out), (69, vO 8 (Tapi_Link.cells (n.f_Links.getD ((x).toNat) Tapi_Link.d)))], 309⟩ (C_89 29900) [(3, ⟨[], true, (aI rbasinOf), [], 0, false⟩)] [] (kp [1, 2, 5, 7, 8, 9, 12, 13, 14]) (kq [0, 1, 2, 3, 4, 69]) 309 [0 < 1, 0 < 1, Sound Try.prog 94 [(.agg (Tapi_Network.cells n)), (aS ((n.f_Links.getD ((x).toNat) Tapi_Link.d).f_From))] [] 0 (aI rbasinOf) []] ⟨o1, o1, (g_water_basinOf_ok N n ((n.f_Links.getD ((x).toNat) Tapi_Link.d).f_From) rbasinOf hr2), trivial⟩ ?_
      refine Runs.sA 1 [.code (C_89 59802), .code (C_89 59803), .code (C_89 14951), .inBlock 1, .code (C_89 935), .inLoop (C_89 116), .inBlock 0, .code (C_89 15)] ?_
      refine Runs.sR hE ⟨[(1, (.op 0 0 0)), (2, (.op 3 0 0)), (5, (.os 4 0 out.length)), (7, (.op 69 0 0)), (8, (aI rflow)), (9, (aI rbasinOf)), (12, (encL Tapi_Link.cells Tapi_Link.d n.f_Links)), (13, (aI ((n.f_Links.length : Nat) : Int))), (14, (aI x)), (30, (aB (decide (rbasinOf ≥ 0))))], [(0, vN 3 [(aI cap0), (.os 1 0 cap02.length), (.os 2 0 cap2.length)]), (1, aO 1 cI 0 cap02), (2, aO 1 cB false cap2), (3, vO 3 (Tapi_Network.cells n)), (4, aO 1 cI 0 out), (69, vO 8 (Tapi_Link.cells (n.f_Links.getD ((x).toNat) Tapi_Link.d)))], 341⟩ (C_89 59802) [] [] (kp [1, 2, 5, 7, 8, 9, 12, 13, 14, 30]) (kq [0, 1, 2, 3, 4, 69]) 341 [] trivial ?_
      refine Runs.sC 30 (C_89 119606) (C_89 119607) (decide (rbasinOf ≥ 0)) (fun hq3 => ?_) (fun hq3 => ?_)
      · have h := condT h hq3
        obtain ⟨c2, h⟩ := ifSome h
        refine Runs.sR hE ⟨[(1, (.op 0 0 0)), (2, (.op 3 0 0)), (5, (.os 4 0 out.length)), (7, (.op 69 0 0)), (8, (aI rflow)), (12, (encL Tapi_Link.cells Tapi_Link.d n.f_Links)), (13, (aI ((n.f_Links.length : Nat) : Int))), (14, (aI x))], [(0, vN 3 [(aI cap0), (.os 1 0 ((cap02.set ((rbasinOf).toNat) (w64 ((cap02.getD ((rbasinOf).toNat) 0) - rflow))).length)), (.os 2 0 cap2.length)]), (1, aO 1 cI 0 (cap02.set ((rbasinOf).toNat) (w64 ((cap02.getD ((rbasinOf).toNat) 0) - rflow)))), (2, aO 1 cB false cap2), (3, vO 3 (Tapi_Network.cells n)), (4, aO 1 cI 0 out), (69, vO 8 (Tapi_Link.cells (n.f_Links.getD ((x).toNat) Tapi_Link.d)))], 517⟩ (C_89 119606) [] [] (kp [1, 2, 5, 7, 8, 12, 13, 14]) ([(0, .var 0 [.keep, .osl ((cap02.set ((rbasinOf).toNat) (w64 ((cap02.getD ((rbasinOf).toNat) 0) - rflow))).length), .keep]), (1, .arr 1 ((cap02.set ((rbasinOf).toNat) (w64 ((cap02.getD ((rbasinOf).toNat) 0) - rflow))).length) (fun zi => cI ((cap02.set ((rbasinOf).toNat) (w64 ((cap02.getD ((rbasinOf).toNat) 0) - rflow))).getD zi 0)))] ++ kq [2, 3, 4, 69]) 517 [0 < 1, 0 ≤ rbasinOf ∧ rbasinOf < ((cap02.length : Nat) : Int), (rbasinOf).toNat < cap02.length, 0 ≤ rbasinOf ∧ rbasinOf < ((cap02.length : Nat) : Int), (rbasinOf).toNat < cap02.length, cap02.length = (cap02.set ((rbasinOf).toNat) (w64 ((cap02.getD ((rbasinOf).toNat) 0) - rflow))).length, cap02.length = (cap02.set ((rbasinOf).toNat) (w64 ((cap02.getD ((rbasinOf).toNat) 0) - rflow))).length, ∀ zi, zi < (cap02.set ((rbasinOf).toNat) (w64 ((cap02.getD ((rbasinOf).toNat) 0) - rflow))).length → (fun zi => cI ((cap02.set ((rbasinOf).toNat) (w64 ((cap02.getD ((rbasinOf).toNat) 0) - rflow))).getD zi 0)) zi = ((fun zm => if zm = (rbasinOf).toNat then [(aI (w64 ((cap02.getD ((rbasinOf).toNat) 0) - rflow)))] else (fun zi => cI (cap02.getD zi 0)) zm)) zi] ⟨o1, c2, (ltOf c2), c2, (ltOf c2), (len_set_raw rfl), (len_set_raw rfl), (get_set_raw cI 0 cap02 ((rbasinOf).toNat) (w64 ((cap02.getD ((rbasinOf).toNat) 0) - rflow)) (fun _ _ => rfl)), trivial⟩ ?_
        refine Runs.sA 2 [.code (C_89 59804), .code (C_89 59805), .code (C_89 29903), .inBlock 1, .code (C_89 935), .inLoop (C_89 116), .inBlock 0, .code (C_89 15)] ?_
        exact Runs.sW hE _ [] (kp [1, 2, 5, 7, 8, 12, 13, 14]) (kq [0, 1, 2, 3, 4] ++ [(5, .keep 69)]) 6 [] trivial (g_water_step_J2_ok N n cap0 cap2 out x rflow (g_water_step_L1 N n cap0 cap2 fuel) ih (cap02.set ((rbasinOf).toNat) (w64 ((cap02.getD ((rbasinOf).toNat) 0) - rflow))) _ h E hE)
      · have h := condF h hq3
        refine Runs.sA 3 [.code (C_89 59804), .code (C_89 59805), .code (C_89 29903), .inBlock 1, .code (C_89 935), .inLoop (C_89 116), .inBlock 0, .code (C_89 15)] ?_
        exact Runs.sW hE _ [] (kp [1, 2, 5, 7, 8, 12, 13, 14]) (kq [0, 1, 2, 3, 4] ++ [(5, .keep 69)]) 6 [] trivial (g_water_step_J2_ok N n cap0 cap2 out x rflow (g_water_step_L1 N n cap0 cap2 fuel) ih cap02 _ h E hE)
    · have h := condF h hq2
      refine Runs.sA 2 [.code (C_89 30), .code (C_89 31)] ?_
      refine Runs.sR hE ⟨[(5, (.os 4 0 out.length))], [(0, vN 3 [(aI (w64 (cap0 + 1))), (.os 1 0 cap02.length), (.os 2 0 cap2.length)]), (1, aO 1 cI 0 cap02), (2, aO 1 cB false cap2), (4, aO 1 cI 0 out)], 149⟩ (C_89 30) [] [] (kp [5]) (kq [0, 1, 2, 4]) 149 [0 < 1, 0 < 1] ⟨o1, o1, trivial⟩ ?_
      refine Runs.sA 1 [.code (C_89 62), .code (C_89 63)] ?_
      refine Runs.sR hE ⟨[(4, (.os 4 0 out.length))], [(0, vN 3 [(aI (w64 (cap0 + 1))), (.os 1 0 cap02.length), (.os 2 0 cap2.length)]), (1, aO 1 cI 0 cap02), (2, aO 1 cB false cap2), (4, aO 1 cI 0 out)], 181⟩ (C_89 62) [] [] (kp [4]) (kq [0, 1, 2, 4]) 181 [] trivial ?_
      obtain rfl := Option.some.inj h
      refine Runs.sW hE ⟨[(4, (.os 3 0 out.length))], [(0, vN 3 [(aI (w64 (cap0 + 1))), (.os 1 0 cap02.length), (.os 2 0 cap2.length)]), (1, aO 1 cI 0 cap02), (2, aO 1 cB false cap2), (3, aO 1 cI 0 out)], 181⟩ [] (kp [4]) (kq [0, 1, 2] ++ [(3, .keep 4)]) 181 [] trivial ?_
      exact Runs.sT Try.f89 [] [] trivial

theorem g_water_step_ok (N : Nat) (n : Tapi_Network) (cap0 : Int) (cap1 : List Int) (cap2 : List Bool) (r : (List Int) × Tapi_Water × (List Int)) (h : g_water_step N n cap0 cap1 cap2 = some r) : Sound Try.prog 89 [(.agg (Tapi_Network.cells n)), (.op 0 0 0)] [(0, vN 3 [(aI cap0), (.os 1 0 cap1.length), (.os 2 0 cap2.length)]), (1, aO 1 cI 0 cap1), (2, aO 1 cB false cap2)] 3 (.os 3 0 r.1.length) [(0, vN 3 [(aI r.2.1.f_Minute), (.os 1 0 r.2.2.length), (.os 2 0 cap2.length)]), (1, aO 1 cI 0 r.2.2), (2, aO 1 cB false cap2), (3, aO 1 cI 0 r.1)] := by
  unfold g_water_step at h
  refine Sound.of_runs (fu := Try.f89) (c := C_89 1) (nt := 70) (by kernel_rfl) (by kernel_rfl) (by kernel_rfl) (by kernel_rfl) (fun hm => absurd hm (by decide)) ?_
  intro E hE
  refine Runs.sA 1 [.code (C_89 2), .code (C_89 3)] ?_
  refine Runs.sR hE ⟨[(1, (.op 0 0 0)), (2, (.op 3 0 0))], [(0, vN 3 [(aI cap0), (.os 1 0 cap1.length), (.os 2 0 cap2.length)]), (1, aO 1 cI 0 cap1), (2, aO 1 cB false cap2), (3, vO 3 (Tapi_Network.cells n))], 35⟩ (C_89 2) [] [] (kp [1, 2]) (kq [0, 1, 2, 3]) 35 [] trivial ?_
  refine Runs.sA 1 [.code (C_89 6), .code (C_89 7)] ?_
  refine Runs.sR hE ⟨[(1, (.op 0 0 0)), (2, (.op 3 0 0)), (5, .nil)], [(0, vN 3 [(aI cap0), (.os 1 0 cap1.length), (.os 2 0 cap2.length)]), (1, aO 1 cI 0 cap1), (2, aO 1 cB false cap2), (3, vO 3 (Tapi_Network.cells n))], 51⟩ (C_89 6) [] [] (kp [1, 2, 5]) (kq [0, 1, 2, 3]) 51 [] trivial ?_
  refine Runs.sA 2 [.code (C_89 28), .code (C_89 29), .code (C_89 15)] ?_
  refine Runs.sR hE ⟨[(1, (.op 0 0 0)), (2, (.op 3 0 0)), (5, .nil), (12, (encL Tapi_Link.cells Tapi_Link.d n.f_Links)), (13, (aI ((n.f_Links.length : Nat) : Int))), (14, (aI 0))], [(0, vN 3 [(aI cap0), (.os 1 0 cap1.length), (.os 2 0 cap2.length)]), (1, aO 1 cI 0 cap1), (2, aO 1 cB false cap2), (3, vO 3 (Tapi_Network.cells n))], 115⟩ (C_89 28) [] [] (kp [1, 2, 5, 12, 13, 14]) (kq [0, 1, 2, 3]) 115 [0 < 1] ⟨o1, trivial⟩ ?_
  refine Runs.sA 2 [.code (C_89 116), .inLoop (C_89 116), .inBlock 0, .code (C_89 15)] ?_
  exact Runs.sW hE _ [] (kp [1, 2] ++ [(5, .nilos 4)] ++ kp [12, 13, 14]) (kq [0, 1, 2, 3] ++ [(4, .nil 1 (fun zi => cI (([] : List Int).getD zi 0)))]) 5 [] trivial (g_water_step_L1_ok N n cap0 cap2 N cap1 ([] : List Int) 0 _ h E hE)

noncomputable def C_91 (n : Nat) : Code := cat (bodyOf Try.f90) (pth n)

theorem g_water_checkTurns_L1_ok (N : Nat) (n : Tapi_Network) (turns : List Tapi_Turn) (fuel : Nat) : ∀ (x : Int) (r : Int), g_water_checkTurns_L1 N n turns fuel x = some r → ∀ E, EnvOk E 0 → Runs Try.prog E 90 52 (SPost E [] (aI r)) [.code (C_91 244), .inLoop (C_91 244), .inBlock 0, .code (C_91 31)] ⟨[(2, (encL Tapi_Turn.cells Tapi_Turn.d turns)), (3, (.op 0 0 0)), (19, (encL Tapi_Turn.cells Tapi_Turn.d turns)), (20, (aI ((turns.length : Nat) : Int))), (21, (aI x))], [(0, vO 3 (Tapi_Network.cells n))], 1⟩ := by
  induction fuel with
  | zero => intro _ r h; rw [g_water_checkTurns_L1.eq_1] at h; cases h
  | succ fuel ih =>
    intro x r h E hE
    rw [g_water_checkTurns_L1.eq_2] at h
    refine Runs.sA 1 [.code (C_91 488), .code (C_91 489), .inLoop (C_91 244), .inBlock 0, .code (C_91 31)] ?_
    refine Runs.sR hE ⟨[(2, (encL Tapi_Turn.cells Tapi_Turn.d turns)), (3, (.op 0 0 0)), (19, (encL Tapi_Turn.cells Tapi_Turn.d turns)), (20, (aI ((turns.length : Nat) : Int))), (21, (aI x)), (22, (aB (decide (x < ((turns.length : Nat) : Int)))))], [(0, vO 3 (Tapi_Network.cells n))], 17⟩ (C_91 488) [] [] (kp [2, 3, 19, 20, 21, 22]) (kq [0]) 17 [] trivial ?_
    refine Runs.sA 1 [.code (C_91 978), .code (C_91 979), .inLoop (C_91 244), .inBlock 0, .code (C_91 31)] ?_
    refine Runs.sC 22 (C_91 1956) (C_91 1957) (decide (x < ((turns.length : Nat) : Int))) (fun hq4 => ?_) (fun hq4 => ?_)
    · have h := condT h hq4
      refine Runs.sA 4 [.code (C_91 7832), .code (C_91 7833), .inBlock 1, .code (C_91 1959), .inLoop (C_91 244), .inBlock 0, .code (C_91 31)] ?_
      obtain ⟨c, h⟩ := ifSome h
      refine Runs.sR hE ⟨[(2, (encL Tapi_Turn.cells Tapi_Turn.d turns)), (3, (.op 0 0 0)), (8, (aI x)), (9, (.op 65 0 0)), (19, (encL Tapi_Turn.cells Tapi_Turn.d turns)), (20, (aI ((turns.length : Nat) : Int))), (21, (aI x))], [(0, vO 3 (Tapi_Network.cells n)), (65, vO 3 (Tapi_Turn.cells (turns.getD ((x).toNat) Tapi_Turn.d)))], 113⟩ (C_91 7832) [] [] (kp [2, 3, 8, 9, 19, 20, 21]) (kq [0, 65]) 113 [0 ≤ x ∧ x < ((turns.length : Nat) : Int), 0 < 1] ⟨c, o1, trivial⟩ ?_
      refine Runs.sA 2 [.code (C_91 31332), .code (C_91 31333), .inBlock 2, .inBlock 1, .code (C_91 1959), .inLoop (C_91 244), .inBlock 0, .code (C_91 31)] ?_
      obtain ⟨rbetween, hr2, h⟩ := bindSome h
      refine Runs.sR hE ⟨[(2, (encL Tapi_Turn.cells Tapi_Turn.d turns)), (3, (.op 0 0 0)), (8, (aI x)), (9, (.op 65 0 0)), (19, (encL Tapi_Turn.cells Tapi_Turn.d turns)), (20, (aI ((turns.length : Nat) : Int))), (21, (aI x)), (26, (aB (!rbetween)))], [(0, vO 3 (Tapi_Network.cells n)), (65, vO 3 (Tapi_Turn.cells (turns.getD ((x).toNat) Tapi_Turn.d)))], 193⟩ (C_91 31332) [(2, ⟨[], true, (aB rbetween), [], 0, false⟩)] [] (kp [2, 3, 8, 9, 19, 20, 21, 26]) (kq [0, 65]) 193 [0 < 1, Sound Try.prog 59 [(aI ((turns.getD ((x).toNat) Tapi_Turn.d).f_Minute)), (aI 0), (aI 1000000)] [] 0 (aB rbetween) []] ⟨o1, (g_water_between_ok N ((turns.getD ((x).toNat) Tapi_Turn.d).f_Minute) 0 1000000 rbetween hr2), trivial⟩ ?_
      refine Runs.sC 26 (C_91 62666) (C_91 62667) (!rbetween) (fun hq5 => ?_) (fun hq5 => ?_)
      · have h := condT h hq5
        refine Runs.sA 1 [.code (C_91 125332), .code (C_91 125333), .inBlock 2, .inBlock 1, .code (C_91 1959), .inLoop (C_91 244), .inBlock 0, .code (C_91 31)] ?_
        refine Runs.sR hE ⟨[(6, (aI 2))], [], 209⟩ (C_91 125332) [] [] (kp [6]) [] 209 [] trivial ?_
        obtain rfl := Option.some.inj h
        refine Runs.sW hE ⟨[(6, (aI 2))], [], 209⟩ [] (kp [6]) [] 209 [] trivial ?_
        exact Runs.sT Try.f90 [] [] trivial
      · have h := condF h hq5
        refine Runs.sA 1 [.code (C_91 125334), .code (C_91 125335), .inBlock 2, .inBlock 1, .code (C_91 1959), .inLoop (C_91 244), .inBlock 0, .code (C_91 31)] ?_
        obtain ⟨c2, h⟩ := ifSome h
        refine Runs.sR hE ⟨[(2, (encL Tapi_Turn.cells Tapi_Turn.d turns)), (3, (.op 0 0 0)), (9, (.op 65 0 0)), (19, (encL Tapi_Turn.cells Tapi_Turn.d turns)), (20, (aI ((turns.length : Nat) : Int))), (21, (aI x)), (31, (aB (cond (decide (x > 0)) (decide ((turns.getD ((x).toNat) Tapi_Turn.d).f_Minute < (turns.getD ((w64 (x - 1)).toNat) Tapi_Turn.d).f_Minute)) false)))], [(0, vO 3 (Tapi_Network.cells n)), (65, vO 3 (Tapi_Turn.cells (turns.getD ((x).toNat) Tapi_Turn.d)))], 417⟩ (C_91 125334) [] [] (kp [2, 3, 9, 19, 20, 21, 31]) (kq [0, 65]) 417 [(decide (x > 0)) = true → AllP [(decide (x > 0)) = true, 0 < 1], (decide (x > 0)) = true → AllP [(decide (x > 0)) = true], (decide (x > 0)) = true → AllP [(decide (x > 0)) = true, (decide (x > 0)) = true, 0 ≤ (w64 (x - 1)) ∧ (w64 (x - 1)) < ((turns.length : Nat) : Int)], (decide (x > 0)) = true → AllP [(decide (x > 0)) = true], (decide (x > 0)) = true → AllP [(decide (x > 0)) = true], (decide (x > 0)) = true → AllP [(decide (x > 0)) = true, (decide (x > 0)) = true], (decide (x > 0)) = true → AllP [(decide (x > 0)) = true]] ⟨(fun hg => ⟨hg, o1, trivial⟩), (fun hg => ⟨hg, trivial⟩), (fun hg => ⟨hg, hg, (c2 hg), trivial⟩), (fun hg => ⟨hg, trivial⟩), (fun hg => ⟨hg, trivial⟩), (fun hg => ⟨hg, hg, trivial⟩), (fun hq => ⟨hq, trivial⟩), trivial⟩ ?_
        refine Runs.sC 31 (C_91 250670) (C_91 250671) (cond (decide (x > 0)) (decide ((turns.getD ((x).toNat) Tapi_Turn.d).f_Minute < (turns.getD ((w64 (x - 1)).toNat) Tapi_Turn.d).f_Minute)) false) (fun hq6 => ?_) (fun hq6 => ?_)
        · have h := condT h hq6
          refine Runs.sA 1 [.code (C_91 501340), .code (C_91 501341), .inBlock 2, .inBlock 1, .code (C_91 1959), .inLoop (C_91 244), .inBlock 0, .code (C_91 31)] ?_
          refine Runs.sR hE ⟨[(6, (aI 10))], [], 433⟩ (C_91 501340) [] [] (kp [6]) [] 433 [] trivial ?_
          obtain rfl := Option.some.inj h
          refine Runs.sW hE ⟨[(6, (aI 10))], [], 433⟩ [] (kp [6]) [] 433 [] trivial ?_
          exact Runs.sT Try.f90 [] [] trivial
        · have h := condF h hq6
          refine Runs.sA 1 [.code (C_91 501342), .code (C_91 501343), .inBlock 2, .inBlock 1, .code (C_91 1959), .inLoop (C_91 244), .inBlock 0, .code (C_91 31)] ?_
          obtain ⟨rlinkOf, hr3, h⟩ := bindSome h
          refine Runs.sR hE ⟨[(2, (encL Tapi_Turn.cells Tapi_Turn.d turns)), (3, (.op 0 0 0)), (19, (encL Tapi_Turn.cells Tapi_Turn.d turns)), (20, (aI ((turns.length : Nat) : Int))), (21, (aI x)), (45, (aB (decide (rlinkOf < 0))))], [(0, vO 3 (Tapi_Network.cells n))], 513⟩ (C_91 501342) [(3, ⟨[], true, (aI rlinkOf), [], 0, false⟩)] [] (kp [2, 3, 19, 20, 21, 45]) (kq [0]) 513 [0 < 1, 0 < 1, Sound Try.prog 82 [(.agg (Tapi_Network.cells n)), (aS ((turns.getD ((x).toNat) Tapi_Turn.d).f_Link))] [] 0 (aI rlinkOf) []] ⟨o1, o1, (g_water_linkOf_ok N n ((turns.getD ((x).toNat) Tapi_Turn.d).f_Link) rlinkOf hr3), trivial⟩ ?_
          refine Runs.sC 45 (C_91 1002686) (C_91 1002687) (decide (rlinkOf < 0)) (fun hq7 => ?_) (fun hq7 => ?_)
          · have h := condT h hq7
            refine Runs.sA 1 [.code (C_91 2005372), .code (C_91 2005373), .inBlock 2, .inBlock 1, .code (C_91 1959), .inLoop (C_91 244), .inBlock 0, .code (C_91 31)] ?_
            refine Runs.sR hE ⟨[(6, (aI 6))], [], 529⟩ (C_91 2005372) [] [] (kp [6]) [] 529 [] trivial ?_
            obtain rfl := Option.some.inj h
            refine Runs.sW hE ⟨[(6, (aI 6))], [], 529⟩ [] (kp [6]) [] 529 [] trivial ?_
            exact Runs.sT Try.f90 [] [] trivial
          · have h := condF h hq7
            refine Runs.sA 3 [.code (C_91 1959), .inLoop (C_91 244), .inBlock 0, .code (C_91 31)] ?_
            refine Runs.sR hE ⟨[(2, (encL Tapi_Turn.cells Tapi_Turn.d turns)), (3, (.op 0 0 0)), (19, (encL Tapi_Turn.cells Tapi_Turn.d turns)), (20, (aI ((turns.length : Nat) : Int))), (21, (aI (w64 (x + 1))))], [(0, vO 3 (Tapi_Network.cells n))], 545⟩ (C_91 1959) [] [] (kp [2, 3, 19, 20, 21]) (kq [0]) 545 [] trivial ?_
            refine Runs.sA 1 [.code (C_91 244), .inLoop (C_91 244), .inBlock 0, .code (C_91 31)] ?_
            exact Runs.sW hE _ [] (kp [2, 3, 19, 20, 21]) (kq [0]) 1 [] trivial (ih (w64 (x + 1)) _ h E hE)
    · have h := condF h hq4
      refine Runs.sA 2 [.code (C_91 62), .code (C_91 63)] ?_
      refine Runs.sR hE ⟨[(6, (aI 0))], [], 33⟩ (C_91 62) [] [] (kp [6]) [] 33 [] trivial ?_
      obtain rfl := Option.some.inj h
      refine Runs.sW hE ⟨[(6, (aI 0))], [], 48⟩ [] (kp [6]) [] 48 [] trivial ?_
      exact Runs.sT Try.f90 [] [] trivial

theorem g_water_checkTurns_ok (N : Nat) (n : Tapi_Network) (w : Tapi_Water) (turns : List Tapi_Turn) (r : Int) (h : g_water_checkTurns N n w turns = some r) : Sound Try.prog 90 [(.agg (Tapi_Network.cells n)), (.agg (Tapi_Water.cells w)), (encL Tapi_Turn.cells Tapi_Turn.d turns)] [] 0 (aI r) [] := by
  unfold g_water_checkTurns at h
  refine Sound.of_runs (fu := Try.f90) (c := C_91 1) (nt := 52) (by kernel_rfl) (by kernel_rfl) (by kernel_rfl) (by kernel_rfl) (fun hm => rfl) ?_
  intro E hE
  refine Runs.sA 1 [.code (C_91 2), .code (C_91 3)] ?_
  refine Runs.sR hE ⟨[(2, (encL Tapi_Turn.cells Tapi_Turn.d turns)), (3, (.op 0 0 0)), (4, (.op 16 0 0))], [(0, vO 3 (Tapi_Network.cells n)), (16, vO 3 (Tapi_Water.cells w))], 48⟩ (C_91 2) [] [] (kp [2, 3, 4]) (kq [0, 16]) 48 [] trivial ?_
  refine Runs.sA 2 [.code (C_91 12), .code (C_91 13), .code (C_91 7)] ?_
  obtain ⟨rcheckState, hr, h⟩ := bindSome h
  refine Runs.sR hE ⟨[(2, (encL Tapi_Turn.cells Tapi_Turn.d turns)), (3, (.op 0 0 0)), (7, (aI rcheckState))], [(0, vO 3 (Tapi_Network.cells n))], 112⟩ (C_91 12) [(2, ⟨[], true, (aI rcheckState), [], 0, false⟩)] [] (kp [2, 3, 7]) (kq [0]) 112 [0 < 1, 0 < 1, Sound Try.prog 81 [(.agg (Tapi_Network.cells n)), (.agg (Tapi_Water.cells w))] [] 0 (aI rcheckState) []] ⟨o1, o1, (g_water_checkState_ok N n w rcheckState hr), trivial⟩ ?_
  refine Runs.sA 1 [.code (C_91 26), .code (C_91 27), .code (C_91 7)] ?_
  refine Runs.sR hE ⟨[(2, (encL Tapi_Turn.cells Tapi_Turn.d turns)), (3, (.op 0 0 0)), (7, (aI rcheckState)), (14, (aB (rcheckState != 0)))], [(0, vO 3 (Tapi_Network.cells n))], 144⟩ (C_91 26) [] [] (kp [2, 3, 7, 14]) (kq [0]) 144 [] trivial ?_
  refine Runs.sC 14 (C_91 54) (C_91 55) (rcheckState != 0) (fun hq2 => ?_) (fun hq2 => ?_)
  · have h := condT h hq2
    refine Runs.sA 1 [.code (C_91 108), .code (C_91 109), .code (C_91 7)] ?_
    refine Runs.sR hE ⟨[(6, (aI rcheckState))], [], 176⟩ (C_91 108) [] [] (kp [6]) [] 176 [] trivial ?_
    obtain rfl := Option.some.inj h
    refine Runs.sW hE ⟨[(6, (aI rcheckState))], [], 176⟩ [] (kp [6]) [] 176 [] trivial ?_
    exact Runs.sT Try.f90 [] [] trivial
  · have h := condF h hq2
    refine Runs.sA 3 [.code (C_91 28), .code (C_91 29), .code (C_91 15)] ?_
    refine Runs.sR hE ⟨[(2, (encL Tapi_Turn.cells Tapi_Turn.d turns)), (3, (.op 0 0 0)), (18, (aB (decide (((turns.length : Nat) : Int) > 200))))], [(0, vO 3 (Tapi_Network.cells n))], 192⟩ (C_91 28) [] [] (kp [2, 3, 18]) (kq [0]) 192 [] trivial ?_
    refine Runs.sC 18 (C_91 58) (C_91 59) (decide (((turns.length : Nat) : Int) > 200)) (fun hq3 => ?_) (fun hq3 => ?_)
    · have h := condT h hq3
      refine Runs.sA 1 [.code (C_91 116), .code (C_91 117), .code (C_91 15)] ?_
      refine Runs.sR hE ⟨[(6, (aI 8))], [], 208⟩ (C_91 116) [] [] (kp [6]) [] 208 [] trivial ?_
      obtain rfl := Option.some.inj h
      refine Runs.sW hE ⟨[(6, (aI 8))], [], 208⟩ [] (kp [6]) [] 208 [] trivial ?_
      exact Runs.sT Try.f90 [] [] trivial
    · have h := condF h hq3
      refine Runs.sA 3 [.code (C_91 60), .code (C_91 61), .code (C_91 31)] ?_
      refine Runs.sR hE ⟨[(2, (encL Tapi_Turn.cells Tapi_Turn.d turns)), (3, (.op 0 0 0)), (19, (encL Tapi_Turn.cells Tapi_Turn.d turns)), (20, (aI ((turns.length : Nat) : Int))), (21, (aI 0))], [(0, vO 3 (Tapi_Network.cells n))], 240⟩ (C_91 60) [] [] (kp [2, 3, 19, 20, 21]) (kq [0]) 240 [] trivial ?_
      refine Runs.sA 2 [.code (C_91 244), .inLoop (C_91 244), .inBlock 0, .code (C_91 31)] ?_
      exact Runs.sW hE _ [] (kp [2, 3, 19, 20, 21]) (kq [0]) 1 [] trivial (g_water_checkTurns_L1_ok N n turns N 0 _ h E hE)

noncomputable def C_92 (n : Nat) : Code := cat (bodyOf Try.f91) (pth n)

theorem g_water_run_J3_ok (N : Nat) (n : Tapi_Network) (turns : List Tapi_Turn) (minutes : Int) (cap02 : Int) (cap03 : List Int) (x : Int) (x2 : Int) (K_g_water_run_L2 : (List Bool) → Int → Option (Tapi_Water × (List Int) × (List Bool))) (K_g_water_run_L1 : Int → (List Int) → (List Bool) → Int → Option (Tapi_Water × (List Int) × (List Bool)))
    (hK_g_water_run_L2 : ∀ (cap05 : List Bool) (x2 : Int) (r : Tapi_Water × (List Int) × (List Bool)), K_g_water_run_L2 cap05 x2 = some r → ∀ E, EnvOk E 3 → Runs Try.prog E 91 42 (SPost E [(0, vN 3 [(aI r.1.f_Minute), (.os 1 0 r.2.1.length), (.os 2 0 r.2.2.length)]), (1, aO 1 cI 0 r.2.1), (2, aO 1 cB false r.2.2)] (.tup [])) [.code (C_92 7364), .inLoop (C_92 7364), .inBlock 2, .code (C_92 921), .inBlock 1, .code (C_92 231), .inLoop (C_92 28), .inBlock 0] ⟨[(1, (.op 0 0 0)), (2, (encL Tapi_Turn.cells Tapi_Turn.d turns)), (4, (.op 3 0 0)), (10, (aI minutes)), (11, (aI x)), (13, (encL Tapi_Turn.cells Tapi_Turn.d turns)), (14, (aI ((turns.length : Nat) : Int))), (15, (aI x2))], [(0, vN 3 [(aI cap02), (.os 1 0 cap03.length), (.os 2 0 cap05.length)]), (1, aO 1 cI 0 cap03), (2, aO 1 cB false cap05), (3, vO 3 (Tapi_Network.cells n))], 4⟩)
    (hK_g_water_run_L1 : ∀ (cap02 : Int) (cap03 : List Int) (cap04 : List Bool) (x : Int) (r : Tapi_Water × (List Int) × (List Bool)), K_g_water_run_L1 cap02 cap03 cap04 x = some r → ∀ E, EnvOk E 3 → Runs Try.prog E 91 42 (SPost E [(0, vN 3 [(aI r.1.f_Minute), (.os 1 0 r.2.1.length), (.os 2 0 r.2.2.length)]), (1, aO 1 cI 0 r.2.1), (2, aO 1 cB false r.2.2)] (.tup [])) [.code (C_92 28), .inLoop (C_92 28), .inBlock 0] ⟨[(1, (.op 0 0 0)), (2, (encL Tapi_Turn.cells Tapi_Turn.d turns)), (4, (.op 3 0 0)), (10, (aI minutes)), (11, (aI x))], [(0, vN 3 [(aI cap02), (.os 1 0 cap03.length), (.os 2 0 cap04.length)]), (1, aO 1 cI 0 cap03), (2, aO 1 cB false cap04), (3, vO 3 (Tapi_Network.cells n))], 4⟩) (cap06 : List Bool) (r : Tapi_Water × (List Int) × (List Bool)) (h : g_water_run_J3 N n turns minutes cap02 cap03 x x2 K_g_water_run_L2 K_g_water_run_L1 cap06 = some r) : ∀ E, EnvOk E 3 → Runs Try.prog E 91 42 (SPost E [(0, vN 3 [(aI r.1.f_Minute), (.os 1 0 r.2.1.length), (.os 2 0 r.2.2.length)]), (1, aO 1 cI 0 r.2.1), (2, aO 1 cB false r.2.2)] (.tup [])) [.code (C_92 58919), .inLoop (C_92 7364), .inBlock 2, .code (C_92 921), .inBlock 1, .code (C_92 231), .inLoop (C_92 28), .inBlock 0] ⟨[(1, (.op 0 0 0)), (2, (encL Tapi_Turn.cells Tapi_Turn.d turns)), (4, (.op 3 0 0)), (10, (aI minutes)), (11, (aI x)), (13, (encL Tapi_Turn.cells Tapi_Turn.d turns)), (14, (aI ((turns.length : Nat) : Int))), (15, (aI x2))], [(0, vN 3 [(aI cap02), (.os 1 0 cap03.length), (.os 2 0 cap06.length)]), (1, aO 1 cI 0 cap03), (2, aO 1 cB false cap06), (3, vO 3 (Tapi_Network.cells n))], 4⟩ := by
  intro E hE
  unfold g_water_run_J3 at h
  refine Runs.sR hE ⟨[(1, (.op 0 0 0)), (2, (encL Tapi_Turn.cells Tapi_Turn.d turns)), (4, (.op 3 0 0)), (10, (aI minutes)), (11, (aI x)), (13, (encL Tapi_Turn.cells Tapi_Turn.d turns)), (14, (aI ((turns.length : Nat) : Int))), (15, (aI (w64 (x2 + 1))))], [(0, vN 3 [(aI cap02), (.os 1 0 cap03.length), (.os 2 0 cap06.length)]), (1, aO 1 cI 0 cap03), (2, aO 1 cB false cap06), (3, vO 3 (Tapi_Network.cells n))], 36⟩ (C_92 58919) [] [] (kp [1, 2, 4, 10, 11, 13, 14, 15]) (kq [0, 1, 2, 3]) 36 [] trivial ?_
  refine Runs.sA 1 [.code (C_92 7364), .inLoop (C_92 7364), .inBlock 2, .code (C_92 921), .inBlock 1, .code (C_92 231), .inLoop (C_92 28), .inBlock 0] ?_
  exact Runs.sW hE _ [] (kp [1, 2, 4, 10, 11, 13, 14, 15]) (kq [0, 1, 2, 3]) 4 [] trivial (hK_g_water_run_L2 cap06 (w64 (x2 + 1)) _ h E hE)

theorem g_water_run_L2_ok (N : Nat) (n : Tapi_Network) (turns : List Tapi_Turn) (minutes : Int) (cap02 : Int) (cap03 : List Int) (x : Int) (K_g_water_run_L1 : Int → (List Int) → (List Bool) → Int → Option (Tapi_Water × (List Int) × (List Bool)))
    (hK_g_water_run_L1 : ∀ (cap02 : Int) (cap03 : List Int) (cap04 : List Bool) (x : Int) (r : Tapi_Water × (List Int) × (List Bool)), K_g_water_run_L1 cap02 cap03 cap04 x = some r → ∀ E, EnvOk E 3 → Runs Try.prog E 91 42 (SPost E [(0, vN 3 [(aI r.1.f_Minute), (.os 1 0 r.2.1.length), (.os 2 0 r.2.2.length)]), (1, aO 1 cI 0 r.2.1), (2, aO 1 cB false r.2.2)] (.tup [])) [.code (C_92 28), .inLoop (C_92 28), .inBlock 0] ⟨[(1, (.op 0 0 0)), (2, (encL Tapi_Turn.cells Tapi_Turn.d turns)), (4, (.op 3 0 0)), (10, (aI minutes)), (11, (aI x))], [(0, vN 3 [(aI cap02), (.os 1 0 cap03.length), (.os 2 0 cap04.length)]), (1, aO 1 cI 0 cap03), (2, aO 1 cB false cap04), (3, vO 3 (Tapi_Network.cells n))], 4⟩) (fuel : Nat) : ∀ (cap05 : List Bool) (x2 : Int) (r : Tapi_Water × (List Int) × (List Bool)), g_water_run_L2 N n turns minutes cap02 cap03 x K_g_water_run_L1 fuel cap05 x2 = some r → ∀ E, EnvOk E 3 → Runs Try.prog E 91 42 (SPost E [(0, vN 3 [(aI r.1.f_Minute), (.os 1 0 r.2.1.length), (.os 2 0 r.2.2.length)]), (1, aO 1 cI 0 r.2.1), (2, aO 1 cB false r.2.2)] (.tup [])) [.code (C_92 7364), .inLoop (C_92 7364), .inBlock 2, .code (C_92 921), .inBlock 1, .code (C_92 231), .inLoop (C_92 28), .inBlock 0] ⟨[(1, (.op 0 0 0)), (2, (encL Tapi_Turn.cells Tapi_Turn.d turns)), (4, (.op 3 0 0)), (10, (aI minutes)), (11, (aI x)), (13, (encL Tapi_Turn.cells Tapi_Turn.d turns)), (14, (aI ((turns.length : Nat) : Int))), (15, (aI x2))], [(0, vN 3 [(aI cap02), (.os 1 0 cap03.length), (.os 2 0 cap05.length)]), (1, aO 1 cI 0 cap03), (2, aO 1 cB false cap05), (3, vO 3 (Tapi_Network.cells n))], 4⟩ := by
  induction fuel with
  | zero => intro _ _ r h; rw [g_water_run_L2.eq_1] at h; cases h
  | succ fuel ih =>
    intro cap05 x2 r h E hE
    rw [g_water_run_L2.eq_2] at h
    refine Runs.sA 1 [.code (C_92 14728), .code (C_92 14729), .inLoop (C_92 7364), .inBlock 2, .code (C_92 921), .inBlock 1, .code (C_92 231), .inLoop (C_92 28), .inBlock 0] ?_
    refine Runs.sR hE ⟨[(1, (.op 0 0 0)), (2, (encL Tapi_Turn.cells Tapi_Turn.d turns)), (4, (.op 3 0 0)), (10, (aI minutes)), (11, (aI x)), (13, (encL Tapi_Turn.cells Tapi_Turn.d turns)), (14, (aI ((turns.length : Nat) : Int))), (15, (aI x2)), (16, (aB (decide (x2 < ((turns.length : Nat) : Int)))))], [(0, vN 3 [(aI cap02), (.os 1 0 cap03.length), (.os 2 0 cap05.length)]), (1, aO 1 cI 0 cap03), (2, aO 1 cB false cap05), (3, vO 3 (Tapi_Network.cells n))], 20⟩ (C_92 14728) [] [] (kp [1, 2, 4, 10, 11, 13, 14, 15, 16]) (kq [0, 1, 2, 3]) 20 [] trivial ?_
    refine Runs.sA 1 [.code (C_92 29458), .code (C_92 29459), .inLoop (C_92 7364), .inBlock 2, .code (C_92 921), .inBlock 1, .code (C_92 231), .inLoop (C_92 28), .inBlock 0] ?_
    refine Runs.sC 16 (C_92 58916) (C_92 58917) (decide (x2 < ((turns.length : Nat) : Int))) (fun hq3 => ?_) (fun hq3 => ?_)
    · have h := condT h hq3
      refine Runs.sA 4 [.code (C_92 235672), .code (C_92 235673), .inBlock 3, .code (C_92 58919), .inLoop (C_92 7364), .inBlock 2, .code (C_92 921), .inBlock 1, .code (C_92 231), .inLoop (C_92 28), .inBlock 0] ?_
      obtain ⟨c, h⟩ := ifSome h
      refine Runs.sR hE ⟨[(1, (.op 0 0 0)), (2, (encL Tapi_Turn.cells Tapi_Turn.d turns)), (4, (.op 3 0 0)), (9, (.op 52 0 0)), (10, (aI minutes)), (11, (aI x)), (13, (encL Tapi_Turn.cells Tapi_Turn.d turns)), (14, (aI ((turns.length : Nat) : Int))), (15, (aI x2))], [(0, vN 3 [(aI cap02), (.os 1 0 cap03.length), (.os 2 0 cap05.length)]), (1, aO 1 cI 0 cap03), (2, aO 1 cB false cap05), (3, vO 3 (Tapi_Network.cells n)), (52, vO 3 (Tapi_Turn.cells (turns.getD ((x2).toNat) Tapi_Turn.d)))], 84⟩ (C_92 235672) [] [] (kp [1, 2, 4, 9, 10, 11, 13, 14, 15]) (kq [0, 1, 2, 3, 52]) 84 [0 ≤ x2 ∧ x2 < ((turns.length : Nat) : Int), 0 < 1] ⟨c, o1, trivial⟩ ?_
      refine Runs.sA 1 [.code (C_92 471346), .code (C_92 471347), .inBlock 3, .code (C_92 58919), .inLoop (C_92 7364), .inBlock 2, .code (C_92 921), .inBlock 1, .code (C_92 231), .inLoop (C_92 28), .inBlock 0] ?_
      refine Runs.sR hE ⟨[(1, (.op 0 0 0)), (2, (encL Tapi_Turn.cells Tapi_Turn.d turns)), (4, (.op 3 0 0)), (9, (.op 52 0 0)), (10, (aI minutes)), (11, (aI x)), (13, (encL Tapi_Turn.cells Tapi_Turn.d turns)), (14, (aI ((turns.length : Nat) : Int))), (15, (aI x2)), (25, (aB ((turns.getD ((x2).toNat) Tapi_Turn.d).f_Minute == cap02)))], [(0, vN 3 [(aI cap02), (.os 1 0 cap03.length), (.os 2 0 cap05.length)]), (1, aO 1 cI 0 cap03), (2, aO 1 cB false cap05), (3, vO 3 (Tapi_Network.cells n)), (52, vO 3 (Tapi_Turn.cells (turns.getD ((x2).toNat) Tapi_Turn.d)))], 196⟩ (C_92 471346) [] [] (kp [1, 2, 4, 9, 10, 11, 13, 14, 15, 25]) (kq [0, 1, 2, 3, 52]) 196 [0 < 1, 0 < 1] ⟨o1, o1, trivial⟩ ?_
      refine Runs.sC 25 (C_92 942694) (C_92 942695) ((turns.getD ((x2).toNat) Tapi_Turn.d).f_Minute == cap02) (fun hq4 => ?_) (fun hq4 => ?_)
      · have h := condT h hq4
        obtain ⟨rlinkOf, hr, h⟩ := bindSome h
        obtain ⟨c2, h⟩ := ifSome h
        refine Runs.sR hE ⟨[(1, (.op 0 0 0)), (2, (encL Tapi_Turn.cells Tapi_Turn.d turns)), (4, (.op 3 0 0)), (10, (aI minutes)), (11, (aI x)), (13, (encL Tapi_Turn.cells Tapi_Turn.d turns)), (14, (aI ((turns.length : Nat) : Int))), (15, (aI x2))], [(0, vN 3 [(aI cap02), (.os 1 0 cap03.length), (.os 2 0 ((cap05.set ((rlinkOf).toNat) ((turns.getD ((x2).toNat) Tapi_Turn.d).f_Open)).length))]), (1, aO 1 cI 0 cap03), (2, aO 1 cB false (cap05.set ((rlinkOf).toNat) ((turns.getD ((x2).toNat) Tapi_Turn.d).f_Open))), (3, vO 3 (Tapi_Network.cells n))], 388⟩ (C_92 942694) [(7, ⟨[], true, (aI rlinkOf), [], 0, false⟩)] [] (kp [1, 2, 4, 10, 11, 13, 14, 15]) ([(0, .var 0 [.keep, .keep, .osl ((cap05.set ((rlinkOf).toNat) ((turns.getD ((x2).toNat) Tapi_Turn.d).f_Open)).length)])] ++ kq [1] ++ [(2, .arr 2 ((cap05.set ((rlinkOf).toNat) ((turns.getD ((x2).toNat) Tapi_Turn.d).f_Open)).length) (fun zi => cB ((cap05.set ((rlinkOf).toNat) ((turns.getD ((x2).toNat) Tapi_Turn.d).f_Open)).getD zi false)))] ++ kq [3]) 388 [0 < 1, 0 < 1, 0 < 1, Sound Try.prog 82 [(.agg (Tapi_Network.cells n)), (aS ((turns.getD ((x2).toNat) Tapi_Turn.d).f_Link))] [] 0 (aI rlinkOf) [], 0 < 1, 0 ≤ rlinkOf ∧ rlinkOf < ((cap05.length : Nat) : Int), (rlinkOf).toNat < cap05.length, cap05.length = (cap05.set ((rlinkOf).toNat) ((turns.getD ((x2).toNat) Tapi_Turn.d).f_Open)).length, cap05.length = (cap05.set ((rlinkOf).toNat) ((turns.getD ((x2).toNat) Tapi_Turn.d).f_Open)).length, ∀ zi, zi < (cap05.set ((rlinkOf).toNat) ((turns.getD ((x2).toNat) Tapi_Turn.d).f_Open)).length → (fun zi => cB ((cap05.set ((rlinkOf).toNat) ((turns.getD ((x2).toNat) Tapi_Turn.d).f_Open)).getD zi false)) zi = ((fun zm => if zm = (rlinkOf).toNat then [(aB ((turns.getD ((x2).toNat) Tapi_Turn.d).f_Open))] else (fun zi => cB (cap05.getD zi false)) zm)) zi] ⟨o1, o1, o1, (g_water_linkOf_ok N n ((turns.getD ((x2).toNat) Tapi_Turn.d).f_Link) rlinkOf hr), o1, c2, (ltOf c2), (len_set_raw rfl), (len_set_raw rfl), (get_set_raw cB false cap05 ((rlinkOf).toNat) ((turns.getD ((x2).toNat) Tapi_Turn.d).f_Open) (fun _ _ => rfl)), trivial⟩ ?_
        refine Runs.sA 1 [.code (C_92 58919), .inLoop (C_92 7364), .inBlock 2, .code (C_92 921), .inBlock 1, .code (C_92 231), .inLoop (C_92 28), .inBlock 0] ?_
        exact Runs.sW hE _ [] (kp [1, 2, 4, 10, 11, 13, 14, 15]) (kq [0, 1, 2, 3]) 4 [] trivial (g_water_run_J3_ok N n turns minutes cap02 cap03 x x2 (g_water_run_L2 N n turns minutes cap02 cap03 x K_g_water_run_L1 fuel) K_g_water_run_L1 ih hK_g_water_run_L1 (cap05.set ((rlinkOf).toNat) ((turns.getD ((x2).toNat) Tapi_Turn.d).f_Open)) _ h E hE)
      · have h := condF h hq4
        refine Runs.sA 2 [.code (C_92 58919), .inLoop (C_92 7364), .inBlock 2, .code (C_92 921), .inBlock 1, .code (C_92 231), .inLoop (C_92 28), .inBlock 0] ?_
        exact Runs.sW hE _ [] (kp [1, 2, 4, 10, 11, 13, 14, 15]) (kq [0, 1, 2, 3]) 4 [] trivial (g_water_run_J3_ok N n turns minutes cap02 cap03 x x2 (g_water_run_L2 N n turns minutes cap02 cap03 x K_g_water_run_L1 fuel) K_g_water_run_L1 ih hK_g_water_run_L1 cap05 _ h E hE)
    · have h := condF h hq3
      refine Runs.sA 1 [.code (C_92 921), .inBlock 1, .code (C_92 231), .inLoop (C_92 28), .inBlock 0] ?_
      obtain ⟨rstep, hr2, h⟩ := bindSome h
      obtain ⟨c3, h⟩ := ifSome h
      refine Runs.sR hE ⟨[(1, (.op 0 0 0)), (2, (encL Tapi_Turn.cells Tapi_Turn.d turns)), (4, (.op 3 0 0)), (10, (aI minutes)), (11, (aI x))], [(0, vN 3 [(aI rstep.2.1.f_Minute), (.os 1 0 rstep.2.2.length), (.os 2 0 cap05.length)]), (1, aO 1 cI 0 rstep.2.2), (2, aO 1 cB false cap05), (3, vO 3 (Tapi_Network.cells n))], 68⟩ (C_92 921) [(2, ⟨[0, 1, 2], false, (.os 3 0 rstep.1.length), [(0, vN 3 [(aI rstep.2.1.f_Minute), (.os 1 0 rstep.2.2.length), (.os 2 0 cap05.length)]), (1, aO 1 cI 0 rstep.2.2), (2, aO 1 cB false cap05), (3, aO 1 cI 0 rstep.1)], 0, false⟩)] [] (kp [1, 2, 4, 10, 11]) (kq [0, 1, 2, 3]) 68 [0 < 1, Sound Try.prog 89 [(.agg (Tapi_Network.cells n)), (.op 0 0 0)] [(0, vN 3 [(aI cap02), (.os 1 0 cap03.length), (.os 2 0 cap05.length)]), (1, aO 1 cI 0 cap03), (2, aO 1 cB false cap05)] 3 (.os 3 0 rstep.1.length) [(0, vN 3 [(aI rstep.2.1.f_Minute), (.os 1 0 rstep.2.2.length), (.os 2 0 cap05.length)]), (1, aO 1 cI 0 rstep.2.2), (2, aO 1 cB false cap05), (3, aO 1 cI 0 rstep.1)]] ⟨o1, (g_water_step_ok N n cap02 cap03 cap05 rstep hr2), trivial⟩ ?_
      refine Runs.sA 1 [.code (C_92 231), .inLoop (C_92 28), .inBlock 0] ?_
      refine Runs.sR hE ⟨[(1, (.op 0 0 0)), (2, (encL Tapi_Turn.cells Tapi_Turn.d turns)), (4, (.op 3 0 0)), (10, (aI minutes)), (11, (aI (w64 (x + 1))))], [(0, vN 3 [(aI rstep.2.1.f_Minute), (.os 1 0 rstep.2.2.length), (.os 2 0 cap05.length)]), (1, aO 1 cI 0 rstep.2.2), (2, aO 1 cB false cap05), (3, vO 3 (Tapi_Network.cells n))], 100⟩ (C_92 231) [] [] (kp [1, 2, 4, 10, 11]) (kq [0, 1, 2, 3]) 100 [] trivial ?_
      refine Runs.sA 1 [.code (C_92 28), .inLoop (C_92 28), .inBlock 0] ?_
      exact Runs.sW hE _ [] (kp [1, 2, 4, 10, 11]) (kq [0, 1, 2, 3]) 4 [] trivial (hK_g_water_run_L1 rstep.2.1.f_Minute rstep.2.2 cap05 (w64 (x + 1)) _ h E hE)

theorem g_water_run_L1_ok (N : Nat) (n : Tapi_Network) (turns : List Tapi_Turn) (minutes : Int) (fuel : Nat) : ∀ (cap02 : Int) (cap03 : List Int) (cap04 : List Bool) (x : Int) (r : Tapi_Water × (List Int) × (List Bool)), g_water_run_L1 N n turns minutes fuel cap02 cap03 cap04 x = some r → ∀ E, EnvOk E 3 → Runs Try.prog E 91 42 (SPost E [(0, vN 3 [(aI r.1.f_Minute), (.os 1 0 r.2.1.length), (.os 2 0 r.2.2.length)]), (1, aO 1 cI 0 r.2.1), (2, aO 1 cB false r.2.2)] (.tup [])) [.code (C_92 28), .inLoop (C_92 28), .inBlock 0] ⟨[(1, (.op 0 0 0)), (2, (encL Tapi_Turn.cells Tapi_Turn.d turns)), (4, (.op 3 0 0)), (10, (aI minutes)), (11, (aI x))], [(0, vN 3 [(aI cap02), (.os 1 0 cap03.length), (.os 2 0 cap04.length)]), (1, aO 1 cI 0 cap03), (2, aO 1 cB false cap04), (3, vO 3 (Tapi_Network.cells n))], 4⟩ := by
  induction fuel with
  | zero => intro _ _ _ _ r h; rw [g_water_run_L1.eq_1] at h; cases h
  | succ fuel ih =>
    intro cap02 cap03 cap04 x r h E hE
    rw [g_water_run_L1.eq_2] at h
    refine Runs.sA 1 [.code (C_92 56), .code (C_92 57), .inLoop (C_92 28), .inBlock 0] ?_
    refine Runs.sR hE ⟨[(1, (.op 0 0 0)), (2, (encL Tapi_Turn.cells Tapi_Turn.d turns)), (4, (.op 3 0 0)), (10, (aI minutes)), (11, (aI x)), (12, (aB (decide (x < minutes))))], [(0, vN 3 [(aI cap02), (.os 1 0 cap03.length), (.os 2 0 cap04.length)]), (1, aO 1 cI 0 cap03), (2, aO 1 cB false cap04), (3, vO 3 (Tapi_Network.cells n))], 20⟩ (C_92 56) [] [] (kp [1, 2, 4, 10, 11, 12]) (kq [0, 1, 2, 3]) 20 [] trivial ?_
    refine Runs.sA 1 [.code (C_92 114), .code (C_92 115), .inLoop (C_92 28), .inBlock 0] ?_
    refine Runs.sC 12 (C_92 228) (C_92 229) (decide (x < minutes)) (fun hq2 => ?_) (fun hq2 => ?_)
    · have h := condT h hq2
      refine Runs.sA 5 [.code (C_92 1840), .code (C_92 1841), .code (C_92 921), .inBlock 1, .code (C_92 231), .inLoop (C_92 28), .inBlock 0] ?_
      refine Runs.sR hE ⟨[(1, (.op 0 0 0)), (2, (encL Tapi_Turn.cells Tapi_Turn.d turns)), (4, (.op 3 0 0)), (10, (aI minutes)), (11, (aI x)), (13, (encL Tapi_Turn.cells Tapi_Turn.d turns)), (14, (aI ((turns.length : Nat) : Int))), (15, (aI 0))], [(0, vN 3 [(aI cap02), (.os 1 0 cap03.length), (.os 2 0 cap04.length)]), (1, aO 1 cI 0 cap03), (2, aO 1 cB false cap04), (3, vO 3 (Tapi_Network.cells n))], 68⟩ (C_92 1840) [] [] (kp [1, 2, 4, 10, 11, 13, 14, 15]) (kq [0, 1, 2, 3]) 68 [] trivial ?_
      refine Runs.sA 2 [.code (C_92 7364), .inLoop (C_92 7364), .inBlock 2, .code (C_92 921), .inBlock 1, .code (C_92 231), .inLoop (C_92 28), .inBlock 0] ?_
      exact Runs.sW hE _ [] (kp [1, 2, 4, 10, 11, 13, 14, 15]) (kq [0, 1, 2, 3]) 4 [] trivial (g_water_run_L2_ok N n turns minutes cap02 cap03 x (g_water_run_L1 N n turns minutes fuel) ih N cap04 0 _ h E hE)
    · have h := condF h hq2
      refine Runs.sA 1 [] ?_
      obtain rfl := Option.some.inj h
      refine Runs.sW hE ⟨[], [(0, vN 3 [(aI cap02), (.os 1 0 cap03.length), (.os 2 0 cap04.length)]), (1, aO 1 cI 0 cap03), (2, aO 1 cB false cap04)], 51⟩ [] [] (kq [0, 1, 2]) 51 [] trivial ?_
      exact Runs.sF Try.f91 [] [] trivial

theorem g_water_run_ok (N : Nat) (n : Tapi_Network) (turns : List Tapi_Turn) (minutes : Int) (cap0 : Int) (cap1 : List Int) (cap2 : List Bool) (r : Tapi_Water × (List Int) × (List Bool)) (h : g_water_run N n turns minutes cap0 cap1 cap2 = some r) : Sound Try.prog 91 [(.agg (Tapi_Network.cells n)), (.op 0 0 0), (encL Tapi_Turn.cells Tapi_Turn.d turns), (aI minutes)] [(0, vN 3 [(aI cap0), (.os 1 0 cap1.length), (.os 2 0 cap2.length)]), (1, aO 1 cI 0 cap1), (2, aO 1 cB false cap2)] 3 (.tup []) [(0, vN 3 [(aI r.1.f_Minute), (.os 1 0 r.2.1.length), (.os 2 0 r.2.2.length)]), (1, aO 1 cI 0 r.2.1), (2, aO 1 cB false r.2.2)] := by
  unfold g_water_run at h
  refine Sound.of_runs (fu := Try.f91) (c := C_92 1) (nt := 42) (by kernel_rfl) (by kernel_rfl) (by kernel_rfl) (by kernel_rfl) (fun hm => absurd hm (by decide)) ?_
  intro E hE
  refine Runs.sA 1 [.code (C_92 2), .code (C_92 3)] ?_
  refine Runs.sR hE ⟨[(1, (.op 0 0 0)), (2, (encL Tapi_Turn.cells Tapi_Turn.d turns)), (3, (aI minutes)), (4, (.op 3 0 0))], [(0, vN 3 [(aI cap0), (.os 1 0 cap1.length), (.os 2 0 cap2.length)]), (1, aO 1 cI 0 cap1), (2, aO 1 cB false cap2), (3, vO 3 (Tapi_Network.cells n))], 19⟩ (C_92 2) [] [] (kp [1, 2, 3, 4]) (kq [0, 1, 2, 3]) 19 [] trivial ?_
  refine Runs.sA 1 [.code (C_92 6), .code (C_92 7)] ?_
  refine Runs.sR hE ⟨[(1, (.op 0 0 0)), (2, (encL Tapi_Turn.cells Tapi_Turn.d turns)), (4, (.op 3 0 0)), (10, (aI minutes)), (11, (aI 0))], [(0, vN 3 [(aI cap0), (.os 1 0 cap1.length), (.os 2 0 cap2.length)]), (1, aO 1 cI 0 cap1), (2, aO 1 cB false cap2), (3, vO 3 (Tapi_Network.cells n))], 51⟩ (C_92 6) [] [] (kp [1, 2, 4, 10, 11]) (kq [0, 1, 2, 3]) 51 [] trivial ?_
  refine Runs.sA 2 [.code (C_92 28), .inLoop (C_92 28), .inBlock 0] ?_
  exact Runs.sW hE _ [] (kp [1, 2, 4, 10, 11]) (kq [0, 1, 2, 3]) 4 [] trivial (g_water_run_L1_ok N n turns minutes N cap0 cap1 cap2 0 _ h E hE)

noncomputable def C_90 (n : Nat) : Code := cat (bodyOf Try.f41) (pth n)

theorem g_water_Run_ok (N : Nat) (n : Tapi_Network) (w : Tapi_Water) (turns : List Tapi_Turn) (minutes : Int) (r : Tapi_Water × Int) (h : g_water_Run N n w turns minutes = some r) : Sound Try.prog 41 [(.agg (Tapi_Network.cells n)), (.agg (Tapi_Water.cells w)), (encL Tapi_Turn.cells Tapi_Turn.d turns), (aI minutes)] [] 0 (.tup [(.agg (Tapi_Water.cells r.1)), (aI r.2)]) [] := by
  unfold g_water_Run at h
  refine Sound.of_runs (fu := Try.f41) (c := C_90 1) (nt := 38) (by kernel_rfl) (by kernel_rfl) (by kernel_rfl) (by kernel_rfl) (fun hm => rfl) ?_
  intro E hE
  refine Runs.sA 1 [.code (C_90 2), .code (C_90 3)] ?_
  refine Runs.sR hE ⟨[(2, (encL Tapi_Turn.cells Tapi_Turn.d turns)), (3, (aI minutes)), (4, (.op 0 0 0)), (5, (.op 16 0 0)), (8, (.op 32 0 0))], [(0, vO 3 (Tapi_Network.cells n)), (16, vO 3 (Tapi_Water.cells w)), (32, vO 3 [(aI 0), .nil, .nil])], 64⟩ (C_90 2) [] [] (kp [2, 3, 4, 5, 8]) (kq [0, 16, 32]) 64 [] trivial ?_
  refine Runs.sA 2 [.code (C_90 12), .code (C_90 13), .code (C_90 7)] ?_
  obtain ⟨rcheckTurns, hr, h⟩ := bindSome h
  refine Runs.sR hE ⟨[(2, (encL Tapi_Turn.cells Tapi_Turn.d turns)), (3, (aI minutes)), (4, (.op 0 0 0)), (5, (.op 16 0 0)), (8, (.op 32 0 0)), (10, (aI rcheckTurns))], [(0, vO 3 (Tapi_Network.cells n)), (16, vO 3 (Tapi_Water.cells w)), (32, vO 3 [(aI 0), .nil, .nil])], 144⟩ (C_90 12) [(3, ⟨[], true, (aI rcheckTurns), [], 0, false⟩)] [] (kp [2, 3, 4, 5, 8, 10]) (kq [0, 16, 32]) 144 [0 < 1, 0 < 1, Sound Try.prog 90 [(.agg (Tapi_Network.cells n)), (.agg (Tapi_Water.cells w)), (encL Tapi_Turn.cells Tapi_Turn.d turns)] [] 0 (aI rcheckTurns) []] ⟨o1, o1, (g_water_checkTurns_ok N n w turns rcheckTurns hr), trivial⟩ ?_
  refine Runs.sA 1 [.code (C_90 26), .code (C_90 27), .code (C_90 7)] ?_
  refine Runs.sR hE ⟨[(2, (encL Tapi_Turn.cells Tapi_Turn.d turns)), (3, (aI minutes)), (4, (.op 0 0 0)), (5, (.op 16 0 0)), (8, (.op 32 0 0)), (10, (aI rcheckTurns)), (17, (aB (rcheckTurns != 0)))], [(0, vO 3 (Tapi_Network.cells n)), (16, vO 3 (Tapi_Water.cells w)), (32, vO 3 [(aI 0), .nil, .nil])], 176⟩ (C_90 26) [] [] (kp [2, 3, 4, 5, 8, 10, 17]) (kq [0, 16, 32]) 176 [] trivial ?_
  refine Runs.sC 17 (C_90 54) (C_90 55) (rcheckTurns != 0) (fun hq2 => ?_) (fun hq2 => ?_)
  · have h := condT h hq2
    refine Runs.sA 1 [.code (C_90 108), .code (C_90 109), .code (C_90 7)] ?_
    refine Runs.sR hE ⟨[(8, (.op 32 0 0)), (9, (aI rcheckTurns))], [(32, vO 3 [(aI 0), .nil, .nil])], 240⟩ (C_90 108) [] [] (kp [8, 9]) (kq [32]) 240 [0 < 1] ⟨o1, trivial⟩ ?_
    obtain rfl := Option.some.inj h
    refine Runs.sW hE ⟨[(8, (.op 16 0 0)), (9, (aI rcheckTurns))], [(16, vO 3 [(aI 0), (encL cI 0 ([] : List Int)), (encL cB false ([] : List Bool))])], 240⟩ [] (kp [8, 9]) [(16, .var 32 [.keep, .sl (([] : List Int).length) (fun zi => cI (([] : List Int).getD zi 0)), .sl (([] : List Bool).length) (fun zi => cB (([] : List Bool).getD zi false))])] 240 [([] : List Int).length = 0, ([] : List Bool).length = 0] ⟨rfl, rfl, trivial⟩ ?_
    exact Runs.sT Try.f41 [16] [0 < 1] ⟨o1, trivial⟩
  · have h := condF h hq2
    refine Runs.sA 3 [.code (C_90 28), .code (C_90 29), .code (C_90 15)] ?_
    obtain ⟨rbetween, hr2, h⟩ := bindSome h
    refine Runs.sR hE ⟨[(2, (encL Tapi_Turn.cells Tapi_Turn.d turns)), (3, (aI minutes)), (4, (.op 0 0 0)), (5, (.op 16 0 0)), (8, (.op 32 0 0)), (29, (aB (cond (!rbetween) true (decide ((w64 (w.f_Minute + minutes)) > 1000000)))))], [(0, vO 3 (Tapi_Network.cells n)), (16, vO 3 (Tapi_Water.cells w)), (32, vO 3 [(aI 0), .nil, .nil])], 336⟩ (C_90 28) [(1, ⟨[], true, (aB rbetween), [], 0, false⟩)] [] (kp [2, 3, 4, 5, 8, 29]) (kq [0, 16, 32]) 336 [Sound Try.prog 59 [(aI minutes), (aI 0), (aI 10000)] [] 0 (aB rbetween) [], (!(!rbetween)) = true → AllP [(!(!rbetween)) = true, 0 < 1], (!(!rbetween)) = true → AllP [(!(!rbetween)) = true, (!(!rbetween)) = true], (!(!rbetween)) = true → AllP [(!(!rbetween)) = true], (!(!rbetween)) = true → AllP [(!(!rbetween)) = true]] ⟨(g_water_between_ok N minutes 0 10000 rbetween hr2), (fun hg => ⟨hg, o1, trivial⟩), (fun hg => ⟨hg, hg, trivial⟩), (fun hg => ⟨hg, trivial⟩), (fun hq => ⟨hq, trivial⟩), trivial⟩ ?_
    refine Runs.sC 29 (C_90 58) (C_90 59) (cond (!rbetween) true (decide ((w64 (w.f_Minute + minutes)) > 1000000))) (fun hq3 => ?_) (fun hq3 => ?_)
    · have h := condT h hq3
      refine Runs.sA 1 [.code (C_90 116), .code (C_90 117), .code (C_90 15)] ?_
      refine Runs.sR hE ⟨[(8, (.op 32 0 0)), (9, (aI 2))], [(32, vO 3 [(aI 0), .nil, .nil])], 384⟩ (C_90 116) [] [] (kp [8, 9]) (kq [32]) 384 [0 < 1] ⟨o1, trivial⟩ ?_
      obtain rfl := Option.some.inj h
      refine Runs.sW hE ⟨[(8, (.op 16 0 0)), (9, (aI 2))], [(16, vO 3 [(aI 0), (encL cI 0 ([] : List Int)), (encL cB false ([] : List Bool))])], 384⟩ [] (kp [8, 9]) [(16, .var 32 [.keep, .sl (([] : List Int).length) (fun zi => cI (([] : List Int).getD zi 0)), .sl (([] : List Bool).length) (fun zi => cB (([] : List Bool).getD zi false))])] 384 [([] : List Int).length = 0, ([] : List Bool).length = 0] ⟨rfl, rfl, trivial⟩ ?_
      exact Runs.sT Try.f41 [16] [0 < 1] ⟨o1, trivial⟩
    · have h := condF h hq3
      refine Runs.sA 2 [.code (C_90 30), .code (C_90 31)] ?_
      obtain ⟨rclone, hr3, h⟩ := bindSome h
      refine Runs.sR hE ⟨[(2, (encL Tapi_Turn.cells Tapi_Turn.d turns)), (3, (aI minutes)), (4, (.op 0 0 0)), (8, (.op 32 0 0)), (11, (.op 368 0 0))], [(0, vO 3 (Tapi_Network.cells n)), (32, vO 3 [(aI 0), .nil, .nil]), (352, aO 1 cI 0 rclone.f_Litres), (353, aO 1 cB false rclone.f_Open), (368, vN 3 [(aI rclone.f_Minute), (.os 352 0 rclone.f_Litres.length), (.os 353 0 rclone.f_Open.length)])], 400⟩ (C_90 30) [(1, ⟨[], false, (.agg [(aI rclone.f_Minute), (.os 0 0 rclone.f_Litres.length), (.os 1 0 rclone.f_Open.length)]), [(0, aO 1 cI 0 rclone.f_Litres), (1, aO 1 cB false rclone.f_Open)], 0, false⟩)] [] (kp [2, 3, 4, 8, 11]) (kq [0, 32, 352, 353, 368]) 400 [0 < 1, Sound Try.prog 88 [(.agg (Tapi_Water.cells w))] [] 0 (.agg [(aI rclone.f_Minute), (.os 0 0 rclone.f_Litres.length), (.os 1 0 rclone.f_Open.length)]) [(0, aO 1 cI 0 rclone.f_Litres), (1, aO 1 cB false rclone.f_Open)], 0 < 1] ⟨o1, (g_water_clone_ok N w rclone hr3), o1, trivial⟩ ?_
      refine Runs.sA 1 [.code (C_90 62), .code (C_90 63)] ?_
      obtain ⟨rrun, hr4, h⟩ := bindSome h
      obtain ⟨c, h⟩ := ifSome h
      obtain ⟨c2, h⟩ := ifSome h
      refine Runs.sR hE ⟨[(8, (.op 32 0 0)), (11, (.op 368 0 0))], [(32, vO 3 [(aI 0), .nil, .nil]), (352, aO 1 cI 0 rrun.2.1), (353, aO 1 cB false rrun.2.2), (368, vN 3 [(aI rrun.1.f_Minute), (.os 352 0 rrun.2.1.length), (.os 353 0 rrun.2.2.length)])], 464⟩ (C_90 62) [(3, ⟨[368, 352, 353], false, (.tup []), [(0, vN 3 [(aI rrun.1.f_Minute), (.os 1 0 rrun.2.1.length), (.os 2 0 rrun.2.2.length)]), (1, aO 1 cI 0 rrun.2.1), (2, aO 1 cB false rrun.2.2)], 0, false⟩)] [] (kp [8, 11]) (kq [32, 352, 353, 368]) 464 [0 < 1, Sound Try.prog 91 [(.agg (Tapi_Network.cells n)), (.op 0 0 0), (encL Tapi_Turn.cells Tapi_Turn.d turns), (aI minutes)] [(0, vN 3 [(aI rclone.f_Minute), (.os 1 0 rclone.f_Litres.length), (.os 2 0 rclone.f_Open.length)]), (1, aO 1 cI 0 rclone.f_Litres), (2, aO 1 cB false rclone.f_Open)] 3 (.tup []) [(0, vN 3 [(aI rrun.1.f_Minute), (.os 1 0 rrun.2.1.length), (.os 2 0 rrun.2.2.length)]), (1, aO 1 cI 0 rrun.2.1), (2, aO 1 cB false rrun.2.2)]] ⟨o1, (g_water_run_ok N n turns minutes rclone.f_Minute rclone.f_Litres rclone.f_Open rrun hr4), trivial⟩ ?_
      refine Runs.sA 1 [.code (C_90 126), .code (C_90 127)] ?_
      refine Runs.sR hE ⟨[(8, (.op 32 0 0)), (9, (aI 0))], [(32, vN 3 [(aI rrun.1.f_Minute), (.os 352 0 rrun.2.1.length), (.os 353 0 rrun.2.2.length)]), (352, aO 1 cI 0 rrun.2.1), (353, aO 1 cB false rrun.2.2)], 512⟩ (C_90 126) [] [] (kp [8, 9]) (kq [32, 352, 353]) 512 [0 < 1, 0 < 1] ⟨o1, o1, trivial⟩ ?_
      obtain rfl := Option.some.inj h
      refine Runs.sW hE ⟨[(8, (.op 16 0 0)), (9, (aI 0))], [(16, vO 3 [(aI rrun.1.f_Minute), (encL cI 0 rrun.2.1), (encL cB false rrun.2.2)])], 512⟩ [352, 353] (kp [8, 9]) [(16, .var 32 [.keep, .sl (rrun.2.1.length) (fun zi => cI (rrun.2.1.getD zi 0)), .sl (rrun.2.2.length) (fun zi => cB (rrun.2.2.getD zi false))])] 512 [rrun.2.1.length = rrun.2.1.length, 0 + rrun.2.1.length ≤ rrun.2.1.length, ∀ zi, zi < rrun.2.1.length → (fun zi => cI (rrun.2.1.getD zi 0)) zi = (fun zi => cI (rrun.2.1.getD zi 0)) (addz 0 zi), rrun.2.2.length = rrun.2.2.length, 0 + rrun.2.2.length ≤ rrun.2.2.length, ∀ zi, zi < rrun.2.2.length → (fun zi => cB (rrun.2.2.getD zi false)) zi = (fun zi => cB (rrun.2.2.getD zi false)) (addz 0 zi)] ⟨rfl, z0, (fun _ _ => rfl), rfl, z0, (fun _ _ => rfl), trivial⟩ ?_
      exact Runs.sT Try.f41 [16] [0 < 1] ⟨o1, trivial⟩

end Go.Den
