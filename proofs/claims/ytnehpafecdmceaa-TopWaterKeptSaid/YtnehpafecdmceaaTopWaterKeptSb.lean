/- Each function of the program does what its Lean function computes (part 2). No conditions. -/
import Derived.Test.YtnehpafecdmceaaTopWaterKeptSa
import Derived.Test.YtnehpafecdmceaaProg
set_option linter.unusedVariables false
set_option maxRecDepth 100000
namespace Go.Den
open Go.Ab Go.Proofs

noncomputable def C_59 (n : Nat) : Code := cat (bodyOf Try.f81) (pth n)

theorem g_water_checkState_L1_ok (N : Nat) (n : Tapi_Network) (w : Tapi_Water) (fuel : Nat) : ∀ (x : Int) (r : Int), g_water_checkState_L1 N n w fuel x = some r → ∀ E, EnvOk E 0 → Runs Try.prog E 81 55 (SPost E [] (aI r)) [.code (C_59 244), .inLoop (C_59 244), .inBlock 1, .code (C_59 31)] ⟨[(3, (.op 0 0 0)), (36, (encL Tapi_Basin.cells Tapi_Basin.d n.f_Basins)), (37, (aI ((n.f_Basins.length : Nat) : Int))), (38, (aI x))], [(0, vO 3 (Tapi_Water.cells w))], 1⟩ := by
  induction fuel with
  | zero => intro _ r h; rw [g_water_checkState_L1.eq_1] at h; cases h
  | succ fuel ih =>
    intro x r h E hE
    rw [g_water_checkState_L1.eq_2] at h
    refine Runs.sA 1 [.code (C_59 488), .code (C_59 489), .inLoop (C_59 244), .inBlock 1, .code (C_59 31)] ?_
    refine Runs.sR hE ⟨[(3, (.op 0 0 0)), (36, (encL Tapi_Basin.cells Tapi_Basin.d n.f_Basins)), (37, (aI ((n.f_Basins.length : Nat) : Int))), (38, (aI x)), (39, (aB (decide (x < ((n.f_Basins.length : Nat) : Int)))))], [(0, vO 3 (Tapi_Water.cells w))], 17⟩ (C_59 488) [] [] (kp [3, 36, 37, 38, 39]) (kq [0]) 17 [] trivial ?_
    refine Runs.sA 1 [.code (C_59 978), .code (C_59 979), .inLoop (C_59 244), .inBlock 1, .code (C_59 31)] ?_
    refine Runs.sC 39 (C_59 1956) (C_59 1957) (decide (x < ((n.f_Basins.length : Nat) : Int))) (fun hq5 => ?_) (fun hq5 => ?_)
    · have h := condT h hq5
      refine Runs.sA 4 [.code (C_59 7832), .code (C_59 7833), .inBlock 2, .code (C_59 1959), .inLoop (C_59 244), .inBlock 1, .code (C_59 31)] ?_
      obtain ⟨c, h⟩ := ifSome h
      refine Runs.sR hE ⟨[(3, (.op 0 0 0)), (6, (aI x)), (7, (.op 65 0 0)), (36, (encL Tapi_Basin.cells Tapi_Basin.d n.f_Basins)), (37, (aI ((n.f_Basins.length : Nat) : Int))), (38, (aI x))], [(0, vO 3 (Tapi_Water.cells w)), (65, vO 3 (Tapi_Basin.cells (n.f_Basins.getD ((x).toNat) Tapi_Basin.d)))], 113⟩ (C_59 7832) [] [] (kp [3, 6, 7, 36, 37, 38]) (kq [0, 65]) 113 [0 ≤ x ∧ x < ((n.f_Basins.length : Nat) : Int), 0 < 1] ⟨c, o1, trivial⟩ ?_
      refine Runs.sA 1 [.code (C_59 15666), .code (C_59 15667), .inBlock 2, .code (C_59 1959), .inLoop (C_59 244), .inBlock 1, .code (C_59 31)] ?_
      obtain ⟨c2, h⟩ := ifSome h
      obtain ⟨rvolume, hr3, h⟩ := bindSome h
      obtain ⟨rbetween2, hr4, h⟩ := bindSome h
      refine Runs.sR hE ⟨[(3, (.op 0 0 0)), (36, (encL Tapi_Basin.cells Tapi_Basin.d n.f_Basins)), (37, (aI ((n.f_Basins.length : Nat) : Int))), (38, (aI x)), (53, (aB (!rbetween2)))], [(0, vO 3 (Tapi_Water.cells w))], 289⟩ (C_59 15666) [(8, ⟨[], true, (aI rvolume), [], 0, false⟩), (9, ⟨[], true, (aB rbetween2), [], 0, false⟩)] [] (kp [3, 36, 37, 38, 53]) (kq [0]) 289 [0 < 1, 0 ≤ x ∧ x < ((w.f_Litres.length : Nat) : Int), 0 < 1, 0 < 1, Sound Try.prog 61 [(.agg (Tapi_Basin.cells (n.f_Basins.getD ((x).toNat) Tapi_Basin.d))), (aI ((n.f_Basins.getD ((x).toNat) Tapi_Basin.d).f_Rim))] [] 0 (aI rvolume) [], Sound Try.prog 59 [(aI (w.f_Litres.getD ((x).toNat) 0)), (aI 0), (aI rvolume)] [] 0 (aB rbetween2) []] ⟨o1, c2, o1, o1, (g_water_volume_ok N (n.f_Basins.getD ((x).toNat) Tapi_Basin.d) ((n.f_Basins.getD ((x).toNat) Tapi_Basin.d).f_Rim) rvolume hr3), (g_water_between_ok N (w.f_Litres.getD ((x).toNat) 0) 0 rvolume rbetween2 hr4), trivial⟩ ?_
      refine Runs.sC 53 (C_59 31334) (C_59 31335) (!rbetween2) (fun hq6 => ?_) (fun hq6 => ?_)
      · have h := condT h hq6
        refine Runs.sA 1 [.code (C_59 62668), .code (C_59 62669), .inBlock 2, .code (C_59 1959), .inLoop (C_59 244), .inBlock 1, .code (C_59 31)] ?_
        refine Runs.sR hE ⟨[(4, (aI 2))], [], 305⟩ (C_59 62668) [] [] (kp [4]) [] 305 [] trivial ?_
        obtain rfl := Option.some.inj h
        refine Runs.sW hE ⟨[(4, (aI 2))], [], 305⟩ [] (kp [4]) [] 305 [] trivial ?_
        exact Runs.sT Try.f81 [] [] trivial
      · have h := condF h hq6
        refine Runs.sA 2 [.code (C_59 1959), .inLoop (C_59 244), .inBlock 1, .code (C_59 31)] ?_
        refine Runs.sR hE ⟨[(3, (.op 0 0 0)), (36, (encL Tapi_Basin.cells Tapi_Basin.d n.f_Basins)), (37, (aI ((n.f_Basins.length : Nat) : Int))), (38, (aI (w64 (x + 1))))], [(0, vO 3 (Tapi_Water.cells w))], 321⟩ (C_59 1959) [] [] (kp [3, 36, 37, 38]) (kq [0]) 321 [] trivial ?_
        refine Runs.sA 1 [.code (C_59 244), .inLoop (C_59 244), .inBlock 1, .code (C_59 31)] ?_
        exact Runs.sW hE _ [] (kp [3, 36, 37, 38]) (kq [0]) 1 [] trivial (ih (w64 (x + 1)) _ h E hE)
    · have h := condF h hq5
      refine Runs.sA 2 [.code (C_59 62), .code (C_59 63)] ?_
      refine Runs.sR hE ⟨[(4, (aI 0))], [], 33⟩ (C_59 62) [] [] (kp [4]) [] 33 [] trivial ?_
      obtain rfl := Option.some.inj h
      refine Runs.sW hE ⟨[(4, (aI 0))], [], 48⟩ [] (kp [4]) [] 48 [] trivial ?_
      exact Runs.sT Try.f81 [] [] trivial

theorem g_water_checkState_ok (N : Nat) (n : Tapi_Network) (w : Tapi_Water) (r : Int) (h : g_water_checkState N n w = some r) : Sound Try.prog 81 [(.agg (Tapi_Network.cells n)), (.agg (Tapi_Water.cells w))] [] 0 (aI r) [] := by
  unfold g_water_checkState at h
  refine Sound.of_runs (fu := Try.f81) (c := C_59 1) (nt := 55) (by kernel_rfl) (by kernel_rfl) (by kernel_rfl) (by kernel_rfl) (fun hm => rfl) ?_
  intro E hE
  refine Runs.sA 1 [.code (C_59 2), .code (C_59 3)] ?_
  refine Runs.sR hE ⟨[(2, (.op 0 0 0)), (3, (.op 16 0 0))], [(0, vO 3 (Tapi_Network.cells n)), (16, vO 3 (Tapi_Water.cells w))], 48⟩ (C_59 2) [] [] (kp [2, 3]) (kq [0, 16]) 48 [] trivial ?_
  refine Runs.sA 2 [.code (C_59 12), .code (C_59 13), .code (C_59 7)] ?_
  obtain ⟨rCheckNetwork, hr, h⟩ := bindSome h
  refine Runs.sR hE ⟨[(2, (.op 0 0 0)), (3, (.op 16 0 0)), (5, (aI rCheckNetwork))], [(0, vO 3 (Tapi_Network.cells n)), (16, vO 3 (Tapi_Water.cells w))], 96⟩ (C_59 12) [(1, ⟨[], true, (aI rCheckNetwork), [], 0, false⟩)] [] (kp [2, 3, 5]) (kq [0, 16]) 96 [0 < 1, Sound Try.prog 29 [(.agg (Tapi_Network.cells n))] [] 0 (aI rCheckNetwork) []] ⟨o1, (g_water_CheckNetwork_ok N n rCheckNetwork hr), trivial⟩ ?_
  refine Runs.sA 1 [.code (C_59 26), .code (C_59 27), .code (C_59 7)] ?_
  refine Runs.sR hE ⟨[(2, (.op 0 0 0)), (3, (.op 16 0 0)), (5, (aI rCheckNetwork)), (11, (aB (rCheckNetwork != 0)))], [(0, vO 3 (Tapi_Network.cells n)), (16, vO 3 (Tapi_Water.cells w))], 128⟩ (C_59 26) [] [] (kp [2, 3, 5, 11]) (kq [0, 16]) 128 [] trivial ?_
  refine Runs.sC 11 (C_59 54) (C_59 55) (rCheckNetwork != 0) (fun hq2 => ?_) (fun hq2 => ?_)
  · have h := condT h hq2
    refine Runs.sA 1 [.code (C_59 108), .code (C_59 109), .code (C_59 7)] ?_
    refine Runs.sR hE ⟨[(4, (aI rCheckNetwork))], [], 160⟩ (C_59 108) [] [] (kp [4]) [] 160 [] trivial ?_
    obtain rfl := Option.some.inj h
    refine Runs.sW hE ⟨[(4, (aI rCheckNetwork))], [], 160⟩ [] (kp [4]) [] 160 [] trivial ?_
    exact Runs.sT Try.f81 [] [] trivial
  · have h := condF h hq2
    refine Runs.sA 4 [.code (C_59 56), .code (C_59 57), .inBlock 0, .code (C_59 15)] ?_
    obtain ⟨rbetween, hr2, h⟩ := bindSome h
    refine Runs.sR hE ⟨[(2, (.op 0 0 0)), (3, (.op 16 0 0)), (13, (aB (!rbetween)))], [(0, vO 3 (Tapi_Network.cells n)), (16, vO 3 (Tapi_Water.cells w))], 208⟩ (C_59 56) [(2, ⟨[], true, (aB rbetween), [], 0, false⟩)] [] (kp [2, 3, 13]) (kq [0, 16]) 208 [0 < 1, Sound Try.prog 59 [(aI w.f_Minute), (aI 0), (aI 1000000)] [] 0 (aB rbetween) []] ⟨o1, (g_water_between_ok N w.f_Minute 0 1000000 rbetween hr2), trivial⟩ ?_
    refine Runs.sC 13 (C_59 114) (C_59 115) (!rbetween) (fun hq3 => ?_) (fun hq3 => ?_)
    · have h := condT h hq3
      refine Runs.sA 1 [.code (C_59 228), .code (C_59 229), .inBlock 0, .code (C_59 15)] ?_
      refine Runs.sR hE ⟨[(4, (aI 2))], [], 224⟩ (C_59 228) [] [] (kp [4]) [] 224 [] trivial ?_
      obtain rfl := Option.some.inj h
      refine Runs.sW hE ⟨[(4, (aI 2))], [], 224⟩ [] (kp [4]) [] 224 [] trivial ?_
      exact Runs.sT Try.f81 [] [] trivial
    · have h := condF h hq3
      refine Runs.sA 1 [.code (C_59 230), .code (C_59 231), .inBlock 0, .code (C_59 15)] ?_
      refine Runs.sR hE ⟨[(2, (.op 0 0 0)), (3, (.op 16 0 0)), (18, (aB (cond (((w.f_Litres.length : Nat) : Int) != ((n.f_Basins.length : Nat) : Int)) true (((w.f_Open.length : Nat) : Int) != ((n.f_Links.length : Nat) : Int)))))], [(0, vO 3 (Tapi_Network.cells n)), (16, vO 3 (Tapi_Water.cells w))], 480⟩ (C_59 230) [] [] (kp [2, 3, 18]) (kq [0, 16]) 480 [0 < 1, 0 < 1, (!(((w.f_Litres.length : Nat) : Int) != ((n.f_Basins.length : Nat) : Int))) = true → AllP [(!(((w.f_Litres.length : Nat) : Int) != ((n.f_Basins.length : Nat) : Int))) = true, 0 < 1], (!(((w.f_Litres.length : Nat) : Int) != ((n.f_Basins.length : Nat) : Int))) = true → AllP [(!(((w.f_Litres.length : Nat) : Int) != ((n.f_Basins.length : Nat) : Int))) = true], (!(((w.f_Litres.length : Nat) : Int) != ((n.f_Basins.length : Nat) : Int))) = true → AllP [(!(((w.f_Litres.length : Nat) : Int) != ((n.f_Basins.length : Nat) : Int))) = true, 0 < 1], (!(((w.f_Litres.length : Nat) : Int) != ((n.f_Basins.length : Nat) : Int))) = true → AllP [(!(((w.f_Litres.length : Nat) : Int) != ((n.f_Basins.length : Nat) : Int))) = true], (!(((w.f_Litres.length : Nat) : Int) != ((n.f_Basins.length : Nat) : Int))) = true → AllP [(!(((w.f_Litres.length : Nat) : Int) != ((n.f_Basins.length : Nat) : Int))) = true, (!(((w.f_Litres.length : Nat) : Int) != ((n.f_Basins.length : Nat) : Int))) = true], (!(((w.f_Litres.length : Nat) : Int) != ((n.f_Basins.length : Nat) : Int))) = true → AllP [(!(((w.f_Litres.length : Nat) : Int) != ((n.f_Basins.length : Nat) : Int))) = true]] ⟨o1, o1, (fun hg => ⟨hg, o1, trivial⟩), (fun hg => ⟨hg, trivial⟩), (fun hg => ⟨hg, o1, trivial⟩), (fun hg => ⟨hg, trivial⟩), (fun hg => ⟨hg, hg, trivial⟩), (fun hq => ⟨hq, trivial⟩), trivial⟩ ?_
      refine Runs.sC 18 (C_59 462) (C_59 463) (cond (((w.f_Litres.length : Nat) : Int) != ((n.f_Basins.length : Nat) : Int)) true (((w.f_Open.length : Nat) : Int) != ((n.f_Links.length : Nat) : Int))) (fun hq4 => ?_) (fun hq4 => ?_)
      · have h := condT h hq4
        refine Runs.sA 1 [.code (C_59 924), .code (C_59 925), .inBlock 0, .code (C_59 15)] ?_
        refine Runs.sR hE ⟨[(4, (aI 11))], [], 496⟩ (C_59 924) [] [] (kp [4]) [] 496 [] trivial ?_
        obtain rfl := Option.some.inj h
        refine Runs.sW hE ⟨[(4, (aI 11))], [], 496⟩ [] (kp [4]) [] 496 [] trivial ?_
        exact Runs.sT Try.f81 [] [] trivial
      · have h := condF h hq4
        refine Runs.sA 4 [.code (C_59 60), .code (C_59 61), .code (C_59 31)] ?_
        refine Runs.sR hE ⟨[(3, (.op 16 0 0)), (36, (encL Tapi_Basin.cells Tapi_Basin.d n.f_Basins)), (37, (aI ((n.f_Basins.length : Nat) : Int))), (38, (aI 0))], [(16, vO 3 (Tapi_Water.cells w))], 544⟩ (C_59 60) [] [] (kp [3, 36, 37, 38]) (kq [16]) 544 [0 < 1] ⟨o1, trivial⟩ ?_
        refine Runs.sA 2 [.code (C_59 244), .inLoop (C_59 244), .inBlock 1, .code (C_59 31)] ?_
        exact Runs.sW hE _ [] (kp [3, 36, 37, 38]) [(0, .keep 16)] 1 [] trivial (g_water_checkState_L1_ok N n w N 0 _ h E hE)

noncomputable def C_58 (n : Nat) : Code := cat (bodyOf Try.f31) (pth n)

theorem g_water_Levels_L1_ok (N : Nat) (n : Tapi_Network) (w : Tapi_Water) (fuel : Nat) : ∀ (out : List Int) (x : Int) (r : (List Int) × Int), g_water_Levels_L1 N n w fuel out x = some r → ∀ E, EnvOk E 0 → Runs Try.prog E 31 36 (SPost E [(0, aO 1 cI 0 r.1)] (.tup [(.os 0 0 r.1.length), (aI r.2)])) [.code (C_58 244), .inLoop (C_58 244), .inBlock 0, .code (C_58 31)] ⟨[(3, (.op 0 0 0)), (7, (.os 1 0 out.length)), (17, (encL Tapi_Basin.cells Tapi_Basin.d n.f_Basins)), (18, (aI ((n.f_Basins.length : Nat) : Int))), (19, (aI x))], [(0, vO 3 (Tapi_Water.cells w)), (1, aO 1 cI 0 out)], 2⟩ := by
  induction fuel with
  | zero => intro _ _ r h; rw [g_water_Levels_L1.eq_1] at h; cases h
  | succ fuel ih =>
    intro out x r h E hE
    rw [g_water_Levels_L1.eq_2] at h
    refine Runs.sA 1 [.code (C_58 488), .code (C_58 489), .inLoop (C_58 244), .inBlock 0, .code (C_58 31)] ?_
    refine Runs.sR hE ⟨[(3, (.op 0 0 0)), (7, (.os 1 0 out.length)), (17, (encL Tapi_Basin.cells Tapi_Basin.d n.f_Basins)), (18, (aI ((n.f_Basins.length : Nat) : Int))), (19, (aI x)), (20, (aB (decide (x < ((n.f_Basins.length : Nat) : Int)))))], [(0, vO 3 (Tapi_Water.cells w)), (1, aO 1 cI 0 out)], 18⟩ (C_58 488) [] [] (kp [3, 7, 17, 18, 19, 20]) (kq [0, 1]) 18 [] trivial ?_
    refine Runs.sA 1 [.code (C_58 978), .code (C_58 979), .inLoop (C_58 244), .inBlock 0, .code (C_58 31)] ?_
    refine Runs.sC 20 (C_58 1956) (C_58 1957) (decide (x < ((n.f_Basins.length : Nat) : Int))) (fun hq3 => ?_) (fun hq3 => ?_)
    · have h := condT h hq3
      refine Runs.sA 4 [.code (C_58 7832), .code (C_58 7833), .inBlock 1, .code (C_58 1959), .inLoop (C_58 244), .inBlock 0, .code (C_58 31)] ?_
      obtain ⟨c, h⟩ := ifSome h
      refine Runs.sR hE ⟨[(3, (.op 0 0 0)), (7, (.os 1 0 out.length)), (8, (aI x)), (9, (.op 66 0 0)), (17, (encL Tapi_Basin.cells Tapi_Basin.d n.f_Basins)), (18, (aI ((n.f_Basins.length : Nat) : Int))), (19, (aI x))], [(0, vO 3 (Tapi_Water.cells w)), (1, aO 1 cI 0 out), (66, vO 3 (Tapi_Basin.cells (n.f_Basins.getD ((x).toNat) Tapi_Basin.d)))], 114⟩ (C_58 7832) [] [] (kp [3, 7, 8, 9, 17, 18, 19]) (kq [0, 1, 66]) 114 [0 ≤ x ∧ x < ((n.f_Basins.length : Nat) : Int), 0 < 1] ⟨c, o1, trivial⟩ ?_
      obtain ⟨c2, h⟩ := ifSome h
      obtain ⟨rlevelOf, hr2, h⟩ := bindSome h
      obtain ⟨c3, h⟩ := ifSome h
      refine Runs.sR hE ⟨[(3, (.op 0 0 0)), (7, (.os 258 0 ((out ++ ([rlevelOf] : List Int)).length))), (17, (encL Tapi_Basin.cells Tapi_Basin.d n.f_Basins)), (18, (aI ((n.f_Basins.length : Nat) : Int))), (19, (aI x))], [(0, vO 3 (Tapi_Water.cells w)), (258, aO 1 cI 0 (out ++ ([rlevelOf] : List Int)))], 290⟩ (C_58 7833) [(7, ⟨[], true, (aI rlevelOf), [], 0, false⟩)] [] (kp [3] ++ [(7, .osl ((out ++ ([rlevelOf] : List Int)).length))] ++ kp [17, 18, 19]) (kq [0] ++ [(258, .arr 258 ((out ++ ([rlevelOf] : List Int)).length) (fun zi => cI ((out ++ ([rlevelOf] : List Int)).getD zi 0)))]) 290 [0 < 1, 0 < 1, 0 ≤ x ∧ x < ((w.f_Litres.length : Nat) : Int), Sound Try.prog 65 [(.agg (Tapi_Basin.cells (n.f_Basins.getD ((x).toNat) Tapi_Basin.d))), (aI (w.f_Litres.getD ((x).toNat) 0))] [] 0 (aI rlevelOf) [], out.length = out.length, (out.length + 1) * 8 ≤ 140737488355328, 0 + 1 ≤ 1, ∀ zi, zi < 1 → AV.oneL ((fun zi => ([[(aI rlevelOf)]] : List (List AV)).getD zi []) (addz 0 zi)) = true, (out.length + 1) = (out ++ ([rlevelOf] : List Int)).length, out.length + 1 = (out ++ ([rlevelOf] : List Int)).length, ∀ zi, zi < (out ++ ([rlevelOf] : List Int)).length → (fun zi => cI ((out ++ ([rlevelOf] : List Int)).getD zi 0)) zi = ((fun zm => if zm < out.length then (fun zi => cI (out.getD zi 0)) zm else (fun zi => ([[(aI rlevelOf)]] : List (List AV)).getD zi []) (zm - out.length))) zi] ⟨o1, o1, c2, (g_water_levelOf_ok N (n.f_Basins.getD ((x).toNat) Tapi_Basin.d) (w.f_Litres.getD ((x).toNat) 0) rlevelOf hr2), rfl, c3, z0, (oneN rfl), (len_app_raw rfl rfl), (len_app_raw rfl rfl), (get_app_raw cI 0 out ([rlevelOf] : List Int) rfl (fun _ _ => rfl) (fun zq hzq => get_chunk cI 0 ([rlevelOf] : List Int) zq hzq)), trivial⟩ ?_
      refine Runs.sA 1 [.code (C_58 1959), .inLoop (C_58 244), .inBlock 0, .code (C_58 31)] ?_
      refine Runs.sR hE ⟨[(3, (.op 0 0 0)), (7, (.os 258 0 ((out ++ ([rlevelOf] : List Int)).length))), (17, (encL Tapi_Basin.cells Tapi_Basin.d n.f_Basins)), (18, (aI ((n.f_Basins.length : Nat) : Int))), (19, (aI (w64 (x + 1))))], [(0, vO 3 (Tapi_Water.cells w)), (258, aO 1 cI 0 (out ++ ([rlevelOf] : List Int)))], 322⟩ (C_58 1959) [] [] (kp [3, 7, 17, 18, 19]) (kq [0, 258]) 322 [] trivial ?_
      refine Runs.sA 1 [.code (C_58 244), .inLoop (C_58 244), .inBlock 0, .code (C_58 31)] ?_
      exact Runs.sW hE _ [] (kp [3, 7, 17, 18, 19]) (kq [0] ++ [(1, .keep 258)]) 2 [] trivial (ih (out ++ ([rlevelOf] : List Int)) (w64 (x + 1)) _ h E hE)
    · have h := condF h hq3
      refine Runs.sA 2 [.code (C_58 62), .code (C_58 63)] ?_
      refine Runs.sR hE ⟨[(4, (.os 1 0 out.length)), (5, (aI 0))], [(1, aO 1 cI 0 out)], 66⟩ (C_58 62) [] [] (kp [4, 5]) (kq [1]) 66 [] trivial ?_
      obtain rfl := Option.some.inj h
      refine Runs.sW hE ⟨[(4, (.os 0 0 out.length)), (5, (aI 0))], [(0, aO 1 cI 0 out)], 66⟩ [] (kp [4, 5]) [(0, .keep 1)] 66 [] trivial ?_
      exact Runs.sT Try.f31 [] [] trivial

theorem g_water_Levels_ok (N : Nat) (n : Tapi_Network) (w : Tapi_Water) (r : (List Int) × Int) (h : g_water_Levels N n w = some r) : Sound Try.prog 31 [(.agg (Tapi_Network.cells n)), (.agg (Tapi_Water.cells w))] [] 0 (.tup [(.os 0 0 r.1.length), (aI r.2)]) [(0, aO 1 cI 0 r.1)] := by
  unfold g_water_Levels at h
  refine Sound.of_runs (fu := Try.f31) (c := C_58 1) (nt := 36) (by kernel_rfl) (by kernel_rfl) (by kernel_rfl) (by kernel_rfl) (fun hm => rfl) ?_
  intro E hE
  refine Runs.sA 1 [.code (C_58 2), .code (C_58 3)] ?_
  refine Runs.sR hE ⟨[(2, (.op 0 0 0)), (3, (.op 16 0 0))], [(0, vO 3 (Tapi_Network.cells n)), (16, vO 3 (Tapi_Water.cells w))], 64⟩ (C_58 2) [] [] (kp [2, 3]) (kq [0, 16]) 64 [] trivial ?_
  refine Runs.sA 2 [.code (C_58 12), .code (C_58 13), .code (C_58 7)] ?_
  obtain ⟨rcheckState, hr, h⟩ := bindSome h
  refine Runs.sR hE ⟨[(2, (.op 0 0 0)), (3, (.op 16 0 0)), (6, (aI rcheckState))], [(0, vO 3 (Tapi_Network.cells n)), (16, vO 3 (Tapi_Water.cells w))], 128⟩ (C_58 12) [(2, ⟨[], true, (aI rcheckState), [], 0, false⟩)] [] (kp [2, 3, 6]) (kq [0, 16]) 128 [0 < 1, 0 < 1, Sound Try.prog 81 [(.agg (Tapi_Network.cells n)), (.agg (Tapi_Water.cells w))] [] 0 (aI rcheckState) []] ⟨o1, o1, (g_water_checkState_ok N n w rcheckState hr), trivial⟩ ?_
  refine Runs.sA 1 [.code (C_58 26), .code (C_58 27), .code (C_58 7)] ?_
  refine Runs.sR hE ⟨[(2, (.op 0 0 0)), (3, (.op 16 0 0)), (6, (aI rcheckState)), (14, (aB (rcheckState != 0)))], [(0, vO 3 (Tapi_Network.cells n)), (16, vO 3 (Tapi_Water.cells w))], 160⟩ (C_58 26) [] [] (kp [2, 3, 6, 14]) (kq [0, 16]) 160 [] trivial ?_
  refine Runs.sC 14 (C_58 54) (C_58 55) (rcheckState != 0) (fun hq2 => ?_) (fun hq2 => ?_)
  · have h := condT h hq2
    refine Runs.sA 1 [.code (C_58 108), .code (C_58 109), .code (C_58 7)] ?_
    refine Runs.sR hE ⟨[(4, .nil), (5, (aI rcheckState))], [], 208⟩ (C_58 108) [] [] (kp [4, 5]) [] 208 [] trivial ?_
    obtain rfl := Option.some.inj h
    refine Runs.sW hE ⟨[(4, (.os 0 0 (([] : List Int).length))), (5, (aI rcheckState))], [(0, aO 1 cI 0 ([] : List Int))], 208⟩ [] ([(4, .nilos 0)] ++ kp [5]) [(0, .nil 1 (fun zi => cI (([] : List Int).getD zi 0)))] 208 [] trivial ?_
    exact Runs.sT Try.f31 [] [] trivial
  · have h := condF h hq2
    refine Runs.sA 2 [.code (C_58 14), .code (C_58 15)] ?_
    refine Runs.sR hE ⟨[(2, (.op 0 0 0)), (3, (.op 16 0 0)), (7, .nil)], [(0, vO 3 (Tapi_Network.cells n)), (16, vO 3 (Tapi_Water.cells w))], 176⟩ (C_58 14) [] [] (kp [2, 3, 7]) (kq [0, 16]) 176 [] trivial ?_
    refine Runs.sA 2 [.code (C_58 60), .code (C_58 61), .code (C_58 31)] ?_
    refine Runs.sR hE ⟨[(3, (.op 16 0 0)), (7, .nil), (17, (encL Tapi_Basin.cells Tapi_Basin.d n.f_Basins)), (18, (aI ((n.f_Basins.length : Nat) : Int))), (19, (aI 0))], [(16, vO 3 (Tapi_Water.cells w))], 240⟩ (C_58 60) [] [] (kp [3, 7, 17, 18, 19]) (kq [16]) 240 [0 < 1] ⟨o1, trivial⟩ ?_
    refine Runs.sA 2 [.code (C_58 244), .inLoop (C_58 244), .inBlock 0, .code (C_58 31)] ?_
    exact Runs.sW hE _ [] (kp [3] ++ [(7, .nilos 1)] ++ kp [17, 18, 19]) [(0, .keep 16), (1, .nil 1 (fun zi => cI (([] : List Int).getD zi 0)))] 2 [] trivial (g_water_Levels_L1_ok N n w N ([] : List Int) 0 _ h E hE)

noncomputable def C_61 (n : Nat) : Code := cat (bodyOf Try.f34) (pth n)

theorem g_w05_Case_Short_L1_ok (N : Nat) (c : Tkeelblocklaw05_Case) (fuel : Nat) : ∀ (i : Int) (r : Bool), g_w05_Case_Short_L1 N c fuel i = some r → ∀ E, EnvOk E 0 → Runs Try.prog E 34 49 (SPost E [] (aB r)) [.code (C_61 116), .inLoop (C_61 116), .inBlock 0, .code (C_61 15)] ⟨[(1, (.op 0 0 0)), (3, (aI i))], [(0, vO 7 (Tkeelblocklaw05_Case.cells c))], 1⟩ := by
  induction fuel with
  | zero => intro _ r h; rw [g_w05_Case_Short_L1.eq_1] at h; cases h
  | succ fuel ih =>
    intro i r h E hE
    rw [g_w05_Case_Short_L1.eq_2] at h
    refine Runs.sA 2 [.code (C_61 464), .code (C_61 465), .code (C_61 233), .inLoop (C_61 116), .inBlock 0, .code (C_61 15)] ?_
    refine Runs.sR hE ⟨[(1, (.op 0 0 0)), (3, (aI i)), (38, (aB (decide (i < ((c.f_Turns.length : Nat) : Int)))))], [(0, vO 7 (Tkeelblocklaw05_Case.cells c))], 81⟩ (C_61 464) [] [] (kp [1, 3, 38]) (kq [0]) 81 [0 < 1] ⟨o1, trivial⟩ ?_
    refine Runs.sC 38 (C_61 930) (C_61 931) (decide (i < ((c.f_Turns.length : Nat) : Int))) (fun hq3 => ?_) (fun hq3 => ?_)
    · have h := condT h hq3
      refine Runs.sA 4 [.code (C_61 1864), .code (C_61 1865), .inBlock 1, .code (C_61 467), .inLoop (C_61 116), .inBlock 0, .code (C_61 15)] ?_
      obtain ⟨c2, h⟩ := ifSome h
      refine Runs.sR hE ⟨[(1, (.op 0 0 0)), (3, (aI i)), (48, (aB (decide (((((c.f_Turns.getD ((i).toNat) Tapi_Turn.d).f_Link).size : Nat) : Int) > 40))))], [(0, vO 7 (Tkeelblocklaw05_Case.cells c))], 209⟩ (C_61 1864) [] [] (kp [1, 3, 48]) (kq [0]) 209 [0 < 1, 0 ≤ i ∧ i < ((c.f_Turns.length : Nat) : Int)] ⟨o1, c2, trivial⟩ ?_
      refine Runs.sC 48 (C_61 3730) (C_61 3731) (decide (((((c.f_Turns.getD ((i).toNat) Tapi_Turn.d).f_Link).size : Nat) : Int) > 40)) (fun hq4 => ?_) (fun hq4 => ?_)
      · have h := condT h hq4
        refine Runs.sA 1 [.code (C_61 7460), .code (C_61 7461), .inBlock 1, .code (C_61 467), .inLoop (C_61 116), .inBlock 0, .code (C_61 15)] ?_
        refine Runs.sR hE ⟨[(2, (aB false))], [], 225⟩ (C_61 7460) [] [] (kp [2]) [] 225 [] trivial ?_
        obtain rfl := Option.some.inj h
        refine Runs.sW hE ⟨[(2, (aB false))], [], 225⟩ [] (kp [2]) [] 225 [] trivial ?_
        exact Runs.sT Try.f34 [] [] trivial
      · have h := condF h hq4
        refine Runs.sA 2 [.code (C_61 467), .inLoop (C_61 116), .inBlock 0, .code (C_61 15)] ?_
        refine Runs.sR hE ⟨[(1, (.op 0 0 0)), (3, (aI (w64 (i + 1))))], [(0, vO 7 (Tkeelblocklaw05_Case.cells c))], 257⟩ (C_61 467) [] [] (kp [1, 3]) (kq [0]) 257 [] trivial ?_
        refine Runs.sA 1 [.code (C_61 116), .inLoop (C_61 116), .inBlock 0, .code (C_61 15)] ?_
        exact Runs.sW hE _ [] (kp [1, 3]) (kq [0]) 1 [] trivial (ih (w64 (i + 1)) _ h E hE)
    · have h := condF h hq3
      refine Runs.sA 2 [.code (C_61 30), .code (C_61 31)] ?_
      refine Runs.sR hE ⟨[(2, (aB true))], [], 97⟩ (C_61 30) [] [] (kp [2]) [] 97 [] trivial ?_
      obtain rfl := Option.some.inj h
      refine Runs.sW hE ⟨[(2, (aB true))], [], 97⟩ [] (kp [2]) [] 97 [] trivial ?_
      exact Runs.sT Try.f34 [] [] trivial

theorem g_w05_Case_Short_ok (N : Nat) (c : Tkeelblocklaw05_Case) (r : Bool) (h : g_w05_Case_Short N c = some r) : Sound Try.prog 34 [(.agg (Tkeelblocklaw05_Case.cells c))] [] 0 (aB r) [] := by
  unfold g_w05_Case_Short at h
  refine Sound.of_runs (fu := Try.f34) (c := C_61 1) (nt := 49) (by kernel_rfl) (by kernel_rfl) (by kernel_rfl) (by kernel_rfl) (fun hm => rfl) ?_
  intro E hE
  refine Runs.sA 1 [.code (C_61 2), .code (C_61 3)] ?_
  refine Runs.sR hE ⟨[(1, (.op 0 0 0))], [(0, vO 7 (Tkeelblocklaw05_Case.cells c))], 32⟩ (C_61 2) [] [] (kp [1]) (kq [0]) 32 [] trivial ?_
  refine Runs.sA 2 [.code (C_61 12), .code (C_61 13), .code (C_61 7)] ?_
  obtain ⟨rshort, hr, h⟩ := bindSome h
  refine Runs.sR hE ⟨[(1, (.op 0 0 0)), (33, (aB (cond (cond (cond (!rshort) true (decide (((c.f_W.f_Litres.length : Nat) : Int) > 20))) true (decide (((c.f_W.f_Open.length : Nat) : Int) > 20))) true (cond (decide (((c.f_Turns.length : Nat) : Int) > 30)) (decide (((c.f_Turns.length : Nat) : Int) ≤ 200)) false))))], [(0, vO 7 (Tkeelblocklaw05_Case.cells c))], 512⟩ (C_61 12) [(2, ⟨[], true, (aB rshort), [], 0, false⟩)] [] (kp [1, 33]) (kq [0]) 512 [0 < 1, Sound Try.prog 26 [(.agg (Tapi_Network.cells c.f_N))] [] 0 (aB rshort) [], (!(!rshort)) = true → AllP [(!(!rshort)) = true], (!(!rshort)) = true → AllP [(!(!rshort)) = true, 0 < 1], (!(!rshort)) = true → AllP [(!(!rshort)) = true], (!(!rshort)) = true → AllP [(!(!rshort)) = true], (!(!rshort)) = true → AllP [(!(!rshort)) = true], (!(cond (!rshort) true (decide (((c.f_W.f_Litres.length : Nat) : Int) > 20)))) = true → AllP [(!(cond (!rshort) true (decide (((c.f_W.f_Litres.length : Nat) : Int) > 20)))) = true], (!(cond (!rshort) true (decide (((c.f_W.f_Litres.length : Nat) : Int) > 20)))) = true → AllP [(!(cond (!rshort) true (decide (((c.f_W.f_Litres.length : Nat) : Int) > 20)))) = true, 0 < 1], (!(cond (!rshort) true (decide (((c.f_W.f_Litres.length : Nat) : Int) > 20)))) = true → AllP [(!(cond (!rshort) true (decide (((c.f_W.f_Litres.length : Nat) : Int) > 20)))) = true], (!(cond (!rshort) true (decide (((c.f_W.f_Litres.length : Nat) : Int) > 20)))) = true → AllP [(!(cond (!rshort) true (decide (((c.f_W.f_Litres.length : Nat) : Int) > 20)))) = true], (!(cond (!rshort) true (decide (((c.f_W.f_Litres.length : Nat) : Int) > 20)))) = true → AllP [(!(cond (!rshort) true (decide (((c.f_W.f_Litres.length : Nat) : Int) > 20)))) = true], (!(cond (cond (!rshort) true (decide (((c.f_W.f_Litres.length : Nat) : Int) > 20))) true (decide (((c.f_W.f_Open.length : Nat) : Int) > 20)))) = true → AllP [(!(cond (cond (!rshort) true (decide (((c.f_W.f_Litres.length : Nat) : Int) > 20))) true (decide (((c.f_W.f_Open.length : Nat) : Int) > 20)))) = true, 0 < 1], (!(cond (cond (!rshort) true (decide (((c.f_W.f_Litres.length : Nat) : Int) > 20))) true (decide (((c.f_W.f_Open.length : Nat) : Int) > 20)))) = true → AllP [(!(cond (cond (!rshort) true (decide (((c.f_W.f_Litres.length : Nat) : Int) > 20))) true (decide (((c.f_W.f_Open.length : Nat) : Int) > 20)))) = true], (!(cond (cond (!rshort) true (decide (((c.f_W.f_Litres.length : Nat) : Int) > 20))) true (decide (((c.f_W.f_Open.length : Nat) : Int) > 20)))) = true → AllP [(!(cond (cond (!rshort) true (decide (((c.f_W.f_Litres.length : Nat) : Int) > 20))) true (decide (((c.f_W.f_Open.length : Nat) : Int) > 20)))) = true], ((!(cond (cond (!rshort) true (decide (((c.f_W.f_Litres.length : Nat) : Int) > 20))) true (decide (((c.f_W.f_Open.length : Nat) : Int) > 20)))) && ((!(cond (cond (!rshort) true (decide (((c.f_W.f_Litres.length : Nat) : Int) > 20))) true (decide (((c.f_W.f_Open.length : Nat) : Int) > 20)))) && (decide (((c.f_Turns.length : Nat) : Int) > 30)))) = true → AllP [((!(cond (cond (!rshort) true (decide (((c.f_W.f_Litres.length : Nat) : Int) > 20))) true (decide (((c.f_W.f_Open.length : Nat) : Int) > 20)))) && ((!(cond (cond (!rshort) true (decide (((c.f_W.f_Litres.length : Nat) : Int) > 20))) true (decide (((c.f_W.f_Open.length : Nat) : Int) > 20)))) && (decide (((c.f_Turns.length : Nat) : Int) > 30)))) = true, 0 < 1], ((!(cond (cond (!rshort) true (decide (((c.f_W.f_Litres.length : Nat) : Int) > 20))) true (decide (((c.f_W.f_Open.length : Nat) : Int) > 20)))) && ((!(cond (cond (!rshort) true (decide (((c.f_W.f_Litres.length : Nat) : Int) > 20))) true (decide (((c.f_W.f_Open.length : Nat) : Int) > 20)))) && (decide (((c.f_Turns.length : Nat) : Int) > 30)))) = true → AllP [((!(cond (cond (!rshort) true (decide (((c.f_W.f_Litres.length : Nat) : Int) > 20))) true (decide (((c.f_W.f_Open.length : Nat) : Int) > 20)))) && ((!(cond (cond (!rshort) true (decide (((c.f_W.f_Litres.length : Nat) : Int) > 20))) true (decide (((c.f_W.f_Open.length : Nat) : Int) > 20)))) && (decide (((c.f_Turns.length : Nat) : Int) > 30)))) = true], ((!(cond (cond (!rshort) true (decide (((c.f_W.f_Litres.length : Nat) : Int) > 20))) true (decide (((c.f_W.f_Open.length : Nat) : Int) > 20)))) && ((!(cond (cond (!rshort) true (decide (((c.f_W.f_Litres.length : Nat) : Int) > 20))) true (decide (((c.f_W.f_Open.length : Nat) : Int) > 20)))) && (decide (((c.f_Turns.length : Nat) : Int) > 30)))) = true → AllP [((!(cond (cond (!rshort) true (decide (((c.f_W.f_Litres.length : Nat) : Int) > 20))) true (decide (((c.f_W.f_Open.length : Nat) : Int) > 20)))) && ((!(cond (cond (!rshort) true (decide (((c.f_W.f_Litres.length : Nat) : Int) > 20))) true (decide (((c.f_W.f_Open.length : Nat) : Int) > 20)))) && (decide (((c.f_Turns.length : Nat) : Int) > 30)))) = true], (!(cond (cond (!rshort) true (decide (((c.f_W.f_Litres.length : Nat) : Int) > 20))) true (decide (((c.f_W.f_Open.length : Nat) : Int) > 20)))) = true → AllP [(!(cond (cond (!rshort) true (decide (((c.f_W.f_Litres.length : Nat) : Int) > 20))) true (decide (((c.f_W.f_Open.length : Nat) : Int) > 20)))) = true, (!(cond (cond (!rshort) true (decide (((c.f_W.f_Litres.length : Nat) : Int) > 20))) true (decide (((c.f_W.f_Open.length : Nat) : Int) > 20)))) = true, (decide (((c.f_Turns.length : Nat) : Int) > 30)) = true → AllP [((!(cond (cond (!rshort) true (decide (((c.f_W.f_Litres.length : Nat) : Int) > 20))) true (decide (((c.f_W.f_Open.length : Nat) : Int) > 20)))) && ((!(cond (cond (!rshort) true (decide (((c.f_W.f_Litres.length : Nat) : Int) > 20))) true (decide (((c.f_W.f_Open.length : Nat) : Int) > 20)))) && (decide (((c.f_Turns.length : Nat) : Int) > 30)))) = true]], (!(cond (cond (!rshort) true (decide (((c.f_W.f_Litres.length : Nat) : Int) > 20))) true (decide (((c.f_W.f_Open.length : Nat) : Int) > 20)))) = true → AllP [(!(cond (cond (!rshort) true (decide (((c.f_W.f_Litres.length : Nat) : Int) > 20))) true (decide (((c.f_W.f_Open.length : Nat) : Int) > 20)))) = true]] ⟨o1, (g_w05_short_ok N c.f_N rshort hr), (fun hg => ⟨hg, trivial⟩), (fun hg => ⟨hg, o1, trivial⟩), (fun hg => ⟨hg, trivial⟩), (fun hg => ⟨hg, trivial⟩), (fun hq => ⟨hq, trivial⟩), (fun hg => ⟨hg, trivial⟩), (fun hg => ⟨hg, o1, trivial⟩), (fun hg => ⟨hg, trivial⟩), (fun hg => ⟨hg, trivial⟩), (fun hq => ⟨hq, trivial⟩), (fun hg => ⟨hg, o1, trivial⟩), (fun hg => ⟨hg, trivial⟩), (fun hg => ⟨hg, trivial⟩), (fun hg => ⟨hg, o1, trivial⟩), (fun hg => ⟨hg, trivial⟩), (fun hg => ⟨hg, trivial⟩), (fun hg => ⟨hg, hg, (fun hq => ⟨(andI' hg (andI' hg hq)), trivial⟩), trivial⟩), (fun hq => ⟨hq, trivial⟩), trivial⟩ ?_
  refine Runs.sC 33 (C_61 26) (C_61 27) (cond (cond (cond (!rshort) true (decide (((c.f_W.f_Litres.length : Nat) : Int) > 20))) true (decide (((c.f_W.f_Open.length : Nat) : Int) > 20))) true (cond (decide (((c.f_Turns.length : Nat) : Int) > 30)) (decide (((c.f_Turns.length : Nat) : Int) ≤ 200)) false)) (fun hq2 => ?_) (fun hq2 => ?_)
  · have h := condT h hq2
    refine Runs.sA 1 [.code (C_61 52), .code (C_61 53), .code (C_61 7)] ?_
    refine Runs.sR hE ⟨[(2, (aB false))], [], 528⟩ (C_61 52) [] [] (kp [2]) [] 528 [] trivial ?_
    obtain rfl := Option.some.inj h
    refine Runs.sW hE ⟨[(2, (aB false))], [], 528⟩ [] (kp [2]) [] 528 [] trivial ?_
    exact Runs.sT Try.f34 [] [] trivial
  · have h := condF h hq2
    refine Runs.sA 3 [.code (C_61 28), .code (C_61 29), .code (C_61 15)] ?_
    refine Runs.sR hE ⟨[(1, (.op 0 0 0)), (3, (aI 0))], [(0, vO 7 (Tkeelblocklaw05_Case.cells c))], 528⟩ (C_61 28) [] [] (kp [1, 3]) (kq [0]) 528 [] trivial ?_
    refine Runs.sA 2 [.code (C_61 116), .inLoop (C_61 116), .inBlock 0, .code (C_61 15)] ?_
    exact Runs.sW hE _ [] (kp [1, 3]) (kq [0]) 1 [] trivial (g_w05_Case_Short_L1_ok N c N 0 _ h E hE)

noncomputable def C_65 (n : Nat) : Code := cat (bodyOf Try.f105) (pth n)

theorem g_water_linkOf_1_ok (N : Nat) (l : Tapi_Link) (cap0 : ByteArray) (r : Bool) (h : g_water_linkOf_1 N l cap0 = some r) : Sound Try.prog 105 [(.agg (Tapi_Link.cells l)), (.op 0 0 0)] [(0, vO 1 [(aS cap0)])] 1 (aB r) [(0, vO 1 [(aS cap0)])] := by
  unfold g_water_linkOf_1 at h
  refine Sound.of_runs (fu := Try.f105) (c := C_65 1) (nt := 8) (by kernel_rfl) (by kernel_rfl) (by kernel_rfl) (by kernel_rfl) (fun hm => absurd hm (by decide)) ?_
  intro E hE
  refine Runs.sA 1 [.code (C_65 2), .code (C_65 3)] ?_
  refine Runs.sR hE ⟨[(1, (.op 0 0 0)), (2, (.op 1 0 0))], [(0, vO 1 [(aS cap0)]), (1, vO 8 (Tapi_Link.cells l))], 33⟩ (C_65 2) [] [] (kp [1, 2]) (kq [0, 1]) 33 [] trivial ?_
  refine Runs.sA 1 [.code (C_65 6), .code (C_65 7)] ?_
  refine Runs.sR hE ⟨[(3, (aB (streq l.f_Name cap0)))], [(0, vO 1 [(aS cap0)])], 113⟩ (C_65 6) [] [] (kp [3]) (kq [0]) 113 [0 < 1, 0 < 1] ⟨o1, o1, trivial⟩ ?_
  obtain rfl := Option.some.inj h
  refine Runs.sW hE ⟨[(3, (aB (streq l.f_Name cap0)))], [(0, vO 1 [(aS cap0)])], 113⟩ [] (kp [3]) (kq [0]) 113 [] trivial ?_
  exact Runs.sT Try.f105 [] [] trivial

noncomputable def C_64 (n : Nat) : Code := cat (bodyOf Try.f104) (pth n)

theorem g_slices_IndexFunc_api_Link_api_Link_L1_ok (N : Nat) (s : List Tapi_Link) (cap0 : ByteArray) (fuel : Nat) : ∀ (x : Int) (r : Int), g_slices_IndexFunc_api_Link_api_Link_L1 N s cap0 fuel x = some r → ∀ E, EnvOk E 1 → Runs Try.prog E 104 19 (SPost E [(0, vO 1 [(aS cap0)])] (aI r)) [.code (C_64 52), .inLoop (C_64 52), .inBlock 0, .code (C_64 7)] ⟨[(0, (encL Tapi_Link.cells Tapi_Link.d s)), (1, (.fn (.func 105) [] [(.op 0 0 0)])), (7, (aI ((s.length : Nat) : Int))), (8, (aI x))], [(0, vO 1 [(aS cap0)])], 1⟩ := by
  induction fuel with
  | zero => intro _ r h; rw [g_slices_IndexFunc_api_Link_api_Link_L1.eq_1] at h; cases h
  | succ fuel ih =>
    intro x r h E hE
    rw [g_slices_IndexFunc_api_Link_api_Link_L1.eq_2] at h
    refine Runs.sA 1 [.code (C_64 104), .code (C_64 105), .inLoop (C_64 52), .inBlock 0, .code (C_64 7)] ?_
    refine Runs.sR hE ⟨[(0, (encL Tapi_Link.cells Tapi_Link.d s)), (1, (.fn (.func 105) [] [(.op 0 0 0)])), (7, (aI ((s.length : Nat) : Int))), (8, (aI x)), (9, (aB (decide (x < ((s.length : Nat) : Int)))))], [(0, vO 1 [(aS cap0)])], 17⟩ (C_64 104) [] [] (kp [0, 1, 7, 8, 9]) (kq [0]) 17 [] trivial ?_
    refine Runs.sA 1 [.code (C_64 210), .code (C_64 211), .inLoop (C_64 52), .inBlock 0, .code (C_64 7)] ?_
    refine Runs.sC 9 (C_64 420) (C_64 421) (decide (x < ((s.length : Nat) : Int))) (fun hq2 => ?_) (fun hq2 => ?_)
    · have h := condT h hq2
      refine Runs.sA 4 [.code (C_64 1688), .code (C_64 1689), .inBlock 1, .code (C_64 423), .inLoop (C_64 52), .inBlock 0, .code (C_64 7)] ?_
      refine Runs.sR hE ⟨[(0, (encL Tapi_Link.cells Tapi_Link.d s)), (1, (.fn (.func 105) [] [(.op 0 0 0)])), (5, (aI x)), (7, (aI ((s.length : Nat) : Int))), (8, (aI x))], [(0, vO 1 [(aS cap0)])], 49⟩ (C_64 1688) [] [] (kp [0, 1, 5, 7, 8]) (kq [0]) 49 [] trivial ?_
      refine Runs.sA 1 [.code (C_64 3378), .code (C_64 3379), .inBlock 1, .code (C_64 423), .inLoop (C_64 52), .inBlock 0, .code (C_64 7)] ?_
      obtain ⟨c, h⟩ := ifSome h
      obtain ⟨rlinkOf1, hr, h⟩ := bindSome h
      refine Runs.sR hE ⟨[(0, (encL Tapi_Link.cells Tapi_Link.d s)), (1, (.fn (.func 105) [] [(.op 0 0 0)])), (5, (aI x)), (7, (aI ((s.length : Nat) : Int))), (8, (aI x)), (16, (aB rlinkOf1))], [(0, vO 1 [(aS cap0)])], 145⟩ (C_64 3378) [(5, ⟨[0], true, (aB rlinkOf1), [], 0, false⟩)] [] (kp [0, 1, 5, 7, 8, 16]) (kq [0]) 145 [0 ≤ x ∧ x < ((s.length : Nat) : Int), Sound Try.prog 105 [(.agg (Tapi_Link.cells (s.getD ((x).toNat) Tapi_Link.d))), (.op 0 0 0)] [(0, vO 1 [(aS cap0)])] 1 (aB rlinkOf1) [(0, vO 1 [(aS cap0)])]] ⟨c, (g_water_linkOf_1_ok N (s.getD ((x).toNat) Tapi_Link.d) cap0 rlinkOf1 hr), trivial⟩ ?_
      refine Runs.sC 16 (C_64 6758) (C_64 6759) rlinkOf1 (fun hq3 => ?_) (fun hq3 => ?_)
      · have h := condT h hq3
        refine Runs.sA 1 [.code (C_64 13516), .code (C_64 13517), .inBlock 1, .code (C_64 423), .inLoop (C_64 52), .inBlock 0, .code (C_64 7)] ?_
        refine Runs.sR hE ⟨[(4, (aI x))], [(0, vO 1 [(aS cap0)])], 177⟩ (C_64 13516) [] [] (kp [4]) (kq [0]) 177 [] trivial ?_
        obtain rfl := Option.some.inj h
        refine Runs.sW hE ⟨[(4, (aI x))], [(0, vO 1 [(aS cap0)])], 177⟩ [] (kp [4]) (kq [0]) 177 [] trivial ?_
        exact Runs.sT Try.f104 [] [] trivial
      · have h := condF h hq3
        refine Runs.sA 2 [.code (C_64 423), .inLoop (C_64 52), .inBlock 0, .code (C_64 7)] ?_
        refine Runs.sR hE ⟨[(0, (encL Tapi_Link.cells Tapi_Link.d s)), (1, (.fn (.func 105) [] [(.op 0 0 0)])), (7, (aI ((s.length : Nat) : Int))), (8, (aI (w64 (x + 1))))], [(0, vO 1 [(aS cap0)])], 177⟩ (C_64 423) [] [] (kp [0, 1, 7, 8]) (kq [0]) 177 [] trivial ?_
        refine Runs.sA 1 [.code (C_64 52), .inLoop (C_64 52), .inBlock 0, .code (C_64 7)] ?_
        exact Runs.sW hE _ [] (kp [0, 1, 7, 8]) (kq [0]) 1 [] trivial (ih (w64 (x + 1)) _ h E hE)
    · have h := condF h hq2
      refine Runs.sA 2 [.code (C_64 14), .code (C_64 15)] ?_
      refine Runs.sR hE ⟨[(4, (aI (-1)))], [(0, vO 1 [(aS cap0)])], 33⟩ (C_64 14) [] [] (kp [4]) (kq [0]) 33 [] trivial ?_
      obtain rfl := Option.some.inj h
      refine Runs.sW hE ⟨[(4, (aI (-1)))], [(0, vO 1 [(aS cap0)])], 49⟩ [] (kp [4]) (kq [0]) 49 [] trivial ?_
      exact Runs.sT Try.f104 [] [] trivial

theorem g_slices_IndexFunc_api_Link_api_Link_ok (N : Nat) (s : List Tapi_Link) (cap0 : ByteArray) (r : Int) (h : g_slices_IndexFunc_api_Link_api_Link N s cap0 = some r) : Sound Try.prog 104 [(encL Tapi_Link.cells Tapi_Link.d s), (.fn (.func 105) [] [(.op 0 0 0)])] [(0, vO 1 [(aS cap0)])] 1 (aI r) [(0, vO 1 [(aS cap0)])] := by
  unfold g_slices_IndexFunc_api_Link_api_Link at h
  refine Sound.of_runs (fu := Try.f104) (c := C_64 1) (nt := 19) (by kernel_rfl) (by kernel_rfl) (by kernel_rfl) (by kernel_rfl) (fun hm => absurd hm (by decide)) ?_
  intro E hE
  refine Runs.sA 1 [.code (C_64 2), .code (C_64 3)] ?_
  refine Runs.sR hE ⟨[(0, (encL Tapi_Link.cells Tapi_Link.d s)), (1, (.fn (.func 105) [] [(.op 0 0 0)]))], [(0, vO 1 [(aS cap0)])], 17⟩ (C_64 2) [] [] (kp [0, 1]) (kq [0]) 17 [] trivial ?_
  refine Runs.sA 2 [.code (C_64 12), .code (C_64 13), .code (C_64 7)] ?_
  refine Runs.sR hE ⟨[(0, (encL Tapi_Link.cells Tapi_Link.d s)), (1, (.fn (.func 105) [] [(.op 0 0 0)])), (7, (aI ((s.length : Nat) : Int))), (8, (aI 0))], [(0, vO 1 [(aS cap0)])], 65⟩ (C_64 12) [] [] (kp [0, 1, 7, 8]) (kq [0]) 65 [] trivial ?_
  refine Runs.sA 2 [.code (C_64 52), .inLoop (C_64 52), .inBlock 0, .code (C_64 7)] ?_
  exact Runs.sW hE _ [] (kp [0, 1, 7, 8]) (kq [0]) 1 [] trivial (g_slices_IndexFunc_api_Link_api_Link_L1_ok N s cap0 N 0 _ h E hE)

noncomputable def C_63 (n : Nat) : Code := cat (bodyOf Try.f82) (pth n)

theorem g_water_linkOf_ok (N : Nat) (n : Tapi_Network) (name : ByteArray) (r : Int) (h : g_water_linkOf N n name = some r) : Sound Try.prog 82 [(.agg (Tapi_Network.cells n)), (aS name)] [] 0 (aI r) [] := by
  unfold g_water_linkOf at h
  refine Sound.of_runs (fu := Try.f82) (c := C_63 1) (nt := 9) (by kernel_rfl) (by kernel_rfl) (by kernel_rfl) (by kernel_rfl) (fun hm => rfl) ?_
  intro E hE
  refine Runs.sA 1 [.code (C_63 2), .code (C_63 3)] ?_
  refine Runs.sR hE ⟨[(2, (.op 0 0 0)), (3, (.op 16 0 0))], [(0, vO 3 (Tapi_Network.cells n)), (16, vO 1 [(aS name)])], 48⟩ (C_63 2) [] [] (kp [2, 3]) (kq [0, 16]) 48 [] trivial ?_
  refine Runs.sA 1 [.code (C_63 6), .code (C_63 7)] ?_
  obtain ⟨rLink, hr, h⟩ := bindSome h
  refine Runs.sR hE ⟨[(4, (aI rLink))], [], 128⟩ (C_63 6) [(3, ⟨[16], true, (aI rLink), [], 0, false⟩)] [] (kp [4]) [] 128 [0 < 1, Sound Try.prog 104 [(encL Tapi_Link.cells Tapi_Link.d n.f_Links), (.fn (.func 105) [] [(.op 0 0 0)])] [(0, vO 1 [(aS name)])] 1 (aI rLink) [(0, vO 1 [(aS name)])]] ⟨o1, (g_slices_IndexFunc_api_Link_api_Link_ok N n.f_Links name rLink hr), trivial⟩ ?_
  obtain rfl := Option.some.inj h
  refine Runs.sW hE ⟨[(4, (aI rLink))], [], 128⟩ [] (kp [4]) [] 128 [] trivial ?_
  exact Runs.sT Try.f82 [] [] trivial

noncomputable def C_67 (n : Nat) : Code := cat (bodyOf Try.f106) (pth n)

theorem g_water_sideOf_ok (N : Nat) (n : Tapi_Network) (w : Tapi_Water) (name : ByteArray) (r : Twater_side) (h : g_water_sideOf N n w name = some r) : Sound Try.prog 106 [(.agg (Tapi_Network.cells n)), (.agg (Tapi_Water.cells w)), (aS name)] [] 0 (.agg (Twater_side.cells r)) [] := by
  unfold g_water_sideOf at h
  refine Sound.of_runs (fu := Try.f106) (c := C_67 1) (nt := 29) (by kernel_rfl) (by kernel_rfl) (by kernel_rfl) (by kernel_rfl) (fun hm => rfl) ?_
  intro E hE
  refine Runs.sA 1 [.code (C_67 2), .code (C_67 3)] ?_
  refine Runs.sR hE ⟨[(2, (aS name)), (3, (.op 0 0 0)), (4, (.op 16 0 0)), (6, (.op 32 0 0))], [(0, vO 3 (Tapi_Network.cells n)), (16, vO 3 (Tapi_Water.cells w)), (32, vO 3 [(.atom (.pointer none)), (aI 0), (aI 0)])], 48⟩ (C_67 2) [] [] (kp [2, 3, 4, 6]) (kq [0, 16, 32]) 48 [] trivial ?_
  refine Runs.sA 2 [.code (C_67 12), .code (C_67 13), .code (C_67 7)] ?_
  refine Runs.sR hE ⟨[(2, (aS name)), (3, (.op 0 0 0)), (4, (.op 16 0 0)), (6, (.op 32 0 0)), (9, (aB (streq name ByteArray.empty)))], [(0, vO 3 (Tapi_Network.cells n)), (16, vO 3 (Tapi_Water.cells w)), (32, vO 3 [(.atom (.pointer none)), (aI 0), (aI 0)])], 80⟩ (C_67 12) [] [] (kp [2, 3, 4, 6, 9]) (kq [0, 16, 32]) 80 [] trivial ?_
  refine Runs.sC 9 (C_67 26) (C_67 27) (streq name ByteArray.empty) (fun hq2 => ?_) (fun hq2 => ?_)
  · have h := condT h hq2
    refine Runs.sA 1 [.code (C_67 52), .code (C_67 53), .code (C_67 7)] ?_
    obtain ⟨rtide, hr, h⟩ := bindSome h
    refine Runs.sR hE ⟨[(6, (.op 32 0 0))], [(32, vO 3 [(.atom (.pointer none)), (aI 0), (aI rtide)])], 192⟩ (C_67 52) [(4, ⟨[], true, (aI rtide), [], 0, false⟩)] [] (kp [6]) (kq [32]) 192 [0 < 1, 0 < 1, Sound Try.prog 70 [(encL Tapi_Mark.cells Tapi_Mark.d n.f_Sea), (aI w.f_Minute)] [] 0 (aI rtide) [], 0 < 1] ⟨o1, o1, (g_water_tide_ok N n.f_Sea w.f_Minute rtide hr), o1, trivial⟩ ?_
    obtain rfl := Option.some.inj h
    refine Runs.sW hE ⟨[(6, (.op 16 0 0))], [(16, vO 3 [(.pt (none : Option Tapi_Basin).isSome (Tapi_Basin.cells ((none : Option Tapi_Basin).getD Tapi_Basin.d))), (aI 0), (aI rtide)])], 192⟩ [] (kp [6]) [(16, .var 32 [.pt ((none : Option Tapi_Basin).isSome) (Tapi_Basin.cells ((none : Option Tapi_Basin).getD Tapi_Basin.d)), .keep, .keep])] 192 [(none : Option Tapi_Basin).isSome = false] ⟨rfl, trivial⟩ ?_
    exact Runs.sT Try.f106 [16] [0 < 1] ⟨o1, trivial⟩
  · have h := condF h hq2
    refine Runs.sA 2 [.code (C_67 14), .code (C_67 15)] ?_
    obtain ⟨rbasinOf, hr2, h⟩ := bindSome h
    refine Runs.sR hE ⟨[(3, (.op 0 0 0)), (4, (.op 16 0 0)), (6, (.op 32 0 0)), (7, (aI rbasinOf))], [(0, vO 3 (Tapi_Network.cells n)), (16, vO 3 (Tapi_Water.cells w)), (32, vO 3 [(.atom (.pointer none)), (aI 0), (aI 0)])], 144⟩ (C_67 14) [(2, ⟨[], true, (aI rbasinOf), [], 0, false⟩)] [] (kp [3, 4, 6, 7]) (kq [0, 16, 32]) 144 [0 < 1, Sound Try.prog 94 [(.agg (Tapi_Network.cells n)), (aS name)] [] 0 (aI rbasinOf) []] ⟨o1, (g_water_basinOf_ok N n name rbasinOf hr2), trivial⟩ ?_
    refine Runs.sA 1 [.code (C_67 30), .code (C_67 31)] ?_
    obtain ⟨c, h⟩ := ifSome h
    obtain ⟨c2, h⟩ := ifSome h
    refine Runs.sR hE ⟨[(6, (.op 32 0 0))], [(32, vO 3 [(.pt (some (n.f_Basins.getD ((rbasinOf).toNat) Tapi_Basin.d)).isSome (Tapi_Basin.cells ((some (n.f_Basins.getD ((rbasinOf).toNat) Tapi_Basin.d)).getD Tapi_Basin.d))), (aI (w.f_Litres.getD ((rbasinOf).toNat) 0)), (aI 0)])], 320⟩ (C_67 30) [] [] (kp [6]) [(32, .var 32 [.pt ((some (n.f_Basins.getD ((rbasinOf).toNat) Tapi_Basin.d)).isSome) (Tapi_Basin.cells ((some (n.f_Basins.getD ((rbasinOf).toNat) Tapi_Basin.d)).getD Tapi_Basin.d)), .keep, .keep])] 320 [0 < 1, 0 ≤ rbasinOf ∧ rbasinOf < ((n.f_Basins.length : Nat) : Int), 0 < 1, 0 ≤ rbasinOf ∧ rbasinOf < ((w.f_Litres.length : Nat) : Int), 0 < 1, (some (n.f_Basins.getD ((rbasinOf).toNat) Tapi_Basin.d)).isSome = true, Tapi_Basin.cells ((some (n.f_Basins.getD ((rbasinOf).toNat) Tapi_Basin.d)).getD Tapi_Basin.d) = [(aS ((n.f_Basins.getD ((rbasinOf).toNat) Tapi_Basin.d).f_Name)), (encL Tapi_Area.cells Tapi_Area.d ((n.f_Basins.getD ((rbasinOf).toNat) Tapi_Basin.d).f_Areas)), (aI ((n.f_Basins.getD ((rbasinOf).toNat) Tapi_Basin.d).f_Rim))]] ⟨o1, c, o1, c2, o1, rfl, rfl, trivial⟩ ?_
    obtain rfl := Option.some.inj h
    refine Runs.sW hE ⟨[(6, (.op 16 0 0))], [(16, vO 3 [(.pt (some (n.f_Basins.getD ((rbasinOf).toNat) Tapi_Basin.d)).isSome (Tapi_Basin.cells ((some (n.f_Basins.getD ((rbasinOf).toNat) Tapi_Basin.d)).getD Tapi_Basin.d))), (aI (w.f_Litres.getD ((rbasinOf).toNat) 0)), (aI 0)])], 320⟩ [] (kp [6]) [(16, .keep 32)] 320 [] trivial ?_
    exact Runs.sT Try.f106 [16] [0 < 1] ⟨o1, trivial⟩

noncomputable def C_68 (n : Nat) : Code := cat (bodyOf Try.f107) (pth n)

theorem g_water_side_level_ok (N : Nat) (s : Twater_side) (more : Int) (r : Int) (h : g_water_side_level N s more = some r) : Sound Try.prog 107 [(.agg (Twater_side.cells s)), (aI more)] [] 0 (aI r) [] := by
  unfold g_water_side_level at h
  refine Sound.of_runs (fu := Try.f107) (c := C_68 1) (nt := 19) (by kernel_rfl) (by kernel_rfl) (by kernel_rfl) (by kernel_rfl) (fun hm => rfl) ?_
  intro E hE
  refine Runs.sA 1 [.code (C_68 2), .code (C_68 3)] ?_
  refine Runs.sR hE ⟨[(1, (aI more)), (2, (.op 0 0 0))], [(0, vO 3 (Twater_side.cells s))], 32⟩ (C_68 2) [] [] (kp [1, 2]) (kq [0]) 32 [] trivial ?_
  refine Runs.sA 2 [.code (C_68 12), .code (C_68 13), .code (C_68 7)] ?_
  refine Runs.sR hE ⟨[(1, (aI more)), (2, (.op 0 0 0)), (7, (aB (!s.f_basin.isSome)))], [(0, vO 3 (Twater_side.cells s))], 80⟩ (C_68 12) [] [] (kp [1, 2, 7]) (kq [0]) 80 [0 < 1] ⟨o1, trivial⟩ ?_
  refine Runs.sC 7 (C_68 26) (C_68 27) (!s.f_basin.isSome) (fun hq2 => ?_) (fun hq2 => ?_)
  · have h := condT h hq2
    refine Runs.sA 1 [.code (C_68 52), .code (C_68 53), .code (C_68 7)] ?_
    refine Runs.sR hE ⟨[(4, (aI s.f_sea))], [], 128⟩ (C_68 52) [] [] (kp [4]) [] 128 [0 < 1] ⟨o1, trivial⟩ ?_
    obtain rfl := Option.some.inj h
    refine Runs.sW hE ⟨[(4, (aI s.f_sea))], [], 128⟩ [] (kp [4]) [] 128 [] trivial ?_
    exact Runs.sT Try.f107 [] [] trivial
  · have h := condF h hq2
    refine Runs.sA 2 [.code (C_68 14), .code (C_68 15)] ?_
    obtain ⟨c, h⟩ := ifSome h
    obtain ⟨rlevelOf, hr, h⟩ := bindSome h
    refine Runs.sR hE ⟨[(4, (aI rlevelOf))], [], 240⟩ (C_68 14) [(8, ⟨[], true, (aI rlevelOf), [], 0, false⟩)] [] (kp [4]) [] 240 [0 < 1, s.f_basin.isSome = true, 0 < 1, Sound Try.prog 65 [(.agg (Tapi_Basin.cells (s.f_basin.getD Tapi_Basin.d))), (aI (w64 (s.f_litres + more)))] [] 0 (aI rlevelOf) []] ⟨o1, c, o1, (g_water_levelOf_ok N (s.f_basin.getD Tapi_Basin.d) (w64 (s.f_litres + more)) rlevelOf hr), trivial⟩ ?_
    obtain rfl := Option.some.inj h
    refine Runs.sW hE ⟨[(4, (aI rlevelOf))], [], 240⟩ [] (kp [4]) [] 240 [] trivial ?_
    exact Runs.sT Try.f107 [] [] trivial

noncomputable def C_69 (n : Nat) : Code := cat (bodyOf Try.f108) (pth n)

theorem g_water_side_room_ok (N : Nat) (s : Twater_side) (many : Int) (r : Int) (h : g_water_side_room N s many = some r) : Sound Try.prog 108 [(.agg (Twater_side.cells s)), (aI many)] [] 0 (aI r) [] := by
  unfold g_water_side_room at h
  refine Sound.of_runs (fu := Try.f108) (c := C_69 1) (nt := 22) (by kernel_rfl) (by kernel_rfl) (by kernel_rfl) (by kernel_rfl) (fun hm => rfl) ?_
  intro E hE
  refine Runs.sA 1 [.code (C_69 2), .code (C_69 3)] ?_
  refine Runs.sR hE ⟨[(1, (aI many)), (2, (.op 0 0 0))], [(0, vO 3 (Twater_side.cells s))], 32⟩ (C_69 2) [] [] (kp [1, 2]) (kq [0]) 32 [] trivial ?_
  refine Runs.sA 2 [.code (C_69 12), .code (C_69 13), .code (C_69 7)] ?_
  refine Runs.sR hE ⟨[(1, (aI many)), (2, (.op 0 0 0)), (7, (aB (!s.f_basin.isSome)))], [(0, vO 3 (Twater_side.cells s))], 80⟩ (C_69 12) [] [] (kp [1, 2, 7]) (kq [0]) 80 [0 < 1] ⟨o1, trivial⟩ ?_
  refine Runs.sC 7 (C_69 26) (C_69 27) (!s.f_basin.isSome) (fun hq2 => ?_) (fun hq2 => ?_)
  · have h := condT h hq2
    refine Runs.sA 1 [.code (C_69 52), .code (C_69 53), .code (C_69 7)] ?_
    refine Runs.sR hE ⟨[(4, (aI many))], [], 112⟩ (C_69 52) [] [] (kp [4]) [] 112 [] trivial ?_
    obtain rfl := Option.some.inj h
    refine Runs.sW hE ⟨[(4, (aI many))], [], 112⟩ [] (kp [4]) [] 112 [] trivial ?_
    exact Runs.sT Try.f108 [] [] trivial
  · have h := condF h hq2
    refine Runs.sA 2 [.code (C_69 14), .code (C_69 15)] ?_
    obtain ⟨c, h⟩ := ifSome h
    obtain ⟨rvolume, hr, h⟩ := bindSome h
    refine Runs.sR hE ⟨[(4, (aI (w64 (rvolume - s.f_litres))))], [], 304⟩ (C_69 14) [(9, ⟨[], true, (aI rvolume), [], 0, false⟩)] [] (kp [4]) [] 304 [0 < 1, s.f_basin.isSome = true, 0 < 1, s.f_basin.isSome = true, Sound Try.prog 61 [(.agg (Tapi_Basin.cells (s.f_basin.getD Tapi_Basin.d))), (aI ((s.f_basin.getD Tapi_Basin.d).f_Rim))] [] 0 (aI rvolume) [], 0 < 1] ⟨o1, c, o1, c, (g_water_volume_ok N (s.f_basin.getD Tapi_Basin.d) ((s.f_basin.getD Tapi_Basin.d).f_Rim) rvolume hr), o1, trivial⟩ ?_
    obtain rfl := Option.some.inj h
    refine Runs.sW hE ⟨[(4, (aI (w64 (rvolume - s.f_litres))))], [], 304⟩ [] (kp [4]) [] 304 [] trivial ?_
    exact Runs.sT Try.f108 [] [] trivial

noncomputable def C_71 (n : Nat) : Code := cat (bodyOf Try.f117) (pth n)

theorem g_water_side_spare_ok (N : Nat) (s : Twater_side) (sill : Int) (many : Int) (r : Int) (h : g_water_side_spare N s sill many = some r) : Sound Try.prog 117 [(.agg (Twater_side.cells s)), (aI sill), (aI many)] [] 0 (aI r) [] := by
  unfold g_water_side_spare at h
  refine Sound.of_runs (fu := Try.f117) (c := C_71 1) (nt := 21) (by kernel_rfl) (by kernel_rfl) (by kernel_rfl) (by kernel_rfl) (fun hm => rfl) ?_
  intro E hE
  refine Runs.sA 1 [.code (C_71 2), .code (C_71 3)] ?_
  refine Runs.sR hE ⟨[(1, (aI sill)), (2, (aI many)), (3, (.op 0 0 0))], [(0, vO 3 (Twater_side.cells s))], 32⟩ (C_71 2) [] [] (kp [1, 2, 3]) (kq [0]) 32 [] trivial ?_
  refine Runs.sA 2 [.code (C_71 12), .code (C_71 13), .code (C_71 7)] ?_
  refine Runs.sR hE ⟨[(1, (aI sill)), (2, (aI many)), (3, (.op 0 0 0)), (9, (aB (!s.f_basin.isSome)))], [(0, vO 3 (Twater_side.cells s))], 80⟩ (C_71 12) [] [] (kp [1, 2, 3, 9]) (kq [0]) 80 [0 < 1] ⟨o1, trivial⟩ ?_
  refine Runs.sC 9 (C_71 26) (C_71 27) (!s.f_basin.isSome) (fun hq2 => ?_) (fun hq2 => ?_)
  · have h := condT h hq2
    refine Runs.sA 1 [.code (C_71 52), .code (C_71 53), .code (C_71 7)] ?_
    refine Runs.sR hE ⟨[(6, (aI many))], [], 112⟩ (C_71 52) [] [] (kp [6]) [] 112 [] trivial ?_
    obtain rfl := Option.some.inj h
    refine Runs.sW hE ⟨[(6, (aI many))], [], 112⟩ [] (kp [6]) [] 112 [] trivial ?_
    exact Runs.sT Try.f117 [] [] trivial
  · have h := condF h hq2
    refine Runs.sA 2 [.code (C_71 14), .code (C_71 15)] ?_
    obtain ⟨c, h⟩ := ifSome h
    obtain ⟨rvolume, hr, h⟩ := bindSome h
    refine Runs.sR hE ⟨[(6, (aI (if (w64 (s.f_litres - rvolume)) > 0 then (w64 (s.f_litres - rvolume)) else 0)))], [], 256⟩ (C_71 14) [(7, ⟨[], true, (aI rvolume), [], 0, false⟩)] [] (kp [6]) [] 256 [0 < 1, 0 < 1, s.f_basin.isSome = true, Sound Try.prog 61 [(.agg (Tapi_Basin.cells (s.f_basin.getD Tapi_Basin.d))), (aI sill)] [] 0 (aI rvolume) []] ⟨o1, o1, c, (g_water_volume_ok N (s.f_basin.getD Tapi_Basin.d) sill rvolume hr), trivial⟩ ?_
    obtain rfl := Option.some.inj h
    refine Runs.sW hE ⟨[(6, (aI (if (w64 (s.f_litres - rvolume)) > 0 then (w64 (s.f_litres - rvolume)) else 0)))], [], 256⟩ [] (kp [6]) [] 256 [] trivial ?_
    exact Runs.sT Try.f117 [] [] trivial

noncomputable def C_73 (n : Nat) : Code := cat (bodyOf Try.f118) (pth n)

theorem g_water_gate_1_ok (N : Nat) (q : Int) (cap0 : Twater_side) (cap1 : Twater_side) (r : Bool) (h : g_water_gate_1 N q cap0 cap1 = some r) : Sound Try.prog 118 [(aI q), (.op 0 0 0), (.op 1 0 0)] [(0, vO 3 (Twater_side.cells cap0)), (1, vO 3 (Twater_side.cells cap1))] 2 (aB r) [(0, vO 3 (Twater_side.cells cap0)), (1, vO 3 (Twater_side.cells cap1))] := by
  unfold g_water_gate_1 at h
  refine Sound.of_runs (fu := Try.f118) (c := C_73 1) (nt := 15) (by kernel_rfl) (by kernel_rfl) (by kernel_rfl) (by kernel_rfl) (fun hm => absurd hm (by decide)) ?_
  intro E hE
  refine Runs.sA 1 [.code (C_73 2), .code (C_73 3)] ?_
  refine Runs.sR hE ⟨[(0, (aI q)), (1, (.op 0 0 0)), (2, (.op 1 0 0))], [(0, vO 3 (Twater_side.cells cap0)), (1, vO 3 (Twater_side.cells cap1))], 18⟩ (C_73 2) [] [] (kp [0, 1, 2]) (kq [0, 1]) 18 [] trivial ?_
  refine Runs.sA 1 [.code (C_73 6), .code (C_73 7)] ?_
  obtain ⟨rlevel, hr, h⟩ := bindSome h
  obtain ⟨rlevel2, hr2, h⟩ := bindSome h
  refine Runs.sR hE ⟨[(4, (aB (decide (rlevel < rlevel2))))], [(0, vO 3 (Twater_side.cells cap0)), (1, vO 3 (Twater_side.cells cap1))], 194⟩ (C_73 6) [(4, ⟨[], true, (aI rlevel), [], 0, false⟩), (8, ⟨[], true, (aI rlevel2), [], 0, false⟩)] [] (kp [4]) (kq [0, 1]) 194 [0 < 1, Sound Try.prog 107 [(.agg (Twater_side.cells cap0)), (aI (w64 ((w64 (0 - q)) - 1)))] [] 0 (aI rlevel) [], 0 < 1, Sound Try.prog 107 [(.agg (Twater_side.cells cap1)), (aI (w64 (q + 1)))] [] 0 (aI rlevel2) []] ⟨o1, (g_water_side_level_ok N cap0 (w64 ((w64 (0 - q)) - 1)) rlevel hr), o1, (g_water_side_level_ok N cap1 (w64 (q + 1)) rlevel2 hr2), trivial⟩ ?_
  obtain rfl := Option.some.inj h
  refine Runs.sW hE ⟨[(4, (aB (decide (rlevel < rlevel2))))], [(0, vO 3 (Twater_side.cells cap0)), (1, vO 3 (Twater_side.cells cap1))], 194⟩ [] (kp [4]) (kq [0, 1]) 194 [] trivial ?_
  exact Runs.sT Try.f118 [] [] trivial

noncomputable def C_72 (n : Nat) : Code := cat (bodyOf Try.f98) (pth n)

theorem g_sort_Search_v2_L1_ok (N : Nat) (cap0 : Twater_side) (cap1 : Twater_side) (fuel : Nat) : ∀ (i : Int) (j : Int) (r : Int), g_sort_Search_v2_L1 N cap0 cap1 fuel i j = some r → ∀ E, EnvOk E 2 → Runs Try.prog E 98 26 (SPost E [(0, vO 3 (Twater_side.cells cap0)), (1, vO 3 (Twater_side.cells cap1))] (aI r)) [.code (C_72 56), .inLoop (C_72 56), .inBlock 0, .code (C_72 15)] ⟨[(1, (.fn (.func 118) [] [(.op 0 0 0), (.op 1 0 0)])), (5, (aI i)), (6, (aI j))], [(0, vO 3 (Twater_side.cells cap0)), (1, vO 3 (Twater_side.cells cap1))], 2⟩ := by
  induction fuel with
  | zero => intro _ _ r h; rw [g_sort_Search_v2_L1.eq_1] at h; cases h
  | succ fuel ih =>
    intro i j r h E hE
    rw [g_sort_Search_v2_L1.eq_2] at h
    refine Runs.sA 2 [.code (C_72 224), .code (C_72 225), .code (C_72 113), .inLoop (C_72 56), .inBlock 0, .code (C_72 15)] ?_
    refine Runs.sR hE ⟨[(1, (.fn (.func 118) [] [(.op 0 0 0), (.op 1 0 0)])), (5, (aI i)), (6, (aI j)), (11, (aB (decide (i < j))))], [(0, vO 3 (Twater_side.cells cap0)), (1, vO 3 (Twater_side.cells cap1))], 50⟩ (C_72 224) [] [] (kp [1, 5, 6, 11]) (kq [0, 1]) 50 [] trivial ?_
    refine Runs.sC 11 (C_72 450) (C_72 451) (decide (i < j)) (fun hq2 => ?_) (fun hq2 => ?_)
    · have h := condT h hq2
      refine Runs.sA 3 [.code (C_72 452), .code (C_72 453), .inBlock 1, .inLoop (C_72 56), .inBlock 0, .code (C_72 15)] ?_
      refine Runs.sR hE ⟨[(1, (.fn (.func 118) [] [(.op 0 0 0), (.op 1 0 0)])), (5, (aI i)), (6, (aI j)), (7, (aI (w64 ((shrI .u64 (IntKind.u64.wrap ((w64 (i + j)))) 1)))))], [(0, vO 3 (Twater_side.cells cap0)), (1, vO 3 (Twater_side.cells cap1))], 162⟩ (C_72 452) [] [] (kp [1, 5, 6, 7]) (kq [0, 1]) 162 [(0 : Int) ≤ 1] ⟨(by decide), trivial⟩ ?_
      refine Runs.sA 1 [.code (C_72 906), .code (C_72 907), .inBlock 1, .inLoop (C_72 56), .inBlock 0, .code (C_72 15)] ?_
      obtain ⟨rgate1, hr, h⟩ := bindSome h
      refine Runs.sR hE ⟨[(1, (.fn (.func 118) [] [(.op 0 0 0), (.op 1 0 0)])), (5, (aI i)), (6, (aI j)), (7, (aI (w64 ((shrI .u64 (IntKind.u64.wrap ((w64 (i + j)))) 1))))), (21, (aB (!rgate1)))], [(0, vO 3 (Twater_side.cells cap0)), (1, vO 3 (Twater_side.cells cap1))], 226⟩ (C_72 906) [(2, ⟨[0, 1], true, (aB rgate1), [], 0, false⟩)] [] (kp [1, 5, 6, 7, 21]) (kq [0, 1]) 226 [Sound Try.prog 118 [(aI (w64 ((shrI .u64 (IntKind.u64.wrap ((w64 (i + j)))) 1)))), (.op 0 0 0), (.op 1 0 0)] [(0, vO 3 (Twater_side.cells cap0)), (1, vO 3 (Twater_side.cells cap1))] 2 (aB rgate1) [(0, vO 3 (Twater_side.cells cap0)), (1, vO 3 (Twater_side.cells cap1))]] ⟨(g_water_gate_1_ok N (w64 ((shrI .u64 (IntKind.u64.wrap ((w64 (i + j)))) 1))) cap0 cap1 rgate1 hr), trivial⟩ ?_
      refine Runs.sC 21 (C_72 1814) (C_72 1815) (!rgate1) (fun hq3 => ?_) (fun hq3 => ?_)
      · have h := condT h hq3
        refine Runs.sR hE ⟨[(1, (.fn (.func 118) [] [(.op 0 0 0), (.op 1 0 0)])), (5, (aI (w64 ((w64 ((shrI .u64 (IntKind.u64.wrap ((w64 (i + j)))) 1))) + 1)))), (6, (aI j))], [(0, vO 3 (Twater_side.cells cap0)), (1, vO 3 (Twater_side.cells cap1))], 274⟩ (C_72 1814) [] [] (kp [1, 5, 6]) (kq [0, 1]) 274 [] trivial ?_
        refine Runs.sA 2 [.code (C_72 56), .inLoop (C_72 56), .inBlock 0, .code (C_72 15)] ?_
        exact Runs.sW hE _ [] (kp [1, 5, 6]) (kq [0, 1]) 2 [] trivial (ih (w64 ((w64 ((shrI .u64 (IntKind.u64.wrap ((w64 (i + j)))) 1))) + 1)) j _ h E hE)
      · have h := condF h hq3
        refine Runs.sR hE ⟨[(1, (.fn (.func 118) [] [(.op 0 0 0), (.op 1 0 0)])), (5, (aI i)), (6, (aI (w64 ((shrI .u64 (IntKind.u64.wrap ((w64 (i + j)))) 1)))))], [(0, vO 3 (Twater_side.cells cap0)), (1, vO 3 (Twater_side.cells cap1))], 258⟩ (C_72 1815) [] [] (kp [1, 5, 6]) (kq [0, 1]) 258 [] trivial ?_
        refine Runs.sA 2 [.code (C_72 56), .inLoop (C_72 56), .inBlock 0, .code (C_72 15)] ?_
        exact Runs.sW hE _ [] (kp [1, 5, 6]) (kq [0, 1]) 2 [] trivial (ih i (w64 ((shrI .u64 (IntKind.u64.wrap ((w64 (i + j)))) 1))) _ h E hE)
    · have h := condF h hq2
      refine Runs.sA 2 [.code (C_72 30), .code (C_72 31)] ?_
      refine Runs.sR hE ⟨[(4, (aI i))], [(0, vO 3 (Twater_side.cells cap0)), (1, vO 3 (Twater_side.cells cap1))], 82⟩ (C_72 30) [] [] (kp [4]) (kq [0, 1]) 82 [] trivial ?_
      obtain rfl := Option.some.inj h
      refine Runs.sW hE ⟨[(4, (aI i))], [(0, vO 3 (Twater_side.cells cap0)), (1, vO 3 (Twater_side.cells cap1))], 82⟩ [] (kp [4]) (kq [0, 1]) 82 [] trivial ?_
      exact Runs.sT Try.f98 [] [] trivial

theorem g_sort_Search_v2_ok (N : Nat) (n : Int) (cap0 : Twater_side) (cap1 : Twater_side) (r : Int) (h : g_sort_Search_v2 N n cap0 cap1 = some r) : Sound Try.prog 98 [(aI n), (.fn (.func 118) [] [(.op 0 0 0), (.op 1 0 0)])] [(0, vO 3 (Twater_side.cells cap0)), (1, vO 3 (Twater_side.cells cap1))] 2 (aI r) [(0, vO 3 (Twater_side.cells cap0)), (1, vO 3 (Twater_side.cells cap1))] := by
  unfold g_sort_Search_v2 at h
  refine Sound.of_runs (fu := Try.f98) (c := C_72 1) (nt := 26) (by kernel_rfl) (by kernel_rfl) (by kernel_rfl) (by kernel_rfl) (fun hm => absurd hm (by decide)) ?_
  intro E hE
  refine Runs.sA 1 [.code (C_72 2), .code (C_72 3)] ?_
  refine Runs.sR hE ⟨[(0, (aI n)), (1, (.fn (.func 118) [] [(.op 0 0 0), (.op 1 0 0)]))], [(0, vO 3 (Twater_side.cells cap0)), (1, vO 3 (Twater_side.cells cap1))], 18⟩ (C_72 2) [] [] (kp [0, 1]) (kq [0, 1]) 18 [] trivial ?_
  refine Runs.sA 1 [.code (C_72 6), .code (C_72 7)] ?_
  refine Runs.sR hE ⟨[(1, (.fn (.func 118) [] [(.op 0 0 0), (.op 1 0 0)])), (5, (aI 0)), (6, (aI n))], [(0, vO 3 (Twater_side.cells cap0)), (1, vO 3 (Twater_side.cells cap1))], 66⟩ (C_72 6) [] [] (kp [1, 5, 6]) (kq [0, 1]) 66 [] trivial ?_
  refine Runs.sA 3 [.code (C_72 56), .inLoop (C_72 56), .inBlock 0, .code (C_72 15)] ?_
  exact Runs.sW hE _ [] (kp [1, 5, 6]) (kq [0, 1]) 2 [] trivial (g_sort_Search_v2_L1_ok N cap0 cap1 N 0 n _ h E hE)

noncomputable def C_70 (n : Nat) : Code := cat (bodyOf Try.f109) (pth n)

theorem g_water_gate_ok (N : Nat) (l : Tapi_Link) (upper : Twater_side) (lower : Twater_side) (r : Int) (h : g_water_gate N l upper lower = some r) : Sound Try.prog 109 [(.agg (Tapi_Link.cells l)), (.agg (Twater_side.cells upper)), (.agg (Twater_side.cells lower))] [] 0 (aI r) [] := by
  unfold g_water_gate at h
  refine Sound.of_runs (fu := Try.f109) (c := C_70 1) (nt := 42) (by kernel_rfl) (by kernel_rfl) (by kernel_rfl) (by kernel_rfl) (fun hm => rfl) ?_
  intro E hE
  refine Runs.sA 1 [.code (C_70 2), .code (C_70 3)] ?_
  refine Runs.sR hE ⟨[(3, (.op 0 0 0)), (4, (.op 16 0 0)), (5, (.op 32 0 0))], [(0, vO 8 (Tapi_Link.cells l)), (16, vO 3 (Twater_side.cells upper)), (32, vO 3 (Twater_side.cells lower))], 64⟩ (C_70 2) [] [] (kp [3, 4, 5]) (kq [0, 16, 32]) 64 [] trivial ?_
  refine Runs.sA 2 [.code (C_70 12), .code (C_70 13), .code (C_70 7)] ?_
  obtain ⟨rlevel, hr, h⟩ := bindSome h
  refine Runs.sR hE ⟨[(3, (.op 0 0 0)), (4, (.op 16 0 0)), (5, (.op 32 0 0)), (13, (aB (decide (rlevel ≤ l.f_Sill))))], [(0, vO 8 (Tapi_Link.cells l)), (16, vO 3 (Twater_side.cells upper)), (32, vO 3 (Twater_side.cells lower))], 144⟩ (C_70 12) [(1, ⟨[], true, (aI rlevel), [], 0, false⟩)] [] (kp [3, 4, 5, 13]) (kq [0, 16, 32]) 144 [0 < 1, Sound Try.prog 107 [(.agg (Twater_side.cells upper)), (aI 0)] [] 0 (aI rlevel) [], 0 < 1] ⟨o1, (g_water_side_level_ok N upper 0 rlevel hr), o1, trivial⟩ ?_
  refine Runs.sC 13 (C_70 26) (C_70 27) (decide (rlevel ≤ l.f_Sill)) (fun hq2 => ?_) (fun hq2 => ?_)
  · have h := condT h hq2
    refine Runs.sA 1 [.code (C_70 52), .code (C_70 53), .code (C_70 7)] ?_
    refine Runs.sR hE ⟨[(6, (aI 0))], [], 160⟩ (C_70 52) [] [] (kp [6]) [] 160 [] trivial ?_
    obtain rfl := Option.some.inj h
    refine Runs.sW hE ⟨[(6, (aI 0))], [], 160⟩ [] (kp [6]) [] 160 [] trivial ?_
    exact Runs.sT Try.f109 [] [] trivial
  · have h := condF h hq2
    refine Runs.sA 2 [.code (C_70 14), .code (C_70 15)] ?_
    obtain ⟨rlevel2, hr2, h⟩ := bindSome h
    obtain ⟨rlevel3, hr3, h⟩ := bindSome h
    refine Runs.sR hE ⟨[(3, (.op 0 0 0)), (4, (.op 16 0 0)), (5, (.op 32 0 0)), (7, (aI (w64 (rlevel2 - (if rlevel3 > l.f_Sill then rlevel3 else l.f_Sill)))))], [(0, vO 8 (Tapi_Link.cells l)), (16, vO 3 (Twater_side.cells upper)), (32, vO 3 (Twater_side.cells lower))], 288⟩ (C_70 14) [(1, ⟨[], true, (aI rlevel2), [], 0, false⟩), (5, ⟨[], true, (aI rlevel3), [], 0, false⟩)] [] (kp [3, 4, 5, 7]) (kq [0, 16, 32]) 288 [0 < 1, Sound Try.prog 107 [(.agg (Twater_side.cells upper)), (aI 0)] [] 0 (aI rlevel2) [], 0 < 1, 0 < 1, Sound Try.prog 107 [(.agg (Twater_side.cells lower)), (aI 0)] [] 0 (aI rlevel3) []] ⟨o1, (g_water_side_level_ok N upper 0 rlevel2 hr2), o1, o1, (g_water_side_level_ok N lower 0 rlevel3 hr3), trivial⟩ ?_
    refine Runs.sA 1 [.code (C_70 30), .code (C_70 31)] ?_
    obtain ⟨rspare, hr4, h⟩ := bindSome h
    obtain ⟨rroom, hr5, h⟩ := bindSome h
    refine Runs.sR hE ⟨[(4, (.op 16 0 0)), (5, (.op 32 0 0)), (8, (aI (if rroom < (if rspare < (if (w64 (l.f_Factor * (w64 (rlevel2 - (if rlevel3 > l.f_Sill then rlevel3 else l.f_Sill))))) < l.f_Rate then (w64 (l.f_Factor * (w64 (rlevel2 - (if rlevel3 > l.f_Sill then rlevel3 else l.f_Sill))))) else l.f_Rate) then rspare else (if (w64 (l.f_Factor * (w64 (rlevel2 - (if rlevel3 > l.f_Sill then rlevel3 else l.f_Sill))))) < l.f_Rate then (w64 (l.f_Factor * (w64 (rlevel2 - (if rlevel3 > l.f_Sill then rlevel3 else l.f_Sill))))) else l.f_Rate)) then rroom else (if rspare < (if (w64 (l.f_Factor * (w64 (rlevel2 - (if rlevel3 > l.f_Sill then rlevel3 else l.f_Sill))))) < l.f_Rate then (w64 (l.f_Factor * (w64 (rlevel2 - (if rlevel3 > l.f_Sill then rlevel3 else l.f_Sill))))) else l.f_Rate) then rspare else (if (w64 (l.f_Factor * (w64 (rlevel2 - (if rlevel3 > l.f_Sill then rlevel3 else l.f_Sill))))) < l.f_Rate then (w64 (l.f_Factor * (w64 (rlevel2 - (if rlevel3 > l.f_Sill then rlevel3 else l.f_Sill))))) else l.f_Rate)))))], [(16, vO 3 (Twater_side.cells upper)), (32, vO 3 (Twater_side.cells lower))], 576⟩ (C_70 30) [(11, ⟨[], true, (aI rspare), [], 0, false⟩), (15, ⟨[], true, (aI rroom), [], 0, false⟩)] [] (kp [4, 5, 8]) (kq [16, 32]) 576 [0 < 1, 0 < 1, 0 < 1, 0 < 1, 0 < 1, Sound Try.prog 117 [(.agg (Twater_side.cells upper)), (aI l.f_Sill), (aI l.f_Rate)] [] 0 (aI rspare) [], 0 < 1, 0 < 1, Sound Try.prog 108 [(.agg (Twater_side.cells lower)), (aI l.f_Rate)] [] 0 (aI rroom) []] ⟨o1, o1, o1, o1, o1, (g_water_side_spare_ok N upper l.f_Sill l.f_Rate rspare hr4), o1, o1, (g_water_side_room_ok N lower l.f_Rate rroom hr5), trivial⟩ ?_
    refine Runs.sA 1 [.code (C_70 62), .code (C_70 63)] ?_
    obtain ⟨rSearch, hr6, h⟩ := bindSome h
    refine Runs.sR hE ⟨[(6, (aI rSearch))], [], 640⟩ (C_70 62) [(2, ⟨[16, 32], true, (aI rSearch), [], 0, false⟩)] [] (kp [6]) [] 640 [Sound Try.prog 98 [(aI (if rroom < (if rspare < (if (w64 (l.f_Factor * (w64 (rlevel2 - (if rlevel3 > l.f_Sill then rlevel3 else l.f_Sill))))) < l.f_Rate then (w64 (l.f_Factor * (w64 (rlevel2 - (if rlevel3 > l.f_Sill then rlevel3 else l.f_Sill))))) else l.f_Rate) then rspare else (if (w64 (l.f_Factor * (w64 (rlevel2 - (if rlevel3 > l.f_Sill then rlevel3 else l.f_Sill))))) < l.f_Rate then (w64 (l.f_Factor * (w64 (rlevel2 - (if rlevel3 > l.f_Sill then rlevel3 else l.f_Sill))))) else l.f_Rate)) then rroom else (if rspare < (if (w64 (l.f_Factor * (w64 (rlevel2 - (if rlevel3 > l.f_Sill then rlevel3 else l.f_Sill))))) < l.f_Rate then (w64 (l.f_Factor * (w64 (rlevel2 - (if rlevel3 > l.f_Sill then rlevel3 else l.f_Sill))))) else l.f_Rate) then rspare else (if (w64 (l.f_Factor * (w64 (rlevel2 - (if rlevel3 > l.f_Sill then rlevel3 else l.f_Sill))))) < l.f_Rate then (w64 (l.f_Factor * (w64 (rlevel2 - (if rlevel3 > l.f_Sill then rlevel3 else l.f_Sill))))) else l.f_Rate)))), (.fn (.func 118) [] [(.op 0 0 0), (.op 1 0 0)])] [(0, vO 3 (Twater_side.cells upper)), (1, vO 3 (Twater_side.cells lower))] 2 (aI rSearch) [(0, vO 3 (Twater_side.cells upper)), (1, vO 3 (Twater_side.cells lower))]] ⟨(g_sort_Search_v2_ok N (if rroom < (if rspare < (if (w64 (l.f_Factor * (w64 (rlevel2 - (if rlevel3 > l.f_Sill then rlevel3 else l.f_Sill))))) < l.f_Rate then (w64 (l.f_Factor * (w64 (rlevel2 - (if rlevel3 > l.f_Sill then rlevel3 else l.f_Sill))))) else l.f_Rate) then rspare else (if (w64 (l.f_Factor * (w64 (rlevel2 - (if rlevel3 > l.f_Sill then rlevel3 else l.f_Sill))))) < l.f_Rate then (w64 (l.f_Factor * (w64 (rlevel2 - (if rlevel3 > l.f_Sill then rlevel3 else l.f_Sill))))) else l.f_Rate)) then rroom else (if rspare < (if (w64 (l.f_Factor * (w64 (rlevel2 - (if rlevel3 > l.f_Sill then rlevel3 else l.f_Sill))))) < l.f_Rate then (w64 (l.f_Factor * (w64 (rlevel2 - (if rlevel3 > l.f_Sill then rlevel3 else l.f_Sill))))) else l.f_Rate) then rspare else (if (w64 (l.f_Factor * (w64 (rlevel2 - (if rlevel3 > l.f_Sill then rlevel3 else l.f_Sill))))) < l.f_Rate then (w64 (l.f_Factor * (w64 (rlevel2 - (if rlevel3 > l.f_Sill then rlevel3 else l.f_Sill))))) else l.f_Rate))) upper lower rSearch hr6), trivial⟩ ?_
    obtain rfl := Option.some.inj h
    refine Runs.sW hE ⟨[(6, (aI rSearch))], [], 640⟩ [] (kp [6]) [] 640 [] trivial ?_
    exact Runs.sT Try.f109 [] [] trivial

noncomputable def C_66 (n : Nat) : Code := cat (bodyOf Try.f83) (pth n)

theorem g_water_flow_J1_ok (N : Nat) (n : Tapi_Network) (i : Int) (rsideOf2 : Twater_side) (give : Int) (r : Int) (h : g_water_flow_J1 N n i rsideOf2 give = some r) : ∀ E, EnvOk E 0 → Runs Try.prog E 83 76 (SPost E [] (aI r)) [.code (C_66 16046), .code (C_66 16047), .inBlock 0, .code (C_66 63)] ⟨[(7, (.op 0 0 0)), (9, (.op 1 0 0)), (11, (aI give))], [(0, vO 8 (Tapi_Link.cells (n.f_Links.getD ((i).toNat) Tapi_Link.d))), (1, vO 3 (Twater_side.cells rsideOf2))], 2⟩ := by
  intro E hE
  unfold g_water_flow_J1 at h
  obtain ⟨rroom, hr5, h⟩ := bindSome h
  refine Runs.sR hE ⟨[(6, (aI (if rroom < (if give < (n.f_Links.getD ((i).toNat) Tapi_Link.d).f_Rate then give else (n.f_Links.getD ((i).toNat) Tapi_Link.d).f_Rate) then rroom else (if give < (n.f_Links.getD ((i).toNat) Tapi_Link.d).f_Rate then give else (n.f_Links.getD ((i).toNat) Tapi_Link.d).f_Rate))))], [], 146⟩ (C_66 16046) [(6, ⟨[], true, (aI rroom), [], 0, false⟩)] [] (kp [6]) [] 146 [0 < 1, 0 < 1, 0 < 1, Sound Try.prog 108 [(.agg (Twater_side.cells rsideOf2)), (aI ((n.f_Links.getD ((i).toNat) Tapi_Link.d).f_Rate))] [] 0 (aI rroom) []] ⟨o1, o1, o1, (g_water_side_room_ok N rsideOf2 ((n.f_Links.getD ((i).toNat) Tapi_Link.d).f_Rate) rroom hr5), trivial⟩ ?_
  obtain rfl := Option.some.inj h
  refine Runs.sW hE ⟨[(6, (aI (if rroom < (if give < (n.f_Links.getD ((i).toNat) Tapi_Link.d).f_Rate then give else (n.f_Links.getD ((i).toNat) Tapi_Link.d).f_Rate) then rroom else (if give < (n.f_Links.getD ((i).toNat) Tapi_Link.d).f_Rate then give else (n.f_Links.getD ((i).toNat) Tapi_Link.d).f_Rate))))], [], 146⟩ [] (kp [6]) [] 146 [] trivial ?_
  exact Runs.sT Try.f83 [] [] trivial

theorem g_water_flow_ok (N : Nat) (n : Tapi_Network) (w : Tapi_Water) (i : Int) (r : Int) (h : g_water_flow N n w i = some r) : Sound Try.prog 83 [(.agg (Tapi_Network.cells n)), (.agg (Tapi_Water.cells w)), (aI i)] [] 0 (aI r) [] := by
  unfold g_water_flow at h
  refine Sound.of_runs (fu := Try.f83) (c := C_66 1) (nt := 76) (by kernel_rfl) (by kernel_rfl) (by kernel_rfl) (by kernel_rfl) (fun hm => rfl) ?_
  intro E hE
  refine Runs.sA 1 [.code (C_66 2), .code (C_66 3)] ?_
  refine Runs.sR hE ⟨[(2, (aI i)), (3, (.op 0 0 0)), (4, (.op 16 0 0))], [(0, vO 3 (Tapi_Network.cells n)), (16, vO 3 (Tapi_Water.cells w))], 48⟩ (C_66 2) [] [] (kp [2, 3, 4]) (kq [0, 16]) 48 [] trivial ?_
  refine Runs.sA 1 [.code (C_66 6), .code (C_66 7)] ?_
  obtain ⟨c, h⟩ := ifSome h
  refine Runs.sR hE ⟨[(2, (aI i)), (3, (.op 0 0 0)), (4, (.op 16 0 0)), (7, (.op 128 0 0))], [(0, vO 3 (Tapi_Network.cells n)), (16, vO 3 (Tapi_Water.cells w)), (128, vO 8 (Tapi_Link.cells (n.f_Links.getD ((i).toNat) Tapi_Link.d)))], 160⟩ (C_66 6) [] [] (kp [2, 3, 4, 7]) (kq [0, 16, 128]) 160 [0 < 1, 0 ≤ i ∧ i < ((n.f_Links.length : Nat) : Int), 0 < 1] ⟨o1, c, o1, trivial⟩ ?_
  refine Runs.sA 2 [.code (C_66 28), .code (C_66 29), .code (C_66 15)] ?_
  obtain ⟨c2, h⟩ := ifSome h
  refine Runs.sR hE ⟨[(3, (.op 0 0 0)), (4, (.op 16 0 0)), (7, (.op 128 0 0)), (22, (aB (!(w.f_Open.getD ((i).toNat) false))))], [(0, vO 3 (Tapi_Network.cells n)), (16, vO 3 (Tapi_Water.cells w)), (128, vO 8 (Tapi_Link.cells (n.f_Links.getD ((i).toNat) Tapi_Link.d)))], 256⟩ (C_66 28) [] [] (kp [3, 4, 7, 22]) (kq [0, 16, 128]) 256 [0 < 1, 0 ≤ i ∧ i < ((w.f_Open.length : Nat) : Int)] ⟨o1, c2, trivial⟩ ?_
  refine Runs.sC 22 (C_66 58) (C_66 59) (!(w.f_Open.getD ((i).toNat) false)) (fun hq2 => ?_) (fun hq2 => ?_)
  · have h := condT h hq2
    refine Runs.sA 1 [.code (C_66 116), .code (C_66 117), .code (C_66 15)] ?_
    refine Runs.sR hE ⟨[(6, (aI 0))], [], 272⟩ (C_66 116) [] [] (kp [6]) [] 272 [] trivial ?_
    obtain rfl := Option.some.inj h
    refine Runs.sW hE ⟨[(6, (aI 0))], [], 272⟩ [] (kp [6]) [] 272 [] trivial ?_
    exact Runs.sT Try.f83 [] [] trivial
  · have h := condF h hq2
    refine Runs.sA 2 [.code (C_66 30), .code (C_66 31)] ?_
    obtain ⟨rsideOf, hr, h⟩ := bindSome h
    obtain ⟨rsideOf2, hr2, h⟩ := bindSome h
    refine Runs.sR hE ⟨[(7, (.op 128 0 0)), (8, (.op 416 0 0)), (9, (.op 432 0 0))], [(128, vO 8 (Tapi_Link.cells (n.f_Links.getD ((i).toNat) Tapi_Link.d))), (416, vO 3 (Twater_side.cells rsideOf)), (432, vO 3 (Twater_side.cells rsideOf2))], 480⟩ (C_66 30) [(4, ⟨[], true, (.agg (Twater_side.cells rsideOf)), [], 0, false⟩), (9, ⟨[], true, (.agg (Twater_side.cells rsideOf2)), [], 0, false⟩)] [] (kp [7, 8, 9]) (kq [128, 416, 432]) 480 [0 < 1, 0 < 1, 0 < 1, Sound Try.prog 106 [(.agg (Tapi_Network.cells n)), (.agg (Tapi_Water.cells w)), (aS ((n.f_Links.getD ((i).toNat) Tapi_Link.d).f_From))] [] 0 (.agg (Twater_side.cells rsideOf)) [], 0 < 1, 0 < 1, 0 < 1, Sound Try.prog 106 [(.agg (Tapi_Network.cells n)), (.agg (Tapi_Water.cells w)), (aS ((n.f_Links.getD ((i).toNat) Tapi_Link.d).f_To))] [] 0 (.agg (Twater_side.cells rsideOf2)) [], 0 < 1, 0 < 1] ⟨o1, o1, o1, (g_water_sideOf_ok N n w ((n.f_Links.getD ((i).toNat) Tapi_Link.d).f_From) rsideOf hr), o1, o1, o1, (g_water_sideOf_ok N n w ((n.f_Links.getD ((i).toNat) Tapi_Link.d).f_To) rsideOf2 hr2), o1, o1, trivial⟩ ?_
    refine Runs.sA 2 [.code (C_66 124), .code (C_66 125), .code (C_66 63)] ?_
    obtain ⟨rlevel, hr3, h⟩ := bindSome h
    obtain ⟨rlevel2, hr4, h⟩ := bindSome h
    refine Runs.sR hE ⟨[(7, (.op 128 0 0)), (8, (.op 416 0 0)), (9, (.op 432 0 0)), (10, (aI (w64 (rlevel - rlevel2))))], [(128, vO 8 (Tapi_Link.cells (n.f_Links.getD ((i).toNat) Tapi_Link.d))), (416, vO 3 (Twater_side.cells rsideOf)), (432, vO 3 (Twater_side.cells rsideOf2))], 576⟩ (C_66 124) [(1, ⟨[], true, (aI rlevel), [], 0, false⟩), (3, ⟨[], true, (aI rlevel2), [], 0, false⟩)] [] (kp [7, 8, 9, 10]) (kq [128, 416, 432]) 576 [0 < 1, Sound Try.prog 107 [(.agg (Twater_side.cells rsideOf2)), (aI 0)] [] 0 (aI rlevel) [], 0 < 1, Sound Try.prog 107 [(.agg (Twater_side.cells rsideOf)), (aI 0)] [] 0 (aI rlevel2) []] ⟨o1, (g_water_side_level_ok N rsideOf2 0 rlevel hr3), o1, (g_water_side_level_ok N rsideOf 0 rlevel2 hr4), trivial⟩ ?_
    refine Runs.sA 2 [.code (C_66 500), .code (C_66 501), .inBlock 0, .code (C_66 63)] ?_
    refine Runs.sR hE ⟨[(7, (.op 128 0 0)), (8, (.op 416 0 0)), (9, (.op 432 0 0)), (10, (aI (w64 (rlevel - rlevel2)))), (38, (aB ((n.f_Links.getD ((i).toNat) Tapi_Link.d).f_Kind == 1)))], [(128, vO 8 (Tapi_Link.cells (n.f_Links.getD ((i).toNat) Tapi_Link.d))), (416, vO 3 (Twater_side.cells rsideOf)), (432, vO 3 (Twater_side.cells rsideOf2))], 640⟩ (C_66 500) [] [] (kp [7, 8, 9, 10, 38]) (kq [128, 416, 432]) 640 [0 < 1] ⟨o1, trivial⟩ ?_
    refine Runs.sC 38 (C_66 1002) (C_66 1003) ((n.f_Links.getD ((i).toNat) Tapi_Link.d).f_Kind == 1) (fun hq3 => ?_) (fun hq3 => ?_)
    · have h := condT h hq3
      refine Runs.sA 2 [.code (C_66 4008), .code (C_66 4009), .code (C_66 2005), .inBlock 0, .code (C_66 63)] ?_
      refine Runs.sR hE ⟨[(7, (.op 128 0 0)), (8, (.op 416 0 0)), (9, (.op 432 0 0)), (45, (aB (decide ((w64 (rlevel - rlevel2)) > (n.f_Links.getD ((i).toNat) Tapi_Link.d).f_Lift))))], [(128, vO 8 (Tapi_Link.cells (n.f_Links.getD ((i).toNat) Tapi_Link.d))), (416, vO 3 (Twater_side.cells rsideOf)), (432, vO 3 (Twater_side.cells rsideOf2))], 704⟩ (C_66 4008) [] [] (kp [7, 8, 9, 45]) (kq [128, 416, 432]) 704 [0 < 1] ⟨o1, trivial⟩ ?_
      refine Runs.sC 45 (C_66 8018) (C_66 8019) (decide ((w64 (rlevel - rlevel2)) > (n.f_Links.getD ((i).toNat) Tapi_Link.d).f_Lift)) (fun hq4 => ?_) (fun hq4 => ?_)
      · have h := condT h hq4
        refine Runs.sA 1 [.code (C_66 16036), .code (C_66 16037), .code (C_66 2005), .inBlock 0, .code (C_66 63)] ?_
        refine Runs.sR hE ⟨[(6, (aI 0))], [], 720⟩ (C_66 16036) [] [] (kp [6]) [] 720 [] trivial ?_
        obtain rfl := Option.some.inj h
        refine Runs.sW hE ⟨[(6, (aI 0))], [], 720⟩ [] (kp [6]) [] 720 [] trivial ?_
        exact Runs.sT Try.f83 [] [] trivial
      · have h := condF h hq4
        refine Runs.sA 2 [.code (C_66 4010), .code (C_66 4011), .inBlock 0, .code (C_66 63)] ?_
        refine Runs.sR hE ⟨[(7, (.op 128 0 0)), (8, (.op 416 0 0)), (9, (.op 432 0 0)), (11, (aI ((n.f_Links.getD ((i).toNat) Tapi_Link.d).f_Rate)))], [(128, vO 8 (Tapi_Link.cells (n.f_Links.getD ((i).toNat) Tapi_Link.d))), (416, vO 3 (Twater_side.cells rsideOf)), (432, vO 3 (Twater_side.cells rsideOf2))], 752⟩ (C_66 4010) [] [] (kp [7, 8, 9, 11]) (kq [128, 416, 432]) 752 [0 < 1] ⟨o1, trivial⟩ ?_
        refine Runs.sA 2 [.code (C_66 16044), .code (C_66 16045), .code (C_66 8023), .inBlock 0, .code (C_66 63)] ?_
        refine Runs.sR hE ⟨[(7, (.op 128 0 0)), (8, (.op 416 0 0)), (9, (.op 432 0 0)), (11, (aI ((n.f_Links.getD ((i).toNat) Tapi_Link.d).f_Rate))), (50, (aB (!(!rsideOf.f_basin.isSome))))], [(128, vO 8 (Tapi_Link.cells (n.f_Links.getD ((i).toNat) Tapi_Link.d))), (416, vO 3 (Twater_side.cells rsideOf)), (432, vO 3 (Twater_side.cells rsideOf2))], 800⟩ (C_66 16044) [] [] (kp [7, 8, 9, 11, 50]) (kq [128, 416, 432]) 800 [0 < 1] ⟨o1, trivial⟩ ?_
        refine Runs.sC 50 (C_66 32090) (C_66 32091) (!(!rsideOf.f_basin.isSome)) (fun hq5 => ?_) (fun hq5 => ?_)
        · have h := condT h hq5
          refine Runs.sR hE ⟨[(7, (.op 128 0 0)), (9, (.op 432 0 0)), (11, (aI rsideOf.f_litres))], [(128, vO 8 (Tapi_Link.cells (n.f_Links.getD ((i).toNat) Tapi_Link.d))), (432, vO 3 (Twater_side.cells rsideOf2))], 848⟩ (C_66 32090) [] [] (kp [7, 9, 11]) (kq [128, 432]) 848 [0 < 1] ⟨o1, trivial⟩ ?_
          refine Runs.sA 1 [.code (C_66 16046), .code (C_66 16047), .inBlock 0, .code (C_66 63)] ?_
          exact Runs.sW hE _ [] (kp [7, 9, 11]) [(0, .keep 128), (1, .keep 432)] 2 [] trivial (g_water_flow_J1_ok N n i rsideOf2 rsideOf.f_litres _ h E hE)
        · have h := condF h hq5
          refine Runs.sA 2 [.code (C_66 16046), .code (C_66 16047), .inBlock 0, .code (C_66 63)] ?_
          exact Runs.sW hE _ [] (kp [7, 9, 11]) [(0, .keep 128), (1, .keep 432)] 2 [] trivial (g_water_flow_J1_ok N n i rsideOf2 ((n.f_Links.getD ((i).toNat) Tapi_Link.d).f_Rate) _ h E hE)
    · have h := condF h hq3
      refine Runs.sA 1 [.code (C_66 2006), .code (C_66 2007), .inBlock 0, .code (C_66 63)] ?_
      refine Runs.sR hE ⟨[(7, (.op 128 0 0)), (8, (.op 416 0 0)), (9, (.op 432 0 0)), (10, (aI (w64 (rlevel - rlevel2)))), (61, (aB (decide ((w64 (rlevel - rlevel2)) < 0))))], [(128, vO 8 (Tapi_Link.cells (n.f_Links.getD ((i).toNat) Tapi_Link.d))), (416, vO 3 (Twater_side.cells rsideOf)), (432, vO 3 (Twater_side.cells rsideOf2))], 688⟩ (C_66 2006) [] [] (kp [7, 8, 9, 10, 61]) (kq [128, 416, 432]) 688 [] trivial ?_
      refine Runs.sC 61 (C_66 4014) (C_66 4015) (decide ((w64 (rlevel - rlevel2)) < 0)) (fun hq6 => ?_) (fun hq6 => ?_)
      · have h := condT h hq6
        refine Runs.sA 1 [.code (C_66 8028), .code (C_66 8029), .inBlock 0, .code (C_66 63)] ?_
        obtain ⟨rgate, hr6, h⟩ := bindSome h
        refine Runs.sR hE ⟨[(6, (aI rgate))], [], 768⟩ (C_66 8028) [(3, ⟨[], true, (aI rgate), [], 0, false⟩)] [] (kp [6]) [] 768 [0 < 1, 0 < 1, 0 < 1, Sound Try.prog 109 [(.agg (Tapi_Link.cells (n.f_Links.getD ((i).toNat) Tapi_Link.d))), (.agg (Twater_side.cells rsideOf)), (.agg (Twater_side.cells rsideOf2))] [] 0 (aI rgate) []] ⟨o1, o1, o1, (g_water_gate_ok N (n.f_Links.getD ((i).toNat) Tapi_Link.d) rsideOf rsideOf2 rgate hr6), trivial⟩ ?_
        obtain rfl := Option.some.inj h
        refine Runs.sW hE ⟨[(6, (aI rgate))], [], 768⟩ [] (kp [6]) [] 768 [] trivial ?_
        exact Runs.sT Try.f83 [] [] trivial
      · have h := condF h hq6
        refine Runs.sA 1 [.code (C_66 8030), .code (C_66 8031), .inBlock 0, .code (C_66 63)] ?_
        refine Runs.sR hE ⟨[(7, (.op 128 0 0)), (8, (.op 416 0 0)), (9, (.op 432 0 0)), (68, (aB (decide ((w64 (rlevel - rlevel2)) > 0))))], [(128, vO 8 (Tapi_Link.cells (n.f_Links.getD ((i).toNat) Tapi_Link.d))), (416, vO 3 (Twater_side.cells rsideOf)), (432, vO 3 (Twater_side.cells rsideOf2))], 736⟩ (C_66 8030) [] [] (kp [7, 8, 9, 68]) (kq [128, 416, 432]) 736 [] trivial ?_
        refine Runs.sC 68 (C_66 16062) (C_66 16063) (decide ((w64 (rlevel - rlevel2)) > 0)) (fun hq7 => ?_) (fun hq7 => ?_)
        · have h := condT h hq7
          refine Runs.sA 1 [.code (C_66 32124), .code (C_66 32125), .inBlock 0, .code (C_66 63)] ?_
          obtain ⟨rgate2, hr7, h⟩ := bindSome h
          refine Runs.sR hE ⟨[(6, (aI (w64 (0 - rgate2))))], [], 832⟩ (C_66 32124) [(3, ⟨[], true, (aI rgate2), [], 0, false⟩)] [] (kp [6]) [] 832 [0 < 1, 0 < 1, 0 < 1, Sound Try.prog 109 [(.agg (Tapi_Link.cells (n.f_Links.getD ((i).toNat) Tapi_Link.d))), (.agg (Twater_side.cells rsideOf2)), (.agg (Twater_side.cells rsideOf))] [] 0 (aI rgate2) []] ⟨o1, o1, o1, (g_water_gate_ok N (n.f_Links.getD ((i).toNat) Tapi_Link.d) rsideOf2 rsideOf rgate2 hr7), trivial⟩ ?_
          obtain rfl := Option.some.inj h
          refine Runs.sW hE ⟨[(6, (aI (w64 (0 - rgate2))))], [], 832⟩ [] (kp [6]) [] 832 [] trivial ?_
          exact Runs.sT Try.f83 [] [] trivial
        · have h := condF h hq7
          refine Runs.sA 3 [.code (C_66 126), .code (C_66 127)] ?_
          refine Runs.sR hE ⟨[(6, (aI 0))], [], 752⟩ (C_66 126) [] [] (kp [6]) [] 752 [] trivial ?_
          obtain rfl := Option.some.inj h
          refine Runs.sW hE ⟨[(6, (aI 0))], [], 752⟩ [] (kp [6]) [] 752 [] trivial ?_
          exact Runs.sT Try.f83 [] [] trivial

noncomputable def C_75 (n : Nat) : Code := cat (bodyOf Try.f84) (pth n)

theorem g_r05_CheckWater_L1_ok (N : Nat) (n : Tapi_Network) (w : Tapi_Water) (fuel : Nat) : ∀ (i : Int) (r : Int), g_r05_CheckWater_L1 N n w fuel i = some r → ∀ E, EnvOk E 0 → Runs Try.prog E 84 46 (SPost E [] (aI r)) [.code (C_75 244), .inLoop (C_75 244), .inBlock 0, .code (C_75 31)] ⟨[(2, (.op 0 0 0)), (3, (.op 1 0 0)), (5, (aI i))], [(0, vO 3 (Tapi_Network.cells n)), (1, vO 3 (Tapi_Water.cells w))], 2⟩ := by
  induction fuel with
  | zero => intro _ r h; rw [g_r05_CheckWater_L1.eq_1] at h; cases h
  | succ fuel ih =>
    intro i r h E hE
    rw [g_r05_CheckWater_L1.eq_2] at h
    refine Runs.sA 2 [.code (C_75 976), .code (C_75 977), .code (C_75 489), .inLoop (C_75 244), .inBlock 0, .code (C_75 31)] ?_
    refine Runs.sR hE ⟨[(2, (.op 0 0 0)), (3, (.op 1 0 0)), (5, (aI i)), (30, (aB (decide (i < ((w.f_Litres.length : Nat) : Int)))))], [(0, vO 3 (Tapi_Network.cells n)), (1, vO 3 (Tapi_Water.cells w))], 82⟩ (C_75 976) [] [] (kp [2, 3, 5, 30]) (kq [0, 1]) 82 [0 < 1] ⟨o1, trivial⟩ ?_
    refine Runs.sC 30 (C_75 1954) (C_75 1955) (decide (i < ((w.f_Litres.length : Nat) : Int))) (fun hq4 => ?_) (fun hq4 => ?_)
    · have h := condT h hq4
      refine Runs.sA 4 [.code (C_75 3912), .code (C_75 3913), .inBlock 1, .code (C_75 979), .inLoop (C_75 244), .inBlock 0, .code (C_75 31)] ?_
      obtain ⟨c, h⟩ := ifSome h
      obtain ⟨c2, h⟩ := ifSome h
      obtain ⟨rCapacity, hr2, h⟩ := bindSome h
      obtain ⟨rinside2, hr3, h⟩ := bindSome h
      refine Runs.sR hE ⟨[(2, (.op 0 0 0)), (3, (.op 1 0 0)), (5, (aI i)), (45, (aB (!rinside2)))], [(0, vO 3 (Tapi_Network.cells n)), (1, vO 3 (Tapi_Water.cells w))], 290⟩ (C_75 3912) [(10, ⟨[], true, (aI rCapacity), [], 0, false⟩), (11, ⟨[], true, (aB rinside2), [], 0, false⟩)] [] (kp [2, 3, 5, 45]) (kq [0, 1]) 290 [0 < 1, 0 ≤ i ∧ i < ((w.f_Litres.length : Nat) : Int), 0 < 1, 0 ≤ i ∧ i < ((n.f_Basins.length : Nat) : Int), Sound Try.prog 44 [(.agg (Tapi_Basin.cells (n.f_Basins.getD ((i).toNat) Tapi_Basin.d)))] [] 0 (aI rCapacity) [], Sound Try.prog 62 [(aI (w.f_Litres.getD ((i).toNat) 0)), (aI 0), (aI rCapacity)] [] 0 (aB rinside2) []] ⟨o1, c, o1, c2, (g_r05_Capacity_ok N (n.f_Basins.getD ((i).toNat) Tapi_Basin.d) rCapacity hr2), (g_r05_inside_ok N (w.f_Litres.getD ((i).toNat) 0) 0 rCapacity rinside2 hr3), trivial⟩ ?_
      refine Runs.sC 45 (C_75 7826) (C_75 7827) (!rinside2) (fun hq5 => ?_) (fun hq5 => ?_)
      · have h := condT h hq5
        refine Runs.sA 1 [.code (C_75 15652), .code (C_75 15653), .inBlock 1, .code (C_75 979), .inLoop (C_75 244), .inBlock 0, .code (C_75 31)] ?_
        refine Runs.sR hE ⟨[(4, (aI 2))], [], 306⟩ (C_75 15652) [] [] (kp [4]) [] 306 [] trivial ?_
        obtain rfl := Option.some.inj h
        refine Runs.sW hE ⟨[(4, (aI 2))], [], 306⟩ [] (kp [4]) [] 306 [] trivial ?_
        exact Runs.sT Try.f84 [] [] trivial
      · have h := condF h hq5
        refine Runs.sA 2 [.code (C_75 979), .inLoop (C_75 244), .inBlock 0, .code (C_75 31)] ?_
        refine Runs.sR hE ⟨[(2, (.op 0 0 0)), (3, (.op 1 0 0)), (5, (aI (w64 (i + 1))))], [(0, vO 3 (Tapi_Network.cells n)), (1, vO 3 (Tapi_Water.cells w))], 338⟩ (C_75 979) [] [] (kp [2, 3, 5]) (kq [0, 1]) 338 [] trivial ?_
        refine Runs.sA 1 [.code (C_75 244), .inLoop (C_75 244), .inBlock 0, .code (C_75 31)] ?_
        exact Runs.sW hE _ [] (kp [2, 3, 5]) (kq [0, 1]) 2 [] trivial (ih (w64 (i + 1)) _ h E hE)
    · have h := condF h hq4
      refine Runs.sA 2 [.code (C_75 62), .code (C_75 63)] ?_
      refine Runs.sR hE ⟨[(4, (aI 0))], [], 98⟩ (C_75 62) [] [] (kp [4]) [] 98 [] trivial ?_
      obtain rfl := Option.some.inj h
      refine Runs.sW hE ⟨[(4, (aI 0))], [], 98⟩ [] (kp [4]) [] 98 [] trivial ?_
      exact Runs.sT Try.f84 [] [] trivial

theorem g_r05_CheckWater_ok (N : Nat) (n : Tapi_Network) (w : Tapi_Water) (r : Int) (h : g_r05_CheckWater N n w = some r) : Sound Try.prog 84 [(.agg (Tapi_Network.cells n)), (.agg (Tapi_Water.cells w))] [] 0 (aI r) [] := by
  unfold g_r05_CheckWater at h
  refine Sound.of_runs (fu := Try.f84) (c := C_75 1) (nt := 46) (by kernel_rfl) (by kernel_rfl) (by kernel_rfl) (by kernel_rfl) (fun hm => rfl) ?_
  intro E hE
  refine Runs.sA 1 [.code (C_75 2), .code (C_75 3)] ?_
  refine Runs.sR hE ⟨[(2, (.op 0 0 0)), (3, (.op 16 0 0))], [(0, vO 3 (Tapi_Network.cells n)), (16, vO 3 (Tapi_Water.cells w))], 48⟩ (C_75 2) [] [] (kp [2, 3]) (kq [0, 16]) 48 [] trivial ?_
  refine Runs.sA 2 [.code (C_75 12), .code (C_75 13), .code (C_75 7)] ?_
  obtain ⟨rinside, hr, h⟩ := bindSome h
  refine Runs.sR hE ⟨[(2, (.op 0 0 0)), (3, (.op 16 0 0)), (9, (aB (!rinside)))], [(0, vO 3 (Tapi_Network.cells n)), (16, vO 3 (Tapi_Water.cells w))], 112⟩ (C_75 12) [(2, ⟨[], true, (aB rinside), [], 0, false⟩)] [] (kp [2, 3, 9]) (kq [0, 16]) 112 [0 < 1, Sound Try.prog 62 [(aI w.f_Minute), (aI 0), (aI 1000000)] [] 0 (aB rinside) []] ⟨o1, (g_r05_inside_ok N w.f_Minute 0 1000000 rinside hr), trivial⟩ ?_
  refine Runs.sC 9 (C_75 26) (C_75 27) (!rinside) (fun hq2 => ?_) (fun hq2 => ?_)
  · have h := condT h hq2
    refine Runs.sA 1 [.code (C_75 52), .code (C_75 53), .code (C_75 7)] ?_
    refine Runs.sR hE ⟨[(4, (aI 2))], [], 128⟩ (C_75 52) [] [] (kp [4]) [] 128 [] trivial ?_
    obtain rfl := Option.some.inj h
    refine Runs.sW hE ⟨[(4, (aI 2))], [], 128⟩ [] (kp [4]) [] 128 [] trivial ?_
    exact Runs.sT Try.f84 [] [] trivial
  · have h := condF h hq2
    refine Runs.sA 3 [.code (C_75 28), .code (C_75 29), .code (C_75 15)] ?_
    refine Runs.sR hE ⟨[(2, (.op 0 0 0)), (3, (.op 16 0 0)), (25, (aB (cond (((w.f_Litres.length : Nat) : Int) != ((n.f_Basins.length : Nat) : Int)) true (((w.f_Open.length : Nat) : Int) != ((n.f_Links.length : Nat) : Int)))))], [(0, vO 3 (Tapi_Network.cells n)), (16, vO 3 (Tapi_Water.cells w))], 368⟩ (C_75 28) [] [] (kp [2, 3, 25]) (kq [0, 16]) 368 [0 < 1, 0 < 1, (!(((w.f_Litres.length : Nat) : Int) != ((n.f_Basins.length : Nat) : Int))) = true → AllP [(!(((w.f_Litres.length : Nat) : Int) != ((n.f_Basins.length : Nat) : Int))) = true, 0 < 1], (!(((w.f_Litres.length : Nat) : Int) != ((n.f_Basins.length : Nat) : Int))) = true → AllP [(!(((w.f_Litres.length : Nat) : Int) != ((n.f_Basins.length : Nat) : Int))) = true], (!(((w.f_Litres.length : Nat) : Int) != ((n.f_Basins.length : Nat) : Int))) = true → AllP [(!(((w.f_Litres.length : Nat) : Int) != ((n.f_Basins.length : Nat) : Int))) = true, 0 < 1], (!(((w.f_Litres.length : Nat) : Int) != ((n.f_Basins.length : Nat) : Int))) = true → AllP [(!(((w.f_Litres.length : Nat) : Int) != ((n.f_Basins.length : Nat) : Int))) = true], (!(((w.f_Litres.length : Nat) : Int) != ((n.f_Basins.length : Nat) : Int))) = true → AllP [(!(((w.f_Litres.length : Nat) : Int) != ((n.f_Basins.length : Nat) : Int))) = true, (!(((w.f_Litres.length : Nat) : Int) != ((n.f_Basins.length : Nat) : Int))) = true], (!(((w.f_Litres.length : Nat) : Int) != ((n.f_Basins.length : Nat) : Int))) = true → AllP [(!(((w.f_Litres.length : Nat) : Int) != ((n.f_Basins.length : Nat) : Int))) = true]] ⟨o1, o1, (fun hg => ⟨hg, o1, trivial⟩), (fun hg => ⟨hg, trivial⟩), (fun hg => ⟨hg, o1, trivial⟩), (fun hg => ⟨hg, trivial⟩), (fun hg => ⟨hg, hg, trivial⟩), (fun hq => ⟨hq, trivial⟩), trivial⟩ ?_
    refine Runs.sC 25 (C_75 58) (C_75 59) (cond (((w.f_Litres.length : Nat) : Int) != ((n.f_Basins.length : Nat) : Int)) true (((w.f_Open.length : Nat) : Int) != ((n.f_Links.length : Nat) : Int))) (fun hq3 => ?_) (fun hq3 => ?_)
    · have h := condT h hq3
      refine Runs.sA 1 [.code (C_75 116), .code (C_75 117), .code (C_75 15)] ?_
      refine Runs.sR hE ⟨[(4, (aI 11))], [], 384⟩ (C_75 116) [] [] (kp [4]) [] 384 [] trivial ?_
      obtain rfl := Option.some.inj h
      refine Runs.sW hE ⟨[(4, (aI 11))], [], 384⟩ [] (kp [4]) [] 384 [] trivial ?_
      exact Runs.sT Try.f84 [] [] trivial
    · have h := condF h hq3
      refine Runs.sA 3 [.code (C_75 60), .code (C_75 61), .code (C_75 31)] ?_
      refine Runs.sR hE ⟨[(2, (.op 0 0 0)), (3, (.op 16 0 0)), (5, (aI 0))], [(0, vO 3 (Tapi_Network.cells n)), (16, vO 3 (Tapi_Water.cells w))], 384⟩ (C_75 60) [] [] (kp [2, 3, 5]) (kq [0, 16]) 384 [] trivial ?_
      refine Runs.sA 2 [.code (C_75 244), .inLoop (C_75 244), .inBlock 0, .code (C_75 31)] ?_
      exact Runs.sW hE _ [] (kp [2, 3, 5]) (kq [0] ++ [(1, .keep 16)]) 2 [] trivial (g_r05_CheckWater_L1_ok N n w N 0 _ h E hE)

noncomputable def C_76 (n : Nat) : Code := cat (bodyOf Try.f85) (pth n)

theorem g_r05_CheckTurns_L1_ok (N : Nat) (n : Tapi_Network) (l : List Tapi_Turn) (fuel : Nat) : ∀ (i : Int) (r : Int), g_r05_CheckTurns_L1 N n l fuel i = some r → ∀ E, EnvOk E 0 → Runs Try.prog E 85 46 (SPost E [] (aI r)) [.code (C_76 116), .inLoop (C_76 116), .inBlock 0, .code (C_76 15)] ⟨[(1, (encL Tapi_Turn.cells Tapi_Turn.d l)), (2, (.op 0 0 0)), (5, (aI i))], [(0, vO 3 (Tapi_Network.cells n))], 1⟩ := by
  induction fuel with
  | zero => intro _ r h; rw [g_r05_CheckTurns_L1.eq_1] at h; cases h
  | succ fuel ih =>
    intro i r h E hE
    rw [g_r05_CheckTurns_L1.eq_2] at h
    refine Runs.sA 2 [.code (C_76 464), .code (C_76 465), .code (C_76 233), .inLoop (C_76 116), .inBlock 0, .code (C_76 15)] ?_
    refine Runs.sR hE ⟨[(1, (encL Tapi_Turn.cells Tapi_Turn.d l)), (2, (.op 0 0 0)), (5, (aI i)), (12, (aB (decide (i < ((l.length : Nat) : Int)))))], [(0, vO 3 (Tapi_Network.cells n))], 65⟩ (C_76 464) [] [] (kp [1, 2, 5, 12]) (kq [0]) 65 [] trivial ?_
    refine Runs.sC 12 (C_76 930) (C_76 931) (decide (i < ((l.length : Nat) : Int))) (fun hq3 => ?_) (fun hq3 => ?_)
    · have h := condT h hq3
      refine Runs.sA 5 [.code (C_76 3728), .code (C_76 3729), .code (C_76 1865), .inBlock 1, .code (C_76 467), .inLoop (C_76 116), .inBlock 0, .code (C_76 15)] ?_
      obtain ⟨c, h⟩ := ifSome h
      obtain ⟨rinside, hr, h⟩ := bindSome h
      refine Runs.sR hE ⟨[(1, (encL Tapi_Turn.cells Tapi_Turn.d l)), (2, (.op 0 0 0)), (5, (aI i)), (21, (aB (!rinside)))], [(0, vO 3 (Tapi_Network.cells n))], 177⟩ (C_76 3728) [(5, ⟨[], true, (aB rinside), [], 0, false⟩)] [] (kp [1, 2, 5, 21]) (kq [0]) 177 [0 ≤ i ∧ i < ((l.length : Nat) : Int), Sound Try.prog 62 [(aI ((l.getD ((i).toNat) Tapi_Turn.d).f_Minute)), (aI 0), (aI 1000000)] [] 0 (aB rinside) []] ⟨c, (g_r05_inside_ok N ((l.getD ((i).toNat) Tapi_Turn.d).f_Minute) 0 1000000 rinside hr), trivial⟩ ?_
      refine Runs.sC 21 (C_76 7458) (C_76 7459) (!rinside) (fun hq4 => ?_) (fun hq4 => ?_)
      · have h := condT h hq4
        refine Runs.sA 1 [.code (C_76 14916), .code (C_76 14917), .code (C_76 1865), .inBlock 1, .code (C_76 467), .inLoop (C_76 116), .inBlock 0, .code (C_76 15)] ?_
        refine Runs.sR hE ⟨[(4, (aI 2))], [], 193⟩ (C_76 14916) [] [] (kp [4]) [] 193 [] trivial ?_
        obtain rfl := Option.some.inj h
        refine Runs.sW hE ⟨[(4, (aI 2))], [], 193⟩ [] (kp [4]) [] 193 [] trivial ?_
        exact Runs.sT Try.f85 [] [] trivial
      · have h := condF h hq4
        refine Runs.sA 3 [.code (C_76 7460), .code (C_76 7461), .code (C_76 3731), .inBlock 1, .code (C_76 467), .inLoop (C_76 116), .inBlock 0, .code (C_76 15)] ?_
        obtain ⟨c2, h⟩ := ifSome h
        obtain ⟨c3, h⟩ := ifSome h
        refine Runs.sR hE ⟨[(1, (encL Tapi_Turn.cells Tapi_Turn.d l)), (2, (.op 0 0 0)), (5, (aI i)), (37, (aB (cond (decide (i > 0)) (decide ((l.getD ((i).toNat) Tapi_Turn.d).f_Minute < (l.getD ((w64 (i - 1)).toNat) Tapi_Turn.d).f_Minute)) false)))], [(0, vO 3 (Tapi_Network.cells n))], 433⟩ (C_76 7460) [] [] (kp [1, 2, 5, 37]) (kq [0]) 433 [(decide (i > 0)) = true → AllP [(decide (i > 0)) = true, (decide (i > 0)) = true, 0 ≤ i ∧ i < ((l.length : Nat) : Int)], (decide (i > 0)) = true → AllP [(decide (i > 0)) = true], (decide (i > 0)) = true → AllP [(decide (i > 0)) = true], (decide (i > 0)) = true → AllP [(decide (i > 0)) = true], (decide (i > 0)) = true → AllP [(decide (i > 0)) = true, (decide (i > 0)) = true, 0 ≤ (w64 (i - 1)) ∧ (w64 (i - 1)) < ((l.length : Nat) : Int)], (decide (i > 0)) = true → AllP [(decide (i > 0)) = true], (decide (i > 0)) = true → AllP [(decide (i > 0)) = true], (decide (i > 0)) = true → AllP [(decide (i > 0)) = true, (decide (i > 0)) = true], (decide (i > 0)) = true → AllP [(decide (i > 0)) = true]] ⟨(fun hg => ⟨hg, hg, (c2 hg), trivial⟩), (fun hg => ⟨hg, trivial⟩), (fun hg => ⟨hg, trivial⟩), (fun hg => ⟨hg, trivial⟩), (fun hg => ⟨hg, hg, (c3 hg), trivial⟩), (fun hg => ⟨hg, trivial⟩), (fun hg => ⟨hg, trivial⟩), (fun hg => ⟨hg, hg, trivial⟩), (fun hq => ⟨hq, trivial⟩), trivial⟩ ?_
        refine Runs.sC 37 (C_76 14922) (C_76 14923) (cond (decide (i > 0)) (decide ((l.getD ((i).toNat) Tapi_Turn.d).f_Minute < (l.getD ((w64 (i - 1)).toNat) Tapi_Turn.d).f_Minute)) false) (fun hq5 => ?_) (fun hq5 => ?_)
        · have h := condT h hq5
          refine Runs.sA 1 [.code (C_76 29844), .code (C_76 29845), .code (C_76 3731), .inBlock 1, .code (C_76 467), .inLoop (C_76 116), .inBlock 0, .code (C_76 15)] ?_
          refine Runs.sR hE ⟨[(4, (aI 10))], [], 449⟩ (C_76 29844) [] [] (kp [4]) [] 449 [] trivial ?_
          obtain rfl := Option.some.inj h
          refine Runs.sW hE ⟨[(4, (aI 10))], [], 449⟩ [] (kp [4]) [] 449 [] trivial ?_
          exact Runs.sT Try.f85 [] [] trivial
        · have h := condF h hq5
          refine Runs.sA 2 [.code (C_76 7462), .code (C_76 7463), .inBlock 1, .code (C_76 467), .inLoop (C_76 116), .inBlock 0, .code (C_76 15)] ?_
          obtain ⟨rLink, hr2, h⟩ := bindSome h
          refine Runs.sR hE ⟨[(1, (encL Tapi_Turn.cells Tapi_Turn.d l)), (2, (.op 0 0 0)), (5, (aI i)), (45, (aB (decide (rLink < 0))))], [(0, vO 3 (Tapi_Network.cells n))], 561⟩ (C_76 7462) [(6, ⟨[], true, (aI rLink), [], 0, false⟩)] [] (kp [1, 2, 5, 45]) (kq [0]) 561 [0 < 1, 0 ≤ i ∧ i < ((l.length : Nat) : Int), Sound Try.prog 37 [(.agg (Tapi_Network.cells n)), (aS ((l.getD ((i).toNat) Tapi_Turn.d).f_Link))] [] 0 (aI rLink) []] ⟨o1, c, (g_r05_Link_ok N n ((l.getD ((i).toNat) Tapi_Turn.d).f_Link) rLink hr2), trivial⟩ ?_
          refine Runs.sC 45 (C_76 14926) (C_76 14927) (decide (rLink < 0)) (fun hq6 => ?_) (fun hq6 => ?_)
          · have h := condT h hq6
            refine Runs.sA 1 [.code (C_76 29852), .code (C_76 29853), .inBlock 1, .code (C_76 467), .inLoop (C_76 116), .inBlock 0, .code (C_76 15)] ?_
            refine Runs.sR hE ⟨[(4, (aI 6))], [], 577⟩ (C_76 29852) [] [] (kp [4]) [] 577 [] trivial ?_
            obtain rfl := Option.some.inj h
            refine Runs.sW hE ⟨[(4, (aI 6))], [], 577⟩ [] (kp [4]) [] 577 [] trivial ?_
            exact Runs.sT Try.f85 [] [] trivial
          · have h := condF h hq6
            refine Runs.sA 2 [.code (C_76 467), .inLoop (C_76 116), .inBlock 0, .code (C_76 15)] ?_
            refine Runs.sR hE ⟨[(1, (encL Tapi_Turn.cells Tapi_Turn.d l)), (2, (.op 0 0 0)), (5, (aI (w64 (i + 1))))], [(0, vO 3 (Tapi_Network.cells n))], 609⟩ (C_76 467) [] [] (kp [1, 2, 5]) (kq [0]) 609 [] trivial ?_
            refine Runs.sA 1 [.code (C_76 116), .inLoop (C_76 116), .inBlock 0, .code (C_76 15)] ?_
            exact Runs.sW hE _ [] (kp [1, 2, 5]) (kq [0]) 1 [] trivial (ih (w64 (i + 1)) _ h E hE)
    · have h := condF h hq3
      refine Runs.sA 2 [.code (C_76 30), .code (C_76 31)] ?_
      refine Runs.sR hE ⟨[(4, (aI 0))], [], 81⟩ (C_76 30) [] [] (kp [4]) [] 81 [] trivial ?_
      obtain rfl := Option.some.inj h
      refine Runs.sW hE ⟨[(4, (aI 0))], [], 81⟩ [] (kp [4]) [] 81 [] trivial ?_
      exact Runs.sT Try.f85 [] [] trivial

theorem g_r05_CheckTurns_ok (N : Nat) (n : Tapi_Network) (l : List Tapi_Turn) (r : Int) (h : g_r05_CheckTurns N n l = some r) : Sound Try.prog 85 [(.agg (Tapi_Network.cells n)), (encL Tapi_Turn.cells Tapi_Turn.d l)] [] 0 (aI r) [] := by
  unfold g_r05_CheckTurns at h
  refine Sound.of_runs (fu := Try.f85) (c := C_76 1) (nt := 46) (by kernel_rfl) (by kernel_rfl) (by kernel_rfl) (by kernel_rfl) (fun hm => rfl) ?_
  intro E hE
  refine Runs.sA 1 [.code (C_76 2), .code (C_76 3)] ?_
  refine Runs.sR hE ⟨[(1, (encL Tapi_Turn.cells Tapi_Turn.d l)), (2, (.op 0 0 0))], [(0, vO 3 (Tapi_Network.cells n))], 32⟩ (C_76 2) [] [] (kp [1, 2]) (kq [0]) 32 [] trivial ?_
  refine Runs.sA 2 [.code (C_76 12), .code (C_76 13), .code (C_76 7)] ?_
  refine Runs.sR hE ⟨[(1, (encL Tapi_Turn.cells Tapi_Turn.d l)), (2, (.op 0 0 0)), (8, (aB (decide (((l.length : Nat) : Int) > 200))))], [(0, vO 3 (Tapi_Network.cells n))], 80⟩ (C_76 12) [] [] (kp [1, 2, 8]) (kq [0]) 80 [] trivial ?_
  refine Runs.sC 8 (C_76 26) (C_76 27) (decide (((l.length : Nat) : Int) > 200)) (fun hq2 => ?_) (fun hq2 => ?_)
  · have h := condT h hq2
    refine Runs.sA 1 [.code (C_76 52), .code (C_76 53), .code (C_76 7)] ?_
    refine Runs.sR hE ⟨[(4, (aI 8))], [], 96⟩ (C_76 52) [] [] (kp [4]) [] 96 [] trivial ?_
    obtain rfl := Option.some.inj h
    refine Runs.sW hE ⟨[(4, (aI 8))], [], 96⟩ [] (kp [4]) [] 96 [] trivial ?_
    exact Runs.sT Try.f85 [] [] trivial
  · have h := condF h hq2
    refine Runs.sA 3 [.code (C_76 28), .code (C_76 29), .code (C_76 15)] ?_
    refine Runs.sR hE ⟨[(1, (encL Tapi_Turn.cells Tapi_Turn.d l)), (2, (.op 0 0 0)), (5, (aI 0))], [(0, vO 3 (Tapi_Network.cells n))], 96⟩ (C_76 28) [] [] (kp [1, 2, 5]) (kq [0]) 96 [] trivial ?_
    refine Runs.sA 2 [.code (C_76 116), .inLoop (C_76 116), .inBlock 0, .code (C_76 15)] ?_
    exact Runs.sW hE _ [] (kp [1, 2, 5]) (kq [0]) 1 [] trivial (g_r05_CheckTurns_L1_ok N n l N 0 _ h E hE)

noncomputable def C_74 (n : Nat) : Code := cat (bodyOf Try.f36) (pth n)

theorem g_r05_Started_ok (N : Nat) (n : Tapi_Network) (w : Tapi_Water) (turns : List Tapi_Turn) (r : Int) (h : g_r05_Started N n w turns = some r) : Sound Try.prog 36 [(.agg (Tapi_Network.cells n)), (.agg (Tapi_Water.cells w)), (encL Tapi_Turn.cells Tapi_Turn.d turns)] [] 0 (aI r) [] := by
  unfold g_r05_Started at h
  refine Sound.of_runs (fu := Try.f36) (c := C_74 1) (nt := 23) (by kernel_rfl) (by kernel_rfl) (by kernel_rfl) (by kernel_rfl) (fun hm => rfl) ?_
  intro E hE
  refine Runs.sA 1 [.code (C_74 2), .code (C_74 3)] ?_
  refine Runs.sR hE ⟨[(2, (encL Tapi_Turn.cells Tapi_Turn.d turns)), (3, (.op 0 0 0)), (4, (.op 16 0 0))], [(0, vO 3 (Tapi_Network.cells n)), (16, vO 3 (Tapi_Water.cells w))], 48⟩ (C_74 2) [] [] (kp [2, 3, 4]) (kq [0, 16]) 48 [] trivial ?_
  refine Runs.sA 2 [.code (C_74 12), .code (C_74 13), .code (C_74 7)] ?_
  obtain ⟨rCheckNetwork, hr, h⟩ := bindSome h
  refine Runs.sR hE ⟨[(2, (encL Tapi_Turn.cells Tapi_Turn.d turns)), (3, (.op 0 0 0)), (4, (.op 16 0 0)), (7, (aI rCheckNetwork))], [(0, vO 3 (Tapi_Network.cells n)), (16, vO 3 (Tapi_Water.cells w))], 96⟩ (C_74 12) [(1, ⟨[], true, (aI rCheckNetwork), [], 0, false⟩)] [] (kp [2, 3, 4, 7]) (kq [0, 16]) 96 [0 < 1, Sound Try.prog 27 [(.agg (Tapi_Network.cells n))] [] 0 (aI rCheckNetwork) []] ⟨o1, (g_r05_CheckNetwork_ok N n rCheckNetwork hr), trivial⟩ ?_
  refine Runs.sA 1 [.code (C_74 26), .code (C_74 27), .code (C_74 7)] ?_
  refine Runs.sR hE ⟨[(2, (encL Tapi_Turn.cells Tapi_Turn.d turns)), (3, (.op 0 0 0)), (4, (.op 16 0 0)), (7, (aI rCheckNetwork)), (12, (aB (rCheckNetwork != 0)))], [(0, vO 3 (Tapi_Network.cells n)), (16, vO 3 (Tapi_Water.cells w))], 128⟩ (C_74 26) [] [] (kp [2, 3, 4, 7, 12]) (kq [0, 16]) 128 [] trivial ?_
  refine Runs.sC 12 (C_74 54) (C_74 55) (rCheckNetwork != 0) (fun hq2 => ?_) (fun hq2 => ?_)
  · have h := condT h hq2
    refine Runs.sA 1 [.code (C_74 108), .code (C_74 109), .code (C_74 7)] ?_
    refine Runs.sR hE ⟨[(6, (aI rCheckNetwork))], [], 160⟩ (C_74 108) [] [] (kp [6]) [] 160 [] trivial ?_
    obtain rfl := Option.some.inj h
    refine Runs.sW hE ⟨[(6, (aI rCheckNetwork))], [], 160⟩ [] (kp [6]) [] 160 [] trivial ?_
    exact Runs.sT Try.f36 [] [] trivial
  · have h := condF h hq2
    refine Runs.sA 3 [.code (C_74 28), .code (C_74 29), .code (C_74 15)] ?_
    obtain ⟨rCheckWater, hr2, h⟩ := bindSome h
    refine Runs.sR hE ⟨[(2, (encL Tapi_Turn.cells Tapi_Turn.d turns)), (3, (.op 0 0 0)), (8, (aI rCheckWater))], [(0, vO 3 (Tapi_Network.cells n))], 192⟩ (C_74 28) [(2, ⟨[], true, (aI rCheckWater), [], 0, false⟩)] [] (kp [2, 3, 8]) (kq [0]) 192 [0 < 1, 0 < 1, Sound Try.prog 84 [(.agg (Tapi_Network.cells n)), (.agg (Tapi_Water.cells w))] [] 0 (aI rCheckWater) []] ⟨o1, o1, (g_r05_CheckWater_ok N n w rCheckWater hr2), trivial⟩ ?_
    refine Runs.sA 1 [.code (C_74 58), .code (C_74 59), .code (C_74 15)] ?_
    refine Runs.sR hE ⟨[(2, (encL Tapi_Turn.cells Tapi_Turn.d turns)), (3, (.op 0 0 0)), (8, (aI rCheckWater)), (18, (aB (rCheckWater != 0)))], [(0, vO 3 (Tapi_Network.cells n))], 224⟩ (C_74 58) [] [] (kp [2, 3, 8, 18]) (kq [0]) 224 [] trivial ?_
    refine Runs.sC 18 (C_74 118) (C_74 119) (rCheckWater != 0) (fun hq3 => ?_) (fun hq3 => ?_)
    · have h := condT h hq3
      refine Runs.sA 1 [.code (C_74 236), .code (C_74 237), .code (C_74 15)] ?_
      refine Runs.sR hE ⟨[(6, (aI rCheckWater))], [], 256⟩ (C_74 236) [] [] (kp [6]) [] 256 [] trivial ?_
      obtain rfl := Option.some.inj h
      refine Runs.sW hE ⟨[(6, (aI rCheckWater))], [], 256⟩ [] (kp [6]) [] 256 [] trivial ?_
      exact Runs.sT Try.f36 [] [] trivial
    · have h := condF h hq3
      refine Runs.sA 2 [.code (C_74 30), .code (C_74 31)] ?_
      obtain ⟨rCheckTurns, hr3, h⟩ := bindSome h
      refine Runs.sR hE ⟨[(6, (aI rCheckTurns))], [], 288⟩ (C_74 30) [(2, ⟨[], true, (aI rCheckTurns), [], 0, false⟩)] [] (kp [6]) [] 288 [0 < 1, Sound Try.prog 85 [(.agg (Tapi_Network.cells n)), (encL Tapi_Turn.cells Tapi_Turn.d turns)] [] 0 (aI rCheckTurns) []] ⟨o1, (g_r05_CheckTurns_ok N n turns rCheckTurns hr3), trivial⟩ ?_
      obtain rfl := Option.some.inj h
      refine Runs.sW hE ⟨[(6, (aI rCheckTurns))], [], 288⟩ [] (kp [6]) [] 288 [] trivial ?_
      exact Runs.sT Try.f36 [] [] trivial

noncomputable def C_87 (n : Nat) : Code := cat (bodyOf Try.f111) (pth n)

theorem g_slices_Clone_int_int_ok (N : Nat) (s : List Int) (r : (List Int)) (h : g_slices_Clone_int_int N s = some r) : Sound Try.prog 111 [(encL cI 0 s)] [] 0 (.os 0 0 r.length) [(0, aO 1 cI 0 r)] := by
  unfold g_slices_Clone_int_int at h
  refine Sound.of_runs (fu := Try.f111) (c := C_87 1) (nt := 8) (by kernel_rfl) (by kernel_rfl) (by kernel_rfl) (by kernel_rfl) (fun hm => rfl) ?_
  intro E hE
  refine Runs.sA 1 [.code (C_87 2), .code (C_87 3)] ?_
  refine Runs.sR hE ⟨[(0, (encL cI 0 s))], [], 16⟩ (C_87 2) [] [] (kp [0]) [] 16 [] trivial ?_
  refine Runs.sA 2 [.code (C_87 12), .code (C_87 13), .code (C_87 7)] ?_
  refine Runs.sR hE ⟨[(0, (encL cI 0 s)), (4, (.bn s.length))], [], 48⟩ (C_87 12) [] [] (kp [0, 4]) [] 48 [] trivial ?_
  refine Runs.condBn (o := .tmp 4) (x := C_87 26) (y := C_87 27) (n := s.length) (by kernel_rfl) (by kernel_rfl) (fun hq2 => ?_) ?_
  · replace hq2 := List.length_eq_zero_iff.1 hq2
    replace h : (some ([] : List Int)) = some r := by rw [hq2] at h; simpa using h
    refine Runs.sA 1 [.code (C_87 52), .code (C_87 53), .code (C_87 7)] ?_
    refine Runs.sR hE ⟨[(2, .nil)], [], 64⟩ (C_87 52) [] [] (kp [2]) [] 64 [] trivial ?_
    obtain rfl := Option.some.inj h
    refine Runs.sW hE ⟨[(2, (.os 0 0 (([] : List Int).length)))], [(0, aO 1 cI 0 ([] : List Int))], 64⟩ [] [(2, .nilos 0)] [(0, .nil 1 (fun zi => cI (([] : List Int).getD zi 0)))] 64 [] trivial ?_
    exact Runs.sT Try.f111 [] [] trivial
  · refine Runs.sA 2 [.code (C_87 14), .code (C_87 15)] ?_
    obtain ⟨c, h⟩ := ifSome h
    refine Runs.sR hE ⟨[(2, (.os 80 0 ((([] : List Int) ++ s).length)))], [(80, aO 1 cI 0 (([] : List Int) ++ s))], 112⟩ (C_87 14) [] [] [(2, .osl ((([] : List Int) ++ s).length))] [(80, .arr 80 ((([] : List Int) ++ s).length) (fun zi => cI ((([] : List Int) ++ s).getD zi 0)))] 112 [0 = 0, (0 + s.length) * 8 ≤ 140737488355328, ∀ zi, zi < s.length → AV.oneL ((fun zi => cI (s.getD zi 0)) zi) = true, (0 + s.length) = (([] : List Int) ++ s).length, 0 + s.length = (([] : List Int) ++ s).length, ∀ zi, zi < (([] : List Int) ++ s).length → (fun zi => cI ((([] : List Int) ++ s).getD zi 0)) zi = ((fun zm => if zm < 0 then (fun _ => []) zm else (fun zi => cI (s.getD zi 0)) (zm - 0))) zi] ⟨rfl, c, (fun _ _ => rfl), (len_app_raw rfl rfl), (len_app_raw rfl rfl), (get_app_raw cI 0 ([] : List Int) s rfl (fun zq hzq => absurd hzq (Nat.not_lt_zero _)) (fun _ _ => rfl)), trivial⟩ ?_
    obtain rfl := Option.some.inj h
    refine Runs.sW hE ⟨[(2, (.os 0 0 ((([] : List Int) ++ s).length)))], [(0, aO 1 cI 0 (([] : List Int) ++ s))], 112⟩ [] (kp [2]) [(0, .keep 80)] 112 [] trivial ?_
    exact Runs.sT Try.f111 [] [] trivial

noncomputable def C_88 (n : Nat) : Code := cat (bodyOf Try.f112) (pth n)

theorem g_slices_Clone_bool_bool_ok (N : Nat) (s : List Bool) (r : (List Bool)) (h : g_slices_Clone_bool_bool N s = some r) : Sound Try.prog 112 [(encL cB false s)] [] 0 (.os 0 0 r.length) [(0, aO 1 cB false r)] := by
  unfold g_slices_Clone_bool_bool at h
  refine Sound.of_runs (fu := Try.f112) (c := C_88 1) (nt := 8) (by kernel_rfl) (by kernel_rfl) (by kernel_rfl) (by kernel_rfl) (fun hm => rfl) ?_
  intro E hE
  refine Runs.sA 1 [.code (C_88 2), .code (C_88 3)] ?_
  refine Runs.sR hE ⟨[(0, (encL cB false s))], [], 16⟩ (C_88 2) [] [] (kp [0]) [] 16 [] trivial ?_
  refine Runs.sA 2 [.code (C_88 12), .code (C_88 13), .code (C_88 7)] ?_
  refine Runs.sR hE ⟨[(0, (encL cB false s)), (4, (.bn s.length))], [], 48⟩ (C_88 12) [] [] (kp [0, 4]) [] 48 [] trivial ?_
  refine Runs.condBn (o := .tmp 4) (x := C_88 26) (y := C_88 27) (n := s.length) (by kernel_rfl) (by kernel_rfl) (fun hq2 => ?_) ?_
  · replace hq2 := List.length_eq_zero_iff.1 hq2
    replace h : (some ([] : List Bool)) = some r := by rw [hq2] at h; simpa using h
    refine Runs.sA 1 [.code (C_88 52), .code (C_88 53), .code (C_88 7)] ?_
    refine Runs.sR hE ⟨[(2, .nil)], [], 64⟩ (C_88 52) [] [] (kp [2]) [] 64 [] trivial ?_
    obtain rfl := Option.some.inj h
    refine Runs.sW hE ⟨[(2, (.os 0 0 (([] : List Bool).length)))], [(0, aO 1 cB false ([] : List Bool))], 64⟩ [] [(2, .nilos 0)] [(0, .nil 1 (fun zi => cB (([] : List Bool).getD zi false)))] 64 [] trivial ?_
    exact Runs.sT Try.f112 [] [] trivial
  · refine Runs.sA 2 [.code (C_88 14), .code (C_88 15)] ?_
    obtain ⟨c, h⟩ := ifSome h
    refine Runs.sR hE ⟨[(2, (.os 80 0 ((([] : List Bool) ++ s).length)))], [(80, aO 1 cB false (([] : List Bool) ++ s))], 112⟩ (C_88 14) [] [] [(2, .osl ((([] : List Bool) ++ s).length))] [(80, .arr 80 ((([] : List Bool) ++ s).length) (fun zi => cB ((([] : List Bool) ++ s).getD zi false)))] 112 [0 = 0, (0 + s.length) * 1 ≤ 140737488355328, ∀ zi, zi < s.length → AV.oneL ((fun zi => cB (s.getD zi false)) zi) = true, (0 + s.length) = (([] : List Bool) ++ s).length, 0 + s.length = (([] : List Bool) ++ s).length, ∀ zi, zi < (([] : List Bool) ++ s).length → (fun zi => cB ((([] : List Bool) ++ s).getD zi false)) zi = ((fun zm => if zm < 0 then (fun _ => []) zm else (fun zi => cB (s.getD zi false)) (zm - 0))) zi] ⟨rfl, c, (fun _ _ => rfl), (len_app_raw rfl rfl), (len_app_raw rfl rfl), (get_app_raw cB false ([] : List Bool) s rfl (fun zq hzq => absurd hzq (Nat.not_lt_zero _)) (fun _ _ => rfl)), trivial⟩ ?_
    obtain rfl := Option.some.inj h
    refine Runs.sW hE ⟨[(2, (.os 0 0 ((([] : List Bool) ++ s).length)))], [(0, aO 1 cB false (([] : List Bool) ++ s))], 112⟩ [] (kp [2]) [(0, .keep 80)] 112 [] trivial ?_
    exact Runs.sT Try.f112 [] [] trivial

noncomputable def C_86 (n : Nat) : Code := cat (bodyOf Try.f88) (pth n)

theorem g_water_clone_ok (N : Nat) (w : Tapi_Water) (r : Tapi_Water) (h : g_water_clone N w = some r) : Sound Try.prog 88 [(.agg (Tapi_Water.cells w))] [] 0 (.agg [(aI r.f_Minute), (.os 0 0 r.f_Litres.length), (.os 1 0 r.f_Open.length)]) [(0, aO 1 cI 0 r.f_Litres), (1, aO 1 cB false r.f_Open)] := by
  unfold g_water_clone at h
  refine Sound.of_runs (fu := Try.f88) (c := C_86 1) (nt := 12) (by kernel_rfl) (by kernel_rfl) (by kernel_rfl) (by kernel_rfl) (fun hm => rfl) ?_
  intro E hE
  refine Runs.sA 1 [.code (C_86 2), .code (C_86 3)] ?_
  refine Runs.sR hE ⟨[(1, (.op 0 0 0)), (2, (.op 16 0 0))], [(0, vO 3 (Tapi_Water.cells w)), (16, vO 3 [(aI 0), .nil, .nil])], 32⟩ (C_86 2) [] [] (kp [1, 2]) (kq [0, 16]) 32 [] trivial ?_
  refine Runs.sA 1 [.code (C_86 6), .code (C_86 7)] ?_
  obtain ⟨rClone, hr, h⟩ := bindSome h
  obtain ⟨rClone2, hr2, h⟩ := bindSome h
  refine Runs.sR hE ⟨[(2, (.op 16 0 0))], [(16, vN 3 [(aI w.f_Minute), (.os 96 0 rClone.length), (.os 144 0 rClone2.length)]), (96, aO 1 cI 0 rClone), (144, aO 1 cB false rClone2)], 192⟩ (C_86 6) [(4, ⟨[], false, (.os 0 0 rClone.length), [(0, aO 1 cI 0 rClone)], 0, false⟩), (7, ⟨[], false, (.os 0 0 rClone2.length), [(0, aO 1 cB false rClone2)], 0, false⟩)] [] (kp [2]) (kq [16, 96, 144]) 192 [0 < 1, 0 < 1, Sound Try.prog 111 [(encL cI 0 w.f_Litres)] [] 0 (.os 0 0 rClone.length) [(0, aO 1 cI 0 rClone)], 0 < 1, Sound Try.prog 112 [(encL cB false w.f_Open)] [] 0 (.os 0 0 rClone2.length) [(0, aO 1 cB false rClone2)], 0 < 1] ⟨o1, o1, (g_slices_Clone_int_int_ok N w.f_Litres rClone hr), o1, (g_slices_Clone_bool_bool_ok N w.f_Open rClone2 hr2), o1, trivial⟩ ?_
  obtain rfl := Option.some.inj h
  refine Runs.sW hE ⟨[(2, (.op 16 0 0))], [(0, aO 1 cI 0 rClone), (1, aO 1 cB false rClone2), (16, vN 3 [(aI w.f_Minute), (.os 0 0 rClone.length), (.os 1 0 rClone2.length)])], 192⟩ [] (kp [2]) [(0, .keep 96), (1, .keep 144), (16, .var 16 [.keep, .keep, .keep])] 192 [] trivial ?_
  exact Runs.sT Try.f88 [16] [0 < 1] ⟨o1, trivial⟩

noncomputable def C_89 (n : Nat) : Code := cat (bodyOf Try.f89) (pth n)

theorem g_water_step_J3_ok (N : Nat) (n : Tapi_Network) (cap0 : Int) (cap2 : List Bool) (out : List Int) (x : Int) (rflow : Int) (K_g_water_step_L1 : (List Int) → (List Int) → Int → Option ((List Int) × Tapi_Water × (List Int)))
    (hK_g_water_step_L1 : ∀ (cap02 : List Int) (out : List Int) (x : Int) (r : (List Int) × Tapi_Water × (List Int)), K_g_water_step_L1 cap02 out x = some r → ∀ E, EnvOk E 3 → Runs Try.prog E 89 70 (SPost E [(0, vN 3 [(aI r.2.1.f_Minute), (.os 1 0 r.2.2.length), (.os 2 0 cap2.length)]), (1, aO 1 cI 0 r.2.2), (2, aO 1 cB false cap2), (3, aO 1 cI 0 r.1)] (.os 3 0 r.1.length)) [.code (C_89 116), .inLoop (C_89 116), .inBlock 0, .code (C_89 15)] ⟨[(1, (.op 0 0 0)), (2, (.op 3 0 0)), (5, (.os 4 0 out.length)), (12, (encL Tapi_Link.cells Tapi_Link.d n.f_Links)), (13, (aI ((n.f_Links.length : Nat) : Int))), (14, (aI x))], [(0, vN 3 [(aI cap0), (.os 1 0 cap02.length), (.os 2 0 cap2.length)]), (1, aO 1 cI 0 cap02), (2, aO 1 cB false cap2), (3, vO 3 (Tapi_Network.cells n)), (4, aO 1 cI 0 out)], 5⟩) (cap04 : List Int) (r : (List Int) × Tapi_Water × (List Int)) (h : g_water_step_J3 N n cap0 cap2 out x rflow K_g_water_step_L1 cap04 = some r) : ∀ E, EnvOk E 3 → Runs Try.prog E 89 70 (SPost E [(0, vN 3 [(aI r.2.1.f_Minute), (.os 1 0 r.2.2.length), (.os 2 0 cap2.length)]), (1, aO 1 cI 0 r.2.2), (2, aO 1 cB false cap2), (3, aO 1 cI 0 r.1)] (.os 3 0 r.1.length)) [.code (C_89 29903), .inBlock 1, .code (C_89 935), .inLoop (C_89 116), .inBlock 0, .code (C_89 15)] ⟨[(1, (.op 0 0 0)), (2, (.op 3 0 0)), (5, (.os 4 0 out.length)), (8, (aI rflow)), (12, (encL Tapi_Link.cells Tapi_Link.d n.f_Links)), (13, (aI ((n.f_Links.length : Nat) : Int))), (14, (aI x))], [(0, vN 3 [(aI cap0), (.os 1 0 cap04.length), (.os 2 0 cap2.length)]), (1, aO 1 cI 0 cap04), (2, aO 1 cB false cap2), (3, vO 3 (Tapi_Network.cells n)), (4, aO 1 cI 0 out)], 5⟩ := by
  intro E hE
  unfold g_water_step_J3 at h
  obtain ⟨c4, h⟩ := ifSome h
  refine Runs.sR hE ⟨[(1, (.op 0 0 0)), (2, (.op 3 0 0)), (5, (.os 53 0 ((out ++ ([rflow] : List Int)).length))), (12, (encL Tapi_Link.cells Tapi_Link.d n.f_Links)), (13, (aI ((n.f_Links.length : Nat) : Int))), (14, (aI x))], [(0, vN 3 [(aI cap0), (.os 1 0 cap04.length), (.os 2 0 cap2.length)]), (1, aO 1 cI 0 cap04), (2, aO 1 cB false cap2), (3, vO 3 (Tapi_Network.cells n)), (53, aO 1 cI 0 (out ++ ([rflow] : List Int)))], 85⟩ (C_89 29903) [] [] (kp [1, 2] ++ [(5, .osl ((out ++ ([rflow] : List Int)).length))] ++ kp [12, 13, 14]) (kq [0, 1, 2, 3] ++ [(53, .arr 53 ((out ++ ([rflow] : List Int)).length) (fun zi => cI ((out ++ ([rflow] : List Int)).getD zi 0)))]) 85 [out.length = out.length, (out.length + 1) * 8 ≤ 140737488355328, 0 + 1 ≤ 1, ∀ zi, zi < 1 → AV.oneL ((fun zi => ([[(aI rflow)]] : List (List AV)).getD zi []) (addz 0 zi)) = true, (out.length + 1) = (out ++ ([rflow] : List Int)).length, out.length + 1 = (out ++ ([rflow] : List Int)).length, ∀ zi, zi < (out ++ ([rflow] : List Int)).length → (fun zi => cI ((out ++ ([rflow] : List Int)).getD zi 0)) zi = ((fun zm => if zm < out.length then (fun zi => cI (out.getD zi 0)) zm else (fun zi => ([[(aI rflow)]] : List (List AV)).getD zi []) (zm - out.length))) zi] ⟨rfl, c4, z0, (oneN rfl), (len_app_raw rfl rfl), (len_app_raw rfl rfl), (get_app_raw cI 0 out ([rflow] : List Int) rfl (fun _ _ => rfl) (fun zq hzq => get_chunk cI 0 ([rflow] : List Int) zq hzq)), trivial⟩ ?_
  refine Runs.sA 1 [.code (C_89 935), .inLoop (C_89 116), .inBlock 0, .code (C_89 15)] ?_
  refine Runs.sR hE ⟨[(1, (.op 0 0 0)), (2, (.op 3 0 0)), (5, (.os 53 0 ((out ++ ([rflow] : List Int)).length))), (12, (encL Tapi_Link.cells Tapi_Link.d n.f_Links)), (13, (aI ((n.f_Links.length : Nat) : Int))), (14, (aI (w64 (x + 1))))], [(0, vN 3 [(aI cap0), (.os 1 0 cap04.length), (.os 2 0 cap2.length)]), (1, aO 1 cI 0 cap04), (2, aO 1 cB false cap2), (3, vO 3 (Tapi_Network.cells n)), (53, aO 1 cI 0 (out ++ ([rflow] : List Int)))], 117⟩ (C_89 935) [] [] (kp [1, 2, 5, 12, 13, 14]) (kq [0, 1, 2, 3, 53]) 117 [] trivial ?_
  refine Runs.sA 1 [.code (C_89 116), .inLoop (C_89 116), .inBlock 0, .code (C_89 15)] ?_
  exact Runs.sW hE _ [] (kp [1, 2, 5, 12, 13, 14]) (kq [0, 1, 2, 3] ++ [(4, .keep 53)]) 5 [] trivial (hK_g_water_step_L1 cap04 (out ++ ([rflow] : List Int)) (w64 (x + 1)) _ h E hE)

theorem g_water_step_J2_ok (N : Nat) (n : Tapi_Network) (cap0 : Int) (cap2 : List Bool) (out : List Int) (x : Int) (rflow : Int) (K_g_water_step_L1 : (List Int) → (List Int) → Int → Option ((List Int) × Tapi_Water × (List Int)))
    (hK_g_water_step_L1 : ∀ (cap02 : List Int) (out : List Int) (x : Int) (r : (List Int) × Tapi_Water × (List Int)), K_g_water_step_L1 cap02 out x = some r → ∀ E, EnvOk E 3 → Runs Try.prog E 89 70 (SPost E [(0, vN 3 [(aI r.2.1.f_Minute), (.os 1 0 r.2.2.length), (.os 2 0 cap2.length)]), (1, aO 1 cI 0 r.2.2), (2, aO 1 cB false cap2), (3, aO 1 cI 0 r.1)] (.os 3 0 r.1.length)) [.code (C_89 116), .inLoop (C_89 116), .inBlock 0, .code (C_89 15)] ⟨[(1, (.op 0 0 0)), (2, (.op 3 0 0)), (5, (.os 4 0 out.length)), (12, (encL Tapi_Link.cells Tapi_Link.d n.f_Links)), (13, (aI ((n.f_Links.length : Nat) : Int))), (14, (aI x))], [(0, vN 3 [(aI cap0), (.os 1 0 cap02.length), (.os 2 0 cap2.length)]), (1, aO 1 cI 0 cap02), (2, aO 1 cB false cap2), (3, vO 3 (Tapi_Network.cells n)), (4, aO 1 cI 0 out)], 5⟩) (cap03 : List Int) (r : (List Int) × Tapi_Water × (List Int)) (h : g_water_step_J2 N n cap0 cap2 out x rflow K_g_water_step_L1 cap03 = some r) : ∀ E, EnvOk E 3 → Runs Try.prog E 89 70 (SPost E [(0, vN 3 [(aI r.2.1.f_Minute), (.os 1 0 r.2.2.length), (.os 2 0 cap2.length)]), (1, aO 1 cI 0 r.2.2), (2, aO 1 cB false cap2), (3, aO 1 cI 0 r.1)] (.os 3 0 r.1.length)) [.code (C_89 59804), .code (C_89 59805), .code (C_89 29903), .inBlock 1, .code (C_89 935), .inLoop (C_89 116), .inBlock 0, .code (C_89 15)] ⟨[(1, (.op 0 0 0)), (2, (.op 3 0 0)), (5, (.os 4 0 out.length)), (7, (.op 5 0 0)), (8, (aI rflow)), (12, (encL Tapi_Link.cells Tapi_Link.d n.f_Links)), (13, (aI ((n.f_Links.length : Nat) : Int))), (14, (aI x))], [(0, vN 3 [(aI cap0), (.os 1 0 cap03.length), (.os 2 0 cap2.length)]), (1, aO 1 cI 0 cap03), (2, aO 1 cB false cap2), (3, vO 3 (Tapi_Network.cells n)), (4, aO 1 cI 0 out), (5, vO 8 (Tapi_Link.cells (n.f_Links.getD ((x).toNat) Tapi_Link.d)))], 6⟩ := by
  intro E hE
  unfold g_water_step_J2 at h
  obtain ⟨rbasinOf2, hr3, h⟩ := bindSome h
  refine Runs.sR hE ⟨[(1, (.op 0 0 0)), (2, (.op 3 0 0)), (5, (.os 4 0 out.length)), (8, (aI rflow)), (10, (aI rbasinOf2)), (12, (encL Tapi_Link.cells Tapi_Link.d n.f_Links)), (13, (aI ((n.f_Links.length : Nat) : Int))), (14, (aI x))], [(0, vN 3 [(aI cap0), (.os 1 0 cap03.length), (.os 2 0 cap2.length)]), (1, aO 1 cI 0 cap03), (2, aO 1 cB false cap2), (3, vO 3 (Tapi_Network.cells n)), (4, aO 1 cI 0 out)], 86⟩ (C_89 59804) [(3, ⟨[], true, (aI rbasinOf2), [], 0, false⟩)] [] (kp [1, 2, 5, 8, 10, 12, 13, 14]) (kq [0, 1, 2, 3, 4]) 86 [0 < 1, 0 < 1, Sound Try.prog 94 [(.agg (Tapi_Network.cells n)), (aS ((n.f_Links.getD ((x).toNat) Tapi_Link.d).f_To))] [] 0 (aI rbasinOf2) []] ⟨o1, o1, (g_water_basinOf_ok N n ((n.f_Links.getD ((x).toNat) Tapi_Link.d).f_To) rbasinOf2 hr3), trivial⟩ ?_
  refine Runs.sA 1 [.code (C_89 119610), .code (C_89 119611), .code (C_89 29903), .inBlock 1, .code (C_89 935), .inLoop (C_89 116), .inBlock 0, .code (C_89 15)] ?_
  refine Runs.sR hE ⟨[(1, (.op 0 0 0)), (2, (.op 3 0 0)), (5, (.os 4 0 out.length)), (8, (aI rflow)), (10, (aI rbasinOf2)), (12, (encL Tapi_Link.cells Tapi_Link.d n.f_Links)), (13, (aI ((n.f_Links.length : Nat) : Int))), (14, (aI x)), (46, (aB (decide (rbasinOf2 ≥ 0))))], [(0, vN 3 [(aI cap0), (.os 1 0 cap03.length), (.os 2 0 cap2.length)]), (1, aO 1 cI 0 cap03), (2, aO 1 cB false cap2), (3, vO 3 (Tapi_Network.cells n)), (4, aO 1 cI 0 out)], 118⟩ (C_89 119610) [] [] (kp [1, 2, 5, 8, 10, 12, 13, 14, 46]) (kq [0, 1, 2, 3, 4]) 118 [] trivial ?_
  refine Runs.sC 46 (C_89 239222) (C_89 239223) (decide (rbasinOf2 ≥ 0)) (fun hq4 => ?_) (fun hq4 => ?_)
  · have h := condT h hq4
    obtain ⟨c3, h⟩ := ifSome h
    refine Runs.sR hE ⟨[(1, (.op 0 0 0)), (2, (.op 3 0 0)), (5, (.os 4 0 out.length)), (8, (aI rflow)), (12, (encL Tapi_Link.cells Tapi_Link.d n.f_Links)), (13, (aI ((n.f_Links.length : Nat) : Int))), (14, (aI x))], [(0, vN 3 [(aI cap0), (.os 1 0 ((cap03.set ((rbasinOf2).toNat) (w64 ((cap03.getD ((rbasinOf2).toNat) 0) + rflow))).length)), (.os 2 0 cap2.length)]), (1, aO 1 cI 0 (cap03.set ((rbasinOf2).toNat) (w64 ((cap03.getD ((rbasinOf2).toNat) 0) + rflow)))), (2, aO 1 cB false cap2), (3, vO 3 (Tapi_Network.cells n)), (4, aO 1 cI 0 out)], 294⟩ (C_89 239222) [] [] (kp [1, 2, 5, 8, 12, 13, 14]) ([(0, .var 0 [.keep, .osl ((cap03.set ((rbasinOf2).toNat) (w64 ((cap03.getD ((rbasinOf2).toNat) 0) + rflow))).length), .keep]), (1, .arr 1 ((cap03.set ((rbasinOf2).toNat) (w64 ((cap03.getD ((rbasinOf2).toNat) 0) + rflow))).length) (fun zi => cI ((cap03.set ((rbasinOf2).toNat) (w64 ((cap03.getD ((rbasinOf2).toNat) 0) + rflow))).getD zi 0)))] ++ kq [2, 3, 4]) 294 [0 < 1, 0 ≤ rbasinOf2 ∧ rbasinOf2 < ((cap03.length : Nat) : Int), (rbasinOf2).toNat < cap03.length, 0 ≤ rbasinOf2 ∧ rbasinOf2 < ((cap03.length : Nat) : Int), (rbasinOf2).toNat < cap03.length, cap03.length = (cap03.set ((rbasinOf2).toNat) (w64 ((cap03.getD ((rbasinOf2).toNat) 0) + rflow))).length, cap03.length = (cap03.set ((rbasinOf2).toNat) (w64 ((cap03.getD ((rbasinOf2).toNat) 0) + rflow))).length, ∀ zi, zi < (cap03.set ((rbasinOf2).toNat) (w64 ((cap03.getD ((rbasinOf2).toNat) 0) + rflow))).length → (fun zi => cI ((cap03.set ((rbasinOf2).toNat) (w64 ((cap03.getD ((rbasinOf2).toNat) 0) + rflow))).getD zi 0)) zi = ((fun zm => if zm = (rbasinOf2).toNat then [(aI (w64 ((cap03.getD ((rbasinOf2).toNat) 0) + rflow)))] else (fun zi => cI (cap03.getD zi 0)) zm)) zi] ⟨o1, c3, (ltOf c3), c3, (ltOf c3), (len_set_raw rfl), (len_set_raw rfl), (get_set_raw cI 0 cap03 ((rbasinOf2).toNat) (w64 ((cap03.getD ((rbasinOf2).toNat) 0) + rflow)) (fun _ _ => rfl)), trivial⟩ ?_
    exact Runs.sW hE _ [] (kp [1, 2, 5, 8, 12, 13, 14]) (kq [0, 1, 2, 3, 4]) 5 [] trivial (g_water_step_J3_ok N n cap0 cap2 out x rflow K_g_water_step_L1 hK_g_water_step_L1 (cap03.set ((rbasinOf2).toNat) (w64 ((cap03.getD ((rbasinOf2).toNat) 0) + rflow))) _ h E hE)
  · have h := condF h hq4
    refine Runs.sA 1 [.code (C_89 29903), .inBlock 1, .code (C_89 935), .inLoop (C_89 116), .inBlock 0, .code (C_89 15)] ?_
    exact Runs.sW hE _ [] (kp [1, 2, 5, 8, 12, 13, 14]) (kq [0, 1, 2, 3, 4]) 5 [] trivial (g_water_step_J3_ok N n cap0 cap2 out x rflow K_g_water_step_L1 hK_g_water_step_L1 cap03 _ h E hE)

theorem g_water_step_L1_ok (N : Nat) (n : Tapi_Network) (cap0 : Int) (cap2 : List Bool) (fuel : Nat) : ∀ (cap02 : List Int) (out : List Int) (x : Int) (r : (List Int) × Tapi_Water × (List Int)), g_water_step_L1 N n cap0 cap2 fuel cap02 out x = some r → ∀ E, EnvOk E 3 → Runs Try.prog E 89 70 (SPost E [(0, vN 3 [(aI r.2.1.f_Minute), (.os 1 0 r.2.2.length), (.os 2 0 cap2.length)]), (1, aO 1 cI 0 r.2.2), (2, aO 1 cB false cap2), (3, aO 1 cI 0 r.1)] (.os 3 0 r.1.length)) [.code (C_89 116), .inLoop (C_89 116), .inBlock 0, .code (C_89 15)] ⟨[(1, (.op 0 0 0)), (2, (.op 3 0 0)), (5, (.os 4 0 out.length)), (12, (encL Tapi_Link.cells Tapi_Link.d n.f_Links)), (13, (aI ((n.f_Links.length : Nat) : Int))), (14, (aI x))], [(0, vN 3 [(aI cap0), (.os 1 0 cap02.length), (.os 2 0 cap2.length)]), (1, aO 1 cI 0 cap02), (2, aO 1 cB false cap2), (3, vO 3 (Tapi_Network.cells n)), (4, aO 1 cI 0 out)], 5⟩ := by
  induction fuel with
  | zero => intro _ _ _ r h; rw [g_water_step_L1.eq_1] at h; cases h
  | succ fuel ih =>
    intro cap02 out x r h E hE
    rw [g_water_step_L1.eq_2] at h
    refine Runs.sA 1 [.code (C_89 232), .code (C_89 233), .inLoop (C_89 116), .inBlock 0, .code (C_89 15)] ?_
    refine Runs.sR hE ⟨[(1, (.op 0 0 0)), (2, (.op 3 0 0)), (5, (.os 4 0 out.length)), (12, (encL Tapi_Link.cells Tapi_Link.d n.f_Links)), (13, (aI ((n.f_Links.length : Nat) : Int))), (14, (aI x)), (15, (aB (decide (x < ((n.f_Links.length : Nat) : Int)))))], [(0, vN 3 [(aI cap0), (.os 1 0 cap02.length), (.os 2 0 cap2.length)]), (1, aO 1 cI 0 cap02), (2, aO 1 cB false cap2), (3, vO 3 (Tapi_Network.cells n)), (4, aO 1 cI 0 out)], 21⟩ (C_89 232) [] [] (kp [1, 2, 5, 12, 13, 14, 15]) (kq [0, 1, 2, 3, 4]) 21 [] trivial ?_
    refine Runs.sA 1 [.code (C_89 466), .code (C_89 467), .inLoop (C_89 116), .inBlock 0, .code (C_89 15)] ?_
    refine Runs.sC 15 (C_89 932) (C_89 933) (decide (x < ((n.f_Links.length : Nat) : Int))) (fun hq2 => ?_) (fun hq2 => ?_)
    · have h := condT h hq2
      refine Runs.sA 4 [.code (C_89 3736), .code (C_89 3737), .inBlock 1, .code (C_89 935), .inLoop (C_89 116), .inBlock 0, .code (C_89 15)] ?_
      obtain ⟨c, h⟩ := ifSome h
      refine Runs.sR hE ⟨[(1, (.op 0 0 0)), (2, (.op 3 0 0)), (5, (.os 4 0 out.length)), (6, (aI x)), (7, (.op 69 0 0)), (12, (encL Tapi_Link.cells Tapi_Link.d n.f_Links)), (13, (aI ((n.f_Links.length : Nat) : Int))), (14, (aI x))], [(0, vN 3 [(aI cap0), (.os 1 0 cap02.length), (.os 2 0 cap2.length)]), (1, aO 1 cI 0 cap02), (2, aO 1 cB false cap2), (3, vO 3 (Tapi_Network.cells n)), (4, aO 1 cI 0 out), (69, vO 8 (Tapi_Link.cells (n.f_Links.getD ((x).toNat) Tapi_Link.d)))], 117⟩ (C_89 3736) [] [] (kp [1, 2, 5, 6, 7, 12, 13, 14]) (kq [0, 1, 2, 3, 4, 69]) 117 [0 ≤ x ∧ x < ((n.f_Links.length : Nat) : Int), 0 < 1] ⟨c, o1, trivial⟩ ?_
      refine Runs.sA 1 [.code (C_89 7474), .code (C_89 7475), .inBlock 1, .code (C_89 935), .inLoop (C_89 116), .inBlock 0, .code (C_89 15)] ?_
      obtain ⟨rflow, hr, h⟩ := bindSome h
      refine Runs.sR hE ⟨[(1, (.op 0 0 0)), (2, (.op 3 0 0)), (5, (.os 4 0 out.length)), (7, (.op 69 0 0)), (8, (aI rflow)), (12, (encL Tapi_Link.cells Tapi_Link.d n.f_Links)), (13, (aI ((n.f_Links.length : Nat) : Int))), (14, (aI x))], [(0, vN 3 [(aI cap0), (.os 1 0 cap02.length), (.os 2 0 cap2.length)]), (1, aO 1 cI 0 cap02), (2, aO 1 cB false cap2), (3, vO 3 (Tapi_Network.cells n)), (4, aO 1 cI 0 out), (69, vO 8 (Tapi_Link.cells (n.f_Links.getD ((x).toNat) Tapi_Link.d)))], 229⟩ (C_89 7474) [(5, ⟨[], true, (aI rflow), [], 0, false⟩)] [] (kp [1, 2, 5, 7, 8, 12, 13, 14]) (kq [0, 1, 2, 3, 4, 69]) 229 [0 < 1, 0 < 1, Sound Try.prog 83 [(.agg (Tapi_Network.cells n)), (.agg [(aI cap0), (encL cI 0 cap02), (encL cB false cap2)]), (aI x)] [] 0 (aI rflow) [], 0 + cap02.length ≤ cap02.length, 0 + cap2.length ≤ cap2.length] ⟨o1, o1, (g_water_flow_ok N n (⟨cap0, cap02, cap2⟩ : Tapi_Water) x rflow hr), z0, z0, trivial⟩ ?_
      refine Runs.sA 2 [.code (C_89 29900), .code (C_89 29901), .code (C_89 14951), .inBlock 1, .code (C_89 935), .inLoop (C_89 116), .inBlock 0, .code (C_89 15)] ?_
      obtain ⟨rbasinOf, hr2, h⟩ := bindSome h
      refine Runs.sR hE ⟨[(1, (.op 0 0 0)), (2, (.op 3 0 0)), (5, (.os 4 0 out.length)), (7, (.op 69 0 0)), (8, (aI rflow)), (9, (aI rbasinOf)), (12, (encL Tapi_Link.cells Tapi_Link.d n.f_Links)), (13, (aI ((n.f_Links.length : Nat) : Int))), (14, (aI x))], [(0, vN 3 [(aI cap0), (.os 1 0 cap02.length), (.os 2 0 cap2.length)]), (1, aO 1 cI 0 cap02), (2, aO 1 cB false cap2), (3, vO 3 (Tapi_Network.cells n)), (4, aO 1 cI 0 out), (69, vO 8 (Tapi_Link.cells (n.f_Links.getD ((x).toNat) Tapi_Link.d)))], 309⟩ (C_89 29900) [(3, ⟨[], true, (aI rbasinOf), [], 0, false⟩)] [] (kp [1, 2, 5, 7, 8, 9, 12, 13, 14]) (kq [0, 1, 2, 3, 4, 69]) 309 [0 < 1, 0 < 1, Sound Try.prog 94 [(.agg (Tapi_Network.cells n)), (aS ((n.f_Links.getD ((x).toNat) Tapi_Link.d).f_From))] [] 0 (aI rbasinOf) []] ⟨o1, o1, (g_water_basinOf_ok N n ((n.f_Links.getD ((x).toNat) Tapi_Link.d).f_From) rbasinOf hr2), trivial⟩ ?_
      refine Runs.sA 1 [.code (C_89 59802), .code (C_89 59803), .code (C_89 14951), .inBlock 1, .code (C_89 935), .inLoop (C_89 116), .inBlock 0, .code (C_89 15)] ?_
      refine Runs.sR hE ⟨[(1, (.op 0 0 0)), (2, (.op 3 0 0)), (5, (.os 4 0 out.length)), (7, (.op 69 0 0)), (8, (aI rflow)), (9, (aI rbasinOf)), (12, (encL Tapi_Link.cells Tapi_Link.d n.f_Links)), (13, (aI ((n.f_Links.length : Nat) : Int))), (14, (aI x)), (30, (aB (decide (rbasinOf ≥ 0))))], [(0, vN 3 [(aI cap0), (.os 1 0 cap02.length), (.os 2 0 cap2.length)]), (1, aO 1 cI 0 cap02), (2, aO 1 cB false cap2), (3, vO 3 (Tapi_Network.cells n)), (4, aO 1 cI 0 out), (69, vO 8 (Tapi_Link.cells (n.f_Links.getD ((x).toNat) Tapi_Link.d)))], 341⟩ (C_89 59802) [] [] (kp [1, 2, 5, 7, 8, 9, 12, 13, 14, 30]) (kq [0, 1, 2, 3, 4, 69]) 341 [] trivial ?_
      refine Runs.sC 30 (C_89 119606) (C_89 119607) (decide (rbasinOf ≥ 0)) (fun hq3 => ?_) (fun hq3 => ?_)
      · have h := condT h hq3
        obtain ⟨c2, h⟩ := ifSome h
        refine Runs.sR hE ⟨[(1, (.op 0 0 0)), (2, (.op 3 0 0)), (5, (.os 4 0 out.length)), (7, (.op 69 0 0)), (8, (aI rflow)), (12, (encL Tapi_Link.cells Tapi_Link.d n.f_Links)), (13, (aI ((n.f_Links.length : Nat) : Int))), (14, (aI x))], [(0, vN 3 [(aI cap0), (.os 1 0 ((cap02.set ((rbasinOf).toNat) (w64 ((cap02.getD ((rbasinOf).toNat) 0) - rflow))).length)), (.os 2 0 cap2.length)]), (1, aO 1 cI 0 (cap02.set ((rbasinOf).toNat) (w64 ((cap02.getD ((rbasinOf).toNat) 0) - rflow)))), (2, aO 1 cB false cap2), (3, vO 3 (Tapi_Network.cells n)), (4, aO 1 cI 0 out), (69, vO 8 (Tapi_Link.cells (n.f_Links.getD ((x).toNat) Tapi_Link.d)))], 517⟩ (C_89 119606) [] [] (kp [1, 2, 5, 7, 8, 12, 13, 14]) ([(0, .var 0 [.keep, .osl ((cap02.set ((rbasinOf).toNat) (w64 ((cap02.getD ((rbasinOf).toNat) 0) - rflow))).length), .keep]), (1, .arr 1 ((cap02.set ((rbasinOf).toNat) (w64 ((cap02.getD ((rbasinOf).toNat) 0) - rflow))).length) (fun zi => cI ((cap02.set ((rbasinOf).toNat) (w64 ((cap02.getD ((rbasinOf).toNat) 0) - rflow))).getD zi 0)))] ++ kq [2, 3, 4, 69]) 517 [0 < 1, 0 ≤ rbasinOf ∧ rbasinOf < ((cap02.length : Nat) : Int), (rbasinOf).toNat < cap02.length, 0 ≤ rbasinOf ∧ rbasinOf < ((cap02.length : Nat) : Int), (rbasinOf).toNat < cap02.length, cap02.length = (cap02.set ((rbasinOf).toNat) (w64 ((cap02.getD ((rbasinOf).toNat) 0) - rflow))).length, cap02.length = (cap02.set ((rbasinOf).toNat) (w64 ((cap02.getD ((rbasinOf).toNat) 0) - rflow))).length, ∀ zi, zi < (cap02.set ((rbasinOf).toNat) (w64 ((cap02.getD ((rbasinOf).toNat) 0) - rflow))).length → (fun zi => cI ((cap02.set ((rbasinOf).toNat) (w64 ((cap02.getD ((rbasinOf).toNat) 0) - rflow))).getD zi 0)) zi = ((fun zm => if zm = (rbasinOf).toNat then [(aI (w64 ((cap02.getD ((rbasinOf).toNat) 0) - rflow)))] else (fun zi => cI (cap02.getD zi 0)) zm)) zi] ⟨o1, c2, (ltOf c2), c2, (ltOf c2), (len_set_raw rfl), (len_set_raw rfl), (get_set_raw cI 0 cap02 ((rbasinOf).toNat) (w64 ((cap02.getD ((rbasinOf).toNat) 0) - rflow)) (fun _ _ => rfl)), trivial⟩ ?_
        refine Runs.sA 2 [.code (C_89 59804), .code (C_89 59805), .code (C_89 29903), .inBlock 1, .code (C_89 935), .inLoop (C_89 116), .inBlock 0, .code (C_89 15)] ?_
        exact Runs.sW hE _ [] (kp [1, 2, 5, 7, 8, 12, 13, 14]) (kq [0, 1, 2, 3, 4] ++ [(5, .keep 69)]) 6 [] trivial (g_water_step_J2_ok N n cap0 cap2 out x rflow (g_water_step_L1 N n cap0 cap2 fuel) ih (cap02.set ((rbasinOf).toNat) (w64 ((cap02.getD ((rbasinOf).toNat) 0) - rflow))) _ h E hE)
      · have h := condF h hq3
        refine Runs.sA 3 [.code (C_89 59804), .code (C_89 59805), .code (C_89 29903), .inBlock 1, .code (C_89 935), .inLoop (C_89 116), .inBlock 0, .code (C_89 15)] ?_
        exact Runs.sW hE _ [] (kp [1, 2, 5, 7, 8, 12, 13, 14]) (kq [0, 1, 2, 3, 4] ++ [(5, .keep 69)]) 6 [] trivial (g_water_step_J2_ok N n cap0 cap2 out x rflow (g_water_step_L1 N n cap0 cap2 fuel) ih cap02 _ h E hE)
    · have h := condF h hq2
      refine Runs.sA 2 [.code (C_89 30), .code (C_89 31)] ?_
      refine Runs.sR hE ⟨[(5, (.os 4 0 out.length))], [(0, vN 3 [(aI (w64 (cap0 + 1))), (.os 1 0 cap02.length), (.os 2 0 cap2.length)]), (1, aO 1 cI 0 cap02), (2, aO 1 cB false cap2), (4, aO 1 cI 0 out)], 149⟩ (C_89 30) [] [] (kp [5]) (kq [0, 1, 2, 4]) 149 [0 < 1, 0 < 1] ⟨o1, o1, trivial⟩ ?_
      refine Runs.sA 1 [.code (C_89 62), .code (C_89 63)] ?_
      refine Runs.sR hE ⟨[(4, (.os 4 0 out.length))], [(0, vN 3 [(aI (w64 (cap0 + 1))), (.os 1 0 cap02.length), (.os 2 0 cap2.length)]), (1, aO 1 cI 0 cap02), (2, aO 1 cB false cap2), (4, aO 1 cI 0 out)], 181⟩ (C_89 62) [] [] (kp [4]) (kq [0, 1, 2, 4]) 181 [] trivial ?_
      obtain rfl := Option.some.inj h
      refine Runs.sW hE ⟨[(4, (.os 3 0 out.length))], [(0, vN 3 [(aI (w64 (cap0 + 1))), (.os 1 0 cap02.length), (.os 2 0 cap2.length)]), (1, aO 1 cI 0 cap02), (2, aO 1 cB false cap2), (3, aO 1 cI 0 out)], 181⟩ [] (kp [4]) (kq [0, 1, 2] ++ [(3, .keep 4)]) 181 [] trivial ?_
      exact Runs.sT Try.f89 [] [] trivial

theorem g_water_step_ok (N : Nat) (n : Tapi_Network) (cap0 : Int) (cap1 : List Int) (cap2 : List Bool) (r : (List Int) × Tapi_Water × (List Int)) (h : g_water_step N n cap0 cap1 cap2 = some r) : Sound Try.prog 89 [(.agg (Tapi_Network.cells n)), (.op 0 0 0)] [(0, vN 3 [(aI cap0), (.os 1 0 cap1.length), (.os 2 0 cap2.length)]), (1, aO 1 cI 0 cap1), (2, aO 1 cB false cap2)] 3 (.os 3 0 r.1.length) [(0, vN 3 [(aI r.2.1.f_Minute), (.os 1 0 r.2.2.length), (.os 2 0 cap2.length)]), (1, aO 1 cI 0 r.2.2), (2, aO 1 cB false cap2), (3, aO 1 cI 0 r.1)] := by
  unfold g_water_step at h
  refine Sound.of_runs (fu := Try.f89) (c := C_89 1) (nt := 70) (by kernel_rfl) (by kernel_rfl) (by kernel_rfl) (by kernel_rfl) (fun hm => absurd hm (by decide)) ?_
  intro E hE
  refine Runs.sA 1 [.code (C_89 2), .code (C_89 3)] ?_
  refine Runs.sR hE ⟨[(1, (.op 0 0 0)), (2, (.op 3 0 0))], [(0, vN 3 [(aI cap0), (.os 1 0 cap1.length), (.os 2 0 cap2.length)]), (1, aO 1 cI 0 cap1), (2, aO 1 cB false cap2), (3, vO 3 (Tapi_Network.cells n))], 35⟩ (C_89 2) [] [] (kp [1, 2]) (kq [0, 1, 2, 3]) 35 [] trivial ?_
  refine Runs.sA 1 [.code (C_89 6), .code (C_89 7)] ?_
  refine Runs.sR hE ⟨[(1, (.op 0 0 0)), (2, (.op 3 0 0)), (5, .nil)], [(0, vN 3 [(aI cap0), (.os 1 0 cap1.length), (.os 2 0 cap2.length)]), (1, aO 1 cI 0 cap1), (2, aO 1 cB false cap2), (3, vO 3 (Tapi_Network.cells n))], 51⟩ (C_89 6) [] [] (kp [1, 2, 5]) (kq [0, 1, 2, 3]) 51 [] trivial ?_
  refine Runs.sA 2 [.code (C_89 28), .code (C_89 29), .code (C_89 15)] ?_
  refine Runs.sR hE ⟨[(1, (.op 0 0 0)), (2, (.op 3 0 0)), (5, .nil), (12, (encL Tapi_Link.cells Tapi_Link.d n.f_Links)), (13, (aI ((n.f_Links.length : Nat) : Int))), (14, (aI 0))], [(0, vN 3 [(aI cap0), (.os 1 0 cap1.length), (.os 2 0 cap2.length)]), (1, aO 1 cI 0 cap1), (2, aO 1 cB false cap2), (3, vO 3 (Tapi_Network.cells n))], 115⟩ (C_89 28) [] [] (kp [1, 2, 5, 12, 13, 14]) (kq [0, 1, 2, 3]) 115 [0 < 1] ⟨o1, trivial⟩ ?_
  refine Runs.sA 2 [.code (C_89 116), .inLoop (C_89 116), .inBlock 0, .code (C_89 15)] ?_
  exact Runs.sW hE _ [] (kp [1, 2] ++ [(5, .nilos 4)] ++ kp [12, 13, 14]) (kq [0, 1, 2, 3] ++ [(4, .nil 1 (fun zi => cI (([] : List Int).getD zi 0)))]) 5 [] trivial (g_water_step_L1_ok N n cap0 cap2 N cap1 ([] : List Int) 0 _ h E hE)

noncomputable def C_85 (n : Nat) : Code := cat (bodyOf Try.f40) (pth n)

theorem g_water_Step_ok (N : Nat) (n : Tapi_Network) (w : Tapi_Water) (r : Tapi_Water × (List Int) × Int) (h : g_water_Step N n w = some r) : Sound Try.prog 40 [(.agg (Tapi_Network.cells n)), (.agg (Tapi_Water.cells w))] [] 0 (.tup [(.agg [(aI r.1.f_Minute), (.os 0 0 r.1.f_Litres.length), (.os 1 0 r.1.f_Open.length)]), (.os 2 0 r.2.1.length), (aI r.2.2)]) [(0, aO 1 cI 0 r.1.f_Litres), (1, aO 1 cB false r.1.f_Open), (2, aO 1 cI 0 r.2.1)] := by
  unfold g_water_Step at h
  refine Sound.of_runs (fu := Try.f40) (c := C_85 1) (nt := 27) (by kernel_rfl) (by kernel_rfl) (by kernel_rfl) (by kernel_rfl) (fun hm => rfl) ?_
  intro E hE
  refine Runs.sA 1 [.code (C_85 2), .code (C_85 3)] ?_
  refine Runs.sR hE ⟨[(2, (.op 0 0 0)), (3, (.op 16 0 0)), (4, (.op 32 0 0))], [(0, vO 3 (Tapi_Network.cells n)), (16, vO 3 (Tapi_Water.cells w)), (32, vO 3 [(aI 0), .nil, .nil])], 80⟩ (C_85 2) [] [] (kp [2, 3, 4]) (kq [0, 16, 32]) 80 [] trivial ?_
  refine Runs.sA 2 [.code (C_85 12), .code (C_85 13), .code (C_85 7)] ?_
  obtain ⟨rcheckState, hr, h⟩ := bindSome h
  refine Runs.sR hE ⟨[(2, (.op 0 0 0)), (3, (.op 16 0 0)), (4, (.op 32 0 0)), (7, (aI rcheckState))], [(0, vO 3 (Tapi_Network.cells n)), (16, vO 3 (Tapi_Water.cells w)), (32, vO 3 [(aI 0), .nil, .nil])], 144⟩ (C_85 12) [(2, ⟨[], true, (aI rcheckState), [], 0, false⟩)] [] (kp [2, 3, 4, 7]) (kq [0, 16, 32]) 144 [0 < 1, 0 < 1, Sound Try.prog 81 [(.agg (Tapi_Network.cells n)), (.agg (Tapi_Water.cells w))] [] 0 (aI rcheckState) []] ⟨o1, o1, (g_water_checkState_ok N n w rcheckState hr), trivial⟩ ?_
  refine Runs.sA 1 [.code (C_85 26), .code (C_85 27), .code (C_85 7)] ?_
  refine Runs.sR hE ⟨[(2, (.op 0 0 0)), (3, (.op 16 0 0)), (4, (.op 32 0 0)), (7, (aI rcheckState)), (14, (aB (rcheckState != 0)))], [(0, vO 3 (Tapi_Network.cells n)), (16, vO 3 (Tapi_Water.cells w)), (32, vO 3 [(aI 0), .nil, .nil])], 176⟩ (C_85 26) [] [] (kp [2, 3, 4, 7, 14]) (kq [0, 16, 32]) 176 [] trivial ?_
  refine Runs.sC 14 (C_85 54) (C_85 55) (rcheckState != 0) (fun hq2 => ?_) (fun hq2 => ?_)
  · have h := condT h hq2
    refine Runs.sA 1 [.code (C_85 108), .code (C_85 109), .code (C_85 7)] ?_
    refine Runs.sR hE ⟨[(4, (.op 32 0 0)), (5, .nil), (6, (aI rcheckState))], [(32, vO 3 [(aI 0), .nil, .nil])], 256⟩ (C_85 108) [] [] (kp [4, 5, 6]) (kq [32]) 256 [0 < 1] ⟨o1, trivial⟩ ?_
    obtain rfl := Option.some.inj h
    refine Runs.sW hE ⟨[(4, (.op 16 0 0)), (5, (.os 2 0 (([] : List Int).length))), (6, (aI rcheckState))], [(0, aO 1 cI 0 ([] : List Int)), (1, aO 1 cB false ([] : List Bool)), (2, aO 1 cI 0 ([] : List Int)), (16, vN 3 [(aI 0), (.os 0 0 (([] : List Int).length)), (.os 1 0 (([] : List Bool).length))])], 256⟩ [] (kp [4] ++ [(5, .nilos 2)] ++ kp [6]) [(0, .nil 1 (fun zi => cI (([] : List Int).getD zi 0))), (1, .nil 1 (fun zi => cB (([] : List Bool).getD zi false))), (2, .nil 1 (fun zi => cI (([] : List Int).getD zi 0))), (16, .var 32 [.keep, .nilos 0, .nilos 1])] 256 [] trivial ?_
    exact Runs.sT Try.f40 [16] [0 < 1] ⟨o1, trivial⟩
  · have h := condF h hq2
    refine Runs.sA 3 [.code (C_85 28), .code (C_85 29), .code (C_85 15)] ?_
    refine Runs.sR hE ⟨[(2, (.op 0 0 0)), (3, (.op 16 0 0)), (4, (.op 32 0 0)), (19, (aB (w.f_Minute == 1000000)))], [(0, vO 3 (Tapi_Network.cells n)), (16, vO 3 (Tapi_Water.cells w)), (32, vO 3 [(aI 0), .nil, .nil])], 224⟩ (C_85 28) [] [] (kp [2, 3, 4, 19]) (kq [0, 16, 32]) 224 [0 < 1] ⟨o1, trivial⟩ ?_
    refine Runs.sC 19 (C_85 58) (C_85 59) (w.f_Minute == 1000000) (fun hq3 => ?_) (fun hq3 => ?_)
    · have h := condT h hq3
      refine Runs.sA 1 [.code (C_85 116), .code (C_85 117), .code (C_85 15)] ?_
      refine Runs.sR hE ⟨[(4, (.op 32 0 0)), (5, .nil), (6, (aI 2))], [(32, vO 3 [(aI 0), .nil, .nil])], 288⟩ (C_85 116) [] [] (kp [4, 5, 6]) (kq [32]) 288 [0 < 1] ⟨o1, trivial⟩ ?_
      obtain rfl := Option.some.inj h
      refine Runs.sW hE ⟨[(4, (.op 16 0 0)), (5, (.os 2 0 (([] : List Int).length))), (6, (aI 2))], [(0, aO 1 cI 0 ([] : List Int)), (1, aO 1 cB false ([] : List Bool)), (2, aO 1 cI 0 ([] : List Int)), (16, vN 3 [(aI 0), (.os 0 0 (([] : List Int).length)), (.os 1 0 (([] : List Bool).length))])], 288⟩ [] (kp [4] ++ [(5, .nilos 2)] ++ kp [6]) [(0, .nil 1 (fun zi => cI (([] : List Int).getD zi 0))), (1, .nil 1 (fun zi => cB (([] : List Bool).getD zi false))), (2, .nil 1 (fun zi => cI (([] : List Int).getD zi 0))), (16, .var 32 [.keep, .nilos 0, .nilos 1])] 288 [] trivial ?_
      exact Runs.sT Try.f40 [16] [0 < 1] ⟨o1, trivial⟩
    · have h := condF h hq3
      refine Runs.sA 2 [.code (C_85 30), .code (C_85 31)] ?_
      obtain ⟨rclone, hr2, h⟩ := bindSome h
      refine Runs.sR hE ⟨[(2, (.op 0 0 0)), (4, (.op 32 0 0)), (8, (.op 256 0 0))], [(0, vO 3 (Tapi_Network.cells n)), (32, vO 3 [(aI 0), .nil, .nil]), (240, aO 1 cI 0 rclone.f_Litres), (241, aO 1 cB false rclone.f_Open), (256, vN 3 [(aI rclone.f_Minute), (.os 240 0 rclone.f_Litres.length), (.os 241 0 rclone.f_Open.length)])], 288⟩ (C_85 30) [(1, ⟨[], false, (.agg [(aI rclone.f_Minute), (.os 0 0 rclone.f_Litres.length), (.os 1 0 rclone.f_Open.length)]), [(0, aO 1 cI 0 rclone.f_Litres), (1, aO 1 cB false rclone.f_Open)], 0, false⟩)] [] (kp [2, 4, 8]) (kq [0, 32, 240, 241, 256]) 288 [0 < 1, Sound Try.prog 88 [(.agg (Tapi_Water.cells w))] [] 0 (.agg [(aI rclone.f_Minute), (.os 0 0 rclone.f_Litres.length), (.os 1 0 rclone.f_Open.length)]) [(0, aO 1 cI 0 rclone.f_Litres), (1, aO 1 cB false rclone.f_Open)], 0 < 1] ⟨o1, (g_water_clone_ok N w rclone hr2), o1, trivial⟩ ?_
      refine Runs.sA 1 [.code (C_85 62), .code (C_85 63)] ?_
      obtain ⟨rstep, hr3, h⟩ := bindSome h
      obtain ⟨c, h⟩ := ifSome h
      refine Runs.sR hE ⟨[(4, (.op 32 0 0)), (8, (.op 256 0 0)), (9, (.os 304 0 rstep.1.length))], [(32, vO 3 [(aI 0), .nil, .nil]), (240, aO 1 cI 0 rstep.2.2), (241, aO 1 cB false rclone.f_Open), (256, vN 3 [(aI rstep.2.1.f_Minute), (.os 240 0 rstep.2.2.length), (.os 241 0 rclone.f_Open.length)]), (304, aO 1 cI 0 rstep.1)], 336⟩ (C_85 62) [(1, ⟨[256, 240, 241], false, (.os 3 0 rstep.1.length), [(0, vN 3 [(aI rstep.2.1.f_Minute), (.os 1 0 rstep.2.2.length), (.os 2 0 rclone.f_Open.length)]), (1, aO 1 cI 0 rstep.2.2), (2, aO 1 cB false rclone.f_Open), (3, aO 1 cI 0 rstep.1)], 0, false⟩)] [] (kp [4, 8, 9]) (kq [32, 240, 241, 256, 304]) 336 [0 < 1, Sound Try.prog 89 [(.agg (Tapi_Network.cells n)), (.op 0 0 0)] [(0, vN 3 [(aI rclone.f_Minute), (.os 1 0 rclone.f_Litres.length), (.os 2 0 rclone.f_Open.length)]), (1, aO 1 cI 0 rclone.f_Litres), (2, aO 1 cB false rclone.f_Open)] 3 (.os 3 0 rstep.1.length) [(0, vN 3 [(aI rstep.2.1.f_Minute), (.os 1 0 rstep.2.2.length), (.os 2 0 rclone.f_Open.length)]), (1, aO 1 cI 0 rstep.2.2), (2, aO 1 cB false rclone.f_Open), (3, aO 1 cI 0 rstep.1)]] ⟨o1, (g_water_step_ok N n rclone.f_Minute rclone.f_Litres rclone.f_Open rstep hr3), trivial⟩ ?_
      refine Runs.sA 1 [.code (C_85 126), .code (C_85 127)] ?_
      refine Runs.sR hE ⟨[(4, (.op 32 0 0)), (5, (.os 304 0 rstep.1.length)), (6, (aI 0))], [(32, vN 3 [(aI rstep.2.1.f_Minute), (.os 240 0 rstep.2.2.length), (.os 241 0 rclone.f_Open.length)]), (240, aO 1 cI 0 rstep.2.2), (241, aO 1 cB false rclone.f_Open), (304, aO 1 cI 0 rstep.1)], 416⟩ (C_85 126) [] [] (kp [4, 5, 6]) (kq [32, 240, 241, 304]) 416 [0 < 1, 0 < 1] ⟨o1, o1, trivial⟩ ?_
      obtain rfl := Option.some.inj h
      refine Runs.sW hE ⟨[(4, (.op 16 0 0)), (5, (.os 2 0 rstep.1.length)), (6, (aI 0))], [(0, aO 1 cI 0 rstep.2.2), (1, aO 1 cB false rclone.f_Open), (2, aO 1 cI 0 rstep.1), (16, vN 3 [(aI rstep.2.1.f_Minute), (.os 0 0 rstep.2.2.length), (.os 1 0 rclone.f_Open.length)])], 416⟩ [] (kp [4, 5, 6]) [(0, .keep 240), (1, .keep 241), (2, .keep 304), (16, .var 32 [.keep, .keep, .keep])] 416 [] trivial ?_
      exact Runs.sT Try.f40 [16] [0 < 1] ⟨o1, trivial⟩

noncomputable def C_91 (n : Nat) : Code := cat (bodyOf Try.f90) (pth n)

theorem g_water_checkTurns_L1_ok (N : Nat) (n : Tapi_Network) (turns : List Tapi_Turn) (fuel : Nat) : ∀ (x : Int) (r : Int), g_water_checkTurns_L1 N n turns fuel x = some r → ∀ E, EnvOk E 0 → Runs Try.prog E 90 52 (SPost E [] (aI r)) [.code (C_91 244), .inLoop (C_91 244), .inBlock 0, .code (C_91 31)] ⟨[(2, (encL Tapi_Turn.cells Tapi_Turn.d turns)), (3, (.op 0 0 0)), (19, (encL Tapi_Turn.cells Tapi_Turn.d turns)), (20, (aI ((turns.length : Nat) : Int))), (21, (aI x))], [(0, vO 3 (Tapi_Network.cells n))], 1⟩ := by
  induction fuel with
  | zero => intro _ r h; rw [g_water_checkTurns_L1.eq_1] at h; cases h
  | succ fuel ih =>
    intro x r h E hE
    rw [g_water_checkTurns_L1.eq_2] at h
    refine Runs.sA 1 [.code (C_91 488), .code (C_91 489), .inLoop (C_91 244), .inBlock 0, .code (C_91 31)] ?_
    refine Runs.sR hE ⟨[(2, (encL Tapi_Turn.cells Tapi_Turn.d turns)), (3, (.op 0 0 0)), (19, (encL Tapi_Turn.cells Tapi_Turn.d turns)), (20, (aI ((turns.length : Nat) : Int))), (21, (aI x)), (22, (aB (decide (x < ((turns.length : Nat) : Int)))))], [(0, vO 3 (Tapi_Network.cells n))], 17⟩ (C_91 488) [] [] (kp [2, 3, 19, 20, 21, 22]) (kq [0]) 17 [] trivial ?_
    refine Runs.sA 1 [.code (C_91 978), .code (C_91 979), .inLoop (C_91 244), .inBlock 0, .code (C_91 31)] ?_
    refine Runs.sC 22 (C_91 1956) (C_91 1957) (decide (x < ((turns.length : Nat) : Int))) (fun hq4 => ?_) (fun hq4 => ?_)
    · have h := condT h hq4
      refine Runs.sA 4 [.code (C_91 7832), .code (C_91 7833), .inBlock 1, .code (C_91 1959), .inLoop (C_91 244), .inBlock 0, .code (C_91 31)] ?_
      obtain ⟨c, h⟩ := ifSome h
      refine Runs.sR hE ⟨[(2, (encL Tapi_Turn.cells Tapi_Turn.d turns)), (3, (.op 0 0 0)), (8, (aI x)), (9, (.op 65 0 0)), (19, (encL Tapi_Turn.cells Tapi_Turn.d turns)), (20, (aI ((turns.length : Nat) : Int))), (21, (aI x))], [(0, vO 3 (Tapi_Network.cells n)), (65, vO 3 (Tapi_Turn.cells (turns.getD ((x).toNat) Tapi_Turn.d)))], 113⟩ (C_91 7832) [] [] (kp [2, 3, 8, 9, 19, 20, 21]) (kq [0, 65]) 113 [0 ≤ x ∧ x < ((turns.length : Nat) : Int), 0 < 1] ⟨c, o1, trivial⟩ ?_
      refine Runs.sA 2 [.code (C_91 31332), .code (C_91 31333), .inBlock 2, .inBlock 1, .code (C_91 1959), .inLoop (C_91 244), .inBlock 0, .code (C_91 31)] ?_
      obtain ⟨rbetween, hr2, h⟩ := bindSome h
      refine Runs.sR hE ⟨[(2, (encL Tapi_Turn.cells Tapi_Turn.d turns)), (3, (.op 0 0 0)), (8, (aI x)), (9, (.op 65 0 0)), (19, (encL Tapi_Turn.cells Tapi_Turn.d turns)), (20, (aI ((turns.length : Nat) : Int))), (21, (aI x)), (26, (aB (!rbetween)))], [(0, vO 3 (Tapi_Network.cells n)), (65, vO 3 (Tapi_Turn.cells (turns.getD ((x).toNat) Tapi_Turn.d)))], 193⟩ (C_91 31332) [(2, ⟨[], true, (aB rbetween), [], 0, false⟩)] [] (kp [2, 3, 8, 9, 19, 20, 21, 26]) (kq [0, 65]) 193 [0 < 1, Sound Try.prog 59 [(aI ((turns.getD ((x).toNat) Tapi_Turn.d).f_Minute)), (aI 0), (aI 1000000)] [] 0 (aB rbetween) []] ⟨o1, (g_water_between_ok N ((turns.getD ((x).toNat) Tapi_Turn.d).f_Minute) 0 1000000 rbetween hr2), trivial⟩ ?_
      refine Runs.sC 26 (C_91 62666) (C_91 62667) (!rbetween) (fun hq5 => ?_) (fun hq5 => ?_)
      · have h := condT h hq5
        refine Runs.sA 1 [.code (C_91 125332), .code (C_91 125333), .inBlock 2, .inBlock 1, .code (C_91 1959), .inLoop (C_91 244), .inBlock 0, .code (C_91 31)] ?_
        refine Runs.sR hE ⟨[(6, (aI 2))], [], 209⟩ (C_91 125332) [] [] (kp [6]) [] 209 [] trivial ?_
        obtain rfl := Option.some.inj h
        refine Runs.sW hE ⟨[(6, (aI 2))], [], 209⟩ [] (kp [6]) [] 209 [] trivial ?_
        exact Runs.sT Try.f90 [] [] trivial
      · have h := condF h hq5
        refine Runs.sA 1 [.code (C_91 125334), .code (C_91 125335), .inBlock 2, .inBlock 1, .code (C_91 1959), .inLoop (C_91 244), .inBlock 0, .code (C_91 31)] ?_
        obtain ⟨c2, h⟩ := ifSome h
        refine Runs.sR hE ⟨[(2, (encL Tapi_Turn.cells Tapi_Turn.d turns)), (3, (.op 0 0 0)), (9, (.op 65 0 0)), (19, (encL Tapi_Turn.cells Tapi_Turn.d turns)), (20, (aI ((turns.length : Nat) : Int))), (21, (aI x)), (31, (aB (cond (decide (x > 0)) (decide ((turns.getD ((x).toNat) Tapi_Turn.d).f_Minute < (turns.getD ((w64 (x - 1)).toNat) Tapi_Turn.d).f_Minute)) false)))], [(0, vO 3 (Tapi_Network.cells n)), (65, vO 3 (Tapi_Turn.cells (turns.getD ((x).toNat) Tapi_Turn.d)))], 417⟩ (C_91 125334) [] [] (kp [2, 3, 9, 19, 20, 21, 31]) (kq [0, 65]) 417 [(decide (x > 0)) = true → AllP [(decide (x > 0)) = true, 0 < 1], (decide (x > 0)) = true → AllP [(decide (x > 0)) = true], (decide (x > 0)) = true → AllP [(decide (x > 0)) = true, (decide (x > 0)) = true, 0 ≤ (w64 (x - 1)) ∧ (w64 (x - 1)) < ((turns.length : Nat) : Int)], (decide (x > 0)) = true → AllP [(decide (x > 0)) = true], (decide (x > 0)) = true → AllP [(decide (x > 0)) = true], (decide (x > 0)) = true → AllP [(decide (x > 0)) = true, (decide (x > 0)) = true], (decide (x > 0)) = true → AllP [(decide (x > 0)) = true]] ⟨(fun hg => ⟨hg, o1, trivial⟩), (fun hg => ⟨hg, trivial⟩), (fun hg => ⟨hg, hg, (c2 hg), trivial⟩), (fun hg => ⟨hg, trivial⟩), (fun hg => ⟨hg, trivial⟩), (fun hg => ⟨hg, hg, trivial⟩), (fun hq => ⟨hq, trivial⟩), trivial⟩ ?_
        refine Runs.sC 31 (C_91 250670) (C_91 250671) (cond (decide (x > 0)) (decide ((turns.getD ((x).toNat) Tapi_Turn.d).f_Minute < (turns.getD ((w64 (x - 1)).toNat) Tapi_Turn.d).f_Minute)) false) (fun hq6 => ?_) (fun hq6 => ?_)
        · have h := condT h hq6
          refine Runs.sA 1 [.code (C_91 501340), .code (C_91 501341), .inBlock 2, .inBlock 1, .code (C_91 1959), .inLoop (C_91 244), .inBlock 0, .code (C_91 31)] ?_
          refine Runs.sR hE ⟨[(6, (aI 10))], [], 433⟩ (C_91 501340) [] [] (kp [6]) [] 433 [] trivial ?_
          obtain rfl := Option.some.inj h
          refine Runs.sW hE ⟨[(6, (aI 10))], [], 433⟩ [] (kp [6]) [] 433 [] trivial ?_
          exact Runs.sT Try.f90 [] [] trivial
        · have h := condF h hq6
          refine Runs.sA 1 [.code (C_91 501342), .code (C_91 501343), .inBlock 2, .inBlock 1, .code (C_91 1959), .inLoop (C_91 244), .inBlock 0, .code (C_91 31)] ?_
          obtain ⟨rlinkOf, hr3, h⟩ := bindSome h
          refine Runs.sR hE ⟨[(2, (encL Tapi_Turn.cells Tapi_Turn.d turns)), (3, (.op 0 0 0)), (19, (encL Tapi_Turn.cells Tapi_Turn.d turns)), (20, (aI ((turns.length : Nat) : Int))), (21, (aI x)), (45, (aB (decide (rlinkOf < 0))))], [(0, vO 3 (Tapi_Network.cells n))], 513⟩ (C_91 501342) [(3, ⟨[], true, (aI rlinkOf), [], 0, false⟩)] [] (kp [2, 3, 19, 20, 21, 45]) (kq [0]) 513 [0 < 1, 0 < 1, Sound Try.prog 82 [(.agg (Tapi_Network.cells n)), (aS ((turns.getD ((x).toNat) Tapi_Turn.d).f_Link))] [] 0 (aI rlinkOf) []] ⟨o1, o1, (g_water_linkOf_ok N n ((turns.getD ((x).toNat) Tapi_Turn.d).f_Link) rlinkOf hr3), trivial⟩ ?_
          refine Runs.sC 45 (C_91 1002686) (C_91 1002687) (decide (rlinkOf < 0)) (fun hq7 => ?_) (fun hq7 => ?_)
          · have h := condT h hq7
            refine Runs.sA 1 [.code (C_91 2005372), .code (C_91 2005373), .inBlock 2, .inBlock 1, .code (C_91 1959), .inLoop (C_91 244), .inBlock 0, .code (C_91 31)] ?_
            refine Runs.sR hE ⟨[(6, (aI 6))], [], 529⟩ (C_91 2005372) [] [] (kp [6]) [] 529 [] trivial ?_
            obtain rfl := Option.some.inj h
            refine Runs.sW hE ⟨[(6, (aI 6))], [], 529⟩ [] (kp [6]) [] 529 [] trivial ?_
            exact Runs.sT Try.f90 [] [] trivial
          · have h := condF h hq7
            refine Runs.sA 3 [.code (C_91 1959), .inLoop (C_91 244), .inBlock 0, .code (C_91 31)] ?_
            refine Runs.sR hE ⟨[(2, (encL Tapi_Turn.cells Tapi_Turn.d turns)), (3, (.op 0 0 0)), (19, (encL Tapi_Turn.cells Tapi_Turn.d turns)), (20, (aI ((turns.length : Nat) : Int))), (21, (aI (w64 (x + 1))))], [(0, vO 3 (Tapi_Network.cells n))], 545⟩ (C_91 1959) [] [] (kp [2, 3, 19, 20, 21]) (kq [0]) 545 [] trivial ?_
            refine Runs.sA 1 [.code (C_91 244), .inLoop (C_91 244), .inBlock 0, .code (C_91 31)] ?_
            exact Runs.sW hE _ [] (kp [2, 3, 19, 20, 21]) (kq [0]) 1 [] trivial (ih (w64 (x + 1)) _ h E hE)
    · have h := condF h hq4
      refine Runs.sA 2 [.code (C_91 62), .code (C_91 63)] ?_
      refine Runs.sR hE ⟨[(6, (aI 0))], [], 33⟩ (C_91 62) [] [] (kp [6]) [] 33 [] trivial ?_
      obtain rfl := Option.some.inj h
      refine Runs.sW hE ⟨[(6, (aI 0))], [], 48⟩ [] (kp [6]) [] 48 [] trivial ?_
      exact Runs.sT Try.f90 [] [] trivial

theorem g_water_checkTurns_ok (N : Nat) (n : Tapi_Network) (w : Tapi_Water) (turns : List Tapi_Turn) (r : Int) (h : g_water_checkTurns N n w turns = some r) : Sound Try.prog 90 [(.agg (Tapi_Network.cells n)), (.agg (Tapi_Water.cells w)), (encL Tapi_Turn.cells Tapi_Turn.d turns)] [] 0 (aI r) [] := by
  unfold g_water_checkTurns at h
  refine Sound.of_runs (fu := Try.f90) (c := C_91 1) (nt := 52) (by kernel_rfl) (by kernel_rfl) (by kernel_rfl) (by kernel_rfl) (fun hm => rfl) ?_
  intro E hE
  refine Runs.sA 1 [.code (C_91 2), .code (C_91 3)] ?_
  refine Runs.sR hE ⟨[(2, (encL Tapi_Turn.cells Tapi_Turn.d turns)), (3, (.op 0 0 0)), (4, (.op 16 0 0))], [(0, vO 3 (Tapi_Network.cells n)), (16, vO 3 (Tapi_Water.cells w))], 48⟩ (C_91 2) [] [] (kp [2, 3, 4]) (kq [0, 16]) 48 [] trivial ?_
  refine Runs.sA 2 [.code (C_91 12), .code (C_91 13), .code (C_91 7)] ?_
  obtain ⟨rcheckState, hr, h⟩ := bindSome h
  refine Runs.sR hE ⟨[(2, (encL Tapi_Turn.cells Tapi_Turn.d turns)), (3, (.op 0 0 0)), (7, (aI rcheckState))], [(0, vO 3 (Tapi_Network.cells n))], 112⟩ (C_91 12) [(2, ⟨[], true, (aI rcheckState), [], 0, false⟩)] [] (kp [2, 3, 7]) (kq [0]) 112 [0 < 1, 0 < 1, Sound Try.prog 81 [(.agg (Tapi_Network.cells n)), (.agg (Tapi_Water.cells w))] [] 0 (aI rcheckState) []] ⟨o1, o1, (g_water_checkState_ok N n w rcheckState hr), trivial⟩ ?_
  refine Runs.sA 1 [.code (C_91 26), .code (C_91 27), .code (C_91 7)] ?_
  refine Runs.sR hE ⟨[(2, (encL Tapi_Turn.cells Tapi_Turn.d turns)), (3, (.op 0 0 0)), (7, (aI rcheckState)), (14, (aB (rcheckState != 0)))], [(0, vO 3 (Tapi_Network.cells n))], 144⟩ (C_91 26) [] [] (kp [2, 3, 7, 14]) (kq [0]) 144 [] trivial ?_
  refine Runs.sC 14 (C_91 54) (C_91 55) (rcheckState != 0) (fun hq2 => ?_) (fun hq2 => ?_)
  · have h := condT h hq2
    refine Runs.sA 1 [.code (C_91 108), .code (C_91 109), .code (C_91 7)] ?_
    refine Runs.sR hE ⟨[(6, (aI rcheckState))], [], 176⟩ (C_91 108) [] [] (kp [6]) [] 176 [] trivial ?_
    obtain rfl := Option.some.inj h
    refine Runs.sW hE ⟨[(6, (aI rcheckState))], [], 176⟩ [] (kp [6]) [] 176 [] trivial ?_
    exact Runs.sT Try.f90 [] [] trivial
  · have h := condF h hq2
    refine Runs.sA 3 [.code (C_91 28), .code (C_91 29), .code (C_91 15)] ?_
    refine Runs.sR hE ⟨[(2, (encL Tapi_Turn.cells Tapi_Turn.d turns)), (3, (.op 0 0 0)), (18, (aB (decide (((turns.length : Nat) : Int) > 200))))], [(0, vO 3 (Tapi_Network.cells n))], 192⟩ (C_91 28) [] [] (kp [2, 3, 18]) (kq [0]) 192 [] trivial ?_
    refine Runs.sC 18 (C_91 58) (C_91 59) (decide (((turns.length : Nat) : Int) > 200)) (fun hq3 => ?_) (fun hq3 => ?_)
    · have h := condT h hq3
      refine Runs.sA 1 [.code (C_91 116), .code (C_91 117), .code (C_91 15)] ?_
      refine Runs.sR hE ⟨[(6, (aI 8))], [], 208⟩ (C_91 116) [] [] (kp [6]) [] 208 [] trivial ?_
      obtain rfl := Option.some.inj h
      refine Runs.sW hE ⟨[(6, (aI 8))], [], 208⟩ [] (kp [6]) [] 208 [] trivial ?_
      exact Runs.sT Try.f90 [] [] trivial
    · have h := condF h hq3
      refine Runs.sA 3 [.code (C_91 60), .code (C_91 61), .code (C_91 31)] ?_
      refine Runs.sR hE ⟨[(2, (encL Tapi_Turn.cells Tapi_Turn.d turns)), (3, (.op 0 0 0)), (19, (encL Tapi_Turn.cells Tapi_Turn.d turns)), (20, (aI ((turns.length : Nat) : Int))), (21, (aI 0))], [(0, vO 3 (Tapi_Network.cells n))], 240⟩ (C_91 60) [] [] (kp [2, 3, 19, 20, 21]) (kq [0]) 240 [] trivial ?_
      refine Runs.sA 2 [.code (C_91 244), .inLoop (C_91 244), .inBlock 0, .code (C_91 31)] ?_
      exact Runs.sW hE _ [] (kp [2, 3, 19, 20, 21]) (kq [0]) 1 [] trivial (g_water_checkTurns_L1_ok N n turns N 0 _ h E hE)

noncomputable def C_92 (n : Nat) : Code := cat (bodyOf Try.f91) (pth n)

theorem g_water_run_J3_ok (N : Nat) (n : Tapi_Network) (turns : List Tapi_Turn) (minutes : Int) (cap02 : Int) (cap03 : List Int) (x : Int) (x2 : Int) (K_g_water_run_L2 : (List Bool) → Int → Option (Tapi_Water × (List Int) × (List Bool))) (K_g_water_run_L1 : Int → (List Int) → (List Bool) → Int → Option (Tapi_Water × (List Int) × (List Bool)))
    (hK_g_water_run_L2 : ∀ (cap05 : List Bool) (x2 : Int) (r : Tapi_Water × (List Int) × (List Bool)), K_g_water_run_L2 cap05 x2 = some r → ∀ E, EnvOk E 3 → Runs Try.prog E 91 42 (SPost E [(0, vN 3 [(aI r.1.f_Minute), (.os 1 0 r.2.1.length), (.os 2 0 r.2.2.length)]), (1, aO 1 cI 0 r.2.1), (2, aO 1 cB false r.2.2)] (.tup [])) [.code (C_92 7364), .inLoop (C_92 7364), .inBlock 2, .code (C_92 921), .inBlock 1, .code (C_92 231), .inLoop (C_92 28), .inBlock 0] ⟨[(1, (.op 0 0 0)), (2, (encL Tapi_Turn.cells Tapi_Turn.d turns)), (4, (.op 3 0 0)), (10, (aI minutes)), (11, (aI x)), (13, (encL Tapi_Turn.cells Tapi_Turn.d turns)), (14, (aI ((turns.length : Nat) : Int))), (15, (aI x2))], [(0, vN 3 [(aI cap02), (.os 1 0 cap03.length), (.os 2 0 cap05.length)]), (1, aO 1 cI 0 cap03), (2, aO 1 cB false cap05), (3, vO 3 (Tapi_Network.cells n))], 4⟩)
    (hK_g_water_run_L1 : ∀ (cap02 : Int) (cap03 : List Int) (cap04 : List Bool) (x : Int) (r : Tapi_Water × (List Int) × (List Bool)), K_g_water_run_L1 cap02 cap03 cap04 x = some r → ∀ E, EnvOk E 3 → Runs Try.prog E 91 42 (SPost E [(0, vN 3 [(aI r.1.f_Minute), (.os 1 0 r.2.1.length), (.os 2 0 r.2.2.length)]), (1, aO 1 cI 0 r.2.1), (2, aO 1 cB false r.2.2)] (.tup [])) [.code (C_92 28), .inLoop (C_92 28), .inBlock 0] ⟨[(1, (.op 0 0 0)), (2, (encL Tapi_Turn.cells Tapi_Turn.d turns)), (4, (.op 3 0 0)), (10, (aI minutes)), (11, (aI x))], [(0, vN 3 [(aI cap02), (.os 1 0 cap03.length), (.os 2 0 cap04.length)]), (1, aO 1 cI 0 cap03), (2, aO 1 cB false cap04), (3, vO 3 (Tapi_Network.cells n))], 4⟩) (cap06 : List Bool) (r : Tapi_Water × (List Int) × (List Bool)) (h : g_water_run_J3 N n turns minutes cap02 cap03 x x2 K_g_water_run_L2 K_g_water_run_L1 cap06 = some r) : ∀ E, EnvOk E 3 → Runs Try.prog E 91 42 (SPost E [(0, vN 3 [(aI r.1.f_Minute), (.os 1 0 r.2.1.length), (.os 2 0 r.2.2.length)]), (1, aO 1 cI 0 r.2.1), (2, aO 1 cB false r.2.2)] (.tup [])) [.code (C_92 58919), .inLoop (C_92 7364), .inBlock 2, .code (C_92 921), .inBlock 1, .code (C_92 231), .inLoop (C_92 28), .inBlock 0] ⟨[(1, (.op 0 0 0)), (2, (encL Tapi_Turn.cells Tapi_Turn.d turns)), (4, (.op 3 0 0)), (10, (aI minutes)), (11, (aI x)), (13, (encL Tapi_Turn.cells Tapi_Turn.d turns)), (14, (aI ((turns.length : Nat) : Int))), (15, (aI x2))], [(0, vN 3 [(aI cap02), (.os 1 0 cap03.length), (.os 2 0 cap06.length)]), (1, aO 1 cI 0 cap03), (2, aO 1 cB false cap06), (3, vO 3 (Tapi_Network.cells n))], 4⟩ := by
  intro E hE
  unfold g_water_run_J3 at h
  refine Runs.sR hE ⟨[(1, (.op 0 0 0)), (2, (encL Tapi_Turn.cells Tapi_Turn.d turns)), (4, (.op 3 0 0)), (10, (aI minutes)), (11, (aI x)), (13, (encL Tapi_Turn.cells Tapi_Turn.d turns)), (14, (aI ((turns.length : Nat) : Int))), (15, (aI (w64 (x2 + 1))))], [(0, vN 3 [(aI cap02), (.os 1 0 cap03.length), (.os 2 0 cap06.length)]), (1, aO 1 cI 0 cap03), (2, aO 1 cB false cap06), (3, vO 3 (Tapi_Network.cells n))], 36⟩ (C_92 58919) [] [] (kp [1, 2, 4, 10, 11, 13, 14, 15]) (kq [0, 1, 2, 3]) 36 [] trivial ?_
  refine Runs.sA 1 [.code (C_92 7364), .inLoop (C_92 7364), .inBlock 2, .code (C_92 921), .inBlock 1, .code (C_92 231), .inLoop (C_92 28), .inBlock 0] ?_
  exact Runs.sW hE _ [] (kp [1, 2, 4, 10, 11, 13, 14, 15]) (kq [0, 1, 2, 3]) 4 [] trivial (hK_g_water_run_L2 cap06 (w64 (x2 + 1)) _ h E hE)

theorem g_water_run_L2_ok (N : Nat) (n : Tapi_Network) (turns : List Tapi_Turn) (minutes : Int) (cap02 : Int) (cap03 : List Int) (x : Int) (K_g_water_run_L1 : Int → (List Int) → (List Bool) → Int → Option (Tapi_Water × (List Int) × (List Bool)))
    (hK_g_water_run_L1 : ∀ (cap02 : Int) (cap03 : List Int) (cap04 : List Bool) (x : Int) (r : Tapi_Water × (List Int) × (List Bool)), K_g_water_run_L1 cap02 cap03 cap04 x = some r → ∀ E, EnvOk E 3 → Runs Try.prog E 91 42 (SPost E [(0, vN 3 [(aI r.1.f_Minute), (.os 1 0 r.2.1.length), (.os 2 0 r.2.2.length)]), (1, aO 1 cI 0 r.2.1), (2, aO 1 cB false r.2.2)] (.tup [])) [.code (C_92 28), .inLoop (C_92 28), .inBlock 0] ⟨[(1, (.op 0 0 0)), (2, (encL Tapi_Turn.cells Tapi_Turn.d turns)), (4, (.op 3 0 0)), (10, (aI minutes)), (11, (aI x))], [(0, vN 3 [(aI cap02), (.os 1 0 cap03.length), (.os 2 0 cap04.length)]), (1, aO 1 cI 0 cap03), (2, aO 1 cB false cap04), (3, vO 3 (Tapi_Network.cells n))], 4⟩) (fuel : Nat) : ∀ (cap05 : List Bool) (x2 : Int) (r : Tapi_Water × (List Int) × (List Bool)), g_water_run_L2 N n turns minutes cap02 cap03 x K_g_water_run_L1 fuel cap05 x2 = some r → ∀ E, EnvOk E 3 → Runs Try.prog E 91 42 (SPost E [(0, vN 3 [(aI r.1.f_Minute), (.os 1 0 r.2.1.length), (.os 2 0 r.2.2.length)]), (1, aO 1 cI 0 r.2.1), (2, aO 1 cB false r.2.2)] (.tup [])) [.code (C_92 7364), .inLoop (C_92 7364), .inBlock 2, .code (C_92 921), .inBlock 1, .code (C_92 231), .inLoop (C_92 28), .inBlock 0] ⟨[(1, (.op 0 0 0)), (2, (encL Tapi_Turn.cells Tapi_Turn.d turns)), (4, (.op 3 0 0)), (10, (aI minutes)), (11, (aI x)), (13, (encL Tapi_Turn.cells Tapi_Turn.d turns)), (14, (aI ((turns.length : Nat) : Int))), (15, (aI x2))], [(0, vN 3 [(aI cap02), (.os 1 0 cap03.length), (.os 2 0 cap05.length)]), (1, aO 1 cI 0 cap03), (2, aO 1 cB false cap05), (3, vO 3 (Tapi_Network.cells n))], 4⟩ := by
  induction fuel with
  | zero => intro _ _ r h; rw [g_water_run_L2.eq_1] at h; cases h
  | succ fuel ih =>
    intro cap05 x2 r h E hE
    rw [g_water_run_L2.eq_2] at h
    refine Runs.sA 1 [.code (C_92 14728), .code (C_92 14729), .inLoop (C_92 7364), .inBlock 2, .code (C_92 921), .inBlock 1, .code (C_92 231), .inLoop (C_92 28), .inBlock 0] ?_
    refine Runs.sR hE ⟨[(1, (.op 0 0 0)), (2, (encL Tapi_Turn.cells Tapi_Turn.d turns)), (4, (.op 3 0 0)), (10, (aI minutes)), (11, (aI x)), (13, (encL Tapi_Turn.cells Tapi_Turn.d turns)), (14, (aI ((turns.length : Nat) : Int))), (15, (aI x2)), (16, (aB (decide (x2 < ((turns.length : Nat) : Int)))))], [(0, vN 3 [(aI cap02), (.os 1 0 cap03.length), (.os 2 0 cap05.length)]), (1, aO 1 cI 0 cap03), (2, aO 1 cB false cap05), (3, vO 3 (Tapi_Network.cells n))], 20⟩ (C_92 14728) [] [] (kp [1, 2, 4, 10, 11, 13, 14, 15, 16]) (kq [0, 1, 2, 3]) 20 [] trivial ?_
    refine Runs.sA 1 [.code (C_92 29458), .code (C_92 29459), .inLoop (C_92 7364), .inBlock 2, .code (C_92 921), .inBlock 1, .code (C_92 231), .inLoop (C_92 28), .inBlock 0] ?_
    refine Runs.sC 16 (C_92 58916) (C_92 58917) (decide (x2 < ((turns.length : Nat) : Int))) (fun hq3 => ?_) (fun hq3 => ?_)
    · have h := condT h hq3
      refine Runs.sA 4 [.code (C_92 235672), .code (C_92 235673), .inBlock 3, .code (C_92 58919), .inLoop (C_92 7364), .inBlock 2, .code (C_92 921), .inBlock 1, .code (C_92 231), .inLoop (C_92 28), .inBlock 0] ?_
      obtain ⟨c, h⟩ := ifSome h
      refine Runs.sR hE ⟨[(1, (.op 0 0 0)), (2, (encL Tapi_Turn.cells Tapi_Turn.d turns)), (4, (.op 3 0 0)), (9, (.op 52 0 0)), (10, (aI minutes)), (11, (aI x)), (13, (encL Tapi_Turn.cells Tapi_Turn.d turns)), (14, (aI ((turns.length : Nat) : Int))), (15, (aI x2))], [(0, vN 3 [(aI cap02), (.os 1 0 cap03.length), (.os 2 0 cap05.length)]), (1, aO 1 cI 0 cap03), (2, aO 1 cB false cap05), (3, vO 3 (Tapi_Network.cells n)), (52, vO 3 (Tapi_Turn.cells (turns.getD ((x2).toNat) Tapi_Turn.d)))], 84⟩ (C_92 235672) [] [] (kp [1, 2, 4, 9, 10, 11, 13, 14, 15]) (kq [0, 1, 2, 3, 52]) 84 [0 ≤ x2 ∧ x2 < ((turns.length : Nat) : Int), 0 < 1] ⟨c, o1, trivial⟩ ?_
      refine Runs.sA 1 [.code (C_92 471346), .code (C_92 471347), .inBlock 3, .code (C_92 58919), .inLoop (C_92 7364), .inBlock 2, .code (C_92 921), .inBlock 1, .code (C_92 231), .inLoop (C_92 28), .inBlock 0] ?_
      refine Runs.sR hE ⟨[(1, (.op 0 0 0)), (2, (encL Tapi_Turn.cells Tapi_Turn.d turns)), (4, (.op 3 0 0)), (9, (.op 52 0 0)), (10, (aI minutes)), (11, (aI x)), (13, (encL Tapi_Turn.cells Tapi_Turn.d turns)), (14, (aI ((turns.length : Nat) : Int))), (15, (aI x2)), (25, (aB ((turns.getD ((x2).toNat) Tapi_Turn.d).f_Minute == cap02)))], [(0, vN 3 [(aI cap02), (.os 1 0 cap03.length), (.os 2 0 cap05.length)]), (1, aO 1 cI 0 cap03), (2, aO 1 cB false cap05), (3, vO 3 (Tapi_Network.cells n)), (52, vO 3 (Tapi_Turn.cells (turns.getD ((x2).toNat) Tapi_Turn.d)))], 196⟩ (C_92 471346) [] [] (kp [1, 2, 4, 9, 10, 11, 13, 14, 15, 25]) (kq [0, 1, 2, 3, 52]) 196 [0 < 1, 0 < 1] ⟨o1, o1, trivial⟩ ?_
      refine Runs.sC 25 (C_92 942694) (C_92 942695) ((turns.getD ((x2).toNat) Tapi_Turn.d).f_Minute == cap02) (fun hq4 => ?_) (fun hq4 => ?_)
      · have h := condT h hq4
        obtain ⟨rlinkOf, hr, h⟩ := bindSome h
        obtain ⟨c2, h⟩ := ifSome h
        refine Runs.sR hE ⟨[(1, (.op 0 0 0)), (2, (encL Tapi_Turn.cells Tapi_Turn.d turns)), (4, (.op 3 0 0)), (10, (aI minutes)), (11, (aI x)), (13, (encL Tapi_Turn.cells Tapi_Turn.d turns)), (14, (aI ((turns.length : Nat) : Int))), (15, (aI x2))], [(0, vN 3 [(aI cap02), (.os 1 0 cap03.length), (.os 2 0 ((cap05.set ((rlinkOf).toNat) ((turns.getD ((x2).toNat) Tapi_Turn.d).f_Open)).length))]), (1, aO 1 cI 0 cap03), (2, aO 1 cB false (cap05.set ((rlinkOf).toNat) ((turns.getD ((x2).toNat) Tapi_Turn.d).f_Open))), (3, vO 3 (Tapi_Network.cells n))], 388⟩ (C_92 942694) [(7, ⟨[], true, (aI rlinkOf), [], 0, false⟩)] [] (kp [1, 2, 4, 10, 11, 13, 14, 15]) ([(0, .var 0 [.keep, .keep, .osl ((cap05.set ((rlinkOf).toNat) ((turns.getD ((x2).toNat) Tapi_Turn.d).f_Open)).length)])] ++ kq [1] ++ [(2, .arr 2 ((cap05.set ((rlinkOf).toNat) ((turns.getD ((x2).toNat) Tapi_Turn.d).f_Open)).length) (fun zi => cB ((cap05.set ((rlinkOf).toNat) ((turns.getD ((x2).toNat) Tapi_Turn.d).f_Open)).getD zi false)))] ++ kq [3]) 388 [0 < 1, 0 < 1, 0 < 1, Sound Try.prog 82 [(.agg (Tapi_Network.cells n)), (aS ((turns.getD ((x2).toNat) Tapi_Turn.d).f_Link))] [] 0 (aI rlinkOf) [], 0 < 1, 0 ≤ rlinkOf ∧ rlinkOf < ((cap05.length : Nat) : Int), (rlinkOf).toNat < cap05.length, cap05.length = (cap05.set ((rlinkOf).toNat) ((turns.getD ((x2).toNat) Tapi_Turn.d).f_Open)).length, cap05.length = (cap05.set ((rlinkOf).toNat) ((turns.getD ((x2).toNat) Tapi_Turn.d).f_Open)).length, ∀ zi, zi < (cap05.set ((rlinkOf).toNat) ((turns.getD ((x2).toNat) Tapi_Turn.d).f_Open)).length → (fun zi => cB ((cap05.set ((rlinkOf).toNat) ((turns.getD ((x2).toNat) Tapi_Turn.d).f_Open)).getD zi false)) zi = ((fun zm => if zm = (rlinkOf).toNat then [(aB ((turns.getD ((x2).toNat) Tapi_Turn.d).f_Open))] else (fun zi => cB (cap05.getD zi false)) zm)) zi] ⟨o1, o1, o1, (g_water_linkOf_ok N n ((turns.getD ((x2).toNat) Tapi_Turn.d).f_Link) rlinkOf hr), o1, c2, (ltOf c2), (len_set_raw rfl), (len_set_raw rfl), (get_set_raw cB false cap05 ((rlinkOf).toNat) ((turns.getD ((x2).toNat) Tapi_Turn.d).f_Open) (fun _ _ => rfl)), trivial⟩ ?_
        refine Runs.sA 1 [.code (C_92 58919), .inLoop (C_92 7364), .inBlock 2, .code (C_92 921), .inBlock 1, .code (C_92 231), .inLoop (C_92 28), .inBlock 0] ?_
        exact Runs.sW hE _ [] (kp [1, 2, 4, 10, 11, 13, 14, 15]) (kq [0, 1, 2, 3]) 4 [] trivial (g_water_run_J3_ok N n turns minutes cap02 cap03 x x2 (g_water_run_L2 N n turns minutes cap02 cap03 x K_g_water_run_L1 fuel) K_g_water_run_L1 ih hK_g_water_run_L1 (cap05.set ((rlinkOf).toNat) ((turns.getD ((x2).toNat) Tapi_Turn.d).f_Open)) _ h E hE)
      · have h := condF h hq4
        refine Runs.sA 2 [.code (C_92 58919), .inLoop (C_92 7364), .inBlock 2, .code (C_92 921), .inBlock 1, .code (C_92 231), .inLoop (C_92 28), .inBlock 0] ?_
        exact Runs.sW hE _ [] (kp [1, 2, 4, 10, 11, 13, 14, 15]) (kq [0, 1, 2, 3]) 4 [] trivial (g_water_run_J3_ok N n turns minutes cap02 cap03 x x2 (g_water_run_L2 N n turns minutes cap02 cap03 x K_g_water_run_L1 fuel) K_g_water_run_L1 ih hK_g_water_run_L1 cap05 _ h E hE)
    · have h := condF h hq3
      refine Runs.sA 1 [.code (C_92 921), .inBlock 1, .code (C_92 231), .inLoop (C_92 28), .inBlock 0] ?_
      obtain ⟨rstep, hr2, h⟩ := bindSome h
      obtain ⟨c3, h⟩ := ifSome h
      refine Runs.sR hE ⟨[(1, (.op 0 0 0)), (2, (encL Tapi_Turn.cells Tapi_Turn.d turns)), (4, (.op 3 0 0)), (10, (aI minutes)), (11, (aI x))], [(0, vN 3 [(aI rstep.2.1.f_Minute), (.os 1 0 rstep.2.2.length), (.os 2 0 cap05.length)]), (1, aO 1 cI 0 rstep.2.2), (2, aO 1 cB false cap05), (3, vO 3 (Tapi_Network.cells n))], 68⟩ (C_92 921) [(2, ⟨[0, 1, 2], false, (.os 3 0 rstep.1.length), [(0, vN 3 [(aI rstep.2.1.f_Minute), (.os 1 0 rstep.2.2.length), (.os 2 0 cap05.length)]), (1, aO 1 cI 0 rstep.2.2), (2, aO 1 cB false cap05), (3, aO 1 cI 0 rstep.1)], 0, false⟩)] [] (kp [1, 2, 4, 10, 11]) (kq [0, 1, 2, 3]) 68 [0 < 1, Sound Try.prog 89 [(.agg (Tapi_Network.cells n)), (.op 0 0 0)] [(0, vN 3 [(aI cap02), (.os 1 0 cap03.length), (.os 2 0 cap05.length)]), (1, aO 1 cI 0 cap03), (2, aO 1 cB false cap05)] 3 (.os 3 0 rstep.1.length) [(0, vN 3 [(aI rstep.2.1.f_Minute), (.os 1 0 rstep.2.2.length), (.os 2 0 cap05.length)]), (1, aO 1 cI 0 rstep.2.2), (2, aO 1 cB false cap05), (3, aO 1 cI 0 rstep.1)]] ⟨o1, (g_water_step_ok N n cap02 cap03 cap05 rstep hr2), trivial⟩ ?_
      refine Runs.sA 1 [.code (C_92 231), .inLoop (C_92 28), .inBlock 0] ?_
      refine Runs.sR hE ⟨[(1, (.op 0 0 0)), (2, (encL Tapi_Turn.cells Tapi_Turn.d turns)), (4, (.op 3 0 0)), (10, (aI minutes)), (11, (aI (w64 (x + 1))))], [(0, vN 3 [(aI rstep.2.1.f_Minute), (.os 1 0 rstep.2.2.length), (.os 2 0 cap05.length)]), (1, aO 1 cI 0 rstep.2.2), (2, aO 1 cB false cap05), (3, vO 3 (Tapi_Network.cells n))], 100⟩ (C_92 231) [] [] (kp [1, 2, 4, 10, 11]) (kq [0, 1, 2, 3]) 100 [] trivial ?_
      refine Runs.sA 1 [.code (C_92 28), .inLoop (C_92 28), .inBlock 0] ?_
      exact Runs.sW hE _ [] (kp [1, 2, 4, 10, 11]) (kq [0, 1, 2, 3]) 4 [] trivial (hK_g_water_run_L1 rstep.2.1.f_Minute rstep.2.2 cap05 (w64 (x + 1)) _ h E hE)

theorem g_water_run_L1_ok (N : Nat) (n : Tapi_Network) (turns : List Tapi_Turn) (minutes : Int) (fuel : Nat) : ∀ (cap02 : Int) (cap03 : List Int) (cap04 : List Bool) (x : Int) (r : Tapi_Water × (List Int) × (List Bool)), g_water_run_L1 N n turns minutes fuel cap02 cap03 cap04 x = some r → ∀ E, EnvOk E 3 → Runs Try.prog E 91 42 (SPost E [(0, vN 3 [(aI r.1.f_Minute), (.os 1 0 r.2.1.length), (.os 2 0 r.2.2.length)]), (1, aO 1 cI 0 r.2.1), (2, aO 1 cB false r.2.2)] (.tup [])) [.code (C_92 28), .inLoop (C_92 28), .inBlock 0] ⟨[(1, (.op 0 0 0)), (2, (encL Tapi_Turn.cells Tapi_Turn.d turns)), (4, (.op 3 0 0)), (10, (aI minutes)), (11, (aI x))], [(0, vN 3 [(aI cap02), (.os 1 0 cap03.length), (.os 2 0 cap04.length)]), (1, aO 1 cI 0 cap03), (2, aO 1 cB false cap04), (3, vO 3 (Tapi_Network.cells n))], 4⟩ := by
  induction fuel with
  | zero => intro _ _ _ _ r h; rw [g_water_run_L1.eq_1] at h; cases h
  | succ fuel ih =>
    intro cap02 cap03 cap04 x r h E hE
    rw [g_water_run_L1.eq_2] at h
    refine Runs.sA 1 [.code (C_92 56), .code (C_92 57), .inLoop (C_92 28), .inBlock 0] ?_
    refine Runs.sR hE ⟨[(1, (.op 0 0 0)), (2, (encL Tapi_Turn.cells Tapi_Turn.d turns)), (4, (.op 3 0 0)), (10, (aI minutes)), (11, (aI x)), (12, (aB (decide (x < minutes))))], [(0, vN 3 [(aI cap02), (.os 1 0 cap03.length), (.os 2 0 cap04.length)]), (1, aO 1 cI 0 cap03), (2, aO 1 cB false cap04), (3, vO 3 (Tapi_Network.cells n))], 20⟩ (C_92 56) [] [] (kp [1, 2, 4, 10, 11, 12]) (kq [0, 1, 2, 3]) 20 [] trivial ?_
    refine Runs.sA 1 [.code (C_92 114), .code (C_92 115), .inLoop (C_92 28), .inBlock 0] ?_
    refine Runs.sC 12 (C_92 228) (C_92 229) (decide (x < minutes)) (fun hq2 => ?_) (fun hq2 => ?_)
    · have h := condT h hq2
      refine Runs.sA 5 [.code (C_92 1840), .code (C_92 1841), .code (C_92 921), .inBlock 1, .code (C_92 231), .inLoop (C_92 28), .inBlock 0] ?_
      refine Runs.sR hE ⟨[(1, (.op 0 0 0)), (2, (encL Tapi_Turn.cells Tapi_Turn.d turns)), (4, (.op 3 0 0)), (10, (aI minutes)), (11, (aI x)), (13, (encL Tapi_Turn.cells Tapi_Turn.d turns)), (14, (aI ((turns.length : Nat) : Int))), (15, (aI 0))], [(0, vN 3 [(aI cap02), (.os 1 0 cap03.length), (.os 2 0 cap04.length)]), (1, aO 1 cI 0 cap03), (2, aO 1 cB false cap04), (3, vO 3 (Tapi_Network.cells n))], 68⟩ (C_92 1840) [] [] (kp [1, 2, 4, 10, 11, 13, 14, 15]) (kq [0, 1, 2, 3]) 68 [] trivial ?_
      refine Runs.sA 2 [.code (C_92 7364), .inLoop (C_92 7364), .inBlock 2, .code (C_92 921), .inBlock 1, .code (C_92 231), .inLoop (C_92 28), .inBlock 0] ?_
      exact Runs.sW hE _ [] (kp [1, 2, 4, 10, 11, 13, 14, 15]) (kq [0, 1, 2, 3]) 4 [] trivial (g_water_run_L2_ok N n turns minutes cap02 cap03 x (g_water_run_L1 N n turns minutes fuel) ih N cap04 0 _ h E hE)
    · have h := condF h hq2
      refine Runs.sA 1 [] ?_
      obtain rfl := Option.some.inj h
      refine Runs.sW hE ⟨[], [(0, vN 3 [(aI cap02), (.os 1 0 cap03.length), (.os 2 0 cap04.length)]), (1, aO 1 cI 0 cap03), (2, aO 1 cB false cap04)], 51⟩ [] [] (kq [0, 1, 2]) 51 [] trivial ?_
      exact Runs.sF Try.f91 [] [] trivial

theorem g_water_run_ok (N : Nat) (n : Tapi_Network) (turns : List Tapi_Turn) (minutes : Int) (cap0 : Int) (cap1 : List Int) (cap2 : List Bool) (r : Tapi_Water × (List Int) × (List Bool)) (h : g_water_run N n turns minutes cap0 cap1 cap2 = some r) : Sound Try.prog 91 [(.agg (Tapi_Network.cells n)), (.op 0 0 0), (encL Tapi_Turn.cells Tapi_Turn.d turns), (aI minutes)] [(0, vN 3 [(aI cap0), (.os 1 0 cap1.length), (.os 2 0 cap2.length)]), (1, aO 1 cI 0 cap1), (2, aO 1 cB false cap2)] 3 (.tup []) [(0, vN 3 [(aI r.1.f_Minute), (.os 1 0 r.2.1.length), (.os 2 0 r.2.2.length)]), (1, aO 1 cI 0 r.2.1), (2, aO 1 cB false r.2.2)] := by
  unfold g_water_run at h
  refine Sound.of_runs (fu := Try.f91) (c := C_92 1) (nt := 42) (by kernel_rfl) (by kernel_rfl) (by kernel_rfl) (by kernel_rfl) (fun hm => absurd hm (by decide)) ?_
  intro E hE
  refine Runs.sA 1 [.code (C_92 2), .code (C_92 3)] ?_
  refine Runs.sR hE ⟨[(1, (.op 0 0 0)), (2, (encL Tapi_Turn.cells Tapi_Turn.d turns)), (3, (aI minutes)), (4, (.op 3 0 0))], [(0, vN 3 [(aI cap0), (.os 1 0 cap1.length), (.os 2 0 cap2.length)]), (1, aO 1 cI 0 cap1), (2, aO 1 cB false cap2), (3, vO 3 (Tapi_Network.cells n))], 19⟩ (C_92 2) [] [] (kp [1, 2, 3, 4]) (kq [0, 1, 2, 3]) 19 [] trivial ?_
  refine Runs.sA 1 [.code (C_92 6), .code (C_92 7)] ?_
  refine Runs.sR hE ⟨[(1, (.op 0 0 0)), (2, (encL Tapi_Turn.cells Tapi_Turn.d turns)), (4, (.op 3 0 0)), (10, (aI minutes)), (11, (aI 0))], [(0, vN 3 [(aI cap0), (.os 1 0 cap1.length), (.os 2 0 cap2.length)]), (1, aO 1 cI 0 cap1), (2, aO 1 cB false cap2), (3, vO 3 (Tapi_Network.cells n))], 51⟩ (C_92 6) [] [] (kp [1, 2, 4, 10, 11]) (kq [0, 1, 2, 3]) 51 [] trivial ?_
  refine Runs.sA 2 [.code (C_92 28), .inLoop (C_92 28), .inBlock 0] ?_
  exact Runs.sW hE _ [] (kp [1, 2, 4, 10, 11]) (kq [0, 1, 2, 3]) 4 [] trivial (g_water_run_L1_ok N n turns minutes N cap0 cap1 cap2 0 _ h E hE)

noncomputable def C_90 (n : Nat) : Code := cat (bodyOf Try.f41) (pth n)

theorem g_water_Run_ok (N : Nat) (n : Tapi_Network) (w : Tapi_Water) (turns : List Tapi_Turn) (minutes : Int) (r : Tapi_Water × Int) (h : g_water_Run N n w turns minutes = some r) : Sound Try.prog 41 [(.agg (Tapi_Network.cells n)), (.agg (Tapi_Water.cells w)), (encL Tapi_Turn.cells Tapi_Turn.d turns), (aI minutes)] [] 0 (.tup [(.agg (Tapi_Water.cells r.1)), (aI r.2)]) [] := by
  unfold g_water_Run at h
  refine Sound.of_runs (fu := Try.f41) (c := C_90 1) (nt := 38) (by kernel_rfl) (by kernel_rfl) (by kernel_rfl) (by kernel_rfl) (fun hm => rfl) ?_
  intro E hE
  refine Runs.sA 1 [.code (C_90 2), .code (C_90 3)] ?_
  refine Runs.sR hE ⟨[(2, (encL Tapi_Turn.cells Tapi_Turn.d turns)), (3, (aI minutes)), (4, (.op 0 0 0)), (5, (.op 16 0 0)), (8, (.op 32 0 0))], [(0, vO 3 (Tapi_Network.cells n)), (16, vO 3 (Tapi_Water.cells w)), (32, vO 3 [(aI 0), .nil, .nil])], 64⟩ (C_90 2) [] [] (kp [2, 3, 4, 5, 8]) (kq [0, 16, 32]) 64 [] trivial ?_
  refine Runs.sA 2 [.code (C_90 12), .code (C_90 13), .code (C_90 7)] ?_
  obtain ⟨rcheckTurns, hr, h⟩ := bindSome h
  refine Runs.sR hE ⟨[(2, (encL Tapi_Turn.cells Tapi_Turn.d turns)), (3, (aI minutes)), (4, (.op 0 0 0)), (5, (.op 16 0 0)), (8, (.op 32 0 0)), (10, (aI rcheckTurns))], [(0, vO 3 (Tapi_Network.cells n)), (16, vO 3 (Tapi_Water.cells w)), (32, vO 3 [(aI 0), .nil, .nil])], 144⟩ (C_90 12) [(3, ⟨[], true, (aI rcheckTurns), [], 0, false⟩)] [] (kp [2, 3, 4, 5, 8, 10]) (kq [0, 16, 32]) 144 [0 < 1, 0 < 1, Sound Try.prog 90 [(.agg (Tapi_Network.cells n)), (.agg (Tapi_Water.cells w)), (encL Tapi_Turn.cells Tapi_Turn.d turns)] [] 0 (aI rcheckTurns) []] ⟨o1, o1, (g_water_checkTurns_ok N n w turns rcheckTurns hr), trivial⟩ ?_
  refine Runs.sA 1 [.code (C_90 26), .code (C_90 27), .code (C_90 7)] ?_
  refine Runs.sR hE ⟨[(2, (encL Tapi_Turn.cells Tapi_Turn.d turns)), (3, (aI minutes)), (4, (.op 0 0 0)), (5, (.op 16 0 0)), (8, (.op 32 0 0)), (10, (aI rcheckTurns)), (17, (aB (rcheckTurns != 0)))], [(0, vO 3 (Tapi_Network.cells n)), (16, vO 3 (Tapi_Water.cells w)), (32, vO 3 [(aI 0), .nil, .nil])], 176⟩ (C_90 26) [] [] (kp [2, 3, 4, 5, 8, 10, 17]) (kq [0, 16, 32]) 176 [] trivial ?_
  refine Runs.sC 17 (C_90 54) (C_90 55) (rcheckTurns != 0) (fun hq2 => ?_) (fun hq2 => ?_)
  · have h := condT h hq2
    refine Runs.sA 1 [.code (C_90 108), .code (C_90 109), .code (C_90 7)] ?_
    refine Runs.sR hE ⟨[(8, (.op 32 0 0)), (9, (aI rcheckTurns))], [(32, vO 3 [(aI 0), .nil, .nil])], 240⟩ (C_90 108) [] [] (kp [8, 9]) (kq [32]) 240 [0 < 1] ⟨o1, trivial⟩ ?_
    obtain rfl := Option.some.inj h
    refine Runs.sW hE ⟨[(8, (.op 16 0 0)), (9, (aI rcheckTurns))], [(16, vO 3 [(aI 0), (encL cI 0 ([] : List Int)), (encL cB false ([] : List Bool))])], 240⟩ [] (kp [8, 9]) [(16, .var 32 [.keep, .sl (([] : List Int).length) (fun zi => cI (([] : List Int).getD zi 0)), .sl (([] : List Bool).length) (fun zi => cB (([] : List Bool).getD zi false))])] 240 [([] : List Int).length = 0, ([] : List Bool).length = 0] ⟨rfl, rfl, trivial⟩ ?_
    exact Runs.sT Try.f41 [16] [0 < 1] ⟨o1, trivial⟩
  · have h := condF h hq2
    refine Runs.sA 3 [.code (C_90 28), .code (C_90 29), .code (C_90 15)] ?_
    obtain ⟨rbetween, hr2, h⟩ := bindSome h
    refine Runs.sR hE ⟨[(2, (encL Tapi_Turn.cells Tapi_Turn.d turns)), (3, (aI minutes)), (4, (.op 0 0 0)), (5, (.op 16 0 0)), (8, (.op 32 0 0)), (29, (aB (cond (!rbetween) true (decide ((w64 (w.f_Minute + minutes)) > 1000000)))))], [(0, vO 3 (Tapi_Network.cells n)), (16, vO 3 (Tapi_Water.cells w)), (32, vO 3 [(aI 0), .nil, .nil])], 336⟩ (C_90 28) [(1, ⟨[], true, (aB rbetween), [], 0, false⟩)] [] (kp [2, 3, 4, 5, 8, 29]) (kq [0, 16, 32]) 336 [Sound Try.prog 59 [(aI minutes), (aI 0), (aI 10000)] [] 0 (aB rbetween) [], (!(!rbetween)) = true → AllP [(!(!rbetween)) = true, 0 < 1], (!(!rbetween)) = true → AllP [(!(!rbetween)) = true, (!(!rbetween)) = true], (!(!rbetween)) = true → AllP [(!(!rbetween)) = true], (!(!rbetween)) = true → AllP [(!(!rbetween)) = true]] ⟨(g_water_between_ok N minutes 0 10000 rbetween hr2), (fun hg => ⟨hg, o1, trivial⟩), (fun hg => ⟨hg, hg, trivial⟩), (fun hg => ⟨hg, trivial⟩), (fun hq => ⟨hq, trivial⟩), trivial⟩ ?_
    refine Runs.sC 29 (C_90 58) (C_90 59) (cond (!rbetween) true (decide ((w64 (w.f_Minute + minutes)) > 1000000))) (fun hq3 => ?_) (fun hq3 => ?_)
    · have h := condT h hq3
      refine Runs.sA 1 [.code (C_90 116), .code (C_90 117), .code (C_90 15)] ?_
      refine Runs.sR hE ⟨[(8, (.op 32 0 0)), (9, (aI 2))], [(32, vO 3 [(aI 0), .nil, .nil])], 384⟩ (C_90 116) [] [] (kp [8, 9]) (kq [32]) 384 [0 < 1] ⟨o1, trivial⟩ ?_
      obtain rfl := Option.some.inj h
      refine Runs.sW hE ⟨[(8, (.op 16 0 0)), (9, (aI 2))], [(16, vO 3 [(aI 0), (encL cI 0 ([] : List Int)), (encL cB false ([] : List Bool))])], 384⟩ [] (kp [8, 9]) [(16, .var 32 [.keep, .sl (([] : List Int).length) (fun zi => cI (([] : List Int).getD zi 0)), .sl (([] : List Bool).length) (fun zi => cB (([] : List Bool).getD zi false))])] 384 [([] : List Int).length = 0, ([] : List Bool).length = 0] ⟨rfl, rfl, trivial⟩ ?_
      exact Runs.sT Try.f41 [16] [0 < 1] ⟨o1, trivial⟩
    · have h := condF h hq3
      refine Runs.sA 2 [.code (C_90 30), .code (C_90 31)] ?_
      obtain ⟨rclone, hr3, h⟩ := bindSome h
      refine Runs.sR hE ⟨[(2, (encL Tapi_Turn.cells Tapi_Turn.d turns)), (3, (aI minutes)), (4, (.op 0 0 0)), (8, (.op 32 0 0)), (11, (.op 368 0 0))], [(0, vO 3 (Tapi_Network.cells n)), (32, vO 3 [(aI 0), .nil, .nil]), (352, aO 1 cI 0 rclone.f_Litres), (353, aO 1 cB false rclone.f_Open), (368, vN 3 [(aI rclone.f_Minute), (.os 352 0 rclone.f_Litres.length), (.os 353 0 rclone.f_Open.length)])], 400⟩ (C_90 30) [(1, ⟨[], false, (.agg [(aI rclone.f_Minute), (.os 0 0 rclone.f_Litres.length), (.os 1 0 rclone.f_Open.length)]), [(0, aO 1 cI 0 rclone.f_Litres), (1, aO 1 cB false rclone.f_Open)], 0, false⟩)] [] (kp [2, 3, 4, 8, 11]) (kq [0, 32, 352, 353, 368]) 400 [0 < 1, Sound Try.prog 88 [(.agg (Tapi_Water.cells w))] [] 0 (.agg [(aI rclone.f_Minute), (.os 0 0 rclone.f_Litres.length), (.os 1 0 rclone.f_Open.length)]) [(0, aO 1 cI 0 rclone.f_Litres), (1, aO 1 cB false rclone.f_Open)], 0 < 1] ⟨o1, (g_water_clone_ok N w rclone hr3), o1, trivial⟩ ?_
      refine Runs.sA 1 [.code (C_90 62), .code (C_90 63)] ?_
      obtain ⟨rrun, hr4, h⟩ := bindSome h
      obtain ⟨c, h⟩ := ifSome h
      obtain ⟨c2, h⟩ := ifSome h
      refine Runs.sR hE ⟨[(8, (.op 32 0 0)), (11, (.op 368 0 0))], [(32, vO 3 [(aI 0), .nil, .nil]), (352, aO 1 cI 0 rrun.2.1), (353, aO 1 cB false rrun.2.2), (368, vN 3 [(aI rrun.1.f_Minute), (.os 352 0 rrun.2.1.length), (.os 353 0 rrun.2.2.length)])], 464⟩ (C_90 62) [(3, ⟨[368, 352, 353], false, (.tup []), [(0, vN 3 [(aI rrun.1.f_Minute), (.os 1 0 rrun.2.1.length), (.os 2 0 rrun.2.2.length)]), (1, aO 1 cI 0 rrun.2.1), (2, aO 1 cB false rrun.2.2)], 0, false⟩)] [] (kp [8, 11]) (kq [32, 352, 353, 368]) 464 [0 < 1, Sound Try.prog 91 [(.agg (Tapi_Network.cells n)), (.op 0 0 0), (encL Tapi_Turn.cells Tapi_Turn.d turns), (aI minutes)] [(0, vN 3 [(aI rclone.f_Minute), (.os 1 0 rclone.f_Litres.length), (.os 2 0 rclone.f_Open.length)]), (1, aO 1 cI 0 rclone.f_Litres), (2, aO 1 cB false rclone.f_Open)] 3 (.tup []) [(0, vN 3 [(aI rrun.1.f_Minute), (.os 1 0 rrun.2.1.length), (.os 2 0 rrun.2.2.length)]), (1, aO 1 cI 0 rrun.2.1), (2, aO 1 cB false rrun.2.2)]] ⟨o1, (g_water_run_ok N n turns minutes rclone.f_Minute rclone.f_Litres rclone.f_Open rrun hr4), trivial⟩ ?_
      refine Runs.sA 1 [.code (C_90 126), .code (C_90 127)] ?_
      refine Runs.sR hE ⟨[(8, (.op 32 0 0)), (9, (aI 0))], [(32, vN 3 [(aI rrun.1.f_Minute), (.os 352 0 rrun.2.1.length), (.os 353 0 rrun.2.2.length)]), (352, aO 1 cI 0 rrun.2.1), (353, aO 1 cB false rrun.2.2)], 512⟩ (C_90 126) [] [] (kp [8, 9]) (kq [32, 352, 353]) 512 [0 < 1, 0 < 1] ⟨o1, o1, trivial⟩ ?_
      obtain rfl := Option.some.inj h
      refine Runs.sW hE ⟨[(8, (.op 16 0 0)), (9, (aI 0))], [(16, vO 3 [(aI rrun.1.f_Minute), (encL cI 0 rrun.2.1), (encL cB false rrun.2.2)])], 512⟩ [352, 353] (kp [8, 9]) [(16, .var 32 [.keep, .sl (rrun.2.1.length) (fun zi => cI (rrun.2.1.getD zi 0)), .sl (rrun.2.2.length) (fun zi => cB (rrun.2.2.getD zi false))])] 512 [rrun.2.1.length = rrun.2.1.length, 0 + rrun.2.1.length ≤ rrun.2.1.length, ∀ zi, zi < rrun.2.1.length → (fun zi => cI (rrun.2.1.getD zi 0)) zi = (fun zi => cI (rrun.2.1.getD zi 0)) (addz 0 zi), rrun.2.2.length = rrun.2.2.length, 0 + rrun.2.2.length ≤ rrun.2.2.length, ∀ zi, zi < rrun.2.2.length → (fun zi => cB (rrun.2.2.getD zi false)) zi = (fun zi => cB (rrun.2.2.getD zi false)) (addz 0 zi)] ⟨rfl, z0, (fun _ _ => rfl), rfl, z0, (fun _ _ => rfl), trivial⟩ ?_
      exact Runs.sT Try.f41 [16] [0 < 1] ⟨o1, trivial⟩

noncomputable def C_105 (n : Nat) : Code := cat (bodyOf Try.f52) (pth n)

theorem g_keelblocktop_wet_ok (N : Nat) (r : Bool) (h : g_keelblocktop_wet N = some r) : Sound Try.prog 52 [] [] 0 (aB r) [] := by
  unfold g_keelblocktop_wet at h
  refine Sound.of_runs (fu := Try.f52) (c := C_105 1) (nt := 16) (by kernel_rfl) (by kernel_rfl) (by kernel_rfl) (by kernel_rfl) (fun hm => rfl) ?_
  intro E hE
  refine Runs.sA 1 [.code (C_105 2), .code (C_105 3)] ?_
  refine Runs.sR hE ⟨[], [], 16⟩ (C_105 2) [] [] [] [] 16 [] trivial ?_
  refine Runs.sA 1 [.code (C_105 6), .code (C_105 7)] ?_
  obtain ⟨rVolume, hr, h⟩ := bindSome h
  refine Runs.sR hE ⟨[(1, (aI rVolume.1)), (2, (aI rVolume.2))], [], 160⟩ (C_105 6) [(3, ⟨[], true, (.tup [(aI rVolume.1), (aI rVolume.2)]), [], 0, false⟩)] [] (kp [1, 2]) [] 160 [Sound Try.prog 14 [(.agg [(aS (⟨#[65]⟩ : ByteArray)), (.sl 1 (fun zi => (fun zi => ([[(aI 0), (aI 100)]] : List (List AV)).getD zi []) (addz 0 zi))), (aI 50)]), (aI 30)] [] 0 (.tup [(aI rVolume.1), (aI rVolume.2)]) [], 0 + 1 ≤ 1] ⟨(Sound.conv (g_water_Volume_ok N (⟨(⟨#[65]⟩ : ByteArray), ([(⟨0, 100⟩ : Tapi_Area)] : List Tapi_Area), 50⟩ : Tapi_Basin) 30 rVolume hr) (.cons (Alike.agg (.cons (Alike.refl _) (.cons (Alike.sl rfl (fun zq hzq => get_chunk Tapi_Area.cells Tapi_Area.d ([(⟨0, 100⟩ : Tapi_Area)] : List Tapi_Area) zq hzq)) (.cons (Alike.refl _) .nil)))) (.cons (Alike.refl _) .nil))), z0, trivial⟩ ?_
  refine Runs.sA 1 [.code (C_105 14), .code (C_105 15)] ?_
  refine Runs.sR hE ⟨[(0, (aB (cond (rVolume.2 == 0) (rVolume.1 == 3000) false)))], [], 272⟩ (C_105 14) [] [] (kp [0]) [] 272 [(rVolume.2 == 0) = true → AllP [(rVolume.2 == 0) = true], (rVolume.2 == 0) = true → AllP [(rVolume.2 == 0) = true]] ⟨(fun hg => ⟨hg, trivial⟩), (fun hq => ⟨hq, trivial⟩), trivial⟩ ?_
  obtain rfl := Option.some.inj h
  refine Runs.sW hE ⟨[(0, (aB (cond (rVolume.2 == 0) (rVolume.1 == 3000) false)))], [], 272⟩ [] (kp [0]) [] 272 [] trivial ?_
  exact Runs.sT Try.f52 [] [] trivial

noncomputable def C_106 (n : Nat) : Code := cat (bodyOf Try.f53) (pth n)

theorem g_keelblocktop_inland_L1_ok (N : Nat) (n : Tapi_Network) (fuel : Nat) : ∀ (i : Int) (r : Bool), g_keelblocktop_inland_L1 N n fuel i = some r → ∀ E, EnvOk E 0 → Runs Try.prog E 53 27 (SPost E [] (aB r)) [.code (C_106 52), .inLoop (C_106 52), .inBlock 0, .code (C_106 7)] ⟨[(1, (.op 0 0 0)), (3, (aI i))], [(0, vO 3 (Tapi_Network.cells n))], 1⟩ := by
  induction fuel with
  | zero => intro _ r h; rw [g_keelblocktop_inland_L1.eq_1] at h; cases h
  | succ fuel ih =>
    intro i r h E hE
    rw [g_keelblocktop_inland_L1.eq_2] at h
    refine Runs.sA 2 [.code (C_106 208), .code (C_106 209), .code (C_106 105), .inLoop (C_106 52), .inBlock 0, .code (C_106 7)] ?_
    refine Runs.sR hE ⟨[(1, (.op 0 0 0)), (3, (aI i)), (8, (aB (decide (i < ((n.f_Links.length : Nat) : Int)))))], [(0, vO 3 (Tapi_Network.cells n))], 81⟩ (C_106 208) [] [] (kp [1, 3, 8]) (kq [0]) 81 [0 < 1] ⟨o1, trivial⟩ ?_
    refine Runs.sC 8 (C_106 418) (C_106 419) (decide (i < ((n.f_Links.length : Nat) : Int))) (fun hq2 => ?_) (fun hq2 => ?_)
    · have h := condT h hq2
      refine Runs.sA 4 [.code (C_106 840), .code (C_106 841), .inBlock 1, .code (C_106 211), .inLoop (C_106 52), .inBlock 0, .code (C_106 7)] ?_
      obtain ⟨c, h⟩ := ifSome h
      obtain ⟨c2, h⟩ := ifSome h
      refine Runs.sR hE ⟨[(1, (.op 0 0 0)), (3, (aI i)), (26, (aB (cond (streq ((n.f_Links.getD ((i).toNat) Tapi_Link.d).f_From) ByteArray.empty) true (streq ((n.f_Links.getD ((i).toNat) Tapi_Link.d).f_To) ByteArray.empty))))], [(0, vO 3 (Tapi_Network.cells n))], 337⟩ (C_106 840) [] [] (kp [1, 3, 26]) (kq [0]) 337 [0 < 1, 0 ≤ i ∧ i < ((n.f_Links.length : Nat) : Int), (!(streq ((n.f_Links.getD ((i).toNat) Tapi_Link.d).f_From) ByteArray.empty)) = true → AllP [(!(streq ((n.f_Links.getD ((i).toNat) Tapi_Link.d).f_From) ByteArray.empty)) = true, 0 < 1], (!(streq ((n.f_Links.getD ((i).toNat) Tapi_Link.d).f_From) ByteArray.empty)) = true → AllP [(!(streq ((n.f_Links.getD ((i).toNat) Tapi_Link.d).f_From) ByteArray.empty)) = true, (!(streq ((n.f_Links.getD ((i).toNat) Tapi_Link.d).f_From) ByteArray.empty)) = true, 0 ≤ i ∧ i < ((n.f_Links.length : Nat) : Int)], (!(streq ((n.f_Links.getD ((i).toNat) Tapi_Link.d).f_From) ByteArray.empty)) = true → AllP [(!(streq ((n.f_Links.getD ((i).toNat) Tapi_Link.d).f_From) ByteArray.empty)) = true], (!(streq ((n.f_Links.getD ((i).toNat) Tapi_Link.d).f_From) ByteArray.empty)) = true → AllP [(!(streq ((n.f_Links.getD ((i).toNat) Tapi_Link.d).f_From) ByteArray.empty)) = true], (!(streq ((n.f_Links.getD ((i).toNat) Tapi_Link.d).f_From) ByteArray.empty)) = true → AllP [(!(streq ((n.f_Links.getD ((i).toNat) Tapi_Link.d).f_From) ByteArray.empty)) = true], (!(streq ((n.f_Links.getD ((i).toNat) Tapi_Link.d).f_From) ByteArray.empty)) = true → AllP [(!(streq ((n.f_Links.getD ((i).toNat) Tapi_Link.d).f_From) ByteArray.empty)) = true]] ⟨o1, c, (fun hg => ⟨hg, o1, trivial⟩), (fun hg => ⟨hg, hg, (c2 hg), trivial⟩), (fun hg => ⟨hg, trivial⟩), (fun hg => ⟨hg, trivial⟩), (fun hg => ⟨hg, trivial⟩), (fun hq => ⟨hq, trivial⟩), trivial⟩ ?_
      refine Runs.sC 26 (C_106 1682) (C_106 1683) (cond (streq ((n.f_Links.getD ((i).toNat) Tapi_Link.d).f_From) ByteArray.empty) true (streq ((n.f_Links.getD ((i).toNat) Tapi_Link.d).f_To) ByteArray.empty)) (fun hq3 => ?_) (fun hq3 => ?_)
      · have h := condT h hq3
        refine Runs.sA 1 [.code (C_106 3364), .code (C_106 3365), .inBlock 1, .code (C_106 211), .inLoop (C_106 52), .inBlock 0, .code (C_106 7)] ?_
        refine Runs.sR hE ⟨[(2, (aB false))], [], 353⟩ (C_106 3364) [] [] (kp [2]) [] 353 [] trivial ?_
        obtain rfl := Option.some.inj h
        refine Runs.sW hE ⟨[(2, (aB false))], [], 353⟩ [] (kp [2]) [] 353 [] trivial ?_
        exact Runs.sT Try.f53 [] [] trivial
      · have h := condF h hq3
        refine Runs.sA 2 [.code (C_106 211), .inLoop (C_106 52), .inBlock 0, .code (C_106 7)] ?_
        refine Runs.sR hE ⟨[(1, (.op 0 0 0)), (3, (aI (w64 (i + 1))))], [(0, vO 3 (Tapi_Network.cells n))], 385⟩ (C_106 211) [] [] (kp [1, 3]) (kq [0]) 385 [] trivial ?_
        refine Runs.sA 1 [.code (C_106 52), .inLoop (C_106 52), .inBlock 0, .code (C_106 7)] ?_
        exact Runs.sW hE _ [] (kp [1, 3]) (kq [0]) 1 [] trivial (ih (w64 (i + 1)) _ h E hE)
    · have h := condF h hq2
      refine Runs.sA 2 [.code (C_106 14), .code (C_106 15)] ?_
      refine Runs.sR hE ⟨[(2, (aB true))], [], 97⟩ (C_106 14) [] [] (kp [2]) [] 97 [] trivial ?_
      obtain rfl := Option.some.inj h
      refine Runs.sW hE ⟨[(2, (aB true))], [], 97⟩ [] (kp [2]) [] 97 [] trivial ?_
      exact Runs.sT Try.f53 [] [] trivial

theorem g_keelblocktop_inland_ok (N : Nat) (n : Tapi_Network) (r : Bool) (h : g_keelblocktop_inland N n = some r) : Sound Try.prog 53 [(.agg (Tapi_Network.cells n))] [] 0 (aB r) [] := by
  unfold g_keelblocktop_inland at h
  refine Sound.of_runs (fu := Try.f53) (c := C_106 1) (nt := 27) (by kernel_rfl) (by kernel_rfl) (by kernel_rfl) (by kernel_rfl) (fun hm => rfl) ?_
  intro E hE
  refine Runs.sA 1 [.code (C_106 2), .code (C_106 3)] ?_
  refine Runs.sR hE ⟨[(1, (.op 0 0 0))], [(0, vO 3 (Tapi_Network.cells n))], 32⟩ (C_106 2) [] [] (kp [1]) (kq [0]) 32 [] trivial ?_
  refine Runs.sA 2 [.code (C_106 12), .code (C_106 13), .code (C_106 7)] ?_
  refine Runs.sR hE ⟨[(1, (.op 0 0 0)), (3, (aI 0))], [(0, vO 3 (Tapi_Network.cells n))], 48⟩ (C_106 12) [] [] (kp [1, 3]) (kq [0]) 48 [] trivial ?_
  refine Runs.sA 2 [.code (C_106 52), .inLoop (C_106 52), .inBlock 0, .code (C_106 7)] ?_
  exact Runs.sW hE _ [] (kp [1, 3]) (kq [0]) 1 [] trivial (g_keelblocktop_inland_L1_ok N n N 0 _ h E hE)

noncomputable def C_107 (n : Nat) : Code := cat (bodyOf Try.f54) (pth n)

theorem g_keelblocktop_litres_L1_ok (N : Nat) (w : Tapi_Water) (fuel : Nat) : ∀ (sum : Int) (i : Int) (r : Int), g_keelblocktop_litres_L1 N w fuel sum i = some r → ∀ E, EnvOk E 0 → Runs Try.prog E 54 20 (SPost E [] (aI r)) [.code (C_107 116), .inLoop (C_107 116), .inBlock 0, .code (C_107 15)] ⟨[(1, (.op 0 0 0)), (3, (aI sum)), (4, (aI i))], [(0, vO 3 (Tapi_Water.cells w))], 1⟩ := by
  induction fuel with
  | zero => intro _ _ r h; rw [g_keelblocktop_litres_L1.eq_1] at h; cases h
  | succ fuel ih =>
    intro sum i r h E hE
    rw [g_keelblocktop_litres_L1.eq_2] at h
    refine Runs.sA 2 [.code (C_107 464), .code (C_107 465), .code (C_107 233), .inLoop (C_107 116), .inBlock 0, .code (C_107 15)] ?_
    refine Runs.sR hE ⟨[(1, (.op 0 0 0)), (3, (aI sum)), (4, (aI i)), (9, (aB (decide (i < ((w.f_Litres.length : Nat) : Int)))))], [(0, vO 3 (Tapi_Water.cells w))], 81⟩ (C_107 464) [] [] (kp [1, 3, 4, 9]) (kq [0]) 81 [0 < 1] ⟨o1, trivial⟩ ?_
    refine Runs.sC 9 (C_107 930) (C_107 931) (decide (i < ((w.f_Litres.length : Nat) : Int))) (fun hq2 => ?_) (fun hq2 => ?_)
    · have h := condT h hq2
      refine Runs.sA 3 [.code (C_107 932), .inBlock 1, .code (C_107 467), .inLoop (C_107 116), .inBlock 0, .code (C_107 15)] ?_
      obtain ⟨c, h⟩ := ifSome h
      refine Runs.sR hE ⟨[(1, (.op 0 0 0)), (3, (aI (w64 (sum + (w.f_Litres.getD ((i).toNat) 0))))), (4, (aI i))], [(0, vO 3 (Tapi_Water.cells w))], 209⟩ (C_107 932) [] [] (kp [1, 3, 4]) (kq [0]) 209 [0 < 1, 0 ≤ i ∧ i < ((w.f_Litres.length : Nat) : Int)] ⟨o1, c, trivial⟩ ?_
      refine Runs.sA 1 [.code (C_107 467), .inLoop (C_107 116), .inBlock 0, .code (C_107 15)] ?_
      refine Runs.sR hE ⟨[(1, (.op 0 0 0)), (3, (aI (w64 (sum + (w.f_Litres.getD ((i).toNat) 0))))), (4, (aI (w64 (i + 1))))], [(0, vO 3 (Tapi_Water.cells w))], 257⟩ (C_107 467) [] [] (kp [1, 3, 4]) (kq [0]) 257 [] trivial ?_
      refine Runs.sA 1 [.code (C_107 116), .inLoop (C_107 116), .inBlock 0, .code (C_107 15)] ?_
      exact Runs.sW hE _ [] (kp [1, 3, 4]) (kq [0]) 1 [] trivial (ih (w64 (sum + (w.f_Litres.getD ((i).toNat) 0))) (w64 (i + 1)) _ h E hE)
    · have h := condF h hq2
      refine Runs.sA 2 [.code (C_107 30), .code (C_107 31)] ?_
      refine Runs.sR hE ⟨[(2, (aI sum))], [], 113⟩ (C_107 30) [] [] (kp [2]) [] 113 [] trivial ?_
      obtain rfl := Option.some.inj h
      refine Runs.sW hE ⟨[(2, (aI sum))], [], 113⟩ [] (kp [2]) [] 113 [] trivial ?_
      exact Runs.sT Try.f54 [] [] trivial

theorem g_keelblocktop_litres_ok (N : Nat) (w : Tapi_Water) (r : Int) (h : g_keelblocktop_litres N w = some r) : Sound Try.prog 54 [(.agg (Tapi_Water.cells w))] [] 0 (aI r) [] := by
  unfold g_keelblocktop_litres at h
  refine Sound.of_runs (fu := Try.f54) (c := C_107 1) (nt := 20) (by kernel_rfl) (by kernel_rfl) (by kernel_rfl) (by kernel_rfl) (fun hm => rfl) ?_
  intro E hE
  refine Runs.sA 1 [.code (C_107 2), .code (C_107 3)] ?_
  refine Runs.sR hE ⟨[(1, (.op 0 0 0))], [(0, vO 3 (Tapi_Water.cells w))], 32⟩ (C_107 2) [] [] (kp [1]) (kq [0]) 32 [] trivial ?_
  refine Runs.sA 1 [.code (C_107 6), .code (C_107 7)] ?_
  refine Runs.sR hE ⟨[(1, (.op 0 0 0)), (3, (aI 0))], [(0, vO 3 (Tapi_Water.cells w))], 48⟩ (C_107 6) [] [] (kp [1, 3]) (kq [0]) 48 [] trivial ?_
  refine Runs.sA 2 [.code (C_107 28), .code (C_107 29), .code (C_107 15)] ?_
  refine Runs.sR hE ⟨[(1, (.op 0 0 0)), (3, (aI 0)), (4, (aI 0))], [(0, vO 3 (Tapi_Water.cells w))], 64⟩ (C_107 28) [] [] (kp [1, 3, 4]) (kq [0]) 64 [] trivial ?_
  refine Runs.sA 2 [.code (C_107 116), .inLoop (C_107 116), .inBlock 0, .code (C_107 15)] ?_
  exact Runs.sW hE _ [] (kp [1, 3, 4]) (kq [0]) 1 [] trivial (g_keelblocktop_litres_L1_ok N w N 0 0 _ h E hE)

noncomputable def C_104 (n : Nat) : Code := cat (bodyOf Try.f11) (pth n)

theorem g_keelblocktop_TopWaterKept_J2_ok (N : Nat) (c : Tkeelblocklaw05_Case) (rRun : Tapi_Water × Int) (i : Int) (K_g_keelblocktop_TopWaterKept_L1 : Int → Option (Bool))
    (hK_g_keelblocktop_TopWaterKept_L1 : ∀ (i : Int) (r : Bool), K_g_keelblocktop_TopWaterKept_L1 i = some r → ∀ E, EnvOk E 0 → Runs Try.prog E 11 217 (SPost E [] (aB r)) [.code (C_104 500), .inLoop (C_104 500), .inBlock 0, .code (C_104 63)] ⟨[(2, (.op 0 0 0)), (5, (.op 1 0 0)), (7, (aI i))], [(0, vO 7 (Tkeelblocklaw05_Case.cells c)), (1, vO 3 (Tapi_Water.cells rRun.1))], 2⟩) (r : Bool) (h : g_keelblocktop_TopWaterKept_J2 N c rRun i K_g_keelblocktop_TopWaterKept_L1 = some r) : ∀ E, EnvOk E 0 → Runs Try.prog E 11 217 (SPost E [] (aB r)) [.code (C_104 2003), .inLoop (C_104 500), .inBlock 0, .code (C_104 63)] ⟨[(2, (.op 0 0 0)), (5, (.op 1 0 0)), (7, (aI i))], [(0, vO 7 (Tkeelblocklaw05_Case.cells c)), (1, vO 3 (Tapi_Water.cells rRun.1))], 2⟩ := by
  intro E hE
  unfold g_keelblocktop_TopWaterKept_J2 at h
  refine Runs.sR hE ⟨[(2, (.op 0 0 0)), (5, (.op 1 0 0)), (7, (aI (w64 (i + 1))))], [(0, vO 7 (Tkeelblocklaw05_Case.cells c)), (1, vO 3 (Tapi_Water.cells rRun.1))], 50⟩ (C_104 2003) [] [] (kp [2, 5, 7]) (kq [0, 1]) 50 [] trivial ?_
  refine Runs.sA 1 [.code (C_104 500), .inLoop (C_104 500), .inBlock 0, .code (C_104 63)] ?_
  exact Runs.sW hE _ [] (kp [2, 5, 7]) (kq [0, 1]) 2 [] trivial (hK_g_keelblocktop_TopWaterKept_L1 (w64 (i + 1)) _ h E hE)

theorem g_keelblocktop_TopWaterKept_L1_ok (N : Nat) (c : Tkeelblocklaw05_Case) (rRun : Tapi_Water × Int) (fuel : Nat) : ∀ (i : Int) (r : Bool), g_keelblocktop_TopWaterKept_L1 N c rRun fuel i = some r → ∀ E, EnvOk E 0 → Runs Try.prog E 11 217 (SPost E [] (aB r)) [.code (C_104 500), .inLoop (C_104 500), .inBlock 0, .code (C_104 63)] ⟨[(2, (.op 0 0 0)), (5, (.op 1 0 0)), (7, (aI i))], [(0, vO 7 (Tkeelblocklaw05_Case.cells c)), (1, vO 3 (Tapi_Water.cells rRun.1))], 2⟩ := by
  induction fuel with
  | zero => intro _ r h; rw [g_keelblocktop_TopWaterKept_L1.eq_1] at h; cases h
  | succ fuel ih =>
    intro i r h E hE
    rw [g_keelblocktop_TopWaterKept_L1.eq_2] at h
    refine Runs.sA 2 [.code (C_104 2000), .code (C_104 2001), .code (C_104 1001), .inLoop (C_104 500), .inBlock 0, .code (C_104 63)] ?_
    refine Runs.sR hE ⟨[(2, (.op 0 0 0)), (5, (.op 1 0 0)), (7, (aI i)), (84, (aB (decide (i < ((c.f_N.f_Links.length : Nat) : Int)))))], [(0, vO 7 (Tkeelblocklaw05_Case.cells c)), (1, vO 3 (Tapi_Water.cells rRun.1))], 98⟩ (C_104 2000) [] [] (kp [2, 5, 7, 84]) (kq [0, 1]) 98 [0 < 1] ⟨o1, trivial⟩ ?_
    refine Runs.sC 84 (C_104 4002) (C_104 4003) (decide (i < ((c.f_N.f_Links.length : Nat) : Int))) (fun hq4 => ?_) (fun hq4 => ?_)
    · have h := condT h hq4
      refine Runs.sA 4 [.code (C_104 8008), .code (C_104 8009), .inBlock 1, .code (C_104 2003), .inLoop (C_104 500), .inBlock 0, .code (C_104 63)] ?_
      obtain ⟨c2, h⟩ := ifSome h
      refine Runs.sR hE ⟨[(2, (.op 0 0 0)), (5, (.op 1 0 0)), (7, (aI i)), (8, (.op 194 0 0))], [(0, vO 7 (Tkeelblocklaw05_Case.cells c)), (1, vO 3 (Tapi_Water.cells rRun.1)), (194, vO 8 (Tapi_Link.cells (c.f_N.f_Links.getD ((i).toNat) Tapi_Link.d)))], 226⟩ (C_104 8008) [] [] (kp [2, 5, 7, 8]) (kq [0, 1, 194]) 226 [0 < 1, 0 ≤ i ∧ i < ((c.f_N.f_Links.length : Nat) : Int), 0 < 1] ⟨o1, c2, o1, trivial⟩ ?_
      refine Runs.sA 1 [.code (C_104 16018), .code (C_104 16019), .inBlock 1, .code (C_104 2003), .inLoop (C_104 500), .inBlock 0, .code (C_104 63)] ?_
      obtain ⟨rBasin, hr8, h⟩ := bindSome h
      obtain ⟨rBasin2, hr9, h⟩ := bindSome h
      refine Runs.sR hE ⟨[(2, (.op 0 0 0)), (5, (.op 1 0 0)), (7, (aI i)), (8, (.op 194 0 0)), (9, (aI rBasin)), (10, (aI rBasin2))], [(0, vO 7 (Tkeelblocklaw05_Case.cells c)), (1, vO 3 (Tapi_Water.cells rRun.1)), (194, vO 8 (Tapi_Link.cells (c.f_N.f_Links.getD ((i).toNat) Tapi_Link.d)))], 418⟩ (C_104 16018) [(4, ⟨[], true, (aI rBasin), [], 0, false⟩), (9, ⟨[], true, (aI rBasin2), [], 0, false⟩)] [] (kp [2, 5, 7, 8, 9, 10]) (kq [0, 1, 194]) 418 [0 < 1, 0 < 1, Sound Try.prog 55 [(.agg (Tapi_Network.cells c.f_N)), (aS ((c.f_N.f_Links.getD ((i).toNat) Tapi_Link.d).f_From))] [] 0 (aI rBasin) [], 0 < 1, 0 < 1, Sound Try.prog 55 [(.agg (Tapi_Network.cells c.f_N)), (aS ((c.f_N.f_Links.getD ((i).toNat) Tapi_Link.d).f_To))] [] 0 (aI rBasin2) []] ⟨o1, o1, (g_r05_Basin_ok N c.f_N ((c.f_N.f_Links.getD ((i).toNat) Tapi_Link.d).f_From) rBasin hr8), o1, o1, (g_r05_Basin_ok N c.f_N ((c.f_N.f_Links.getD ((i).toNat) Tapi_Link.d).f_To) rBasin2 hr9), trivial⟩ ?_
      refine Runs.sA 2 [.code (C_104 64076), .code (C_104 64077), .code (C_104 32039), .inBlock 1, .code (C_104 2003), .inLoop (C_104 500), .inBlock 0, .code (C_104 63)] ?_
      refine Runs.sR hE ⟨[(2, (.op 0 0 0)), (5, (.op 1 0 0)), (7, (aI i)), (8, (.op 194 0 0)), (9, (aI rBasin)), (10, (aI rBasin2)), (113, (aB (cond (cond ((c.f_N.f_Links.getD ((i).toNat) Tapi_Link.d).f_Kind != 0) true (decide (rBasin < 0))) true (decide (rBasin2 < 0)))))], [(0, vO 7 (Tkeelblocklaw05_Case.cells c)), (1, vO 3 (Tapi_Water.cells rRun.1)), (194, vO 8 (Tapi_Link.cells (c.f_N.f_Links.getD ((i).toNat) Tapi_Link.d)))], 594⟩ (C_104 64076) [] [] (kp [2, 5, 7, 8, 9, 10, 113]) (kq [0, 1, 194]) 594 [0 < 1, (!((c.f_N.f_Links.getD ((i).toNat) Tapi_Link.d).f_Kind != 0)) = true → AllP [(!((c.f_N.f_Links.getD ((i).toNat) Tapi_Link.d).f_Kind != 0)) = true], (!((c.f_N.f_Links.getD ((i).toNat) Tapi_Link.d).f_Kind != 0)) = true → AllP [(!((c.f_N.f_Links.getD ((i).toNat) Tapi_Link.d).f_Kind != 0)) = true], (!(cond ((c.f_N.f_Links.getD ((i).toNat) Tapi_Link.d).f_Kind != 0) true (decide (rBasin < 0)))) = true → AllP [(!(cond ((c.f_N.f_Links.getD ((i).toNat) Tapi_Link.d).f_Kind != 0) true (decide (rBasin < 0)))) = true], (!(cond ((c.f_N.f_Links.getD ((i).toNat) Tapi_Link.d).f_Kind != 0) true (decide (rBasin < 0)))) = true → AllP [(!(cond ((c.f_N.f_Links.getD ((i).toNat) Tapi_Link.d).f_Kind != 0) true (decide (rBasin < 0)))) = true]] ⟨o1, (fun hg => ⟨hg, trivial⟩), (fun hq => ⟨hq, trivial⟩), (fun hg => ⟨hg, trivial⟩), (fun hq => ⟨hq, trivial⟩), trivial⟩ ?_
      refine Runs.sC 113 (C_104 128154) (C_104 128155) (cond (cond ((c.f_N.f_Links.getD ((i).toNat) Tapi_Link.d).f_Kind != 0) true (decide (rBasin < 0))) true (decide (rBasin2 < 0))) (fun hq5 => ?_) (fun hq5 => ?_)
      · have h := condT h hq5
        refine Runs.sA 1 [.code (C_104 2003), .inLoop (C_104 500), .inBlock 0, .code (C_104 63)] ?_
        exact Runs.sW hE _ [] (kp [2, 5, 7]) (kq [0, 1]) 2 [] trivial (g_keelblocktop_TopWaterKept_J2_ok N c rRun i (g_keelblocktop_TopWaterKept_L1 N c rRun fuel) ih _ h E hE)
      · have h := condF h hq5
        refine Runs.sA 2 [.code (C_104 64078), .code (C_104 64079), .inBlock 1, .code (C_104 2003), .inLoop (C_104 500), .inBlock 0, .code (C_104 63)] ?_
        refine Runs.sR hE ⟨[(2, (.op 0 0 0)), (5, (.op 1 0 0)), (7, (aI i)), (9, (aI rBasin)), (10, (aI rBasin2)), (11, (.op 738 0 0))], [(0, vO 7 (Tkeelblocklaw05_Case.cells c)), (1, vO 3 (Tapi_Water.cells rRun.1)), (706, aO 8 Tapi_Link.cells Tapi_Link.d ([(c.f_N.f_Links.getD ((i).toNat) Tapi_Link.d)] : List Tapi_Link)), (738, vN 3 [(encL Tapi_Basin.cells Tapi_Basin.d c.f_N.f_Basins), (encL Tapi_Mark.cells Tapi_Mark.d c.f_N.f_Sea), (.os 706 0 (([(c.f_N.f_Links.getD ((i).toNat) Tapi_Link.d)] : List Tapi_Link).length))])], 770⟩ (C_104 64078) [] [] (kp [2, 5, 7, 9, 10, 11]) (kq [0, 1] ++ [(706, .arr 706 (([(c.f_N.f_Links.getD ((i).toNat) Tapi_Link.d)] : List Tapi_Link).length) (fun zi => Tapi_Link.cells (([(c.f_N.f_Links.getD ((i).toNat) Tapi_Link.d)] : List Tapi_Link).getD zi Tapi_Link.d))), (738, .var 738 [.keep, .keep, .osl (([(c.f_N.f_Links.getD ((i).toNat) Tapi_Link.d)] : List Tapi_Link).length)])]) 770 [0 < 1, 0 < 1, 0 < 1, 0 < 1, 1 = ([(c.f_N.f_Links.getD ((i).toNat) Tapi_Link.d)] : List Tapi_Link).length, ∀ zi, zi < ([(c.f_N.f_Links.getD ((i).toNat) Tapi_Link.d)] : List Tapi_Link).length → (fun zi => Tapi_Link.cells (([(c.f_N.f_Links.getD ((i).toNat) Tapi_Link.d)] : List Tapi_Link).getD zi Tapi_Link.d)) zi = (fun zi => ([[(aS ((c.f_N.f_Links.getD ((i).toNat) Tapi_Link.d).f_Name)), (aI ((c.f_N.f_Links.getD ((i).toNat) Tapi_Link.d).f_Kind)), (aS ((c.f_N.f_Links.getD ((i).toNat) Tapi_Link.d).f_From)), (aS ((c.f_N.f_Links.getD ((i).toNat) Tapi_Link.d).f_To)), (aI ((c.f_N.f_Links.getD ((i).toNat) Tapi_Link.d).f_Sill)), (aI ((c.f_N.f_Links.getD ((i).toNat) Tapi_Link.d).f_Rate)), (aI ((c.f_N.f_Links.getD ((i).toNat) Tapi_Link.d).f_Factor)), (aI ((c.f_N.f_Links.getD ((i).toNat) Tapi_Link.d).f_Lift))]] : List (List AV)).getD zi []) zi, 1 = ([(c.f_N.f_Links.getD ((i).toNat) Tapi_Link.d)] : List Tapi_Link).length] ⟨o1, o1, o1, o1, rfl, (fun zq hzq => get_chunk Tapi_Link.cells Tapi_Link.d ([(c.f_N.f_Links.getD ((i).toNat) Tapi_Link.d)] : List Tapi_Link) zq hzq), rfl, trivial⟩ ?_
        refine Runs.sA 1 [.code (C_104 128158), .code (C_104 128159), .inBlock 1, .code (C_104 2003), .inLoop (C_104 500), .inBlock 0, .code (C_104 63)] ?_
        refine Runs.sR hE ⟨[(2, (.op 0 0 0)), (5, (.op 1 0 0)), (7, (aI i)), (9, (aI rBasin)), (10, (aI rBasin2)), (11, (.op 738 0 0)), (12, (.op 866 0 0))], [(0, vO 7 (Tkeelblocklaw05_Case.cells c)), (1, vO 3 (Tapi_Water.cells rRun.1)), (706, aO 8 Tapi_Link.cells Tapi_Link.d ([(c.f_N.f_Links.getD ((i).toNat) Tapi_Link.d)] : List Tapi_Link)), (738, vN 3 [(encL Tapi_Basin.cells Tapi_Basin.d c.f_N.f_Basins), (encL Tapi_Mark.cells Tapi_Mark.d c.f_N.f_Sea), (.os 706 0 (([(c.f_N.f_Links.getD ((i).toNat) Tapi_Link.d)] : List Tapi_Link).length))]), (834, aO 1 cB false ([true] : List Bool)), (866, vN 3 [(aI rRun.1.f_Minute), (encL cI 0 rRun.1.f_Litres), (.os 834 0 (([true] : List Bool).length))])], 898⟩ (C_104 128158) [] [] (kp [2, 5, 7, 9, 10, 11, 12]) (kq [0, 1, 706, 738] ++ [(834, .arr 834 (([true] : List Bool).length) (fun zi => cB (([true] : List Bool).getD zi false))), (866, .var 866 [.keep, .keep, .osl (([true] : List Bool).length)])]) 898 [0 < 1, 0 < 1, 0 < 1, 1 = ([true] : List Bool).length, ∀ zi, zi < ([true] : List Bool).length → (fun zi => cB (([true] : List Bool).getD zi false)) zi = (fun zi => ([[(aB true)]] : List (List AV)).getD zi []) zi, 1 = ([true] : List Bool).length] ⟨o1, o1, o1, rfl, (fun zq hzq => get_chunk cB false ([true] : List Bool) zq hzq), rfl, trivial⟩ ?_
        refine Runs.sA 1 [.code (C_104 256318), .code (C_104 256319), .inBlock 1, .code (C_104 2003), .inLoop (C_104 500), .inBlock 0, .code (C_104 63)] ?_
        obtain ⟨rStep, hr10, h⟩ := bindSome h
        refine Runs.sR hE ⟨[(2, (.op 0 0 0)), (5, (.op 1 0 0)), (7, (aI i)), (9, (aI rBasin)), (10, (aI rBasin2)), (11, (.op 738 0 0)), (12, (.op 866 0 0)), (13, (.op 1010 0 0)), (15, (aI rStep.2.2))], [(0, vO 7 (Tkeelblocklaw05_Case.cells c)), (1, vO 3 (Tapi_Water.cells rRun.1)), (706, aO 8 Tapi_Link.cells Tapi_Link.d ([(c.f_N.f_Links.getD ((i).toNat) Tapi_Link.d)] : List Tapi_Link)), (738, vN 3 [(encL Tapi_Basin.cells Tapi_Basin.d c.f_N.f_Basins), (encL Tapi_Mark.cells Tapi_Mark.d c.f_N.f_Sea), (.os 706 0 (([(c.f_N.f_Links.getD ((i).toNat) Tapi_Link.d)] : List Tapi_Link).length))]), (834, aO 1 cB false ([true] : List Bool)), (866, vN 3 [(aI rRun.1.f_Minute), (encL cI 0 rRun.1.f_Litres), (.os 834 0 (([true] : List Bool).length))]), (930, aO 1 cI 0 rStep.1.f_Litres), (931, aO 1 cB false rStep.1.f_Open), (1010, vN 3 [(aI rStep.1.f_Minute), (.os 930 0 rStep.1.f_Litres.length), (.os 931 0 rStep.1.f_Open.length)])], 1074⟩ (C_104 256318) [(2, ⟨[], false, (.tup [(.agg [(aI rStep.1.f_Minute), (.os 0 0 rStep.1.f_Litres.length), (.os 1 0 rStep.1.f_Open.length)]), (.os 2 0 rStep.2.1.length), (aI rStep.2.2)]), [(0, aO 1 cI 0 rStep.1.f_Litres), (1, aO 1 cB false rStep.1.f_Open), (2, aO 1 cI 0 rStep.2.1)], 0, false⟩)] [] (kp [2, 5, 7, 9, 10, 11, 12, 13, 15]) (kq [0, 1, 706, 738, 834, 866, 930, 931, 1010]) 1074 [0 < 1, 0 < 1, Sound Try.prog 40 [(.agg [(encL Tapi_Basin.cells Tapi_Basin.d c.f_N.f_Basins), (encL Tapi_Mark.cells Tapi_Mark.d c.f_N.f_Sea), (encL Tapi_Link.cells Tapi_Link.d ([(c.f_N.f_Links.getD ((i).toNat) Tapi_Link.d)] : List Tapi_Link))]), (.agg [(aI rRun.1.f_Minute), (encL cI 0 rRun.1.f_Litres), (encL cB false ([true] : List Bool))])] [] 0 (.tup [(.agg [(aI rStep.1.f_Minute), (.os 0 0 rStep.1.f_Litres.length), (.os 1 0 rStep.1.f_Open.length)]), (.os 2 0 rStep.2.1.length), (aI rStep.2.2)]) [(0, aO 1 cI 0 rStep.1.f_Litres), (1, aO 1 cB false rStep.1.f_Open), (2, aO 1 cI 0 rStep.2.1)], ∀ zi, zi < rStep.1.f_Litres.length → AV.flatL (cI (rStep.1.f_Litres.getD zi 0)) = true, ∀ zi, zi < rStep.1.f_Open.length → AV.flatL (cB (rStep.1.f_Open.getD zi false)) = true, ∀ zi, zi < rStep.2.1.length → AV.flatL (cI (rStep.2.1.getD zi 0)) = true, 0 + ([(c.f_N.f_Links.getD ((i).toNat) Tapi_Link.d)] : List Tapi_Link).length ≤ ([(c.f_N.f_Links.getD ((i).toNat) Tapi_Link.d)] : List Tapi_Link).length, 0 + ([true] : List Bool).length ≤ ([true] : List Bool).length, 0 < 1] ⟨o1, o1, (g_water_Step_ok N (⟨c.f_N.f_Basins, c.f_N.f_Sea, ([(c.f_N.f_Links.getD ((i).toNat) Tapi_Link.d)] : List Tapi_Link)⟩ : Tapi_Network) (⟨rRun.1.f_Minute, rRun.1.f_Litres, ([true] : List Bool)⟩ : Tapi_Water) rStep hr10), (fun _ _ => rfl), (fun _ _ => rfl), (fun _ _ => rfl), z0, z0, o1, trivial⟩ ?_
        refine Runs.sA 1 [.code (C_104 512638), .code (C_104 512639), .inBlock 1, .code (C_104 2003), .inLoop (C_104 500), .inBlock 0, .code (C_104 63)] ?_
        obtain ⟨rLevels, hr11, h⟩ := bindSome h
        refine Runs.sR hE ⟨[(2, (.op 0 0 0)), (5, (.op 1 0 0)), (7, (aI i)), (9, (aI rBasin)), (10, (aI rBasin2)), (11, (.op 738 0 0)), (13, (.op 1010 0 0)), (15, (aI rStep.2.2)), (16, (.os 1106 0 rLevels.1.length)), (17, (aI rLevels.2))], [(0, vO 7 (Tkeelblocklaw05_Case.cells c)), (1, vO 3 (Tapi_Water.cells rRun.1)), (706, aO 8 Tapi_Link.cells Tapi_Link.d ([(c.f_N.f_Links.getD ((i).toNat) Tapi_Link.d)] : List Tapi_Link)), (738, vN 3 [(encL Tapi_Basin.cells Tapi_Basin.d c.f_N.f_Basins), (encL Tapi_Mark.cells Tapi_Mark.d c.f_N.f_Sea), (.os 706 0 (([(c.f_N.f_Links.getD ((i).toNat) Tapi_Link.d)] : List Tapi_Link).length))]), (930, aO 1 cI 0 rStep.1.f_Litres), (931, aO 1 cB false rStep.1.f_Open), (1010, vN 3 [(aI rStep.1.f_Minute), (.os 930 0 rStep.1.f_Litres.length), (.os 931 0 rStep.1.f_Open.length)]), (1106, aO 1 cI 0 rLevels.1)], 1202⟩ (C_104 512638) [(2, ⟨[], false, (.tup [(.os 0 0 rLevels.1.length), (aI rLevels.2)]), [(0, aO 1 cI 0 rLevels.1)], 0, false⟩)] [] (kp [2, 5, 7, 9, 10, 11, 13, 15, 16, 17]) (kq [0, 1, 706, 738, 930, 931, 1010, 1106]) 1202 [0 < 1, 0 < 1, Sound Try.prog 31 [(.agg [(encL Tapi_Basin.cells Tapi_Basin.d c.f_N.f_Basins), (encL Tapi_Mark.cells Tapi_Mark.d c.f_N.f_Sea), (encL Tapi_Link.cells Tapi_Link.d ([(c.f_N.f_Links.getD ((i).toNat) Tapi_Link.d)] : List Tapi_Link))]), (.agg [(aI rRun.1.f_Minute), (encL cI 0 rRun.1.f_Litres), (encL cB false ([true] : List Bool))])] [] 0 (.tup [(.os 0 0 rLevels.1.length), (aI rLevels.2)]) [(0, aO 1 cI 0 rLevels.1)], ∀ zi, zi < rLevels.1.length → AV.flatL (cI (rLevels.1.getD zi 0)) = true, 0 + ([(c.f_N.f_Links.getD ((i).toNat) Tapi_Link.d)] : List Tapi_Link).length ≤ ([(c.f_N.f_Links.getD ((i).toNat) Tapi_Link.d)] : List Tapi_Link).length, 0 + ([true] : List Bool).length ≤ ([true] : List Bool).length] ⟨o1, o1, (g_water_Levels_ok N (⟨c.f_N.f_Basins, c.f_N.f_Sea, ([(c.f_N.f_Links.getD ((i).toNat) Tapi_Link.d)] : List Tapi_Link)⟩ : Tapi_Network) (⟨rRun.1.f_Minute, rRun.1.f_Litres, ([true] : List Bool)⟩ : Tapi_Water) rLevels hr11), (fun _ _ => rfl), z0, z0, trivial⟩ ?_
        refine Runs.sA 1 [.code (C_104 1025278), .code (C_104 1025279), .inBlock 1, .code (C_104 2003), .inLoop (C_104 500), .inBlock 0, .code (C_104 63)] ?_
        obtain ⟨rLevels2, hr12, h⟩ := bindSome h
        refine Runs.sR hE ⟨[(2, (.op 0 0 0)), (5, (.op 1 0 0)), (7, (aI i)), (9, (aI rBasin)), (10, (aI rBasin2)), (15, (aI rStep.2.2)), (16, (.os 1106 0 rLevels.1.length)), (17, (aI rLevels.2)), (18, (.os 1234 0 rLevels2.1.length)), (19, (aI rLevels2.2))], [(0, vO 7 (Tkeelblocklaw05_Case.cells c)), (1, vO 3 (Tapi_Water.cells rRun.1)), (1106, aO 1 cI 0 rLevels.1), (1234, aO 1 cI 0 rLevels2.1)], 1330⟩ (C_104 1025278) [(2, ⟨[], false, (.tup [(.os 0 0 rLevels2.1.length), (aI rLevels2.2)]), [(0, aO 1 cI 0 rLevels2.1)], 0, false⟩)] [] (kp [2, 5, 7, 9, 10, 15, 16, 17, 18, 19]) (kq [0, 1, 1106, 1234]) 1330 [0 < 1, 0 < 1, Sound Try.prog 31 [(.agg [(encL Tapi_Basin.cells Tapi_Basin.d c.f_N.f_Basins), (encL Tapi_Mark.cells Tapi_Mark.d c.f_N.f_Sea), (encL Tapi_Link.cells Tapi_Link.d ([(c.f_N.f_Links.getD ((i).toNat) Tapi_Link.d)] : List Tapi_Link))]), (.agg [(aI rStep.1.f_Minute), (encL cI 0 rStep.1.f_Litres), (encL cB false rStep.1.f_Open)])] [] 0 (.tup [(.os 0 0 rLevels2.1.length), (aI rLevels2.2)]) [(0, aO 1 cI 0 rLevels2.1)], ∀ zi, zi < rLevels2.1.length → AV.flatL (cI (rLevels2.1.getD zi 0)) = true, 0 + ([(c.f_N.f_Links.getD ((i).toNat) Tapi_Link.d)] : List Tapi_Link).length ≤ ([(c.f_N.f_Links.getD ((i).toNat) Tapi_Link.d)] : List Tapi_Link).length, 0 + rStep.1.f_Litres.length ≤ rStep.1.f_Litres.length, 0 + rStep.1.f_Open.length ≤ rStep.1.f_Open.length] ⟨o1, o1, (g_water_Levels_ok N (⟨c.f_N.f_Basins, c.f_N.f_Sea, ([(c.f_N.f_Links.getD ((i).toNat) Tapi_Link.d)] : List Tapi_Link)⟩ : Tapi_Network) (⟨rStep.1.f_Minute, rStep.1.f_Litres, rStep.1.f_Open⟩ : Tapi_Water) rLevels2 hr12), (fun _ _ => rfl), z0, z0, z0, trivial⟩ ?_
        refine Runs.sA 2 [.code (C_104 4101116), .code (C_104 4101117), .code (C_104 2050559), .inBlock 1, .code (C_104 2003), .inLoop (C_104 500), .inBlock 0, .code (C_104 63)] ?_
        refine Runs.sR hE ⟨[(2, (.op 0 0 0)), (5, (.op 1 0 0)), (7, (aI i)), (9, (aI rBasin)), (10, (aI rBasin2)), (16, (.os 1106 0 rLevels.1.length)), (18, (.os 1234 0 rLevels2.1.length)), (173, (aB (cond (cond (cond (cond (rStep.2.2 != 0) true (rLevels.2 != 0)) true (rLevels2.2 != 0)) true (((rLevels.1.length : Nat) : Int) != ((c.f_N.f_Basins.length : Nat) : Int))) true (((rLevels2.1.length : Nat) : Int) != ((rLevels.1.length : Nat) : Int)))))], [(0, vO 7 (Tkeelblocklaw05_Case.cells c)), (1, vO 3 (Tapi_Water.cells rRun.1)), (1106, aO 1 cI 0 rLevels.1), (1234, aO 1 cI 0 rLevels2.1)], 1746⟩ (C_104 4101116) [] [] (kp [2, 5, 7, 9, 10, 16, 18, 173]) (kq [0, 1, 1106, 1234]) 1746 [(!(rStep.2.2 != 0)) = true → AllP [(!(rStep.2.2 != 0)) = true], (!(rStep.2.2 != 0)) = true → AllP [(!(rStep.2.2 != 0)) = true], (!(cond (rStep.2.2 != 0) true (rLevels.2 != 0))) = true → AllP [(!(cond (rStep.2.2 != 0) true (rLevels.2 != 0))) = true], (!(cond (rStep.2.2 != 0) true (rLevels.2 != 0))) = true → AllP [(!(cond (rStep.2.2 != 0) true (rLevels.2 != 0))) = true], (!(cond (cond (rStep.2.2 != 0) true (rLevels.2 != 0)) true (rLevels2.2 != 0))) = true → AllP [(!(cond (cond (rStep.2.2 != 0) true (rLevels.2 != 0)) true (rLevels2.2 != 0))) = true], (!(cond (cond (rStep.2.2 != 0) true (rLevels.2 != 0)) true (rLevels2.2 != 0))) = true → AllP [(!(cond (cond (rStep.2.2 != 0) true (rLevels.2 != 0)) true (rLevels2.2 != 0))) = true], (!(cond (cond (rStep.2.2 != 0) true (rLevels.2 != 0)) true (rLevels2.2 != 0))) = true → AllP [(!(cond (cond (rStep.2.2 != 0) true (rLevels.2 != 0)) true (rLevels2.2 != 0))) = true, 0 < 1], (!(cond (cond (rStep.2.2 != 0) true (rLevels.2 != 0)) true (rLevels2.2 != 0))) = true → AllP [(!(cond (cond (rStep.2.2 != 0) true (rLevels.2 != 0)) true (rLevels2.2 != 0))) = true], (!(cond (cond (rStep.2.2 != 0) true (rLevels.2 != 0)) true (rLevels2.2 != 0))) = true → AllP [(!(cond (cond (rStep.2.2 != 0) true (rLevels.2 != 0)) true (rLevels2.2 != 0))) = true, (!(cond (cond (rStep.2.2 != 0) true (rLevels.2 != 0)) true (rLevels2.2 != 0))) = true], (!(cond (cond (rStep.2.2 != 0) true (rLevels.2 != 0)) true (rLevels2.2 != 0))) = true → AllP [(!(cond (cond (rStep.2.2 != 0) true (rLevels.2 != 0)) true (rLevels2.2 != 0))) = true], (!(cond (cond (cond (rStep.2.2 != 0) true (rLevels.2 != 0)) true (rLevels2.2 != 0)) true (((rLevels.1.length : Nat) : Int) != ((c.f_N.f_Basins.length : Nat) : Int)))) = true → AllP [(!(cond (cond (cond (rStep.2.2 != 0) true (rLevels.2 != 0)) true (rLevels2.2 != 0)) true (((rLevels.1.length : Nat) : Int) != ((c.f_N.f_Basins.length : Nat) : Int)))) = true], (!(cond (cond (cond (rStep.2.2 != 0) true (rLevels.2 != 0)) true (rLevels2.2 != 0)) true (((rLevels.1.length : Nat) : Int) != ((c.f_N.f_Basins.length : Nat) : Int)))) = true → AllP [(!(cond (cond (cond (rStep.2.2 != 0) true (rLevels.2 != 0)) true (rLevels2.2 != 0)) true (((rLevels.1.length : Nat) : Int) != ((c.f_N.f_Basins.length : Nat) : Int)))) = true], (!(cond (cond (cond (rStep.2.2 != 0) true (rLevels.2 != 0)) true (rLevels2.2 != 0)) true (((rLevels.1.length : Nat) : Int) != ((c.f_N.f_Basins.length : Nat) : Int)))) = true → AllP [(!(cond (cond (cond (rStep.2.2 != 0) true (rLevels.2 != 0)) true (rLevels2.2 != 0)) true (((rLevels.1.length : Nat) : Int) != ((c.f_N.f_Basins.length : Nat) : Int)))) = true, (!(cond (cond (cond (rStep.2.2 != 0) true (rLevels.2 != 0)) true (rLevels2.2 != 0)) true (((rLevels.1.length : Nat) : Int) != ((c.f_N.f_Basins.length : Nat) : Int)))) = true], (!(cond (cond (cond (rStep.2.2 != 0) true (rLevels.2 != 0)) true (rLevels2.2 != 0)) true (((rLevels.1.length : Nat) : Int) != ((c.f_N.f_Basins.length : Nat) : Int)))) = true → AllP [(!(cond (cond (cond (rStep.2.2 != 0) true (rLevels.2 != 0)) true (rLevels2.2 != 0)) true (((rLevels.1.length : Nat) : Int) != ((c.f_N.f_Basins.length : Nat) : Int)))) = true]] ⟨(fun hg => ⟨hg, trivial⟩), (fun hq => ⟨hq, trivial⟩), (fun hg => ⟨hg, trivial⟩), (fun hq => ⟨hq, trivial⟩), (fun hg => ⟨hg, trivial⟩), (fun hg => ⟨hg, trivial⟩), (fun hg => ⟨hg, o1, trivial⟩), (fun hg => ⟨hg, trivial⟩), (fun hg => ⟨hg, hg, trivial⟩), (fun hq => ⟨hq, trivial⟩), (fun hg => ⟨hg, trivial⟩), (fun hg => ⟨hg, trivial⟩), (fun hg => ⟨hg, hg, trivial⟩), (fun hq => ⟨hq, trivial⟩), trivial⟩ ?_
        refine Runs.sC 173 (C_104 8202234) (C_104 8202235) (cond (cond (cond (cond (rStep.2.2 != 0) true (rLevels.2 != 0)) true (rLevels2.2 != 0)) true (((rLevels.1.length : Nat) : Int) != ((c.f_N.f_Basins.length : Nat) : Int))) true (((rLevels2.1.length : Nat) : Int) != ((rLevels.1.length : Nat) : Int))) (fun hq6 => ?_) (fun hq6 => ?_)
        · have h := condT h hq6
          refine Runs.sA 1 [.code (C_104 16404468), .code (C_104 16404469), .code (C_104 2050559), .inBlock 1, .code (C_104 2003), .inLoop (C_104 500), .inBlock 0, .code (C_104 63)] ?_
          refine Runs.sR hE ⟨[(4, (aB false))], [], 1762⟩ (C_104 16404468) [] [] (kp [4]) [] 1762 [] trivial ?_
          obtain rfl := Option.some.inj h
          refine Runs.sW hE ⟨[(4, (aB false))], [], 1762⟩ [] (kp [4]) [] 1762 [] trivial ?_
          exact Runs.sT Try.f11 [] [] trivial
        · have h := condF h hq6
          refine Runs.sA 2 [.code (C_104 4101118), .code (C_104 4101119), .inBlock 1, .code (C_104 2003), .inLoop (C_104 500), .inBlock 0, .code (C_104 63)] ?_
          obtain ⟨c3, h⟩ := ifSome h
          obtain ⟨c4, h⟩ := ifSome h
          obtain ⟨c5, h⟩ := ifSome h
          obtain ⟨c6, h⟩ := ifSome h
          refine Runs.sR hE ⟨[(2, (.op 0 0 0)), (5, (.op 1 0 0)), (7, (aI i)), (20, (aI (w64 ((rLevels.1.getD ((rBasin).toNat) 0) - (rLevels.1.getD ((rBasin2).toNat) 0))))), (21, (aI (w64 ((rLevels2.1.getD ((rBasin).toNat) 0) - (rLevels2.1.getD ((rBasin2).toNat) 0)))))], [(0, vO 7 (Tkeelblocklaw05_Case.cells c)), (1, vO 3 (Tapi_Water.cells rRun.1))], 2066⟩ (C_104 4101118) [] [] (kp [2, 5, 7, 20, 21]) (kq [0, 1]) 2066 [0 ≤ rBasin ∧ rBasin < ((rLevels.1.length : Nat) : Int), (rBasin).toNat < rLevels.1.length, 0 ≤ rBasin2 ∧ rBasin2 < ((rLevels.1.length : Nat) : Int), (rBasin2).toNat < rLevels.1.length, 0 ≤ rBasin ∧ rBasin < ((rLevels2.1.length : Nat) : Int), (rBasin).toNat < rLevels2.1.length, 0 ≤ rBasin2 ∧ rBasin2 < ((rLevels2.1.length : Nat) : Int), (rBasin2).toNat < rLevels2.1.length] ⟨c3, (ltOf c3), c4, (ltOf c4), c5, (ltOf c5), c6, (ltOf c6), trivial⟩ ?_
          refine Runs.sA 1 [.code (C_104 8202238), .code (C_104 8202239), .inBlock 1, .code (C_104 2003), .inLoop (C_104 500), .inBlock 0, .code (C_104 63)] ?_
          refine Runs.sR hE ⟨[(2, (.op 0 0 0)), (5, (.op 1 0 0)), (7, (aI i)), (215, (aB (cond (cond (decide ((w64 ((rLevels.1.getD ((rBasin).toNat) 0) - (rLevels.1.getD ((rBasin2).toNat) 0))) ≥ 0)) (cond (decide ((w64 ((rLevels2.1.getD ((rBasin).toNat) 0) - (rLevels2.1.getD ((rBasin2).toNat) 0))) < 0)) true (decide ((w64 ((rLevels2.1.getD ((rBasin).toNat) 0) - (rLevels2.1.getD ((rBasin2).toNat) 0))) > (w64 ((rLevels.1.getD ((rBasin).toNat) 0) - (rLevels.1.getD ((rBasin2).toNat) 0)))))) false) true (cond (decide ((w64 ((rLevels.1.getD ((rBasin).toNat) 0) - (rLevels.1.getD ((rBasin2).toNat) 0))) < 0)) (cond (decide ((w64 ((rLevels2.1.getD ((rBasin).toNat) 0) - (rLevels2.1.getD ((rBasin2).toNat) 0))) > 0)) true (decide ((w64 ((rLevels2.1.getD ((rBasin).toNat) 0) - (rLevels2.1.getD ((rBasin2).toNat) 0))) < (w64 ((rLevels.1.getD ((rBasin).toNat) 0) - (rLevels.1.getD ((rBasin2).toNat) 0)))))) false))))], [(0, vO 7 (Tkeelblocklaw05_Case.cells c)), (1, vO 3 (Tapi_Water.cells rRun.1))], 2450⟩ (C_104 8202238) [] [] (kp [2, 5, 7, 215]) (kq [0, 1]) 2450 [(decide ((w64 ((rLevels.1.getD ((rBasin).toNat) 0) - (rLevels.1.getD ((rBasin2).toNat) 0))) ≥ 0)) = true → AllP [(decide ((w64 ((rLevels.1.getD ((rBasin).toNat) 0) - (rLevels.1.getD ((rBasin2).toNat) 0))) ≥ 0)) = true], ((decide ((w64 ((rLevels.1.getD ((rBasin).toNat) 0) - (rLevels.1.getD ((rBasin2).toNat) 0))) ≥ 0)) && ((decide ((w64 ((rLevels.1.getD ((rBasin).toNat) 0) - (rLevels.1.getD ((rBasin2).toNat) 0))) ≥ 0)) && (!(decide ((w64 ((rLevels2.1.getD ((rBasin).toNat) 0) - (rLevels2.1.getD ((rBasin2).toNat) 0))) < 0))))) = true → AllP [((decide ((w64 ((rLevels.1.getD ((rBasin).toNat) 0) - (rLevels.1.getD ((rBasin2).toNat) 0))) ≥ 0)) && ((decide ((w64 ((rLevels.1.getD ((rBasin).toNat) 0) - (rLevels.1.getD ((rBasin2).toNat) 0))) ≥ 0)) && (!(decide ((w64 ((rLevels2.1.getD ((rBasin).toNat) 0) - (rLevels2.1.getD ((rBasin2).toNat) 0))) < 0))))) = true, ((decide ((w64 ((rLevels.1.getD ((rBasin).toNat) 0) - (rLevels.1.getD ((rBasin2).toNat) 0))) ≥ 0)) && ((decide ((w64 ((rLevels.1.getD ((rBasin).toNat) 0) - (rLevels.1.getD ((rBasin2).toNat) 0))) ≥ 0)) && (!(decide ((w64 ((rLevels2.1.getD ((rBasin).toNat) 0) - (rLevels2.1.getD ((rBasin2).toNat) 0))) < 0))))) = true], (decide ((w64 ((rLevels.1.getD ((rBasin).toNat) 0) - (rLevels.1.getD ((rBasin2).toNat) 0))) ≥ 0)) = true → AllP [(decide ((w64 ((rLevels.1.getD ((rBasin).toNat) 0) - (rLevels.1.getD ((rBasin2).toNat) 0))) ≥ 0)) = true, (decide ((w64 ((rLevels.1.getD ((rBasin).toNat) 0) - (rLevels.1.getD ((rBasin2).toNat) 0))) ≥ 0)) = true, (!(decide ((w64 ((rLevels2.1.getD ((rBasin).toNat) 0) - (rLevels2.1.getD ((rBasin2).toNat) 0))) < 0))) = true → AllP [((decide ((w64 ((rLevels.1.getD ((rBasin).toNat) 0) - (rLevels.1.getD ((rBasin2).toNat) 0))) ≥ 0)) && ((decide ((w64 ((rLevels.1.getD ((rBasin).toNat) 0) - (rLevels.1.getD ((rBasin2).toNat) 0))) ≥ 0)) && (!(decide ((w64 ((rLevels2.1.getD ((rBasin).toNat) 0) - (rLevels2.1.getD ((rBasin2).toNat) 0))) < 0))))) = true]], (decide ((w64 ((rLevels.1.getD ((rBasin).toNat) 0) - (rLevels.1.getD ((rBasin2).toNat) 0))) ≥ 0)) = true → AllP [(decide ((w64 ((rLevels.1.getD ((rBasin).toNat) 0) - (rLevels.1.getD ((rBasin2).toNat) 0))) ≥ 0)) = true], (!(cond (decide ((w64 ((rLevels.1.getD ((rBasin).toNat) 0) - (rLevels.1.getD ((rBasin2).toNat) 0))) ≥ 0)) (cond (decide ((w64 ((rLevels2.1.getD ((rBasin).toNat) 0) - (rLevels2.1.getD ((rBasin2).toNat) 0))) < 0)) true (decide ((w64 ((rLevels2.1.getD ((rBasin).toNat) 0) - (rLevels2.1.getD ((rBasin2).toNat) 0))) > (w64 ((rLevels.1.getD ((rBasin).toNat) 0) - (rLevels.1.getD ((rBasin2).toNat) 0)))))) false)) = true → AllP [(!(cond (decide ((w64 ((rLevels.1.getD ((rBasin).toNat) 0) - (rLevels.1.getD ((rBasin2).toNat) 0))) ≥ 0)) (cond (decide ((w64 ((rLevels2.1.getD ((rBasin).toNat) 0) - (rLevels2.1.getD ((rBasin2).toNat) 0))) < 0)) true (decide ((w64 ((rLevels2.1.getD ((rBasin).toNat) 0) - (rLevels2.1.getD ((rBasin2).toNat) 0))) > (w64 ((rLevels.1.getD ((rBasin).toNat) 0) - (rLevels.1.getD ((rBasin2).toNat) 0)))))) false)) = true], ((!(cond (decide ((w64 ((rLevels.1.getD ((rBasin).toNat) 0) - (rLevels.1.getD ((rBasin2).toNat) 0))) ≥ 0)) (cond (decide ((w64 ((rLevels2.1.getD ((rBasin).toNat) 0) - (rLevels2.1.getD ((rBasin2).toNat) 0))) < 0)) true (decide ((w64 ((rLevels2.1.getD ((rBasin).toNat) 0) - (rLevels2.1.getD ((rBasin2).toNat) 0))) > (w64 ((rLevels.1.getD ((rBasin).toNat) 0) - (rLevels.1.getD ((rBasin2).toNat) 0)))))) false)) && ((!(cond (decide ((w64 ((rLevels.1.getD ((rBasin).toNat) 0) - (rLevels.1.getD ((rBasin2).toNat) 0))) ≥ 0)) (cond (decide ((w64 ((rLevels2.1.getD ((rBasin).toNat) 0) - (rLevels2.1.getD ((rBasin2).toNat) 0))) < 0)) true (decide ((w64 ((rLevels2.1.getD ((rBasin).toNat) 0) - (rLevels2.1.getD ((rBasin2).toNat) 0))) > (w64 ((rLevels.1.getD ((rBasin).toNat) 0) - (rLevels.1.getD ((rBasin2).toNat) 0)))))) false)) && (decide ((w64 ((rLevels.1.getD ((rBasin).toNat) 0) - (rLevels.1.getD ((rBasin2).toNat) 0))) < 0)))) = true → AllP [((!(cond (decide ((w64 ((rLevels.1.getD ((rBasin).toNat) 0) - (rLevels.1.getD ((rBasin2).toNat) 0))) ≥ 0)) (cond (decide ((w64 ((rLevels2.1.getD ((rBasin).toNat) 0) - (rLevels2.1.getD ((rBasin2).toNat) 0))) < 0)) true (decide ((w64 ((rLevels2.1.getD ((rBasin).toNat) 0) - (rLevels2.1.getD ((rBasin2).toNat) 0))) > (w64 ((rLevels.1.getD ((rBasin).toNat) 0) - (rLevels.1.getD ((rBasin2).toNat) 0)))))) false)) && ((!(cond (decide ((w64 ((rLevels.1.getD ((rBasin).toNat) 0) - (rLevels.1.getD ((rBasin2).toNat) 0))) ≥ 0)) (cond (decide ((w64 ((rLevels2.1.getD ((rBasin).toNat) 0) - (rLevels2.1.getD ((rBasin2).toNat) 0))) < 0)) true (decide ((w64 ((rLevels2.1.getD ((rBasin).toNat) 0) - (rLevels2.1.getD ((rBasin2).toNat) 0))) > (w64 ((rLevels.1.getD ((rBasin).toNat) 0) - (rLevels.1.getD ((rBasin2).toNat) 0)))))) false)) && (decide ((w64 ((rLevels.1.getD ((rBasin).toNat) 0) - (rLevels.1.getD ((rBasin2).toNat) 0))) < 0)))) = true], (((!(cond (decide ((w64 ((rLevels.1.getD ((rBasin).toNat) 0) - (rLevels.1.getD ((rBasin2).toNat) 0))) ≥ 0)) (cond (decide ((w64 ((rLevels2.1.getD ((rBasin).toNat) 0) - (rLevels2.1.getD ((rBasin2).toNat) 0))) < 0)) true (decide ((w64 ((rLevels2.1.getD ((rBasin).toNat) 0) - (rLevels2.1.getD ((rBasin2).toNat) 0))) > (w64 ((rLevels.1.getD ((rBasin).toNat) 0) - (rLevels.1.getD ((rBasin2).toNat) 0)))))) false)) && ((!(cond (decide ((w64 ((rLevels.1.getD ((rBasin).toNat) 0) - (rLevels.1.getD ((rBasin2).toNat) 0))) ≥ 0)) (cond (decide ((w64 ((rLevels2.1.getD ((rBasin).toNat) 0) - (rLevels2.1.getD ((rBasin2).toNat) 0))) < 0)) true (decide ((w64 ((rLevels2.1.getD ((rBasin).toNat) 0) - (rLevels2.1.getD ((rBasin2).toNat) 0))) > (w64 ((rLevels.1.getD ((rBasin).toNat) 0) - (rLevels.1.getD ((rBasin2).toNat) 0)))))) false)) && (decide ((w64 ((rLevels.1.getD ((rBasin).toNat) 0) - (rLevels.1.getD ((rBasin2).toNat) 0))) < 0)))) && (((!(cond (decide ((w64 ((rLevels.1.getD ((rBasin).toNat) 0) - (rLevels.1.getD ((rBasin2).toNat) 0))) ≥ 0)) (cond (decide ((w64 ((rLevels2.1.getD ((rBasin).toNat) 0) - (rLevels2.1.getD ((rBasin2).toNat) 0))) < 0)) true (decide ((w64 ((rLevels2.1.getD ((rBasin).toNat) 0) - (rLevels2.1.getD ((rBasin2).toNat) 0))) > (w64 ((rLevels.1.getD ((rBasin).toNat) 0) - (rLevels.1.getD ((rBasin2).toNat) 0)))))) false)) && ((!(cond (decide ((w64 ((rLevels.1.getD ((rBasin).toNat) 0) - (rLevels.1.getD ((rBasin2).toNat) 0))) ≥ 0)) (cond (decide ((w64 ((rLevels2.1.getD ((rBasin).toNat) 0) - (rLevels2.1.getD ((rBasin2).toNat) 0))) < 0)) true (decide ((w64 ((rLevels2.1.getD ((rBasin).toNat) 0) - (rLevels2.1.getD ((rBasin2).toNat) 0))) > (w64 ((rLevels.1.getD ((rBasin).toNat) 0) - (rLevels.1.getD ((rBasin2).toNat) 0)))))) false)) && (decide ((w64 ((rLevels.1.getD ((rBasin).toNat) 0) - (rLevels.1.getD ((rBasin2).toNat) 0))) < 0)))) && (!(decide ((w64 ((rLevels2.1.getD ((rBasin).toNat) 0) - (rLevels2.1.getD ((rBasin2).toNat) 0))) > 0))))) = true → AllP [(((!(cond (decide ((w64 ((rLevels.1.getD ((rBasin).toNat) 0) - (rLevels.1.getD ((rBasin2).toNat) 0))) ≥ 0)) (cond (decide ((w64 ((rLevels2.1.getD ((rBasin).toNat) 0) - (rLevels2.1.getD ((rBasin2).toNat) 0))) < 0)) true (decide ((w64 ((rLevels2.1.getD ((rBasin).toNat) 0) - (rLevels2.1.getD ((rBasin2).toNat) 0))) > (w64 ((rLevels.1.getD ((rBasin).toNat) 0) - (rLevels.1.getD ((rBasin2).toNat) 0)))))) false)) && ((!(cond (decide ((w64 ((rLevels.1.getD ((rBasin).toNat) 0) - (rLevels.1.getD ((rBasin2).toNat) 0))) ≥ 0)) (cond (decide ((w64 ((rLevels2.1.getD ((rBasin).toNat) 0) - (rLevels2.1.getD ((rBasin2).toNat) 0))) < 0)) true (decide ((w64 ((rLevels2.1.getD ((rBasin).toNat) 0) - (rLevels2.1.getD ((rBasin2).toNat) 0))) > (w64 ((rLevels.1.getD ((rBasin).toNat) 0) - (rLevels.1.getD ((rBasin2).toNat) 0)))))) false)) && (decide ((w64 ((rLevels.1.getD ((rBasin).toNat) 0) - (rLevels.1.getD ((rBasin2).toNat) 0))) < 0)))) && (((!(cond (decide ((w64 ((rLevels.1.getD ((rBasin).toNat) 0) - (rLevels.1.getD ((rBasin2).toNat) 0))) ≥ 0)) (cond (decide ((w64 ((rLevels2.1.getD ((rBasin).toNat) 0) - (rLevels2.1.getD ((rBasin2).toNat) 0))) < 0)) true (decide ((w64 ((rLevels2.1.getD ((rBasin).toNat) 0) - (rLevels2.1.getD ((rBasin2).toNat) 0))) > (w64 ((rLevels.1.getD ((rBasin).toNat) 0) - (rLevels.1.getD ((rBasin2).toNat) 0)))))) false)) && ((!(cond (decide ((w64 ((rLevels.1.getD ((rBasin).toNat) 0) - (rLevels.1.getD ((rBasin2).toNat) 0))) ≥ 0)) (cond (decide ((w64 ((rLevels2.1.getD ((rBasin).toNat) 0) - (rLevels2.1.getD ((rBasin2).toNat) 0))) < 0)) true (decide ((w64 ((rLevels2.1.getD ((rBasin).toNat) 0) - (rLevels2.1.getD ((rBasin2).toNat) 0))) > (w64 ((rLevels.1.getD ((rBasin).toNat) 0) - (rLevels.1.getD ((rBasin2).toNat) 0)))))) false)) && (decide ((w64 ((rLevels.1.getD ((rBasin).toNat) 0) - (rLevels.1.getD ((rBasin2).toNat) 0))) < 0)))) && (!(decide ((w64 ((rLevels2.1.getD ((rBasin).toNat) 0) - (rLevels2.1.getD ((rBasin2).toNat) 0))) > 0))))) = true, (((!(cond (decide ((w64 ((rLevels.1.getD ((rBasin).toNat) 0) - (rLevels.1.getD ((rBasin2).toNat) 0))) ≥ 0)) (cond (decide ((w64 ((rLevels2.1.getD ((rBasin).toNat) 0) - (rLevels2.1.getD ((rBasin2).toNat) 0))) < 0)) true (decide ((w64 ((rLevels2.1.getD ((rBasin).toNat) 0) - (rLevels2.1.getD ((rBasin2).toNat) 0))) > (w64 ((rLevels.1.getD ((rBasin).toNat) 0) - (rLevels.1.getD ((rBasin2).toNat) 0)))))) false)) && ((!(cond (decide ((w64 ((rLevels.1.getD ((rBasin).toNat) 0) - (rLevels.1.getD ((rBasin2).toNat) 0))) ≥ 0)) (cond (decide ((w64 ((rLevels2.1.getD ((rBasin).toNat) 0) - (rLevels2.1.getD ((rBasin2).toNat) 0))) < 0)) true (decide ((w64 ((rLevels2.1.getD ((rBasin).toNat) 0) - (rLevels2.1.getD ((rBasin2).toNat) 0))) > (w64 ((rLevels.1.getD ((rBasin).toNat) 0) - (rLevels.1.getD ((rBasin2).toNat) 0)))))) false)) && (decide ((w64 ((rLevels.1.getD ((rBasin).toNat) 0) - (rLevels.1.getD ((rBasin2).toNat) 0))) < 0)))) && (((!(cond (decide ((w64 ((rLevels.1.getD ((rBasin).toNat) 0) - (rLevels.1.getD ((rBasin2).toNat) 0))) ≥ 0)) (cond (decide ((w64 ((rLevels2.1.getD ((rBasin).toNat) 0) - (rLevels2.1.getD ((rBasin2).toNat) 0))) < 0)) true (decide ((w64 ((rLevels2.1.getD ((rBasin).toNat) 0) - (rLevels2.1.getD ((rBasin2).toNat) 0))) > (w64 ((rLevels.1.getD ((rBasin).toNat) 0) - (rLevels.1.getD ((rBasin2).toNat) 0)))))) false)) && ((!(cond (decide ((w64 ((rLevels.1.getD ((rBasin).toNat) 0) - (rLevels.1.getD ((rBasin2).toNat) 0))) ≥ 0)) (cond (decide ((w64 ((rLevels2.1.getD ((rBasin).toNat) 0) - (rLevels2.1.getD ((rBasin2).toNat) 0))) < 0)) true (decide ((w64 ((rLevels2.1.getD ((rBasin).toNat) 0) - (rLevels2.1.getD ((rBasin2).toNat) 0))) > (w64 ((rLevels.1.getD ((rBasin).toNat) 0) - (rLevels.1.getD ((rBasin2).toNat) 0)))))) false)) && (decide ((w64 ((rLevels.1.getD ((rBasin).toNat) 0) - (rLevels.1.getD ((rBasin2).toNat) 0))) < 0)))) && (!(decide ((w64 ((rLevels2.1.getD ((rBasin).toNat) 0) - (rLevels2.1.getD ((rBasin2).toNat) 0))) > 0))))) = true], ((!(cond (decide ((w64 ((rLevels.1.getD ((rBasin).toNat) 0) - (rLevels.1.getD ((rBasin2).toNat) 0))) ≥ 0)) (cond (decide ((w64 ((rLevels2.1.getD ((rBasin).toNat) 0) - (rLevels2.1.getD ((rBasin2).toNat) 0))) < 0)) true (decide ((w64 ((rLevels2.1.getD ((rBasin).toNat) 0) - (rLevels2.1.getD ((rBasin2).toNat) 0))) > (w64 ((rLevels.1.getD ((rBasin).toNat) 0) - (rLevels.1.getD ((rBasin2).toNat) 0)))))) false)) && ((!(cond (decide ((w64 ((rLevels.1.getD ((rBasin).toNat) 0) - (rLevels.1.getD ((rBasin2).toNat) 0))) ≥ 0)) (cond (decide ((w64 ((rLevels2.1.getD ((rBasin).toNat) 0) - (rLevels2.1.getD ((rBasin2).toNat) 0))) < 0)) true (decide ((w64 ((rLevels2.1.getD ((rBasin).toNat) 0) - (rLevels2.1.getD ((rBasin2).toNat) 0))) > (w64 ((rLevels.1.getD ((rBasin).toNat) 0) - (rLevels.1.getD ((rBasin2).toNat) 0)))))) false)) && (decide ((w64 ((rLevels.1.getD ((rBasin).toNat) 0) - (rLevels.1.getD ((rBasin2).toNat) 0))) < 0)))) = true → AllP [((!(cond (decide ((w64 ((rLevels.1.getD ((rBasin).toNat) 0) - (rLevels.1.getD ((rBasin2).toNat) 0))) ≥ 0)) (cond (decide ((w64 ((rLevels2.1.getD ((rBasin).toNat) 0) - (rLevels2.1.getD ((rBasin2).toNat) 0))) < 0)) true (decide ((w64 ((rLevels2.1.getD ((rBasin).toNat) 0) - (rLevels2.1.getD ((rBasin2).toNat) 0))) > (w64 ((rLevels.1.getD ((rBasin).toNat) 0) - (rLevels.1.getD ((rBasin2).toNat) 0)))))) false)) && ((!(cond (decide ((w64 ((rLevels.1.getD ((rBasin).toNat) 0) - (rLevels.1.getD ((rBasin2).toNat) 0))) ≥ 0)) (cond (decide ((w64 ((rLevels2.1.getD ((rBasin).toNat) 0) - (rLevels2.1.getD ((rBasin2).toNat) 0))) < 0)) true (decide ((w64 ((rLevels2.1.getD ((rBasin).toNat) 0) - (rLevels2.1.getD ((rBasin2).toNat) 0))) > (w64 ((rLevels.1.getD ((rBasin).toNat) 0) - (rLevels.1.getD ((rBasin2).toNat) 0)))))) false)) && (decide ((w64 ((rLevels.1.getD ((rBasin).toNat) 0) - (rLevels.1.getD ((rBasin2).toNat) 0))) < 0)))) = true, ((!(cond (decide ((w64 ((rLevels.1.getD ((rBasin).toNat) 0) - (rLevels.1.getD ((rBasin2).toNat) 0))) ≥ 0)) (cond (decide ((w64 ((rLevels2.1.getD ((rBasin).toNat) 0) - (rLevels2.1.getD ((rBasin2).toNat) 0))) < 0)) true (decide ((w64 ((rLevels2.1.getD ((rBasin).toNat) 0) - (rLevels2.1.getD ((rBasin2).toNat) 0))) > (w64 ((rLevels.1.getD ((rBasin).toNat) 0) - (rLevels.1.getD ((rBasin2).toNat) 0)))))) false)) && ((!(cond (decide ((w64 ((rLevels.1.getD ((rBasin).toNat) 0) - (rLevels.1.getD ((rBasin2).toNat) 0))) ≥ 0)) (cond (decide ((w64 ((rLevels2.1.getD ((rBasin).toNat) 0) - (rLevels2.1.getD ((rBasin2).toNat) 0))) < 0)) true (decide ((w64 ((rLevels2.1.getD ((rBasin).toNat) 0) - (rLevels2.1.getD ((rBasin2).toNat) 0))) > (w64 ((rLevels.1.getD ((rBasin).toNat) 0) - (rLevels.1.getD ((rBasin2).toNat) 0)))))) false)) && (decide ((w64 ((rLevels.1.getD ((rBasin).toNat) 0) - (rLevels.1.getD ((rBasin2).toNat) 0))) < 0)))) = true, (!(decide ((w64 ((rLevels2.1.getD ((rBasin).toNat) 0) - (rLevels2.1.getD ((rBasin2).toNat) 0))) > 0))) = true → AllP [(((!(cond (decide ((w64 ((rLevels.1.getD ((rBasin).toNat) 0) - (rLevels.1.getD ((rBasin2).toNat) 0))) ≥ 0)) (cond (decide ((w64 ((rLevels2.1.getD ((rBasin).toNat) 0) - (rLevels2.1.getD ((rBasin2).toNat) 0))) < 0)) true (decide ((w64 ((rLevels2.1.getD ((rBasin).toNat) 0) - (rLevels2.1.getD ((rBasin2).toNat) 0))) > (w64 ((rLevels.1.getD ((rBasin).toNat) 0) - (rLevels.1.getD ((rBasin2).toNat) 0)))))) false)) && ((!(cond (decide ((w64 ((rLevels.1.getD ((rBasin).toNat) 0) - (rLevels.1.getD ((rBasin2).toNat) 0))) ≥ 0)) (cond (decide ((w64 ((rLevels2.1.getD ((rBasin).toNat) 0) - (rLevels2.1.getD ((rBasin2).toNat) 0))) < 0)) true (decide ((w64 ((rLevels2.1.getD ((rBasin).toNat) 0) - (rLevels2.1.getD ((rBasin2).toNat) 0))) > (w64 ((rLevels.1.getD ((rBasin).toNat) 0) - (rLevels.1.getD ((rBasin2).toNat) 0)))))) false)) && (decide ((w64 ((rLevels.1.getD ((rBasin).toNat) 0) - (rLevels.1.getD ((rBasin2).toNat) 0))) < 0)))) && (((!(cond (decide ((w64 ((rLevels.1.getD ((rBasin).toNat) 0) - (rLevels.1.getD ((rBasin2).toNat) 0))) ≥ 0)) (cond (decide ((w64 ((rLevels2.1.getD ((rBasin).toNat) 0) - (rLevels2.1.getD ((rBasin2).toNat) 0))) < 0)) true (decide ((w64 ((rLevels2.1.getD ((rBasin).toNat) 0) - (rLevels2.1.getD ((rBasin2).toNat) 0))) > (w64 ((rLevels.1.getD ((rBasin).toNat) 0) - (rLevels.1.getD ((rBasin2).toNat) 0)))))) false)) && ((!(cond (decide ((w64 ((rLevels.1.getD ((rBasin).toNat) 0) - (rLevels.1.getD ((rBasin2).toNat) 0))) ≥ 0)) (cond (decide ((w64 ((rLevels2.1.getD ((rBasin).toNat) 0) - (rLevels2.1.getD ((rBasin2).toNat) 0))) < 0)) true (decide ((w64 ((rLevels2.1.getD ((rBasin).toNat) 0) - (rLevels2.1.getD ((rBasin2).toNat) 0))) > (w64 ((rLevels.1.getD ((rBasin).toNat) 0) - (rLevels.1.getD ((rBasin2).toNat) 0)))))) false)) && (decide ((w64 ((rLevels.1.getD ((rBasin).toNat) 0) - (rLevels.1.getD ((rBasin2).toNat) 0))) < 0)))) && (!(decide ((w64 ((rLevels2.1.getD ((rBasin).toNat) 0) - (rLevels2.1.getD ((rBasin2).toNat) 0))) > 0))))) = true]], (!(cond (decide ((w64 ((rLevels.1.getD ((rBasin).toNat) 0) - (rLevels.1.getD ((rBasin2).toNat) 0))) ≥ 0)) (cond (decide ((w64 ((rLevels2.1.getD ((rBasin).toNat) 0) - (rLevels2.1.getD ((rBasin2).toNat) 0))) < 0)) true (decide ((w64 ((rLevels2.1.getD ((rBasin).toNat) 0) - (rLevels2.1.getD ((rBasin2).toNat) 0))) > (w64 ((rLevels.1.getD ((rBasin).toNat) 0) - (rLevels.1.getD ((rBasin2).toNat) 0)))))) false)) = true → AllP [(!(cond (decide ((w64 ((rLevels.1.getD ((rBasin).toNat) 0) - (rLevels.1.getD ((rBasin2).toNat) 0))) ≥ 0)) (cond (decide ((w64 ((rLevels2.1.getD ((rBasin).toNat) 0) - (rLevels2.1.getD ((rBasin2).toNat) 0))) < 0)) true (decide ((w64 ((rLevels2.1.getD ((rBasin).toNat) 0) - (rLevels2.1.getD ((rBasin2).toNat) 0))) > (w64 ((rLevels.1.getD ((rBasin).toNat) 0) - (rLevels.1.getD ((rBasin2).toNat) 0)))))) false)) = true, (!(cond (decide ((w64 ((rLevels.1.getD ((rBasin).toNat) 0) - (rLevels.1.getD ((rBasin2).toNat) 0))) ≥ 0)) (cond (decide ((w64 ((rLevels2.1.getD ((rBasin).toNat) 0) - (rLevels2.1.getD ((rBasin2).toNat) 0))) < 0)) true (decide ((w64 ((rLevels2.1.getD ((rBasin).toNat) 0) - (rLevels2.1.getD ((rBasin2).toNat) 0))) > (w64 ((rLevels.1.getD ((rBasin).toNat) 0) - (rLevels.1.getD ((rBasin2).toNat) 0)))))) false)) = true, (decide ((w64 ((rLevels.1.getD ((rBasin).toNat) 0) - (rLevels.1.getD ((rBasin2).toNat) 0))) < 0)) = true → AllP [((!(cond (decide ((w64 ((rLevels.1.getD ((rBasin).toNat) 0) - (rLevels.1.getD ((rBasin2).toNat) 0))) ≥ 0)) (cond (decide ((w64 ((rLevels2.1.getD ((rBasin).toNat) 0) - (rLevels2.1.getD ((rBasin2).toNat) 0))) < 0)) true (decide ((w64 ((rLevels2.1.getD ((rBasin).toNat) 0) - (rLevels2.1.getD ((rBasin2).toNat) 0))) > (w64 ((rLevels.1.getD ((rBasin).toNat) 0) - (rLevels.1.getD ((rBasin2).toNat) 0)))))) false)) && ((!(cond (decide ((w64 ((rLevels.1.getD ((rBasin).toNat) 0) - (rLevels.1.getD ((rBasin2).toNat) 0))) ≥ 0)) (cond (decide ((w64 ((rLevels2.1.getD ((rBasin).toNat) 0) - (rLevels2.1.getD ((rBasin2).toNat) 0))) < 0)) true (decide ((w64 ((rLevels2.1.getD ((rBasin).toNat) 0) - (rLevels2.1.getD ((rBasin2).toNat) 0))) > (w64 ((rLevels.1.getD ((rBasin).toNat) 0) - (rLevels.1.getD ((rBasin2).toNat) 0)))))) false)) && (decide ((w64 ((rLevels.1.getD ((rBasin).toNat) 0) - (rLevels.1.getD ((rBasin2).toNat) 0))) < 0)))) = true]], (!(cond (decide ((w64 ((rLevels.1.getD ((rBasin).toNat) 0) - (rLevels.1.getD ((rBasin2).toNat) 0))) ≥ 0)) (cond (decide ((w64 ((rLevels2.1.getD ((rBasin).toNat) 0) - (rLevels2.1.getD ((rBasin2).toNat) 0))) < 0)) true (decide ((w64 ((rLevels2.1.getD ((rBasin).toNat) 0) - (rLevels2.1.getD ((rBasin2).toNat) 0))) > (w64 ((rLevels.1.getD ((rBasin).toNat) 0) - (rLevels.1.getD ((rBasin2).toNat) 0)))))) false)) = true → AllP [(!(cond (decide ((w64 ((rLevels.1.getD ((rBasin).toNat) 0) - (rLevels.1.getD ((rBasin2).toNat) 0))) ≥ 0)) (cond (decide ((w64 ((rLevels2.1.getD ((rBasin).toNat) 0) - (rLevels2.1.getD ((rBasin2).toNat) 0))) < 0)) true (decide ((w64 ((rLevels2.1.getD ((rBasin).toNat) 0) - (rLevels2.1.getD ((rBasin2).toNat) 0))) > (w64 ((rLevels.1.getD ((rBasin).toNat) 0) - (rLevels.1.getD ((rBasin2).toNat) 0)))))) false)) = true]] ⟨(fun hg => ⟨hg, trivial⟩), (fun hg => ⟨hg, hg, trivial⟩), (fun hg => ⟨hg, hg, (fun hq => ⟨(andI' hg (andI' hg hq)), trivial⟩), trivial⟩), (fun hq => ⟨hq, trivial⟩), (fun hg => ⟨hg, trivial⟩), (fun hg => ⟨hg, trivial⟩), (fun hg => ⟨hg, hg, trivial⟩), (fun hg => ⟨hg, hg, (fun hq => ⟨(andI' hg (andI' hg hq)), trivial⟩), trivial⟩), (fun hg => ⟨hg, hg, (fun hq => ⟨(andI' hg (andI' hg hq)), trivial⟩), trivial⟩), (fun hq => ⟨hq, trivial⟩), trivial⟩ ?_
          refine Runs.sC 215 (C_104 16404478) (C_104 16404479) (cond (cond (decide ((w64 ((rLevels.1.getD ((rBasin).toNat) 0) - (rLevels.1.getD ((rBasin2).toNat) 0))) ≥ 0)) (cond (decide ((w64 ((rLevels2.1.getD ((rBasin).toNat) 0) - (rLevels2.1.getD ((rBasin2).toNat) 0))) < 0)) true (decide ((w64 ((rLevels2.1.getD ((rBasin).toNat) 0) - (rLevels2.1.getD ((rBasin2).toNat) 0))) > (w64 ((rLevels.1.getD ((rBasin).toNat) 0) - (rLevels.1.getD ((rBasin2).toNat) 0)))))) false) true (cond (decide ((w64 ((rLevels.1.getD ((rBasin).toNat) 0) - (rLevels.1.getD ((rBasin2).toNat) 0))) < 0)) (cond (decide ((w64 ((rLevels2.1.getD ((rBasin).toNat) 0) - (rLevels2.1.getD ((rBasin2).toNat) 0))) > 0)) true (decide ((w64 ((rLevels2.1.getD ((rBasin).toNat) 0) - (rLevels2.1.getD ((rBasin2).toNat) 0))) < (w64 ((rLevels.1.getD ((rBasin).toNat) 0) - (rLevels.1.getD ((rBasin2).toNat) 0)))))) false)) (fun hq7 => ?_) (fun hq7 => ?_)
          · have h := condT h hq7
            refine Runs.sA 1 [.code (C_104 32808956), .code (C_104 32808957), .inBlock 1, .code (C_104 2003), .inLoop (C_104 500), .inBlock 0, .code (C_104 63)] ?_
            refine Runs.sR hE ⟨[(4, (aB false))], [], 2466⟩ (C_104 32808956) [] [] (kp [4]) [] 2466 [] trivial ?_
            obtain rfl := Option.some.inj h
            refine Runs.sW hE ⟨[(4, (aB false))], [], 2466⟩ [] (kp [4]) [] 2466 [] trivial ?_
            exact Runs.sT Try.f11 [] [] trivial
          · have h := condF h hq7
            refine Runs.sA 2 [.code (C_104 2003), .inLoop (C_104 500), .inBlock 0, .code (C_104 63)] ?_
            exact Runs.sW hE _ [] (kp [2, 5, 7]) (kq [0, 1]) 2 [] trivial (g_keelblocktop_TopWaterKept_J2_ok N c rRun i (g_keelblocktop_TopWaterKept_L1 N c rRun fuel) ih _ h E hE)
    · have h := condF h hq4
      refine Runs.sA 2 [.code (C_104 126), .code (C_104 127)] ?_
      obtain ⟨rwet2, hr13, h⟩ := bindSome h
      refine Runs.sR hE ⟨[(4, (aB rwet2))], [], 130⟩ (C_104 126) [(0, ⟨[], true, (aB rwet2), [], 0, false⟩)] [] (kp [4]) [] 130 [Sound Try.prog 52 [] [] 0 (aB rwet2) []] ⟨(g_keelblocktop_wet_ok N rwet2 hr13), trivial⟩ ?_
      obtain rfl := Option.some.inj h
      refine Runs.sW hE ⟨[(4, (aB rwet2))], [], 130⟩ [] (kp [4]) [] 130 [] trivial ?_
      exact Runs.sT Try.f11 [] [] trivial

theorem g_keelblocktop_TopWaterKept_ok (N : Nat) (c : Tkeelblocklaw05_Case) (minutes : Int) (r : Bool) (h : g_keelblocktop_TopWaterKept N c minutes = some r) : Sound Try.prog 11 [(.agg (Tkeelblocklaw05_Case.cells c)), (aI minutes)] [] 0 (aB r) [] := by
  unfold g_keelblocktop_TopWaterKept at h
  refine Sound.of_runs (fu := Try.f11) (c := C_104 1) (nt := 217) (by kernel_rfl) (by kernel_rfl) (by kernel_rfl) (by kernel_rfl) (fun hm => rfl) ?_
  intro E hE
  refine Runs.sA 1 [.code (C_104 2), .code (C_104 3)] ?_
  refine Runs.sR hE ⟨[(1, (aI minutes)), (2, (.op 0 0 0))], [(0, vO 7 (Tkeelblocklaw05_Case.cells c))], 32⟩ (C_104 2) [] [] (kp [1, 2]) (kq [0]) 32 [] trivial ?_
  refine Runs.sA 2 [.code (C_104 12), .code (C_104 13), .code (C_104 7)] ?_
  obtain ⟨rShort, hr, h⟩ := bindSome h
  obtain ⟨rStarted, hr2, h⟩ := bindSome h
  refine Runs.sR hE ⟨[(1, (aI minutes)), (2, (.op 0 0 0)), (51, (aB (cond (cond (cond (cond (!rShort) true (decide (minutes < 0))) true (decide (minutes > 40))) true (rStarted != 0)) true (decide ((w64 ((w64 (c.f_W.f_Minute + minutes)) + 1)) > 1000000)))))], [(0, vO 7 (Tkeelblocklaw05_Case.cells c))], 512⟩ (C_104 12) [(1, ⟨[], true, (aB rShort), [], 0, false⟩), (18, ⟨[], true, (aI rStarted), [], 0, false⟩)] [] (kp [1, 2, 51]) (kq [0]) 512 [0 < 1, Sound Try.prog 34 [(.agg (Tkeelblocklaw05_Case.cells c))] [] 0 (aB rShort) [], (!(!rShort)) = true → AllP [(!(!rShort)) = true], (!(!rShort)) = true → AllP [(!(!rShort)) = true], (!(cond (!rShort) true (decide (minutes < 0)))) = true → AllP [(!(cond (!rShort) true (decide (minutes < 0)))) = true], (!(cond (!rShort) true (decide (minutes < 0)))) = true → AllP [(!(cond (!rShort) true (decide (minutes < 0)))) = true], (!(cond (cond (!rShort) true (decide (minutes < 0))) true (decide (minutes > 40)))) = true → AllP [(!(cond (cond (!rShort) true (decide (minutes < 0))) true (decide (minutes > 40)))) = true, 0 < 1], (!(cond (cond (!rShort) true (decide (minutes < 0))) true (decide (minutes > 40)))) = true → AllP [(!(cond (cond (!rShort) true (decide (minutes < 0))) true (decide (minutes > 40)))) = true, 0 < 1], (!(cond (cond (!rShort) true (decide (minutes < 0))) true (decide (minutes > 40)))) = true → AllP [(!(cond (cond (!rShort) true (decide (minutes < 0))) true (decide (minutes > 40)))) = true, 0 < 1], (!(cond (cond (!rShort) true (decide (minutes < 0))) true (decide (minutes > 40)))) = true → AllP [Sound Try.prog 36 [(.agg (Tapi_Network.cells c.f_N)), (.agg (Tapi_Water.cells c.f_W)), (encL Tapi_Turn.cells Tapi_Turn.d c.f_Turns)] [] 0 (aI rStarted) [], (!(cond (cond (!rShort) true (decide (minutes < 0))) true (decide (minutes > 40)))) = true, (!(cond (cond (!rShort) true (decide (minutes < 0))) true (decide (minutes > 40)))) = true, (!(cond (cond (!rShort) true (decide (minutes < 0))) true (decide (minutes > 40)))) = true], (!(cond (cond (!rShort) true (decide (minutes < 0))) true (decide (minutes > 40)))) = true → AllP [(!(cond (cond (!rShort) true (decide (minutes < 0))) true (decide (minutes > 40)))) = true], (!(cond (cond (!rShort) true (decide (minutes < 0))) true (decide (minutes > 40)))) = true → AllP [(!(cond (cond (!rShort) true (decide (minutes < 0))) true (decide (minutes > 40)))) = true], (!(cond (cond (cond (!rShort) true (decide (minutes < 0))) true (decide (minutes > 40))) true (rStarted != 0))) = true → AllP [(!(cond (cond (cond (!rShort) true (decide (minutes < 0))) true (decide (minutes > 40))) true (rStarted != 0))) = true], (!(cond (cond (cond (!rShort) true (decide (minutes < 0))) true (decide (minutes > 40))) true (rStarted != 0))) = true → AllP [(!(cond (cond (cond (!rShort) true (decide (minutes < 0))) true (decide (minutes > 40))) true (rStarted != 0))) = true, 0 < 1], (!(cond (cond (cond (!rShort) true (decide (minutes < 0))) true (decide (minutes > 40))) true (rStarted != 0))) = true → AllP [(!(cond (cond (cond (!rShort) true (decide (minutes < 0))) true (decide (minutes > 40))) true (rStarted != 0))) = true, (!(cond (cond (cond (!rShort) true (decide (minutes < 0))) true (decide (minutes > 40))) true (rStarted != 0))) = true], (!(cond (cond (cond (!rShort) true (decide (minutes < 0))) true (decide (minutes > 40))) true (rStarted != 0))) = true → AllP [(!(cond (cond (cond (!rShort) true (decide (minutes < 0))) true (decide (minutes > 40))) true (rStarted != 0))) = true], (!(cond (cond (cond (!rShort) true (decide (minutes < 0))) true (decide (minutes > 40))) true (rStarted != 0))) = true → AllP [(!(cond (cond (cond (!rShort) true (decide (minutes < 0))) true (decide (minutes > 40))) true (rStarted != 0))) = true], (!(cond (cond (cond (!rShort) true (decide (minutes < 0))) true (decide (minutes > 40))) true (rStarted != 0))) = true → AllP [(!(cond (cond (cond (!rShort) true (decide (minutes < 0))) true (decide (minutes > 40))) true (rStarted != 0))) = true]] ⟨o1, (g_w05_Case_Short_ok N c rShort hr), (fun hg => ⟨hg, trivial⟩), (fun hq => ⟨hq, trivial⟩), (fun hg => ⟨hg, trivial⟩), (fun hq => ⟨hq, trivial⟩), (fun hg => ⟨hg, o1, trivial⟩), (fun hg => ⟨hg, o1, trivial⟩), (fun hg => ⟨hg, o1, trivial⟩), (fun hg => ⟨(g_r05_Started_ok N c.f_N c.f_W c.f_Turns rStarted (condT hr2 hg)), hg, hg, hg, trivial⟩), (fun hg => ⟨hg, trivial⟩), (fun hq => ⟨hq, trivial⟩), (fun hg => ⟨hg, trivial⟩), (fun hg => ⟨hg, o1, trivial⟩), (fun hg => ⟨hg, hg, trivial⟩), (fun hg => ⟨hg, trivial⟩), (fun hg => ⟨hg, trivial⟩), (fun hq => ⟨hq, trivial⟩), trivial⟩ ?_
  refine Runs.sC 51 (C_104 26) (C_104 27) (cond (cond (cond (cond (!rShort) true (decide (minutes < 0))) true (decide (minutes > 40))) true (rStarted != 0)) true (decide ((w64 ((w64 (c.f_W.f_Minute + minutes)) + 1)) > 1000000))) (fun hq2 => ?_) (fun hq2 => ?_)
  · have h := condT h hq2
    refine Runs.sA 1 [.code (C_104 52), .code (C_104 53), .code (C_104 7)] ?_
    obtain ⟨rwet, hr3, h⟩ := bindSome h
    refine Runs.sR hE ⟨[(4, (aB rwet))], [], 544⟩ (C_104 52) [(0, ⟨[], true, (aB rwet), [], 0, false⟩)] [] (kp [4]) [] 544 [Sound Try.prog 52 [] [] 0 (aB rwet) []] ⟨(g_keelblocktop_wet_ok N rwet hr3), trivial⟩ ?_
    obtain rfl := Option.some.inj h
    refine Runs.sW hE ⟨[(4, (aB rwet))], [], 544⟩ [] (kp [4]) [] 544 [] trivial ?_
    exact Runs.sT Try.f11 [] [] trivial
  · have h := condF h hq2
    refine Runs.sA 2 [.code (C_104 14), .code (C_104 15)] ?_
    obtain ⟨rRun, hr4, h⟩ := bindSome h
    refine Runs.sR hE ⟨[(2, (.op 0 0 0)), (5, (.op 688 0 0)), (6, (aI rRun.2))], [(0, vO 7 (Tkeelblocklaw05_Case.cells c)), (688, vO 3 (Tapi_Water.cells rRun.1))], 736⟩ (C_104 14) [(7, ⟨[], true, (.tup [(.agg (Tapi_Water.cells rRun.1)), (aI rRun.2)]), [], 0, false⟩)] [] (kp [2, 5, 6]) (kq [0, 688]) 736 [0 < 1, 0 < 1, 0 < 1, Sound Try.prog 41 [(.agg (Tapi_Network.cells c.f_N)), (.agg (Tapi_Water.cells c.f_W)), (encL Tapi_Turn.cells Tapi_Turn.d c.f_Turns), (aI minutes)] [] 0 (.tup [(.agg (Tapi_Water.cells rRun.1)), (aI rRun.2)]) [], 0 < 1] ⟨o1, o1, o1, (g_water_Run_ok N c.f_N c.f_W c.f_Turns minutes rRun hr4), o1, trivial⟩ ?_
    refine Runs.sA 2 [.code (C_104 60), .code (C_104 61), .code (C_104 31)] ?_
    obtain ⟨rinland, hr5, h⟩ := bindSome h
    obtain ⟨rlitres, hr6, h⟩ := bindSome h
    obtain ⟨rlitres2, hr7, h⟩ := bindSome h
    refine Runs.sR hE ⟨[(2, (.op 0 0 0)), (5, (.op 688 0 0)), (78, (aB (cond (rRun.2 != 0) true (cond rinland (rlitres != rlitres2) false))))], [(0, vO 7 (Tkeelblocklaw05_Case.cells c)), (688, vO 3 (Tapi_Water.cells rRun.1))], 976⟩ (C_104 60) [(5, ⟨[], true, (aB rinland), [], 0, false⟩), (8, ⟨[], true, (aI rlitres), [], 0, false⟩), (11, ⟨[], true, (aI rlitres2), [], 0, false⟩)] [] (kp [2, 5, 78]) (kq [0, 688]) 976 [(!(rRun.2 != 0)) = true → AllP [(!(rRun.2 != 0)) = true, 0 < 1], (!(rRun.2 != 0)) = true → AllP [Sound Try.prog 53 [(.agg (Tapi_Network.cells c.f_N))] [] 0 (aB rinland) [], (!(rRun.2 != 0)) = true], ((!(rRun.2 != 0)) && ((!(rRun.2 != 0)) && rinland)) = true → AllP [0 < 1], ((!(rRun.2 != 0)) && ((!(rRun.2 != 0)) && rinland)) = true → AllP [Sound Try.prog 54 [(.agg (Tapi_Water.cells rRun.1))] [] 0 (aI rlitres) [], ((!(rRun.2 != 0)) && ((!(rRun.2 != 0)) && rinland)) = true], ((!(rRun.2 != 0)) && ((!(rRun.2 != 0)) && rinland)) = true → AllP [((!(rRun.2 != 0)) && ((!(rRun.2 != 0)) && rinland)) = true, 0 < 1], ((!(rRun.2 != 0)) && ((!(rRun.2 != 0)) && rinland)) = true → AllP [Sound Try.prog 54 [(.agg (Tapi_Water.cells c.f_W))] [] 0 (aI rlitres2) [], ((!(rRun.2 != 0)) && ((!(rRun.2 != 0)) && rinland)) = true], ((!(rRun.2 != 0)) && ((!(rRun.2 != 0)) && rinland)) = true → AllP [((!(rRun.2 != 0)) && ((!(rRun.2 != 0)) && rinland)) = true, ((!(rRun.2 != 0)) && ((!(rRun.2 != 0)) && rinland)) = true], (!(rRun.2 != 0)) = true → AllP [(!(rRun.2 != 0)) = true, (!(rRun.2 != 0)) = true, rinland = true → AllP [((!(rRun.2 != 0)) && ((!(rRun.2 != 0)) && rinland)) = true]], (!(rRun.2 != 0)) = true → AllP [(!(rRun.2 != 0)) = true]] ⟨(fun hg => ⟨hg, o1, trivial⟩), (fun hg => ⟨(g_keelblocktop_inland_ok N c.f_N rinland (condT hr5 hg)), hg, trivial⟩), (fun hg => ⟨o1, trivial⟩), (fun hg => ⟨(g_keelblocktop_litres_ok N rRun.1 rlitres (condT hr6 hg)), hg, trivial⟩), (fun hg => ⟨hg, o1, trivial⟩), (fun hg => ⟨(g_keelblocktop_litres_ok N c.f_W rlitres2 (condT hr7 hg)), hg, trivial⟩), (fun hg => ⟨hg, hg, trivial⟩), (fun hg => ⟨hg, hg, (fun hq => ⟨(andI' hg (andI' hg hq)), trivial⟩), trivial⟩), (fun hq => ⟨hq, trivial⟩), trivial⟩ ?_
    refine Runs.sC 78 (C_104 122) (C_104 123) (cond (rRun.2 != 0) true (cond rinland (rlitres != rlitres2) false)) (fun hq3 => ?_) (fun hq3 => ?_)
    · have h := condT h hq3
      refine Runs.sA 1 [.code (C_104 244), .code (C_104 245), .code (C_104 31)] ?_
      refine Runs.sR hE ⟨[(4, (aB false))], [], 992⟩ (C_104 244) [] [] (kp [4]) [] 992 [] trivial ?_
      obtain rfl := Option.some.inj h
      refine Runs.sW hE ⟨[(4, (aB false))], [], 992⟩ [] (kp [4]) [] 992 [] trivial ?_
      exact Runs.sT Try.f11 [] [] trivial
    · have h := condF h hq3
      refine Runs.sA 3 [.code (C_104 124), .code (C_104 125), .code (C_104 63)] ?_
      refine Runs.sR hE ⟨[(2, (.op 0 0 0)), (5, (.op 688 0 0)), (7, (aI 0))], [(0, vO 7 (Tkeelblocklaw05_Case.cells c)), (688, vO 3 (Tapi_Water.cells rRun.1))], 992⟩ (C_104 124) [] [] (kp [2, 5, 7]) (kq [0, 688]) 992 [] trivial ?_
      refine Runs.sA 2 [.code (C_104 500), .inLoop (C_104 500), .inBlock 0, .code (C_104 63)] ?_
      exact Runs.sW hE _ [] (kp [2, 5, 7]) (kq [0] ++ [(1, .keep 688)]) 2 [] trivial (g_keelblocktop_TopWaterKept_L1_ok N c rRun N 0 _ h E hE)

end Go.Den
