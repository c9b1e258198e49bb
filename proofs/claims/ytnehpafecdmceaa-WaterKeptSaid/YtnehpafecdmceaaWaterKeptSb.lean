/- Each function of the program does what its Lean function computes (part 2). No conditions. -/
import Derived.Test.YtnehpafecdmceaaWaterKeptSa
import Derived.Test.YtnehpafecdmceaaProg
set_option linter.unusedVariables false
set_option maxRecDepth 100000
namespace Go.Den
open Go.Ab Go.Proofs

noncomputable def C_66 (n : Nat) : Code := cat (bodyOf Try.f83) (pth n)

theorem g_water_flow_J1_ok (N : Nat) (n : Tapi_Network) (i : Int) (rsideOf2 : Twater_side) (give : Int) (r : Int) (h : g_water_flow_J1 N n i rsideOf2 give = some r) : ∀ E, EnvOk E 0 → Runs Try.prog E 83 76 (SPost E [] (aI r)) [.code (C_66 16046), .code (C_66 16047), .inBlock 0, .code (C_66 63)] ⟨[(7, (.op 0 0 0)), (9, (.op 1 0 0)), (11, (aI give))], [(0, vO 8 (Tapi_Link.cells (n.f_Links.getD ((i).toNat) Tapi_Link.d))), (1, vO 3 (Twater_side.cells rsideOf2))], 2⟩ := by
  intro E hE
  unfold g_water_flow_J1 at h
  obtain ⟨rroom, hr5, h⟩ := bindSome h
  refine Runs.sR hE ⟨[(6, (aI (if rroom < (if give < (n.f_Links.getD ((i).toNat) Tapi_Link.d).f_Rate then give else (n.f_Links.getD ((i).toNat) Tapi_Link.d).f_Rate) then rroom else (if give < (n.f_Links.getD ((i).toNat) Tapi_Link.d).f_Rate then give else (n.f_Links.getD ((i).toNat) Tapi_Link.d).f_Rate))))], [], 146⟩ (C_66 16046) [(6, ⟨[], true, (aI rroom), [], 0, false⟩)] [] (kp [6]) [] 146 [0 < 1, 0 < 1, 0 < 1, Sound Try.prog 108 [(.agg (Twater_side.cells rsideOf2)), (aI ((n.f_Links.getD ((i).toNat) Tapi_Link.d).f_Rate))] [] 0 (aI rroom) []] ⟨o1, o1, o1, (g_water_side_room_ok N rsideOf2 ((n.f_Links.getD ((i).toNat) Tapi_Link.d).f_Rate) rroom hr5), trivial⟩ ?_
  obtain rfl := Option.some.inj h
  refine Runs.sW hE ⟨[(6, (aI (if rroom < (if give < (n.f_Links.getD ((i).toNat) Tapi_Link.d).f_Rate then give else (n.f_Links.getD ((i).toNat) Tapi_Link.d).f_Rate) then rroom else (if give < (n.f_Links.getD ((i).toNat) Tapi_Link.d).f_Rate then give else (n.f_Links.getD ((i).toNat) Tapi_Link.d).f_Rate))))], [], 146⟩ [] (kp [6]) [] 146 [] trivial ?_
  exact Runs.sT Try.f83 [] [] trivial

theorem g_water_flow_ok (N : Nat) (n : Tapi_Network) (w : Tapi_Water) (i : Int) (r : Int) (h : g_water_flow N n w i = some r) : Sound Try.prog 83 [(.agg (Tapi_Network.cells n)), (.agg (Tapi_Water.cells w)), (aI i)] [] 0 (aI r) [] := by
  unfold g_water_flow at h
  refine Sound.of_runs (fu := Try.f83) (c := C_66 1) (nt := 76) (by kernel_rfl) (by kernel_rfl) (by kernel_rfl) (by kernel_rfl) (fun hm => rfl) ?_
  intro E hE
  refine Runs.sA 1 [.code (C_66 2), .code (C_66 3)] ?_
  refine Runs.sR hE ⟨[(2, (aI i)), (3, (.op 0 0 0)), (4, (.op 16 0 0))], [(0, vO 3 (Tapi_Network.cells n)), (16, vO 3 (Tapi_Water.cells w))], 48⟩ (C_66 2) [] [] (kp [2, 3, 4]) (kq [0, 16]) 48 [] trivial ?_
  refine Runs.sA 1 [.code (C_66 6), .code (C_66 7)] ?_
  obtain ⟨c, h⟩ := ifSome h
  refine Runs.sR hE ⟨[(2, (aI i)), (3, (.op 0 0 0)), (4, (.op 16 0 0)), (7, (.op 128 0 0))], [(0, vO 3 (Tapi_Network.cells n)), (16, vO 3 (Tapi_Water.cells w)), (128, vO 8 (Tapi_Link.cells (n.f_Links.getD ((i).toNat) Tapi_Link.d)))], 160⟩ (C_66 6) [] [] (kp [2, 3, 4, 7]) (kq [0, 16, 128]) 160 [0 < 1, 0 ≤ i ∧ i < ((n.f_Links.length : Nat) : Int), 0 < 1] ⟨o1, c, o1, trivial⟩ ?_
  refine Runs.sA 2 [.code (C_66 28), .code (C_66 29), .code (C_66 15)] ?_
  obtain ⟨c2, h⟩ := ifSome h
  refine Runs.sR hE ⟨[(3, (.op 0 0 0)), (4, (.op 16 0 0)), (7, (.op 128 0 0)), (22, (aB (!(w.f_Open.getD ((i).toNat) false))))], [(0, vO 3 (Tapi_Network.cells n)), (16, vO 3 (Tapi_Water.cells w)), (128, vO 8 (Tapi_Link.cells (n.f_Links.getD ((i).toNat) Tapi_Link.d)))], 256⟩ (C_66 28) [] [] (kp [3, 4, 7, 22]) (kq [0, 16, 128]) 256 [0 < 1, 0 ≤ i ∧ i < ((w.f_Open.length : Nat) : Int)] ⟨o1, c2, trivial⟩ ?_
  refine Runs.sC 22 (C_66 58) (C_66 59) (!(w.f_Open.getD ((i).toNat) false)) (fun hq2 => ?_) (fun hq2 => ?_)
  · have h := condT h hq2
    refine Runs.sA 1 [.code (C_66 116), .code (C_66 117), .code (C_66 15)] ?_
    refine Runs.sR hE ⟨[(6, (aI 0))], [], 272⟩ (C_66 116) [] [] (kp [6]) [] 272 [] trivial ?_
    obtain rfl := Option.some.inj h
    refine Runs.sW hE ⟨[(6, (aI 0))], [], 272⟩ [] (kp [6]) [] 272 [] trivial ?_
    exact Runs.sT Try.f83 [] [] trivial
  · have h := condF h hq2
    refine Runs.sA 2 [.code (C_66 30), .code (C_66 31)] ?_
    obtain ⟨rsideOf, hr, h⟩ := bindSome h
    obtain ⟨rsideOf2, hr2, h⟩ := bindSome h
    refine Runs.sR hE ⟨[(7, (.op 128 0 0)), (8, (.op 416 0 0)), (9, (.op 432 0 0))], [(128, vO 8 (Tapi_Link.cells (n.f_Links.getD ((i).toNat) Tapi_Link.d))), (416, vO 3 (Twater_side.cells rsideOf)), (432, vO 3 (Twater_side.cells rsideOf2))], 480⟩ (C_66 30) [(4, ⟨[], true, (.agg (Twater_side.cells rsideOf)), [], 0, false⟩), (9, ⟨[], true, (.agg (Twater_side.cells rsideOf2)), [], 0, false⟩)] [] (kp [7, 8, 9]) (kq [128, 416, 432]) 480 [0 < 1, 0 < 1, 0 < 1, Sound Try.prog 106 [(.agg (Tapi_Network.cells n)), (.agg (Tapi_Water.cells w)), (aS ((n.f_Links.getD ((i).toNat) Tapi_Link.d).f_From))] [] 0 (.agg (Twater_side.cells rsideOf)) [], 0 < 1, 0 < 1, 0 < 1, Sound Try.prog 106 [(.agg (Tapi_Network.cells n)), (.agg (Tapi_Water.cells w)), (aS ((n.f_Links.getD ((i).toNat) Tapi_Link.d).f_To))] [] 0 (.agg (Twater_side.cells rsideOf2)) [], 0 < 1, 0 < 1] ⟨o1, o1, o1, (g_water_sideOf_ok N n w ((n.f_Links.getD ((i).toNat) Tapi_Link.d).f_From) rsideOf hr), o1, o1, o1, (g_water_sideOf_ok N n w ((n.f_Links.getD ((i).toNat) Tapi_Link.d).f_To) rsideOf2 hr2), o1, o1, trivial⟩ ?_
    refine Runs.sA 2 [.code (C_66 124), .code (C_66 125), .code (C_66 63)] ?_
    obtain ⟨rlevel, hr3, h⟩ := bindSome h
    obtain ⟨rlevel2, hr4, h⟩ := bindSome h
    refine Runs.sR hE ⟨[(7, (.op 128 0 0)), (8, (.op 416 0 0)), (9, (.op 432 0 0)), (10, (aI (w64 (rlevel - rlevel2))))], [(128, vO 8 (Tapi_Link.cells (n.f_Links.getD ((i).toNat) Tapi_Link.d))), (416, vO 3 (Twater_side.cells rsideOf)), (432, vO 3 (Twater_side.cells rsideOf2))], 576⟩ (C_66 124) [(1, ⟨[], true, (aI rlevel), [], 0, false⟩), (3, ⟨[], true, (aI rlevel2), [], 0, false⟩)] [] (kp [7, 8, 9, 10]) (kq [128, 416, 432]) 576 [0 < 1, Sound Try.prog 107 [(.agg (Twater_side.cells rsideOf2)), (aI 0)] [] 0 (aI rlevel) [], 0 < 1, Sound Try.prog 107 [(.agg (Twater_side.cells rsideOf)), (aI 0)] [] 0 (aI rlevel2) []] ⟨o1, (g_water_side_level_ok N rsideOf2 0 rlevel hr3), o1, (g_water_side_level_ok N rsideOf 0 rlevel2 hr4), trivial⟩ ?_
    refine Runs.sA 2 [.code (C_66 500), .code (C_66 501), .inBlock 0, .code (C_66 63)] ?_
    refine Runs.sR hE ⟨[(7, (.op 128 0 0)), (8, (.op 416 0 0)), (9, (.op 432 0 0)), (10, (aI (w64 (rlevel - rlevel2)))), (38, (aB ((n.f_Links.getD ((i).toNat) Tapi_Link.d).f_Kind == 1)))], [(128, vO 8 (Tapi_Link.cells (n.f_Links.getD ((i).toNat) Tapi_Link.d))), (416, vO 3 (Twater_side.cells rsideOf)), (432, vO 3 (Twater_side.cells rsideOf2))], 640⟩ (C_66 500) [] [] (kp [7, 8, 9, 10, 38]) (kq [128, 416, 432]) 640 [0 < 1] ⟨o1, trivial⟩ ?_
    refine Runs.sC 38 (C_66 1002) (C_66 1003) ((n.f_Links.getD ((i).toNat) Tapi_Link.d).f_Kind == 1) (fun hq3 => ?_) (fun hq3 => ?_)
    · have h := condT h hq3
      refine Runs.sA 2 [.code (C_66 4008), .code (C_66 4009), .code (C_66 2005), .inBlock 0, .code (C_66 63)] ?_
      refine Runs.sR hE ⟨[(7, (.op 128 0 0)), (8, (.op 416 0 0)), (9, (.op 432 0 0)), (45, (aB (decide ((w64 (rlevel - rlevel2)) > (n.f_Links.getD ((i).toNat) Tapi_Link.d).f_Lift))))], [(128, vO 8 (Tapi_Link.cells (n.f_Links.getD ((i).toNat) Tapi_Link.d))), (416, vO 3 (Twater_side.cells rsideOf)), (432, vO 3 (Twater_side.cells rsideOf2))], 704⟩ (C_66 4008) [] [] (kp [7, 8, 9, 45]) (kq [128, 416, 432]) 704 [0 < 1] ⟨o1, trivial⟩ ?_
      refine Runs.sC 45 (C_66 8018) (C_66 8019) (decide ((w64 (rlevel - rlevel2)) > (n.f_Links.getD ((i).toNat) Tapi_Link.d).f_Lift)) (fun hq4 => ?_) (fun hq4 => ?_)
      · have h := condT h hq4
        refine Runs.sA 1 [.code (C_66 16036), .code (C_66 16037), .code (C_66 2005), .inBlock 0, .code (C_66 63)] ?_
        refine Runs.sR hE ⟨[(6, (aI 0))], [], 720⟩ (C_66 16036) [] [] (kp [6]) [] 720 [] trivial ?_
        obtain rfl := Option.some.inj h
        refine Runs.sW hE ⟨[(6, (aI 0))], [], 720⟩ [] (kp [6]) [] 720 [] trivial ?_
        exact Runs.sT Try.f83 [] [] trivial
      · have h := condF h hq4
        refine Runs.sA 2 [.code (C_66 4010), .code (C_66 4011), .inBlock 0, .code (C_66 63)] ?_
        refine Runs.sR hE ⟨[(7, (.op 128 0 0)), (8, (.op 416 0 0)), (9, (.op 432 0 0)), (11, (aI ((n.f_Links.getD ((i).toNat) Tapi_Link.d).f_Rate)))], [(128, vO 8 (Tapi_Link.cells (n.f_Links.getD ((i).toNat) Tapi_Link.d))), (416, vO 3 (Twater_side.cells rsideOf)), (432, vO 3 (Twater_side.cells rsideOf2))], 752⟩ (C_66 4010) [] [] (kp [7, 8, 9, 11]) (kq [128, 416, 432]) 752 [0 < 1] ⟨o1, trivial⟩ ?_
        refine Runs.sA 2 [.code (C_66 16044), .code (C_66 16045), .code (C_66 8023), .inBlock 0, .code (C_66 63)] ?_
        refine Runs.sR hE ⟨[(7, (.op 128 0 0)), (8, (.op 416 0 0)), (9, (.op 432 0 0)), (11, (aI ((n.f_Links.getD ((i).toNat) Tapi_Link.d).f_Rate))), (50, (aB (!(!rsideOf.f_basin.isSome))))], [(128, vO 8 (Tapi_Link.cells (n.f_Links.getD ((i).toNat) Tapi_Link.d))), (416, vO 3 (Twater_side.cells rsideOf)), (432, vO 3 (Twater_side.cells rsideOf2))], 800⟩ (C_66 16044) [] [] (kp [7, 8, 9, 11, 50]) (kq [128, 416, 432]) 800 [0 < 1] ⟨o1, trivial⟩ ?_
        refine Runs.sC 50 (C_66 32090) (C_66 32091) (!(!rsideOf.f_basin.isSome)) (fun hq5 => ?_) (fun hq5 => ?_)
        · have h := condT h hq5
          refine Runs.sR hE ⟨[(7, (.op 128 0 0)), (9, (.op 432 0 0)), (11, (aI rsideOf.f_litres))], [(128, vO 8 (Tapi_Link.cells (n.f_Links.getD ((i).toNat) Tapi_Link.d))), (432, vO 3 (Twater_side.cells rsideOf2))], 848⟩ (C_66 32090) [] [] (kp [7, 9, 11]) (kq [128, 432]) 848 [0 < 1] ⟨o1, trivial⟩ ?_
          refine Runs.sA 1 [.code (C_66 16046), .code (C_66 16047), .inBlock 0, .code (C_66 63)] ?_
          exact Runs.sW hE _ [] (kp [7, 9, 11]) [(0, .keep 128), (1, .keep 432)] 2 [] trivial (g_water_flow_J1_ok N n i rsideOf2 rsideOf.f_litres _ h E hE)
        · have h := condF h hq5
          refine Runs.sA 2 [.code (C_66 16046), .code (C_66 16047), .inBlock 0, .code (C_66 63)] ?_
          exact Runs.sW hE _ [] (kp [7, 9, 11]) [(0, .keep 128), (1, .keep 432)] 2 [] trivial (g_water_flow_J1_ok N n i rsideOf2 ((n.f_Links.getD ((i).toNat) Tapi_Link.d).f_Rate) _ h E hE)
    · have h := condF h hq3
      refine Runs.sA 1 [.code (C_66 2006), .code (C_66 2007), .inBlock 0, .code (C_66 63)] ?_
      refine Runs.sR hE ⟨[(7, (.op 128 0 0)), (8, (.op 416 0 0)), (9, (.op 432 0 0)), (10, (aI (w64 (rlevel - rlevel2)))), (61, (aB (decide ((w64 (rlevel - rlevel2)) < 0))))], [(128, vO 8 (Tapi_Link.cells (n.f_Links.getD ((i).toNat) Tapi_Link.d))), (416, vO 3 (Twater_side.cells rsideOf)), (432, vO 3 (Twater_side.cells rsideOf2))], 688⟩ (C_66 2006) [] [] (kp [7, 8, 9, 10, 61]) (kq [128, 416, 432]) 688 [] trivial ?_
      refine Runs.sC 61 (C_66 4014) (C_66 4015) (decide ((w64 (rlevel - rlevel2)) < 0)) (fun hq6 => ?_) (fun hq6 => ?_)
      · have h := condT h hq6
        refine Runs.sA 1 [.code (C_66 8028), .code (C_66 8029), .inBlock 0, .code (C_66 63)] ?_
        obtain ⟨rgate, hr6, h⟩ := bindSome h
        refine Runs.sR hE ⟨[(6, (aI rgate))], [], 768⟩ (C_66 8028) [(3, ⟨[], true, (aI rgate), [], 0, false⟩)] [] (kp [6]) [] 768 [0 < 1, 0 < 1, 0 < 1, Sound Try.prog 109 [(.agg (Tapi_Link.cells (n.f_Links.getD ((i).toNat) Tapi_Link.d))), (.agg (Twater_side.cells rsideOf)), (.agg (Twater_side.cells rsideOf2))] [] 0 (aI rgate) []] ⟨o1, o1, o1, (g_water_gate_ok N (n.f_Links.getD ((i).toNat) Tapi_Link.d) rsideOf rsideOf2 rgate hr6), trivial⟩ ?_
        obtain rfl := Option.some.inj h
        refine Runs.sW hE ⟨[(6, (aI rgate))], [], 768⟩ [] (kp [6]) [] 768 [] trivial ?_
        exact Runs.sT Try.f83 [] [] trivial
      · have h := condF h hq6
        refine Runs.sA 1 [.code (C_66 8030), .code (C_66 8031), .inBlock 0, .code (C_66 63)] ?_
        refine Runs.sR hE ⟨[(7, (.op 128 0 0)), (8, (.op 416 0 0)), (9, (.op 432 0 0)), (68, (aB (decide ((w64 (rlevel - rlevel2)) > 0))))], [(128, vO 8 (Tapi_Link.cells (n.f_Links.getD ((i).toNat) Tapi_Link.d))), (416, vO 3 (Twater_side.cells rsideOf)), (432, vO 3 (Twater_side.cells rsideOf2))], 736⟩ (C_66 8030) [] [] (kp [7, 8, 9, 68]) (kq [128, 416, 432]) 736 [] trivial ?_
        refine Runs.sC 68 (C_66 16062) (C_66 16063) (decide ((w64 (rlevel - rlevel2)) > 0)) (fun hq7 => ?_) (fun hq7 => ?_)
        · have h := condT h hq7
          refine Runs.sA 1 [.code (C_66 32124), .code (C_66 32125), .inBlock 0, .code (C_66 63)] ?_
          obtain ⟨rgate2, hr7, h⟩ := bindSome h
          refine Runs.sR hE ⟨[(6, (aI (w64 (0 - rgate2))))], [], 832⟩ (C_66 32124) [(3, ⟨[], true, (aI rgate2), [], 0, false⟩)] [] (kp [6]) [] 832 [0 < 1, 0 < 1, 0 < 1, Sound Try.prog 109 [(.agg (Tapi_Link.cells (n.f_Links.getD ((i).toNat) Tapi_Link.d))), (.agg (Twater_side.cells rsideOf2)), (.agg (Twater_side.cells rsideOf))] [] 0 (aI rgate2) []] ⟨o1, o1, o1, (g_water_gate_ok N (n.f_Links.getD ((i).toNat) Tapi_Link.d) rsideOf2 rsideOf rgate2 hr7), trivial⟩ ?_
          obtain rfl := Option.some.inj h
          refine Runs.sW hE ⟨[(6, (aI (w64 (0 - rgate2))))], [], 832⟩ [] (kp [6]) [] 832 [] trivial ?_
          exact Runs.sT Try.f83 [] [] trivial
        · have h := condF h hq7
          refine Runs.sA 3 [.code (C_66 126), .code (C_66 127)] ?_
          refine Runs.sR hE ⟨[(6, (aI 0))], [], 752⟩ (C_66 126) [] [] (kp [6]) [] 752 [] trivial ?_
          obtain rfl := Option.some.inj h
          refine Runs.sW hE ⟨[(6, (aI 0))], [], 752⟩ [] (kp [6]) [] 752 [] trivial ?_
          exact Runs.sT Try.f83 [] [] trivial

noncomputable def C_77 (n : Nat) : Code := cat (bodyOf Try.f38) (pth n)

theorem g_r05_Levels_L1_ok (N : Nat) (n : Tapi_Network) (w : Tapi_Water) (fuel : Nat) : ∀ (out : List Int) (i : Int) (r : (List Int)), g_r05_Levels_L1 N n w fuel out i = some r → ∀ E, EnvOk E 0 → Runs Try.prog E 38 29 (SPost E [] (encL cI 0 r)) [.code (C_77 116), .inLoop (C_77 116), .inBlock 0, .code (C_77 15)] ⟨[(2, (.op 0 0 0)), (3, (.op 1 0 0)), (5, (.os 2 0 out.length)), (6, (aI i))], [(0, vO 3 (Tapi_Network.cells n)), (1, vO 3 (Tapi_Water.cells w)), (2, aO 1 cI 0 out)], 3⟩ := by
  induction fuel with
  | zero => intro _ _ r h; rw [g_r05_Levels_L1.eq_1] at h; cases h
  | succ fuel ih =>
    intro out i r h E hE
    rw [g_r05_Levels_L1.eq_2] at h
    refine Runs.sA 2 [.code (C_77 464), .code (C_77 465), .code (C_77 233), .inLoop (C_77 116), .inBlock 0, .code (C_77 15)] ?_
    refine Runs.sR hE ⟨[(2, (.op 0 0 0)), (3, (.op 1 0 0)), (5, (.os 2 0 out.length)), (6, (aI i)), (11, (aB (decide (i < ((n.f_Basins.length : Nat) : Int)))))], [(0, vO 3 (Tapi_Network.cells n)), (1, vO 3 (Tapi_Water.cells w)), (2, aO 1 cI 0 out)], 83⟩ (C_77 464) [] [] (kp [2, 3, 5, 6, 11]) (kq [0, 1, 2]) 83 [0 < 1] ⟨o1, trivial⟩ ?_
    refine Runs.sC 11 (C_77 930) (C_77 931) (decide (i < ((n.f_Basins.length : Nat) : Int))) (fun hq2 => ?_) (fun hq2 => ?_)
    · have h := condT h hq2
      refine Runs.sA 3 [.code (C_77 932), .inBlock 1, .code (C_77 467), .inLoop (C_77 116), .inBlock 0, .code (C_77 15)] ?_
      obtain ⟨c, h⟩ := ifSome h
      obtain ⟨c2, h⟩ := ifSome h
      obtain ⟨rLevelOf, hr, h⟩ := bindSome h
      obtain ⟨c3, h⟩ := ifSome h
      refine Runs.sR hE ⟨[(2, (.op 0 0 0)), (3, (.op 1 0 0)), (5, (.os 291 0 ((out ++ ([rLevelOf] : List Int)).length))), (6, (aI i))], [(0, vO 3 (Tapi_Network.cells n)), (1, vO 3 (Tapi_Water.cells w)), (291, aO 1 cI 0 (out ++ ([rLevelOf] : List Int)))], 323⟩ (C_77 932) [(11, ⟨[], true, (aI rLevelOf), [], 0, false⟩)] [] (kp [2, 3] ++ [(5, .osl ((out ++ ([rLevelOf] : List Int)).length))] ++ kp [6]) (kq [0, 1] ++ [(291, .arr 291 ((out ++ ([rLevelOf] : List Int)).length) (fun zi => cI ((out ++ ([rLevelOf] : List Int)).getD zi 0)))]) 323 [0 < 1, 0 ≤ i ∧ i < ((n.f_Basins.length : Nat) : Int), 0 < 1, 0 ≤ i ∧ i < ((w.f_Litres.length : Nat) : Int), Sound Try.prog 66 [(.agg (Tapi_Basin.cells (n.f_Basins.getD ((i).toNat) Tapi_Basin.d))), (aI (w.f_Litres.getD ((i).toNat) 0))] [] 0 (aI rLevelOf) [], out.length = out.length, (out.length + 1) * 8 ≤ 140737488355328, 0 + 1 ≤ 1, ∀ zi, zi < 1 → AV.oneL ((fun zi => ([[(aI rLevelOf)]] : List (List AV)).getD zi []) (addz 0 zi)) = true, (out.length + 1) = (out ++ ([rLevelOf] : List Int)).length, out.length + 1 = (out ++ ([rLevelOf] : List Int)).length, ∀ zi, zi < (out ++ ([rLevelOf] : List Int)).length → (fun zi => cI ((out ++ ([rLevelOf] : List Int)).getD zi 0)) zi = ((fun zm => if zm < out.length then (fun zi => cI (out.getD zi 0)) zm else (fun zi => ([[(aI rLevelOf)]] : List (List AV)).getD zi []) (zm - out.length))) zi] ⟨o1, c, o1, c2, (g_r05_LevelOf_ok N (n.f_Basins.getD ((i).toNat) Tapi_Basin.d) (w.f_Litres.getD ((i).toNat) 0) rLevelOf hr), rfl, c3, z0, (oneN rfl), (len_app_raw rfl rfl), (len_app_raw rfl rfl), (get_app_raw cI 0 out ([rLevelOf] : List Int) rfl (fun _ _ => rfl) (fun zq hzq => get_chunk cI 0 ([rLevelOf] : List Int) zq hzq)), trivial⟩ ?_
      refine Runs.sA 1 [.code (C_77 467), .inLoop (C_77 116), .inBlock 0, .code (C_77 15)] ?_
      refine Runs.sR hE ⟨[(2, (.op 0 0 0)), (3, (.op 1 0 0)), (5, (.os 291 0 ((out ++ ([rLevelOf] : List Int)).length))), (6, (aI (w64 (i + 1))))], [(0, vO 3 (Tapi_Network.cells n)), (1, vO 3 (Tapi_Water.cells w)), (291, aO 1 cI 0 (out ++ ([rLevelOf] : List Int)))], 371⟩ (C_77 467) [] [] (kp [2, 3, 5, 6]) (kq [0, 1, 291]) 371 [] trivial ?_
      refine Runs.sA 1 [.code (C_77 116), .inLoop (C_77 116), .inBlock 0, .code (C_77 15)] ?_
      exact Runs.sW hE _ [] (kp [2, 3, 5, 6]) (kq [0, 1] ++ [(2, .keep 291)]) 3 [] trivial (ih (out ++ ([rLevelOf] : List Int)) (w64 (i + 1)) _ h E hE)
    · have h := condF h hq2
      refine Runs.sA 2 [.code (C_77 30), .code (C_77 31)] ?_
      refine Runs.sR hE ⟨[(4, (.os 2 0 out.length))], [(2, aO 1 cI 0 out)], 115⟩ (C_77 30) [] [] (kp [4]) (kq [2]) 115 [] trivial ?_
      obtain rfl := Option.some.inj h
      refine Runs.sW hE ⟨[(4, (encL cI 0 out))], [], 115⟩ [2] [(4, .sl (out.length) (fun zi => cI (out.getD zi 0)))] [] 115 [out.length = out.length, 0 + out.length ≤ out.length, ∀ zi, zi < out.length → (fun zi => cI (out.getD zi 0)) zi = (fun zi => cI (out.getD zi 0)) (addz 0 zi)] ⟨rfl, z0, (fun _ _ => rfl), trivial⟩ ?_
      exact Runs.sT Try.f38 [] [] trivial

theorem g_r05_Levels_ok (N : Nat) (n : Tapi_Network) (w : Tapi_Water) (r : (List Int)) (h : g_r05_Levels N n w = some r) : Sound Try.prog 38 [(.agg (Tapi_Network.cells n)), (.agg (Tapi_Water.cells w))] [] 0 (encL cI 0 r) [] := by
  unfold g_r05_Levels at h
  refine Sound.of_runs (fu := Try.f38) (c := C_77 1) (nt := 29) (by kernel_rfl) (by kernel_rfl) (by kernel_rfl) (by kernel_rfl) (fun hm => rfl) ?_
  intro E hE
  refine Runs.sA 1 [.code (C_77 2), .code (C_77 3)] ?_
  refine Runs.sR hE ⟨[(2, (.op 0 0 0)), (3, (.op 16 0 0))], [(0, vO 3 (Tapi_Network.cells n)), (16, vO 3 (Tapi_Water.cells w))], 48⟩ (C_77 2) [] [] (kp [2, 3]) (kq [0, 16]) 48 [] trivial ?_
  refine Runs.sA 1 [.code (C_77 6), .code (C_77 7)] ?_
  refine Runs.sR hE ⟨[(2, (.op 0 0 0)), (3, (.op 16 0 0)), (5, .nil)], [(0, vO 3 (Tapi_Network.cells n)), (16, vO 3 (Tapi_Water.cells w))], 64⟩ (C_77 6) [] [] (kp [2, 3, 5]) (kq [0, 16]) 64 [] trivial ?_
  refine Runs.sA 2 [.code (C_77 28), .code (C_77 29), .code (C_77 15)] ?_
  refine Runs.sR hE ⟨[(2, (.op 0 0 0)), (3, (.op 16 0 0)), (5, .nil), (6, (aI 0))], [(0, vO 3 (Tapi_Network.cells n)), (16, vO 3 (Tapi_Water.cells w))], 80⟩ (C_77 28) [] [] (kp [2, 3, 5, 6]) (kq [0, 16]) 80 [] trivial ?_
  refine Runs.sA 2 [.code (C_77 116), .inLoop (C_77 116), .inBlock 0, .code (C_77 15)] ?_
  exact Runs.sW hE _ [] (kp [2, 3] ++ [(5, .nilos 2)] ++ kp [6]) (kq [0] ++ [(1, .keep 16), (2, .nil 1 (fun zi => cI (([] : List Int).getD zi 0)))]) 3 [] trivial (g_r05_Levels_L1_ok N n w N ([] : List Int) 0 _ h E hE)

noncomputable def C_87 (n : Nat) : Code := cat (bodyOf Try.f111) (pth n)

theorem g_slices_Clone_int_int_ok (N : Nat) (s : List Int) (r : (List Int)) (h : g_slices_Clone_int_int N s = some r) : Sound Try.prog 111 [(encL cI 0 s)] [] 0 (.os 0 0 r.length) [(0, aO 1 cI 0 r)] := by
  unfold g_slices_Clone_int_int at h
  refine Sound.of_runs (fu := Try.f111) (c := C_87 1) (nt := 8) (by kernel_rfl) (by kernel_rfl) (by kernel_rfl) (by kernel_rfl) (fun hm => rfl) ?_
  intro E hE
  refine Runs.sA 1 [.code (C_87 2), .code (C_87 3)] ?_
  refine Runs.sR hE ⟨[(0, (encL cI 0 s))], [], 16⟩ (C_87 2) [] [] (kp [0]) [] 16 [] trivial ?_
  refine Runs.sA 2 [.code (C_87 12), .code (C_87 13), .code (C_87 7)] ?_
  refine Runs.sR hE ⟨[(0, (encL cI 0 s)), (4, (.bn s.length))], [], 48⟩ (C_87 12) [] [] (kp [0, 4]) [] 48 [] trivial ?_
  refine Runs.condBn (o := .tmp 4) (x := C_87 26) (y := C_87 27) (n := s.length) (by kernel_rfl) (by kernel_rfl) (fun hq2 => ?_) ?_
  · replace hq2 := List.length_eq_zero_iff.1 hq2
    replace h : (some ([] : List Int)) = some r := by rw [hq2] at h; simpa using h
    refine Runs.sA 1 [.code (C_87 52), .code (C_87 53), .code (C_87 7)] ?_
    refine Runs.sR hE ⟨[(2, .nil)], [], 64⟩ (C_87 52) [] [] (kp [2]) [] 64 [] trivial ?_
    obtain rfl := Option.some.inj h
    refine Runs.sW hE ⟨[(2, (.os 0 0 (([] : List Int).length)))], [(0, aO 1 cI 0 ([] : List Int))], 64⟩ [] [(2, .nilos 0)] [(0, .nil 1 (fun zi => cI (([] : List Int).getD zi 0)))] 64 [] trivial ?_
    exact Runs.sT Try.f111 [] [] trivial
  · refine Runs.sA 2 [.code (C_87 14), .code (C_87 15)] ?_
    obtain ⟨c, h⟩ := ifSome h
    refine Runs.sR hE ⟨[(2, (.os 80 0 ((([] : List Int) ++ s).length)))], [(80, aO 1 cI 0 (([] : List Int) ++ s))], 112⟩ (C_87 14) [] [] [(2, .osl ((([] : List Int) ++ s).length))] [(80, .arr 80 ((([] : List Int) ++ s).length) (fun zi => cI ((([] : List Int) ++ s).getD zi 0)))] 112 [0 = 0, (0 + s.length) * 8 ≤ 140737488355328, ∀ zi, zi < s.length → AV.oneL ((fun zi => cI (s.getD zi 0)) zi) = true, (0 + s.length) = (([] : List Int) ++ s).length, 0 + s.length = (([] : List Int) ++ s).length, ∀ zi, zi < (([] : List Int) ++ s).length → (fun zi => cI ((([] : List Int) ++ s).getD zi 0)) zi = ((fun zm => if zm < 0 then (fun _ => []) zm else (fun zi => cI (s.getD zi 0)) (zm - 0))) zi] ⟨rfl, c, (fun _ _ => rfl), (len_app_raw rfl rfl), (len_app_raw rfl rfl), (get_app_raw cI 0 ([] : List Int) s rfl (fun zq hzq => absurd hzq (Nat.not_lt_zero _)) (fun _ _ => rfl)), trivial⟩ ?_
    obtain rfl := Option.some.inj h
    refine Runs.sW hE ⟨[(2, (.os 0 0 ((([] : List Int) ++ s).length)))], [(0, aO 1 cI 0 (([] : List Int) ++ s))], 112⟩ [] (kp [2]) [(0, .keep 80)] 112 [] trivial ?_
    exact Runs.sT Try.f111 [] [] trivial

noncomputable def C_88 (n : Nat) : Code := cat (bodyOf Try.f112) (pth n)

theorem g_slices_Clone_bool_bool_ok (N : Nat) (s : List Bool) (r : (List Bool)) (h : g_slices_Clone_bool_bool N s = some r) : Sound Try.prog 112 [(encL cB false s)] [] 0 (.os 0 0 r.length) [(0, aO 1 cB false r)] := by
  unfold g_slices_Clone_bool_bool at h
  refine Sound.of_runs (fu := Try.f112) (c := C_88 1) (nt := 8) (by kernel_rfl) (by kernel_rfl) (by kernel_rfl) (by kernel_rfl) (fun hm => rfl) ?_
  intro E hE
  refine Runs.sA 1 [.code (C_88 2), .code (C_88 3)] ?_
  refine Runs.sR hE ⟨[(0, (encL cB false s))], [], 16⟩ (C_88 2) [] [] (kp [0]) [] 16 [] trivial ?_
  refine Runs.sA 2 [.code (C_88 12), .code (C_88 13), .code (C_88 7)] ?_
  refine Runs.sR hE ⟨[(0, (encL cB false s)), (4, (.bn s.length))], [], 48⟩ (C_88 12) [] [] (kp [0, 4]) [] 48 [] trivial ?_
  refine Runs.condBn (o := .tmp 4) (x := C_88 26) (y := C_88 27) (n := s.length) (by kernel_rfl) (by kernel_rfl) (fun hq2 => ?_) ?_
  · replace hq2 := List.length_eq_zero_iff.1 hq2
    replace h : (some ([] : List Bool)) = some r := by rw [hq2] at h; simpa using h
    refine Runs.sA 1 [.code (C_88 52), .code (C_88 53), .code (C_88 7)] ?_
    refine Runs.sR hE ⟨[(2, .nil)], [], 64⟩ (C_88 52) [] [] (kp [2]) [] 64 [] trivial ?_
    obtain rfl := Option.some.inj h
    refine Runs.sW hE ⟨[(2, (.os 0 0 (([] : List Bool).length)))], [(0, aO 1 cB false ([] : List Bool))], 64⟩ [] [(2, .nilos 0)] [(0, .nil 1 (fun zi => cB (([] : List Bool).getD zi false)))] 64 [] trivial ?_
    exact Runs.sT Try.f112 [] [] trivial
  · refine Runs.sA 2 [.code (C_88 14), .code (C_88 15)] ?_
    obtain ⟨c, h⟩ := ifSome h
    refine Runs.sR hE ⟨[(2, (.os 80 0 ((([] : List Bool) ++ s).length)))], [(80, aO 1 cB false (([] : List Bool) ++ s))], 112⟩ (C_88 14) [] [] [(2, .osl ((([] : List Bool) ++ s).length))] [(80, .arr 80 ((([] : List Bool) ++ s).length) (fun zi => cB ((([] : List Bool) ++ s).getD zi false)))] 112 [0 = 0, (0 + s.length) * 1 ≤ 140737488355328, ∀ zi, zi < s.length → AV.oneL ((fun zi => cB (s.getD zi false)) zi) = true, (0 + s.length) = (([] : List Bool) ++ s).length, 0 + s.length = (([] : List Bool) ++ s).length, ∀ zi, zi < (([] : List Bool) ++ s).length → (fun zi => cB ((([] : List Bool) ++ s).getD zi false)) zi = ((fun zm => if zm < 0 then (fun _ => []) zm else (fun zi => cB (s.getD zi false)) (zm - 0))) zi] ⟨rfl, c, (fun _ _ => rfl), (len_app_raw rfl rfl), (len_app_raw rfl rfl), (get_app_raw cB false ([] : List Bool) s rfl (fun zq hzq => absurd hzq (Nat.not_lt_zero _)) (fun _ _ => rfl)), trivial⟩ ?_
    obtain rfl := Option.some.inj h
    refine Runs.sW hE ⟨[(2, (.os 0 0 ((([] : List Bool) ++ s).length)))], [(0, aO 1 cB false (([] : List Bool) ++ s))], 112⟩ [] (kp [2]) [(0, .keep 80)] 112 [] trivial ?_
    exact Runs.sT Try.f112 [] [] trivial

noncomputable def C_86 (n : Nat) : Code := cat (bodyOf Try.f88) (pth n)

theorem g_water_clone_ok (N : Nat) (w : Tapi_Water) (r : Tapi_Water) (h : g_water_clone N w = some r) : Sound Try.prog 88 [(.agg (Tapi_Water.cells w))] [] 0 (.agg [(aI r.f_Minute), (.os 0 0 r.f_Litres.length), (.os 1 0 r.f_Open.length)]) [(0, aO 1 cI 0 r.f_Litres), (1, aO 1 cB false r.f_Open)] := by
  unfold g_water_clone at h
  refine Sound.of_runs (fu := Try.f88) (c := C_86 1) (nt := 12) (by kernel_rfl) (by kernel_rfl) (by kernel_rfl) (by kernel_rfl) (fun hm => rfl) ?_
  intro E hE
  refine Runs.sA 1 [.code (C_86 2), .code (C_86 3)] ?_
  refine Runs.sR hE ⟨[(1, (.op 0 0 0)), (2, (.op 16 0 0))], [(0, vO 3 (Tapi_Water.cells w)), (16, vO 3 [(aI 0), .nil, .nil])], 32⟩ (C_86 2) [] [] (kp [1, 2]) (kq [0, 16]) 32 [] trivial ?_
  refine Runs.sA 1 [.code (C_86 6), .code (C_86 7)] ?_
  obtain ⟨rClone, hr, h⟩ := bindSome h
  obtain ⟨rClone2, hr2, h⟩ := bindSome h
  refine Runs.sR hE ⟨[(2, (.op 16 0 0))], [(16, vN 3 [(aI w.f_Minute), (.os 96 0 rClone.length), (.os 144 0 rClone2.length)]), (96, aO 1 cI 0 rClone), (144, aO 1 cB false rClone2)], 192⟩ (C_86 6) [(4, ⟨[], false, (.os 0 0 rClone.length), [(0, aO 1 cI 0 rClone)], 0, false⟩), (7, ⟨[], false, (.os 0 0 rClone2.length), [(0, aO 1 cB false rClone2)], 0, false⟩)] [] (kp [2]) (kq [16, 96, 144]) 192 [0 < 1, 0 < 1, Sound Try.prog 111 [(encL cI 0 w.f_Litres)] [] 0 (.os 0 0 rClone.length) [(0, aO 1 cI 0 rClone)], 0 < 1, Sound Try.prog 112 [(encL cB false w.f_Open)] [] 0 (.os 0 0 rClone2.length) [(0, aO 1 cB false rClone2)], 0 < 1] ⟨o1, o1, (g_slices_Clone_int_int_ok N w.f_Litres rClone hr), o1, (g_slices_Clone_bool_bool_ok N w.f_Open rClone2 hr2), o1, trivial⟩ ?_
  obtain rfl := Option.some.inj h
  refine Runs.sW hE ⟨[(2, (.op 16 0 0))], [(0, aO 1 cI 0 rClone), (1, aO 1 cB false rClone2), (16, vN 3 [(aI w.f_Minute), (.os 0 0 rClone.length), (.os 1 0 rClone2.length)])], 192⟩ [] (kp [2]) [(0, .keep 96), (1, .keep 144), (16, .var 16 [.keep, .keep, .keep])] 192 [] trivial ?_
  exact Runs.sT Try.f88 [16] [0 < 1] ⟨o1, trivial⟩

noncomputable def C_89 (n : Nat) : Code := cat (bodyOf Try.f89) (pth n)

theorem g_water_step_J3_ok (N : Nat) (n : Tapi_Network) (cap0 : Int) (cap2 : List Bool) (out : List Int) (x : Int) (rflow : Int) (K_g_water_step_L1 : (List Int) → (List Int) → Int → Option ((List Int) × Tapi_Water × (List Int)))
    (hK_g_water_step_L1 : ∀ (cap02 : List Int) (out : List Int) (x : Int) (r : (List Int) × Tapi_Water × (List Int)), K_g_water_step_L1 cap02 out x = some r → ∀ E, EnvOk E 3 → Runs Try.prog E 89 70 (SPost E [(0, vN 3 [(aI r.2.1.f_Minute), (.os 1 0 r.2.2.length), (.os 2 0 cap2.length)]), (1, aO 1 cI 0 r.2.2), (2, aO 1 cB false cap2), (3, aO 1 cI 0 r.1)] (.os 3 0 r.1.length)) [.code (C_89 116), .inLoop (C_89 116), .inBlock 0, .code (C_89 15)] ⟨[(1, (.op 0 0 0)), (2, (.op 3 0 0)), (5, (.os 4 0 out.length)), (12, (encL Tapi_Link.cells Tapi_Link.d n.f_Links)), (13, (aI ((n.f_Links.length : Nat) : Int))), (14, (aI x))], [(0, vN 3 [(aI cap0), (.os 1 0 cap02.length), (.os 2 0 cap2.length)]), (1, aO 1 cI 0 cap02), (2, aO 1 cB false cap2), (3, vO 3 (Tapi_Network.cells n)), (4, aO 1 cI 0 out)], 5⟩) (cap04 : List Int) (r : (List Int) × Tapi_Water × (List Int)) (h : g_water_step_J3 N n cap0 cap2 out x rflow K_g_water_step_L1 cap04 = some r) : ∀ E, EnvOk E 3 → Runs Try.prog E 89 70 (SPost E [(0, vN 3 [(aI r.2.1.f_Minute), (.os 1 0 r.2.2.length), (.os 2 0 cap2.length)]), (1, aO 1 cI 0 r.2.2), (2, aO 1 cB false cap2), (3, aO 1 cI 0 r.1)] (.os 3 0 r.1.length)) [.code (C_89 29903), .inBlock 1, .code (C_89 935), .inLoop (C_89 116), .inBlock 0, .code (C_89 15)] ⟨[(1, (.op 0 0 0)), (2, (.op 3 0 0)), (5, (.os 4 0 out.length)), (8, (aI rflow)), (12, (encL Tapi_Link.cells Tapi_Link.d n.f_Links)), (13, (aI ((n.f_Links.length : Nat) : Int))), (14, (aI x))], [(0, vN 3 [(aI cap0), (.os 1 0 cap04.length), (.os 2 0 cap2.length)]), (1, aO 1 cI 0 cap04), (2, aO 1 cB false cap2), (3, vO 3 (Tapi_Network.cells n)), (4, aO 1 cI 0 out)], 5⟩ := by
  intro E hE
  unfold g_water_step_J3 at h
  obtain ⟨c4, h⟩ := ifSome h
  refine Runs.sR hE ⟨[(1, (.op 0 0 0)), (2, (.op 3 0 0)), (5, (.os 53 0 ((out ++ ([rflow] : List Int)).length))), (12, (encL Tapi_Link.cells Tapi_Link.d n.f_Links)), (13, (aI ((n.f_Links.length : Nat) : Int))), (14, (aI x))], [(0, vN 3 [(aI cap0), (.os 1 0 cap04.length), (.os 2 0 cap2.length)]), (1, aO 1 cI 0 cap04), (2, aO 1 cB false cap2), (3, vO 3 (Tapi_Network.cells n)), (53, aO 1 cI 0 (out ++ ([rflow] : List Int)))], 85⟩ (C_89 29903) [] [] (kp [1, 2] ++ [(5, .osl ((out ++ ([rflow] : List Int)).length))] ++ kp [12, 13, 14]) (kq [0, 1, 2, 3] ++ [(53, .arr 53 ((out ++ ([rflow] : List Int)).length) (fun zi => cI ((out ++ ([rflow] : List Int)).getD zi 0)))]) 85 [out.length = out.length, (out.length + 1) * 8 ≤ 140737488355328, 0 + 1 ≤ 1, ∀ zi, zi < 1 → AV.oneL ((fun zi => ([[(aI rflow)]] : List (List AV)).getD zi []) (addz 0 zi)) = true, (out.length + 1) = (out ++ ([rflow] : List Int)).length, out.length + 1 = (out ++ ([rflow] : List Int)).length, ∀ zi, zi < (out ++ ([rflow] : List Int)).length → (fun zi => cI ((out ++ ([rflow] : List Int)).getD zi 0)) zi = ((fun zm => if zm < out.length then (fun zi => cI (out.getD zi 0)) zm else (fun zi => ([[(aI rflow)]] : List (List AV)).getD zi []) (zm - out.length))) zi] ⟨rfl, c4, z0, (oneN rfl), (len_app_raw rfl rfl), (len_app_raw rfl rfl), (get_app_raw cI 0 out ([rflow] : List Int) rfl (fun _ _ => rfl) (fun zq hzq => get_chunk cI 0 ([rflow] : List Int) zq hzq)), trivial⟩ ?_
  refine Runs.sA 1 [.code (C_89 935), .inLoop (C_89 116), .inBlock 0, .code (C_89 15)] ?_
  refine Runs.sR hE ⟨[(1, (.op 0 0 0)), (2, (.op 3 0 0)), (5, (.os 53 0 ((out ++ ([rflow] : List Int)).length))), (12, (encL Tapi_Link.cells Tapi_Link.d n.f_Links)), (13, (aI ((n.f_Links.length : Nat) : Int))), (14, (aI (w64 (x + 1))))], [(0, vN 3 [(aI cap0), (.os 1 0 cap04.length), (.os 2 0 cap2.length)]), (1, aO 1 cI 0 cap04), (2, aO 1 cB false cap2), (3, vO 3 (Tapi_Network.cells n)), (53, aO 1 cI 0 (out ++ ([rflow] : List Int)))], 117⟩ (C_89 935) [] [] (kp [1, 2, 5, 12, 13, 14]) (kq [0, 1, 2, 3, 53]) 117 [] trivial ?_
  refine Runs.sA 1 [.code (C_89 116), .inLoop (C_89 116), .inBlock 0, .code (C_89 15)] ?_
  exact Runs.sW hE _ [] (kp [1, 2, 5, 12, 13, 14]) (kq [0, 1, 2, 3] ++ [(4, .keep 53)]) 5 [] trivial (hK_g_water_step_L1 cap04 (out ++ ([rflow] : List Int)) (w64 (x + 1)) _ h E hE)

theorem g_water_step_J2_ok (N : Nat) (n : Tapi_Network) (cap0 : Int) (cap2 : List Bool) (out : List Int) (x : Int) (rflow : Int) (K_g_water_step_L1 : (List Int) → (List Int) → Int → Option ((List Int) × Tapi_Water × (List Int)))
    (hK_g_water_step_L1 : ∀ (cap02 : List Int) (out : List Int) (x : Int) (r : (List Int) × Tapi_Water × (List Int)), K_g_water_step_L1 cap02 out x = some r → ∀ E, EnvOk E 3 → Runs Try.prog E 89 70 (SPost E [(0, vN 3 [(aI r.2.1.f_Minute), (.os 1 0 r.2.2.length), (.os 2 0 cap2.length)]), (1, aO 1 cI 0 r.2.2), (2, aO 1 cB false cap2), (3, aO 1 cI 0 r.1)] (.os 3 0 r.1.length)) [.code (C_89 116), .inLoop (C_89 116), .inBlock 0, .code (C_89 15)] ⟨[(1, (.op 0 0 0)), (2, (.op 3 0 0)), (5, (.os 4 0 out.length)), (12, (encL Tapi_Link.cells Tapi_Link.d n.f_Links)), (13, (aI ((n.f_Links.length : Nat) : Int))), (14, (aI x))], [(0, vN 3 [(aI cap0), (.os 1 0 cap02.length), (.os 2 0 cap2.length)]), (1, aO 1 cI 0 cap02), (2, aO 1 cB false cap2), (3, vO 3 (Tapi_Network.cells n)), (4, aO 1 cI 0 out)], 5⟩) (cap03 : List Int) (r : (List Int) × Tapi_Water × (List Int)) (h : g_water_step_J2 N n cap0 cap2 out x rflow K_g_water_step_L1 cap03 = some r) : ∀ E, EnvOk E 3 → Runs Try.prog E 89 70 (SPost E [(0, vN 3 [(aI r.2.1.f_Minute), (.os 1 0 r.2.2.length), (.os 2 0 cap2.length)]), (1, aO 1 cI 0 r.2.2), (2, aO 1 cB false cap2), (3, aO 1 cI 0 r.1)] (.os 3 0 r.1.length)) [.code (C_89 59804), .code (C_89 59805), .code (C_89 29903), .inBlock 1, .code (C_89 935), .inLoop (C_89 116), .inBlock 0, .code (C_89 15)] ⟨[(1, (.op 0 0 0)), (2, (.op 3 0 0)), (5, (.os 4 0 out.length)), (7, (.op 5 0 0)), (8, (aI rflow)), (12, (encL Tapi_Link.cells Tapi_Link.d n.f_Links)), (13, (aI ((n.f_Links.length : Nat) : Int))), (14, (aI x))], [(0, vN 3 [(aI cap0), (.os 1 0 cap03.length), (.os 2 0 cap2.length)]), (1, aO 1 cI 0 cap03), (2, aO 1 cB false cap2), (3, vO 3 (Tapi_Network.cells n)), (4, aO 1 cI 0 out), (5, vO 8 (Tapi_Link.cells (n.f_Links.getD ((x).toNat) Tapi_Link.d)))], 6⟩ := by
  intro E hE
  unfold g_water_step_J2 at h
  obtain ⟨rbasinOf2, hr3, h⟩ := bindSome h
  refine Runs.sR hE ⟨[(1, (.op 0 0 0)), (2, (.op 3 0 0)), (5, (.os 4 0 out.length)), (8, (aI rflow)), (10, (aI rbasinOf2)), (12, (encL Tapi_Link.cells Tapi_Link.d n.f_Links)), (13, (aI ((n.f_Links.length : Nat) : Int))), (14, (aI x))], [(0, vN 3 [(aI cap0), (.os 1 0 cap03.length), (.os 2 0 cap2.length)]), (1, aO 1 cI 0 cap03), (2, aO 1 cB false cap2), (3, vO 3 (Tapi_Network.cells n)), (4, aO 1 cI 0 out)], 86⟩ (C_89 59804) [(3, ⟨[], true, (aI rbasinOf2), [], 0, false⟩)] [] (kp [1, 2, 5, 8, 10, 12, 13, 14]) (kq [0, 1, 2, 3, 4]) 86 [0 < 1, 0 < 1, Sound Try.prog 94 [(.agg (Tapi_Network.cells n)), (aS ((n.f_Links.getD ((x).toNat) Tapi_Link.d).f_To))] [] 0 (aI rbasinOf2) []] ⟨o1, o1, (g_water_basinOf_ok N n ((n.f_Links.getD ((x).toNat) Tapi_Link.d).f_To) rbasinOf2 hr3), trivial⟩ ?_
  refine Runs.sA 1 [.code (C_89 119610), .code (C_89 119611), .code (C_89 29903), .inBlock 1, .code (C_89 935), .inLoop (C_89 116), .inBlock 0, .code (C_89 15)] ?_
  refine Runs.sR hE ⟨[(1, (.op 0 0 0)), (2, (.op 3 0 0)), (5, (.os 4 0 out.length)), (8, (aI rflow)), (10, (aI rbasinOf2)), (12, (encL Tapi_Link.cells Tapi_Link.d n.f_Links)), (13, (aI ((n.f_Links.length : Nat) : Int))), (14, (aI x)), (46, (aB (decide (rbasinOf2 ≥ 0))))], [(0, vN 3 [(aI cap0), (.os 1 0 cap03.length), (.os 2 0 cap2.length)]), (1, aO 1 cI 0 cap03), (2, aO 1 cB false cap2), (3, vO 3 (Tapi_Network.cells n)), (4, aO 1 cI 0 out)], 118⟩ (C_89 119610) [] [] (kp [1, 2, 5, 8, 10, 12, 13, 14, 46]) (kq [0, 1, 2, 3, 4]) 118 [] trivial ?_
  refine Runs.sC 46 (C_89 239222) (C_89 239223) (decide (rbasinOf2 ≥ 0)) (fun hq4 => ?_) (fun hq4 => ?_)
  · have h := condT h hq4
    obtain ⟨c3, h⟩ := ifSome h
    refine Runs.sR hE ⟨[(1, (.op 0 0 0)), (2, (.op 3 0 0)), (5, (.os 4 0 out.length)), (8, (aI rflow)), (12, (encL Tapi_Link.cells Tapi_Link.d n.f_Links)), (13, (aI ((n.f_Links.length : Nat) : Int))), (14, (aI x))], [(0, vN 3 [(aI cap0), (.os 1 0 ((cap03.set ((rbasinOf2).toNat) (w64 ((cap03.getD ((rbasinOf2).toNat) 0) + rflow))).length)), (.os 2 0 cap2.length)]), (1, aO 1 cI 0 (cap03.set ((rbasinOf2).toNat) (w64 ((cap03.getD ((rbasinOf2).toNat) 0) + rflow)))), (2, aO 1 cB false cap2), (3, vO 3 (Tapi_Network.cells n)), (4, aO 1 cI 0 out)], 294⟩ (C_89 239222) [] [] (kp [1, 2, 5, 8, 12, 13, 14]) ([(0, .var 0 [.keep, .osl ((cap03.set ((rbasinOf2).toNat) (w64 ((cap03.getD ((rbasinOf2).toNat) 0) + rflow))).length), .keep]), (1, .arr 1 ((cap03.set ((rbasinOf2).toNat) (w64 ((cap03.getD ((rbasinOf2).toNat) 0) + rflow))).length) (fun zi => cI ((cap03.set ((rbasinOf2).toNat) (w64 ((cap03.getD ((rbasinOf2).toNat) 0) + rflow))).getD zi 0)))] ++ kq [2, 3, 4]) 294 [0 < 1, 0 ≤ rbasinOf2 ∧ rbasinOf2 < ((cap03.length : Nat) : Int), (rbasinOf2).toNat < cap03.length, 0 ≤ rbasinOf2 ∧ rbasinOf2 < ((cap03.length : Nat) : Int), (rbasinOf2).toNat < cap03.length, cap03.length = (cap03.set ((rbasinOf2).toNat) (w64 ((cap03.getD ((rbasinOf2).toNat) 0) + rflow))).length, cap03.length = (cap03.set ((rbasinOf2).toNat) (w64 ((cap03.getD ((rbasinOf2).toNat) 0) + rflow))).length, ∀ zi, zi < (cap03.set ((rbasinOf2).toNat) (w64 ((cap03.getD ((rbasinOf2).toNat) 0) + rflow))).length → (fun zi => cI ((cap03.set ((rbasinOf2).toNat) (w64 ((cap03.getD ((rbasinOf2).toNat) 0) + rflow))).getD zi 0)) zi = ((fun zm => if zm = (rbasinOf2).toNat then [(aI (w64 ((cap03.getD ((rbasinOf2).toNat) 0) + rflow)))] else (fun zi => cI (cap03.getD zi 0)) zm)) zi] ⟨o1, c3, (ltOf c3), c3, (ltOf c3), (len_set_raw rfl), (len_set_raw rfl), (get_set_raw cI 0 cap03 ((rbasinOf2).toNat) (w64 ((cap03.getD ((rbasinOf2).toNat) 0) + rflow)) (fun _ _ => rfl)), trivial⟩ ?_
    exact Runs.sW hE _ [] (kp [1, 2, 5, 8, 12, 13, 14]) (kq [0, 1, 2, 3, 4]) 5 [] trivial (g_water_step_J3_ok N n cap0 cap2 out x rflow K_g_water_step_L1 hK_g_water_step_L1 (cap03.set ((rbasinOf2).toNat) (w64 ((cap03.getD ((rbasinOf2).toNat) 0) + rflow))) _ h E hE)
  · have h := condF h hq4
    refine Runs.sA 1 [.code (C_89 29903), .inBlock 1, .code (C_89 935), .inLoop (C_89 116), .inBlock 0, .code (C_89 15)] ?_
    exact Runs.sW hE _ [] (kp [1, 2, 5, 8, 12, 13, 14]) (kq [0, 1, 2, 3, 4]) 5 [] trivial (g_water_step_J3_ok N n cap0 cap2 out x rflow K_g_water_step_L1 hK_g_water_step_L1 cap03 _ h E hE)

theorem g_water_step_L1_ok (N : Nat) (n : Tapi_Network) (cap0 : Int) (cap2 : List Bool) (fuel : Nat) : ∀ (cap02 : List Int) (out : List Int) (x : Int) (r : (List Int) × Tapi_Water × (List Int)), g_water_step_L1 N n cap0 cap2 fuel cap02 out x = some r → ∀ E, EnvOk E 3 → Runs Try.prog E 89 70 (SPost E [(0, vN 3 [(aI r.2.1.f_Minute), (.os 1 0 r.2.2.length), (.os 2 0 cap2.length)]), (1, aO 1 cI 0 r.2.2), (2, aO 1 cB false cap2), (3, aO 1 cI 0 r.1)] (.os 3 0 r.1.length)) [.code (C_89 116), .inLoop (C_89 116), .inBlock 0, .code (C_89 15)] ⟨[(1, (.op 0 0 0)), (2, (.op 3 0 0)), (5, (.os 4 0 out.length)), (12, (encL Tapi_Link.cells Tapi_Link.d n.f_Links)), (13, (aI ((n.f_Links.length : Nat) : Int))), (14, (aI x))], [(0, vN 3 [(aI cap0), (.os 1 0 cap02.length), (.os 2 0 cap2.length)]), (1, aO 1 cI 0 cap02), (2, aO 1 cB false cap2), (3, vO 3 (Tapi_Network.cells n)), (4, aO 1 cI 0 out)], 5⟩ := by
  induction fuel with
  | zero => intro _ _ _ r h; rw [g_water_step_L1.eq_1] at h; cases h
  | succ fuel ih =>
    intro cap02 out x r h E hE
    rw [g_water_step_L1.eq_2] at h
    refine Runs.sA 1 [.code (C_89 232), .code (C_89 233), .inLoop (C_89 116), .inBlock 0, .code (C_89 15)] ?_
    refine Runs.sR hE ⟨[(1, (.op 0 0 0)), (2, (.op 3 0 0)), (5, (.os 4 0 out.length)), (12, (encL Tapi_Link.cells Tapi_Link.d n.f_Links)), (13, (aI ((n.f_Links.length : Nat) : Int))), (14, (aI x)), (15, (aB (decide (x < ((n.f_Links.length : Nat) : Int)))))], [(0, vN 3 [(aI cap0), (.os 1 0 cap02.length), (.os 2 0 cap2.length)]), (1, aO 1 cI 0 cap02), (2, aO 1 cB false cap2), (3, vO 3 (Tapi_Network.cells n)), (4, aO 1 cI 0 out)], 21⟩ (C_89 232) [] [] (kp [1, 2, 5, 12, 13, 14, 15]) (kq [0, 1, 2, 3, 4]) 21 [] trivial ?_
    refine Runs.sA 1 [.code (C_89 466), .code (C_89 467), .inLoop (C_89 116), .inBlock 0, .code (C_89 15)] ?_
    refine Runs.sC 15 (C_89 932) (C_89 933) (decide (x < ((n.f_Links.length : Nat) : Int))) (fun hq2 => ?_) (fun hq2 => ?_)
    · have h := condT h hq2
      refine Runs.sA 4 [.code (C_89 3736), .code (C_89 3737), .inBlock 1, .code (C_89 935), .inLoop (C_89 116), .inBlock 0, .code (C_89 15)] ?_
      obtain ⟨c, h⟩ := ifSome h
      refine Runs.sR hE ⟨[(1, (.op 0 0 0)), (2, (.op 3 0 0)), (5, (.os 4 0 out.length)), (6, (aI x)), (7, (.op 69 0 0)), (12, (encL Tapi_Link.cells Tapi_Link.d n.f_Links)), (13, (aI ((n.f_Links.length : Nat) : Int))), (14, (aI x))], [(0, vN 3 [(aI cap0), (.os 1 0 cap02.length), (.os 2 0 cap2.length)]), (1, aO 1 cI 0 cap02), (2, aO 1 cB false cap2), (3, vO 3 (Tapi_Network.cells n)), (4, aO 1 cI 0 out), (69, vO 8 (Tapi_Link.cells (n.f_Links.getD ((x).toNat) Tapi_Link.d)))], 117⟩ (C_89 3736) [] [] (kp [1, 2, 5, 6, 7, 12, 13, 14]) (kq [0, 1, 2, 3, 4, 69]) 117 [0 ≤ x ∧ x < ((n.f_Links.length : Nat) : Int), 0 < 1] ⟨c, o1, trivial⟩ ?_
      refine Runs.sA 1 [.code (C_89 7474), .code (C_89 7475), .inBlock 1, .code (C_89 935), .inLoop (C_89 116), .inBlock 0, .code (C_89 15)] ?_
      obtain ⟨rflow, hr, h⟩ := bindSome h
      refine Runs.sR hE ⟨[(1, (.op 0 0 0)), (2, (.op 3 0 0)), (5, (.os 4 0 out.length)), (7, (.op 69 0 0)), (8, (aI rflow)), (12, (encL Tapi_Link.cells Tapi_Link.d n.f_Links)), (13, (aI ((n.f_Links.length : Nat) : Int))), (14, (aI x))], [(0, vN 3 [(aI cap0), (.os 1 0 cap02.length), (.os 2 0 cap2.length)]), (1, aO 1 cI 0 cap02), (2, aO 1 cB false cap2), (3, vO 3 (Tapi_Network.cells n)), (4, aO 1 cI 0 out), (69, vO 8 (Tapi_Link.cells (n.f_Links.getD ((x).toNat) Tapi_Link.d)))], 229⟩ (C_89 7474) [(5, ⟨[], true, (aI rflow), [], 0, false⟩)] [] (kp [1, 2, 5, 7, 8, 12, 13, 14]) (kq [0, 1, 2, 3, 4, 69]) 229 [0 < 1, 0 < 1, Sound Try.prog 83 [(.agg (Tapi_Network.cells n)), (.agg [(aI cap0), (encL cI 0 cap02), (encL cB false cap2)]), (aI x)] [] 0 (aI rflow) [], 0 + cap02.length ≤ cap02.length, 0 + cap2.length ≤ cap2.length] ⟨o1, o1, (g_water_flow_ok N n (⟨cap0, cap02, cap2⟩ : Tapi_Water) x rflow hr), z0, z0, trivial⟩ ?_
      refine Runs.sA 2 [.code (C_89 29900), .code (C_89 29901), .code (C_89 14951), .inBlock 1, .code (C_89 935), .inLoop (C_89 116), .inBlock 0, .code (C_89 15)] ?_
      obtain ⟨rbasinOf, hr2, h⟩ := bindSome h
      refine Runs.sR hE ⟨[(1, (.op 0 0 0)), (2, (.op 3 0 0)), (5, (.os 4 0 out.length)), (7, (.op 69 0 0)), (8, (aI rflow)), (9, (aI rbasinOf)), (12, (encL Tapi_Link.cells Tapi_Link.d n.f_Links)), (13, (aI ((n.f_Links.length : Nat) : Int))), (14, (aI x))], [(0, vN 3 [(aI cap0), (.os 1 0 cap02.length), (.os 2 0 cap2.length)]), (1, aO 1 cI 0 cap02), (2, aO 1 cB false cap2), (3, vO 3 (Tapi_Network.cells n)), (4, aO 1 cI 0 out), (69, vO 8 (Tapi_Link.cells (n.f_Links.getD ((x).toNat) Tapi_Link.d)))], 309⟩ (C_89 29900) [(3, ⟨[], true, (aI rbasinOf), [], 0, false⟩)] [] (kp [1, 2, 5, 7, 8, 9, 12, 13, 14]) (kq [0, 1, 2, 3, 4, 69]) 309 [0 < 1, 0 < 1, Sound Try.prog 94 [(.agg (Tapi_Network.cells n)), (aS ((n.f_Links.getD ((x).toNat) Tapi_Link.d).f_From))] [] 0 (aI rbasinOf) []] ⟨o1, o1, (g_water_basinOf_ok N n ((n.f_Links.getD ((x).toNat) Tapi_Link.d).f_From) rbasinOf hr2), trivial⟩ ?_
      refine Runs.sA 1 [.code (C_89 59802), .code (C_89 59803), .code (C_89 14951), .inBlock 1, .code (C_89 935), .inLoop (C_89 116), .inBlock 0, .code (C_89 15)] ?_
      refine Runs.sR hE ⟨[(1, (.op 0 0 0)), (2, (.op 3 0 0)), (5, (.os 4 0 out.length)), (7, (.op 69 0 0)), (8, (aI rflow)), (9, (aI rbasinOf)), (12, (encL Tapi_Link.cells Tapi_Link.d n.f_Links)), (13, (aI ((n.f_Links.length : Nat) : Int))), (14, (aI x)), (30, (aB (decide (rbasinOf ≥ 0))))], [(0, vN 3 [(aI cap0), (.os 1 0 cap02.length), (.os 2 0 cap2.length)]), (1, aO 1 cI 0 cap02), (2, aO 1 cB false cap2), (3, vO 3 (Tapi_Network.cells n)), (4, aO 1 cI 0 out), (69, vO 8 (Tapi_Link.cells (n.f_Links.getD ((x).toNat) Tapi_Link.d)))], 341⟩ (C_89 59802) [] [] (kp [1, 2, 5, 7, 8, 9, 12, 13, 14, 30]) (kq [0, 1, 2, 3, 4, 69]) 341 [] trivial ?_
      refine Runs.sC 30 (C_89 119606) (C_89 119607) (decide (rbasinOf ≥ 0)) (fun hq3 => ?_) (fun hq3 => ?_)
      · have h := condT h hq3
        obtain ⟨c2, h⟩ := ifSome h
        refine Runs.sR hE ⟨[(1, (.op 0 0 0)), (2, (.op 3 0 0)), (5, (.os 4 0 out.length)), (7, (.op 69 0 0)), (8, (aI rflow)), (12, (encL Tapi_Link.cells Tapi_Link.d n.f_Links)), (13, (aI ((n.f_Links.length : Nat) : Int))), (14, (aI x))], [(0, vN 3 [(aI cap0), (.os 1 0 ((cap02.set ((rbasinOf).toNat) (w64 ((cap02.getD ((rbasinOf).toNat) 0) - rflow))).length)), (.os 2 0 cap2.length)]), (1, aO 1 cI 0 (cap02.set ((rbasinOf).toNat) (w64 ((cap02.getD ((rbasinOf).toNat) 0) - rflow)))), (2, aO 1 cB false cap2), (3, vO 3 (Tapi_Network.cells n)), (4, aO 1 cI 0 out), (69, vO 8 (Tapi_Link.cells (n.f_Links.getD ((x).toNat) Tapi_Link.d)))], 517⟩ (C_89 119606) [] [] (kp [1, 2, 5, 7, 8, 12, 13, 14]) ([(0, .var 0 [.keep, .osl ((cap02.set ((rbasinOf).toNat) (w64 ((cap02.getD ((rbasinOf).toNat) 0) - rflow))).length), .keep]), (1, .arr 1 ((cap02.set ((rbasinOf).toNat) (w64 ((cap02.getD ((rbasinOf).toNat) 0) - rflow))).length) (fun zi => cI ((cap02.set ((rbasinOf).toNat) (w64 ((cap02.getD ((rbasinOf).toNat) 0) - rflow))).getD zi 0)))] ++ kq [2, 3, 4, 69]) 517 [0 < 1, 0 ≤ rbasinOf ∧ rbasinOf < ((cap02.length : Nat) : Int), (rbasinOf).toNat < cap02.length, 0 ≤ rbasinOf ∧ rbasinOf < ((cap02.length : Nat) : Int), (rbasinOf).toNat < cap02.length, cap02.length = (cap02.set ((rbasinOf).toNat) (w64 ((cap02.getD ((rbasinOf).toNat) 0) - rflow))).length, cap02.length = (cap02.set ((rbasinOf).toNat) (w64 ((cap02.getD ((rbasinOf).toNat) 0) - rflow))).length, ∀ zi, zi < (cap02.set ((rbasinOf).toNat) (w64 ((cap02.getD ((rbasinOf).toNat) 0) - rflow))).length → (fun zi => cI ((cap02.set ((rbasinOf).toNat) (w64 ((cap02.getD ((rbasinOf).toNat) 0) - rflow))).getD zi 0)) zi = ((fun zm => if zm = (rbasinOf).toNat then [(aI (w64 ((cap02.getD ((rbasinOf).toNat) 0) - rflow)))] else (fun zi => cI (cap02.getD zi 0)) zm)) zi] ⟨o1, c2, (ltOf c2), c2, (ltOf c2), (len_set_raw rfl), (len_set_raw rfl), (get_set_raw cI 0 cap02 ((rbasinOf).toNat) (w64 ((cap02.getD ((rbasinOf).toNat) 0) - rflow)) (fun _ _ => rfl)), trivial⟩ ?_
        refine Runs.sA 2 [.code (C_89 59804), .code (C_89 59805), .code (C_89 29903), .inBlock 1, .code (C_89 935), .inLoop (C_89 116), .inBlock 0, .code (C_89 15)] ?_
        exact Runs.sW hE _ [] (kp [1, 2, 5, 7, 8, 12, 13, 14]) (kq [0, 1, 2, 3, 4] ++ [(5, .keep 69)]) 6 [] trivial (g_water_step_J2_ok N n cap0 cap2 out x rflow (g_water_step_L1 N n cap0 cap2 fuel) ih (cap02.set ((rbasinOf).toNat) (w64 ((cap02.getD ((rbasinOf).toNat) 0) - rflow))) _ h E hE)
      · have h := condF h hq3
        refine Runs.sA 3 [.code (C_89 59804), .code (C_89 59805), .code (C_89 29903), .inBlock 1, .code (C_89 935), .inLoop (C_89 116), .inBlock 0, .code (C_89 15)] ?_
        exact Runs.sW hE _ [] (kp [1, 2, 5, 7, 8, 12, 13, 14]) (kq [0, 1, 2, 3, 4] ++ [(5, .keep 69)]) 6 [] trivial (g_water_step_J2_ok N n cap0 cap2 out x rflow (g_water_step_L1 N n cap0 cap2 fuel) ih cap02 _ h E hE)
    · have h := condF h hq2
      refine Runs.sA 2 [.code (C_89 30), .code (C_89 31)] ?_
      refine Runs.sR hE ⟨[(5, (.os 4 0 out.length))], [(0, vN 3 [(aI (w64 (cap0 + 1))), (.os 1 0 cap02.length), (.os 2 0 cap2.length)]), (1, aO 1 cI 0 cap02), (2, aO 1 cB false cap2), (4, aO 1 cI 0 out)], 149⟩ (C_89 30) [] [] (kp [5]) (kq [0, 1, 2, 4]) 149 [0 < 1, 0 < 1] ⟨o1, o1, trivial⟩ ?_
      refine Runs.sA 1 [.code (C_89 62), .code (C_89 63)] ?_
      refine Runs.sR hE ⟨[(4, (.os 4 0 out.length))], [(0, vN 3 [(aI (w64 (cap0 + 1))), (.os 1 0 cap02.length), (.os 2 0 cap2.length)]), (1, aO 1 cI 0 cap02), (2, aO 1 cB false cap2), (4, aO 1 cI 0 out)], 181⟩ (C_89 62) [] [] (kp [4]) (kq [0, 1, 2, 4]) 181 [] trivial ?_
      obtain rfl := Option.some.inj h
      refine Runs.sW hE ⟨[(4, (.os 3 0 out.length))], [(0, vN 3 [(aI (w64 (cap0 + 1))), (.os 1 0 cap02.length), (.os 2 0 cap2.length)]), (1, aO 1 cI 0 cap02), (2, aO 1 cB false cap2), (3, aO 1 cI 0 out)], 181⟩ [] (kp [4]) (kq [0, 1, 2] ++ [(3, .keep 4)]) 181 [] trivial ?_
      exact Runs.sT Try.f89 [] [] trivial

theorem g_water_step_ok (N : Nat) (n : Tapi_Network) (cap0 : Int) (cap1 : List Int) (cap2 : List Bool) (r : (List Int) × Tapi_Water × (List Int)) (h : g_water_step N n cap0 cap1 cap2 = some r) : Sound Try.prog 89 [(.agg (Tapi_Network.cells n)), (.op 0 0 0)] [(0, vN 3 [(aI cap0), (.os 1 0 cap1.length), (.os 2 0 cap2.length)]), (1, aO 1 cI 0 cap1), (2, aO 1 cB false cap2)] 3 (.os 3 0 r.1.length) [(0, vN 3 [(aI r.2.1.f_Minute), (.os 1 0 r.2.2.length), (.os 2 0 cap2.length)]), (1, aO 1 cI 0 r.2.2), (2, aO 1 cB false cap2), (3, aO 1 cI 0 r.1)] := by
  unfold g_water_step at h
  refine Sound.of_runs (fu := Try.f89) (c := C_89 1) (nt := 70) (by kernel_rfl) (by kernel_rfl) (by kernel_rfl) (by kernel_rfl) (fun hm => absurd hm (by decide)) ?_
  intro E hE
  refine Runs.sA 1 [.code (C_89 2), .code (C_89 3)] ?_
  refine Runs.sR hE ⟨[(1, (.op 0 0 0)), (2, (.op 3 0 0))], [(0, vN 3 [(aI cap0), (.os 1 0 cap1.length), (.os 2 0 cap2.length)]), (1, aO 1 cI 0 cap1), (2, aO 1 cB false cap2), (3, vO 3 (Tapi_Network.cells n))], 35⟩ (C_89 2) [] [] (kp [1, 2]) (kq [0, 1, 2, 3]) 35 [] trivial ?_
  refine Runs.sA 1 [.code (C_89 6), .code (C_89 7)] ?_
  refine Runs.sR hE ⟨[(1, (.op 0 0 0)), (2, (.op 3 0 0)), (5, .nil)], [(0, vN 3 [(aI cap0), (.os 1 0 cap1.length), (.os 2 0 cap2.length)]), (1, aO 1 cI 0 cap1), (2, aO 1 cB false cap2), (3, vO 3 (Tapi_Network.cells n))], 51⟩ (C_89 6) [] [] (kp [1, 2, 5]) (kq [0, 1, 2, 3]) 51 [] trivial ?_
  refine Runs.sA 2 [.code (C_89 28), .code (C_89 29), .code (C_89 15)] ?_
  refine Runs.sR hE ⟨[(1, (.op 0 0 0)), (2, (.op 3 0 0)), (5, .nil), (12, (encL Tapi_Link.cells Tapi_Link.d n.f_Links)), (13, (aI ((n.f_Links.length : Nat) : Int))), (14, (aI 0))], [(0, vN 3 [(aI cap0), (.os 1 0 cap1.length), (.os 2 0 cap2.length)]), (1, aO 1 cI 0 cap1), (2, aO 1 cB false cap2), (3, vO 3 (Tapi_Network.cells n))], 115⟩ (C_89 28) [] [] (kp [1, 2, 5, 12, 13, 14]) (kq [0, 1, 2, 3]) 115 [0 < 1] ⟨o1, trivial⟩ ?_
  refine Runs.sA 2 [.code (C_89 116), .inLoop (C_89 116), .inBlock 0, .code (C_89 15)] ?_
  exact Runs.sW hE _ [] (kp [1, 2] ++ [(5, .nilos 4)] ++ kp [12, 13, 14]) (kq [0, 1, 2, 3] ++ [(4, .nil 1 (fun zi => cI (([] : List Int).getD zi 0)))]) 5 [] trivial (g_water_step_L1_ok N n cap0 cap2 N cap1 ([] : List Int) 0 _ h E hE)

noncomputable def C_85 (n : Nat) : Code := cat (bodyOf Try.f40) (pth n)

theorem g_water_Step_ok (N : Nat) (n : Tapi_Network) (w : Tapi_Water) (r : Tapi_Water × (List Int) × Int) (h : g_water_Step N n w = some r) : Sound Try.prog 40 [(.agg (Tapi_Network.cells n)), (.agg (Tapi_Water.cells w))] [] 0 (.tup [(.agg (Tapi_Water.cells r.1)), (encL cI 0 r.2.1), (aI r.2.2)]) [] := by
  unfold g_water_Step at h
  refine Sound.of_runs (fu := Try.f40) (c := C_85 1) (nt := 27) (by kernel_rfl) (by kernel_rfl) (by kernel_rfl) (by kernel_rfl) (fun hm => rfl) ?_
  intro E hE
  refine Runs.sA 1 [.code (C_85 2), .code (C_85 3)] ?_
  refine Runs.sR hE ⟨[(2, (.op 0 0 0)), (3, (.op 16 0 0)), (4, (.op 32 0 0))], [(0, vO 3 (Tapi_Network.cells n)), (16, vO 3 (Tapi_Water.cells w)), (32, vO 3 [(aI 0), .nil, .nil])], 80⟩ (C_85 2) [] [] (kp [2, 3, 4]) (kq [0, 16, 32]) 80 [] trivial ?_
  refine Runs.sA 2 [.code (C_85 12), .code (C_85 13), .code (C_85 7)] ?_
  obtain ⟨rcheckState, hr, h⟩ := bindSome h
  refine Runs.sR hE ⟨[(2, (.op 0 0 0)), (3, (.op 16 0 0)), (4, (.op 32 0 0)), (7, (aI rcheckState))], [(0, vO 3 (Tapi_Network.cells n)), (16, vO 3 (Tapi_Water.cells w)), (32, vO 3 [(aI 0), .nil, .nil])], 144⟩ (C_85 12) [(2, ⟨[], true, (aI rcheckState), [], 0, false⟩)] [] (kp [2, 3, 4, 7]) (kq [0, 16, 32]) 144 [0 < 1, 0 < 1, Sound Try.prog 81 [(.agg (Tapi_Network.cells n)), (.agg (Tapi_Water.cells w))] [] 0 (aI rcheckState) []] ⟨o1, o1, (g_water_checkState_ok N n w rcheckState hr), trivial⟩ ?_
  refine Runs.sA 1 [.code (C_85 26), .code (C_85 27), .code (C_85 7)] ?_
  refine Runs.sR hE ⟨[(2, (.op 0 0 0)), (3, (.op 16 0 0)), (4, (.op 32 0 0)), (7, (aI rcheckState)), (14, (aB (rcheckState != 0)))], [(0, vO 3 (Tapi_Network.cells n)), (16, vO 3 (Tapi_Water.cells w)), (32, vO 3 [(aI 0), .nil, .nil])], 176⟩ (C_85 26) [] [] (kp [2, 3, 4, 7, 14]) (kq [0, 16, 32]) 176 [] trivial ?_
  refine Runs.sC 14 (C_85 54) (C_85 55) (rcheckState != 0) (fun hq2 => ?_) (fun hq2 => ?_)
  · have h := condT h hq2
    refine Runs.sA 1 [.code (C_85 108), .code (C_85 109), .code (C_85 7)] ?_
    refine Runs.sR hE ⟨[(4, (.op 32 0 0)), (5, .nil), (6, (aI rcheckState))], [(32, vO 3 [(aI 0), .nil, .nil])], 256⟩ (C_85 108) [] [] (kp [4, 5, 6]) (kq [32]) 256 [0 < 1] ⟨o1, trivial⟩ ?_
    obtain rfl := Option.some.inj h
    refine Runs.sW hE ⟨[(4, (.op 16 0 0)), (5, (encL cI 0 ([] : List Int))), (6, (aI rcheckState))], [(16, vO 3 [(aI 0), (encL cI 0 ([] : List Int)), (encL cB false ([] : List Bool))])], 256⟩ [] (kp [4] ++ [(5, .sl (([] : List Int).length) (fun zi => cI (([] : List Int).getD zi 0)))] ++ kp [6]) [(16, .var 32 [.keep, .sl (([] : List Int).length) (fun zi => cI (([] : List Int).getD zi 0)), .sl (([] : List Bool).length) (fun zi => cB (([] : List Bool).getD zi false))])] 256 [([] : List Int).length = 0, ([] : List Int).length = 0, ([] : List Bool).length = 0] ⟨rfl, rfl, rfl, trivial⟩ ?_
    exact Runs.sT Try.f40 [16] [0 < 1] ⟨o1, trivial⟩
  · have h := condF h hq2
    refine Runs.sA 3 [.code (C_85 28), .code (C_85 29), .code (C_85 15)] ?_
    refine Runs.sR hE ⟨[(2, (.op 0 0 0)), (3, (.op 16 0 0)), (4, (.op 32 0 0)), (19, (aB (w.f_Minute == 1000000)))], [(0, vO 3 (Tapi_Network.cells n)), (16, vO 3 (Tapi_Water.cells w)), (32, vO 3 [(aI 0), .nil, .nil])], 224⟩ (C_85 28) [] [] (kp [2, 3, 4, 19]) (kq [0, 16, 32]) 224 [0 < 1] ⟨o1, trivial⟩ ?_
    refine Runs.sC 19 (C_85 58) (C_85 59) (w.f_Minute == 1000000) (fun hq3 => ?_) (fun hq3 => ?_)
    · have h := condT h hq3
      refine Runs.sA 1 [.code (C_85 116), .code (C_85 117), .code (C_85 15)] ?_
      refine Runs.sR hE ⟨[(4, (.op 32 0 0)), (5, .nil), (6, (aI 2))], [(32, vO 3 [(aI 0), .nil, .nil])], 288⟩ (C_85 116) [] [] (kp [4, 5, 6]) (kq [32]) 288 [0 < 1] ⟨o1, trivial⟩ ?_
      obtain rfl := Option.some.inj h
      refine Runs.sW hE ⟨[(4, (.op 16 0 0)), (5, (encL cI 0 ([] : List Int))), (6, (aI 2))], [(16, vO 3 [(aI 0), (encL cI 0 ([] : List Int)), (encL cB false ([] : List Bool))])], 288⟩ [] (kp [4] ++ [(5, .sl (([] : List Int).length) (fun zi => cI (([] : List Int).getD zi 0)))] ++ kp [6]) [(16, .var 32 [.keep, .sl (([] : List Int).length) (fun zi => cI (([] : List Int).getD zi 0)), .sl (([] : List Bool).length) (fun zi => cB (([] : List Bool).getD zi false))])] 288 [([] : List Int).length = 0, ([] : List Int).length = 0, ([] : List Bool).length = 0] ⟨rfl, rfl, rfl, trivial⟩ ?_
      exact Runs.sT Try.f40 [16] [0 < 1] ⟨o1, trivial⟩
    · have h := condF h hq3
      refine Runs.sA 2 [.code (C_85 30), .code (C_85 31)] ?_
      obtain ⟨rclone, hr2, h⟩ := bindSome h
      refine Runs.sR hE ⟨[(2, (.op 0 0 0)), (4, (.op 32 0 0)), (8, (.op 256 0 0))], [(0, vO 3 (Tapi_Network.cells n)), (32, vO 3 [(aI 0), .nil, .nil]), (240, aO 1 cI 0 rclone.f_Litres), (241, aO 1 cB false rclone.f_Open), (256, vN 3 [(aI rclone.f_Minute), (.os 240 0 rclone.f_Litres.length), (.os 241 0 rclone.f_Open.length)])], 288⟩ (C_85 30) [(1, ⟨[], false, (.agg [(aI rclone.f_Minute), (.os 0 0 rclone.f_Litres.length), (.os 1 0 rclone.f_Open.length)]), [(0, aO 1 cI 0 rclone.f_Litres), (1, aO 1 cB false rclone.f_Open)], 0, false⟩)] [] (kp [2, 4, 8]) (kq [0, 32, 240, 241, 256]) 288 [0 < 1, Sound Try.prog 88 [(.agg (Tapi_Water.cells w))] [] 0 (.agg [(aI rclone.f_Minute), (.os 0 0 rclone.f_Litres.length), (.os 1 0 rclone.f_Open.length)]) [(0, aO 1 cI 0 rclone.f_Litres), (1, aO 1 cB false rclone.f_Open)], 0 < 1] ⟨o1, (g_water_clone_ok N w rclone hr2), o1, trivial⟩ ?_
      refine Runs.sA 1 [.code (C_85 62), .code (C_85 63)] ?_
      obtain ⟨rstep, hr3, h⟩ := bindSome h
      obtain ⟨c, h⟩ := ifSome h
      refine Runs.sR hE ⟨[(4, (.op 32 0 0)), (8, (.op 256 0 0)), (9, (.os 304 0 rstep.1.length))], [(32, vO 3 [(aI 0), .nil, .nil]), (240, aO 1 cI 0 rstep.2.2), (241, aO 1 cB false rclone.f_Open), (256, vN 3 [(aI rstep.2.1.f_Minute), (.os 240 0 rstep.2.2.length), (.os 241 0 rclone.f_Open.length)]), (304, aO 1 cI 0 rstep.1)], 336⟩ (C_85 62) [(1, ⟨[256, 240, 241], false, (.os 3 0 rstep.1.length), [(0, vN 3 [(aI rstep.2.1.f_Minute), (.os 1 0 rstep.2.2.length), (.os 2 0 rclone.f_Open.length)]), (1, aO 1 cI 0 rstep.2.2), (2, aO 1 cB false rclone.f_Open), (3, aO 1 cI 0 rstep.1)], 0, false⟩)] [] (kp [4, 8, 9]) (kq [32, 240, 241, 256, 304]) 336 [0 < 1, Sound Try.prog 89 [(.agg (Tapi_Network.cells n)), (.op 0 0 0)] [(0, vN 3 [(aI rclone.f_Minute), (.os 1 0 rclone.f_Litres.length), (.os 2 0 rclone.f_Open.length)]), (1, aO 1 cI 0 rclone.f_Litres), (2, aO 1 cB false rclone.f_Open)] 3 (.os 3 0 rstep.1.length) [(0, vN 3 [(aI rstep.2.1.f_Minute), (.os 1 0 rstep.2.2.length), (.os 2 0 rclone.f_Open.length)]), (1, aO 1 cI 0 rstep.2.2), (2, aO 1 cB false rclone.f_Open), (3, aO 1 cI 0 rstep.1)]] ⟨o1, (g_water_step_ok N n rclone.f_Minute rclone.f_Litres rclone.f_Open rstep hr3), trivial⟩ ?_
      refine Runs.sA 1 [.code (C_85 126), .code (C_85 127)] ?_
      refine Runs.sR hE ⟨[(4, (.op 32 0 0)), (5, (.os 304 0 rstep.1.length)), (6, (aI 0))], [(32, vN 3 [(aI rstep.2.1.f_Minute), (.os 240 0 rstep.2.2.length), (.os 241 0 rclone.f_Open.length)]), (240, aO 1 cI 0 rstep.2.2), (241, aO 1 cB false rclone.f_Open), (304, aO 1 cI 0 rstep.1)], 416⟩ (C_85 126) [] [] (kp [4, 5, 6]) (kq [32, 240, 241, 304]) 416 [0 < 1, 0 < 1] ⟨o1, o1, trivial⟩ ?_
      obtain rfl := Option.some.inj h
      refine Runs.sW hE ⟨[(4, (.op 16 0 0)), (5, (encL cI 0 rstep.1)), (6, (aI 0))], [(16, vO 3 [(aI rstep.2.1.f_Minute), (encL cI 0 rstep.2.2), (encL cB false rclone.f_Open)])], 416⟩ [240, 241, 304] (kp [4] ++ [(5, .sl (rstep.1.length) (fun zi => cI (rstep.1.getD zi 0)))] ++ kp [6]) [(16, .var 32 [.keep, .sl (rstep.2.2.length) (fun zi => cI (rstep.2.2.getD zi 0)), .sl (rclone.f_Open.length) (fun zi => cB (rclone.f_Open.getD zi false))])] 416 [rstep.1.length = rstep.1.length, 0 + rstep.1.length ≤ rstep.1.length, ∀ zi, zi < rstep.1.length → (fun zi => cI (rstep.1.getD zi 0)) zi = (fun zi => cI (rstep.1.getD zi 0)) (addz 0 zi), rstep.2.2.length = rstep.2.2.length, 0 + rstep.2.2.length ≤ rstep.2.2.length, ∀ zi, zi < rstep.2.2.length → (fun zi => cI (rstep.2.2.getD zi 0)) zi = (fun zi => cI (rstep.2.2.getD zi 0)) (addz 0 zi), rclone.f_Open.length = rclone.f_Open.length, 0 + rclone.f_Open.length ≤ rclone.f_Open.length, ∀ zi, zi < rclone.f_Open.length → (fun zi => cB (rclone.f_Open.getD zi false)) zi = (fun zi => cB (rclone.f_Open.getD zi false)) (addz 0 zi)] ⟨rfl, z0, (fun _ _ => rfl), rfl, z0, (fun _ _ => rfl), rfl, z0, (fun _ _ => rfl), trivial⟩ ?_
      exact Runs.sT Try.f40 [16] [0 < 1] ⟨o1, trivial⟩

noncomputable def C_91 (n : Nat) : Code := cat (bodyOf Try.f90) (pth n)

theorem g_water_checkTurns_L1_ok (N : Nat) (n : Tapi_Network) (turns : List Tapi_Turn) (fuel : Nat) : ∀ (x : Int) (r : Int), g_water_checkTurns_L1 N n turns fuel x = some r → ∀ E, EnvOk E 0 → Runs Try.prog E 90 52 (SPost E [] (aI r)) [.code (C_91 244), .inLoop (C_91 244), .inBlock 0, .code (C_91 31)] ⟨[(2, (encL Tapi_Turn.cells Tapi_Turn.d turns)), (3, (.op 0 0 0)), (19, (encL Tapi_Turn.cells Tapi_Turn.d turns)), (20, (aI ((turns.length : Nat) : Int))), (21, (aI x))], [(0, vO 3 (Tapi_Network.cells n))], 1⟩ := by
  induction fuel with
  | zero => intro _ r h; rw [g_water_checkTurns_L1.eq_1] at h; cases h
  | succ fuel ih =>
    intro x r h E hE
    rw [g_water_checkTurns_L1.eq_2] at h
    refine Runs.sA 1 [.code (C_91 488), .code (C_91 489), .inLoop (C_91 244), .inBlock 0, .code (C_91 31)] ?_
    refine Runs.sR hE ⟨[(2, (encL Tapi_Turn.cells Tapi_Turn.d turns)), (3, (.op 0 0 0)), (19, (encL Tapi_Turn.cells Tapi_Turn.d turns)), (20, (aI ((turns.length : Nat) : Int))), (21, (aI x)), (22, (aB (decide (x < ((turns.length : Nat) : Int)))))], [(0, vO 3 (Tapi_Network.cells n))], 17⟩ (C_91 488) [] [] (kp [2, 3, 19, 20, 21, 22]) (kq [0]) 17 [] trivial ?_
    refine Runs.sA 1 [.code (C_91 978), .code (C_91 979), .inLoop (C_91 244), .inBlock 0, .code (C_91 31)] ?_
    refine Runs.sC 22 (C_91 1956) (C_91 1957) (decide (x < ((turns.length : Nat) : Int))) (fun hq4 => ?_) (fun hq4 => ?_)
    · have h := condT h hq4
      refine Runs.sA 4 [.code (C_91 7832), .code (C_91 7833), .inBlock 1, .code (C_91 1959), .inLoop (C_91 244), .inBlock 0, .code (C_91 31)] ?_
      obtain ⟨c, h⟩ := ifSome h
      refine Runs.sR hE ⟨[(2, (encL Tapi_Turn.cells Tapi_Turn.d turns)), (3, (.op 0 0 0)), (8, (aI x)), (9, (.op 65 0 0)), (19, (encL Tapi_Turn.cells Tapi_Turn.d turns)), (20, (aI ((turns.length : Nat) : Int))), (21, (aI x))], [(0, vO 3 (Tapi_Network.cells n)), (65, vO 3 (Tapi_Turn.cells (turns.getD ((x).toNat) Tapi_Turn.d)))], 113⟩ (C_91 7832) [] [] (kp [2, 3, 8, 9, 19, 20, 21]) (kq [0, 65]) 113 [0 ≤ x ∧ x < ((turns.length : Nat) : Int), 0 < 1] ⟨c, o1, trivial⟩ ?_
      refine Runs.sA 2 [.code (C_91 31332), .code (C_91 31333), .inBlock 2, .inBlock 1, .code (C_91 1959), .inLoop (C_91 244), .inBlock 0, .code (C_91 31)] ?_
      obtain ⟨rbetween, hr2, h⟩ := bindSome h
      refine Runs.sR hE ⟨[(2, (encL Tapi_Turn.cells Tapi_Turn.d turns)), (3, (.op 0 0 0)), (8, (aI x)), (9, (.op 65 0 0)), (19, (encL Tapi_Turn.cells Tapi_Turn.d turns)), (20, (aI ((turns.length : Nat) : Int))), (21, (aI x)), (26, (aB (!rbetween)))], [(0, vO 3 (Tapi_Network.cells n)), (65, vO 3 (Tapi_Turn.cells (turns.getD ((x).toNat) Tapi_Turn.d)))], 193⟩ (C_91 31332) [(2, ⟨[], true, (aB rbetween), [], 0, false⟩)] [] (kp [2, 3, 8, 9, 19, 20, 21, 26]) (kq [0, 65]) 193 [0 < 1, Sound Try.prog 59 [(aI ((turns.getD ((x).toNat) Tapi_Turn.d).f_Minute)), (aI 0), (aI 1000000)] [] 0 (aB rbetween) []] ⟨o1, (g_water_between_ok N ((turns.getD ((x).toNat) Tapi_Turn.d).f_Minute) 0 1000000 rbetween hr2), trivial⟩ ?_
      refine Runs.sC 26 (C_91 62666) (C_91 62667) (!rbetween) (fun hq5 => ?_) (fun hq5 => ?_)
      · have h := condT h hq5
        refine Runs.sA 1 [.code (C_91 125332), .code (C_91 125333), .inBlock 2, .inBlock 1, .code (C_91 1959), .inLoop (C_91 244), .inBlock 0, .code (C_91 31)] ?_
        refine Runs.sR hE ⟨[(6, (aI 2))], [], 209⟩ (C_91 125332) [] [] (kp [6]) [] 209 [] trivial ?_
        obtain rfl := Option.some.inj h
        refine Runs.sW hE ⟨[(6, (aI 2))], [], 209⟩ [] (kp [6]) [] 209 [] trivial ?_
        exact Runs.sT Try.f90 [] [] trivial
      · have h := condF h hq5
        refine Runs.sA 1 [.code (C_91 125334), .code (C_91 125335), .inBlock 2, .inBlock 1, .code (C_91 1959), .inLoop (C_91 244), .inBlock 0, .code (C_91 31)] ?_
        obtain ⟨c2, h⟩ := ifSome h
        refine Runs.sR hE ⟨[(2, (encL Tapi_Turn.cells Tapi_Turn.d turns)), (3, (.op 0 0 0)), (9, (.op 65 0 0)), (19, (encL Tapi_Turn.cells Tapi_Turn.d turns)), (20, (aI ((turns.length : Nat) : Int))), (21, (aI x)), (31, (aB (cond (decide (x > 0)) (decide ((turns.getD ((x).toNat) Tapi_Turn.d).f_Minute < (turns.getD ((w64 (x - 1)).toNat) Tapi_Turn.d).f_Minute)) false)))], [(0, vO 3 (Tapi_Network.cells n)), (65, vO 3 (Tapi_Turn.cells (turns.getD ((x).toNat) Tapi_Turn.d)))], 417⟩ (C_91 125334) [] [] (kp [2, 3, 9, 19, 20, 21, 31]) (kq [0, 65]) 417 [(decide (x > 0)) = true → AllP [(decide (x > 0)) = true, 0 < 1], (decide (x > 0)) = true → AllP [(decide (x > 0)) = true], (decide (x > 0)) = true → AllP [(decide (x > 0)) = true, (decide (x > 0)) = true, 0 ≤ (w64 (x - 1)) ∧ (w64 (x - 1)) < ((turns.length : Nat) : Int)], (decide (x > 0)) = true → AllP [(decide (x > 0)) = true], (decide (x > 0)) = true → AllP [(decide (x > 0)) = true], (decide (x > 0)) = true → AllP [(decide (x > 0)) = true, (decide (x > 0)) = true], (decide (x > 0)) = true → AllP [(decide (x > 0)) = true]] ⟨(fun hg => ⟨hg, o1, trivial⟩), (fun hg => ⟨hg, trivial⟩), (fun hg => ⟨hg, hg, (c2 hg), trivial⟩), (fun hg => ⟨hg, trivial⟩), (fun hg => ⟨hg, trivial⟩), (fun hg => ⟨hg, hg, trivial⟩), (fun hq => ⟨hq, trivial⟩), trivial⟩ ?_
        refine Runs.sC 31 (C_91 250670) (C_91 250671) (cond (decide (x > 0)) (decide ((turns.getD ((x).toNat) Tapi_Turn.d).f_Minute < (turns.getD ((w64 (x - 1)).toNat) Tapi_Turn.d).f_Minute)) false) (fun hq6 => ?_) (fun hq6 => ?_)
        · have h := condT h hq6
          refine Runs.sA 1 [.code (C_91 501340), .code (C_91 501341), .inBlock 2, .inBlock 1, .code (C_91 1959), .inLoop (C_91 244), .inBlock 0, .code (C_91 31)] ?_
          refine Runs.sR hE ⟨[(6, (aI 10))], [], 433⟩ (C_91 501340) [] [] (kp [6]) [] 433 [] trivial ?_
          obtain rfl := Option.some.inj h
          refine Runs.sW hE ⟨[(6, (aI 10))], [], 433⟩ [] (kp [6]) [] 433 [] trivial ?_
          exact Runs.sT Try.f90 [] [] trivial
        · have h := condF h hq6
          refine Runs.sA 1 [.code (C_91 501342), .code (C_91 501343), .inBlock 2, .inBlock 1, .code (C_91 1959), .inLoop (C_91 244), .inBlock 0, .code (C_91 31)] ?_
          obtain ⟨rlinkOf, hr3, h⟩ := bindSome h
          refine Runs.sR hE ⟨[(2, (encL Tapi_Turn.cells Tapi_Turn.d turns)), (3, (.op 0 0 0)), (19, (encL Tapi_Turn.cells Tapi_Turn.d turns)), (20, (aI ((turns.length : Nat) : Int))), (21, (aI x)), (45, (aB (decide (rlinkOf < 0))))], [(0, vO 3 (Tapi_Network.cells n))], 513⟩ (C_91 501342) [(3, ⟨[], true, (aI rlinkOf), [], 0, false⟩)] [] (kp [2, 3, 19, 20, 21, 45]) (kq [0]) 513 [0 < 1, 0 < 1, Sound Try.prog 82 [(.agg (Tapi_Network.cells n)), (aS ((turns.getD ((x).toNat) Tapi_Turn.d).f_Link))] [] 0 (aI rlinkOf) []] ⟨o1, o1, (g_water_linkOf_ok N n ((turns.getD ((x).toNat) Tapi_Turn.d).f_Link) rlinkOf hr3), trivial⟩ ?_
          refine Runs.sC 45 (C_91 1002686) (C_91 1002687) (decide (rlinkOf < 0)) (fun hq7 => ?_) (fun hq7 => ?_)
          · have h := condT h hq7
            refine Runs.sA 1 [.code (C_91 2005372), .code (C_91 2005373), .inBlock 2, .inBlock 1, .code (C_91 1959), .inLoop (C_91 244), .inBlock 0, .code (C_91 31)] ?_
            refine Runs.sR hE ⟨[(6, (aI 6))], [], 529⟩ (C_91 2005372) [] [] (kp [6]) [] 529 [] trivial ?_
            obtain rfl := Option.some.inj h
            refine Runs.sW hE ⟨[(6, (aI 6))], [], 529⟩ [] (kp [6]) [] 529 [] trivial ?_
            exact Runs.sT Try.f90 [] [] trivial
          · have h := condF h hq7
            refine Runs.sA 3 [.code (C_91 1959), .inLoop (C_91 244), .inBlock 0, .code (C_91 31)] ?_
            refine Runs.sR hE ⟨[(2, (encL Tapi_Turn.cells Tapi_Turn.d turns)), (3, (.op 0 0 0)), (19, (encL Tapi_Turn.cells Tapi_Turn.d turns)), (20, (aI ((turns.length : Nat) : Int))), (21, (aI (w64 (x + 1))))], [(0, vO 3 (Tapi_Network.cells n))], 545⟩ (C_91 1959) [] [] (kp [2, 3, 19, 20, 21]) (kq [0]) 545 [] trivial ?_
            refine Runs.sA 1 [.code (C_91 244), .inLoop (C_91 244), .inBlock 0, .code (C_91 31)] ?_
            exact Runs.sW hE _ [] (kp [2, 3, 19, 20, 21]) (kq [0]) 1 [] trivial (ih (w64 (x + 1)) _ h E hE)
    · have h := condF h hq4
      refine Runs.sA 2 [.code (C_91 62), .code (C_91 63)] ?_
      refine Runs.sR hE ⟨[(6, (aI 0))], [], 33⟩ (C_91 62) [] [] (kp [6]) [] 33 [] trivial ?_
      obtain rfl := Option.some.inj h
      refine Runs.sW hE ⟨[(6, (aI 0))], [], 48⟩ [] (kp [6]) [] 48 [] trivial ?_
      exact Runs.sT Try.f90 [] [] trivial

theorem g_water_checkTurns_ok (N : Nat) (n : Tapi_Network) (w : Tapi_Water) (turns : List Tapi_Turn) (r : Int) (h : g_water_checkTurns N n w turns = some r) : Sound Try.prog 90 [(.agg (Tapi_Network.cells n)), (.agg (Tapi_Water.cells w)), (encL Tapi_Turn.cells Tapi_Turn.d turns)] [] 0 (aI r) [] := by
  unfold g_water_checkTurns at h
  refine Sound.of_runs (fu := Try.f90) (c := C_91 1) (nt := 52) (by kernel_rfl) (by kernel_rfl) (by kernel_rfl) (by kernel_rfl) (fun hm => rfl) ?_
  intro E hE
  refine Runs.sA 1 [.code (C_91 2), .code (C_91 3)] ?_
  refine Runs.sR hE ⟨[(2, (encL Tapi_Turn.cells Tapi_Turn.d turns)), (3, (.op 0 0 0)), (4, (.op 16 0 0))], [(0, vO 3 (Tapi_Network.cells n)), (16, vO 3 (Tapi_Water.cells w))], 48⟩ (C_91 2) [] [] (kp [2, 3, 4]) (kq [0, 16]) 48 [] trivial ?_
  refine Runs.sA 2 [.code (C_91 12), .code (C_91 13), .code (C_91 7)] ?_
  obtain ⟨rcheckState, hr, h⟩ := bindSome h
  refine Runs.sR hE ⟨[(2, (encL Tapi_Turn.cells Tapi_Turn.d turns)), (3, (.op 0 0 0)), (7, (aI rcheckState))], [(0, vO 3 (Tapi_Network.cells n))], 112⟩ (C_91 12) [(2, ⟨[], true, (aI rcheckState), [], 0, false⟩)] [] (kp [2, 3, 7]) (kq [0]) 112 [0 < 1, 0 < 1, Sound Try.prog 81 [(.agg (Tapi_Network.cells n)), (.agg (Tapi_Water.cells w))] [] 0 (aI rcheckState) []] ⟨o1, o1, (g_water_checkState_ok N n w rcheckState hr), trivial⟩ ?_
  refine Runs.sA 1 [.code (C_91 26), .code (C_91 27), .code (C_91 7)] ?_
  refine Runs.sR hE ⟨[(2, (encL Tapi_Turn.cells Tapi_Turn.d turns)), (3, (.op 0 0 0)), (7, (aI rcheckState)), (14, (aB (rcheckState != 0)))], [(0, vO 3 (Tapi_Network.cells n))], 144⟩ (C_91 26) [] [] (kp [2, 3, 7, 14]) (kq [0]) 144 [] trivial ?_
  refine Runs.sC 14 (C_91 54) (C_91 55) (rcheckState != 0) (fun hq2 => ?_) (fun hq2 => ?_)
  · have h := condT h hq2
    refine Runs.sA 1 [.code (C_91 108), .code (C_91 109), .code (C_91 7)] ?_
    refine Runs.sR hE ⟨[(6, (aI rcheckState))], [], 176⟩ (C_91 108) [] [] (kp [6]) [] 176 [] trivial ?_
    obtain rfl := Option.some.inj h
    refine Runs.sW hE ⟨[(6, (aI rcheckState))], [], 176⟩ [] (kp [6]) [] 176 [] trivial ?_
    exact Runs.sT Try.f90 [] [] trivial
  · have h := condF h hq2
    refine Runs.sA 3 [.code (C_91 28), .code (C_91 29), .code (C_91 15)] ?_
    refine Runs.sR hE ⟨[(2, (encL Tapi_Turn.cells Tapi_Turn.d turns)), (3, (.op 0 0 0)), (18, (aB (decide (((turns.length : Nat) : Int) > 200))))], [(0, vO 3 (Tapi_Network.cells n))], 192⟩ (C_91 28) [] [] (kp [2, 3, 18]) (kq [0]) 192 [] trivial ?_
    refine Runs.sC 18 (C_91 58) (C_91 59) (decide (((turns.length : Nat) : Int) > 200)) (fun hq3 => ?_) (fun hq3 => ?_)
    · have h := condT h hq3
      refine Runs.sA 1 [.code (C_91 116), .code (C_91 117), .code (C_91 15)] ?_
      refine Runs.sR hE ⟨[(6, (aI 8))], [], 208⟩ (C_91 116) [] [] (kp [6]) [] 208 [] trivial ?_
      obtain rfl := Option.some.inj h
      refine Runs.sW hE ⟨[(6, (aI 8))], [], 208⟩ [] (kp [6]) [] 208 [] trivial ?_
      exact Runs.sT Try.f90 [] [] trivial
    · have h := condF h hq3
      refine Runs.sA 3 [.code (C_91 60), .code (C_91 61), .code (C_91 31)] ?_
      refine Runs.sR hE ⟨[(2, (encL Tapi_Turn.cells Tapi_Turn.d turns)), (3, (.op 0 0 0)), (19, (encL Tapi_Turn.cells Tapi_Turn.d turns)), (20, (aI ((turns.length : Nat) : Int))), (21, (aI 0))], [(0, vO 3 (Tapi_Network.cells n))], 240⟩ (C_91 60) [] [] (kp [2, 3, 19, 20, 21]) (kq [0]) 240 [] trivial ?_
      refine Runs.sA 2 [.code (C_91 244), .inLoop (C_91 244), .inBlock 0, .code (C_91 31)] ?_
      exact Runs.sW hE _ [] (kp [2, 3, 19, 20, 21]) (kq [0]) 1 [] trivial (g_water_checkTurns_L1_ok N n turns N 0 _ h E hE)

noncomputable def C_92 (n : Nat) : Code := cat (bodyOf Try.f91) (pth n)

theorem g_water_run_J3_ok (N : Nat) (n : Tapi_Network) (turns : List Tapi_Turn) (minutes : Int) (cap02 : Int) (cap03 : List Int) (x : Int) (x2 : Int) (K_g_water_run_L2 : (List Bool) → Int → Option (Tapi_Water × (List Int) × (List Bool))) (K_g_water_run_L1 : Int → (List Int) → (List Bool) → Int → Option (Tapi_Water × (List Int) × (List Bool)))
    (hK_g_water_run_L2 : ∀ (cap05 : List Bool) (x2 : Int) (r : Tapi_Water × (List Int) × (List Bool)), K_g_water_run_L2 cap05 x2 = some r → ∀ E, EnvOk E 3 → Runs Try.prog E 91 42 (SPost E [(0, vN 3 [(aI r.1.f_Minute), (.os 1 0 r.2.1.length), (.os 2 0 r.2.2.length)]), (1, aO 1 cI 0 r.2.1), (2, aO 1 cB false r.2.2)] (.tup [])) [.code (C_92 7364), .inLoop (C_92 7364), .inBlock 2, .code (C_92 921), .inBlock 1, .code (C_92 231), .inLoop (C_92 28), .inBlock 0] ⟨[(1, (.op 0 0 0)), (2, (encL Tapi_Turn.cells Tapi_Turn.d turns)), (4, (.op 3 0 0)), (10, (aI minutes)), (11, (aI x)), (13, (encL Tapi_Turn.cells Tapi_Turn.d turns)), (14, (aI ((turns.length : Nat) : Int))), (15, (aI x2))], [(0, vN 3 [(aI cap02), (.os 1 0 cap03.length), (.os 2 0 cap05.length)]), (1, aO 1 cI 0 cap03), (2, aO 1 cB false cap05), (3, vO 3 (Tapi_Network.cells n))], 4⟩)
    (hK_g_water_run_L1 : ∀ (cap02 : Int) (cap03 : List Int) (cap04 : List Bool) (x : Int) (r : Tapi_Water × (List Int) × (List Bool)), K_g_water_run_L1 cap02 cap03 cap04 x = some r → ∀ E, EnvOk E 3 → Runs Try.prog E 91 42 (SPost E [(0, vN 3 [(aI r.1.f_Minute), (.os 1 0 r.2.1.length), (.os 2 0 r.2.2.length)]), (1, aO 1 cI 0 r.2.1), (2, aO 1 cB false r.2.2)] (.tup [])) [.code (C_92 28), .inLoop (C_92 28), .inBlock 0] ⟨[(1, (.op 0 0 0)), (2, (encL Tapi_Turn.cells Tapi_Turn.d turns)), (4, (.op 3 0 0)), (10, (aI minutes)), (11, (aI x))], [(0, vN 3 [(aI cap02), (.os 1 0 cap03.length), (.os 2 0 cap04.length)]), (1, aO 1 cI 0 cap03), (2, aO 1 cB false cap04), (3, vO 3 (Tapi_Network.cells n))], 4⟩) (cap06 : List Bool) (r : Tapi_Water × (List Int) × (List Bool)) (h : g_water_run_J3 N n turns minutes cap02 cap03 x x2 K_g_water_run_L2 K_g_water_run_L1 cap06 = some r) : ∀ E, EnvOk E 3 → Runs Try.prog E 91 42 (SPost E [(0, vN 3 [(aI r.1.f_Minute), (.os 1 0 r.2.1.length), (.os 2 0 r.2.2.length)]), (1, aO 1 cI 0 r.2.1), (2, aO 1 cB false r.2.2)] (.tup [])) [.code (C_92 58919), .inLoop (C_92 7364), .inBlock 2, .code (C_92 921), .inBlock 1, .code (C_92 231), .inLoop (C_92 28), .inBlock 0] ⟨[(1, (.op 0 0 0)), (2, (encL Tapi_Turn.cells Tapi_Turn.d turns)), (4, (.op 3 0 0)), (10, (aI minutes)), (11, (aI x)), (13, (encL Tapi_Turn.cells Tapi_Turn.d turns)), (14, (aI ((turns.length : Nat) : Int))), (15, (aI x2))], [(0, vN 3 [(aI cap02), (.os 1 0 cap03.length), (.os 2 0 cap06.length)]), (1, aO 1 cI 0 cap03), (2, aO 1 cB false cap06), (3, vO 3 (Tapi_Network.cells n))], 4⟩ := by
  intro E hE
  unfold g_water_run_J3 at h
  refine Runs.sR hE ⟨[(1, (.op 0 0 0)), (2, (encL Tapi_Turn.cells Tapi_Turn.d turns)), (4, (.op 3 0 0)), (10, (aI minutes)), (11, (aI x)), (13, (encL Tapi_Turn.cells Tapi_Turn.d turns)), (14, (aI ((turns.length : Nat) : Int))), (15, (aI (w64 (x2 + 1))))], [(0, vN 3 [(aI cap02), (.os 1 0 cap03.length), (.os 2 0 cap06.length)]), (1, aO 1 cI 0 cap03), (2, aO 1 cB false cap06), (3, vO 3 (Tapi_Network.cells n))], 36⟩ (C_92 58919) [] [] (kp [1, 2, 4, 10, 11, 13, 14, 15]) (kq [0, 1, 2, 3]) 36 [] trivial ?_
  refine Runs.sA 1 [.code (C_92 7364), .inLoop (C_92 7364), .inBlock 2, .code (C_92 921), .inBlock 1, .code (C_92 231), .inLoop (C_92 28), .inBlock 0] ?_
  exact Runs.sW hE _ [] (kp [1, 2, 4, 10, 11, 13, 14, 15]) (kq [0, 1, 2, 3]) 4 [] trivial (hK_g_water_run_L2 cap06 (w64 (x2 + 1)) _ h E hE)

theorem g_water_run_L2_ok (N : Nat) (n : Tapi_Network) (turns : List Tapi_Turn) (minutes : Int) (cap02 : Int) (cap03 : List Int) (x : Int) (K_g_water_run_L1 : Int → (List Int) → (List Bool) → Int → Option (Tapi_Water × (List Int) × (List Bool)))
    (hK_g_water_run_L1 : ∀ (cap02 : Int) (cap03 : List Int) (cap04 : List Bool) (x : Int) (r : Tapi_Water × (List Int) × (List Bool)), K_g_water_run_L1 cap02 cap03 cap04 x = some r → ∀ E, EnvOk E 3 → Runs Try.prog E 91 42 (SPost E [(0, vN 3 [(aI r.1.f_Minute), (.os 1 0 r.2.1.length), (.os 2 0 r.2.2.length)]), (1, aO 1 cI 0 r.2.1), (2, aO 1 cB false r.2.2)] (.tup [])) [.code (C_92 28), .inLoop (C_92 28), .inBlock 0] ⟨[(1, (.op 0 0 0)), (2, (encL Tapi_Turn.cells Tapi_Turn.d turns)), (4, (.op 3 0 0)), (10, (aI minutes)), (11, (aI x))], [(0, vN 3 [(aI cap02), (.os 1 0 cap03.length), (.os 2 0 cap04.length)]), (1, aO 1 cI 0 cap03), (2, aO 1 cB false cap04), (3, vO 3 (Tapi_Network.cells n))], 4⟩) (fuel : Nat) : ∀ (cap05 : List Bool) (x2 : Int) (r : Tapi_Water × (List Int) × (List Bool)), g_water_run_L2 N n turns minutes cap02 cap03 x K_g_water_run_L1 fuel cap05 x2 = some r → ∀ E, EnvOk E 3 → Runs Try.prog E 91 42 (SPost E [(0, vN 3 [(aI r.1.f_Minute), (.os 1 0 r.2.1.length), (.os 2 0 r.2.2.length)]), (1, aO 1 cI 0 r.2.1), (2, aO 1 cB false r.2.2)] (.tup [])) [.code (C_92 7364), .inLoop (C_92 7364), .inBlock 2, .code (C_92 921), .inBlock 1, .code (C_92 231), .inLoop (C_92 28), .inBlock 0] ⟨[(1, (.op 0 0 0)), (2, (encL Tapi_Turn.cells Tapi_Turn.d turns)), (4, (.op 3 0 0)), (10, (aI minutes)), (11, (aI x)), (13, (encL Tapi_Turn.cells Tapi_Turn.d turns)), (14, (aI ((turns.length : Nat) : Int))), (15, (aI x2))], [(0, vN 3 [(aI cap02), (.os 1 0 cap03.length), (.os 2 0 cap05.length)]), (1, aO 1 cI 0 cap03), (2, aO 1 cB false cap05), (3, vO 3 (Tapi_Network.cells n))], 4⟩ := by
  induction fuel with
  | zero => intro _ _ r h; rw [g_water_run_L2.eq_1] at h; cases h
  | succ fuel ih =>
    intro cap05 x2 r h E hE
    rw [g_water_run_L2.eq_2] at h
    refine Runs.sA 1 [.code (C_92 14728), .code (C_92 14729), .inLoop (C_92 7364), .inBlock 2, .code (C_92 921), .inBlock 1, .code (C_92 231), .inLoop (C_92 28), .inBlock 0] ?_
    refine Runs.sR hE ⟨[(1, (.op 0 0 0)), (2, (encL Tapi_Turn.cells Tapi_Turn.d turns)), (4, (.op 3 0 0)), (10, (aI minutes)), (11, (aI x)), (13, (encL Tapi_Turn.cells Tapi_Turn.d turns)), (14, (aI ((turns.length : Nat) : Int))), (15, (aI x2)), (16, (aB (decide (x2 < ((turns.length : Nat) : Int)))))], [(0, vN 3 [(aI cap02), (.os 1 0 cap03.length), (.os 2 0 cap05.length)]), (1, aO 1 cI 0 cap03), (2, aO 1 cB false cap05), (3, vO 3 (Tapi_Network.cells n))], 20⟩ (C_92 14728) [] [] (kp [1, 2, 4, 10, 11, 13, 14, 15, 16]) (kq [0, 1, 2, 3]) 20 [] trivial ?_
    refine Runs.sA 1 [.code (C_92 29458), .code (C_92 29459), .inLoop (C_92 7364), .inBlock 2, .code (C_92 921), .inBlock 1, .code (C_92 231), .inLoop (C_92 28), .inBlock 0] ?_
    refine Runs.sC 16 (C_92 58916) (C_92 58917) (decide (x2 < ((turns.length : Nat) : Int))) (fun hq3 => ?_) (fun hq3 => ?_)
    · have h := condT h hq3
      refine Runs.sA 4 [.code (C_92 235672), .code (C_92 235673), .inBlock 3, .code (C_92 58919), .inLoop (C_92 7364), .inBlock 2, .code (C_92 921), .inBlock 1, .code (C_92 231), .inLoop (C_92 28), .inBlock 0] ?_
      obtain ⟨c, h⟩ := ifSome h
      refine Runs.sR hE ⟨[(1, (.op 0 0 0)), (2, (encL Tapi_Turn.cells Tapi_Turn.d turns)), (4, (.op 3 0 0)), (9, (.op 52 0 0)), (10, (aI minutes)), (11, (aI x)), (13, (encL Tapi_Turn.cells Tapi_Turn.d turns)), (14, (aI ((turns.length : Nat) : Int))), (15, (aI x2))], [(0, vN 3 [(aI cap02), (.os 1 0 cap03.length), (.os 2 0 cap05.length)]), (1, aO 1 cI 0 cap03), (2, aO 1 cB false cap05), (3, vO 3 (Tapi_Network.cells n)), (52, vO 3 (Tapi_Turn.cells (turns.getD ((x2).toNat) Tapi_Turn.d)))], 84⟩ (C_92 235672) [] [] (kp [1, 2, 4, 9, 10, 11, 13, 14, 15]) (kq [0, 1, 2, 3, 52]) 84 [0 ≤ x2 ∧ x2 < ((turns.length : Nat) : Int), 0 < 1] ⟨c, o1, trivial⟩ ?_
      refine Runs.sA 1 [.code (C_92 471346), .code (C_92 471347), .inBlock 3, .code (C_92 58919), .inLoop (C_92 7364), .inBlock 2, .code (C_92 921), .inBlock 1, .code (C_92 231), .inLoop (C_92 28), .inBlock 0] ?_
      refine Runs.sR hE ⟨[(1, (.op 0 0 0)), (2, (encL Tapi_Turn.cells Tapi_Turn.d turns)), (4, (.op 3 0 0)), (9, (.op 52 0 0)), (10, (aI minutes)), (11, (aI x)), (13, (encL Tapi_Turn.cells Tapi_Turn.d turns)), (14, (aI ((turns.length : Nat) : Int))), (15, (aI x2)), (25, (aB ((turns.getD ((x2).toNat) Tapi_Turn.d).f_Minute == cap02)))], [(0, vN 3 [(aI cap02), (.os 1 0 cap03.length), (.os 2 0 cap05.length)]), (1, aO 1 cI 0 cap03), (2, aO 1 cB false cap05), (3, vO 3 (Tapi_Network.cells n)), (52, vO 3 (Tapi_Turn.cells (turns.getD ((x2).toNat) Tapi_Turn.d)))], 196⟩ (C_92 471346) [] [] (kp [1, 2, 4, 9, 10, 11, 13, 14, 15, 25]) (kq [0, 1, 2, 3, 52]) 196 [0 < 1, 0 < 1] ⟨o1, o1, trivial⟩ ?_
      refine Runs.sC 25 (C_92 942694) (C_92 942695) ((turns.getD ((x2).toNat) Tapi_Turn.d).f_Minute == cap02) (fun hq4 => ?_) (fun hq4 => ?_)
      · have h := condT h hq4
        obtain ⟨rlinkOf, hr, h⟩ := bindSome h
        obtain ⟨c2, h⟩ := ifSome h
        refine Runs.sR hE ⟨[(1, (.op 0 0 0)), (2, (encL Tapi_Turn.cells Tapi_Turn.d turns)), (4, (.op 3 0 0)), (10, (aI minutes)), (11, (aI x)), (13, (encL Tapi_Turn.cells Tapi_Turn.d turns)), (14, (aI ((turns.length : Nat) : Int))), (15, (aI x2))], [(0, vN 3 [(aI cap02), (.os 1 0 cap03.length), (.os 2 0 ((cap05.set ((rlinkOf).toNat) ((turns.getD ((x2).toNat) Tapi_Turn.d).f_Open)).length))]), (1, aO 1 cI 0 cap03), (2, aO 1 cB false (cap05.set ((rlinkOf).toNat) ((turns.getD ((x2).toNat) Tapi_Turn.d).f_Open))), (3, vO 3 (Tapi_Network.cells n))], 388⟩ (C_92 942694) [(7, ⟨[], true, (aI rlinkOf), [], 0, false⟩)] [] (kp [1, 2, 4, 10, 11, 13, 14, 15]) ([(0, .var 0 [.keep, .keep, .osl ((cap05.set ((rlinkOf).toNat) ((turns.getD ((x2).toNat) Tapi_Turn.d).f_Open)).length)])] ++ kq [1] ++ [(2, .arr 2 ((cap05.set ((rlinkOf).toNat) ((turns.getD ((x2).toNat) Tapi_Turn.d).f_Open)).length) (fun zi => cB ((cap05.set ((rlinkOf).toNat) ((turns.getD ((x2).toNat) Tapi_Turn.d).f_Open)).getD zi false)))] ++ kq [3]) 388 [0 < 1, 0 < 1, 0 < 1, Sound Try.prog 82 [(.agg (Tapi_Network.cells n)), (aS ((turns.getD ((x2).toNat) Tapi_Turn.d).f_Link))] [] 0 (aI rlinkOf) [], 0 < 1, 0 ≤ rlinkOf ∧ rlinkOf < ((cap05.length : Nat) : Int), (rlinkOf).toNat < cap05.length, cap05.length = (cap05.set ((rlinkOf).toNat) ((turns.getD ((x2).toNat) Tapi_Turn.d).f_Open)).length, cap05.length = (cap05.set ((rlinkOf).toNat) ((turns.getD ((x2).toNat) Tapi_Turn.d).f_Open)).length, ∀ zi, zi < (cap05.set ((rlinkOf).toNat) ((turns.getD ((x2).toNat) Tapi_Turn.d).f_Open)).length → (fun zi => cB ((cap05.set ((rlinkOf).toNat) ((turns.getD ((x2).toNat) Tapi_Turn.d).f_Open)).getD zi false)) zi = ((fun zm => if zm = (rlinkOf).toNat then [(aB ((turns.getD ((x2).toNat) Tapi_Turn.d).f_Open))] else (fun zi => cB (cap05.getD zi false)) zm)) zi] ⟨o1, o1, o1, (g_water_linkOf_ok N n ((turns.getD ((x2).toNat) Tapi_Turn.d).f_Link) rlinkOf hr), o1, c2, (ltOf c2), (len_set_raw rfl), (len_set_raw rfl), (get_set_raw cB false cap05 ((rlinkOf).toNat) ((turns.getD ((x2).toNat) Tapi_Turn.d).f_Open) (fun _ _ => rfl)), trivial⟩ ?_
        refine Runs.sA 1 [.code (C_92 58919), .inLoop (C_92 7364), .inBlock 2, .code (C_92 921), .inBlock 1, .code (C_92 231), .inLoop (C_92 28), .inBlock 0] ?_
        exact Runs.sW hE _ [] (kp [1, 2, 4, 10, 11, 13, 14, 15]) (kq [0, 1, 2, 3]) 4 [] trivial (g_water_run_J3_ok N n turns minutes cap02 cap03 x x2 (g_water_run_L2 N n turns minutes cap02 cap03 x K_g_water_run_L1 fuel) K_g_water_run_L1 ih hK_g_water_run_L1 (cap05.set ((rlinkOf).toNat) ((turns.getD ((x2).toNat) Tapi_Turn.d).f_Open)) _ h E hE)
      · have h := condF h hq4
        refine Runs.sA 2 [.code (C_92 58919), .inLoop (C_92 7364), .inBlock 2, .code (C_92 921), .inBlock 1, .code (C_92 231), .inLoop (C_92 28), .inBlock 0] ?_
        exact Runs.sW hE _ [] (kp [1, 2, 4, 10, 11, 13, 14, 15]) (kq [0, 1, 2, 3]) 4 [] trivial (g_water_run_J3_ok N n turns minutes cap02 cap03 x x2 (g_water_run_L2 N n turns minutes cap02 cap03 x K_g_water_run_L1 fuel) K_g_water_run_L1 ih hK_g_water_run_L1 cap05 _ h E hE)
    · have h := condF h hq3
      refine Runs.sA 1 [.code (C_92 921), .inBlock 1, .code (C_92 231), .inLoop (C_92 28), .inBlock 0] ?_
      obtain ⟨rstep, hr2, h⟩ := bindSome h
      obtain ⟨c3, h⟩ := ifSome h
      refine Runs.sR hE ⟨[(1, (.op 0 0 0)), (2, (encL Tapi_Turn.cells Tapi_Turn.d turns)), (4, (.op 3 0 0)), (10, (aI minutes)), (11, (aI x))], [(0, vN 3 [(aI rstep.2.1.f_Minute), (.os 1 0 rstep.2.2.length), (.os 2 0 cap05.length)]), (1, aO 1 cI 0 rstep.2.2), (2, aO 1 cB false cap05), (3, vO 3 (Tapi_Network.cells n))], 68⟩ (C_92 921) [(2, ⟨[0, 1, 2], false, (.os 3 0 rstep.1.length), [(0, vN 3 [(aI rstep.2.1.f_Minute), (.os 1 0 rstep.2.2.length), (.os 2 0 cap05.length)]), (1, aO 1 cI 0 rstep.2.2), (2, aO 1 cB false cap05), (3, aO 1 cI 0 rstep.1)], 0, false⟩)] [] (kp [1, 2, 4, 10, 11]) (kq [0, 1, 2, 3]) 68 [0 < 1, Sound Try.prog 89 [(.agg (Tapi_Network.cells n)), (.op 0 0 0)] [(0, vN 3 [(aI cap02), (.os 1 0 cap03.length), (.os 2 0 cap05.length)]), (1, aO 1 cI 0 cap03), (2, aO 1 cB false cap05)] 3 (.os 3 0 rstep.1.length) [(0, vN 3 [(aI rstep.2.1.f_Minute), (.os 1 0 rstep.2.2.length), (.os 2 0 cap05.length)]), (1, aO 1 cI 0 rstep.2.2), (2, aO 1 cB false cap05), (3, aO 1 cI 0 rstep.1)]] ⟨o1, (g_water_step_ok N n cap02 cap03 cap05 rstep hr2), trivial⟩ ?_
      refine Runs.sA 1 [.code (C_92 231), .inLoop (C_92 28), .inBlock 0] ?_
      refine Runs.sR hE ⟨[(1, (.op 0 0 0)), (2, (encL Tapi_Turn.cells Tapi_Turn.d turns)), (4, (.op 3 0 0)), (10, (aI minutes)), (11, (aI (w64 (x + 1))))], [(0, vN 3 [(aI rstep.2.1.f_Minute), (.os 1 0 rstep.2.2.length), (.os 2 0 cap05.length)]), (1, aO 1 cI 0 rstep.2.2), (2, aO 1 cB false cap05), (3, vO 3 (Tapi_Network.cells n))], 100⟩ (C_92 231) [] [] (kp [1, 2, 4, 10, 11]) (kq [0, 1, 2, 3]) 100 [] trivial ?_
      refine Runs.sA 1 [.code (C_92 28), .inLoop (C_92 28), .inBlock 0] ?_
      exact Runs.sW hE _ [] (kp [1, 2, 4, 10, 11]) (kq [0, 1, 2, 3]) 4 [] trivial (hK_g_water_run_L1 rstep.2.1.f_Minute rstep.2.2 cap05 (w64 (x + 1)) _ h E hE)

theorem g_water_run_L1_ok (N : Nat) (n : Tapi_Network) (turns : List Tapi_Turn) (minutes : Int) (fuel : Nat) : ∀ (cap02 : Int) (cap03 : List Int) (cap04 : List Bool) (x : Int) (r : Tapi_Water × (List Int) × (List Bool)), g_water_run_L1 N n turns minutes fuel cap02 cap03 cap04 x = some r → ∀ E, EnvOk E 3 → Runs Try.prog E 91 42 (SPost E [(0, vN 3 [(aI r.1.f_Minute), (.os 1 0 r.2.1.length), (.os 2 0 r.2.2.length)]), (1, aO 1 cI 0 r.2.1), (2, aO 1 cB false r.2.2)] (.tup [])) [.code (C_92 28), .inLoop (C_92 28), .inBlock 0] ⟨[(1, (.op 0 0 0)), (2, (encL Tapi_Turn.cells Tapi_Turn.d turns)), (4, (.op 3 0 0)), (10, (aI minutes)), (11, (aI x))], [(0, vN 3 [(aI cap02), (.os 1 0 cap03.length), (.os 2 0 cap04.length)]), (1, aO 1 cI 0 cap03), (2, aO 1 cB false cap04), (3, vO 3 (Tapi_Network.cells n))], 4⟩ := by
  induction fuel with
  | zero => intro _ _ _ _ r h; rw [g_water_run_L1.eq_1] at h; cases h
  | succ fuel ih =>
    intro cap02 cap03 cap04 x r h E hE
    rw [g_water_run_L1.eq_2] at h
    refine Runs.sA 1 [.code (C_92 56), .code (C_92 57), .inLoop (C_92 28), .inBlock 0] ?_
    refine Runs.sR hE ⟨[(1, (.op 0 0 0)), (2, (encL Tapi_Turn.cells Tapi_Turn.d turns)), (4, (.op 3 0 0)), (10, (aI minutes)), (11, (aI x)), (12, (aB (decide (x < minutes))))], [(0, vN 3 [(aI cap02), (.os 1 0 cap03.length), (.os 2 0 cap04.length)]), (1, aO 1 cI 0 cap03), (2, aO 1 cB false cap04), (3, vO 3 (Tapi_Network.cells n))], 20⟩ (C_92 56) [] [] (kp [1, 2, 4, 10, 11, 12]) (kq [0, 1, 2, 3]) 20 [] trivial ?_
    refine Runs.sA 1 [.code (C_92 114), .code (C_92 115), .inLoop (C_92 28), .inBlock 0] ?_
    refine Runs.sC 12 (C_92 228) (C_92 229) (decide (x < minutes)) (fun hq2 => ?_) (fun hq2 => ?_)
    · have h := condT h hq2
      refine Runs.sA 5 [.code (C_92 1840), .code (C_92 1841), .code (C_92 921), .inBlock 1, .code (C_92 231), .inLoop (C_92 28), .inBlock 0] ?_
      refine Runs.sR hE ⟨[(1, (.op 0 0 0)), (2, (encL Tapi_Turn.cells Tapi_Turn.d turns)), (4, (.op 3 0 0)), (10, (aI minutes)), (11, (aI x)), (13, (encL Tapi_Turn.cells Tapi_Turn.d turns)), (14, (aI ((turns.length : Nat) : Int))), (15, (aI 0))], [(0, vN 3 [(aI cap02), (.os 1 0 cap03.length), (.os 2 0 cap04.length)]), (1, aO 1 cI 0 cap03), (2, aO 1 cB false cap04), (3, vO 3 (Tapi_Network.cells n))], 68⟩ (C_92 1840) [] [] (kp [1, 2, 4, 10, 11, 13, 14, 15]) (kq [0, 1, 2, 3]) 68 [] trivial ?_
      refine Runs.sA 2 [.code (C_92 7364), .inLoop (C_92 7364), .inBlock 2, .code (C_92 921), .inBlock 1, .code (C_92 231), .inLoop (C_92 28), .inBlock 0] ?_
      exact Runs.sW hE _ [] (kp [1, 2, 4, 10, 11, 13, 14, 15]) (kq [0, 1, 2, 3]) 4 [] trivial (g_water_run_L2_ok N n turns minutes cap02 cap03 x (g_water_run_L1 N n turns minutes fuel) ih N cap04 0 _ h E hE)
    · have h := condF h hq2
      refine Runs.sA 1 [] ?_
      obtain rfl := Option.some.inj h
      refine Runs.sW hE ⟨[], [(0, vN 3 [(aI cap02), (.os 1 0 cap03.length), (.os 2 0 cap04.length)]), (1, aO 1 cI 0 cap03), (2, aO 1 cB false cap04)], 51⟩ [] [] (kq [0, 1, 2]) 51 [] trivial ?_
      exact Runs.sF Try.f91 [] [] trivial

theorem g_water_run_ok (N : Nat) (n : Tapi_Network) (turns : List Tapi_Turn) (minutes : Int) (cap0 : Int) (cap1 : List Int) (cap2 : List Bool) (r : Tapi_Water × (List Int) × (List Bool)) (h : g_water_run N n turns minutes cap0 cap1 cap2 = some r) : Sound Try.prog 91 [(.agg (Tapi_Network.cells n)), (.op 0 0 0), (encL Tapi_Turn.cells Tapi_Turn.d turns), (aI minutes)] [(0, vN 3 [(aI cap0), (.os 1 0 cap1.length), (.os 2 0 cap2.length)]), (1, aO 1 cI 0 cap1), (2, aO 1 cB false cap2)] 3 (.tup []) [(0, vN 3 [(aI r.1.f_Minute), (.os 1 0 r.2.1.length), (.os 2 0 r.2.2.length)]), (1, aO 1 cI 0 r.2.1), (2, aO 1 cB false r.2.2)] := by
  unfold g_water_run at h
  refine Sound.of_runs (fu := Try.f91) (c := C_92 1) (nt := 42) (by kernel_rfl) (by kernel_rfl) (by kernel_rfl) (by kernel_rfl) (fun hm => absurd hm (by decide)) ?_
  intro E hE
  refine Runs.sA 1 [.code (C_92 2), .code (C_92 3)] ?_
  refine Runs.sR hE ⟨[(1, (.op 0 0 0)), (2, (encL Tapi_Turn.cells Tapi_Turn.d turns)), (3, (aI minutes)), (4, (.op 3 0 0))], [(0, vN 3 [(aI cap0), (.os 1 0 cap1.length), (.os 2 0 cap2.length)]), (1, aO 1 cI 0 cap1), (2, aO 1 cB false cap2), (3, vO 3 (Tapi_Network.cells n))], 19⟩ (C_92 2) [] [] (kp [1, 2, 3, 4]) (kq [0, 1, 2, 3]) 19 [] trivial ?_
  refine Runs.sA 1 [.code (C_92 6), .code (C_92 7)] ?_
  refine Runs.sR hE ⟨[(1, (.op 0 0 0)), (2, (encL Tapi_Turn.cells Tapi_Turn.d turns)), (4, (.op 3 0 0)), (10, (aI minutes)), (11, (aI 0))], [(0, vN 3 [(aI cap0), (.os 1 0 cap1.length), (.os 2 0 cap2.length)]), (1, aO 1 cI 0 cap1), (2, aO 1 cB false cap2), (3, vO 3 (Tapi_Network.cells n))], 51⟩ (C_92 6) [] [] (kp [1, 2, 4, 10, 11]) (kq [0, 1, 2, 3]) 51 [] trivial ?_
  refine Runs.sA 2 [.code (C_92 28), .inLoop (C_92 28), .inBlock 0] ?_
  exact Runs.sW hE _ [] (kp [1, 2, 4, 10, 11]) (kq [0, 1, 2, 3]) 4 [] trivial (g_water_run_L1_ok N n turns minutes N cap0 cap1 cap2 0 _ h E hE)

noncomputable def C_90 (n : Nat) : Code := cat (bodyOf Try.f41) (pth n)

theorem g_water_Run_ok (N : Nat) (n : Tapi_Network) (w : Tapi_Water) (turns : List Tapi_Turn) (minutes : Int) (r : Tapi_Water × Int) (h : g_water_Run N n w turns minutes = some r) : Sound Try.prog 41 [(.agg (Tapi_Network.cells n)), (.agg (Tapi_Water.cells w)), (encL Tapi_Turn.cells Tapi_Turn.d turns), (aI minutes)] [] 0 (.tup [(.agg (Tapi_Water.cells r.1)), (aI r.2)]) [] := by
  unfold g_water_Run at h
  refine Sound.of_runs (fu := Try.f41) (c := C_90 1) (nt := 38) (by kernel_rfl) (by kernel_rfl) (by kernel_rfl) (by kernel_rfl) (fun hm => rfl) ?_
  intro E hE
  refine Runs.sA 1 [.code (C_90 2), .code (C_90 3)] ?_
  refine Runs.sR hE ⟨[(2, (encL Tapi_Turn.cells Tapi_Turn.d turns)), (3, (aI minutes)), (4, (.op 0 0 0)), (5, (.op 16 0 0)), (8, (.op 32 0 0))], [(0, vO 3 (Tapi_Network.cells n)), (16, vO 3 (Tapi_Water.cells w)), (32, vO 3 [(aI 0), .nil, .nil])], 64⟩ (C_90 2) [] [] (kp [2, 3, 4, 5, 8]) (kq [0, 16, 32]) 64 [] trivial ?_
  refine Runs.sA 2 [.code (C_90 12), .code (C_90 13), .code (C_90 7)] ?_
  obtain ⟨rcheckTurns, hr, h⟩ := bindSome h
  refine Runs.sR hE ⟨[(2, (encL Tapi_Turn.cells Tapi_Turn.d turns)), (3, (aI minutes)), (4, (.op 0 0 0)), (5, (.op 16 0 0)), (8, (.op 32 0 0)), (10, (aI rcheckTurns))], [(0, vO 3 (Tapi_Network.cells n)), (16, vO 3 (Tapi_Water.cells w)), (32, vO 3 [(aI 0), .nil, .nil])], 144⟩ (C_90 12) [(3, ⟨[], true, (aI rcheckTurns), [], 0, false⟩)] [] (kp [2, 3, 4, 5, 8, 10]) (kq [0, 16, 32]) 144 [0 < 1, 0 < 1, Sound Try.prog 90 [(.agg (Tapi_Network.cells n)), (.agg (Tapi_Water.cells w)), (encL Tapi_Turn.cells Tapi_Turn.d turns)] [] 0 (aI rcheckTurns) []] ⟨o1, o1, (g_water_checkTurns_ok N n w turns rcheckTurns hr), trivial⟩ ?_
  refine Runs.sA 1 [.code (C_90 26), .code (C_90 27), .code (C_90 7)] ?_
  refine Runs.sR hE ⟨[(2, (encL Tapi_Turn.cells Tapi_Turn.d turns)), (3, (aI minutes)), (4, (.op 0 0 0)), (5, (.op 16 0 0)), (8, (.op 32 0 0)), (10, (aI rcheckTurns)), (17, (aB (rcheckTurns != 0)))], [(0, vO 3 (Tapi_Network.cells n)), (16, vO 3 (Tapi_Water.cells w)), (32, vO 3 [(aI 0), .nil, .nil])], 176⟩ (C_90 26) [] [] (kp [2, 3, 4, 5, 8, 10, 17]) (kq [0, 16, 32]) 176 [] trivial ?_
  refine Runs.sC 17 (C_90 54) (C_90 55) (rcheckTurns != 0) (fun hq2 => ?_) (fun hq2 => ?_)
  · have h := condT h hq2
    refine Runs.sA 1 [.code (C_90 108), .code (C_90 109), .code (C_90 7)] ?_
    refine Runs.sR hE ⟨[(8, (.op 32 0 0)), (9, (aI rcheckTurns))], [(32, vO 3 [(aI 0), .nil, .nil])], 240⟩ (C_90 108) [] [] (kp [8, 9]) (kq [32]) 240 [0 < 1] ⟨o1, trivial⟩ ?_
    obtain rfl := Option.some.inj h
    refine Runs.sW hE ⟨[(8, (.op 16 0 0)), (9, (aI rcheckTurns))], [(16, vO 3 [(aI 0), (encL cI 0 ([] : List Int)), (encL cB false ([] : List Bool))])], 240⟩ [] (kp [8, 9]) [(16, .var 32 [.keep, .sl (([] : List Int).length) (fun zi => cI (([] : List Int).getD zi 0)), .sl (([] : List Bool).length) (fun zi => cB (([] : List Bool).getD zi false))])] 240 [([] : List Int).length = 0, ([] : List Bool).length = 0] ⟨rfl, rfl, trivial⟩ ?_
    exact Runs.sT Try.f41 [16] [0 < 1] ⟨o1, trivial⟩
  · have h := condF h hq2
    refine Runs.sA 3 [.code (C_90 28), .code (C_90 29), .code (C_90 15)] ?_
    obtain ⟨rbetween, hr2, h⟩ := bindSome h
    refine Runs.sR hE ⟨[(2, (encL Tapi_Turn.cells Tapi_Turn.d turns)), (3, (aI minutes)), (4, (.op 0 0 0)), (5, (.op 16 0 0)), (8, (.op 32 0 0)), (29, (aB (cond (!rbetween) true (decide ((w64 (w.f_Minute + minutes)) > 1000000)))))], [(0, vO 3 (Tapi_Network.cells n)), (16, vO 3 (Tapi_Water.cells w)), (32, vO 3 [(aI 0), .nil, .nil])], 336⟩ (C_90 28) [(1, ⟨[], true, (aB rbetween), [], 0, false⟩)] [] (kp [2, 3, 4, 5, 8, 29]) (kq [0, 16, 32]) 336 [Sound Try.prog 59 [(aI minutes), (aI 0), (aI 10000)] [] 0 (aB rbetween) [], (!(!rbetween)) = true → AllP [(!(!rbetween)) = true, 0 < 1], (!(!rbetween)) = true → AllP [(!(!rbetween)) = true, (!(!rbetween)) = true], (!(!rbetween)) = true → AllP [(!(!rbetween)) = true], (!(!rbetween)) = true → AllP [(!(!rbetween)) = true]] ⟨(g_water_between_ok N minutes 0 10000 rbetween hr2), (fun hg => ⟨hg, o1, trivial⟩), (fun hg => ⟨hg, hg, trivial⟩), (fun hg => ⟨hg, trivial⟩), (fun hq => ⟨hq, trivial⟩), trivial⟩ ?_
    refine Runs.sC 29 (C_90 58) (C_90 59) (cond (!rbetween) true (decide ((w64 (w.f_Minute + minutes)) > 1000000))) (fun hq3 => ?_) (fun hq3 => ?_)
    · have h := condT h hq3
      refine Runs.sA 1 [.code (C_90 116), .code (C_90 117), .code (C_90 15)] ?_
      refine Runs.sR hE ⟨[(8, (.op 32 0 0)), (9, (aI 2))], [(32, vO 3 [(aI 0), .nil, .nil])], 384⟩ (C_90 116) [] [] (kp [8, 9]) (kq [32]) 384 [0 < 1] ⟨o1, trivial⟩ ?_
      obtain rfl := Option.some.inj h
      refine Runs.sW hE ⟨[(8, (.op 16 0 0)), (9, (aI 2))], [(16, vO 3 [(aI 0), (encL cI 0 ([] : List Int)), (encL cB false ([] : List Bool))])], 384⟩ [] (kp [8, 9]) [(16, .var 32 [.keep, .sl (([] : List Int).length) (fun zi => cI (([] : List Int).getD zi 0)), .sl (([] : List Bool).length) (fun zi => cB (([] : List Bool).getD zi false))])] 384 [([] : List Int).length = 0, ([] : List Bool).length = 0] ⟨rfl, rfl, trivial⟩ ?_
      exact Runs.sT Try.f41 [16] [0 < 1] ⟨o1, trivial⟩
    · have h := condF h hq3
      refine Runs.sA 2 [.code (C_90 30), .code (C_90 31)] ?_
      obtain ⟨rclone, hr3, h⟩ := bindSome h
      refine Runs.sR hE ⟨[(2, (encL Tapi_Turn.cells Tapi_Turn.d turns)), (3, (aI minutes)), (4, (.op 0 0 0)), (8, (.op 32 0 0)), (11, (.op 368 0 0))], [(0, vO 3 (Tapi_Network.cells n)), (32, vO 3 [(aI 0), .nil, .nil]), (352, aO 1 cI 0 rclone.f_Litres), (353, aO 1 cB false rclone.f_Open), (368, vN 3 [(aI rclone.f_Minute), (.os 352 0 rclone.f_Litres.length), (.os 353 0 rclone.f_Open.length)])], 400⟩ (C_90 30) [(1, ⟨[], false, (.agg [(aI rclone.f_Minute), (.os 0 0 rclone.f_Litres.length), (.os 1 0 rclone.f_Open.length)]), [(0, aO 1 cI 0 rclone.f_Litres), (1, aO 1 cB false rclone.f_Open)], 0, false⟩)] [] (kp [2, 3, 4, 8, 11]) (kq [0, 32, 352, 353, 368]) 400 [0 < 1, Sound Try.prog 88 [(.agg (Tapi_Water.cells w))] [] 0 (.agg [(aI rclone.f_Minute), (.os 0 0 rclone.f_Litres.length), (.os 1 0 rclone.f_Open.length)]) [(0, aO 1 cI 0 rclone.f_Litres), (1, aO 1 cB false rclone.f_Open)], 0 < 1] ⟨o1, (g_water_clone_ok N w rclone hr3), o1, trivial⟩ ?_
      refine Runs.sA 1 [.code (C_90 62), .code (C_90 63)] ?_
      obtain ⟨rrun, hr4, h⟩ := bindSome h
      obtain ⟨c, h⟩ := ifSome h
      obtain ⟨c2, h⟩ := ifSome h
      refine Runs.sR hE ⟨[(8, (.op 32 0 0)), (11, (.op 368 0 0))], [(32, vO 3 [(aI 0), .nil, .nil]), (352, aO 1 cI 0 rrun.2.1), (353, aO 1 cB false rrun.2.2), (368, vN 3 [(aI rrun.1.f_Minute), (.os 352 0 rrun.2.1.length), (.os 353 0 rrun.2.2.length)])], 464⟩ (C_90 62) [(3, ⟨[368, 352, 353], false, (.tup []), [(0, vN 3 [(aI rrun.1.f_Minute), (.os 1 0 rrun.2.1.length), (.os 2 0 rrun.2.2.length)]), (1, aO 1 cI 0 rrun.2.1), (2, aO 1 cB false rrun.2.2)], 0, false⟩)] [] (kp [8, 11]) (kq [32, 352, 353, 368]) 464 [0 < 1, Sound Try.prog 91 [(.agg (Tapi_Network.cells n)), (.op 0 0 0), (encL Tapi_Turn.cells Tapi_Turn.d turns), (aI minutes)] [(0, vN 3 [(aI rclone.f_Minute), (.os 1 0 rclone.f_Litres.length), (.os 2 0 rclone.f_Open.length)]), (1, aO 1 cI 0 rclone.f_Litres), (2, aO 1 cB false rclone.f_Open)] 3 (.tup []) [(0, vN 3 [(aI rrun.1.f_Minute), (.os 1 0 rrun.2.1.length), (.os 2 0 rrun.2.2.length)]), (1, aO 1 cI 0 rrun.2.1), (2, aO 1 cB false rrun.2.2)]] ⟨o1, (g_water_run_ok N n turns minutes rclone.f_Minute rclone.f_Litres rclone.f_Open rrun hr4), trivial⟩ ?_
      refine Runs.sA 1 [.code (C_90 126), .code (C_90 127)] ?_
      refine Runs.sR hE ⟨[(8, (.op 32 0 0)), (9, (aI 0))], [(32, vN 3 [(aI rrun.1.f_Minute), (.os 352 0 rrun.2.1.length), (.os 353 0 rrun.2.2.length)]), (352, aO 1 cI 0 rrun.2.1), (353, aO 1 cB false rrun.2.2)], 512⟩ (C_90 126) [] [] (kp [8, 9]) (kq [32, 352, 353]) 512 [0 < 1, 0 < 1] ⟨o1, o1, trivial⟩ ?_
      obtain rfl := Option.some.inj h
      refine Runs.sW hE ⟨[(8, (.op 16 0 0)), (9, (aI 0))], [(16, vO 3 [(aI rrun.1.f_Minute), (encL cI 0 rrun.2.1), (encL cB false rrun.2.2)])], 512⟩ [352, 353] (kp [8, 9]) [(16, .var 32 [.keep, .sl (rrun.2.1.length) (fun zi => cI (rrun.2.1.getD zi 0)), .sl (rrun.2.2.length) (fun zi => cB (rrun.2.2.getD zi false))])] 512 [rrun.2.1.length = rrun.2.1.length, 0 + rrun.2.1.length ≤ rrun.2.1.length, ∀ zi, zi < rrun.2.1.length → (fun zi => cI (rrun.2.1.getD zi 0)) zi = (fun zi => cI (rrun.2.1.getD zi 0)) (addz 0 zi), rrun.2.2.length = rrun.2.2.length, 0 + rrun.2.2.length ≤ rrun.2.2.length, ∀ zi, zi < rrun.2.2.length → (fun zi => cB (rrun.2.2.getD zi false)) zi = (fun zi => cB (rrun.2.2.getD zi false)) (addz 0 zi)] ⟨rfl, z0, (fun _ _ => rfl), rfl, z0, (fun _ _ => rfl), trivial⟩ ?_
      exact Runs.sT Try.f41 [16] [0 < 1] ⟨o1, trivial⟩

noncomputable def C_96 (n : Nat) : Code := cat (bodyOf Try.f45) (pth n)

theorem g_w05_side_ok (N : Nat) (n : Tapi_Network) (w : Tapi_Water) (name : ByteArray) (r : Int) (h : g_w05_side N n w name = some r) : Sound Try.prog 45 [(.agg (Tapi_Network.cells n)), (.agg (Tapi_Water.cells w)), (aS name)] [] 0 (aI r) [] := by
  unfold g_w05_side at h
  refine Sound.of_runs (fu := Try.f45) (c := C_96 1) (nt := 22) (by kernel_rfl) (by kernel_rfl) (by kernel_rfl) (by kernel_rfl) (fun hm => rfl) ?_
  intro E hE
  refine Runs.sA 1 [.code (C_96 2), .code (C_96 3)] ?_
  refine Runs.sR hE ⟨[(2, (aS name)), (3, (.op 0 0 0)), (4, (.op 16 0 0))], [(0, vO 3 (Tapi_Network.cells n)), (16, vO 3 (Tapi_Water.cells w))], 48⟩ (C_96 2) [] [] (kp [2, 3, 4]) (kq [0, 16]) 48 [] trivial ?_
  refine Runs.sA 2 [.code (C_96 12), .code (C_96 13), .code (C_96 7)] ?_
  refine Runs.sR hE ⟨[(2, (aS name)), (3, (.op 0 0 0)), (4, (.op 16 0 0)), (8, (aB (streq name ByteArray.empty)))], [(0, vO 3 (Tapi_Network.cells n)), (16, vO 3 (Tapi_Water.cells w))], 80⟩ (C_96 12) [] [] (kp [2, 3, 4, 8]) (kq [0, 16]) 80 [] trivial ?_
  refine Runs.sC 8 (C_96 26) (C_96 27) (streq name ByteArray.empty) (fun hq2 => ?_) (fun hq2 => ?_)
  · have h := condT h hq2
    refine Runs.sA 1 [.code (C_96 52), .code (C_96 53), .code (C_96 7)] ?_
    obtain ⟨rAt, hr, h⟩ := bindSome h
    refine Runs.sR hE ⟨[(6, (aI rAt))], [], 176⟩ (C_96 52) [(4, ⟨[], true, (aI rAt), [], 0, false⟩)] [] (kp [6]) [] 176 [0 < 1, 0 < 1, Sound Try.prog 71 [(encL Tapi_Mark.cells Tapi_Mark.d n.f_Sea), (aI w.f_Minute)] [] 0 (aI rAt) []] ⟨o1, o1, (g_r05_At_ok N n.f_Sea w.f_Minute rAt hr), trivial⟩ ?_
    obtain rfl := Option.some.inj h
    refine Runs.sW hE ⟨[(6, (aI rAt))], [], 176⟩ [] (kp [6]) [] 176 [] trivial ?_
    exact Runs.sT Try.f45 [] [] trivial
  · have h := condF h hq2
    refine Runs.sA 2 [.code (C_96 14), .code (C_96 15)] ?_
    obtain ⟨rLevels, hr2, h⟩ := bindSome h
    obtain ⟨rBasin, hr3, h⟩ := bindSome h
    obtain ⟨c, h⟩ := ifSome h
    refine Runs.sR hE ⟨[(6, (aI (rLevels.getD ((rBasin).toNat) 0)))], [], 224⟩ (C_96 14) [(2, ⟨[], true, (encL cI 0 rLevels), [], 0, false⟩), (5, ⟨[], true, (aI rBasin), [], 0, false⟩)] [] (kp [6]) [] 224 [0 < 1, 0 < 1, Sound Try.prog 38 [(.agg (Tapi_Network.cells n)), (.agg (Tapi_Water.cells w))] [] 0 (encL cI 0 rLevels) [], 0 < 1, Sound Try.prog 55 [(.agg (Tapi_Network.cells n)), (aS name)] [] 0 (aI rBasin) [], 0 ≤ rBasin ∧ rBasin < ((rLevels.length : Nat) : Int)] ⟨o1, o1, (g_r05_Levels_ok N n w rLevels hr2), o1, (g_r05_Basin_ok N n name rBasin hr3), c, trivial⟩ ?_
    obtain rfl := Option.some.inj h
    refine Runs.sW hE ⟨[(6, (aI (rLevels.getD ((rBasin).toNat) 0)))], [], 224⟩ [] (kp [6]) [] 224 [] trivial ?_
    exact Runs.sT Try.f45 [] [] trivial

noncomputable def C_95 (n : Nat) : Code := cat (bodyOf Try.f9) (pth n)

theorem g_w05_WaterKept_J3_ok (N : Nat) (c : Tkeelblocklaw05_Case) (rRun : Tapi_Water × Int) (rStep : Tapi_Water × (List Int) × Int) (i : Int) (K_g_w05_WaterKept_L1 : Int → Int → Option (Bool))
    (hK_g_w05_WaterKept_L1 : ∀ (sea : Int) (i : Int) (r : Bool), K_g_w05_WaterKept_L1 sea i = some r → ∀ E, EnvOk E 0 → Runs Try.prog E 9 270 (SPost E [] (aB r)) [.code (C_95 16372), .inLoop (C_95 16372), .inBlock 0, .code (C_95 2047)] ⟨[(2, (.op 0 0 0)), (5, (.op 1 0 0)), (7, (.op 2 0 0)), (8, (encL cI 0 rStep.2.1)), (10, (aI sea)), (11, (aI i))], [(0, vO 7 (Tkeelblocklaw05_Case.cells c)), (1, vO 3 (Tapi_Water.cells rRun.1)), (2, vO 3 (Tapi_Water.cells rStep.1))], 3⟩) (sea3 : Int) (r : Bool) (h : g_w05_WaterKept_J3 N c rRun rStep i K_g_w05_WaterKept_L1 sea3 = some r) : ∀ E, EnvOk E 0 → Runs Try.prog E 9 270 (SPost E [] (aB r)) [.code (C_95 65491), .inLoop (C_95 16372), .inBlock 0, .code (C_95 2047)] ⟨[(2, (.op 0 0 0)), (5, (.op 1 0 0)), (7, (.op 2 0 0)), (8, (encL cI 0 rStep.2.1)), (10, (aI sea3)), (11, (aI i))], [(0, vO 7 (Tkeelblocklaw05_Case.cells c)), (1, vO 3 (Tapi_Water.cells rRun.1)), (2, vO 3 (Tapi_Water.cells rStep.1))], 3⟩ := by
  intro E hE
  unfold g_w05_WaterKept_J3 at h
  refine Runs.sR hE ⟨[(2, (.op 0 0 0)), (5, (.op 1 0 0)), (7, (.op 2 0 0)), (8, (encL cI 0 rStep.2.1)), (10, (aI sea3)), (11, (aI (w64 (i + 1))))], [(0, vO 7 (Tkeelblocklaw05_Case.cells c)), (1, vO 3 (Tapi_Water.cells rRun.1)), (2, vO 3 (Tapi_Water.cells rStep.1))], 51⟩ (C_95 65491) [] [] (kp [2, 5, 7, 8, 10, 11]) (kq [0, 1, 2]) 51 [] trivial ?_
  refine Runs.sA 1 [.code (C_95 16372), .inLoop (C_95 16372), .inBlock 0, .code (C_95 2047)] ?_
  exact Runs.sW hE _ [] (kp [2, 5, 7, 8, 10, 11]) (kq [0, 1, 2]) 3 [] trivial (hK_g_w05_WaterKept_L1 sea3 (w64 (i + 1)) _ h E hE)

theorem g_w05_WaterKept_J2_ok (N : Nat) (c : Tkeelblocklaw05_Case) (rRun : Tapi_Water × Int) (rStep : Tapi_Water × (List Int) × Int) (i : Int) (K_g_w05_WaterKept_L1 : Int → Int → Option (Bool))
    (hK_g_w05_WaterKept_L1 : ∀ (sea : Int) (i : Int) (r : Bool), K_g_w05_WaterKept_L1 sea i = some r → ∀ E, EnvOk E 0 → Runs Try.prog E 9 270 (SPost E [] (aB r)) [.code (C_95 16372), .inLoop (C_95 16372), .inBlock 0, .code (C_95 2047)] ⟨[(2, (.op 0 0 0)), (5, (.op 1 0 0)), (7, (.op 2 0 0)), (8, (encL cI 0 rStep.2.1)), (10, (aI sea)), (11, (aI i))], [(0, vO 7 (Tkeelblocklaw05_Case.cells c)), (1, vO 3 (Tapi_Water.cells rRun.1)), (2, vO 3 (Tapi_Water.cells rStep.1))], 3⟩) (sea2 : Int) (r : Bool) (h : g_w05_WaterKept_J2 N c rRun rStep i K_g_w05_WaterKept_L1 sea2 = some r) : ∀ E, EnvOk E 0 → Runs Try.prog E 9 270 (SPost E [] (aB r)) [.code (C_95 523922), .code (C_95 523923), .inBlock 1, .code (C_95 65491), .inLoop (C_95 16372), .inBlock 0, .code (C_95 2047)] ⟨[(2, (.op 0 0 0)), (5, (.op 1 0 0)), (7, (.op 2 0 0)), (8, (encL cI 0 rStep.2.1)), (10, (aI sea2)), (11, (aI i))], [(0, vO 7 (Tkeelblocklaw05_Case.cells c)), (1, vO 3 (Tapi_Water.cells rRun.1)), (2, vO 3 (Tapi_Water.cells rStep.1))], 3⟩ := by
  intro E hE
  unfold g_w05_WaterKept_J2 at h
  obtain ⟨c4, h⟩ := ifSome h
  refine Runs.sR hE ⟨[(2, (.op 0 0 0)), (5, (.op 1 0 0)), (7, (.op 2 0 0)), (8, (encL cI 0 rStep.2.1)), (10, (aI sea2)), (11, (aI i)), (120, (aB (streq ((c.f_N.f_Links.getD ((i).toNat) Tapi_Link.d).f_To) ByteArray.empty)))], [(0, vO 7 (Tkeelblocklaw05_Case.cells c)), (1, vO 3 (Tapi_Water.cells rRun.1)), (2, vO 3 (Tapi_Water.cells rStep.1))], 131⟩ (C_95 523922) [] [] (kp [2, 5, 7, 8, 10, 11, 120]) (kq [0, 1, 2]) 131 [0 < 1, 0 ≤ i ∧ i < ((c.f_N.f_Links.length : Nat) : Int)] ⟨o1, c4, trivial⟩ ?_
  refine Runs.sC 120 (C_95 1047846) (C_95 1047847) (streq ((c.f_N.f_Links.getD ((i).toNat) Tapi_Link.d).f_To) ByteArray.empty) (fun hq9 => ?_) (fun hq9 => ?_)
  · have h := condT h hq9
    obtain ⟨c5, h⟩ := ifSome h
    refine Runs.sR hE ⟨[(2, (.op 0 0 0)), (5, (.op 1 0 0)), (7, (.op 2 0 0)), (8, (encL cI 0 rStep.2.1)), (10, (aI (w64 (sea2 - (rStep.2.1.getD ((i).toNat) 0))))), (11, (aI i))], [(0, vO 7 (Tkeelblocklaw05_Case.cells c)), (1, vO 3 (Tapi_Water.cells rRun.1)), (2, vO 3 (Tapi_Water.cells rStep.1))], 243⟩ (C_95 1047846) [] [] (kp [2, 5, 7, 8, 10, 11]) (kq [0, 1, 2]) 243 [0 ≤ i ∧ i < ((rStep.2.1.length : Nat) : Int)] ⟨c5, trivial⟩ ?_
    refine Runs.sA 1 [.code (C_95 65491), .inLoop (C_95 16372), .inBlock 0, .code (C_95 2047)] ?_
    exact Runs.sW hE _ [] (kp [2, 5, 7, 8, 10, 11]) (kq [0, 1, 2]) 3 [] trivial (g_w05_WaterKept_J3_ok N c rRun rStep i K_g_w05_WaterKept_L1 hK_g_w05_WaterKept_L1 (w64 (sea2 - (rStep.2.1.getD ((i).toNat) 0))) _ h E hE)
  · have h := condF h hq9
    refine Runs.sA 2 [.code (C_95 65491), .inLoop (C_95 16372), .inBlock 0, .code (C_95 2047)] ?_
    exact Runs.sW hE _ [] (kp [2, 5, 7, 8, 10, 11]) (kq [0, 1, 2]) 3 [] trivial (g_w05_WaterKept_J3_ok N c rRun rStep i K_g_w05_WaterKept_L1 hK_g_w05_WaterKept_L1 sea2 _ h E hE)

theorem g_w05_WaterKept_J6_ok (N : Nat) (c : Tkeelblocklaw05_Case) (rRun : Tapi_Water × Int) (rStep : Tapi_Water × (List Int) × Int) (i3 : Int) (K_g_w05_WaterKept_L5 : Int → Option (Bool))
    (hK_g_w05_WaterKept_L5 : ∀ (i3 : Int) (r : Bool), K_g_w05_WaterKept_L5 i3 = some r → ∀ E, EnvOk E 0 → Runs Try.prog E 9 270 (SPost E [] (aB r)) [.code (C_95 262132), .inLoop (C_95 262132), .inBlock 4, .code (C_95 32767)] ⟨[(2, (.op 0 0 0)), (5, (.op 1 0 0)), (8, (encL cI 0 rStep.2.1)), (14, (aI i3))], [(0, vO 7 (Tkeelblocklaw05_Case.cells c)), (1, vO 3 (Tapi_Water.cells rRun.1))], 2⟩) (r : Bool) (h : g_w05_WaterKept_J6 N c rRun rStep i3 K_g_w05_WaterKept_L5 = some r) : ∀ E, EnvOk E 0 → Runs Try.prog E 9 270 (SPost E [] (aB r)) [.code (C_95 1048531), .inLoop (C_95 262132), .inBlock 4, .code (C_95 32767)] ⟨[(2, (.op 0 0 0)), (5, (.op 1 0 0)), (8, (encL cI 0 rStep.2.1)), (14, (aI i3))], [(0, vO 7 (Tkeelblocklaw05_Case.cells c)), (1, vO 3 (Tapi_Water.cells rRun.1))], 2⟩ := by
  intro E hE
  unfold g_w05_WaterKept_J6 at h
  refine Runs.sR hE ⟨[(2, (.op 0 0 0)), (5, (.op 1 0 0)), (8, (encL cI 0 rStep.2.1)), (14, (aI (w64 (i3 + 1))))], [(0, vO 7 (Tkeelblocklaw05_Case.cells c)), (1, vO 3 (Tapi_Water.cells rRun.1))], 50⟩ (C_95 1048531) [] [] (kp [2, 5, 8, 14]) (kq [0, 1]) 50 [] trivial ?_
  refine Runs.sA 1 [.code (C_95 262132), .inLoop (C_95 262132), .inBlock 4, .code (C_95 32767)] ?_
  exact Runs.sW hE _ [] (kp [2, 5, 8, 14]) (kq [0, 1]) 2 [] trivial (hK_g_w05_WaterKept_L5 (w64 (i3 + 1)) _ h E hE)

theorem g_w05_WaterKept_L5_ok (N : Nat) (c : Tkeelblocklaw05_Case) (rRun : Tapi_Water × Int) (rStep : Tapi_Water × (List Int) × Int) (fuel : Nat) : ∀ (i3 : Int) (r : Bool), g_w05_WaterKept_L5 N c rRun rStep fuel i3 = some r → ∀ E, EnvOk E 0 → Runs Try.prog E 9 270 (SPost E [] (aB r)) [.code (C_95 262132), .inLoop (C_95 262132), .inBlock 4, .code (C_95 32767)] ⟨[(2, (.op 0 0 0)), (5, (.op 1 0 0)), (8, (encL cI 0 rStep.2.1)), (14, (aI i3))], [(0, vO 7 (Tkeelblocklaw05_Case.cells c)), (1, vO 3 (Tapi_Water.cells rRun.1))], 2⟩ := by
  induction fuel with
  | zero => intro _ r h; rw [g_w05_WaterKept_L5.eq_1] at h; cases h
  | succ fuel ih =>
    intro i3 r h E hE
    rw [g_w05_WaterKept_L5.eq_2] at h
    refine Runs.sA 2 [.code (C_95 1048528), .code (C_95 1048529), .code (C_95 524265), .inLoop (C_95 262132), .inBlock 4, .code (C_95 32767)] ?_
    refine Runs.sR hE ⟨[(2, (.op 0 0 0)), (5, (.op 1 0 0)), (8, (encL cI 0 rStep.2.1)), (14, (aI i3)), (174, (aB (decide (i3 < ((rStep.2.1.length : Nat) : Int)))))], [(0, vO 7 (Tkeelblocklaw05_Case.cells c)), (1, vO 3 (Tapi_Water.cells rRun.1))], 66⟩ (C_95 1048528) [] [] (kp [2, 5, 8, 14, 174]) (kq [0, 1]) 66 [] trivial ?_
    refine Runs.sC 174 (C_95 2097058) (C_95 2097059) (decide (i3 < ((rStep.2.1.length : Nat) : Int))) (fun hq13 => ?_) (fun hq13 => ?_)
    · have h := condT h hq13
      refine Runs.sA 5 [.code (C_95 8388240), .code (C_95 8388241), .code (C_95 4194121), .inBlock 5, .code (C_95 1048531), .inLoop (C_95 262132), .inBlock 4, .code (C_95 32767)] ?_
      obtain ⟨c10, h⟩ := ifSome h
      refine Runs.sR hE ⟨[(2, (.op 0 0 0)), (5, (.op 1 0 0)), (8, (encL cI 0 rStep.2.1)), (14, (aI i3)), (184, (aB ((c.f_N.f_Links.getD ((i3).toNat) Tapi_Link.d).f_Kind != 0)))], [(0, vO 7 (Tkeelblocklaw05_Case.cells c)), (1, vO 3 (Tapi_Water.cells rRun.1))], 194⟩ (C_95 8388240) [] [] (kp [2, 5, 8, 14, 184]) (kq [0, 1]) 194 [0 < 1, 0 ≤ i3 ∧ i3 < ((c.f_N.f_Links.length : Nat) : Int)] ⟨o1, c10, trivial⟩ ?_
      refine Runs.sC 184 (C_95 16776482) (C_95 16776483) ((c.f_N.f_Links.getD ((i3).toNat) Tapi_Link.d).f_Kind != 0) (fun hq14 => ?_) (fun hq14 => ?_)
      · have h := condT h hq14
        refine Runs.sA 1 [.code (C_95 1048531), .inLoop (C_95 262132), .inBlock 4, .code (C_95 32767)] ?_
        exact Runs.sW hE _ [] (kp [2, 5, 8, 14]) (kq [0, 1]) 2 [] trivial (g_w05_WaterKept_J6_ok N c rRun rStep i3 (g_w05_WaterKept_L5 N c rRun rStep fuel) ih _ h E hE)
      · have h := condF h hq14
        refine Runs.sA 2 [.code (C_95 8388242), .code (C_95 8388243), .inBlock 5, .code (C_95 1048531), .inLoop (C_95 262132), .inBlock 4, .code (C_95 32767)] ?_
        obtain ⟨c11, h⟩ := ifSome h
        obtain ⟨c12, h⟩ := ifSome h
        obtain ⟨c13, h⟩ := ifSome h
        refine Runs.sR hE ⟨[(2, (.op 0 0 0)), (5, (.op 1 0 0)), (8, (encL cI 0 rStep.2.1)), (14, (aI i3)), (15, (.op 418 0 0))], [(0, vO 7 (Tkeelblocklaw05_Case.cells c)), (1, vO 3 (Tapi_Water.cells rRun.1)), (418, vO 3 [(encL Tapi_Basin.cells Tapi_Basin.d c.f_N.f_Basins), (encL Tapi_Mark.cells Tapi_Mark.d c.f_N.f_Sea), (encL Tapi_Link.cells Tapi_Link.d ((c.f_N.f_Links.take ((w64 (i3 + 1)).toNat)).drop ((i3).toNat)))])], 450⟩ (C_95 8388242) [] [] (kp [2, 5, 8, 14, 15]) (kq [0, 1] ++ [(418, .var 418 [.keep, .keep, .sl (((c.f_N.f_Links.take ((w64 (i3 + 1)).toNat)).drop ((i3).toNat)).length) (fun zi => Tapi_Link.cells (((c.f_N.f_Links.take ((w64 (i3 + 1)).toNat)).drop ((i3).toNat)).getD zi Tapi_Link.d))])]) 450 [0 < 1, 0 < 1, 0 < 1, (i3).toNat ≤ (w64 (i3 + 1)).toNat ∧ (w64 (i3 + 1)).toNat ≤ c.f_N.f_Links.length, 0 ≤ i3, 0 ≤ (w64 (i3 + 1)), 0 < 1, (w64 (i3 + 1)).toNat - (i3).toNat = ((c.f_N.f_Links.take ((w64 (i3 + 1)).toNat)).drop ((i3).toNat)).length, ∀ zi, zi < ((c.f_N.f_Links.take ((w64 (i3 + 1)).toNat)).drop ((i3).toNat)).length → (fun zi => Tapi_Link.cells (((c.f_N.f_Links.take ((w64 (i3 + 1)).toNat)).drop ((i3).toNat)).getD zi Tapi_Link.d)) zi = (fun zi => Tapi_Link.cells (c.f_N.f_Links.getD (addz ((i3).toNat) zi) Tapi_Link.d)) zi] ⟨o1, o1, o1, c11, c12, c13, o1, (len_ext' c.f_N.f_Links ((i3).toNat) ((w64 (i3 + 1)).toNat) c11), (fun zq hzq => get_ext Tapi_Link.cells Tapi_Link.d c.f_N.f_Links ((i3).toNat) ((w64 (i3 + 1)).toNat) zq hzq), trivial⟩ ?_
        refine Runs.sA 1 [.code (C_95 16776486), .code (C_95 16776487), .inBlock 5, .code (C_95 1048531), .inLoop (C_95 262132), .inBlock 4, .code (C_95 32767)] ?_
        obtain ⟨rStep2, hr6, h⟩ := bindSome h
        refine Runs.sR hE ⟨[(2, (.op 0 0 0)), (5, (.op 1 0 0)), (8, (encL cI 0 rStep.2.1)), (14, (aI i3)), (15, (.op 418 0 0)), (16, (.op 642 0 0)), (17, (encL cI 0 rStep2.2.1)), (18, (aI rStep2.2.2))], [(0, vO 7 (Tkeelblocklaw05_Case.cells c)), (1, vO 3 (Tapi_Water.cells rRun.1)), (418, vO 3 [(encL Tapi_Basin.cells Tapi_Basin.d c.f_N.f_Basins), (encL Tapi_Mark.cells Tapi_Mark.d c.f_N.f_Sea), (encL Tapi_Link.cells Tapi_Link.d ((c.f_N.f_Links.take ((w64 (i3 + 1)).toNat)).drop ((i3).toNat)))]), (642, vO 3 (Tapi_Water.cells rStep2.1))], 706⟩ (C_95 16776486) [(7, ⟨[], true, (.tup [(.agg (Tapi_Water.cells rStep2.1)), (encL cI 0 rStep2.2.1), (aI rStep2.2.2)]), [], 0, true⟩)] [] (kp [2, 5, 8, 14, 15, 16, 17, 18]) (kq [0, 1, 418, 642]) 706 [0 < 1, 0 < 1, 0 < 1, Sound Try.prog 40 [(.agg [(encL Tapi_Basin.cells Tapi_Basin.d c.f_N.f_Basins), (encL Tapi_Mark.cells Tapi_Mark.d c.f_N.f_Sea), (encL Tapi_Link.cells Tapi_Link.d ((c.f_N.f_Links.take ((w64 (i3 + 1)).toNat)).drop ((i3).toNat)))]), (.agg [(aI rRun.1.f_Minute), (encL cI 0 rRun.1.f_Litres), (.sl 1 (fun zi => (fun zi => ([[(aB true)]] : List (List AV)).getD zi []) (addz 0 zi)))])] [] 0 (.tup [(.agg (Tapi_Water.cells rStep2.1)), (encL cI 0 rStep2.2.1), (aI rStep2.2.2)]) [], 0 + 1 ≤ 1, 0 < 1] ⟨o1, o1, o1, (Sound.conv (g_water_Step_ok N (⟨c.f_N.f_Basins, c.f_N.f_Sea, ((c.f_N.f_Links.take ((w64 (i3 + 1)).toNat)).drop ((i3).toNat))⟩ : Tapi_Network) (⟨rRun.1.f_Minute, rRun.1.f_Litres, ([true] : List Bool)⟩ : Tapi_Water) rStep2 hr6) (.cons (Alike.refl _) (.cons (Alike.agg (.cons (Alike.refl _) (.cons (Alike.refl _) (.cons (Alike.sl rfl (fun zq hzq => get_chunk cB false ([true] : List Bool) zq hzq)) .nil)))) .nil))), z0, o1, trivial⟩ ?_
        refine Runs.sA 2 [.code (C_95 67105948), .code (C_95 67105949), .code (C_95 33552975), .inBlock 5, .code (C_95 1048531), .inLoop (C_95 262132), .inBlock 4, .code (C_95 32767)] ?_
        refine Runs.sR hE ⟨[(2, (.op 0 0 0)), (5, (.op 1 0 0)), (8, (encL cI 0 rStep.2.1)), (14, (aI i3)), (15, (.op 418 0 0)), (16, (.op 642 0 0)), (17, (encL cI 0 rStep2.2.1)), (226, (aB (cond (cond (rStep2.2.2 != 0) true (((rStep2.2.1.length : Nat) : Int) != 1)) true (((rStep2.1.f_Litres.length : Nat) : Int) != ((rRun.1.f_Litres.length : Nat) : Int)))))], [(0, vO 7 (Tkeelblocklaw05_Case.cells c)), (1, vO 3 (Tapi_Water.cells rRun.1)), (418, vO 3 [(encL Tapi_Basin.cells Tapi_Basin.d c.f_N.f_Basins), (encL Tapi_Mark.cells Tapi_Mark.d c.f_N.f_Sea), (encL Tapi_Link.cells Tapi_Link.d ((c.f_N.f_Links.take ((w64 (i3 + 1)).toNat)).drop ((i3).toNat)))]), (642, vO 3 (Tapi_Water.cells rStep2.1))], 962⟩ (C_95 67105948) [] [] (kp [2, 5, 8, 14, 15, 16, 17, 226]) (kq [0, 1, 418, 642]) 962 [(!(rStep2.2.2 != 0)) = true → AllP [(!(rStep2.2.2 != 0)) = true], (!(rStep2.2.2 != 0)) = true → AllP [(!(rStep2.2.2 != 0)) = true], (!(rStep2.2.2 != 0)) = true → AllP [(!(rStep2.2.2 != 0)) = true], (!(cond (rStep2.2.2 != 0) true (((rStep2.2.1.length : Nat) : Int) != 1))) = true → AllP [(!(cond (rStep2.2.2 != 0) true (((rStep2.2.1.length : Nat) : Int) != 1))) = true, 0 < 1], (!(cond (rStep2.2.2 != 0) true (((rStep2.2.1.length : Nat) : Int) != 1))) = true → AllP [(!(cond (rStep2.2.2 != 0) true (((rStep2.2.1.length : Nat) : Int) != 1))) = true], (!(cond (rStep2.2.2 != 0) true (((rStep2.2.1.length : Nat) : Int) != 1))) = true → AllP [(!(cond (rStep2.2.2 != 0) true (((rStep2.2.1.length : Nat) : Int) != 1))) = true, 0 < 1], (!(cond (rStep2.2.2 != 0) true (((rStep2.2.1.length : Nat) : Int) != 1))) = true → AllP [(!(cond (rStep2.2.2 != 0) true (((rStep2.2.1.length : Nat) : Int) != 1))) = true], (!(cond (rStep2.2.2 != 0) true (((rStep2.2.1.length : Nat) : Int) != 1))) = true → AllP [(!(cond (rStep2.2.2 != 0) true (((rStep2.2.1.length : Nat) : Int) != 1))) = true, (!(cond (rStep2.2.2 != 0) true (((rStep2.2.1.length : Nat) : Int) != 1))) = true], (!(cond (rStep2.2.2 != 0) true (((rStep2.2.1.length : Nat) : Int) != 1))) = true → AllP [(!(cond (rStep2.2.2 != 0) true (((rStep2.2.1.length : Nat) : Int) != 1))) = true]] ⟨(fun hg => ⟨hg, trivial⟩), (fun hg => ⟨hg, trivial⟩), (fun hq => ⟨hq, trivial⟩), (fun hg => ⟨hg, o1, trivial⟩), (fun hg => ⟨hg, trivial⟩), (fun hg => ⟨hg, o1, trivial⟩), (fun hg => ⟨hg, trivial⟩), (fun hg => ⟨hg, hg, trivial⟩), (fun hq => ⟨hq, trivial⟩), trivial⟩ ?_
        refine Runs.sC 226 (C_95 134211898) (C_95 134211899) (cond (cond (rStep2.2.2 != 0) true (((rStep2.2.1.length : Nat) : Int) != 1)) true (((rStep2.1.f_Litres.length : Nat) : Int) != ((rRun.1.f_Litres.length : Nat) : Int))) (fun hq15 => ?_) (fun hq15 => ?_)
        · have h := condT h hq15
          refine Runs.sA 1 [.code (C_95 268423796), .code (C_95 268423797), .code (C_95 33552975), .inBlock 5, .code (C_95 1048531), .inLoop (C_95 262132), .inBlock 4, .code (C_95 32767)] ?_
          refine Runs.sR hE ⟨[(4, (aB false))], [], 978⟩ (C_95 268423796) [] [] (kp [4]) [] 978 [] trivial ?_
          obtain rfl := Option.some.inj h
          refine Runs.sW hE ⟨[(4, (aB false))], [], 978⟩ [] (kp [4]) [] 978 [] trivial ?_
          exact Runs.sT Try.f9 [] [] trivial
        · have h := condF h hq15
          refine Runs.sA 2 [.code (C_95 67105950), .code (C_95 67105951), .inBlock 5, .code (C_95 1048531), .inLoop (C_95 262132), .inBlock 4, .code (C_95 32767)] ?_
          refine Runs.sR hE ⟨[(2, (.op 0 0 0)), (5, (.op 1 0 0)), (8, (encL cI 0 rStep.2.1)), (14, (aI i3)), (15, (.op 418 0 0)), (16, (.op 642 0 0)), (17, (encL cI 0 rStep2.2.1))], [(0, vO 7 (Tkeelblocklaw05_Case.cells c)), (1, vO 3 (Tapi_Water.cells rRun.1)), (418, vO 3 [(encL Tapi_Basin.cells Tapi_Basin.d c.f_N.f_Basins), (encL Tapi_Mark.cells Tapi_Mark.d c.f_N.f_Sea), (encL Tapi_Link.cells Tapi_Link.d ((c.f_N.f_Links.take ((w64 (i3 + 1)).toNat)).drop ((i3).toNat)))]), (642, vO 3 [(aI rRun.1.f_Minute), (encL cI 0 rStep2.1.f_Litres), (encL cB false rStep2.1.f_Open)])], 1026⟩ (C_95 67105950) [] [] (kp [2, 5, 8, 14, 15, 16, 17]) (kq [0, 1, 418, 642]) 1026 [0 < 1, 0 < 1] ⟨o1, o1, trivial⟩ ?_
          refine Runs.sA 1 [.code (C_95 134211902), .code (C_95 134211903), .inBlock 5, .code (C_95 1048531), .inLoop (C_95 262132), .inBlock 4, .code (C_95 32767)] ?_
          obtain ⟨rside, hr7, h⟩ := bindSome h
          obtain ⟨rside2, hr8, h⟩ := bindSome h
          refine Runs.sR hE ⟨[(2, (.op 0 0 0)), (5, (.op 1 0 0)), (8, (encL cI 0 rStep.2.1)), (14, (aI i3)), (17, (encL cI 0 rStep2.2.1)), (19, (aI rside)), (20, (aI rside2))], [(0, vO 7 (Tkeelblocklaw05_Case.cells c)), (1, vO 3 (Tapi_Water.cells rRun.1))], 1378⟩ (C_95 134211902) [(9, ⟨[], true, (aI rside), [], 0, false⟩), (19, ⟨[], true, (aI rside2), [], 0, false⟩)] [] (kp [2, 5, 8, 14, 17, 19, 20]) (kq [0, 1]) 1378 [0 < 1, 0 < 1, 0 < 1, 0 ≤ i3 ∧ i3 < ((c.f_N.f_Links.length : Nat) : Int), Sound Try.prog 45 [(.agg [(encL Tapi_Basin.cells Tapi_Basin.d c.f_N.f_Basins), (encL Tapi_Mark.cells Tapi_Mark.d c.f_N.f_Sea), (encL Tapi_Link.cells Tapi_Link.d ((c.f_N.f_Links.take ((w64 (i3 + 1)).toNat)).drop ((i3).toNat)))]), (.agg [(aI rRun.1.f_Minute), (encL cI 0 rStep2.1.f_Litres), (encL cB false rStep2.1.f_Open)]), (aS ((c.f_N.f_Links.getD ((i3).toNat) Tapi_Link.d).f_From))] [] 0 (aI rside) [], 0 < 1, 0 < 1, 0 < 1, 0 ≤ i3 ∧ i3 < ((c.f_N.f_Links.length : Nat) : Int), Sound Try.prog 45 [(.agg [(encL Tapi_Basin.cells Tapi_Basin.d c.f_N.f_Basins), (encL Tapi_Mark.cells Tapi_Mark.d c.f_N.f_Sea), (encL Tapi_Link.cells Tapi_Link.d ((c.f_N.f_Links.take ((w64 (i3 + 1)).toNat)).drop ((i3).toNat)))]), (.agg [(aI rRun.1.f_Minute), (encL cI 0 rStep2.1.f_Litres), (encL cB false rStep2.1.f_Open)]), (aS ((c.f_N.f_Links.getD ((i3).toNat) Tapi_Link.d).f_To))] [] 0 (aI rside2) []] ⟨o1, o1, o1, c10, (g_w05_side_ok N (⟨c.f_N.f_Basins, c.f_N.f_Sea, ((c.f_N.f_Links.take ((w64 (i3 + 1)).toNat)).drop ((i3).toNat))⟩ : Tapi_Network) (⟨rRun.1.f_Minute, rStep2.1.f_Litres, rStep2.1.f_Open⟩ : Tapi_Water) ((c.f_N.f_Links.getD ((i3).toNat) Tapi_Link.d).f_From) rside hr7), o1, o1, o1, c10, (g_w05_side_ok N (⟨c.f_N.f_Basins, c.f_N.f_Sea, ((c.f_N.f_Links.take ((w64 (i3 + 1)).toNat)).drop ((i3).toNat))⟩ : Tapi_Network) (⟨rRun.1.f_Minute, rStep2.1.f_Litres, rStep2.1.f_Open⟩ : Tapi_Water) ((c.f_N.f_Links.getD ((i3).toNat) Tapi_Link.d).f_To) rside2 hr8), trivial⟩ ?_
          refine Runs.sA 1 [.code (C_95 268423806), .code (C_95 268423807), .inBlock 5, .code (C_95 1048531), .inLoop (C_95 262132), .inBlock 4, .code (C_95 32767)] ?_
          obtain ⟨c14, h⟩ := ifSome h
          obtain ⟨c15, h⟩ := ifSome h
          refine Runs.sR hE ⟨[(2, (.op 0 0 0)), (5, (.op 1 0 0)), (8, (encL cI 0 rStep.2.1)), (14, (aI i3)), (269, (aB (cond (cond (decide ((rStep2.2.1.getD 0 0) > 0)) (decide (rside < rside2)) false) true (cond (decide ((rStep2.2.1.getD 0 0) < 0)) (decide (rside2 < rside)) false))))], [(0, vO 7 (Tkeelblocklaw05_Case.cells c)), (1, vO 3 (Tapi_Water.cells rRun.1))], 1698⟩ (C_95 268423806) [] [] (kp [2, 5, 8, 14, 269]) (kq [0, 1]) 1698 [0 ≤ (0 : Int) ∧ 0 < ((rStep2.2.1.length : Nat) : Int), (decide ((rStep2.2.1.getD 0 0) > 0)) = true → AllP [(decide ((rStep2.2.1.getD 0 0) > 0)) = true, (decide ((rStep2.2.1.getD 0 0) > 0)) = true], (decide ((rStep2.2.1.getD 0 0) > 0)) = true → AllP [(decide ((rStep2.2.1.getD 0 0) > 0)) = true], (!(cond (decide ((rStep2.2.1.getD 0 0) > 0)) (decide (rside < rside2)) false)) = true → AllP [(!(cond (decide ((rStep2.2.1.getD 0 0) > 0)) (decide (rside < rside2)) false)) = true, 0 ≤ (0 : Int) ∧ 0 < ((rStep2.2.1.length : Nat) : Int)], (!(cond (decide ((rStep2.2.1.getD 0 0) > 0)) (decide (rside < rside2)) false)) = true → AllP [(!(cond (decide ((rStep2.2.1.getD 0 0) > 0)) (decide (rside < rside2)) false)) = true], (!(cond (decide ((rStep2.2.1.getD 0 0) > 0)) (decide (rside < rside2)) false)) = true → AllP [(!(cond (decide ((rStep2.2.1.getD 0 0) > 0)) (decide (rside < rside2)) false)) = true], ((!(cond (decide ((rStep2.2.1.getD 0 0) > 0)) (decide (rside < rside2)) false)) && ((!(cond (decide ((rStep2.2.1.getD 0 0) > 0)) (decide (rside < rside2)) false)) && (decide ((rStep2.2.1.getD 0 0) < 0)))) = true → AllP [((!(cond (decide ((rStep2.2.1.getD 0 0) > 0)) (decide (rside < rside2)) false)) && ((!(cond (decide ((rStep2.2.1.getD 0 0) > 0)) (decide (rside < rside2)) false)) && (decide ((rStep2.2.1.getD 0 0) < 0)))) = true, ((!(cond (decide ((rStep2.2.1.getD 0 0) > 0)) (decide (rside < rside2)) false)) && ((!(cond (decide ((rStep2.2.1.getD 0 0) > 0)) (decide (rside < rside2)) false)) && (decide ((rStep2.2.1.getD 0 0) < 0)))) = true], (!(cond (decide ((rStep2.2.1.getD 0 0) > 0)) (decide (rside < rside2)) false)) = true → AllP [(!(cond (decide ((rStep2.2.1.getD 0 0) > 0)) (decide (rside < rside2)) false)) = true, (!(cond (decide ((rStep2.2.1.getD 0 0) > 0)) (decide (rside < rside2)) false)) = true, (decide ((rStep2.2.1.getD 0 0) < 0)) = true → AllP [((!(cond (decide ((rStep2.2.1.getD 0 0) > 0)) (decide (rside < rside2)) false)) && ((!(cond (decide ((rStep2.2.1.getD 0 0) > 0)) (decide (rside < rside2)) false)) && (decide ((rStep2.2.1.getD 0 0) < 0)))) = true]], (!(cond (decide ((rStep2.2.1.getD 0 0) > 0)) (decide (rside < rside2)) false)) = true → AllP [(!(cond (decide ((rStep2.2.1.getD 0 0) > 0)) (decide (rside < rside2)) false)) = true]] ⟨c14, (fun hg => ⟨hg, hg, trivial⟩), (fun hq => ⟨hq, trivial⟩), (fun hg => ⟨hg, (c15 hg), trivial⟩), (fun hg => ⟨hg, trivial⟩), (fun hg => ⟨hg, trivial⟩), (fun hg => ⟨hg, hg, trivial⟩), (fun hg => ⟨hg, hg, (fun hq => ⟨(andI' hg (andI' hg hq)), trivial⟩), trivial⟩), (fun hq => ⟨hq, trivial⟩), trivial⟩ ?_
          refine Runs.sC 269 (C_95 536847614) (C_95 536847615) (cond (cond (decide ((rStep2.2.1.getD 0 0) > 0)) (decide (rside < rside2)) false) true (cond (decide ((rStep2.2.1.getD 0 0) < 0)) (decide (rside2 < rside)) false)) (fun hq16 => ?_) (fun hq16 => ?_)
          · have h := condT h hq16
            refine Runs.sA 1 [.code (C_95 1073695228), .code (C_95 1073695229), .inBlock 5, .code (C_95 1048531), .inLoop (C_95 262132), .inBlock 4, .code (C_95 32767)] ?_
            refine Runs.sR hE ⟨[(4, (aB false))], [], 1714⟩ (C_95 1073695228) [] [] (kp [4]) [] 1714 [] trivial ?_
            obtain rfl := Option.some.inj h
            refine Runs.sW hE ⟨[(4, (aB false))], [], 1714⟩ [] (kp [4]) [] 1714 [] trivial ?_
            exact Runs.sT Try.f9 [] [] trivial
          · have h := condF h hq16
            refine Runs.sA 2 [.code (C_95 1048531), .inLoop (C_95 262132), .inBlock 4, .code (C_95 32767)] ?_
            exact Runs.sW hE _ [] (kp [2, 5, 8, 14]) (kq [0, 1]) 2 [] trivial (g_w05_WaterKept_J6_ok N c rRun rStep i3 (g_w05_WaterKept_L5 N c rRun rStep fuel) ih _ h E hE)
    · have h := condF h hq13
      refine Runs.sA 2 [.code (C_95 65534), .code (C_95 65535)] ?_
      refine Runs.sR hE ⟨[(4, (aB true))], [], 82⟩ (C_95 65534) [] [] (kp [4]) [] 82 [] trivial ?_
      obtain rfl := Option.some.inj h
      refine Runs.sW hE ⟨[(4, (aB true))], [], 82⟩ [] (kp [4]) [] 82 [] trivial ?_
      exact Runs.sT Try.f9 [] [] trivial

theorem g_w05_WaterKept_L4_ok (N : Nat) (c : Tkeelblocklaw05_Case) (rRun : Tapi_Water × Int) (rStep : Tapi_Water × (List Int) × Int) (sea : Int) (fuel : Nat) : ∀ (sum : Int) (i2 : Int) (r : Bool), g_w05_WaterKept_L4 N c rRun rStep sea fuel sum i2 = some r → ∀ E, EnvOk E 0 → Runs Try.prog E 9 270 (SPost E [] (aB r)) [.code (C_95 65524), .inLoop (C_95 65524), .inBlock 2, .code (C_95 8191)] ⟨[(2, (.op 0 0 0)), (5, (.op 1 0 0)), (7, (.op 2 0 0)), (8, (encL cI 0 rStep.2.1)), (10, (aI sea)), (12, (aI sum)), (13, (aI i2))], [(0, vO 7 (Tkeelblocklaw05_Case.cells c)), (1, vO 3 (Tapi_Water.cells rRun.1)), (2, vO 3 (Tapi_Water.cells rStep.1))], 3⟩ := by
  induction fuel with
  | zero => intro _ _ r h; rw [g_w05_WaterKept_L4.eq_1] at h; cases h
  | succ fuel ih =>
    intro sum i2 r h E hE
    rw [g_w05_WaterKept_L4.eq_2] at h
    refine Runs.sA 2 [.code (C_95 262096), .code (C_95 262097), .code (C_95 131049), .inLoop (C_95 65524), .inBlock 2, .code (C_95 8191)] ?_
    refine Runs.sR hE ⟨[(2, (.op 0 0 0)), (5, (.op 1 0 0)), (7, (.op 2 0 0)), (8, (encL cI 0 rStep.2.1)), (10, (aI sea)), (12, (aI sum)), (13, (aI i2)), (131, (aB (decide (i2 < ((rStep.1.f_Litres.length : Nat) : Int)))))], [(0, vO 7 (Tkeelblocklaw05_Case.cells c)), (1, vO 3 (Tapi_Water.cells rRun.1)), (2, vO 3 (Tapi_Water.cells rStep.1))], 83⟩ (C_95 262096) [] [] (kp [2, 5, 7, 8, 10, 12, 13, 131]) (kq [0, 1, 2]) 83 [0 < 1] ⟨o1, trivial⟩ ?_
    refine Runs.sC 131 (C_95 524194) (C_95 524195) (decide (i2 < ((rStep.1.f_Litres.length : Nat) : Int))) (fun hq10 => ?_) (fun hq10 => ?_)
    · have h := condT h hq10
      refine Runs.sA 4 [.code (C_95 1048392), .code (C_95 1048393), .inBlock 3, .code (C_95 262099), .inLoop (C_95 65524), .inBlock 2, .code (C_95 8191)] ?_
      obtain ⟨c6, h⟩ := ifSome h
      obtain ⟨c7, h⟩ := ifSome h
      refine Runs.sR hE ⟨[(2, (.op 0 0 0)), (5, (.op 1 0 0)), (7, (.op 2 0 0)), (8, (encL cI 0 rStep.2.1)), (10, (aI sea)), (12, (aI (w64 ((w64 (sum + (rStep.1.f_Litres.getD ((i2).toNat) 0))) - (rRun.1.f_Litres.getD ((i2).toNat) 0))))), (13, (aI i2))], [(0, vO 7 (Tkeelblocklaw05_Case.cells c)), (1, vO 3 (Tapi_Water.cells rRun.1)), (2, vO 3 (Tapi_Water.cells rStep.1))], 307⟩ (C_95 1048392) [] [] (kp [2, 5, 7, 8, 10, 12, 13]) (kq [0, 1, 2]) 307 [0 < 1, 0 ≤ i2 ∧ i2 < ((rStep.1.f_Litres.length : Nat) : Int), 0 < 1, 0 ≤ i2 ∧ i2 < ((rRun.1.f_Litres.length : Nat) : Int)] ⟨o1, c6, o1, c7, trivial⟩ ?_
      refine Runs.sA 1 [.code (C_95 2096786), .code (C_95 2096787), .inBlock 3, .code (C_95 262099), .inLoop (C_95 65524), .inBlock 2, .code (C_95 8191)] ?_
      obtain ⟨c8, h⟩ := ifSome h
      obtain ⟨c9, h⟩ := ifSome h
      obtain ⟨rCapacity, hr5, h⟩ := bindSome h
      refine Runs.sR hE ⟨[(2, (.op 0 0 0)), (5, (.op 1 0 0)), (7, (.op 2 0 0)), (8, (encL cI 0 rStep.2.1)), (10, (aI sea)), (12, (aI (w64 ((w64 (sum + (rStep.1.f_Litres.getD ((i2).toNat) 0))) - (rRun.1.f_Litres.getD ((i2).toNat) 0))))), (13, (aI i2)), (167, (aB (cond (decide ((rStep.1.f_Litres.getD ((i2).toNat) 0) < 0)) true (decide ((rStep.1.f_Litres.getD ((i2).toNat) 0) > rCapacity)))))], [(0, vO 7 (Tkeelblocklaw05_Case.cells c)), (1, vO 3 (Tapi_Water.cells rRun.1)), (2, vO 3 (Tapi_Water.cells rStep.1))], 643⟩ (C_95 2096786) [(18, ⟨[], true, (aI rCapacity), [], 0, false⟩)] [] (kp [2, 5, 7, 8, 10, 12, 13, 167]) (kq [0, 1, 2]) 643 [0 < 1, 0 ≤ i2 ∧ i2 < ((rStep.1.f_Litres.length : Nat) : Int), (!(decide ((rStep.1.f_Litres.getD ((i2).toNat) 0) < 0))) = true → AllP [(!(decide ((rStep.1.f_Litres.getD ((i2).toNat) 0) < 0))) = true, 0 < 1], (!(decide ((rStep.1.f_Litres.getD ((i2).toNat) 0) < 0))) = true → AllP [(!(decide ((rStep.1.f_Litres.getD ((i2).toNat) 0) < 0))) = true, (!(decide ((rStep.1.f_Litres.getD ((i2).toNat) 0) < 0))) = true, 0 ≤ i2 ∧ i2 < ((rStep.1.f_Litres.length : Nat) : Int)], (!(decide ((rStep.1.f_Litres.getD ((i2).toNat) 0) < 0))) = true → AllP [(!(decide ((rStep.1.f_Litres.getD ((i2).toNat) 0) < 0))) = true], (!(decide ((rStep.1.f_Litres.getD ((i2).toNat) 0) < 0))) = true → AllP [(!(decide ((rStep.1.f_Litres.getD ((i2).toNat) 0) < 0))) = true], (!(decide ((rStep.1.f_Litres.getD ((i2).toNat) 0) < 0))) = true → AllP [(!(decide ((rStep.1.f_Litres.getD ((i2).toNat) 0) < 0))) = true, 0 < 1], (!(decide ((rStep.1.f_Litres.getD ((i2).toNat) 0) < 0))) = true → AllP [(!(decide ((rStep.1.f_Litres.getD ((i2).toNat) 0) < 0))) = true, (!(decide ((rStep.1.f_Litres.getD ((i2).toNat) 0) < 0))) = true, 0 ≤ i2 ∧ i2 < ((c.f_N.f_Basins.length : Nat) : Int)], (!(decide ((rStep.1.f_Litres.getD ((i2).toNat) 0) < 0))) = true → AllP [(!(decide ((rStep.1.f_Litres.getD ((i2).toNat) 0) < 0))) = true], (!(decide ((rStep.1.f_Litres.getD ((i2).toNat) 0) < 0))) = true → AllP [Sound Try.prog 44 [(.agg (Tapi_Basin.cells (c.f_N.f_Basins.getD ((i2).toNat) Tapi_Basin.d)))] [] 0 (aI rCapacity) [], (!(decide ((rStep.1.f_Litres.getD ((i2).toNat) 0) < 0))) = true], (!(decide ((rStep.1.f_Litres.getD ((i2).toNat) 0) < 0))) = true → AllP [(!(decide ((rStep.1.f_Litres.getD ((i2).toNat) 0) < 0))) = true, (!(decide ((rStep.1.f_Litres.getD ((i2).toNat) 0) < 0))) = true], (!(decide ((rStep.1.f_Litres.getD ((i2).toNat) 0) < 0))) = true → AllP [(!(decide ((rStep.1.f_Litres.getD ((i2).toNat) 0) < 0))) = true]] ⟨o1, c6, (fun hg => ⟨hg, o1, trivial⟩), (fun hg => ⟨hg, hg, (c8 hg), trivial⟩), (fun hg => ⟨hg, trivial⟩), (fun hg => ⟨hg, trivial⟩), (fun hg => ⟨hg, o1, trivial⟩), (fun hg => ⟨hg, hg, (c9 hg), trivial⟩), (fun hg => ⟨hg, trivial⟩), (fun hg => ⟨(g_r05_Capacity_ok N (c.f_N.f_Basins.getD ((i2).toNat) Tapi_Basin.d) rCapacity (condT hr5 hg)), hg, trivial⟩), (fun hg => ⟨hg, hg, trivial⟩), (fun hq => ⟨hq, trivial⟩), trivial⟩ ?_
      refine Runs.sC 167 (C_95 4193574) (C_95 4193575) (cond (decide ((rStep.1.f_Litres.getD ((i2).toNat) 0) < 0)) true (decide ((rStep.1.f_Litres.getD ((i2).toNat) 0) > rCapacity))) (fun hq11 => ?_) (fun hq11 => ?_)
      · have h := condT h hq11
        refine Runs.sA 1 [.code (C_95 8387148), .code (C_95 8387149), .inBlock 3, .code (C_95 262099), .inLoop (C_95 65524), .inBlock 2, .code (C_95 8191)] ?_
        refine Runs.sR hE ⟨[(4, (aB false))], [], 659⟩ (C_95 8387148) [] [] (kp [4]) [] 659 [] trivial ?_
        obtain rfl := Option.some.inj h
        refine Runs.sW hE ⟨[(4, (aB false))], [], 659⟩ [] (kp [4]) [] 659 [] trivial ?_
        exact Runs.sT Try.f9 [] [] trivial
      · have h := condF h hq11
        refine Runs.sA 2 [.code (C_95 262099), .inLoop (C_95 65524), .inBlock 2, .code (C_95 8191)] ?_
        refine Runs.sR hE ⟨[(2, (.op 0 0 0)), (5, (.op 1 0 0)), (7, (.op 2 0 0)), (8, (encL cI 0 rStep.2.1)), (10, (aI sea)), (12, (aI (w64 ((w64 (sum + (rStep.1.f_Litres.getD ((i2).toNat) 0))) - (rRun.1.f_Litres.getD ((i2).toNat) 0))))), (13, (aI (w64 (i2 + 1))))], [(0, vO 7 (Tkeelblocklaw05_Case.cells c)), (1, vO 3 (Tapi_Water.cells rRun.1)), (2, vO 3 (Tapi_Water.cells rStep.1))], 691⟩ (C_95 262099) [] [] (kp [2, 5, 7, 8, 10, 12, 13]) (kq [0, 1, 2]) 691 [] trivial ?_
        refine Runs.sA 1 [.code (C_95 65524), .inLoop (C_95 65524), .inBlock 2, .code (C_95 8191)] ?_
        exact Runs.sW hE _ [] (kp [2, 5, 7, 8, 10, 12, 13]) (kq [0, 1, 2]) 3 [] trivial (ih (w64 ((w64 (sum + (rStep.1.f_Litres.getD ((i2).toNat) 0))) - (rRun.1.f_Litres.getD ((i2).toNat) 0))) (w64 (i2 + 1)) _ h E hE)
    · have h := condF h hq10
      refine Runs.sA 3 [.code (C_95 32764), .code (C_95 32765), .code (C_95 16383)] ?_
      refine Runs.sR hE ⟨[(2, (.op 0 0 0)), (5, (.op 1 0 0)), (8, (encL cI 0 rStep.2.1)), (170, (aB (sum != sea)))], [(0, vO 7 (Tkeelblocklaw05_Case.cells c)), (1, vO 3 (Tapi_Water.cells rRun.1))], 131⟩ (C_95 32764) [] [] (kp [2, 5, 8, 170]) (kq [0, 1]) 131 [] trivial ?_
      refine Runs.sC 170 (C_95 65530) (C_95 65531) (sum != sea) (fun hq12 => ?_) (fun hq12 => ?_)
      · have h := condT h hq12
        refine Runs.sA 1 [.code (C_95 131060), .code (C_95 131061), .code (C_95 16383)] ?_
        refine Runs.sR hE ⟨[(4, (aB false))], [], 147⟩ (C_95 131060) [] [] (kp [4]) [] 147 [] trivial ?_
        obtain rfl := Option.some.inj h
        refine Runs.sW hE ⟨[(4, (aB false))], [], 147⟩ [] (kp [4]) [] 147 [] trivial ?_
        exact Runs.sT Try.f9 [] [] trivial
      · have h := condF h hq12
        refine Runs.sA 3 [.code (C_95 65532), .code (C_95 65533), .code (C_95 32767)] ?_
        refine Runs.sR hE ⟨[(2, (.op 0 0 0)), (5, (.op 1 0 0)), (8, (encL cI 0 rStep.2.1)), (14, (aI 0))], [(0, vO 7 (Tkeelblocklaw05_Case.cells c)), (1, vO 3 (Tapi_Water.cells rRun.1))], 147⟩ (C_95 65532) [] [] (kp [2, 5, 8, 14]) (kq [0, 1]) 147 [] trivial ?_
        refine Runs.sA 2 [.code (C_95 262132), .inLoop (C_95 262132), .inBlock 4, .code (C_95 32767)] ?_
        exact Runs.sW hE _ [] (kp [2, 5, 8, 14]) (kq [0, 1]) 2 [] trivial (g_w05_WaterKept_L5_ok N c rRun rStep N 0 _ h E hE)

theorem g_w05_WaterKept_L1_ok (N : Nat) (c : Tkeelblocklaw05_Case) (rRun : Tapi_Water × Int) (rStep : Tapi_Water × (List Int) × Int) (fuel : Nat) : ∀ (sea : Int) (i : Int) (r : Bool), g_w05_WaterKept_L1 N c rRun rStep fuel sea i = some r → ∀ E, EnvOk E 0 → Runs Try.prog E 9 270 (SPost E [] (aB r)) [.code (C_95 16372), .inLoop (C_95 16372), .inBlock 0, .code (C_95 2047)] ⟨[(2, (.op 0 0 0)), (5, (.op 1 0 0)), (7, (.op 2 0 0)), (8, (encL cI 0 rStep.2.1)), (10, (aI sea)), (11, (aI i))], [(0, vO 7 (Tkeelblocklaw05_Case.cells c)), (1, vO 3 (Tapi_Water.cells rRun.1)), (2, vO 3 (Tapi_Water.cells rStep.1))], 3⟩ := by
  induction fuel with
  | zero => intro _ _ r h; rw [g_w05_WaterKept_L1.eq_1] at h; cases h
  | succ fuel ih =>
    intro sea i r h E hE
    rw [g_w05_WaterKept_L1.eq_2] at h
    refine Runs.sA 2 [.code (C_95 65488), .code (C_95 65489), .code (C_95 32745), .inLoop (C_95 16372), .inBlock 0, .code (C_95 2047)] ?_
    refine Runs.sR hE ⟨[(2, (.op 0 0 0)), (5, (.op 1 0 0)), (7, (.op 2 0 0)), (8, (encL cI 0 rStep.2.1)), (10, (aI sea)), (11, (aI i)), (96, (aB (decide (i < ((rStep.2.1.length : Nat) : Int)))))], [(0, vO 7 (Tkeelblocklaw05_Case.cells c)), (1, vO 3 (Tapi_Water.cells rRun.1)), (2, vO 3 (Tapi_Water.cells rStep.1))], 67⟩ (C_95 65488) [] [] (kp [2, 5, 7, 8, 10, 11, 96]) (kq [0, 1, 2]) 67 [] trivial ?_
    refine Runs.sC 96 (C_95 130978) (C_95 130979) (decide (i < ((rStep.2.1.length : Nat) : Int))) (fun hq7 => ?_) (fun hq7 => ?_)
    · have h := condT h hq7
      refine Runs.sA 5 [.code (C_95 523920), .code (C_95 523921), .code (C_95 261961), .inBlock 1, .code (C_95 65491), .inLoop (C_95 16372), .inBlock 0, .code (C_95 2047)] ?_
      obtain ⟨c2, h⟩ := ifSome h
      refine Runs.sR hE ⟨[(2, (.op 0 0 0)), (5, (.op 1 0 0)), (7, (.op 2 0 0)), (8, (encL cI 0 rStep.2.1)), (10, (aI sea)), (11, (aI i)), (106, (aB (streq ((c.f_N.f_Links.getD ((i).toNat) Tapi_Link.d).f_From) ByteArray.empty)))], [(0, vO 7 (Tkeelblocklaw05_Case.cells c)), (1, vO 3 (Tapi_Water.cells rRun.1)), (2, vO 3 (Tapi_Water.cells rStep.1))], 195⟩ (C_95 523920) [] [] (kp [2, 5, 7, 8, 10, 11, 106]) (kq [0, 1, 2]) 195 [0 < 1, 0 ≤ i ∧ i < ((c.f_N.f_Links.length : Nat) : Int)] ⟨o1, c2, trivial⟩ ?_
      refine Runs.sC 106 (C_95 1047842) (C_95 1047843) (streq ((c.f_N.f_Links.getD ((i).toNat) Tapi_Link.d).f_From) ByteArray.empty) (fun hq8 => ?_) (fun hq8 => ?_)
      · have h := condT h hq8
        obtain ⟨c3, h⟩ := ifSome h
        refine Runs.sR hE ⟨[(2, (.op 0 0 0)), (5, (.op 1 0 0)), (7, (.op 2 0 0)), (8, (encL cI 0 rStep.2.1)), (10, (aI (w64 (sea + (rStep.2.1.getD ((i).toNat) 0))))), (11, (aI i))], [(0, vO 7 (Tkeelblocklaw05_Case.cells c)), (1, vO 3 (Tapi_Water.cells rRun.1)), (2, vO 3 (Tapi_Water.cells rStep.1))], 307⟩ (C_95 1047842) [] [] (kp [2, 5, 7, 8, 10, 11]) (kq [0, 1, 2]) 307 [0 ≤ i ∧ i < ((rStep.2.1.length : Nat) : Int)] ⟨c3, trivial⟩ ?_
        refine Runs.sA 1 [.code (C_95 523922), .code (C_95 523923), .inBlock 1, .code (C_95 65491), .inLoop (C_95 16372), .inBlock 0, .code (C_95 2047)] ?_
        exact Runs.sW hE _ [] (kp [2, 5, 7, 8, 10, 11]) (kq [0, 1, 2]) 3 [] trivial (g_w05_WaterKept_J2_ok N c rRun rStep i (g_w05_WaterKept_L1 N c rRun rStep fuel) ih (w64 (sea + (rStep.2.1.getD ((i).toNat) 0))) _ h E hE)
      · have h := condF h hq8
        refine Runs.sA 2 [.code (C_95 523922), .code (C_95 523923), .inBlock 1, .code (C_95 65491), .inLoop (C_95 16372), .inBlock 0, .code (C_95 2047)] ?_
        exact Runs.sW hE _ [] (kp [2, 5, 7, 8, 10, 11]) (kq [0, 1, 2]) 3 [] trivial (g_w05_WaterKept_J2_ok N c rRun rStep i (g_w05_WaterKept_L1 N c rRun rStep fuel) ih sea _ h E hE)
    · have h := condF h hq7
      refine Runs.sA 2 [.code (C_95 4094), .code (C_95 4095)] ?_
      refine Runs.sR hE ⟨[(2, (.op 0 0 0)), (5, (.op 1 0 0)), (7, (.op 2 0 0)), (8, (encL cI 0 rStep.2.1)), (10, (aI sea)), (12, (aI 0))], [(0, vO 7 (Tkeelblocklaw05_Case.cells c)), (1, vO 3 (Tapi_Water.cells rRun.1)), (2, vO 3 (Tapi_Water.cells rStep.1))], 83⟩ (C_95 4094) [] [] (kp [2, 5, 7, 8, 10, 12]) (kq [0, 1, 2]) 83 [] trivial ?_
      refine Runs.sA 2 [.code (C_95 16380), .code (C_95 16381), .code (C_95 8191)] ?_
      refine Runs.sR hE ⟨[(2, (.op 0 0 0)), (5, (.op 1 0 0)), (7, (.op 2 0 0)), (8, (encL cI 0 rStep.2.1)), (10, (aI sea)), (12, (aI 0)), (13, (aI 0))], [(0, vO 7 (Tkeelblocklaw05_Case.cells c)), (1, vO 3 (Tapi_Water.cells rRun.1)), (2, vO 3 (Tapi_Water.cells rStep.1))], 99⟩ (C_95 16380) [] [] (kp [2, 5, 7, 8, 10, 12, 13]) (kq [0, 1, 2]) 99 [] trivial ?_
      refine Runs.sA 2 [.code (C_95 65524), .inLoop (C_95 65524), .inBlock 2, .code (C_95 8191)] ?_
      exact Runs.sW hE _ [] (kp [2, 5, 7, 8, 10, 12, 13]) (kq [0, 1, 2]) 3 [] trivial (g_w05_WaterKept_L4_ok N c rRun rStep sea N 0 0 _ h E hE)

theorem g_w05_WaterKept_ok (N : Nat) (c : Tkeelblocklaw05_Case) (more : Int) (r : Bool) (h : g_w05_WaterKept N c more = some r) : Sound Try.prog 9 [(.agg (Tkeelblocklaw05_Case.cells c)), (aI more)] [] 0 (aB r) [] := by
  unfold g_w05_WaterKept at h
  refine Sound.of_runs (fu := Try.f9) (c := C_95 1) (nt := 270) (by kernel_rfl) (by kernel_rfl) (by kernel_rfl) (by kernel_rfl) (fun hm => rfl) ?_
  intro E hE
  refine Runs.sA 1 [.code (C_95 2), .code (C_95 3)] ?_
  refine Runs.sR hE ⟨[(1, (aI more)), (2, (.op 0 0 0))], [(0, vO 7 (Tkeelblocklaw05_Case.cells c))], 32⟩ (C_95 2) [] [] (kp [1, 2]) (kq [0]) 32 [] trivial ?_
  refine Runs.sA 2 [.code (C_95 12), .code (C_95 13), .code (C_95 7)] ?_
  obtain ⟨rawake, hr, h⟩ := bindSome h
  refine Runs.sR hE ⟨[(1, (aI more)), (2, (.op 0 0 0)), (22, (aB (!rawake)))], [(0, vO 7 (Tkeelblocklaw05_Case.cells c))], 64⟩ (C_95 12) [(0, ⟨[], true, (aB rawake), [], 0, false⟩)] [] (kp [1, 2, 22]) (kq [0]) 64 [Sound Try.prog 13 [] [] 0 (aB rawake) []] ⟨(g_w05_awake_ok N rawake hr), trivial⟩ ?_
  refine Runs.sC 22 (C_95 26) (C_95 27) (!rawake) (fun hq2 => ?_) (fun hq2 => ?_)
  · have h := condT h hq2
    refine Runs.sA 1 [.code (C_95 52), .code (C_95 53), .code (C_95 7)] ?_
    refine Runs.sR hE ⟨[(4, (aB false))], [], 80⟩ (C_95 52) [] [] (kp [4]) [] 80 [] trivial ?_
    obtain rfl := Option.some.inj h
    refine Runs.sW hE ⟨[(4, (aB false))], [], 80⟩ [] (kp [4]) [] 80 [] trivial ?_
    exact Runs.sT Try.f9 [] [] trivial
  · have h := condF h hq2
    refine Runs.sA 3 [.code (C_95 28), .code (C_95 29), .code (C_95 15)] ?_
    obtain ⟨rShort, hr2, h⟩ := bindSome h
    refine Runs.sR hE ⟨[(1, (aI more)), (2, (.op 0 0 0)), (33, (aB (cond (cond (!rShort) true (decide (more < 0))) true (decide (more > 30)))))], [(0, vO 7 (Tkeelblocklaw05_Case.cells c))], 240⟩ (C_95 28) [(1, ⟨[], true, (aB rShort), [], 0, false⟩)] [] (kp [1, 2, 33]) (kq [0]) 240 [0 < 1, Sound Try.prog 34 [(.agg (Tkeelblocklaw05_Case.cells c))] [] 0 (aB rShort) [], (!(!rShort)) = true → AllP [(!(!rShort)) = true], (!(!rShort)) = true → AllP [(!(!rShort)) = true], (!(cond (!rShort) true (decide (more < 0)))) = true → AllP [(!(cond (!rShort) true (decide (more < 0)))) = true], (!(cond (!rShort) true (decide (more < 0)))) = true → AllP [(!(cond (!rShort) true (decide (more < 0)))) = true]] ⟨o1, (g_w05_Case_Short_ok N c rShort hr2), (fun hg => ⟨hg, trivial⟩), (fun hq => ⟨hq, trivial⟩), (fun hg => ⟨hg, trivial⟩), (fun hq => ⟨hq, trivial⟩), trivial⟩ ?_
    refine Runs.sC 33 (C_95 58) (C_95 59) (cond (cond (!rShort) true (decide (more < 0))) true (decide (more > 30))) (fun hq3 => ?_) (fun hq3 => ?_)
    · have h := condT h hq3
      refine Runs.sA 1 [.code (C_95 116), .code (C_95 117), .code (C_95 15)] ?_
      refine Runs.sR hE ⟨[(4, (aB true))], [], 256⟩ (C_95 116) [] [] (kp [4]) [] 256 [] trivial ?_
      obtain rfl := Option.some.inj h
      refine Runs.sW hE ⟨[(4, (aB true))], [], 256⟩ [] (kp [4]) [] 256 [] trivial ?_
      exact Runs.sT Try.f9 [] [] trivial
    · have h := condF h hq3
      refine Runs.sA 2 [.code (C_95 30), .code (C_95 31)] ?_
      obtain ⟨rRun, hr3, h⟩ := bindSome h
      refine Runs.sR hE ⟨[(2, (.op 0 0 0)), (5, (.op 416 0 0)), (6, (aI rRun.2))], [(0, vO 7 (Tkeelblocklaw05_Case.cells c)), (416, vO 3 (Tapi_Water.cells rRun.1))], 464⟩ (C_95 30) [(7, ⟨[], true, (.tup [(.agg (Tapi_Water.cells rRun.1)), (aI rRun.2)]), [], 0, false⟩)] [] (kp [2, 5, 6]) (kq [0, 416]) 464 [0 < 1, 0 < 1, 0 < 1, Sound Try.prog 41 [(.agg (Tapi_Network.cells c.f_N)), (.agg (Tapi_Water.cells c.f_W)), (encL Tapi_Turn.cells Tapi_Turn.d c.f_Turns), (aI more)] [] 0 (.tup [(.agg (Tapi_Water.cells rRun.1)), (aI rRun.2)]) [], 0 < 1] ⟨o1, o1, o1, (g_water_Run_ok N c.f_N c.f_W c.f_Turns more rRun hr3), o1, trivial⟩ ?_
      refine Runs.sA 2 [.code (C_95 124), .code (C_95 125), .code (C_95 63)] ?_
      refine Runs.sR hE ⟨[(2, (.op 0 0 0)), (5, (.op 416 0 0)), (6, (aI rRun.2)), (56, (aB (cond (rRun.2 != 0) true (((rRun.1.f_Litres.length : Nat) : Int) != ((c.f_N.f_Basins.length : Nat) : Int)))))], [(0, vO 7 (Tkeelblocklaw05_Case.cells c)), (416, vO 3 (Tapi_Water.cells rRun.1))], 656⟩ (C_95 124) [] [] (kp [2, 5, 6, 56]) (kq [0, 416]) 656 [(!(rRun.2 != 0)) = true → AllP [(!(rRun.2 != 0)) = true, 0 < 1], (!(rRun.2 != 0)) = true → AllP [(!(rRun.2 != 0)) = true], (!(rRun.2 != 0)) = true → AllP [(!(rRun.2 != 0)) = true], (!(rRun.2 != 0)) = true → AllP [(!(rRun.2 != 0)) = true, 0 < 1], (!(rRun.2 != 0)) = true → AllP [(!(rRun.2 != 0)) = true], (!(rRun.2 != 0)) = true → AllP [(!(rRun.2 != 0)) = true, (!(rRun.2 != 0)) = true], (!(rRun.2 != 0)) = true → AllP [(!(rRun.2 != 0)) = true]] ⟨(fun hg => ⟨hg, o1, trivial⟩), (fun hg => ⟨hg, trivial⟩), (fun hg => ⟨hg, trivial⟩), (fun hg => ⟨hg, o1, trivial⟩), (fun hg => ⟨hg, trivial⟩), (fun hg => ⟨hg, hg, trivial⟩), (fun hq => ⟨hq, trivial⟩), trivial⟩ ?_
      refine Runs.sC 56 (C_95 250) (C_95 251) (cond (rRun.2 != 0) true (((rRun.1.f_Litres.length : Nat) : Int) != ((c.f_N.f_Basins.length : Nat) : Int))) (fun hq4 => ?_) (fun hq4 => ?_)
      · have h := condT h hq4
        refine Runs.sA 1 [.code (C_95 500), .code (C_95 501), .code (C_95 63)] ?_
        refine Runs.sR hE ⟨[(4, (aB (rRun.2 != 0)))], [], 704⟩ (C_95 500) [] [] (kp [4]) [] 704 [] trivial ?_
        obtain rfl := Option.some.inj h
        refine Runs.sW hE ⟨[(4, (aB (rRun.2 != 0)))], [], 704⟩ [] (kp [4]) [] 704 [] trivial ?_
        exact Runs.sT Try.f9 [] [] trivial
      · have h := condF h hq4
        refine Runs.sA 2 [.code (C_95 126), .code (C_95 127)] ?_
        obtain ⟨rStep, hr4, h⟩ := bindSome h
        refine Runs.sR hE ⟨[(2, (.op 0 0 0)), (5, (.op 416 0 0)), (7, (.op 784 0 0)), (8, (encL cI 0 rStep.2.1)), (9, (aI rStep.2.2))], [(0, vO 7 (Tkeelblocklaw05_Case.cells c)), (416, vO 3 (Tapi_Water.cells rRun.1)), (784, vO 3 (Tapi_Water.cells rStep.1))], 848⟩ (C_95 126) [(3, ⟨[], true, (.tup [(.agg (Tapi_Water.cells rStep.1)), (encL cI 0 rStep.2.1), (aI rStep.2.2)]), [], 0, false⟩)] [] (kp [2, 5, 7, 8, 9]) (kq [0, 416, 784]) 848 [0 < 1, 0 < 1, Sound Try.prog 40 [(.agg (Tapi_Network.cells c.f_N)), (.agg (Tapi_Water.cells rRun.1))] [] 0 (.tup [(.agg (Tapi_Water.cells rStep.1)), (encL cI 0 rStep.2.1), (aI rStep.2.2)]) [], 0 < 1] ⟨o1, o1, (g_water_Step_ok N c.f_N rRun.1 rStep hr4), o1, trivial⟩ ?_
        refine Runs.sA 2 [.code (C_95 508), .code (C_95 509), .code (C_95 255)] ?_
        refine Runs.sR hE ⟨[(2, (.op 0 0 0)), (5, (.op 416 0 0)), (7, (.op 784 0 0)), (8, (encL cI 0 rStep.2.1)), (9, (aI rStep.2.2)), (68, (aB (rStep.2.2 != 0)))], [(0, vO 7 (Tkeelblocklaw05_Case.cells c)), (416, vO 3 (Tapi_Water.cells rRun.1)), (784, vO 3 (Tapi_Water.cells rStep.1))], 880⟩ (C_95 508) [] [] (kp [2, 5, 7, 8, 9, 68]) (kq [0, 416, 784]) 880 [] trivial ?_
        refine Runs.sC 68 (C_95 1018) (C_95 1019) (rStep.2.2 != 0) (fun hq5 => ?_) (fun hq5 => ?_)
        · have h := condT h hq5
          refine Runs.sA 1 [.code (C_95 2036), .code (C_95 2037), .code (C_95 255)] ?_
          refine Runs.sR hE ⟨[(4, (aB (cond (rStep.2.2 == 2) (rRun.1.f_Minute == 1000000) false)))], [], 1008⟩ (C_95 2036) [] [] (kp [4]) [] 1008 [(rStep.2.2 == 2) = true → AllP [(rStep.2.2 == 2) = true, 0 < 1], (rStep.2.2 == 2) = true → AllP [(rStep.2.2 == 2) = true], (rStep.2.2 == 2) = true → AllP [(rStep.2.2 == 2) = true]] ⟨(fun hg => ⟨hg, o1, trivial⟩), (fun hg => ⟨hg, trivial⟩), (fun hq => ⟨hq, trivial⟩), trivial⟩ ?_
          obtain rfl := Option.some.inj h
          refine Runs.sW hE ⟨[(4, (aB (cond (rStep.2.2 == 2) (rRun.1.f_Minute == 1000000) false)))], [], 1008⟩ [] (kp [4]) [] 1008 [] trivial ?_
          exact Runs.sT Try.f9 [] [] trivial
        · have h := condF h hq5
          refine Runs.sA 3 [.code (C_95 1020), .code (C_95 1021), .code (C_95 511)] ?_
          refine Runs.sR hE ⟨[(2, (.op 0 0 0)), (5, (.op 416 0 0)), (7, (.op 784 0 0)), (8, (encL cI 0 rStep.2.1)), (92, (aB (cond (((rStep.1.f_Litres.length : Nat) : Int) != ((c.f_N.f_Basins.length : Nat) : Int)) true (((rStep.2.1.length : Nat) : Int) != ((c.f_N.f_Links.length : Nat) : Int)))))], [(0, vO 7 (Tkeelblocklaw05_Case.cells c)), (416, vO 3 (Tapi_Water.cells rRun.1)), (784, vO 3 (Tapi_Water.cells rStep.1))], 1152⟩ (C_95 1020) [] [] (kp [2, 5, 7, 8, 92]) (kq [0, 416, 784]) 1152 [0 < 1, 0 < 1, (!(((rStep.1.f_Litres.length : Nat) : Int) != ((c.f_N.f_Basins.length : Nat) : Int))) = true → AllP [(!(((rStep.1.f_Litres.length : Nat) : Int) != ((c.f_N.f_Basins.length : Nat) : Int))) = true], (!(((rStep.1.f_Litres.length : Nat) : Int) != ((c.f_N.f_Basins.length : Nat) : Int))) = true → AllP [(!(((rStep.1.f_Litres.length : Nat) : Int) != ((c.f_N.f_Basins.length : Nat) : Int))) = true], (!(((rStep.1.f_Litres.length : Nat) : Int) != ((c.f_N.f_Basins.length : Nat) : Int))) = true → AllP [(!(((rStep.1.f_Litres.length : Nat) : Int) != ((c.f_N.f_Basins.length : Nat) : Int))) = true, 0 < 1], (!(((rStep.1.f_Litres.length : Nat) : Int) != ((c.f_N.f_Basins.length : Nat) : Int))) = true → AllP [(!(((rStep.1.f_Litres.length : Nat) : Int) != ((c.f_N.f_Basins.length : Nat) : Int))) = true], (!(((rStep.1.f_Litres.length : Nat) : Int) != ((c.f_N.f_Basins.length : Nat) : Int))) = true → AllP [(!(((rStep.1.f_Litres.length : Nat) : Int) != ((c.f_N.f_Basins.length : Nat) : Int))) = true, (!(((rStep.1.f_Litres.length : Nat) : Int) != ((c.f_N.f_Basins.length : Nat) : Int))) = true], (!(((rStep.1.f_Litres.length : Nat) : Int) != ((c.f_N.f_Basins.length : Nat) : Int))) = true → AllP [(!(((rStep.1.f_Litres.length : Nat) : Int) != ((c.f_N.f_Basins.length : Nat) : Int))) = true]] ⟨o1, o1, (fun hg => ⟨hg, trivial⟩), (fun hg => ⟨hg, trivial⟩), (fun hg => ⟨hg, o1, trivial⟩), (fun hg => ⟨hg, trivial⟩), (fun hg => ⟨hg, hg, trivial⟩), (fun hq => ⟨hq, trivial⟩), trivial⟩ ?_
          refine Runs.sC 92 (C_95 2042) (C_95 2043) (cond (((rStep.1.f_Litres.length : Nat) : Int) != ((c.f_N.f_Basins.length : Nat) : Int)) true (((rStep.2.1.length : Nat) : Int) != ((c.f_N.f_Links.length : Nat) : Int))) (fun hq6 => ?_) (fun hq6 => ?_)
          · have h := condT h hq6
            refine Runs.sA 1 [.code (C_95 4084), .code (C_95 4085), .code (C_95 511)] ?_
            refine Runs.sR hE ⟨[(4, (aB false))], [], 1168⟩ (C_95 4084) [] [] (kp [4]) [] 1168 [] trivial ?_
            obtain rfl := Option.some.inj h
            refine Runs.sW hE ⟨[(4, (aB false))], [], 1168⟩ [] (kp [4]) [] 1168 [] trivial ?_
            exact Runs.sT Try.f9 [] [] trivial
          · have h := condF h hq6
            refine Runs.sA 2 [.code (C_95 1022), .code (C_95 1023)] ?_
            refine Runs.sR hE ⟨[(2, (.op 0 0 0)), (5, (.op 416 0 0)), (7, (.op 784 0 0)), (8, (encL cI 0 rStep.2.1)), (10, (aI 0))], [(0, vO 7 (Tkeelblocklaw05_Case.cells c)), (416, vO 3 (Tapi_Water.cells rRun.1)), (784, vO 3 (Tapi_Water.cells rStep.1))], 1168⟩ (C_95 1022) [] [] (kp [2, 5, 7, 8, 10]) (kq [0, 416, 784]) 1168 [] trivial ?_
            refine Runs.sA 2 [.code (C_95 4092), .code (C_95 4093), .code (C_95 2047)] ?_
            refine Runs.sR hE ⟨[(2, (.op 0 0 0)), (5, (.op 416 0 0)), (7, (.op 784 0 0)), (8, (encL cI 0 rStep.2.1)), (10, (aI 0)), (11, (aI 0))], [(0, vO 7 (Tkeelblocklaw05_Case.cells c)), (416, vO 3 (Tapi_Water.cells rRun.1)), (784, vO 3 (Tapi_Water.cells rStep.1))], 1184⟩ (C_95 4092) [] [] (kp [2, 5, 7, 8, 10, 11]) (kq [0, 416, 784]) 1184 [] trivial ?_
            refine Runs.sA 2 [.code (C_95 16372), .inLoop (C_95 16372), .inBlock 0, .code (C_95 2047)] ?_
            exact Runs.sW hE _ [] (kp [2, 5, 7, 8, 10, 11]) (kq [0] ++ [(1, .keep 416), (2, .keep 784)]) 3 [] trivial (g_w05_WaterKept_L1_ok N c rRun rStep N 0 0 _ h E hE)

end Go.Den
