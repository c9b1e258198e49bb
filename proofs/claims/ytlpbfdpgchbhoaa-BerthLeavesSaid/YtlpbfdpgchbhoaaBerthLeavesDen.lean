/- The functions of the program as Lean functions, each in the Option monad; N bounds the rounds of loops. No conditions. -/
import Derived.Test.YtlpbfdpgchbhoaaCc

set_option linter.unusedVariables false
set_option linter.unusedSimpArgs false
set_option linter.unusedVariables false
namespace Go.Den
open Go.Ab

/-- api.Crane -/
structure Tapi_Crane where
  f_Name : ByteArray
  f_Rail : Int
  f_From : Int
  f_To : Int
  f_Reach : Int
  f_Mass : Int
def Tapi_Crane.d : Tapi_Crane := ⟨ByteArray.empty, 0, 0, 0, 0, 0⟩
def Tapi_Crane.wf (x : Tapi_Crane) : Prop := wS x.f_Name ∧ wI x.f_Rail ∧ wI x.f_From ∧ wI x.f_To ∧ wI x.f_Reach ∧ wI x.f_Mass
def Tapi_Crane.cells (x : Tapi_Crane) : List AV := [(aS x.f_Name), (aI x.f_Rail), (aI x.f_From), (aI x.f_To), (aI x.f_Reach), (aI x.f_Mass)]
/-- api.Lift -/
structure Tapi_Lift where
  f_Name : ByteArray
  f_X : Int
  f_Out : Int
  f_Mass : Int
  f_Start : Int
  f_End : Int
def Tapi_Lift.d : Tapi_Lift := ⟨ByteArray.empty, 0, 0, 0, 0, 0⟩
def Tapi_Lift.wf (x : Tapi_Lift) : Prop := wS x.f_Name ∧ wI x.f_X ∧ wI x.f_Out ∧ wI x.f_Mass ∧ wI x.f_Start ∧ wI x.f_End
def Tapi_Lift.cells (x : Tapi_Lift) : List AV := [(aS x.f_Name), (aI x.f_X), (aI x.f_Out), (aI x.f_Mass), (aI x.f_Start), (aI x.f_End)]
/-- keelblocklaw06.Quay -/
structure Tkeelblocklaw06_Quay where
  f_Cranes : List Tapi_Crane
  f_Lifts : List Tapi_Lift
  f_By : List ByteArray
def Tkeelblocklaw06_Quay.d : Tkeelblocklaw06_Quay := ⟨[], [], []⟩
def Tkeelblocklaw06_Quay.wf (x : Tkeelblocklaw06_Quay) : Prop := (wL Tapi_Crane.wf) x.f_Cranes ∧ (wL Tapi_Lift.wf) x.f_Lifts ∧ (wL wS) x.f_By
def Tkeelblocklaw06_Quay.cells (x : Tkeelblocklaw06_Quay) : List AV := [(encL Tapi_Crane.cells Tapi_Crane.d x.f_Cranes), (encL Tapi_Lift.cells Tapi_Lift.d x.f_Lifts), (encL cS ByteArray.empty x.f_By)]
/-- api.Dock -/
structure Tapi_Dock where
  f_Name : ByteArray
  f_Length : Int
  f_Width : Int
  f_Sill : Int
  f_Floor : Int
  f_Gap : Int
def Tapi_Dock.d : Tapi_Dock := ⟨ByteArray.empty, 0, 0, 0, 0, 0⟩
def Tapi_Dock.wf (x : Tapi_Dock) : Prop := wS x.f_Name ∧ wI x.f_Length ∧ wI x.f_Width ∧ wI x.f_Sill ∧ wI x.f_Floor ∧ wI x.f_Gap
def Tapi_Dock.cells (x : Tapi_Dock) : List AV := [(aS x.f_Name), (aI x.f_Length), (aI x.f_Width), (aI x.f_Sill), (aI x.f_Floor), (aI x.f_Gap)]
/-- api.Call -/
structure Tapi_Call where
  f_Name : ByteArray
  f_Length : Int
  f_Beam : Int
  f_Draught : Int
  f_Under : Int
  f_Arrive : Int
  f_Work : Int
  f_Due : Int
  f_Late : Int
def Tapi_Call.d : Tapi_Call := ⟨ByteArray.empty, 0, 0, 0, 0, 0, 0, 0, 0⟩
def Tapi_Call.wf (x : Tapi_Call) : Prop := wS x.f_Name ∧ wI x.f_Length ∧ wI x.f_Beam ∧ wI x.f_Draught ∧ wI x.f_Under ∧ wI x.f_Arrive ∧ wI x.f_Work ∧ wI x.f_Due ∧ wI x.f_Late
def Tapi_Call.cells (x : Tapi_Call) : List AV := [(aS x.f_Name), (aI x.f_Length), (aI x.f_Beam), (aI x.f_Draught), (aI x.f_Under), (aI x.f_Arrive), (aI x.f_Work), (aI x.f_Due), (aI x.f_Late)]
/-- api.Spot -/
structure Tapi_Spot where
  f_Call : ByteArray
  f_X : Int
  f_Y : Int
def Tapi_Spot.d : Tapi_Spot := ⟨ByteArray.empty, 0, 0⟩
def Tapi_Spot.wf (x : Tapi_Spot) : Prop := wS x.f_Call ∧ wI x.f_X ∧ wI x.f_Y
def Tapi_Spot.cells (x : Tapi_Spot) : List AV := [(aS x.f_Call), (aI x.f_X), (aI x.f_Y)]
/-- keelblocklaw06.Plan -/
structure Tkeelblocklaw06_Plan where
  f_Dock : Tapi_Dock
  f_Calls : List Tapi_Call
  f_Spots : List Tapi_Spot
def Tkeelblocklaw06_Plan.d : Tkeelblocklaw06_Plan := ⟨Tapi_Dock.d, [], []⟩
def Tkeelblocklaw06_Plan.wf (x : Tkeelblocklaw06_Plan) : Prop := Tapi_Dock.wf x.f_Dock ∧ (wL Tapi_Call.wf) x.f_Calls ∧ (wL Tapi_Spot.wf) x.f_Spots
def Tkeelblocklaw06_Plan.cells (x : Tkeelblocklaw06_Plan) : List AV := [(aS x.f_Dock.f_Name), (aI x.f_Dock.f_Length), (aI x.f_Dock.f_Width), (aI x.f_Dock.f_Sill), (aI x.f_Dock.f_Floor), (aI x.f_Dock.f_Gap), (encL Tapi_Call.cells Tapi_Call.d x.f_Calls), (encL Tapi_Spot.cells Tapi_Spot.d x.f_Spots)]
/-- [2]string -/
structure TS__2_string where
  e0 : ByteArray
  e1 : ByteArray
def TS__2_string.d : TS__2_string := ⟨ByteArray.empty, ByteArray.empty⟩
def TS__2_string.wf (x : TS__2_string) : Prop := wS x.e0 ∧ wS x.e1
def TS__2_string.cells (x : TS__2_string) : List AV := [(aS x.e0), (aS x.e1)]
/-- berth.box -/
structure Tberth_box where
  f_x : Int
  f_y : Int
  f_w : Int
  f_h : Int
def Tberth_box.d : Tberth_box := ⟨0, 0, 0, 0⟩
def Tberth_box.wf (x : Tberth_box) : Prop := wI x.f_x ∧ wI x.f_y ∧ wI x.f_w ∧ wI x.f_h
def Tberth_box.cells (x : Tberth_box) : List AV := [(aI x.f_x), (aI x.f_y), (aI x.f_w), (aI x.f_h)]

/-- keelblock/berth.CheckCranes 1 -/
def g_berth_CheckCranes_1 (N : Nat) (x : Tapi_Crane) : Option (ByteArray) :=
  some x.f_Name

def g_berth_named_L1 (N : Nat) (s : ByteArray) : Nat → Int → Option (Bool)
  | 0, _ => none
  | fuel + 1, x =>
    (cond (decide (x < ((s.size : Nat) : Int)))
    ((if 0 ≤ x ∧ x < ((s.size : Nat) : Int) then
    (cond (cond (!(cond (cond (decide ((byteAt s ((x).toNat)) ≥ 97)) (decide ((byteAt s ((x).toNat)) ≤ 122)) false) true (cond (decide ((byteAt s ((x).toNat)) ≥ 65)) (decide ((byteAt s ((x).toNat)) ≤ 90)) false))) (cond (x == 0) true (!(cond (cond (decide ((byteAt s ((x).toNat)) ≥ 48)) (decide ((byteAt s ((x).toNat)) ≤ 57)) false) true ((byteAt s ((x).toNat)) == 45)))) false)
    (some false)
    (g_berth_named_L1 N s fuel (w64 (x + 1))))
    else none))
    (some true))

/-- keelblock/berth.named -/
def g_berth_named (N : Nat) (s : ByteArray) : Option (Bool) :=
  (cond (cond (streq s ByteArray.empty) true (decide (((s.size : Nat) : Int) > 12)))
  (some false)
  (g_berth_named_L1 N s N 0))

/-- keelblock/berth.check keelblock/api.Crane  1 -/
def g_berth_check_Crane_1 (N : Nat) (y : Tapi_Crane) (cap1 : Tapi_Crane) : Option (Bool) :=
  ((g_berth_CheckCranes_1 N y).bind fun rCheckCranes =>
  ((g_berth_CheckCranes_1 N cap1).bind fun rCheckCranes2 =>
  some (streq rCheckCranes rCheckCranes2)))

def g_slices_IndexFunc_api_Crane_api_Crane_L1 (N : Nat) (s : List Tapi_Crane) (cap1 : Tapi_Crane) : Nat → Int → Option (Int)
  | 0, _ => none
  | fuel + 1, x =>
    (cond (decide (x < ((s.length : Nat) : Int)))
    ((if 0 ≤ x ∧ x < ((s.length : Nat) : Int) then
    ((g_berth_check_Crane_1 N (s.getD ((x).toNat) Tapi_Crane.d) cap1).bind fun rCrane1 =>
    (cond rCrane1
    (some x)
    (g_slices_IndexFunc_api_Crane_api_Crane_L1 N s cap1 fuel (w64 (x + 1)))))
    else none))
    (some (-1)))

/-- slices.IndexFunc   keelblock/api.Crane,keelblock/api.Crane  -/
def g_slices_IndexFunc_api_Crane_api_Crane (N : Nat) (s : List Tapi_Crane) (cap1 : Tapi_Crane) : Option (Int) :=
  g_slices_IndexFunc_api_Crane_api_Crane_L1 N s cap1 N 0

/-- slices.ContainsFunc   keelblock/api.Crane,keelblock/api.Crane  -/
def g_slices_ContainsFunc_api_Crane_api_Crane (N : Nat) (s : List Tapi_Crane) (cap1 : Tapi_Crane) : Option (Bool) :=
  ((g_slices_IndexFunc_api_Crane_api_Crane N s cap1).bind fun rCrane =>
  some (decide (rCrane ≥ 0)))

/-- keelblock/berth.outside -/
def g_berth_outside (N : Nat) (n : Int) (lo : Int) (hi : Int) : Option (Bool) :=
  some (cond (decide (n < lo)) true (decide (n > hi)))

/-- keelblock/berth.ranged -/
def g_berth_ranged (N : Nat) (wrong : Bool) : Option (Int) :=
  (cond wrong
  (some 2)
  (some 0))

/-- keelblock/berth.CheckCranes 2 -/
def g_berth_CheckCranes_2 (N : Nat) (x : Tapi_Crane) : Option (Int) :=
  ((g_berth_outside N x.f_Rail 0 10).bind fun routside =>
  ((cond (!routside) (g_berth_outside N x.f_From (-1000000) 1000000) (some false)).bind fun routside2 =>
  ((cond (!(cond routside true routside2)) (g_berth_outside N x.f_To (-1000000) 1000000) (some false)).bind fun routside3 =>
  ((cond (!(cond (cond (cond routside true routside2) true routside3) true (decide (x.f_To < x.f_From)))) (g_berth_outside N x.f_Reach 0 1000000) (some false)).bind fun routside4 =>
  ((cond (!(cond (cond (cond (cond routside true routside2) true routside3) true (decide (x.f_To < x.f_From))) true routside4)) (g_berth_outside N x.f_Mass 0 1000000000) (some false)).bind fun routside5 =>
  ((g_berth_ranged N (cond (cond (cond (cond (cond routside true routside2) true routside3) true (decide (x.f_To < x.f_From))) true routside4) true routside5)).bind fun rranged =>
  some rranged))))))

def g_berth_check_Crane_L1 (N : Nat) (l : List Tapi_Crane) : Nat → Int → Option (Int)
  | 0, _ => none
  | fuel + 1, x =>
    (cond (decide (x < ((l.length : Nat) : Int)))
    ((if 0 ≤ x ∧ x < ((l.length : Nat) : Int) then
    ((g_berth_CheckCranes_1 N (l.getD ((x).toNat) Tapi_Crane.d)).bind fun rCheckCranes =>
    ((g_berth_named N rCheckCranes).bind fun rnamed =>
    (cond (!rnamed)
    (some 4)
    ((if 0 ≤ (x).toNat ∧ (x).toNat ≤ l.length then
    (if 0 ≤ x then
    ((g_slices_ContainsFunc_api_Crane_api_Crane N ((l.take ((x).toNat)).drop 0) (l.getD ((x).toNat) Tapi_Crane.d)).bind fun rCrane =>
    (cond rCrane
    (some 5)
    (((g_berth_CheckCranes_2 N (l.getD ((x).toNat) Tapi_Crane.d)).bind fun rCheckCranes2 =>
    (cond (rCheckCranes2 != 0)
    (some rCheckCranes2)
    (g_berth_check_Crane_L1 N l fuel (w64 (x + 1))))))))
    else none)
    else none)))))
    else none))
    (some 0))

/-- keelblock/berth.check keelblock/api.Crane  -/
def g_berth_check_Crane (N : Nat) (l : List Tapi_Crane) (most : Int) : Option (Int) :=
  (cond (decide (((l.length : Nat) : Int) > most))
  (some 8)
  (g_berth_check_Crane_L1 N l N 0))

/-- keelblock/berth.CheckCranes -/
def g_berth_CheckCranes (N : Nat) (c : List Tapi_Crane) : Option (Int) :=
  ((g_berth_check_Crane N c 4).bind fun rCrane =>
  some rCrane)

/-- keelblock/berth.CheckLifts 1 -/
def g_berth_CheckLifts_1 (N : Nat) (x : Tapi_Lift) : Option (ByteArray) :=
  some x.f_Name

/-- keelblock/berth.check keelblock/api.Lift  1 -/
def g_berth_check_Lift_1 (N : Nat) (y : Tapi_Lift) (cap1 : Tapi_Lift) : Option (Bool) :=
  ((g_berth_CheckLifts_1 N y).bind fun rCheckLifts1 =>
  ((g_berth_CheckLifts_1 N cap1).bind fun rCheckLifts12 =>
  some (streq rCheckLifts1 rCheckLifts12)))

def g_slices_IndexFunc_api_Lift_api_Lift_L1 (N : Nat) (s : List Tapi_Lift) (cap1 : Tapi_Lift) : Nat → Int → Option (Int)
  | 0, _ => none
  | fuel + 1, x =>
    (cond (decide (x < ((s.length : Nat) : Int)))
    ((if 0 ≤ x ∧ x < ((s.length : Nat) : Int) then
    ((g_berth_check_Lift_1 N (s.getD ((x).toNat) Tapi_Lift.d) cap1).bind fun rLift1 =>
    (cond rLift1
    (some x)
    (g_slices_IndexFunc_api_Lift_api_Lift_L1 N s cap1 fuel (w64 (x + 1)))))
    else none))
    (some (-1)))

/-- slices.IndexFunc   keelblock/api.Lift,keelblock/api.Lift  -/
def g_slices_IndexFunc_api_Lift_api_Lift (N : Nat) (s : List Tapi_Lift) (cap1 : Tapi_Lift) : Option (Int) :=
  g_slices_IndexFunc_api_Lift_api_Lift_L1 N s cap1 N 0

/-- slices.ContainsFunc   keelblock/api.Lift,keelblock/api.Lift  -/
def g_slices_ContainsFunc_api_Lift_api_Lift (N : Nat) (s : List Tapi_Lift) (cap1 : Tapi_Lift) : Option (Bool) :=
  ((g_slices_IndexFunc_api_Lift_api_Lift N s cap1).bind fun rLift =>
  some (decide (rLift ≥ 0)))

/-- keelblock/berth.CheckLifts 2 -/
def g_berth_CheckLifts_2 (N : Nat) (x : Tapi_Lift) : Option (Int) :=
  ((g_berth_outside N x.f_X (-1000000) 1000000).bind fun routside =>
  ((cond (!routside) (g_berth_outside N x.f_Out 0 1000000) (some false)).bind fun routside2 =>
  ((cond (!(cond routside true routside2)) (g_berth_outside N x.f_Mass 0 1000000000) (some false)).bind fun routside3 =>
  ((cond (!(cond (cond routside true routside2) true routside3)) (g_berth_outside N x.f_Start 0 1000000) (some false)).bind fun routside4 =>
  ((cond (!(cond (cond (cond routside true routside2) true routside3) true routside4)) (g_berth_outside N x.f_End 0 1000000) (some false)).bind fun routside5 =>
  (cond (cond (cond (cond (cond routside true routside2) true routside3) true routside4) true routside5)
  (some 2)
  ((cond (decide (x.f_End ≤ x.f_Start))
  (some 10)
  (some 0)))))))))

def g_berth_check_Lift_L1 (N : Nat) (l : List Tapi_Lift) : Nat → Int → Option (Int)
  | 0, _ => none
  | fuel + 1, x =>
    (cond (decide (x < ((l.length : Nat) : Int)))
    ((if 0 ≤ x ∧ x < ((l.length : Nat) : Int) then
    ((g_berth_CheckLifts_1 N (l.getD ((x).toNat) Tapi_Lift.d)).bind fun rCheckLifts1 =>
    ((g_berth_named N rCheckLifts1).bind fun rnamed =>
    (cond (!rnamed)
    (some 4)
    ((if 0 ≤ (x).toNat ∧ (x).toNat ≤ l.length then
    (if 0 ≤ x then
    ((g_slices_ContainsFunc_api_Lift_api_Lift N ((l.take ((x).toNat)).drop 0) (l.getD ((x).toNat) Tapi_Lift.d)).bind fun rLift =>
    (cond rLift
    (some 5)
    (((g_berth_CheckLifts_2 N (l.getD ((x).toNat) Tapi_Lift.d)).bind fun rCheckLifts2 =>
    (cond (rCheckLifts2 != 0)
    (some rCheckLifts2)
    (g_berth_check_Lift_L1 N l fuel (w64 (x + 1))))))))
    else none)
    else none)))))
    else none))
    (some 0))

/-- keelblock/berth.check keelblock/api.Lift  -/
def g_berth_check_Lift (N : Nat) (l : List Tapi_Lift) (most : Int) : Option (Int) :=
  (cond (decide (((l.length : Nat) : Int) > most))
  (some 8)
  (g_berth_check_Lift_L1 N l N 0))

/-- keelblock/berth.CheckLifts -/
def g_berth_CheckLifts (N : Nat) (l : List Tapi_Lift) : Option (Int) :=
  ((g_berth_check_Lift N l 8).bind fun rLift =>
  some rLift)

/-- keelblock/berth.able -/
def g_berth_able (N : Nat) (c : Tapi_Crane) (l : Tapi_Lift) : Option (Bool) :=
  ((g_berth_outside N l.f_X c.f_From c.f_To).bind fun routside =>
  some (cond (cond (!routside) (decide (l.f_Out ≤ c.f_Reach)) false) (decide (l.f_Mass ≤ c.f_Mass)) false))

/-- keelblock/berth.clash -/
def g_berth_clash (N : Nat) (c : List Tapi_Crane) (a : Tapi_Lift) (b : Tapi_Lift) (i : Int) (k : Int) : Option (Bool) :=
  (cond (cond (decide (a.f_Start ≥ b.f_End)) true (decide (b.f_Start ≥ a.f_End)))
  (some false)
  ((cond (i == k)
  (some true)
  ((if 0 ≤ i ∧ i < ((c.length : Nat) : Int) then
  (if 0 ≤ k ∧ k < ((c.length : Nat) : Int) then
  (cond ((c.getD ((i).toNat) Tapi_Crane.d).f_Rail != (c.getD ((k).toNat) Tapi_Crane.d).f_Rail)
  (some false)
  ((if ((!(decide ((c.getD ((i).toNat) Tapi_Crane.d).f_From < (c.getD ((k).toNat) Tapi_Crane.d).f_From))) = true → 0 ≤ i ∧ i < ((c.length : Nat) : Int)) then
  (if ((!(decide ((c.getD ((i).toNat) Tapi_Crane.d).f_From < (c.getD ((k).toNat) Tapi_Crane.d).f_From))) = true → 0 ≤ k ∧ k < ((c.length : Nat) : Int)) then
  (cond (cond (decide ((c.getD ((i).toNat) Tapi_Crane.d).f_From < (c.getD ((k).toNat) Tapi_Crane.d).f_From)) true (cond ((c.getD ((i).toNat) Tapi_Crane.d).f_From == (c.getD ((k).toNat) Tapi_Crane.d).f_From) (decide (i < k)) false))
  (some (decide (a.f_X ≥ b.f_X)))
  (some (decide (b.f_X ≥ a.f_X))))
  else none)
  else none)))
  else none)
  else none)))))

def g_berth_Hoists_1_J2 (N : Nat) (i : Int) (cap0 : List Tapi_Lift) (cap1 : List Tapi_Crane) (x : Int) (R_ : Int → (List Tapi_Lift) → (List Tapi_Crane) → (List Int) → Option (Bool × (List Int))) (K_g_berth_Hoists_1_L1 : (List Int) → Int → Option (Bool × (List Int))) (cap22 : List Int) : Option (Bool × (List Int)) :=
  K_g_berth_Hoists_1_L1 cap22 (w64 (x + 1))

def g_berth_Hoists_1_L3 (N : Nat) (i : Int) (cap0 : List Tapi_Lift) (cap1 : List Tapi_Crane) (cap2 : List Int) (x : Int) (R_ : Int → (List Tapi_Lift) → (List Tapi_Crane) → (List Int) → Option (Bool × (List Int))) (K_g_berth_Hoists_1_L1 : (List Int) → Int → Option (Bool × (List Int))) : Nat → Int → Option (Bool × (List Int))
  | 0, _ => none
  | fuel + 1, x2 =>
    (cond (decide (x2 < i))
    ((if 0 ≤ i ∧ i < ((cap0.length : Nat) : Int) then
    (if 0 ≤ x2 ∧ x2 < ((cap0.length : Nat) : Int) then
    (if 0 ≤ x2 ∧ x2 < ((cap2.length : Nat) : Int) then
    ((g_berth_clash N cap1 (cap0.getD ((i).toNat) Tapi_Lift.d) (cap0.getD ((x2).toNat) Tapi_Lift.d) x (cap2.getD ((x2).toNat) 0)).bind fun rclash =>
    (cond rclash
    (g_berth_Hoists_1_J2 N i cap0 cap1 x R_ K_g_berth_Hoists_1_L1 cap2)
    (g_berth_Hoists_1_L3 N i cap0 cap1 cap2 x R_ K_g_berth_Hoists_1_L1 fuel (w64 (x2 + 1)))))
    else none)
    else none)
    else none))
    ((if 0 ≤ i ∧ i < ((cap2.length : Nat) : Int) then
    ((R_ (w64 (i + 1)) cap0 cap1 (cap2.set ((i).toNat) x)).bind fun rHoists1 =>
    (if rHoists1.2.length = (cap2.set ((i).toNat) x).length then
    (cond rHoists1.1
    (some (true, rHoists1.2))
    (g_berth_Hoists_1_J2 N i cap0 cap1 x R_ K_g_berth_Hoists_1_L1 rHoists1.2))
    else none))
    else none)))

def g_berth_Hoists_1_L1 (N : Nat) (i : Int) (cap0 : List Tapi_Lift) (cap1 : List Tapi_Crane) (R_ : Int → (List Tapi_Lift) → (List Tapi_Crane) → (List Int) → Option (Bool × (List Int))) : Nat → (List Int) → Int → Option (Bool × (List Int))
  | 0, _, _ => none
  | fuel + 1, cap2, x =>
    (cond (decide (x < ((cap1.length : Nat) : Int)))
    ((if 0 ≤ x ∧ x < ((cap1.length : Nat) : Int) then
    (if 0 ≤ i ∧ i < ((cap0.length : Nat) : Int) then
    ((g_berth_able N (cap1.getD ((x).toNat) Tapi_Crane.d) (cap0.getD ((i).toNat) Tapi_Lift.d)).bind fun rable =>
    (cond (!rable)
    (g_berth_Hoists_1_J2 N i cap0 cap1 x R_ (g_berth_Hoists_1_L1 N i cap0 cap1 R_ fuel) cap2)
    (g_berth_Hoists_1_L3 N i cap0 cap1 cap2 x R_ (g_berth_Hoists_1_L1 N i cap0 cap1 R_ fuel) N 0)))
    else none)
    else none))
    (some (false, cap2)))

/-- keelblock/berth.Hoists 1 -/
def g_berth_Hoists_1 (N : Nat) : Nat → Int → (List Tapi_Lift) → (List Tapi_Crane) → (List Int) → Option (Bool × (List Int))
  | 0, _, _, _, _ => none
  | fuel + 1, i, cap0, cap1, cap3 =>
    (cond (i == ((cap0.length : Nat) : Int))
    (some (true, cap3))
    (g_berth_Hoists_1_L1 N i cap0 cap1 (g_berth_Hoists_1 N fuel) N cap3 0))

def g_berth_Hoists_L1 (N : Nat) (c : List Tapi_Crane) (rHoists1 : Bool × (List Int)) : Nat → (List ByteArray) → Int → Option ((List ByteArray) × Int)
  | 0, _, _ => none
  | fuel + 1, out, x =>
    (cond (decide (x < ((rHoists1.2.length : Nat) : Int)))
    ((if 0 ≤ x ∧ x < ((rHoists1.2.length : Nat) : Int) then
    (if 0 ≤ (rHoists1.2.getD ((x).toNat) 0) ∧ (rHoists1.2.getD ((x).toNat) 0) < ((c.length : Nat) : Int) then
    (if (out.length + 1) * 16 ≤ 140737488355328 then
    g_berth_Hoists_L1 N c rHoists1 fuel (out ++ ([(c.getD ((rHoists1.2.getD ((x).toNat) 0).toNat) Tapi_Crane.d).f_Name] : List ByteArray)) (w64 (x + 1))
    else none)
    else none)
    else none))
    (some (out, 0)))

/-- keelblock/berth.Hoists -/
def g_berth_Hoists (N : Nat) (c : List Tapi_Crane) (l : List Tapi_Lift) : Option ((List ByteArray) × Int) :=
  ((g_berth_CheckCranes N c).bind fun rCheckCranes =>
  (cond (rCheckCranes != 0)
  (some (([] : List ByteArray), rCheckCranes))
  (((g_berth_CheckLifts N l).bind fun rCheckLifts =>
  (cond (rCheckLifts != 0)
  (some (([] : List ByteArray), rCheckLifts))
  ((if 0 ≤ ((l.length : Nat) : Int) ∧ (8 : Int) * ((l.length : Nat) : Int) ≤ 281474976710656 ∧ ((l.length : Nat) : Int) ≤ 9223372036854775807 then
  ((g_berth_Hoists_1 N N 0 l c (List.replicate l.length 0 : List Int)).bind fun rHoists1 =>
  (if rHoists1.2.length = (List.replicate l.length 0 : List Int).length then
  (cond (!rHoists1.1)
  (some (([] : List ByteArray), 29))
  (g_berth_Hoists_L1 N c rHoists1 N ([] : List ByteArray) 0))
  else none))
  else none)))))))

def g_keelblockbase_Texts_L1 (N : Nat) (a : List ByteArray) (b : List ByteArray) : Nat → Int → Option (Bool)
  | 0, _ => none
  | fuel + 1, i =>
    (cond (decide (i < ((a.length : Nat) : Int)))
    ((if 0 ≤ i ∧ i < ((a.length : Nat) : Int) then
    (if 0 ≤ i ∧ i < ((b.length : Nat) : Int) then
    (cond (!(streq (a.getD ((i).toNat) ByteArray.empty) (b.getD ((i).toNat) ByteArray.empty)))
    (some false)
    (g_keelblockbase_Texts_L1 N a b fuel (w64 (i + 1))))
    else none)
    else none))
    (some true))

/-- keelblock/keelblockbase.Texts -/
def g_keelblockbase_Texts (N : Nat) (a : List ByteArray) (b : List ByteArray) : Option (Bool) :=
  (cond (((a.length : Nat) : Int) != ((b.length : Nat) : Int))
  (some false)
  (g_keelblockbase_Texts_L1 N a b N 0))

/-- keelblock/keelblocklaw06.hoists -/
def g_w06_hoists (N : Nat) : Option (Bool) :=
  ((g_berth_Hoists N ([(⟨(⟨#[112]⟩ : ByteArray), 0, 0, 100, 0, 1⟩ : Tapi_Crane), (⟨(⟨#[113]⟩ : ByteArray), 0, 50, 150, 0, 1⟩ : Tapi_Crane)] : List Tapi_Crane) ([(⟨(⟨#[120]⟩ : ByteArray), 60, 0, 0, 0, 5⟩ : Tapi_Lift), (⟨(⟨#[121]⟩ : ByteArray), 70, 0, 0, 0, 5⟩ : Tapi_Lift)] : List Tapi_Lift)).bind fun rHoists =>
  (cond (rHoists.2 == 0)
  (((g_keelblockbase_Texts N rHoists.1 ([(⟨#[112]⟩ : ByteArray), (⟨#[113]⟩ : ByteArray)] : List ByteArray)).bind fun rTexts =>
  some (cond (rHoists.2 == 0) rTexts false)))
  (some (cond (rHoists.2 == 0) false false))))

def g_w06_Quay_short_L3 (N : Nat) (q : Tkeelblocklaw06_Quay) : Nat → Int → Option (Bool)
  | 0, _ => none
  | fuel + 1, i3 =>
    (cond (decide (i3 < ((q.f_By.length : Nat) : Int)))
    ((if 0 ≤ i3 ∧ i3 < ((q.f_By.length : Nat) : Int) then
    (cond (decide ((((q.f_By.getD ((i3).toNat) ByteArray.empty).size : Nat) : Int) > 40))
    (some false)
    (g_w06_Quay_short_L3 N q fuel (w64 (i3 + 1))))
    else none))
    (some true))

def g_w06_Quay_short_L2 (N : Nat) (q : Tkeelblocklaw06_Quay) : Nat → Int → Option (Bool)
  | 0, _ => none
  | fuel + 1, i2 =>
    (cond (decide (i2 < ((q.f_Lifts.length : Nat) : Int)))
    ((if 0 ≤ i2 ∧ i2 < ((q.f_Lifts.length : Nat) : Int) then
    (cond (decide (((((q.f_Lifts.getD ((i2).toNat) Tapi_Lift.d).f_Name).size : Nat) : Int) > 40))
    (some false)
    (g_w06_Quay_short_L2 N q fuel (w64 (i2 + 1))))
    else none))
    (g_w06_Quay_short_L3 N q N 0))

def g_w06_Quay_short_L1 (N : Nat) (q : Tkeelblocklaw06_Quay) : Nat → Int → Option (Bool)
  | 0, _ => none
  | fuel + 1, i =>
    (cond (decide (i < ((q.f_Cranes.length : Nat) : Int)))
    ((if 0 ≤ i ∧ i < ((q.f_Cranes.length : Nat) : Int) then
    (cond (decide (((((q.f_Cranes.getD ((i).toNat) Tapi_Crane.d).f_Name).size : Nat) : Int) > 40))
    (some false)
    (g_w06_Quay_short_L1 N q fuel (w64 (i + 1))))
    else none))
    (g_w06_Quay_short_L2 N q N 0))

/-- (keelblock/keelblocklaw06.Quay).short -/
def g_w06_Quay_short (N : Nat) (q : Tkeelblocklaw06_Quay) : Option (Bool) :=
  (cond (cond (cond (decide (((q.f_Cranes.length : Nat) : Int) > 6)) true (decide (((q.f_Lifts.length : Nat) : Int) > 10))) true (decide (((q.f_By.length : Nat) : Int) > 12)))
  (some false)
  (g_w06_Quay_short_L1 N q N 0))

def g_keelblockbase_IsName_L1 (N : Nat) (s : ByteArray) : Nat → Int → Option (Bool)
  | 0, _ => none
  | fuel + 1, i =>
    (cond (decide (i < ((s.size : Nat) : Int)))
    ((if 0 ≤ i ∧ i < ((s.size : Nat) : Int) then
    (cond (cond (!(cond (cond (decide ((byteAt s ((i).toNat)) ≥ 97)) (decide ((byteAt s ((i).toNat)) ≤ 122)) false) true (cond (decide ((byteAt s ((i).toNat)) ≥ 65)) (decide ((byteAt s ((i).toNat)) ≤ 90)) false))) (cond (i == 0) true (cond ((byteAt s ((i).toNat)) != 45) (cond (decide ((byteAt s ((i).toNat)) < 48)) true (decide ((byteAt s ((i).toNat)) > 57))) false)) false)
    (some false)
    (g_keelblockbase_IsName_L1 N s fuel (w64 (i + 1))))
    else none))
    (some true))

/-- keelblock/keelblockbase.IsName -/
def g_keelblockbase_IsName (N : Nat) (s : ByteArray) : Option (Bool) :=
  (cond (cond (decide (((s.size : Nat) : Int) < 1)) true (decide (((s.size : Nat) : Int) > 12)))
  (some false)
  (g_keelblockbase_IsName_L1 N s N 0))

def g_r06_CraneOf_L1 (N : Nat) (c : List Tapi_Crane) (name : ByteArray) : Nat → Int → Option (Int)
  | 0, _ => none
  | fuel + 1, i =>
    (cond (decide (i < ((c.length : Nat) : Int)))
    ((if 0 ≤ i ∧ i < ((c.length : Nat) : Int) then
    (cond (streq ((c.getD ((i).toNat) Tapi_Crane.d).f_Name) name)
    (some i)
    (g_r06_CraneOf_L1 N c name fuel (w64 (i + 1))))
    else none))
    (some (-1)))

/-- keelblock/keelblockref06.CraneOf -/
def g_r06_CraneOf (N : Nat) (c : List Tapi_Crane) (name : ByteArray) : Option (Int) :=
  g_r06_CraneOf_L1 N c name N 0

/-- keelblock/keelblockref06.inside -/
def g_r06_inside (N : Nat) (n : Int) (low : Int) (high : Int) : Option (Bool) :=
  some (cond (decide (n ≥ low)) (decide (n ≤ high)) false)

def g_r06_CheckCranes_L1 (N : Nat) (c : List Tapi_Crane) : Nat → Int → Option (Int)
  | 0, _ => none
  | fuel + 1, i =>
    (cond (decide (i < ((c.length : Nat) : Int)))
    ((if 0 ≤ i ∧ i < ((c.length : Nat) : Int) then
    ((g_keelblockbase_IsName N ((c.getD ((i).toNat) Tapi_Crane.d).f_Name)).bind fun rIsName =>
    (cond (!rIsName)
    (some 4)
    (((g_r06_CraneOf N c ((c.getD ((i).toNat) Tapi_Crane.d).f_Name)).bind fun rCraneOf =>
    (cond (rCraneOf != i)
    (some 5)
    (((g_r06_inside N ((c.getD ((i).toNat) Tapi_Crane.d).f_Rail) 0 10).bind fun rinside =>
    ((cond (!(!rinside)) (g_r06_inside N ((c.getD ((i).toNat) Tapi_Crane.d).f_From) (-1000000) 1000000) (some false)).bind fun rinside2 =>
    ((cond (!(cond (!rinside) true (!rinside2))) (g_r06_inside N ((c.getD ((i).toNat) Tapi_Crane.d).f_To) ((c.getD ((i).toNat) Tapi_Crane.d).f_From) 1000000) (some false)).bind fun rinside3 =>
    ((cond (!(cond (cond (!rinside) true (!rinside2)) true (!rinside3))) (g_r06_inside N ((c.getD ((i).toNat) Tapi_Crane.d).f_Reach) 0 1000000) (some false)).bind fun rinside4 =>
    ((cond (!(cond (cond (cond (!rinside) true (!rinside2)) true (!rinside3)) true (!rinside4))) (g_r06_inside N ((c.getD ((i).toNat) Tapi_Crane.d).f_Mass) 0 1000000000) (some false)).bind fun rinside5 =>
    (cond (cond (cond (cond (cond (!rinside) true (!rinside2)) true (!rinside3)) true (!rinside4)) true (!rinside5))
    (some 2)
    (g_r06_CheckCranes_L1 N c fuel (w64 (i + 1)))))))))))))))
    else none))
    (some 0))

/-- keelblock/keelblockref06.CheckCranes -/
def g_r06_CheckCranes (N : Nat) (c : List Tapi_Crane) : Option (Int) :=
  (cond (decide (((c.length : Nat) : Int) > 4))
  (some 8)
  (g_r06_CheckCranes_L1 N c N 0))

def g_r06_CheckLifts_L2 (N : Nat) (l : List Tapi_Lift) (i : Int) (K_g_r06_CheckLifts_L1 : Int → Option (Int)) : Nat → Int → Option (Int)
  | 0, _ => none
  | fuel + 1, k =>
    (cond (decide (k < i))
    ((if 0 ≤ k ∧ k < ((l.length : Nat) : Int) then
    (cond (streq ((l.getD ((k).toNat) Tapi_Lift.d).f_Name) ((l.getD ((i).toNat) Tapi_Lift.d).f_Name))
    (some 5)
    (g_r06_CheckLifts_L2 N l i K_g_r06_CheckLifts_L1 fuel (w64 (k + 1))))
    else none))
    (((g_r06_inside N ((l.getD ((i).toNat) Tapi_Lift.d).f_X) (-1000000) 1000000).bind fun rinside =>
    ((cond (!(!rinside)) (g_r06_inside N ((l.getD ((i).toNat) Tapi_Lift.d).f_Out) 0 1000000) (some false)).bind fun rinside2 =>
    ((cond (!(cond (!rinside) true (!rinside2))) (g_r06_inside N ((l.getD ((i).toNat) Tapi_Lift.d).f_Mass) 0 1000000000) (some false)).bind fun rinside3 =>
    ((cond (!(cond (cond (!rinside) true (!rinside2)) true (!rinside3))) (g_r06_inside N ((l.getD ((i).toNat) Tapi_Lift.d).f_Start) 0 1000000) (some false)).bind fun rinside4 =>
    ((cond (!(cond (cond (cond (!rinside) true (!rinside2)) true (!rinside3)) true (!rinside4))) (g_r06_inside N ((l.getD ((i).toNat) Tapi_Lift.d).f_End) 0 1000000) (some false)).bind fun rinside5 =>
    (cond (cond (cond (cond (cond (!rinside) true (!rinside2)) true (!rinside3)) true (!rinside4)) true (!rinside5))
    (some 2)
    ((cond (decide ((l.getD ((i).toNat) Tapi_Lift.d).f_End ≤ (l.getD ((i).toNat) Tapi_Lift.d).f_Start))
    (some 10)
    (K_g_r06_CheckLifts_L1 (w64 (i + 1)))))))))))))

def g_r06_CheckLifts_L1 (N : Nat) (l : List Tapi_Lift) : Nat → Int → Option (Int)
  | 0, _ => none
  | fuel + 1, i =>
    (cond (decide (i < ((l.length : Nat) : Int)))
    ((if 0 ≤ i ∧ i < ((l.length : Nat) : Int) then
    ((g_keelblockbase_IsName N ((l.getD ((i).toNat) Tapi_Lift.d).f_Name)).bind fun rIsName =>
    (cond (!rIsName)
    (some 4)
    (g_r06_CheckLifts_L2 N l i (g_r06_CheckLifts_L1 N l fuel) N 0)))
    else none))
    (some 0))

/-- keelblock/keelblockref06.CheckLifts -/
def g_r06_CheckLifts (N : Nat) (l : List Tapi_Lift) : Option (Int) :=
  (cond (decide (((l.length : Nat) : Int) > 8))
  (some 8)
  (g_r06_CheckLifts_L1 N l N 0))

/-- keelblock/keelblockref06.Able -/
def g_r06_Able (N : Nat) (c : Tapi_Crane) (l : Tapi_Lift) : Option (Bool) :=
  some (cond (cond (cond (decide (l.f_X ≥ c.f_From)) (decide (l.f_X ≤ c.f_To)) false) (decide (l.f_Out ≤ c.f_Reach)) false) (decide (l.f_Mass ≤ c.f_Mass)) false)

/-- keelblock/keelblockref06.Ahead -/
def g_r06_Ahead (N : Nat) (c : List Tapi_Crane) (i : Int) (k : Int) : Option (Bool) :=
  (if 0 ≤ i ∧ i < ((c.length : Nat) : Int) then
  (if 0 ≤ k ∧ k < ((c.length : Nat) : Int) then
  (if (((c.getD ((i).toNat) Tapi_Crane.d).f_Rail == (c.getD ((k).toNat) Tapi_Crane.d).f_Rail) = true → 0 ≤ i ∧ i < ((c.length : Nat) : Int)) then
  (if (((c.getD ((i).toNat) Tapi_Crane.d).f_Rail == (c.getD ((k).toNat) Tapi_Crane.d).f_Rail) = true → 0 ≤ k ∧ k < ((c.length : Nat) : Int)) then
  (if ((((c.getD ((i).toNat) Tapi_Crane.d).f_Rail == (c.getD ((k).toNat) Tapi_Crane.d).f_Rail) && (((c.getD ((i).toNat) Tapi_Crane.d).f_Rail == (c.getD ((k).toNat) Tapi_Crane.d).f_Rail) && (!(decide ((c.getD ((i).toNat) Tapi_Crane.d).f_From < (c.getD ((k).toNat) Tapi_Crane.d).f_From))))) = true → 0 ≤ i ∧ i < ((c.length : Nat) : Int)) then
  (if ((((c.getD ((i).toNat) Tapi_Crane.d).f_Rail == (c.getD ((k).toNat) Tapi_Crane.d).f_Rail) && (((c.getD ((i).toNat) Tapi_Crane.d).f_Rail == (c.getD ((k).toNat) Tapi_Crane.d).f_Rail) && (!(decide ((c.getD ((i).toNat) Tapi_Crane.d).f_From < (c.getD ((k).toNat) Tapi_Crane.d).f_From))))) = true → 0 ≤ k ∧ k < ((c.length : Nat) : Int)) then
  some (cond ((c.getD ((i).toNat) Tapi_Crane.d).f_Rail == (c.getD ((k).toNat) Tapi_Crane.d).f_Rail) (cond (decide ((c.getD ((i).toNat) Tapi_Crane.d).f_From < (c.getD ((k).toNat) Tapi_Crane.d).f_From)) true (cond ((c.getD ((i).toNat) Tapi_Crane.d).f_From == (c.getD ((k).toNat) Tapi_Crane.d).f_From) (decide (i < k)) false)) false)
  else none)
  else none)
  else none)
  else none)
  else none)
  else none)

/-- keelblock/keelblockref06.clash -/
def g_r06_clash (N : Nat) (c : List Tapi_Crane) (a : Tapi_Lift) (b : Tapi_Lift) (i : Int) (k : Int) : Option (Bool) :=
  (cond (cond (decide (a.f_Start ≥ b.f_End)) true (decide (b.f_Start ≥ a.f_End)))
  (some false)
  (((cond (!(i == k)) (g_r06_Ahead N c i k) (some false)).bind fun rAhead =>
  ((cond (!(cond (i == k) true (cond rAhead (decide (a.f_X ≥ b.f_X)) false))) (g_r06_Ahead N c k i) (some false)).bind fun rAhead2 =>
  some (cond (cond (i == k) true (cond rAhead (decide (a.f_X ≥ b.f_X)) false)) true (cond rAhead2 (decide (b.f_X ≥ a.f_X)) false))))))

def g_r06_hoisted_J3 (N : Nat) (c : List Tapi_Crane) (l : List Tapi_Lift) (vby : List Int) (k : Int) (R_ : (List Tapi_Crane) → (List Tapi_Lift) → (List Int) → Option ((List Int) × Bool)) (K_g_r06_hoisted_L1 : Int → Option ((List Int) × Bool)) : Option ((List Int) × Bool) :=
  K_g_r06_hoisted_L1 (w64 (k + 1))

def g_r06_hoisted_L2 (N : Nat) (c : List Tapi_Crane) (l : List Tapi_Lift) (vby : List Int) (k : Int) (R_ : (List Tapi_Crane) → (List Tapi_Lift) → (List Int) → Option ((List Int) × Bool)) (K_g_r06_hoisted_L1 : Int → Option ((List Int) × Bool)) : Nat → Bool → Int → Option ((List Int) × Bool)
  | 0, _, _ => none
  | fuel + 1, good, j =>
    (cond (cond (decide (j < ((vby.length : Nat) : Int))) good false)
    ((if 0 ≤ ((vby.length : Nat) : Int) ∧ ((vby.length : Nat) : Int) < ((l.length : Nat) : Int) then
    (if 0 ≤ j ∧ j < ((l.length : Nat) : Int) then
    (if 0 ≤ j ∧ j < ((vby.length : Nat) : Int) then
    ((g_r06_clash N c (l.getD vby.length Tapi_Lift.d) (l.getD ((j).toNat) Tapi_Lift.d) k (vby.getD ((j).toNat) 0)).bind fun rclash =>
    g_r06_hoisted_L2 N c l vby k R_ K_g_r06_hoisted_L1 fuel (!rclash) (w64 (j + 1)))
    else none)
    else none)
    else none))
    ((cond (!good)
    (g_r06_hoisted_J3 N c l vby k R_ K_g_r06_hoisted_L1)
    ((if (0 + vby.length) * 8 ≤ 140737488355328 then
    (if ((0 + vby.length) + 1) * 8 ≤ 140737488355328 then
    ((R_ c l ((([] : List Int) ++ vby) ++ ([k] : List Int))).bind fun rhoisted =>
    (cond rhoisted.2
    (some (rhoisted.1, true))
    (g_r06_hoisted_J3 N c l vby k R_ K_g_r06_hoisted_L1)))
    else none)
    else none)))))

def g_r06_hoisted_L1 (N : Nat) (c : List Tapi_Crane) (l : List Tapi_Lift) (vby : List Int) (R_ : (List Tapi_Crane) → (List Tapi_Lift) → (List Int) → Option ((List Int) × Bool)) : Nat → Int → Option ((List Int) × Bool)
  | 0, _ => none
  | fuel + 1, k =>
    (cond (decide (k < ((c.length : Nat) : Int)))
    ((if 0 ≤ k ∧ k < ((c.length : Nat) : Int) then
    (if 0 ≤ ((vby.length : Nat) : Int) ∧ ((vby.length : Nat) : Int) < ((l.length : Nat) : Int) then
    ((g_r06_Able N (c.getD ((k).toNat) Tapi_Crane.d) (l.getD vby.length Tapi_Lift.d)).bind fun rAble =>
    g_r06_hoisted_L2 N c l vby k R_ (g_r06_hoisted_L1 N c l vby R_ fuel) N rAble 0)
    else none)
    else none))
    (some (([] : List Int), false)))

/-- keelblock/keelblockref06.hoisted -/
def g_r06_hoisted (N : Nat) : Nat → (List Tapi_Crane) → (List Tapi_Lift) → (List Int) → Option ((List Int) × Bool)
  | 0, _, _, _ => none
  | fuel + 1, c, l, vby =>
    (cond (((vby.length : Nat) : Int) == ((l.length : Nat) : Int))
    (some (vby, true))
    (g_r06_hoisted_L1 N c l vby (g_r06_hoisted N fuel) N 0))

def g_r06_Hoists_L1 (N : Nat) (c : List Tapi_Crane) (rhoisted : (List Int) × Bool) : Nat → (List ByteArray) → Int → Option ((List ByteArray) × Int)
  | 0, _, _ => none
  | fuel + 1, out, i =>
    (cond (decide (i < ((rhoisted.1.length : Nat) : Int)))
    ((if 0 ≤ i ∧ i < ((rhoisted.1.length : Nat) : Int) then
    (if 0 ≤ (rhoisted.1.getD ((i).toNat) 0) ∧ (rhoisted.1.getD ((i).toNat) 0) < ((c.length : Nat) : Int) then
    (if (out.length + 1) * 16 ≤ 140737488355328 then
    g_r06_Hoists_L1 N c rhoisted fuel (out ++ ([(c.getD ((rhoisted.1.getD ((i).toNat) 0).toNat) Tapi_Crane.d).f_Name] : List ByteArray)) (w64 (i + 1))
    else none)
    else none)
    else none))
    (some (out, 0)))

/-- keelblock/keelblockref06.Hoists -/
def g_r06_Hoists (N : Nat) (c : List Tapi_Crane) (l : List Tapi_Lift) : Option ((List ByteArray) × Int) :=
  ((g_r06_CheckCranes N c).bind fun rCheckCranes =>
  (cond (rCheckCranes != 0)
  (some (([] : List ByteArray), rCheckCranes))
  (((g_r06_CheckLifts N l).bind fun rCheckLifts =>
  (cond (rCheckLifts != 0)
  (some (([] : List ByteArray), rCheckLifts))
  (((g_r06_hoisted N N c l ([] : List Int)).bind fun rhoisted =>
  (cond (!rhoisted.2)
  (some (([] : List ByteArray), 29))
  (g_r06_Hoists_L1 N c rhoisted N ([] : List ByteArray) 0)))))))))

/-- keelblock/berth.CheckHoists 1 -/
def g_berth_CheckHoists_1 (N : Nat) (x : Tapi_Crane) (cap0 : ByteArray) : Option (Bool) :=
  some (streq x.f_Name cap0)

def g_slices_IndexFunc_api_Crane_api_Crane_v2_L1 (N : Nat) (s : List Tapi_Crane) (cap0 : ByteArray) : Nat → Int → Option (Int)
  | 0, _ => none
  | fuel + 1, x =>
    (cond (decide (x < ((s.length : Nat) : Int)))
    ((if 0 ≤ x ∧ x < ((s.length : Nat) : Int) then
    ((g_berth_CheckHoists_1 N (s.getD ((x).toNat) Tapi_Crane.d) cap0).bind fun rCheckHoists =>
    (cond rCheckHoists
    (some x)
    (g_slices_IndexFunc_api_Crane_api_Crane_v2_L1 N s cap0 fuel (w64 (x + 1)))))
    else none))
    (some (-1)))

/-- slices.IndexFunc   keelblock/api.Crane,keelblock/api.Crane  -/
def g_slices_IndexFunc_api_Crane_api_Crane_v2 (N : Nat) (s : List Tapi_Crane) (cap0 : ByteArray) : Option (Int) :=
  g_slices_IndexFunc_api_Crane_api_Crane_v2_L1 N s cap0 N 0

def g_berth_CheckHoists_L3 (N : Nat) (c : List Tapi_Crane) (l : List Tapi_Lift) (places : List Int) (x2 : Int) (K_g_berth_CheckHoists_L2 : Int → Option (Int)) : Nat → Int → Option (Int)
  | 0, _ => none
  | fuel + 1, x3 =>
    (cond (decide (x3 < x2))
    ((if 0 ≤ x2 ∧ x2 < ((l.length : Nat) : Int) then
    (if 0 ≤ x3 ∧ x3 < ((l.length : Nat) : Int) then
    (if 0 ≤ x2 ∧ x2 < ((places.length : Nat) : Int) then
    (if 0 ≤ x3 ∧ x3 < ((places.length : Nat) : Int) then
    ((g_berth_clash N c (l.getD ((x2).toNat) Tapi_Lift.d) (l.getD ((x3).toNat) Tapi_Lift.d) (places.getD ((x2).toNat) 0) (places.getD ((x3).toNat) 0)).bind fun rclash =>
    (cond rclash
    (some 17)
    (g_berth_CheckHoists_L3 N c l places x2 K_g_berth_CheckHoists_L2 fuel (w64 (x3 + 1)))))
    else none)
    else none)
    else none)
    else none))
    (K_g_berth_CheckHoists_L2 (w64 (x2 + 1))))

def g_berth_CheckHoists_L2 (N : Nat) (c : List Tapi_Crane) (l : List Tapi_Lift) (places : List Int) : Nat → Int → Option (Int)
  | 0, _ => none
  | fuel + 1, x2 =>
    (cond (decide (x2 < ((l.length : Nat) : Int)))
    (g_berth_CheckHoists_L3 N c l places x2 (g_berth_CheckHoists_L2 N c l places fuel) N 0)
    (some 0))

def g_berth_CheckHoists_L1 (N : Nat) (c : List Tapi_Crane) (l : List Tapi_Lift) (vby : List ByteArray) : Nat → (List Int) → Int → Option (Int)
  | 0, _, _ => none
  | fuel + 1, places, x =>
    (cond (decide (x < ((vby.length : Nat) : Int)))
    ((if 0 ≤ x ∧ x < ((vby.length : Nat) : Int) then
    ((g_slices_IndexFunc_api_Crane_api_Crane_v2 N c (vby.getD ((x).toNat) ByteArray.empty)).bind fun rCrane =>
    (cond (decide (rCrane < 0))
    (some 6)
    ((if 0 ≤ rCrane ∧ rCrane < ((c.length : Nat) : Int) then
    (if 0 ≤ x ∧ x < ((l.length : Nat) : Int) then
    ((g_berth_able N (c.getD ((rCrane).toNat) Tapi_Crane.d) (l.getD ((x).toNat) Tapi_Lift.d)).bind fun rable =>
    (cond (!rable)
    (some 16)
    ((if (places.length + 1) * 8 ≤ 140737488355328 then
    g_berth_CheckHoists_L1 N c l vby fuel (places ++ ([rCrane] : List Int)) (w64 (x + 1))
    else none))))
    else none)
    else none))))
    else none))
    (g_berth_CheckHoists_L2 N c l places N 0))

/-- keelblock/berth.CheckHoists -/
def g_berth_CheckHoists (N : Nat) (c : List Tapi_Crane) (l : List Tapi_Lift) (vby : List ByteArray) : Option (Int) :=
  ((g_berth_CheckCranes N c).bind fun rCheckCranes =>
  (cond (rCheckCranes != 0)
  (some rCheckCranes)
  (((g_berth_CheckLifts N l).bind fun rCheckLifts =>
  (cond (rCheckLifts != 0)
  (some rCheckLifts)
  ((cond (((vby.length : Nat) : Int) != ((l.length : Nat) : Int))
  (some 11)
  (g_berth_CheckHoists_L1 N c l vby N ([] : List Int) 0))))))))

def g_r06_CheckHoists_L3 (N : Nat) (c : List Tapi_Crane) (l : List Tapi_Lift) (vby : List ByteArray) (i2 : Int) (K_g_r06_CheckHoists_L2 : Int → Option (Int)) : Nat → Int → Option (Int)
  | 0, _ => none
  | fuel + 1, j =>
    (cond (decide (j < i2))
    ((if 0 ≤ i2 ∧ i2 < ((l.length : Nat) : Int) then
    (if 0 ≤ j ∧ j < ((l.length : Nat) : Int) then
    (if 0 ≤ i2 ∧ i2 < ((vby.length : Nat) : Int) then
    ((g_r06_CraneOf N c (vby.getD ((i2).toNat) ByteArray.empty)).bind fun rCraneOf2 =>
    (if 0 ≤ j ∧ j < ((vby.length : Nat) : Int) then
    ((g_r06_CraneOf N c (vby.getD ((j).toNat) ByteArray.empty)).bind fun rCraneOf3 =>
    ((g_r06_clash N c (l.getD ((i2).toNat) Tapi_Lift.d) (l.getD ((j).toNat) Tapi_Lift.d) rCraneOf2 rCraneOf3).bind fun rclash =>
    (cond rclash
    (some 17)
    (g_r06_CheckHoists_L3 N c l vby i2 K_g_r06_CheckHoists_L2 fuel (w64 (j + 1))))))
    else none))
    else none)
    else none)
    else none))
    (K_g_r06_CheckHoists_L2 (w64 (i2 + 1))))

def g_r06_CheckHoists_L2 (N : Nat) (c : List Tapi_Crane) (l : List Tapi_Lift) (vby : List ByteArray) : Nat → Int → Option (Int)
  | 0, _ => none
  | fuel + 1, i2 =>
    (cond (decide (i2 < ((l.length : Nat) : Int)))
    (g_r06_CheckHoists_L3 N c l vby i2 (g_r06_CheckHoists_L2 N c l vby fuel) N 0)
    (some 0))

def g_r06_CheckHoists_L1 (N : Nat) (c : List Tapi_Crane) (l : List Tapi_Lift) (vby : List ByteArray) : Nat → Int → Option (Int)
  | 0, _ => none
  | fuel + 1, i =>
    (cond (decide (i < ((l.length : Nat) : Int)))
    ((if 0 ≤ i ∧ i < ((vby.length : Nat) : Int) then
    ((g_r06_CraneOf N c (vby.getD ((i).toNat) ByteArray.empty)).bind fun rCraneOf =>
    (cond (decide (rCraneOf < 0))
    (some 6)
    ((if 0 ≤ rCraneOf ∧ rCraneOf < ((c.length : Nat) : Int) then
    (if 0 ≤ i ∧ i < ((l.length : Nat) : Int) then
    ((g_r06_Able N (c.getD ((rCraneOf).toNat) Tapi_Crane.d) (l.getD ((i).toNat) Tapi_Lift.d)).bind fun rAble =>
    (cond (!rAble)
    (some 16)
    (g_r06_CheckHoists_L1 N c l vby fuel (w64 (i + 1)))))
    else none)
    else none))))
    else none))
    (g_r06_CheckHoists_L2 N c l vby N 0))

/-- keelblock/keelblockref06.CheckHoists -/
def g_r06_CheckHoists (N : Nat) (c : List Tapi_Crane) (l : List Tapi_Lift) (vby : List ByteArray) : Option (Int) :=
  ((g_r06_CheckCranes N c).bind fun rCheckCranes =>
  (cond (rCheckCranes != 0)
  (some rCheckCranes)
  (((g_r06_CheckLifts N l).bind fun rCheckLifts =>
  (cond (rCheckLifts != 0)
  (some rCheckLifts)
  ((cond (((vby.length : Nat) : Int) != ((l.length : Nat) : Int))
  (some 11)
  (g_r06_CheckHoists_L1 N c l vby N 0))))))))

/-- keelblock/keelblocklaw06.BerthHoists -/
def g_w06_BerthHoists (N : Nat) (q : Tkeelblocklaw06_Quay) : Option (Bool) :=
  ((g_w06_hoists N).bind fun rhoists =>
  (cond (!rhoists)
  (some false)
  (((g_w06_Quay_short N q).bind fun rshort =>
  (cond (!rshort)
  (some true)
  (((g_berth_Hoists N q.f_Cranes q.f_Lifts).bind fun rHoists =>
  ((g_r06_Hoists N q.f_Cranes q.f_Lifts).bind fun rHoists2 =>
  ((g_berth_CheckCranes N q.f_Cranes).bind fun rCheckCranes =>
  ((g_r06_CheckCranes N q.f_Cranes).bind fun rCheckCranes2 =>
  ((cond (!(rCheckCranes != rCheckCranes2)) (g_berth_CheckLifts N q.f_Lifts) (some 0)).bind fun rCheckLifts =>
  ((cond (!(rCheckCranes != rCheckCranes2)) (g_r06_CheckLifts N q.f_Lifts) (some 0)).bind fun rCheckLifts2 =>
  (cond (cond (rCheckCranes != rCheckCranes2) true (rCheckLifts != rCheckLifts2))
  (some false)
  (((g_berth_CheckHoists N q.f_Cranes q.f_Lifts q.f_By).bind fun rCheckHoists =>
  ((g_r06_CheckHoists N q.f_Cranes q.f_Lifts q.f_By).bind fun rCheckHoists2 =>
  ((cond (rCheckHoists == rCheckHoists2) (g_keelblockbase_Texts N rHoists.1 rHoists2.1) (some false)).bind fun rTexts =>
  some (cond (cond (rCheckHoists == rCheckHoists2) rTexts false) (rHoists.2 == rHoists2.2) false))))))))))))))))))

def g_w06_BerthCrossing_J3 (N : Nat) (q : Tkeelblocklaw06_Quay) (minute : Int) (rHoists : (List ByteArray) × Int) (i : Int) (k : Int) (K_g_w06_BerthCrossing_L2 : Int → Option (Bool)) (K_g_w06_BerthCrossing_L1 : Int → Option (Bool)) : Option (Bool) :=
  K_g_w06_BerthCrossing_L2 (w64 (k + 1))

def g_w06_BerthCrossing_L2 (N : Nat) (q : Tkeelblocklaw06_Quay) (minute : Int) (rHoists : (List ByteArray) × Int) (i : Int) (K_g_w06_BerthCrossing_L1 : Int → Option (Bool)) : Nat → Int → Option (Bool)
  | 0, _ => none
  | fuel + 1, k =>
    (cond (decide (k < ((q.f_Lifts.length : Nat) : Int)))
    ((if 0 ≤ i ∧ i < ((q.f_Lifts.length : Nat) : Int) then
    (if 0 ≤ k ∧ k < ((q.f_Lifts.length : Nat) : Int) then
    (cond (cond (cond (cond (cond (i == k) true (decide (minute < (q.f_Lifts.getD ((i).toNat) Tapi_Lift.d).f_Start))) true (decide (minute ≥ (q.f_Lifts.getD ((i).toNat) Tapi_Lift.d).f_End))) true (decide (minute < (q.f_Lifts.getD ((k).toNat) Tapi_Lift.d).f_Start))) true (decide (minute ≥ (q.f_Lifts.getD ((k).toNat) Tapi_Lift.d).f_End)))
    (g_w06_BerthCrossing_J3 N q minute rHoists i k (g_w06_BerthCrossing_L2 N q minute rHoists i K_g_w06_BerthCrossing_L1 fuel) K_g_w06_BerthCrossing_L1)
    ((if 0 ≤ i ∧ i < ((q.f_By.length : Nat) : Int) then
    ((g_r06_CraneOf N q.f_Cranes (q.f_By.getD ((i).toNat) ByteArray.empty)).bind fun rCraneOf =>
    (if 0 ≤ k ∧ k < ((q.f_By.length : Nat) : Int) then
    ((g_r06_CraneOf N q.f_Cranes (q.f_By.getD ((k).toNat) ByteArray.empty)).bind fun rCraneOf2 =>
    ((cond (!(cond (cond (decide (rCraneOf < 0)) true (decide (rCraneOf2 < 0))) true (rCraneOf == rCraneOf2))) (g_r06_Ahead N q.f_Cranes rCraneOf rCraneOf2) (some false)).bind fun rAhead =>
    (cond (cond (cond (cond (decide (rCraneOf < 0)) true (decide (rCraneOf2 < 0))) true (rCraneOf == rCraneOf2)) true (cond rAhead (decide ((q.f_Lifts.getD ((i).toNat) Tapi_Lift.d).f_X ≥ (q.f_Lifts.getD ((k).toNat) Tapi_Lift.d).f_X)) false))
    (some false)
    (g_w06_BerthCrossing_J3 N q minute rHoists i k (g_w06_BerthCrossing_L2 N q minute rHoists i K_g_w06_BerthCrossing_L1 fuel) K_g_w06_BerthCrossing_L1))))
    else none))
    else none)))
    else none)
    else none))
    (K_g_w06_BerthCrossing_L1 (w64 (i + 1))))

def g_w06_BerthCrossing_L1 (N : Nat) (q : Tkeelblocklaw06_Quay) (minute : Int) (rHoists : (List ByteArray) × Int) : Nat → Int → Option (Bool)
  | 0, _ => none
  | fuel + 1, i =>
    (cond (decide (i < ((q.f_Lifts.length : Nat) : Int)))
    (g_w06_BerthCrossing_L2 N q minute rHoists i (g_w06_BerthCrossing_L1 N q minute rHoists fuel) N 0)
    (some (rHoists.2 == 0)))

/-- keelblock/keelblocklaw06.BerthCrossing -/
def g_w06_BerthCrossing (N : Nat) (q : Tkeelblocklaw06_Quay) (minute : Int) : Option (Bool) :=
  ((g_w06_hoists N).bind fun rhoists =>
  (cond (!rhoists)
  (some false)
  (((g_w06_Quay_short N q).bind fun rshort =>
  ((cond (!(!rshort)) (g_berth_CheckHoists N q.f_Cranes q.f_Lifts q.f_By) (some 0)).bind fun rCheckHoists =>
  (cond (cond (cond (!rshort) true (rCheckHoists != 0)) true (((q.f_By.length : Nat) : Int) != ((q.f_Lifts.length : Nat) : Int)))
  (some true)
  (((g_berth_Hoists N q.f_Cranes q.f_Lifts).bind fun rHoists =>
  g_w06_BerthCrossing_L1 N q minute rHoists N 0))))))))

/-- keelblock/berth.CheckDocks 1 -/
def g_berth_CheckDocks_1 (N : Nat) (x : Tapi_Dock) : Option (ByteArray) :=
  some x.f_Name

/-- keelblock/berth.check keelblock/api.Dock  1 -/
def g_berth_check_Dock_1 (N : Nat) (y : Tapi_Dock) (cap1 : Tapi_Dock) : Option (Bool) :=
  ((g_berth_CheckDocks_1 N y).bind fun rCheckDocks1 =>
  ((g_berth_CheckDocks_1 N cap1).bind fun rCheckDocks12 =>
  some (streq rCheckDocks1 rCheckDocks12)))

def g_slices_IndexFunc_api_Dock_api_Dock_L1 (N : Nat) (s : List Tapi_Dock) (cap1 : Tapi_Dock) : Nat → Int → Option (Int)
  | 0, _ => none
  | fuel + 1, x =>
    (cond (decide (x < ((s.length : Nat) : Int)))
    ((if 0 ≤ x ∧ x < ((s.length : Nat) : Int) then
    ((g_berth_check_Dock_1 N (s.getD ((x).toNat) Tapi_Dock.d) cap1).bind fun rDock1 =>
    (cond rDock1
    (some x)
    (g_slices_IndexFunc_api_Dock_api_Dock_L1 N s cap1 fuel (w64 (x + 1)))))
    else none))
    (some (-1)))

/-- slices.IndexFunc   keelblock/api.Dock,keelblock/api.Dock  -/
def g_slices_IndexFunc_api_Dock_api_Dock (N : Nat) (s : List Tapi_Dock) (cap1 : Tapi_Dock) : Option (Int) :=
  g_slices_IndexFunc_api_Dock_api_Dock_L1 N s cap1 N 0

/-- slices.ContainsFunc   keelblock/api.Dock,keelblock/api.Dock  -/
def g_slices_ContainsFunc_api_Dock_api_Dock (N : Nat) (s : List Tapi_Dock) (cap1 : Tapi_Dock) : Option (Bool) :=
  ((g_slices_IndexFunc_api_Dock_api_Dock N s cap1).bind fun rDock =>
  some (decide (rDock ≥ 0)))

/-- keelblock/berth.CheckDocks 2 -/
def g_berth_CheckDocks_2 (N : Nat) (x : Tapi_Dock) : Option (Int) :=
  ((g_berth_outside N x.f_Length 1 1000000).bind fun routside =>
  ((cond (!routside) (g_berth_outside N x.f_Width 1 1000000) (some false)).bind fun routside2 =>
  ((cond (!(cond routside true routside2)) (g_berth_outside N x.f_Sill (-1000000) 1000000) (some false)).bind fun routside3 =>
  ((cond (!(cond (cond routside true routside2) true routside3)) (g_berth_outside N x.f_Floor (-1000000) 1000000) (some false)).bind fun routside4 =>
  ((cond (!(cond (cond (cond routside true routside2) true routside3) true routside4)) (g_berth_outside N x.f_Gap 0 1000000) (some false)).bind fun routside5 =>
  ((g_berth_ranged N (cond (cond (cond (cond routside true routside2) true routside3) true routside4) true routside5)).bind fun rranged =>
  some rranged))))))

def g_berth_check_Dock_L1 (N : Nat) (l : List Tapi_Dock) : Nat → Int → Option (Int)
  | 0, _ => none
  | fuel + 1, x =>
    (cond (decide (x < ((l.length : Nat) : Int)))
    ((if 0 ≤ x ∧ x < ((l.length : Nat) : Int) then
    ((g_berth_CheckDocks_1 N (l.getD ((x).toNat) Tapi_Dock.d)).bind fun rCheckDocks1 =>
    ((g_berth_named N rCheckDocks1).bind fun rnamed =>
    (cond (!rnamed)
    (some 4)
    ((if 0 ≤ (x).toNat ∧ (x).toNat ≤ l.length then
    (if 0 ≤ x then
    ((g_slices_ContainsFunc_api_Dock_api_Dock N ((l.take ((x).toNat)).drop 0) (l.getD ((x).toNat) Tapi_Dock.d)).bind fun rDock =>
    (cond rDock
    (some 5)
    (((g_berth_CheckDocks_2 N (l.getD ((x).toNat) Tapi_Dock.d)).bind fun rCheckDocks2 =>
    (cond (rCheckDocks2 != 0)
    (some rCheckDocks2)
    (g_berth_check_Dock_L1 N l fuel (w64 (x + 1))))))))
    else none)
    else none)))))
    else none))
    (some 0))

/-- keelblock/berth.check keelblock/api.Dock  -/
def g_berth_check_Dock (N : Nat) (l : List Tapi_Dock) (most : Int) : Option (Int) :=
  (cond (decide (((l.length : Nat) : Int) > most))
  (some 8)
  (g_berth_check_Dock_L1 N l N 0))

/-- keelblock/berth.CheckDocks -/
def g_berth_CheckDocks (N : Nat) (d : List Tapi_Dock) : Option (Int) :=
  ((g_berth_check_Dock N d 4).bind fun rDock =>
  some rDock)

/-- keelblock/berth.CheckCalls 1 -/
def g_berth_CheckCalls_1 (N : Nat) (x : Tapi_Call) : Option (ByteArray) :=
  some x.f_Name

/-- keelblock/berth.check keelblock/api.Call  1 -/
def g_berth_check_Call_1 (N : Nat) (y : Tapi_Call) (cap1 : Tapi_Call) : Option (Bool) :=
  ((g_berth_CheckCalls_1 N y).bind fun rCheckCalls1 =>
  ((g_berth_CheckCalls_1 N cap1).bind fun rCheckCalls12 =>
  some (streq rCheckCalls1 rCheckCalls12)))

def g_slices_IndexFunc_api_Call_api_Call_L1 (N : Nat) (s : List Tapi_Call) (cap1 : Tapi_Call) : Nat → Int → Option (Int)
  | 0, _ => none
  | fuel + 1, x =>
    (cond (decide (x < ((s.length : Nat) : Int)))
    ((if 0 ≤ x ∧ x < ((s.length : Nat) : Int) then
    ((g_berth_check_Call_1 N (s.getD ((x).toNat) Tapi_Call.d) cap1).bind fun rCall1 =>
    (cond rCall1
    (some x)
    (g_slices_IndexFunc_api_Call_api_Call_L1 N s cap1 fuel (w64 (x + 1)))))
    else none))
    (some (-1)))

/-- slices.IndexFunc   keelblock/api.Call,keelblock/api.Call  -/
def g_slices_IndexFunc_api_Call_api_Call (N : Nat) (s : List Tapi_Call) (cap1 : Tapi_Call) : Option (Int) :=
  g_slices_IndexFunc_api_Call_api_Call_L1 N s cap1 N 0

/-- slices.ContainsFunc   keelblock/api.Call,keelblock/api.Call  -/
def g_slices_ContainsFunc_api_Call_api_Call (N : Nat) (s : List Tapi_Call) (cap1 : Tapi_Call) : Option (Bool) :=
  ((g_slices_IndexFunc_api_Call_api_Call N s cap1).bind fun rCall =>
  some (decide (rCall ≥ 0)))

/-- keelblock/berth.CheckCalls 2 -/
def g_berth_CheckCalls_2 (N : Nat) (x : Tapi_Call) : Option (Int) :=
  ((g_berth_outside N x.f_Length 1 1000000).bind fun routside =>
  ((cond (!routside) (g_berth_outside N x.f_Beam 1 1000000) (some false)).bind fun routside2 =>
  ((cond (!(cond routside true routside2)) (g_berth_outside N x.f_Draught 0 1000000) (some false)).bind fun routside3 =>
  ((cond (!(cond (cond routside true routside2) true routside3)) (g_berth_outside N x.f_Under 0 1000000) (some false)).bind fun routside4 =>
  (cond (cond (cond (cond routside true routside2) true routside3) true routside4)
  (some 2)
  (((g_berth_outside N x.f_Arrive 0 400).bind fun routside5 =>
  ((cond (!routside5) (g_berth_outside N x.f_Due 0 400) (some false)).bind fun routside6 =>
  ((cond (!(cond routside5 true routside6)) (g_berth_outside N x.f_Work 1 1000) (some false)).bind fun routside7 =>
  ((cond (!(cond (cond routside5 true routside6) true routside7)) (g_berth_outside N x.f_Late 0 1000000000) (some false)).bind fun routside8 =>
  ((g_berth_ranged N (cond (cond (cond routside5 true routside6) true routside7) true routside8)).bind fun rranged =>
  some rranged)))))))))))

def g_berth_check_Call_L1 (N : Nat) (l : List Tapi_Call) : Nat → Int → Option (Int)
  | 0, _ => none
  | fuel + 1, x =>
    (cond (decide (x < ((l.length : Nat) : Int)))
    ((if 0 ≤ x ∧ x < ((l.length : Nat) : Int) then
    ((g_berth_CheckCalls_1 N (l.getD ((x).toNat) Tapi_Call.d)).bind fun rCheckCalls1 =>
    ((g_berth_named N rCheckCalls1).bind fun rnamed =>
    (cond (!rnamed)
    (some 4)
    ((if 0 ≤ (x).toNat ∧ (x).toNat ≤ l.length then
    (if 0 ≤ x then
    ((g_slices_ContainsFunc_api_Call_api_Call N ((l.take ((x).toNat)).drop 0) (l.getD ((x).toNat) Tapi_Call.d)).bind fun rCall =>
    (cond rCall
    (some 5)
    (((g_berth_CheckCalls_2 N (l.getD ((x).toNat) Tapi_Call.d)).bind fun rCheckCalls2 =>
    (cond (rCheckCalls2 != 0)
    (some rCheckCalls2)
    (g_berth_check_Call_L1 N l fuel (w64 (x + 1))))))))
    else none)
    else none)))))
    else none))
    (some 0))

/-- keelblock/berth.check keelblock/api.Call  -/
def g_berth_check_Call (N : Nat) (l : List Tapi_Call) (most : Int) : Option (Int) :=
  (cond (decide (((l.length : Nat) : Int) > most))
  (some 8)
  (g_berth_check_Call_L1 N l N 0))

/-- keelblock/berth.CheckCalls -/
def g_berth_CheckCalls (N : Nat) (c : List Tapi_Call) : Option (Int) :=
  ((g_berth_check_Call N c 8).bind fun rCall =>
  some rCall)

/-- keelblock/berth.both -/
def g_berth_both (N : Nat) (d : Tapi_Dock) (c : List Tapi_Call) : Option (Int) :=
  ((g_berth_CheckDocks N ([d] : List Tapi_Dock)).bind fun rCheckDocks =>
  (cond (rCheckDocks != 0)
  (some rCheckDocks)
  (((g_berth_CheckCalls N c).bind fun rCheckCalls =>
  some rCheckCalls))))

/-- keelblock/berth.fits -/
def g_berth_fits (N : Nat) (d : Tapi_Dock) (c : Tapi_Call) : Option (Bool) :=
  some (cond (decide ((w64 (c.f_Length + (w64 (2 * d.f_Gap)))) ≤ d.f_Length)) (decide ((w64 (c.f_Beam + (w64 (2 * d.f_Gap)))) ≤ d.f_Width)) false)

/-- keelblock/berth.Fits -/
def g_berth_Fits (N : Nat) (d : Tapi_Dock) (c : Tapi_Call) : Option (Bool × Int) :=
  ((g_berth_both N d ([c] : List Tapi_Call)).bind fun rboth =>
  (cond (rboth != 0)
  (some (false, rboth))
  (((g_berth_fits N d c).bind fun rfits =>
  some (rfits, 0)))))

/-- keelblock/keelblocklaw06.awake -/
def g_w06_awake (N : Nat) : Option (Bool) :=
  ((g_berth_Fits N (⟨(⟨#[100]⟩ : ByteArray), 200, 40, 0, 0, 2⟩ : Tapi_Dock) (⟨(⟨#[97]⟩ : ByteArray), 100, 30, 0, 0, 0, 1, 0, 0⟩ : Tapi_Call)).bind fun rFits =>
  ((g_berth_Fits N (⟨(⟨#[100]⟩ : ByteArray), 200, 40, 0, 0, 2⟩ : Tapi_Dock) (⟨(⟨#[98]⟩ : ByteArray), 197, 30, 0, 0, 0, 1, 0, 0⟩ : Tapi_Call)).bind fun rFits2 =>
  some (cond (cond (cond (rFits.2 == 0) rFits.1 false) (rFits2.2 == 0) false) (!rFits2.1) false)))

def g_w06_Names_L2 (N : Nat) (c : List Tapi_Call) : Nat → Int → Option (Bool)
  | 0, _ => none
  | fuel + 1, i2 =>
    (cond (decide (i2 < ((c.length : Nat) : Int)))
    ((if 0 ≤ i2 ∧ i2 < ((c.length : Nat) : Int) then
    (cond (decide (((((c.getD ((i2).toNat) Tapi_Call.d).f_Name).size : Nat) : Int) > 40))
    (some false)
    (g_w06_Names_L2 N c fuel (w64 (i2 + 1))))
    else none))
    (some true))

def g_w06_Names_L1 (N : Nat) (d : List Tapi_Dock) (c : List Tapi_Call) : Nat → Int → Option (Bool)
  | 0, _ => none
  | fuel + 1, i =>
    (cond (decide (i < ((d.length : Nat) : Int)))
    ((if 0 ≤ i ∧ i < ((d.length : Nat) : Int) then
    (cond (decide (((((d.getD ((i).toNat) Tapi_Dock.d).f_Name).size : Nat) : Int) > 40))
    (some false)
    (g_w06_Names_L1 N d c fuel (w64 (i + 1))))
    else none))
    (g_w06_Names_L2 N c N 0))

/-- keelblock/keelblocklaw06.Names -/
def g_w06_Names (N : Nat) (d : List Tapi_Dock) (c : List Tapi_Call) : Option (Bool) :=
  (cond (cond (decide (((d.length : Nat) : Int) > 6)) true (decide (((c.length : Nat) : Int) > 10)))
  (some false)
  (g_w06_Names_L1 N d c N 0))

def g_w06_Plan_short_L1 (N : Nat) (p : Tkeelblocklaw06_Plan) : Nat → Int → Option (Bool)
  | 0, _ => none
  | fuel + 1, i =>
    (cond (decide (i < ((p.f_Spots.length : Nat) : Int)))
    ((if 0 ≤ i ∧ i < ((p.f_Spots.length : Nat) : Int) then
    (cond (decide (((((p.f_Spots.getD ((i).toNat) Tapi_Spot.d).f_Call).size : Nat) : Int) > 40))
    (some false)
    (g_w06_Plan_short_L1 N p fuel (w64 (i + 1))))
    else none))
    (some true))

/-- (keelblock/keelblocklaw06.Plan).short -/
def g_w06_Plan_short (N : Nat) (p : Tkeelblocklaw06_Plan) : Option (Bool) :=
  ((g_w06_Names N ([p.f_Dock] : List Tapi_Dock) p.f_Calls).bind fun rNames =>
  (cond (cond (!rNames) true (decide (((p.f_Spots.length : Nat) : Int) > 12)))
  (some false)
  (g_w06_Plan_short_L1 N p N 0)))

def g_r06_DockOf_L1 (N : Nat) (d : List Tapi_Dock) (name : ByteArray) : Nat → Int → Option (Int)
  | 0, _ => none
  | fuel + 1, i =>
    (cond (decide (i < ((d.length : Nat) : Int)))
    ((if 0 ≤ i ∧ i < ((d.length : Nat) : Int) then
    (cond (streq ((d.getD ((i).toNat) Tapi_Dock.d).f_Name) name)
    (some i)
    (g_r06_DockOf_L1 N d name fuel (w64 (i + 1))))
    else none))
    (some (-1)))

/-- keelblock/keelblockref06.DockOf -/
def g_r06_DockOf (N : Nat) (d : List Tapi_Dock) (name : ByteArray) : Option (Int) :=
  g_r06_DockOf_L1 N d name N 0

def g_r06_CheckDocks_L1 (N : Nat) (d : List Tapi_Dock) : Nat → Int → Option (Int)
  | 0, _ => none
  | fuel + 1, i =>
    (cond (decide (i < ((d.length : Nat) : Int)))
    ((if 0 ≤ i ∧ i < ((d.length : Nat) : Int) then
    ((g_keelblockbase_IsName N ((d.getD ((i).toNat) Tapi_Dock.d).f_Name)).bind fun rIsName =>
    (cond (!rIsName)
    (some 4)
    (((g_r06_DockOf N d ((d.getD ((i).toNat) Tapi_Dock.d).f_Name)).bind fun rDockOf =>
    (cond (rDockOf != i)
    (some 5)
    (((g_r06_inside N ((d.getD ((i).toNat) Tapi_Dock.d).f_Length) 1 1000000).bind fun rinside =>
    (if ((!(!rinside)) = true → 0 ≤ i ∧ i < ((d.length : Nat) : Int)) then
    ((cond (!(!rinside)) (g_r06_inside N ((d.getD ((i).toNat) Tapi_Dock.d).f_Width) 1 1000000) (some false)).bind fun rinside2 =>
    (if ((!(cond (!rinside) true (!rinside2))) = true → 0 ≤ i ∧ i < ((d.length : Nat) : Int)) then
    ((cond (!(cond (!rinside) true (!rinside2))) (g_r06_inside N ((d.getD ((i).toNat) Tapi_Dock.d).f_Sill) (-1000000) 1000000) (some false)).bind fun rinside3 =>
    (if ((!(cond (cond (!rinside) true (!rinside2)) true (!rinside3))) = true → 0 ≤ i ∧ i < ((d.length : Nat) : Int)) then
    ((cond (!(cond (cond (!rinside) true (!rinside2)) true (!rinside3))) (g_r06_inside N ((d.getD ((i).toNat) Tapi_Dock.d).f_Floor) (-1000000) 1000000) (some false)).bind fun rinside4 =>
    (if ((!(cond (cond (cond (!rinside) true (!rinside2)) true (!rinside3)) true (!rinside4))) = true → 0 ≤ i ∧ i < ((d.length : Nat) : Int)) then
    ((cond (!(cond (cond (cond (!rinside) true (!rinside2)) true (!rinside3)) true (!rinside4))) (g_r06_inside N ((d.getD ((i).toNat) Tapi_Dock.d).f_Gap) 0 1000000) (some false)).bind fun rinside5 =>
    (cond (cond (cond (cond (cond (!rinside) true (!rinside2)) true (!rinside3)) true (!rinside4)) true (!rinside5))
    (some 2)
    (g_r06_CheckDocks_L1 N d fuel (w64 (i + 1)))))
    else none))
    else none))
    else none))
    else none))))))))
    else none))
    (some 0))

/-- keelblock/keelblockref06.CheckDocks -/
def g_r06_CheckDocks (N : Nat) (d : List Tapi_Dock) : Option (Int) :=
  (cond (decide (((d.length : Nat) : Int) > 4))
  (some 8)
  (g_r06_CheckDocks_L1 N d N 0))

def g_r06_CallOf_L1 (N : Nat) (c : List Tapi_Call) (name : ByteArray) : Nat → Int → Option (Int)
  | 0, _ => none
  | fuel + 1, i =>
    (cond (decide (i < ((c.length : Nat) : Int)))
    ((if 0 ≤ i ∧ i < ((c.length : Nat) : Int) then
    (cond (streq ((c.getD ((i).toNat) Tapi_Call.d).f_Name) name)
    (some i)
    (g_r06_CallOf_L1 N c name fuel (w64 (i + 1))))
    else none))
    (some (-1)))

/-- keelblock/keelblockref06.CallOf -/
def g_r06_CallOf (N : Nat) (c : List Tapi_Call) (name : ByteArray) : Option (Int) :=
  g_r06_CallOf_L1 N c name N 0

def g_r06_CheckCalls_L1 (N : Nat) (c : List Tapi_Call) : Nat → Int → Option (Int)
  | 0, _ => none
  | fuel + 1, i =>
    (cond (decide (i < ((c.length : Nat) : Int)))
    ((if 0 ≤ i ∧ i < ((c.length : Nat) : Int) then
    ((g_keelblockbase_IsName N ((c.getD ((i).toNat) Tapi_Call.d).f_Name)).bind fun rIsName =>
    (cond (!rIsName)
    (some 4)
    (((g_r06_CallOf N c ((c.getD ((i).toNat) Tapi_Call.d).f_Name)).bind fun rCallOf =>
    (cond (rCallOf != i)
    (some 5)
    (((g_r06_inside N ((c.getD ((i).toNat) Tapi_Call.d).f_Length) 1 1000000).bind fun rinside =>
    ((cond (!(!rinside)) (g_r06_inside N ((c.getD ((i).toNat) Tapi_Call.d).f_Beam) 1 1000000) (some false)).bind fun rinside2 =>
    ((cond (!(cond (!rinside) true (!rinside2))) (g_r06_inside N ((c.getD ((i).toNat) Tapi_Call.d).f_Draught) 0 1000000) (some false)).bind fun rinside3 =>
    ((cond (!(cond (cond (!rinside) true (!rinside2)) true (!rinside3))) (g_r06_inside N ((c.getD ((i).toNat) Tapi_Call.d).f_Under) 0 1000000) (some false)).bind fun rinside4 =>
    (cond (cond (cond (cond (!rinside) true (!rinside2)) true (!rinside3)) true (!rinside4))
    (some 2)
    (((g_r06_inside N ((c.getD ((i).toNat) Tapi_Call.d).f_Arrive) 0 400).bind fun rinside5 =>
    ((cond (!(!rinside5)) (g_r06_inside N ((c.getD ((i).toNat) Tapi_Call.d).f_Due) 0 400) (some false)).bind fun rinside6 =>
    ((cond (!(cond (!rinside5) true (!rinside6))) (g_r06_inside N ((c.getD ((i).toNat) Tapi_Call.d).f_Work) 1 1000) (some false)).bind fun rinside7 =>
    ((cond (!(cond (cond (!rinside5) true (!rinside6)) true (!rinside7))) (g_r06_inside N ((c.getD ((i).toNat) Tapi_Call.d).f_Late) 0 1000000000) (some false)).bind fun rinside8 =>
    (cond (cond (cond (cond (!rinside5) true (!rinside6)) true (!rinside7)) true (!rinside8))
    (some 2)
    (g_r06_CheckCalls_L1 N c fuel (w64 (i + 1))))))))))))))))))))
    else none))
    (some 0))

/-- keelblock/keelblockref06.CheckCalls -/
def g_r06_CheckCalls (N : Nat) (c : List Tapi_Call) : Option (Int) :=
  (cond (decide (((c.length : Nat) : Int) > 8))
  (some 8)
  (g_r06_CheckCalls_L1 N c N 0))

/-- keelblock/keelblockref06.CheckBoth -/
def g_r06_CheckBoth (N : Nat) (d : Tapi_Dock) (c : List Tapi_Call) : Option (Int) :=
  ((g_r06_CheckDocks N ([d] : List Tapi_Dock)).bind fun rCheckDocks =>
  (cond (rCheckDocks != 0)
  (some rCheckDocks)
  (((g_r06_CheckCalls N c).bind fun rCheckCalls =>
  some rCheckCalls))))

/-- keelblock/keelblockref06.within -/
def g_r06_within (N : Nat) (d : Tapi_Dock) (c : Tapi_Call) (s : Tapi_Spot) : Option (Bool) :=
  some (cond (cond (cond (decide (s.f_X ≥ d.f_Gap)) (decide (s.f_Y ≥ d.f_Gap)) false) (decide ((w64 ((w64 (s.f_X + c.f_Length)) + d.f_Gap)) ≤ d.f_Length)) false) (decide ((w64 ((w64 (s.f_Y + c.f_Beam)) + d.f_Gap)) ≤ d.f_Width)) false)

/-- keelblock/keelblockref06.apart -/
def g_r06_apart (N : Nat) (d : Tapi_Dock) (a : Tapi_Call) (b : Tapi_Call) (s : Tapi_Spot) (t : Tapi_Spot) : Option (Bool) :=
  some (cond (cond (cond (decide ((w64 ((w64 (s.f_X + a.f_Length)) + d.f_Gap)) ≤ t.f_X)) true (decide ((w64 ((w64 (t.f_X + b.f_Length)) + d.f_Gap)) ≤ s.f_X))) true (decide ((w64 ((w64 (s.f_Y + a.f_Beam)) + d.f_Gap)) ≤ t.f_Y))) true (decide ((w64 ((w64 (t.f_Y + b.f_Beam)) + d.f_Gap)) ≤ s.f_Y)))

def g_r06_CheckPlan_L2 (N : Nat) (d : Tapi_Dock) (c : List Tapi_Call) (s : List Tapi_Spot) (i : Int) (rCallOf : Int) (K_g_r06_CheckPlan_L1 : Int → Option (Int)) : Nat → Int → Option (Int)
  | 0, _ => none
  | fuel + 1, j =>
    (cond (decide (j < i))
    ((if 0 ≤ j ∧ j < ((s.length : Nat) : Int) then
    (if 0 ≤ i ∧ i < ((s.length : Nat) : Int) then
    (cond (streq ((s.getD ((j).toNat) Tapi_Spot.d).f_Call) ((s.getD ((i).toNat) Tapi_Spot.d).f_Call))
    (some 5)
    (g_r06_CheckPlan_L2 N d c s i rCallOf K_g_r06_CheckPlan_L1 fuel (w64 (j + 1))))
    else none)
    else none))
    ((if 0 ≤ i ∧ i < ((s.length : Nat) : Int) then
    ((g_r06_inside N ((s.getD ((i).toNat) Tapi_Spot.d).f_X) 0 1000000).bind fun rinside =>
    (if ((!(!rinside)) = true → 0 ≤ i ∧ i < ((s.length : Nat) : Int)) then
    ((cond (!(!rinside)) (g_r06_inside N ((s.getD ((i).toNat) Tapi_Spot.d).f_Y) 0 1000000) (some false)).bind fun rinside2 =>
    (cond (cond (!rinside) true (!rinside2))
    (some 2)
    ((if 0 ≤ rCallOf ∧ rCallOf < ((c.length : Nat) : Int) then
    ((g_r06_within N d (c.getD ((rCallOf).toNat) Tapi_Call.d) (s.getD ((i).toNat) Tapi_Spot.d)).bind fun rwithin =>
    (cond (!rwithin)
    (some 16)
    (K_g_r06_CheckPlan_L1 (w64 (i + 1)))))
    else none))))
    else none))
    else none)))

def g_r06_CheckPlan_L4 (N : Nat) (d : Tapi_Dock) (c : List Tapi_Call) (s : List Tapi_Spot) (i2 : Int) (K_g_r06_CheckPlan_L3 : Int → Option (Int)) : Nat → Int → Option (Int)
  | 0, _ => none
  | fuel + 1, j2 =>
    (cond (decide (j2 < i2))
    ((if 0 ≤ i2 ∧ i2 < ((s.length : Nat) : Int) then
    ((g_r06_CallOf N c ((s.getD ((i2).toNat) Tapi_Spot.d).f_Call)).bind fun rCallOf2 =>
    (if 0 ≤ rCallOf2 ∧ rCallOf2 < ((c.length : Nat) : Int) then
    (if 0 ≤ j2 ∧ j2 < ((s.length : Nat) : Int) then
    ((g_r06_CallOf N c ((s.getD ((j2).toNat) Tapi_Spot.d).f_Call)).bind fun rCallOf3 =>
    (if 0 ≤ rCallOf3 ∧ rCallOf3 < ((c.length : Nat) : Int) then
    ((g_r06_apart N d (c.getD ((rCallOf2).toNat) Tapi_Call.d) (c.getD ((rCallOf3).toNat) Tapi_Call.d) (s.getD ((i2).toNat) Tapi_Spot.d) (s.getD ((j2).toNat) Tapi_Spot.d)).bind fun rapart =>
    (cond (!rapart)
    (some 17)
    (g_r06_CheckPlan_L4 N d c s i2 K_g_r06_CheckPlan_L3 fuel (w64 (j2 + 1)))))
    else none))
    else none)
    else none))
    else none))
    (K_g_r06_CheckPlan_L3 (w64 (i2 + 1))))

def g_r06_CheckPlan_L3 (N : Nat) (d : Tapi_Dock) (c : List Tapi_Call) (s : List Tapi_Spot) : Nat → Int → Option (Int)
  | 0, _ => none
  | fuel + 1, i2 =>
    (cond (decide (i2 < ((s.length : Nat) : Int)))
    (g_r06_CheckPlan_L4 N d c s i2 (g_r06_CheckPlan_L3 N d c s fuel) N 0)
    (some 0))

def g_r06_CheckPlan_L1 (N : Nat) (d : Tapi_Dock) (c : List Tapi_Call) (s : List Tapi_Spot) : Nat → Int → Option (Int)
  | 0, _ => none
  | fuel + 1, i =>
    (cond (decide (i < ((s.length : Nat) : Int)))
    ((if 0 ≤ i ∧ i < ((s.length : Nat) : Int) then
    ((g_r06_CallOf N c ((s.getD ((i).toNat) Tapi_Spot.d).f_Call)).bind fun rCallOf =>
    (cond (decide (rCallOf < 0))
    (some 6)
    (g_r06_CheckPlan_L2 N d c s i rCallOf (g_r06_CheckPlan_L1 N d c s fuel) N 0)))
    else none))
    (g_r06_CheckPlan_L3 N d c s N 0))

/-- keelblock/keelblockref06.CheckPlan -/
def g_r06_CheckPlan (N : Nat) (d : Tapi_Dock) (c : List Tapi_Call) (s : List Tapi_Spot) : Option (Int) :=
  ((g_r06_CheckBoth N d c).bind fun rCheckBoth =>
  (cond (rCheckBoth != 0)
  (some rCheckBoth)
  ((cond (((s.length : Nat) : Int) != ((c.length : Nat) : Int))
  (some 11)
  (g_r06_CheckPlan_L1 N d c s N 0)))))

/-- keelblock/berth.called 1 -/
def g_berth_called_1 (N : Nat) (x : Tapi_Call) (cap0 : ByteArray) : Option (Bool) :=
  some (streq x.f_Name cap0)

def g_slices_IndexFunc_api_Call_api_Call_v2_L1 (N : Nat) (s : List Tapi_Call) (cap0 : ByteArray) : Nat → Int → Option (Int)
  | 0, _ => none
  | fuel + 1, x =>
    (cond (decide (x < ((s.length : Nat) : Int)))
    ((if 0 ≤ x ∧ x < ((s.length : Nat) : Int) then
    ((g_berth_called_1 N (s.getD ((x).toNat) Tapi_Call.d) cap0).bind fun rcalled1 =>
    (cond rcalled1
    (some x)
    (g_slices_IndexFunc_api_Call_api_Call_v2_L1 N s cap0 fuel (w64 (x + 1)))))
    else none))
    (some (-1)))

/-- slices.IndexFunc   keelblock/api.Call,keelblock/api.Call  -/
def g_slices_IndexFunc_api_Call_api_Call_v2 (N : Nat) (s : List Tapi_Call) (cap0 : ByteArray) : Option (Int) :=
  g_slices_IndexFunc_api_Call_api_Call_v2_L1 N s cap0 N 0

/-- keelblock/berth.called -/
def g_berth_called (N : Nat) (c : List Tapi_Call) (name : ByteArray) : Option (Int) :=
  ((g_slices_IndexFunc_api_Call_api_Call_v2 N c name).bind fun rCall =>
  some rCall)

/-- keelblock/berth.inside -/
def g_berth_inside (N : Nat) (d : Tapi_Dock) (b : Tberth_box) : Option (Bool) :=
  some (cond (cond (cond (decide (b.f_x ≥ d.f_Gap)) (decide (b.f_y ≥ d.f_Gap)) false) (decide ((w64 ((w64 (b.f_x + b.f_w)) + d.f_Gap)) ≤ d.f_Length)) false) (decide ((w64 ((w64 (b.f_y + b.f_h)) + d.f_Gap)) ≤ d.f_Width)) false)

/-- keelblock/berth.apart -/
def g_berth_apart (N : Nat) (a : Tberth_box) (b : Tberth_box) (gap : Int) : Option (Bool) :=
  some (cond (cond (cond (decide ((w64 ((w64 (a.f_x + a.f_w)) + gap)) ≤ b.f_x)) true (decide ((w64 ((w64 (b.f_x + b.f_w)) + gap)) ≤ a.f_x))) true (decide ((w64 ((w64 (a.f_y + a.f_h)) + gap)) ≤ b.f_y))) true (decide ((w64 ((w64 (b.f_y + b.f_h)) + gap)) ≤ a.f_y)))

def g_berth_boxes_L3 (N : Nat) (d : Tapi_Dock) (out : List Tberth_box) (x2 : Int) (K_g_berth_boxes_L2 : Int → Option ((List Tberth_box) × Int)) : Nat → Int → Option ((List Tberth_box) × Int)
  | 0, _ => none
  | fuel + 1, x3 =>
    (cond (decide (x3 < ((((x2).toNat - 0) : Nat) : Int)))
    ((if 0 ≤ x3 ∧ x3 < ((((x2).toNat - 0) : Nat) : Int) then
    (if 0 ≤ (x2).toNat ∧ (x2).toNat ≤ out.length then
    ((g_berth_apart N (out.getD ((x2).toNat) Tberth_box.d) (out.getD ((x3).toNat) Tberth_box.d) d.f_Gap).bind fun rapart =>
    (cond (!rapart)
    (some (([] : List Tberth_box), 17))
    (g_berth_boxes_L3 N d out x2 K_g_berth_boxes_L2 fuel (w64 (x3 + 1)))))
    else none)
    else none))
    (K_g_berth_boxes_L2 (w64 (x2 + 1))))

def g_berth_boxes_L2 (N : Nat) (d : Tapi_Dock) (out : List Tberth_box) : Nat → Int → Option ((List Tberth_box) × Int)
  | 0, _ => none
  | fuel + 1, x2 =>
    (cond (decide (x2 < ((out.length : Nat) : Int)))
    ((if 0 ≤ x2 ∧ x2 < ((out.length : Nat) : Int) then
    (if 0 ≤ (x2).toNat ∧ (x2).toNat ≤ out.length then
    (if 0 ≤ x2 then
    g_berth_boxes_L3 N d out x2 (g_berth_boxes_L2 N d out fuel) N 0
    else none)
    else none)
    else none))
    (some (out, 0)))

def g_berth_boxes_L1 (N : Nat) (d : Tapi_Dock) (c : List Tapi_Call) (s : List Tapi_Spot) : Nat → (List Tberth_box) → (List Bool) → Int → Option ((List Tberth_box) × Int)
  | 0, _, _, _ => none
  | fuel + 1, out, seen, x =>
    (cond (decide (x < ((s.length : Nat) : Int)))
    ((if 0 ≤ x ∧ x < ((s.length : Nat) : Int) then
    ((g_berth_called N c ((s.getD ((x).toNat) Tapi_Spot.d).f_Call)).bind fun rcalled =>
    (cond (decide (rcalled < 0))
    (some (([] : List Tberth_box), 6))
    ((if 0 ≤ rcalled ∧ rcalled < ((seen.length : Nat) : Int) then
    (cond (seen.getD ((rcalled).toNat) false)
    (some (([] : List Tberth_box), 5))
    (((g_berth_outside N ((s.getD ((x).toNat) Tapi_Spot.d).f_X) 0 1000000).bind fun routside =>
    ((cond (!routside) (g_berth_outside N ((s.getD ((x).toNat) Tapi_Spot.d).f_Y) 0 1000000) (some false)).bind fun routside2 =>
    (cond (cond routside true routside2)
    (some (([] : List Tberth_box), 2))
    ((if 0 ≤ rcalled ∧ rcalled < ((c.length : Nat) : Int) then
    (if 0 ≤ rcalled ∧ rcalled < ((out.length : Nat) : Int) then
    (if 0 ≤ rcalled ∧ rcalled < (((out.set ((rcalled).toNat) (⟨(s.getD ((x).toNat) Tapi_Spot.d).f_X, (s.getD ((x).toNat) Tapi_Spot.d).f_Y, (c.getD ((rcalled).toNat) Tapi_Call.d).f_Length, (c.getD ((rcalled).toNat) Tapi_Call.d).f_Beam⟩ : Tberth_box)).length : Nat) : Int) then
    ((g_berth_inside N d ((out.set ((rcalled).toNat) (⟨(s.getD ((x).toNat) Tapi_Spot.d).f_X, (s.getD ((x).toNat) Tapi_Spot.d).f_Y, (c.getD ((rcalled).toNat) Tapi_Call.d).f_Length, (c.getD ((rcalled).toNat) Tapi_Call.d).f_Beam⟩ : Tberth_box)).getD ((rcalled).toNat) Tberth_box.d)).bind fun rinside =>
    (cond (!rinside)
    (some (([] : List Tberth_box), 16))
    (g_berth_boxes_L1 N d c s fuel (out.set ((rcalled).toNat) (⟨(s.getD ((x).toNat) Tapi_Spot.d).f_X, (s.getD ((x).toNat) Tapi_Spot.d).f_Y, (c.getD ((rcalled).toNat) Tapi_Call.d).f_Length, (c.getD ((rcalled).toNat) Tapi_Call.d).f_Beam⟩ : Tberth_box)) (seen.set ((rcalled).toNat) true) (w64 (x + 1)))))
    else none)
    else none)
    else none)))))))
    else none))))
    else none))
    (g_berth_boxes_L2 N d out N 0))

/-- keelblock/berth.boxes -/
def g_berth_boxes (N : Nat) (d : Tapi_Dock) (c : List Tapi_Call) (s : List Tapi_Spot) : Option ((List Tberth_box) × Int) :=
  ((g_berth_both N d c).bind fun rboth =>
  (cond (rboth != 0)
  (some (([] : List Tberth_box), rboth))
  ((cond (((s.length : Nat) : Int) != ((c.length : Nat) : Int))
  (some (([] : List Tberth_box), 11))
  ((if 0 ≤ ((c.length : Nat) : Int) ∧ (32 : Int) * ((c.length : Nat) : Int) ≤ 281474976710656 ∧ ((c.length : Nat) : Int) ≤ 9223372036854775807 then
  (if 0 ≤ ((c.length : Nat) : Int) ∧ (1 : Int) * ((c.length : Nat) : Int) ≤ 281474976710656 ∧ ((c.length : Nat) : Int) ≤ 9223372036854775807 then
  g_berth_boxes_L1 N d c s N (List.replicate c.length Tberth_box.d : List Tberth_box) (List.replicate c.length false : List Bool) 0
  else none)
  else none))))))

/-- keelblock/berth.blocked -/
def g_berth_blocked (N : Nat) (d : Tapi_Dock) (a : Tberth_box) (b : Tberth_box) : Option (Bool) :=
  some (cond (cond (decide (a.f_x < b.f_x)) (decide (a.f_y < (w64 ((w64 (b.f_y + b.f_h)) + d.f_Gap)))) false) (decide ((w64 (a.f_y + a.f_h)) > (w64 (b.f_y - d.f_Gap)))) false)

def g_berth_Blocks_J3 (N : Nat) (d : Tapi_Dock) (c : List Tapi_Call) (rboxes : (List Tberth_box) × Int) (x : Int) (x2 : Int) (K_g_berth_Blocks_L2 : (List TS__2_string) → Int → Option ((List TS__2_string) × Int)) (K_g_berth_Blocks_L1 : (List TS__2_string) → Int → Option ((List TS__2_string) × Int)) (out3 : List TS__2_string) : Option ((List TS__2_string) × Int) :=
  K_g_berth_Blocks_L2 out3 (w64 (x2 + 1))

def g_berth_Blocks_L2 (N : Nat) (d : Tapi_Dock) (c : List Tapi_Call) (rboxes : (List Tberth_box) × Int) (x : Int) (K_g_berth_Blocks_L1 : (List TS__2_string) → Int → Option ((List TS__2_string) × Int)) : Nat → (List TS__2_string) → Int → Option ((List TS__2_string) × Int)
  | 0, _, _ => none
  | fuel + 1, out2, x2 =>
    (cond (decide (x2 < ((rboxes.1.length : Nat) : Int)))
    ((if 0 ≤ x2 ∧ x2 < ((rboxes.1.length : Nat) : Int) then
    ((g_berth_blocked N d (rboxes.1.getD ((x).toNat) Tberth_box.d) (rboxes.1.getD ((x2).toNat) Tberth_box.d)).bind fun rblocked =>
    (cond rblocked
    ((if 0 ≤ x ∧ x < ((c.length : Nat) : Int) then
    (if 0 ≤ x2 ∧ x2 < ((c.length : Nat) : Int) then
    (if (out2.length + 1) * 32 ≤ 140737488355328 then
    g_berth_Blocks_J3 N d c rboxes x x2 (g_berth_Blocks_L2 N d c rboxes x K_g_berth_Blocks_L1 fuel) K_g_berth_Blocks_L1 (out2 ++ ([(⟨(c.getD ((x).toNat) Tapi_Call.d).f_Name, (c.getD ((x2).toNat) Tapi_Call.d).f_Name⟩ : TS__2_string)] : List TS__2_string))
    else none)
    else none)
    else none))
    (g_berth_Blocks_J3 N d c rboxes x x2 (g_berth_Blocks_L2 N d c rboxes x K_g_berth_Blocks_L1 fuel) K_g_berth_Blocks_L1 out2)))
    else none))
    (K_g_berth_Blocks_L1 out2 (w64 (x + 1))))

def g_berth_Blocks_L1 (N : Nat) (d : Tapi_Dock) (c : List Tapi_Call) (rboxes : (List Tberth_box) × Int) : Nat → (List TS__2_string) → Int → Option ((List TS__2_string) × Int)
  | 0, _, _ => none
  | fuel + 1, out, x =>
    (cond (decide (x < ((rboxes.1.length : Nat) : Int)))
    ((if 0 ≤ x ∧ x < ((rboxes.1.length : Nat) : Int) then
    g_berth_Blocks_L2 N d c rboxes x (g_berth_Blocks_L1 N d c rboxes fuel) N out 0
    else none))
    (some (out, 0)))

/-- keelblock/berth.Blocks -/
def g_berth_Blocks (N : Nat) (d : Tapi_Dock) (c : List Tapi_Call) (s : List Tapi_Spot) : Option ((List TS__2_string) × Int) :=
  ((g_berth_boxes N d c s).bind fun rboxes =>
  (cond (rboxes.2 != 0)
  (some (([] : List TS__2_string), rboxes.2))
  (g_berth_Blocks_L1 N d c rboxes N ([] : List TS__2_string) 0)))

def g_berth_LeaveOrder_1_L1 (N : Nat) (k : Int) (cap0 : List Tberth_box) (cap2 : List Bool) (cap3 : Tapi_Dock) : Nat → Int → Option (Bool)
  | 0, _ => none
  | fuel + 1, x =>
    (cond (decide (x < ((cap0.length : Nat) : Int)))
    ((if 0 ≤ x ∧ x < ((cap0.length : Nat) : Int) then
    (if 0 ≤ x ∧ x < ((cap2.length : Nat) : Int) then
    (if ((!(cap2.getD ((x).toNat) false)) = true → 0 ≤ k ∧ k < ((cap0.length : Nat) : Int)) then
    ((cond (!(cap2.getD ((x).toNat) false)) (g_berth_blocked N cap3 (cap0.getD ((x).toNat) Tberth_box.d) (cap0.getD ((k).toNat) Tberth_box.d)) (some false)).bind fun rblocked =>
    (cond (cond (!(cap2.getD ((x).toNat) false)) rblocked false)
    (some false)
    (g_berth_LeaveOrder_1_L1 N k cap0 cap2 cap3 fuel (w64 (x + 1)))))
    else none)
    else none)
    else none))
    (some true))

/-- keelblock/berth.LeaveOrder 1 -/
def g_berth_LeaveOrder_1 (N : Nat) (k : Int) (cap0 : List Tberth_box) (cap2 : List Bool) (cap3 : Tapi_Dock) : Option (Bool) :=
  g_berth_LeaveOrder_1_L1 N k cap0 cap2 cap3 N 0

def g_berth_LeaveOrder_J3 (N : Nat) (d : Tapi_Dock) (c : List Tapi_Call) (rboxes : (List Tberth_box) × Int) (x : Int) (K_g_berth_LeaveOrder_L1 : (List ByteArray) → (List Bool) → Int → Option ((List ByteArray) × Int)) (out2 : List ByteArray) (gone2 : List Bool) : Option ((List ByteArray) × Int) :=
  K_g_berth_LeaveOrder_L1 out2 gone2 (w64 (x + 1))

def g_berth_LeaveOrder_L2 (N : Nat) (d : Tapi_Dock) (c : List Tapi_Call) (rboxes : (List Tberth_box) × Int) (out : List ByteArray) (gone : List Bool) (x : Int) (K_g_berth_LeaveOrder_L1 : (List ByteArray) → (List Bool) → Int → Option ((List ByteArray) × Int)) : Nat → Int → Option ((List ByteArray) × Int)
  | 0, _ => none
  | fuel + 1, x2 =>
    (cond (decide (x2 < ((rboxes.1.length : Nat) : Int)))
    ((if 0 ≤ x2 ∧ x2 < ((gone.length : Nat) : Int) then
    ((cond (!(gone.getD ((x2).toNat) false)) (g_berth_LeaveOrder_1 N x2 rboxes.1 gone d) (some false)).bind fun rLeaveOrder1 =>
    (cond (cond (!(gone.getD ((x2).toNat) false)) rLeaveOrder1 false)
    ((if 0 ≤ x2 ∧ x2 < ((c.length : Nat) : Int) then
    (if (out.length + 1) * 16 ≤ 140737488355328 then
    g_berth_LeaveOrder_J3 N d c rboxes x K_g_berth_LeaveOrder_L1 (out ++ ([(c.getD ((x2).toNat) Tapi_Call.d).f_Name] : List ByteArray)) (gone.set ((x2).toNat) true)
    else none)
    else none))
    (g_berth_LeaveOrder_L2 N d c rboxes out gone x K_g_berth_LeaveOrder_L1 fuel (w64 (x2 + 1)))))
    else none))
    (g_berth_LeaveOrder_J3 N d c rboxes x K_g_berth_LeaveOrder_L1 out gone))

def g_berth_LeaveOrder_L1 (N : Nat) (d : Tapi_Dock) (c : List Tapi_Call) (rboxes : (List Tberth_box) × Int) : Nat → (List ByteArray) → (List Bool) → Int → Option ((List ByteArray) × Int)
  | 0, _, _, _ => none
  | fuel + 1, out, gone, x =>
    (cond (decide (x < ((rboxes.1.length : Nat) : Int)))
    (g_berth_LeaveOrder_L2 N d c rboxes out gone x (g_berth_LeaveOrder_L1 N d c rboxes fuel) N 0)
    (some (out, 0)))

/-- keelblock/berth.LeaveOrder -/
def g_berth_LeaveOrder (N : Nat) (d : Tapi_Dock) (c : List Tapi_Call) (s : List Tapi_Spot) : Option ((List ByteArray) × Int) :=
  ((g_berth_boxes N d c s).bind fun rboxes =>
  (cond (rboxes.2 != 0)
  (some (([] : List ByteArray), rboxes.2))
  ((if 0 ≤ ((rboxes.1.length : Nat) : Int) ∧ (1 : Int) * ((rboxes.1.length : Nat) : Int) ≤ 281474976710656 ∧ ((rboxes.1.length : Nat) : Int) ≤ 9223372036854775807 then
  g_berth_LeaveOrder_L1 N d c rboxes N ([] : List ByteArray) (List.replicate rboxes.1.length false : List Bool) 0
  else none))))

/-- keelblock/berth.CheckPlan -/
def g_berth_CheckPlan (N : Nat) (d : Tapi_Dock) (c : List Tapi_Call) (s : List Tapi_Spot) : Option (Int) :=
  ((g_berth_boxes N d c s).bind fun rboxes =>
  some rboxes.2)

def g_r06_spot_L1 (N : Nat) (s : List Tapi_Spot) (name : ByteArray) : Nat → Int → Option (Tapi_Spot)
  | 0, _ => none
  | fuel + 1, i =>
    (cond (decide (i < ((s.length : Nat) : Int)))
    ((if 0 ≤ i ∧ i < ((s.length : Nat) : Int) then
    (cond (streq ((s.getD ((i).toNat) Tapi_Spot.d).f_Call) name)
    (some (s.getD ((i).toNat) Tapi_Spot.d))
    (g_r06_spot_L1 N s name fuel (w64 (i + 1))))
    else none))
    (some (⟨ByteArray.empty, 0, 0⟩ : Tapi_Spot)))

/-- keelblock/keelblockref06.spot -/
def g_r06_spot (N : Nat) (s : List Tapi_Spot) (name : ByteArray) : Option (Tapi_Spot) :=
  g_r06_spot_L1 N s name N 0

/-- keelblock/keelblockref06.InWay -/
def g_r06_InWay (N : Nat) (d : Tapi_Dock) (a : Tapi_Call) (b : Tapi_Call) (s : List Tapi_Spot) : Option (Bool) :=
  ((g_r06_spot N s a.f_Name).bind fun rspot =>
  ((g_r06_spot N s b.f_Name).bind fun rspot2 =>
  some (cond (cond (decide (rspot.f_X < rspot2.f_X)) (decide (rspot.f_Y < (w64 ((w64 (rspot2.f_Y + b.f_Beam)) + d.f_Gap)))) false) (decide ((w64 (rspot.f_Y + a.f_Beam)) > (w64 (rspot2.f_Y - d.f_Gap)))) false)))

def g_r06_Blocks_J3 (N : Nat) (d : Tapi_Dock) (c : List Tapi_Call) (s : List Tapi_Spot) (i : Int) (j : Int) (K_g_r06_Blocks_L2 : (List TS__2_string) → Int → Option ((List TS__2_string))) (K_g_r06_Blocks_L1 : (List TS__2_string) → Int → Option ((List TS__2_string))) (out3 : List TS__2_string) : Option ((List TS__2_string)) :=
  K_g_r06_Blocks_L2 out3 (w64 (j + 1))

def g_r06_Blocks_L2 (N : Nat) (d : Tapi_Dock) (c : List Tapi_Call) (s : List Tapi_Spot) (i : Int) (K_g_r06_Blocks_L1 : (List TS__2_string) → Int → Option ((List TS__2_string))) : Nat → (List TS__2_string) → Int → Option ((List TS__2_string))
  | 0, _, _ => none
  | fuel + 1, out2, j =>
    (cond (decide (j < ((c.length : Nat) : Int)))
    ((if ((i != j) = true → 0 ≤ i ∧ i < ((c.length : Nat) : Int)) then
    (if ((i != j) = true → 0 ≤ j ∧ j < ((c.length : Nat) : Int)) then
    ((cond (i != j) (g_r06_InWay N d (c.getD ((i).toNat) Tapi_Call.d) (c.getD ((j).toNat) Tapi_Call.d) s) (some false)).bind fun rInWay =>
    (cond (cond (i != j) rInWay false)
    ((if 0 ≤ i ∧ i < ((c.length : Nat) : Int) then
    (if 0 ≤ j ∧ j < ((c.length : Nat) : Int) then
    (if (out2.length + 1) * 32 ≤ 140737488355328 then
    g_r06_Blocks_J3 N d c s i j (g_r06_Blocks_L2 N d c s i K_g_r06_Blocks_L1 fuel) K_g_r06_Blocks_L1 (out2 ++ ([(⟨(c.getD ((i).toNat) Tapi_Call.d).f_Name, (c.getD ((j).toNat) Tapi_Call.d).f_Name⟩ : TS__2_string)] : List TS__2_string))
    else none)
    else none)
    else none))
    (g_r06_Blocks_J3 N d c s i j (g_r06_Blocks_L2 N d c s i K_g_r06_Blocks_L1 fuel) K_g_r06_Blocks_L1 out2)))
    else none)
    else none))
    (K_g_r06_Blocks_L1 out2 (w64 (i + 1))))

def g_r06_Blocks_L1 (N : Nat) (d : Tapi_Dock) (c : List Tapi_Call) (s : List Tapi_Spot) : Nat → (List TS__2_string) → Int → Option ((List TS__2_string))
  | 0, _, _ => none
  | fuel + 1, out, i =>
    (cond (decide (i < ((c.length : Nat) : Int)))
    (g_r06_Blocks_L2 N d c s i (g_r06_Blocks_L1 N d c s fuel) N out 0)
    (some out))

/-- keelblock/keelblockref06.Blocks -/
def g_r06_Blocks (N : Nat) (d : Tapi_Dock) (c : List Tapi_Call) (s : List Tapi_Spot) : Option ((List TS__2_string)) :=
  g_r06_Blocks_L1 N d c s N ([] : List TS__2_string) 0

def g_r06_LeaveOrder_L3 (N : Nat) (d : Tapi_Dock) (c : List Tapi_Call) (s : List Tapi_Spot) (out : List ByteArray) (gone : List Bool) (j : Int) (K_g_r06_LeaveOrder_L2 : Int → Option ((List ByteArray))) (K_g_r06_LeaveOrder_L1 : (List ByteArray) → (List Bool) → Option ((List ByteArray))) : Nat → Bool → Int → Option ((List ByteArray))
  | 0, _, _ => none
  | fuel + 1, free, i =>
    (cond (decide (i < ((c.length : Nat) : Int)))
    ((if (free = true → 0 ≤ i ∧ i < ((gone.length : Nat) : Int)) then
    (if ((free && (free && (!(cond (gone.getD ((i).toNat) false) true (i == j))))) = true → 0 ≤ i ∧ i < ((c.length : Nat) : Int)) then
    (if ((free && (free && (!(cond (gone.getD ((i).toNat) false) true (i == j))))) = true → 0 ≤ j ∧ j < ((c.length : Nat) : Int)) then
    ((cond (free && (free && (!(cond (gone.getD ((i).toNat) false) true (i == j))))) (g_r06_InWay N d (c.getD ((i).toNat) Tapi_Call.d) (c.getD ((j).toNat) Tapi_Call.d) s) (some false)).bind fun rInWay =>
    g_r06_LeaveOrder_L3 N d c s out gone j K_g_r06_LeaveOrder_L2 K_g_r06_LeaveOrder_L1 fuel (cond free (cond (cond (gone.getD ((i).toNat) false) true (i == j)) true (!rInWay)) false) (w64 (i + 1)))
    else none)
    else none)
    else none))
    ((cond free
    ((if 0 ≤ j ∧ j < ((gone.length : Nat) : Int) then
    (if 0 ≤ j ∧ j < ((c.length : Nat) : Int) then
    (if (out.length + 1) * 16 ≤ 140737488355328 then
    K_g_r06_LeaveOrder_L1 (out ++ ([(c.getD ((j).toNat) Tapi_Call.d).f_Name] : List ByteArray)) (gone.set ((j).toNat) true)
    else none)
    else none)
    else none))
    (K_g_r06_LeaveOrder_L2 (w64 (j + 1))))))

def g_r06_LeaveOrder_L2 (N : Nat) (d : Tapi_Dock) (c : List Tapi_Call) (s : List Tapi_Spot) (out : List ByteArray) (gone : List Bool) (K_g_r06_LeaveOrder_L1 : (List ByteArray) → (List Bool) → Option ((List ByteArray))) : Nat → Int → Option ((List ByteArray))
  | 0, _ => none
  | fuel + 1, j =>
    (cond (decide (j < ((c.length : Nat) : Int)))
    ((if 0 ≤ j ∧ j < ((gone.length : Nat) : Int) then
    g_r06_LeaveOrder_L3 N d c s out gone j (g_r06_LeaveOrder_L2 N d c s out gone K_g_r06_LeaveOrder_L1 fuel) K_g_r06_LeaveOrder_L1 N (!(gone.getD ((j).toNat) false)) 0
    else none))
    (K_g_r06_LeaveOrder_L1 out gone))

def g_r06_LeaveOrder_L1 (N : Nat) (d : Tapi_Dock) (c : List Tapi_Call) (s : List Tapi_Spot) : Nat → (List ByteArray) → (List Bool) → Option ((List ByteArray))
  | 0, _, _ => none
  | fuel + 1, out, gone =>
    (cond (decide (((out.length : Nat) : Int) < ((c.length : Nat) : Int)))
    (g_r06_LeaveOrder_L2 N d c s out gone (g_r06_LeaveOrder_L1 N d c s fuel) N 0)
    (some out))

/-- keelblock/keelblockref06.LeaveOrder -/
def g_r06_LeaveOrder (N : Nat) (d : Tapi_Dock) (c : List Tapi_Call) (s : List Tapi_Spot) : Option ((List ByteArray)) :=
  (if 0 ≤ ((c.length : Nat) : Int) ∧ (1 : Int) * ((c.length : Nat) : Int) ≤ 281474976710656 ∧ ((c.length : Nat) : Int) ≤ 9223372036854775807 then
  g_r06_LeaveOrder_L1 N d c s N ([] : List ByteArray) (List.replicate c.length false : List Bool)
  else none)

def g_w06_BerthPlans_L1 (N : Nat) (rBlocks : (List TS__2_string) × Int) (rBlocks2 : (List TS__2_string)) : Nat → Int → Option (Bool)
  | 0, _ => none
  | fuel + 1, i =>
    (cond (decide (i < ((rBlocks.1.length : Nat) : Int)))
    ((if 0 ≤ i ∧ i < ((rBlocks.1.length : Nat) : Int) then
    (if 0 ≤ i ∧ i < ((rBlocks2.length : Nat) : Int) then
    (cond (!((streq ((rBlocks.1.getD ((i).toNat) TS__2_string.d).e0) ((rBlocks2.getD ((i).toNat) TS__2_string.d).e0)) && ((streq ((rBlocks.1.getD ((i).toNat) TS__2_string.d).e1) ((rBlocks2.getD ((i).toNat) TS__2_string.d).e1)) && true)))
    (some false)
    (g_w06_BerthPlans_L1 N rBlocks rBlocks2 fuel (w64 (i + 1))))
    else none)
    else none))
    (some true))

/-- keelblock/keelblocklaw06.BerthPlans -/
def g_w06_BerthPlans (N : Nat) (p : Tkeelblocklaw06_Plan) : Option (Bool) :=
  ((g_w06_awake N).bind fun rawake =>
  (cond (!rawake)
  (some false)
  (((g_w06_Plan_short N p).bind fun rshort =>
  (cond (!rshort)
  (some true)
  (((g_r06_CheckPlan N p.f_Dock p.f_Calls p.f_Spots).bind fun rCheckPlan =>
  ((g_berth_Blocks N p.f_Dock p.f_Calls p.f_Spots).bind fun rBlocks =>
  ((g_berth_LeaveOrder N p.f_Dock p.f_Calls p.f_Spots).bind fun rLeaveOrder =>
  ((g_berth_CheckPlan N p.f_Dock p.f_Calls p.f_Spots).bind fun rCheckPlan2 =>
  (cond (cond (cond (rCheckPlan2 != rCheckPlan) true (rBlocks.2 != rCheckPlan)) true (rLeaveOrder.2 != rCheckPlan))
  (some false)
  ((cond (rCheckPlan != 0)
  (some (cond (((rBlocks.1.length : Nat) : Int) == 0) (((rLeaveOrder.1.length : Nat) : Int) == 0) false))
  (((g_r06_Blocks N p.f_Dock p.f_Calls p.f_Spots).bind fun rBlocks2 =>
  ((cond (!(((rBlocks.1.length : Nat) : Int) != ((rBlocks2.length : Nat) : Int))) (g_r06_LeaveOrder N p.f_Dock p.f_Calls p.f_Spots) (some [])).bind fun rLeaveOrder2 =>
  ((cond (!(((rBlocks.1.length : Nat) : Int) != ((rBlocks2.length : Nat) : Int))) (g_keelblockbase_Texts N rLeaveOrder.1 rLeaveOrder2) (some false)).bind fun rTexts =>
  (cond (cond (((rBlocks.1.length : Nat) : Int) != ((rBlocks2.length : Nat) : Int)) true (!rTexts))
  (some false)
  (g_w06_BerthPlans_L1 N rBlocks rBlocks2 N 0)))))))))))))))))))

def g_w06_BerthLeaves_J4 (N : Nat) (p : Tkeelblocklaw06_Plan) (rLeaveOrder : (List ByteArray) × Int) (calls : List Tapi_Call) (spots : List Tapi_Spot) (i : Int) (k2 : Int) (K_g_w06_BerthLeaves_L3 : (List Tapi_Call) → Int → Option (Bool)) (K_g_w06_BerthLeaves_L1 : (List Tapi_Call) → (List Tapi_Spot) → Int → Option (Bool)) (c8 : List Tapi_Call) : Option (Bool) :=
  K_g_w06_BerthLeaves_L3 c8 (w64 (k2 + 1))

def g_w06_BerthLeaves_J6 (N : Nat) (p : Tkeelblocklaw06_Plan) (rLeaveOrder : (List ByteArray) × Int) (spots : List Tapi_Spot) (i : Int) (c4 : List Tapi_Call) (k3 : Int) (K_g_w06_BerthLeaves_L5 : (List Tapi_Spot) → Int → Option (Bool)) (K_g_w06_BerthLeaves_L1 : (List Tapi_Call) → (List Tapi_Spot) → Int → Option (Bool)) (s2 : List Tapi_Spot) : Option (Bool) :=
  K_g_w06_BerthLeaves_L5 s2 (w64 (k3 + 1))

def g_w06_BerthLeaves_L5 (N : Nat) (p : Tkeelblocklaw06_Plan) (rLeaveOrder : (List ByteArray) × Int) (spots : List Tapi_Spot) (i : Int) (c4 : List Tapi_Call) (K_g_w06_BerthLeaves_L1 : (List Tapi_Call) → (List Tapi_Spot) → Int → Option (Bool)) : Nat → (List Tapi_Spot) → Int → Option (Bool)
  | 0, _, _ => none
  | fuel + 1, s, k3 =>
    (cond (decide (k3 < ((spots.length : Nat) : Int)))
    ((if 0 ≤ k3 ∧ k3 < ((spots.length : Nat) : Int) then
    (if 0 ≤ i ∧ i < ((rLeaveOrder.1.length : Nat) : Int) then
    (cond (!(streq ((spots.getD ((k3).toNat) Tapi_Spot.d).f_Call) (rLeaveOrder.1.getD ((i).toNat) ByteArray.empty)))
    ((if (s.length + 1) * 32 ≤ 140737488355328 then
    g_w06_BerthLeaves_J6 N p rLeaveOrder spots i c4 k3 (g_w06_BerthLeaves_L5 N p rLeaveOrder spots i c4 K_g_w06_BerthLeaves_L1 fuel) K_g_w06_BerthLeaves_L1 (s ++ ([(spots.getD ((k3).toNat) Tapi_Spot.d)] : List Tapi_Spot))
    else none))
    (g_w06_BerthLeaves_J6 N p rLeaveOrder spots i c4 k3 (g_w06_BerthLeaves_L5 N p rLeaveOrder spots i c4 K_g_w06_BerthLeaves_L1 fuel) K_g_w06_BerthLeaves_L1 s))
    else none)
    else none))
    (K_g_w06_BerthLeaves_L1 c4 s (w64 (i + 1))))

def g_w06_BerthLeaves_L3 (N : Nat) (p : Tkeelblocklaw06_Plan) (rLeaveOrder : (List ByteArray) × Int) (calls : List Tapi_Call) (spots : List Tapi_Spot) (i : Int) (K_g_w06_BerthLeaves_L1 : (List Tapi_Call) → (List Tapi_Spot) → Int → Option (Bool)) : Nat → (List Tapi_Call) → Int → Option (Bool)
  | 0, _, _ => none
  | fuel + 1, c4, k2 =>
    (cond (decide (k2 < ((calls.length : Nat) : Int)))
    ((if 0 ≤ k2 ∧ k2 < ((calls.length : Nat) : Int) then
    (if 0 ≤ i ∧ i < ((rLeaveOrder.1.length : Nat) : Int) then
    (cond (!(streq ((calls.getD ((k2).toNat) Tapi_Call.d).f_Name) (rLeaveOrder.1.getD ((i).toNat) ByteArray.empty)))
    ((if (c4.length + 1) * 80 ≤ 140737488355328 then
    g_w06_BerthLeaves_J4 N p rLeaveOrder calls spots i k2 (g_w06_BerthLeaves_L3 N p rLeaveOrder calls spots i K_g_w06_BerthLeaves_L1 fuel) K_g_w06_BerthLeaves_L1 (c4 ++ ([(calls.getD ((k2).toNat) Tapi_Call.d)] : List Tapi_Call))
    else none))
    (g_w06_BerthLeaves_J4 N p rLeaveOrder calls spots i k2 (g_w06_BerthLeaves_L3 N p rLeaveOrder calls spots i K_g_w06_BerthLeaves_L1 fuel) K_g_w06_BerthLeaves_L1 c4))
    else none)
    else none))
    (g_w06_BerthLeaves_L5 N p rLeaveOrder spots i c4 K_g_w06_BerthLeaves_L1 N ([] : List Tapi_Spot) 0))

def g_w06_BerthLeaves_L2 (N : Nat) (p : Tkeelblocklaw06_Plan) (rLeaveOrder : (List ByteArray) × Int) (calls : List Tapi_Call) (spots : List Tapi_Spot) (i : Int) (rBlocks : (List TS__2_string) × Int) (K_g_w06_BerthLeaves_L1 : (List Tapi_Call) → (List Tapi_Spot) → Int → Option (Bool)) : Nat → Int → Option (Bool)
  | 0, _ => none
  | fuel + 1, k =>
    (cond (decide (k < ((rBlocks.1.length : Nat) : Int)))
    ((if 0 ≤ k ∧ k < ((rBlocks.1.length : Nat) : Int) then
    (if 0 ≤ i ∧ i < ((rLeaveOrder.1.length : Nat) : Int) then
    (cond (streq ((rBlocks.1.getD ((k).toNat) TS__2_string.d).e1) (rLeaveOrder.1.getD ((i).toNat) ByteArray.empty))
    (some false)
    (g_w06_BerthLeaves_L2 N p rLeaveOrder calls spots i rBlocks K_g_w06_BerthLeaves_L1 fuel (w64 (k + 1))))
    else none)
    else none))
    (g_w06_BerthLeaves_L3 N p rLeaveOrder calls spots i K_g_w06_BerthLeaves_L1 N ([] : List Tapi_Call) 0))

def g_w06_BerthLeaves_L1 (N : Nat) (p : Tkeelblocklaw06_Plan) (rLeaveOrder : (List ByteArray) × Int) : Nat → (List Tapi_Call) → (List Tapi_Spot) → Int → Option (Bool)
  | 0, _, _, _ => none
  | fuel + 1, calls, spots, i =>
    (cond (decide (i < ((rLeaveOrder.1.length : Nat) : Int)))
    (((g_berth_Blocks N p.f_Dock calls spots).bind fun rBlocks =>
    (if ((!(rBlocks.2 != 0)) = true → 0 ≤ i ∧ i < ((rLeaveOrder.1.length : Nat) : Int)) then
    ((cond (!(rBlocks.2 != 0)) (g_r06_CallOf N calls (rLeaveOrder.1.getD ((i).toNat) ByteArray.empty)) (some 0)).bind fun rCallOf =>
    (cond (cond (rBlocks.2 != 0) true (decide (rCallOf < 0)))
    (some false)
    (g_w06_BerthLeaves_L2 N p rLeaveOrder calls spots i rBlocks (g_w06_BerthLeaves_L1 N p rLeaveOrder fuel) N 0)))
    else none)))
    (((g_berth_CheckPlan N p.f_Dock calls spots).bind fun rCheckPlan2 =>
    some (rCheckPlan2 == 0))))

/-- keelblock/keelblocklaw06.BerthLeaves -/
def g_w06_BerthLeaves (N : Nat) (p : Tkeelblocklaw06_Plan) : Option (Bool) :=
  ((g_w06_awake N).bind fun rawake =>
  (cond (!rawake)
  (some false)
  (((g_w06_Plan_short N p).bind fun rshort =>
  ((cond (!(!rshort)) (g_berth_CheckPlan N p.f_Dock p.f_Calls p.f_Spots) (some 0)).bind fun rCheckPlan =>
  (cond (cond (!rshort) true (rCheckPlan != 0))
  (some true)
  (((g_berth_LeaveOrder N p.f_Dock p.f_Calls p.f_Spots).bind fun rLeaveOrder =>
  (cond (cond (rLeaveOrder.2 != 0) true (((rLeaveOrder.1.length : Nat) : Int) != ((p.f_Calls.length : Nat) : Int)))
  (some false)
  (g_w06_BerthLeaves_L1 N p rLeaveOrder N p.f_Calls p.f_Spots 0))))))))))

end Go.Den
