/- The functions of the program as Lean functions, each in the Option monad; N bounds the rounds of loops. No conditions. -/
import Derived.Test.YtnehpafecdmceaaCc

set_option linter.unusedVariables false
set_option linter.unusedSimpArgs false
set_option linter.unusedVariables false
namespace Go.Den
open Go.Ab

/-- api.Area -/
structure Tapi_Area where
  f_From : Int
  f_Size : Int
def Tapi_Area.d : Tapi_Area := ⟨0, 0⟩
def Tapi_Area.wf (x : Tapi_Area) : Prop := wI x.f_From ∧ wI x.f_Size
def Tapi_Area.cells (x : Tapi_Area) : List AV := [(aI x.f_From), (aI x.f_Size)]
/-- api.Basin -/
structure Tapi_Basin where
  f_Name : ByteArray
  f_Areas : List Tapi_Area
  f_Rim : Int
def Tapi_Basin.d : Tapi_Basin := ⟨ByteArray.empty, [], 0⟩
def Tapi_Basin.wf (x : Tapi_Basin) : Prop := wS x.f_Name ∧ (wL Tapi_Area.wf) x.f_Areas ∧ wI x.f_Rim
def Tapi_Basin.cells (x : Tapi_Basin) : List AV := [(aS x.f_Name), (encL Tapi_Area.cells Tapi_Area.d x.f_Areas), (aI x.f_Rim)]
/-- api.Mark -/
structure Tapi_Mark where
  f_Minute : Int
  f_Level : Int
def Tapi_Mark.d : Tapi_Mark := ⟨0, 0⟩
def Tapi_Mark.wf (x : Tapi_Mark) : Prop := wI x.f_Minute ∧ wI x.f_Level
def Tapi_Mark.cells (x : Tapi_Mark) : List AV := [(aI x.f_Minute), (aI x.f_Level)]
/-- api.Link -/
structure Tapi_Link where
  f_Name : ByteArray
  f_Kind : Int
  f_From : ByteArray
  f_To : ByteArray
  f_Sill : Int
  f_Rate : Int
  f_Factor : Int
  f_Lift : Int
def Tapi_Link.d : Tapi_Link := ⟨ByteArray.empty, 0, ByteArray.empty, ByteArray.empty, 0, 0, 0, 0⟩
def Tapi_Link.wf (x : Tapi_Link) : Prop := wS x.f_Name ∧ wI x.f_Kind ∧ wS x.f_From ∧ wS x.f_To ∧ wI x.f_Sill ∧ wI x.f_Rate ∧ wI x.f_Factor ∧ wI x.f_Lift
def Tapi_Link.cells (x : Tapi_Link) : List AV := [(aS x.f_Name), (aI x.f_Kind), (aS x.f_From), (aS x.f_To), (aI x.f_Sill), (aI x.f_Rate), (aI x.f_Factor), (aI x.f_Lift)]
/-- api.Network -/
structure Tapi_Network where
  f_Basins : List Tapi_Basin
  f_Sea : List Tapi_Mark
  f_Links : List Tapi_Link
def Tapi_Network.d : Tapi_Network := ⟨[], [], []⟩
def Tapi_Network.wf (x : Tapi_Network) : Prop := (wL Tapi_Basin.wf) x.f_Basins ∧ (wL Tapi_Mark.wf) x.f_Sea ∧ (wL Tapi_Link.wf) x.f_Links
def Tapi_Network.cells (x : Tapi_Network) : List AV := [(encL Tapi_Basin.cells Tapi_Basin.d x.f_Basins), (encL Tapi_Mark.cells Tapi_Mark.d x.f_Sea), (encL Tapi_Link.cells Tapi_Link.d x.f_Links)]
/-- api.Water -/
structure Tapi_Water where
  f_Minute : Int
  f_Litres : List Int
  f_Open : List Bool
def Tapi_Water.d : Tapi_Water := ⟨0, [], []⟩
def Tapi_Water.wf (x : Tapi_Water) : Prop := wI x.f_Minute ∧ (wL wI) x.f_Litres ∧ (wL wB) x.f_Open
def Tapi_Water.cells (x : Tapi_Water) : List AV := [(aI x.f_Minute), (encL cI 0 x.f_Litres), (encL cB false x.f_Open)]
/-- api.Turn -/
structure Tapi_Turn where
  f_Minute : Int
  f_Link : ByteArray
  f_Open : Bool
def Tapi_Turn.d : Tapi_Turn := ⟨0, ByteArray.empty, false⟩
def Tapi_Turn.wf (x : Tapi_Turn) : Prop := wI x.f_Minute ∧ wS x.f_Link ∧ wB x.f_Open
def Tapi_Turn.cells (x : Tapi_Turn) : List AV := [(aI x.f_Minute), (aS x.f_Link), (aB x.f_Open)]
/-- keelblocklaw05.Case -/
structure Tkeelblocklaw05_Case where
  f_N : Tapi_Network
  f_W : Tapi_Water
  f_Turns : List Tapi_Turn
def Tkeelblocklaw05_Case.d : Tkeelblocklaw05_Case := ⟨Tapi_Network.d, Tapi_Water.d, []⟩
def Tkeelblocklaw05_Case.wf (x : Tkeelblocklaw05_Case) : Prop := Tapi_Network.wf x.f_N ∧ Tapi_Water.wf x.f_W ∧ (wL Tapi_Turn.wf) x.f_Turns
def Tkeelblocklaw05_Case.cells (x : Tkeelblocklaw05_Case) : List AV := [(encL Tapi_Basin.cells Tapi_Basin.d x.f_N.f_Basins), (encL Tapi_Mark.cells Tapi_Mark.d x.f_N.f_Sea), (encL Tapi_Link.cells Tapi_Link.d x.f_N.f_Links), (aI x.f_W.f_Minute), (encL cI 0 x.f_W.f_Litres), (encL cB false x.f_W.f_Open), (encL Tapi_Turn.cells Tapi_Turn.d x.f_Turns)]
/-- water.side -/
structure Twater_side where
  f_basin : Option Tapi_Basin
  f_litres : Int
  f_sea : Int
def Twater_side.d : Twater_side := ⟨none, 0, 0⟩
def Twater_side.wf (x : Twater_side) : Prop := (fun _ => True) x.f_basin ∧ wI x.f_litres ∧ wI x.f_sea
def Twater_side.cells (x : Twater_side) : List AV := [(.pt x.f_basin.isSome (Tapi_Basin.cells (x.f_basin.getD Tapi_Basin.d))), (aI x.f_litres), (aI x.f_sea)]
/-- api.CourseOf -/
structure Tapi_CourseOf where
  f_Basin : ByteArray
  f_Every : Int
  f_Count : Int
def Tapi_CourseOf.d : Tapi_CourseOf := ⟨ByteArray.empty, 0, 0⟩
def Tapi_CourseOf.wf (x : Tapi_CourseOf) : Prop := wS x.f_Basin ∧ wI x.f_Every ∧ wI x.f_Count
def Tapi_CourseOf.cells (x : Tapi_CourseOf) : List AV := [(aS x.f_Basin), (aI x.f_Every), (aI x.f_Count)]
/-- api.Target -/
structure Tapi_Target where
  f_Basin : ByteArray
  f_Level : Int
  f_Within : Int
  f_Rising : Bool
def Tapi_Target.d : Tapi_Target := ⟨ByteArray.empty, 0, 0, false⟩
def Tapi_Target.wf (x : Tapi_Target) : Prop := wS x.f_Basin ∧ wI x.f_Level ∧ wI x.f_Within ∧ wB x.f_Rising
def Tapi_Target.cells (x : Tapi_Target) : List AV := [(aS x.f_Basin), (aI x.f_Level), (aI x.f_Within), (aB x.f_Rising)]

/-- keelblock/keelblocklaw05.tub -/
def g_w05_tub (N : Nat) : Option (Tapi_Basin) :=
  some (⟨(⟨#[65]⟩ : ByteArray), ([(⟨0, 100⟩ : Tapi_Area), (⟨1000, 200⟩ : Tapi_Area)] : List Tapi_Area), 3000⟩ : Tapi_Basin)

/-- keelblock/water.between -/
def g_water_between (N : Nat) (n : Int) (low : Int) (high : Int) : Option (Bool) :=
  some (cond (decide (n ≥ low)) (decide (n ≤ high)) false)

def g_water_isName_L1 (N : Nat) (s : ByteArray) : Nat → Int → Option (Bool)
  | 0, _ => none
  | fuel + 1, x =>
    (cond (decide (x < ((s.size : Nat) : Int)))
    ((if 0 ≤ x ∧ x < (((bytesL s).length : Nat) : Int) then
    (cond (cond (!(cond (cond (decide (((bytesL s).getD ((x).toNat) 0) ≥ 97)) (decide (((bytesL s).getD ((x).toNat) 0) ≤ 122)) false) true (cond (decide (((bytesL s).getD ((x).toNat) 0) ≥ 65)) (decide (((bytesL s).getD ((x).toNat) 0) ≤ 90)) false))) (cond (x == 0) true (cond (((bytesL s).getD ((x).toNat) 0) != 45) (cond (decide (((bytesL s).getD ((x).toNat) 0) < 48)) true (decide (((bytesL s).getD ((x).toNat) 0) > 57))) false)) false)
    (some false)
    (g_water_isName_L1 N s fuel (w64 (x + 1))))
    else none))
    (some true))

/-- keelblock/water.isName -/
def g_water_isName (N : Nat) (s : ByteArray) : Option (Bool) :=
  ((g_water_between N ((s.size : Nat) : Int) 1 12).bind fun rbetween =>
  (cond (!rbetween)
  (some false)
  (g_water_isName_L1 N s N 0)))

def g_water_checkForm_L1 (N : Nat) (b : Tapi_Basin) : Nat → Int → Option (Int)
  | 0, _ => none
  | fuel + 1, x =>
    (cond (decide (x < ((b.f_Areas.length : Nat) : Int)))
    ((if 0 ≤ x ∧ x < ((b.f_Areas.length : Nat) : Int) then
    ((g_water_between N ((b.f_Areas.getD ((x).toNat) Tapi_Area.d).f_From) (-1000000) 1000000).bind fun rbetween2 =>
    ((cond (!(!rbetween2)) (g_water_between N ((b.f_Areas.getD ((x).toNat) Tapi_Area.d).f_Size) 1 1000000) (some false)).bind fun rbetween3 =>
    (cond (cond (!rbetween2) true (!rbetween3))
    (some 2)
    ((if ((decide (x > 0)) = true → 0 ≤ (w64 (x - 1)) ∧ (w64 (x - 1)) < ((b.f_Areas.length : Nat) : Int)) then
    (cond (cond (decide (x > 0)) (decide ((b.f_Areas.getD ((x).toNat) Tapi_Area.d).f_From ≤ (b.f_Areas.getD ((w64 (x - 1)).toNat) Tapi_Area.d).f_From)) false)
    (some 10)
    (g_water_checkForm_L1 N b fuel (w64 (x + 1))))
    else none)))))
    else none))
    ((if 0 ≤ (w64 (((b.f_Areas.length : Nat) : Int) - 1)) ∧ (w64 (((b.f_Areas.length : Nat) : Int) - 1)) < ((b.f_Areas.length : Nat) : Int) then
    (cond (cond (decide (b.f_Rim ≤ (b.f_Areas.getD ((w64 (((b.f_Areas.length : Nat) : Int) - 1)).toNat) Tapi_Area.d).f_From)) true (decide (b.f_Rim > 1000000)))
    (some 2)
    (some 0))
    else none)))

/-- keelblock/water.checkForm -/
def g_water_checkForm (N : Nat) (b : Tapi_Basin) : Option (Int) :=
  ((g_water_between N ((b.f_Areas.length : Nat) : Int) 1 20).bind fun rbetween =>
  (cond (!rbetween)
  (some 2)
  (g_water_checkForm_L1 N b N 0)))

/-- keelblock/water.CheckBasin -/
def g_water_CheckBasin (N : Nat) (b : Tapi_Basin) : Option (Int) :=
  ((g_water_isName N b.f_Name).bind fun risName =>
  (cond (!risName)
  (some 4)
  (((g_water_checkForm N b).bind fun rcheckForm =>
  some rcheckForm))))

/-- keelblock/water.floor -/
def g_water_floor (N : Nat) (b : Tapi_Basin) : Option (Int) :=
  (if 0 ≤ (0 : Int) ∧ 0 < ((b.f_Areas.length : Nat) : Int) then
  some ((b.f_Areas.getD 0 Tapi_Area.d).f_From)
  else none)

def g_water_volume_J2 (N : Nat) (b : Tapi_Basin) (level : Int) (sum : Int) (x : Int) (K_g_water_volume_L1 : Int → Int → Option (Int)) (top : Int) : Option (Int) :=
  K_g_water_volume_L1 (w64 (sum + (w64 ((b.f_Areas.getD ((x).toNat) Tapi_Area.d).f_Size * (if (w64 (top - (b.f_Areas.getD ((x).toNat) Tapi_Area.d).f_From)) > 0 then (w64 (top - (b.f_Areas.getD ((x).toNat) Tapi_Area.d).f_From)) else 0))))) (w64 (x + 1))

def g_water_volume_L1 (N : Nat) (b : Tapi_Basin) (level : Int) : Nat → Int → Int → Option (Int)
  | 0, _, _ => none
  | fuel + 1, sum, x =>
    (cond (decide (x < ((b.f_Areas.length : Nat) : Int)))
    ((if 0 ≤ x ∧ x < ((b.f_Areas.length : Nat) : Int) then
    (cond (decide ((w64 (x + 1)) < ((b.f_Areas.length : Nat) : Int)))
    ((if 0 ≤ (w64 (x + 1)) ∧ (w64 (x + 1)) < ((b.f_Areas.length : Nat) : Int) then
    g_water_volume_J2 N b level sum x (g_water_volume_L1 N b level fuel) (if (b.f_Areas.getD ((w64 (x + 1)).toNat) Tapi_Area.d).f_From < level then (b.f_Areas.getD ((w64 (x + 1)).toNat) Tapi_Area.d).f_From else level)
    else none))
    (g_water_volume_J2 N b level sum x (g_water_volume_L1 N b level fuel) level))
    else none))
    (some sum))

/-- keelblock/water.volume -/
def g_water_volume (N : Nat) (b : Tapi_Basin) (level : Int) : Option (Int) :=
  g_water_volume_L1 N b level N 0 0

/-- keelblock/water.Volume -/
def g_water_Volume (N : Nat) (b : Tapi_Basin) (level : Int) : Option (Int × Int) :=
  ((g_water_CheckBasin N b).bind fun rCheckBasin =>
  (cond (rCheckBasin != 0)
  (some (0, rCheckBasin))
  (((g_water_floor N b).bind fun rfloor =>
  ((g_water_between N level rfloor b.f_Rim).bind fun rbetween =>
  (cond (!rbetween)
  (some (0, 2))
  (((g_water_volume N b level).bind fun rvolume =>
  some (rvolume, 0)))))))))

def g_water_levelOf_J2 (N : Nat) (b : Tapi_Basin) (litres2 : Int) (x : Int) (K_g_water_levelOf_L1 : Int → Int → Int → Option (Int)) (top : Int) : Option (Int) :=
  (cond (decide (litres2 < (w64 ((b.f_Areas.getD ((x).toNat) Tapi_Area.d).f_Size * (w64 (top - (b.f_Areas.getD ((x).toNat) Tapi_Area.d).f_From))))))
  ((if ((b.f_Areas.getD ((x).toNat) Tapi_Area.d).f_Size : Int) ≠ 0 then
  some (w64 ((b.f_Areas.getD ((x).toNat) Tapi_Area.d).f_From + (w64 (litres2.tdiv ((b.f_Areas.getD ((x).toNat) Tapi_Area.d).f_Size)))))
  else none))
  (K_g_water_levelOf_L1 (w64 (litres2 - (w64 ((b.f_Areas.getD ((x).toNat) Tapi_Area.d).f_Size * (w64 (top - (b.f_Areas.getD ((x).toNat) Tapi_Area.d).f_From)))))) top (w64 (x + 1))))

def g_water_levelOf_L1 (N : Nat) (b : Tapi_Basin) : Nat → Int → Int → Int → Option (Int)
  | 0, _, _, _ => none
  | fuel + 1, litres2, level, x =>
    (cond (decide (x < ((b.f_Areas.length : Nat) : Int)))
    ((if 0 ≤ x ∧ x < ((b.f_Areas.length : Nat) : Int) then
    (cond (decide ((w64 (x + 1)) < ((b.f_Areas.length : Nat) : Int)))
    ((if 0 ≤ (w64 (x + 1)) ∧ (w64 (x + 1)) < ((b.f_Areas.length : Nat) : Int) then
    g_water_levelOf_J2 N b litres2 x (g_water_levelOf_L1 N b fuel) ((b.f_Areas.getD ((w64 (x + 1)).toNat) Tapi_Area.d).f_From)
    else none))
    (g_water_levelOf_J2 N b litres2 x (g_water_levelOf_L1 N b fuel) b.f_Rim))
    else none))
    (some level))

/-- keelblock/water.levelOf -/
def g_water_levelOf (N : Nat) (b : Tapi_Basin) (litres : Int) : Option (Int) :=
  ((g_water_floor N b).bind fun rfloor =>
  g_water_levelOf_L1 N b N litres rfloor 0)

/-- keelblock/water.Level -/
def g_water_Level (N : Nat) (b : Tapi_Basin) (litres : Int) : Option (Int × Int) :=
  ((g_water_CheckBasin N b).bind fun rCheckBasin =>
  (cond (rCheckBasin != 0)
  (some (0, rCheckBasin))
  (((g_water_volume N b b.f_Rim).bind fun rvolume =>
  ((g_water_between N litres 0 rvolume).bind fun rbetween =>
  (cond (!rbetween)
  (some (0, 2))
  (((g_water_levelOf N b litres).bind fun rlevelOf =>
  some (rlevelOf, 0)))))))))

/-- keelblock/keelblocklaw05.awake -/
def g_w05_awake (N : Nat) : Option (Bool) :=
  ((g_w05_tub N).bind fun rtub =>
  ((g_water_Volume N rtub 1500).bind fun rVolume =>
  ((g_w05_tub N).bind fun rtub2 =>
  ((g_water_Level N rtub2 100199).bind fun rLevel =>
  some (cond (cond (cond (rVolume.2 == 0) (rVolume.1 == 200000) false) (rLevel.2 == 0) false) (rLevel.1 == 1000) false)))))

def g_keelblockbase_IsName_L1 (N : Nat) (s : ByteArray) : Nat → Int → Option (Bool)
  | 0, _ => none
  | fuel + 1, i =>
    (cond (decide (i < ((s.size : Nat) : Int)))
    ((if 0 ≤ i ∧ i < ((s.size : Nat) : Int) then
    (cond (cond (!(cond (cond (decide ((byteAt s ((i).toNat)) ≥ 97)) (decide ((byteAt s ((i).toNat)) ≤ 122)) false) true (cond (decide ((byteAt s ((i).toNat)) ≥ 65)) (decide ((byteAt s ((i).toNat)) ≤ 90)) false))) (cond (i == 0) true (cond ((byteAt s ((i).toNat)) != 45) (cond (decide ((byteAt s ((i).toNat)) < 48)) true (decide ((byteAt s ((i).toNat)) > 57))) false)) false)
    (some false)
    (g_keelblockbase_IsName_L1 N s fuel (w64 (i + 1))))
    else none))
    (some true))

/-- keelblock/keelblockbase.IsName -/
def g_keelblockbase_IsName (N : Nat) (s : ByteArray) : Option (Bool) :=
  (cond (cond (decide (((s.size : Nat) : Int) < 1)) true (decide (((s.size : Nat) : Int) > 12)))
  (some false)
  (g_keelblockbase_IsName_L1 N s N 0))

/-- keelblock/keelblockref05.inside -/
def g_r05_inside (N : Nat) (n : Int) (low : Int) (high : Int) : Option (Bool) :=
  some (cond (decide (n ≥ low)) (decide (n ≤ high)) false)

def g_r05_CheckBasin_L1 (N : Nat) (b : Tapi_Basin) : Nat → Int → Option (Int)
  | 0, _ => none
  | fuel + 1, i =>
    (cond (decide (i < ((b.f_Areas.length : Nat) : Int)))
    ((if 0 ≤ i ∧ i < ((b.f_Areas.length : Nat) : Int) then
    ((g_r05_inside N ((b.f_Areas.getD ((i).toNat) Tapi_Area.d).f_From) (-1000000) 1000000).bind fun rinside =>
    ((cond (!(!rinside)) (g_r05_inside N ((b.f_Areas.getD ((i).toNat) Tapi_Area.d).f_Size) 1 1000000) (some false)).bind fun rinside2 =>
    (cond (cond (!rinside) true (!rinside2))
    (some 2)
    ((if ((decide (i > 0)) = true → 0 ≤ (w64 (i - 1)) ∧ (w64 (i - 1)) < ((b.f_Areas.length : Nat) : Int)) then
    (cond (cond (decide (i > 0)) (decide ((b.f_Areas.getD ((i).toNat) Tapi_Area.d).f_From ≤ (b.f_Areas.getD ((w64 (i - 1)).toNat) Tapi_Area.d).f_From)) false)
    (some 10)
    (g_r05_CheckBasin_L1 N b fuel (w64 (i + 1))))
    else none)))))
    else none))
    ((if 0 ≤ (w64 (((b.f_Areas.length : Nat) : Int) - 1)) ∧ (w64 (((b.f_Areas.length : Nat) : Int) - 1)) < ((b.f_Areas.length : Nat) : Int) then
    (cond (cond (decide (b.f_Rim ≤ (b.f_Areas.getD ((w64 (((b.f_Areas.length : Nat) : Int) - 1)).toNat) Tapi_Area.d).f_From)) true (decide (b.f_Rim > 1000000)))
    (some 2)
    (some 0))
    else none)))

/-- keelblock/keelblockref05.CheckBasin -/
def g_r05_CheckBasin (N : Nat) (b : Tapi_Basin) : Option (Int) :=
  ((g_keelblockbase_IsName N b.f_Name).bind fun rIsName =>
  (cond (!rIsName)
  (some 4)
  ((cond (cond (((b.f_Areas.length : Nat) : Int) == 0) true (decide (((b.f_Areas.length : Nat) : Int) > 20)))
  (some 2)
  (g_r05_CheckBasin_L1 N b N 0)))))

/-- keelblock/keelblockref05.Floor -/
def g_r05_Floor (N : Nat) (b : Tapi_Basin) : Option (Int) :=
  (if 0 ≤ (0 : Int) ∧ 0 < ((b.f_Areas.length : Nat) : Int) then
  some ((b.f_Areas.getD 0 Tapi_Area.d).f_From)
  else none)

def g_r05_Below_J3 (N : Nat) (b : Tapi_Basin) (level : Int) (i : Int) (K_g_r05_Below_L1 : Int → Int → Option (Int)) (sum2 : Int) : Option (Int) :=
  K_g_r05_Below_L1 sum2 (w64 (i + 1))

def g_r05_Below_J2 (N : Nat) (b : Tapi_Basin) (level : Int) (sum : Int) (i : Int) (K_g_r05_Below_L1 : Int → Int → Option (Int)) (top : Int) : Option (Int) :=
  (if 0 ≤ i ∧ i < ((b.f_Areas.length : Nat) : Int) then
  (cond (decide (top > (b.f_Areas.getD ((i).toNat) Tapi_Area.d).f_From))
  (g_r05_Below_J3 N b level i K_g_r05_Below_L1 (w64 (sum + (w64 ((b.f_Areas.getD ((i).toNat) Tapi_Area.d).f_Size * (w64 (top - (b.f_Areas.getD ((i).toNat) Tapi_Area.d).f_From)))))))
  (g_r05_Below_J3 N b level i K_g_r05_Below_L1 sum))
  else none)

def g_r05_Below_L1 (N : Nat) (b : Tapi_Basin) (level : Int) : Nat → Int → Int → Option (Int)
  | 0, _, _ => none
  | fuel + 1, sum, i =>
    (cond (decide (i < ((b.f_Areas.length : Nat) : Int)))
    ((cond (decide ((w64 (i + 1)) < ((b.f_Areas.length : Nat) : Int)))
    ((if 0 ≤ (w64 (i + 1)) ∧ (w64 (i + 1)) < ((b.f_Areas.length : Nat) : Int) then
    g_r05_Below_J2 N b level sum i (g_r05_Below_L1 N b level fuel) (if (b.f_Areas.getD ((w64 (i + 1)).toNat) Tapi_Area.d).f_From < level then (b.f_Areas.getD ((w64 (i + 1)).toNat) Tapi_Area.d).f_From else level)
    else none))
    (g_r05_Below_J2 N b level sum i (g_r05_Below_L1 N b level fuel) level)))
    (some sum))

/-- keelblock/keelblockref05.Below -/
def g_r05_Below (N : Nat) (b : Tapi_Basin) (level : Int) : Option (Int) :=
  g_r05_Below_L1 N b level N 0 0

/-- keelblock/keelblockref05.Volume -/
def g_r05_Volume (N : Nat) (b : Tapi_Basin) (level : Int) : Option (Int × Int) :=
  ((g_r05_CheckBasin N b).bind fun rCheckBasin =>
  (cond (rCheckBasin != 0)
  (some (0, rCheckBasin))
  (((g_r05_Floor N b).bind fun rFloor =>
  ((g_r05_inside N level rFloor b.f_Rim).bind fun rinside =>
  (cond (!rinside)
  (some (0, 2))
  (((g_r05_Below N b level).bind fun rBelow =>
  some (rBelow, 0)))))))))

/-- keelblock/keelblockref05.Capacity -/
def g_r05_Capacity (N : Nat) (b : Tapi_Basin) : Option (Int) :=
  ((g_r05_Below N b b.f_Rim).bind fun rBelow =>
  some rBelow)

def g_r05_LevelOf_L1 (N : Nat) (b : Tapi_Basin) (litres : Int) : Nat → Int → Int → Option (Int)
  | 0, _, _ => none
  | fuel + 1, low, high =>
    (cond (decide (low < high))
    (((g_r05_Below N b (w64 (low + (w64 ((w64 ((w64 (high - low)) + 1)).tdiv 2))))).bind fun rBelow =>
    (cond (decide (rBelow ≤ litres))
    (g_r05_LevelOf_L1 N b litres fuel (w64 (low + (w64 ((w64 ((w64 (high - low)) + 1)).tdiv 2)))) high)
    (g_r05_LevelOf_L1 N b litres fuel low (w64 ((w64 (low + (w64 ((w64 ((w64 (high - low)) + 1)).tdiv 2)))) - 1))))))
    (some low))

/-- keelblock/keelblockref05.LevelOf -/
def g_r05_LevelOf (N : Nat) (b : Tapi_Basin) (litres : Int) : Option (Int) :=
  ((g_r05_Floor N b).bind fun rFloor =>
  g_r05_LevelOf_L1 N b litres N rFloor b.f_Rim)

/-- keelblock/keelblockref05.Level -/
def g_r05_Level (N : Nat) (b : Tapi_Basin) (litres : Int) : Option (Int × Int) :=
  ((g_r05_CheckBasin N b).bind fun rCheckBasin =>
  (cond (rCheckBasin != 0)
  (some (0, rCheckBasin))
  (((g_r05_Capacity N b).bind fun rCapacity =>
  ((g_r05_inside N litres 0 rCapacity).bind fun rinside =>
  (cond (!rinside)
  (some (0, 2))
  (((g_r05_LevelOf N b litres).bind fun rLevelOf =>
  some (rLevelOf, 0)))))))))

/-- keelblock/keelblocklaw05.WaterBasins -/
def g_w05_WaterBasins (N : Nat) (b : Tapi_Basin) (level : Int) (litres : Int) : Option (Bool) :=
  ((g_w05_awake N).bind fun rawake =>
  (cond (!rawake)
  (some false)
  ((cond (cond (decide (((b.f_Areas.length : Nat) : Int) > 40)) true (decide (((b.f_Name.size : Nat) : Int) > 40)))
  (some true)
  (((g_water_Volume N b level).bind fun rVolume =>
  ((g_r05_Volume N b level).bind fun rVolume2 =>
  ((g_water_Level N b litres).bind fun rLevel =>
  ((g_r05_Level N b litres).bind fun rLevel2 =>
  ((g_water_CheckBasin N b).bind fun rCheckBasin =>
  ((g_r05_CheckBasin N b).bind fun rCheckBasin2 =>
  some (cond (cond (cond (cond (rCheckBasin == rCheckBasin2) (rVolume.1 == rVolume2.1) false) (rVolume.2 == rVolume2.2) false) (rLevel.1 == rLevel2.1) false) (rLevel.2 == rLevel2.2) false))))))))))))

def g_water_CheckSea_L1 (N : Nat) (m : List Tapi_Mark) : Nat → Int → Option (Int)
  | 0, _ => none
  | fuel + 1, x =>
    (cond (decide (x < ((m.length : Nat) : Int)))
    ((if 0 ≤ x ∧ x < ((m.length : Nat) : Int) then
    ((g_water_between N ((m.getD ((x).toNat) Tapi_Mark.d).f_Minute) 0 1000000).bind fun rbetween =>
    ((cond (!(!rbetween)) (g_water_between N ((m.getD ((x).toNat) Tapi_Mark.d).f_Level) (-1000000) 1000000) (some false)).bind fun rbetween2 =>
    (cond (cond (!rbetween) true (!rbetween2))
    (some 2)
    ((if ((decide (x > 0)) = true → 0 ≤ (w64 (x - 1)) ∧ (w64 (x - 1)) < ((m.length : Nat) : Int)) then
    (cond (cond (decide (x > 0)) (decide ((m.getD ((x).toNat) Tapi_Mark.d).f_Minute ≤ (m.getD ((w64 (x - 1)).toNat) Tapi_Mark.d).f_Minute)) false)
    (some 10)
    (g_water_CheckSea_L1 N m fuel (w64 (x + 1))))
    else none)))))
    else none))
    (some 0))

/-- keelblock/water.CheckSea -/
def g_water_CheckSea (N : Nat) (m : List Tapi_Mark) : Option (Int) :=
  (cond (decide (((m.length : Nat) : Int) > 400))
  (some 8)
  (g_water_CheckSea_L1 N m N 0))

/-- keelblock/water.tide 1 -/
def g_water_tide_1 (N : Nat) (i : Int) (cap0 : List Tapi_Mark) (cap1 : Int) : Option (Bool) :=
  (if 0 ≤ i ∧ i < ((cap0.length : Nat) : Int) then
  some (decide ((cap0.getD ((i).toNat) Tapi_Mark.d).f_Minute > cap1))
  else none)

def g_sort_Search_L1 (N : Nat) (cap0 : List Tapi_Mark) (cap1 : Int) : Nat → Int → Int → Option (Int)
  | 0, _, _ => none
  | fuel + 1, i, j =>
    (cond (decide (i < j))
    (((g_water_tide_1 N (w64 ((shrI .u64 (IntKind.u64.wrap ((w64 (i + j)))) 1))) cap0 cap1).bind fun rtide1 =>
    (cond (!rtide1)
    (g_sort_Search_L1 N cap0 cap1 fuel (w64 ((w64 ((shrI .u64 (IntKind.u64.wrap ((w64 (i + j)))) 1))) + 1)) j)
    (g_sort_Search_L1 N cap0 cap1 fuel i (w64 ((shrI .u64 (IntKind.u64.wrap ((w64 (i + j)))) 1)))))))
    (some i))

/-- sort.Search -/
def g_sort_Search (N : Nat) (n : Int) (cap0 : List Tapi_Mark) (cap1 : Int) : Option (Int) :=
  g_sort_Search_L1 N cap0 cap1 N 0 n

def g_water_tide_J1 (N : Nat) (m : List Tapi_Mark) (rSearch : Int) (down : Int) : Option (Int) :=
  some (w64 ((m.getD ((w64 (rSearch - 1)).toNat) Tapi_Mark.d).f_Level + down))

/-- keelblock/water.tide -/
def g_water_tide (N : Nat) (m : List Tapi_Mark) (minute : Int) : Option (Int) :=
  ((g_sort_Search N ((m.length : Nat) : Int) m minute).bind fun rSearch =>
  (cond (rSearch == 0)
  ((if 0 ≤ (0 : Int) ∧ 0 < ((m.length : Nat) : Int) then
  some ((m.getD 0 Tapi_Mark.d).f_Level)
  else none))
  ((cond (rSearch == ((m.length : Nat) : Int))
  ((if 0 ≤ (w64 (rSearch - 1)) ∧ (w64 (rSearch - 1)) < ((m.length : Nat) : Int) then
  some ((m.getD ((w64 (rSearch - 1)).toNat) Tapi_Mark.d).f_Level)
  else none))
  ((if 0 ≤ (w64 (rSearch - 1)) ∧ (w64 (rSearch - 1)) < ((m.length : Nat) : Int) then
  (if 0 ≤ rSearch ∧ rSearch < ((m.length : Nat) : Int) then
  (if ((w64 ((m.getD ((rSearch).toNat) Tapi_Mark.d).f_Minute - (m.getD ((w64 (rSearch - 1)).toNat) Tapi_Mark.d).f_Minute)) : Int) ≠ 0 then
  (cond (decide (((w64 ((w64 ((m.getD ((rSearch).toNat) Tapi_Mark.d).f_Level - (m.getD ((w64 (rSearch - 1)).toNat) Tapi_Mark.d).f_Level)) * (w64 (minute - (m.getD ((w64 (rSearch - 1)).toNat) Tapi_Mark.d).f_Minute)))).tmod (w64 ((m.getD ((rSearch).toNat) Tapi_Mark.d).f_Minute - (m.getD ((w64 (rSearch - 1)).toNat) Tapi_Mark.d).f_Minute))) < 0))
  (g_water_tide_J1 N m rSearch (w64 ((w64 ((w64 ((w64 ((m.getD ((rSearch).toNat) Tapi_Mark.d).f_Level - (m.getD ((w64 (rSearch - 1)).toNat) Tapi_Mark.d).f_Level)) * (w64 (minute - (m.getD ((w64 (rSearch - 1)).toNat) Tapi_Mark.d).f_Minute)))).tdiv (w64 ((m.getD ((rSearch).toNat) Tapi_Mark.d).f_Minute - (m.getD ((w64 (rSearch - 1)).toNat) Tapi_Mark.d).f_Minute)))) - 1)))
  (g_water_tide_J1 N m rSearch (w64 ((w64 ((w64 ((m.getD ((rSearch).toNat) Tapi_Mark.d).f_Level - (m.getD ((w64 (rSearch - 1)).toNat) Tapi_Mark.d).f_Level)) * (w64 (minute - (m.getD ((w64 (rSearch - 1)).toNat) Tapi_Mark.d).f_Minute)))).tdiv (w64 ((m.getD ((rSearch).toNat) Tapi_Mark.d).f_Minute - (m.getD ((w64 (rSearch - 1)).toNat) Tapi_Mark.d).f_Minute))))))
  else none)
  else none)
  else none))))))

/-- keelblock/water.Tide -/
def g_water_Tide (N : Nat) (m : List Tapi_Mark) (minute : Int) : Option (Int × Int) :=
  ((g_water_CheckSea N m).bind fun rCheckSea =>
  (cond (rCheckSea != 0)
  (some (0, rCheckSea))
  (((g_water_between N minute 0 1000000).bind fun rbetween =>
  (cond (!rbetween)
  (some (0, 2))
  ((cond (((m.length : Nat) : Int) == 0)
  (some (0, 29))
  (((g_water_tide N m minute).bind fun rtide =>
  some (rtide, 0))))))))))

def g_r05_CheckSea_L1 (N : Nat) (m : List Tapi_Mark) : Nat → Int → Option (Int)
  | 0, _ => none
  | fuel + 1, i =>
    (cond (decide (i < ((m.length : Nat) : Int)))
    ((if 0 ≤ i ∧ i < ((m.length : Nat) : Int) then
    ((g_r05_inside N ((m.getD ((i).toNat) Tapi_Mark.d).f_Minute) 0 1000000).bind fun rinside =>
    (if ((!(!rinside)) = true → 0 ≤ i ∧ i < ((m.length : Nat) : Int)) then
    ((cond (!(!rinside)) (g_r05_inside N ((m.getD ((i).toNat) Tapi_Mark.d).f_Level) (-1000000) 1000000) (some false)).bind fun rinside2 =>
    (cond (cond (!rinside) true (!rinside2))
    (some 2)
    ((if ((decide (i > 0)) = true → 0 ≤ i ∧ i < ((m.length : Nat) : Int)) then
    (if ((decide (i > 0)) = true → 0 ≤ (w64 (i - 1)) ∧ (w64 (i - 1)) < ((m.length : Nat) : Int)) then
    (cond (cond (decide (i > 0)) (decide ((m.getD ((i).toNat) Tapi_Mark.d).f_Minute ≤ (m.getD ((w64 (i - 1)).toNat) Tapi_Mark.d).f_Minute)) false)
    (some 10)
    (g_r05_CheckSea_L1 N m fuel (w64 (i + 1))))
    else none)
    else none))))
    else none))
    else none))
    (some 0))

/-- keelblock/keelblockref05.CheckSea -/
def g_r05_CheckSea (N : Nat) (m : List Tapi_Mark) : Option (Int) :=
  (cond (decide (((m.length : Nat) : Int) > 400))
  (some 8)
  (g_r05_CheckSea_L1 N m N 0))

def g_r05_floorDiv_J1 (N : Nat) (q : Int) : Option (Int) :=
  some q

/-- keelblock/keelblockref05.floorDiv -/
def g_r05_floorDiv (N : Nat) (a : Int) (b : Int) : Option (Int) :=
  (if (b : Int) ≠ 0 then
  (cond (decide ((a.tmod b) < 0))
  (g_r05_floorDiv_J1 N (w64 ((w64 (a.tdiv b)) - 1)))
  (g_r05_floorDiv_J1 N (w64 (a.tdiv b))))
  else none)

def g_r05_At_L1 (N : Nat) (m : List Tapi_Mark) (minute : Int) : Nat → Int → Option (Int)
  | 0, _ => none
  | fuel + 1, i =>
    (cond (decide (i < ((m.length : Nat) : Int)))
    ((if 0 ≤ i ∧ i < ((m.length : Nat) : Int) then
    (cond (decide (minute ≤ (m.getD ((i).toNat) Tapi_Mark.d).f_Minute))
    ((if 0 ≤ (w64 (i - 1)) ∧ (w64 (i - 1)) < ((m.length : Nat) : Int) then
    ((g_r05_floorDiv N (w64 ((w64 ((m.getD ((i).toNat) Tapi_Mark.d).f_Level - (m.getD ((w64 (i - 1)).toNat) Tapi_Mark.d).f_Level)) * (w64 (minute - (m.getD ((w64 (i - 1)).toNat) Tapi_Mark.d).f_Minute)))) (w64 ((m.getD ((i).toNat) Tapi_Mark.d).f_Minute - (m.getD ((w64 (i - 1)).toNat) Tapi_Mark.d).f_Minute))).bind fun rfloorDiv =>
    some (w64 ((m.getD ((w64 (i - 1)).toNat) Tapi_Mark.d).f_Level + rfloorDiv)))
    else none))
    (g_r05_At_L1 N m minute fuel (w64 (i + 1))))
    else none))
    ((if 0 ≤ (w64 (((m.length : Nat) : Int) - 1)) ∧ (w64 (((m.length : Nat) : Int) - 1)) < ((m.length : Nat) : Int) then
    some ((m.getD ((w64 (((m.length : Nat) : Int) - 1)).toNat) Tapi_Mark.d).f_Level)
    else none)))

/-- keelblock/keelblockref05.At -/
def g_r05_At (N : Nat) (m : List Tapi_Mark) (minute : Int) : Option (Int) :=
  (if 0 ≤ (0 : Int) ∧ 0 < ((m.length : Nat) : Int) then
  (cond (decide (minute ≤ (m.getD 0 Tapi_Mark.d).f_Minute))
  (some ((m.getD 0 Tapi_Mark.d).f_Level))
  (g_r05_At_L1 N m minute N 1))
  else none)

/-- keelblock/keelblockref05.Tide -/
def g_r05_Tide (N : Nat) (m : List Tapi_Mark) (minute : Int) : Option (Int × Int) :=
  ((g_r05_CheckSea N m).bind fun rCheckSea =>
  (cond (rCheckSea != 0)
  (some (0, rCheckSea))
  (((g_r05_inside N minute 0 1000000).bind fun rinside =>
  (cond (!rinside)
  (some (0, 2))
  ((cond (((m.length : Nat) : Int) == 0)
  (some (0, 29))
  (((g_r05_At N m minute).bind fun rAt =>
  some (rAt, 0))))))))))

/-- keelblock/water.HighWaters 1 -/
def g_water_HighWaters_1 (N : Nat) (y : Tapi_Mark) (cap0 : Tapi_Mark) : Option (Bool) :=
  some (y.f_Level != cap0.f_Level)

def g_slices_IndexFunc_api_Mark_api_Mark_L1 (N : Nat) (s : List Tapi_Mark) (cap0 : Tapi_Mark) : Nat → Int → Option (Int)
  | 0, _ => none
  | fuel + 1, x =>
    (cond (decide (x < ((s.length : Nat) : Int)))
    ((if 0 ≤ x ∧ x < ((s.length : Nat) : Int) then
    ((g_water_HighWaters_1 N (s.getD ((x).toNat) Tapi_Mark.d) cap0).bind fun rHighWaters1 =>
    (cond rHighWaters1
    (some x)
    (g_slices_IndexFunc_api_Mark_api_Mark_L1 N s cap0 fuel (w64 (x + 1)))))
    else none))
    (some (-1)))

/-- slices.IndexFunc   keelblock/api.Mark,keelblock/api.Mark  -/
def g_slices_IndexFunc_api_Mark_api_Mark (N : Nat) (s : List Tapi_Mark) (cap0 : Tapi_Mark) : Option (Int) :=
  g_slices_IndexFunc_api_Mark_api_Mark_L1 N s cap0 N 0

def g_water_HighWaters_J2 (N : Nat) (m : List Tapi_Mark) (x : Int) (K_g_water_HighWaters_L1 : (List Tapi_Mark) → Int → Option ((List Tapi_Mark) × Int)) (out2 : List Tapi_Mark) : Option ((List Tapi_Mark) × Int) :=
  K_g_water_HighWaters_L1 out2 (w64 (x + 1))

def g_water_HighWaters_L1 (N : Nat) (m : List Tapi_Mark) : Nat → (List Tapi_Mark) → Int → Option ((List Tapi_Mark) × Int)
  | 0, _, _ => none
  | fuel + 1, out, x =>
    (cond (decide (x < ((m.length : Nat) : Int)))
    ((if 0 ≤ x ∧ x < ((m.length : Nat) : Int) then
    (if ((decide (x > 0)) = true → 0 ≤ (w64 (x - 1)) ∧ (w64 (x - 1)) < ((m.length : Nat) : Int)) then
    (cond (cond (decide (x > 0)) (decide ((m.getD ((x).toNat) Tapi_Mark.d).f_Level ≤ (m.getD ((w64 (x - 1)).toNat) Tapi_Mark.d).f_Level)) false)
    (g_water_HighWaters_J2 N m x (g_water_HighWaters_L1 N m fuel) out)
    ((if (x).toNat ≤ m.length ∧ m.length ≤ m.length then
    (if 0 ≤ x then
    ((g_slices_IndexFunc_api_Mark_api_Mark N ((m.take m.length).drop ((x).toNat)) (m.getD ((x).toNat) Tapi_Mark.d)).bind fun rMark =>
    (if ((!(decide (rMark < 0))) = true → 0 ≤ (w64 (x + rMark)) ∧ (w64 (x + rMark)) < ((m.length : Nat) : Int)) then
    (cond (cond (decide (rMark < 0)) true (decide ((m.getD ((w64 (x + rMark)).toNat) Tapi_Mark.d).f_Level < (m.getD ((x).toNat) Tapi_Mark.d).f_Level)))
    ((if (out.length + 1) * 16 ≤ 140737488355328 then
    g_water_HighWaters_J2 N m x (g_water_HighWaters_L1 N m fuel) (out ++ ([(m.getD ((x).toNat) Tapi_Mark.d)] : List Tapi_Mark))
    else none))
    (g_water_HighWaters_J2 N m x (g_water_HighWaters_L1 N m fuel) out))
    else none))
    else none)
    else none)))
    else none)
    else none))
    (some (out, 0)))

/-- keelblock/water.HighWaters -/
def g_water_HighWaters (N : Nat) (m : List Tapi_Mark) : Option ((List Tapi_Mark) × Int) :=
  ((g_water_CheckSea N m).bind fun rCheckSea =>
  (cond (rCheckSea != 0)
  (some (([] : List Tapi_Mark), rCheckSea))
  (g_water_HighWaters_L1 N m N ([] : List Tapi_Mark) 0)))

def g_r05_HighWaters_J2 (N : Nat) (m : List Tapi_Mark) (i : Int) (K_g_r05_HighWaters_L1 : (List Tapi_Mark) → Int → Option ((List Tapi_Mark))) (out2 : List Tapi_Mark) : Option ((List Tapi_Mark)) :=
  K_g_r05_HighWaters_L1 out2 (w64 (i + 1))

def g_r05_HighWaters_L3 (N : Nat) (m : List Tapi_Mark) (out : List Tapi_Mark) (i : Int) (K_g_r05_HighWaters_L1 : (List Tapi_Mark) → Int → Option ((List Tapi_Mark))) : Nat → Int → Option ((List Tapi_Mark))
  | 0, _ => none
  | fuel + 1, k =>
    (if ((decide (k < ((m.length : Nat) : Int))) = true → 0 ≤ k ∧ k < ((m.length : Nat) : Int)) then
    (if ((decide (k < ((m.length : Nat) : Int))) = true → 0 ≤ i ∧ i < ((m.length : Nat) : Int)) then
    (cond (cond (decide (k < ((m.length : Nat) : Int))) ((m.getD ((k).toNat) Tapi_Mark.d).f_Level == (m.getD ((i).toNat) Tapi_Mark.d).f_Level) false)
    (g_r05_HighWaters_L3 N m out i K_g_r05_HighWaters_L1 fuel (w64 (k + 1)))
    ((if ((!(k == ((m.length : Nat) : Int))) = true → 0 ≤ k ∧ k < ((m.length : Nat) : Int)) then
    (if ((!(k == ((m.length : Nat) : Int))) = true → 0 ≤ i ∧ i < ((m.length : Nat) : Int)) then
    (cond (cond (k == ((m.length : Nat) : Int)) true (decide ((m.getD ((k).toNat) Tapi_Mark.d).f_Level < (m.getD ((i).toNat) Tapi_Mark.d).f_Level)))
    ((if 0 ≤ i ∧ i < ((m.length : Nat) : Int) then
    (if (out.length + 1) * 16 ≤ 140737488355328 then
    g_r05_HighWaters_J2 N m i K_g_r05_HighWaters_L1 (out ++ ([(m.getD ((i).toNat) Tapi_Mark.d)] : List Tapi_Mark))
    else none)
    else none))
    (g_r05_HighWaters_J2 N m i K_g_r05_HighWaters_L1 out))
    else none)
    else none)))
    else none)
    else none)

def g_r05_HighWaters_L1 (N : Nat) (m : List Tapi_Mark) : Nat → (List Tapi_Mark) → Int → Option ((List Tapi_Mark))
  | 0, _, _ => none
  | fuel + 1, out, i =>
    (cond (decide (i < ((m.length : Nat) : Int)))
    ((if ((decide (i > 0)) = true → 0 ≤ (w64 (i - 1)) ∧ (w64 (i - 1)) < ((m.length : Nat) : Int)) then
    (if ((decide (i > 0)) = true → 0 ≤ i ∧ i < ((m.length : Nat) : Int)) then
    (cond (cond (decide (i > 0)) (decide ((m.getD ((w64 (i - 1)).toNat) Tapi_Mark.d).f_Level ≥ (m.getD ((i).toNat) Tapi_Mark.d).f_Level)) false)
    (g_r05_HighWaters_J2 N m i (g_r05_HighWaters_L1 N m fuel) out)
    (g_r05_HighWaters_L3 N m out i (g_r05_HighWaters_L1 N m fuel) N (w64 (i + 1))))
    else none)
    else none))
    (some out))

/-- keelblock/keelblockref05.HighWaters -/
def g_r05_HighWaters (N : Nat) (m : List Tapi_Mark) : Option ((List Tapi_Mark)) :=
  g_r05_HighWaters_L1 N m N ([] : List Tapi_Mark) 0

def g_w05_WaterTides_L1 (N : Nat) (rHighWaters : (List Tapi_Mark) × Int) (rHighWaters2 : (List Tapi_Mark)) : Nat → Int → Option (Bool)
  | 0, _ => none
  | fuel + 1, i =>
    (cond (decide (i < ((rHighWaters.1.length : Nat) : Int)))
    ((if 0 ≤ i ∧ i < ((rHighWaters.1.length : Nat) : Int) then
    (if 0 ≤ i ∧ i < ((rHighWaters2.length : Nat) : Int) then
    (cond (!(((rHighWaters.1.getD ((i).toNat) Tapi_Mark.d).f_Minute == (rHighWaters2.getD ((i).toNat) Tapi_Mark.d).f_Minute) && (((rHighWaters.1.getD ((i).toNat) Tapi_Mark.d).f_Level == (rHighWaters2.getD ((i).toNat) Tapi_Mark.d).f_Level) && true)))
    (some false)
    (g_w05_WaterTides_L1 N rHighWaters rHighWaters2 fuel (w64 (i + 1))))
    else none)
    else none))
    (some true))

/-- keelblock/keelblocklaw05.WaterTides -/
def g_w05_WaterTides (N : Nat) (m : List Tapi_Mark) (minute : Int) : Option (Bool) :=
  ((g_w05_awake N).bind fun rawake =>
  (cond (!rawake)
  (some false)
  ((cond (cond (decide (((m.length : Nat) : Int) > 40)) (decide (((m.length : Nat) : Int) ≤ 400)) false)
  (some true)
  (((g_water_Tide N m minute).bind fun rTide =>
  ((g_r05_Tide N m minute).bind fun rTide2 =>
  ((g_water_HighWaters N m).bind fun rHighWaters =>
  ((g_r05_CheckSea N m).bind fun rCheckSea =>
  ((g_water_CheckSea N m).bind fun rCheckSea2 =>
  (cond (cond (cond (cond (rCheckSea2 != rCheckSea) true (rTide.1 != rTide2.1)) true (rTide.2 != rTide2.2)) true (rHighWaters.2 != rCheckSea))
  (some false)
  ((cond (rCheckSea != 0)
  (some (((rHighWaters.1.length : Nat) : Int) == 0))
  (((g_r05_HighWaters N m).bind fun rHighWaters2 =>
  (cond (((rHighWaters.1.length : Nat) : Int) != ((rHighWaters2.length : Nat) : Int))
  (some false)
  (g_w05_WaterTides_L1 N rHighWaters rHighWaters2 N 0)))))))))))))))))

def g_w05_short_L2 (N : Nat) (n : Tapi_Network) : Nat → Int → Option (Bool)
  | 0, _ => none
  | fuel + 1, i2 =>
    (cond (decide (i2 < ((n.f_Links.length : Nat) : Int)))
    ((if 0 ≤ i2 ∧ i2 < ((n.f_Links.length : Nat) : Int) then
    (if ((!(decide (((((n.f_Links.getD ((i2).toNat) Tapi_Link.d).f_Name).size : Nat) : Int) > 40))) = true → 0 ≤ i2 ∧ i2 < ((n.f_Links.length : Nat) : Int)) then
    (if ((!(cond (decide (((((n.f_Links.getD ((i2).toNat) Tapi_Link.d).f_Name).size : Nat) : Int) > 40)) true (decide (((((n.f_Links.getD ((i2).toNat) Tapi_Link.d).f_From).size : Nat) : Int) > 40)))) = true → 0 ≤ i2 ∧ i2 < ((n.f_Links.length : Nat) : Int)) then
    (cond (cond (cond (decide (((((n.f_Links.getD ((i2).toNat) Tapi_Link.d).f_Name).size : Nat) : Int) > 40)) true (decide (((((n.f_Links.getD ((i2).toNat) Tapi_Link.d).f_From).size : Nat) : Int) > 40))) true (decide (((((n.f_Links.getD ((i2).toNat) Tapi_Link.d).f_To).size : Nat) : Int) > 40)))
    (some false)
    (g_w05_short_L2 N n fuel (w64 (i2 + 1))))
    else none)
    else none)
    else none))
    (some true))

def g_w05_short_L1 (N : Nat) (n : Tapi_Network) : Nat → Int → Option (Bool)
  | 0, _ => none
  | fuel + 1, i =>
    (cond (decide (i < ((n.f_Basins.length : Nat) : Int)))
    ((if 0 ≤ i ∧ i < ((n.f_Basins.length : Nat) : Int) then
    (if ((!(decide (((((n.f_Basins.getD ((i).toNat) Tapi_Basin.d).f_Areas).length : Nat) : Int) > 30))) = true → 0 ≤ i ∧ i < ((n.f_Basins.length : Nat) : Int)) then
    (cond (cond (decide (((((n.f_Basins.getD ((i).toNat) Tapi_Basin.d).f_Areas).length : Nat) : Int) > 30)) true (decide (((((n.f_Basins.getD ((i).toNat) Tapi_Basin.d).f_Name).size : Nat) : Int) > 40)))
    (some false)
    (g_w05_short_L1 N n fuel (w64 (i + 1))))
    else none)
    else none))
    (g_w05_short_L2 N n N 0))

/-- keelblock/keelblocklaw05.short -/
def g_w05_short (N : Nat) (n : Tapi_Network) : Option (Bool) :=
  (cond (cond (cond (decide (((n.f_Basins.length : Nat) : Int) > 10)) true (decide (((n.f_Links.length : Nat) : Int) > 14))) true (cond (decide (((n.f_Sea.length : Nat) : Int) > 30)) (decide (((n.f_Sea.length : Nat) : Int) ≤ 400)) false))
  (some false)
  (g_w05_short_L1 N n N 0))

def g_r05_Basin_L1 (N : Nat) (n : Tapi_Network) (name : ByteArray) : Nat → Int → Option (Int)
  | 0, _ => none
  | fuel + 1, i =>
    (cond (decide (i < ((n.f_Basins.length : Nat) : Int)))
    ((if 0 ≤ i ∧ i < ((n.f_Basins.length : Nat) : Int) then
    (cond (streq ((n.f_Basins.getD ((i).toNat) Tapi_Basin.d).f_Name) name)
    (some i)
    (g_r05_Basin_L1 N n name fuel (w64 (i + 1))))
    else none))
    (some (-1)))

/-- keelblock/keelblockref05.Basin -/
def g_r05_Basin (N : Nat) (n : Tapi_Network) (name : ByteArray) : Option (Int) :=
  g_r05_Basin_L1 N n name N 0

def g_r05_Link_L1 (N : Nat) (n : Tapi_Network) (name : ByteArray) : Nat → Int → Option (Int)
  | 0, _ => none
  | fuel + 1, i =>
    (cond (decide (i < ((n.f_Links.length : Nat) : Int)))
    ((if 0 ≤ i ∧ i < ((n.f_Links.length : Nat) : Int) then
    (cond (streq ((n.f_Links.getD ((i).toNat) Tapi_Link.d).f_Name) name)
    (some i)
    (g_r05_Link_L1 N n name fuel (w64 (i + 1))))
    else none))
    (some (-1)))

/-- keelblock/keelblockref05.Link -/
def g_r05_Link (N : Nat) (n : Tapi_Network) (name : ByteArray) : Option (Int) :=
  g_r05_Link_L1 N n name N 0

/-- keelblock/keelblockref05.side -/
def g_r05_side (N : Nat) (n : Tapi_Network) (name : ByteArray) : Option (Bool) :=
  ((cond (!(streq name ByteArray.empty)) (g_r05_Basin N n name) (some 0)).bind fun rBasin =>
  some (cond (streq name ByteArray.empty) true (decide (rBasin ≥ 0))))

/-- keelblock/keelblockref05.checkLink -/
def g_r05_checkLink (N : Nat) (n : Tapi_Network) (l : Tapi_Link) : Option (Int) :=
  (cond (cond (l.f_Kind != 0) (l.f_Kind != 1) false)
  (some 3)
  (((g_r05_side N n l.f_From).bind fun rside =>
  ((cond (!(!rside)) (g_r05_side N n l.f_To) (some false)).bind fun rside2 =>
  (cond (cond (!rside) true (!rside2))
  (some 6)
  ((cond (streq l.f_From l.f_To)
  (some 3)
  ((cond (cond (cond (streq l.f_From ByteArray.empty) true (streq l.f_To ByteArray.empty)) (((n.f_Sea.length : Nat) : Int) == 0) false)
  (some 29)
  (((g_r05_inside N l.f_Rate 0 1000000000).bind fun rinside =>
  (cond (!rinside)
  (some 2)
  (((cond (l.f_Kind == 0) (g_r05_inside N l.f_Sill (-1000000) 1000000) (some false)).bind fun rinside2 =>
  ((cond ((l.f_Kind == 0) && ((l.f_Kind == 0) && (!(!rinside2)))) (g_r05_inside N l.f_Factor 0 1000000000) (some false)).bind fun rinside3 =>
  ((cond ((!(cond (l.f_Kind == 0) (cond (!rinside2) true (!rinside3)) false)) && ((!(cond (l.f_Kind == 0) (cond (!rinside2) true (!rinside3)) false)) && (l.f_Kind == 1))) (g_r05_inside N l.f_Lift 0 1000000) (some false)).bind fun rinside4 =>
  (cond (cond (cond (l.f_Kind == 0) (cond (!rinside2) true (!rinside3)) false) true (cond (l.f_Kind == 1) (!rinside4) false))
  (some 2)
  (some 0))))))))))))))))))

def g_r05_CheckNetwork_L2 (N : Nat) (n : Tapi_Network) : Nat → Int → Option (Int)
  | 0, _ => none
  | fuel + 1, i2 =>
    (cond (decide (i2 < ((n.f_Links.length : Nat) : Int)))
    ((if 0 ≤ i2 ∧ i2 < ((n.f_Links.length : Nat) : Int) then
    ((g_keelblockbase_IsName N ((n.f_Links.getD ((i2).toNat) Tapi_Link.d).f_Name)).bind fun rIsName2 =>
    (cond (!rIsName2)
    (some 4)
    (((g_r05_Link N n ((n.f_Links.getD ((i2).toNat) Tapi_Link.d).f_Name)).bind fun rLink =>
    (cond (rLink != i2)
    (some 5)
    (((g_r05_checkLink N n (n.f_Links.getD ((i2).toNat) Tapi_Link.d)).bind fun rcheckLink =>
    (cond (rcheckLink != 0)
    (some rcheckLink)
    (g_r05_CheckNetwork_L2 N n fuel (w64 (i2 + 1)))))))))))
    else none))
    (some 0))

def g_r05_CheckNetwork_L1 (N : Nat) (n : Tapi_Network) : Nat → Int → Option (Int)
  | 0, _ => none
  | fuel + 1, i =>
    (cond (decide (i < ((n.f_Basins.length : Nat) : Int)))
    ((if 0 ≤ i ∧ i < ((n.f_Basins.length : Nat) : Int) then
    ((g_keelblockbase_IsName N ((n.f_Basins.getD ((i).toNat) Tapi_Basin.d).f_Name)).bind fun rIsName =>
    (cond (!rIsName)
    (some 4)
    (((g_r05_Basin N n ((n.f_Basins.getD ((i).toNat) Tapi_Basin.d).f_Name)).bind fun rBasin =>
    (cond (rBasin != i)
    (some 5)
    (((g_r05_CheckBasin N (n.f_Basins.getD ((i).toNat) Tapi_Basin.d)).bind fun rCheckBasin =>
    (cond (rCheckBasin != 0)
    (some rCheckBasin)
    (g_r05_CheckNetwork_L1 N n fuel (w64 (i + 1)))))))))))
    else none))
    (((g_r05_CheckSea N n.f_Sea).bind fun rCheckSea =>
    (cond (rCheckSea != 0)
    (some rCheckSea)
    ((cond (decide (((n.f_Links.length : Nat) : Int) > 12))
    (some 8)
    (g_r05_CheckNetwork_L2 N n N 0)))))))

/-- keelblock/keelblockref05.CheckNetwork -/
def g_r05_CheckNetwork (N : Nat) (n : Tapi_Network) : Option (Int) :=
  (cond (decide (((n.f_Basins.length : Nat) : Int) > 8))
  (some 8)
  (g_r05_CheckNetwork_L1 N n N 0))

/-- keelblock/water.CheckNetwork 1 -/
def g_water_CheckNetwork_1 (N : Nat) (i : Int) (cap0 : Tapi_Network) : Option (ByteArray) :=
  (if 0 ≤ i ∧ i < ((cap0.f_Basins.length : Nat) : Int) then
  some ((cap0.f_Basins.getD ((i).toNat) Tapi_Basin.d).f_Name)
  else none)

/-- keelblock/water.CheckNetwork 2 -/
def g_water_CheckNetwork_2 (N : Nat) (i : Int) (cap0 : Tapi_Network) : Option (Int) :=
  (if 0 ≤ i ∧ i < ((cap0.f_Basins.length : Nat) : Int) then
  ((g_water_checkForm N (cap0.f_Basins.getD ((i).toNat) Tapi_Basin.d)).bind fun rcheckForm =>
  some rcheckForm)
  else none)

def g_water_checkNamed_L1 (N : Nat) (n : Int) (cap0 : Tapi_Network) : Nat → (List (ByteArray × Bool)) → Int → Option (Int)
  | 0, _, _ => none
  | fuel + 1, names, x =>
    (cond (decide (x < n))
    (((g_water_CheckNetwork_1 N x cap0).bind fun rCheckNetwork =>
    ((g_water_isName N rCheckNetwork).bind fun risName =>
    (cond (!risName)
    (some 4)
    ((cond ((mGet streq names rCheckNetwork).getD false)
    (some 5)
    (((g_water_CheckNetwork_2 N x cap0).bind fun rCheckNetwork2 =>
    (cond (rCheckNetwork2 != 0)
    (some rCheckNetwork2)
    (g_water_checkNamed_L1 N n cap0 fuel (mPut streq names rCheckNetwork true) (w64 (x + 1))))))))))))
    (some 0))

/-- keelblock/water.checkNamed -/
def g_water_checkNamed (N : Nat) (n : Int) (most : Int) (cap0 : Tapi_Network) : Option (Int) :=
  (cond (decide (n > most))
  (some 8)
  (g_water_checkNamed_L1 N n cap0 N ([] : List (ByteArray × Bool)) 0))

/-- keelblock/water.CheckNetwork 3 -/
def g_water_CheckNetwork_3 (N : Nat) (i : Int) (cap0 : Tapi_Network) : Option (ByteArray) :=
  (if 0 ≤ i ∧ i < ((cap0.f_Links.length : Nat) : Int) then
  some ((cap0.f_Links.getD ((i).toNat) Tapi_Link.d).f_Name)
  else none)

/-- keelblock/water.basinOf 1 -/
def g_water_basinOf_1 (N : Nat) (b : Tapi_Basin) (cap0 : ByteArray) : Option (Bool) :=
  some (streq b.f_Name cap0)

def g_slices_IndexFunc_api_Basin_api_Basin_L1 (N : Nat) (s : List Tapi_Basin) (cap0 : ByteArray) : Nat → Int → Option (Int)
  | 0, _ => none
  | fuel + 1, x =>
    (cond (decide (x < ((s.length : Nat) : Int)))
    ((if 0 ≤ x ∧ x < ((s.length : Nat) : Int) then
    ((g_water_basinOf_1 N (s.getD ((x).toNat) Tapi_Basin.d) cap0).bind fun rbasinOf1 =>
    (cond rbasinOf1
    (some x)
    (g_slices_IndexFunc_api_Basin_api_Basin_L1 N s cap0 fuel (w64 (x + 1)))))
    else none))
    (some (-1)))

/-- slices.IndexFunc   keelblock/api.Basin,keelblock/api.Basin  -/
def g_slices_IndexFunc_api_Basin_api_Basin (N : Nat) (s : List Tapi_Basin) (cap0 : ByteArray) : Option (Int) :=
  g_slices_IndexFunc_api_Basin_api_Basin_L1 N s cap0 N 0

/-- keelblock/water.basinOf -/
def g_water_basinOf (N : Nat) (n : Tapi_Network) (name : ByteArray) : Option (Int) :=
  ((g_slices_IndexFunc_api_Basin_api_Basin N n.f_Basins name).bind fun rBasin =>
  some rBasin)

def g_water_checkLink_L1 (N : Nat) (n : Tapi_Network) (l : Tapi_Link) : Nat → Int → Option (Int)
  | 0, _ => none
  | fuel + 1, x =>
    (cond (decide (x < ((2 : Nat) : Int)))
    ((if 0 ≤ x ∧ x < ((([l.f_From, l.f_To] : List ByteArray).length : Nat) : Int) then
    ((cond (!(streq (([l.f_From, l.f_To] : List ByteArray).getD ((x).toNat) ByteArray.empty) ByteArray.empty)) (g_water_basinOf N n (([l.f_From, l.f_To] : List ByteArray).getD ((x).toNat) ByteArray.empty)) (some 0)).bind fun rbasinOf =>
    (cond (cond (!(streq (([l.f_From, l.f_To] : List ByteArray).getD ((x).toNat) ByteArray.empty) ByteArray.empty)) (decide (rbasinOf < 0)) false)
    (some 6)
    (g_water_checkLink_L1 N n l fuel (w64 (x + 1)))))
    else none))
    ((cond (streq l.f_From l.f_To)
    (some 3)
    ((cond (cond (cond (streq l.f_From ByteArray.empty) true (streq l.f_To ByteArray.empty)) (((n.f_Sea.length : Nat) : Int) == 0) false)
    (some 29)
    (((g_water_between N l.f_Rate 0 1000000000).bind fun rbetween =>
    (cond (!rbetween)
    (some 2)
    (((cond (l.f_Kind == 0) (g_water_between N l.f_Sill (-1000000) 1000000) (some false)).bind fun rbetween2 =>
    ((cond ((l.f_Kind == 0) && ((l.f_Kind == 0) && (!(!rbetween2)))) (g_water_between N l.f_Factor 0 1000000000) (some false)).bind fun rbetween3 =>
    (cond (cond (l.f_Kind == 0) (cond (!rbetween2) true (!rbetween3)) false)
    (some 2)
    (((cond (l.f_Kind == 1) (g_water_between N l.f_Lift 0 1000000) (some false)).bind fun rbetween4 =>
    (cond (cond (l.f_Kind == 1) (!rbetween4) false)
    (some 2)
    (some 0))))))))))))))))

/-- keelblock/water.checkLink -/
def g_water_checkLink (N : Nat) (n : Tapi_Network) (l : Tapi_Link) : Option (Int) :=
  (cond (cond (l.f_Kind != 0) (l.f_Kind != 1) false)
  (some 3)
  (g_water_checkLink_L1 N n l N 0))

/-- keelblock/water.CheckNetwork 4 -/
def g_water_CheckNetwork_4 (N : Nat) (i : Int) (cap0 : Tapi_Network) : Option (Int) :=
  (if 0 ≤ i ∧ i < ((cap0.f_Links.length : Nat) : Int) then
  ((g_water_checkLink N cap0 (cap0.f_Links.getD ((i).toNat) Tapi_Link.d)).bind fun rcheckLink =>
  some rcheckLink)
  else none)

def g_water_checkNamed_v2_L1 (N : Nat) (n : Int) (cap0 : Tapi_Network) : Nat → (List (ByteArray × Bool)) → Int → Option (Int)
  | 0, _, _ => none
  | fuel + 1, names, x =>
    (cond (decide (x < n))
    (((g_water_CheckNetwork_3 N x cap0).bind fun rCheckNetwork =>
    ((g_water_isName N rCheckNetwork).bind fun risName =>
    (cond (!risName)
    (some 4)
    ((cond ((mGet streq names rCheckNetwork).getD false)
    (some 5)
    (((g_water_CheckNetwork_4 N x cap0).bind fun rCheckNetwork2 =>
    (cond (rCheckNetwork2 != 0)
    (some rCheckNetwork2)
    (g_water_checkNamed_v2_L1 N n cap0 fuel (mPut streq names rCheckNetwork true) (w64 (x + 1))))))))))))
    (some 0))

/-- keelblock/water.checkNamed -/
def g_water_checkNamed_v2 (N : Nat) (n : Int) (most : Int) (cap0 : Tapi_Network) : Option (Int) :=
  (cond (decide (n > most))
  (some 8)
  (g_water_checkNamed_v2_L1 N n cap0 N ([] : List (ByteArray × Bool)) 0))

/-- keelblock/water.CheckNetwork -/
def g_water_CheckNetwork (N : Nat) (n : Tapi_Network) : Option (Int) :=
  ((g_water_checkNamed N ((n.f_Basins.length : Nat) : Int) 8 n).bind fun rcheckNamed =>
  (cond (rcheckNamed != 0)
  (some rcheckNamed)
  (((g_water_CheckSea N n.f_Sea).bind fun rCheckSea =>
  (cond (rCheckSea != 0)
  (some rCheckSea)
  (((g_water_checkNamed_v2 N ((n.f_Links.length : Nat) : Int) 12 n).bind fun rcheckNamed2 =>
  some rcheckNamed2)))))))

def g_water_Fill_L1 (N : Nat) (n : Tapi_Network) (minute : Int) (levels : List Int) : Nat → (List Int) → Int → Option (Tapi_Water × Int)
  | 0, _, _ => none
  | fuel + 1, w, x =>
    (cond (decide (x < ((n.f_Basins.length : Nat) : Int)))
    ((if 0 ≤ x ∧ x < ((n.f_Basins.length : Nat) : Int) then
    (if 0 ≤ x ∧ x < ((levels.length : Nat) : Int) then
    ((g_water_floor N (n.f_Basins.getD ((x).toNat) Tapi_Basin.d)).bind fun rfloor =>
    ((g_water_between N (levels.getD ((x).toNat) 0) rfloor ((n.f_Basins.getD ((x).toNat) Tapi_Basin.d).f_Rim)).bind fun rbetween2 =>
    (cond (!rbetween2)
    (some ((⟨0, ([] : List Int), ([] : List Bool)⟩ : Tapi_Water), 2))
    (((g_water_volume N (n.f_Basins.getD ((x).toNat) Tapi_Basin.d) (levels.getD ((x).toNat) 0)).bind fun rvolume =>
    (if (w.length + 1) * 8 ≤ 140737488355328 then
    g_water_Fill_L1 N n minute levels fuel (w ++ ([rvolume] : List Int)) (w64 (x + 1))
    else none))))))
    else none)
    else none))
    (some ((⟨minute, w, (List.replicate n.f_Links.length false : List Bool)⟩ : Tapi_Water), 0)))

/-- keelblock/water.Fill -/
def g_water_Fill (N : Nat) (n : Tapi_Network) (minute : Int) (levels : List Int) : Option (Tapi_Water × Int) :=
  ((g_water_CheckNetwork N n).bind fun rCheckNetwork =>
  (cond (rCheckNetwork != 0)
  (some ((⟨0, ([] : List Int), ([] : List Bool)⟩ : Tapi_Water), rCheckNetwork))
  (((g_water_between N minute 0 1000000).bind fun rbetween =>
  (cond (!rbetween)
  (some ((⟨0, ([] : List Int), ([] : List Bool)⟩ : Tapi_Water), 2))
  ((cond (((levels.length : Nat) : Int) != ((n.f_Basins.length : Nat) : Int))
  (some ((⟨0, ([] : List Int), ([] : List Bool)⟩ : Tapi_Water), 11))
  ((if 0 ≤ ((n.f_Links.length : Nat) : Int) ∧ (1 : Int) * ((n.f_Links.length : Nat) : Int) ≤ 281474976710656 ∧ ((n.f_Links.length : Nat) : Int) ≤ 9223372036854775807 then
  g_water_Fill_L1 N n minute levels N ([] : List Int) 0
  else none)))))))))

def g_keelblockbase_Ints_L1 (N : Nat) (a : List Int) (b : List Int) : Nat → Int → Option (Bool)
  | 0, _ => none
  | fuel + 1, i =>
    (cond (decide (i < ((a.length : Nat) : Int)))
    ((if 0 ≤ i ∧ i < ((a.length : Nat) : Int) then
    (if 0 ≤ i ∧ i < ((b.length : Nat) : Int) then
    (cond ((a.getD ((i).toNat) 0) != (b.getD ((i).toNat) 0))
    (some false)
    (g_keelblockbase_Ints_L1 N a b fuel (w64 (i + 1))))
    else none)
    else none))
    (some true))

/-- keelblock/keelblockbase.Ints -/
def g_keelblockbase_Ints (N : Nat) (a : List Int) (b : List Int) : Option (Bool) :=
  (cond (((a.length : Nat) : Int) != ((b.length : Nat) : Int))
  (some false)
  (g_keelblockbase_Ints_L1 N a b N 0))

def g_w05_SameWater_L1 (N : Nat) (a : Tapi_Water) (b : Tapi_Water) : Nat → Int → Option (Bool)
  | 0, _ => none
  | fuel + 1, i =>
    (cond (decide (i < ((a.f_Open.length : Nat) : Int)))
    ((if 0 ≤ i ∧ i < ((a.f_Open.length : Nat) : Int) then
    (if 0 ≤ i ∧ i < ((b.f_Open.length : Nat) : Int) then
    (cond (!((a.f_Open.getD ((i).toNat) false) == (b.f_Open.getD ((i).toNat) false)))
    (some false)
    (g_w05_SameWater_L1 N a b fuel (w64 (i + 1))))
    else none)
    else none))
    (some true))

/-- keelblock/keelblocklaw05.SameWater -/
def g_w05_SameWater (N : Nat) (a : Tapi_Water) (b : Tapi_Water) : Option (Bool) :=
  ((cond (!(a.f_Minute != b.f_Minute)) (g_keelblockbase_Ints N a.f_Litres b.f_Litres) (some false)).bind fun rInts =>
  (cond (cond (cond (a.f_Minute != b.f_Minute) true (!rInts)) true (((a.f_Open.length : Nat) : Int) != ((b.f_Open.length : Nat) : Int)))
  (some false)
  (g_w05_SameWater_L1 N a b N 0)))

/-- keelblock/keelblocklaw05.none -/
def g_w05_none (N : Nat) (w : Tapi_Water) : Option (Bool) :=
  ((g_w05_SameWater N w (⟨0, ([] : List Int), ([] : List Bool)⟩ : Tapi_Water)).bind fun rSameWater =>
  some rSameWater)

def g_water_checkState_L1 (N : Nat) (n : Tapi_Network) (w : Tapi_Water) : Nat → Int → Option (Int)
  | 0, _ => none
  | fuel + 1, x =>
    (cond (decide (x < ((n.f_Basins.length : Nat) : Int)))
    ((if 0 ≤ x ∧ x < ((n.f_Basins.length : Nat) : Int) then
    (if 0 ≤ x ∧ x < ((w.f_Litres.length : Nat) : Int) then
    ((g_water_volume N (n.f_Basins.getD ((x).toNat) Tapi_Basin.d) ((n.f_Basins.getD ((x).toNat) Tapi_Basin.d).f_Rim)).bind fun rvolume =>
    ((g_water_between N (w.f_Litres.getD ((x).toNat) 0) 0 rvolume).bind fun rbetween2 =>
    (cond (!rbetween2)
    (some 2)
    (g_water_checkState_L1 N n w fuel (w64 (x + 1))))))
    else none)
    else none))
    (some 0))

/-- keelblock/water.checkState -/
def g_water_checkState (N : Nat) (n : Tapi_Network) (w : Tapi_Water) : Option (Int) :=
  ((g_water_CheckNetwork N n).bind fun rCheckNetwork =>
  (cond (rCheckNetwork != 0)
  (some rCheckNetwork)
  (((g_water_between N w.f_Minute 0 1000000).bind fun rbetween =>
  (cond (!rbetween)
  (some 2)
  ((cond (cond (((w.f_Litres.length : Nat) : Int) != ((n.f_Basins.length : Nat) : Int)) true (((w.f_Open.length : Nat) : Int) != ((n.f_Links.length : Nat) : Int)))
  (some 11)
  (g_water_checkState_L1 N n w N 0))))))))

def g_water_Levels_L1 (N : Nat) (n : Tapi_Network) (w : Tapi_Water) : Nat → (List Int) → Int → Option ((List Int) × Int)
  | 0, _, _ => none
  | fuel + 1, out, x =>
    (cond (decide (x < ((n.f_Basins.length : Nat) : Int)))
    ((if 0 ≤ x ∧ x < ((n.f_Basins.length : Nat) : Int) then
    (if 0 ≤ x ∧ x < ((w.f_Litres.length : Nat) : Int) then
    ((g_water_levelOf N (n.f_Basins.getD ((x).toNat) Tapi_Basin.d) (w.f_Litres.getD ((x).toNat) 0)).bind fun rlevelOf =>
    (if (out.length + 1) * 8 ≤ 140737488355328 then
    g_water_Levels_L1 N n w fuel (out ++ ([rlevelOf] : List Int)) (w64 (x + 1))
    else none))
    else none)
    else none))
    (some (out, 0)))

/-- keelblock/water.Levels -/
def g_water_Levels (N : Nat) (n : Tapi_Network) (w : Tapi_Water) : Option ((List Int) × Int) :=
  ((g_water_checkState N n w).bind fun rcheckState =>
  (cond (rcheckState != 0)
  (some (([] : List Int), rcheckState))
  (g_water_Levels_L1 N n w N ([] : List Int) 0)))

def g_w05_WaterNetworks_L3 (N : Nat) (n : Tapi_Network) (minute : Int) (levels : List Int) (rFill : Tapi_Water × Int) : Nat → Int → (List Int) → Int → Option (Bool)
  | 0, _, _, _ => none
  | fuel + 1, c4, want, i =>
    (cond (cond (decide (i < ((levels.length : Nat) : Int))) (c4 == 0) false)
    ((if 0 ≤ i ∧ i < ((n.f_Basins.length : Nat) : Int) then
    (if 0 ≤ i ∧ i < ((levels.length : Nat) : Int) then
    ((g_r05_Volume N (n.f_Basins.getD ((i).toNat) Tapi_Basin.d) (levels.getD ((i).toNat) 0)).bind fun rVolume =>
    (if (want.length + 1) * 8 ≤ 140737488355328 then
    g_w05_WaterNetworks_L3 N n minute levels rFill fuel rVolume.2 (want ++ ([rVolume.1] : List Int)) (w64 (i + 1))
    else none))
    else none)
    else none))
    ((cond (c4 != 0)
    (((cond (rFill.2 == c4) (g_w05_none N rFill.1) (some false)).bind fun rnone =>
    some (cond (rFill.2 == c4) rnone false)))
    (((g_water_Levels N n rFill.1).bind fun rLevels =>
    ((cond (rFill.2 == 0) (g_w05_SameWater N rFill.1 (⟨minute, want, (List.replicate n.f_Links.length false : List Bool)⟩ : Tapi_Water)) (some false)).bind fun rSameWater =>
    ((cond (cond (cond (rFill.2 == 0) rSameWater false) (rLevels.2 == 0) false) (g_keelblockbase_Ints N rLevels.1 levels) (some false)).bind fun rInts =>
    some (cond (cond (cond (rFill.2 == 0) rSameWater false) (rLevels.2 == 0) false) rInts false))))))))

def g_w05_WaterNetworks_J2 (N : Nat) (n : Tapi_Network) (minute : Int) (levels : List Int) (rFill : Tapi_Water × Int) (c2 : Int) : Option (Bool) :=
  (if 0 ≤ ((n.f_Links.length : Nat) : Int) ∧ (1 : Int) * ((n.f_Links.length : Nat) : Int) ≤ 281474976710656 ∧ ((n.f_Links.length : Nat) : Int) ≤ 9223372036854775807 then
  g_w05_WaterNetworks_L3 N n minute levels rFill N c2 ([] : List Int) 0
  else none)

def g_w05_WaterNetworks_J1 (N : Nat) (n : Tapi_Network) (minute : Int) (levels : List Int) (rFill : Tapi_Water × Int) (c : Int) : Option (Bool) :=
  (cond (cond (c == 0) (((levels.length : Nat) : Int) != ((n.f_Basins.length : Nat) : Int)) false)
  (g_w05_WaterNetworks_J2 N n minute levels rFill 11)
  (g_w05_WaterNetworks_J2 N n minute levels rFill c))

/-- keelblock/keelblocklaw05.WaterNetworks -/
def g_w05_WaterNetworks (N : Nat) (n : Tapi_Network) (minute : Int) (levels : List Int) : Option (Bool) :=
  ((g_w05_awake N).bind fun rawake =>
  (cond (!rawake)
  (some false)
  (((g_w05_short N n).bind fun rshort =>
  (cond (cond (!rshort) true (decide (((levels.length : Nat) : Int) > 20)))
  (some true)
  (((g_r05_CheckNetwork N n).bind fun rCheckNetwork =>
  ((g_water_Fill N n minute levels).bind fun rFill =>
  ((g_water_CheckNetwork N n).bind fun rCheckNetwork2 =>
  (cond (rCheckNetwork2 != rCheckNetwork)
  (some false)
  ((cond (cond (rCheckNetwork == 0) (cond (decide (minute < 0)) true (decide (minute > 1000000))) false)
  (g_w05_WaterNetworks_J1 N n minute levels rFill 2)
  (g_w05_WaterNetworks_J1 N n minute levels rFill rCheckNetwork)))))))))))))

def g_w05_Case_Short_L1 (N : Nat) (c : Tkeelblocklaw05_Case) : Nat → Int → Option (Bool)
  | 0, _ => none
  | fuel + 1, i =>
    (cond (decide (i < ((c.f_Turns.length : Nat) : Int)))
    ((if 0 ≤ i ∧ i < ((c.f_Turns.length : Nat) : Int) then
    (cond (decide (((((c.f_Turns.getD ((i).toNat) Tapi_Turn.d).f_Link).size : Nat) : Int) > 40))
    (some false)
    (g_w05_Case_Short_L1 N c fuel (w64 (i + 1))))
    else none))
    (some true))

/-- (keelblock/keelblocklaw05.Case).Short -/
def g_w05_Case_Short (N : Nat) (c : Tkeelblocklaw05_Case) : Option (Bool) :=
  ((g_w05_short N c.f_N).bind fun rshort =>
  (cond (cond (cond (cond (!rshort) true (decide (((c.f_W.f_Litres.length : Nat) : Int) > 20))) true (decide (((c.f_W.f_Open.length : Nat) : Int) > 20))) true (cond (decide (((c.f_Turns.length : Nat) : Int) > 30)) (decide (((c.f_Turns.length : Nat) : Int) ≤ 200)) false))
  (some false)
  (g_w05_Case_Short_L1 N c N 0)))

/-- keelblock/water.linkOf 1 -/
def g_water_linkOf_1 (N : Nat) (l : Tapi_Link) (cap0 : ByteArray) : Option (Bool) :=
  some (streq l.f_Name cap0)

def g_slices_IndexFunc_api_Link_api_Link_L1 (N : Nat) (s : List Tapi_Link) (cap0 : ByteArray) : Nat → Int → Option (Int)
  | 0, _ => none
  | fuel + 1, x =>
    (cond (decide (x < ((s.length : Nat) : Int)))
    ((if 0 ≤ x ∧ x < ((s.length : Nat) : Int) then
    ((g_water_linkOf_1 N (s.getD ((x).toNat) Tapi_Link.d) cap0).bind fun rlinkOf1 =>
    (cond rlinkOf1
    (some x)
    (g_slices_IndexFunc_api_Link_api_Link_L1 N s cap0 fuel (w64 (x + 1)))))
    else none))
    (some (-1)))

/-- slices.IndexFunc   keelblock/api.Link,keelblock/api.Link  -/
def g_slices_IndexFunc_api_Link_api_Link (N : Nat) (s : List Tapi_Link) (cap0 : ByteArray) : Option (Int) :=
  g_slices_IndexFunc_api_Link_api_Link_L1 N s cap0 N 0

/-- keelblock/water.linkOf -/
def g_water_linkOf (N : Nat) (n : Tapi_Network) (name : ByteArray) : Option (Int) :=
  ((g_slices_IndexFunc_api_Link_api_Link N n.f_Links name).bind fun rLink =>
  some rLink)

/-- keelblock/water.sideOf -/
def g_water_sideOf (N : Nat) (n : Tapi_Network) (w : Tapi_Water) (name : ByteArray) : Option (Twater_side) :=
  (cond (streq name ByteArray.empty)
  (((g_water_tide N n.f_Sea w.f_Minute).bind fun rtide =>
  some (⟨(none : Option Tapi_Basin), 0, rtide⟩ : Twater_side)))
  (((g_water_basinOf N n name).bind fun rbasinOf =>
  (if 0 ≤ rbasinOf ∧ rbasinOf < ((n.f_Basins.length : Nat) : Int) then
  (if 0 ≤ rbasinOf ∧ rbasinOf < ((w.f_Litres.length : Nat) : Int) then
  some (⟨(some (n.f_Basins.getD ((rbasinOf).toNat) Tapi_Basin.d)), (w.f_Litres.getD ((rbasinOf).toNat) 0), 0⟩ : Twater_side)
  else none)
  else none))))

/-- (keelblock/water.side).level -/
def g_water_side_level (N : Nat) (s : Twater_side) (more : Int) : Option (Int) :=
  (cond (!s.f_basin.isSome)
  (some s.f_sea)
  ((if s.f_basin.isSome = true then
  ((g_water_levelOf N (s.f_basin.getD Tapi_Basin.d) (w64 (s.f_litres + more))).bind fun rlevelOf =>
  some rlevelOf)
  else none)))

/-- (keelblock/water.side).room -/
def g_water_side_room (N : Nat) (s : Twater_side) (many : Int) : Option (Int) :=
  (cond (!s.f_basin.isSome)
  (some many)
  ((if s.f_basin.isSome = true then
  ((g_water_volume N (s.f_basin.getD Tapi_Basin.d) ((s.f_basin.getD Tapi_Basin.d).f_Rim)).bind fun rvolume =>
  some (w64 (rvolume - s.f_litres)))
  else none)))

/-- (keelblock/water.side).spare -/
def g_water_side_spare (N : Nat) (s : Twater_side) (sill : Int) (many : Int) : Option (Int) :=
  (cond (!s.f_basin.isSome)
  (some many)
  ((if s.f_basin.isSome = true then
  ((g_water_volume N (s.f_basin.getD Tapi_Basin.d) sill).bind fun rvolume =>
  some (if (w64 (s.f_litres - rvolume)) > 0 then (w64 (s.f_litres - rvolume)) else 0))
  else none)))

/-- keelblock/water.gate 1 -/
def g_water_gate_1 (N : Nat) (q : Int) (cap0 : Twater_side) (cap1 : Twater_side) : Option (Bool) :=
  ((g_water_side_level N cap0 (w64 ((w64 (0 - q)) - 1))).bind fun rlevel =>
  ((g_water_side_level N cap1 (w64 (q + 1))).bind fun rlevel2 =>
  some (decide (rlevel < rlevel2))))

def g_sort_Search_v2_L1 (N : Nat) (cap0 : Twater_side) (cap1 : Twater_side) : Nat → Int → Int → Option (Int)
  | 0, _, _ => none
  | fuel + 1, i, j =>
    (cond (decide (i < j))
    (((g_water_gate_1 N (w64 ((shrI .u64 (IntKind.u64.wrap ((w64 (i + j)))) 1))) cap0 cap1).bind fun rgate1 =>
    (cond (!rgate1)
    (g_sort_Search_v2_L1 N cap0 cap1 fuel (w64 ((w64 ((shrI .u64 (IntKind.u64.wrap ((w64 (i + j)))) 1))) + 1)) j)
    (g_sort_Search_v2_L1 N cap0 cap1 fuel i (w64 ((shrI .u64 (IntKind.u64.wrap ((w64 (i + j)))) 1)))))))
    (some i))

/-- sort.Search -/
def g_sort_Search_v2 (N : Nat) (n : Int) (cap0 : Twater_side) (cap1 : Twater_side) : Option (Int) :=
  g_sort_Search_v2_L1 N cap0 cap1 N 0 n

/-- keelblock/water.gate -/
def g_water_gate (N : Nat) (l : Tapi_Link) (upper : Twater_side) (lower : Twater_side) : Option (Int) :=
  ((g_water_side_level N upper 0).bind fun rlevel =>
  (cond (decide (rlevel ≤ l.f_Sill))
  (some 0)
  (((g_water_side_level N upper 0).bind fun rlevel2 =>
  ((g_water_side_level N lower 0).bind fun rlevel3 =>
  ((g_water_side_spare N upper l.f_Sill l.f_Rate).bind fun rspare =>
  ((g_water_side_room N lower l.f_Rate).bind fun rroom =>
  ((g_sort_Search_v2 N (if rroom < (if rspare < (if (w64 (l.f_Factor * (w64 (rlevel2 - (if rlevel3 > l.f_Sill then rlevel3 else l.f_Sill))))) < l.f_Rate then (w64 (l.f_Factor * (w64 (rlevel2 - (if rlevel3 > l.f_Sill then rlevel3 else l.f_Sill))))) else l.f_Rate) then rspare else (if (w64 (l.f_Factor * (w64 (rlevel2 - (if rlevel3 > l.f_Sill then rlevel3 else l.f_Sill))))) < l.f_Rate then (w64 (l.f_Factor * (w64 (rlevel2 - (if rlevel3 > l.f_Sill then rlevel3 else l.f_Sill))))) else l.f_Rate)) then rroom else (if rspare < (if (w64 (l.f_Factor * (w64 (rlevel2 - (if rlevel3 > l.f_Sill then rlevel3 else l.f_Sill))))) < l.f_Rate then (w64 (l.f_Factor * (w64 (rlevel2 - (if rlevel3 > l.f_Sill then rlevel3 else l.f_Sill))))) else l.f_Rate) then rspare else (if (w64 (l.f_Factor * (w64 (rlevel2 - (if rlevel3 > l.f_Sill then rlevel3 else l.f_Sill))))) < l.f_Rate then (w64 (l.f_Factor * (w64 (rlevel2 - (if rlevel3 > l.f_Sill then rlevel3 else l.f_Sill))))) else l.f_Rate))) upper lower).bind fun rSearch =>
  some rSearch))))))))

def g_water_flow_J1 (N : Nat) (n : Tapi_Network) (i : Int) (rsideOf2 : Twater_side) (give : Int) : Option (Int) :=
  ((g_water_side_room N rsideOf2 ((n.f_Links.getD ((i).toNat) Tapi_Link.d).f_Rate)).bind fun rroom =>
  some (if rroom < (if give < (n.f_Links.getD ((i).toNat) Tapi_Link.d).f_Rate then give else (n.f_Links.getD ((i).toNat) Tapi_Link.d).f_Rate) then rroom else (if give < (n.f_Links.getD ((i).toNat) Tapi_Link.d).f_Rate then give else (n.f_Links.getD ((i).toNat) Tapi_Link.d).f_Rate)))

/-- keelblock/water.flow -/
def g_water_flow (N : Nat) (n : Tapi_Network) (w : Tapi_Water) (i : Int) : Option (Int) :=
  (if 0 ≤ i ∧ i < ((n.f_Links.length : Nat) : Int) then
  (if 0 ≤ i ∧ i < ((w.f_Open.length : Nat) : Int) then
  (cond (!(w.f_Open.getD ((i).toNat) false))
  (some 0)
  (((g_water_sideOf N n w ((n.f_Links.getD ((i).toNat) Tapi_Link.d).f_From)).bind fun rsideOf =>
  ((g_water_sideOf N n w ((n.f_Links.getD ((i).toNat) Tapi_Link.d).f_To)).bind fun rsideOf2 =>
  ((g_water_side_level N rsideOf2 0).bind fun rlevel =>
  ((g_water_side_level N rsideOf 0).bind fun rlevel2 =>
  (cond ((n.f_Links.getD ((i).toNat) Tapi_Link.d).f_Kind == 1)
  ((cond (decide ((w64 (rlevel - rlevel2)) > (n.f_Links.getD ((i).toNat) Tapi_Link.d).f_Lift))
  (some 0)
  ((cond (!(!rsideOf.f_basin.isSome))
  (g_water_flow_J1 N n i rsideOf2 rsideOf.f_litres)
  (g_water_flow_J1 N n i rsideOf2 ((n.f_Links.getD ((i).toNat) Tapi_Link.d).f_Rate))))))
  ((cond (decide ((w64 (rlevel - rlevel2)) < 0))
  (((g_water_gate N (n.f_Links.getD ((i).toNat) Tapi_Link.d) rsideOf rsideOf2).bind fun rgate =>
  some rgate))
  ((cond (decide ((w64 (rlevel - rlevel2)) > 0))
  (((g_water_gate N (n.f_Links.getD ((i).toNat) Tapi_Link.d) rsideOf2 rsideOf).bind fun rgate2 =>
  some (w64 (0 - rgate2))))
  (some 0))))))))))))
  else none)
  else none)

/-- keelblock/water.Flow -/
def g_water_Flow (N : Nat) (n : Tapi_Network) (w : Tapi_Water) (link : ByteArray) : Option (Int × Int) :=
  ((g_water_checkState N n w).bind fun rcheckState =>
  (cond (rcheckState != 0)
  (some (0, rcheckState))
  (((g_water_linkOf N n link).bind fun rlinkOf =>
  (cond (decide (rlinkOf < 0))
  (some (0, 6))
  (((g_water_flow N n w rlinkOf).bind fun rflow =>
  some (rflow, 0))))))))

def g_r05_CheckWater_L1 (N : Nat) (n : Tapi_Network) (w : Tapi_Water) : Nat → Int → Option (Int)
  | 0, _ => none
  | fuel + 1, i =>
    (cond (decide (i < ((w.f_Litres.length : Nat) : Int)))
    ((if 0 ≤ i ∧ i < ((w.f_Litres.length : Nat) : Int) then
    (if 0 ≤ i ∧ i < ((n.f_Basins.length : Nat) : Int) then
    ((g_r05_Capacity N (n.f_Basins.getD ((i).toNat) Tapi_Basin.d)).bind fun rCapacity =>
    ((g_r05_inside N (w.f_Litres.getD ((i).toNat) 0) 0 rCapacity).bind fun rinside2 =>
    (cond (!rinside2)
    (some 2)
    (g_r05_CheckWater_L1 N n w fuel (w64 (i + 1))))))
    else none)
    else none))
    (some 0))

/-- keelblock/keelblockref05.CheckWater -/
def g_r05_CheckWater (N : Nat) (n : Tapi_Network) (w : Tapi_Water) : Option (Int) :=
  ((g_r05_inside N w.f_Minute 0 1000000).bind fun rinside =>
  (cond (!rinside)
  (some 2)
  ((cond (cond (((w.f_Litres.length : Nat) : Int) != ((n.f_Basins.length : Nat) : Int)) true (((w.f_Open.length : Nat) : Int) != ((n.f_Links.length : Nat) : Int)))
  (some 11)
  (g_r05_CheckWater_L1 N n w N 0)))))

def g_r05_CheckTurns_L1 (N : Nat) (n : Tapi_Network) (l : List Tapi_Turn) : Nat → Int → Option (Int)
  | 0, _ => none
  | fuel + 1, i =>
    (cond (decide (i < ((l.length : Nat) : Int)))
    ((if 0 ≤ i ∧ i < ((l.length : Nat) : Int) then
    ((g_r05_inside N ((l.getD ((i).toNat) Tapi_Turn.d).f_Minute) 0 1000000).bind fun rinside =>
    (cond (!rinside)
    (some 2)
    ((if ((decide (i > 0)) = true → 0 ≤ i ∧ i < ((l.length : Nat) : Int)) then
    (if ((decide (i > 0)) = true → 0 ≤ (w64 (i - 1)) ∧ (w64 (i - 1)) < ((l.length : Nat) : Int)) then
    (cond (cond (decide (i > 0)) (decide ((l.getD ((i).toNat) Tapi_Turn.d).f_Minute < (l.getD ((w64 (i - 1)).toNat) Tapi_Turn.d).f_Minute)) false)
    (some 10)
    (((g_r05_Link N n ((l.getD ((i).toNat) Tapi_Turn.d).f_Link)).bind fun rLink =>
    (cond (decide (rLink < 0))
    (some 6)
    (g_r05_CheckTurns_L1 N n l fuel (w64 (i + 1)))))))
    else none)
    else none))))
    else none))
    (some 0))

/-- keelblock/keelblockref05.CheckTurns -/
def g_r05_CheckTurns (N : Nat) (n : Tapi_Network) (l : List Tapi_Turn) : Option (Int) :=
  (cond (decide (((l.length : Nat) : Int) > 200))
  (some 8)
  (g_r05_CheckTurns_L1 N n l N 0))

/-- keelblock/keelblockref05.Started -/
def g_r05_Started (N : Nat) (n : Tapi_Network) (w : Tapi_Water) (turns : List Tapi_Turn) : Option (Int) :=
  ((g_r05_CheckNetwork N n).bind fun rCheckNetwork =>
  (cond (rCheckNetwork != 0)
  (some rCheckNetwork)
  (((g_r05_CheckWater N n w).bind fun rCheckWater =>
  (cond (rCheckWater != 0)
  (some rCheckWater)
  (((g_r05_CheckTurns N n turns).bind fun rCheckTurns =>
  some rCheckTurns)))))))

def g_r05_Levels_L1 (N : Nat) (n : Tapi_Network) (w : Tapi_Water) : Nat → (List Int) → Int → Option ((List Int))
  | 0, _, _ => none
  | fuel + 1, out, i =>
    (cond (decide (i < ((n.f_Basins.length : Nat) : Int)))
    ((if 0 ≤ i ∧ i < ((n.f_Basins.length : Nat) : Int) then
    (if 0 ≤ i ∧ i < ((w.f_Litres.length : Nat) : Int) then
    ((g_r05_LevelOf N (n.f_Basins.getD ((i).toNat) Tapi_Basin.d) (w.f_Litres.getD ((i).toNat) 0)).bind fun rLevelOf =>
    (if (out.length + 1) * 8 ≤ 140737488355328 then
    g_r05_Levels_L1 N n w fuel (out ++ ([rLevelOf] : List Int)) (w64 (i + 1))
    else none))
    else none)
    else none))
    (some out))

/-- keelblock/keelblockref05.Levels -/
def g_r05_Levels (N : Nat) (n : Tapi_Network) (w : Tapi_Water) : Option ((List Int)) :=
  g_r05_Levels_L1 N n w N ([] : List Int) 0

/-- keelblock/keelblockref05.height -/
def g_r05_height (N : Nat) (n : Tapi_Network) (w : Tapi_Water) (name : ByteArray) : Option (Int) :=
  (cond (streq name ByteArray.empty)
  (((g_r05_At N n.f_Sea w.f_Minute).bind fun rAt =>
  some rAt))
  (((g_r05_Basin N n name).bind fun rBasin =>
  (if 0 ≤ rBasin ∧ rBasin < ((n.f_Basins.length : Nat) : Int) then
  (if 0 ≤ rBasin ∧ rBasin < ((w.f_Litres.length : Nat) : Int) then
  ((g_r05_LevelOf N (n.f_Basins.getD ((rBasin).toNat) Tapi_Basin.d) (w.f_Litres.getD ((rBasin).toNat) 0)).bind fun rLevelOf =>
  some rLevelOf)
  else none)
  else none))))

/-- keelblock/keelblockref05.Copy -/
def g_r05_Copy (N : Nat) (w : Tapi_Water) : Option (Tapi_Water) :=
  (if (0 + w.f_Litres.length) * 8 ≤ 140737488355328 then
  (if (0 + w.f_Open.length) * 1 ≤ 140737488355328 then
  some (⟨w.f_Minute, (([] : List Int) ++ w.f_Litres), (([] : List Bool) ++ w.f_Open)⟩ : Tapi_Water)
  else none)
  else none)

def g_r05_moved_J2 (N : Nat) (rCopy : Tapi_Water) (out2 : List Int) : Option (Tapi_Water) :=
  some (⟨rCopy.f_Minute, out2, rCopy.f_Open⟩ : Tapi_Water)

def g_r05_moved_J1 (N : Nat) (n : Tapi_Network) (vto : ByteArray) (q : Int) (rCopy : Tapi_Water) (out : List Int) : Option (Tapi_Water) :=
  ((g_r05_Basin N n vto).bind fun rBasin2 =>
  (cond (decide (rBasin2 ≥ 0))
  ((if 0 ≤ rBasin2 ∧ rBasin2 < ((out.length : Nat) : Int) then
  g_r05_moved_J2 N rCopy (out.set ((rBasin2).toNat) (w64 ((out.getD ((rBasin2).toNat) 0) + q)))
  else none))
  (g_r05_moved_J2 N rCopy out)))

/-- keelblock/keelblockref05.moved -/
def g_r05_moved (N : Nat) (n : Tapi_Network) (w : Tapi_Water) (vfrom : ByteArray) (vto : ByteArray) (q : Int) : Option (Tapi_Water) :=
  ((g_r05_Copy N w).bind fun rCopy =>
  ((g_r05_Basin N n vfrom).bind fun rBasin =>
  (cond (decide (rBasin ≥ 0))
  ((if 0 ≤ rBasin ∧ rBasin < ((rCopy.f_Litres.length : Nat) : Int) then
  g_r05_moved_J1 N n vto q rCopy (rCopy.f_Litres.set ((rBasin).toNat) (w64 ((rCopy.f_Litres.getD ((rBasin).toNat) 0) - q)))
  else none))
  (g_r05_moved_J1 N n vto q rCopy rCopy.f_Litres))))

/-- keelblock/keelblockref05.may -/
def g_r05_may (N : Nat) (n : Tapi_Network) (w : Tapi_Water) (l : Tapi_Link) (vfrom : ByteArray) (vto : ByteArray) (q : Int) : Option (Bool) :=
  ((g_r05_height N n w vto).bind fun rheight =>
  ((g_r05_height N n w vfrom).bind fun rheight2 =>
  (cond (cond (decide (q > l.f_Rate)) true (decide (q > (w64 (l.f_Factor * (w64 (rheight2 - (if l.f_Sill > rheight then l.f_Sill else rheight))))))))
  (some false)
  (((g_r05_Basin N n vfrom).bind fun rBasin =>
  (if ((decide (rBasin ≥ 0)) = true → 0 ≤ rBasin ∧ rBasin < ((w.f_Litres.length : Nat) : Int)) then
  (if ((decide (rBasin ≥ 0)) = true → 0 ≤ rBasin ∧ rBasin < ((n.f_Basins.length : Nat) : Int)) then
  ((cond (decide (rBasin ≥ 0)) (g_r05_Below N (n.f_Basins.getD ((rBasin).toNat) Tapi_Basin.d) l.f_Sill) (some 0)).bind fun rBelow =>
  (cond (cond (decide (rBasin ≥ 0)) (decide ((w64 ((w.f_Litres.getD ((rBasin).toNat) 0) - q)) < rBelow)) false)
  (some false)
  (((g_r05_Basin N n vto).bind fun rBasin2 =>
  (if ((decide (rBasin2 ≥ 0)) = true → 0 ≤ rBasin2 ∧ rBasin2 < ((w.f_Litres.length : Nat) : Int)) then
  (if ((decide (rBasin2 ≥ 0)) = true → 0 ≤ rBasin2 ∧ rBasin2 < ((n.f_Basins.length : Nat) : Int)) then
  ((cond (decide (rBasin2 ≥ 0)) (g_r05_Capacity N (n.f_Basins.getD ((rBasin2).toNat) Tapi_Basin.d)) (some 0)).bind fun rCapacity =>
  (cond (cond (decide (rBasin2 ≥ 0)) (decide ((w64 ((w.f_Litres.getD ((rBasin2).toNat) 0) + q)) > rCapacity)) false)
  (some false)
  (((g_r05_moved N n w vfrom vto q).bind fun rmoved =>
  ((g_r05_height N n (⟨rmoved.f_Minute, rmoved.f_Litres, rmoved.f_Open⟩ : Tapi_Water) vfrom).bind fun rheight3 =>
  ((g_r05_height N n (⟨rmoved.f_Minute, rmoved.f_Litres, rmoved.f_Open⟩ : Tapi_Water) vto).bind fun rheight4 =>
  some (decide (rheight3 ≥ rheight4))))))))
  else none)
  else none)))))
  else none)
  else none))))))

def g_r05_through_J2 (N : Nat) (n : Tapi_Network) (w : Tapi_Water) (l : Tapi_Link) (vfrom : ByteArray) (vto : ByteArray) (step : Int) (K_g_r05_through_L1 : Int → Int → Option (Int)) (q2 : Int) : Option (Int) :=
  K_g_r05_through_L1 q2 (w64 (step.tdiv 2))

def g_r05_through_L1 (N : Nat) (n : Tapi_Network) (w : Tapi_Water) (l : Tapi_Link) (vfrom : ByteArray) (vto : ByteArray) : Nat → Int → Int → Option (Int)
  | 0, _, _ => none
  | fuel + 1, q, step =>
    (cond (decide (step > 0))
    (((g_r05_may N n w l vfrom vto (w64 (q + step))).bind fun rmay =>
    (cond rmay
    (g_r05_through_J2 N n w l vfrom vto step (g_r05_through_L1 N n w l vfrom vto fuel) (w64 (q + step)))
    (g_r05_through_J2 N n w l vfrom vto step (g_r05_through_L1 N n w l vfrom vto fuel) q))))
    (some q))

/-- keelblock/keelblockref05.through -/
def g_r05_through (N : Nat) (n : Tapi_Network) (w : Tapi_Water) (l : Tapi_Link) (vfrom : ByteArray) (vto : ByteArray) : Option (Int) :=
  ((g_r05_height N n w vfrom).bind fun rheight =>
  (cond (decide (rheight ≤ l.f_Sill))
  (some 0)
  (g_r05_through_L1 N n w l vfrom vto N 0 1073741824)))

def g_r05_Act_J2 (N : Nat) (q2 : Int) : Option (Int) :=
  some q2

def g_r05_Act_J1 (N : Nat) (n : Tapi_Network) (w : Tapi_Water) (l : Tapi_Link) (q : Int) : Option (Int) :=
  ((g_r05_Basin N n l.f_To).bind fun rBasin2 =>
  (cond (decide (rBasin2 ≥ 0))
  ((if 0 ≤ rBasin2 ∧ rBasin2 < ((n.f_Basins.length : Nat) : Int) then
  ((g_r05_Capacity N (n.f_Basins.getD ((rBasin2).toNat) Tapi_Basin.d)).bind fun rCapacity =>
  (if 0 ≤ rBasin2 ∧ rBasin2 < ((w.f_Litres.length : Nat) : Int) then
  g_r05_Act_J2 N (if (w64 (rCapacity - (w.f_Litres.getD ((rBasin2).toNat) 0))) < q then (w64 (rCapacity - (w.f_Litres.getD ((rBasin2).toNat) 0))) else q)
  else none))
  else none))
  (g_r05_Act_J2 N q)))

/-- keelblock/keelblockref05.Act -/
def g_r05_Act (N : Nat) (n : Tapi_Network) (w : Tapi_Water) (l : Tapi_Link) : Option (Int) :=
  ((g_r05_height N n w l.f_From).bind fun rheight =>
  ((g_r05_height N n w l.f_To).bind fun rheight2 =>
  (cond (l.f_Kind == 0)
  ((cond (decide (rheight > rheight2))
  (((g_r05_through N n w l l.f_From l.f_To).bind fun rthrough =>
  some rthrough))
  ((cond (decide (rheight2 > rheight))
  (((g_r05_through N n w l l.f_To l.f_From).bind fun rthrough2 =>
  some (w64 (0 - rthrough2))))
  (some 0)))))
  ((cond (decide ((w64 (rheight2 - rheight)) > l.f_Lift))
  (some 0)
  (((g_r05_Basin N n l.f_From).bind fun rBasin =>
  (cond (decide (rBasin ≥ 0))
  ((if 0 ≤ rBasin ∧ rBasin < ((w.f_Litres.length : Nat) : Int) then
  g_r05_Act_J1 N n w l (if (w.f_Litres.getD ((rBasin).toNat) 0) < l.f_Rate then (w.f_Litres.getD ((rBasin).toNat) 0) else l.f_Rate)
  else none))
  (g_r05_Act_J1 N n w l l.f_Rate)))))))))

def g_w05_WaterFlows_J1 (N : Nat) (rFlow : Int × Int) (want : Int) : Option (Bool) :=
  some (cond (rFlow.2 == 0) (rFlow.1 == want) false)

/-- keelblock/keelblocklaw05.WaterFlows -/
def g_w05_WaterFlows (N : Nat) (c : Tkeelblocklaw05_Case) (link : ByteArray) : Option (Bool) :=
  ((g_w05_awake N).bind fun rawake =>
  (cond (!rawake)
  (some false)
  (((g_w05_Case_Short N c).bind fun rShort =>
  (cond (cond (!rShort) true (decide (((link.size : Nat) : Int) > 40)))
  (some true)
  (((g_water_Levels N c.f_N c.f_W).bind fun rLevels =>
  ((g_water_Flow N c.f_N c.f_W link).bind fun rFlow =>
  ((g_r05_Started N c.f_N c.f_W ([] : List Tapi_Turn)).bind fun rStarted =>
  (cond (rStarted != 0)
  (some (cond (cond (cond (rLevels.2 == rStarted) (rFlow.2 == rStarted) false) (((rLevels.1.length : Nat) : Int) == 0) false) (rFlow.1 == 0) false))
  (((g_r05_Link N c.f_N link).bind fun rLink =>
  ((cond (!(rLevels.2 != 0)) (g_r05_Levels N c.f_N c.f_W) (some [])).bind fun rLevels2 =>
  ((cond (!(rLevels.2 != 0)) (g_keelblockbase_Ints N rLevels.1 rLevels2) (some false)).bind fun rInts =>
  (cond (cond (rLevels.2 != 0) true (!rInts))
  (some false)
  ((cond (decide (rLink < 0))
  (some (cond (rFlow.2 == 6) (rFlow.1 == 0) false))
  ((if 0 ≤ rLink ∧ rLink < ((c.f_W.f_Open.length : Nat) : Int) then
  (cond (c.f_W.f_Open.getD ((rLink).toNat) false)
  ((if 0 ≤ rLink ∧ rLink < ((c.f_N.f_Links.length : Nat) : Int) then
  ((g_r05_Act N c.f_N c.f_W (c.f_N.f_Links.getD ((rLink).toNat) Tapi_Link.d)).bind fun rAct =>
  g_w05_WaterFlows_J1 N rFlow rAct)
  else none))
  (g_w05_WaterFlows_J1 N rFlow 0))
  else none)))))))))))))))))))

/-- slices.Clone   int,int  -/
def g_slices_Clone_int_int (N : Nat) (s : List Int) : Option ((List Int)) :=
  (if (0 + s.length) * 8 ≤ 140737488355328 then
  some (([] : List Int) ++ s)
  else none)

/-- slices.Clone   bool,bool  -/
def g_slices_Clone_bool_bool (N : Nat) (s : List Bool) : Option ((List Bool)) :=
  (if (0 + s.length) * 1 ≤ 140737488355328 then
  some (([] : List Bool) ++ s)
  else none)

/-- keelblock/water.clone -/
def g_water_clone (N : Nat) (w : Tapi_Water) : Option (Tapi_Water) :=
  ((g_slices_Clone_int_int N w.f_Litres).bind fun rClone =>
  ((g_slices_Clone_bool_bool N w.f_Open).bind fun rClone2 =>
  some (⟨w.f_Minute, rClone, rClone2⟩ : Tapi_Water)))

def g_water_step_J3 (N : Nat) (n : Tapi_Network) (cap0 : Int) (cap2 : List Bool) (out : List Int) (x : Int) (rflow : Int) (K_g_water_step_L1 : (List Int) → (List Int) → Int → Option ((List Int) × Tapi_Water × (List Int))) (cap04 : List Int) : Option ((List Int) × Tapi_Water × (List Int)) :=
  (if (out.length + 1) * 8 ≤ 140737488355328 then
  K_g_water_step_L1 cap04 (out ++ ([rflow] : List Int)) (w64 (x + 1))
  else none)

def g_water_step_J2 (N : Nat) (n : Tapi_Network) (cap0 : Int) (cap2 : List Bool) (out : List Int) (x : Int) (rflow : Int) (K_g_water_step_L1 : (List Int) → (List Int) → Int → Option ((List Int) × Tapi_Water × (List Int))) (cap03 : List Int) : Option ((List Int) × Tapi_Water × (List Int)) :=
  ((g_water_basinOf N n ((n.f_Links.getD ((x).toNat) Tapi_Link.d).f_To)).bind fun rbasinOf2 =>
  (cond (decide (rbasinOf2 ≥ 0))
  ((if 0 ≤ rbasinOf2 ∧ rbasinOf2 < ((cap03.length : Nat) : Int) then
  g_water_step_J3 N n cap0 cap2 out x rflow K_g_water_step_L1 (cap03.set ((rbasinOf2).toNat) (w64 ((cap03.getD ((rbasinOf2).toNat) 0) + rflow)))
  else none))
  (g_water_step_J3 N n cap0 cap2 out x rflow K_g_water_step_L1 cap03)))

def g_water_step_L1 (N : Nat) (n : Tapi_Network) (cap0 : Int) (cap2 : List Bool) : Nat → (List Int) → (List Int) → Int → Option ((List Int) × Tapi_Water × (List Int))
  | 0, _, _, _ => none
  | fuel + 1, cap02, out, x =>
    (cond (decide (x < ((n.f_Links.length : Nat) : Int)))
    ((if 0 ≤ x ∧ x < ((n.f_Links.length : Nat) : Int) then
    ((g_water_flow N n (⟨cap0, cap02, cap2⟩ : Tapi_Water) x).bind fun rflow =>
    ((g_water_basinOf N n ((n.f_Links.getD ((x).toNat) Tapi_Link.d).f_From)).bind fun rbasinOf =>
    (cond (decide (rbasinOf ≥ 0))
    ((if 0 ≤ rbasinOf ∧ rbasinOf < ((cap02.length : Nat) : Int) then
    g_water_step_J2 N n cap0 cap2 out x rflow (g_water_step_L1 N n cap0 cap2 fuel) (cap02.set ((rbasinOf).toNat) (w64 ((cap02.getD ((rbasinOf).toNat) 0) - rflow)))
    else none))
    (g_water_step_J2 N n cap0 cap2 out x rflow (g_water_step_L1 N n cap0 cap2 fuel) cap02))))
    else none))
    (some (out, (⟨(w64 (cap0 + 1)), cap02, cap2⟩ : Tapi_Water), cap02)))

/-- keelblock/water.step -/
def g_water_step (N : Nat) (n : Tapi_Network) (cap0 : Int) (cap1 : List Int) (cap2 : List Bool) : Option ((List Int) × Tapi_Water × (List Int)) :=
  g_water_step_L1 N n cap0 cap2 N cap1 ([] : List Int) 0

/-- keelblock/water.Step -/
def g_water_Step (N : Nat) (n : Tapi_Network) (w : Tapi_Water) : Option (Tapi_Water × (List Int) × Int) :=
  ((g_water_checkState N n w).bind fun rcheckState =>
  (cond (rcheckState != 0)
  (some ((⟨0, ([] : List Int), ([] : List Bool)⟩ : Tapi_Water), ([] : List Int), rcheckState))
  ((cond (w.f_Minute == 1000000)
  (some ((⟨0, ([] : List Int), ([] : List Bool)⟩ : Tapi_Water), ([] : List Int), 2))
  (((g_water_clone N w).bind fun rclone =>
  ((g_water_step N n rclone.f_Minute rclone.f_Litres rclone.f_Open).bind fun rstep =>
  (if rstep.2.2.length = rclone.f_Litres.length then
  some ((⟨rstep.2.1.f_Minute, rstep.2.2, rclone.f_Open⟩ : Tapi_Water), rstep.1, 0)
  else none))))))))

def g_water_checkTurns_L1 (N : Nat) (n : Tapi_Network) (turns : List Tapi_Turn) : Nat → Int → Option (Int)
  | 0, _ => none
  | fuel + 1, x =>
    (cond (decide (x < ((turns.length : Nat) : Int)))
    ((if 0 ≤ x ∧ x < ((turns.length : Nat) : Int) then
    ((g_water_between N ((turns.getD ((x).toNat) Tapi_Turn.d).f_Minute) 0 1000000).bind fun rbetween =>
    (cond (!rbetween)
    (some 2)
    ((if ((decide (x > 0)) = true → 0 ≤ (w64 (x - 1)) ∧ (w64 (x - 1)) < ((turns.length : Nat) : Int)) then
    (cond (cond (decide (x > 0)) (decide ((turns.getD ((x).toNat) Tapi_Turn.d).f_Minute < (turns.getD ((w64 (x - 1)).toNat) Tapi_Turn.d).f_Minute)) false)
    (some 10)
    (((g_water_linkOf N n ((turns.getD ((x).toNat) Tapi_Turn.d).f_Link)).bind fun rlinkOf =>
    (cond (decide (rlinkOf < 0))
    (some 6)
    (g_water_checkTurns_L1 N n turns fuel (w64 (x + 1)))))))
    else none))))
    else none))
    (some 0))

/-- keelblock/water.checkTurns -/
def g_water_checkTurns (N : Nat) (n : Tapi_Network) (w : Tapi_Water) (turns : List Tapi_Turn) : Option (Int) :=
  ((g_water_checkState N n w).bind fun rcheckState =>
  (cond (rcheckState != 0)
  (some rcheckState)
  ((cond (decide (((turns.length : Nat) : Int) > 200))
  (some 8)
  (g_water_checkTurns_L1 N n turns N 0)))))

def g_water_run_J3 (N : Nat) (n : Tapi_Network) (turns : List Tapi_Turn) (minutes : Int) (cap02 : Int) (cap03 : List Int) (x : Int) (x2 : Int) (K_g_water_run_L2 : (List Bool) → Int → Option (Tapi_Water × (List Int) × (List Bool))) (K_g_water_run_L1 : Int → (List Int) → (List Bool) → Int → Option (Tapi_Water × (List Int) × (List Bool))) (cap06 : List Bool) : Option (Tapi_Water × (List Int) × (List Bool)) :=
  K_g_water_run_L2 cap06 (w64 (x2 + 1))

def g_water_run_L2 (N : Nat) (n : Tapi_Network) (turns : List Tapi_Turn) (minutes : Int) (cap02 : Int) (cap03 : List Int) (x : Int) (K_g_water_run_L1 : Int → (List Int) → (List Bool) → Int → Option (Tapi_Water × (List Int) × (List Bool))) : Nat → (List Bool) → Int → Option (Tapi_Water × (List Int) × (List Bool))
  | 0, _, _ => none
  | fuel + 1, cap05, x2 =>
    (cond (decide (x2 < ((turns.length : Nat) : Int)))
    ((if 0 ≤ x2 ∧ x2 < ((turns.length : Nat) : Int) then
    (cond ((turns.getD ((x2).toNat) Tapi_Turn.d).f_Minute == cap02)
    (((g_water_linkOf N n ((turns.getD ((x2).toNat) Tapi_Turn.d).f_Link)).bind fun rlinkOf =>
    (if 0 ≤ rlinkOf ∧ rlinkOf < ((cap05.length : Nat) : Int) then
    g_water_run_J3 N n turns minutes cap02 cap03 x x2 (g_water_run_L2 N n turns minutes cap02 cap03 x K_g_water_run_L1 fuel) K_g_water_run_L1 (cap05.set ((rlinkOf).toNat) ((turns.getD ((x2).toNat) Tapi_Turn.d).f_Open))
    else none)))
    (g_water_run_J3 N n turns minutes cap02 cap03 x x2 (g_water_run_L2 N n turns minutes cap02 cap03 x K_g_water_run_L1 fuel) K_g_water_run_L1 cap05))
    else none))
    (((g_water_step N n cap02 cap03 cap05).bind fun rstep =>
    (if rstep.2.2.length = cap03.length then
    K_g_water_run_L1 rstep.2.1.f_Minute rstep.2.2 cap05 (w64 (x + 1))
    else none))))

def g_water_run_L1 (N : Nat) (n : Tapi_Network) (turns : List Tapi_Turn) (minutes : Int) : Nat → Int → (List Int) → (List Bool) → Int → Option (Tapi_Water × (List Int) × (List Bool))
  | 0, _, _, _, _ => none
  | fuel + 1, cap02, cap03, cap04, x =>
    (cond (decide (x < minutes))
    (g_water_run_L2 N n turns minutes cap02 cap03 x (g_water_run_L1 N n turns minutes fuel) N cap04 0)
    (some ((⟨cap02, cap03, cap04⟩ : Tapi_Water), cap03, cap04)))

/-- keelblock/water.run -/
def g_water_run (N : Nat) (n : Tapi_Network) (turns : List Tapi_Turn) (minutes : Int) (cap0 : Int) (cap1 : List Int) (cap2 : List Bool) : Option (Tapi_Water × (List Int) × (List Bool)) :=
  g_water_run_L1 N n turns minutes N cap0 cap1 cap2 0

/-- keelblock/water.Run -/
def g_water_Run (N : Nat) (n : Tapi_Network) (w : Tapi_Water) (turns : List Tapi_Turn) (minutes : Int) : Option (Tapi_Water × Int) :=
  ((g_water_checkTurns N n w turns).bind fun rcheckTurns =>
  (cond (rcheckTurns != 0)
  (some ((⟨0, ([] : List Int), ([] : List Bool)⟩ : Tapi_Water), rcheckTurns))
  (((g_water_between N minutes 0 10000).bind fun rbetween =>
  (cond (cond (!rbetween) true (decide ((w64 (w.f_Minute + minutes)) > 1000000)))
  (some ((⟨0, ([] : List Int), ([] : List Bool)⟩ : Tapi_Water), 2))
  (((g_water_clone N w).bind fun rclone =>
  ((g_water_run N n turns minutes rclone.f_Minute rclone.f_Litres rclone.f_Open).bind fun rrun =>
  (if rrun.2.1.length = rclone.f_Litres.length then
  (if rrun.2.2.length = rclone.f_Open.length then
  some ((⟨rrun.1.f_Minute, rrun.2.1, rrun.2.2⟩ : Tapi_Water), 0)
  else none)
  else none)))))))))

def g_r05_Step_J2 (N : Nat) (n : Tapi_Network) (w : Tapi_Water) (out : Int) (out2 : List Int) (out3 : List Bool) (flows : List Int) (i : Int) (K_g_r05_Step_L1 : Int → (List Int) → (List Bool) → (List Int) → Int → Option (Tapi_Water × (List Int))) (q : Int) : Option (Tapi_Water × (List Int)) :=
  (if 0 ≤ i ∧ i < ((n.f_Links.length : Nat) : Int) then
  ((g_r05_moved N n (⟨out, out2, out3⟩ : Tapi_Water) ((n.f_Links.getD ((i).toNat) Tapi_Link.d).f_From) ((n.f_Links.getD ((i).toNat) Tapi_Link.d).f_To) q).bind fun rmoved =>
  (if (flows.length + 1) * 8 ≤ 140737488355328 then
  K_g_r05_Step_L1 rmoved.f_Minute rmoved.f_Litres rmoved.f_Open (flows ++ ([q] : List Int)) (w64 (i + 1))
  else none))
  else none)

def g_r05_Step_L1 (N : Nat) (n : Tapi_Network) (w : Tapi_Water) : Nat → Int → (List Int) → (List Bool) → (List Int) → Int → Option (Tapi_Water × (List Int))
  | 0, _, _, _, _, _ => none
  | fuel + 1, out, out2, out3, flows, i =>
    (cond (decide (i < ((n.f_Links.length : Nat) : Int)))
    ((if 0 ≤ i ∧ i < ((w.f_Open.length : Nat) : Int) then
    (cond (w.f_Open.getD ((i).toNat) false)
    ((if 0 ≤ i ∧ i < ((n.f_Links.length : Nat) : Int) then
    ((g_r05_Act N n (⟨out, out2, out3⟩ : Tapi_Water) (n.f_Links.getD ((i).toNat) Tapi_Link.d)).bind fun rAct =>
    g_r05_Step_J2 N n w out out2 out3 flows i (g_r05_Step_L1 N n w fuel) rAct)
    else none))
    (g_r05_Step_J2 N n w out out2 out3 flows i (g_r05_Step_L1 N n w fuel) 0))
    else none))
    (some ((⟨(w64 (out + 1)), out2, out3⟩ : Tapi_Water), flows)))

/-- keelblock/keelblockref05.Step -/
def g_r05_Step (N : Nat) (n : Tapi_Network) (w : Tapi_Water) : Option (Tapi_Water × (List Int)) :=
  ((g_r05_Copy N w).bind fun rCopy =>
  g_r05_Step_L1 N n w N rCopy.f_Minute rCopy.f_Litres rCopy.f_Open ([] : List Int) 0)

def g_r05_Run_J3 (N : Nat) (n : Tapi_Network) (turns : List Tapi_Turn) (minutes : Int) (out : Int) (out2 : List Int) (k : Int) (i : Int) (K_g_r05_Run_L2 : (List Bool) → Int → Option (Tapi_Water)) (K_g_r05_Run_L1 : Int → (List Int) → (List Bool) → Int → Option (Tapi_Water)) (out5 : List Bool) : Option (Tapi_Water) :=
  K_g_r05_Run_L2 out5 (w64 (i + 1))

def g_r05_Run_L2 (N : Nat) (n : Tapi_Network) (turns : List Tapi_Turn) (minutes : Int) (out : Int) (out2 : List Int) (k : Int) (K_g_r05_Run_L1 : Int → (List Int) → (List Bool) → Int → Option (Tapi_Water)) : Nat → (List Bool) → Int → Option (Tapi_Water)
  | 0, _, _ => none
  | fuel + 1, out4, i =>
    (cond (decide (i < ((turns.length : Nat) : Int)))
    ((if 0 ≤ i ∧ i < ((turns.length : Nat) : Int) then
    (cond ((turns.getD ((i).toNat) Tapi_Turn.d).f_Minute == out)
    (((g_r05_Link N n ((turns.getD ((i).toNat) Tapi_Turn.d).f_Link)).bind fun rLink =>
    (if 0 ≤ rLink ∧ rLink < ((out4.length : Nat) : Int) then
    g_r05_Run_J3 N n turns minutes out out2 k i (g_r05_Run_L2 N n turns minutes out out2 k K_g_r05_Run_L1 fuel) K_g_r05_Run_L1 (out4.set ((rLink).toNat) ((turns.getD ((i).toNat) Tapi_Turn.d).f_Open))
    else none)))
    (g_r05_Run_J3 N n turns minutes out out2 k i (g_r05_Run_L2 N n turns minutes out out2 k K_g_r05_Run_L1 fuel) K_g_r05_Run_L1 out4))
    else none))
    (((g_r05_Step N n (⟨out, out2, out4⟩ : Tapi_Water)).bind fun rStep =>
    K_g_r05_Run_L1 rStep.1.f_Minute rStep.1.f_Litres rStep.1.f_Open (w64 (k + 1)))))

def g_r05_Run_L1 (N : Nat) (n : Tapi_Network) (turns : List Tapi_Turn) (minutes : Int) : Nat → Int → (List Int) → (List Bool) → Int → Option (Tapi_Water)
  | 0, _, _, _, _ => none
  | fuel + 1, out, out2, out3, k =>
    (cond (decide (k < minutes))
    (g_r05_Run_L2 N n turns minutes out out2 k (g_r05_Run_L1 N n turns minutes fuel) N out3 0)
    (some (⟨out, out2, out3⟩ : Tapi_Water)))

/-- keelblock/keelblockref05.Run -/
def g_r05_Run (N : Nat) (n : Tapi_Network) (w : Tapi_Water) (turns : List Tapi_Turn) (minutes : Int) : Option (Tapi_Water) :=
  ((g_r05_Copy N w).bind fun rCopy =>
  g_r05_Run_L1 N n turns minutes N rCopy.f_Minute rCopy.f_Litres rCopy.f_Open 0)

def g_w05_WaterSteps_J3 (N : Nat) (c : Tkeelblocklaw05_Case) (minutes : Int) (rRun : Tapi_Water × Int) (vh : Int) : Option (Bool) :=
  (cond (vh != 0)
  (((cond (rRun.2 == vh) (g_w05_none N rRun.1) (some false)).bind fun rnone2 =>
  some (cond (rRun.2 == vh) rnone2 false)))
  (((cond (rRun.2 == 0) (g_r05_Run N c.f_N c.f_W c.f_Turns minutes) (some Tapi_Water.d)).bind fun rRun2 =>
  ((cond (rRun.2 == 0) (g_w05_SameWater N rRun.1 rRun2) (some false)).bind fun rSameWater =>
  some (cond (rRun.2 == 0) rSameWater false)))))

def g_w05_WaterSteps_J2 (N : Nat) (c : Tkeelblocklaw05_Case) (minutes : Int) (rStep : Tapi_Water × (List Int) × Int) (rRun : Tapi_Water × Int) (g : Int) (vh : Int) : Option (Bool) :=
  (cond (g != 0)
  (((cond (!(rStep.2.2 != g)) (g_w05_none N (⟨rStep.1.f_Minute, rStep.1.f_Litres, rStep.1.f_Open⟩ : Tapi_Water)) (some false)).bind fun rnone =>
  (cond (cond (cond (rStep.2.2 != g) true (!rnone)) true (decide (((rStep.2.1.length : Nat) : Int) > 0)))
  (some false)
  (g_w05_WaterSteps_J3 N c minutes rRun vh))))
  (((g_r05_Step N c.f_N c.f_W).bind fun rStep2 =>
  ((cond (!(rStep.2.2 != 0)) (g_w05_SameWater N (⟨rStep.1.f_Minute, rStep.1.f_Litres, rStep.1.f_Open⟩ : Tapi_Water) (⟨rStep2.1.f_Minute, rStep2.1.f_Litres, rStep2.1.f_Open⟩ : Tapi_Water)) (some false)).bind fun rSameWater2 =>
  ((cond (!(cond (rStep.2.2 != 0) true (!rSameWater2))) (g_keelblockbase_Ints N rStep.2.1 rStep2.2) (some false)).bind fun rInts =>
  (cond (cond (cond (rStep.2.2 != 0) true (!rSameWater2)) true (!rInts))
  (some false)
  (g_w05_WaterSteps_J3 N c minutes rRun vh)))))))

def g_w05_WaterSteps_J1 (N : Nat) (c : Tkeelblocklaw05_Case) (minutes : Int) (rStep : Tapi_Water × (List Int) × Int) (rRun : Tapi_Water × Int) (rStarted2 : Int) (g : Int) : Option (Bool) :=
  (cond (cond (rStarted2 == 0) (cond (cond (decide (minutes < 0)) true (decide (minutes > 10000))) true (decide ((w64 (c.f_W.f_Minute + minutes)) > 1000000))) false)
  (g_w05_WaterSteps_J2 N c minutes rStep rRun g 2)
  (g_w05_WaterSteps_J2 N c minutes rStep rRun g rStarted2))

/-- keelblock/keelblocklaw05.WaterSteps -/
def g_w05_WaterSteps (N : Nat) (c : Tkeelblocklaw05_Case) (minutes : Int) : Option (Bool) :=
  ((g_w05_awake N).bind fun rawake =>
  (cond (!rawake)
  (some false)
  (((g_w05_Case_Short N c).bind fun rShort =>
  (cond (cond (!rShort) true (cond (decide (minutes > 40)) (decide (minutes ≤ 10000)) false))
  (some true)
  (((g_water_Step N c.f_N c.f_W).bind fun rStep =>
  ((g_water_Run N c.f_N c.f_W c.f_Turns minutes).bind fun rRun =>
  ((g_r05_Started N c.f_N c.f_W ([] : List Tapi_Turn)).bind fun rStarted =>
  ((g_r05_Started N c.f_N c.f_W c.f_Turns).bind fun rStarted2 =>
  (cond (cond (rStarted == 0) (c.f_W.f_Minute == 1000000) false)
  (g_w05_WaterSteps_J1 N c minutes rStep rRun rStarted2 2)
  (g_w05_WaterSteps_J1 N c minutes rStep rRun rStarted2 rStarted))))))))))))

/-- keelblock/keelblocklaw05.side -/
def g_w05_side (N : Nat) (n : Tapi_Network) (w : Tapi_Water) (name : ByteArray) : Option (Int) :=
  (cond (streq name ByteArray.empty)
  (((g_r05_At N n.f_Sea w.f_Minute).bind fun rAt =>
  some rAt))
  (((g_r05_Levels N n w).bind fun rLevels =>
  ((g_r05_Basin N n name).bind fun rBasin =>
  (if 0 ≤ rBasin ∧ rBasin < ((rLevels.length : Nat) : Int) then
  some (rLevels.getD ((rBasin).toNat) 0)
  else none)))))

def g_w05_WaterKept_J3 (N : Nat) (c : Tkeelblocklaw05_Case) (rRun : Tapi_Water × Int) (rStep : Tapi_Water × (List Int) × Int) (i : Int) (K_g_w05_WaterKept_L1 : Int → Int → Option (Bool)) (sea3 : Int) : Option (Bool) :=
  K_g_w05_WaterKept_L1 sea3 (w64 (i + 1))

def g_w05_WaterKept_J2 (N : Nat) (c : Tkeelblocklaw05_Case) (rRun : Tapi_Water × Int) (rStep : Tapi_Water × (List Int) × Int) (i : Int) (K_g_w05_WaterKept_L1 : Int → Int → Option (Bool)) (sea2 : Int) : Option (Bool) :=
  (if 0 ≤ i ∧ i < ((c.f_N.f_Links.length : Nat) : Int) then
  (cond (streq ((c.f_N.f_Links.getD ((i).toNat) Tapi_Link.d).f_To) ByteArray.empty)
  ((if 0 ≤ i ∧ i < ((rStep.2.1.length : Nat) : Int) then
  g_w05_WaterKept_J3 N c rRun rStep i K_g_w05_WaterKept_L1 (w64 (sea2 - (rStep.2.1.getD ((i).toNat) 0)))
  else none))
  (g_w05_WaterKept_J3 N c rRun rStep i K_g_w05_WaterKept_L1 sea2))
  else none)

def g_w05_WaterKept_J6 (N : Nat) (c : Tkeelblocklaw05_Case) (rRun : Tapi_Water × Int) (rStep : Tapi_Water × (List Int) × Int) (i3 : Int) (K_g_w05_WaterKept_L5 : Int → Option (Bool)) : Option (Bool) :=
  K_g_w05_WaterKept_L5 (w64 (i3 + 1))

def g_w05_WaterKept_L5 (N : Nat) (c : Tkeelblocklaw05_Case) (rRun : Tapi_Water × Int) (rStep : Tapi_Water × (List Int) × Int) : Nat → Int → Option (Bool)
  | 0, _ => none
  | fuel + 1, i3 =>
    (cond (decide (i3 < ((rStep.2.1.length : Nat) : Int)))
    ((if 0 ≤ i3 ∧ i3 < ((c.f_N.f_Links.length : Nat) : Int) then
    (cond ((c.f_N.f_Links.getD ((i3).toNat) Tapi_Link.d).f_Kind != 0)
    (g_w05_WaterKept_J6 N c rRun rStep i3 (g_w05_WaterKept_L5 N c rRun rStep fuel))
    ((if (i3).toNat ≤ (w64 (i3 + 1)).toNat ∧ (w64 (i3 + 1)).toNat ≤ c.f_N.f_Links.length then
    (if 0 ≤ i3 then
    (if 0 ≤ (w64 (i3 + 1)) then
    ((g_water_Step N (⟨c.f_N.f_Basins, c.f_N.f_Sea, ((c.f_N.f_Links.take ((w64 (i3 + 1)).toNat)).drop ((i3).toNat))⟩ : Tapi_Network) (⟨rRun.1.f_Minute, rRun.1.f_Litres, ([true] : List Bool)⟩ : Tapi_Water)).bind fun rStep2 =>
    (cond (cond (cond (rStep2.2.2 != 0) true (((rStep2.2.1.length : Nat) : Int) != 1)) true (((rStep2.1.f_Litres.length : Nat) : Int) != ((rRun.1.f_Litres.length : Nat) : Int)))
    (some false)
    (((g_w05_side N (⟨c.f_N.f_Basins, c.f_N.f_Sea, ((c.f_N.f_Links.take ((w64 (i3 + 1)).toNat)).drop ((i3).toNat))⟩ : Tapi_Network) (⟨rRun.1.f_Minute, rStep2.1.f_Litres, rStep2.1.f_Open⟩ : Tapi_Water) ((c.f_N.f_Links.getD ((i3).toNat) Tapi_Link.d).f_From)).bind fun rside =>
    ((g_w05_side N (⟨c.f_N.f_Basins, c.f_N.f_Sea, ((c.f_N.f_Links.take ((w64 (i3 + 1)).toNat)).drop ((i3).toNat))⟩ : Tapi_Network) (⟨rRun.1.f_Minute, rStep2.1.f_Litres, rStep2.1.f_Open⟩ : Tapi_Water) ((c.f_N.f_Links.getD ((i3).toNat) Tapi_Link.d).f_To)).bind fun rside2 =>
    (if 0 ≤ (0 : Int) ∧ 0 < ((rStep2.2.1.length : Nat) : Int) then
    (if ((!(cond (decide ((rStep2.2.1.getD 0 0) > 0)) (decide (rside < rside2)) false)) = true → 0 ≤ (0 : Int) ∧ 0 < ((rStep2.2.1.length : Nat) : Int)) then
    (cond (cond (cond (decide ((rStep2.2.1.getD 0 0) > 0)) (decide (rside < rside2)) false) true (cond (decide ((rStep2.2.1.getD 0 0) < 0)) (decide (rside2 < rside)) false))
    (some false)
    (g_w05_WaterKept_J6 N c rRun rStep i3 (g_w05_WaterKept_L5 N c rRun rStep fuel)))
    else none)
    else none))))))
    else none)
    else none)
    else none)))
    else none))
    (some true))

def g_w05_WaterKept_L4 (N : Nat) (c : Tkeelblocklaw05_Case) (rRun : Tapi_Water × Int) (rStep : Tapi_Water × (List Int) × Int) (sea : Int) : Nat → Int → Int → Option (Bool)
  | 0, _, _ => none
  | fuel + 1, sum, i2 =>
    (cond (decide (i2 < ((rStep.1.f_Litres.length : Nat) : Int)))
    ((if 0 ≤ i2 ∧ i2 < ((rStep.1.f_Litres.length : Nat) : Int) then
    (if 0 ≤ i2 ∧ i2 < ((rRun.1.f_Litres.length : Nat) : Int) then
    (if ((!(decide ((rStep.1.f_Litres.getD ((i2).toNat) 0) < 0))) = true → 0 ≤ i2 ∧ i2 < ((rStep.1.f_Litres.length : Nat) : Int)) then
    (if ((!(decide ((rStep.1.f_Litres.getD ((i2).toNat) 0) < 0))) = true → 0 ≤ i2 ∧ i2 < ((c.f_N.f_Basins.length : Nat) : Int)) then
    ((cond (!(decide ((rStep.1.f_Litres.getD ((i2).toNat) 0) < 0))) (g_r05_Capacity N (c.f_N.f_Basins.getD ((i2).toNat) Tapi_Basin.d)) (some 0)).bind fun rCapacity =>
    (cond (cond (decide ((rStep.1.f_Litres.getD ((i2).toNat) 0) < 0)) true (decide ((rStep.1.f_Litres.getD ((i2).toNat) 0) > rCapacity)))
    (some false)
    (g_w05_WaterKept_L4 N c rRun rStep sea fuel (w64 ((w64 (sum + (rStep.1.f_Litres.getD ((i2).toNat) 0))) - (rRun.1.f_Litres.getD ((i2).toNat) 0))) (w64 (i2 + 1)))))
    else none)
    else none)
    else none)
    else none))
    ((cond (sum != sea)
    (some false)
    (g_w05_WaterKept_L5 N c rRun rStep N 0))))

def g_w05_WaterKept_L1 (N : Nat) (c : Tkeelblocklaw05_Case) (rRun : Tapi_Water × Int) (rStep : Tapi_Water × (List Int) × Int) : Nat → Int → Int → Option (Bool)
  | 0, _, _ => none
  | fuel + 1, sea, i =>
    (cond (decide (i < ((rStep.2.1.length : Nat) : Int)))
    ((if 0 ≤ i ∧ i < ((c.f_N.f_Links.length : Nat) : Int) then
    (cond (streq ((c.f_N.f_Links.getD ((i).toNat) Tapi_Link.d).f_From) ByteArray.empty)
    ((if 0 ≤ i ∧ i < ((rStep.2.1.length : Nat) : Int) then
    g_w05_WaterKept_J2 N c rRun rStep i (g_w05_WaterKept_L1 N c rRun rStep fuel) (w64 (sea + (rStep.2.1.getD ((i).toNat) 0)))
    else none))
    (g_w05_WaterKept_J2 N c rRun rStep i (g_w05_WaterKept_L1 N c rRun rStep fuel) sea))
    else none))
    (g_w05_WaterKept_L4 N c rRun rStep sea N 0 0))

/-- keelblock/keelblocklaw05.WaterKept -/
def g_w05_WaterKept (N : Nat) (c : Tkeelblocklaw05_Case) (more : Int) : Option (Bool) :=
  ((g_w05_awake N).bind fun rawake =>
  (cond (!rawake)
  (some false)
  (((g_w05_Case_Short N c).bind fun rShort =>
  (cond (cond (cond (!rShort) true (decide (more < 0))) true (decide (more > 30)))
  (some true)
  (((g_water_Run N c.f_N c.f_W c.f_Turns more).bind fun rRun =>
  (cond (cond (rRun.2 != 0) true (((rRun.1.f_Litres.length : Nat) : Int) != ((c.f_N.f_Basins.length : Nat) : Int)))
  (some (rRun.2 != 0))
  (((g_water_Step N c.f_N rRun.1).bind fun rStep =>
  (cond (rStep.2.2 != 0)
  (some (cond (rStep.2.2 == 2) (rRun.1.f_Minute == 1000000) false))
  ((cond (cond (((rStep.1.f_Litres.length : Nat) : Int) != ((c.f_N.f_Basins.length : Nat) : Int)) true (((rStep.2.1.length : Nat) : Int) != ((c.f_N.f_Links.length : Nat) : Int)))
  (some false)
  (g_w05_WaterKept_L1 N c rRun rStep N 0 0))))))))))))))

/-- keelblock/keelblocktop.wet -/
def g_keelblocktop_wet (N : Nat) : Option (Bool) :=
  ((g_water_Volume N (⟨(⟨#[65]⟩ : ByteArray), ([(⟨0, 100⟩ : Tapi_Area)] : List Tapi_Area), 50⟩ : Tapi_Basin) 30).bind fun rVolume =>
  some (cond (rVolume.2 == 0) (rVolume.1 == 3000) false))

def g_keelblocktop_inland_L1 (N : Nat) (n : Tapi_Network) : Nat → Int → Option (Bool)
  | 0, _ => none
  | fuel + 1, i =>
    (cond (decide (i < ((n.f_Links.length : Nat) : Int)))
    ((if 0 ≤ i ∧ i < ((n.f_Links.length : Nat) : Int) then
    (if ((!(streq ((n.f_Links.getD ((i).toNat) Tapi_Link.d).f_From) ByteArray.empty)) = true → 0 ≤ i ∧ i < ((n.f_Links.length : Nat) : Int)) then
    (cond (cond (streq ((n.f_Links.getD ((i).toNat) Tapi_Link.d).f_From) ByteArray.empty) true (streq ((n.f_Links.getD ((i).toNat) Tapi_Link.d).f_To) ByteArray.empty))
    (some false)
    (g_keelblocktop_inland_L1 N n fuel (w64 (i + 1))))
    else none)
    else none))
    (some true))

/-- keelblock/keelblocktop.inland -/
def g_keelblocktop_inland (N : Nat) (n : Tapi_Network) : Option (Bool) :=
  g_keelblocktop_inland_L1 N n N 0

def g_keelblocktop_litres_L1 (N : Nat) (w : Tapi_Water) : Nat → Int → Int → Option (Int)
  | 0, _, _ => none
  | fuel + 1, sum, i =>
    (cond (decide (i < ((w.f_Litres.length : Nat) : Int)))
    ((if 0 ≤ i ∧ i < ((w.f_Litres.length : Nat) : Int) then
    g_keelblocktop_litres_L1 N w fuel (w64 (sum + (w.f_Litres.getD ((i).toNat) 0))) (w64 (i + 1))
    else none))
    (some sum))

/-- keelblock/keelblocktop.litres -/
def g_keelblocktop_litres (N : Nat) (w : Tapi_Water) : Option (Int) :=
  g_keelblocktop_litres_L1 N w N 0 0

def g_keelblocktop_TopWaterKept_J2 (N : Nat) (c : Tkeelblocklaw05_Case) (rRun : Tapi_Water × Int) (i : Int) (K_g_keelblocktop_TopWaterKept_L1 : Int → Option (Bool)) : Option (Bool) :=
  K_g_keelblocktop_TopWaterKept_L1 (w64 (i + 1))

def g_keelblocktop_TopWaterKept_L1 (N : Nat) (c : Tkeelblocklaw05_Case) (rRun : Tapi_Water × Int) : Nat → Int → Option (Bool)
  | 0, _ => none
  | fuel + 1, i =>
    (cond (decide (i < ((c.f_N.f_Links.length : Nat) : Int)))
    ((if 0 ≤ i ∧ i < ((c.f_N.f_Links.length : Nat) : Int) then
    ((g_r05_Basin N c.f_N ((c.f_N.f_Links.getD ((i).toNat) Tapi_Link.d).f_From)).bind fun rBasin =>
    ((g_r05_Basin N c.f_N ((c.f_N.f_Links.getD ((i).toNat) Tapi_Link.d).f_To)).bind fun rBasin2 =>
    (cond (cond (cond ((c.f_N.f_Links.getD ((i).toNat) Tapi_Link.d).f_Kind != 0) true (decide (rBasin < 0))) true (decide (rBasin2 < 0)))
    (g_keelblocktop_TopWaterKept_J2 N c rRun i (g_keelblocktop_TopWaterKept_L1 N c rRun fuel))
    (((g_water_Step N (⟨c.f_N.f_Basins, c.f_N.f_Sea, ([(c.f_N.f_Links.getD ((i).toNat) Tapi_Link.d)] : List Tapi_Link)⟩ : Tapi_Network) (⟨rRun.1.f_Minute, rRun.1.f_Litres, ([true] : List Bool)⟩ : Tapi_Water)).bind fun rStep =>
    ((g_water_Levels N (⟨c.f_N.f_Basins, c.f_N.f_Sea, ([(c.f_N.f_Links.getD ((i).toNat) Tapi_Link.d)] : List Tapi_Link)⟩ : Tapi_Network) (⟨rRun.1.f_Minute, rRun.1.f_Litres, ([true] : List Bool)⟩ : Tapi_Water)).bind fun rLevels =>
    ((g_water_Levels N (⟨c.f_N.f_Basins, c.f_N.f_Sea, ([(c.f_N.f_Links.getD ((i).toNat) Tapi_Link.d)] : List Tapi_Link)⟩ : Tapi_Network) (⟨rStep.1.f_Minute, rStep.1.f_Litres, rStep.1.f_Open⟩ : Tapi_Water)).bind fun rLevels2 =>
    (cond (cond (cond (cond (cond (rStep.2.2 != 0) true (rLevels.2 != 0)) true (rLevels2.2 != 0)) true (((rLevels.1.length : Nat) : Int) != ((c.f_N.f_Basins.length : Nat) : Int))) true (((rLevels2.1.length : Nat) : Int) != ((rLevels.1.length : Nat) : Int)))
    (some false)
    ((if 0 ≤ rBasin ∧ rBasin < ((rLevels.1.length : Nat) : Int) then
    (if 0 ≤ rBasin2 ∧ rBasin2 < ((rLevels.1.length : Nat) : Int) then
    (if 0 ≤ rBasin ∧ rBasin < ((rLevels2.1.length : Nat) : Int) then
    (if 0 ≤ rBasin2 ∧ rBasin2 < ((rLevels2.1.length : Nat) : Int) then
    (cond (cond (cond (decide ((w64 ((rLevels.1.getD ((rBasin).toNat) 0) - (rLevels.1.getD ((rBasin2).toNat) 0))) ≥ 0)) (cond (decide ((w64 ((rLevels2.1.getD ((rBasin).toNat) 0) - (rLevels2.1.getD ((rBasin2).toNat) 0))) < 0)) true (decide ((w64 ((rLevels2.1.getD ((rBasin).toNat) 0) - (rLevels2.1.getD ((rBasin2).toNat) 0))) > (w64 ((rLevels.1.getD ((rBasin).toNat) 0) - (rLevels.1.getD ((rBasin2).toNat) 0)))))) false) true (cond (decide ((w64 ((rLevels.1.getD ((rBasin).toNat) 0) - (rLevels.1.getD ((rBasin2).toNat) 0))) < 0)) (cond (decide ((w64 ((rLevels2.1.getD ((rBasin).toNat) 0) - (rLevels2.1.getD ((rBasin2).toNat) 0))) > 0)) true (decide ((w64 ((rLevels2.1.getD ((rBasin).toNat) 0) - (rLevels2.1.getD ((rBasin2).toNat) 0))) < (w64 ((rLevels.1.getD ((rBasin).toNat) 0) - (rLevels.1.getD ((rBasin2).toNat) 0)))))) false))
    (some false)
    (g_keelblocktop_TopWaterKept_J2 N c rRun i (g_keelblocktop_TopWaterKept_L1 N c rRun fuel)))
    else none)
    else none)
    else none)
    else none))))))))))
    else none))
    (((g_keelblocktop_wet N).bind fun rwet2 =>
    some rwet2)))

/-- keelblock/keelblocktop.TopWaterKept -/
def g_keelblocktop_TopWaterKept (N : Nat) (c : Tkeelblocklaw05_Case) (minutes : Int) : Option (Bool) :=
  ((g_w05_Case_Short N c).bind fun rShort =>
  ((cond (!(cond (cond (!rShort) true (decide (minutes < 0))) true (decide (minutes > 40)))) (g_r05_Started N c.f_N c.f_W c.f_Turns) (some 0)).bind fun rStarted =>
  (cond (cond (cond (cond (cond (!rShort) true (decide (minutes < 0))) true (decide (minutes > 40))) true (rStarted != 0)) true (decide ((w64 ((w64 (c.f_W.f_Minute + minutes)) + 1)) > 1000000)))
  (((g_keelblocktop_wet N).bind fun rwet =>
  some rwet))
  (((g_water_Run N c.f_N c.f_W c.f_Turns minutes).bind fun rRun =>
  ((cond (!(rRun.2 != 0)) (g_keelblocktop_inland N c.f_N) (some false)).bind fun rinland =>
  ((cond ((!(rRun.2 != 0)) && ((!(rRun.2 != 0)) && rinland)) (g_keelblocktop_litres N rRun.1) (some 0)).bind fun rlitres =>
  ((cond ((!(rRun.2 != 0)) && ((!(rRun.2 != 0)) && rinland)) (g_keelblocktop_litres N c.f_W) (some 0)).bind fun rlitres2 =>
  (cond (cond (rRun.2 != 0) true (cond rinland (rlitres != rlitres2) false))
  (some false)
  (g_keelblocktop_TopWaterKept_L1 N c rRun N 0))))))))))

end Go.Den
