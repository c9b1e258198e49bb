/- The functions of the program as Lean functions, each in the Option monad; N bounds the rounds of loops. No conditions. -/
import Derived.Test.YtnehpafecdmceaaCb

set_option linter.unusedVariables false
set_option linter.unusedSimpArgs false
set_option linter.unusedVariables false
namespace Go.Den
open Go.Ab

/-- api.Area -/
structure Tapi_Area where
  f_From : Int
  f_Size : Int
def Tapi_Area.d : Tapi_Area := ⟨0, 0⟩
def Tapi_Area.wf (x : Tapi_Area) : Prop := wI x.f_From ∧ wI x.f_Size
def Tapi_Area.cells (x : Tapi_Area) : List AV := [(aI x.f_From), (aI x.f_Size)]
/-- api.Basin -/
structure Tapi_Basin where
  f_Name : ByteArray
  f_Areas : List Tapi_Area
  f_Rim : Int
def Tapi_Basin.d : Tapi_Basin := ⟨ByteArray.empty, [], 0⟩
def Tapi_Basin.wf (x : Tapi_Basin) : Prop := wS x.f_Name ∧ (wL Tapi_Area.wf) x.f_Areas ∧ wI x.f_Rim
def Tapi_Basin.cells (x : Tapi_Basin) : List AV := [(aS x.f_Name), (encL Tapi_Area.cells Tapi_Area.d x.f_Areas), (aI x.f_Rim)]
/-- api.Mark -/
structure Tapi_Mark where
  f_Minute : Int
  f_Level : Int
def Tapi_Mark.d : Tapi_Mark := ⟨0, 0⟩
def Tapi_Mark.wf (x : Tapi_Mark) : Prop := wI x.f_Minute ∧ wI x.f_Level
def Tapi_Mark.cells (x : Tapi_Mark) : List AV := [(aI x.f_Minute), (aI x.f_Level)]

/-- keelblock/keelblocklaw05.tub -/
def g_keelblocklaw05_tub (N : Nat) : Option (Tapi_Basin) :=
  some (⟨(⟨#[65]⟩ : ByteArray), ([(⟨0, 100⟩ : Tapi_Area), (⟨1000, 200⟩ : Tapi_Area)] : List Tapi_Area), 3000⟩ : Tapi_Basin)

/-- keelblock/water.between -/
def g_water_between (N : Nat) (n : Int) (low : Int) (high : Int) : Option (Bool) :=
  some (cond (decide (n ≥ low)) (decide (n ≤ high)) false)

def g_water_isName_L1 (N : Nat) (s : ByteArray) : Nat → Int → Option (Bool)
  | 0, _ => none
  | fuel + 1, x =>
    (cond (decide (x < ((s.size : Nat) : Int)))
    ((if 0 ≤ x ∧ x < (((bytesL s).length : Nat) : Int) then
    (cond (cond (!(cond (cond (decide (((bytesL s).getD ((x).toNat) 0) ≥ 97)) (decide (((bytesL s).getD ((x).toNat) 0) ≤ 122)) false) true (cond (decide (((bytesL s).getD ((x).toNat) 0) ≥ 65)) (decide (((bytesL s).getD ((x).toNat) 0) ≤ 90)) false))) (cond (x == 0) true (cond (((bytesL s).getD ((x).toNat) 0) != 45) (cond (decide (((bytesL s).getD ((x).toNat) 0) < 48)) true (decide (((bytesL s).getD ((x).toNat) 0) > 57))) false)) false)
    (some false)
    (g_water_isName_L1 N s fuel (w64 (x + 1))))
    else none))
    (some true))

/-- keelblock/water.isName -/
def g_water_isName (N : Nat) (s : ByteArray) : Option (Bool) :=
  ((g_water_between N ((s.size : Nat) : Int) 1 12).bind fun rbetween =>
  (cond (!rbetween)
  (some false)
  (g_water_isName_L1 N s N 0)))

def g_water_checkForm_L1 (N : Nat) (b : Tapi_Basin) : Nat → Int → Option (Int)
  | 0, _ => none
  | fuel + 1, x =>
    (cond (decide (x < ((b.f_Areas.length : Nat) : Int)))
    ((if 0 ≤ x ∧ x < ((b.f_Areas.length : Nat) : Int) then
    ((g_water_between N ((b.f_Areas.getD ((x).toNat) Tapi_Area.d).f_From) (-1000000) 1000000).bind fun rbetween2 =>
    ((cond (!(!rbetween2)) (g_water_between N ((b.f_Areas.getD ((x).toNat) Tapi_Area.d).f_Size) 1 1000000) (some false)).bind fun rbetween3 =>
    (cond (cond (!rbetween2) true (!rbetween3))
    (some 2)
    ((if ((decide (x > 0)) = true → 0 ≤ (w64 (x - 1)) ∧ (w64 (x - 1)) < ((b.f_Areas.length : Nat) : Int)) then
    (cond (cond (decide (x > 0)) (decide ((b.f_Areas.getD ((x).toNat) Tapi_Area.d).f_From ≤ (b.f_Areas.getD ((w64 (x - 1)).toNat) Tapi_Area.d).f_From)) false)
    (some 10)
    (g_water_checkForm_L1 N b fuel (w64 (x + 1))))
    else none)))))
    else none))
    ((if 0 ≤ (w64 (((b.f_Areas.length : Nat) : Int) - 1)) ∧ (w64 (((b.f_Areas.length : Nat) : Int) - 1)) < ((b.f_Areas.length : Nat) : Int) then
    (cond (cond (decide (b.f_Rim ≤ (b.f_Areas.getD ((w64 (((b.f_Areas.length : Nat) : Int) - 1)).toNat) Tapi_Area.d).f_From)) true (decide (b.f_Rim > 1000000)))
    (some 2)
    (some 0))
    else none)))

/-- keelblock/water.checkForm -/
def g_water_checkForm (N : Nat) (b : Tapi_Basin) : Option (Int) :=
  ((g_water_between N ((b.f_Areas.length : Nat) : Int) 1 20).bind fun rbetween =>
  (cond (!rbetween)
  (some 2)
  (g_water_checkForm_L1 N b N 0)))

/-- keelblock/water.CheckBasin -/
def g_water_CheckBasin (N : Nat) (b : Tapi_Basin) : Option (Int) :=
  ((g_water_isName N b.f_Name).bind fun risName =>
  (cond (!risName)
  (some 4)
  (((g_water_checkForm N b).bind fun rcheckForm =>
  some rcheckForm))))

/-- keelblock/water.floor -/
def g_water_floor (N : Nat) (b : Tapi_Basin) : Option (Int) :=
  (if 0 ≤ (0 : Int) ∧ 0 < ((b.f_Areas.length : Nat) : Int) then
  some ((b.f_Areas.getD 0 Tapi_Area.d).f_From)
  else none)

def g_water_volume_J2 (N : Nat) (b : Tapi_Basin) (level : Int) (sum : Int) (x : Int) (K_g_water_volume_L1 : Int → Int → Option (Int)) (top : Int) : Option (Int) :=
  K_g_water_volume_L1 (w64 (sum + (w64 ((b.f_Areas.getD ((x).toNat) Tapi_Area.d).f_Size * (if (w64 (top - (b.f_Areas.getD ((x).toNat) Tapi_Area.d).f_From)) > 0 then (w64 (top - (b.f_Areas.getD ((x).toNat) Tapi_Area.d).f_From)) else 0))))) (w64 (x + 1))

def g_water_volume_L1 (N : Nat) (b : Tapi_Basin) (level : Int) : Nat → Int → Int → Option (Int)
  | 0, _, _ => none
  | fuel + 1, sum, x =>
    (cond (decide (x < ((b.f_Areas.length : Nat) : Int)))
    ((if 0 ≤ x ∧ x < ((b.f_Areas.length : Nat) : Int) then
    (cond (decide ((w64 (x + 1)) < ((b.f_Areas.length : Nat) : Int)))
    ((if 0 ≤ (w64 (x + 1)) ∧ (w64 (x + 1)) < ((b.f_Areas.length : Nat) : Int) then
    g_water_volume_J2 N b level sum x (g_water_volume_L1 N b level fuel) (if (b.f_Areas.getD ((w64 (x + 1)).toNat) Tapi_Area.d).f_From < level then (b.f_Areas.getD ((w64 (x + 1)).toNat) Tapi_Area.d).f_From else level)
    else none))
    (g_water_volume_J2 N b level sum x (g_water_volume_L1 N b level fuel) level))
    else none))
    (some sum))

/-- keelblock/water.volume -/
def g_water_volume (N : Nat) (b : Tapi_Basin) (level : Int) : Option (Int) :=
  g_water_volume_L1 N b level N 0 0

/-- keelblock/water.Volume -/
def g_water_Volume (N : Nat) (b : Tapi_Basin) (level : Int) : Option (Int × Int) :=
  ((g_water_CheckBasin N b).bind fun rCheckBasin =>
  (cond (rCheckBasin != 0)
  (some (0, rCheckBasin))
  (((g_water_floor N b).bind fun rfloor =>
  ((g_water_between N level rfloor b.f_Rim).bind fun rbetween =>
  (cond (!rbetween)
  (some (0, 2))
  (((g_water_volume N b level).bind fun rvolume =>
  some (rvolume, 0)))))))))

def g_water_levelOf_J2 (N : Nat) (b : Tapi_Basin) (litres2 : Int) (x : Int) (K_g_water_levelOf_L1 : Int → Int → Int → Option (Int)) (top : Int) : Option (Int) :=
  (cond (decide (litres2 < (w64 ((b.f_Areas.getD ((x).toNat) Tapi_Area.d).f_Size * (w64 (top - (b.f_Areas.getD ((x).toNat) Tapi_Area.d).f_From))))))
  ((if ((b.f_Areas.getD ((x).toNat) Tapi_Area.d).f_Size : Int) ≠ 0 then
  some (w64 ((b.f_Areas.getD ((x).toNat) Tapi_Area.d).f_From + (w64 (litres2.tdiv ((b.f_Areas.getD ((x).toNat) Tapi_Area.d).f_Size)))))
  else none))
  (K_g_water_levelOf_L1 (w64 (litres2 - (w64 ((b.f_Areas.getD ((x).toNat) Tapi_Area.d).f_Size * (w64 (top - (b.f_Areas.getD ((x).toNat) Tapi_Area.d).f_From)))))) top (w64 (x + 1))))

def g_water_levelOf_L1 (N : Nat) (b : Tapi_Basin) : Nat → Int → Int → Int → Option (Int)
  | 0, _, _, _ => none
  | fuel + 1, litres2, level, x =>
    (cond (decide (x < ((b.f_Areas.length : Nat) : Int)))
    ((if 0 ≤ x ∧ x < ((b.f_Areas.length : Nat) : Int) then
    (cond (decide ((w64 (x + 1)) < ((b.f_Areas.length : Nat) : Int)))
    ((if 0 ≤ (w64 (x + 1)) ∧ (w64 (x + 1)) < ((b.f_Areas.length : Nat) : Int) then
    g_water_levelOf_J2 N b litres2 x (g_water_levelOf_L1 N b fuel) ((b.f_Areas.getD ((w64 (x + 1)).toNat) Tapi_Area.d).f_From)
    else none))
    (g_water_levelOf_J2 N b litres2 x (g_water_levelOf_L1 N b fuel) b.f_Rim))
    else none))
    (some level))

/-- keelblock/water.levelOf -/
def g_water_levelOf (N : Nat) (b : Tapi_Basin) (litres : Int) : Option (Int) :=
  ((g_water_floor N b).bind fun rfloor =>
  g_water_levelOf_L1 N b N litres rfloor 0)

/-- keelblock/water.Level -/
def g_water_Level (N : Nat) (b : Tapi_Basin) (litres : Int) : Option (Int × Int) :=
  ((g_water_CheckBasin N b).bind fun rCheckBasin =>
  (cond (rCheckBasin != 0)
  (some (0, rCheckBasin))
  (((g_water_volume N b b.f_Rim).bind fun rvolume =>
  ((g_water_between N litres 0 rvolume).bind fun rbetween =>
  (cond (!rbetween)
  (some (0, 2))
  (((g_water_levelOf N b litres).bind fun rlevelOf =>
  some (rlevelOf, 0)))))))))

/-- keelblock/keelblocklaw05.awake -/
def g_keelblocklaw05_awake (N : Nat) : Option (Bool) :=
  ((g_keelblocklaw05_tub N).bind fun rtub =>
  ((g_water_Volume N rtub 1500).bind fun rVolume =>
  ((g_keelblocklaw05_tub N).bind fun rtub2 =>
  ((g_water_Level N rtub2 100199).bind fun rLevel =>
  some (cond (cond (cond (rVolume.2 == 0) (rVolume.1 == 200000) false) (rLevel.2 == 0) false) (rLevel.1 == 1000) false)))))

def g_keelblockbase_IsName_L1 (N : Nat) (s : ByteArray) : Nat → Int → Option (Bool)
  | 0, _ => none
  | fuel + 1, i =>
    (cond (decide (i < ((s.size : Nat) : Int)))
    ((if 0 ≤ i ∧ i < ((s.size : Nat) : Int) then
    (cond (cond (!(cond (cond (decide ((byteAt s ((i).toNat)) ≥ 97)) (decide ((byteAt s ((i).toNat)) ≤ 122)) false) true (cond (decide ((byteAt s ((i).toNat)) ≥ 65)) (decide ((byteAt s ((i).toNat)) ≤ 90)) false))) (cond (i == 0) true (cond ((byteAt s ((i).toNat)) != 45) (cond (decide ((byteAt s ((i).toNat)) < 48)) true (decide ((byteAt s ((i).toNat)) > 57))) false)) false)
    (some false)
    (g_keelblockbase_IsName_L1 N s fuel (w64 (i + 1))))
    else none))
    (some true))

/-- keelblock/keelblockbase.IsName -/
def g_keelblockbase_IsName (N : Nat) (s : ByteArray) : Option (Bool) :=
  (cond (cond (decide (((s.size : Nat) : Int) < 1)) true (decide (((s.size : Nat) : Int) > 12)))
  (some false)
  (g_keelblockbase_IsName_L1 N s N 0))

/-- keelblock/keelblockref05.inside -/
def g_keelblockref05_inside (N : Nat) (n : Int) (low : Int) (high : Int) : Option (Bool) :=
  some (cond (decide (n ≥ low)) (decide (n ≤ high)) false)

def g_keelblockref05_CheckBasin_L1 (N : Nat) (b : Tapi_Basin) : Nat → Int → Option (Int)
  | 0, _ => none
  | fuel + 1, i =>
    (cond (decide (i < ((b.f_Areas.length : Nat) : Int)))
    ((if 0 ≤ i ∧ i < ((b.f_Areas.length : Nat) : Int) then
    ((g_keelblockref05_inside N ((b.f_Areas.getD ((i).toNat) Tapi_Area.d).f_From) (-1000000) 1000000).bind fun rinside =>
    ((cond (!(!rinside)) (g_keelblockref05_inside N ((b.f_Areas.getD ((i).toNat) Tapi_Area.d).f_Size) 1 1000000) (some false)).bind fun rinside2 =>
    (cond (cond (!rinside) true (!rinside2))
    (some 2)
    ((if ((decide (i > 0)) = true → 0 ≤ (w64 (i - 1)) ∧ (w64 (i - 1)) < ((b.f_Areas.length : Nat) : Int)) then
    (cond (cond (decide (i > 0)) (decide ((b.f_Areas.getD ((i).toNat) Tapi_Area.d).f_From ≤ (b.f_Areas.getD ((w64 (i - 1)).toNat) Tapi_Area.d).f_From)) false)
    (some 10)
    (g_keelblockref05_CheckBasin_L1 N b fuel (w64 (i + 1))))
    else none)))))
    else none))
    ((if 0 ≤ (w64 (((b.f_Areas.length : Nat) : Int) - 1)) ∧ (w64 (((b.f_Areas.length : Nat) : Int) - 1)) < ((b.f_Areas.length : Nat) : Int) then
    (cond (cond (decide (b.f_Rim ≤ (b.f_Areas.getD ((w64 (((b.f_Areas.length : Nat) : Int) - 1)).toNat) Tapi_Area.d).f_From)) true (decide (b.f_Rim > 1000000)))
    (some 2)
    (some 0))
    else none)))

/-- keelblock/keelblockref05.CheckBasin -/
def g_keelblockref05_CheckBasin (N : Nat) (b : Tapi_Basin) : Option (Int) :=
  ((g_keelblockbase_IsName N b.f_Name).bind fun rIsName =>
  (cond (!rIsName)
  (some 4)
  ((cond (cond (((b.f_Areas.length : Nat) : Int) == 0) true (decide (((b.f_Areas.length : Nat) : Int) > 20)))
  (some 2)
  (g_keelblockref05_CheckBasin_L1 N b N 0)))))

/-- keelblock/keelblockref05.Floor -/
def g_keelblockref05_Floor (N : Nat) (b : Tapi_Basin) : Option (Int) :=
  (if 0 ≤ (0 : Int) ∧ 0 < ((b.f_Areas.length : Nat) : Int) then
  some ((b.f_Areas.getD 0 Tapi_Area.d).f_From)
  else none)

def g_keelblockref05_Below_J3 (N : Nat) (b : Tapi_Basin) (level : Int) (i : Int) (K_g_keelblockref05_Below_L1 : Int → Int → Option (Int)) (sum2 : Int) : Option (Int) :=
  K_g_keelblockref05_Below_L1 sum2 (w64 (i + 1))

def g_keelblockref05_Below_J2 (N : Nat) (b : Tapi_Basin) (level : Int) (sum : Int) (i : Int) (K_g_keelblockref05_Below_L1 : Int → Int → Option (Int)) (top : Int) : Option (Int) :=
  (if 0 ≤ i ∧ i < ((b.f_Areas.length : Nat) : Int) then
  (cond (decide (top > (b.f_Areas.getD ((i).toNat) Tapi_Area.d).f_From))
  (g_keelblockref05_Below_J3 N b level i K_g_keelblockref05_Below_L1 (w64 (sum + (w64 ((b.f_Areas.getD ((i).toNat) Tapi_Area.d).f_Size * (w64 (top - (b.f_Areas.getD ((i).toNat) Tapi_Area.d).f_From)))))))
  (g_keelblockref05_Below_J3 N b level i K_g_keelblockref05_Below_L1 sum))
  else none)

def g_keelblockref05_Below_L1 (N : Nat) (b : Tapi_Basin) (level : Int) : Nat → Int → Int → Option (Int)
  | 0, _, _ => none
  | fuel + 1, sum, i =>
    (cond (decide (i < ((b.f_Areas.length : Nat) : Int)))
    ((cond (decide ((w64 (i + 1)) < ((b.f_Areas.length : Nat) : Int)))
    ((if 0 ≤ (w64 (i + 1)) ∧ (w64 (i + 1)) < ((b.f_Areas.length : Nat) : Int) then
    g_keelblockref05_Below_J2 N b level sum i (g_keelblockref05_Below_L1 N b level fuel) (if (b.f_Areas.getD ((w64 (i + 1)).toNat) Tapi_Area.d).f_From < level then (b.f_Areas.getD ((w64 (i + 1)).toNat) Tapi_Area.d).f_From else level)
    else none))
    (g_keelblockref05_Below_J2 N b level sum i (g_keelblockref05_Below_L1 N b level fuel) level)))
    (some sum))

/-- keelblock/keelblockref05.Below -/
def g_keelblockref05_Below (N : Nat) (b : Tapi_Basin) (level : Int) : Option (Int) :=
  g_keelblockref05_Below_L1 N b level N 0 0

/-- keelblock/keelblockref05.Volume -/
def g_keelblockref05_Volume (N : Nat) (b : Tapi_Basin) (level : Int) : Option (Int × Int) :=
  ((g_keelblockref05_CheckBasin N b).bind fun rCheckBasin =>
  (cond (rCheckBasin != 0)
  (some (0, rCheckBasin))
  (((g_keelblockref05_Floor N b).bind fun rFloor =>
  ((g_keelblockref05_inside N level rFloor b.f_Rim).bind fun rinside =>
  (cond (!rinside)
  (some (0, 2))
  (((g_keelblockref05_Below N b level).bind fun rBelow =>
  some (rBelow, 0)))))))))

/-- keelblock/keelblockref05.Capacity -/
def g_keelblockref05_Capacity (N : Nat) (b : Tapi_Basin) : Option (Int) :=
  ((g_keelblockref05_Below N b b.f_Rim).bind fun rBelow =>
  some rBelow)

def g_keelblockref05_LevelOf_L1 (N : Nat) (b : Tapi_Basin) (litres : Int) : Nat → Int → Int → Option (Int)
  | 0, _, _ => none
  | fuel + 1, low, high =>
    (cond (decide (low < high))
    (((g_keelblockref05_Below N b (w64 (low + (w64 ((w64 ((w64 (high - low)) + 1)).tdiv 2))))).bind fun rBelow =>
    (cond (decide (rBelow ≤ litres))
    (g_keelblockref05_LevelOf_L1 N b litres fuel (w64 (low + (w64 ((w64 ((w64 (high - low)) + 1)).tdiv 2)))) high)
    (g_keelblockref05_LevelOf_L1 N b litres fuel low (w64 ((w64 (low + (w64 ((w64 ((w64 (high - low)) + 1)).tdiv 2)))) - 1))))))
    (some low))

/-- keelblock/keelblockref05.LevelOf -/
def g_keelblockref05_LevelOf (N : Nat) (b : Tapi_Basin) (litres : Int) : Option (Int) :=
  ((g_keelblockref05_Floor N b).bind fun rFloor =>
  g_keelblockref05_LevelOf_L1 N b litres N rFloor b.f_Rim)

/-- keelblock/keelblockref05.Level -/
def g_keelblockref05_Level (N : Nat) (b : Tapi_Basin) (litres : Int) : Option (Int × Int) :=
  ((g_keelblockref05_CheckBasin N b).bind fun rCheckBasin =>
  (cond (rCheckBasin != 0)
  (some (0, rCheckBasin))
  (((g_keelblockref05_Capacity N b).bind fun rCapacity =>
  ((g_keelblockref05_inside N litres 0 rCapacity).bind fun rinside =>
  (cond (!rinside)
  (some (0, 2))
  (((g_keelblockref05_LevelOf N b litres).bind fun rLevelOf =>
  some (rLevelOf, 0)))))))))

/-- keelblock/keelblocklaw05.WaterBasins -/
def g_keelblocklaw05_WaterBasins (N : Nat) (b : Tapi_Basin) (level : Int) (litres : Int) : Option (Bool) :=
  ((g_keelblocklaw05_awake N).bind fun rawake =>
  (cond (!rawake)
  (some false)
  ((cond (cond (decide (((b.f_Areas.length : Nat) : Int) > 40)) true (decide (((b.f_Name.size : Nat) : Int) > 40)))
  (some true)
  (((g_water_Volume N b level).bind fun rVolume =>
  ((g_keelblockref05_Volume N b level).bind fun rVolume2 =>
  ((g_water_Level N b litres).bind fun rLevel =>
  ((g_keelblockref05_Level N b litres).bind fun rLevel2 =>
  ((g_water_CheckBasin N b).bind fun rCheckBasin =>
  ((g_keelblockref05_CheckBasin N b).bind fun rCheckBasin2 =>
  some (cond (cond (cond (cond (rCheckBasin == rCheckBasin2) (rVolume.1 == rVolume2.1) false) (rVolume.2 == rVolume2.2) false) (rLevel.1 == rLevel2.1) false) (rLevel.2 == rLevel2.2) false))))))))))))

def g_keelblocklaw05_WaterInverse_J1 (N : Nat) (b : Tapi_Basin) (litres : Int) : Option (Bool) :=
  ((g_water_Level N b litres).bind fun rLevel2 =>
  (cond (rLevel2.2 != 0)
  (some true)
  (((g_water_Volume N b rLevel2.1).bind fun rVolume2 =>
  (cond (cond (cond (rVolume2.2 != 0) true (decide (rVolume2.1 > litres))) true (decide (rLevel2.1 > b.f_Rim)))
  (some false)
  ((cond (rLevel2.1 == b.f_Rim)
  (some (rVolume2.1 == litres))
  (((g_water_Volume N b (w64 (rLevel2.1 + 1))).bind fun rVolume3 =>
  some (cond (rVolume3.2 == 0) (decide (rVolume3.1 > litres)) false))))))))))

/-- keelblock/keelblocklaw05.WaterInverse -/
def g_keelblocklaw05_WaterInverse (N : Nat) (b : Tapi_Basin) (level : Int) (litres : Int) : Option (Bool) :=
  ((g_keelblocklaw05_awake N).bind fun rawake =>
  (cond (!rawake)
  (some false)
  (((cond (!(cond (decide (((b.f_Areas.length : Nat) : Int) > 40)) true (decide (((b.f_Name.size : Nat) : Int) > 40)))) (g_water_CheckBasin N b) (some 0)).bind fun rCheckBasin =>
  (cond (cond (cond (cond (decide (((b.f_Areas.length : Nat) : Int) > 40)) true (decide (((b.f_Name.size : Nat) : Int) > 40))) true (rCheckBasin != 0)) true (((b.f_Areas.length : Nat) : Int) == 0))
  (some true)
  (((g_water_Volume N b level).bind fun rVolume =>
  (cond (rVolume.2 == 0)
  (((g_water_Level N b rVolume.1).bind fun rLevel =>
  (cond (cond (rLevel.2 != 0) true (rLevel.1 != level))
  (some false)
  (g_keelblocklaw05_WaterInverse_J1 N b litres))))
  (g_keelblocklaw05_WaterInverse_J1 N b litres)))))))))

end Go.Den
