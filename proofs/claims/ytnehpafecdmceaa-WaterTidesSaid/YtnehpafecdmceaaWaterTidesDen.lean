/- The functions of the program as Lean functions, each in the Option monad; N bounds the rounds of loops. No conditions. -/
import Derived.Test.YtnehpafecdmceaaCb

set_option linter.unusedVariables false
set_option linter.unusedSimpArgs false
set_option linter.unusedVariables false
namespace Go.Den
open Go.Ab

/-- api.Area -/
structure Tapi_Area where
  f_From : Int
  f_Size : Int
def Tapi_Area.d : Tapi_Area := ⟨0, 0⟩
def Tapi_Area.wf (x : Tapi_Area) : Prop := wI x.f_From ∧ wI x.f_Size
def Tapi_Area.cells (x : Tapi_Area) : List AV := [(aI x.f_From), (aI x.f_Size)]
/-- api.Basin -/
structure Tapi_Basin where
  f_Name : ByteArray
  f_Areas : List Tapi_Area
  f_Rim : Int
def Tapi_Basin.d : Tapi_Basin := ⟨ByteArray.empty, [], 0⟩
def Tapi_Basin.wf (x : Tapi_Basin) : Prop := wS x.f_Name ∧ (wL Tapi_Area.wf) x.f_Areas ∧ wI x.f_Rim
def Tapi_Basin.cells (x : Tapi_Basin) : List AV := [(aS x.f_Name), (encL Tapi_Area.cells Tapi_Area.d x.f_Areas), (aI x.f_Rim)]
/-- api.Mark -/
structure Tapi_Mark where
  f_Minute : Int
  f_Level : Int
def Tapi_Mark.d : Tapi_Mark := ⟨0, 0⟩
def Tapi_Mark.wf (x : Tapi_Mark) : Prop := wI x.f_Minute ∧ wI x.f_Level
def Tapi_Mark.cells (x : Tapi_Mark) : List AV := [(aI x.f_Minute), (aI x.f_Level)]

/-- keelblock/keelblocklaw05.tub -/
def g_keelblocklaw05_tub (N : Nat) : Option (Tapi_Basin) :=
  some (⟨(⟨#[65]⟩ : ByteArray), ([(⟨0, 100⟩ : Tapi_Area), (⟨1000, 200⟩ : Tapi_Area)] : List Tapi_Area), 3000⟩ : Tapi_Basin)

/-- keelblock/water.between -/
def g_water_between (N : Nat) (n : Int) (low : Int) (high : Int) : Option (Bool) :=
  some (cond (decide (n ≥ low)) (decide (n ≤ high)) false)

def g_water_isName_L1 (N : Nat) (s : ByteArray) : Nat → Int → Option (Bool)
  | 0, _ => none
  | fuel + 1, x =>
    (cond (decide (x < ((s.size : Nat) : Int)))
    ((if 0 ≤ x ∧ x < (((bytesL s).length : Nat) : Int) then
    (cond (cond (!(cond (cond (decide (((bytesL s).getD ((x).toNat) 0) ≥ 97)) (decide (((bytesL s).getD ((x).toNat) 0) ≤ 122)) false) true (cond (decide (((bytesL s).getD ((x).toNat) 0) ≥ 65)) (decide (((bytesL s).getD ((x).toNat) 0) ≤ 90)) false))) (cond (x == 0) true (cond (((bytesL s).getD ((x).toNat) 0) != 45) (cond (decide (((bytesL s).getD ((x).toNat) 0) < 48)) true (decide (((bytesL s).getD ((x).toNat) 0) > 57))) false)) false)
    (some false)
    (g_water_isName_L1 N s fuel (w64 (x + 1))))
    else none))
    (some true))

/-- keelblock/water.isName -/
def g_water_isName (N : Nat) (s : ByteArray) : Option (Bool) :=
  ((g_water_between N ((s.size : Nat) : Int) 1 12).bind fun rbetween =>
  (cond (!rbetween)
  (some false)
  (g_water_isName_L1 N s N 0)))

def g_water_checkForm_L1 (N : Nat) (b : Tapi_Basin) : Nat → Int → Option (Int)
  | 0, _ => none
  | fuel + 1, x =>
    (cond (decide (x < ((b.f_Areas.length : Nat) : Int)))
    ((if 0 ≤ x ∧ x < ((b.f_Areas.length : Nat) : Int) then
    ((g_water_between N ((b.f_Areas.getD ((x).toNat) Tapi_Area.d).f_From) (-1000000) 1000000).bind fun rbetween2 =>
    ((cond (!(!rbetween2)) (g_water_between N ((b.f_Areas.getD ((x).toNat) Tapi_Area.d).f_Size) 1 1000000) (some false)).bind fun rbetween3 =>
    (cond (cond (!rbetween2) true (!rbetween3))
    (some 2)
    ((if ((decide (x > 0)) = true → 0 ≤ (w64 (x - 1)) ∧ (w64 (x - 1)) < ((b.f_Areas.length : Nat) : Int)) then
    (cond (cond (decide (x > 0)) (decide ((b.f_Areas.getD ((x).toNat) Tapi_Area.d).f_From ≤ (b.f_Areas.getD ((w64 (x - 1)).toNat) Tapi_Area.d).f_From)) false)
    (some 10)
    (g_water_checkForm_L1 N b fuel (w64 (x + 1))))
    else none)))))
    else none))
    ((if 0 ≤ (w64 (((b.f_Areas.length : Nat) : Int) - 1)) ∧ (w64 (((b.f_Areas.length : Nat) : Int) - 1)) < ((b.f_Areas.length : Nat) : Int) then
    (cond (cond (decide (b.f_Rim ≤ (b.f_Areas.getD ((w64 (((b.f_Areas.length : Nat) : Int) - 1)).toNat) Tapi_Area.d).f_From)) true (decide (b.f_Rim > 1000000)))
    (some 2)
    (some 0))
    else none)))

/-- keelblock/water.checkForm -/
def g_water_checkForm (N : Nat) (b : Tapi_Basin) : Option (Int) :=
  ((g_water_between N ((b.f_Areas.length : Nat) : Int) 1 20).bind fun rbetween =>
  (cond (!rbetween)
  (some 2)
  (g_water_checkForm_L1 N b N 0)))

/-- keelblock/water.CheckBasin -/
def g_water_CheckBasin (N : Nat) (b : Tapi_Basin) : Option (Int) :=
  ((g_water_isName N b.f_Name).bind fun risName =>
  (cond (!risName)
  (some 4)
  (((g_water_checkForm N b).bind fun rcheckForm =>
  some rcheckForm))))

/-- keelblock/water.floor -/
def g_water_floor (N : Nat) (b : Tapi_Basin) : Option (Int) :=
  (if 0 ≤ (0 : Int) ∧ 0 < ((b.f_Areas.length : Nat) : Int) then
  some ((b.f_Areas.getD 0 Tapi_Area.d).f_From)
  else none)

def g_water_volume_J2 (N : Nat) (b : Tapi_Basin) (level : Int) (sum : Int) (x : Int) (K_g_water_volume_L1 : Int → Int → Option (Int)) (top : Int) : Option (Int) :=
  K_g_water_volume_L1 (w64 (sum + (w64 ((b.f_Areas.getD ((x).toNat) Tapi_Area.d).f_Size * (if (w64 (top - (b.f_Areas.getD ((x).toNat) Tapi_Area.d).f_From)) > 0 then (w64 (top - (b.f_Areas.getD ((x).toNat) Tapi_Area.d).f_From)) else 0))))) (w64 (x + 1))

def g_water_volume_L1 (N : Nat) (b : Tapi_Basin) (level : Int) : Nat → Int → Int → Option (Int)
  | 0, _, _ => none
  | fuel + 1, sum, x =>
    (cond (decide (x < ((b.f_Areas.length : Nat) : Int)))
    ((if 0 ≤ x ∧ x < ((b.f_Areas.length : Nat) : Int) then
    (cond (decide ((w64 (x + 1)) < ((b.f_Areas.length : Nat) : Int)))
    ((if 0 ≤ (w64 (x + 1)) ∧ (w64 (x + 1)) < ((b.f_Areas.length : Nat) : Int) then
    g_water_volume_J2 N b level sum x (g_water_volume_L1 N b level fuel) (if (b.f_Areas.getD ((w64 (x + 1)).toNat) Tapi_Area.d).f_From < level then (b.f_Areas.getD ((w64 (x + 1)).toNat) Tapi_Area.d).f_From else level)
    else none))
    (g_water_volume_J2 N b level sum x (g_water_volume_L1 N b level fuel) level))
    else none))
    (some sum))

/-- keelblock/water.volume -/
def g_water_volume (N : Nat) (b : Tapi_Basin) (level : Int) : Option (Int) :=
  g_water_volume_L1 N b level N 0 0

/-- keelblock/water.Volume -/
def g_water_Volume (N : Nat) (b : Tapi_Basin) (level : Int) : Option (Int × Int) :=
  ((g_water_CheckBasin N b).bind fun rCheckBasin =>
  (cond (rCheckBasin != 0)
  (some (0, rCheckBasin))
  (((g_water_floor N b).bind fun rfloor =>
  ((g_water_between N level rfloor b.f_Rim).bind fun rbetween =>
  (cond (!rbetween)
  (some (0, 2))
  (((g_water_volume N b level).bind fun rvolume =>
  some (rvolume, 0)))))))))

def g_water_levelOf_J2 (N : Nat) (b : Tapi_Basin) (litres2 : Int) (x : Int) (K_g_water_levelOf_L1 : Int → Int → Int → Option (Int)) (top : Int) : Option (Int) :=
  (cond (decide (litres2 < (w64 ((b.f_Areas.getD ((x).toNat) Tapi_Area.d).f_Size * (w64 (top - (b.f_Areas.getD ((x).toNat) Tapi_Area.d).f_From))))))
  ((if ((b.f_Areas.getD ((x).toNat) Tapi_Area.d).f_Size : Int) ≠ 0 then
  some (w64 ((b.f_Areas.getD ((x).toNat) Tapi_Area.d).f_From + (w64 (litres2.tdiv ((b.f_Areas.getD ((x).toNat) Tapi_Area.d).f_Size)))))
  else none))
  (K_g_water_levelOf_L1 (w64 (litres2 - (w64 ((b.f_Areas.getD ((x).toNat) Tapi_Area.d).f_Size * (w64 (top - (b.f_Areas.getD ((x).toNat) Tapi_Area.d).f_From)))))) top (w64 (x + 1))))

def g_water_levelOf_L1 (N : Nat) (b : Tapi_Basin) : Nat → Int → Int → Int → Option (Int)
  | 0, _, _, _ => none
  | fuel + 1, litres2, level, x =>
    (cond (decide (x < ((b.f_Areas.length : Nat) : Int)))
    ((if 0 ≤ x ∧ x < ((b.f_Areas.length : Nat) : Int) then
    (cond (decide ((w64 (x + 1)) < ((b.f_Areas.length : Nat) : Int)))
    ((if 0 ≤ (w64 (x + 1)) ∧ (w64 (x + 1)) < ((b.f_Areas.length : Nat) : Int) then
    g_water_levelOf_J2 N b litres2 x (g_water_levelOf_L1 N b fuel) ((b.f_Areas.getD ((w64 (x + 1)).toNat) Tapi_Area.d).f_From)
    else none))
    (g_water_levelOf_J2 N b litres2 x (g_water_levelOf_L1 N b fuel) b.f_Rim))
    else none))
    (some level))

/-- keelblock/water.levelOf -/
def g_water_levelOf (N : Nat) (b : Tapi_Basin) (litres : Int) : Option (Int) :=
  ((g_water_floor N b).bind fun rfloor =>
  g_water_levelOf_L1 N b N litres rfloor 0)

/-- keelblock/water.Level -/
def g_water_Level (N : Nat) (b : Tapi_Basin) (litres : Int) : Option (Int × Int) :=
  ((g_water_CheckBasin N b).bind fun rCheckBasin =>
  (cond (rCheckBasin != 0)
  (some (0, rCheckBasin))
  (((g_water_volume N b b.f_Rim).bind fun rvolume =>
  ((g_water_between N litres 0 rvolume).bind fun rbetween =>
  (cond (!rbetween)
  (some (0, 2))
  (((g_water_levelOf N b litres).bind fun rlevelOf =>
  some (rlevelOf, 0)))))))))

/-- keelblock/keelblocklaw05.awake -/
def g_keelblocklaw05_awake (N : Nat) : Option (Bool) :=
  ((g_keelblocklaw05_tub N).bind fun rtub =>
  ((g_water_Volume N rtub 1500).bind fun rVolume =>
  ((g_keelblocklaw05_tub N).bind fun rtub2 =>
  ((g_water_Level N rtub2 100199).bind fun rLevel =>
  some (cond (cond (cond (rVolume.2 == 0) (rVolume.1 == 200000) false) (rLevel.2 == 0) false) (rLevel.1 == 1000) false)))))

def g_keelblockbase_IsName_L1 (N : Nat) (s : ByteArray) : Nat → Int → Option (Bool)
  | 0, _ => none
  | fuel + 1, i =>
    (cond (decide (i < ((s.size : Nat) : Int)))
    ((if 0 ≤ i ∧ i < ((s.size : Nat) : Int) then
    (cond (cond (!(cond (cond (decide ((byteAt s ((i).toNat)) ≥ 97)) (decide ((byteAt s ((i).toNat)) ≤ 122)) false) true (cond (decide ((byteAt s ((i).toNat)) ≥ 65)) (decide ((byteAt s ((i).toNat)) ≤ 90)) false))) (cond (i == 0) true (cond ((byteAt s ((i).toNat)) != 45) (cond (decide ((byteAt s ((i).toNat)) < 48)) true (decide ((byteAt s ((i).toNat)) > 57))) false)) false)
    (some false)
    (g_keelblockbase_IsName_L1 N s fuel (w64 (i + 1))))
    else none))
    (some true))

/-- keelblock/keelblockbase.IsName -/
def g_keelblockbase_IsName (N : Nat) (s : ByteArray) : Option (Bool) :=
  (cond (cond (decide (((s.size : Nat) : Int) < 1)) true (decide (((s.size : Nat) : Int) > 12)))
  (some false)
  (g_keelblockbase_IsName_L1 N s N 0))

/-- keelblock/keelblockref05.inside -/
def g_keelblockref05_inside (N : Nat) (n : Int) (low : Int) (high : Int) : Option (Bool) :=
  some (cond (decide (n ≥ low)) (decide (n ≤ high)) false)

def g_keelblockref05_CheckBasin_L1 (N : Nat) (b : Tapi_Basin) : Nat → Int → Option (Int)
  | 0, _ => none
  | fuel + 1, i =>
    (cond (decide (i < ((b.f_Areas.length : Nat) : Int)))
    ((if 0 ≤ i ∧ i < ((b.f_Areas.length : Nat) : Int) then
    ((g_keelblockref05_inside N ((b.f_Areas.getD ((i).toNat) Tapi_Area.d).f_From) (-1000000) 1000000).bind fun rinside =>
    ((cond (!(!rinside)) (g_keelblockref05_inside N ((b.f_Areas.getD ((i).toNat) Tapi_Area.d).f_Size) 1 1000000) (some false)).bind fun rinside2 =>
    (cond (cond (!rinside) true (!rinside2))
    (some 2)
    ((if ((decide (i > 0)) = true → 0 ≤ (w64 (i - 1)) ∧ (w64 (i - 1)) < ((b.f_Areas.length : Nat) : Int)) then
    (cond (cond (decide (i > 0)) (decide ((b.f_Areas.getD ((i).toNat) Tapi_Area.d).f_From ≤ (b.f_Areas.getD ((w64 (i - 1)).toNat) Tapi_Area.d).f_From)) false)
    (some 10)
    (g_keelblockref05_CheckBasin_L1 N b fuel (w64 (i + 1))))
    else none)))))
    else none))
    ((if 0 ≤ (w64 (((b.f_Areas.length : Nat) : Int) - 1)) ∧ (w64 (((b.f_Areas.length : Nat) : Int) - 1)) < ((b.f_Areas.length : Nat) : Int) then
    (cond (cond (decide (b.f_Rim ≤ (b.f_Areas.getD ((w64 (((b.f_Areas.length : Nat) : Int) - 1)).toNat) Tapi_Area.d).f_From)) true (decide (b.f_Rim > 1000000)))
    (some 2)
    (some 0))
    else none)))

/-- keelblock/keelblockref05.CheckBasin -/
def g_keelblockref05_CheckBasin (N : Nat) (b : Tapi_Basin) : Option (Int) :=
  ((g_keelblockbase_IsName N b.f_Name).bind fun rIsName =>
  (cond (!rIsName)
  (some 4)
  ((cond (cond (((b.f_Areas.length : Nat) : Int) == 0) true (decide (((b.f_Areas.length : Nat) : Int) > 20)))
  (some 2)
  (g_keelblockref05_CheckBasin_L1 N b N 0)))))

/-- keelblock/keelblockref05.Floor -/
def g_keelblockref05_Floor (N : Nat) (b : Tapi_Basin) : Option (Int) :=
  (if 0 ≤ (0 : Int) ∧ 0 < ((b.f_Areas.length : Nat) : Int) then
  some ((b.f_Areas.getD 0 Tapi_Area.d).f_From)
  else none)

def g_keelblockref05_Below_J3 (N : Nat) (b : Tapi_Basin) (level : Int) (i : Int) (K_g_keelblockref05_Below_L1 : Int → Int → Option (Int)) (sum2 : Int) : Option (Int) :=
  K_g_keelblockref05_Below_L1 sum2 (w64 (i + 1))

def g_keelblockref05_Below_J2 (N : Nat) (b : Tapi_Basin) (level : Int) (sum : Int) (i : Int) (K_g_keelblockref05_Below_L1 : Int → Int → Option (Int)) (top : Int) : Option (Int) :=
  (if 0 ≤ i ∧ i < ((b.f_Areas.length : Nat) : Int) then
  (cond (decide (top > (b.f_Areas.getD ((i).toNat) Tapi_Area.d).f_From))
  (g_keelblockref05_Below_J3 N b level i K_g_keelblockref05_Below_L1 (w64 (sum + (w64 ((b.f_Areas.getD ((i).toNat) Tapi_Area.d).f_Size * (w64 (top - (b.f_Areas.getD ((i).toNat) Tapi_Area.d).f_From)))))))
  (g_keelblockref05_Below_J3 N b level i K_g_keelblockref05_Below_L1 sum))
  else none)

def g_keelblockref05_Below_L1 (N : Nat) (b : Tapi_Basin) (level : Int) : Nat → Int → Int → Option (Int)
  | 0, _, _ => none
  | fuel + 1, sum, i =>
    (cond (decide (i < ((b.f_Areas.length : Nat) : Int)))
    ((cond (decide ((w64 (i + 1)) < ((b.f_Areas.length : Nat) : Int)))
    ((if 0 ≤ (w64 (i + 1)) ∧ (w64 (i + 1)) < ((b.f_Areas.length : Nat) : Int) then
    g_keelblockref05_Below_J2 N b level sum i (g_keelblockref05_Below_L1 N b level fuel) (if (b.f_Areas.getD ((w64 (i + 1)).toNat) Tapi_Area.d).f_From < level then (b.f_Areas.getD ((w64 (i + 1)).toNat) Tapi_Area.d).f_From else level)
    else none))
    (g_keelblockref05_Below_J2 N b level sum i (g_keelblockref05_Below_L1 N b level fuel) level)))
    (some sum))

/-- keelblock/keelblockref05.Below -/
def g_keelblockref05_Below (N : Nat) (b : Tapi_Basin) (level : Int) : Option (Int) :=
  g_keelblockref05_Below_L1 N b level N 0 0

/-- keelblock/keelblockref05.Volume -/
def g_keelblockref05_Volume (N : Nat) (b : Tapi_Basin) (level : Int) : Option (Int × Int) :=
  ((g_keelblockref05_CheckBasin N b).bind fun rCheckBasin =>
  (cond (rCheckBasin != 0)
  (some (0, rCheckBasin))
  (((g_keelblockref05_Floor N b).bind fun rFloor =>
  ((g_keelblockref05_inside N level rFloor b.f_Rim).bind fun rinside =>
  (cond (!rinside)
  (some (0, 2))
  (((g_keelblockref05_Below N b level).bind fun rBelow =>
  some (rBelow, 0)))))))))

/-- keelblock/keelblockref05.Capacity -/
def g_keelblockref05_Capacity (N : Nat) (b : Tapi_Basin) : Option (Int) :=
  ((g_keelblockref05_Below N b b.f_Rim).bind fun rBelow =>
  some rBelow)

def g_keelblockref05_LevelOf_L1 (N : Nat) (b : Tapi_Basin) (litres : Int) : Nat → Int → Int → Option (Int)
  | 0, _, _ => none
  | fuel + 1, low, high =>
    (cond (decide (low < high))
    (((g_keelblockref05_Below N b (w64 (low + (w64 ((w64 ((w64 (high - low)) + 1)).tdiv 2))))).bind fun rBelow =>
    (cond (decide (rBelow ≤ litres))
    (g_keelblockref05_LevelOf_L1 N b litres fuel (w64 (low + (w64 ((w64 ((w64 (high - low)) + 1)).tdiv 2)))) high)
    (g_keelblockref05_LevelOf_L1 N b litres fuel low (w64 ((w64 (low + (w64 ((w64 ((w64 (high - low)) + 1)).tdiv 2)))) - 1))))))
    (some low))

/-- keelblock/keelblockref05.LevelOf -/
def g_keelblockref05_LevelOf (N : Nat) (b : Tapi_Basin) (litres : Int) : Option (Int) :=
  ((g_keelblockref05_Floor N b).bind fun rFloor =>
  g_keelblockref05_LevelOf_L1 N b litres N rFloor b.f_Rim)

/-- keelblock/keelblockref05.Level -/
def g_keelblockref05_Level (N : Nat) (b : Tapi_Basin) (litres : Int) : Option (Int × Int) :=
  ((g_keelblockref05_CheckBasin N b).bind fun rCheckBasin =>
  (cond (rCheckBasin != 0)
  (some (0, rCheckBasin))
  (((g_keelblockref05_Capacity N b).bind fun rCapacity =>
  ((g_keelblockref05_inside N litres 0 rCapacity).bind fun rinside =>
  (cond (!rinside)
  (some (0, 2))
  (((g_keelblockref05_LevelOf N b litres).bind fun rLevelOf =>
  some (rLevelOf, 0)))))))))

/-- keelblock/keelblocklaw05.WaterBasins -/
def g_keelblocklaw05_WaterBasins (N : Nat) (b : Tapi_Basin) (level : Int) (litres : Int) : Option (Bool) :=
  ((g_keelblocklaw05_awake N).bind fun rawake =>
  (cond (!rawake)
  (some false)
  ((cond (cond (decide (((b.f_Areas.length : Nat) : Int) > 40)) true (decide (((b.f_Name.size : Nat) : Int) > 40)))
  (some true)
  (((g_water_Volume N b level).bind fun rVolume =>
  ((g_keelblockref05_Volume N b level).bind fun rVolume2 =>
  ((g_water_Level N b litres).bind fun rLevel =>
  ((g_keelblockref05_Level N b litres).bind fun rLevel2 =>
  ((g_water_CheckBasin N b).bind fun rCheckBasin =>
  ((g_keelblockref05_CheckBasin N b).bind fun rCheckBasin2 =>
  some (cond (cond (cond (cond (rCheckBasin == rCheckBasin2) (rVolume.1 == rVolume2.1) false) (rVolume.2 == rVolume2.2) false) (rLevel.1 == rLevel2.1) false) (rLevel.2 == rLevel2.2) false))))))))))))

def g_water_CheckSea_L1 (N : Nat) (m : List Tapi_Mark) : Nat → Int → Option (Int)
  | 0, _ => none
  | fuel + 1, x =>
    (cond (decide (x < ((m.length : Nat) : Int)))
    ((if 0 ≤ x ∧ x < ((m.length : Nat) : Int) then
    ((g_water_between N ((m.getD ((x).toNat) Tapi_Mark.d).f_Minute) 0 1000000).bind fun rbetween =>
    ((cond (!(!rbetween)) (g_water_between N ((m.getD ((x).toNat) Tapi_Mark.d).f_Level) (-1000000) 1000000) (some false)).bind fun rbetween2 =>
    (cond (cond (!rbetween) true (!rbetween2))
    (some 2)
    ((if ((decide (x > 0)) = true → 0 ≤ (w64 (x - 1)) ∧ (w64 (x - 1)) < ((m.length : Nat) : Int)) then
    (cond (cond (decide (x > 0)) (decide ((m.getD ((x).toNat) Tapi_Mark.d).f_Minute ≤ (m.getD ((w64 (x - 1)).toNat) Tapi_Mark.d).f_Minute)) false)
    (some 10)
    (g_water_CheckSea_L1 N m fuel (w64 (x + 1))))
    else none)))))
    else none))
    (some 0))

/-- keelblock/water.CheckSea -/
def g_water_CheckSea (N : Nat) (m : List Tapi_Mark) : Option (Int) :=
  (cond (decide (((m.length : Nat) : Int) > 400))
  (some 8)
  (g_water_CheckSea_L1 N m N 0))

/-- keelblock/water.tide 1 -/
def g_water_tide_1 (N : Nat) (i : Int) (cap0 : List Tapi_Mark) (cap1 : Int) : Option (Bool) :=
  (if 0 ≤ i ∧ i < ((cap0.length : Nat) : Int) then
  some (decide ((cap0.getD ((i).toNat) Tapi_Mark.d).f_Minute > cap1))
  else none)

def g_sort_Search_L1 (N : Nat) (cap0 : List Tapi_Mark) (cap1 : Int) : Nat → Int → Int → Option (Int)
  | 0, _, _ => none
  | fuel + 1, i, j =>
    (cond (decide (i < j))
    (((g_water_tide_1 N (w64 ((shrI .u64 (IntKind.u64.wrap ((w64 (i + j)))) 1))) cap0 cap1).bind fun rtide1 =>
    (cond (!rtide1)
    (g_sort_Search_L1 N cap0 cap1 fuel (w64 ((w64 ((shrI .u64 (IntKind.u64.wrap ((w64 (i + j)))) 1))) + 1)) j)
    (g_sort_Search_L1 N cap0 cap1 fuel i (w64 ((shrI .u64 (IntKind.u64.wrap ((w64 (i + j)))) 1)))))))
    (some i))

/-- sort.Search -/
def g_sort_Search (N : Nat) (n : Int) (cap0 : List Tapi_Mark) (cap1 : Int) : Option (Int) :=
  g_sort_Search_L1 N cap0 cap1 N 0 n

def g_water_tide_J1 (N : Nat) (m : List Tapi_Mark) (rSearch : Int) (down : Int) : Option (Int) :=
  some (w64 ((m.getD ((w64 (rSearch - 1)).toNat) Tapi_Mark.d).f_Level + down))

/-- keelblock/water.tide -/
def g_water_tide (N : Nat) (m : List Tapi_Mark) (minute : Int) : Option (Int) :=
  ((g_sort_Search N ((m.length : Nat) : Int) m minute).bind fun rSearch =>
  (cond (rSearch == 0)
  ((if 0 ≤ (0 : Int) ∧ 0 < ((m.length : Nat) : Int) then
  some ((m.getD 0 Tapi_Mark.d).f_Level)
  else none))
  ((cond (rSearch == ((m.length : Nat) : Int))
  ((if 0 ≤ (w64 (rSearch - 1)) ∧ (w64 (rSearch - 1)) < ((m.length : Nat) : Int) then
  some ((m.getD ((w64 (rSearch - 1)).toNat) Tapi_Mark.d).f_Level)
  else none))
  ((if 0 ≤ (w64 (rSearch - 1)) ∧ (w64 (rSearch - 1)) < ((m.length : Nat) : Int) then
  (if 0 ≤ rSearch ∧ rSearch < ((m.length : Nat) : Int) then
  (if ((w64 ((m.getD ((rSearch).toNat) Tapi_Mark.d).f_Minute - (m.getD ((w64 (rSearch - 1)).toNat) Tapi_Mark.d).f_Minute)) : Int) ≠ 0 then
  (cond (decide (((w64 ((w64 ((m.getD ((rSearch).toNat) Tapi_Mark.d).f_Level - (m.getD ((w64 (rSearch - 1)).toNat) Tapi_Mark.d).f_Level)) * (w64 (minute - (m.getD ((w64 (rSearch - 1)).toNat) Tapi_Mark.d).f_Minute)))).tmod (w64 ((m.getD ((rSearch).toNat) Tapi_Mark.d).f_Minute - (m.getD ((w64 (rSearch - 1)).toNat) Tapi_Mark.d).f_Minute))) < 0))
  (g_water_tide_J1 N m rSearch (w64 ((w64 ((w64 ((w64 ((m.getD ((rSearch).toNat) Tapi_Mark.d).f_Level - (m.getD ((w64 (rSearch - 1)).toNat) Tapi_Mark.d).f_Level)) * (w64 (minute - (m.getD ((w64 (rSearch - 1)).toNat) Tapi_Mark.d).f_Minute)))).tdiv (w64 ((m.getD ((rSearch).toNat) Tapi_Mark.d).f_Minute - (m.getD ((w64 (rSearch - 1)).toNat) Tapi_Mark.d).f_Minute)))) - 1)))
  (g_water_tide_J1 N m rSearch (w64 ((w64 ((w64 ((m.getD ((rSearch).toNat) Tapi_Mark.d).f_Level - (m.getD ((w64 (rSearch - 1)).toNat) Tapi_Mark.d).f_Level)) * (w64 (minute - (m.getD ((w64 (rSearch - 1)).toNat) Tapi_Mark.d).f_Minute)))).tdiv (w64 ((m.getD ((rSearch).toNat) Tapi_Mark.d).f_Minute - (m.getD ((w64 (rSearch - 1)).toNat) Tapi_Mark.d).f_Minute))))))
  else none)
  else none)
  else none))))))

/-- keelblock/water.Tide -/
def g_water_Tide (N : Nat) (m : List Tapi_Mark) (minute : Int) : Option (Int × Int) :=
  ((g_water_CheckSea N m).bind fun rCheckSea =>
  (cond (rCheckSea != 0)
  (some (0, rCheckSea))
  (((g_water_between N minute 0 1000000).bind fun rbetween =>
  (cond (!rbetween)
  (some (0, 2))
  ((cond (((m.length : Nat) : Int) == 0)
  (some (0, 29))
  (((g_water_tide N m minute).bind fun rtide =>
  some (rtide, 0))))))))))

def g_keelblockref05_CheckSea_L1 (N : Nat) (m : List Tapi_Mark) : Nat → Int → Option (Int)
  | 0, _ => none
  | fuel + 1, i =>
    (cond (decide (i < ((m.length : Nat) : Int)))
    ((if 0 ≤ i ∧ i < ((m.length : Nat) : Int) then
    ((g_keelblockref05_inside N ((m.getD ((i).toNat) Tapi_Mark.d).f_Minute) 0 1000000).bind fun rinside =>
    (if ((!(!rinside)) = true → 0 ≤ i ∧ i < ((m.length : Nat) : Int)) then
    ((cond (!(!rinside)) (g_keelblockref05_inside N ((m.getD ((i).toNat) Tapi_Mark.d).f_Level) (-1000000) 1000000) (some false)).bind fun rinside2 =>
    (cond (cond (!rinside) true (!rinside2))
    (some 2)
    ((if ((decide (i > 0)) = true → 0 ≤ i ∧ i < ((m.length : Nat) : Int)) then
    (if ((decide (i > 0)) = true → 0 ≤ (w64 (i - 1)) ∧ (w64 (i - 1)) < ((m.length : Nat) : Int)) then
    (cond (cond (decide (i > 0)) (decide ((m.getD ((i).toNat) Tapi_Mark.d).f_Minute ≤ (m.getD ((w64 (i - 1)).toNat) Tapi_Mark.d).f_Minute)) false)
    (some 10)
    (g_keelblockref05_CheckSea_L1 N m fuel (w64 (i + 1))))
    else none)
    else none))))
    else none))
    else none))
    (some 0))

/-- keelblock/keelblockref05.CheckSea -/
def g_keelblockref05_CheckSea (N : Nat) (m : List Tapi_Mark) : Option (Int) :=
  (cond (decide (((m.length : Nat) : Int) > 400))
  (some 8)
  (g_keelblockref05_CheckSea_L1 N m N 0))

def g_keelblockref05_floorDiv_J1 (N : Nat) (q : Int) : Option (Int) :=
  some q

/-- keelblock/keelblockref05.floorDiv -/
def g_keelblockref05_floorDiv (N : Nat) (a : Int) (b : Int) : Option (Int) :=
  (if (b : Int) ≠ 0 then
  (cond (decide ((a.tmod b) < 0))
  (g_keelblockref05_floorDiv_J1 N (w64 ((w64 (a.tdiv b)) - 1)))
  (g_keelblockref05_floorDiv_J1 N (w64 (a.tdiv b))))
  else none)

def g_keelblockref05_At_L1 (N : Nat) (m : List Tapi_Mark) (minute : Int) : Nat → Int → Option (Int)
  | 0, _ => none
  | fuel + 1, i =>
    (cond (decide (i < ((m.length : Nat) : Int)))
    ((if 0 ≤ i ∧ i < ((m.length : Nat) : Int) then
    (cond (decide (minute ≤ (m.getD ((i).toNat) Tapi_Mark.d).f_Minute))
    ((if 0 ≤ (w64 (i - 1)) ∧ (w64 (i - 1)) < ((m.length : Nat) : Int) then
    ((g_keelblockref05_floorDiv N (w64 ((w64 ((m.getD ((i).toNat) Tapi_Mark.d).f_Level - (m.getD ((w64 (i - 1)).toNat) Tapi_Mark.d).f_Level)) * (w64 (minute - (m.getD ((w64 (i - 1)).toNat) Tapi_Mark.d).f_Minute)))) (w64 ((m.getD ((i).toNat) Tapi_Mark.d).f_Minute - (m.getD ((w64 (i - 1)).toNat) Tapi_Mark.d).f_Minute))).bind fun rfloorDiv =>
    some (w64 ((m.getD ((w64 (i - 1)).toNat) Tapi_Mark.d).f_Level + rfloorDiv)))
    else none))
    (g_keelblockref05_At_L1 N m minute fuel (w64 (i + 1))))
    else none))
    ((if 0 ≤ (w64 (((m.length : Nat) : Int) - 1)) ∧ (w64 (((m.length : Nat) : Int) - 1)) < ((m.length : Nat) : Int) then
    some ((m.getD ((w64 (((m.length : Nat) : Int) - 1)).toNat) Tapi_Mark.d).f_Level)
    else none)))

/-- keelblock/keelblockref05.At -/
def g_keelblockref05_At (N : Nat) (m : List Tapi_Mark) (minute : Int) : Option (Int) :=
  (if 0 ≤ (0 : Int) ∧ 0 < ((m.length : Nat) : Int) then
  (cond (decide (minute ≤ (m.getD 0 Tapi_Mark.d).f_Minute))
  (some ((m.getD 0 Tapi_Mark.d).f_Level))
  (g_keelblockref05_At_L1 N m minute N 1))
  else none)

/-- keelblock/keelblockref05.Tide -/
def g_keelblockref05_Tide (N : Nat) (m : List Tapi_Mark) (minute : Int) : Option (Int × Int) :=
  ((g_keelblockref05_CheckSea N m).bind fun rCheckSea =>
  (cond (rCheckSea != 0)
  (some (0, rCheckSea))
  (((g_keelblockref05_inside N minute 0 1000000).bind fun rinside =>
  (cond (!rinside)
  (some (0, 2))
  ((cond (((m.length : Nat) : Int) == 0)
  (some (0, 29))
  (((g_keelblockref05_At N m minute).bind fun rAt =>
  some (rAt, 0))))))))))

/-- keelblock/water.HighWaters 1 -/
def g_water_HighWaters_1 (N : Nat) (y : Tapi_Mark) (cap0 : Tapi_Mark) : Option (Bool) :=
  some (y.f_Level != cap0.f_Level)

def g_slices_IndexFunc_api_Mark_api_Mark_L1 (N : Nat) (s : List Tapi_Mark) (cap0 : Tapi_Mark) : Nat → Int → Option (Int)
  | 0, _ => none
  | fuel + 1, x =>
    (cond (decide (x < ((s.length : Nat) : Int)))
    ((if 0 ≤ x ∧ x < ((s.length : Nat) : Int) then
    ((g_water_HighWaters_1 N (s.getD ((x).toNat) Tapi_Mark.d) cap0).bind fun rHighWaters1 =>
    (cond rHighWaters1
    (some x)
    (g_slices_IndexFunc_api_Mark_api_Mark_L1 N s cap0 fuel (w64 (x + 1)))))
    else none))
    (some (-1)))

/-- slices.IndexFunc   keelblock/api.Mark,keelblock/api.Mark  -/
def g_slices_IndexFunc_api_Mark_api_Mark (N : Nat) (s : List Tapi_Mark) (cap0 : Tapi_Mark) : Option (Int) :=
  g_slices_IndexFunc_api_Mark_api_Mark_L1 N s cap0 N 0

def g_water_HighWaters_J2 (N : Nat) (m : List Tapi_Mark) (x : Int) (K_g_water_HighWaters_L1 : (List Tapi_Mark) → Int → Option ((List Tapi_Mark) × Int)) (out2 : List Tapi_Mark) : Option ((List Tapi_Mark) × Int) :=
  K_g_water_HighWaters_L1 out2 (w64 (x + 1))

def g_water_HighWaters_L1 (N : Nat) (m : List Tapi_Mark) : Nat → (List Tapi_Mark) → Int → Option ((List Tapi_Mark) × Int)
  | 0, _, _ => none
  | fuel + 1, out, x =>
    (cond (decide (x < ((m.length : Nat) : Int)))
    ((if 0 ≤ x ∧ x < ((m.length : Nat) : Int) then
    (if ((decide (x > 0)) = true → 0 ≤ (w64 (x - 1)) ∧ (w64 (x - 1)) < ((m.length : Nat) : Int)) then
    (cond (cond (decide (x > 0)) (decide ((m.getD ((x).toNat) Tapi_Mark.d).f_Level ≤ (m.getD ((w64 (x - 1)).toNat) Tapi_Mark.d).f_Level)) false)
    (g_water_HighWaters_J2 N m x (g_water_HighWaters_L1 N m fuel) out)
    ((if (x).toNat ≤ m.length ∧ m.length ≤ m.length then
    (if 0 ≤ x then
    ((g_slices_IndexFunc_api_Mark_api_Mark N ((m.take m.length).drop ((x).toNat)) (m.getD ((x).toNat) Tapi_Mark.d)).bind fun rMark =>
    (if ((!(decide (rMark < 0))) = true → 0 ≤ (w64 (x + rMark)) ∧ (w64 (x + rMark)) < ((m.length : Nat) : Int)) then
    (cond (cond (decide (rMark < 0)) true (decide ((m.getD ((w64 (x + rMark)).toNat) Tapi_Mark.d).f_Level < (m.getD ((x).toNat) Tapi_Mark.d).f_Level)))
    ((if (out.length + 1) * 16 ≤ 140737488355328 then
    g_water_HighWaters_J2 N m x (g_water_HighWaters_L1 N m fuel) (out ++ ([(m.getD ((x).toNat) Tapi_Mark.d)] : List Tapi_Mark))
    else none))
    (g_water_HighWaters_J2 N m x (g_water_HighWaters_L1 N m fuel) out))
    else none))
    else none)
    else none)))
    else none)
    else none))
    (some (out, 0)))

/-- keelblock/water.HighWaters -/
def g_water_HighWaters (N : Nat) (m : List Tapi_Mark) : Option ((List Tapi_Mark) × Int) :=
  ((g_water_CheckSea N m).bind fun rCheckSea =>
  (cond (rCheckSea != 0)
  (some (([] : List Tapi_Mark), rCheckSea))
  (g_water_HighWaters_L1 N m N ([] : List Tapi_Mark) 0)))

def g_keelblockref05_HighWaters_J2 (N : Nat) (m : List Tapi_Mark) (i : Int) (K_g_keelblockref05_HighWaters_L1 : (List Tapi_Mark) → Int → Option ((List Tapi_Mark))) (out2 : List Tapi_Mark) : Option ((List Tapi_Mark)) :=
  K_g_keelblockref05_HighWaters_L1 out2 (w64 (i + 1))

def g_keelblockref05_HighWaters_L3 (N : Nat) (m : List Tapi_Mark) (out : List Tapi_Mark) (i : Int) (K_g_keelblockref05_HighWaters_L1 : (List Tapi_Mark) → Int → Option ((List Tapi_Mark))) : Nat → Int → Option ((List Tapi_Mark))
  | 0, _ => none
  | fuel + 1, k =>
    (if ((decide (k < ((m.length : Nat) : Int))) = true → 0 ≤ k ∧ k < ((m.length : Nat) : Int)) then
    (if ((decide (k < ((m.length : Nat) : Int))) = true → 0 ≤ i ∧ i < ((m.length : Nat) : Int)) then
    (cond (cond (decide (k < ((m.length : Nat) : Int))) ((m.getD ((k).toNat) Tapi_Mark.d).f_Level == (m.getD ((i).toNat) Tapi_Mark.d).f_Level) false)
    (g_keelblockref05_HighWaters_L3 N m out i K_g_keelblockref05_HighWaters_L1 fuel (w64 (k + 1)))
    ((if ((!(k == ((m.length : Nat) : Int))) = true → 0 ≤ k ∧ k < ((m.length : Nat) : Int)) then
    (if ((!(k == ((m.length : Nat) : Int))) = true → 0 ≤ i ∧ i < ((m.length : Nat) : Int)) then
    (cond (cond (k == ((m.length : Nat) : Int)) true (decide ((m.getD ((k).toNat) Tapi_Mark.d).f_Level < (m.getD ((i).toNat) Tapi_Mark.d).f_Level)))
    ((if 0 ≤ i ∧ i < ((m.length : Nat) : Int) then
    (if (out.length + 1) * 16 ≤ 140737488355328 then
    g_keelblockref05_HighWaters_J2 N m i K_g_keelblockref05_HighWaters_L1 (out ++ ([(m.getD ((i).toNat) Tapi_Mark.d)] : List Tapi_Mark))
    else none)
    else none))
    (g_keelblockref05_HighWaters_J2 N m i K_g_keelblockref05_HighWaters_L1 out))
    else none)
    else none)))
    else none)
    else none)

def g_keelblockref05_HighWaters_L1 (N : Nat) (m : List Tapi_Mark) : Nat → (List Tapi_Mark) → Int → Option ((List Tapi_Mark))
  | 0, _, _ => none
  | fuel + 1, out, i =>
    (cond (decide (i < ((m.length : Nat) : Int)))
    ((if ((decide (i > 0)) = true → 0 ≤ (w64 (i - 1)) ∧ (w64 (i - 1)) < ((m.length : Nat) : Int)) then
    (if ((decide (i > 0)) = true → 0 ≤ i ∧ i < ((m.length : Nat) : Int)) then
    (cond (cond (decide (i > 0)) (decide ((m.getD ((w64 (i - 1)).toNat) Tapi_Mark.d).f_Level ≥ (m.getD ((i).toNat) Tapi_Mark.d).f_Level)) false)
    (g_keelblockref05_HighWaters_J2 N m i (g_keelblockref05_HighWaters_L1 N m fuel) out)
    (g_keelblockref05_HighWaters_L3 N m out i (g_keelblockref05_HighWaters_L1 N m fuel) N (w64 (i + 1))))
    else none)
    else none))
    (some out))

/-- keelblock/keelblockref05.HighWaters -/
def g_keelblockref05_HighWaters (N : Nat) (m : List Tapi_Mark) : Option ((List Tapi_Mark)) :=
  g_keelblockref05_HighWaters_L1 N m N ([] : List Tapi_Mark) 0

def g_keelblocklaw05_WaterTides_L1 (N : Nat) (rHighWaters : (List Tapi_Mark) × Int) (rHighWaters2 : (List Tapi_Mark)) : Nat → Int → Option (Bool)
  | 0, _ => none
  | fuel + 1, i =>
    (cond (decide (i < ((rHighWaters.1.length : Nat) : Int)))
    ((if 0 ≤ i ∧ i < ((rHighWaters.1.length : Nat) : Int) then
    (if 0 ≤ i ∧ i < ((rHighWaters2.length : Nat) : Int) then
    (cond (!(((rHighWaters.1.getD ((i).toNat) Tapi_Mark.d).f_Minute == (rHighWaters2.getD ((i).toNat) Tapi_Mark.d).f_Minute) && (((rHighWaters.1.getD ((i).toNat) Tapi_Mark.d).f_Level == (rHighWaters2.getD ((i).toNat) Tapi_Mark.d).f_Level) && true)))
    (some false)
    (g_keelblocklaw05_WaterTides_L1 N rHighWaters rHighWaters2 fuel (w64 (i + 1))))
    else none)
    else none))
    (some true))

/-- keelblock/keelblocklaw05.WaterTides -/
def g_keelblocklaw05_WaterTides (N : Nat) (m : List Tapi_Mark) (minute : Int) : Option (Bool) :=
  ((g_keelblocklaw05_awake N).bind fun rawake =>
  (cond (!rawake)
  (some false)
  ((cond (cond (decide (((m.length : Nat) : Int) > 40)) (decide (((m.length : Nat) : Int) ≤ 400)) false)
  (some true)
  (((g_water_Tide N m minute).bind fun rTide =>
  ((g_keelblockref05_Tide N m minute).bind fun rTide2 =>
  ((g_water_HighWaters N m).bind fun rHighWaters =>
  ((g_keelblockref05_CheckSea N m).bind fun rCheckSea =>
  ((g_water_CheckSea N m).bind fun rCheckSea2 =>
  (cond (cond (cond (cond (rCheckSea2 != rCheckSea) true (rTide.1 != rTide2.1)) true (rTide.2 != rTide2.2)) true (rHighWaters.2 != rCheckSea))
  (some false)
  ((cond (rCheckSea != 0)
  (some (((rHighWaters.1.length : Nat) : Int) == 0))
  (((g_keelblockref05_HighWaters N m).bind fun rHighWaters2 =>
  (cond (((rHighWaters.1.length : Nat) : Int) != ((rHighWaters2.length : Nat) : Int))
  (some false)
  (g_keelblocklaw05_WaterTides_L1 N rHighWaters rHighWaters2 N 0)))))))))))))))))

end Go.Den
