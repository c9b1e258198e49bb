/- The functions of the program as Lean functions, each in the Option monad; N bounds the rounds of loops. No conditions. -/
import Derived.Test.YthiklnjjabfjlaaCc
set_option linter.unusedVariables false
set_option linter.unusedSimpArgs false
set_option linter.unusedVariables false
namespace Go.Den
open Go.Ab
structure TMark where
 f_Minute:Int
 f_Level:Int
def TMark.d:TMark:=⟨0,0⟩
def TMark.wf (x:TMark):Prop:=wI x.f_Minute∧wI x.f_Level
def TMark.cells (x:TMark):List AV:=[(aI x.f_Minute),(aI x.f_Level)]
structure TS__2_int where
 e0:Int
 e1:Int
def TS__2_int.d:TS__2_int:=⟨0,0⟩
def TS__2_int.wf (x:TS__2_int):Prop:=wI x.e0∧wI x.e1
def TS__2_int.cells (x:TS__2_int):List AV:=[(aI x.e0),(aI x.e1)]
structure TArea where
 f_From:Int
 f_Size:Int
def TArea.d:TArea:=⟨0,0⟩
def TArea.wf (x:TArea):Prop:=wI x.f_From∧wI x.f_Size
def TArea.cells (x:TArea):List AV:=[(aI x.f_From),(aI x.f_Size)]
structure TBasin where
 f_Name:ByteArray
 f_Areas:List TArea
 f_Rim:Int
def TBasin.d:TBasin:=⟨ByteArray.empty,[],0⟩
def TBasin.wf (x:TBasin):Prop:=wS x.f_Name∧(wL TArea.wf) x.f_Areas∧wI x.f_Rim
def TBasin.cells (x:TBasin):List AV:=[(aS x.f_Name),(encL TArea.cells TArea.d x.f_Areas),(aI x.f_Rim)]
structure TDock where
 f_Name:ByteArray
 f_Length:Int
 f_Width:Int
 f_Sill:Int
 f_Floor:Int
 f_Gap:Int
def TDock.d:TDock:=⟨ByteArray.empty,0,0,0,0,0⟩
def TDock.wf (x:TDock):Prop:=wS x.f_Name∧wI x.f_Length∧wI x.f_Width∧wI x.f_Sill∧wI x.f_Floor∧wI x.f_Gap
def TDock.cells (x:TDock):List AV:=[(aS x.f_Name),(aI x.f_Length),(aI x.f_Width),(aI x.f_Sill),(aI x.f_Floor),(aI x.f_Gap)]
structure TCall where
 f_Name:ByteArray
 f_Length:Int
 f_Beam:Int
 f_Draught:Int
 f_Under:Int
 f_Arrive:Int
 f_Work:Int
 f_Due:Int
 f_Late:Int
def TCall.d:TCall:=⟨ByteArray.empty,0,0,0,0,0,0,0,0⟩
def TCall.wf (x:TCall):Prop:=wS x.f_Name∧wI x.f_Length∧wI x.f_Beam∧wI x.f_Draught∧wI x.f_Under∧wI x.f_Arrive∧wI x.f_Work∧wI x.f_Due∧wI x.f_Late
def TCall.cells (x:TCall):List AV:=[(aS x.f_Name),(aI x.f_Length),(aI x.f_Beam),(aI x.f_Draught),(aI x.f_Under),(aI x.f_Arrive),(aI x.f_Work),(aI x.f_Due),(aI x.f_Late)]
structure TYard where
 f_Docks:List TDock
 f_Calls:List TCall
 f_Sea:List TMark
 f_Last:Int
def TYard.d:TYard:=⟨[],[],[],0⟩
def TYard.wf (x:TYard):Prop:=(wL TDock.wf) x.f_Docks∧(wL TCall.wf) x.f_Calls∧(wL TMark.wf) x.f_Sea∧wI x.f_Last
def TYard.cells (x:TYard):List AV:=[(encL TDock.cells TDock.d x.f_Docks),(encL TCall.cells TCall.d x.f_Calls),(encL TMark.cells TMark.d x.f_Sea),(aI x.f_Last)]
structure TStay where
 f_Call:ByteArray
 f_Dock:ByteArray
 f_Day:Int
def TStay.d:TStay:=⟨ByteArray.empty,ByteArray.empty,0⟩
def TStay.wf (x:TStay):Prop:=wS x.f_Call∧wS x.f_Dock∧wI x.f_Day
def TStay.cells (x:TStay):List AV:=[(aS x.f_Call),(aS x.f_Dock),(aI x.f_Day)]
def g_w05_tub (N:Nat):Option (TBasin) :=
 some (⟨(⟨#[65]⟩:ByteArray),([(⟨0,100⟩:TArea),(⟨1000,200⟩:TArea)]:List TArea),3000⟩:TBasin)
def g_water_between (N:Nat) (n:Int) (low:Int) (high:Int):Option (Bool) :=
 some (cond (decide (n≥low)) (decide (n≤high)) false)
def g_water_isName_L1 (N:Nat) (s:ByteArray):Nat→Int→Option (Bool)
 | 0,_=>none
 | fuel+1,x =>
  (cond (decide (x < ((s.size:Nat):Int)))
  ((if 0≤x∧x < (((bytesL s).length:Nat):Int) then
  (cond (cond (!(cond (cond (decide (((bytesL s).getD ((x).toNat) 0)≥97)) (decide (((bytesL s).getD ((x).toNat) 0)≤122)) false) true (cond (decide (((bytesL s).getD ((x).toNat) 0)≥65)) (decide (((bytesL s).getD ((x).toNat) 0)≤90)) false))) (cond (x == 0) true (cond (((bytesL s).getD ((x).toNat) 0) != 45) (cond (decide (((bytesL s).getD ((x).toNat) 0) < 48)) true (decide (((bytesL s).getD ((x).toNat) 0) > 57))) false)) false)
  (some false)
  (g_water_isName_L1 N s fuel (w64 (x+1))))
  else none))
  (some true))
def g_water_isName (N:Nat) (s:ByteArray):Option (Bool) :=
 ((g_water_between N ((s.size:Nat):Int) 1 12).bind fun rbetween =>
 (cond (!rbetween)
 (some false)
 (g_water_isName_L1 N s N 0)))
def g_water_checkForm_L1 (N:Nat) (b:TBasin):Nat→Int→Option (Int)
 | 0,_=>none
 | fuel+1,x =>
  (cond (decide (x < ((b.f_Areas.length:Nat):Int)))
  ((if 0≤x∧x < ((b.f_Areas.length:Nat):Int) then
  ((g_water_between N ((b.f_Areas.getD ((x).toNat) TArea.d).f_From) (-1000000) 1000000).bind fun rbetween2 =>
  ((cond (!(!rbetween2)) (g_water_between N ((b.f_Areas.getD ((x).toNat) TArea.d).f_Size) 1 1000000) (some false)).bind fun rbetween3 =>
  (cond (cond (!rbetween2) true (!rbetween3))
  (some 2)
  ((if ((decide (x > 0))=true→0≤(w64 (x - 1))∧(w64 (x - 1)) < ((b.f_Areas.length:Nat):Int)) then
  (cond (cond (decide (x > 0)) (decide ((b.f_Areas.getD ((x).toNat) TArea.d).f_From≤(b.f_Areas.getD ((w64 (x - 1)).toNat) TArea.d).f_From)) false)
  (some 10)
  (g_water_checkForm_L1 N b fuel (w64 (x+1))))
  else none)))))
  else none))
  ((if 0≤(w64 (((b.f_Areas.length:Nat):Int) - 1))∧(w64 (((b.f_Areas.length:Nat):Int) - 1)) < ((b.f_Areas.length:Nat):Int) then
  (cond (cond (decide (b.f_Rim≤(b.f_Areas.getD ((w64 (((b.f_Areas.length:Nat):Int) - 1)).toNat) TArea.d).f_From)) true (decide (b.f_Rim > 1000000)))
  (some 2)
  (some 0))
  else none)))
def g_water_checkForm (N:Nat) (b:TBasin):Option (Int) :=
 ((g_water_between N ((b.f_Areas.length:Nat):Int) 1 20).bind fun rbetween =>
 (cond (!rbetween)
 (some 2)
 (g_water_checkForm_L1 N b N 0)))
def g_water_CheckBasin (N:Nat) (b:TBasin):Option (Int) :=
 ((g_water_isName N b.f_Name).bind fun risName =>
 (cond (!risName)
 (some 4)
 (((g_water_checkForm N b).bind fun rcheckForm =>
 some rcheckForm))))
def g_water_floor (N:Nat) (b:TBasin):Option (Int) :=
 (if 0≤(0:Int)∧0 < ((b.f_Areas.length:Nat):Int) then
 some ((b.f_Areas.getD 0 TArea.d).f_From)
 else none)
def g_water_volume_J2 (N:Nat) (b:TBasin) (level:Int) (sum:Int) (x:Int) (K_g_water_volume_L1:Int→Int→Option (Int)) (top:Int):Option (Int) :=
 K_g_water_volume_L1 (w64 (sum+(w64 ((b.f_Areas.getD ((x).toNat) TArea.d).f_Size * (if (w64 (top - (b.f_Areas.getD ((x).toNat) TArea.d).f_From)) > 0 then (w64 (top - (b.f_Areas.getD ((x).toNat) TArea.d).f_From)) else 0))))) (w64 (x+1))
def g_water_volume_L1 (N:Nat) (b:TBasin) (level:Int):Nat→Int→Int→Option (Int)
 | 0,_,_=>none
 | fuel+1,sum,x =>
  (cond (decide (x < ((b.f_Areas.length:Nat):Int)))
  ((if 0≤x∧x < ((b.f_Areas.length:Nat):Int) then
  (cond (decide ((w64 (x+1)) < ((b.f_Areas.length:Nat):Int)))
  ((if 0≤(w64 (x+1))∧(w64 (x+1)) < ((b.f_Areas.length:Nat):Int) then
  g_water_volume_J2 N b level sum x (g_water_volume_L1 N b level fuel) (if (b.f_Areas.getD ((w64 (x+1)).toNat) TArea.d).f_From < level then (b.f_Areas.getD ((w64 (x+1)).toNat) TArea.d).f_From else level)
  else none))
  (g_water_volume_J2 N b level sum x (g_water_volume_L1 N b level fuel) level))
  else none))
  (some sum))
def g_water_volume (N:Nat) (b:TBasin) (level:Int):Option (Int) :=
 g_water_volume_L1 N b level N 0 0
def g_water_Volume (N:Nat) (b:TBasin) (level:Int):Option (Int×Int) :=
 ((g_water_CheckBasin N b).bind fun rCheckBasin =>
 (cond (rCheckBasin != 0)
 (some (0,rCheckBasin))
 (((g_water_floor N b).bind fun rfloor =>
 ((g_water_between N level rfloor b.f_Rim).bind fun rbetween =>
 (cond (!rbetween)
 (some (0,2))
 (((g_water_volume N b level).bind fun rvolume =>
 some (rvolume,0)))))))))
def g_water_levelOf_J2 (N:Nat) (b:TBasin) (litres2:Int) (x:Int) (K_g_water_levelOf_L1:Int→Int→Int→Option (Int)) (top:Int):Option (Int) :=
 (cond (decide (litres2 < (w64 ((b.f_Areas.getD ((x).toNat) TArea.d).f_Size * (w64 (top - (b.f_Areas.getD ((x).toNat) TArea.d).f_From))))))
 ((if ((b.f_Areas.getD ((x).toNat) TArea.d).f_Size:Int)≠0 then
 some (w64 ((b.f_Areas.getD ((x).toNat) TArea.d).f_From+(w64 (litres2.tdiv ((b.f_Areas.getD ((x).toNat) TArea.d).f_Size)))))
 else none))
 (K_g_water_levelOf_L1 (w64 (litres2 - (w64 ((b.f_Areas.getD ((x).toNat) TArea.d).f_Size * (w64 (top - (b.f_Areas.getD ((x).toNat) TArea.d).f_From)))))) top (w64 (x+1))))
def g_water_levelOf_L1 (N:Nat) (b:TBasin):Nat→Int→Int→Int→Option (Int)
 | 0,_,_,_=>none
 | fuel+1,litres2,level,x =>
  (cond (decide (x < ((b.f_Areas.length:Nat):Int)))
  ((if 0≤x∧x < ((b.f_Areas.length:Nat):Int) then
  (cond (decide ((w64 (x+1)) < ((b.f_Areas.length:Nat):Int)))
  ((if 0≤(w64 (x+1))∧(w64 (x+1)) < ((b.f_Areas.length:Nat):Int) then
  g_water_levelOf_J2 N b litres2 x (g_water_levelOf_L1 N b fuel) ((b.f_Areas.getD ((w64 (x+1)).toNat) TArea.d).f_From)
  else none))
  (g_water_levelOf_J2 N b litres2 x (g_water_levelOf_L1 N b fuel) b.f_Rim))
  else none))
  (some level))
def g_water_levelOf (N:Nat) (b:TBasin) (litres:Int):Option (Int) :=
 ((g_water_floor N b).bind fun rfloor =>
 g_water_levelOf_L1 N b N litres rfloor 0)
def g_water_Level (N:Nat) (b:TBasin) (litres:Int):Option (Int×Int) :=
 ((g_water_CheckBasin N b).bind fun rCheckBasin =>
 (cond (rCheckBasin != 0)
 (some (0,rCheckBasin))
 (((g_water_volume N b b.f_Rim).bind fun rvolume =>
 ((g_water_between N litres 0 rvolume).bind fun rbetween =>
 (cond (!rbetween)
 (some (0,2))
 (((g_water_levelOf N b litres).bind fun rlevelOf =>
 some (rlevelOf,0)))))))))
def g_w05_awake (N:Nat):Option (Bool) :=
 ((g_w05_tub N).bind fun rtub =>
 ((g_water_Volume N rtub 1500).bind fun rVolume =>
 ((g_w05_tub N).bind fun rtub2 =>
 ((g_water_Level N rtub2 100199).bind fun rLevel =>
 some (cond (cond (cond (rVolume.2 == 0) (rVolume.1 == 200000) false) (rLevel.2 == 0) false) (rLevel.1 == 1000) false)))))
def g_water_CheckSea_L1 (N:Nat) (m:List TMark):Nat→Int→Option (Int)
 | 0,_=>none
 | fuel+1,x =>
  (cond (decide (x < ((m.length:Nat):Int)))
  ((if 0≤x∧x < ((m.length:Nat):Int) then
  ((g_water_between N ((m.getD ((x).toNat) TMark.d).f_Minute) 0 1000000).bind fun rbetween =>
  ((cond (!(!rbetween)) (g_water_between N ((m.getD ((x).toNat) TMark.d).f_Level) (-1000000) 1000000) (some false)).bind fun rbetween2 =>
  (cond (cond (!rbetween) true (!rbetween2))
  (some 2)
  ((if ((decide (x > 0))=true→0≤(w64 (x - 1))∧(w64 (x - 1)) < ((m.length:Nat):Int)) then
  (cond (cond (decide (x > 0)) (decide ((m.getD ((x).toNat) TMark.d).f_Minute≤(m.getD ((w64 (x - 1)).toNat) TMark.d).f_Minute)) false)
  (some 10)
  (g_water_CheckSea_L1 N m fuel (w64 (x+1))))
  else none)))))
  else none))
  (some 0))
def g_water_CheckSea (N:Nat) (m:List TMark):Option (Int) :=
 (cond (decide (((m.length:Nat):Int) > 400))
 (some 8)
 (g_water_CheckSea_L1 N m N 0))
def g_math_bits_Len64_J3 (N:Nat) (x4:Int) (n3:Int):Option (Int) :=
 (if 0≤(IntKind.u8.wrap (x4))∧(IntKind.u8.wrap (x4)) < (((⟨#[0,1,2,2,3,3,3,3,4,4,4,4,4,4,4,4,5,5,5,5,5,5,5,5,5,5,5,5,5,5,5,5,6,6,6,6,6,6,6,6,6,6,6,6,6,6,6,6,6,6,6,6,6,6,6,6,6,6,6,6,6,6,6,6,7,7,7,7,7,7,7,7,7,7,7,7,7,7,7,7,7,7,7,7,7,7,7,7,7,7,7,7,7,7,7,7,7,7,7,7,7,7,7,7,7,7,7,7,7,7,7,7,7,7,7,7,7,7,7,7,7,7,7,7,7,7,7,7,8,8,8,8,8,8,8,8,8,8,8,8,8,8,8,8,8,8,8,8,8,8,8,8,8,8,8,8,8,8,8,8,8,8,8,8,8,8,8,8,8,8,8,8,8,8,8,8,8,8,8,8,8,8,8,8,8,8,8,8,8,8,8,8,8,8,8,8,8,8,8,8,8,8,8,8,8,8,8,8,8,8,8,8,8,8,8,8,8,8,8,8,8,8,8,8,8,8,8,8,8,8,8,8,8,8,8,8,8,8,8,8,8,8,8,8,8,8,8,8,8,8,8,8,8,8,8,8]⟩:ByteArray).size:Nat):Int) then
 some (w64 (n3+(w64 ((byteAt (⟨#[0,1,2,2,3,3,3,3,4,4,4,4,4,4,4,4,5,5,5,5,5,5,5,5,5,5,5,5,5,5,5,5,6,6,6,6,6,6,6,6,6,6,6,6,6,6,6,6,6,6,6,6,6,6,6,6,6,6,6,6,6,6,6,6,7,7,7,7,7,7,7,7,7,7,7,7,7,7,7,7,7,7,7,7,7,7,7,7,7,7,7,7,7,7,7,7,7,7,7,7,7,7,7,7,7,7,7,7,7,7,7,7,7,7,7,7,7,7,7,7,7,7,7,7,7,7,7,7,8,8,8,8,8,8,8,8,8,8,8,8,8,8,8,8,8,8,8,8,8,8,8,8,8,8,8,8,8,8,8,8,8,8,8,8,8,8,8,8,8,8,8,8,8,8,8,8,8,8,8,8,8,8,8,8,8,8,8,8,8,8,8,8,8,8,8,8,8,8,8,8,8,8,8,8,8,8,8,8,8,8,8,8,8,8,8,8,8,8,8,8,8,8,8,8,8,8,8,8,8,8,8,8,8,8,8,8,8,8,8,8,8,8,8,8,8,8,8,8,8,8,8,8,8,8,8,8]⟩:ByteArray) ((IntKind.u8.wrap (x4)).toNat))))))
 else none)
def g_math_bits_Len64_J2 (N:Nat) (x3:Int) (n2:Int):Option (Int) :=
 (cond (decide (x3≥256))
 (g_math_bits_Len64_J3 N (shrI .u64 x3 8) (w64 (n2+8)))
 (g_math_bits_Len64_J3 N x3 n2))
def g_math_bits_Len64_J1 (N:Nat) (x2:Int) (n:Int):Option (Int) :=
 (cond (decide (x2≥65536))
 (g_math_bits_Len64_J2 N (shrI .u64 x2 16) (w64 (n+16)))
 (g_math_bits_Len64_J2 N x2 n))
def g_math_bits_Len64 (N:Nat) (x:Int):Option (Int) :=
 (cond (decide (x≥4294967296))
 (g_math_bits_Len64_J1 N (shrI .u64 x 32) 32)
 (g_math_bits_Len64_J1 N x 0))
def g_math_bits_Len (N:Nat) (x:Int):Option (Int) :=
 ((g_math_bits_Len64 N x).bind fun rLen64 =>
 some rLen64)
def g_cmp_isNaN_int (N:Nat) (x:Int):Option (Bool) :=
 some (x != x)
def g_cmp_Less_int (N:Nat) (x:Int) (y:Int):Option (Bool) :=
 ((g_cmp_isNaN_int N x).bind fun risNaN =>
 ((cond risNaN (g_cmp_isNaN_int N y) (some false)).bind fun risNaN2 =>
 some (cond (cond risNaN (!risNaN2) false) true (decide (x < y)))))
def g_slices_insertionSortOrdered_int_L2 (N:Nat) (a:Int) (b:Int) (i:Int) (K_g_slices_insertionSortOrdered_int_L1:(List Int)→Int→Option ((List Int))):Nat→(List Int)→Int→Option ((List Int))
 | 0,_,_=>none
 | fuel+1,cap03,j =>
  (if ((decide (j > a))=true→0≤j∧j < ((cap03.length:Nat):Int)) then
  (if ((decide (j > a))=true→0≤(w64 (j - 1))∧(w64 (j - 1)) < ((cap03.length:Nat):Int)) then
  ((cond (decide (j > a)) (g_cmp_Less_int N (cap03.getD ((j).toNat) 0) (cap03.getD ((w64 (j - 1)).toNat) 0)) (some false)).bind fun rLess =>
  (cond (cond (decide (j > a)) rLess false)
  ((if 0≤(w64 (j - 1))∧(w64 (j - 1)) < ((cap03.length:Nat):Int) then
  (if 0≤j∧j < ((cap03.length:Nat):Int) then
  g_slices_insertionSortOrdered_int_L2 N a b i K_g_slices_insertionSortOrdered_int_L1 fuel ((cap03.set ((j).toNat) (cap03.getD ((w64 (j - 1)).toNat) 0)).set ((w64 (j - 1)).toNat) (cap03.getD ((j).toNat) 0)) (w64 (j - 1))
  else none)
  else none))
  (K_g_slices_insertionSortOrdered_int_L1 cap03 (w64 (i+1)))))
  else none)
  else none)
def g_slices_insertionSortOrdered_int_L1 (N:Nat) (a:Int) (b:Int):Nat→(List Int)→Int→Option ((List Int))
 | 0,_,_=>none
 | fuel+1,cap02,i =>
  (cond (decide (i < b))
  (g_slices_insertionSortOrdered_int_L2 N a b i (g_slices_insertionSortOrdered_int_L1 N a b fuel) N cap02 i)
  (some cap02))
def g_slices_insertionSortOrdered_int (N:Nat) (a:Int) (b:Int) (cap0:List Int):Option ((List Int)) :=
 g_slices_insertionSortOrdered_int_L1 N a b N cap0 (w64 (a+1))
def g_slices_siftDownOrdered_int_J2 (N:Nat) (hi:Int) (first:Int) (cap02:List Int) (root:Int) (K_g_slices_siftDownOrdered_int_L1:(List Int)→Int→Option ((List Int))) (child:Int):Option ((List Int)) :=
 (if 0≤(w64 (first+root))∧(w64 (first+root)) < ((cap02.length:Nat):Int) then
 (if 0≤(w64 (first+child))∧(w64 (first+child)) < ((cap02.length:Nat):Int) then
 ((g_cmp_Less_int N (cap02.getD ((w64 (first+root)).toNat) 0) (cap02.getD ((w64 (first+child)).toNat) 0)).bind fun rLess2 =>
 (cond (!rLess2)
 (some cap02)
 (K_g_slices_siftDownOrdered_int_L1 ((cap02.set ((w64 (first+root)).toNat) (cap02.getD ((w64 (first+child)).toNat) 0)).set ((w64 (first+child)).toNat) (cap02.getD ((w64 (first+root)).toNat) 0)) child)))
 else none)
 else none)
def g_slices_siftDownOrdered_int_L1 (N:Nat) (hi:Int) (first:Int):Nat→(List Int)→Int→Option ((List Int))
 | 0,_,_=>none
 | fuel+1,cap02,root =>
  (cond (decide ((w64 ((w64 (2 * root))+1))≥hi))
  (some cap02)
  ((if ((decide ((w64 ((w64 ((w64 (2 * root))+1))+1)) < hi))=true→0≤(w64 (first+(w64 ((w64 (2 * root))+1))))∧(w64 (first+(w64 ((w64 (2 * root))+1)))) < ((cap02.length:Nat):Int)) then
  (if ((decide ((w64 ((w64 ((w64 (2 * root))+1))+1)) < hi))=true→0≤(w64 ((w64 (first+(w64 ((w64 (2 * root))+1))))+1))∧(w64 ((w64 (first+(w64 ((w64 (2 * root))+1))))+1)) < ((cap02.length:Nat):Int)) then
  ((cond (decide ((w64 ((w64 ((w64 (2 * root))+1))+1)) < hi)) (g_cmp_Less_int N (cap02.getD ((w64 (first+(w64 ((w64 (2 * root))+1)))).toNat) 0) (cap02.getD ((w64 ((w64 (first+(w64 ((w64 (2 * root))+1))))+1)).toNat) 0)) (some false)).bind fun rLess =>
  (cond (cond (decide ((w64 ((w64 ((w64 (2 * root))+1))+1)) < hi)) rLess false)
  (g_slices_siftDownOrdered_int_J2 N hi first cap02 root (g_slices_siftDownOrdered_int_L1 N hi first fuel) (w64 ((w64 ((w64 (2 * root))+1))+1)))
  (g_slices_siftDownOrdered_int_J2 N hi first cap02 root (g_slices_siftDownOrdered_int_L1 N hi first fuel) (w64 ((w64 (2 * root))+1)))))
  else none)
  else none)))
def g_slices_siftDownOrdered_int (N:Nat) (lo:Int) (hi:Int) (first:Int) (cap0:List Int):Option ((List Int)) :=
 g_slices_siftDownOrdered_int_L1 N hi first N cap0 lo
def g_slices_heapSortOrdered_int_L2 (N:Nat) (a:Int):Nat→(List Int)→Int→Option ((List Int))
 | 0,_,_=>none
 | fuel+1,cap03,i2 =>
  (cond (decide (i2≥0))
  ((if 0≤(w64 (a+i2))∧(w64 (a+i2)) < ((cap03.length:Nat):Int) then
  (if 0≤a∧a < ((cap03.length:Nat):Int) then
  ((g_slices_siftDownOrdered_int N 0 i2 a ((cap03.set ((a).toNat) (cap03.getD ((w64 (a+i2)).toNat) 0)).set ((w64 (a+i2)).toNat) (cap03.getD ((a).toNat) 0))).bind fun rsiftDownOrde2 =>
  (if rsiftDownOrde2.length=((cap03.set ((a).toNat) (cap03.getD ((w64 (a+i2)).toNat) 0)).set ((w64 (a+i2)).toNat) (cap03.getD ((a).toNat) 0)).length then
  g_slices_heapSortOrdered_int_L2 N a fuel rsiftDownOrde2 (w64 (i2 - 1))
  else none))
  else none)
  else none))
  (some cap03))
def g_slices_heapSortOrdered_int_L1 (N:Nat) (a:Int) (b:Int):Nat→(List Int)→Int→Option ((List Int))
 | 0,_,_=>none
 | fuel+1,cap02,i =>
  (cond (decide (i≥0))
  (((g_slices_siftDownOrdered_int N i (w64 (b - a)) a cap02).bind fun rsiftDownOrde =>
  (if rsiftDownOrde.length=cap02.length then
  g_slices_heapSortOrdered_int_L1 N a b fuel rsiftDownOrde (w64 (i - 1))
  else none)))
  (g_slices_heapSortOrdered_int_L2 N a N cap02 (w64 ((w64 (b - a)) - 1))))
def g_slices_heapSortOrdered_int (N:Nat) (a:Int) (b:Int) (cap0:List Int):Option ((List Int)) :=
 g_slices_heapSortOrdered_int_L1 N a b N cap0 (w64 ((w64 ((w64 (b - a)) - 1)).tdiv 2))
def g_slices_nextPowerOfTwo (N:Nat) (length:Int):Option (Int) :=
 ((g_math_bits_Len N (IntKind.u64.wrap (length))).bind fun rLen =>
 (if (0:Int)≤rLen then
 some (shlI .u64 1 rLen)
 else none))
def g_slices_xorshift_Next (N:Nat) (cap0:Int):Option (Int×Int) :=
 some ((xorI .u64 (xorI .u64 (xorI .u64 cap0 (shlI .u64 cap0 13)) (shrI .u64 (xorI .u64 cap0 (shlI .u64 cap0 13)) 7)) (shlI .u64 (xorI .u64 (xorI .u64 cap0 (shlI .u64 cap0 13)) (shrI .u64 (xorI .u64 cap0 (shlI .u64 cap0 13)) 7)) 17)),(xorI .u64 (xorI .u64 (xorI .u64 cap0 (shlI .u64 cap0 13)) (shrI .u64 (xorI .u64 cap0 (shlI .u64 cap0 13)) 7)) (shlI .u64 (xorI .u64 (xorI .u64 cap0 (shlI .u64 cap0 13)) (shrI .u64 (xorI .u64 cap0 (shlI .u64 cap0 13)) 7)) 17)))
def g_slices_breakPatternsOrdered_int_J2 (N:Nat) (a:Int) (b:Int) (rnextPowerOfT:Int) (cap02:List Int) (idx:Int) (rNext:Int×Int) (K_g_slices_breakPatternsOrdered_int_L1:(List Int)→Int→Int→Option ((List Int))) (other:Int):Option ((List Int)) :=
 (if 0≤(w64 (a+other))∧(w64 (a+other)) < ((cap02.length:Nat):Int) then
 (if 0≤idx∧idx < ((cap02.length:Nat):Int) then
 K_g_slices_breakPatternsOrdered_int_L1 ((cap02.set ((idx).toNat) (cap02.getD ((w64 (a+other)).toNat) 0)).set ((w64 (a+other)).toNat) (cap02.getD ((idx).toNat) 0)) rNext.2 (w64 (idx+1))
 else none)
 else none)
def g_slices_breakPatternsOrdered_int_L1 (N:Nat) (a:Int) (b:Int) (rnextPowerOfT:Int):Nat→(List Int)→Int→Int→Option ((List Int))
 | 0,_,_,_=>none
 | fuel+1,cap02,random,idx =>
  (cond (decide (idx≤(w64 ((w64 (a+(w64 ((w64 ((w64 (b - a)).tdiv 4)) * 2))))+1))))
  (((g_slices_xorshift_Next N random).bind fun rNext =>
  (cond (decide ((w64 ((andI .u64 rNext.1 (IntKind.u64.wrap (rnextPowerOfT - 1)))))≥(w64 (b - a))))
  (g_slices_breakPatternsOrdered_int_J2 N a b rnextPowerOfT cap02 idx rNext (g_slices_breakPatternsOrdered_int_L1 N a b rnextPowerOfT fuel) (w64 ((w64 ((andI .u64 rNext.1 (IntKind.u64.wrap (rnextPowerOfT - 1))))) - (w64 (b - a)))))
  (g_slices_breakPatternsOrdered_int_J2 N a b rnextPowerOfT cap02 idx rNext (g_slices_breakPatternsOrdered_int_L1 N a b rnextPowerOfT fuel) (w64 ((andI .u64 rNext.1 (IntKind.u64.wrap (rnextPowerOfT - 1)))))))))
  (some cap02))
def g_slices_breakPatternsOrdered_int (N:Nat) (a:Int) (b:Int) (cap0:List Int):Option ((List Int)) :=
 (cond (decide ((w64 (b - a))≥8))
 (((g_slices_nextPowerOfTwo N (w64 (b - a))).bind fun rnextPowerOfT =>
 g_slices_breakPatternsOrdered_int_L1 N a b rnextPowerOfT N cap0 (IntKind.u64.wrap ((w64 (b - a)))) (w64 ((w64 (a+(w64 ((w64 ((w64 (b - a)).tdiv 4)) * 2)))) - 1))))
 (some cap0))
def g_slices_order2Ordered_int (N:Nat) (data:List Int) (a:Int) (b:Int) (cap0:Int):Option (Int×Int×Int) :=
 (if 0≤b∧b < ((data.length:Nat):Int) then
 (if 0≤a∧a < ((data.length:Nat):Int) then
 ((g_cmp_Less_int N (data.getD ((b).toNat) 0) (data.getD ((a).toNat) 0)).bind fun rLess =>
 (cond rLess
 (some (b,a,(w64 (cap0+1))))
 (some (a,b,cap0))))
 else none)
 else none)
def g_slices_medianOrdered_int (N:Nat) (data:List Int) (a:Int) (b:Int) (c:Int) (cap0:Int):Option (Int×Int) :=
 ((g_slices_order2Ordered_int N data a b cap0).bind fun rorder2Ordere =>
 ((g_slices_order2Ordered_int N data rorder2Ordere.2.1 c rorder2Ordere.2.2).bind fun rorder2Ordere2 =>
 ((g_slices_order2Ordered_int N data rorder2Ordere.1 rorder2Ordere2.1 rorder2Ordere2.2.2).bind fun rorder2Ordere3 =>
 some (rorder2Ordere3.2.1,rorder2Ordere3.2.2))))
def g_slices_medianAdjacentOrdered_int (N:Nat) (data:List Int) (a:Int) (cap0:Int):Option (Int×Int) :=
 ((g_slices_medianOrdered_int N data (w64 (a - 1)) a (w64 (a+1)) cap0).bind fun rmedianOrdere =>
 some (rmedianOrdere.1,rmedianOrdere.2))
def g_slices_choosePivotOrdered_int_J2 (N:Nat) (swaps2:Int) (j2:Int):Option (Int×Int) :=
 (cond (swaps2 == 0)
 (some (j2,1))
 ((cond (swaps2 == 12)
 (some (j2,2))
 (some (j2,0)))))
def g_slices_choosePivotOrdered_int_J1 (N:Nat) (data:List Int) (swaps:Int) (i:Int) (j:Int) (k:Int):Option (Int×Int) :=
 ((g_slices_medianOrdered_int N data i j k swaps).bind fun rmedianOrdere =>
 g_slices_choosePivotOrdered_int_J2 N rmedianOrdere.2 rmedianOrdere.1)
def g_slices_choosePivotOrdered_int (N:Nat) (data:List Int) (a:Int) (b:Int):Option (Int×Int) :=
 (cond (decide ((w64 (b - a))≥8))
 ((cond (decide ((w64 (b - a))≥50))
 (((g_slices_medianAdjacentOrdered_int N data (w64 (a+(w64 ((w64 ((w64 (b - a)).tdiv 4)) * 1)))) 0).bind fun rmedianAdjace =>
 ((g_slices_medianAdjacentOrdered_int N data (w64 (a+(w64 ((w64 ((w64 (b - a)).tdiv 4)) * 2)))) rmedianAdjace.2).bind fun rmedianAdjace2 =>
 ((g_slices_medianAdjacentOrdered_int N data (w64 (a+(w64 ((w64 ((w64 (b - a)).tdiv 4)) * 3)))) rmedianAdjace2.2).bind fun rmedianAdjace3 =>
 g_slices_choosePivotOrdered_int_J1 N data rmedianAdjace3.2 rmedianAdjace.1 rmedianAdjace2.1 rmedianAdjace3.1))))
 (g_slices_choosePivotOrdered_int_J1 N data 0 (w64 (a+(w64 ((w64 ((w64 (b - a)).tdiv 4)) * 1)))) (w64 (a+(w64 ((w64 ((w64 (b - a)).tdiv 4)) * 2)))) (w64 (a+(w64 ((w64 ((w64 (b - a)).tdiv 4)) * 3)))))))
 (g_slices_choosePivotOrdered_int_J2 N 0 (w64 (a+(w64 ((w64 ((w64 (b - a)).tdiv 4)) * 2))))))
def g_slices_reverseRangeOrdered_int_L1 (N:Nat):Nat→(List Int)→Int→Int→Option ((List Int))
 | 0,_,_,_=>none
 | fuel+1,cap02,i,j =>
  (cond (decide (i < j))
  ((if 0≤j∧j < ((cap02.length:Nat):Int) then
  (if 0≤i∧i < ((cap02.length:Nat):Int) then
  g_slices_reverseRangeOrdered_int_L1 N fuel ((cap02.set ((i).toNat) (cap02.getD ((j).toNat) 0)).set ((j).toNat) (cap02.getD ((i).toNat) 0)) (w64 (i+1)) (w64 (j - 1))
  else none)
  else none))
  (some cap02))
def g_slices_reverseRangeOrdered_int (N:Nat) (a:Int) (b:Int) (cap0:List Int):Option ((List Int)) :=
 g_slices_reverseRangeOrdered_int_L1 N N cap0 a (w64 (b - 1))
def g_slices_partialInsertionSortOrdered_int_J6 (N:Nat) (a:Int) (b:Int) (j:Int) (i2:Int) (K_g_slices_partialInsertionSortOrdered_int_L1:(List Int)→Int→Int→Option (Bool×(List Int))) (cap06:List Int):Option (Bool×(List Int)) :=
 K_g_slices_partialInsertionSortOrdered_int_L1 cap06 i2 (w64 (j+1))
def g_slices_partialInsertionSortOrdered_int_L5 (N:Nat) (a:Int) (b:Int) (j:Int) (i2:Int) (K_g_slices_partialInsertionSortOrdered_int_L1:(List Int)→Int→Int→Option (Bool×(List Int))):Nat→(List Int)→Int→Option (Bool×(List Int))
 | 0,_,_=>none
 | fuel+1,cap05,j3 =>
  (cond (decide (j3 < b))
  ((if 0≤j3∧j3 < ((cap05.length:Nat):Int) then
  (if 0≤(w64 (j3 - 1))∧(w64 (j3 - 1)) < ((cap05.length:Nat):Int) then
  ((g_cmp_Less_int N (cap05.getD ((j3).toNat) 0) (cap05.getD ((w64 (j3 - 1)).toNat) 0)).bind fun rLess3 =>
  (cond (!rLess3)
  (g_slices_partialInsertionSortOrdered_int_J6 N a b j i2 K_g_slices_partialInsertionSortOrdered_int_L1 cap05)
  (g_slices_partialInsertionSortOrdered_int_L5 N a b j i2 K_g_slices_partialInsertionSortOrdered_int_L1 fuel ((cap05.set ((j3).toNat) (cap05.getD ((w64 (j3 - 1)).toNat) 0)).set ((w64 (j3 - 1)).toNat) (cap05.getD ((j3).toNat) 0)) (w64 (j3+1)))))
  else none)
  else none))
  (g_slices_partialInsertionSortOrdered_int_J6 N a b j i2 K_g_slices_partialInsertionSortOrdered_int_L1 cap05))
def g_slices_partialInsertionSortOrdered_int_J4 (N:Nat) (a:Int) (b:Int) (j:Int) (i2:Int) (K_g_slices_partialInsertionSortOrdered_int_L1:(List Int)→Int→Int→Option (Bool×(List Int))) (cap04:List Int):Option (Bool×(List Int)) :=
 (cond (decide ((w64 (b - i2))≥2))
 (g_slices_partialInsertionSortOrdered_int_L5 N a b j i2 K_g_slices_partialInsertionSortOrdered_int_L1 N cap04 (w64 (i2+1)))
 (g_slices_partialInsertionSortOrdered_int_J6 N a b j i2 K_g_slices_partialInsertionSortOrdered_int_L1 cap04))
def g_slices_partialInsertionSortOrdered_int_L3 (N:Nat) (a:Int) (b:Int) (j:Int) (i2:Int) (K_g_slices_partialInsertionSortOrdered_int_L1:(List Int)→Int→Int→Option (Bool×(List Int))):Nat→(List Int)→Int→Option (Bool×(List Int))
 | 0,_,_=>none
 | fuel+1,cap03,j2 =>
  (cond (decide (j2≥1))
  ((if 0≤j2∧j2 < ((cap03.length:Nat):Int) then
  (if 0≤(w64 (j2 - 1))∧(w64 (j2 - 1)) < ((cap03.length:Nat):Int) then
  ((g_cmp_Less_int N (cap03.getD ((j2).toNat) 0) (cap03.getD ((w64 (j2 - 1)).toNat) 0)).bind fun rLess2 =>
  (cond (!rLess2)
  (g_slices_partialInsertionSortOrdered_int_J4 N a b j i2 K_g_slices_partialInsertionSortOrdered_int_L1 cap03)
  (g_slices_partialInsertionSortOrdered_int_L3 N a b j i2 K_g_slices_partialInsertionSortOrdered_int_L1 fuel ((cap03.set ((j2).toNat) (cap03.getD ((w64 (j2 - 1)).toNat) 0)).set ((w64 (j2 - 1)).toNat) (cap03.getD ((j2).toNat) 0)) (w64 (j2 - 1)))))
  else none)
  else none))
  (g_slices_partialInsertionSortOrdered_int_J4 N a b j i2 K_g_slices_partialInsertionSortOrdered_int_L1 cap03))
def g_slices_partialInsertionSortOrdered_int_L2 (N:Nat) (a:Int) (b:Int) (cap02:List Int) (j:Int) (K_g_slices_partialInsertionSortOrdered_int_L1:(List Int)→Int→Int→Option (Bool×(List Int))):Nat→Int→Option (Bool×(List Int))
 | 0,_=>none
 | fuel+1,i2 =>
  (if ((decide (i2 < b))=true→0≤i2∧i2 < ((cap02.length:Nat):Int)) then
  (if ((decide (i2 < b))=true→0≤(w64 (i2 - 1))∧(w64 (i2 - 1)) < ((cap02.length:Nat):Int)) then
  ((cond (decide (i2 < b)) (g_cmp_Less_int N (cap02.getD ((i2).toNat) 0) (cap02.getD ((w64 (i2 - 1)).toNat) 0)) (some false)).bind fun rLess =>
  (cond (cond (decide (i2 < b)) (!rLess) false)
  (g_slices_partialInsertionSortOrdered_int_L2 N a b cap02 j K_g_slices_partialInsertionSortOrdered_int_L1 fuel (w64 (i2+1)))
  ((cond (i2 == b)
  (some (true,cap02))
  ((cond (decide ((w64 (b - a)) < 50))
  (some (false,cap02))
  ((if 0≤(w64 (i2 - 1))∧(w64 (i2 - 1)) < ((cap02.length:Nat):Int) then
  (if 0≤i2∧i2 < ((cap02.length:Nat):Int) then
  (cond (decide ((w64 (i2 - a))≥2))
  (g_slices_partialInsertionSortOrdered_int_L3 N a b j i2 K_g_slices_partialInsertionSortOrdered_int_L1 N ((cap02.set ((i2).toNat) (cap02.getD ((w64 (i2 - 1)).toNat) 0)).set ((w64 (i2 - 1)).toNat) (cap02.getD ((i2).toNat) 0)) (w64 (i2 - 1)))
  (g_slices_partialInsertionSortOrdered_int_J4 N a b j i2 K_g_slices_partialInsertionSortOrdered_int_L1 ((cap02.set ((i2).toNat) (cap02.getD ((w64 (i2 - 1)).toNat) 0)).set ((w64 (i2 - 1)).toNat) (cap02.getD ((i2).toNat) 0))))
  else none)
  else none))))))))
  else none)
  else none)
def g_slices_partialInsertionSortOrdered_int_L1 (N:Nat) (a:Int) (b:Int):Nat→(List Int)→Int→Int→Option (Bool×(List Int))
 | 0,_,_,_=>none
 | fuel+1,cap02,i,j =>
  (cond (decide (j < 5))
  (g_slices_partialInsertionSortOrdered_int_L2 N a b cap02 j (g_slices_partialInsertionSortOrdered_int_L1 N a b fuel) N i)
  (some (false,cap02)))
def g_slices_partialInsertionSortOrdered_int (N:Nat) (a:Int) (b:Int) (cap0:List Int):Option (Bool×(List Int)) :=
 g_slices_partialInsertionSortOrdered_int_L1 N a b N cap0 (w64 (a+1)) 0
def g_slices_partitionEqualOrdered_int_L3 (N:Nat) (a:Int) (cap02:List Int) (i2:Int) (K_g_slices_partitionEqualOrdered_int_L1:(List Int)→Int→Int→Option (Int×(List Int))):Nat→Int→Option (Int×(List Int))
 | 0,_=>none
 | fuel+1,j2 =>
  (if ((decide (i2≤j2))=true→0≤a∧a < ((cap02.length:Nat):Int)) then
  (if ((decide (i2≤j2))=true→0≤j2∧j2 < ((cap02.length:Nat):Int)) then
  ((cond (decide (i2≤j2)) (g_cmp_Less_int N (cap02.getD ((a).toNat) 0) (cap02.getD ((j2).toNat) 0)) (some false)).bind fun rLess2 =>
  (cond (cond (decide (i2≤j2)) rLess2 false)
  (g_slices_partitionEqualOrdered_int_L3 N a cap02 i2 K_g_slices_partitionEqualOrdered_int_L1 fuel (w64 (j2 - 1)))
  ((cond (decide (i2 > j2))
  (some (i2,cap02))
  ((if 0≤j2∧j2 < ((cap02.length:Nat):Int) then
  (if 0≤i2∧i2 < ((cap02.length:Nat):Int) then
  K_g_slices_partitionEqualOrdered_int_L1 ((cap02.set ((i2).toNat) (cap02.getD ((j2).toNat) 0)).set ((j2).toNat) (cap02.getD ((i2).toNat) 0)) (w64 (i2+1)) (w64 (j2 - 1))
  else none)
  else none))))))
  else none)
  else none)
def g_slices_partitionEqualOrdered_int_L2 (N:Nat) (a:Int) (cap02:List Int) (j:Int) (K_g_slices_partitionEqualOrdered_int_L1:(List Int)→Int→Int→Option (Int×(List Int))):Nat→Int→Option (Int×(List Int))
 | 0,_=>none
 | fuel+1,i2 =>
  (if ((decide (i2≤j))=true→0≤a∧a < ((cap02.length:Nat):Int)) then
  (if ((decide (i2≤j))=true→0≤i2∧i2 < ((cap02.length:Nat):Int)) then
  ((cond (decide (i2≤j)) (g_cmp_Less_int N (cap02.getD ((a).toNat) 0) (cap02.getD ((i2).toNat) 0)) (some false)).bind fun rLess =>
  (cond (cond (decide (i2≤j)) (!rLess) false)
  (g_slices_partitionEqualOrdered_int_L2 N a cap02 j K_g_slices_partitionEqualOrdered_int_L1 fuel (w64 (i2+1)))
  (g_slices_partitionEqualOrdered_int_L3 N a cap02 i2 K_g_slices_partitionEqualOrdered_int_L1 N j)))
  else none)
  else none)
def g_slices_partitionEqualOrdered_int_L1 (N:Nat) (a:Int):Nat→(List Int)→Int→Int→Option (Int×(List Int))
 | 0,_,_,_=>none
 | fuel+1,cap02,i,j =>
  g_slices_partitionEqualOrdered_int_L2 N a cap02 j (g_slices_partitionEqualOrdered_int_L1 N a fuel) N i
def g_slices_partitionEqualOrdered_int (N:Nat) (a:Int) (b:Int) (pivot:Int) (cap0:List Int):Option (Int×(List Int)) :=
 (if 0≤pivot∧pivot < ((cap0.length:Nat):Int) then
 (if 0≤a∧a < ((cap0.length:Nat):Int) then
 g_slices_partitionEqualOrdered_int_L1 N a N ((cap0.set ((a).toNat) (cap0.getD ((pivot).toNat) 0)).set ((pivot).toNat) (cap0.getD ((a).toNat) 0)) (w64 (a+1)) (w64 (b - 1))
 else none)
 else none)
def g_slices_partitionOrdered_int_L5 (N:Nat) (a:Int) (cap02:List Int) (i3:Int) (K_g_slices_partitionOrdered_int_L3:(List Int)→Int→Int→Option (Int×Bool×(List Int))):Nat→Int→Option (Int×Bool×(List Int))
 | 0,_=>none
 | fuel+1,j3 =>
  (if ((decide (i3≤j3))=true→0≤j3∧j3 < ((cap02.length:Nat):Int)) then
  (if ((decide (i3≤j3))=true→0≤a∧a < ((cap02.length:Nat):Int)) then
  ((cond (decide (i3≤j3)) (g_cmp_Less_int N (cap02.getD ((j3).toNat) 0) (cap02.getD ((a).toNat) 0)) (some false)).bind fun rLess4 =>
  (cond (cond (decide (i3≤j3)) (!rLess4) false)
  (g_slices_partitionOrdered_int_L5 N a cap02 i3 K_g_slices_partitionOrdered_int_L3 fuel (w64 (j3 - 1)))
  ((cond (decide (i3 > j3))
  ((if 0≤a∧a < ((cap02.length:Nat):Int) then
  (if 0≤j3∧j3 < ((cap02.length:Nat):Int) then
  some (j3,false,((cap02.set ((j3).toNat) (cap02.getD ((a).toNat) 0)).set ((a).toNat) (cap02.getD ((j3).toNat) 0)))
  else none)
  else none))
  ((if 0≤j3∧j3 < ((cap02.length:Nat):Int) then
  (if 0≤i3∧i3 < ((cap02.length:Nat):Int) then
  K_g_slices_partitionOrdered_int_L3 ((cap02.set ((i3).toNat) (cap02.getD ((j3).toNat) 0)).set ((j3).toNat) (cap02.getD ((i3).toNat) 0)) (w64 (i3+1)) (w64 (j3 - 1))
  else none)
  else none))))))
  else none)
  else none)
def g_slices_partitionOrdered_int_L4 (N:Nat) (a:Int) (cap02:List Int) (j2:Int) (K_g_slices_partitionOrdered_int_L3:(List Int)→Int→Int→Option (Int×Bool×(List Int))):Nat→Int→Option (Int×Bool×(List Int))
 | 0,_=>none
 | fuel+1,i3 =>
  (if ((decide (i3≤j2))=true→0≤i3∧i3 < ((cap02.length:Nat):Int)) then
  (if ((decide (i3≤j2))=true→0≤a∧a < ((cap02.length:Nat):Int)) then
  ((cond (decide (i3≤j2)) (g_cmp_Less_int N (cap02.getD ((i3).toNat) 0) (cap02.getD ((a).toNat) 0)) (some false)).bind fun rLess3 =>
  (cond (cond (decide (i3≤j2)) rLess3 false)
  (g_slices_partitionOrdered_int_L4 N a cap02 j2 K_g_slices_partitionOrdered_int_L3 fuel (w64 (i3+1)))
  (g_slices_partitionOrdered_int_L5 N a cap02 i3 K_g_slices_partitionOrdered_int_L3 N j2)))
  else none)
  else none)
def g_slices_partitionOrdered_int_L3 (N:Nat) (a:Int):Nat→(List Int)→Int→Int→Option (Int×Bool×(List Int))
 | 0,_,_,_=>none
 | fuel+1,cap02,i2,j2 =>
  g_slices_partitionOrdered_int_L4 N a cap02 j2 (g_slices_partitionOrdered_int_L3 N a fuel) N i2
def g_slices_partitionOrdered_int_L2 (N:Nat) (a:Int) (pivot:Int) (cap0:List Int) (i:Int):Nat→Int→Option (Int×Bool×(List Int))
 | 0,_=>none
 | fuel+1,j =>
  (if ((decide (i≤j))=true→0≤j∧j < ((((cap0.set ((a).toNat) (cap0.getD ((pivot).toNat) 0)).set ((pivot).toNat) (cap0.getD ((a).toNat) 0)).length:Nat):Int)) then
  (if ((decide (i≤j))=true→0≤a∧a < ((((cap0.set ((a).toNat) (cap0.getD ((pivot).toNat) 0)).set ((pivot).toNat) (cap0.getD ((a).toNat) 0)).length:Nat):Int)) then
  ((cond (decide (i≤j)) (g_cmp_Less_int N (((cap0.set ((a).toNat) (cap0.getD ((pivot).toNat) 0)).set ((pivot).toNat) (cap0.getD ((a).toNat) 0)).getD ((j).toNat) 0) (((cap0.set ((a).toNat) (cap0.getD ((pivot).toNat) 0)).set ((pivot).toNat) (cap0.getD ((a).toNat) 0)).getD ((a).toNat) 0)) (some false)).bind fun rLess2 =>
  (cond (cond (decide (i≤j)) (!rLess2) false)
  (g_slices_partitionOrdered_int_L2 N a pivot cap0 i fuel (w64 (j - 1)))
  ((cond (decide (i > j))
  ((if 0≤a∧a < ((((cap0.set ((a).toNat) (cap0.getD ((pivot).toNat) 0)).set ((pivot).toNat) (cap0.getD ((a).toNat) 0)).length:Nat):Int) then
  (if 0≤j∧j < ((((cap0.set ((a).toNat) (cap0.getD ((pivot).toNat) 0)).set ((pivot).toNat) (cap0.getD ((a).toNat) 0)).length:Nat):Int) then
  some (j,true,((((cap0.set ((a).toNat) (cap0.getD ((pivot).toNat) 0)).set ((pivot).toNat) (cap0.getD ((a).toNat) 0)).set ((j).toNat) (((cap0.set ((a).toNat) (cap0.getD ((pivot).toNat) 0)).set ((pivot).toNat) (cap0.getD ((a).toNat) 0)).getD ((a).toNat) 0)).set ((a).toNat) (((cap0.set ((a).toNat) (cap0.getD ((pivot).toNat) 0)).set ((pivot).toNat) (cap0.getD ((a).toNat) 0)).getD ((j).toNat) 0)))
  else none)
  else none))
  ((if 0≤j∧j < ((((cap0.set ((a).toNat) (cap0.getD ((pivot).toNat) 0)).set ((pivot).toNat) (cap0.getD ((a).toNat) 0)).length:Nat):Int) then
  (if 0≤i∧i < ((((cap0.set ((a).toNat) (cap0.getD ((pivot).toNat) 0)).set ((pivot).toNat) (cap0.getD ((a).toNat) 0)).length:Nat):Int) then
  g_slices_partitionOrdered_int_L3 N a N ((((cap0.set ((a).toNat) (cap0.getD ((pivot).toNat) 0)).set ((pivot).toNat) (cap0.getD ((a).toNat) 0)).set ((i).toNat) (((cap0.set ((a).toNat) (cap0.getD ((pivot).toNat) 0)).set ((pivot).toNat) (cap0.getD ((a).toNat) 0)).getD ((j).toNat) 0)).set ((j).toNat) (((cap0.set ((a).toNat) (cap0.getD ((pivot).toNat) 0)).set ((pivot).toNat) (cap0.getD ((a).toNat) 0)).getD ((i).toNat) 0)) (w64 (i+1)) (w64 (j - 1))
  else none)
  else none))))))
  else none)
  else none)
def g_slices_partitionOrdered_int_L1 (N:Nat) (a:Int) (b:Int) (pivot:Int) (cap0:List Int):Nat→Int→Option (Int×Bool×(List Int))
 | 0,_=>none
 | fuel+1,i =>
  (if ((decide (i≤(w64 (b - 1))))=true→0≤i∧i < ((((cap0.set ((a).toNat) (cap0.getD ((pivot).toNat) 0)).set ((pivot).toNat) (cap0.getD ((a).toNat) 0)).length:Nat):Int)) then
  (if ((decide (i≤(w64 (b - 1))))=true→0≤a∧a < ((((cap0.set ((a).toNat) (cap0.getD ((pivot).toNat) 0)).set ((pivot).toNat) (cap0.getD ((a).toNat) 0)).length:Nat):Int)) then
  ((cond (decide (i≤(w64 (b - 1)))) (g_cmp_Less_int N (((cap0.set ((a).toNat) (cap0.getD ((pivot).toNat) 0)).set ((pivot).toNat) (cap0.getD ((a).toNat) 0)).getD ((i).toNat) 0) (((cap0.set ((a).toNat) (cap0.getD ((pivot).toNat) 0)).set ((pivot).toNat) (cap0.getD ((a).toNat) 0)).getD ((a).toNat) 0)) (some false)).bind fun rLess =>
  (cond (cond (decide (i≤(w64 (b - 1)))) rLess false)
  (g_slices_partitionOrdered_int_L1 N a b pivot cap0 fuel (w64 (i+1)))
  (g_slices_partitionOrdered_int_L2 N a pivot cap0 i N (w64 (b - 1)))))
  else none)
  else none)
def g_slices_partitionOrdered_int (N:Nat) (a:Int) (b:Int) (pivot:Int) (cap0:List Int):Option (Int×Bool×(List Int)) :=
 (if 0≤pivot∧pivot < ((cap0.length:Nat):Int) then
 (if 0≤a∧a < ((cap0.length:Nat):Int) then
 g_slices_partitionOrdered_int_L1 N a b pivot cap0 N (w64 (a+1))
 else none)
 else none)
def g_slices_pdqsortOrdered_int_J4 (N:Nat) (a2:Int) (b2:Int) (wasBalanced:Bool) (wasPartitioned:Bool) (limit3:Int) (pivot:Int) (R_:Int→Int→Int→(List Int)→Option ((List Int))) (K_g_slices_pdqsortOrdered_int_L1:(List Int)→Int→Int→Int→Bool→Bool→Option ((List Int))) (cap05:List Int):Option ((List Int)) :=
 (if ((decide (a2 > 0))=true→0≤(w64 (a2 - 1))∧(w64 (a2 - 1)) < ((cap05.length:Nat):Int)) then
 (if ((decide (a2 > 0))=true→0≤pivot∧pivot < ((cap05.length:Nat):Int)) then
 ((cond (decide (a2 > 0)) (g_cmp_Less_int N (cap05.getD ((w64 (a2 - 1)).toNat) 0) (cap05.getD ((pivot).toNat) 0)) (some false)).bind fun rLess =>
 (cond (cond (decide (a2 > 0)) (!rLess) false)
 (((g_slices_partitionEqualOrdered_int N a2 b2 pivot cap05).bind fun rpartitionEqu =>
 (if rpartitionEqu.2.length=cap05.length then
 K_g_slices_pdqsortOrdered_int_L1 rpartitionEqu.2 rpartitionEqu.1 b2 limit3 wasBalanced wasPartitioned
 else none)))
 (((g_slices_partitionOrdered_int N a2 b2 pivot cap05).bind fun rpartitionOrd =>
 (if rpartitionOrd.2.2.length=cap05.length then
 (cond (decide ((w64 (rpartitionOrd.1 - a2)) < (w64 (b2 - rpartitionOrd.1))))
 (((R_ a2 rpartitionOrd.1 limit3 rpartitionOrd.2.2).bind fun rpdqsortOrder =>
 (if rpdqsortOrder.length=rpartitionOrd.2.2.length then
 K_g_slices_pdqsortOrdered_int_L1 rpdqsortOrder (w64 (rpartitionOrd.1+1)) b2 limit3 (decide ((w64 (rpartitionOrd.1 - a2))≥(w64 ((w64 (b2 - a2)).tdiv 8)))) rpartitionOrd.2.1
 else none)))
 (((R_ (w64 (rpartitionOrd.1+1)) b2 limit3 rpartitionOrd.2.2).bind fun rpdqsortOrder2 =>
 (if rpdqsortOrder2.length=rpartitionOrd.2.2.length then
 K_g_slices_pdqsortOrdered_int_L1 rpdqsortOrder2 a2 rpartitionOrd.1 limit3 (decide ((w64 (b2 - rpartitionOrd.1))≥(w64 ((w64 (b2 - a2)).tdiv 8)))) rpartitionOrd.2.1
 else none))))
 else none)))))
 else none)
 else none)
def g_slices_pdqsortOrdered_int_J3 (N:Nat) (a2:Int) (b2:Int) (wasBalanced:Bool) (wasPartitioned:Bool) (limit3:Int) (R_:Int→Int→Int→(List Int)→Option ((List Int))) (K_g_slices_pdqsortOrdered_int_L1:(List Int)→Int→Int→Int→Bool→Bool→Option ((List Int))) (cap04:List Int) (pivot:Int) (hint:Int):Option ((List Int)) :=
 (cond (cond (cond wasBalanced wasPartitioned false) (hint == 1) false)
 (((g_slices_partialInsertionSortOrdered_int N a2 b2 cap04).bind fun rpartialInser =>
 (if rpartialInser.2.length=cap04.length then
 (cond rpartialInser.1
 (some rpartialInser.2)
 (g_slices_pdqsortOrdered_int_J4 N a2 b2 wasBalanced wasPartitioned limit3 pivot R_ K_g_slices_pdqsortOrdered_int_L1 rpartialInser.2))
 else none)))
 (g_slices_pdqsortOrdered_int_J4 N a2 b2 wasBalanced wasPartitioned limit3 pivot R_ K_g_slices_pdqsortOrdered_int_L1 cap04))
def g_slices_pdqsortOrdered_int_J2 (N:Nat) (a2:Int) (b2:Int) (wasBalanced:Bool) (wasPartitioned:Bool) (R_:Int→Int→Int→(List Int)→Option ((List Int))) (K_g_slices_pdqsortOrdered_int_L1:(List Int)→Int→Int→Int→Bool→Bool→Option ((List Int))) (cap03:List Int) (limit3:Int):Option ((List Int)) :=
 ((g_slices_choosePivotOrdered_int N cap03 a2 b2).bind fun rchoosePivotO =>
 (cond (rchoosePivotO.2 == 2)
 (((g_slices_reverseRangeOrdered_int N a2 b2 cap03).bind fun rreverseRange =>
 (if rreverseRange.length=cap03.length then
 g_slices_pdqsortOrdered_int_J3 N a2 b2 wasBalanced wasPartitioned limit3 R_ K_g_slices_pdqsortOrdered_int_L1 rreverseRange (w64 ((w64 (b2 - 1)) - (w64 (rchoosePivotO.1 - a2)))) 1
 else none)))
 (g_slices_pdqsortOrdered_int_J3 N a2 b2 wasBalanced wasPartitioned limit3 R_ K_g_slices_pdqsortOrdered_int_L1 cap03 rchoosePivotO.1 rchoosePivotO.2)))
def g_slices_pdqsortOrdered_int_L1 (N:Nat) (R_:Int→Int→Int→(List Int)→Option ((List Int))):Nat→(List Int)→Int→Int→Int→Bool→Bool→Option ((List Int))
 | 0,_,_,_,_,_,_=>none
 | fuel+1,cap02,a2,b2,limit2,wasBalanced,wasPartitioned =>
  (cond (decide ((w64 (b2 - a2))≤12))
  (((g_slices_insertionSortOrdered_int N a2 b2 cap02).bind fun rinsertionSor =>
  (if rinsertionSor.length=cap02.length then
  some rinsertionSor
  else none)))
  ((cond (limit2 == 0)
  (((g_slices_heapSortOrdered_int N a2 b2 cap02).bind fun rheapSortOrde =>
  (if rheapSortOrde.length=cap02.length then
  some rheapSortOrde
  else none)))
  ((cond (!wasBalanced)
  (((g_slices_breakPatternsOrdered_int N a2 b2 cap02).bind fun rbreakPattern =>
  (if rbreakPattern.length=cap02.length then
  g_slices_pdqsortOrdered_int_J2 N a2 b2 wasBalanced wasPartitioned R_ (g_slices_pdqsortOrdered_int_L1 N R_ fuel) rbreakPattern (w64 (limit2 - 1))
  else none)))
  (g_slices_pdqsortOrdered_int_J2 N a2 b2 wasBalanced wasPartitioned R_ (g_slices_pdqsortOrdered_int_L1 N R_ fuel) cap02 limit2))))))
def g_slices_pdqsortOrdered_int (N:Nat):Nat→Int→Int→Int→(List Int)→Option ((List Int))
 | 0,_,_,_,_=>none
 | fuel+1,a,b,limit,cap0 =>
  g_slices_pdqsortOrdered_int_L1 N (g_slices_pdqsortOrdered_int N fuel) N cap0 a b limit true true
def g_slices_Sort_int_int (N:Nat) (cap0:List Int):Option ((List Int)) :=
 ((g_math_bits_Len N (IntKind.u64.wrap (((cap0.length:Nat):Int)))).bind fun rLen =>
 ((g_slices_pdqsortOrdered_int N N 0 ((cap0.length:Nat):Int) rLen cap0).bind fun rpdqsortOrder =>
 (if rpdqsortOrder.length=cap0.length then
 some rpdqsortOrder
 else none)))
def g_water_tide_1 (N:Nat) (i:Int) (cap0:List TMark) (cap1:Int):Option (Bool) :=
 (if 0≤i∧i < ((cap0.length:Nat):Int) then
 some (decide ((cap0.getD ((i).toNat) TMark.d).f_Minute > cap1))
 else none)
def g_sort_Search_L1 (N:Nat) (cap0:List TMark) (cap1:Int):Nat→Int→Int→Option (Int)
 | 0,_,_=>none
 | fuel+1,i,j =>
  (cond (decide (i < j))
  (((g_water_tide_1 N (w64 ((shrI .u64 (IntKind.u64.wrap ((w64 (i+j)))) 1))) cap0 cap1).bind fun rtide1 =>
  (cond (!rtide1)
  (g_sort_Search_L1 N cap0 cap1 fuel (w64 ((w64 ((shrI .u64 (IntKind.u64.wrap ((w64 (i+j)))) 1)))+1)) j)
  (g_sort_Search_L1 N cap0 cap1 fuel i (w64 ((shrI .u64 (IntKind.u64.wrap ((w64 (i+j)))) 1)))))))
  (some i))
def g_sort_Search (N:Nat) (n:Int) (cap0:List TMark) (cap1:Int):Option (Int) :=
 g_sort_Search_L1 N cap0 cap1 N 0 n
def g_water_tide_J1 (N:Nat) (m:List TMark) (rSearch:Int) (down:Int):Option (Int) :=
 some (w64 ((m.getD ((w64 (rSearch - 1)).toNat) TMark.d).f_Level+down))
def g_water_tide (N:Nat) (m:List TMark) (minute:Int):Option (Int) :=
 ((g_sort_Search N ((m.length:Nat):Int) m minute).bind fun rSearch =>
 (cond (rSearch == 0)
 ((if 0≤(0:Int)∧0 < ((m.length:Nat):Int) then
 some ((m.getD 0 TMark.d).f_Level)
 else none))
 ((cond (rSearch == ((m.length:Nat):Int))
 ((if 0≤(w64 (rSearch - 1))∧(w64 (rSearch - 1)) < ((m.length:Nat):Int) then
 some ((m.getD ((w64 (rSearch - 1)).toNat) TMark.d).f_Level)
 else none))
 ((if 0≤(w64 (rSearch - 1))∧(w64 (rSearch - 1)) < ((m.length:Nat):Int) then
 (if 0≤rSearch∧rSearch < ((m.length:Nat):Int) then
 (if ((w64 ((m.getD ((rSearch).toNat) TMark.d).f_Minute - (m.getD ((w64 (rSearch - 1)).toNat) TMark.d).f_Minute)):Int)≠0 then
 (cond (decide (((w64 ((w64 ((m.getD ((rSearch).toNat) TMark.d).f_Level - (m.getD ((w64 (rSearch - 1)).toNat) TMark.d).f_Level)) * (w64 (minute - (m.getD ((w64 (rSearch - 1)).toNat) TMark.d).f_Minute)))).tmod (w64 ((m.getD ((rSearch).toNat) TMark.d).f_Minute - (m.getD ((w64 (rSearch - 1)).toNat) TMark.d).f_Minute))) < 0))
 (g_water_tide_J1 N m rSearch (w64 ((w64 ((w64 ((w64 ((m.getD ((rSearch).toNat) TMark.d).f_Level - (m.getD ((w64 (rSearch - 1)).toNat) TMark.d).f_Level)) * (w64 (minute - (m.getD ((w64 (rSearch - 1)).toNat) TMark.d).f_Minute)))).tdiv (w64 ((m.getD ((rSearch).toNat) TMark.d).f_Minute - (m.getD ((w64 (rSearch - 1)).toNat) TMark.d).f_Minute)))) - 1)))
 (g_water_tide_J1 N m rSearch (w64 ((w64 ((w64 ((m.getD ((rSearch).toNat) TMark.d).f_Level - (m.getD ((w64 (rSearch - 1)).toNat) TMark.d).f_Level)) * (w64 (minute - (m.getD ((w64 (rSearch - 1)).toNat) TMark.d).f_Minute)))).tdiv (w64 ((m.getD ((rSearch).toNat) TMark.d).f_Minute - (m.getD ((w64 (rSearch - 1)).toNat) TMark.d).f_Minute))))))
 else none)
 else none)
 else none))))))
def g_water_Above_1 (N:Nat) (minute:Int) (cap0:List TMark) (cap1:Int):Option (Bool) :=
 ((g_water_tide N cap0 minute).bind fun rtide =>
 some (decide (rtide≥cap1)))
def g_water_Above_2 (N:Nat) (a:Int) (b:Int) (cap1:List TS__2_int):Option ((List TS__2_int)) :=
 (if ((decide (((cap1.length:Nat):Int) > 0))=true→0≤(w64 (((cap1.length:Nat):Int) - 1))∧(w64 (((cap1.length:Nat):Int) - 1)) < ((cap1.length:Nat):Int)) then
 (cond (cond (decide (((cap1.length:Nat):Int) > 0)) (decide (a≤(w64 ((cap1.getD ((w64 (((cap1.length:Nat):Int) - 1)).toNat) TS__2_int.d).e1+1)))) false)
 ((if 0≤(w64 (((cap1.length:Nat):Int) - 1))∧(w64 (((cap1.length:Nat):Int) - 1)) < ((cap1.length:Nat):Int) then
 some (cap1.set ((w64 (((cap1.length:Nat):Int) - 1)).toNat) (⟨(cap1.getD ((w64 (((cap1.length:Nat):Int) - 1)).toNat) TS__2_int.d).e0,b⟩:TS__2_int))
 else none))
 ((if (cap1.length+1) * 16≤140737488355328 then
 some (cap1 ++ ([(⟨a,b⟩:TS__2_int)]:List TS__2_int))
 else none)))
 else none)
def g_water_Above_3 (N:Nat) (k:Int) (cap1:List TMark) (cap2:Int) (cap3:Int):Option (Bool) :=
 ((g_water_Above_1 N (w64 (cap3+k)) cap1 cap2).bind fun rAbove1 =>
 some (!rAbove1))
def g_sort_Search_v2_L1 (N:Nat) (cap1:List TMark) (cap2:Int) (cap3:Int):Nat→Int→Int→Option (Int)
 | 0,_,_=>none
 | fuel+1,i,j =>
  (cond (decide (i < j))
  (((g_water_Above_3 N (w64 ((shrI .u64 (IntKind.u64.wrap ((w64 (i+j)))) 1))) cap1 cap2 cap3).bind fun rAbove3 =>
  (cond (!rAbove3)
  (g_sort_Search_v2_L1 N cap1 cap2 cap3 fuel (w64 ((w64 ((shrI .u64 (IntKind.u64.wrap ((w64 (i+j)))) 1)))+1)) j)
  (g_sort_Search_v2_L1 N cap1 cap2 cap3 fuel i (w64 ((shrI .u64 (IntKind.u64.wrap ((w64 (i+j)))) 1)))))))
  (some i))
def g_sort_Search_v2 (N:Nat) (n:Int) (cap1:List TMark) (cap2:Int) (cap3:Int):Option (Int) :=
 g_sort_Search_v2_L1 N cap1 cap2 cap3 N 0 n
def g_water_Above_4 (N:Nat) (k:Int) (cap1:List TMark) (cap2:Int) (cap3:Int):Option (Bool) :=
 ((g_water_Above_1 N (w64 (cap3+k)) cap1 cap2).bind fun rAbove1 =>
 some rAbove1)
def g_sort_Search_v3_L1 (N:Nat) (cap1:List TMark) (cap2:Int) (cap3:Int):Nat→Int→Int→Option (Int)
 | 0,_,_=>none
 | fuel+1,i,j =>
  (cond (decide (i < j))
  (((g_water_Above_4 N (w64 ((shrI .u64 (IntKind.u64.wrap ((w64 (i+j)))) 1))) cap1 cap2 cap3).bind fun rAbove4 =>
  (cond (!rAbove4)
  (g_sort_Search_v3_L1 N cap1 cap2 cap3 fuel (w64 ((w64 ((shrI .u64 (IntKind.u64.wrap ((w64 (i+j)))) 1)))+1)) j)
  (g_sort_Search_v3_L1 N cap1 cap2 cap3 fuel i (w64 ((shrI .u64 (IntKind.u64.wrap ((w64 (i+j)))) 1)))))))
  (some i))
def g_sort_Search_v3 (N:Nat) (n:Int) (cap1:List TMark) (cap2:Int) (cap3:Int):Option (Int) :=
 g_sort_Search_v3_L1 N cap1 cap2 cap3 N 0 n
def g_water_Above_J2 (N:Nat) (m:List TMark) (level:Int) (vfrom:Int) (vto:Int) (x:Int) (K_g_water_Above_L1:(List Int)→Int→Option ((List TS__2_int)×Int)) (corners2:List Int):Option ((List TS__2_int)×Int) :=
 K_g_water_Above_L1 corners2 (w64 (x+1))
def g_water_Above_J4 (N:Nat) (m:List TMark) (level:Int) (rSort:(List Int)) (x2:Int) (K_g_water_Above_L3:(List TS__2_int)→Int→Option ((List TS__2_int)×Int)) (out2:List TS__2_int):Option ((List TS__2_int)×Int) :=
 K_g_water_Above_L3 out2 (w64 (x2+1))
def g_water_Above_L3 (N:Nat) (m:List TMark) (level:Int) (rSort:(List Int)):Nat→(List TS__2_int)→Int→Option ((List TS__2_int)×Int)
 | 0,_,_=>none
 | fuel+1,out,x2 =>
  (cond (decide (x2 < (((rSort.length - 1):Nat):Int)))
  ((if 0≤x2∧x2 < (((rSort.length - 1):Nat):Int) then
  (if 1≤rSort.length∧rSort.length≤rSort.length then
  (if 0≤x2∧x2 < ((rSort.length:Nat):Int) then
  ((g_water_Above_1 N (rSort.getD ((x2).toNat) 0) m level).bind fun rAbove1 =>
  ((cond rAbove1 (g_water_Above_1 N (rSort.getD (addz 1 (x2).toNat) 0) m level) (some false)).bind fun rAbove12 =>
  (cond (cond rAbove1 rAbove12 false)
  (((g_water_Above_2 N (rSort.getD ((x2).toNat) 0) (rSort.getD (addz 1 (x2).toNat) 0) out).bind fun rAbove2 =>
  g_water_Above_J4 N m level rSort x2 (g_water_Above_L3 N m level rSort fuel) rAbove2))
  (((g_water_Above_1 N (rSort.getD ((x2).toNat) 0) m level).bind fun rAbove13 =>
  (cond rAbove13
  (((g_sort_Search_v2 N (w64 ((rSort.getD (addz 1 (x2).toNat) 0) - (rSort.getD ((x2).toNat) 0))) m level (rSort.getD ((x2).toNat) 0)).bind fun rSearch =>
  ((g_water_Above_2 N (rSort.getD ((x2).toNat) 0) (w64 ((w64 ((rSort.getD ((x2).toNat) 0) - 1))+rSearch)) out).bind fun rAbove22 =>
  g_water_Above_J4 N m level rSort x2 (g_water_Above_L3 N m level rSort fuel) rAbove22)))
  (((g_water_Above_1 N (rSort.getD (addz 1 (x2).toNat) 0) m level).bind fun rAbove14 =>
  (cond rAbove14
  (((g_sort_Search_v3 N (w64 ((rSort.getD (addz 1 (x2).toNat) 0) - (rSort.getD ((x2).toNat) 0))) m level (rSort.getD ((x2).toNat) 0)).bind fun rSearch2 =>
  ((g_water_Above_2 N (w64 ((rSort.getD ((x2).toNat) 0)+rSearch2)) (rSort.getD (addz 1 (x2).toNat) 0) out).bind fun rAbove23 =>
  g_water_Above_J4 N m level rSort x2 (g_water_Above_L3 N m level rSort fuel) rAbove23)))
  (g_water_Above_J4 N m level rSort x2 (g_water_Above_L3 N m level rSort fuel) out))))))))))
  else none)
  else none)
  else none))
  (some (out,0)))
def g_water_Above_L1 (N:Nat) (m:List TMark) (level:Int) (vfrom:Int) (vto:Int):Nat→(List Int)→Int→Option ((List TS__2_int)×Int)
 | 0,_,_=>none
 | fuel+1,corners,x =>
  (cond (decide (x < ((m.length:Nat):Int)))
  ((if 0≤x∧x < ((m.length:Nat):Int) then
  (cond (cond (decide ((m.getD ((x).toNat) TMark.d).f_Minute > vfrom)) (decide ((m.getD ((x).toNat) TMark.d).f_Minute < vto)) false)
  ((if (corners.length+1) * 8≤140737488355328 then
  g_water_Above_J2 N m level vfrom vto x (g_water_Above_L1 N m level vfrom vto fuel) (corners ++ ([(m.getD ((x).toNat) TMark.d).f_Minute]:List Int))
  else none))
  (g_water_Above_J2 N m level vfrom vto x (g_water_Above_L1 N m level vfrom vto fuel) corners))
  else none))
  (((g_slices_Sort_int_int N corners).bind fun rSort =>
  (if rSort.length=corners.length then
  (if 1≤rSort.length∧rSort.length≤rSort.length then
  g_water_Above_L3 N m level rSort N ([]:List TS__2_int) 0
  else none)
  else none))))
def g_water_Above (N:Nat) (m:List TMark) (level:Int) (vfrom:Int) (vto:Int):Option ((List TS__2_int)×Int) :=
 ((g_water_CheckSea N m).bind fun rCheckSea =>
 (cond (rCheckSea != 0)
 (some (([]:List TS__2_int),rCheckSea))
 (((g_water_between N level (-1000000) 1000000).bind fun rbetween =>
 ((cond (!(!rbetween)) (g_water_between N vfrom 0 vto) (some false)).bind fun rbetween2 =>
 (cond (cond (cond (!rbetween) true (!rbetween2)) true (decide (vto > 1000000)))
 (some (([]:List TS__2_int),2))
 ((cond (((m.length:Nat):Int) == 0)
 (some (([]:List TS__2_int),29))
 (g_water_Above_L1 N m level vfrom vto N ([vfrom,vto]:List Int) 0)))))))))
def g_r05_inside (N:Nat) (n:Int) (low:Int) (high:Int):Option (Bool) :=
 some (cond (decide (n≥low)) (decide (n≤high)) false)
def g_r05_CheckSea_L1 (N:Nat) (m:List TMark):Nat→Int→Option (Int)
 | 0,_=>none
 | fuel+1,i =>
  (cond (decide (i < ((m.length:Nat):Int)))
  ((if 0≤i∧i < ((m.length:Nat):Int) then
  ((g_r05_inside N ((m.getD ((i).toNat) TMark.d).f_Minute) 0 1000000).bind fun rinside =>
  (if ((!(!rinside))=true→0≤i∧i < ((m.length:Nat):Int)) then
  ((cond (!(!rinside)) (g_r05_inside N ((m.getD ((i).toNat) TMark.d).f_Level) (-1000000) 1000000) (some false)).bind fun rinside2 =>
  (cond (cond (!rinside) true (!rinside2))
  (some 2)
  ((if ((decide (i > 0))=true→0≤i∧i < ((m.length:Nat):Int)) then
  (if ((decide (i > 0))=true→0≤(w64 (i - 1))∧(w64 (i - 1)) < ((m.length:Nat):Int)) then
  (cond (cond (decide (i > 0)) (decide ((m.getD ((i).toNat) TMark.d).f_Minute≤(m.getD ((w64 (i - 1)).toNat) TMark.d).f_Minute)) false)
  (some 10)
  (g_r05_CheckSea_L1 N m fuel (w64 (i+1))))
  else none)
  else none))))
  else none))
  else none))
  (some 0))
def g_r05_CheckSea (N:Nat) (m:List TMark):Option (Int) :=
 (cond (decide (((m.length:Nat):Int) > 400))
 (some 8)
 (g_r05_CheckSea_L1 N m N 0))
def g_r05_floorDiv_J1 (N:Nat) (q:Int):Option (Int) :=
 some q
def g_r05_floorDiv (N:Nat) (a:Int) (b:Int):Option (Int) :=
 (if (b:Int)≠0 then
 (cond (decide ((a.tmod b) < 0))
 (g_r05_floorDiv_J1 N (w64 ((w64 (a.tdiv b)) - 1)))
 (g_r05_floorDiv_J1 N (w64 (a.tdiv b))))
 else none)
def g_r05_At_L1 (N:Nat) (m:List TMark) (minute:Int):Nat→Int→Option (Int)
 | 0,_=>none
 | fuel+1,i =>
  (cond (decide (i < ((m.length:Nat):Int)))
  ((if 0≤i∧i < ((m.length:Nat):Int) then
  (cond (decide (minute≤(m.getD ((i).toNat) TMark.d).f_Minute))
  ((if 0≤(w64 (i - 1))∧(w64 (i - 1)) < ((m.length:Nat):Int) then
  ((g_r05_floorDiv N (w64 ((w64 ((m.getD ((i).toNat) TMark.d).f_Level - (m.getD ((w64 (i - 1)).toNat) TMark.d).f_Level)) * (w64 (minute - (m.getD ((w64 (i - 1)).toNat) TMark.d).f_Minute)))) (w64 ((m.getD ((i).toNat) TMark.d).f_Minute - (m.getD ((w64 (i - 1)).toNat) TMark.d).f_Minute))).bind fun rfloorDiv =>
  some (w64 ((m.getD ((w64 (i - 1)).toNat) TMark.d).f_Level+rfloorDiv)))
  else none))
  (g_r05_At_L1 N m minute fuel (w64 (i+1))))
  else none))
  ((if 0≤(w64 (((m.length:Nat):Int) - 1))∧(w64 (((m.length:Nat):Int) - 1)) < ((m.length:Nat):Int) then
  some ((m.getD ((w64 (((m.length:Nat):Int) - 1)).toNat) TMark.d).f_Level)
  else none)))
def g_r05_At (N:Nat) (m:List TMark) (minute:Int):Option (Int) :=
 (if 0≤(0:Int)∧0 < ((m.length:Nat):Int) then
 (cond (decide (minute≤(m.getD 0 TMark.d).f_Minute))
 (some ((m.getD 0 TMark.d).f_Level))
 (g_r05_At_L1 N m minute N 1))
 else none)
def g_r05_Above_J2 (N:Nat) (m:List TMark) (level:Int) (vto:Int) (k:Int) (K_g_r05_Above_L1:(List TS__2_int)→Int→Option ((List TS__2_int)×Int)) (out2:List TS__2_int):Option ((List TS__2_int)×Int) :=
 K_g_r05_Above_L1 out2 (w64 (k+1))
def g_r05_Above_L1 (N:Nat) (m:List TMark) (level:Int) (vto:Int):Nat→(List TS__2_int)→Int→Option ((List TS__2_int)×Int)
 | 0,_,_=>none
 | fuel+1,out,k =>
  (cond (decide (k≤vto))
  (((g_r05_At N m k).bind fun rAt =>
  (cond (decide (rAt < level))
  (g_r05_Above_J2 N m level vto k (g_r05_Above_L1 N m level vto fuel) out)
  ((if ((decide (((out.length:Nat):Int) > 0))=true→0≤(w64 (((out.length:Nat):Int) - 1))∧(w64 (((out.length:Nat):Int) - 1)) < ((out.length:Nat):Int)) then
  (cond (cond (decide (((out.length:Nat):Int) > 0)) ((out.getD ((w64 (((out.length:Nat):Int) - 1)).toNat) TS__2_int.d).e1 == (w64 (k - 1))) false)
  ((if 0≤(w64 (((out.length:Nat):Int) - 1))∧(w64 (((out.length:Nat):Int) - 1)) < ((out.length:Nat):Int) then
  g_r05_Above_J2 N m level vto k (g_r05_Above_L1 N m level vto fuel) (out.set ((w64 (((out.length:Nat):Int) - 1)).toNat) (⟨(out.getD ((w64 (((out.length:Nat):Int) - 1)).toNat) TS__2_int.d).e0,k⟩:TS__2_int))
  else none))
  ((if (out.length+1) * 16≤140737488355328 then
  g_r05_Above_J2 N m level vto k (g_r05_Above_L1 N m level vto fuel) (out ++ ([(⟨k,k⟩:TS__2_int)]:List TS__2_int))
  else none)))
  else none)))))
  (some (out,0)))
def g_r05_Above (N:Nat) (m:List TMark) (level:Int) (vfrom:Int) (vto:Int):Option ((List TS__2_int)×Int) :=
 ((g_r05_CheckSea N m).bind fun rCheckSea =>
 (cond (rCheckSea != 0)
 (some (([]:List TS__2_int),rCheckSea))
 (((g_r05_inside N level (-1000000) 1000000).bind fun rinside =>
 (cond (cond (cond (cond (!rinside) true (decide (vfrom < 0))) true (decide (vto < vfrom))) true (decide (vto > 1000000)))
 (some (([]:List TS__2_int),2))
 ((cond (((m.length:Nat):Int) == 0)
 (some (([]:List TS__2_int),29))
 (g_r05_Above_L1 N m level vto N ([]:List TS__2_int) vfrom))))))))
def g_w05_WaterWindows_L1 (N:Nat) (rAbove:(List TS__2_int)×Int) (rAbove2:(List TS__2_int)×Int):Nat→Int→Option (Bool)
 | 0,_=>none
 | fuel+1,i =>
  (cond (decide (i < ((rAbove.1.length:Nat):Int)))
  ((if 0≤i∧i < ((rAbove.1.length:Nat):Int) then
  (if 0≤i∧i < ((rAbove2.1.length:Nat):Int) then
  (cond (!(((rAbove.1.getD ((i).toNat) TS__2_int.d).e0 == (rAbove2.1.getD ((i).toNat) TS__2_int.d).e0) && (((rAbove.1.getD ((i).toNat) TS__2_int.d).e1 == (rAbove2.1.getD ((i).toNat) TS__2_int.d).e1) && true)))
  (some false)
  (g_w05_WaterWindows_L1 N rAbove rAbove2 fuel (w64 (i+1))))
  else none)
  else none))
  (some true))
def g_w05_WaterWindows (N:Nat) (m:List TMark) (level:Int) (vat:TS__2_int):Option (Bool) :=
 ((g_w05_awake N).bind fun rawake =>
 (cond (!rawake)
 (some false)
 ((cond (cond (cond (decide (((m.length:Nat):Int) > 40)) (decide (((m.length:Nat):Int)≤400)) false) true (cond (cond (decide (vat.e0≥0)) (decide (vat.e1≤1000000)) false) (decide ((w64 (vat.e1 - vat.e0)) > 2000)) false))
 (some true)
 (((g_water_Above N m level vat.e0 vat.e1).bind fun rAbove =>
 ((g_r05_Above N m level vat.e0 vat.e1).bind fun rAbove2 =>
 (cond (cond (rAbove.2 != rAbove2.2) true (((rAbove.1.length:Nat):Int) != ((rAbove2.1.length:Nat):Int)))
 (some false)
 (g_w05_WaterWindows_L1 N rAbove rAbove2 N 0)))))))))
end Go.Den
