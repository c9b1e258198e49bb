/- The functions of the program as Lean functions, each in the Option monad; N bounds the rounds of loops. No conditions. -/
import Derived.Test.YtnhkjlebcdakkaaCd
set_option linter.unusedVariables false
set_option linter.unusedSimpArgs false
set_option linter.unusedVariables false
namespace Go.Den
open Go.Ab
structure TDock where
 f_Name:ByteArray
 f_Length:Int
 f_Width:Int
 f_Sill:Int
 f_Floor:Int
 f_Gap:Int
def TDock.d:TDock:=⟨ByteArray.empty,0,0,0,0,0⟩
def TDock.wf (x:TDock):Prop:=wS x.f_Name∧wI x.f_Length∧wI x.f_Width∧wI x.f_Sill∧wI x.f_Floor∧wI x.f_Gap
def TDock.cells (x:TDock):List AV:=[(aS x.f_Name),(aI x.f_Length),(aI x.f_Width),(aI x.f_Sill),(aI x.f_Floor),(aI x.f_Gap)]
structure TCall where
 f_Name:ByteArray
 f_Length:Int
 f_Beam:Int
 f_Draught:Int
 f_Under:Int
 f_Arrive:Int
 f_Work:Int
 f_Due:Int
 f_Late:Int
def TCall.d:TCall:=⟨ByteArray.empty,0,0,0,0,0,0,0,0⟩
def TCall.wf (x:TCall):Prop:=wS x.f_Name∧wI x.f_Length∧wI x.f_Beam∧wI x.f_Draught∧wI x.f_Under∧wI x.f_Arrive∧wI x.f_Work∧wI x.f_Due∧wI x.f_Late
def TCall.cells (x:TCall):List AV:=[(aS x.f_Name),(aI x.f_Length),(aI x.f_Beam),(aI x.f_Draught),(aI x.f_Under),(aI x.f_Arrive),(aI x.f_Work),(aI x.f_Due),(aI x.f_Late)]
structure TSpot where
 f_Call:ByteArray
 f_X:Int
 f_Y:Int
def TSpot.d:TSpot:=⟨ByteArray.empty,0,0⟩
def TSpot.wf (x:TSpot):Prop:=wS x.f_Call∧wI x.f_X∧wI x.f_Y
def TSpot.cells (x:TSpot):List AV:=[(aS x.f_Call),(aI x.f_X),(aI x.f_Y)]
structure Tberth_box where
 f_x:Int
 f_y:Int
 f_w:Int
 f_h:Int
def Tberth_box.d:Tberth_box:=⟨0,0,0,0⟩
def Tberth_box.wf (x:Tberth_box):Prop:=wI x.f_x∧wI x.f_y∧wI x.f_w∧wI x.f_h
def Tberth_box.cells (x:Tberth_box):List AV:=[(aI x.f_x),(aI x.f_y),(aI x.f_w),(aI x.f_h)]
structure Tw06_Plan where
 f_Dock:TDock
 f_Calls:List TCall
 f_Spots:List TSpot
def Tw06_Plan.d:Tw06_Plan:=⟨TDock.d,[],[]⟩
def Tw06_Plan.wf (x:Tw06_Plan):Prop:=TDock.wf x.f_Dock∧(wL TCall.wf) x.f_Calls∧(wL TSpot.wf) x.f_Spots
def Tw06_Plan.cells (x:Tw06_Plan):List AV:=[(aS x.f_Dock.f_Name),(aI x.f_Dock.f_Length),(aI x.f_Dock.f_Width),(aI x.f_Dock.f_Sill),(aI x.f_Dock.f_Floor),(aI x.f_Dock.f_Gap),(encL TCall.cells TCall.d x.f_Calls),(encL TSpot.cells TSpot.d x.f_Spots)]
def g_berth_CheckDocks_1 (N:Nat) (x:TDock):Option (ByteArray) :=
 some x.f_Name
def g_berth_named_L1 (N:Nat) (s:ByteArray):Nat→Int→Option (Bool)
 | 0,_=>none
 | fuel+1,x =>
  (cond (decide (x < ((s.size:Nat):Int)))
  ((if 0≤x∧x < ((s.size:Nat):Int) then
  (cond (cond (!(cond (cond (decide ((byteAt s ((x).toNat))≥97)) (decide ((byteAt s ((x).toNat))≤122)) false) true (cond (decide ((byteAt s ((x).toNat))≥65)) (decide ((byteAt s ((x).toNat))≤90)) false))) (cond (x == 0) true (!(cond (cond (decide ((byteAt s ((x).toNat))≥48)) (decide ((byteAt s ((x).toNat))≤57)) false) true ((byteAt s ((x).toNat)) == 45)))) false)
  (some false)
  (g_berth_named_L1 N s fuel (w64 (x+1))))
  else none))
  (some true))
def g_berth_named (N:Nat) (s:ByteArray):Option (Bool) :=
 (cond (cond (streq s ByteArray.empty) true (decide (((s.size:Nat):Int) > 12)))
 (some false)
 (g_berth_named_L1 N s N 0))
def g_berth_check_Dock_1 (N:Nat) (y:TDock) (cap1:TDock):Option (Bool) :=
 ((g_berth_CheckDocks_1 N y).bind fun rCheckDocks1 =>
 ((g_berth_CheckDocks_1 N cap1).bind fun rCheckDocks12 =>
 some (streq rCheckDocks1 rCheckDocks12)))
def g_slices_IndexFunc_api_Dock_api_Dock_L1 (N:Nat) (s:List TDock) (cap1:TDock):Nat→Int→Option (Int)
 | 0,_=>none
 | fuel+1,x =>
  (cond (decide (x < ((s.length:Nat):Int)))
  ((if 0≤x∧x < ((s.length:Nat):Int) then
  ((g_berth_check_Dock_1 N (s.getD ((x).toNat) TDock.d) cap1).bind fun rDock1 =>
  (cond rDock1
  (some x)
  (g_slices_IndexFunc_api_Dock_api_Dock_L1 N s cap1 fuel (w64 (x+1)))))
  else none))
  (some (-1)))
def g_slices_IndexFunc_api_Dock_api_Dock (N:Nat) (s:List TDock) (cap1:TDock):Option (Int) :=
 g_slices_IndexFunc_api_Dock_api_Dock_L1 N s cap1 N 0
def g_slices_ContainsFunc_api_Dock_api_Dock (N:Nat) (s:List TDock) (cap1:TDock):Option (Bool) :=
 ((g_slices_IndexFunc_api_Dock_api_Dock N s cap1).bind fun rDock =>
 some (decide (rDock≥0)))
def g_berth_outside (N:Nat) (n:Int) (lo:Int) (hi:Int):Option (Bool) :=
 some (cond (decide (n < lo)) true (decide (n > hi)))
def g_berth_ranged (N:Nat) (wrong:Bool):Option (Int) :=
 (cond wrong
 (some 2)
 (some 0))
def g_berth_CheckDocks_2 (N:Nat) (x:TDock):Option (Int) :=
 ((g_berth_outside N x.f_Length 1 1000000).bind fun routside =>
 ((cond (!routside) (g_berth_outside N x.f_Width 1 1000000) (some false)).bind fun routside2 =>
 ((cond (!(cond routside true routside2)) (g_berth_outside N x.f_Sill (-1000000) 1000000) (some false)).bind fun routside3 =>
 ((cond (!(cond (cond routside true routside2) true routside3)) (g_berth_outside N x.f_Floor (-1000000) 1000000) (some false)).bind fun routside4 =>
 ((cond (!(cond (cond (cond routside true routside2) true routside3) true routside4)) (g_berth_outside N x.f_Gap 0 1000000) (some false)).bind fun routside5 =>
 ((g_berth_ranged N (cond (cond (cond (cond routside true routside2) true routside3) true routside4) true routside5)).bind fun rranged =>
 some rranged))))))
def g_berth_check_Dock_L1 (N:Nat) (l:List TDock):Nat→Int→Option (Int)
 | 0,_=>none
 | fuel+1,x =>
  (cond (decide (x < ((l.length:Nat):Int)))
  ((if 0≤x∧x < ((l.length:Nat):Int) then
  ((g_berth_CheckDocks_1 N (l.getD ((x).toNat) TDock.d)).bind fun rCheckDocks1 =>
  ((g_berth_named N rCheckDocks1).bind fun rnamed =>
  (cond (!rnamed)
  (some 4)
  ((if 0≤(x).toNat∧(x).toNat≤l.length then
  (if 0≤x then
  ((g_slices_ContainsFunc_api_Dock_api_Dock N ((l.take ((x).toNat)).drop 0) (l.getD ((x).toNat) TDock.d)).bind fun rDock =>
  (cond rDock
  (some 5)
  (((g_berth_CheckDocks_2 N (l.getD ((x).toNat) TDock.d)).bind fun rCheckDocks2 =>
  (cond (rCheckDocks2 != 0)
  (some rCheckDocks2)
  (g_berth_check_Dock_L1 N l fuel (w64 (x+1))))))))
  else none)
  else none)))))
  else none))
  (some 0))
def g_berth_check_Dock (N:Nat) (l:List TDock) (most:Int):Option (Int) :=
 (cond (decide (((l.length:Nat):Int) > most))
 (some 8)
 (g_berth_check_Dock_L1 N l N 0))
def g_berth_CheckDocks (N:Nat) (d:List TDock):Option (Int) :=
 ((g_berth_check_Dock N d 4).bind fun rDock =>
 some rDock)
def g_berth_CheckCalls_1 (N:Nat) (x:TCall):Option (ByteArray) :=
 some x.f_Name
def g_berth_check_Call_1 (N:Nat) (y:TCall) (cap1:TCall):Option (Bool) :=
 ((g_berth_CheckCalls_1 N y).bind fun rCheckCalls1 =>
 ((g_berth_CheckCalls_1 N cap1).bind fun rCheckCalls12 =>
 some (streq rCheckCalls1 rCheckCalls12)))
def g_slices_IndexFunc_api_Call_api_Call_L1 (N:Nat) (s:List TCall) (cap1:TCall):Nat→Int→Option (Int)
 | 0,_=>none
 | fuel+1,x =>
  (cond (decide (x < ((s.length:Nat):Int)))
  ((if 0≤x∧x < ((s.length:Nat):Int) then
  ((g_berth_check_Call_1 N (s.getD ((x).toNat) TCall.d) cap1).bind fun rCall1 =>
  (cond rCall1
  (some x)
  (g_slices_IndexFunc_api_Call_api_Call_L1 N s cap1 fuel (w64 (x+1)))))
  else none))
  (some (-1)))
def g_slices_IndexFunc_api_Call_api_Call (N:Nat) (s:List TCall) (cap1:TCall):Option (Int) :=
 g_slices_IndexFunc_api_Call_api_Call_L1 N s cap1 N 0
def g_slices_ContainsFunc_api_Call_api_Call (N:Nat) (s:List TCall) (cap1:TCall):Option (Bool) :=
 ((g_slices_IndexFunc_api_Call_api_Call N s cap1).bind fun rCall =>
 some (decide (rCall≥0)))
def g_berth_CheckCalls_2 (N:Nat) (x:TCall):Option (Int) :=
 ((g_berth_outside N x.f_Length 1 1000000).bind fun routside =>
 ((cond (!routside) (g_berth_outside N x.f_Beam 1 1000000) (some false)).bind fun routside2 =>
 ((cond (!(cond routside true routside2)) (g_berth_outside N x.f_Draught 0 1000000) (some false)).bind fun routside3 =>
 ((cond (!(cond (cond routside true routside2) true routside3)) (g_berth_outside N x.f_Under 0 1000000) (some false)).bind fun routside4 =>
 (cond (cond (cond (cond routside true routside2) true routside3) true routside4)
 (some 2)
 (((g_berth_outside N x.f_Arrive 0 400).bind fun routside5 =>
 ((cond (!routside5) (g_berth_outside N x.f_Due 0 400) (some false)).bind fun routside6 =>
 ((cond (!(cond routside5 true routside6)) (g_berth_outside N x.f_Work 1 1000) (some false)).bind fun routside7 =>
 ((cond (!(cond (cond routside5 true routside6) true routside7)) (g_berth_outside N x.f_Late 0 1000000000) (some false)).bind fun routside8 =>
 ((g_berth_ranged N (cond (cond (cond routside5 true routside6) true routside7) true routside8)).bind fun rranged =>
 some rranged)))))))))))
def g_berth_check_Call_L1 (N:Nat) (l:List TCall):Nat→Int→Option (Int)
 | 0,_=>none
 | fuel+1,x =>
  (cond (decide (x < ((l.length:Nat):Int)))
  ((if 0≤x∧x < ((l.length:Nat):Int) then
  ((g_berth_CheckCalls_1 N (l.getD ((x).toNat) TCall.d)).bind fun rCheckCalls1 =>
  ((g_berth_named N rCheckCalls1).bind fun rnamed =>
  (cond (!rnamed)
  (some 4)
  ((if 0≤(x).toNat∧(x).toNat≤l.length then
  (if 0≤x then
  ((g_slices_ContainsFunc_api_Call_api_Call N ((l.take ((x).toNat)).drop 0) (l.getD ((x).toNat) TCall.d)).bind fun rCall =>
  (cond rCall
  (some 5)
  (((g_berth_CheckCalls_2 N (l.getD ((x).toNat) TCall.d)).bind fun rCheckCalls2 =>
  (cond (rCheckCalls2 != 0)
  (some rCheckCalls2)
  (g_berth_check_Call_L1 N l fuel (w64 (x+1))))))))
  else none)
  else none)))))
  else none))
  (some 0))
def g_berth_check_Call (N:Nat) (l:List TCall) (most:Int):Option (Int) :=
 (cond (decide (((l.length:Nat):Int) > most))
 (some 8)
 (g_berth_check_Call_L1 N l N 0))
def g_berth_CheckCalls (N:Nat) (c:List TCall):Option (Int) :=
 ((g_berth_check_Call N c 8).bind fun rCall =>
 some rCall)
def g_berth_both (N:Nat) (d:TDock) (c:List TCall):Option (Int) :=
 ((g_berth_CheckDocks N ([d]:List TDock)).bind fun rCheckDocks =>
 (cond (rCheckDocks != 0)
 (some rCheckDocks)
 (((g_berth_CheckCalls N c).bind fun rCheckCalls =>
 some rCheckCalls))))
def g_berth_fits (N:Nat) (d:TDock) (c:TCall):Option (Bool) :=
 some (cond (decide ((w64 (c.f_Length+(w64 (2 * d.f_Gap))))≤d.f_Length)) (decide ((w64 (c.f_Beam+(w64 (2 * d.f_Gap))))≤d.f_Width)) false)
def g_berth_Fits (N:Nat) (d:TDock) (c:TCall):Option (Bool×Int) :=
 ((g_berth_both N d ([c]:List TCall)).bind fun rboth =>
 (cond (rboth != 0)
 (some (false,rboth))
 (((g_berth_fits N d c).bind fun rfits =>
 some (rfits,0)))))
def g_w06_awake (N:Nat):Option (Bool) :=
 ((g_berth_Fits N (⟨(⟨#[100]⟩:ByteArray),200,40,0,0,2⟩:TDock) (⟨(⟨#[97]⟩:ByteArray),100,30,0,0,0,1,0,0⟩:TCall)).bind fun rFits =>
 ((g_berth_Fits N (⟨(⟨#[100]⟩:ByteArray),200,40,0,0,2⟩:TDock) (⟨(⟨#[98]⟩:ByteArray),197,30,0,0,0,1,0,0⟩:TCall)).bind fun rFits2 =>
 some (cond (cond (cond (rFits.2 == 0) rFits.1 false) (rFits2.2 == 0) false) (!rFits2.1) false)))
def g_w06_Names_L2 (N:Nat) (c:List TCall):Nat→Int→Option (Bool)
 | 0,_=>none
 | fuel+1,i2 =>
  (cond (decide (i2 < ((c.length:Nat):Int)))
  ((if 0≤i2∧i2 < ((c.length:Nat):Int) then
  (cond (decide (((((c.getD ((i2).toNat) TCall.d).f_Name).size:Nat):Int) > 40))
  (some false)
  (g_w06_Names_L2 N c fuel (w64 (i2+1))))
  else none))
  (some true))
def g_w06_Names_L1 (N:Nat) (d:List TDock) (c:List TCall):Nat→Int→Option (Bool)
 | 0,_=>none
 | fuel+1,i =>
  (cond (decide (i < ((d.length:Nat):Int)))
  ((if 0≤i∧i < ((d.length:Nat):Int) then
  (cond (decide (((((d.getD ((i).toNat) TDock.d).f_Name).size:Nat):Int) > 40))
  (some false)
  (g_w06_Names_L1 N d c fuel (w64 (i+1))))
  else none))
  (g_w06_Names_L2 N c N 0))
def g_w06_Names (N:Nat) (d:List TDock) (c:List TCall):Option (Bool) :=
 (cond (cond (decide (((d.length:Nat):Int) > 6)) true (decide (((c.length:Nat):Int) > 10)))
 (some false)
 (g_w06_Names_L1 N d c N 0))
def g_math_bits_Len64_J3 (N:Nat) (x4:Int) (n3:Int):Option (Int) :=
 (if 0≤(IntKind.u8.wrap (x4))∧(IntKind.u8.wrap (x4)) < (((⟨#[0,1,2,2,3,3,3,3,4,4,4,4,4,4,4,4,5,5,5,5,5,5,5,5,5,5,5,5,5,5,5,5,6,6,6,6,6,6,6,6,6,6,6,6,6,6,6,6,6,6,6,6,6,6,6,6,6,6,6,6,6,6,6,6,7,7,7,7,7,7,7,7,7,7,7,7,7,7,7,7,7,7,7,7,7,7,7,7,7,7,7,7,7,7,7,7,7,7,7,7,7,7,7,7,7,7,7,7,7,7,7,7,7,7,7,7,7,7,7,7,7,7,7,7,7,7,7,7,8,8,8,8,8,8,8,8,8,8,8,8,8,8,8,8,8,8,8,8,8,8,8,8,8,8,8,8,8,8,8,8,8,8,8,8,8,8,8,8,8,8,8,8,8,8,8,8,8,8,8,8,8,8,8,8,8,8,8,8,8,8,8,8,8,8,8,8,8,8,8,8,8,8,8,8,8,8,8,8,8,8,8,8,8,8,8,8,8,8,8,8,8,8,8,8,8,8,8,8,8,8,8,8,8,8,8,8,8,8,8,8,8,8,8,8,8,8,8,8,8,8,8,8,8,8,8,8]⟩:ByteArray).size:Nat):Int) then
 some (w64 (n3+(w64 ((byteAt (⟨#[0,1,2,2,3,3,3,3,4,4,4,4,4,4,4,4,5,5,5,5,5,5,5,5,5,5,5,5,5,5,5,5,6,6,6,6,6,6,6,6,6,6,6,6,6,6,6,6,6,6,6,6,6,6,6,6,6,6,6,6,6,6,6,6,7,7,7,7,7,7,7,7,7,7,7,7,7,7,7,7,7,7,7,7,7,7,7,7,7,7,7,7,7,7,7,7,7,7,7,7,7,7,7,7,7,7,7,7,7,7,7,7,7,7,7,7,7,7,7,7,7,7,7,7,7,7,7,7,8,8,8,8,8,8,8,8,8,8,8,8,8,8,8,8,8,8,8,8,8,8,8,8,8,8,8,8,8,8,8,8,8,8,8,8,8,8,8,8,8,8,8,8,8,8,8,8,8,8,8,8,8,8,8,8,8,8,8,8,8,8,8,8,8,8,8,8,8,8,8,8,8,8,8,8,8,8,8,8,8,8,8,8,8,8,8,8,8,8,8,8,8,8,8,8,8,8,8,8,8,8,8,8,8,8,8,8,8,8,8,8,8,8,8,8,8,8,8,8,8,8,8,8,8,8,8,8]⟩:ByteArray) ((IntKind.u8.wrap (x4)).toNat))))))
 else none)
def g_math_bits_Len64_J2 (N:Nat) (x3:Int) (n2:Int):Option (Int) :=
 (cond (decide (x3≥256))
 (g_math_bits_Len64_J3 N (shrI .u64 x3 8) (w64 (n2+8)))
 (g_math_bits_Len64_J3 N x3 n2))
def g_math_bits_Len64_J1 (N:Nat) (x2:Int) (n:Int):Option (Int) :=
 (cond (decide (x2≥65536))
 (g_math_bits_Len64_J2 N (shrI .u64 x2 16) (w64 (n+16)))
 (g_math_bits_Len64_J2 N x2 n))
def g_math_bits_Len64 (N:Nat) (x:Int):Option (Int) :=
 (cond (decide (x≥4294967296))
 (g_math_bits_Len64_J1 N (shrI .u64 x 32) 32)
 (g_math_bits_Len64_J1 N x 0))
def g_math_bits_Len (N:Nat) (x:Int):Option (Int) :=
 ((g_math_bits_Len64 N x).bind fun rLen64 =>
 some rLen64)
def g_cmp_isNaN_int (N:Nat) (x:Int):Option (Bool) :=
 some (x != x)
def g_cmp_Less_int (N:Nat) (x:Int) (y:Int):Option (Bool) :=
 ((g_cmp_isNaN_int N x).bind fun risNaN =>
 ((cond risNaN (g_cmp_isNaN_int N y) (some false)).bind fun risNaN2 =>
 some (cond (cond risNaN (!risNaN2) false) true (decide (x < y)))))
def g_slices_insertionSortOrdered_int_L2 (N:Nat) (a:Int) (b:Int) (i:Int) (K_g_slices_insertionSortOrdered_int_L1:(List Int)→Int→Option ((List Int))):Nat→(List Int)→Int→Option ((List Int))
 | 0,_,_=>none
 | fuel+1,cap03,j =>
  (if ((decide (j > a))=true→0≤j∧j < ((cap03.length:Nat):Int)) then
  (if ((decide (j > a))=true→0≤(w64 (j - 1))∧(w64 (j - 1)) < ((cap03.length:Nat):Int)) then
  ((cond (decide (j > a)) (g_cmp_Less_int N (cap03.getD ((j).toNat) 0) (cap03.getD ((w64 (j - 1)).toNat) 0)) (some false)).bind fun rLess =>
  (cond (cond (decide (j > a)) rLess false)
  ((if 0≤(w64 (j - 1))∧(w64 (j - 1)) < ((cap03.length:Nat):Int) then
  (if 0≤j∧j < ((cap03.length:Nat):Int) then
  g_slices_insertionSortOrdered_int_L2 N a b i K_g_slices_insertionSortOrdered_int_L1 fuel ((cap03.set ((j).toNat) (cap03.getD ((w64 (j - 1)).toNat) 0)).set ((w64 (j - 1)).toNat) (cap03.getD ((j).toNat) 0)) (w64 (j - 1))
  else none)
  else none))
  (K_g_slices_insertionSortOrdered_int_L1 cap03 (w64 (i+1)))))
  else none)
  else none)
def g_slices_insertionSortOrdered_int_L1 (N:Nat) (a:Int) (b:Int):Nat→(List Int)→Int→Option ((List Int))
 | 0,_,_=>none
 | fuel+1,cap02,i =>
  (cond (decide (i < b))
  (g_slices_insertionSortOrdered_int_L2 N a b i (g_slices_insertionSortOrdered_int_L1 N a b fuel) N cap02 i)
  (some cap02))
def g_slices_insertionSortOrdered_int (N:Nat) (a:Int) (b:Int) (cap0:List Int):Option ((List Int)) :=
 g_slices_insertionSortOrdered_int_L1 N a b N cap0 (w64 (a+1))
def g_slices_siftDownOrdered_int_J2 (N:Nat) (hi:Int) (first:Int) (cap02:List Int) (root:Int) (K_g_slices_siftDownOrdered_int_L1:(List Int)→Int→Option ((List Int))) (child:Int):Option ((List Int)) :=
 (if 0≤(w64 (first+root))∧(w64 (first+root)) < ((cap02.length:Nat):Int) then
 (if 0≤(w64 (first+child))∧(w64 (first+child)) < ((cap02.length:Nat):Int) then
 ((g_cmp_Less_int N (cap02.getD ((w64 (first+root)).toNat) 0) (cap02.getD ((w64 (first+child)).toNat) 0)).bind fun rLess2 =>
 (cond (!rLess2)
 (some cap02)
 (K_g_slices_siftDownOrdered_int_L1 ((cap02.set ((w64 (first+root)).toNat) (cap02.getD ((w64 (first+child)).toNat) 0)).set ((w64 (first+child)).toNat) (cap02.getD ((w64 (first+root)).toNat) 0)) child)))
 else none)
 else none)
def g_slices_siftDownOrdered_int_L1 (N:Nat) (hi:Int) (first:Int):Nat→(List Int)→Int→Option ((List Int))
 | 0,_,_=>none
 | fuel+1,cap02,root =>
  (cond (decide ((w64 ((w64 (2 * root))+1))≥hi))
  (some cap02)
  ((if ((decide ((w64 ((w64 ((w64 (2 * root))+1))+1)) < hi))=true→0≤(w64 (first+(w64 ((w64 (2 * root))+1))))∧(w64 (first+(w64 ((w64 (2 * root))+1)))) < ((cap02.length:Nat):Int)) then
  (if ((decide ((w64 ((w64 ((w64 (2 * root))+1))+1)) < hi))=true→0≤(w64 ((w64 (first+(w64 ((w64 (2 * root))+1))))+1))∧(w64 ((w64 (first+(w64 ((w64 (2 * root))+1))))+1)) < ((cap02.length:Nat):Int)) then
  ((cond (decide ((w64 ((w64 ((w64 (2 * root))+1))+1)) < hi)) (g_cmp_Less_int N (cap02.getD ((w64 (first+(w64 ((w64 (2 * root))+1)))).toNat) 0) (cap02.getD ((w64 ((w64 (first+(w64 ((w64 (2 * root))+1))))+1)).toNat) 0)) (some false)).bind fun rLess =>
  (cond (cond (decide ((w64 ((w64 ((w64 (2 * root))+1))+1)) < hi)) rLess false)
  (g_slices_siftDownOrdered_int_J2 N hi first cap02 root (g_slices_siftDownOrdered_int_L1 N hi first fuel) (w64 ((w64 ((w64 (2 * root))+1))+1)))
  (g_slices_siftDownOrdered_int_J2 N hi first cap02 root (g_slices_siftDownOrdered_int_L1 N hi first fuel) (w64 ((w64 (2 * root))+1)))))
  else none)
  else none)))
def g_slices_siftDownOrdered_int (N:Nat) (lo:Int) (hi:Int) (first:Int) (cap0:List Int):Option ((List Int)) :=
 g_slices_siftDownOrdered_int_L1 N hi first N cap0 lo
def g_slices_heapSortOrdered_int_L2 (N:Nat) (a:Int):Nat→(List Int)→Int→Option ((List Int))
 | 0,_,_=>none
 | fuel+1,cap03,i2 =>
  (cond (decide (i2≥0))
  ((if 0≤(w64 (a+i2))∧(w64 (a+i2)) < ((cap03.length:Nat):Int) then
  (if 0≤a∧a < ((cap03.length:Nat):Int) then
  ((g_slices_siftDownOrdered_int N 0 i2 a ((cap03.set ((a).toNat) (cap03.getD ((w64 (a+i2)).toNat) 0)).set ((w64 (a+i2)).toNat) (cap03.getD ((a).toNat) 0))).bind fun rsiftDownOrde2 =>
  (if rsiftDownOrde2.length=((cap03.set ((a).toNat) (cap03.getD ((w64 (a+i2)).toNat) 0)).set ((w64 (a+i2)).toNat) (cap03.getD ((a).toNat) 0)).length then
  g_slices_heapSortOrdered_int_L2 N a fuel rsiftDownOrde2 (w64 (i2 - 1))
  else none))
  else none)
  else none))
  (some cap03))
def g_slices_heapSortOrdered_int_L1 (N:Nat) (a:Int) (b:Int):Nat→(List Int)→Int→Option ((List Int))
 | 0,_,_=>none
 | fuel+1,cap02,i =>
  (cond (decide (i≥0))
  (((g_slices_siftDownOrdered_int N i (w64 (b - a)) a cap02).bind fun rsiftDownOrde =>
  (if rsiftDownOrde.length=cap02.length then
  g_slices_heapSortOrdered_int_L1 N a b fuel rsiftDownOrde (w64 (i - 1))
  else none)))
  (g_slices_heapSortOrdered_int_L2 N a N cap02 (w64 ((w64 (b - a)) - 1))))
def g_slices_heapSortOrdered_int (N:Nat) (a:Int) (b:Int) (cap0:List Int):Option ((List Int)) :=
 g_slices_heapSortOrdered_int_L1 N a b N cap0 (w64 ((w64 ((w64 (b - a)) - 1)).tdiv 2))
def g_slices_nextPowerOfTwo (N:Nat) (length:Int):Option (Int) :=
 ((g_math_bits_Len N (IntKind.u64.wrap (length))).bind fun rLen =>
 (if (0:Int)≤rLen then
 some (shlI .u64 1 rLen)
 else none))
def g_slices_xorshift_Next (N:Nat) (cap0:Int):Option (Int×Int) :=
 some ((xorI .u64 (xorI .u64 (xorI .u64 cap0 (shlI .u64 cap0 13)) (shrI .u64 (xorI .u64 cap0 (shlI .u64 cap0 13)) 7)) (shlI .u64 (xorI .u64 (xorI .u64 cap0 (shlI .u64 cap0 13)) (shrI .u64 (xorI .u64 cap0 (shlI .u64 cap0 13)) 7)) 17)),(xorI .u64 (xorI .u64 (xorI .u64 cap0 (shlI .u64 cap0 13)) (shrI .u64 (xorI .u64 cap0 (shlI .u64 cap0 13)) 7)) (shlI .u64 (xorI .u64 (xorI .u64 cap0 (shlI .u64 cap0 13)) (shrI .u64 (xorI .u64 cap0 (shlI .u64 cap0 13)) 7)) 17)))
def g_slices_breakPatternsOrdered_int_J2 (N:Nat) (a:Int) (b:Int) (rnextPowerOfT:Int) (cap02:List Int) (idx:Int) (rNext:Int×Int) (K_g_slices_breakPatternsOrdered_int_L1:(List Int)→Int→Int→Option ((List Int))) (other:Int):Option ((List Int)) :=
 (if 0≤(w64 (a+other))∧(w64 (a+other)) < ((cap02.length:Nat):Int) then
 (if 0≤idx∧idx < ((cap02.length:Nat):Int) then
 K_g_slices_breakPatternsOrdered_int_L1 ((cap02.set ((idx).toNat) (cap02.getD ((w64 (a+other)).toNat) 0)).set ((w64 (a+other)).toNat) (cap02.getD ((idx).toNat) 0)) rNext.2 (w64 (idx+1))
 else none)
 else none)
def g_slices_breakPatternsOrdered_int_L1 (N:Nat) (a:Int) (b:Int) (rnextPowerOfT:Int):Nat→(List Int)→Int→Int→Option ((List Int))
 | 0,_,_,_=>none
 | fuel+1,cap02,random,idx =>
  (cond (decide (idx≤(w64 ((w64 (a+(w64 ((w64 ((w64 (b - a)).tdiv 4)) * 2))))+1))))
  (((g_slices_xorshift_Next N random).bind fun rNext =>
  (cond (decide ((w64 ((andI .u64 rNext.1 (IntKind.u64.wrap (rnextPowerOfT - 1)))))≥(w64 (b - a))))
  (g_slices_breakPatternsOrdered_int_J2 N a b rnextPowerOfT cap02 idx rNext (g_slices_breakPatternsOrdered_int_L1 N a b rnextPowerOfT fuel) (w64 ((w64 ((andI .u64 rNext.1 (IntKind.u64.wrap (rnextPowerOfT - 1))))) - (w64 (b - a)))))
  (g_slices_breakPatternsOrdered_int_J2 N a b rnextPowerOfT cap02 idx rNext (g_slices_breakPatternsOrdered_int_L1 N a b rnextPowerOfT fuel) (w64 ((andI .u64 rNext.1 (IntKind.u64.wrap (rnextPowerOfT - 1)))))))))
  (some cap02))
def g_slices_breakPatternsOrdered_int (N:Nat) (a:Int) (b:Int) (cap0:List Int):Option ((List Int)) :=
 (cond (decide ((w64 (b - a))≥8))
 (((g_slices_nextPowerOfTwo N (w64 (b - a))).bind fun rnextPowerOfT =>
 g_slices_breakPatternsOrdered_int_L1 N a b rnextPowerOfT N cap0 (IntKind.u64.wrap ((w64 (b - a)))) (w64 ((w64 (a+(w64 ((w64 ((w64 (b - a)).tdiv 4)) * 2)))) - 1))))
 (some cap0))
def g_slices_order2Ordered_int (N:Nat) (data:List Int) (a:Int) (b:Int) (cap0:Int):Option (Int×Int×Int) :=
 (if 0≤b∧b < ((data.length:Nat):Int) then
 (if 0≤a∧a < ((data.length:Nat):Int) then
 ((g_cmp_Less_int N (data.getD ((b).toNat) 0) (data.getD ((a).toNat) 0)).bind fun rLess =>
 (cond rLess
 (some (b,a,(w64 (cap0+1))))
 (some (a,b,cap0))))
 else none)
 else none)
def g_slices_medianOrdered_int (N:Nat) (data:List Int) (a:Int) (b:Int) (c:Int) (cap0:Int):Option (Int×Int) :=
 ((g_slices_order2Ordered_int N data a b cap0).bind fun rorder2Ordere =>
 ((g_slices_order2Ordered_int N data rorder2Ordere.2.1 c rorder2Ordere.2.2).bind fun rorder2Ordere2 =>
 ((g_slices_order2Ordered_int N data rorder2Ordere.1 rorder2Ordere2.1 rorder2Ordere2.2.2).bind fun rorder2Ordere3 =>
 some (rorder2Ordere3.2.1,rorder2Ordere3.2.2))))
def g_slices_medianAdjacentOrdered_int (N:Nat) (data:List Int) (a:Int) (cap0:Int):Option (Int×Int) :=
 ((g_slices_medianOrdered_int N data (w64 (a - 1)) a (w64 (a+1)) cap0).bind fun rmedianOrdere =>
 some (rmedianOrdere.1,rmedianOrdere.2))
def g_slices_choosePivotOrdered_int_J2 (N:Nat) (swaps2:Int) (j2:Int):Option (Int×Int) :=
 (cond (swaps2 == 0)
 (some (j2,1))
 ((cond (swaps2 == 12)
 (some (j2,2))
 (some (j2,0)))))
def g_slices_choosePivotOrdered_int_J1 (N:Nat) (data:List Int) (swaps:Int) (i:Int) (j:Int) (k:Int):Option (Int×Int) :=
 ((g_slices_medianOrdered_int N data i j k swaps).bind fun rmedianOrdere =>
 g_slices_choosePivotOrdered_int_J2 N rmedianOrdere.2 rmedianOrdere.1)
def g_slices_choosePivotOrdered_int (N:Nat) (data:List Int) (a:Int) (b:Int):Option (Int×Int) :=
 (cond (decide ((w64 (b - a))≥8))
 ((cond (decide ((w64 (b - a))≥50))
 (((g_slices_medianAdjacentOrdered_int N data (w64 (a+(w64 ((w64 ((w64 (b - a)).tdiv 4)) * 1)))) 0).bind fun rmedianAdjace =>
 ((g_slices_medianAdjacentOrdered_int N data (w64 (a+(w64 ((w64 ((w64 (b - a)).tdiv 4)) * 2)))) rmedianAdjace.2).bind fun rmedianAdjace2 =>
 ((g_slices_medianAdjacentOrdered_int N data (w64 (a+(w64 ((w64 ((w64 (b - a)).tdiv 4)) * 3)))) rmedianAdjace2.2).bind fun rmedianAdjace3 =>
 g_slices_choosePivotOrdered_int_J1 N data rmedianAdjace3.2 rmedianAdjace.1 rmedianAdjace2.1 rmedianAdjace3.1))))
 (g_slices_choosePivotOrdered_int_J1 N data 0 (w64 (a+(w64 ((w64 ((w64 (b - a)).tdiv 4)) * 1)))) (w64 (a+(w64 ((w64 ((w64 (b - a)).tdiv 4)) * 2)))) (w64 (a+(w64 ((w64 ((w64 (b - a)).tdiv 4)) * 3)))))))
 (g_slices_choosePivotOrdered_int_J2 N 0 (w64 (a+(w64 ((w64 ((w64 (b - a)).tdiv 4)) * 2))))))
def g_slices_reverseRangeOrdered_int_L1 (N:Nat):Nat→(List Int)→Int→Int→Option ((List Int))
 | 0,_,_,_=>none
 | fuel+1,cap02,i,j =>
  (cond (decide (i < j))
  ((if 0≤j∧j < ((cap02.length:Nat):Int) then
  (if 0≤i∧i < ((cap02.length:Nat):Int) then
  g_slices_reverseRangeOrdered_int_L1 N fuel ((cap02.set ((i).toNat) (cap02.getD ((j).toNat) 0)).set ((j).toNat) (cap02.getD ((i).toNat) 0)) (w64 (i+1)) (w64 (j - 1))
  else none)
  else none))
  (some cap02))
def g_slices_reverseRangeOrdered_int (N:Nat) (a:Int) (b:Int) (cap0:List Int):Option ((List Int)) :=
 g_slices_reverseRangeOrdered_int_L1 N N cap0 a (w64 (b - 1))
def g_slices_partialInsertionSortOrdered_int_J6 (N:Nat) (a:Int) (b:Int) (j:Int) (i2:Int) (K_g_slices_partialInsertionSortOrdered_int_L1:(List Int)→Int→Int→Option (Bool×(List Int))) (cap06:List Int):Option (Bool×(List Int)) :=
 K_g_slices_partialInsertionSortOrdered_int_L1 cap06 i2 (w64 (j+1))
def g_slices_partialInsertionSortOrdered_int_L5 (N:Nat) (a:Int) (b:Int) (j:Int) (i2:Int) (K_g_slices_partialInsertionSortOrdered_int_L1:(List Int)→Int→Int→Option (Bool×(List Int))):Nat→(List Int)→Int→Option (Bool×(List Int))
 | 0,_,_=>none
 | fuel+1,cap05,j3 =>
  (cond (decide (j3 < b))
  ((if 0≤j3∧j3 < ((cap05.length:Nat):Int) then
  (if 0≤(w64 (j3 - 1))∧(w64 (j3 - 1)) < ((cap05.length:Nat):Int) then
  ((g_cmp_Less_int N (cap05.getD ((j3).toNat) 0) (cap05.getD ((w64 (j3 - 1)).toNat) 0)).bind fun rLess3 =>
  (cond (!rLess3)
  (g_slices_partialInsertionSortOrdered_int_J6 N a b j i2 K_g_slices_partialInsertionSortOrdered_int_L1 cap05)
  (g_slices_partialInsertionSortOrdered_int_L5 N a b j i2 K_g_slices_partialInsertionSortOrdered_int_L1 fuel ((cap05.set ((j3).toNat) (cap05.getD ((w64 (j3 - 1)).toNat) 0)).set ((w64 (j3 - 1)).toNat) (cap05.getD ((j3).toNat) 0)) (w64 (j3+1)))))
  else none)
  else none))
  (g_slices_partialInsertionSortOrdered_int_J6 N a b j i2 K_g_slices_partialInsertionSortOrdered_int_L1 cap05))
def g_slices_partialInsertionSortOrdered_int_J4 (N:Nat) (a:Int) (b:Int) (j:Int) (i2:Int) (K_g_slices_partialInsertionSortOrdered_int_L1:(List Int)→Int→Int→Option (Bool×(List Int))) (cap04:List Int):Option (Bool×(List Int)) :=
 (cond (decide ((w64 (b - i2))≥2))
 (g_slices_partialInsertionSortOrdered_int_L5 N a b j i2 K_g_slices_partialInsertionSortOrdered_int_L1 N cap04 (w64 (i2+1)))
 (g_slices_partialInsertionSortOrdered_int_J6 N a b j i2 K_g_slices_partialInsertionSortOrdered_int_L1 cap04))
def g_slices_partialInsertionSortOrdered_int_L3 (N:Nat) (a:Int) (b:Int) (j:Int) (i2:Int) (K_g_slices_partialInsertionSortOrdered_int_L1:(List Int)→Int→Int→Option (Bool×(List Int))):Nat→(List Int)→Int→Option (Bool×(List Int))
 | 0,_,_=>none
 | fuel+1,cap03,j2 =>
  (cond (decide (j2≥1))
  ((if 0≤j2∧j2 < ((cap03.length:Nat):Int) then
  (if 0≤(w64 (j2 - 1))∧(w64 (j2 - 1)) < ((cap03.length:Nat):Int) then
  ((g_cmp_Less_int N (cap03.getD ((j2).toNat) 0) (cap03.getD ((w64 (j2 - 1)).toNat) 0)).bind fun rLess2 =>
  (cond (!rLess2)
  (g_slices_partialInsertionSortOrdered_int_J4 N a b j i2 K_g_slices_partialInsertionSortOrdered_int_L1 cap03)
  (g_slices_partialInsertionSortOrdered_int_L3 N a b j i2 K_g_slices_partialInsertionSortOrdered_int_L1 fuel ((cap03.set ((j2).toNat) (cap03.getD ((w64 (j2 - 1)).toNat) 0)).set ((w64 (j2 - 1)).toNat) (cap03.getD ((j2).toNat) 0)) (w64 (j2 - 1)))))
  else none)
  else none))
  (g_slices_partialInsertionSortOrdered_int_J4 N a b j i2 K_g_slices_partialInsertionSortOrdered_int_L1 cap03))
def g_slices_partialInsertionSortOrdered_int_L2 (N:Nat) (a:Int) (b:Int) (cap02:List Int) (j:Int) (K_g_slices_partialInsertionSortOrdered_int_L1:(List Int)→Int→Int→Option (Bool×(List Int))):Nat→Int→Option (Bool×(List Int))
 | 0,_=>none
 | fuel+1,i2 =>
  (if ((decide (i2 < b))=true→0≤i2∧i2 < ((cap02.length:Nat):Int)) then
  (if ((decide (i2 < b))=true→0≤(w64 (i2 - 1))∧(w64 (i2 - 1)) < ((cap02.length:Nat):Int)) then
  ((cond (decide (i2 < b)) (g_cmp_Less_int N (cap02.getD ((i2).toNat) 0) (cap02.getD ((w64 (i2 - 1)).toNat) 0)) (some false)).bind fun rLess =>
  (cond (cond (decide (i2 < b)) (!rLess) false)
  (g_slices_partialInsertionSortOrdered_int_L2 N a b cap02 j K_g_slices_partialInsertionSortOrdered_int_L1 fuel (w64 (i2+1)))
  ((cond (i2 == b)
  (some (true,cap02))
  ((cond (decide ((w64 (b - a)) < 50))
  (some (false,cap02))
  ((if 0≤(w64 (i2 - 1))∧(w64 (i2 - 1)) < ((cap02.length:Nat):Int) then
  (if 0≤i2∧i2 < ((cap02.length:Nat):Int) then
  (cond (decide ((w64 (i2 - a))≥2))
  (g_slices_partialInsertionSortOrdered_int_L3 N a b j i2 K_g_slices_partialInsertionSortOrdered_int_L1 N ((cap02.set ((i2).toNat) (cap02.getD ((w64 (i2 - 1)).toNat) 0)).set ((w64 (i2 - 1)).toNat) (cap02.getD ((i2).toNat) 0)) (w64 (i2 - 1)))
  (g_slices_partialInsertionSortOrdered_int_J4 N a b j i2 K_g_slices_partialInsertionSortOrdered_int_L1 ((cap02.set ((i2).toNat) (cap02.getD ((w64 (i2 - 1)).toNat) 0)).set ((w64 (i2 - 1)).toNat) (cap02.getD ((i2).toNat) 0))))
  else none)
  else none))))))))
  else none)
  else none)
def g_slices_partialInsertionSortOrdered_int_L1 (N:Nat) (a:Int) (b:Int):Nat→(List Int)→Int→Int→Option (Bool×(List Int))
 | 0,_,_,_=>none
 | fuel+1,cap02,i,j =>
  (cond (decide (j < 5))
  (g_slices_partialInsertionSortOrdered_int_L2 N a b cap02 j (g_slices_partialInsertionSortOrdered_int_L1 N a b fuel) N i)
  (some (false,cap02)))
def g_slices_partialInsertionSortOrdered_int (N:Nat) (a:Int) (b:Int) (cap0:List Int):Option (Bool×(List Int)) :=
 g_slices_partialInsertionSortOrdered_int_L1 N a b N cap0 (w64 (a+1)) 0
def g_slices_partitionEqualOrdered_int_L3 (N:Nat) (a:Int) (cap02:List Int) (i2:Int) (K_g_slices_partitionEqualOrdered_int_L1:(List Int)→Int→Int→Option (Int×(List Int))):Nat→Int→Option (Int×(List Int))
 | 0,_=>none
 | fuel+1,j2 =>
  (if ((decide (i2≤j2))=true→0≤a∧a < ((cap02.length:Nat):Int)) then
  (if ((decide (i2≤j2))=true→0≤j2∧j2 < ((cap02.length:Nat):Int)) then
  ((cond (decide (i2≤j2)) (g_cmp_Less_int N (cap02.getD ((a).toNat) 0) (cap02.getD ((j2).toNat) 0)) (some false)).bind fun rLess2 =>
  (cond (cond (decide (i2≤j2)) rLess2 false)
  (g_slices_partitionEqualOrdered_int_L3 N a cap02 i2 K_g_slices_partitionEqualOrdered_int_L1 fuel (w64 (j2 - 1)))
  ((cond (decide (i2 > j2))
  (some (i2,cap02))
  ((if 0≤j2∧j2 < ((cap02.length:Nat):Int) then
  (if 0≤i2∧i2 < ((cap02.length:Nat):Int) then
  K_g_slices_partitionEqualOrdered_int_L1 ((cap02.set ((i2).toNat) (cap02.getD ((j2).toNat) 0)).set ((j2).toNat) (cap02.getD ((i2).toNat) 0)) (w64 (i2+1)) (w64 (j2 - 1))
  else none)
  else none))))))
  else none)
  else none)
def g_slices_partitionEqualOrdered_int_L2 (N:Nat) (a:Int) (cap02:List Int) (j:Int) (K_g_slices_partitionEqualOrdered_int_L1:(List Int)→Int→Int→Option (Int×(List Int))):Nat→Int→Option (Int×(List Int))
 | 0,_=>none
 | fuel+1,i2 =>
  (if ((decide (i2≤j))=true→0≤a∧a < ((cap02.length:Nat):Int)) then
  (if ((decide (i2≤j))=true→0≤i2∧i2 < ((cap02.length:Nat):Int)) then
  ((cond (decide (i2≤j)) (g_cmp_Less_int N (cap02.getD ((a).toNat) 0) (cap02.getD ((i2).toNat) 0)) (some false)).bind fun rLess =>
  (cond (cond (decide (i2≤j)) (!rLess) false)
  (g_slices_partitionEqualOrdered_int_L2 N a cap02 j K_g_slices_partitionEqualOrdered_int_L1 fuel (w64 (i2+1)))
  (g_slices_partitionEqualOrdered_int_L3 N a cap02 i2 K_g_slices_partitionEqualOrdered_int_L1 N j)))
  else none)
  else none)
def g_slices_partitionEqualOrdered_int_L1 (N:Nat) (a:Int):Nat→(List Int)→Int→Int→Option (Int×(List Int))
 | 0,_,_,_=>none
 | fuel+1,cap02,i,j =>
  g_slices_partitionEqualOrdered_int_L2 N a cap02 j (g_slices_partitionEqualOrdered_int_L1 N a fuel) N i
def g_slices_partitionEqualOrdered_int (N:Nat) (a:Int) (b:Int) (pivot:Int) (cap0:List Int):Option (Int×(List Int)) :=
 (if 0≤pivot∧pivot < ((cap0.length:Nat):Int) then
 (if 0≤a∧a < ((cap0.length:Nat):Int) then
 g_slices_partitionEqualOrdered_int_L1 N a N ((cap0.set ((a).toNat) (cap0.getD ((pivot).toNat) 0)).set ((pivot).toNat) (cap0.getD ((a).toNat) 0)) (w64 (a+1)) (w64 (b - 1))
 else none)
 else none)
def g_slices_partitionOrdered_int_L5 (N:Nat) (a:Int) (cap02:List Int) (i3:Int) (K_g_slices_partitionOrdered_int_L3:(List Int)→Int→Int→Option (Int×Bool×(List Int))):Nat→Int→Option (Int×Bool×(List Int))
 | 0,_=>none
 | fuel+1,j3 =>
  (if ((decide (i3≤j3))=true→0≤j3∧j3 < ((cap02.length:Nat):Int)) then
  (if ((decide (i3≤j3))=true→0≤a∧a < ((cap02.length:Nat):Int)) then
  ((cond (decide (i3≤j3)) (g_cmp_Less_int N (cap02.getD ((j3).toNat) 0) (cap02.getD ((a).toNat) 0)) (some false)).bind fun rLess4 =>
  (cond (cond (decide (i3≤j3)) (!rLess4) false)
  (g_slices_partitionOrdered_int_L5 N a cap02 i3 K_g_slices_partitionOrdered_int_L3 fuel (w64 (j3 - 1)))
  ((cond (decide (i3 > j3))
  ((if 0≤a∧a < ((cap02.length:Nat):Int) then
  (if 0≤j3∧j3 < ((cap02.length:Nat):Int) then
  some (j3,false,((cap02.set ((j3).toNat) (cap02.getD ((a).toNat) 0)).set ((a).toNat) (cap02.getD ((j3).toNat) 0)))
  else none)
  else none))
  ((if 0≤j3∧j3 < ((cap02.length:Nat):Int) then
  (if 0≤i3∧i3 < ((cap02.length:Nat):Int) then
  K_g_slices_partitionOrdered_int_L3 ((cap02.set ((i3).toNat) (cap02.getD ((j3).toNat) 0)).set ((j3).toNat) (cap02.getD ((i3).toNat) 0)) (w64 (i3+1)) (w64 (j3 - 1))
  else none)
  else none))))))
  else none)
  else none)
def g_slices_partitionOrdered_int_L4 (N:Nat) (a:Int) (cap02:List Int) (j2:Int) (K_g_slices_partitionOrdered_int_L3:(List Int)→Int→Int→Option (Int×Bool×(List Int))):Nat→Int→Option (Int×Bool×(List Int))
 | 0,_=>none
 | fuel+1,i3 =>
  (if ((decide (i3≤j2))=true→0≤i3∧i3 < ((cap02.length:Nat):Int)) then
  (if ((decide (i3≤j2))=true→0≤a∧a < ((cap02.length:Nat):Int)) then
  ((cond (decide (i3≤j2)) (g_cmp_Less_int N (cap02.getD ((i3).toNat) 0) (cap02.getD ((a).toNat) 0)) (some false)).bind fun rLess3 =>
  (cond (cond (decide (i3≤j2)) rLess3 false)
  (g_slices_partitionOrdered_int_L4 N a cap02 j2 K_g_slices_partitionOrdered_int_L3 fuel (w64 (i3+1)))
  (g_slices_partitionOrdered_int_L5 N a cap02 i3 K_g_slices_partitionOrdered_int_L3 N j2)))
  else none)
  else none)
def g_slices_partitionOrdered_int_L3 (N:Nat) (a:Int):Nat→(List Int)→Int→Int→Option (Int×Bool×(List Int))
 | 0,_,_,_=>none
 | fuel+1,cap02,i2,j2 =>
  g_slices_partitionOrdered_int_L4 N a cap02 j2 (g_slices_partitionOrdered_int_L3 N a fuel) N i2
def g_slices_partitionOrdered_int_L2 (N:Nat) (a:Int) (pivot:Int) (cap0:List Int) (i:Int):Nat→Int→Option (Int×Bool×(List Int))
 | 0,_=>none
 | fuel+1,j =>
  (if ((decide (i≤j))=true→0≤j∧j < ((((cap0.set ((a).toNat) (cap0.getD ((pivot).toNat) 0)).set ((pivot).toNat) (cap0.getD ((a).toNat) 0)).length:Nat):Int)) then
  (if ((decide (i≤j))=true→0≤a∧a < ((((cap0.set ((a).toNat) (cap0.getD ((pivot).toNat) 0)).set ((pivot).toNat) (cap0.getD ((a).toNat) 0)).length:Nat):Int)) then
  ((cond (decide (i≤j)) (g_cmp_Less_int N (((cap0.set ((a).toNat) (cap0.getD ((pivot).toNat) 0)).set ((pivot).toNat) (cap0.getD ((a).toNat) 0)).getD ((j).toNat) 0) (((cap0.set ((a).toNat) (cap0.getD ((pivot).toNat) 0)).set ((pivot).toNat) (cap0.getD ((a).toNat) 0)).getD ((a).toNat) 0)) (some false)).bind fun rLess2 =>
  (cond (cond (decide (i≤j)) (!rLess2) false)
  (g_slices_partitionOrdered_int_L2 N a pivot cap0 i fuel (w64 (j - 1)))
  ((cond (decide (i > j))
  ((if 0≤a∧a < ((((cap0.set ((a).toNat) (cap0.getD ((pivot).toNat) 0)).set ((pivot).toNat) (cap0.getD ((a).toNat) 0)).length:Nat):Int) then
  (if 0≤j∧j < ((((cap0.set ((a).toNat) (cap0.getD ((pivot).toNat) 0)).set ((pivot).toNat) (cap0.getD ((a).toNat) 0)).length:Nat):Int) then
  some (j,true,((((cap0.set ((a).toNat) (cap0.getD ((pivot).toNat) 0)).set ((pivot).toNat) (cap0.getD ((a).toNat) 0)).set ((j).toNat) (((cap0.set ((a).toNat) (cap0.getD ((pivot).toNat) 0)).set ((pivot).toNat) (cap0.getD ((a).toNat) 0)).getD ((a).toNat) 0)).set ((a).toNat) (((cap0.set ((a).toNat) (cap0.getD ((pivot).toNat) 0)).set ((pivot).toNat) (cap0.getD ((a).toNat) 0)).getD ((j).toNat) 0)))
  else none)
  else none))
  ((if 0≤j∧j < ((((cap0.set ((a).toNat) (cap0.getD ((pivot).toNat) 0)).set ((pivot).toNat) (cap0.getD ((a).toNat) 0)).length:Nat):Int) then
  (if 0≤i∧i < ((((cap0.set ((a).toNat) (cap0.getD ((pivot).toNat) 0)).set ((pivot).toNat) (cap0.getD ((a).toNat) 0)).length:Nat):Int) then
  g_slices_partitionOrdered_int_L3 N a N ((((cap0.set ((a).toNat) (cap0.getD ((pivot).toNat) 0)).set ((pivot).toNat) (cap0.getD ((a).toNat) 0)).set ((i).toNat) (((cap0.set ((a).toNat) (cap0.getD ((pivot).toNat) 0)).set ((pivot).toNat) (cap0.getD ((a).toNat) 0)).getD ((j).toNat) 0)).set ((j).toNat) (((cap0.set ((a).toNat) (cap0.getD ((pivot).toNat) 0)).set ((pivot).toNat) (cap0.getD ((a).toNat) 0)).getD ((i).toNat) 0)) (w64 (i+1)) (w64 (j - 1))
  else none)
  else none))))))
  else none)
  else none)
def g_slices_partitionOrdered_int_L1 (N:Nat) (a:Int) (b:Int) (pivot:Int) (cap0:List Int):Nat→Int→Option (Int×Bool×(List Int))
 | 0,_=>none
 | fuel+1,i =>
  (if ((decide (i≤(w64 (b - 1))))=true→0≤i∧i < ((((cap0.set ((a).toNat) (cap0.getD ((pivot).toNat) 0)).set ((pivot).toNat) (cap0.getD ((a).toNat) 0)).length:Nat):Int)) then
  (if ((decide (i≤(w64 (b - 1))))=true→0≤a∧a < ((((cap0.set ((a).toNat) (cap0.getD ((pivot).toNat) 0)).set ((pivot).toNat) (cap0.getD ((a).toNat) 0)).length:Nat):Int)) then
  ((cond (decide (i≤(w64 (b - 1)))) (g_cmp_Less_int N (((cap0.set ((a).toNat) (cap0.getD ((pivot).toNat) 0)).set ((pivot).toNat) (cap0.getD ((a).toNat) 0)).getD ((i).toNat) 0) (((cap0.set ((a).toNat) (cap0.getD ((pivot).toNat) 0)).set ((pivot).toNat) (cap0.getD ((a).toNat) 0)).getD ((a).toNat) 0)) (some false)).bind fun rLess =>
  (cond (cond (decide (i≤(w64 (b - 1)))) rLess false)
  (g_slices_partitionOrdered_int_L1 N a b pivot cap0 fuel (w64 (i+1)))
  (g_slices_partitionOrdered_int_L2 N a pivot cap0 i N (w64 (b - 1)))))
  else none)
  else none)
def g_slices_partitionOrdered_int (N:Nat) (a:Int) (b:Int) (pivot:Int) (cap0:List Int):Option (Int×Bool×(List Int)) :=
 (if 0≤pivot∧pivot < ((cap0.length:Nat):Int) then
 (if 0≤a∧a < ((cap0.length:Nat):Int) then
 g_slices_partitionOrdered_int_L1 N a b pivot cap0 N (w64 (a+1))
 else none)
 else none)
def g_slices_pdqsortOrdered_int_J4 (N:Nat) (a2:Int) (b2:Int) (wasBalanced:Bool) (wasPartitioned:Bool) (limit3:Int) (pivot:Int) (R_:Int→Int→Int→(List Int)→Option ((List Int))) (K_g_slices_pdqsortOrdered_int_L1:(List Int)→Int→Int→Int→Bool→Bool→Option ((List Int))) (cap05:List Int):Option ((List Int)) :=
 (if ((decide (a2 > 0))=true→0≤(w64 (a2 - 1))∧(w64 (a2 - 1)) < ((cap05.length:Nat):Int)) then
 (if ((decide (a2 > 0))=true→0≤pivot∧pivot < ((cap05.length:Nat):Int)) then
 ((cond (decide (a2 > 0)) (g_cmp_Less_int N (cap05.getD ((w64 (a2 - 1)).toNat) 0) (cap05.getD ((pivot).toNat) 0)) (some false)).bind fun rLess =>
 (cond (cond (decide (a2 > 0)) (!rLess) false)
 (((g_slices_partitionEqualOrdered_int N a2 b2 pivot cap05).bind fun rpartitionEqu =>
 (if rpartitionEqu.2.length=cap05.length then
 K_g_slices_pdqsortOrdered_int_L1 rpartitionEqu.2 rpartitionEqu.1 b2 limit3 wasBalanced wasPartitioned
 else none)))
 (((g_slices_partitionOrdered_int N a2 b2 pivot cap05).bind fun rpartitionOrd =>
 (if rpartitionOrd.2.2.length=cap05.length then
 (cond (decide ((w64 (rpartitionOrd.1 - a2)) < (w64 (b2 - rpartitionOrd.1))))
 (((R_ a2 rpartitionOrd.1 limit3 rpartitionOrd.2.2).bind fun rpdqsortOrder =>
 (if rpdqsortOrder.length=rpartitionOrd.2.2.length then
 K_g_slices_pdqsortOrdered_int_L1 rpdqsortOrder (w64 (rpartitionOrd.1+1)) b2 limit3 (decide ((w64 (rpartitionOrd.1 - a2))≥(w64 ((w64 (b2 - a2)).tdiv 8)))) rpartitionOrd.2.1
 else none)))
 (((R_ (w64 (rpartitionOrd.1+1)) b2 limit3 rpartitionOrd.2.2).bind fun rpdqsortOrder2 =>
 (if rpdqsortOrder2.length=rpartitionOrd.2.2.length then
 K_g_slices_pdqsortOrdered_int_L1 rpdqsortOrder2 a2 rpartitionOrd.1 limit3 (decide ((w64 (b2 - rpartitionOrd.1))≥(w64 ((w64 (b2 - a2)).tdiv 8)))) rpartitionOrd.2.1
 else none))))
 else none)))))
 else none)
 else none)
def g_slices_pdqsortOrdered_int_J3 (N:Nat) (a2:Int) (b2:Int) (wasBalanced:Bool) (wasPartitioned:Bool) (limit3:Int) (R_:Int→Int→Int→(List Int)→Option ((List Int))) (K_g_slices_pdqsortOrdered_int_L1:(List Int)→Int→Int→Int→Bool→Bool→Option ((List Int))) (cap04:List Int) (pivot:Int) (hint:Int):Option ((List Int)) :=
 (cond (cond (cond wasBalanced wasPartitioned false) (hint == 1) false)
 (((g_slices_partialInsertionSortOrdered_int N a2 b2 cap04).bind fun rpartialInser =>
 (if rpartialInser.2.length=cap04.length then
 (cond rpartialInser.1
 (some rpartialInser.2)
 (g_slices_pdqsortOrdered_int_J4 N a2 b2 wasBalanced wasPartitioned limit3 pivot R_ K_g_slices_pdqsortOrdered_int_L1 rpartialInser.2))
 else none)))
 (g_slices_pdqsortOrdered_int_J4 N a2 b2 wasBalanced wasPartitioned limit3 pivot R_ K_g_slices_pdqsortOrdered_int_L1 cap04))
def g_slices_pdqsortOrdered_int_J2 (N:Nat) (a2:Int) (b2:Int) (wasBalanced:Bool) (wasPartitioned:Bool) (R_:Int→Int→Int→(List Int)→Option ((List Int))) (K_g_slices_pdqsortOrdered_int_L1:(List Int)→Int→Int→Int→Bool→Bool→Option ((List Int))) (cap03:List Int) (limit3:Int):Option ((List Int)) :=
 ((g_slices_choosePivotOrdered_int N cap03 a2 b2).bind fun rchoosePivotO =>
 (cond (rchoosePivotO.2 == 2)
 (((g_slices_reverseRangeOrdered_int N a2 b2 cap03).bind fun rreverseRange =>
 (if rreverseRange.length=cap03.length then
 g_slices_pdqsortOrdered_int_J3 N a2 b2 wasBalanced wasPartitioned limit3 R_ K_g_slices_pdqsortOrdered_int_L1 rreverseRange (w64 ((w64 (b2 - 1)) - (w64 (rchoosePivotO.1 - a2)))) 1
 else none)))
 (g_slices_pdqsortOrdered_int_J3 N a2 b2 wasBalanced wasPartitioned limit3 R_ K_g_slices_pdqsortOrdered_int_L1 cap03 rchoosePivotO.1 rchoosePivotO.2)))
def g_slices_pdqsortOrdered_int_L1 (N:Nat) (R_:Int→Int→Int→(List Int)→Option ((List Int))):Nat→(List Int)→Int→Int→Int→Bool→Bool→Option ((List Int))
 | 0,_,_,_,_,_,_=>none
 | fuel+1,cap02,a2,b2,limit2,wasBalanced,wasPartitioned =>
  (cond (decide ((w64 (b2 - a2))≤12))
  (((g_slices_insertionSortOrdered_int N a2 b2 cap02).bind fun rinsertionSor =>
  (if rinsertionSor.length=cap02.length then
  some rinsertionSor
  else none)))
  ((cond (limit2 == 0)
  (((g_slices_heapSortOrdered_int N a2 b2 cap02).bind fun rheapSortOrde =>
  (if rheapSortOrde.length=cap02.length then
  some rheapSortOrde
  else none)))
  ((cond (!wasBalanced)
  (((g_slices_breakPatternsOrdered_int N a2 b2 cap02).bind fun rbreakPattern =>
  (if rbreakPattern.length=cap02.length then
  g_slices_pdqsortOrdered_int_J2 N a2 b2 wasBalanced wasPartitioned R_ (g_slices_pdqsortOrdered_int_L1 N R_ fuel) rbreakPattern (w64 (limit2 - 1))
  else none)))
  (g_slices_pdqsortOrdered_int_J2 N a2 b2 wasBalanced wasPartitioned R_ (g_slices_pdqsortOrdered_int_L1 N R_ fuel) cap02 limit2))))))
def g_slices_pdqsortOrdered_int (N:Nat):Nat→Int→Int→Int→(List Int)→Option ((List Int))
 | 0,_,_,_,_=>none
 | fuel+1,a,b,limit,cap0 =>
  g_slices_pdqsortOrdered_int_L1 N (g_slices_pdqsortOrdered_int N fuel) N cap0 a b limit true true
def g_slices_Sort_int_int (N:Nat) (cap0:List Int):Option ((List Int)) :=
 ((g_math_bits_Len N (IntKind.u64.wrap (((cap0.length:Nat):Int)))).bind fun rLen =>
 ((g_slices_pdqsortOrdered_int N N 0 ((cap0.length:Nat):Int) rLen cap0).bind fun rpdqsortOrder =>
 (if rpdqsortOrder.length=cap0.length then
 some rpdqsortOrder
 else none)))
def g_slices_Compact_int_int_J3 (N:Nat) (cap0:List Int) (k:Int) (k22:Int) (K_g_slices_Compact_int_int_L2:(List Int)→Int→Int→Option ((List Int)×(List Int))) (K_g_slices_Compact_int_int_L1:Int→Option ((List Int)×(List Int))) (cap03:List Int) (k3:Int):Option ((List Int)×(List Int)) :=
 K_g_slices_Compact_int_int_L2 cap03 k3 (w64 (k22+1))
def g_slices_Compact_int_int_L2 (N:Nat) (cap0:List Int) (k:Int) (K_g_slices_Compact_int_int_L1:Int→Option ((List Int)×(List Int))):Nat→(List Int)→Int→Int→Option ((List Int)×(List Int))
 | 0,_,_,_=>none
 | fuel+1,cap02,k2,k22 =>
  (cond (decide (k22 < (((cap0.length - (k).toNat):Nat):Int)))
  ((if 0≤k22∧k22 < (((cap0.length - (k).toNat):Nat):Int) then
  (if (k).toNat≤cap0.length∧cap0.length≤cap02.length then
  (if 0≤(w64 (k22 - 1))∧(w64 (k22 - 1)) < (((cap0.length - (k).toNat):Nat):Int) then
  (cond ((cap02.getD (addz (k).toNat (k22).toNat) 0) != (cap02.getD (addz (k).toNat (w64 (k22 - 1)).toNat) 0))
  ((if 0≤k2∧k2 < ((cap02.length:Nat):Int) then
  g_slices_Compact_int_int_J3 N cap0 k k22 (g_slices_Compact_int_int_L2 N cap0 k K_g_slices_Compact_int_int_L1 fuel) K_g_slices_Compact_int_int_L1 (cap02.set ((k2).toNat) (cap02.getD (addz (k).toNat (k22).toNat) 0)) (w64 (k2+1))
  else none))
  (g_slices_Compact_int_int_J3 N cap0 k k22 (g_slices_Compact_int_int_L2 N cap0 k K_g_slices_Compact_int_int_L1 fuel) K_g_slices_Compact_int_int_L1 cap02 k2))
  else none)
  else none)
  else none))
  ((if (k2).toNat≤cap02.length∧cap02.length≤cap02.length then
  (if 0≤k2 then
  (if 0 < (cap02.length - (k2).toNat)∧(k2).toNat+(cap02.length - (k2).toNat)≤cap02.length then
  (if 0≤(k2).toNat∧(k2).toNat≤cap02.length then
  some ((cap02.take ((k2).toNat)),(cap02.take ((k2).toNat)))
  else none)
  else none)
  else none)
  else none)))
def g_slices_Compact_int_int_L1 (N:Nat) (cap0:List Int):Nat→Int→Option ((List Int)×(List Int))
 | 0,_=>none
 | fuel+1,k =>
  (cond (decide (k < ((cap0.length:Nat):Int)))
  ((if 0≤k∧k < ((cap0.length:Nat):Int) then
  (if 0≤(w64 (k - 1))∧(w64 (k - 1)) < ((cap0.length:Nat):Int) then
  (cond ((cap0.getD ((k).toNat) 0) == (cap0.getD ((w64 (k - 1)).toNat) 0))
  ((if (k).toNat≤cap0.length∧cap0.length≤cap0.length then
  (if 0≤k then
  g_slices_Compact_int_int_L2 N cap0 k (g_slices_Compact_int_int_L1 N cap0 fuel) N cap0 k 1
  else none)
  else none))
  (g_slices_Compact_int_int_L1 N cap0 fuel (w64 (k+1))))
  else none)
  else none))
  (some (cap0,cap0)))
def g_slices_Compact_int_int (N:Nat) (cap0:List Int):Option ((List Int)×(List Int)) :=
 (cond (decide (((cap0.length:Nat):Int) < 2))
 (some (cap0,cap0))
 (g_slices_Compact_int_int_L1 N cap0 N 1))
def g_berth_sums_J2 (N:Nat) (sizes:List Int) (but:Int) (gap:Int) (x:Int) (K_g_berth_sums_L1:(List Int)→Int→Option ((List Int))) (out2:List Int):Option ((List Int)) :=
 K_g_berth_sums_L1 out2 (w64 (x+1))
def g_berth_sums_L3 (N:Nat) (sizes:List Int) (but:Int) (gap:Int) (out:List Int) (x:Int) (K_g_berth_sums_L1:(List Int)→Int→Option ((List Int))):Nat→(List Int)→Nat→Int→Option ((List Int))
 | 0,_,_,_=>none
 | fuel+1,out3,xn,x2 =>
  (cond (decide (x2 < ((out.length:Nat):Int)))
  ((if 0≤x2∧x2 < ((xn:Nat):Int) then
  (if 0+xn≤out3.length then
  (if (out3.length+1) * 8≤140737488355328 then
  g_berth_sums_L3 N sizes but gap out x K_g_berth_sums_L1 fuel (out3 ++ ([(w64 ((w64 ((out3.getD ((x2).toNat) 0)+(sizes.getD ((x).toNat) 0)))+gap))]:List Int)) xn (w64 (x2+1))
  else none)
  else none)
  else none))
  (g_berth_sums_J2 N sizes but gap x K_g_berth_sums_L1 out3))
def g_berth_sums_L1 (N:Nat) (sizes:List Int) (but:Int) (gap:Int):Nat→(List Int)→Int→Option ((List Int))
 | 0,_,_=>none
 | fuel+1,out,x =>
  (cond (decide (x < ((sizes.length:Nat):Int)))
  ((if 0≤x∧x < ((sizes.length:Nat):Int) then
  (cond (x == but)
  (g_berth_sums_J2 N sizes but gap x (g_berth_sums_L1 N sizes but gap fuel) out)
  (g_berth_sums_L3 N sizes but gap out x (g_berth_sums_L1 N sizes but gap fuel) N out out.length 0))
  else none))
  (((g_slices_Sort_int_int N out).bind fun rSort =>
  (if rSort.length=out.length then
  ((g_slices_Compact_int_int N rSort).bind fun rCompact =>
  some rCompact.2)
  else none))))
def g_berth_sums (N:Nat) (sizes:List Int) (but:Int) (gap:Int):Option ((List Int)) :=
 g_berth_sums_L1 N sizes but gap N ([gap]:List Int) 0
def g_berth_inside (N:Nat) (d:TDock) (b:Tberth_box):Option (Bool) :=
 some (cond (cond (cond (decide (b.f_x≥d.f_Gap)) (decide (b.f_y≥d.f_Gap)) false) (decide ((w64 ((w64 (b.f_x+b.f_w))+d.f_Gap))≤d.f_Length)) false) (decide ((w64 ((w64 (b.f_y+b.f_h))+d.f_Gap))≤d.f_Width)) false)
def g_berth_apart (N:Nat) (a:Tberth_box) (b:Tberth_box) (gap:Int):Option (Bool) :=
 some (cond (cond (cond (decide ((w64 ((w64 (a.f_x+a.f_w))+gap))≤b.f_x)) true (decide ((w64 ((w64 (b.f_x+b.f_w))+gap))≤a.f_x))) true (decide ((w64 ((w64 (a.f_y+a.f_h))+gap))≤b.f_y))) true (decide ((w64 ((w64 (b.f_y+b.f_h))+gap))≤a.f_y)))
def g_berth_Place_1_1 (N:Nat) (a:Tberth_box) (cap0:Tberth_box) (cap1:TDock):Option (Bool) :=
 ((g_berth_apart N a cap0 cap1.f_Gap).bind fun rapart =>
 some (!rapart))
def g_slices_IndexFunc_berth_box_berth_box_L1 (N:Nat) (s:List Tberth_box) (cap0:Tberth_box) (cap1:TDock):Nat→Int→Option (Int)
 | 0,_=>none
 | fuel+1,x =>
  (cond (decide (x < ((s.length:Nat):Int)))
  ((if 0≤x∧x < ((s.length:Nat):Int) then
  ((g_berth_Place_1_1 N (s.getD ((x).toNat) Tberth_box.d) cap0 cap1).bind fun rPlace11 =>
  (cond rPlace11
  (some x)
  (g_slices_IndexFunc_berth_box_berth_box_L1 N s cap0 cap1 fuel (w64 (x+1)))))
  else none))
  (some (-1)))
def g_slices_IndexFunc_berth_box_berth_box (N:Nat) (s:List Tberth_box) (cap0:Tberth_box) (cap1:TDock):Option (Int) :=
 g_slices_IndexFunc_berth_box_berth_box_L1 N s cap0 cap1 N 0
def g_slices_ContainsFunc_berth_box_berth_box (N:Nat) (s:List Tberth_box) (cap0:Tberth_box) (cap1:TDock):Option (Bool) :=
 ((g_slices_IndexFunc_berth_box_berth_box N s cap0 cap1).bind fun rbox =>
 some (decide (rbox≥0)))
def g_berth_Place_1_J3 (N:Nat) (i:Int) (cap0:List TCall) (cap2:List Int) (cap3:TDock) (cap5:List Int) (rsums:(List Int)) (x:Int) (rsums2:(List Int)) (x2:Int) (R_:Int→(List TCall)→(List Int)→TDock→(List Int)→(List Tberth_box)→Option (Bool×(List Tberth_box))) (K_g_berth_Place_1_L2:(List Tberth_box)→Int→Option (Bool×(List Tberth_box))) (K_g_berth_Place_1_L1:(List Tberth_box)→Int→Option (Bool×(List Tberth_box))) (cap63:List Tberth_box):Option (Bool×(List Tberth_box)) :=
 K_g_berth_Place_1_L2 cap63 (w64 (x2+1))
def g_berth_Place_1_L2 (N:Nat) (i:Int) (cap0:List TCall) (cap2:List Int) (cap3:TDock) (cap5:List Int) (rsums:(List Int)) (x:Int) (rsums2:(List Int)) (R_:Int→(List TCall)→(List Int)→TDock→(List Int)→(List Tberth_box)→Option (Bool×(List Tberth_box))) (K_g_berth_Place_1_L1:(List Tberth_box)→Int→Option (Bool×(List Tberth_box))):Nat→(List Tberth_box)→Int→Option (Bool×(List Tberth_box))
 | 0,_,_=>none
 | fuel+1,cap62,x2 =>
  (cond (decide (x2 < ((rsums2.length:Nat):Int)))
  ((if 0≤x2∧x2 < ((rsums2.length:Nat):Int) then
  (if 0≤i∧i < ((cap0.length:Nat):Int) then
  ((g_berth_inside N cap3 (⟨(rsums.getD ((x).toNat) 0),(rsums2.getD ((x2).toNat) 0),(cap0.getD ((i).toNat) TCall.d).f_Length,(cap0.getD ((i).toNat) TCall.d).f_Beam⟩:Tberth_box)).bind fun rinside =>
  (if ((!(!rinside))=true→0≤(i).toNat∧(i).toNat≤cap62.length) then
  (if ((!(!rinside))=true→0≤i) then
  (if 0≤(i).toNat∧(i).toNat≤cap62.length then
  ((cond (!(!rinside)) (g_slices_ContainsFunc_berth_box_berth_box N ((cap62.take ((i).toNat)).drop 0) (⟨(rsums.getD ((x).toNat) 0),(rsums2.getD ((x2).toNat) 0),(cap0.getD ((i).toNat) TCall.d).f_Length,(cap0.getD ((i).toNat) TCall.d).f_Beam⟩:Tberth_box) cap3) (some false)).bind fun rbox =>
  (cond (cond (!rinside) true rbox)
  (g_berth_Place_1_J3 N i cap0 cap2 cap3 cap5 rsums x rsums2 x2 R_ (g_berth_Place_1_L2 N i cap0 cap2 cap3 cap5 rsums x rsums2 R_ K_g_berth_Place_1_L1 fuel) K_g_berth_Place_1_L1 cap62)
  ((if 0≤i∧i < ((cap62.length:Nat):Int) then
  ((R_ (w64 (i+1)) cap0 cap2 cap3 cap5 (cap62.set ((i).toNat) (⟨(rsums.getD ((x).toNat) 0),(rsums2.getD ((x2).toNat) 0),(cap0.getD ((i).toNat) TCall.d).f_Length,(cap0.getD ((i).toNat) TCall.d).f_Beam⟩:Tberth_box))).bind fun rPlace1 =>
  (if rPlace1.2.length=(cap62.set ((i).toNat) (⟨(rsums.getD ((x).toNat) 0),(rsums2.getD ((x2).toNat) 0),(cap0.getD ((i).toNat) TCall.d).f_Length,(cap0.getD ((i).toNat) TCall.d).f_Beam⟩:Tberth_box)).length then
  (cond rPlace1.1
  (some (true,rPlace1.2))
  (g_berth_Place_1_J3 N i cap0 cap2 cap3 cap5 rsums x rsums2 x2 R_ (g_berth_Place_1_L2 N i cap0 cap2 cap3 cap5 rsums x rsums2 R_ K_g_berth_Place_1_L1 fuel) K_g_berth_Place_1_L1 rPlace1.2))
  else none))
  else none))))
  else none)
  else none)
  else none))
  else none)
  else none))
  (K_g_berth_Place_1_L1 cap62 (w64 (x+1))))
def g_berth_Place_1_L1 (N:Nat) (i:Int) (cap0:List TCall) (cap2:List Int) (cap3:TDock) (cap5:List Int) (rsums:(List Int)) (R_:Int→(List TCall)→(List Int)→TDock→(List Int)→(List Tberth_box)→Option (Bool×(List Tberth_box))):Nat→(List Tberth_box)→Int→Option (Bool×(List Tberth_box))
 | 0,_,_=>none
 | fuel+1,cap6,x =>
  (cond (decide (x < ((rsums.length:Nat):Int)))
  ((if 0≤x∧x < ((rsums.length:Nat):Int) then
  ((g_berth_sums N cap5 i cap3.f_Gap).bind fun rsums2 =>
  g_berth_Place_1_L2 N i cap0 cap2 cap3 cap5 rsums x rsums2 R_ (g_berth_Place_1_L1 N i cap0 cap2 cap3 cap5 rsums R_ fuel) N cap6 0)
  else none))
  (some (false,cap6)))
def g_berth_Place_1 (N:Nat):Nat→Int→(List TCall)→(List Int)→TDock→(List Int)→(List Tberth_box)→Option (Bool×(List Tberth_box))
 | 0,_,_,_,_,_,_=>none
 | fuel+1,i,cap0,cap2,cap3,cap5,cap7 =>
  (cond (i == ((cap0.length:Nat):Int))
  (some (true,cap7))
  (((g_berth_sums N cap2 i cap3.f_Gap).bind fun rsums =>
  g_berth_Place_1_L1 N i cap0 cap2 cap3 cap5 rsums (g_berth_Place_1 N fuel) N cap7 0)))
def g_berth_Place_L2 (N:Nat) (c:List TCall) (rPlace1:Bool×(List Tberth_box)):Nat→(List TSpot)→Int→Option ((List TSpot)×Int)
 | 0,_,_=>none
 | fuel+1,out,x2 =>
  (cond (decide (x2 < ((rPlace1.2.length:Nat):Int)))
  ((if 0≤x2∧x2 < ((rPlace1.2.length:Nat):Int) then
  (if 0≤x2∧x2 < ((c.length:Nat):Int) then
  (if (out.length+1) * 32≤140737488355328 then
  g_berth_Place_L2 N c rPlace1 fuel (out ++ ([(⟨(c.getD ((x2).toNat) TCall.d).f_Name,(rPlace1.2.getD ((x2).toNat) Tberth_box.d).f_x,(rPlace1.2.getD ((x2).toNat) Tberth_box.d).f_y⟩:TSpot)]:List TSpot)) (w64 (x2+1))
  else none)
  else none)
  else none))
  (some (out,0)))
def g_berth_Place_L1 (N:Nat) (d:TDock) (c:List TCall):Nat→(List Int)→(List Int)→Int→Option ((List TSpot)×Int)
 | 0,_,_,_=>none
 | fuel+1,lengths,beams,x =>
  (cond (decide (x < ((c.length:Nat):Int)))
  ((if 0≤x∧x < ((c.length:Nat):Int) then
  (if (lengths.length+1) * 8≤140737488355328 then
  (if (beams.length+1) * 8≤140737488355328 then
  g_berth_Place_L1 N d c fuel (lengths ++ ([(c.getD ((x).toNat) TCall.d).f_Length]:List Int)) (beams ++ ([(c.getD ((x).toNat) TCall.d).f_Beam]:List Int)) (w64 (x+1))
  else none)
  else none)
  else none))
  ((if 0≤((c.length:Nat):Int)∧(32:Int) * ((c.length:Nat):Int)≤281474976710656∧((c.length:Nat):Int)≤9223372036854775807 then
  ((g_berth_Place_1 N N 0 c lengths d beams (List.replicate c.length Tberth_box.d:List Tberth_box)).bind fun rPlace1 =>
  (if rPlace1.2.length=(List.replicate c.length Tberth_box.d:List Tberth_box).length then
  (cond (!rPlace1.1)
  (some (([]:List TSpot),29))
  (g_berth_Place_L2 N c rPlace1 N ([]:List TSpot) 0))
  else none))
  else none)))
def g_berth_Place (N:Nat) (d:TDock) (c:List TCall):Option ((List TSpot)×Int) :=
 ((g_berth_both N d c).bind fun rboth =>
 (cond (rboth != 0)
 (some (([]:List TSpot),rboth))
 ((cond (decide (((c.length:Nat):Int) > 4))
 (some (([]:List TSpot),8))
 (g_berth_Place_L1 N d c N ([]:List Int) ([]:List Int) 0)))))
def g_b_IsName_L1 (N:Nat) (s:ByteArray):Nat→Int→Option (Bool)
 | 0,_=>none
 | fuel+1,i =>
  (cond (decide (i < ((s.size:Nat):Int)))
  ((if 0≤i∧i < ((s.size:Nat):Int) then
  (cond (cond (!(cond (cond (decide ((byteAt s ((i).toNat))≥97)) (decide ((byteAt s ((i).toNat))≤122)) false) true (cond (decide ((byteAt s ((i).toNat))≥65)) (decide ((byteAt s ((i).toNat))≤90)) false))) (cond (i == 0) true (cond ((byteAt s ((i).toNat)) != 45) (cond (decide ((byteAt s ((i).toNat)) < 48)) true (decide ((byteAt s ((i).toNat)) > 57))) false)) false)
  (some false)
  (g_b_IsName_L1 N s fuel (w64 (i+1))))
  else none))
  (some true))
def g_b_IsName (N:Nat) (s:ByteArray):Option (Bool) :=
 (cond (cond (decide (((s.size:Nat):Int) < 1)) true (decide (((s.size:Nat):Int) > 12)))
 (some false)
 (g_b_IsName_L1 N s N 0))
def g_r06_DockOf_L1 (N:Nat) (d:List TDock) (name:ByteArray):Nat→Int→Option (Int)
 | 0,_=>none
 | fuel+1,i =>
  (cond (decide (i < ((d.length:Nat):Int)))
  ((if 0≤i∧i < ((d.length:Nat):Int) then
  (cond (streq ((d.getD ((i).toNat) TDock.d).f_Name) name)
  (some i)
  (g_r06_DockOf_L1 N d name fuel (w64 (i+1))))
  else none))
  (some (-1)))
def g_r06_DockOf (N:Nat) (d:List TDock) (name:ByteArray):Option (Int) :=
 g_r06_DockOf_L1 N d name N 0
def g_r06_inside (N:Nat) (n:Int) (low:Int) (high:Int):Option (Bool) :=
 some (cond (decide (n≥low)) (decide (n≤high)) false)
def g_r06_CheckDocks_L1 (N:Nat) (d:List TDock):Nat→Int→Option (Int)
 | 0,_=>none
 | fuel+1,i =>
  (cond (decide (i < ((d.length:Nat):Int)))
  ((if 0≤i∧i < ((d.length:Nat):Int) then
  ((g_b_IsName N ((d.getD ((i).toNat) TDock.d).f_Name)).bind fun rIsName =>
  (cond (!rIsName)
  (some 4)
  (((g_r06_DockOf N d ((d.getD ((i).toNat) TDock.d).f_Name)).bind fun rDockOf =>
  (cond (rDockOf != i)
  (some 5)
  (((g_r06_inside N ((d.getD ((i).toNat) TDock.d).f_Length) 1 1000000).bind fun rinside =>
  (if ((!(!rinside))=true→0≤i∧i < ((d.length:Nat):Int)) then
  ((cond (!(!rinside)) (g_r06_inside N ((d.getD ((i).toNat) TDock.d).f_Width) 1 1000000) (some false)).bind fun rinside2 =>
  (if ((!(cond (!rinside) true (!rinside2)))=true→0≤i∧i < ((d.length:Nat):Int)) then
  ((cond (!(cond (!rinside) true (!rinside2))) (g_r06_inside N ((d.getD ((i).toNat) TDock.d).f_Sill) (-1000000) 1000000) (some false)).bind fun rinside3 =>
  (if ((!(cond (cond (!rinside) true (!rinside2)) true (!rinside3)))=true→0≤i∧i < ((d.length:Nat):Int)) then
  ((cond (!(cond (cond (!rinside) true (!rinside2)) true (!rinside3))) (g_r06_inside N ((d.getD ((i).toNat) TDock.d).f_Floor) (-1000000) 1000000) (some false)).bind fun rinside4 =>
  (if ((!(cond (cond (cond (!rinside) true (!rinside2)) true (!rinside3)) true (!rinside4)))=true→0≤i∧i < ((d.length:Nat):Int)) then
  ((cond (!(cond (cond (cond (!rinside) true (!rinside2)) true (!rinside3)) true (!rinside4))) (g_r06_inside N ((d.getD ((i).toNat) TDock.d).f_Gap) 0 1000000) (some false)).bind fun rinside5 =>
  (cond (cond (cond (cond (cond (!rinside) true (!rinside2)) true (!rinside3)) true (!rinside4)) true (!rinside5))
  (some 2)
  (g_r06_CheckDocks_L1 N d fuel (w64 (i+1)))))
  else none))
  else none))
  else none))
  else none))))))))
  else none))
  (some 0))
def g_r06_CheckDocks (N:Nat) (d:List TDock):Option (Int) :=
 (cond (decide (((d.length:Nat):Int) > 4))
 (some 8)
 (g_r06_CheckDocks_L1 N d N 0))
def g_r06_CallOf_L1 (N:Nat) (c:List TCall) (name:ByteArray):Nat→Int→Option (Int)
 | 0,_=>none
 | fuel+1,i =>
  (cond (decide (i < ((c.length:Nat):Int)))
  ((if 0≤i∧i < ((c.length:Nat):Int) then
  (cond (streq ((c.getD ((i).toNat) TCall.d).f_Name) name)
  (some i)
  (g_r06_CallOf_L1 N c name fuel (w64 (i+1))))
  else none))
  (some (-1)))
def g_r06_CallOf (N:Nat) (c:List TCall) (name:ByteArray):Option (Int) :=
 g_r06_CallOf_L1 N c name N 0
def g_r06_CheckCalls_L1 (N:Nat) (c:List TCall):Nat→Int→Option (Int)
 | 0,_=>none
 | fuel+1,i =>
  (cond (decide (i < ((c.length:Nat):Int)))
  ((if 0≤i∧i < ((c.length:Nat):Int) then
  ((g_b_IsName N ((c.getD ((i).toNat) TCall.d).f_Name)).bind fun rIsName =>
  (cond (!rIsName)
  (some 4)
  (((g_r06_CallOf N c ((c.getD ((i).toNat) TCall.d).f_Name)).bind fun rCallOf =>
  (cond (rCallOf != i)
  (some 5)
  (((g_r06_inside N ((c.getD ((i).toNat) TCall.d).f_Length) 1 1000000).bind fun rinside =>
  ((cond (!(!rinside)) (g_r06_inside N ((c.getD ((i).toNat) TCall.d).f_Beam) 1 1000000) (some false)).bind fun rinside2 =>
  ((cond (!(cond (!rinside) true (!rinside2))) (g_r06_inside N ((c.getD ((i).toNat) TCall.d).f_Draught) 0 1000000) (some false)).bind fun rinside3 =>
  ((cond (!(cond (cond (!rinside) true (!rinside2)) true (!rinside3))) (g_r06_inside N ((c.getD ((i).toNat) TCall.d).f_Under) 0 1000000) (some false)).bind fun rinside4 =>
  (cond (cond (cond (cond (!rinside) true (!rinside2)) true (!rinside3)) true (!rinside4))
  (some 2)
  (((g_r06_inside N ((c.getD ((i).toNat) TCall.d).f_Arrive) 0 400).bind fun rinside5 =>
  ((cond (!(!rinside5)) (g_r06_inside N ((c.getD ((i).toNat) TCall.d).f_Due) 0 400) (some false)).bind fun rinside6 =>
  ((cond (!(cond (!rinside5) true (!rinside6))) (g_r06_inside N ((c.getD ((i).toNat) TCall.d).f_Work) 1 1000) (some false)).bind fun rinside7 =>
  ((cond (!(cond (cond (!rinside5) true (!rinside6)) true (!rinside7))) (g_r06_inside N ((c.getD ((i).toNat) TCall.d).f_Late) 0 1000000000) (some false)).bind fun rinside8 =>
  (cond (cond (cond (cond (!rinside5) true (!rinside6)) true (!rinside7)) true (!rinside8))
  (some 2)
  (g_r06_CheckCalls_L1 N c fuel (w64 (i+1))))))))))))))))))))
  else none))
  (some 0))
def g_r06_CheckCalls (N:Nat) (c:List TCall):Option (Int) :=
 (cond (decide (((c.length:Nat):Int) > 8))
 (some 8)
 (g_r06_CheckCalls_L1 N c N 0))
def g_r06_CheckBoth (N:Nat) (d:TDock) (c:List TCall):Option (Int) :=
 ((g_r06_CheckDocks N ([d]:List TDock)).bind fun rCheckDocks =>
 (cond (rCheckDocks != 0)
 (some rCheckDocks)
 (((g_r06_CheckCalls N c).bind fun rCheckCalls =>
 some rCheckCalls))))
def g_r06_sums_L2 (N:Nat) (l:List Int) (out:List Int) (i:Int) (K_g_r06_sums_L1:(List Int)→Int→Option ((List Int))):Nat→(List Int)→Int→Option ((List Int))
 | 0,_,_=>none
 | fuel+1,out2,k =>
  (cond (decide (k < ((out.length:Nat):Int)))
  ((if 0≤k∧k < ((out2.length:Nat):Int) then
  (if 0≤i∧i < ((l.length:Nat):Int) then
  (if (out2.length+1) * 8≤140737488355328 then
  g_r06_sums_L2 N l out i K_g_r06_sums_L1 fuel (out2 ++ ([(w64 ((out2.getD ((k).toNat) 0)+(l.getD ((i).toNat) 0)))]:List Int)) (w64 (k+1))
  else none)
  else none)
  else none))
  (K_g_r06_sums_L1 out2 (w64 (i+1))))
def g_r06_sums_J5 (N:Nat) (out:List Int) (i2:Int) (K_g_r06_sums_L3:(List Int)→Int→Option ((List Int))) (sorted2:List Int):Option ((List Int)) :=
 K_g_r06_sums_L3 sorted2 (w64 (i2+1))
def g_r06_sums_L4 (N:Nat) (out:List Int) (sorted:List Int) (i2:Int) (K_g_r06_sums_L3:(List Int)→Int→Option ((List Int))):Nat→Int→Option ((List Int))
 | 0,_=>none
 | fuel+1,k2 =>
  (if ((decide (k2 < ((sorted.length:Nat):Int)))=true→0≤k2∧k2 < ((sorted.length:Nat):Int)) then
  (if ((decide (k2 < ((sorted.length:Nat):Int)))=true→0≤i2∧i2 < ((out.length:Nat):Int)) then
  (cond (cond (decide (k2 < ((sorted.length:Nat):Int))) (decide ((sorted.getD ((k2).toNat) 0) < (out.getD ((i2).toNat) 0))) false)
  (g_r06_sums_L4 N out sorted i2 K_g_r06_sums_L3 fuel (w64 (k2+1)))
  ((cond (cond (decide (k2 < ((sorted.length:Nat):Int))) ((sorted.getD ((k2).toNat) 0) == (out.getD ((i2).toNat) 0)) false)
  (g_r06_sums_J5 N out i2 K_g_r06_sums_L3 sorted)
  ((if (sorted.length+1) * 8≤140737488355328 then
  (if (w64 (k2+1)).toNat≤(sorted ++ ([0]:List Int)).length∧(sorted ++ ([0]:List Int)).length≤(sorted ++ ([0]:List Int)).length then
  (if 0≤(w64 (k2+1)) then
  (if (k2).toNat≤(sorted ++ ([0]:List Int)).length∧(sorted ++ ([0]:List Int)).length≤(sorted ++ ([0]:List Int)).length then
  (if 0≤k2 then
  (if ((sorted ++ ([0]:List Int)).length - (w64 (k2+1)).toNat)≤((sorted ++ ([0]:List Int)).length - (k2).toNat) then
  (if (w64 (k2+1)).toNat+((sorted ++ ([0]:List Int)).length - (w64 (k2+1)).toNat)≤(sorted ++ ([0]:List Int)).length∧(k2).toNat+((sorted ++ ([0]:List Int)).length - (w64 (k2+1)).toNat)≤(sorted ++ ([0]:List Int)).length then
  (if 0≤i2∧i2 < ((out.length:Nat):Int) then
  (if 0≤k2∧k2 < (((cpyL (sorted ++ ([0]:List Int)) ((w64 (k2+1)).toNat) ((k2).toNat) ((sorted ++ ([0]:List Int)).length - (w64 (k2+1)).toNat)).length:Nat):Int) then
  g_r06_sums_J5 N out i2 K_g_r06_sums_L3 ((cpyL (sorted ++ ([0]:List Int)) ((w64 (k2+1)).toNat) ((k2).toNat) ((sorted ++ ([0]:List Int)).length - (w64 (k2+1)).toNat)).set ((k2).toNat) (out.getD ((i2).toNat) 0))
  else none)
  else none)
  else none)
  else none)
  else none)
  else none)
  else none)
  else none)
  else none)))))
  else none)
  else none)
def g_r06_sums_L3 (N:Nat) (out:List Int):Nat→(List Int)→Int→Option ((List Int))
 | 0,_,_=>none
 | fuel+1,sorted,i2 =>
  (cond (decide (i2 < ((out.length:Nat):Int)))
  (g_r06_sums_L4 N out sorted i2 (g_r06_sums_L3 N out fuel) N 0)
  (some sorted))
def g_r06_sums_L1 (N:Nat) (l:List Int):Nat→(List Int)→Int→Option ((List Int))
 | 0,_,_=>none
 | fuel+1,out,i =>
  (cond (decide (i < ((l.length:Nat):Int)))
  (g_r06_sums_L2 N l out i (g_r06_sums_L1 N l fuel) N out 0)
  (g_r06_sums_L3 N out N ([]:List Int) 0))
def g_r06_sums (N:Nat) (first:Int) (l:List Int):Option ((List Int)) :=
 g_r06_sums_L1 N l N ([first]:List Int) 0
def g_r06_normal_J2 (N:Nat) (d:TDock) (c:List TCall) (k:Int) (i:Int) (K_g_r06_normal_L1:(List Int)→(List Int)→Int→Option ((List Int)×(List Int))) (x2:List Int) (y2:List Int):Option ((List Int)×(List Int)) :=
 K_g_r06_normal_L1 x2 y2 (w64 (i+1))
def g_r06_normal_L1 (N:Nat) (d:TDock) (c:List TCall) (k:Int):Nat→(List Int)→(List Int)→Int→Option ((List Int)×(List Int))
 | 0,_,_,_=>none
 | fuel+1,x,y,i =>
  (cond (decide (i < ((c.length:Nat):Int)))
  ((cond (i != k)
  ((if 0≤i∧i < ((c.length:Nat):Int) then
  (if (x.length+1) * 8≤140737488355328 then
  (if (y.length+1) * 8≤140737488355328 then
  g_r06_normal_J2 N d c k i (g_r06_normal_L1 N d c k fuel) (x ++ ([(w64 ((c.getD ((i).toNat) TCall.d).f_Length+d.f_Gap))]:List Int)) (y ++ ([(w64 ((c.getD ((i).toNat) TCall.d).f_Beam+d.f_Gap))]:List Int))
  else none)
  else none)
  else none))
  (g_r06_normal_J2 N d c k i (g_r06_normal_L1 N d c k fuel) x y)))
  (((g_r06_sums N d.f_Gap x).bind fun rsums =>
  ((g_r06_sums N d.f_Gap y).bind fun rsums2 =>
  some (rsums,rsums2)))))
def g_r06_normal (N:Nat) (d:TDock) (c:List TCall) (k:Int):Option ((List Int)×(List Int)) :=
 g_r06_normal_L1 N d c k N ([]:List Int) ([]:List Int) 0
def g_r06_within (N:Nat) (d:TDock) (c:TCall) (s:TSpot):Option (Bool) :=
 some (cond (cond (cond (decide (s.f_X≥d.f_Gap)) (decide (s.f_Y≥d.f_Gap)) false) (decide ((w64 ((w64 (s.f_X+c.f_Length))+d.f_Gap))≤d.f_Length)) false) (decide ((w64 ((w64 (s.f_Y+c.f_Beam))+d.f_Gap))≤d.f_Width)) false)
def g_r06_apart (N:Nat) (d:TDock) (a:TCall) (b:TCall) (s:TSpot) (t:TSpot):Option (Bool) :=
 some (cond (cond (cond (decide ((w64 ((w64 (s.f_X+a.f_Length))+d.f_Gap))≤t.f_X)) true (decide ((w64 ((w64 (t.f_X+b.f_Length))+d.f_Gap))≤s.f_X))) true (decide ((w64 ((w64 (s.f_Y+a.f_Beam))+d.f_Gap))≤t.f_Y))) true (decide ((w64 ((w64 (t.f_Y+b.f_Beam))+d.f_Gap))≤s.f_Y)))
def g_r06_placed_J4 (N:Nat) (d:TDock) (c:List TCall) (s:List TSpot) (rnormal:(List Int)×(List Int)) (i:Int) (j:Int) (R_:TDock→(List TCall)→(List TSpot)→Option ((List TSpot)×Bool)) (K_g_r06_placed_L2:Int→Option ((List TSpot)×Bool)) (K_g_r06_placed_L1:Int→Option ((List TSpot)×Bool)):Option ((List TSpot)×Bool) :=
 K_g_r06_placed_L2 (w64 (j+1))
def g_r06_placed_L3 (N:Nat) (d:TDock) (c:List TCall) (s:List TSpot) (rnormal:(List Int)×(List Int)) (i:Int) (j:Int) (R_:TDock→(List TCall)→(List TSpot)→Option ((List TSpot)×Bool)) (K_g_r06_placed_L2:Int→Option ((List TSpot)×Bool)) (K_g_r06_placed_L1:Int→Option ((List TSpot)×Bool)):Nat→Bool→Int→Option ((List TSpot)×Bool)
 | 0,_,_=>none
 | fuel+1,good,m =>
  (cond (cond (decide (m < ((s.length:Nat):Int))) good false)
  ((if 0≤((s.length:Nat):Int)∧((s.length:Nat):Int) < ((c.length:Nat):Int) then
  (if 0≤m∧m < ((c.length:Nat):Int) then
  (if 0≤m∧m < ((s.length:Nat):Int) then
  ((g_r06_apart N d (c.getD s.length TCall.d) (c.getD ((m).toNat) TCall.d) (⟨(c.getD s.length TCall.d).f_Name,(rnormal.1.getD ((i).toNat) 0),(rnormal.2.getD ((j).toNat) 0)⟩:TSpot) (s.getD ((m).toNat) TSpot.d)).bind fun rapart =>
  g_r06_placed_L3 N d c s rnormal i j R_ K_g_r06_placed_L2 K_g_r06_placed_L1 fuel rapart (w64 (m+1)))
  else none)
  else none)
  else none))
  ((cond (!good)
  (g_r06_placed_J4 N d c s rnormal i j R_ K_g_r06_placed_L2 K_g_r06_placed_L1)
  ((if (0+s.length) * 32≤140737488355328 then
  (if ((0+s.length)+1) * 32≤140737488355328 then
  ((R_ d c ((([]:List TSpot) ++ s) ++ ([(⟨(c.getD s.length TCall.d).f_Name,(rnormal.1.getD ((i).toNat) 0),(rnormal.2.getD ((j).toNat) 0)⟩:TSpot)]:List TSpot))).bind fun rplaced =>
  (cond rplaced.2
  (some (rplaced.1,true))
  (g_r06_placed_J4 N d c s rnormal i j R_ K_g_r06_placed_L2 K_g_r06_placed_L1)))
  else none)
  else none)))))
def g_r06_placed_L2 (N:Nat) (d:TDock) (c:List TCall) (s:List TSpot) (rnormal:(List Int)×(List Int)) (i:Int) (R_:TDock→(List TCall)→(List TSpot)→Option ((List TSpot)×Bool)) (K_g_r06_placed_L1:Int→Option ((List TSpot)×Bool)):Nat→Int→Option ((List TSpot)×Bool)
 | 0,_=>none
 | fuel+1,j =>
  (cond (decide (j < ((rnormal.2.length:Nat):Int)))
  ((if 0≤((s.length:Nat):Int)∧((s.length:Nat):Int) < ((c.length:Nat):Int) then
  (if 0≤i∧i < ((rnormal.1.length:Nat):Int) then
  (if 0≤j∧j < ((rnormal.2.length:Nat):Int) then
  ((g_r06_within N d (c.getD s.length TCall.d) (⟨(c.getD s.length TCall.d).f_Name,(rnormal.1.getD ((i).toNat) 0),(rnormal.2.getD ((j).toNat) 0)⟩:TSpot)).bind fun rwithin =>
  g_r06_placed_L3 N d c s rnormal i j R_ (g_r06_placed_L2 N d c s rnormal i R_ K_g_r06_placed_L1 fuel) K_g_r06_placed_L1 N rwithin 0)
  else none)
  else none)
  else none))
  (K_g_r06_placed_L1 (w64 (i+1))))
def g_r06_placed_L1 (N:Nat) (d:TDock) (c:List TCall) (s:List TSpot) (rnormal:(List Int)×(List Int)) (R_:TDock→(List TCall)→(List TSpot)→Option ((List TSpot)×Bool)):Nat→Int→Option ((List TSpot)×Bool)
 | 0,_=>none
 | fuel+1,i =>
  (cond (decide (i < ((rnormal.1.length:Nat):Int)))
  (g_r06_placed_L2 N d c s rnormal i R_ (g_r06_placed_L1 N d c s rnormal R_ fuel) N 0)
  (some (([]:List TSpot),false)))
def g_r06_placed (N:Nat):Nat→TDock→(List TCall)→(List TSpot)→Option ((List TSpot)×Bool)
 | 0,_,_,_=>none
 | fuel+1,d,c,s =>
  (cond (((s.length:Nat):Int) == ((c.length:Nat):Int))
  (some (s,true))
  (((g_r06_normal N d c ((s.length:Nat):Int)).bind fun rnormal =>
  g_r06_placed_L1 N d c s rnormal (g_r06_placed N fuel) N 0)))
def g_r06_Place (N:Nat) (d:TDock) (c:List TCall):Option ((List TSpot)×Int) :=
 ((g_r06_CheckBoth N d c).bind fun rCheckBoth =>
 (cond (rCheckBoth != 0)
 (some (([]:List TSpot),rCheckBoth))
 ((cond (decide (((c.length:Nat):Int) > 4))
 (some (([]:List TSpot),8))
 (((g_r06_placed N N d c ([]:List TSpot)).bind fun rplaced =>
 (cond (!rplaced.2)
 (some (([]:List TSpot),29))
 (some (rplaced.1,0)))))))))
def g_w06_sameSpots_L1 (N:Nat) (a:List TSpot) (b:List TSpot):Nat→Int→Option (Bool)
 | 0,_=>none
 | fuel+1,i =>
  (cond (decide (i < ((a.length:Nat):Int)))
  ((if 0≤i∧i < ((a.length:Nat):Int) then
  (if 0≤i∧i < ((b.length:Nat):Int) then
  (cond (!((streq ((a.getD ((i).toNat) TSpot.d).f_Call) ((b.getD ((i).toNat) TSpot.d).f_Call)) && (((a.getD ((i).toNat) TSpot.d).f_X == (b.getD ((i).toNat) TSpot.d).f_X) && (((a.getD ((i).toNat) TSpot.d).f_Y == (b.getD ((i).toNat) TSpot.d).f_Y) && true))))
  (some false)
  (g_w06_sameSpots_L1 N a b fuel (w64 (i+1))))
  else none)
  else none))
  (some true))
def g_w06_sameSpots (N:Nat) (a:List TSpot) (b:List TSpot):Option (Bool) :=
 (cond (((a.length:Nat):Int) != ((b.length:Nat):Int))
 (some false)
 (g_w06_sameSpots_L1 N a b N 0))
def g_berth_called_1 (N:Nat) (x:TCall) (cap0:ByteArray):Option (Bool) :=
 some (streq x.f_Name cap0)
def g_slices_IndexFunc_api_Call_api_Call_v2_L1 (N:Nat) (s:List TCall) (cap0:ByteArray):Nat→Int→Option (Int)
 | 0,_=>none
 | fuel+1,x =>
  (cond (decide (x < ((s.length:Nat):Int)))
  ((if 0≤x∧x < ((s.length:Nat):Int) then
  ((g_berth_called_1 N (s.getD ((x).toNat) TCall.d) cap0).bind fun rcalled1 =>
  (cond rcalled1
  (some x)
  (g_slices_IndexFunc_api_Call_api_Call_v2_L1 N s cap0 fuel (w64 (x+1)))))
  else none))
  (some (-1)))
def g_slices_IndexFunc_api_Call_api_Call_v2 (N:Nat) (s:List TCall) (cap0:ByteArray):Option (Int) :=
 g_slices_IndexFunc_api_Call_api_Call_v2_L1 N s cap0 N 0
def g_berth_called (N:Nat) (c:List TCall) (name:ByteArray):Option (Int) :=
 ((g_slices_IndexFunc_api_Call_api_Call_v2 N c name).bind fun rCall =>
 some rCall)
def g_berth_boxes_L3 (N:Nat) (d:TDock) (out:List Tberth_box) (x2:Int) (K_g_berth_boxes_L2:Int→Option ((List Tberth_box)×Int)):Nat→Int→Option ((List Tberth_box)×Int)
 | 0,_=>none
 | fuel+1,x3 =>
  (cond (decide (x3 < ((((x2).toNat - 0):Nat):Int)))
  ((if 0≤x3∧x3 < ((((x2).toNat - 0):Nat):Int) then
  (if 0≤(x2).toNat∧(x2).toNat≤out.length then
  ((g_berth_apart N (out.getD ((x2).toNat) Tberth_box.d) (out.getD ((x3).toNat) Tberth_box.d) d.f_Gap).bind fun rapart =>
  (cond (!rapart)
  (some (([]:List Tberth_box),17))
  (g_berth_boxes_L3 N d out x2 K_g_berth_boxes_L2 fuel (w64 (x3+1)))))
  else none)
  else none))
  (K_g_berth_boxes_L2 (w64 (x2+1))))
def g_berth_boxes_L2 (N:Nat) (d:TDock) (out:List Tberth_box):Nat→Int→Option ((List Tberth_box)×Int)
 | 0,_=>none
 | fuel+1,x2 =>
  (cond (decide (x2 < ((out.length:Nat):Int)))
  ((if 0≤x2∧x2 < ((out.length:Nat):Int) then
  (if 0≤(x2).toNat∧(x2).toNat≤out.length then
  (if 0≤x2 then
  g_berth_boxes_L3 N d out x2 (g_berth_boxes_L2 N d out fuel) N 0
  else none)
  else none)
  else none))
  (some (out,0)))
def g_berth_boxes_L1 (N:Nat) (d:TDock) (c:List TCall) (s:List TSpot):Nat→(List Tberth_box)→(List Bool)→Int→Option ((List Tberth_box)×Int)
 | 0,_,_,_=>none
 | fuel+1,out,seen,x =>
  (cond (decide (x < ((s.length:Nat):Int)))
  ((if 0≤x∧x < ((s.length:Nat):Int) then
  ((g_berth_called N c ((s.getD ((x).toNat) TSpot.d).f_Call)).bind fun rcalled =>
  (cond (decide (rcalled < 0))
  (some (([]:List Tberth_box),6))
  ((if 0≤rcalled∧rcalled < ((seen.length:Nat):Int) then
  (cond (seen.getD ((rcalled).toNat) false)
  (some (([]:List Tberth_box),5))
  (((g_berth_outside N ((s.getD ((x).toNat) TSpot.d).f_X) 0 1000000).bind fun routside =>
  ((cond (!routside) (g_berth_outside N ((s.getD ((x).toNat) TSpot.d).f_Y) 0 1000000) (some false)).bind fun routside2 =>
  (cond (cond routside true routside2)
  (some (([]:List Tberth_box),2))
  ((if 0≤rcalled∧rcalled < ((c.length:Nat):Int) then
  (if 0≤rcalled∧rcalled < ((out.length:Nat):Int) then
  (if 0≤rcalled∧rcalled < (((out.set ((rcalled).toNat) (⟨(s.getD ((x).toNat) TSpot.d).f_X,(s.getD ((x).toNat) TSpot.d).f_Y,(c.getD ((rcalled).toNat) TCall.d).f_Length,(c.getD ((rcalled).toNat) TCall.d).f_Beam⟩:Tberth_box)).length:Nat):Int) then
  ((g_berth_inside N d ((out.set ((rcalled).toNat) (⟨(s.getD ((x).toNat) TSpot.d).f_X,(s.getD ((x).toNat) TSpot.d).f_Y,(c.getD ((rcalled).toNat) TCall.d).f_Length,(c.getD ((rcalled).toNat) TCall.d).f_Beam⟩:Tberth_box)).getD ((rcalled).toNat) Tberth_box.d)).bind fun rinside =>
  (cond (!rinside)
  (some (([]:List Tberth_box),16))
  (g_berth_boxes_L1 N d c s fuel (out.set ((rcalled).toNat) (⟨(s.getD ((x).toNat) TSpot.d).f_X,(s.getD ((x).toNat) TSpot.d).f_Y,(c.getD ((rcalled).toNat) TCall.d).f_Length,(c.getD ((rcalled).toNat) TCall.d).f_Beam⟩:Tberth_box)) (seen.set ((rcalled).toNat) true) (w64 (x+1)))))
  else none)
  else none)
  else none)))))))
  else none))))
  else none))
  (g_berth_boxes_L2 N d out N 0))
def g_berth_boxes (N:Nat) (d:TDock) (c:List TCall) (s:List TSpot):Option ((List Tberth_box)×Int) :=
 ((g_berth_both N d c).bind fun rboth =>
 (cond (rboth != 0)
 (some (([]:List Tberth_box),rboth))
 ((cond (((s.length:Nat):Int) != ((c.length:Nat):Int))
 (some (([]:List Tberth_box),11))
 ((if 0≤((c.length:Nat):Int)∧(32:Int) * ((c.length:Nat):Int)≤281474976710656∧((c.length:Nat):Int)≤9223372036854775807 then
 (if 0≤((c.length:Nat):Int)∧(1:Int) * ((c.length:Nat):Int)≤281474976710656∧((c.length:Nat):Int)≤9223372036854775807 then
 g_berth_boxes_L1 N d c s N (List.replicate c.length Tberth_box.d:List Tberth_box) (List.replicate c.length false:List Bool) 0
 else none)
 else none))))))
def g_berth_CheckPlan (N:Nat) (d:TDock) (c:List TCall) (s:List TSpot):Option (Int) :=
 ((g_berth_boxes N d c s).bind fun rboxes =>
 some rboxes.2)
def g_w06_BerthPlaces (N:Nat) (d:TDock) (c:List TCall):Option (Bool) :=
 ((g_w06_awake N).bind fun rawake =>
 (cond (!rawake)
 (some false)
 (((g_w06_Names N ([d]:List TDock) c).bind fun rNames =>
 (cond (cond (!rNames) true (((c.length:Nat):Int) == 4))
 (some true)
 (((g_berth_Place N d c).bind fun rPlace =>
 ((g_r06_Place N d c).bind fun rPlace2 =>
 ((g_w06_sameSpots N rPlace.1 rPlace2.1).bind fun rsameSpots =>
 ((cond ((cond rsameSpots (rPlace.2 == rPlace2.2) false) && ((cond rsameSpots (rPlace.2 == rPlace2.2) false) && (!(rPlace2.2 != 0)))) (g_berth_CheckPlan N d c rPlace.1) (some 0)).bind fun rCheckPlan =>
 some (cond (cond rsameSpots (rPlace.2 == rPlace2.2) false) (cond (rPlace2.2 != 0) true (rCheckPlan == 0)) false)))))))))))
end Go.Den
