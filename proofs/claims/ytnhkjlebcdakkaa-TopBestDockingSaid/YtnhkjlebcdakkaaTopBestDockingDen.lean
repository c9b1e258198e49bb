/- The functions of the program as Lean functions, each in the Option monad; N bounds the rounds of loops. No conditions. -/
import Derived.Test.YtnhkjlebcdakkaaCd
set_option linter.unusedVariables false
set_option linter.unusedSimpArgs false
set_option linter.unusedVariables false
namespace Go.Den
open Go.Ab
structure TDock where
 f_Name:ByteArray
 fLn:Int
 f_Width:Int
 f_Sill:Int
 f_Floor:Int
 f_Gap:Int
def TDock.d:TDock:=⟨ByteArray.empty,0,0,0,0,0⟩
def TDock.wf (x:TDock):Prop:=wS x.f_Name∧wI x.fLn∧wI x.f_Width∧wI x.f_Sill∧wI x.f_Floor∧wI x.f_Gap
def TDock.cells (x:TDock):List AV:=[(aS x.f_Name),(aI x.fLn),(aI x.f_Width),(aI x.f_Sill),(aI x.f_Floor),(aI x.f_Gap)]
structure TCall where
 f_Name:ByteArray
 fLn:Int
 f_Beam:Int
 f_Draught:Int
 f_Under:Int
 f_Arrive:Int
 f_Work:Int
 f_Due:Int
 f_Late:Int
def TCall.d:TCall:=⟨ByteArray.empty,0,0,0,0,0,0,0,0⟩
def TCall.wf (x:TCall):Prop:=wS x.f_Name∧wI x.fLn∧wI x.f_Beam∧wI x.f_Draught∧wI x.f_Under∧wI x.f_Arrive∧wI x.f_Work∧wI x.f_Due∧wI x.f_Late
def TCall.cells (x:TCall):List AV:=[(aS x.f_Name),(aI x.fLn),(aI x.f_Beam),(aI x.f_Draught),(aI x.f_Under),(aI x.f_Arrive),(aI x.f_Work),(aI x.f_Due),(aI x.f_Late)]
structure TMark where
 f_Minute:Int
 f_Level:Int
def TMark.d:TMark:=⟨0,0⟩
def TMark.wf (x:TMark):Prop:=wI x.f_Minute∧wI x.f_Level
def TMark.cells (x:TMark):List AV:=[(aI x.f_Minute),(aI x.f_Level)]
structure TYard where
 f_Docks:List TDock
 f_Calls:List TCall
 f_Sea:List TMark
 f_Last:Int
def TYard.d:TYard:=⟨[],[],[],0⟩
def TYard.wf (x:TYard):Prop:=(wL TDock.wf) x.f_Docks∧(wL TCall.wf) x.f_Calls∧(wL TMark.wf) x.f_Sea∧wI x.f_Last
def TYard.cells (x:TYard):List AV:=[(encL TDock.cells TDock.d x.f_Docks),(encL TCall.cells TCall.d x.f_Calls),(encL TMark.cells TMark.d x.f_Sea),(aI x.f_Last)]
structure TStay where
 f_Call:ByteArray
 f_Dock:ByteArray
 f_Day:Int
def TStay.d:TStay:=⟨ByteArray.empty,ByteArray.empty,0⟩
def TStay.wf (x:TStay):Prop:=wS x.f_Call∧wS x.f_Dock∧wI x.f_Day
def TStay.cells (x:TStay):List AV:=[(aS x.f_Call),(aS x.f_Dock),(aI x.f_Day)]
structure TS__2_int where
 e0:Int
 e1:Int
def TS__2_int.d:TS__2_int:=⟨0,0⟩
def TS__2_int.wf (x:TS__2_int):Prop:=wI x.e0∧wI x.e1
def TS__2_int.cells (x:TS__2_int):List AV:=[(aI x.e0),(aI x.e1)]
structure Tberth_search where
 f_y:TYard
 f_days:List (List (List Int))
 f_rest:List Int
 f_stays:List TStay
 f_best:Bool×List TStay
 f_cost:Int
def Tberth_search.d:Tberth_search:=⟨TYard.d,[],[],[],(false,[]),0⟩
def Tberth_search.wf (x:Tberth_search):Prop:=TYard.wf x.f_y∧(wL (wL (wL wI))) x.f_days∧(wL wI) x.f_rest∧(wL TStay.wf) x.f_stays∧(fun _=>True) x.f_best∧wI x.f_cost
def Tberth_search.cells (x:Tberth_search):List AV:=[(encL TDock.cells TDock.d x.f_y.f_Docks),(encL TCall.cells TCall.d x.f_y.f_Calls),(encL TMark.cells TMark.d x.f_y.f_Sea),(aI x.f_y.f_Last),(encL (fun x=>[encL (fun x=>[encL cI 0 x]) [] x]) [] x.f_days),(encL cI 0 x.f_rest),(encL TStay.cells TStay.d x.f_stays),(.nq (nqF x.f_best.1) (encL TStay.cells TStay.d x.f_best.2)),(aI x.f_cost)]
structure TArea where
 f_From:Int
 f_Size:Int
def TArea.d:TArea:=⟨0,0⟩
def TArea.wf (x:TArea):Prop:=wI x.f_From∧wI x.f_Size
def TArea.cells (x:TArea):List AV:=[(aI x.f_From),(aI x.f_Size)]
structure TBasin where
 f_Name:ByteArray
 f_Areas:List TArea
 f_Rim:Int
def TBasin.d:TBasin:=⟨ByteArray.empty,[],0⟩
def TBasin.wf (x:TBasin):Prop:=wS x.f_Name∧(wL TArea.wf) x.f_Areas∧wI x.f_Rim
def TBasin.cells (x:TBasin):List AV:=[(aS x.f_Name),(encL TArea.cells TArea.d x.f_Areas),(aI x.f_Rim)]
structure TSpot where
 f_Call:ByteArray
 f_X:Int
 f_Y:Int
def TSpot.d:TSpot:=⟨ByteArray.empty,0,0⟩
def TSpot.wf (x:TSpot):Prop:=wS x.f_Call∧wI x.f_X∧wI x.f_Y
def TSpot.cells (x:TSpot):List AV:=[(aS x.f_Call),(aI x.f_X),(aI x.f_Y)]
structure Tberth_box where
 f_x:Int
 f_y:Int
 f_w:Int
 f_h:Int
def Tberth_box.d:Tberth_box:=⟨0,0,0,0⟩
def Tberth_box.wf (x:Tberth_box):Prop:=wI x.f_x∧wI x.f_y∧wI x.f_w∧wI x.f_h
def Tberth_box.cells (x:Tberth_box):List AV:=[(aI x.f_x),(aI x.f_y),(aI x.f_w),(aI x.f_h)]
def g_berth_CheckDocks_1 (N:Nat) (x:TDock):Option (ByteArray) :=
 some x.f_Name
def g_berth_named_L1 (N:Nat) (s:ByteArray):Nat→Int→Option (Bool)
 | 0,_=>none
 | fuel+1,x =>
  (cond (decide (x < ((s.size:Nat):Int)))
  ((if 0≤x∧x < ((s.size:Nat):Int) then
  (cond (cond (!(cond (cond (decide ((byteAt s ((x).toNat))≥97)) (decide ((byteAt s ((x).toNat))≤122)) false) true (cond (decide ((byteAt s ((x).toNat))≥65)) (decide ((byteAt s ((x).toNat))≤90)) false))) (cond (x == 0) true (!(cond (cond (decide ((byteAt s ((x).toNat))≥48)) (decide ((byteAt s ((x).toNat))≤57)) false) true ((byteAt s ((x).toNat)) == 45)))) false)
  (some false)
  (g_berth_named_L1 N s fuel (w64 (x+1))))
  else none))
  (some true))
def g_berth_named (N:Nat) (s:ByteArray):Option (Bool) :=
 (cond (cond (streq s ByteArray.empty) true (decide (((s.size:Nat):Int) > 12)))
 (some false)
 (g_berth_named_L1 N s N 0))
def g_berth_check_Dock_1 (N:Nat) (y:TDock) (cap1:TDock):Option (Bool) :=
 ((g_berth_CheckDocks_1 N y).bind fun rCheckDocks1 =>
 ((g_berth_CheckDocks_1 N cap1).bind fun rCheckDocks12 =>
 some (streq rCheckDocks1 rCheckDocks12)))
def g_slices_IndexFunc_api_Dock_api_Dock_L1 (N:Nat) (s:List TDock) (cap1:TDock):Nat→Int→Option (Int)
 | 0,_=>none
 | fuel+1,x =>
  (cond (decide (x < ((s.length:Nat):Int)))
  ((if 0≤x∧x < ((s.length:Nat):Int) then
  ((g_berth_check_Dock_1 N (s.getD ((x).toNat) TDock.d) cap1).bind fun rDock1 =>
  (cond rDock1
  (some x)
  (g_slices_IndexFunc_api_Dock_api_Dock_L1 N s cap1 fuel (w64 (x+1)))))
  else none))
  (some (-1)))
def g_slices_IndexFunc_api_Dock_api_Dock (N:Nat) (s:List TDock) (cap1:TDock):Option (Int) :=
 g_slices_IndexFunc_api_Dock_api_Dock_L1 N s cap1 N 0
def g_slices_ContainsFunc_api_Dock_api_Dock (N:Nat) (s:List TDock) (cap1:TDock):Option (Bool) :=
 ((g_slices_IndexFunc_api_Dock_api_Dock N s cap1).bind fun rDock =>
 some (decide (rDock≥0)))
def g_berth_outside (N:Nat) (n:Int) (lo:Int) (hi:Int):Option (Bool) :=
 some (cond (decide (n < lo)) true (decide (n > hi)))
def g_berth_ranged (N:Nat) (wrong:Bool):Option (Int) :=
 (cond wrong
 (some 2)
 (some 0))
def g_berth_CheckDocks_2 (N:Nat) (x:TDock):Option (Int) :=
 ((g_berth_outside N x.fLn 1 1000000).bind fun routside =>
 ((cond (!routside) (g_berth_outside N x.f_Width 1 1000000) (some false)).bind fun routside2 =>
 ((cond (!(cond routside true routside2)) (g_berth_outside N x.f_Sill (-1000000) 1000000) (some false)).bind fun routside3 =>
 ((cond (!(cond (cond routside true routside2) true routside3)) (g_berth_outside N x.f_Floor (-1000000) 1000000) (some false)).bind fun routside4 =>
 ((cond (!(cond (cond (cond routside true routside2) true routside3) true routside4)) (g_berth_outside N x.f_Gap 0 1000000) (some false)).bind fun routside5 =>
 ((g_berth_ranged N (cond (cond (cond (cond routside true routside2) true routside3) true routside4) true routside5)).bind fun rranged =>
 some rranged))))))
def g_berth_check_Dock_L1 (N:Nat) (l:List TDock):Nat→Int→Option (Int)
 | 0,_=>none
 | fuel+1,x =>
  (cond (decide (x < ((l.length:Nat):Int)))
  ((if 0≤x∧x < ((l.length:Nat):Int) then
  ((g_berth_CheckDocks_1 N (l.getD ((x).toNat) TDock.d)).bind fun rCheckDocks1 =>
  ((g_berth_named N rCheckDocks1).bind fun rnamed =>
  (cond (!rnamed)
  (some 4)
  ((if 0≤(x).toNat∧(x).toNat≤l.length then
  (if 0≤x then
  ((g_slices_ContainsFunc_api_Dock_api_Dock N ((l.take ((x).toNat)).drop 0) (l.getD ((x).toNat) TDock.d)).bind fun rDock =>
  (cond rDock
  (some 5)
  (((g_berth_CheckDocks_2 N (l.getD ((x).toNat) TDock.d)).bind fun rCheckDocks2 =>
  (cond (rCheckDocks2 != 0)
  (some rCheckDocks2)
  (g_berth_check_Dock_L1 N l fuel (w64 (x+1))))))))
  else none)
  else none)))))
  else none))
  (some 0))
def g_berth_check_Dock (N:Nat) (l:List TDock) (most:Int):Option (Int) :=
 (cond (decide (((l.length:Nat):Int) > most))
 (some 8)
 (g_berth_check_Dock_L1 N l N 0))
def g_berth_CheckDocks (N:Nat) (d:List TDock):Option (Int) :=
 ((g_berth_check_Dock N d 4).bind fun rDock =>
 some rDock)
def g_berth_CheckCalls_1 (N:Nat) (x:TCall):Option (ByteArray) :=
 some x.f_Name
def g_berth_check_Call_1 (N:Nat) (y:TCall) (cap1:TCall):Option (Bool) :=
 ((g_berth_CheckCalls_1 N y).bind fun rCheckCalls1 =>
 ((g_berth_CheckCalls_1 N cap1).bind fun rCheckCalls12 =>
 some (streq rCheckCalls1 rCheckCalls12)))
def g_slices_IndexFunc_api_Call_api_Call_L1 (N:Nat) (s:List TCall) (cap1:TCall):Nat→Int→Option (Int)
 | 0,_=>none
 | fuel+1,x =>
  (cond (decide (x < ((s.length:Nat):Int)))
  ((if 0≤x∧x < ((s.length:Nat):Int) then
  ((g_berth_check_Call_1 N (s.getD ((x).toNat) TCall.d) cap1).bind fun rCall1 =>
  (cond rCall1
  (some x)
  (g_slices_IndexFunc_api_Call_api_Call_L1 N s cap1 fuel (w64 (x+1)))))
  else none))
  (some (-1)))
def g_slices_IndexFunc_api_Call_api_Call (N:Nat) (s:List TCall) (cap1:TCall):Option (Int) :=
 g_slices_IndexFunc_api_Call_api_Call_L1 N s cap1 N 0
def g_slices_ContainsFunc_api_Call_api_Call (N:Nat) (s:List TCall) (cap1:TCall):Option (Bool) :=
 ((g_slices_IndexFunc_api_Call_api_Call N s cap1).bind fun rCall =>
 some (decide (rCall≥0)))
def g_berth_CheckCalls_2 (N:Nat) (x:TCall):Option (Int) :=
 ((g_berth_outside N x.fLn 1 1000000).bind fun routside =>
 ((cond (!routside) (g_berth_outside N x.f_Beam 1 1000000) (some false)).bind fun routside2 =>
 ((cond (!(cond routside true routside2)) (g_berth_outside N x.f_Draught 0 1000000) (some false)).bind fun routside3 =>
 ((cond (!(cond (cond routside true routside2) true routside3)) (g_berth_outside N x.f_Under 0 1000000) (some false)).bind fun routside4 =>
 (cond (cond (cond (cond routside true routside2) true routside3) true routside4)
 (some 2)
 (((g_berth_outside N x.f_Arrive 0 400).bind fun routside5 =>
 ((cond (!routside5) (g_berth_outside N x.f_Due 0 400) (some false)).bind fun routside6 =>
 ((cond (!(cond routside5 true routside6)) (g_berth_outside N x.f_Work 1 1000) (some false)).bind fun routside7 =>
 ((cond (!(cond (cond routside5 true routside6) true routside7)) (g_berth_outside N x.f_Late 0 1000000000) (some false)).bind fun routside8 =>
 ((g_berth_ranged N (cond (cond (cond routside5 true routside6) true routside7) true routside8)).bind fun rranged =>
 some rranged)))))))))))
def g_berth_check_Call_L1 (N:Nat) (l:List TCall):Nat→Int→Option (Int)
 | 0,_=>none
 | fuel+1,x =>
  (cond (decide (x < ((l.length:Nat):Int)))
  ((if 0≤x∧x < ((l.length:Nat):Int) then
  ((g_berth_CheckCalls_1 N (l.getD ((x).toNat) TCall.d)).bind fun rCheckCalls1 =>
  ((g_berth_named N rCheckCalls1).bind fun rnamed =>
  (cond (!rnamed)
  (some 4)
  ((if 0≤(x).toNat∧(x).toNat≤l.length then
  (if 0≤x then
  ((g_slices_ContainsFunc_api_Call_api_Call N ((l.take ((x).toNat)).drop 0) (l.getD ((x).toNat) TCall.d)).bind fun rCall =>
  (cond rCall
  (some 5)
  (((g_berth_CheckCalls_2 N (l.getD ((x).toNat) TCall.d)).bind fun rCheckCalls2 =>
  (cond (rCheckCalls2 != 0)
  (some rCheckCalls2)
  (g_berth_check_Call_L1 N l fuel (w64 (x+1))))))))
  else none)
  else none)))))
  else none))
  (some 0))
def g_berth_check_Call (N:Nat) (l:List TCall) (most:Int):Option (Int) :=
 (cond (decide (((l.length:Nat):Int) > most))
 (some 8)
 (g_berth_check_Call_L1 N l N 0))
def g_berth_CheckCalls (N:Nat) (c:List TCall):Option (Int) :=
 ((g_berth_check_Call N c 8).bind fun rCall =>
 some rCall)
def g_berth_both (N:Nat) (d:TDock) (c:List TCall):Option (Int) :=
 ((g_berth_CheckDocks N ([d]:List TDock)).bind fun rCheckDocks =>
 (cond (rCheckDocks != 0)
 (some rCheckDocks)
 (((g_berth_CheckCalls N c).bind fun rCheckCalls =>
 some rCheckCalls))))
def g_berth_fits (N:Nat) (d:TDock) (c:TCall):Option (Bool) :=
 some (cond (decide ((w64 (c.fLn+(w64 (2 * d.f_Gap))))≤d.fLn)) (decide ((w64 (c.f_Beam+(w64 (2 * d.f_Gap))))≤d.f_Width)) false)
def g_w06_Names_L2 (N:Nat) (c:List TCall):Nat→Int→Option (Bool)
 | 0,_=>none
 | fuel+1,i2 =>
  (cond (decide (i2 < ((c.length:Nat):Int)))
  ((if 0≤i2∧i2 < ((c.length:Nat):Int) then
  (cond (decide (((((c.getD ((i2).toNat) TCall.d).f_Name).size:Nat):Int) > 40))
  (some false)
  (g_w06_Names_L2 N c fuel (w64 (i2+1))))
  else none))
  (some true))
def g_w06_Names_L1 (N:Nat) (d:List TDock) (c:List TCall):Nat→Int→Option (Bool)
 | 0,_=>none
 | fuel+1,i =>
  (cond (decide (i < ((d.length:Nat):Int)))
  ((if 0≤i∧i < ((d.length:Nat):Int) then
  (cond (decide (((((d.getD ((i).toNat) TDock.d).f_Name).size:Nat):Int) > 40))
  (some false)
  (g_w06_Names_L1 N d c fuel (w64 (i+1))))
  else none))
  (g_w06_Names_L2 N c N 0))
def g_w06_Names (N:Nat) (d:List TDock) (c:List TCall):Option (Bool) :=
 (cond (cond (decide (((d.length:Nat):Int) > 6)) true (decide (((c.length:Nat):Int) > 10)))
 (some false)
 (g_w06_Names_L1 N d c N 0))
def g_b_IsName_L1 (N:Nat) (s:ByteArray):Nat→Int→Option (Bool)
 | 0,_=>none
 | fuel+1,i =>
  (cond (decide (i < ((s.size:Nat):Int)))
  ((if 0≤i∧i < ((s.size:Nat):Int) then
  (cond (cond (!(cond (cond (decide ((byteAt s ((i).toNat))≥97)) (decide ((byteAt s ((i).toNat))≤122)) false) true (cond (decide ((byteAt s ((i).toNat))≥65)) (decide ((byteAt s ((i).toNat))≤90)) false))) (cond (i == 0) true (cond ((byteAt s ((i).toNat)) != 45) (cond (decide ((byteAt s ((i).toNat)) < 48)) true (decide ((byteAt s ((i).toNat)) > 57))) false)) false)
  (some false)
  (g_b_IsName_L1 N s fuel (w64 (i+1))))
  else none))
  (some true))
def g_b_IsName (N:Nat) (s:ByteArray):Option (Bool) :=
 (cond (cond (decide (((s.size:Nat):Int) < 1)) true (decide (((s.size:Nat):Int) > 12)))
 (some false)
 (g_b_IsName_L1 N s N 0))
def g_r06_DockOf_L1 (N:Nat) (d:List TDock) (name:ByteArray):Nat→Int→Option (Int)
 | 0,_=>none
 | fuel+1,i =>
  (cond (decide (i < ((d.length:Nat):Int)))
  ((if 0≤i∧i < ((d.length:Nat):Int) then
  (cond (streq ((d.getD ((i).toNat) TDock.d).f_Name) name)
  (some i)
  (g_r06_DockOf_L1 N d name fuel (w64 (i+1))))
  else none))
  (some (-1)))
def g_r06_DockOf (N:Nat) (d:List TDock) (name:ByteArray):Option (Int) :=
 g_r06_DockOf_L1 N d name N 0
def g_r06_inside (N:Nat) (n:Int) (low:Int) (high:Int):Option (Bool) :=
 some (cond (decide (n≥low)) (decide (n≤high)) false)
def g_r06_CheckDocks_L1 (N:Nat) (d:List TDock):Nat→Int→Option (Int)
 | 0,_=>none
 | fuel+1,i =>
  (cond (decide (i < ((d.length:Nat):Int)))
  ((if 0≤i∧i < ((d.length:Nat):Int) then
  ((g_b_IsName N ((d.getD ((i).toNat) TDock.d).f_Name)).bind fun rIsName =>
  (cond (!rIsName)
  (some 4)
  (((g_r06_DockOf N d ((d.getD ((i).toNat) TDock.d).f_Name)).bind fun rDockOf =>
  (cond (rDockOf != i)
  (some 5)
  (((g_r06_inside N ((d.getD ((i).toNat) TDock.d).fLn) 1 1000000).bind fun rIn =>
  (if ((!(!rIn))=true→0≤i∧i < ((d.length:Nat):Int)) then
  ((cond (!(!rIn)) (g_r06_inside N ((d.getD ((i).toNat) TDock.d).f_Width) 1 1000000) (some false)).bind fun rIn2 =>
  (if ((!(cond (!rIn) true (!rIn2)))=true→0≤i∧i < ((d.length:Nat):Int)) then
  ((cond (!(cond (!rIn) true (!rIn2))) (g_r06_inside N ((d.getD ((i).toNat) TDock.d).f_Sill) (-1000000) 1000000) (some false)).bind fun rIn3 =>
  (if ((!(cond (cond (!rIn) true (!rIn2)) true (!rIn3)))=true→0≤i∧i < ((d.length:Nat):Int)) then
  ((cond (!(cond (cond (!rIn) true (!rIn2)) true (!rIn3))) (g_r06_inside N ((d.getD ((i).toNat) TDock.d).f_Floor) (-1000000) 1000000) (some false)).bind fun rIn4 =>
  (if ((!(cond (cond (cond (!rIn) true (!rIn2)) true (!rIn3)) true (!rIn4)))=true→0≤i∧i < ((d.length:Nat):Int)) then
  ((cond (!(cond (cond (cond (!rIn) true (!rIn2)) true (!rIn3)) true (!rIn4))) (g_r06_inside N ((d.getD ((i).toNat) TDock.d).f_Gap) 0 1000000) (some false)).bind fun rIn5 =>
  (cond (cond (cond (cond (cond (!rIn) true (!rIn2)) true (!rIn3)) true (!rIn4)) true (!rIn5))
  (some 2)
  (g_r06_CheckDocks_L1 N d fuel (w64 (i+1)))))
  else none))
  else none))
  else none))
  else none))))))))
  else none))
  (some 0))
def g_r06_CheckDocks (N:Nat) (d:List TDock):Option (Int) :=
 (cond (decide (((d.length:Nat):Int) > 4))
 (some 8)
 (g_r06_CheckDocks_L1 N d N 0))
def g_r06_CallOf_L1 (N:Nat) (c:List TCall) (name:ByteArray):Nat→Int→Option (Int)
 | 0,_=>none
 | fuel+1,i =>
  (cond (decide (i < ((c.length:Nat):Int)))
  ((if 0≤i∧i < ((c.length:Nat):Int) then
  (cond (streq ((c.getD ((i).toNat) TCall.d).f_Name) name)
  (some i)
  (g_r06_CallOf_L1 N c name fuel (w64 (i+1))))
  else none))
  (some (-1)))
def g_r06_CallOf (N:Nat) (c:List TCall) (name:ByteArray):Option (Int) :=
 g_r06_CallOf_L1 N c name N 0
def g_r06_CheckCalls_L1 (N:Nat) (c:List TCall):Nat→Int→Option (Int)
 | 0,_=>none
 | fuel+1,i =>
  (cond (decide (i < ((c.length:Nat):Int)))
  ((if 0≤i∧i < ((c.length:Nat):Int) then
  ((g_b_IsName N ((c.getD ((i).toNat) TCall.d).f_Name)).bind fun rIsName =>
  (cond (!rIsName)
  (some 4)
  (((g_r06_CallOf N c ((c.getD ((i).toNat) TCall.d).f_Name)).bind fun rCallOf =>
  (cond (rCallOf != i)
  (some 5)
  (((g_r06_inside N ((c.getD ((i).toNat) TCall.d).fLn) 1 1000000).bind fun rIn =>
  ((cond (!(!rIn)) (g_r06_inside N ((c.getD ((i).toNat) TCall.d).f_Beam) 1 1000000) (some false)).bind fun rIn2 =>
  ((cond (!(cond (!rIn) true (!rIn2))) (g_r06_inside N ((c.getD ((i).toNat) TCall.d).f_Draught) 0 1000000) (some false)).bind fun rIn3 =>
  ((cond (!(cond (cond (!rIn) true (!rIn2)) true (!rIn3))) (g_r06_inside N ((c.getD ((i).toNat) TCall.d).f_Under) 0 1000000) (some false)).bind fun rIn4 =>
  (cond (cond (cond (cond (!rIn) true (!rIn2)) true (!rIn3)) true (!rIn4))
  (some 2)
  (((g_r06_inside N ((c.getD ((i).toNat) TCall.d).f_Arrive) 0 400).bind fun rIn5 =>
  ((cond (!(!rIn5)) (g_r06_inside N ((c.getD ((i).toNat) TCall.d).f_Due) 0 400) (some false)).bind fun rIn6 =>
  ((cond (!(cond (!rIn5) true (!rIn6))) (g_r06_inside N ((c.getD ((i).toNat) TCall.d).f_Work) 1 1000) (some false)).bind fun rIn7 =>
  ((cond (!(cond (cond (!rIn5) true (!rIn6)) true (!rIn7))) (g_r06_inside N ((c.getD ((i).toNat) TCall.d).f_Late) 0 1000000000) (some false)).bind fun rIn8 =>
  (cond (cond (cond (cond (!rIn5) true (!rIn6)) true (!rIn7)) true (!rIn8))
  (some 2)
  (g_r06_CheckCalls_L1 N c fuel (w64 (i+1))))))))))))))))))))
  else none))
  (some 0))
def g_r06_CheckCalls (N:Nat) (c:List TCall):Option (Int) :=
 (cond (decide (((c.length:Nat):Int) > 8))
 (some 8)
 (g_r06_CheckCalls_L1 N c N 0))
def g_r05_inside (N:Nat) (n:Int) (low:Int) (high:Int):Option (Bool) :=
 some (cond (decide (n≥low)) (decide (n≤high)) false)
def g_r05_CheckSea_L1 (N:Nat) (m:List TMark):Nat→Int→Option (Int)
 | 0,_=>none
 | fuel+1,i =>
  (cond (decide (i < ((m.length:Nat):Int)))
  ((if 0≤i∧i < ((m.length:Nat):Int) then
  ((g_r05_inside N ((m.getD ((i).toNat) TMark.d).f_Minute) 0 1000000).bind fun rIn =>
  (if ((!(!rIn))=true→0≤i∧i < ((m.length:Nat):Int)) then
  ((cond (!(!rIn)) (g_r05_inside N ((m.getD ((i).toNat) TMark.d).f_Level) (-1000000) 1000000) (some false)).bind fun rIn2 =>
  (cond (cond (!rIn) true (!rIn2))
  (some 2)
  ((if ((decide (i > 0))=true→0≤i∧i < ((m.length:Nat):Int)) then
  (if ((decide (i > 0))=true→0≤(w64 (i - 1))∧(w64 (i - 1)) < ((m.length:Nat):Int)) then
  (cond (cond (decide (i > 0)) (decide ((m.getD ((i).toNat) TMark.d).f_Minute≤(m.getD ((w64 (i - 1)).toNat) TMark.d).f_Minute)) false)
  (some 10)
  (g_r05_CheckSea_L1 N m fuel (w64 (i+1))))
  else none)
  else none))))
  else none))
  else none))
  (some 0))
def g_r05_CheckSea (N:Nat) (m:List TMark):Option (Int) :=
 (cond (decide (((m.length:Nat):Int) > 400))
 (some 8)
 (g_r05_CheckSea_L1 N m N 0))
def g_r06_CheckYard (N:Nat) (y:TYard):Option (Int) :=
 ((g_r06_CheckDocks N y.f_Docks).bind fun rCheckDocks =>
 (cond (rCheckDocks != 0)
 (some rCheckDocks)
 (((g_r06_CheckCalls N y.f_Calls).bind fun rCheckCalls =>
 (cond (rCheckCalls != 0)
 (some rCheckCalls)
 (((g_r05_CheckSea N y.f_Sea).bind fun rCheckSea =>
 (cond (rCheckSea != 0)
 (some rCheckSea)
 ((cond (((y.f_Sea.length:Nat):Int) == 0)
 (some 29)
 (((g_r06_inside N y.f_Last 0 400).bind fun rIn =>
 (cond (!rIn)
 (some 2)
 (some 0))))))))))))))
def g_w_between (N:Nat) (n:Int) (low:Int) (high:Int):Option (Bool) :=
 some (cond (decide (n≥low)) (decide (n≤high)) false)
def g_w_CheckSea_L1 (N:Nat) (m:List TMark):Nat→Int→Option (Int)
 | 0,_=>none
 | fuel+1,x =>
  (cond (decide (x < ((m.length:Nat):Int)))
  ((if 0≤x∧x < ((m.length:Nat):Int) then
  ((g_w_between N ((m.getD ((x).toNat) TMark.d).f_Minute) 0 1000000).bind fun rBt =>
  ((cond (!(!rBt)) (g_w_between N ((m.getD ((x).toNat) TMark.d).f_Level) (-1000000) 1000000) (some false)).bind fun rBt2 =>
  (cond (cond (!rBt) true (!rBt2))
  (some 2)
  ((if ((decide (x > 0))=true→0≤(w64 (x - 1))∧(w64 (x - 1)) < ((m.length:Nat):Int)) then
  (cond (cond (decide (x > 0)) (decide ((m.getD ((x).toNat) TMark.d).f_Minute≤(m.getD ((w64 (x - 1)).toNat) TMark.d).f_Minute)) false)
  (some 10)
  (g_w_CheckSea_L1 N m fuel (w64 (x+1))))
  else none)))))
  else none))
  (some 0))
def g_w_CheckSea (N:Nat) (m:List TMark):Option (Int) :=
 (cond (decide (((m.length:Nat):Int) > 400))
 (some 8)
 (g_w_CheckSea_L1 N m N 0))
def g_berth_tides (N:Nat) (sea:List TMark):Option (Int) :=
 ((g_w_CheckSea N sea).bind fun rCheckSea =>
 (cond (rCheckSea != 0)
 (some rCheckSea)
 ((cond (((sea.length:Nat):Int) == 0)
 (some 29)
 (some 0)))))
def g_berth_checkYard (N:Nat) (y:TYard):Option (Int) :=
 ((g_berth_CheckDocks N y.f_Docks).bind fun rCheckDocks =>
 (cond (rCheckDocks != 0)
 (some rCheckDocks)
 (((g_berth_CheckCalls N y.f_Calls).bind fun rCheckCalls =>
 (cond (rCheckCalls != 0)
 (some rCheckCalls)
 (((g_berth_tides N y.f_Sea).bind fun rtides =>
 (cond (rtides != 0)
 (some rtides)
 (((g_berth_outside N y.f_Last 0 400).bind fun routside =>
 ((g_berth_ranged N routside).bind fun rranged =>
 some rranged)))))))))))
def g_math_bits_Len64_J3 (N:Nat) (x4:Int) (n3:Int):Option (Int) :=
 (if 0≤(IntKind.u8.wrap (x4))∧(IntKind.u8.wrap (x4)) < (((⟨#[0,1,2,2,3,3,3,3,4,4,4,4,4,4,4,4,5,5,5,5,5,5,5,5,5,5,5,5,5,5,5,5,6,6,6,6,6,6,6,6,6,6,6,6,6,6,6,6,6,6,6,6,6,6,6,6,6,6,6,6,6,6,6,6,7,7,7,7,7,7,7,7,7,7,7,7,7,7,7,7,7,7,7,7,7,7,7,7,7,7,7,7,7,7,7,7,7,7,7,7,7,7,7,7,7,7,7,7,7,7,7,7,7,7,7,7,7,7,7,7,7,7,7,7,7,7,7,7,8,8,8,8,8,8,8,8,8,8,8,8,8,8,8,8,8,8,8,8,8,8,8,8,8,8,8,8,8,8,8,8,8,8,8,8,8,8,8,8,8,8,8,8,8,8,8,8,8,8,8,8,8,8,8,8,8,8,8,8,8,8,8,8,8,8,8,8,8,8,8,8,8,8,8,8,8,8,8,8,8,8,8,8,8,8,8,8,8,8,8,8,8,8,8,8,8,8,8,8,8,8,8,8,8,8,8,8,8,8,8,8,8,8,8,8,8,8,8,8,8,8,8,8,8,8,8,8]⟩:ByteArray).size:Nat):Int) then
 some (w64 (n3+(w64 ((byteAt (⟨#[0,1,2,2,3,3,3,3,4,4,4,4,4,4,4,4,5,5,5,5,5,5,5,5,5,5,5,5,5,5,5,5,6,6,6,6,6,6,6,6,6,6,6,6,6,6,6,6,6,6,6,6,6,6,6,6,6,6,6,6,6,6,6,6,7,7,7,7,7,7,7,7,7,7,7,7,7,7,7,7,7,7,7,7,7,7,7,7,7,7,7,7,7,7,7,7,7,7,7,7,7,7,7,7,7,7,7,7,7,7,7,7,7,7,7,7,7,7,7,7,7,7,7,7,7,7,7,7,8,8,8,8,8,8,8,8,8,8,8,8,8,8,8,8,8,8,8,8,8,8,8,8,8,8,8,8,8,8,8,8,8,8,8,8,8,8,8,8,8,8,8,8,8,8,8,8,8,8,8,8,8,8,8,8,8,8,8,8,8,8,8,8,8,8,8,8,8,8,8,8,8,8,8,8,8,8,8,8,8,8,8,8,8,8,8,8,8,8,8,8,8,8,8,8,8,8,8,8,8,8,8,8,8,8,8,8,8,8,8,8,8,8,8,8,8,8,8,8,8,8,8,8,8,8,8,8]⟩:ByteArray) ((IntKind.u8.wrap (x4)).toNat))))))
 else none)
def g_math_bits_Len64_J2 (N:Nat) (x3:Int) (n2:Int):Option (Int) :=
 (cond (decide (x3≥256))
 (g_math_bits_Len64_J3 N (shrI .u64 x3 8) (w64 (n2+8)))
 (g_math_bits_Len64_J3 N x3 n2))
def g_math_bits_Len64_J1 (N:Nat) (x2:Int) (n:Int):Option (Int) :=
 (cond (decide (x2≥65536))
 (g_math_bits_Len64_J2 N (shrI .u64 x2 16) (w64 (n+16)))
 (g_math_bits_Len64_J2 N x2 n))
def g_math_bits_Len64 (N:Nat) (x:Int):Option (Int) :=
 (cond (decide (x≥4294967296))
 (g_math_bits_Len64_J1 N (shrI .u64 x 32) 32)
 (g_math_bits_Len64_J1 N x 0))
def g_math_bits_Len (N:Nat) (x:Int):Option (Int) :=
 ((g_math_bits_Len64 N x).bind fun rLen64 =>
 some rLen64)
def g_cmp_isNaN_int (N:Nat) (x:Int):Option (Bool) :=
 some (x != x)
def g_cmp_Less_int (N:Nat) (x:Int) (y:Int):Option (Bool) :=
 ((g_cmp_isNaN_int N x).bind fun risNaN =>
 ((cond risNaN (g_cmp_isNaN_int N y) (some false)).bind fun risNaN2 =>
 some (cond (cond risNaN (!risNaN2) false) true (decide (x < y)))))
def g_slices_insertionSortOrdered_int_L2 (N:Nat) (a:Int) (b:Int) (i:Int) (K_g_slices_insertionSortOrdered_int_L1:(List Int)→Int→Option ((List Int))):Nat→(List Int)→Int→Option ((List Int))
 | 0,_,_=>none
 | fuel+1,cap03,j =>
  (if ((decide (j > a))=true→0≤j∧j < ((cap03.length:Nat):Int)) then
  (if ((decide (j > a))=true→0≤(w64 (j - 1))∧(w64 (j - 1)) < ((cap03.length:Nat):Int)) then
  ((cond (decide (j > a)) (g_cmp_Less_int N (cap03.getD ((j).toNat) 0) (cap03.getD ((w64 (j - 1)).toNat) 0)) (some false)).bind fun rLess =>
  (cond (cond (decide (j > a)) rLess false)
  ((if 0≤(w64 (j - 1))∧(w64 (j - 1)) < ((cap03.length:Nat):Int) then
  (if 0≤j∧j < ((cap03.length:Nat):Int) then
  g_slices_insertionSortOrdered_int_L2 N a b i K_g_slices_insertionSortOrdered_int_L1 fuel ((cap03.set ((j).toNat) (cap03.getD ((w64 (j - 1)).toNat) 0)).set ((w64 (j - 1)).toNat) (cap03.getD ((j).toNat) 0)) (w64 (j - 1))
  else none)
  else none))
  (K_g_slices_insertionSortOrdered_int_L1 cap03 (w64 (i+1)))))
  else none)
  else none)
def g_slices_insertionSortOrdered_int_L1 (N:Nat) (a:Int) (b:Int):Nat→(List Int)→Int→Option ((List Int))
 | 0,_,_=>none
 | fuel+1,cap02,i =>
  (cond (decide (i < b))
  (g_slices_insertionSortOrdered_int_L2 N a b i (g_slices_insertionSortOrdered_int_L1 N a b fuel) N cap02 i)
  (some cap02))
def g_slices_insertionSortOrdered_int (N:Nat) (a:Int) (b:Int) (cap0:List Int):Option ((List Int)) :=
 g_slices_insertionSortOrdered_int_L1 N a b N cap0 (w64 (a+1))
def g_slices_siftDownOrdered_int_J2 (N:Nat) (hi:Int) (first:Int) (cap02:List Int) (root:Int) (K_g_slices_siftDownOrdered_int_L1:(List Int)→Int→Option ((List Int))) (child:Int):Option ((List Int)) :=
 (if 0≤(w64 (first+root))∧(w64 (first+root)) < ((cap02.length:Nat):Int) then
 (if 0≤(w64 (first+child))∧(w64 (first+child)) < ((cap02.length:Nat):Int) then
 ((g_cmp_Less_int N (cap02.getD ((w64 (first+root)).toNat) 0) (cap02.getD ((w64 (first+child)).toNat) 0)).bind fun rLess2 =>
 (cond (!rLess2)
 (some cap02)
 (K_g_slices_siftDownOrdered_int_L1 ((cap02.set ((w64 (first+root)).toNat) (cap02.getD ((w64 (first+child)).toNat) 0)).set ((w64 (first+child)).toNat) (cap02.getD ((w64 (first+root)).toNat) 0)) child)))
 else none)
 else none)
def g_slices_siftDownOrdered_int_L1 (N:Nat) (hi:Int) (first:Int):Nat→(List Int)→Int→Option ((List Int))
 | 0,_,_=>none
 | fuel+1,cap02,root =>
  (cond (decide ((w64 ((w64 (2 * root))+1))≥hi))
  (some cap02)
  ((if ((decide ((w64 ((w64 ((w64 (2 * root))+1))+1)) < hi))=true→0≤(w64 (first+(w64 ((w64 (2 * root))+1))))∧(w64 (first+(w64 ((w64 (2 * root))+1)))) < ((cap02.length:Nat):Int)) then
  (if ((decide ((w64 ((w64 ((w64 (2 * root))+1))+1)) < hi))=true→0≤(w64 ((w64 (first+(w64 ((w64 (2 * root))+1))))+1))∧(w64 ((w64 (first+(w64 ((w64 (2 * root))+1))))+1)) < ((cap02.length:Nat):Int)) then
  ((cond (decide ((w64 ((w64 ((w64 (2 * root))+1))+1)) < hi)) (g_cmp_Less_int N (cap02.getD ((w64 (first+(w64 ((w64 (2 * root))+1)))).toNat) 0) (cap02.getD ((w64 ((w64 (first+(w64 ((w64 (2 * root))+1))))+1)).toNat) 0)) (some false)).bind fun rLess =>
  (cond (cond (decide ((w64 ((w64 ((w64 (2 * root))+1))+1)) < hi)) rLess false)
  (g_slices_siftDownOrdered_int_J2 N hi first cap02 root (g_slices_siftDownOrdered_int_L1 N hi first fuel) (w64 ((w64 ((w64 (2 * root))+1))+1)))
  (g_slices_siftDownOrdered_int_J2 N hi first cap02 root (g_slices_siftDownOrdered_int_L1 N hi first fuel) (w64 ((w64 (2 * root))+1)))))
  else none)
  else none)))
def g_slices_siftDownOrdered_int (N:Nat) (lo:Int) (hi:Int) (first:Int) (cap0:List Int):Option ((List Int)) :=
 g_slices_siftDownOrdered_int_L1 N hi first N cap0 lo
def g_slices_heapSortOrdered_int_L2 (N:Nat) (a:Int):Nat→(List Int)→Int→Option ((List Int))
 | 0,_,_=>none
 | fuel+1,cap03,i2 =>
  (cond (decide (i2≥0))
  ((if 0≤(w64 (a+i2))∧(w64 (a+i2)) < ((cap03.length:Nat):Int) then
  (if 0≤a∧a < ((cap03.length:Nat):Int) then
  ((g_slices_siftDownOrdered_int N 0 i2 a ((cap03.set ((a).toNat) (cap03.getD ((w64 (a+i2)).toNat) 0)).set ((w64 (a+i2)).toNat) (cap03.getD ((a).toNat) 0))).bind fun rsiftDownOrde2 =>
  (if rsiftDownOrde2.length=((cap03.set ((a).toNat) (cap03.getD ((w64 (a+i2)).toNat) 0)).set ((w64 (a+i2)).toNat) (cap03.getD ((a).toNat) 0)).length then
  g_slices_heapSortOrdered_int_L2 N a fuel rsiftDownOrde2 (w64 (i2 - 1))
  else none))
  else none)
  else none))
  (some cap03))
def g_slices_heapSortOrdered_int_L1 (N:Nat) (a:Int) (b:Int):Nat→(List Int)→Int→Option ((List Int))
 | 0,_,_=>none
 | fuel+1,cap02,i =>
  (cond (decide (i≥0))
  (((g_slices_siftDownOrdered_int N i (w64 (b - a)) a cap02).bind fun rsiftDownOrde =>
  (if rsiftDownOrde.length=cap02.length then
  g_slices_heapSortOrdered_int_L1 N a b fuel rsiftDownOrde (w64 (i - 1))
  else none)))
  (g_slices_heapSortOrdered_int_L2 N a N cap02 (w64 ((w64 (b - a)) - 1))))
def g_slices_heapSortOrdered_int (N:Nat) (a:Int) (b:Int) (cap0:List Int):Option ((List Int)) :=
 g_slices_heapSortOrdered_int_L1 N a b N cap0 (w64 ((w64 ((w64 (b - a)) - 1)).tdiv 2))
def g_slices_nextPowerOfTwo (N:Nat) (length:Int):Option (Int) :=
 ((g_math_bits_Len N (IntKind.u64.wrap (length))).bind fun rLen =>
 (if (0:Int)≤rLen then
 some (shlI .u64 1 rLen)
 else none))
def g_slices_xorshift_Next (N:Nat) (cap0:Int):Option (Int×Int) :=
 some ((xorI .u64 (xorI .u64 (xorI .u64 cap0 (shlI .u64 cap0 13)) (shrI .u64 (xorI .u64 cap0 (shlI .u64 cap0 13)) 7)) (shlI .u64 (xorI .u64 (xorI .u64 cap0 (shlI .u64 cap0 13)) (shrI .u64 (xorI .u64 cap0 (shlI .u64 cap0 13)) 7)) 17)),(xorI .u64 (xorI .u64 (xorI .u64 cap0 (shlI .u64 cap0 13)) (shrI .u64 (xorI .u64 cap0 (shlI .u64 cap0 13)) 7)) (shlI .u64 (xorI .u64 (xorI .u64 cap0 (shlI .u64 cap0 13)) (shrI .u64 (xorI .u64 cap0 (shlI .u64 cap0 13)) 7)) 17)))
def g_slices_breakPatternsOrdered_int_J2 (N:Nat) (a:Int) (b:Int) (rnextPowerOfT:Int) (cap02:List Int) (idx:Int) (rNext:Int×Int) (K_g_slices_breakPatternsOrdered_int_L1:(List Int)→Int→Int→Option ((List Int))) (other:Int):Option ((List Int)) :=
 (if 0≤(w64 (a+other))∧(w64 (a+other)) < ((cap02.length:Nat):Int) then
 (if 0≤idx∧idx < ((cap02.length:Nat):Int) then
 K_g_slices_breakPatternsOrdered_int_L1 ((cap02.set ((idx).toNat) (cap02.getD ((w64 (a+other)).toNat) 0)).set ((w64 (a+other)).toNat) (cap02.getD ((idx).toNat) 0)) rNext.2 (w64 (idx+1))
 else none)
 else none)
def g_slices_breakPatternsOrdered_int_L1 (N:Nat) (a:Int) (b:Int) (rnextPowerOfT:Int):Nat→(List Int)→Int→Int→Option ((List Int))
 | 0,_,_,_=>none
 | fuel+1,cap02,random,idx =>
  (cond (decide (idx≤(w64 ((w64 (a+(w64 ((w64 ((w64 (b - a)).tdiv 4)) * 2))))+1))))
  (((g_slices_xorshift_Next N random).bind fun rNext =>
  (cond (decide ((w64 ((andI .u64 rNext.1 (IntKind.u64.wrap (rnextPowerOfT - 1)))))≥(w64 (b - a))))
  (g_slices_breakPatternsOrdered_int_J2 N a b rnextPowerOfT cap02 idx rNext (g_slices_breakPatternsOrdered_int_L1 N a b rnextPowerOfT fuel) (w64 ((w64 ((andI .u64 rNext.1 (IntKind.u64.wrap (rnextPowerOfT - 1))))) - (w64 (b - a)))))
  (g_slices_breakPatternsOrdered_int_J2 N a b rnextPowerOfT cap02 idx rNext (g_slices_breakPatternsOrdered_int_L1 N a b rnextPowerOfT fuel) (w64 ((andI .u64 rNext.1 (IntKind.u64.wrap (rnextPowerOfT - 1)))))))))
  (some cap02))
def g_slices_breakPatternsOrdered_int (N:Nat) (a:Int) (b:Int) (cap0:List Int):Option ((List Int)) :=
 (cond (decide ((w64 (b - a))≥8))
 (((g_slices_nextPowerOfTwo N (w64 (b - a))).bind fun rnextPowerOfT =>
 g_slices_breakPatternsOrdered_int_L1 N a b rnextPowerOfT N cap0 (IntKind.u64.wrap ((w64 (b - a)))) (w64 ((w64 (a+(w64 ((w64 ((w64 (b - a)).tdiv 4)) * 2)))) - 1))))
 (some cap0))
def g_slices_order2Ordered_int (N:Nat) (data:List Int) (a:Int) (b:Int) (cap0:Int):Option (Int×Int×Int) :=
 (if 0≤b∧b < ((data.length:Nat):Int) then
 (if 0≤a∧a < ((data.length:Nat):Int) then
 ((g_cmp_Less_int N (data.getD ((b).toNat) 0) (data.getD ((a).toNat) 0)).bind fun rLess =>
 (cond rLess
 (some (b,a,(w64 (cap0+1))))
 (some (a,b,cap0))))
 else none)
 else none)
def g_slices_medianOrdered_int (N:Nat) (data:List Int) (a:Int) (b:Int) (c:Int) (cap0:Int):Option (Int×Int) :=
 ((g_slices_order2Ordered_int N data a b cap0).bind fun rorder2Ordere =>
 ((g_slices_order2Ordered_int N data rorder2Ordere.2.1 c rorder2Ordere.2.2).bind fun rorder2Ordere2 =>
 ((g_slices_order2Ordered_int N data rorder2Ordere.1 rorder2Ordere2.1 rorder2Ordere2.2.2).bind fun rorder2Ordere3 =>
 some (rorder2Ordere3.2.1,rorder2Ordere3.2.2))))
def g_slices_medianAdjacentOrdered_int (N:Nat) (data:List Int) (a:Int) (cap0:Int):Option (Int×Int) :=
 ((g_slices_medianOrdered_int N data (w64 (a - 1)) a (w64 (a+1)) cap0).bind fun rmedianOrdere =>
 some (rmedianOrdere.1,rmedianOrdere.2))
def g_slices_choosePivotOrdered_int_J2 (N:Nat) (swaps2:Int) (j2:Int):Option (Int×Int) :=
 (cond (swaps2 == 0)
 (some (j2,1))
 ((cond (swaps2 == 12)
 (some (j2,2))
 (some (j2,0)))))
def g_slices_choosePivotOrdered_int_J1 (N:Nat) (data:List Int) (swaps:Int) (i:Int) (j:Int) (k:Int):Option (Int×Int) :=
 ((g_slices_medianOrdered_int N data i j k swaps).bind fun rmedianOrdere =>
 g_slices_choosePivotOrdered_int_J2 N rmedianOrdere.2 rmedianOrdere.1)
def g_slices_choosePivotOrdered_int (N:Nat) (data:List Int) (a:Int) (b:Int):Option (Int×Int) :=
 (cond (decide ((w64 (b - a))≥8))
 ((cond (decide ((w64 (b - a))≥50))
 (((g_slices_medianAdjacentOrdered_int N data (w64 (a+(w64 ((w64 ((w64 (b - a)).tdiv 4)) * 1)))) 0).bind fun rmedianAdjace =>
 ((g_slices_medianAdjacentOrdered_int N data (w64 (a+(w64 ((w64 ((w64 (b - a)).tdiv 4)) * 2)))) rmedianAdjace.2).bind fun rmedianAdjace2 =>
 ((g_slices_medianAdjacentOrdered_int N data (w64 (a+(w64 ((w64 ((w64 (b - a)).tdiv 4)) * 3)))) rmedianAdjace2.2).bind fun rmedianAdjace3 =>
 g_slices_choosePivotOrdered_int_J1 N data rmedianAdjace3.2 rmedianAdjace.1 rmedianAdjace2.1 rmedianAdjace3.1))))
 (g_slices_choosePivotOrdered_int_J1 N data 0 (w64 (a+(w64 ((w64 ((w64 (b - a)).tdiv 4)) * 1)))) (w64 (a+(w64 ((w64 ((w64 (b - a)).tdiv 4)) * 2)))) (w64 (a+(w64 ((w64 ((w64 (b - a)).tdiv 4)) * 3)))))))
 (g_slices_choosePivotOrdered_int_J2 N 0 (w64 (a+(w64 ((w64 ((w64 (b - a)).tdiv 4)) * 2))))))
def g_slices_reverseRangeOrdered_int_L1 (N:Nat):Nat→(List Int)→Int→Int→Option ((List Int))
 | 0,_,_,_=>none
 | fuel+1,cap02,i,j =>
  (cond (decide (i < j))
  ((if 0≤j∧j < ((cap02.length:Nat):Int) then
  (if 0≤i∧i < ((cap02.length:Nat):Int) then
  g_slices_reverseRangeOrdered_int_L1 N fuel ((cap02.set ((i).toNat) (cap02.getD ((j).toNat) 0)).set ((j).toNat) (cap02.getD ((i).toNat) 0)) (w64 (i+1)) (w64 (j - 1))
  else none)
  else none))
  (some cap02))
def g_slices_reverseRangeOrdered_int (N:Nat) (a:Int) (b:Int) (cap0:List Int):Option ((List Int)) :=
 g_slices_reverseRangeOrdered_int_L1 N N cap0 a (w64 (b - 1))
def g_slices_partialInsertionSortOrdered_int_J6 (N:Nat) (a:Int) (b:Int) (j:Int) (i2:Int) (K_g_slices_partialInsertionSortOrdered_int_L1:(List Int)→Int→Int→Option (Bool×(List Int))) (cap06:List Int):Option (Bool×(List Int)) :=
 K_g_slices_partialInsertionSortOrdered_int_L1 cap06 i2 (w64 (j+1))
def g_slices_partialInsertionSortOrdered_int_L5 (N:Nat) (a:Int) (b:Int) (j:Int) (i2:Int) (K_g_slices_partialInsertionSortOrdered_int_L1:(List Int)→Int→Int→Option (Bool×(List Int))):Nat→(List Int)→Int→Option (Bool×(List Int))
 | 0,_,_=>none
 | fuel+1,cap05,j3 =>
  (cond (decide (j3 < b))
  ((if 0≤j3∧j3 < ((cap05.length:Nat):Int) then
  (if 0≤(w64 (j3 - 1))∧(w64 (j3 - 1)) < ((cap05.length:Nat):Int) then
  ((g_cmp_Less_int N (cap05.getD ((j3).toNat) 0) (cap05.getD ((w64 (j3 - 1)).toNat) 0)).bind fun rLess3 =>
  (cond (!rLess3)
  (g_slices_partialInsertionSortOrdered_int_J6 N a b j i2 K_g_slices_partialInsertionSortOrdered_int_L1 cap05)
  (g_slices_partialInsertionSortOrdered_int_L5 N a b j i2 K_g_slices_partialInsertionSortOrdered_int_L1 fuel ((cap05.set ((j3).toNat) (cap05.getD ((w64 (j3 - 1)).toNat) 0)).set ((w64 (j3 - 1)).toNat) (cap05.getD ((j3).toNat) 0)) (w64 (j3+1)))))
  else none)
  else none))
  (g_slices_partialInsertionSortOrdered_int_J6 N a b j i2 K_g_slices_partialInsertionSortOrdered_int_L1 cap05))
def g_slices_partialInsertionSortOrdered_int_J4 (N:Nat) (a:Int) (b:Int) (j:Int) (i2:Int) (K_g_slices_partialInsertionSortOrdered_int_L1:(List Int)→Int→Int→Option (Bool×(List Int))) (cap04:List Int):Option (Bool×(List Int)) :=
 (cond (decide ((w64 (b - i2))≥2))
 (g_slices_partialInsertionSortOrdered_int_L5 N a b j i2 K_g_slices_partialInsertionSortOrdered_int_L1 N cap04 (w64 (i2+1)))
 (g_slices_partialInsertionSortOrdered_int_J6 N a b j i2 K_g_slices_partialInsertionSortOrdered_int_L1 cap04))
def g_slices_partialInsertionSortOrdered_int_L3 (N:Nat) (a:Int) (b:Int) (j:Int) (i2:Int) (K_g_slices_partialInsertionSortOrdered_int_L1:(List Int)→Int→Int→Option (Bool×(List Int))):Nat→(List Int)→Int→Option (Bool×(List Int))
 | 0,_,_=>none
 | fuel+1,cap03,j2 =>
  (cond (decide (j2≥1))
  ((if 0≤j2∧j2 < ((cap03.length:Nat):Int) then
  (if 0≤(w64 (j2 - 1))∧(w64 (j2 - 1)) < ((cap03.length:Nat):Int) then
  ((g_cmp_Less_int N (cap03.getD ((j2).toNat) 0) (cap03.getD ((w64 (j2 - 1)).toNat) 0)).bind fun rLess2 =>
  (cond (!rLess2)
  (g_slices_partialInsertionSortOrdered_int_J4 N a b j i2 K_g_slices_partialInsertionSortOrdered_int_L1 cap03)
  (g_slices_partialInsertionSortOrdered_int_L3 N a b j i2 K_g_slices_partialInsertionSortOrdered_int_L1 fuel ((cap03.set ((j2).toNat) (cap03.getD ((w64 (j2 - 1)).toNat) 0)).set ((w64 (j2 - 1)).toNat) (cap03.getD ((j2).toNat) 0)) (w64 (j2 - 1)))))
  else none)
  else none))
  (g_slices_partialInsertionSortOrdered_int_J4 N a b j i2 K_g_slices_partialInsertionSortOrdered_int_L1 cap03))
def g_slices_partialInsertionSortOrdered_int_L2 (N:Nat) (a:Int) (b:Int) (cap02:List Int) (j:Int) (K_g_slices_partialInsertionSortOrdered_int_L1:(List Int)→Int→Int→Option (Bool×(List Int))):Nat→Int→Option (Bool×(List Int))
 | 0,_=>none
 | fuel+1,i2 =>
  (if ((decide (i2 < b))=true→0≤i2∧i2 < ((cap02.length:Nat):Int)) then
  (if ((decide (i2 < b))=true→0≤(w64 (i2 - 1))∧(w64 (i2 - 1)) < ((cap02.length:Nat):Int)) then
  ((cond (decide (i2 < b)) (g_cmp_Less_int N (cap02.getD ((i2).toNat) 0) (cap02.getD ((w64 (i2 - 1)).toNat) 0)) (some false)).bind fun rLess =>
  (cond (cond (decide (i2 < b)) (!rLess) false)
  (g_slices_partialInsertionSortOrdered_int_L2 N a b cap02 j K_g_slices_partialInsertionSortOrdered_int_L1 fuel (w64 (i2+1)))
  ((cond (i2 == b)
  (some (true,cap02))
  ((cond (decide ((w64 (b - a)) < 50))
  (some (false,cap02))
  ((if 0≤(w64 (i2 - 1))∧(w64 (i2 - 1)) < ((cap02.length:Nat):Int) then
  (if 0≤i2∧i2 < ((cap02.length:Nat):Int) then
  (cond (decide ((w64 (i2 - a))≥2))
  (g_slices_partialInsertionSortOrdered_int_L3 N a b j i2 K_g_slices_partialInsertionSortOrdered_int_L1 N ((cap02.set ((i2).toNat) (cap02.getD ((w64 (i2 - 1)).toNat) 0)).set ((w64 (i2 - 1)).toNat) (cap02.getD ((i2).toNat) 0)) (w64 (i2 - 1)))
  (g_slices_partialInsertionSortOrdered_int_J4 N a b j i2 K_g_slices_partialInsertionSortOrdered_int_L1 ((cap02.set ((i2).toNat) (cap02.getD ((w64 (i2 - 1)).toNat) 0)).set ((w64 (i2 - 1)).toNat) (cap02.getD ((i2).toNat) 0))))
  else none)
  else none))))))))
  else none)
  else none)
def g_slices_partialInsertionSortOrdered_int_L1 (N:Nat) (a:Int) (b:Int):Nat→(List Int)→Int→Int→Option (Bool×(List Int))
 | 0,_,_,_=>none
 | fuel+1,cap02,i,j =>
  (cond (decide (j < 5))
  (g_slices_partialInsertionSortOrdered_int_L2 N a b cap02 j (g_slices_partialInsertionSortOrdered_int_L1 N a b fuel) N i)
  (some (false,cap02)))
def g_slices_partialInsertionSortOrdered_int (N:Nat) (a:Int) (b:Int) (cap0:List Int):Option (Bool×(List Int)) :=
 g_slices_partialInsertionSortOrdered_int_L1 N a b N cap0 (w64 (a+1)) 0
def g_slices_partitionEqualOrdered_int_L3 (N:Nat) (a:Int) (cap02:List Int) (i2:Int) (K_g_slices_partitionEqualOrdered_int_L1:(List Int)→Int→Int→Option (Int×(List Int))):Nat→Int→Option (Int×(List Int))
 | 0,_=>none
 | fuel+1,j2 =>
  (if ((decide (i2≤j2))=true→0≤a∧a < ((cap02.length:Nat):Int)) then
  (if ((decide (i2≤j2))=true→0≤j2∧j2 < ((cap02.length:Nat):Int)) then
  ((cond (decide (i2≤j2)) (g_cmp_Less_int N (cap02.getD ((a).toNat) 0) (cap02.getD ((j2).toNat) 0)) (some false)).bind fun rLess2 =>
  (cond (cond (decide (i2≤j2)) rLess2 false)
  (g_slices_partitionEqualOrdered_int_L3 N a cap02 i2 K_g_slices_partitionEqualOrdered_int_L1 fuel (w64 (j2 - 1)))
  ((cond (decide (i2 > j2))
  (some (i2,cap02))
  ((if 0≤j2∧j2 < ((cap02.length:Nat):Int) then
  (if 0≤i2∧i2 < ((cap02.length:Nat):Int) then
  K_g_slices_partitionEqualOrdered_int_L1 ((cap02.set ((i2).toNat) (cap02.getD ((j2).toNat) 0)).set ((j2).toNat) (cap02.getD ((i2).toNat) 0)) (w64 (i2+1)) (w64 (j2 - 1))
  else none)
  else none))))))
  else none)
  else none)
def g_slices_partitionEqualOrdered_int_L2 (N:Nat) (a:Int) (cap02:List Int) (j:Int) (K_g_slices_partitionEqualOrdered_int_L1:(List Int)→Int→Int→Option (Int×(List Int))):Nat→Int→Option (Int×(List Int))
 | 0,_=>none
 | fuel+1,i2 =>
  (if ((decide (i2≤j))=true→0≤a∧a < ((cap02.length:Nat):Int)) then
  (if ((decide (i2≤j))=true→0≤i2∧i2 < ((cap02.length:Nat):Int)) then
  ((cond (decide (i2≤j)) (g_cmp_Less_int N (cap02.getD ((a).toNat) 0) (cap02.getD ((i2).toNat) 0)) (some false)).bind fun rLess =>
  (cond (cond (decide (i2≤j)) (!rLess) false)
  (g_slices_partitionEqualOrdered_int_L2 N a cap02 j K_g_slices_partitionEqualOrdered_int_L1 fuel (w64 (i2+1)))
  (g_slices_partitionEqualOrdered_int_L3 N a cap02 i2 K_g_slices_partitionEqualOrdered_int_L1 N j)))
  else none)
  else none)
def g_slices_partitionEqualOrdered_int_L1 (N:Nat) (a:Int):Nat→(List Int)→Int→Int→Option (Int×(List Int))
 | 0,_,_,_=>none
 | fuel+1,cap02,i,j =>
  g_slices_partitionEqualOrdered_int_L2 N a cap02 j (g_slices_partitionEqualOrdered_int_L1 N a fuel) N i
def g_slices_partitionEqualOrdered_int (N:Nat) (a:Int) (b:Int) (pivot:Int) (cap0:List Int):Option (Int×(List Int)) :=
 (if 0≤pivot∧pivot < ((cap0.length:Nat):Int) then
 (if 0≤a∧a < ((cap0.length:Nat):Int) then
 g_slices_partitionEqualOrdered_int_L1 N a N ((cap0.set ((a).toNat) (cap0.getD ((pivot).toNat) 0)).set ((pivot).toNat) (cap0.getD ((a).toNat) 0)) (w64 (a+1)) (w64 (b - 1))
 else none)
 else none)
def g_slices_partitionOrdered_int_L5 (N:Nat) (a:Int) (cap02:List Int) (i3:Int) (K_g_slices_partitionOrdered_int_L3:(List Int)→Int→Int→Option (Int×Bool×(List Int))):Nat→Int→Option (Int×Bool×(List Int))
 | 0,_=>none
 | fuel+1,j3 =>
  (if ((decide (i3≤j3))=true→0≤j3∧j3 < ((cap02.length:Nat):Int)) then
  (if ((decide (i3≤j3))=true→0≤a∧a < ((cap02.length:Nat):Int)) then
  ((cond (decide (i3≤j3)) (g_cmp_Less_int N (cap02.getD ((j3).toNat) 0) (cap02.getD ((a).toNat) 0)) (some false)).bind fun rLess4 =>
  (cond (cond (decide (i3≤j3)) (!rLess4) false)
  (g_slices_partitionOrdered_int_L5 N a cap02 i3 K_g_slices_partitionOrdered_int_L3 fuel (w64 (j3 - 1)))
  ((cond (decide (i3 > j3))
  ((if 0≤a∧a < ((cap02.length:Nat):Int) then
  (if 0≤j3∧j3 < ((cap02.length:Nat):Int) then
  some (j3,false,((cap02.set ((j3).toNat) (cap02.getD ((a).toNat) 0)).set ((a).toNat) (cap02.getD ((j3).toNat) 0)))
  else none)
  else none))
  ((if 0≤j3∧j3 < ((cap02.length:Nat):Int) then
  (if 0≤i3∧i3 < ((cap02.length:Nat):Int) then
  K_g_slices_partitionOrdered_int_L3 ((cap02.set ((i3).toNat) (cap02.getD ((j3).toNat) 0)).set ((j3).toNat) (cap02.getD ((i3).toNat) 0)) (w64 (i3+1)) (w64 (j3 - 1))
  else none)
  else none))))))
  else none)
  else none)
def g_slices_partitionOrdered_int_L4 (N:Nat) (a:Int) (cap02:List Int) (j2:Int) (K_g_slices_partitionOrdered_int_L3:(List Int)→Int→Int→Option (Int×Bool×(List Int))):Nat→Int→Option (Int×Bool×(List Int))
 | 0,_=>none
 | fuel+1,i3 =>
  (if ((decide (i3≤j2))=true→0≤i3∧i3 < ((cap02.length:Nat):Int)) then
  (if ((decide (i3≤j2))=true→0≤a∧a < ((cap02.length:Nat):Int)) then
  ((cond (decide (i3≤j2)) (g_cmp_Less_int N (cap02.getD ((i3).toNat) 0) (cap02.getD ((a).toNat) 0)) (some false)).bind fun rLess3 =>
  (cond (cond (decide (i3≤j2)) rLess3 false)
  (g_slices_partitionOrdered_int_L4 N a cap02 j2 K_g_slices_partitionOrdered_int_L3 fuel (w64 (i3+1)))
  (g_slices_partitionOrdered_int_L5 N a cap02 i3 K_g_slices_partitionOrdered_int_L3 N j2)))
  else none)
  else none)
def g_slices_partitionOrdered_int_L3 (N:Nat) (a:Int):Nat→(List Int)→Int→Int→Option (Int×Bool×(List Int))
 | 0,_,_,_=>none
 | fuel+1,cap02,i2,j2 =>
  g_slices_partitionOrdered_int_L4 N a cap02 j2 (g_slices_partitionOrdered_int_L3 N a fuel) N i2
def g_slices_partitionOrdered_int_L2 (N:Nat) (a:Int) (pivot:Int) (cap0:List Int) (i:Int):Nat→Int→Option (Int×Bool×(List Int))
 | 0,_=>none
 | fuel+1,j =>
  (if ((decide (i≤j))=true→0≤j∧j < ((((cap0.set ((a).toNat) (cap0.getD ((pivot).toNat) 0)).set ((pivot).toNat) (cap0.getD ((a).toNat) 0)).length:Nat):Int)) then
  (if ((decide (i≤j))=true→0≤a∧a < ((((cap0.set ((a).toNat) (cap0.getD ((pivot).toNat) 0)).set ((pivot).toNat) (cap0.getD ((a).toNat) 0)).length:Nat):Int)) then
  ((cond (decide (i≤j)) (g_cmp_Less_int N (((cap0.set ((a).toNat) (cap0.getD ((pivot).toNat) 0)).set ((pivot).toNat) (cap0.getD ((a).toNat) 0)).getD ((j).toNat) 0) (((cap0.set ((a).toNat) (cap0.getD ((pivot).toNat) 0)).set ((pivot).toNat) (cap0.getD ((a).toNat) 0)).getD ((a).toNat) 0)) (some false)).bind fun rLess2 =>
  (cond (cond (decide (i≤j)) (!rLess2) false)
  (g_slices_partitionOrdered_int_L2 N a pivot cap0 i fuel (w64 (j - 1)))
  ((cond (decide (i > j))
  ((if 0≤a∧a < ((((cap0.set ((a).toNat) (cap0.getD ((pivot).toNat) 0)).set ((pivot).toNat) (cap0.getD ((a).toNat) 0)).length:Nat):Int) then
  (if 0≤j∧j < ((((cap0.set ((a).toNat) (cap0.getD ((pivot).toNat) 0)).set ((pivot).toNat) (cap0.getD ((a).toNat) 0)).length:Nat):Int) then
  some (j,true,((((cap0.set ((a).toNat) (cap0.getD ((pivot).toNat) 0)).set ((pivot).toNat) (cap0.getD ((a).toNat) 0)).set ((j).toNat) (((cap0.set ((a).toNat) (cap0.getD ((pivot).toNat) 0)).set ((pivot).toNat) (cap0.getD ((a).toNat) 0)).getD ((a).toNat) 0)).set ((a).toNat) (((cap0.set ((a).toNat) (cap0.getD ((pivot).toNat) 0)).set ((pivot).toNat) (cap0.getD ((a).toNat) 0)).getD ((j).toNat) 0)))
  else none)
  else none))
  ((if 0≤j∧j < ((((cap0.set ((a).toNat) (cap0.getD ((pivot).toNat) 0)).set ((pivot).toNat) (cap0.getD ((a).toNat) 0)).length:Nat):Int) then
  (if 0≤i∧i < ((((cap0.set ((a).toNat) (cap0.getD ((pivot).toNat) 0)).set ((pivot).toNat) (cap0.getD ((a).toNat) 0)).length:Nat):Int) then
  g_slices_partitionOrdered_int_L3 N a N ((((cap0.set ((a).toNat) (cap0.getD ((pivot).toNat) 0)).set ((pivot).toNat) (cap0.getD ((a).toNat) 0)).set ((i).toNat) (((cap0.set ((a).toNat) (cap0.getD ((pivot).toNat) 0)).set ((pivot).toNat) (cap0.getD ((a).toNat) 0)).getD ((j).toNat) 0)).set ((j).toNat) (((cap0.set ((a).toNat) (cap0.getD ((pivot).toNat) 0)).set ((pivot).toNat) (cap0.getD ((a).toNat) 0)).getD ((i).toNat) 0)) (w64 (i+1)) (w64 (j - 1))
  else none)
  else none))))))
  else none)
  else none)
def g_slices_partitionOrdered_int_L1 (N:Nat) (a:Int) (b:Int) (pivot:Int) (cap0:List Int):Nat→Int→Option (Int×Bool×(List Int))
 | 0,_=>none
 | fuel+1,i =>
  (if ((decide (i≤(w64 (b - 1))))=true→0≤i∧i < ((((cap0.set ((a).toNat) (cap0.getD ((pivot).toNat) 0)).set ((pivot).toNat) (cap0.getD ((a).toNat) 0)).length:Nat):Int)) then
  (if ((decide (i≤(w64 (b - 1))))=true→0≤a∧a < ((((cap0.set ((a).toNat) (cap0.getD ((pivot).toNat) 0)).set ((pivot).toNat) (cap0.getD ((a).toNat) 0)).length:Nat):Int)) then
  ((cond (decide (i≤(w64 (b - 1)))) (g_cmp_Less_int N (((cap0.set ((a).toNat) (cap0.getD ((pivot).toNat) 0)).set ((pivot).toNat) (cap0.getD ((a).toNat) 0)).getD ((i).toNat) 0) (((cap0.set ((a).toNat) (cap0.getD ((pivot).toNat) 0)).set ((pivot).toNat) (cap0.getD ((a).toNat) 0)).getD ((a).toNat) 0)) (some false)).bind fun rLess =>
  (cond (cond (decide (i≤(w64 (b - 1)))) rLess false)
  (g_slices_partitionOrdered_int_L1 N a b pivot cap0 fuel (w64 (i+1)))
  (g_slices_partitionOrdered_int_L2 N a pivot cap0 i N (w64 (b - 1)))))
  else none)
  else none)
def g_slices_partitionOrdered_int (N:Nat) (a:Int) (b:Int) (pivot:Int) (cap0:List Int):Option (Int×Bool×(List Int)) :=
 (if 0≤pivot∧pivot < ((cap0.length:Nat):Int) then
 (if 0≤a∧a < ((cap0.length:Nat):Int) then
 g_slices_partitionOrdered_int_L1 N a b pivot cap0 N (w64 (a+1))
 else none)
 else none)
def g_slices_pdqsortOrdered_int_J4 (N:Nat) (a2:Int) (b2:Int) (wasBalanced:Bool) (wasPartitioned:Bool) (limit3:Int) (pivot:Int) (R_:Int→Int→Int→(List Int)→Option ((List Int))) (K_g_slices_pdqsortOrdered_int_L1:(List Int)→Int→Int→Int→Bool→Bool→Option ((List Int))) (cap05:List Int):Option ((List Int)) :=
 (if ((decide (a2 > 0))=true→0≤(w64 (a2 - 1))∧(w64 (a2 - 1)) < ((cap05.length:Nat):Int)) then
 (if ((decide (a2 > 0))=true→0≤pivot∧pivot < ((cap05.length:Nat):Int)) then
 ((cond (decide (a2 > 0)) (g_cmp_Less_int N (cap05.getD ((w64 (a2 - 1)).toNat) 0) (cap05.getD ((pivot).toNat) 0)) (some false)).bind fun rLess =>
 (cond (cond (decide (a2 > 0)) (!rLess) false)
 (((g_slices_partitionEqualOrdered_int N a2 b2 pivot cap05).bind fun rpartitionEqu =>
 (if rpartitionEqu.2.length=cap05.length then
 K_g_slices_pdqsortOrdered_int_L1 rpartitionEqu.2 rpartitionEqu.1 b2 limit3 wasBalanced wasPartitioned
 else none)))
 (((g_slices_partitionOrdered_int N a2 b2 pivot cap05).bind fun rpartitionOrd =>
 (if rpartitionOrd.2.2.length=cap05.length then
 (cond (decide ((w64 (rpartitionOrd.1 - a2)) < (w64 (b2 - rpartitionOrd.1))))
 (((R_ a2 rpartitionOrd.1 limit3 rpartitionOrd.2.2).bind fun rpdqsortOrder =>
 (if rpdqsortOrder.length=rpartitionOrd.2.2.length then
 K_g_slices_pdqsortOrdered_int_L1 rpdqsortOrder (w64 (rpartitionOrd.1+1)) b2 limit3 (decide ((w64 (rpartitionOrd.1 - a2))≥(w64 ((w64 (b2 - a2)).tdiv 8)))) rpartitionOrd.2.1
 else none)))
 (((R_ (w64 (rpartitionOrd.1+1)) b2 limit3 rpartitionOrd.2.2).bind fun rpdqsortOrder2 =>
 (if rpdqsortOrder2.length=rpartitionOrd.2.2.length then
 K_g_slices_pdqsortOrdered_int_L1 rpdqsortOrder2 a2 rpartitionOrd.1 limit3 (decide ((w64 (b2 - rpartitionOrd.1))≥(w64 ((w64 (b2 - a2)).tdiv 8)))) rpartitionOrd.2.1
 else none))))
 else none)))))
 else none)
 else none)
def g_slices_pdqsortOrdered_int_J3 (N:Nat) (a2:Int) (b2:Int) (wasBalanced:Bool) (wasPartitioned:Bool) (limit3:Int) (R_:Int→Int→Int→(List Int)→Option ((List Int))) (K_g_slices_pdqsortOrdered_int_L1:(List Int)→Int→Int→Int→Bool→Bool→Option ((List Int))) (cap04:List Int) (pivot:Int) (hint:Int):Option ((List Int)) :=
 (cond (cond (cond wasBalanced wasPartitioned false) (hint == 1) false)
 (((g_slices_partialInsertionSortOrdered_int N a2 b2 cap04).bind fun rpartialInser =>
 (if rpartialInser.2.length=cap04.length then
 (cond rpartialInser.1
 (some rpartialInser.2)
 (g_slices_pdqsortOrdered_int_J4 N a2 b2 wasBalanced wasPartitioned limit3 pivot R_ K_g_slices_pdqsortOrdered_int_L1 rpartialInser.2))
 else none)))
 (g_slices_pdqsortOrdered_int_J4 N a2 b2 wasBalanced wasPartitioned limit3 pivot R_ K_g_slices_pdqsortOrdered_int_L1 cap04))
def g_slices_pdqsortOrdered_int_J2 (N:Nat) (a2:Int) (b2:Int) (wasBalanced:Bool) (wasPartitioned:Bool) (R_:Int→Int→Int→(List Int)→Option ((List Int))) (K_g_slices_pdqsortOrdered_int_L1:(List Int)→Int→Int→Int→Bool→Bool→Option ((List Int))) (cap03:List Int) (limit3:Int):Option ((List Int)) :=
 ((g_slices_choosePivotOrdered_int N cap03 a2 b2).bind fun rchoosePivotO =>
 (cond (rchoosePivotO.2 == 2)
 (((g_slices_reverseRangeOrdered_int N a2 b2 cap03).bind fun rreverseRange =>
 (if rreverseRange.length=cap03.length then
 g_slices_pdqsortOrdered_int_J3 N a2 b2 wasBalanced wasPartitioned limit3 R_ K_g_slices_pdqsortOrdered_int_L1 rreverseRange (w64 ((w64 (b2 - 1)) - (w64 (rchoosePivotO.1 - a2)))) 1
 else none)))
 (g_slices_pdqsortOrdered_int_J3 N a2 b2 wasBalanced wasPartitioned limit3 R_ K_g_slices_pdqsortOrdered_int_L1 cap03 rchoosePivotO.1 rchoosePivotO.2)))
def g_slices_pdqsortOrdered_int_L1 (N:Nat) (R_:Int→Int→Int→(List Int)→Option ((List Int))):Nat→(List Int)→Int→Int→Int→Bool→Bool→Option ((List Int))
 | 0,_,_,_,_,_,_=>none
 | fuel+1,cap02,a2,b2,limit2,wasBalanced,wasPartitioned =>
  (cond (decide ((w64 (b2 - a2))≤12))
  (((g_slices_insertionSortOrdered_int N a2 b2 cap02).bind fun rinsertionSor =>
  (if rinsertionSor.length=cap02.length then
  some rinsertionSor
  else none)))
  ((cond (limit2 == 0)
  (((g_slices_heapSortOrdered_int N a2 b2 cap02).bind fun rheapSortOrde =>
  (if rheapSortOrde.length=cap02.length then
  some rheapSortOrde
  else none)))
  ((cond (!wasBalanced)
  (((g_slices_breakPatternsOrdered_int N a2 b2 cap02).bind fun rbreakPattern =>
  (if rbreakPattern.length=cap02.length then
  g_slices_pdqsortOrdered_int_J2 N a2 b2 wasBalanced wasPartitioned R_ (g_slices_pdqsortOrdered_int_L1 N R_ fuel) rbreakPattern (w64 (limit2 - 1))
  else none)))
  (g_slices_pdqsortOrdered_int_J2 N a2 b2 wasBalanced wasPartitioned R_ (g_slices_pdqsortOrdered_int_L1 N R_ fuel) cap02 limit2))))))
def g_slices_pdqsortOrdered_int (N:Nat):Nat→Int→Int→Int→(List Int)→Option ((List Int))
 | 0,_,_,_,_=>none
 | fuel+1,a,b,limit,cap0 =>
  g_slices_pdqsortOrdered_int_L1 N (g_slices_pdqsortOrdered_int N fuel) N cap0 a b limit true true
def g_slices_Sort_int_int (N:Nat) (cap0:List Int):Option ((List Int)) :=
 ((g_math_bits_Len N (IntKind.u64.wrap (((cap0.length:Nat):Int)))).bind fun rLen =>
 ((g_slices_pdqsortOrdered_int N N 0 ((cap0.length:Nat):Int) rLen cap0).bind fun rpdqsortOrder =>
 (if rpdqsortOrder.length=cap0.length then
 some rpdqsortOrder
 else none)))
def g_w_tide_1 (N:Nat) (i:Int) (cap0:List TMark) (cap1:Int):Option (Bool) :=
 (if 0≤i∧i < ((cap0.length:Nat):Int) then
 some (decide ((cap0.getD ((i).toNat) TMark.d).f_Minute > cap1))
 else none)
def g_sort_Search_L1 (N:Nat) (cap0:List TMark) (cap1:Int):Nat→Int→Int→Option (Int)
 | 0,_,_=>none
 | fuel+1,i,j =>
  (cond (decide (i < j))
  (((g_w_tide_1 N (w64 ((shrI .u64 (IntKind.u64.wrap ((w64 (i+j)))) 1))) cap0 cap1).bind fun rtide1 =>
  (cond (!rtide1)
  (g_sort_Search_L1 N cap0 cap1 fuel (w64 ((w64 ((shrI .u64 (IntKind.u64.wrap ((w64 (i+j)))) 1)))+1)) j)
  (g_sort_Search_L1 N cap0 cap1 fuel i (w64 ((shrI .u64 (IntKind.u64.wrap ((w64 (i+j)))) 1)))))))
  (some i))
def g_sort_Search (N:Nat) (n:Int) (cap0:List TMark) (cap1:Int):Option (Int) :=
 g_sort_Search_L1 N cap0 cap1 N 0 n
def g_w_tide_J1 (N:Nat) (m:List TMark) (rSearch:Int) (down:Int):Option (Int) :=
 some (w64 ((m.getD ((w64 (rSearch - 1)).toNat) TMark.d).f_Level+down))
def g_w_tide (N:Nat) (m:List TMark) (minute:Int):Option (Int) :=
 ((g_sort_Search N ((m.length:Nat):Int) m minute).bind fun rSearch =>
 (cond (rSearch == 0)
 ((if 0≤(0:Int)∧0 < ((m.length:Nat):Int) then
 some ((m.getD 0 TMark.d).f_Level)
 else none))
 ((cond (rSearch == ((m.length:Nat):Int))
 ((if 0≤(w64 (rSearch - 1))∧(w64 (rSearch - 1)) < ((m.length:Nat):Int) then
 some ((m.getD ((w64 (rSearch - 1)).toNat) TMark.d).f_Level)
 else none))
 ((if 0≤(w64 (rSearch - 1))∧(w64 (rSearch - 1)) < ((m.length:Nat):Int) then
 (if 0≤rSearch∧rSearch < ((m.length:Nat):Int) then
 (if ((w64 ((m.getD ((rSearch).toNat) TMark.d).f_Minute - (m.getD ((w64 (rSearch - 1)).toNat) TMark.d).f_Minute)):Int)≠0 then
 (cond (decide (((w64 ((w64 ((m.getD ((rSearch).toNat) TMark.d).f_Level - (m.getD ((w64 (rSearch - 1)).toNat) TMark.d).f_Level)) * (w64 (minute - (m.getD ((w64 (rSearch - 1)).toNat) TMark.d).f_Minute)))).tmod (w64 ((m.getD ((rSearch).toNat) TMark.d).f_Minute - (m.getD ((w64 (rSearch - 1)).toNat) TMark.d).f_Minute))) < 0))
 (g_w_tide_J1 N m rSearch (w64 ((w64 ((w64 ((w64 ((m.getD ((rSearch).toNat) TMark.d).f_Level - (m.getD ((w64 (rSearch - 1)).toNat) TMark.d).f_Level)) * (w64 (minute - (m.getD ((w64 (rSearch - 1)).toNat) TMark.d).f_Minute)))).tdiv (w64 ((m.getD ((rSearch).toNat) TMark.d).f_Minute - (m.getD ((w64 (rSearch - 1)).toNat) TMark.d).f_Minute)))) - 1)))
 (g_w_tide_J1 N m rSearch (w64 ((w64 ((w64 ((m.getD ((rSearch).toNat) TMark.d).f_Level - (m.getD ((w64 (rSearch - 1)).toNat) TMark.d).f_Level)) * (w64 (minute - (m.getD ((w64 (rSearch - 1)).toNat) TMark.d).f_Minute)))).tdiv (w64 ((m.getD ((rSearch).toNat) TMark.d).f_Minute - (m.getD ((w64 (rSearch - 1)).toNat) TMark.d).f_Minute))))))
 else none)
 else none)
 else none))))))
def g_w_Above_1 (N:Nat) (minute:Int) (cap0:List TMark) (cap1:Int):Option (Bool) :=
 ((g_w_tide N cap0 minute).bind fun rtide =>
 some (decide (rtide≥cap1)))
def g_w_Above_2 (N:Nat) (a:Int) (b:Int) (cap1:List TS__2_int):Option ((List TS__2_int)) :=
 (if ((decide (((cap1.length:Nat):Int) > 0))=true→0≤(w64 (((cap1.length:Nat):Int) - 1))∧(w64 (((cap1.length:Nat):Int) - 1)) < ((cap1.length:Nat):Int)) then
 (cond (cond (decide (((cap1.length:Nat):Int) > 0)) (decide (a≤(w64 ((cap1.getD ((w64 (((cap1.length:Nat):Int) - 1)).toNat) TS__2_int.d).e1+1)))) false)
 ((if 0≤(w64 (((cap1.length:Nat):Int) - 1))∧(w64 (((cap1.length:Nat):Int) - 1)) < ((cap1.length:Nat):Int) then
 some (cap1.set ((w64 (((cap1.length:Nat):Int) - 1)).toNat) (⟨(cap1.getD ((w64 (((cap1.length:Nat):Int) - 1)).toNat) TS__2_int.d).e0,b⟩:TS__2_int))
 else none))
 ((if (cap1.length+1) * 16≤140737488355328 then
 some (cap1 ++ ([(⟨a,b⟩:TS__2_int)]:List TS__2_int))
 else none)))
 else none)
def g_w_Above_3 (N:Nat) (k:Int) (cap1:List TMark) (cap2:Int) (cap3:Int):Option (Bool) :=
 ((g_w_Above_1 N (w64 (cap3+k)) cap1 cap2).bind fun rAbove1 =>
 some (!rAbove1))
def g_sort_Search_v2_L1 (N:Nat) (cap1:List TMark) (cap2:Int) (cap3:Int):Nat→Int→Int→Option (Int)
 | 0,_,_=>none
 | fuel+1,i,j =>
  (cond (decide (i < j))
  (((g_w_Above_3 N (w64 ((shrI .u64 (IntKind.u64.wrap ((w64 (i+j)))) 1))) cap1 cap2 cap3).bind fun rAbove3 =>
  (cond (!rAbove3)
  (g_sort_Search_v2_L1 N cap1 cap2 cap3 fuel (w64 ((w64 ((shrI .u64 (IntKind.u64.wrap ((w64 (i+j)))) 1)))+1)) j)
  (g_sort_Search_v2_L1 N cap1 cap2 cap3 fuel i (w64 ((shrI .u64 (IntKind.u64.wrap ((w64 (i+j)))) 1)))))))
  (some i))
def g_sort_Search_v2 (N:Nat) (n:Int) (cap1:List TMark) (cap2:Int) (cap3:Int):Option (Int) :=
 g_sort_Search_v2_L1 N cap1 cap2 cap3 N 0 n
def g_w_Above_4 (N:Nat) (k:Int) (cap1:List TMark) (cap2:Int) (cap3:Int):Option (Bool) :=
 ((g_w_Above_1 N (w64 (cap3+k)) cap1 cap2).bind fun rAbove1 =>
 some rAbove1)
def g_sort_Search_v3_L1 (N:Nat) (cap1:List TMark) (cap2:Int) (cap3:Int):Nat→Int→Int→Option (Int)
 | 0,_,_=>none
 | fuel+1,i,j =>
  (cond (decide (i < j))
  (((g_w_Above_4 N (w64 ((shrI .u64 (IntKind.u64.wrap ((w64 (i+j)))) 1))) cap1 cap2 cap3).bind fun rAbove4 =>
  (cond (!rAbove4)
  (g_sort_Search_v3_L1 N cap1 cap2 cap3 fuel (w64 ((w64 ((shrI .u64 (IntKind.u64.wrap ((w64 (i+j)))) 1)))+1)) j)
  (g_sort_Search_v3_L1 N cap1 cap2 cap3 fuel i (w64 ((shrI .u64 (IntKind.u64.wrap ((w64 (i+j)))) 1)))))))
  (some i))
def g_sort_Search_v3 (N:Nat) (n:Int) (cap1:List TMark) (cap2:Int) (cap3:Int):Option (Int) :=
 g_sort_Search_v3_L1 N cap1 cap2 cap3 N 0 n
def g_w_Above_J2 (N:Nat) (m:List TMark) (level:Int) (vfrom:Int) (vto:Int) (x:Int) (K_g_w_Above_L1:(List Int)→Int→Option ((List TS__2_int)×Int)) (corners2:List Int):Option ((List TS__2_int)×Int) :=
 K_g_w_Above_L1 corners2 (w64 (x+1))
def g_w_Above_J4 (N:Nat) (m:List TMark) (level:Int) (rSort:(List Int)) (x2:Int) (K_g_w_Above_L3:(List TS__2_int)→Int→Option ((List TS__2_int)×Int)) (out2:List TS__2_int):Option ((List TS__2_int)×Int) :=
 K_g_w_Above_L3 out2 (w64 (x2+1))
def g_w_Above_L3 (N:Nat) (m:List TMark) (level:Int) (rSort:(List Int)):Nat→(List TS__2_int)→Int→Option ((List TS__2_int)×Int)
 | 0,_,_=>none
 | fuel+1,out,x2 =>
  (cond (decide (x2 < (((rSort.length - 1):Nat):Int)))
  ((if 0≤x2∧x2 < (((rSort.length - 1):Nat):Int) then
  (if 1≤rSort.length∧rSort.length≤rSort.length then
  (if 0≤x2∧x2 < ((rSort.length:Nat):Int) then
  ((g_w_Above_1 N (rSort.getD ((x2).toNat) 0) m level).bind fun rAbove1 =>
  ((cond rAbove1 (g_w_Above_1 N (rSort.getD (addz 1 (x2).toNat) 0) m level) (some false)).bind fun rAbove12 =>
  (cond (cond rAbove1 rAbove12 false)
  (((g_w_Above_2 N (rSort.getD ((x2).toNat) 0) (rSort.getD (addz 1 (x2).toNat) 0) out).bind fun rAbove2 =>
  g_w_Above_J4 N m level rSort x2 (g_w_Above_L3 N m level rSort fuel) rAbove2))
  (((g_w_Above_1 N (rSort.getD ((x2).toNat) 0) m level).bind fun rAbove13 =>
  (cond rAbove13
  (((g_sort_Search_v2 N (w64 ((rSort.getD (addz 1 (x2).toNat) 0) - (rSort.getD ((x2).toNat) 0))) m level (rSort.getD ((x2).toNat) 0)).bind fun rSearch =>
  ((g_w_Above_2 N (rSort.getD ((x2).toNat) 0) (w64 ((w64 ((rSort.getD ((x2).toNat) 0) - 1))+rSearch)) out).bind fun rAbove22 =>
  g_w_Above_J4 N m level rSort x2 (g_w_Above_L3 N m level rSort fuel) rAbove22)))
  (((g_w_Above_1 N (rSort.getD (addz 1 (x2).toNat) 0) m level).bind fun rAbove14 =>
  (cond rAbove14
  (((g_sort_Search_v3 N (w64 ((rSort.getD (addz 1 (x2).toNat) 0) - (rSort.getD ((x2).toNat) 0))) m level (rSort.getD ((x2).toNat) 0)).bind fun rSearch2 =>
  ((g_w_Above_2 N (w64 ((rSort.getD ((x2).toNat) 0)+rSearch2)) (rSort.getD (addz 1 (x2).toNat) 0) out).bind fun rAbove23 =>
  g_w_Above_J4 N m level rSort x2 (g_w_Above_L3 N m level rSort fuel) rAbove23)))
  (g_w_Above_J4 N m level rSort x2 (g_w_Above_L3 N m level rSort fuel) out))))))))))
  else none)
  else none)
  else none))
  (some (out,0)))
def g_w_Above_L1 (N:Nat) (m:List TMark) (level:Int) (vfrom:Int) (vto:Int):Nat→(List Int)→Int→Option ((List TS__2_int)×Int)
 | 0,_,_=>none
 | fuel+1,corners,x =>
  (cond (decide (x < ((m.length:Nat):Int)))
  ((if 0≤x∧x < ((m.length:Nat):Int) then
  (cond (cond (decide ((m.getD ((x).toNat) TMark.d).f_Minute > vfrom)) (decide ((m.getD ((x).toNat) TMark.d).f_Minute < vto)) false)
  ((if (corners.length+1) * 8≤140737488355328 then
  g_w_Above_J2 N m level vfrom vto x (g_w_Above_L1 N m level vfrom vto fuel) (corners ++ ([(m.getD ((x).toNat) TMark.d).f_Minute]:List Int))
  else none))
  (g_w_Above_J2 N m level vfrom vto x (g_w_Above_L1 N m level vfrom vto fuel) corners))
  else none))
  (((g_slices_Sort_int_int N corners).bind fun rSort =>
  (if rSort.length=corners.length then
  (if 1≤rSort.length∧rSort.length≤rSort.length then
  g_w_Above_L3 N m level rSort N ([]:List TS__2_int) 0
  else none)
  else none))))
def g_w_Above (N:Nat) (m:List TMark) (level:Int) (vfrom:Int) (vto:Int):Option ((List TS__2_int)×Int) :=
 ((g_w_CheckSea N m).bind fun rCheckSea =>
 (cond (rCheckSea != 0)
 (some (([]:List TS__2_int),rCheckSea))
 (((g_w_between N level (-1000000) 1000000).bind fun rBt =>
 ((cond (!(!rBt)) (g_w_between N vfrom 0 vto) (some false)).bind fun rBt2 =>
 (cond (cond (cond (!rBt) true (!rBt2)) true (decide (vto > 1000000)))
 (some (([]:List TS__2_int),2))
 ((cond (((m.length:Nat):Int) == 0)
 (some (([]:List TS__2_int),29))
 (g_w_Above_L1 N m level vfrom vto N ([vfrom,vto]:List Int) 0)))))))))
def g_berth_passages (N:Nat) (d:TDock) (c:TCall) (sea:List TMark):Option ((List TS__2_int)) :=
 (cond (decide ((w64 ((w64 (d.f_Sill+c.f_Draught))+c.f_Under)) > 1000000))
 (some ([]:List TS__2_int))
 ((if 0≤(w64 (((sea.length:Nat):Int) - 1))∧(w64 (((sea.length:Nat):Int) - 1)) < ((sea.length:Nat):Int) then
 ((g_w_Above N sea (w64 ((w64 (d.f_Sill+c.f_Draught))+c.f_Under)) 0 ((sea.getD ((w64 (((sea.length:Nat):Int) - 1)).toNat) TMark.d).f_Minute)).bind fun rAbove =>
 some rAbove.1)
 else none)))
def g_berth_days_J3 (N:Nat) (rpassages:(List TS__2_int)) (x:Int) (k:Int) (K_g_berth_days_L2:(List Int)→Int→Option ((List Int))) (K_g_berth_days_L1:(List Int)→Int→Option ((List Int))) (out3:List Int):Option ((List Int)) :=
 K_g_berth_days_L2 out3 (w64 (k+1))
def g_berth_days_L2 (N:Nat) (rpassages:(List TS__2_int)) (x:Int) (K_g_berth_days_L1:(List Int)→Int→Option ((List Int))):Nat→(List Int)→Int→Option ((List Int))
 | 0,_,_=>none
 | fuel+1,out2,k =>
  (cond (decide ((w64 (k * 1440))≤(rpassages.getD ((x).toNat) TS__2_int.d).e1))
  ((if (((decide ((w64 ((w64 ((if (w64 ((w64 ((w64 (k * 1440))+1440)) - 1)) < (rpassages.getD ((x).toNat) TS__2_int.d).e1 then (w64 ((w64 ((w64 (k * 1440))+1440)) - 1)) else (rpassages.getD ((x).toNat) TS__2_int.d).e1) - (if (w64 (k * 1440)) > (rpassages.getD ((x).toNat) TS__2_int.d).e0 then (w64 (k * 1440)) else (rpassages.getD ((x).toNat) TS__2_int.d).e0)))+1))≥30)) && ((decide ((w64 ((w64 ((if (w64 ((w64 ((w64 (k * 1440))+1440)) - 1)) < (rpassages.getD ((x).toNat) TS__2_int.d).e1 then (w64 ((w64 ((w64 (k * 1440))+1440)) - 1)) else (rpassages.getD ((x).toNat) TS__2_int.d).e1) - (if (w64 (k * 1440)) > (rpassages.getD ((x).toNat) TS__2_int.d).e0 then (w64 (k * 1440)) else (rpassages.getD ((x).toNat) TS__2_int.d).e0)))+1))≥30)) && (!(((out2.length:Nat):Int) == 0))))=true→0≤(w64 (((out2.length:Nat):Int) - 1))∧(w64 (((out2.length:Nat):Int) - 1)) < ((out2.length:Nat):Int)) then
  (cond (cond (decide ((w64 ((w64 ((if (w64 ((w64 ((w64 (k * 1440))+1440)) - 1)) < (rpassages.getD ((x).toNat) TS__2_int.d).e1 then (w64 ((w64 ((w64 (k * 1440))+1440)) - 1)) else (rpassages.getD ((x).toNat) TS__2_int.d).e1) - (if (w64 (k * 1440)) > (rpassages.getD ((x).toNat) TS__2_int.d).e0 then (w64 (k * 1440)) else (rpassages.getD ((x).toNat) TS__2_int.d).e0)))+1))≥30)) (cond (((out2.length:Nat):Int) == 0) true (decide ((out2.getD ((w64 (((out2.length:Nat):Int) - 1)).toNat) 0) < k))) false)
  ((if (out2.length+1) * 8≤140737488355328 then
  g_berth_days_J3 N rpassages x k (g_berth_days_L2 N rpassages x K_g_berth_days_L1 fuel) K_g_berth_days_L1 (out2 ++ ([k]:List Int))
  else none))
  (g_berth_days_J3 N rpassages x k (g_berth_days_L2 N rpassages x K_g_berth_days_L1 fuel) K_g_berth_days_L1 out2))
  else none))
  (K_g_berth_days_L1 out2 (w64 (x+1))))
def g_berth_days_L1 (N:Nat) (rpassages:(List TS__2_int)):Nat→(List Int)→Int→Option ((List Int))
 | 0,_,_=>none
 | fuel+1,out,x =>
  (cond (decide (x < ((rpassages.length:Nat):Int)))
  ((if 0≤x∧x < ((rpassages.length:Nat):Int) then
  g_berth_days_L2 N rpassages x (g_berth_days_L1 N rpassages fuel) N out (w64 (((rpassages.getD ((x).toNat) TS__2_int.d).e0).tdiv 1440))
  else none))
  (some out))
def g_berth_days (N:Nat) (d:TDock) (c:TCall) (sea:List TMark):Option ((List Int)) :=
 ((g_berth_passages N d c sea).bind fun rpassages =>
 g_berth_days_L1 N rpassages N ([]:List Int) 0)
def g_slices_Index_int_int_L1 (N:Nat) (s:List Int) (v:Int):Nat→Int→Option (Int)
 | 0,_=>none
 | fuel+1,x =>
  (cond (decide (x < ((s.length:Nat):Int)))
  ((if 0≤x∧x < ((s.length:Nat):Int) then
  (cond (v == (s.getD ((x).toNat) 0))
  (some x)
  (g_slices_Index_int_int_L1 N s v fuel (w64 (x+1))))
  else none))
  (some (-1)))
def g_slices_Index_int_int (N:Nat) (s:List Int) (v:Int):Option (Int) :=
 g_slices_Index_int_int_L1 N s v N 0
def g_slices_Contains_int_int (N:Nat) (s:List Int) (v:Int):Option (Bool) :=
 ((g_slices_Index_int_int N s v).bind fun rIndex =>
 some (decide (rIndex≥0)))
def g_berth_possible_J2 (N:Nat) (y:TYard) (c:TCall) (rdays:(List Int)) (x:Int) (K_g_berth_possible_L1:(List Int)→Int→Option ((List Int))) (out2:List Int):Option ((List Int)) :=
 K_g_berth_possible_L1 out2 (w64 (x+1))
def g_berth_possible_L1 (N:Nat) (y:TYard) (c:TCall) (rdays:(List Int)):Nat→(List Int)→Int→Option ((List Int))
 | 0,_,_=>none
 | fuel+1,out,x =>
  (cond (decide (x < ((rdays.length:Nat):Int)))
  ((if 0≤x∧x < ((rdays.length:Nat):Int) then
  ((cond (cond (decide ((rdays.getD ((x).toNat) 0)≥c.f_Arrive)) (decide ((w64 ((rdays.getD ((x).toNat) 0)+c.f_Work))≤y.f_Last)) false) (g_slices_Contains_int_int N rdays (w64 ((rdays.getD ((x).toNat) 0)+c.f_Work))) (some false)).bind fun rContains =>
  (cond (cond (cond (decide ((rdays.getD ((x).toNat) 0)≥c.f_Arrive)) (decide ((w64 ((rdays.getD ((x).toNat) 0)+c.f_Work))≤y.f_Last)) false) rContains false)
  ((if (out.length+1) * 8≤140737488355328 then
  g_berth_possible_J2 N y c rdays x (g_berth_possible_L1 N y c rdays fuel) (out ++ ([(rdays.getD ((x).toNat) 0)]:List Int))
  else none))
  (g_berth_possible_J2 N y c rdays x (g_berth_possible_L1 N y c rdays fuel) out)))
  else none))
  (some out))
def g_berth_possible (N:Nat) (y:TYard) (c:TCall) (d:TDock):Option ((List Int)) :=
 ((g_berth_fits N d c).bind fun rfits =>
 (cond (!rfits)
 (some ([]:List Int))
 (((g_berth_days N d c y.f_Sea).bind fun rdays =>
 g_berth_possible_L1 N y c rdays N ([]:List Int) 0))))
def g_berth_late (N:Nat) (c:TCall) (day:Int):Option (Int) :=
 some (w64 (c.f_Late * (if (w64 ((w64 (day+c.f_Work)) - c.f_Due)) > 0 then (w64 ((w64 (day+c.f_Work)) - c.f_Due)) else 0)))
def g_slices_Clone_api_Stay_api_Stay (N:Nat) (s:List TStay):Option ((List TStay)) :=
 (if (0+s.length) * 40≤140737488355328 then
 some (([]:List TStay) ++ s)
 else none)
def g_berth_called_1 (N:Nat) (x:TCall) (cap0:ByteArray):Option (Bool) :=
 some (streq x.f_Name cap0)
def g_slices_IndexFunc_api_Call_api_Call_v2_L1 (N:Nat) (s:List TCall) (cap0:ByteArray):Nat→Int→Option (Int)
 | 0,_=>none
 | fuel+1,x =>
  (cond (decide (x < ((s.length:Nat):Int)))
  ((if 0≤x∧x < ((s.length:Nat):Int) then
  ((g_berth_called_1 N (s.getD ((x).toNat) TCall.d) cap0).bind fun rcalled1 =>
  (cond rcalled1
  (some x)
  (g_slices_IndexFunc_api_Call_api_Call_v2_L1 N s cap0 fuel (w64 (x+1)))))
  else none))
  (some (-1)))
def g_slices_IndexFunc_api_Call_api_Call_v2 (N:Nat) (s:List TCall) (cap0:ByteArray):Option (Int) :=
 g_slices_IndexFunc_api_Call_api_Call_v2_L1 N s cap0 N 0
def g_berth_called (N:Nat) (c:List TCall) (name:ByteArray):Option (Int) :=
 ((g_slices_IndexFunc_api_Call_api_Call_v2 N c name).bind fun rCall =>
 some rCall)
def g_berth_overlap (N:Nat) (y:TYard) (a:TStay) (b:TStay):Option (Bool) :=
 ((cond (streq a.f_Dock b.f_Dock) (g_berth_called N y.f_Calls b.f_Call) (some 0)).bind fun rcalled =>
 (if ((streq a.f_Dock b.f_Dock)=true→0≤rcalled∧rcalled < ((y.f_Calls.length:Nat):Int)) then
 ((cond (cond (streq a.f_Dock b.f_Dock) (decide (a.f_Day < (w64 (b.f_Day+(y.f_Calls.getD ((rcalled).toNat) TCall.d).f_Work)))) false) (g_berth_called N y.f_Calls a.f_Call) (some 0)).bind fun rcalled2 =>
 (if ((cond (streq a.f_Dock b.f_Dock) (decide (a.f_Day < (w64 (b.f_Day+(y.f_Calls.getD ((rcalled).toNat) TCall.d).f_Work)))) false)=true→0≤rcalled2∧rcalled2 < ((y.f_Calls.length:Nat):Int)) then
 some (cond (cond (streq a.f_Dock b.f_Dock) (decide (a.f_Day < (w64 (b.f_Day+(y.f_Calls.getD ((rcalled).toNat) TCall.d).f_Work)))) false) (decide (b.f_Day < (w64 (a.f_Day+(y.f_Calls.getD ((rcalled2).toNat) TCall.d).f_Work)))) false)
 else none))
 else none))
def g_berth_search_walk_1 (N:Nat) (z:TStay) (cap1:List TDock) (cap12:List TCall) (cap13:List TMark) (cap14:Int) (cap1f:Bool) (cap15:Int) (cap2:List (List (List Int))) (cap3:List Int) (cap4:List TStay) (cap5:List TStay) (cap6:TStay):Option (Bool) :=
 ((g_berth_overlap N (⟨cap1,cap12,cap13,cap14⟩:TYard) cap6 z).bind fun roverlap =>
 some roverlap)
def g_slices_IndexFunc_api_Stay_api_Stay_L1 (N:Nat) (cap1:List TDock) (cap12:List TCall) (cap13:List TMark) (cap14:Int) (cap1f:Bool) (cap15:Int) (cap2:List (List (List Int))) (cap3:List Int) (cap4:List TStay) (cap5:List TStay) (cap6:TStay):Nat→Int→Option (Int)
 | 0,_=>none
 | fuel+1,x =>
  (cond (decide (x < ((cap4.length:Nat):Int)))
  ((if 0≤x∧x < ((cap4.length:Nat):Int) then
  ((g_berth_search_walk_1 N (cap4.getD ((x).toNat) TStay.d) cap1 cap12 cap13 cap14 cap1f cap15 cap2 cap3 cap4 cap5 cap6).bind fun rwalk1 =>
  (cond rwalk1
  (some x)
  (g_slices_IndexFunc_api_Stay_api_Stay_L1 N cap1 cap12 cap13 cap14 cap1f cap15 cap2 cap3 cap4 cap5 cap6 fuel (w64 (x+1)))))
  else none))
  (some (-1)))
def g_slices_IndexFunc_api_Stay_api_Stay (N:Nat) (cap1:List TDock) (cap12:List TCall) (cap13:List TMark) (cap14:Int) (cap1f:Bool) (cap15:Int) (cap2:List (List (List Int))) (cap3:List Int) (cap4:List TStay) (cap5:List TStay) (cap6:TStay):Option (Int) :=
 g_slices_IndexFunc_api_Stay_api_Stay_L1 N cap1 cap12 cap13 cap14 cap1f cap15 cap2 cap3 cap4 cap5 cap6 N 0
def g_slices_ContainsFunc_api_Stay_api_Stay (N:Nat) (cap1:List TDock) (cap12:List TCall) (cap13:List TMark) (cap14:Int) (cap1f:Bool) (cap15:Int) (cap2:List (List (List Int))) (cap3:List Int) (cap4:List TStay) (cap5:List TStay) (cap6:TStay):Option (Bool) :=
 ((g_slices_IndexFunc_api_Stay_api_Stay N cap1 cap12 cap13 cap14 cap1f cap15 cap2 cap3 cap4 cap5 cap6).bind fun rStay =>
 some (decide (rStay≥0)))
def g_berth_search_walk_J3 (N:Nat) (i:Int) (sum:Int) (cap0:List TDock) (cap02:List TCall) (cap1:List (List (List Int))) (cap2:List Int) (x:Int) (cap014:List TDock) (cap015:List TCall) (cap016:List TMark) (cap017:Int) (cap018:List TStay) (cap019:Bool) (cap020:List TStay) (cap021:Int) (R_:Int→Int→(List TDock)→(List TCall)→(List TMark)→Int→Bool→Int→(List (List (List Int)))→(List Int)→(List TStay)→(List TStay)→Option (Tberth_search)) (K_g_berth_search_walk_L1:(List TDock)→(List TCall)→(List TMark)→Int→(List TStay)→Bool→(List TStay)→Int→Int→Option (Tberth_search)):Option (Tberth_search) :=
 K_g_berth_search_walk_L1 cap014 cap015 cap016 cap017 cap018 cap019 cap020 cap021 (w64 (x+1))
def g_berth_search_walk_J4 (N:Nat) (i:Int) (sum:Int) (cap0:List TDock) (cap02:List TCall) (cap1:List (List (List Int))) (cap2:List Int) (x:Int) (x2:Int) (R_:Int→Int→(List TDock)→(List TCall)→(List TMark)→Int→Bool→Int→(List (List (List Int)))→(List Int)→(List TStay)→(List TStay)→Option (Tberth_search)) (K_g_berth_search_walk_L2:(List TDock)→(List TCall)→(List TMark)→Int→(List TStay)→Bool→(List TStay)→Int→Int→Option (Tberth_search)) (K_g_berth_search_walk_L1:(List TDock)→(List TCall)→(List TMark)→Int→(List TStay)→Bool→(List TStay)→Int→Int→Option (Tberth_search)) (cap022:List TDock) (cap023:List TCall) (cap024:List TMark) (cap025:Int) (cap026:List TStay) (cap027:Bool) (cap028:List TStay) (cap029:Int):Option (Tberth_search) :=
 K_g_berth_search_walk_L2 cap022 cap023 cap024 cap025 cap026 cap027 cap028 cap029 (w64 (x2+1))
def g_berth_search_walk_L2 (N:Nat) (i:Int) (sum:Int) (cap0:List TDock) (cap02:List TCall) (cap1:List (List (List Int))) (cap2:List Int) (x:Int) (R_:Int→Int→(List TDock)→(List TCall)→(List TMark)→Int→Bool→Int→(List (List (List Int)))→(List Int)→(List TStay)→(List TStay)→Option (Tberth_search)) (K_g_berth_search_walk_L1:(List TDock)→(List TCall)→(List TMark)→Int→(List TStay)→Bool→(List TStay)→Int→Int→Option (Tberth_search)):Nat→(List TDock)→(List TCall)→(List TMark)→Int→(List TStay)→Bool→(List TStay)→Int→Int→Option (Tberth_search)
 | 0,_,_,_,_,_,_,_,_,_=>none
 | fuel+1,cap014,cap015,cap016,cap017,cap018,cap019,cap020,cap021,x2 =>
  (cond (decide (x2 < ((((cap1.getD ((i).toNat) []).getD ((x).toNat) []).length:Nat):Int)))
  ((if 0≤x2∧x2 < ((((cap1.getD ((i).toNat) []).getD ((x).toNat) []).length:Nat):Int) then
  ((g_berth_late N (cap02.getD ((i).toNat) TCall.d) (((cap1.getD ((i).toNat) []).getD ((x).toNat) []).getD ((x2).toNat) 0)).bind fun rlate =>
  (if nqF cap019=none→0 < cap020.length then
  (if ((!(nqB (nqF cap019)))=true→0≤(w64 (i+1))∧(w64 (i+1)) < ((cap2.length:Nat):Int)) then
  (cond (cond (!(nqB (nqF cap019))) (decide ((w64 ((w64 (sum+rlate))+(cap2.getD ((w64 (i+1)).toNat) 0)))≥cap021)) false)
  (g_berth_search_walk_J3 N i sum cap0 cap02 cap1 cap2 x cap014 cap015 cap016 cap017 cap018 cap019 cap020 cap021 R_ K_g_berth_search_walk_L1)
  (((g_slices_ContainsFunc_api_Stay_api_Stay N cap014 cap015 cap016 cap017 cap019 cap021 cap1 cap2 cap018 cap020 (⟨(cap02.getD ((i).toNat) TCall.d).f_Name,(cap0.getD ((x).toNat) TDock.d).f_Name,(((cap1.getD ((i).toNat) []).getD ((x).toNat) []).getD ((x2).toNat) 0)⟩:TStay)).bind fun rStay2 =>
  (cond rStay2
  (g_berth_search_walk_J4 N i sum cap0 cap02 cap1 cap2 x x2 R_ (g_berth_search_walk_L2 N i sum cap0 cap02 cap1 cap2 x R_ K_g_berth_search_walk_L1 fuel) K_g_berth_search_walk_L1 cap014 cap015 cap016 cap017 cap018 cap019 cap020 cap021)
  ((if (cap018.length+1) * 40≤140737488355328 then
  ((R_ (w64 (i+1)) (w64 (sum+rlate)) cap014 cap015 cap016 cap017 cap019 cap021 cap1 cap2 (cap018 ++ ([(⟨(cap02.getD ((i).toNat) TCall.d).f_Name,(cap0.getD ((x).toNat) TDock.d).f_Name,(((cap1.getD ((i).toNat) []).getD ((x).toNat) []).getD ((x2).toNat) 0)⟩:TStay)]:List TStay)) cap020).bind fun rwalk =>
  (if 0≤(i).toNat∧(i).toNat≤rwalk.f_stays.length then
  (if 0≤i then
  (if (i).toNat≤rwalk.f_stays.length then
  g_berth_search_walk_J4 N i sum cap0 cap02 cap1 cap2 x x2 R_ (g_berth_search_walk_L2 N i sum cap0 cap02 cap1 cap2 x R_ K_g_berth_search_walk_L1 fuel) K_g_berth_search_walk_L1 rwalk.f_y.f_Docks rwalk.f_y.f_Calls rwalk.f_y.f_Sea rwalk.f_y.f_Last (rwalk.f_stays.take ((i).toNat)) rwalk.f_best.1 rwalk.f_best.2 rwalk.f_cost
  else none)
  else none)
  else none))
  else none))))))
  else none)
  else none))
  else none))
  (g_berth_search_walk_J3 N i sum cap0 cap02 cap1 cap2 x cap014 cap015 cap016 cap017 cap018 cap019 cap020 cap021 R_ K_g_berth_search_walk_L1))
def g_berth_search_walk_L1 (N:Nat) (i:Int) (sum:Int) (cap0:List TDock) (cap02:List TCall) (cap1:List (List (List Int))) (cap2:List Int) (R_:Int→Int→(List TDock)→(List TCall)→(List TMark)→Int→Bool→Int→(List (List (List Int)))→(List Int)→(List TStay)→(List TStay)→Option (Tberth_search)):Nat→(List TDock)→(List TCall)→(List TMark)→Int→(List TStay)→Bool→(List TStay)→Int→Int→Option (Tberth_search)
 | 0,_,_,_,_,_,_,_,_,_=>none
 | fuel+1,cap06,cap07,cap08,cap09,cap010,cap011,cap012,cap013,x =>
  (cond (decide (x < ((cap0.length:Nat):Int)))
  ((if 0≤x∧x < ((cap0.length:Nat):Int) then
  (if 0≤i∧i < ((cap1.length:Nat):Int) then
  (if 0≤x∧x < (((cap1.getD ((i).toNat) []).length:Nat):Int) then
  g_berth_search_walk_L2 N i sum cap0 cap02 cap1 cap2 x R_ (g_berth_search_walk_L1 N i sum cap0 cap02 cap1 cap2 R_ fuel) N cap06 cap07 cap08 cap09 cap010 cap011 cap012 cap013 0
  else none)
  else none)
  else none))
  (some (⟨(⟨cap06,cap07,cap08,cap09⟩:TYard),cap1,cap2,cap010,(cap011,cap012),cap013⟩:Tberth_search)))
def g_berth_search_walk (N:Nat):Nat→Int→Int→(List TDock)→(List TCall)→(List TMark)→Int→Bool→Int→(List (List (List Int)))→(List Int)→(List TStay)→(List TStay)→Option (Tberth_search)
 | 0,_,_,_,_,_,_,_,_,_,_,_,_=>none
 | fuel+1,i,sum,cap0,cap02,cap03,cap04,cap0f,cap05,cap1,cap2,cap3,cap4 =>
  (cond (i == ((cap02.length:Nat):Int))
  (((g_slices_Clone_api_Stay_api_Stay N cap3).bind fun rStay =>
  some (⟨(⟨cap0,cap02,cap03,cap04⟩:TYard),cap1,cap2,cap3,(true,rStay),sum⟩:Tberth_search)))
  ((if 0≤i∧i < ((cap02.length:Nat):Int) then
  g_berth_search_walk_L1 N i sum cap0 cap02 cap1 cap2 (g_berth_search_walk N fuel) N cap0 cap02 cap03 cap04 cap3 cap0f cap4 cap05 0
  else none)))
def g_berth_Best_L2 (N:Nat) (y:TYard) (s:List (List (List Int))) (x:Int) (K_g_berth_Best_L1:(List (List (List Int)))→Int→Option ((List TStay)×Int×Int)):Nat→(List (List Int))→Int→Option ((List TStay)×Int×Int)
 | 0,_,_=>none
 | fuel+1,row,x2 =>
  (cond (decide (x2 < ((y.f_Docks.length:Nat):Int)))
  ((if 0≤x2∧x2 < ((y.f_Docks.length:Nat):Int) then
  ((g_berth_possible N y (y.f_Calls.getD ((x).toNat) TCall.d) (y.f_Docks.getD ((x2).toNat) TDock.d)).bind fun rpossible =>
  (if (row.length+1) * 24≤140737488355328 then
  g_berth_Best_L2 N y s x K_g_berth_Best_L1 fuel (row ++ ([rpossible]:List (List Int))) (w64 (x2+1))
  else none))
  else none))
  ((if (s.length+1) * 24≤140737488355328 then
  K_g_berth_Best_L1 (s ++ ([row]:List (List (List Int)))) (w64 (x+1))
  else none)))
def g_berth_Best_J5 (N:Nat) (y:TYard) (s:List (List (List Int))) (x:Int) (s2:List Int) (i:Int) (x3:Int) (K_g_berth_Best_L4:Int→Bool→Int→Option ((List TStay)×Int×Int)) (K_g_berth_Best_L3:(List Int)→Int→Option ((List TStay)×Int×Int)) (least2:Int) (any2:Bool):Option ((List TStay)×Int×Int) :=
 K_g_berth_Best_L4 least2 any2 (w64 (x3+1))
def g_berth_Best_L4 (N:Nat) (y:TYard) (s:List (List (List Int))) (x:Int) (s2:List Int) (i:Int) (K_g_berth_Best_L3:(List Int)→Int→Option ((List TStay)×Int×Int)):Nat→Int→Bool→Int→Option ((List TStay)×Int×Int)
 | 0,_,_,_=>none
 | fuel+1,least,any,x3 =>
  (cond (decide (x3 < (((s.getD ((i).toNat) []).length:Nat):Int)))
  ((if 0≤x3∧x3 < (((s.getD ((i).toNat) []).length:Nat):Int) then
  (if (((decide (((((s.getD ((i).toNat) []).getD ((x3).toNat) []).length:Nat):Int) > 0)) && ((decide (((((s.getD ((i).toNat) []).getD ((x3).toNat) []).length:Nat):Int) > 0)) && (!(!any))))=true→0≤i∧i < ((y.f_Calls.length:Nat):Int)) then
  (if (((decide (((((s.getD ((i).toNat) []).getD ((x3).toNat) []).length:Nat):Int) > 0)) && ((decide (((((s.getD ((i).toNat) []).getD ((x3).toNat) []).length:Nat):Int) > 0)) && (!(!any))))=true→0≤(0:Int)∧0 < ((((s.getD ((i).toNat) []).getD ((x3).toNat) []).length:Nat):Int)) then
  ((cond ((decide (((((s.getD ((i).toNat) []).getD ((x3).toNat) []).length:Nat):Int) > 0)) && ((decide (((((s.getD ((i).toNat) []).getD ((x3).toNat) []).length:Nat):Int) > 0)) && (!(!any)))) (g_berth_late N (y.f_Calls.getD ((i).toNat) TCall.d) (((s.getD ((i).toNat) []).getD ((x3).toNat) []).getD 0 0)) (some 0)).bind fun rlate =>
  (cond (cond (decide (((((s.getD ((i).toNat) []).getD ((x3).toNat) []).length:Nat):Int) > 0)) (cond (!any) true (decide (rlate < least))) false)
  ((if 0≤i∧i < ((y.f_Calls.length:Nat):Int) then
  (if 0≤(0:Int)∧0 < ((((s.getD ((i).toNat) []).getD ((x3).toNat) []).length:Nat):Int) then
  ((g_berth_late N (y.f_Calls.getD ((i).toNat) TCall.d) (((s.getD ((i).toNat) []).getD ((x3).toNat) []).getD 0 0)).bind fun rlate2 =>
  g_berth_Best_J5 N y s x s2 i x3 (g_berth_Best_L4 N y s x s2 i K_g_berth_Best_L3 fuel) K_g_berth_Best_L3 rlate2 true)
  else none)
  else none))
  (g_berth_Best_J5 N y s x s2 i x3 (g_berth_Best_L4 N y s x s2 i K_g_berth_Best_L3 fuel) K_g_berth_Best_L3 least any)))
  else none)
  else none)
  else none))
  ((cond (!any)
  (some (([]:List TStay),0,29))
  ((if 0≤(w64 (i+1))∧(w64 (i+1)) < ((s2.length:Nat):Int) then
  (if 0≤i∧i < ((s2.length:Nat):Int) then
  K_g_berth_Best_L3 (s2.set ((i).toNat) (w64 ((s2.getD ((w64 (i+1)).toNat) 0)+least))) (w64 (i - 1))
  else none)
  else none)))))
def g_berth_Best_L3 (N:Nat) (y:TYard) (s:List (List (List Int))) (x:Int):Nat→(List Int)→Int→Option ((List TStay)×Int×Int)
 | 0,_,_=>none
 | fuel+1,s2,i =>
  (cond (decide (i≥0))
  ((if 0≤i∧i < ((s.length:Nat):Int) then
  g_berth_Best_L4 N y s x s2 i (g_berth_Best_L3 N y s x fuel) N 0 false 0
  else none))
  (((g_berth_search_walk N N 0 0 y.f_Docks y.f_Calls y.f_Sea y.f_Last false 0 s s2 ([]:List TStay) ([]:List TStay)).bind fun rwalk =>
  (cond (rwalk.f_best.1 && decide (rwalk.f_best.2.length=0))
  (if decide (((y.f_Calls.length:Nat):Int) > 0)=false then
  (cond (cond false (decide (((y.f_Calls.length:Nat):Int) > 0)) false)
  (some (([]:List TStay),0,29))
  (some (rwalk.f_best.2,rwalk.f_cost,0)))
  else none)
  ((cond (cond (nqB (nqF rwalk.f_best.1)) (decide (((y.f_Calls.length:Nat):Int) > 0)) false)
  (some (([]:List TStay),0,29))
  (some (rwalk.f_best.2,rwalk.f_cost,0))))))))
def g_berth_Best_L1 (N:Nat) (y:TYard):Nat→(List (List (List Int)))→Int→Option ((List TStay)×Int×Int)
 | 0,_,_=>none
 | fuel+1,s,x =>
  (cond (decide (x < ((y.f_Calls.length:Nat):Int)))
  ((if 0≤x∧x < ((y.f_Calls.length:Nat):Int) then
  g_berth_Best_L2 N y s x (g_berth_Best_L1 N y fuel) N ([]:List (List Int)) 0
  else none))
  (g_berth_Best_L3 N y s x N (List.replicate ((w64 (((y.f_Calls.length:Nat):Int)+1)).toNat) 0:List Int) (w64 (((y.f_Calls.length:Nat):Int) - 1))))
def g_berth_Best (N:Nat) (y:TYard):Option ((List TStay)×Int×Int) :=
 ((g_berth_checkYard N y).bind fun rcheckYard =>
 (cond (rcheckYard != 0)
 (some (([]:List TStay),0,rcheckYard))
 ((cond (cond (decide (((y.f_Calls.length:Nat):Int) > 4)) true (decide (y.f_Last > 60)))
 (some (([]:List TStay),0,8))
 ((if 0≤(w64 (((y.f_Calls.length:Nat):Int)+1))∧(8:Int) * (w64 (((y.f_Calls.length:Nat):Int)+1))≤281474976710656∧(w64 (((y.f_Calls.length:Nat):Int)+1))≤9223372036854775807 then
 g_berth_Best_L1 N y N ([]:List (List (List Int))) 0
 else none))))))
def g_keelblocktop_calmYard (N:Nat) (y:TYard):Option (Bool) :=
 ((g_w06_Names N y.f_Docks y.f_Calls).bind fun rNames =>
 ((cond (cond (cond (cond rNames (decide (((y.f_Calls.length:Nat):Int)≤3)) false) (decide (((y.f_Docks.length:Nat):Int)≤2)) false) (decide (((y.f_Sea.length:Nat):Int)≤12)) false) (g_r06_CheckYard N y) (some 0)).bind fun rCheckYard =>
 (if ((cond (cond (cond (cond (cond rNames (decide (((y.f_Calls.length:Nat):Int)≤3)) false) (decide (((y.f_Docks.length:Nat):Int)≤2)) false) (decide (((y.f_Sea.length:Nat):Int)≤12)) false) (rCheckYard == 0) false) (decide (y.f_Last≤9)) false)=true→0≤(w64 (((y.f_Sea.length:Nat):Int) - 1))∧(w64 (((y.f_Sea.length:Nat):Int) - 1)) < ((y.f_Sea.length:Nat):Int)) then
 some (cond (cond (cond (cond (cond (cond rNames (decide (((y.f_Calls.length:Nat):Int)≤3)) false) (decide (((y.f_Docks.length:Nat):Int)≤2)) false) (decide (((y.f_Sea.length:Nat):Int)≤12)) false) (rCheckYard == 0) false) (decide (y.f_Last≤9)) false) (decide ((y.f_Sea.getD ((w64 (((y.f_Sea.length:Nat):Int) - 1)).toNat) TMark.d).f_Minute≤14400)) false)
 else none)))
def g_w_isName_L1 (N:Nat) (s:ByteArray):Nat→Int→Option (Bool)
 | 0,_=>none
 | fuel+1,x =>
  (cond (decide (x < ((s.size:Nat):Int)))
  ((if 0≤x∧x < (((bytesL s).length:Nat):Int) then
  (cond (cond (!(cond (cond (decide (((bytesL s).getD ((x).toNat) 0)≥97)) (decide (((bytesL s).getD ((x).toNat) 0)≤122)) false) true (cond (decide (((bytesL s).getD ((x).toNat) 0)≥65)) (decide (((bytesL s).getD ((x).toNat) 0)≤90)) false))) (cond (x == 0) true (cond (((bytesL s).getD ((x).toNat) 0) != 45) (cond (decide (((bytesL s).getD ((x).toNat) 0) < 48)) true (decide (((bytesL s).getD ((x).toNat) 0) > 57))) false)) false)
  (some false)
  (g_w_isName_L1 N s fuel (w64 (x+1))))
  else none))
  (some true))
def g_w_isName (N:Nat) (s:ByteArray):Option (Bool) :=
 ((g_w_between N ((s.size:Nat):Int) 1 12).bind fun rBt =>
 (cond (!rBt)
 (some false)
 (g_w_isName_L1 N s N 0)))
def g_w_checkForm_L1 (N:Nat) (b:TBasin):Nat→Int→Option (Int)
 | 0,_=>none
 | fuel+1,x =>
  (cond (decide (x < ((b.f_Areas.length:Nat):Int)))
  ((if 0≤x∧x < ((b.f_Areas.length:Nat):Int) then
  ((g_w_between N ((b.f_Areas.getD ((x).toNat) TArea.d).f_From) (-1000000) 1000000).bind fun rBt2 =>
  ((cond (!(!rBt2)) (g_w_between N ((b.f_Areas.getD ((x).toNat) TArea.d).f_Size) 1 1000000) (some false)).bind fun rBt3 =>
  (cond (cond (!rBt2) true (!rBt3))
  (some 2)
  ((if ((decide (x > 0))=true→0≤(w64 (x - 1))∧(w64 (x - 1)) < ((b.f_Areas.length:Nat):Int)) then
  (cond (cond (decide (x > 0)) (decide ((b.f_Areas.getD ((x).toNat) TArea.d).f_From≤(b.f_Areas.getD ((w64 (x - 1)).toNat) TArea.d).f_From)) false)
  (some 10)
  (g_w_checkForm_L1 N b fuel (w64 (x+1))))
  else none)))))
  else none))
  ((if 0≤(w64 (((b.f_Areas.length:Nat):Int) - 1))∧(w64 (((b.f_Areas.length:Nat):Int) - 1)) < ((b.f_Areas.length:Nat):Int) then
  (cond (cond (decide (b.f_Rim≤(b.f_Areas.getD ((w64 (((b.f_Areas.length:Nat):Int) - 1)).toNat) TArea.d).f_From)) true (decide (b.f_Rim > 1000000)))
  (some 2)
  (some 0))
  else none)))
def g_w_checkForm (N:Nat) (b:TBasin):Option (Int) :=
 ((g_w_between N ((b.f_Areas.length:Nat):Int) 1 20).bind fun rBt =>
 (cond (!rBt)
 (some 2)
 (g_w_checkForm_L1 N b N 0)))
def g_w_CheckBasin (N:Nat) (b:TBasin):Option (Int) :=
 ((g_w_isName N b.f_Name).bind fun risName =>
 (cond (!risName)
 (some 4)
 (((g_w_checkForm N b).bind fun rcheckForm =>
 some rcheckForm))))
def g_w_floor (N:Nat) (b:TBasin):Option (Int) :=
 (if 0≤(0:Int)∧0 < ((b.f_Areas.length:Nat):Int) then
 some ((b.f_Areas.getD 0 TArea.d).f_From)
 else none)
def g_w_volume_J2 (N:Nat) (b:TBasin) (level:Int) (sum:Int) (x:Int) (K_g_w_volume_L1:Int→Int→Option (Int)) (top:Int):Option (Int) :=
 K_g_w_volume_L1 (w64 (sum+(w64 ((b.f_Areas.getD ((x).toNat) TArea.d).f_Size * (if (w64 (top - (b.f_Areas.getD ((x).toNat) TArea.d).f_From)) > 0 then (w64 (top - (b.f_Areas.getD ((x).toNat) TArea.d).f_From)) else 0))))) (w64 (x+1))
def g_w_volume_L1 (N:Nat) (b:TBasin) (level:Int):Nat→Int→Int→Option (Int)
 | 0,_,_=>none
 | fuel+1,sum,x =>
  (cond (decide (x < ((b.f_Areas.length:Nat):Int)))
  ((if 0≤x∧x < ((b.f_Areas.length:Nat):Int) then
  (cond (decide ((w64 (x+1)) < ((b.f_Areas.length:Nat):Int)))
  ((if 0≤(w64 (x+1))∧(w64 (x+1)) < ((b.f_Areas.length:Nat):Int) then
  g_w_volume_J2 N b level sum x (g_w_volume_L1 N b level fuel) (if (b.f_Areas.getD ((w64 (x+1)).toNat) TArea.d).f_From < level then (b.f_Areas.getD ((w64 (x+1)).toNat) TArea.d).f_From else level)
  else none))
  (g_w_volume_J2 N b level sum x (g_w_volume_L1 N b level fuel) level))
  else none))
  (some sum))
def g_w_volume (N:Nat) (b:TBasin) (level:Int):Option (Int) :=
 g_w_volume_L1 N b level N 0 0
def g_w_Volume (N:Nat) (b:TBasin) (level:Int):Option (Int×Int) :=
 ((g_w_CheckBasin N b).bind fun rCheckBasin =>
 (cond (rCheckBasin != 0)
 (some (0,rCheckBasin))
 (((g_w_floor N b).bind fun rfloor =>
 ((g_w_between N level rfloor b.f_Rim).bind fun rBt =>
 (cond (!rBt)
 (some (0,2))
 (((g_w_volume N b level).bind fun rvolume =>
 some (rvolume,0)))))))))
def g_keelblocktop_wet (N:Nat):Option (Bool) :=
 ((g_w_Volume N (⟨(⟨#[65]⟩:ByteArray),([(⟨0,100⟩:TArea)]:List TArea),50⟩:TBasin) 30).bind fun rVolume =>
 some (cond (rVolume.2 == 0) (rVolume.1 == 3000) false))
def g_slices_Compact_int_int_J3 (N:Nat) (cap0:List Int) (k:Int) (k22:Int) (K_g_slices_Compact_int_int_L2:(List Int)→Int→Int→Option ((List Int)×(List Int))) (K_g_slices_Compact_int_int_L1:Int→Option ((List Int)×(List Int))) (cap03:List Int) (k3:Int):Option ((List Int)×(List Int)) :=
 K_g_slices_Compact_int_int_L2 cap03 k3 (w64 (k22+1))
def g_slices_Compact_int_int_L2 (N:Nat) (cap0:List Int) (k:Int) (K_g_slices_Compact_int_int_L1:Int→Option ((List Int)×(List Int))):Nat→(List Int)→Int→Int→Option ((List Int)×(List Int))
 | 0,_,_,_=>none
 | fuel+1,cap02,k2,k22 =>
  (cond (decide (k22 < (((cap0.length - (k).toNat):Nat):Int)))
  ((if 0≤k22∧k22 < (((cap0.length - (k).toNat):Nat):Int) then
  (if (k).toNat≤cap0.length∧cap0.length≤cap02.length then
  (if 0≤(w64 (k22 - 1))∧(w64 (k22 - 1)) < (((cap0.length - (k).toNat):Nat):Int) then
  (cond ((cap02.getD (addz (k).toNat (k22).toNat) 0) != (cap02.getD (addz (k).toNat (w64 (k22 - 1)).toNat) 0))
  ((if 0≤k2∧k2 < ((cap02.length:Nat):Int) then
  g_slices_Compact_int_int_J3 N cap0 k k22 (g_slices_Compact_int_int_L2 N cap0 k K_g_slices_Compact_int_int_L1 fuel) K_g_slices_Compact_int_int_L1 (cap02.set ((k2).toNat) (cap02.getD (addz (k).toNat (k22).toNat) 0)) (w64 (k2+1))
  else none))
  (g_slices_Compact_int_int_J3 N cap0 k k22 (g_slices_Compact_int_int_L2 N cap0 k K_g_slices_Compact_int_int_L1 fuel) K_g_slices_Compact_int_int_L1 cap02 k2))
  else none)
  else none)
  else none))
  ((if (k2).toNat≤cap02.length∧cap02.length≤cap02.length then
  (if 0≤k2 then
  (if 0 < (cap02.length - (k2).toNat)∧(k2).toNat+(cap02.length - (k2).toNat)≤cap02.length then
  (if 0≤(k2).toNat∧(k2).toNat≤cap02.length then
  some ((cap02.take ((k2).toNat)),(cap02.take ((k2).toNat)))
  else none)
  else none)
  else none)
  else none)))
def g_slices_Compact_int_int_L1 (N:Nat) (cap0:List Int):Nat→Int→Option ((List Int)×(List Int))
 | 0,_=>none
 | fuel+1,k =>
  (cond (decide (k < ((cap0.length:Nat):Int)))
  ((if 0≤k∧k < ((cap0.length:Nat):Int) then
  (if 0≤(w64 (k - 1))∧(w64 (k - 1)) < ((cap0.length:Nat):Int) then
  (cond ((cap0.getD ((k).toNat) 0) == (cap0.getD ((w64 (k - 1)).toNat) 0))
  ((if (k).toNat≤cap0.length∧cap0.length≤cap0.length then
  (if 0≤k then
  g_slices_Compact_int_int_L2 N cap0 k (g_slices_Compact_int_int_L1 N cap0 fuel) N cap0 k 1
  else none)
  else none))
  (g_slices_Compact_int_int_L1 N cap0 fuel (w64 (k+1))))
  else none)
  else none))
  (some (cap0,cap0)))
def g_slices_Compact_int_int (N:Nat) (cap0:List Int):Option ((List Int)×(List Int)) :=
 (cond (decide (((cap0.length:Nat):Int) < 2))
 (some (cap0,cap0))
 (g_slices_Compact_int_int_L1 N cap0 N 1))
def g_berth_sums_J2 (N:Nat) (sizes:List Int) (but:Int) (gap:Int) (x:Int) (K_g_berth_sums_L1:(List Int)→Int→Option ((List Int))) (out2:List Int):Option ((List Int)) :=
 K_g_berth_sums_L1 out2 (w64 (x+1))
def g_berth_sums_L3 (N:Nat) (sizes:List Int) (but:Int) (gap:Int) (out:List Int) (x:Int) (K_g_berth_sums_L1:(List Int)→Int→Option ((List Int))):Nat→(List Int)→Nat→Int→Option ((List Int))
 | 0,_,_,_=>none
 | fuel+1,out3,xn,x2 =>
  (cond (decide (x2 < ((out.length:Nat):Int)))
  ((if 0≤x2∧x2 < ((xn:Nat):Int) then
  (if 0+xn≤out3.length then
  (if (out3.length+1) * 8≤140737488355328 then
  g_berth_sums_L3 N sizes but gap out x K_g_berth_sums_L1 fuel (out3 ++ ([(w64 ((w64 ((out3.getD ((x2).toNat) 0)+(sizes.getD ((x).toNat) 0)))+gap))]:List Int)) xn (w64 (x2+1))
  else none)
  else none)
  else none))
  (g_berth_sums_J2 N sizes but gap x K_g_berth_sums_L1 out3))
def g_berth_sums_L1 (N:Nat) (sizes:List Int) (but:Int) (gap:Int):Nat→(List Int)→Int→Option ((List Int))
 | 0,_,_=>none
 | fuel+1,out,x =>
  (cond (decide (x < ((sizes.length:Nat):Int)))
  ((if 0≤x∧x < ((sizes.length:Nat):Int) then
  (cond (x == but)
  (g_berth_sums_J2 N sizes but gap x (g_berth_sums_L1 N sizes but gap fuel) out)
  (g_berth_sums_L3 N sizes but gap out x (g_berth_sums_L1 N sizes but gap fuel) N out out.length 0))
  else none))
  (((g_slices_Sort_int_int N out).bind fun rSort =>
  (if rSort.length=out.length then
  ((g_slices_Compact_int_int N rSort).bind fun rCompact =>
  some rCompact.2)
  else none))))
def g_berth_sums (N:Nat) (sizes:List Int) (but:Int) (gap:Int):Option ((List Int)) :=
 g_berth_sums_L1 N sizes but gap N ([gap]:List Int) 0
def g_berth_inside (N:Nat) (d:TDock) (b:Tberth_box):Option (Bool) :=
 some (cond (cond (cond (decide (b.f_x≥d.f_Gap)) (decide (b.f_y≥d.f_Gap)) false) (decide ((w64 ((w64 (b.f_x+b.f_w))+d.f_Gap))≤d.fLn)) false) (decide ((w64 ((w64 (b.f_y+b.f_h))+d.f_Gap))≤d.f_Width)) false)
def g_berth_apart (N:Nat) (a:Tberth_box) (b:Tberth_box) (gap:Int):Option (Bool) :=
 some (cond (cond (cond (decide ((w64 ((w64 (a.f_x+a.f_w))+gap))≤b.f_x)) true (decide ((w64 ((w64 (b.f_x+b.f_w))+gap))≤a.f_x))) true (decide ((w64 ((w64 (a.f_y+a.f_h))+gap))≤b.f_y))) true (decide ((w64 ((w64 (b.f_y+b.f_h))+gap))≤a.f_y)))
def g_berth_Place_1_1 (N:Nat) (a:Tberth_box) (cap0:Tberth_box) (cap1:TDock):Option (Bool) :=
 ((g_berth_apart N a cap0 cap1.f_Gap).bind fun rapart =>
 some (!rapart))
def g_slices_IndexFunc_berth_box_berth_box_L1 (N:Nat) (s:List Tberth_box) (cap0:Tberth_box) (cap1:TDock):Nat→Int→Option (Int)
 | 0,_=>none
 | fuel+1,x =>
  (cond (decide (x < ((s.length:Nat):Int)))
  ((if 0≤x∧x < ((s.length:Nat):Int) then
  ((g_berth_Place_1_1 N (s.getD ((x).toNat) Tberth_box.d) cap0 cap1).bind fun rPlace11 =>
  (cond rPlace11
  (some x)
  (g_slices_IndexFunc_berth_box_berth_box_L1 N s cap0 cap1 fuel (w64 (x+1)))))
  else none))
  (some (-1)))
def g_slices_IndexFunc_berth_box_berth_box (N:Nat) (s:List Tberth_box) (cap0:Tberth_box) (cap1:TDock):Option (Int) :=
 g_slices_IndexFunc_berth_box_berth_box_L1 N s cap0 cap1 N 0
def g_slices_ContainsFunc_berth_box_berth_box (N:Nat) (s:List Tberth_box) (cap0:Tberth_box) (cap1:TDock):Option (Bool) :=
 ((g_slices_IndexFunc_berth_box_berth_box N s cap0 cap1).bind fun rbox =>
 some (decide (rbox≥0)))
def g_berth_Place_1_J3 (N:Nat) (i:Int) (cap0:List TCall) (cap2:List Int) (cap3:TDock) (cap5:List Int) (rsums:(List Int)) (x:Int) (rsums2:(List Int)) (x2:Int) (R_:Int→(List TCall)→(List Int)→TDock→(List Int)→(List Tberth_box)→Option (Bool×(List Tberth_box))) (K_g_berth_Place_1_L2:(List Tberth_box)→Int→Option (Bool×(List Tberth_box))) (K_g_berth_Place_1_L1:(List Tberth_box)→Int→Option (Bool×(List Tberth_box))) (cap63:List Tberth_box):Option (Bool×(List Tberth_box)) :=
 K_g_berth_Place_1_L2 cap63 (w64 (x2+1))
def g_berth_Place_1_L2 (N:Nat) (i:Int) (cap0:List TCall) (cap2:List Int) (cap3:TDock) (cap5:List Int) (rsums:(List Int)) (x:Int) (rsums2:(List Int)) (R_:Int→(List TCall)→(List Int)→TDock→(List Int)→(List Tberth_box)→Option (Bool×(List Tberth_box))) (K_g_berth_Place_1_L1:(List Tberth_box)→Int→Option (Bool×(List Tberth_box))):Nat→(List Tberth_box)→Int→Option (Bool×(List Tberth_box))
 | 0,_,_=>none
 | fuel+1,cap62,x2 =>
  (cond (decide (x2 < ((rsums2.length:Nat):Int)))
  ((if 0≤x2∧x2 < ((rsums2.length:Nat):Int) then
  (if 0≤i∧i < ((cap0.length:Nat):Int) then
  ((g_berth_inside N cap3 (⟨(rsums.getD ((x).toNat) 0),(rsums2.getD ((x2).toNat) 0),(cap0.getD ((i).toNat) TCall.d).fLn,(cap0.getD ((i).toNat) TCall.d).f_Beam⟩:Tberth_box)).bind fun rIn =>
  (if ((!(!rIn))=true→0≤(i).toNat∧(i).toNat≤cap62.length) then
  (if ((!(!rIn))=true→0≤i) then
  (if 0≤(i).toNat∧(i).toNat≤cap62.length then
  ((cond (!(!rIn)) (g_slices_ContainsFunc_berth_box_berth_box N ((cap62.take ((i).toNat)).drop 0) (⟨(rsums.getD ((x).toNat) 0),(rsums2.getD ((x2).toNat) 0),(cap0.getD ((i).toNat) TCall.d).fLn,(cap0.getD ((i).toNat) TCall.d).f_Beam⟩:Tberth_box) cap3) (some false)).bind fun rbox =>
  (cond (cond (!rIn) true rbox)
  (g_berth_Place_1_J3 N i cap0 cap2 cap3 cap5 rsums x rsums2 x2 R_ (g_berth_Place_1_L2 N i cap0 cap2 cap3 cap5 rsums x rsums2 R_ K_g_berth_Place_1_L1 fuel) K_g_berth_Place_1_L1 cap62)
  ((if 0≤i∧i < ((cap62.length:Nat):Int) then
  ((R_ (w64 (i+1)) cap0 cap2 cap3 cap5 (cap62.set ((i).toNat) (⟨(rsums.getD ((x).toNat) 0),(rsums2.getD ((x2).toNat) 0),(cap0.getD ((i).toNat) TCall.d).fLn,(cap0.getD ((i).toNat) TCall.d).f_Beam⟩:Tberth_box))).bind fun rPlace1 =>
  (if rPlace1.2.length=(cap62.set ((i).toNat) (⟨(rsums.getD ((x).toNat) 0),(rsums2.getD ((x2).toNat) 0),(cap0.getD ((i).toNat) TCall.d).fLn,(cap0.getD ((i).toNat) TCall.d).f_Beam⟩:Tberth_box)).length then
  (cond rPlace1.1
  (some (true,rPlace1.2))
  (g_berth_Place_1_J3 N i cap0 cap2 cap3 cap5 rsums x rsums2 x2 R_ (g_berth_Place_1_L2 N i cap0 cap2 cap3 cap5 rsums x rsums2 R_ K_g_berth_Place_1_L1 fuel) K_g_berth_Place_1_L1 rPlace1.2))
  else none))
  else none))))
  else none)
  else none)
  else none))
  else none)
  else none))
  (K_g_berth_Place_1_L1 cap62 (w64 (x+1))))
def g_berth_Place_1_L1 (N:Nat) (i:Int) (cap0:List TCall) (cap2:List Int) (cap3:TDock) (cap5:List Int) (rsums:(List Int)) (R_:Int→(List TCall)→(List Int)→TDock→(List Int)→(List Tberth_box)→Option (Bool×(List Tberth_box))):Nat→(List Tberth_box)→Int→Option (Bool×(List Tberth_box))
 | 0,_,_=>none
 | fuel+1,cap6,x =>
  (cond (decide (x < ((rsums.length:Nat):Int)))
  ((if 0≤x∧x < ((rsums.length:Nat):Int) then
  ((g_berth_sums N cap5 i cap3.f_Gap).bind fun rsums2 =>
  g_berth_Place_1_L2 N i cap0 cap2 cap3 cap5 rsums x rsums2 R_ (g_berth_Place_1_L1 N i cap0 cap2 cap3 cap5 rsums R_ fuel) N cap6 0)
  else none))
  (some (false,cap6)))
def g_berth_Place_1 (N:Nat):Nat→Int→(List TCall)→(List Int)→TDock→(List Int)→(List Tberth_box)→Option (Bool×(List Tberth_box))
 | 0,_,_,_,_,_,_=>none
 | fuel+1,i,cap0,cap2,cap3,cap5,cap7 =>
  (cond (i == ((cap0.length:Nat):Int))
  (some (true,cap7))
  (((g_berth_sums N cap2 i cap3.f_Gap).bind fun rsums =>
  g_berth_Place_1_L1 N i cap0 cap2 cap3 cap5 rsums (g_berth_Place_1 N fuel) N cap7 0)))
def g_berth_Place_L2 (N:Nat) (c:List TCall) (rPlace1:Bool×(List Tberth_box)):Nat→(List TSpot)→Int→Option ((List TSpot)×Int)
 | 0,_,_=>none
 | fuel+1,out,x2 =>
  (cond (decide (x2 < ((rPlace1.2.length:Nat):Int)))
  ((if 0≤x2∧x2 < ((rPlace1.2.length:Nat):Int) then
  (if 0≤x2∧x2 < ((c.length:Nat):Int) then
  (if (out.length+1) * 32≤140737488355328 then
  g_berth_Place_L2 N c rPlace1 fuel (out ++ ([(⟨(c.getD ((x2).toNat) TCall.d).f_Name,(rPlace1.2.getD ((x2).toNat) Tberth_box.d).f_x,(rPlace1.2.getD ((x2).toNat) Tberth_box.d).f_y⟩:TSpot)]:List TSpot)) (w64 (x2+1))
  else none)
  else none)
  else none))
  (some (out,0)))
def g_berth_Place_L1 (N:Nat) (d:TDock) (c:List TCall):Nat→(List Int)→(List Int)→Int→Option ((List TSpot)×Int)
 | 0,_,_,_=>none
 | fuel+1,lengths,beams,x =>
  (cond (decide (x < ((c.length:Nat):Int)))
  ((if 0≤x∧x < ((c.length:Nat):Int) then
  (if (lengths.length+1) * 8≤140737488355328 then
  (if (beams.length+1) * 8≤140737488355328 then
  g_berth_Place_L1 N d c fuel (lengths ++ ([(c.getD ((x).toNat) TCall.d).fLn]:List Int)) (beams ++ ([(c.getD ((x).toNat) TCall.d).f_Beam]:List Int)) (w64 (x+1))
  else none)
  else none)
  else none))
  ((if 0≤((c.length:Nat):Int)∧(32:Int) * ((c.length:Nat):Int)≤281474976710656∧((c.length:Nat):Int)≤9223372036854775807 then
  ((g_berth_Place_1 N N 0 c lengths d beams (List.replicate c.length Tberth_box.d:List Tberth_box)).bind fun rPlace1 =>
  (if rPlace1.2.length=(List.replicate c.length Tberth_box.d:List Tberth_box).length then
  (cond (!rPlace1.1)
  (some (([]:List TSpot),29))
  (g_berth_Place_L2 N c rPlace1 N ([]:List TSpot) 0))
  else none))
  else none)))
def g_berth_Place (N:Nat) (d:TDock) (c:List TCall):Option ((List TSpot)×Int) :=
 ((g_berth_both N d c).bind fun rboth =>
 (cond (rboth != 0)
 (some (([]:List TSpot),rboth))
 ((cond (decide (((c.length:Nat):Int) > 4))
 (some (([]:List TSpot),8))
 (g_berth_Place_L1 N d c N ([]:List Int) ([]:List Int) 0)))))
def g_w_Tide (N:Nat) (m:List TMark) (minute:Int):Option (Int×Int) :=
 ((g_w_CheckSea N m).bind fun rCheckSea =>
 (cond (rCheckSea != 0)
 (some (0,rCheckSea))
 (((g_w_between N minute 0 1000000).bind fun rBt =>
 (cond (!rBt)
 (some (0,2))
 ((cond (((m.length:Nat):Int) == 0)
 (some (0,29))
 (((g_w_tide N m minute).bind fun rtide =>
 some (rtide,0))))))))))
def g_keelblocktop_passes_J2 (N:Nat) (y:TYard) (d:TDock) (c:TCall) (day:Int) (k:Int) (K_g_keelblocktop_passes_L1:Int→Int→Option (Bool)) (run2:Int):Option (Bool) :=
 (cond (decide (run2≥30))
 (some true)
 (K_g_keelblocktop_passes_L1 run2 (w64 (k+1))))
def g_keelblocktop_passes_L1 (N:Nat) (y:TYard) (d:TDock) (c:TCall) (day:Int):Nat→Int→Int→Option (Bool)
 | 0,_,_=>none
 | fuel+1,run,k =>
  (if ((decide (k < (w64 ((w64 (1440 * day))+1440))))=true→0≤(w64 (((y.f_Sea.length:Nat):Int) - 1))∧(w64 (((y.f_Sea.length:Nat):Int) - 1)) < ((y.f_Sea.length:Nat):Int)) then
  (cond (cond (decide (k < (w64 ((w64 (1440 * day))+1440)))) (decide (k≤(y.f_Sea.getD ((w64 (((y.f_Sea.length:Nat):Int) - 1)).toNat) TMark.d).f_Minute)) false)
  (((g_w_Tide N y.f_Sea k).bind fun rTide =>
  (cond (rTide.2 != 0)
  (some false)
  ((cond (decide (rTide.1≥(w64 ((w64 (d.f_Sill+c.f_Draught))+c.f_Under))))
  (g_keelblocktop_passes_J2 N y d c day k (g_keelblocktop_passes_L1 N y d c day fuel) (w64 (run+1)))
  (g_keelblocktop_passes_J2 N y d c day k (g_keelblocktop_passes_L1 N y d c day fuel) 0))))))
  (some false))
  else none)
def g_keelblocktop_passes (N:Nat) (y:TYard) (d:TDock) (c:TCall) (day:Int):Option (Bool) :=
 g_keelblocktop_passes_L1 N y d c day N 0 (w64 (1440 * day))
def g_keelblocktop_TopBestDocking_J3 (N:Nat):Option (Bool) :=
 ((g_keelblocktop_wet N).bind fun rwet3 =>
 some rwet3)
def g_keelblocktop_TopBestDocking_L2 (N:Nat) (y:TYard) (rBest:(List TStay)×Int×Int):Nat→(List TDock)→Int→Option (Bool)
 | 0,_,_=>none
 | fuel+1,more,i2 =>
  (cond (decide (i2 < ((more.length:Nat):Int)))
  ((if (((⟨#[109,111,114,101]⟩:ByteArray).size+(strL ([(IntKind.u8.wrap ((w64 (97+i2))))]:List Int)).size:Nat):Int)≤IntKind.i64.max then
  (if 0≤i2∧i2 < ((more.length:Nat):Int) then
  g_keelblocktop_TopBestDocking_L2 N y rBest fuel (more.set ((i2).toNat) (⟨((⟨#[109,111,114,101]⟩:ByteArray) ++ (strL ([(IntKind.u8.wrap ((w64 (97+i2))))]:List Int))),(more.getD ((i2).toNat) TDock.d).fLn,(more.getD ((i2).toNat) TDock.d).f_Width,(more.getD ((i2).toNat) TDock.d).f_Sill,(more.getD ((i2).toNat) TDock.d).f_Floor,(more.getD ((i2).toNat) TDock.d).f_Gap⟩:TDock)) (w64 (i2+1))
  else none)
  else none))
  (((g_berth_Best N (⟨more,y.f_Calls,y.f_Sea,y.f_Last⟩:TYard)).bind fun rBest3 =>
  ((g_r06_CheckDocks N more).bind fun rCheckDocks =>
  (cond (cond (rCheckDocks == 0) (cond (rBest3.2.2 != 0) true (decide (rBest3.2.1 > rBest.2.1))) false)
  (some false)
  ((cond (decide (((y.f_Calls.length:Nat):Int) > 0))
  ((if 1≤y.f_Calls.length∧y.f_Calls.length≤y.f_Calls.length then
  ((g_berth_Best N (⟨y.f_Docks,((y.f_Calls.take y.f_Calls.length).drop 1),y.f_Sea,y.f_Last⟩:TYard)).bind fun rBest4 =>
  (cond (cond (rBest4.2.2 != 0) true (decide (rBest4.2.1 > rBest.2.1)))
  (some false)
  (g_keelblocktop_TopBestDocking_J3 N)))
  else none))
  (g_keelblocktop_TopBestDocking_J3 N))))))))
def g_keelblocktop_TopBestDocking_L1 (N:Nat) (y:TYard) (rBest:(List TStay)×Int×Int):Nat→Int→Option (Bool)
 | 0,_=>none
 | fuel+1,i =>
  (cond (decide (i < ((rBest.1.length:Nat):Int)))
  ((if 0≤i∧i < ((rBest.1.length:Nat):Int) then
  ((g_r06_CallOf N y.f_Calls ((rBest.1.getD ((i).toNat) TStay.d).f_Call)).bind fun rCallOf =>
  ((g_r06_DockOf N y.f_Docks ((rBest.1.getD ((i).toNat) TStay.d).f_Dock)).bind fun rDockOf =>
  (cond (cond (decide (rCallOf < 0)) true (decide (rDockOf < 0)))
  (some false)
  ((if 0≤rCallOf∧rCallOf < ((y.f_Calls.length:Nat):Int) then
  (if 0≤rDockOf∧rDockOf < ((y.f_Docks.length:Nat):Int) then
  ((g_berth_Place N (y.f_Docks.getD ((rDockOf).toNat) TDock.d) ([(y.f_Calls.getD ((rCallOf).toNat) TCall.d)]:List TCall)).bind fun rPlace =>
  (if ((!(cond (rPlace.2 != 0) true (((rPlace.1.length:Nat):Int) != 1)))=true→0≤i∧i < ((rBest.1.length:Nat):Int)) then
  (if ((!(cond (cond (rPlace.2 != 0) true (((rPlace.1.length:Nat):Int) != 1)) true (decide ((rBest.1.getD ((i).toNat) TStay.d).f_Day < (y.f_Calls.getD ((rCallOf).toNat) TCall.d).f_Arrive))))=true→0≤i∧i < ((rBest.1.length:Nat):Int)) then
  ((cond (!(cond (cond (rPlace.2 != 0) true (((rPlace.1.length:Nat):Int) != 1)) true (decide ((rBest.1.getD ((i).toNat) TStay.d).f_Day < (y.f_Calls.getD ((rCallOf).toNat) TCall.d).f_Arrive)))) (g_keelblocktop_passes N y (y.f_Docks.getD ((rDockOf).toNat) TDock.d) (y.f_Calls.getD ((rCallOf).toNat) TCall.d) ((rBest.1.getD ((i).toNat) TStay.d).f_Day)) (some false)).bind fun rpasses =>
  (if ((!(cond (cond (cond (rPlace.2 != 0) true (((rPlace.1.length:Nat):Int) != 1)) true (decide ((rBest.1.getD ((i).toNat) TStay.d).f_Day < (y.f_Calls.getD ((rCallOf).toNat) TCall.d).f_Arrive))) true (!rpasses)))=true→0≤i∧i < ((rBest.1.length:Nat):Int)) then
  ((cond (!(cond (cond (cond (rPlace.2 != 0) true (((rPlace.1.length:Nat):Int) != 1)) true (decide ((rBest.1.getD ((i).toNat) TStay.d).f_Day < (y.f_Calls.getD ((rCallOf).toNat) TCall.d).f_Arrive))) true (!rpasses))) (g_keelblocktop_passes N y (y.f_Docks.getD ((rDockOf).toNat) TDock.d) (y.f_Calls.getD ((rCallOf).toNat) TCall.d) (w64 ((rBest.1.getD ((i).toNat) TStay.d).f_Day+(y.f_Calls.getD ((rCallOf).toNat) TCall.d).f_Work))) (some false)).bind fun rpasses2 =>
  (cond (cond (cond (cond (cond (rPlace.2 != 0) true (((rPlace.1.length:Nat):Int) != 1)) true (decide ((rBest.1.getD ((i).toNat) TStay.d).f_Day < (y.f_Calls.getD ((rCallOf).toNat) TCall.d).f_Arrive))) true (!rpasses)) true (!rpasses2))
  (some false)
  (g_keelblocktop_TopBestDocking_L1 N y rBest fuel (w64 (i+1)))))
  else none))
  else none)
  else none))
  else none)
  else none)))))
  else none))
  ((if (0+y.f_Docks.length) * 56≤140737488355328 then
  (if ((0+y.f_Docks.length)+y.f_Docks.length) * 56≤140737488355328 then
  g_keelblocktop_TopBestDocking_L2 N y rBest N ((([]:List TDock) ++ y.f_Docks) ++ y.f_Docks) ((y.f_Docks.length:Nat):Int)
  else none)
  else none)))
def g_keelblocktop_TopBestDocking (N:Nat) (y:TYard):Option (Bool) :=
 ((g_keelblocktop_calmYard N y).bind fun rcalmYard =>
 (cond (!rcalmYard)
 (((g_keelblocktop_wet N).bind fun rwet =>
 some rwet))
 (((g_berth_Best N y).bind fun rBest =>
 (cond (rBest.2.2 != 0)
 (((cond (cond (rBest.2.2 == 29) (((rBest.1.length:Nat):Int) == 0) false) (g_keelblocktop_wet N) (some false)).bind fun rwet2 =>
 some (cond (cond (rBest.2.2 == 29) (((rBest.1.length:Nat):Int) == 0) false) rwet2 false)))
 ((cond (((rBest.1.length:Nat):Int) != ((y.f_Calls.length:Nat):Int))
 (some false)
 (g_keelblocktop_TopBestDocking_L1 N y rBest N 0))))))))
end Go.Den
