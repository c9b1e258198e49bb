/- The functions of the program as Lean functions, each in the Option monad; N bounds the rounds of loops. No conditions. -/
import Derived.Test.YtlpbfdpgchbhoaaCb

set_option linter.unusedVariables false
namespace Go.Den
open Go.Ab

/-- api.Dock -/
structure Tapi_Dock where
  f_Name : ByteArray
  f_Length : Int
  f_Width : Int
  f_Sill : Int
  f_Floor : Int
  f_Gap : Int
def Tapi_Dock.d : Tapi_Dock := ⟨ByteArray.empty, 0, 0, 0, 0, 0⟩
def Tapi_Dock.wf (x : Tapi_Dock) : Prop := wS x.f_Name ∧ wI x.f_Length ∧ wI x.f_Width ∧ wI x.f_Sill ∧ wI x.f_Floor ∧ wI x.f_Gap
def Tapi_Dock.cells (x : Tapi_Dock) : List AV := [(aS x.f_Name), (aI x.f_Length), (aI x.f_Width), (aI x.f_Sill), (aI x.f_Floor), (aI x.f_Gap)]
/-- api.Call -/
structure Tapi_Call where
  f_Name : ByteArray
  f_Length : Int
  f_Beam : Int
  f_Draught : Int
  f_Under : Int
  f_Arrive : Int
  f_Work : Int
  f_Due : Int
  f_Late : Int
def Tapi_Call.d : Tapi_Call := ⟨ByteArray.empty, 0, 0, 0, 0, 0, 0, 0, 0⟩
def Tapi_Call.wf (x : Tapi_Call) : Prop := wS x.f_Name ∧ wI x.f_Length ∧ wI x.f_Beam ∧ wI x.f_Draught ∧ wI x.f_Under ∧ wI x.f_Arrive ∧ wI x.f_Work ∧ wI x.f_Due ∧ wI x.f_Late
def Tapi_Call.cells (x : Tapi_Call) : List AV := [(aS x.f_Name), (aI x.f_Length), (aI x.f_Beam), (aI x.f_Draught), (aI x.f_Under), (aI x.f_Arrive), (aI x.f_Work), (aI x.f_Due), (aI x.f_Late)]

/-- keelblock/berth.CheckDocks 1 -/
def g_berth_CheckDocks_1 (N : Nat) (x : Tapi_Dock) : Option (ByteArray) :=
  some x.f_Name

def g_berth_named_L1 (N : Nat) (s : ByteArray) : Nat → Int → Option (Bool)
  | 0, _ => none
  | fuel + 1, x =>
    (cond (decide (x < ((s.size : Nat) : Int)))
    ((if 0 ≤ x ∧ x < ((s.size : Nat) : Int) then
    (cond (cond (!(cond (cond (decide ((byteAt s ((x).toNat)) ≥ 97)) (decide ((byteAt s ((x).toNat)) ≤ 122)) false) true (cond (decide ((byteAt s ((x).toNat)) ≥ 65)) (decide ((byteAt s ((x).toNat)) ≤ 90)) false))) (cond (x == 0) true (!(cond (cond (decide ((byteAt s ((x).toNat)) ≥ 48)) (decide ((byteAt s ((x).toNat)) ≤ 57)) false) true ((byteAt s ((x).toNat)) == 45)))) false)
    (some false)
    (g_berth_named_L1 N s fuel (w64 (x + 1))))
    else none))
    (some true))

/-- keelblock/berth.named -/
def g_berth_named (N : Nat) (s : ByteArray) : Option (Bool) :=
  (cond (cond (streq s ByteArray.empty) true (decide (((s.size : Nat) : Int) > 12)))
  (some false)
  (g_berth_named_L1 N s N 0))

/-- keelblock/berth.check keelblock/api.Dock  1 -/
def g_berth_check_Dock_1 (N : Nat) (y : Tapi_Dock) (cap1 : Tapi_Dock) : Option (Bool) :=
  ((g_berth_CheckDocks_1 N y).bind fun rCheckDocks1 =>
  ((g_berth_CheckDocks_1 N cap1).bind fun rCheckDocks12 =>
  some (streq rCheckDocks1 rCheckDocks12)))

def g_slices_IndexFunc_api_Dock_api_Dock_L1 (N : Nat) (s : List Tapi_Dock) (cap1 : Tapi_Dock) : Nat → Int → Option (Int)
  | 0, _ => none
  | fuel + 1, x =>
    (cond (decide (x < ((s.length : Nat) : Int)))
    ((if 0 ≤ x ∧ x < ((s.length : Nat) : Int) then
    ((g_berth_check_Dock_1 N (s.getD ((x).toNat) Tapi_Dock.d) cap1).bind fun rDock1 =>
    (cond rDock1
    (some x)
    (g_slices_IndexFunc_api_Dock_api_Dock_L1 N s cap1 fuel (w64 (x + 1)))))
    else none))
    (some (-1)))

/-- slices.IndexFunc   keelblock/api.Dock,keelblock/api.Dock  -/
def g_slices_IndexFunc_api_Dock_api_Dock (N : Nat) (s : List Tapi_Dock) (cap1 : Tapi_Dock) : Option (Int) :=
  g_slices_IndexFunc_api_Dock_api_Dock_L1 N s cap1 N 0

/-- slices.ContainsFunc   keelblock/api.Dock,keelblock/api.Dock  -/
def g_slices_ContainsFunc_api_Dock_api_Dock (N : Nat) (s : List Tapi_Dock) (cap1 : Tapi_Dock) : Option (Bool) :=
  ((g_slices_IndexFunc_api_Dock_api_Dock N s cap1).bind fun rDock =>
  some (decide (rDock ≥ 0)))

/-- keelblock/berth.outside -/
def g_berth_outside (N : Nat) (n : Int) (lo : Int) (hi : Int) : Option (Bool) :=
  some (cond (decide (n < lo)) true (decide (n > hi)))

/-- keelblock/berth.ranged -/
def g_berth_ranged (N : Nat) (wrong : Bool) : Option (Int) :=
  (cond wrong
  (some 2)
  (some 0))

/-- keelblock/berth.CheckDocks 2 -/
def g_berth_CheckDocks_2 (N : Nat) (x : Tapi_Dock) : Option (Int) :=
  ((g_berth_outside N x.f_Length 1 1000000).bind fun routside =>
  ((cond (!routside) (g_berth_outside N x.f_Width 1 1000000) (some false)).bind fun routside2 =>
  ((cond (!(cond routside true routside2)) (g_berth_outside N x.f_Sill (-1000000) 1000000) (some false)).bind fun routside3 =>
  ((cond (!(cond (cond routside true routside2) true routside3)) (g_berth_outside N x.f_Floor (-1000000) 1000000) (some false)).bind fun routside4 =>
  ((cond (!(cond (cond (cond routside true routside2) true routside3) true routside4)) (g_berth_outside N x.f_Gap 0 1000000) (some false)).bind fun routside5 =>
  ((g_berth_ranged N (cond (cond (cond (cond routside true routside2) true routside3) true routside4) true routside5)).bind fun rranged =>
  some rranged))))))

def g_berth_check_Dock_L1 (N : Nat) (l : List Tapi_Dock) : Nat → Int → Option (Int)
  | 0, _ => none
  | fuel + 1, x =>
    (cond (decide (x < ((l.length : Nat) : Int)))
    ((if 0 ≤ x ∧ x < ((l.length : Nat) : Int) then
    ((g_berth_CheckDocks_1 N (l.getD ((x).toNat) Tapi_Dock.d)).bind fun rCheckDocks1 =>
    ((g_berth_named N rCheckDocks1).bind fun rnamed =>
    (cond (!rnamed)
    (some 4)
    ((if 0 ≤ (x).toNat ∧ (x).toNat ≤ l.length then
    (if 0 ≤ x then
    ((g_slices_ContainsFunc_api_Dock_api_Dock N ((l.take ((x).toNat)).drop 0) (l.getD ((x).toNat) Tapi_Dock.d)).bind fun rDock =>
    (cond rDock
    (some 5)
    (((g_berth_CheckDocks_2 N (l.getD ((x).toNat) Tapi_Dock.d)).bind fun rCheckDocks2 =>
    (cond (rCheckDocks2 != 0)
    (some rCheckDocks2)
    (g_berth_check_Dock_L1 N l fuel (w64 (x + 1))))))))
    else none)
    else none)))))
    else none))
    (some 0))

/-- keelblock/berth.check keelblock/api.Dock  -/
def g_berth_check_Dock (N : Nat) (l : List Tapi_Dock) (most : Int) : Option (Int) :=
  (cond (decide (((l.length : Nat) : Int) > most))
  (some 8)
  (g_berth_check_Dock_L1 N l N 0))

/-- keelblock/berth.CheckDocks -/
def g_berth_CheckDocks (N : Nat) (d : List Tapi_Dock) : Option (Int) :=
  ((g_berth_check_Dock N d 4).bind fun rDock =>
  some rDock)

/-- keelblock/berth.CheckCalls 1 -/
def g_berth_CheckCalls_1 (N : Nat) (x : Tapi_Call) : Option (ByteArray) :=
  some x.f_Name

/-- keelblock/berth.check keelblock/api.Call  1 -/
def g_berth_check_Call_1 (N : Nat) (y : Tapi_Call) (cap1 : Tapi_Call) : Option (Bool) :=
  ((g_berth_CheckCalls_1 N y).bind fun rCheckCalls1 =>
  ((g_berth_CheckCalls_1 N cap1).bind fun rCheckCalls12 =>
  some (streq rCheckCalls1 rCheckCalls12)))

def g_slices_IndexFunc_api_Call_api_Call_L1 (N : Nat) (s : List Tapi_Call) (cap1 : Tapi_Call) : Nat → Int → Option (Int)
  | 0, _ => none
  | fuel + 1, x =>
    (cond (decide (x < ((s.length : Nat) : Int)))
    ((if 0 ≤ x ∧ x < ((s.length : Nat) : Int) then
    ((g_berth_check_Call_1 N (s.getD ((x).toNat) Tapi_Call.d) cap1).bind fun rCall1 =>
    (cond rCall1
    (some x)
    (g_slices_IndexFunc_api_Call_api_Call_L1 N s cap1 fuel (w64 (x + 1)))))
    else none))
    (some (-1)))

/-- slices.IndexFunc   keelblock/api.Call,keelblock/api.Call  -/
def g_slices_IndexFunc_api_Call_api_Call (N : Nat) (s : List Tapi_Call) (cap1 : Tapi_Call) : Option (Int) :=
  g_slices_IndexFunc_api_Call_api_Call_L1 N s cap1 N 0

/-- slices.ContainsFunc   keelblock/api.Call,keelblock/api.Call  -/
def g_slices_ContainsFunc_api_Call_api_Call (N : Nat) (s : List Tapi_Call) (cap1 : Tapi_Call) : Option (Bool) :=
  ((g_slices_IndexFunc_api_Call_api_Call N s cap1).bind fun rCall =>
  some (decide (rCall ≥ 0)))

/-- keelblock/berth.CheckCalls 2 -/
def g_berth_CheckCalls_2 (N : Nat) (x : Tapi_Call) : Option (Int) :=
  ((g_berth_outside N x.f_Length 1 1000000).bind fun routside =>
  ((cond (!routside) (g_berth_outside N x.f_Beam 1 1000000) (some false)).bind fun routside2 =>
  ((cond (!(cond routside true routside2)) (g_berth_outside N x.f_Draught 0 1000000) (some false)).bind fun routside3 =>
  ((cond (!(cond (cond routside true routside2) true routside3)) (g_berth_outside N x.f_Under 0 1000000) (some false)).bind fun routside4 =>
  (cond (cond (cond (cond routside true routside2) true routside3) true routside4)
  (some 2)
  (((g_berth_outside N x.f_Arrive 0 400).bind fun routside5 =>
  ((cond (!routside5) (g_berth_outside N x.f_Due 0 400) (some false)).bind fun routside6 =>
  ((cond (!(cond routside5 true routside6)) (g_berth_outside N x.f_Work 1 1000) (some false)).bind fun routside7 =>
  ((cond (!(cond (cond routside5 true routside6) true routside7)) (g_berth_outside N x.f_Late 0 1000000000) (some false)).bind fun routside8 =>
  ((g_berth_ranged N (cond (cond (cond routside5 true routside6) true routside7) true routside8)).bind fun rranged =>
  some rranged)))))))))))

def g_berth_check_Call_L1 (N : Nat) (l : List Tapi_Call) : Nat → Int → Option (Int)
  | 0, _ => none
  | fuel + 1, x =>
    (cond (decide (x < ((l.length : Nat) : Int)))
    ((if 0 ≤ x ∧ x < ((l.length : Nat) : Int) then
    ((g_berth_CheckCalls_1 N (l.getD ((x).toNat) Tapi_Call.d)).bind fun rCheckCalls1 =>
    ((g_berth_named N rCheckCalls1).bind fun rnamed =>
    (cond (!rnamed)
    (some 4)
    ((if 0 ≤ (x).toNat ∧ (x).toNat ≤ l.length then
    (if 0 ≤ x then
    ((g_slices_ContainsFunc_api_Call_api_Call N ((l.take ((x).toNat)).drop 0) (l.getD ((x).toNat) Tapi_Call.d)).bind fun rCall =>
    (cond rCall
    (some 5)
    (((g_berth_CheckCalls_2 N (l.getD ((x).toNat) Tapi_Call.d)).bind fun rCheckCalls2 =>
    (cond (rCheckCalls2 != 0)
    (some rCheckCalls2)
    (g_berth_check_Call_L1 N l fuel (w64 (x + 1))))))))
    else none)
    else none)))))
    else none))
    (some 0))

/-- keelblock/berth.check keelblock/api.Call  -/
def g_berth_check_Call (N : Nat) (l : List Tapi_Call) (most : Int) : Option (Int) :=
  (cond (decide (((l.length : Nat) : Int) > most))
  (some 8)
  (g_berth_check_Call_L1 N l N 0))

/-- keelblock/berth.CheckCalls -/
def g_berth_CheckCalls (N : Nat) (c : List Tapi_Call) : Option (Int) :=
  ((g_berth_check_Call N c 8).bind fun rCall =>
  some rCall)

/-- keelblock/berth.both -/
def g_berth_both (N : Nat) (d : Tapi_Dock) (c : List Tapi_Call) : Option (Int) :=
  ((g_berth_CheckDocks N ([d] : List Tapi_Dock)).bind fun rCheckDocks =>
  (cond (rCheckDocks != 0)
  (some rCheckDocks)
  (((g_berth_CheckCalls N c).bind fun rCheckCalls =>
  some rCheckCalls))))

/-- keelblock/berth.fits -/
def g_berth_fits (N : Nat) (d : Tapi_Dock) (c : Tapi_Call) : Option (Bool) :=
  some (cond (decide ((w64 (c.f_Length + (w64 (2 * d.f_Gap)))) ≤ d.f_Length)) (decide ((w64 (c.f_Beam + (w64 (2 * d.f_Gap)))) ≤ d.f_Width)) false)

/-- keelblock/berth.Fits -/
def g_berth_Fits (N : Nat) (d : Tapi_Dock) (c : Tapi_Call) : Option (Bool × Int) :=
  ((g_berth_both N d ([c] : List Tapi_Call)).bind fun rboth =>
  (cond (rboth != 0)
  (some (false, rboth))
  (((g_berth_fits N d c).bind fun rfits =>
  some (rfits, 0)))))

/-- keelblock/keelblocklaw06.awake -/
def g_keelblocklaw06_awake (N : Nat) : Option (Bool) :=
  ((g_berth_Fits N (⟨(⟨#[100]⟩ : ByteArray), 200, 40, 0, 0, 2⟩ : Tapi_Dock) (⟨(⟨#[97]⟩ : ByteArray), 100, 30, 0, 0, 0, 1, 0, 0⟩ : Tapi_Call)).bind fun rFits =>
  ((g_berth_Fits N (⟨(⟨#[100]⟩ : ByteArray), 200, 40, 0, 0, 2⟩ : Tapi_Dock) (⟨(⟨#[98]⟩ : ByteArray), 197, 30, 0, 0, 0, 1, 0, 0⟩ : Tapi_Call)).bind fun rFits2 =>
  some (cond (cond (cond (rFits.2 == 0) rFits.1 false) (rFits2.2 == 0) false) (!rFits2.1) false)))

def g_keelblocklaw06_Names_L2 (N : Nat) (c : List Tapi_Call) : Nat → Int → Option (Bool)
  | 0, _ => none
  | fuel + 1, i2 =>
    (cond (decide (i2 < ((c.length : Nat) : Int)))
    ((if 0 ≤ i2 ∧ i2 < ((c.length : Nat) : Int) then
    (cond (decide (((((c.getD ((i2).toNat) Tapi_Call.d).f_Name).size : Nat) : Int) > 40))
    (some false)
    (g_keelblocklaw06_Names_L2 N c fuel (w64 (i2 + 1))))
    else none))
    (some true))

def g_keelblocklaw06_Names_L1 (N : Nat) (d : List Tapi_Dock) (c : List Tapi_Call) : Nat → Int → Option (Bool)
  | 0, _ => none
  | fuel + 1, i =>
    (cond (decide (i < ((d.length : Nat) : Int)))
    ((if 0 ≤ i ∧ i < ((d.length : Nat) : Int) then
    (cond (decide (((((d.getD ((i).toNat) Tapi_Dock.d).f_Name).size : Nat) : Int) > 40))
    (some false)
    (g_keelblocklaw06_Names_L1 N d c fuel (w64 (i + 1))))
    else none))
    (g_keelblocklaw06_Names_L2 N c N 0))

/-- keelblock/keelblocklaw06.Names -/
def g_keelblocklaw06_Names (N : Nat) (d : List Tapi_Dock) (c : List Tapi_Call) : Option (Bool) :=
  (cond (cond (decide (((d.length : Nat) : Int) > 6)) true (decide (((c.length : Nat) : Int) > 10)))
  (some false)
  (g_keelblocklaw06_Names_L1 N d c N 0))

def g_keelblockbase_IsName_L1 (N : Nat) (s : ByteArray) : Nat → Int → Option (Bool)
  | 0, _ => none
  | fuel + 1, i =>
    (cond (decide (i < ((s.size : Nat) : Int)))
    ((if 0 ≤ i ∧ i < ((s.size : Nat) : Int) then
    (cond (cond (!(cond (cond (decide ((byteAt s ((i).toNat)) ≥ 97)) (decide ((byteAt s ((i).toNat)) ≤ 122)) false) true (cond (decide ((byteAt s ((i).toNat)) ≥ 65)) (decide ((byteAt s ((i).toNat)) ≤ 90)) false))) (cond (i == 0) true (cond ((byteAt s ((i).toNat)) != 45) (cond (decide ((byteAt s ((i).toNat)) < 48)) true (decide ((byteAt s ((i).toNat)) > 57))) false)) false)
    (some false)
    (g_keelblockbase_IsName_L1 N s fuel (w64 (i + 1))))
    else none))
    (some true))

/-- keelblock/keelblockbase.IsName -/
def g_keelblockbase_IsName (N : Nat) (s : ByteArray) : Option (Bool) :=
  (cond (cond (decide (((s.size : Nat) : Int) < 1)) true (decide (((s.size : Nat) : Int) > 12)))
  (some false)
  (g_keelblockbase_IsName_L1 N s N 0))

def g_keelblockref06_DockOf_L1 (N : Nat) (d : List Tapi_Dock) (name : ByteArray) : Nat → Int → Option (Int)
  | 0, _ => none
  | fuel + 1, i =>
    (cond (decide (i < ((d.length : Nat) : Int)))
    ((if 0 ≤ i ∧ i < ((d.length : Nat) : Int) then
    (cond (streq ((d.getD ((i).toNat) Tapi_Dock.d).f_Name) name)
    (some i)
    (g_keelblockref06_DockOf_L1 N d name fuel (w64 (i + 1))))
    else none))
    (some (-1)))

/-- keelblock/keelblockref06.DockOf -/
def g_keelblockref06_DockOf (N : Nat) (d : List Tapi_Dock) (name : ByteArray) : Option (Int) :=
  g_keelblockref06_DockOf_L1 N d name N 0

/-- keelblock/keelblockref06.inside -/
def g_keelblockref06_inside (N : Nat) (n : Int) (low : Int) (high : Int) : Option (Bool) :=
  some (cond (decide (n ≥ low)) (decide (n ≤ high)) false)

def g_keelblockref06_CheckDocks_L1 (N : Nat) (d : List Tapi_Dock) : Nat → Int → Option (Int)
  | 0, _ => none
  | fuel + 1, i =>
    (cond (decide (i < ((d.length : Nat) : Int)))
    ((if 0 ≤ i ∧ i < ((d.length : Nat) : Int) then
    ((g_keelblockbase_IsName N ((d.getD ((i).toNat) Tapi_Dock.d).f_Name)).bind fun rIsName =>
    (cond (!rIsName)
    (some 4)
    (((g_keelblockref06_DockOf N d ((d.getD ((i).toNat) Tapi_Dock.d).f_Name)).bind fun rDockOf =>
    (cond (rDockOf != i)
    (some 5)
    (((g_keelblockref06_inside N ((d.getD ((i).toNat) Tapi_Dock.d).f_Length) 1 1000000).bind fun rinside =>
    (if ((!(!rinside)) = true → 0 ≤ i ∧ i < ((d.length : Nat) : Int)) then
    ((cond (!(!rinside)) (g_keelblockref06_inside N ((d.getD ((i).toNat) Tapi_Dock.d).f_Width) 1 1000000) (some false)).bind fun rinside2 =>
    (if ((!(cond (!rinside) true (!rinside2))) = true → 0 ≤ i ∧ i < ((d.length : Nat) : Int)) then
    ((cond (!(cond (!rinside) true (!rinside2))) (g_keelblockref06_inside N ((d.getD ((i).toNat) Tapi_Dock.d).f_Sill) (-1000000) 1000000) (some false)).bind fun rinside3 =>
    (if ((!(cond (cond (!rinside) true (!rinside2)) true (!rinside3))) = true → 0 ≤ i ∧ i < ((d.length : Nat) : Int)) then
    ((cond (!(cond (cond (!rinside) true (!rinside2)) true (!rinside3))) (g_keelblockref06_inside N ((d.getD ((i).toNat) Tapi_Dock.d).f_Floor) (-1000000) 1000000) (some false)).bind fun rinside4 =>
    (if ((!(cond (cond (cond (!rinside) true (!rinside2)) true (!rinside3)) true (!rinside4))) = true → 0 ≤ i ∧ i < ((d.length : Nat) : Int)) then
    ((cond (!(cond (cond (cond (!rinside) true (!rinside2)) true (!rinside3)) true (!rinside4))) (g_keelblockref06_inside N ((d.getD ((i).toNat) Tapi_Dock.d).f_Gap) 0 1000000) (some false)).bind fun rinside5 =>
    (cond (cond (cond (cond (cond (!rinside) true (!rinside2)) true (!rinside3)) true (!rinside4)) true (!rinside5))
    (some 2)
    (g_keelblockref06_CheckDocks_L1 N d fuel (w64 (i + 1)))))
    else none))
    else none))
    else none))
    else none))))))))
    else none))
    (some 0))

/-- keelblock/keelblockref06.CheckDocks -/
def g_keelblockref06_CheckDocks (N : Nat) (d : List Tapi_Dock) : Option (Int) :=
  (cond (decide (((d.length : Nat) : Int) > 4))
  (some 8)
  (g_keelblockref06_CheckDocks_L1 N d N 0))

def g_keelblockref06_CallOf_L1 (N : Nat) (c : List Tapi_Call) (name : ByteArray) : Nat → Int → Option (Int)
  | 0, _ => none
  | fuel + 1, i =>
    (cond (decide (i < ((c.length : Nat) : Int)))
    ((if 0 ≤ i ∧ i < ((c.length : Nat) : Int) then
    (cond (streq ((c.getD ((i).toNat) Tapi_Call.d).f_Name) name)
    (some i)
    (g_keelblockref06_CallOf_L1 N c name fuel (w64 (i + 1))))
    else none))
    (some (-1)))

/-- keelblock/keelblockref06.CallOf -/
def g_keelblockref06_CallOf (N : Nat) (c : List Tapi_Call) (name : ByteArray) : Option (Int) :=
  g_keelblockref06_CallOf_L1 N c name N 0

def g_keelblockref06_CheckCalls_L1 (N : Nat) (c : List Tapi_Call) : Nat → Int → Option (Int)
  | 0, _ => none
  | fuel + 1, i =>
    (cond (decide (i < ((c.length : Nat) : Int)))
    ((if 0 ≤ i ∧ i < ((c.length : Nat) : Int) then
    ((g_keelblockbase_IsName N ((c.getD ((i).toNat) Tapi_Call.d).f_Name)).bind fun rIsName =>
    (cond (!rIsName)
    (some 4)
    (((g_keelblockref06_CallOf N c ((c.getD ((i).toNat) Tapi_Call.d).f_Name)).bind fun rCallOf =>
    (cond (rCallOf != i)
    (some 5)
    (((g_keelblockref06_inside N ((c.getD ((i).toNat) Tapi_Call.d).f_Length) 1 1000000).bind fun rinside =>
    ((cond (!(!rinside)) (g_keelblockref06_inside N ((c.getD ((i).toNat) Tapi_Call.d).f_Beam) 1 1000000) (some false)).bind fun rinside2 =>
    ((cond (!(cond (!rinside) true (!rinside2))) (g_keelblockref06_inside N ((c.getD ((i).toNat) Tapi_Call.d).f_Draught) 0 1000000) (some false)).bind fun rinside3 =>
    ((cond (!(cond (cond (!rinside) true (!rinside2)) true (!rinside3))) (g_keelblockref06_inside N ((c.getD ((i).toNat) Tapi_Call.d).f_Under) 0 1000000) (some false)).bind fun rinside4 =>
    (cond (cond (cond (cond (!rinside) true (!rinside2)) true (!rinside3)) true (!rinside4))
    (some 2)
    (((g_keelblockref06_inside N ((c.getD ((i).toNat) Tapi_Call.d).f_Arrive) 0 400).bind fun rinside5 =>
    ((cond (!(!rinside5)) (g_keelblockref06_inside N ((c.getD ((i).toNat) Tapi_Call.d).f_Due) 0 400) (some false)).bind fun rinside6 =>
    ((cond (!(cond (!rinside5) true (!rinside6))) (g_keelblockref06_inside N ((c.getD ((i).toNat) Tapi_Call.d).f_Work) 1 1000) (some false)).bind fun rinside7 =>
    ((cond (!(cond (cond (!rinside5) true (!rinside6)) true (!rinside7))) (g_keelblockref06_inside N ((c.getD ((i).toNat) Tapi_Call.d).f_Late) 0 1000000000) (some false)).bind fun rinside8 =>
    (cond (cond (cond (cond (!rinside5) true (!rinside6)) true (!rinside7)) true (!rinside8))
    (some 2)
    (g_keelblockref06_CheckCalls_L1 N c fuel (w64 (i + 1))))))))))))))))))))
    else none))
    (some 0))

/-- keelblock/keelblockref06.CheckCalls -/
def g_keelblockref06_CheckCalls (N : Nat) (c : List Tapi_Call) : Option (Int) :=
  (cond (decide (((c.length : Nat) : Int) > 8))
  (some 8)
  (g_keelblockref06_CheckCalls_L1 N c N 0))

/-- keelblock/keelblockref06.CheckBoth -/
def g_keelblockref06_CheckBoth (N : Nat) (d : Tapi_Dock) (c : List Tapi_Call) : Option (Int) :=
  ((g_keelblockref06_CheckDocks N ([d] : List Tapi_Dock)).bind fun rCheckDocks =>
  (cond (rCheckDocks != 0)
  (some rCheckDocks)
  (((g_keelblockref06_CheckCalls N c).bind fun rCheckCalls =>
  some rCheckCalls))))

/-- keelblock/keelblockref06.Fits -/
def g_keelblockref06_Fits (N : Nat) (d : Tapi_Dock) (c : Tapi_Call) : Option (Bool) :=
  some (cond (decide ((w64 (c.f_Length + (w64 (2 * d.f_Gap)))) ≤ d.f_Length)) (decide ((w64 (c.f_Beam + (w64 (2 * d.f_Gap)))) ≤ d.f_Width)) false)

/-- keelblock/keelblocklaw06.BerthDocks -/
def g_keelblocklaw06_BerthDocks (N : Nat) (d : List Tapi_Dock) (c : List Tapi_Call) : Option (Bool) :=
  ((g_keelblocklaw06_awake N).bind fun rawake =>
  (cond (!rawake)
  (some false)
  (((g_keelblocklaw06_Names N d c).bind fun rNames =>
  (cond (!rNames)
  (some true)
  (((g_berth_CheckDocks N d).bind fun rCheckDocks =>
  ((g_keelblockref06_CheckDocks N d).bind fun rCheckDocks2 =>
  ((cond (!(rCheckDocks != rCheckDocks2)) (g_berth_CheckCalls N c) (some 0)).bind fun rCheckCalls =>
  ((cond (!(rCheckDocks != rCheckDocks2)) (g_keelblockref06_CheckCalls N c) (some 0)).bind fun rCheckCalls2 =>
  (cond (cond (rCheckDocks != rCheckDocks2) true (rCheckCalls != rCheckCalls2))
  (some false)
  ((cond (cond (((d.length : Nat) : Int) == 0) true (((c.length : Nat) : Int) == 0))
  (some true)
  ((if 0 ≤ (0 : Int) ∧ 0 < ((d.length : Nat) : Int) then
  (if 0 ≤ (0 : Int) ∧ 0 < ((c.length : Nat) : Int) then
  ((g_berth_Fits N (d.getD 0 Tapi_Dock.d) (c.getD 0 Tapi_Call.d)).bind fun rFits =>
  (if 0 ≤ 1 ∧ 1 ≤ c.length then
  ((g_keelblockref06_CheckBoth N (d.getD 0 Tapi_Dock.d) ((c.take 1).drop 0)).bind fun rCheckBoth =>
  (cond (rCheckBoth != 0)
  (some (cond (rFits.2 == rCheckBoth) (!rFits.1) false))
  ((if ((rFits.2 == 0) = true → 0 ≤ (0 : Int) ∧ 0 < ((d.length : Nat) : Int)) then
  (if ((rFits.2 == 0) = true → 0 ≤ (0 : Int) ∧ 0 < ((c.length : Nat) : Int)) then
  ((cond (rFits.2 == 0) (g_keelblockref06_Fits N (d.getD 0 Tapi_Dock.d) (c.getD 0 Tapi_Call.d)) (some false)).bind fun rFits2 =>
  some (cond (rFits.2 == 0) (rFits.1 == rFits2) false))
  else none)
  else none))))
  else none))
  else none)
  else none)))))))))))))))

end Go.Den
