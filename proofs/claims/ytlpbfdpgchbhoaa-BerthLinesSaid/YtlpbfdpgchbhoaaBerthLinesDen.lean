/- The functions of the program as Lean functions, each in the Option monad; N bounds the rounds of loops. No conditions. -/
import Derived.Test.YtlpbfdpgchbhoaaCb

set_option linter.unusedVariables false
namespace Go.Den
open Go.Ab

/-- api.Line -/
structure Tapi_Line where
  f_Name : ByteArray
  f_X : Int
  f_Y : Int
  f_ToX : Int
  f_ToY : Int
  f_Most : Int
def Tapi_Line.d : Tapi_Line := ⟨ByteArray.empty, 0, 0, 0, 0, 0⟩
def Tapi_Line.wf (x : Tapi_Line) : Prop := wS x.f_Name ∧ wI x.f_X ∧ wI x.f_Y ∧ wI x.f_ToX ∧ wI x.f_ToY ∧ wI x.f_Most
def Tapi_Line.cells (x : Tapi_Line) : List AV := [(aS x.f_Name), (aI x.f_X), (aI x.f_Y), (aI x.f_ToX), (aI x.f_ToY), (aI x.f_Most)]

/-- keelblock/berth.CheckLines 1 -/
def g_berth_CheckLines_1 (N : Nat) (x : Tapi_Line) : Option (ByteArray) :=
  some x.f_Name

def g_berth_named_L1 (N : Nat) (s : ByteArray) : Nat → Int → Option (Bool)
  | 0, _ => none
  | fuel + 1, x =>
    (cond (decide (x < ((s.size : Nat) : Int)))
    ((if 0 ≤ x ∧ x < ((s.size : Nat) : Int) then
    (cond (cond (!(cond (cond (decide ((byteAt s ((x).toNat)) ≥ 97)) (decide ((byteAt s ((x).toNat)) ≤ 122)) false) true (cond (decide ((byteAt s ((x).toNat)) ≥ 65)) (decide ((byteAt s ((x).toNat)) ≤ 90)) false))) (cond (x == 0) true (!(cond (cond (decide ((byteAt s ((x).toNat)) ≥ 48)) (decide ((byteAt s ((x).toNat)) ≤ 57)) false) true ((byteAt s ((x).toNat)) == 45)))) false)
    (some false)
    (g_berth_named_L1 N s fuel (w64 (x + 1))))
    else none))
    (some true))

/-- keelblock/berth.named -/
def g_berth_named (N : Nat) (s : ByteArray) : Option (Bool) :=
  (cond (cond (streq s ByteArray.empty) true (decide (((s.size : Nat) : Int) > 12)))
  (some false)
  (g_berth_named_L1 N s N 0))

/-- keelblock/berth.check keelblock/api.Line  1 -/
def g_berth_check_Line_1 (N : Nat) (y : Tapi_Line) (cap1 : Tapi_Line) : Option (Bool) :=
  ((g_berth_CheckLines_1 N y).bind fun rCheckLines1 =>
  ((g_berth_CheckLines_1 N cap1).bind fun rCheckLines12 =>
  some (streq rCheckLines1 rCheckLines12)))

def g_slices_IndexFunc_api_Line_api_Line_L1 (N : Nat) (s : List Tapi_Line) (cap1 : Tapi_Line) : Nat → Int → Option (Int)
  | 0, _ => none
  | fuel + 1, x =>
    (cond (decide (x < ((s.length : Nat) : Int)))
    ((if 0 ≤ x ∧ x < ((s.length : Nat) : Int) then
    ((g_berth_check_Line_1 N (s.getD ((x).toNat) Tapi_Line.d) cap1).bind fun rLine1 =>
    (cond rLine1
    (some x)
    (g_slices_IndexFunc_api_Line_api_Line_L1 N s cap1 fuel (w64 (x + 1)))))
    else none))
    (some (-1)))

/-- slices.IndexFunc   keelblock/api.Line,keelblock/api.Line  -/
def g_slices_IndexFunc_api_Line_api_Line (N : Nat) (s : List Tapi_Line) (cap1 : Tapi_Line) : Option (Int) :=
  g_slices_IndexFunc_api_Line_api_Line_L1 N s cap1 N 0

/-- slices.ContainsFunc   keelblock/api.Line,keelblock/api.Line  -/
def g_slices_ContainsFunc_api_Line_api_Line (N : Nat) (s : List Tapi_Line) (cap1 : Tapi_Line) : Option (Bool) :=
  ((g_slices_IndexFunc_api_Line_api_Line N s cap1).bind fun rLine =>
  some (decide (rLine ≥ 0)))

/-- keelblock/berth.outside -/
def g_berth_outside (N : Nat) (n : Int) (lo : Int) (hi : Int) : Option (Bool) :=
  some (cond (decide (n < lo)) true (decide (n > hi)))

/-- keelblock/berth.checkLine -/
def g_berth_checkLine (N : Nat) (x : Tapi_Line) : Option (Int) :=
  ((g_berth_outside N x.f_X (-1000000) 1000000).bind fun routside =>
  ((cond (!routside) (g_berth_outside N x.f_Y (-1000000) 1000000) (some false)).bind fun routside2 =>
  ((cond (!(cond routside true routside2)) (g_berth_outside N x.f_ToX (-1000000) 1000000) (some false)).bind fun routside3 =>
  ((cond (!(cond (cond routside true routside2) true routside3)) (g_berth_outside N x.f_ToY (-1000000) 1000000) (some false)).bind fun routside4 =>
  ((cond (!(cond (cond (cond routside true routside2) true routside3) true routside4)) (g_berth_outside N x.f_Most 1 1000000000) (some false)).bind fun routside5 =>
  (cond (cond (cond (cond (cond routside true routside2) true routside3) true routside4) true routside5)
  (some 2)
  ((cond (cond (x.f_X == x.f_ToX) (x.f_Y == x.f_ToY) false)
  (some 9)
  (some 0)))))))))

def g_berth_check_Line_L1 (N : Nat) (l : List Tapi_Line) : Nat → Int → Option (Int)
  | 0, _ => none
  | fuel + 1, x =>
    (cond (decide (x < ((l.length : Nat) : Int)))
    ((if 0 ≤ x ∧ x < ((l.length : Nat) : Int) then
    ((g_berth_CheckLines_1 N (l.getD ((x).toNat) Tapi_Line.d)).bind fun rCheckLines1 =>
    ((g_berth_named N rCheckLines1).bind fun rnamed =>
    (cond (!rnamed)
    (some 4)
    ((if 0 ≤ (x).toNat ∧ (x).toNat ≤ l.length then
    (if 0 ≤ x then
    ((g_slices_ContainsFunc_api_Line_api_Line N ((l.take ((x).toNat)).drop 0) (l.getD ((x).toNat) Tapi_Line.d)).bind fun rLine =>
    (cond rLine
    (some 5)
    (((g_berth_checkLine N (l.getD ((x).toNat) Tapi_Line.d)).bind fun rcheckLine =>
    (cond (rcheckLine != 0)
    (some rcheckLine)
    (g_berth_check_Line_L1 N l fuel (w64 (x + 1))))))))
    else none)
    else none)))))
    else none))
    (some 0))

/-- keelblock/berth.check keelblock/api.Line  -/
def g_berth_check_Line (N : Nat) (l : List Tapi_Line) (most : Int) : Option (Int) :=
  (cond (decide (((l.length : Nat) : Int) > most))
  (some 8)
  (g_berth_check_Line_L1 N l N 0))

/-- keelblock/berth.CheckLines -/
def g_berth_CheckLines (N : Nat) (l : List Tapi_Line) : Option (Int) :=
  ((g_berth_check_Line N l 12).bind fun rLine =>
  some rLine)

def g_berth_span_J2 (N : Nat) (l : Tapi_Line) (x : Int) (K_g_berth_span_L1 : Int → Int → Option (Int)) (root2 : Int) : Option (Int) :=
  K_g_berth_span_L1 root2 (w64 (x + 1))

def g_berth_span_L1 (N : Nat) (l : Tapi_Line) : Nat → Int → Int → Option (Int)
  | 0, _, _ => none
  | fuel + 1, root, x =>
    (cond (decide (x < 23))
    ((if (0 : Int) ≤ (w64 (22 - x)) then
    (cond (decide ((w64 ((orI .i64 root (shlI .i64 1 (w64 (22 - x)))) * (orI .i64 root (shlI .i64 1 (w64 (22 - x)))))) < (w64 ((w64 ((w64 (l.f_ToX - l.f_X)) * (w64 (l.f_ToX - l.f_X)))) + (w64 ((w64 (l.f_ToY - l.f_Y)) * (w64 (l.f_ToY - l.f_Y))))))))
    (g_berth_span_J2 N l x (g_berth_span_L1 N l fuel) (orI .i64 root (shlI .i64 1 (w64 (22 - x)))))
    (g_berth_span_J2 N l x (g_berth_span_L1 N l fuel) root))
    else none))
    (some (w64 (root + 1))))

/-- keelblock/berth.span -/
def g_berth_span (N : Nat) (l : Tapi_Line) : Option (Int) :=
  g_berth_span_L1 N l N 0 0

/-- keelblock/berth.Span -/
def g_berth_Span (N : Nat) (l : Tapi_Line) : Option (Int × Int) :=
  ((g_berth_CheckLines N ([l] : List Tapi_Line)).bind fun rCheckLines =>
  (cond (rCheckLines != 0)
  (some (0, rCheckLines))
  (((g_berth_span N l).bind fun rspan =>
  some (rspan, 0)))))

/-- keelblock/keelblocklaw06.spans -/
def g_keelblocklaw06_spans (N : Nat) : Option (Bool) :=
  ((g_berth_Span N (⟨(⟨#[108]⟩ : ByteArray), 0, 0, 3000, 4000, 1000⟩ : Tapi_Line)).bind fun rSpan =>
  some (cond (rSpan.2 == 0) (rSpan.1 == 5000) false))

def g_keelblocklaw06_slack_L1 (N : Nat) (l : List Tapi_Line) : Nat → Int → Option (Bool)
  | 0, _ => none
  | fuel + 1, i =>
    (cond (decide (i < ((l.length : Nat) : Int)))
    ((if 0 ≤ i ∧ i < ((l.length : Nat) : Int) then
    (cond (decide (((((l.getD ((i).toNat) Tapi_Line.d).f_Name).size : Nat) : Int) > 40))
    (some false)
    (g_keelblocklaw06_slack_L1 N l fuel (w64 (i + 1))))
    else none))
    (some (decide (((l.length : Nat) : Int) ≤ 14))))

/-- keelblock/keelblocklaw06.slack -/
def g_keelblocklaw06_slack (N : Nat) (l : List Tapi_Line) : Option (Bool) :=
  g_keelblocklaw06_slack_L1 N l N 0

def g_keelblockbase_IsName_L1 (N : Nat) (s : ByteArray) : Nat → Int → Option (Bool)
  | 0, _ => none
  | fuel + 1, i =>
    (cond (decide (i < ((s.size : Nat) : Int)))
    ((if 0 ≤ i ∧ i < ((s.size : Nat) : Int) then
    (cond (cond (!(cond (cond (decide ((byteAt s ((i).toNat)) ≥ 97)) (decide ((byteAt s ((i).toNat)) ≤ 122)) false) true (cond (decide ((byteAt s ((i).toNat)) ≥ 65)) (decide ((byteAt s ((i).toNat)) ≤ 90)) false))) (cond (i == 0) true (cond ((byteAt s ((i).toNat)) != 45) (cond (decide ((byteAt s ((i).toNat)) < 48)) true (decide ((byteAt s ((i).toNat)) > 57))) false)) false)
    (some false)
    (g_keelblockbase_IsName_L1 N s fuel (w64 (i + 1))))
    else none))
    (some true))

/-- keelblock/keelblockbase.IsName -/
def g_keelblockbase_IsName (N : Nat) (s : ByteArray) : Option (Bool) :=
  (cond (cond (decide (((s.size : Nat) : Int) < 1)) true (decide (((s.size : Nat) : Int) > 12)))
  (some false)
  (g_keelblockbase_IsName_L1 N s N 0))

/-- keelblock/keelblockref06.inside -/
def g_keelblockref06_inside (N : Nat) (n : Int) (low : Int) (high : Int) : Option (Bool) :=
  some (cond (decide (n ≥ low)) (decide (n ≤ high)) false)

/-- keelblock/keelblockref06.checkLine -/
def g_keelblockref06_checkLine (N : Nat) (l : Tapi_Line) : Option (Int) :=
  ((g_keelblockref06_inside N l.f_X (-1000000) 1000000).bind fun rinside =>
  ((cond (!(!rinside)) (g_keelblockref06_inside N l.f_Y (-1000000) 1000000) (some false)).bind fun rinside2 =>
  ((cond (!(cond (!rinside) true (!rinside2))) (g_keelblockref06_inside N l.f_ToX (-1000000) 1000000) (some false)).bind fun rinside3 =>
  ((cond (!(cond (cond (!rinside) true (!rinside2)) true (!rinside3))) (g_keelblockref06_inside N l.f_ToY (-1000000) 1000000) (some false)).bind fun rinside4 =>
  ((cond (!(cond (cond (cond (!rinside) true (!rinside2)) true (!rinside3)) true (!rinside4))) (g_keelblockref06_inside N l.f_Most 1 1000000000) (some false)).bind fun rinside5 =>
  (cond (cond (cond (cond (cond (!rinside) true (!rinside2)) true (!rinside3)) true (!rinside4)) true (!rinside5))
  (some 2)
  ((cond (cond (l.f_X == l.f_ToX) (l.f_Y == l.f_ToY) false)
  (some 9)
  (some 0)))))))))

def g_keelblockref06_CheckLines_L2 (N : Nat) (l : List Tapi_Line) (i : Int) (K_g_keelblockref06_CheckLines_L1 : Int → Option (Int)) : Nat → Int → Option (Int)
  | 0, _ => none
  | fuel + 1, k =>
    (cond (decide (k < i))
    ((if 0 ≤ k ∧ k < ((l.length : Nat) : Int) then
    (if 0 ≤ i ∧ i < ((l.length : Nat) : Int) then
    (cond (streq ((l.getD ((k).toNat) Tapi_Line.d).f_Name) ((l.getD ((i).toNat) Tapi_Line.d).f_Name))
    (some 5)
    (g_keelblockref06_CheckLines_L2 N l i K_g_keelblockref06_CheckLines_L1 fuel (w64 (k + 1))))
    else none)
    else none))
    ((if 0 ≤ i ∧ i < ((l.length : Nat) : Int) then
    ((g_keelblockref06_checkLine N (l.getD ((i).toNat) Tapi_Line.d)).bind fun rcheckLine =>
    (cond (rcheckLine != 0)
    (some rcheckLine)
    (K_g_keelblockref06_CheckLines_L1 (w64 (i + 1)))))
    else none)))

def g_keelblockref06_CheckLines_L1 (N : Nat) (l : List Tapi_Line) : Nat → Int → Option (Int)
  | 0, _ => none
  | fuel + 1, i =>
    (cond (decide (i < ((l.length : Nat) : Int)))
    ((if 0 ≤ i ∧ i < ((l.length : Nat) : Int) then
    ((g_keelblockbase_IsName N ((l.getD ((i).toNat) Tapi_Line.d).f_Name)).bind fun rIsName =>
    (cond (!rIsName)
    (some 4)
    (g_keelblockref06_CheckLines_L2 N l i (g_keelblockref06_CheckLines_L1 N l fuel) N 0)))
    else none))
    (some 0))

/-- keelblock/keelblockref06.CheckLines -/
def g_keelblockref06_CheckLines (N : Nat) (l : List Tapi_Line) : Option (Int) :=
  (cond (decide (((l.length : Nat) : Int) > 12))
  (some 8)
  (g_keelblockref06_CheckLines_L1 N l N 0))

def g_keelblocklaw06_BerthLines_J2 (N : Nat) (l : List Tapi_Line) (i : Int) (K_g_keelblocklaw06_BerthLines_L1 : Int → Option (Bool)) : Option (Bool) :=
  K_g_keelblocklaw06_BerthLines_L1 (w64 (i + 1))

def g_keelblocklaw06_BerthLines_L1 (N : Nat) (l : List Tapi_Line) : Nat → Int → Option (Bool)
  | 0, _ => none
  | fuel + 1, i =>
    (cond (decide (i < ((l.length : Nat) : Int)))
    ((if 0 ≤ i ∧ i < ((l.length : Nat) : Int) then
    ((g_berth_Span N (l.getD ((i).toNat) Tapi_Line.d)).bind fun rSpan =>
    (if (i).toNat ≤ (w64 (i + 1)).toNat ∧ (w64 (i + 1)).toNat ≤ l.length then
    (if 0 ≤ i then
    (if 0 ≤ (w64 (i + 1)) then
    ((g_keelblockref06_CheckLines N ((l.take ((w64 (i + 1)).toNat)).drop ((i).toNat))).bind fun rCheckLines3 =>
    (cond (rCheckLines3 != 0)
    ((cond (cond (rSpan.2 != rCheckLines3) true (rSpan.1 != 0))
    (some false)
    (g_keelblocklaw06_BerthLines_J2 N l i (g_keelblocklaw06_BerthLines_L1 N l fuel))))
    ((cond (cond (cond (cond (cond (rSpan.2 != 0) true (decide (rSpan.1 < 1))) true (decide (rSpan.1 > 3000000))) true (decide ((w64 (rSpan.1 * rSpan.1)) < (w64 ((w64 ((w64 ((l.getD ((i).toNat) Tapi_Line.d).f_ToX - (l.getD ((i).toNat) Tapi_Line.d).f_X)) * (w64 ((l.getD ((i).toNat) Tapi_Line.d).f_ToX - (l.getD ((i).toNat) Tapi_Line.d).f_X)))) + (w64 ((w64 ((l.getD ((i).toNat) Tapi_Line.d).f_ToY - (l.getD ((i).toNat) Tapi_Line.d).f_Y)) * (w64 ((l.getD ((i).toNat) Tapi_Line.d).f_ToY - (l.getD ((i).toNat) Tapi_Line.d).f_Y))))))))) true (decide ((w64 ((w64 (rSpan.1 - 1)) * (w64 (rSpan.1 - 1)))) ≥ (w64 ((w64 ((w64 ((l.getD ((i).toNat) Tapi_Line.d).f_ToX - (l.getD ((i).toNat) Tapi_Line.d).f_X)) * (w64 ((l.getD ((i).toNat) Tapi_Line.d).f_ToX - (l.getD ((i).toNat) Tapi_Line.d).f_X)))) + (w64 ((w64 ((l.getD ((i).toNat) Tapi_Line.d).f_ToY - (l.getD ((i).toNat) Tapi_Line.d).f_Y)) * (w64 ((l.getD ((i).toNat) Tapi_Line.d).f_ToY - (l.getD ((i).toNat) Tapi_Line.d).f_Y)))))))))
    (some false)
    (g_keelblocklaw06_BerthLines_J2 N l i (g_keelblocklaw06_BerthLines_L1 N l fuel))))))
    else none)
    else none)
    else none))
    else none))
    (some true))

/-- keelblock/keelblocklaw06.BerthLines -/
def g_keelblocklaw06_BerthLines (N : Nat) (l : List Tapi_Line) : Option (Bool) :=
  ((g_keelblocklaw06_spans N).bind fun rspans =>
  (cond (!rspans)
  (some false)
  (((g_keelblocklaw06_slack N l).bind fun rslack =>
  ((cond (!(!rslack)) (g_berth_CheckLines N l) (some 0)).bind fun rCheckLines =>
  ((cond (!(!rslack)) (g_keelblockref06_CheckLines N l) (some 0)).bind fun rCheckLines2 =>
  (cond (cond (!rslack) true (rCheckLines != rCheckLines2))
  (((g_keelblocklaw06_slack N l).bind fun rslack2 =>
  some (!rslack2)))
  (g_keelblocklaw06_BerthLines_L1 N l N 0))))))))

end Go.Den
