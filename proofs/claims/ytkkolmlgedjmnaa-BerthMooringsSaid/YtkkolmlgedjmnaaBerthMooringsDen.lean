/- The functions of the program as Lean functions, each in the Option monad; N bounds the rounds of loops. No conditions. -/
import Derived.Test.YtkkolmlgedjmnaaCc
set_option linter.unusedVariables false
set_option linter.unusedSimpArgs false
set_option linter.unusedVariables false
namespace Go.Den
open Go.Ab
structure TLine where
  f_Name:ByteArray
  f_X:Int
  f_Y:Int
  f_ToX:Int
  f_ToY:Int
  f_Most:Int
def TLine.d:TLine:=⟨ByteArray.empty,0,0,0,0,0⟩
def TLine.wf (x:TLine):Prop:=wS x.f_Name∧wI x.f_X∧wI x.f_Y∧wI x.f_ToX∧wI x.f_ToY∧wI x.f_Most
def TLine.cells (x:TLine):List AV:=[(aS x.f_Name),(aI x.f_X),(aI x.f_Y),(aI x.f_ToX),(aI x.f_ToY),(aI x.f_Most)]
structure TWind where
  f_X:Int
  f_Y:Int
  f_Turn:Int
def TWind.d:TWind:=⟨0,0,0⟩
def TWind.wf (x:TWind):Prop:=wI x.f_X∧wI x.f_Y∧wI x.f_Turn
def TWind.cells (x:TWind):List AV:=[(aI x.f_X),(aI x.f_Y),(aI x.f_Turn)]
structure TInt where
  f_Neg:Bool
  f_Limbs:List Int
def TInt.d:TInt:=⟨false,[]⟩
def TInt.wf (x:TInt):Prop:=wB x.f_Neg∧(wL (wK .u16)) x.f_Limbs
def TInt.cells (x:TInt):List AV:=[(aB x.f_Neg),(encL (cU .u16) 0 x.f_Limbs)]
structure TRat where
  f_Num:TInt
  f_Den:TInt
def TRat.d:TRat:=⟨TInt.d,TInt.d⟩
def TRat.wf (x:TRat):Prop:=TInt.wf x.f_Num∧TInt.wf x.f_Den
def TRat.cells (x:TRat):List AV:=[(aB x.f_Num.f_Neg),(encL (cU .u16) 0 x.f_Num.f_Limbs),(aB x.f_Den.f_Neg),(encL (cU .u16) 0 x.f_Den.f_Limbs)]
structure TMooring where
  f_Holds:Bool
  f_Parts:List TRat
  f_Proof:List TRat
def TMooring.d:TMooring:=⟨false,[],[]⟩
def TMooring.wf (x:TMooring):Prop:=wB x.f_Holds∧(wL TRat.wf) x.f_Parts∧(wL TRat.wf) x.f_Proof
def TMooring.cells (x:TMooring):List AV:=[(aB x.f_Holds),(encL TRat.cells TRat.d x.f_Parts),(encL TRat.cells TRat.d x.f_Proof)]
structure TS__3_api_Rat where
  e0:TRat
  e1:TRat
  e2:TRat
def TS__3_api_Rat.d:TS__3_api_Rat:=⟨TRat.d,TRat.d,TRat.d⟩
def TS__3_api_Rat.wf (x:TS__3_api_Rat):Prop:=TRat.wf x.e0∧TRat.wf x.e1∧TRat.wf x.e2
def TS__3_api_Rat.cells (x:TS__3_api_Rat):List AV:=[(aB x.e0.f_Num.f_Neg),(encL (cU .u16) 0 x.e0.f_Num.f_Limbs),(aB x.e0.f_Den.f_Neg),(encL (cU .u16) 0 x.e0.f_Den.f_Limbs),(aB x.e1.f_Num.f_Neg),(encL (cU .u16) 0 x.e1.f_Num.f_Limbs),(aB x.e1.f_Den.f_Neg),(encL (cU .u16) 0 x.e1.f_Den.f_Limbs),(aB x.e2.f_Num.f_Neg),(encL (cU .u16) 0 x.e2.f_Num.f_Limbs),(aB x.e2.f_Den.f_Neg),(encL (cU .u16) 0 x.e2.f_Den.f_Limbs)]
def g_berth_CheckLines_1 (N:Nat) (x:TLine):Option (ByteArray) :=
  some x.f_Name
def g_berth_named_L1 (N:Nat) (s:ByteArray):Nat→Int→Option (Bool)
  | 0,_=>none
  | fuel+1,x =>
    (cond (decide (x < ((s.size:Nat):Int)))
    ((if 0≤x∧x < ((s.size:Nat):Int) then
    (cond (cond (!(cond (cond (decide ((byteAt s ((x).toNat)) ≥ 97)) (decide ((byteAt s ((x).toNat))≤122)) false) true (cond (decide ((byteAt s ((x).toNat)) ≥ 65)) (decide ((byteAt s ((x).toNat))≤90)) false))) (cond (x == 0) true (!(cond (cond (decide ((byteAt s ((x).toNat)) ≥ 48)) (decide ((byteAt s ((x).toNat))≤57)) false) true ((byteAt s ((x).toNat)) == 45)))) false)
    (some false)
    (g_berth_named_L1 N s fuel (w64 (x+1))))
    else none))
    (some true))
def g_berth_named (N:Nat) (s:ByteArray):Option (Bool) :=
  (cond (cond (streq s ByteArray.empty) true (decide (((s.size:Nat):Int) > 12)))
  (some false)
  (g_berth_named_L1 N s N 0))
def g_berth_check_Line_1 (N:Nat) (y:TLine) (cap1:TLine):Option (Bool) :=
  ((g_berth_CheckLines_1 N y).bind fun rCheckLines1 =>
  ((g_berth_CheckLines_1 N cap1).bind fun rCheckLines12 =>
  some (streq rCheckLines1 rCheckLines12)))
def g_slices_IndexFunc_api_Line_api_Line_L1 (N:Nat) (s:List TLine) (cap1:TLine):Nat→Int→Option (Int)
  | 0,_=>none
  | fuel+1,x =>
    (cond (decide (x < ((s.length:Nat):Int)))
    ((if 0≤x∧x < ((s.length:Nat):Int) then
    ((g_berth_check_Line_1 N (s.getD ((x).toNat) TLine.d) cap1).bind fun rLine1 =>
    (cond rLine1
    (some x)
    (g_slices_IndexFunc_api_Line_api_Line_L1 N s cap1 fuel (w64 (x+1)))))
    else none))
    (some (-1)))
def g_slices_IndexFunc_api_Line_api_Line (N:Nat) (s:List TLine) (cap1:TLine):Option (Int) :=
  g_slices_IndexFunc_api_Line_api_Line_L1 N s cap1 N 0
def g_slices_ContainsFunc_api_Line_api_Line (N:Nat) (s:List TLine) (cap1:TLine):Option (Bool) :=
  ((g_slices_IndexFunc_api_Line_api_Line N s cap1).bind fun rLine =>
  some (decide (rLine ≥ 0)))
def g_berth_outside (N:Nat) (n:Int) (lo:Int) (hi:Int):Option (Bool) :=
  some (cond (decide (n < lo)) true (decide (n > hi)))
def g_berth_checkLine (N:Nat) (x:TLine):Option (Int) :=
  ((g_berth_outside N x.f_X (-1000000) 1000000).bind fun routside =>
  ((cond (!routside) (g_berth_outside N x.f_Y (-1000000) 1000000) (some false)).bind fun routside2 =>
  ((cond (!(cond routside true routside2)) (g_berth_outside N x.f_ToX (-1000000) 1000000) (some false)).bind fun routside3 =>
  ((cond (!(cond (cond routside true routside2) true routside3)) (g_berth_outside N x.f_ToY (-1000000) 1000000) (some false)).bind fun routside4 =>
  ((cond (!(cond (cond (cond routside true routside2) true routside3) true routside4)) (g_berth_outside N x.f_Most 1 1000000000) (some false)).bind fun routside5 =>
  (cond (cond (cond (cond (cond routside true routside2) true routside3) true routside4) true routside5)
  (some 2)
  ((cond (cond (x.f_X == x.f_ToX) (x.f_Y == x.f_ToY) false)
  (some 9)
  (some 0)))))))))
def g_berth_check_Line_L1 (N:Nat) (l:List TLine):Nat→Int→Option (Int)
  | 0,_=>none
  | fuel+1,x =>
    (cond (decide (x < ((l.length:Nat):Int)))
    ((if 0≤x∧x < ((l.length:Nat):Int) then
    ((g_berth_CheckLines_1 N (l.getD ((x).toNat) TLine.d)).bind fun rCheckLines1 =>
    ((g_berth_named N rCheckLines1).bind fun rnamed =>
    (cond (!rnamed)
    (some 4)
    ((if 0≤(x).toNat∧(x).toNat≤l.length then
    (if 0≤x then
    ((g_slices_ContainsFunc_api_Line_api_Line N ((l.take ((x).toNat)).drop 0) (l.getD ((x).toNat) TLine.d)).bind fun rLine =>
    (cond rLine
    (some 5)
    (((g_berth_checkLine N (l.getD ((x).toNat) TLine.d)).bind fun rcheckLine =>
    (cond (rcheckLine != 0)
    (some rcheckLine)
    (g_berth_check_Line_L1 N l fuel (w64 (x+1))))))))
    else none)
    else none)))))
    else none))
    (some 0))
def g_berth_check_Line (N:Nat) (l:List TLine) (most:Int):Option (Int) :=
  (cond (decide (((l.length:Nat):Int) > most))
  (some 8)
  (g_berth_check_Line_L1 N l N 0))
def g_berth_CheckLines (N:Nat) (l:List TLine):Option (Int) :=
  ((g_berth_check_Line N l 12).bind fun rLine =>
  some rLine)
def g_berth_span_J2 (N:Nat) (l:TLine) (x:Int) (K_g_berth_span_L1:Int→Int→Option (Int)) (root2:Int):Option (Int) :=
  K_g_berth_span_L1 root2 (w64 (x+1))
def g_berth_span_L1 (N:Nat) (l:TLine):Nat→Int→Int→Option (Int)
  | 0,_,_=>none
  | fuel+1,root,x =>
    (cond (decide (x < 23))
    ((if (0:Int)≤(w64 (22 - x)) then
    (cond (decide ((w64 ((orI .i64 root (shlI .i64 1 (w64 (22 - x)))) * (orI .i64 root (shlI .i64 1 (w64 (22 - x)))))) < (w64 ((w64 ((w64 (l.f_ToX - l.f_X)) * (w64 (l.f_ToX - l.f_X))))+(w64 ((w64 (l.f_ToY - l.f_Y)) * (w64 (l.f_ToY - l.f_Y))))))))
    (g_berth_span_J2 N l x (g_berth_span_L1 N l fuel) (orI .i64 root (shlI .i64 1 (w64 (22 - x)))))
    (g_berth_span_J2 N l x (g_berth_span_L1 N l fuel) root))
    else none))
    (some (w64 (root+1))))
def g_berth_span (N:Nat) (l:TLine):Option (Int) :=
  g_berth_span_L1 N l N 0 0
def g_berth_Span (N:Nat) (l:TLine):Option (Int × Int) :=
  ((g_berth_CheckLines N ([l]:List TLine)).bind fun rCheckLines =>
  (cond (rCheckLines != 0)
  (some (0,rCheckLines))
  (((g_berth_span N l).bind fun rspan =>
  some (rspan,0)))))
def g_w06_spans (N:Nat):Option (Bool) :=
  ((g_berth_Span N (⟨(⟨#[108]⟩:ByteArray),0,0,3000,4000,1000⟩:TLine)).bind fun rSpan =>
  some (cond (rSpan.2 == 0) (rSpan.1 == 5000) false))
def g_w06_slack_L1 (N:Nat) (l:List TLine):Nat→Int→Option (Bool)
  | 0,_=>none
  | fuel+1,i =>
    (cond (decide (i < ((l.length:Nat):Int)))
    ((if 0≤i∧i < ((l.length:Nat):Int) then
    (cond (decide (((((l.getD ((i).toNat) TLine.d).f_Name).size:Nat):Int) > 40))
    (some false)
    (g_w06_slack_L1 N l fuel (w64 (i+1))))
    else none))
    (some (decide (((l.length:Nat):Int)≤14))))
def g_w06_slack (N:Nat) (l:List TLine):Option (Bool) :=
  g_w06_slack_L1 N l N 0
def g_b_Short (N:Nat) (x:TRat) (n:Int):Option (Bool) :=
  some (cond (decide (((x.f_Num.f_Limbs.length:Nat):Int)≤n)) (decide (((x.f_Den.f_Limbs.length:Nat):Int)≤n)) false)
def g_b_ShortAll_L1 (N:Nat) (l:List TRat) (n:Int):Nat→Int→Option (Bool)
  | 0,_=>none
  | fuel+1,i =>
    (cond (decide (i < ((l.length:Nat):Int)))
    ((if 0≤i∧i < ((l.length:Nat):Int) then
    ((g_b_Short N (⟨((l.getD ((i).toNat) TRat.d).f_Num),((l.getD ((i).toNat) TRat.d).f_Den)⟩:TRat) n).bind fun rShort =>
    (cond (!rShort)
    (some false)
    (g_b_ShortAll_L1 N l n fuel (w64 (i+1)))))
    else none))
    (some true))
def g_b_ShortAll (N:Nat) (l:List TRat) (n:Int):Option (Bool) :=
  g_b_ShortAll_L1 N l n N 0
def g_w06_flat (N:Nat) (m:TMooring):Option (Bool) :=
  ((cond (cond (decide (((m.f_Parts.length:Nat):Int)≤20)) (decide (((m.f_Proof.length:Nat):Int)≤6)) false) (g_b_ShortAll N m.f_Parts 12) (some false)).bind fun rShortAll =>
  ((cond (cond (cond (decide (((m.f_Parts.length:Nat):Int)≤20)) (decide (((m.f_Proof.length:Nat):Int)≤6)) false) rShortAll false) (g_b_ShortAll N m.f_Proof 12) (some false)).bind fun rShortAll2 =>
  some (cond (cond (cond (decide (((m.f_Parts.length:Nat):Int)≤20)) (decide (((m.f_Proof.length:Nat):Int)≤6)) false) rShortAll false) rShortAll2 false)))
def g_berth_ranged (N:Nat) (wrong:Bool):Option (Int) :=
  (cond wrong
  (some 2)
  (some 0))
def g_berth_checkWind (N:Nat) (w:TWind):Option (Int) :=
  ((g_berth_outside N w.f_X (-1000000000) 1000000000).bind fun routside =>
  ((cond (!routside) (g_berth_outside N w.f_Y (-1000000000) 1000000000) (some false)).bind fun routside2 =>
  ((cond (!(cond routside true routside2)) (g_berth_outside N w.f_Turn (-1000000000000000) 1000000000000000) (some false)).bind fun routside3 =>
  ((g_berth_ranged N (cond (cond routside true routside2) true routside3)).bind fun rranged =>
  some rranged))))
def g_e_natural_L1 (N:Nat):Nat→Int→(List Int)→Option ((List Int))
  | 0,_,_=>none
  | fuel+1,n2,out =>
    (cond (decide (n2 > 0))
    ((if (out.length+1) * 2≤140737488355328 then
    g_e_natural_L1 N fuel (shrI .u64 n2 16) (out ++ ([(IntKind.u16.wrap (n2))]:List Int))
    else none))
    (some out))
def g_e_natural (N:Nat) (n:Int):Option ((List Int)) :=
  g_e_natural_L1 N N n ([]:List Int)
def g_e_trim_L1 (N:Nat):Nat→(List Int)→Option ((List Int))
  | 0,_=>none
  | fuel+1,n2 =>
    (if ((decide (((n2.length:Nat):Int) > 0)) = true→0≤(w64 (((n2.length:Nat):Int) - 1))∧(w64 (((n2.length:Nat):Int) - 1)) < ((n2.length:Nat):Int)) then
    (cond (cond (decide (((n2.length:Nat):Int) > 0)) ((n2.getD ((w64 (((n2.length:Nat):Int) - 1)).toNat) 0) == 0) false)
    ((if 0≤(w64 (((n2.length:Nat):Int) - 1)).toNat∧(w64 (((n2.length:Nat):Int) - 1)).toNat≤n2.length then
    (if 0≤(w64 (((n2.length:Nat):Int) - 1)) then
    g_e_trim_L1 N fuel ((n2.take ((w64 (((n2.length:Nat):Int) - 1)).toNat)).drop 0)
    else none)
    else none))
    (some n2))
    else none)
def g_e_trim (N:Nat) (n:List Int):Option ((List Int)) :=
  g_e_trim_L1 N N n
def g_slices_Clone_uint16_uint16 (N:Nat) (s:List Int):Option ((List Int)) :=
  (if (0+s.length) * 2≤140737488355328 then
  some (([]:List Int) ++ s)
  else none)
def g_e_signed (N:Nat) (neg:Bool) (n:List Int):Option (TInt) :=
  ((g_e_trim N n).bind fun rtrim =>
  (cond (((rtrim.length:Nat):Int) == 0)
  (some (⟨false,([]:List Int)⟩:TInt))
  (((g_slices_Clone_uint16_uint16 N rtrim).bind fun rClone =>
  some (⟨neg,rClone⟩:TInt)))))
def g_e_Of (N:Nat) (n:Int):Option (TInt) :=
  (cond (decide (n < 0))
  (((g_e_natural N (IntKind.u64.wrap (0 - (IntKind.u64.wrap (n))))).bind fun rnatural =>
  ((g_e_signed N true rnatural).bind fun rsigned =>
  some rsigned)))
  (((g_e_natural N (IntKind.u64.wrap (n))).bind fun rnatural2 =>
  ((g_e_signed N false rnatural2).bind fun rsigned2 =>
  some rsigned2))))
def g_e_word_L1 (N:Nat) (n:List Int):Nat→Int→Int→Option (Int × Bool)
  | 0,_,_=>none
  | fuel+1,out,i =>
    (cond (decide (i ≥ 0))
    ((if 0≤i∧i < ((n.length:Nat):Int) then
    g_e_word_L1 N n fuel (orI .u64 (shlI .u64 out 16) (IntKind.u64.wrap ((n.getD ((i).toNat) 0)))) (w64 (i - 1))
    else none))
    (some (out,true)))
def g_e_word (N:Nat) (n:List Int):Option (Int × Bool) :=
  (cond (decide (((n.length:Nat):Int) > 4))
  (some (0,false))
  (g_e_word_L1 N n N 0 (w64 (((n.length:Nat):Int) - 1))))
def g_e_compare_L1 (N:Nat) (a:List Int) (b:List Int):Nat→Int→Option (Int)
  | 0,_=>none
  | fuel+1,i =>
    (cond (decide (i ≥ 0))
    ((if 0≤i∧i < ((a.length:Nat):Int) then
    (if 0≤i∧i < ((b.length:Nat):Int) then
    (cond ((a.getD ((i).toNat) 0) != (b.getD ((i).toNat) 0))
    (some (w64 ((w64 ((a.getD ((i).toNat) 0))) - (w64 ((b.getD ((i).toNat) 0))))))
    (g_e_compare_L1 N a b fuel (w64 (i - 1))))
    else none)
    else none))
    (some 0))
def g_e_compare (N:Nat) (a:List Int) (b:List Int):Option (Int) :=
  (cond (((a.length:Nat):Int) != ((b.length:Nat):Int))
  (some (w64 (((a.length:Nat):Int) - ((b.length:Nat):Int))))
  (g_e_compare_L1 N a b N (w64 (((a.length:Nat):Int) - 1))))
def g_e_short_L1 (N:Nat) (a:List Int) (b:Int):Nat→(List Int)→Int→Int→Option ((List Int) × Int)
  | 0,_,_,_=>none
  | fuel+1,q,rest,i =>
    (cond (decide (i ≥ 0))
    ((if 0≤i∧i < ((a.length:Nat):Int) then
    (if ((IntKind.u32.wrap (b)):Int) ≠ 0 then
    (if 0≤i∧i < ((q.length:Nat):Int) then
    g_e_short_L1 N a b fuel (q.set ((i).toNat) (IntKind.u16.wrap ((IntKind.u32.wrap ((orI .u32 (shlI .u32 rest 16) (IntKind.u32.wrap ((a.getD ((i).toNat) 0)))).tdiv (IntKind.u32.wrap (b))))))) ((orI .u32 (shlI .u32 rest 16) (IntKind.u32.wrap ((a.getD ((i).toNat) 0)))).tmod (IntKind.u32.wrap (b))) (w64 (i - 1))
    else none)
    else none)
    else none))
    (((g_e_trim N q).bind fun rtrim =>
    some (rtrim,(IntKind.u16.wrap (rest))))))
def g_e_short (N:Nat) (a:List Int) (b:Int):Option ((List Int) × Int) :=
  (if 0≤((a.length:Nat):Int)∧(2:Int) * ((a.length:Nat):Int)≤281474976710656∧((a.length:Nat):Int)≤9223372036854775807 then
  g_e_short_L1 N a b N (List.replicate a.length 0:List Int) 0 (w64 (((a.length:Nat):Int) - 1))
  else none)
def g_math_bits_Len16_J1 (N:Nat) (x2:Int) (n:Int):Option (Int) :=
  (if 0≤(IntKind.u8.wrap (x2))∧(IntKind.u8.wrap (x2)) < (((⟨#[0,1,2,2,3,3,3,3,4,4,4,4,4,4,4,4,5,5,5,5,5,5,5,5,5,5,5,5,5,5,5,5,6,6,6,6,6,6,6,6,6,6,6,6,6,6,6,6,6,6,6,6,6,6,6,6,6,6,6,6,6,6,6,6,7,7,7,7,7,7,7,7,7,7,7,7,7,7,7,7,7,7,7,7,7,7,7,7,7,7,7,7,7,7,7,7,7,7,7,7,7,7,7,7,7,7,7,7,7,7,7,7,7,7,7,7,7,7,7,7,7,7,7,7,7,7,7,7,8,8,8,8,8,8,8,8,8,8,8,8,8,8,8,8,8,8,8,8,8,8,8,8,8,8,8,8,8,8,8,8,8,8,8,8,8,8,8,8,8,8,8,8,8,8,8,8,8,8,8,8,8,8,8,8,8,8,8,8,8,8,8,8,8,8,8,8,8,8,8,8,8,8,8,8,8,8,8,8,8,8,8,8,8,8,8,8,8,8,8,8,8,8,8,8,8,8,8,8,8,8,8,8,8,8,8,8,8,8,8,8,8,8,8,8,8,8,8,8,8,8,8,8,8,8,8,8]⟩:ByteArray).size:Nat):Int) then
  some (w64 (n+(w64 ((byteAt (⟨#[0,1,2,2,3,3,3,3,4,4,4,4,4,4,4,4,5,5,5,5,5,5,5,5,5,5,5,5,5,5,5,5,6,6,6,6,6,6,6,6,6,6,6,6,6,6,6,6,6,6,6,6,6,6,6,6,6,6,6,6,6,6,6,6,7,7,7,7,7,7,7,7,7,7,7,7,7,7,7,7,7,7,7,7,7,7,7,7,7,7,7,7,7,7,7,7,7,7,7,7,7,7,7,7,7,7,7,7,7,7,7,7,7,7,7,7,7,7,7,7,7,7,7,7,7,7,7,7,8,8,8,8,8,8,8,8,8,8,8,8,8,8,8,8,8,8,8,8,8,8,8,8,8,8,8,8,8,8,8,8,8,8,8,8,8,8,8,8,8,8,8,8,8,8,8,8,8,8,8,8,8,8,8,8,8,8,8,8,8,8,8,8,8,8,8,8,8,8,8,8,8,8,8,8,8,8,8,8,8,8,8,8,8,8,8,8,8,8,8,8,8,8,8,8,8,8,8,8,8,8,8,8,8,8,8,8,8,8,8,8,8,8,8,8,8,8,8,8,8,8,8,8,8,8,8,8]⟩:ByteArray) ((IntKind.u8.wrap (x2)).toNat))))))
  else none)
def g_math_bits_Len16 (N:Nat) (x:Int):Option (Int) :=
  (cond (decide (x ≥ 256))
  (g_math_bits_Len16_J1 N (shrI .u16 x 8) 8)
  (g_math_bits_Len16_J1 N x 0))
def g_math_bits_LeadingZeros16 (N:Nat) (x:Int):Option (Int) :=
  ((g_math_bits_Len16 N x).bind fun rLen16 =>
  some (w64 (16 - rLen16)))
def g_e_shifted_L1 (N:Nat) (a:List Int) (vby:Int):Nat→(List Int)→Int→Option ((List Int))
  | 0,_,_=>none
  | fuel+1,out,x =>
    (cond (decide (x < ((a.length:Nat):Int)))
    ((if 0≤x∧x < ((a.length:Nat):Int) then
    (if (0:Int)≤vby then
    (if 0≤x∧x < ((out.length:Nat):Int) then
    (if 0≤(w64 (x+1))∧(w64 (x+1)) < (((out.set ((x).toNat) (orI .u16 (out.getD ((x).toNat) 0) (IntKind.u16.wrap ((shlI .u32 (IntKind.u32.wrap ((a.getD ((x).toNat) 0))) vby))))).length:Nat):Int) then
    g_e_shifted_L1 N a vby fuel ((out.set ((x).toNat) (orI .u16 (out.getD ((x).toNat) 0) (IntKind.u16.wrap ((shlI .u32 (IntKind.u32.wrap ((a.getD ((x).toNat) 0))) vby))))).set ((w64 (x+1)).toNat) (IntKind.u16.wrap ((shrI .u32 (shlI .u32 (IntKind.u32.wrap ((a.getD ((x).toNat) 0))) vby) 16)))) (w64 (x+1))
    else none)
    else none)
    else none)
    else none))
    (some out))
def g_e_shifted (N:Nat) (a:List Int) (vby:Int):Option ((List Int)) :=
  (if 0≤(w64 (((a.length:Nat):Int)+1))∧(2:Int) * (w64 (((a.length:Nat):Int)+1))≤281474976710656∧(w64 (((a.length:Nat):Int)+1))≤9223372036854775807 then
  g_e_shifted_L1 N a vby N (List.replicate ((w64 (((a.length:Nat):Int)+1)).toNat) 0:List Int) 0
  else none)
def g_e_digit_J3 (N:Nat) (uo:Nat) (un:Nat) (v:List Int) (q:Int) (cap02:List Int) (borrow:Int) (x:Int) (K_g_e_digit_L2:(List Int)→Int→Int→Int→Option (Int × (List Int))) (x2:Int):Option (Int × (List Int)) :=
  (if 0≤x∧x < ((un:Nat):Int) then
  (if uo+un≤cap02.length then
  K_g_e_digit_L2 (cap02.set (addz uo (x).toNat) (IntKind.u16.wrap ((w64 ((w64 ((w64 ((cap02.getD (addz uo (x).toNat) 0))) - (w64 ((andI .u64 x2 65535)))))+borrow))))) (shrI .u64 x2 16) (shrI .i64 (w64 ((w64 ((w64 ((cap02.getD (addz uo (x).toNat) 0))) - (w64 ((andI .u64 x2 65535)))))+borrow)) 16) (w64 (x+1))
  else none)
  else none)
def g_e_digit_J5 (N:Nat) (cap04:List Int) (q2:Int):Option (Int × (List Int)) :=
  some ((IntKind.u16.wrap (q2)),cap04)
def g_e_digit_L4 (N:Nat) (uo:Nat) (un:Nat) (v:List Int) (q:Int):Nat→(List Int)→Int→Int→Option (Int × (List Int))
  | 0,_,_,_=>none
  | fuel+1,cap03,carry2,x3 =>
    (cond (decide (x3 < ((v.length:Nat):Int)))
    ((if 0≤x3∧x3 < ((un:Nat):Int) then
    (if uo+un≤cap03.length then
    (if 0≤x3∧x3 < ((v.length:Nat):Int) then
    g_e_digit_L4 N uo un v q fuel (cap03.set (addz uo (x3).toNat) (IntKind.u16.wrap ((IntKind.u32.wrap (carry2+(IntKind.u32.wrap ((IntKind.u32.wrap ((cap03.getD (addz uo (x3).toNat) 0)))+(IntKind.u32.wrap ((v.getD ((x3).toNat) 0)))))))))) (shrI .u32 (IntKind.u32.wrap (carry2+(IntKind.u32.wrap ((IntKind.u32.wrap ((cap03.getD (addz uo (x3).toNat) 0)))+(IntKind.u32.wrap ((v.getD ((x3).toNat) 0))))))) 16) (w64 (x3+1))
    else none)
    else none)
    else none))
    ((if 0≤((v.length:Nat):Int)∧((v.length:Nat):Int) < ((un:Nat):Int) then
    (if uo+un≤cap03.length then
    g_e_digit_J5 N (cap03.set (addz uo v.length) (IntKind.u16.wrap ((cap03.getD (addz uo v.length) 0)+(IntKind.u16.wrap (carry2))))) (IntKind.u64.wrap (q - 1))
    else none)
    else none)))
def g_e_digit_L2 (N:Nat) (uo:Nat) (un:Nat) (v:List Int) (q:Int):Nat→(List Int)→Int→Int→Int→Option (Int × (List Int))
  | 0,_,_,_,_=>none
  | fuel+1,cap02,carry,borrow,x =>
    (cond (decide (x < (w64 (((v.length:Nat):Int)+1))))
    ((cond (decide (x < ((v.length:Nat):Int)))
    ((if 0≤x∧x < ((v.length:Nat):Int) then
    g_e_digit_J3 N uo un v q cap02 borrow x (g_e_digit_L2 N uo un v q fuel) (IntKind.u64.wrap (carry+(IntKind.u64.wrap (q * (IntKind.u64.wrap ((v.getD ((x).toNat) 0)))))))
    else none))
    (g_e_digit_J3 N uo un v q cap02 borrow x (g_e_digit_L2 N uo un v q fuel) carry)))
    ((cond (decide (borrow < 0))
    (g_e_digit_L4 N uo un v q N cap02 0 0)
    (g_e_digit_J5 N cap02 q))))
def g_e_digit_L1 (N:Nat) (uo:Nat) (un:Nat) (v:List Int) (cap0:List Int):Nat→Int→Int→Option (Int × (List Int))
  | 0,_,_=>none
  | fuel+1,q,rest =>
    (if (((decide (rest < 65536)) && ((decide (rest < 65536)) && (!(decide (q > 65535))))) = true→0≤(w64 (((v.length:Nat):Int) - 2))∧(w64 (((v.length:Nat):Int) - 2)) < ((v.length:Nat):Int)) then
    (if (((decide (rest < 65536)) && ((decide (rest < 65536)) && (!(decide (q > 65535))))) = true→0≤(w64 (((v.length:Nat):Int) - 2))∧(w64 (((v.length:Nat):Int) - 2)) < ((un:Nat):Int)) then
    (if (((decide (rest < 65536)) && ((decide (rest < 65536)) && (!(decide (q > 65535))))) = true→uo+un≤cap0.length) then
    (cond (cond (decide (rest < 65536)) (cond (decide (q > 65535)) true (decide ((IntKind.u64.wrap (q * (IntKind.u64.wrap ((v.getD ((w64 (((v.length:Nat):Int) - 2)).toNat) 0))))) > (orI .u64 (shlI .u64 rest 16) (IntKind.u64.wrap ((cap0.getD (addz uo (w64 (((v.length:Nat):Int) - 2)).toNat) 0))))))) false)
    ((if 0≤(w64 (((v.length:Nat):Int) - 1))∧(w64 (((v.length:Nat):Int) - 1)) < ((v.length:Nat):Int) then
    g_e_digit_L1 N uo un v cap0 fuel (IntKind.u64.wrap (q - 1)) (IntKind.u64.wrap (rest+(IntKind.u64.wrap ((v.getD ((w64 (((v.length:Nat):Int) - 1)).toNat) 0)))))
    else none))
    (g_e_digit_L2 N uo un v q N cap0 0 0 0))
    else none)
    else none)
    else none)
def g_e_digit (N:Nat) (uo:Nat) (un:Nat) (v:List Int) (cap0:List Int):Option (Int × (List Int)) :=
  (if 0≤((v.length:Nat):Int)∧((v.length:Nat):Int) < ((un:Nat):Int) then
  (if uo+un≤cap0.length then
  (if 0≤(w64 (((v.length:Nat):Int) - 1))∧(w64 (((v.length:Nat):Int) - 1)) < ((un:Nat):Int) then
  (if 0≤(w64 (((v.length:Nat):Int) - 1))∧(w64 (((v.length:Nat):Int) - 1)) < ((v.length:Nat):Int) then
  (if ((IntKind.u64.wrap ((v.getD ((w64 (((v.length:Nat):Int) - 1)).toNat) 0))):Int) ≠ 0 then
  g_e_digit_L1 N uo un v cap0 N (IntKind.u64.wrap ((orI .u64 (shlI .u64 (IntKind.u64.wrap ((cap0.getD (addz uo v.length) 0))) 16) (IntKind.u64.wrap ((cap0.getD (addz uo (w64 (((v.length:Nat):Int) - 1)).toNat) 0)))).tdiv (IntKind.u64.wrap ((v.getD ((w64 (((v.length:Nat):Int) - 1)).toNat) 0))))) ((orI .u64 (shlI .u64 (IntKind.u64.wrap ((cap0.getD (addz uo v.length) 0))) 16) (IntKind.u64.wrap ((cap0.getD (addz uo (w64 (((v.length:Nat):Int) - 1)).toNat) 0)))).tmod (IntKind.u64.wrap ((v.getD ((w64 (((v.length:Nat):Int) - 1)).toNat) 0))))
  else none)
  else none)
  else none)
  else none)
  else none)
def g_e_divide_L2 (N:Nat) (b:List Int) (rLeadingZeros:Int) (q:List Int) (u:List Int):Nat→(List Int)→Int→Option ((List Int) × (List Int))
  | 0,_,_=>none
  | fuel+1,vr,x =>
    (cond (decide (x < (((b.length - 0):Nat):Int)))
    ((if 0≤x∧x < ((u.length:Nat):Int) then
    (if 0≤(w64 (x+1))∧(w64 (x+1)) < ((u.length:Nat):Int) then
    (if (0:Int)≤rLeadingZeros then
    (if 0≤x∧x < ((vr.length:Nat):Int) then
    g_e_divide_L2 N b rLeadingZeros q u fuel (vr.set ((x).toNat) (IntKind.u16.wrap ((shrI .u32 (orI .u32 (IntKind.u32.wrap ((u.getD ((x).toNat) 0))) (shlI .u32 (IntKind.u32.wrap ((u.getD ((w64 (x+1)).toNat) 0))) 16)) rLeadingZeros)))) (w64 (x+1))
    else none)
    else none)
    else none)
    else none))
    (((g_e_trim N q).bind fun rtrim2 =>
    ((g_e_trim N vr).bind fun rtrim3 =>
    some (rtrim2,rtrim3)))))
def g_e_divide_L1 (N:Nat) (b:List Int) (rLeadingZeros:Int) (rshifted2:(List Int)):Nat→(List Int)→(List Int)→Int→Option ((List Int) × (List Int))
  | 0,_,_,_=>none
  | fuel+1,q,u,j =>
    (cond (decide (j ≥ 0))
    ((if (j).toNat≤(w64 ((w64 (j+(((b.length - 0):Nat):Int)))+1)).toNat∧(w64 ((w64 (j+(((b.length - 0):Nat):Int)))+1)).toNat≤u.length then
    (if 0≤j then
    (if 0≤(w64 ((w64 (j+(((b.length - 0):Nat):Int)))+1)) then
    (if 0≤b.length∧b.length≤rshifted2.length then
    ((g_e_digit N ((j).toNat) ((w64 ((w64 (j+(((b.length - 0):Nat):Int)))+1)).toNat - (j).toNat) ((rshifted2.take b.length).drop 0) u).bind fun rdigit =>
    (if rdigit.2.length = u.length then
    (if 0≤j∧j < ((q.length:Nat):Int) then
    g_e_divide_L1 N b rLeadingZeros rshifted2 fuel (q.set ((j).toNat) rdigit.1) rdigit.2 (w64 (j - 1))
    else none)
    else none))
    else none)
    else none)
    else none)
    else none))
    ((if 0≤(((b.length - 0):Nat):Int)∧(2:Int) * (((b.length - 0):Nat):Int)≤281474976710656∧(((b.length - 0):Nat):Int)≤9223372036854775807 then
    g_e_divide_L2 N b rLeadingZeros q u N (List.replicate (b.length - 0) 0:List Int) 0
    else none)))
def g_e_divide (N:Nat) (a:List Int) (b:List Int):Option ((List Int) × (List Int)) :=
  ((g_e_compare N a b).bind fun rcompare =>
  (cond (decide (rcompare < 0))
  (((g_slices_Clone_uint16_uint16 N a).bind fun rClone =>
  some (([]:List Int),rClone)))
  ((cond (((b.length:Nat):Int) == 1)
  ((if 0≤(0:Int)∧0 < ((b.length:Nat):Int) then
  ((g_e_short N a (b.getD 0 0)).bind fun rshort =>
  ((g_e_trim N ([rshort.2]:List Int)).bind fun rtrim =>
  some (rshort.1,rtrim)))
  else none))
  ((if 0≤(w64 (((b.length:Nat):Int) - 1))∧(w64 (((b.length:Nat):Int) - 1)) < ((b.length:Nat):Int) then
  ((g_math_bits_LeadingZeros16 N (b.getD ((w64 (((b.length:Nat):Int) - 1)).toNat) 0)).bind fun rLeadingZeros =>
  ((g_e_shifted N a rLeadingZeros).bind fun rshifted =>
  ((g_e_shifted N b rLeadingZeros).bind fun rshifted2 =>
  (if 0≤b.length∧b.length≤rshifted2.length then
  (if 0≤(w64 (((rshifted.length:Nat):Int) - (((b.length - 0):Nat):Int)))∧(2:Int) * (w64 (((rshifted.length:Nat):Int) - (((b.length - 0):Nat):Int)))≤281474976710656∧(w64 (((rshifted.length:Nat):Int) - (((b.length - 0):Nat):Int)))≤9223372036854775807 then
  g_e_divide_L1 N b rLeadingZeros rshifted2 N (List.replicate ((w64 (((rshifted.length:Nat):Int) - (((b.length - 0):Nat):Int))).toNat) 0:List Int) rshifted (w64 ((w64 (((rshifted.length:Nat):Int) - (((b.length - 0):Nat):Int))) - 1))
  else none)
  else none))))
  else none))))))
def g_e_common_L2 (N:Nat) (K_g_e_common_L1:(List Int)→(List Int)→Option ((List Int))):Nat→Int→Int→Option ((List Int))
  | 0,_,_=>none
  | fuel+1,x,y =>
    (cond (decide (y > 0))
    ((if (y:Int) ≠ 0 then
    g_e_common_L2 N K_g_e_common_L1 fuel y (x.tmod y)
    else none))
    (((g_e_natural N x).bind fun rnatural =>
    some rnatural)))
def g_e_common_L1 (N:Nat):Nat→(List Int)→(List Int)→Option ((List Int))
  | 0,_,_=>none
  | fuel+1,a2,b2 =>
    (cond (decide (((b2.length:Nat):Int) > 0))
    (((g_e_word N a2).bind fun rword =>
    ((g_e_word N b2).bind fun rword2 =>
    (cond (cond rword.2 rword2.2 false)
    (g_e_common_L2 N (g_e_common_L1 N fuel) N rword.1 rword2.1)
    (((g_e_divide N a2 b2).bind fun rdivide =>
    g_e_common_L1 N fuel b2 rdivide.2))))))
    (some a2))
def g_e_common (N:Nat) (a:List Int) (b:List Int):Option ((List Int)) :=
  g_e_common_L1 N N a b
def g_e_fraction_J1 (N:Nat) (a:TInt) (b:TInt) (x:List Int) (y:List Int):Option (TRat) :=
  ((g_e_signed N (!(a.f_Neg == b.f_Neg)) x).bind fun rsigned =>
  ((g_e_signed N false y).bind fun rsigned2 =>
  some (⟨rsigned,rsigned2⟩:TRat)))
def g_e_fraction (N:Nat) (a:TInt) (b:TInt):Option (TRat) :=
  ((g_e_trim N a.f_Limbs).bind fun rtrim =>
  ((g_e_trim N b.f_Limbs).bind fun rtrim2 =>
  ((g_e_common N rtrim rtrim2).bind fun rcommon =>
  (if ((!(((rcommon.length:Nat):Int) != 1)) = true→0≤(0:Int)∧0 < ((rcommon.length:Nat):Int)) then
  (cond (cond (((rcommon.length:Nat):Int) != 1) true ((rcommon.getD 0 0) != 1))
  (((g_e_divide N rtrim rcommon).bind fun rdivide =>
  ((g_e_divide N rtrim2 rcommon).bind fun rdivide2 =>
  g_e_fraction_J1 N a b rdivide.1 rdivide2.1)))
  (g_e_fraction_J1 N a b rtrim rtrim2))
  else none))))
def g_e_Whole (N:Nat) (a:TInt):Option (TRat) :=
  ((g_e_fraction N a (⟨false,([1]:List Int)⟩:TInt)).bind fun rfraction =>
  some rfraction)
def g_berth_whole (N:Nat) (n:Int):Option (TRat) :=
  ((g_e_Of N n).bind fun rOf =>
  ((g_e_Whole N rOf).bind fun rWhole =>
  some rWhole))
def g_berth_blows (N:Nat) (w:TWind):Option (TS__3_api_Rat) :=
  ((g_berth_whole N w.f_X).bind fun rwhole =>
  ((g_berth_whole N w.f_Y).bind fun rwhole2 =>
  ((g_berth_whole N w.f_Turn).bind fun rwhole3 =>
  some (⟨rwhole,rwhole2,rwhole3⟩:TS__3_api_Rat))))
def g_e_opposite (N:Nat) (a:TInt):Option (TInt) :=
  some (⟨(!a.f_Neg),a.f_Limbs⟩:TInt)
def g_e_sign (N:Nat) (a:TInt):Option (Int) :=
  ((g_e_trim N a.f_Limbs).bind fun rtrim =>
  (cond (((rtrim.length:Nat):Int) == 0)
  (some 0)
  ((cond a.f_Neg
  (some (-1))
  (some 1)))))
def g_e_below (N:Nat) (x:TRat):Option (TInt) :=
  ((g_e_sign N x.f_Den).bind fun rsign =>
  (cond (rsign == 0)
  (some (⟨false,([1]:List Int)⟩:TInt))
  (some x.f_Den)))
def g_e_negative (N:Nat) (x:TRat):Option (TRat) :=
  ((g_e_opposite N x.f_Num).bind fun ropposite =>
  ((g_e_below N x).bind fun rbelow =>
  ((g_e_fraction N ropposite rbelow).bind fun rfraction =>
  some rfraction)))
def g_e_isZero (N:Nat) (x:TRat):Option (Bool) :=
  ((g_e_sign N x.f_Num).bind fun rsign =>
  some (rsign == 0))
def g_e_lowest (N:Nat) (x:TRat):Option (TRat) :=
  ((g_e_below N x).bind fun rbelow =>
  ((g_e_fraction N x.f_Num rbelow).bind fun rfraction =>
  some rfraction))
def g_e_times_L2 (N:Nat) (a:List Int) (b:List Int) (x:Int) (K_g_e_times_L1:(List Int)→Int→Option ((List Int))):Nat→(List Int)→Int→Int→Option ((List Int))
  | 0,_,_,_=>none
  | fuel+1,out2,carry,x2 =>
    (cond (decide (x2 < ((b.length:Nat):Int)))
    ((if 0≤x2∧x2 < ((b.length:Nat):Int) then
    (if 0≤(w64 (x+x2))∧(w64 (x+x2)) < ((out2.length:Nat):Int) then
    g_e_times_L2 N a b x K_g_e_times_L1 fuel (out2.set ((w64 (x+x2)).toNat) (IntKind.u16.wrap ((IntKind.u32.wrap (carry+(IntKind.u32.wrap ((IntKind.u32.wrap ((IntKind.u32.wrap ((a.getD ((x).toNat) 0))) * (IntKind.u32.wrap ((b.getD ((x2).toNat) 0)))))+(IntKind.u32.wrap ((out2.getD ((w64 (x+x2)).toNat) 0)))))))))) (shrI .u32 (IntKind.u32.wrap (carry+(IntKind.u32.wrap ((IntKind.u32.wrap ((IntKind.u32.wrap ((a.getD ((x).toNat) 0))) * (IntKind.u32.wrap ((b.getD ((x2).toNat) 0)))))+(IntKind.u32.wrap ((out2.getD ((w64 (x+x2)).toNat) 0))))))) 16) (w64 (x2+1))
    else none)
    else none))
    ((if 0≤(w64 (x+((b.length:Nat):Int)))∧(w64 (x+((b.length:Nat):Int))) < ((out2.length:Nat):Int) then
    K_g_e_times_L1 (out2.set ((w64 (x+((b.length:Nat):Int))).toNat) (IntKind.u16.wrap (carry))) (w64 (x+1))
    else none)))
def g_e_times_L1 (N:Nat) (a:List Int) (b:List Int):Nat→(List Int)→Int→Option ((List Int))
  | 0,_,_=>none
  | fuel+1,out,x =>
    (cond (decide (x < ((a.length:Nat):Int)))
    ((if 0≤x∧x < ((a.length:Nat):Int) then
    g_e_times_L2 N a b x (g_e_times_L1 N a b fuel) N out 0 0
    else none))
    (((g_e_trim N out).bind fun rtrim =>
    some rtrim)))
def g_e_times (N:Nat) (a:List Int) (b:List Int):Option ((List Int)) :=
  (if 0≤(w64 (((a.length:Nat):Int)+((b.length:Nat):Int)))∧(2:Int) * (w64 (((a.length:Nat):Int)+((b.length:Nat):Int)))≤281474976710656∧(w64 (((a.length:Nat):Int)+((b.length:Nat):Int)))≤9223372036854775807 then
  g_e_times_L1 N a b N (List.replicate ((w64 (((a.length:Nat):Int)+((b.length:Nat):Int))).toNat) 0:List Int) 0
  else none)
def g_e_Mul (N:Nat) (a:TInt) (b:TInt):Option (TInt) :=
  ((g_e_trim N a.f_Limbs).bind fun rtrim =>
  ((g_e_trim N b.f_Limbs).bind fun rtrim2 =>
  ((g_e_times N rtrim rtrim2).bind fun rtimes =>
  ((g_e_signed N (!(a.f_Neg == b.f_Neg)) rtimes).bind fun rsigned =>
  some rsigned))))
def g_e_plus_J3 (N:Nat) (a2:List Int) (b2:List Int) (out:List Int) (x:Int) (K_g_e_plus_L2:(List Int)→Int→Int→Option ((List Int))) (carry2:Int):Option ((List Int)) :=
  (if (out.length+1) * 2≤140737488355328 then
  K_g_e_plus_L2 (out ++ ([(IntKind.u16.wrap (carry2))]:List Int)) (shrI .u32 carry2 16) (w64 (x+1))
  else none)
def g_e_plus_L2 (N:Nat) (a2:List Int) (b2:List Int):Nat→(List Int)→Int→Int→Option ((List Int))
  | 0,_,_,_=>none
  | fuel+1,out,carry,x =>
    (cond (decide (x < ((a2.length:Nat):Int)))
    ((if 0≤x∧x < ((a2.length:Nat):Int) then
    (cond (decide (x < ((b2.length:Nat):Int)))
    ((if 0≤x∧x < ((b2.length:Nat):Int) then
    g_e_plus_J3 N a2 b2 out x (g_e_plus_L2 N a2 b2 fuel) (IntKind.u32.wrap ((IntKind.u32.wrap (carry+(IntKind.u32.wrap ((a2.getD ((x).toNat) 0)))))+(IntKind.u32.wrap ((b2.getD ((x).toNat) 0)))))
    else none))
    (g_e_plus_J3 N a2 b2 out x (g_e_plus_L2 N a2 b2 fuel) (IntKind.u32.wrap (carry+(IntKind.u32.wrap ((a2.getD ((x).toNat) 0)))))))
    else none))
    ((if (out.length+1) * 2≤140737488355328 then
    ((g_e_trim N (out ++ ([(IntKind.u16.wrap (carry))]:List Int))).bind fun rtrim =>
    some rtrim)
    else none)))
def g_e_plus_J1 (N:Nat) (a2:List Int) (b2:List Int):Option ((List Int)) :=
  (if 0≤(0:Int)∧(2:Int) * (w64 (((a2.length:Nat):Int)+1))≤281474976710656∧(w64 (((a2.length:Nat):Int)+1))≤9223372036854775807∧(0:Int)≤(w64 (((a2.length:Nat):Int)+1)) then
  g_e_plus_L2 N a2 b2 N (List.replicate 0 0:List Int) 0 0
  else none)
def g_e_plus (N:Nat) (a:List Int) (b:List Int):Option ((List Int)) :=
  (cond (decide (((a.length:Nat):Int) < ((b.length:Nat):Int)))
  (g_e_plus_J1 N b a)
  (g_e_plus_J1 N a b))
def g_e_minus_J3 (N:Nat) (a:List Int) (b:List Int) (out:List Int) (x:Int) (y:Int) (K_g_e_minus_L1:(List Int)→Int→Int→Option ((List Int))) (borrow2:Int):Option ((List Int)) :=
  (if 0≤x∧x < ((out.length:Nat):Int) then
  K_g_e_minus_L1 (out.set ((x).toNat) (IntKind.u16.wrap ((IntKind.u32.wrap ((IntKind.u32.wrap ((IntKind.u32.wrap ((a.getD ((x).toNat) 0)))+(shlI .u32 borrow2 16))) - y))))) borrow2 (w64 (x+1))
  else none)
def g_e_minus_J2 (N:Nat) (a:List Int) (b:List Int) (out:List Int) (x:Int) (K_g_e_minus_L1:(List Int)→Int→Int→Option ((List Int))) (y:Int):Option ((List Int)) :=
  (cond (decide ((IntKind.u32.wrap ((a.getD ((x).toNat) 0))) < y))
  (g_e_minus_J3 N a b out x y K_g_e_minus_L1 1)
  (g_e_minus_J3 N a b out x y K_g_e_minus_L1 0))
def g_e_minus_L1 (N:Nat) (a:List Int) (b:List Int):Nat→(List Int)→Int→Int→Option ((List Int))
  | 0,_,_,_=>none
  | fuel+1,out,borrow,x =>
    (cond (decide (x < ((a.length:Nat):Int)))
    ((if 0≤x∧x < ((a.length:Nat):Int) then
    (cond (decide (x < ((b.length:Nat):Int)))
    ((if 0≤x∧x < ((b.length:Nat):Int) then
    g_e_minus_J2 N a b out x (g_e_minus_L1 N a b fuel) (IntKind.u32.wrap (borrow+(IntKind.u32.wrap ((b.getD ((x).toNat) 0)))))
    else none))
    (g_e_minus_J2 N a b out x (g_e_minus_L1 N a b fuel) borrow))
    else none))
    (((g_e_trim N out).bind fun rtrim =>
    some rtrim)))
def g_e_minus (N:Nat) (a:List Int) (b:List Int):Option ((List Int)) :=
  (if 0≤((a.length:Nat):Int)∧(2:Int) * ((a.length:Nat):Int)≤281474976710656∧((a.length:Nat):Int)≤9223372036854775807 then
  g_e_minus_L1 N a b N (List.replicate a.length 0:List Int) 0 0
  else none)
def g_e_Add (N:Nat) (a:TInt) (b:TInt):Option (TInt) :=
  ((g_e_trim N a.f_Limbs).bind fun rtrim =>
  ((g_e_trim N b.f_Limbs).bind fun rtrim2 =>
  (cond (a.f_Neg == b.f_Neg)
  (((g_e_plus N rtrim rtrim2).bind fun rplus =>
  ((g_e_signed N a.f_Neg rplus).bind fun rsigned =>
  some rsigned)))
  (((g_e_compare N rtrim rtrim2).bind fun rcompare =>
  (cond (decide (rcompare ≥ 0))
  (((g_e_minus N rtrim rtrim2).bind fun rminus =>
  ((g_e_signed N a.f_Neg rminus).bind fun rsigned2 =>
  some rsigned2)))
  (((g_e_minus N rtrim2 rtrim).bind fun rminus2 =>
  ((g_e_signed N b.f_Neg rminus2).bind fun rsigned3 =>
  some rsigned3)))))))))
def g_e_AddRat (N:Nat) (x:TRat) (y:TRat):Option (TRat) :=
  ((g_e_isZero N x).bind fun risZero =>
  (cond risZero
  (((g_e_lowest N y).bind fun rlowest =>
  some rlowest))
  (((g_e_isZero N y).bind fun risZero2 =>
  (cond risZero2
  (((g_e_lowest N x).bind fun rlowest2 =>
  some rlowest2))
  (((g_e_below N x).bind fun rbelow =>
  ((g_e_below N y).bind fun rbelow2 =>
  ((g_e_Mul N x.f_Num rbelow2).bind fun rMul =>
  ((g_e_Mul N y.f_Num rbelow).bind fun rMul2 =>
  ((g_e_Add N rMul rMul2).bind fun rAdd =>
  ((g_e_Mul N rbelow rbelow2).bind fun rMul3 =>
  ((g_e_fraction N rAdd rMul3).bind fun rfraction =>
  some rfraction)))))))))))))
def g_e_SubRat (N:Nat) (x:TRat) (y:TRat):Option (TRat) :=
  ((g_e_negative N y).bind fun rnegative =>
  ((g_e_AddRat N x rnegative).bind fun rAddRat =>
  some rAddRat))
def g_e_signOf (N:Nat) (x:TRat):Option (Int) :=
  ((g_e_sign N x.f_Num).bind fun rsign =>
  ((g_e_below N x).bind fun rbelow =>
  ((g_e_sign N rbelow).bind fun rsign2 =>
  some (w64 (rsign * rsign2)))))
def g_e_CmpRat (N:Nat) (x:TRat) (y:TRat):Option (Int) :=
  ((g_e_SubRat N x y).bind fun rSubRat =>
  ((g_e_signOf N rSubRat).bind fun rsignOf =>
  some rsignOf))
def g_e_Ratio (N:Nat) (a:Int) (b:Int):Option (TRat × Int) :=
  (cond (b == 0)
  (some ((⟨(⟨false,([]:List Int)⟩:TInt),(⟨false,([]:List Int)⟩:TInt)⟩:TRat),9))
  (((g_e_Of N a).bind fun rOf =>
  ((g_e_Of N b).bind fun rOf2 =>
  ((g_e_fraction N rOf rOf2).bind fun rfraction =>
  some (rfraction,0))))))
def g_e_MulRat (N:Nat) (x:TRat) (y:TRat):Option (TRat) :=
  ((g_e_Mul N x.f_Num y.f_Num).bind fun rMul =>
  ((g_e_below N x).bind fun rbelow =>
  ((g_e_below N y).bind fun rbelow2 =>
  ((g_e_Mul N rbelow rbelow2).bind fun rMul2 =>
  ((g_e_fraction N rMul rMul2).bind fun rfraction =>
  some rfraction)))))
def g_berth_pull (N:Nat) (l:TLine):Option (TS__3_api_Rat) :=
  ((g_berth_span N l).bind fun rspan =>
  ((g_e_Ratio N l.f_Most rspan).bind fun rRatio =>
  ((g_berth_whole N (w64 (l.f_ToX - l.f_X))).bind fun rwhole =>
  ((g_e_MulRat N rRatio.1 rwhole).bind fun rMulRat =>
  ((g_berth_whole N (w64 (l.f_ToY - l.f_Y))).bind fun rwhole2 =>
  ((g_e_MulRat N rRatio.1 rwhole2).bind fun rMulRat2 =>
  ((g_berth_whole N l.f_X).bind fun rwhole3 =>
  ((g_e_MulRat N rwhole3 rMulRat2).bind fun rMulRat3 =>
  ((g_berth_whole N l.f_Y).bind fun rwhole4 =>
  ((g_e_MulRat N rwhole4 rMulRat).bind fun rMulRat4 =>
  ((g_e_SubRat N rMulRat3 rMulRat4).bind fun rSubRat =>
  some (⟨rMulRat,rMulRat2,rSubRat⟩:TS__3_api_Rat))))))))))))
def g_berth_holds_L1 (N:Nat) (l:List TLine) (parts:List TRat):Nat→TS__3_api_Rat→Int→Option (Bool)
  | 0,_,_=>none
  | fuel+1,sum,x =>
    (cond (decide (x < ((l.length:Nat):Int)))
    ((if 0≤x∧x < ((l.length:Nat):Int) then
    (if 0≤x∧x < ((parts.length:Nat):Int) then
    ((g_e_CmpRat N (⟨((parts.getD ((x).toNat) TRat.d).f_Num),((parts.getD ((x).toNat) TRat.d).f_Den)⟩:TRat) (⟨(⟨false,([]:List Int)⟩:TInt),(⟨false,([]:List Int)⟩:TInt)⟩:TRat)).bind fun rCmpRat =>
    (if ((!(decide (rCmpRat < 0))) = true→0≤x∧x < ((parts.length:Nat):Int)) then
    ((cond (!(decide (rCmpRat < 0))) (g_berth_whole N 1) (some TRat.d)).bind fun rwhole =>
    ((cond (!(decide (rCmpRat < 0))) (g_e_CmpRat N (⟨((parts.getD ((x).toNat) TRat.d).f_Num),((parts.getD ((x).toNat) TRat.d).f_Den)⟩:TRat) rwhole) (some 0)).bind fun rCmpRat2 =>
    (cond (cond (decide (rCmpRat < 0)) true (decide (rCmpRat2 > 0)))
    (some false)
    (((g_berth_pull N (l.getD ((x).toNat) TLine.d)).bind fun rpull =>
    ((g_e_MulRat N (⟨((parts.getD ((x).toNat) TRat.d).f_Num),((parts.getD ((x).toNat) TRat.d).f_Den)⟩:TRat) rpull.e0).bind fun rMulRat =>
    ((g_e_AddRat N sum.e0 rMulRat).bind fun rAddRat =>
    ((g_e_MulRat N (⟨((parts.getD ((x).toNat) TRat.d).f_Num),((parts.getD ((x).toNat) TRat.d).f_Den)⟩:TRat) rpull.e1).bind fun rMulRat2 =>
    ((g_e_AddRat N sum.e1 rMulRat2).bind fun rAddRat2 =>
    ((g_e_MulRat N (⟨((parts.getD ((x).toNat) TRat.d).f_Num),((parts.getD ((x).toNat) TRat.d).f_Den)⟩:TRat) rpull.e2).bind fun rMulRat3 =>
    ((g_e_AddRat N sum.e2 rMulRat3).bind fun rAddRat3 =>
    g_berth_holds_L1 N l parts fuel (⟨rAddRat,rAddRat2,rAddRat3⟩:TS__3_api_Rat) (w64 (x+1)))))))))))))
    else none))
    else none)
    else none))
    (((g_e_CmpRat N sum.e0 (⟨(⟨false,([]:List Int)⟩:TInt),(⟨false,([]:List Int)⟩:TInt)⟩:TRat)).bind fun rCmpRat3 =>
    (cond (rCmpRat3 != 0)
    (some false)
    (((g_e_CmpRat N sum.e1 (⟨(⟨false,([]:List Int)⟩:TInt),(⟨false,([]:List Int)⟩:TInt)⟩:TRat)).bind fun rCmpRat4 =>
    (cond (rCmpRat4 != 0)
    (some false)
    (((g_e_CmpRat N sum.e2 (⟨(⟨false,([]:List Int)⟩:TInt),(⟨false,([]:List Int)⟩:TInt)⟩:TRat)).bind fun rCmpRat5 =>
    (cond (rCmpRat5 != 0)
    (some false)
    (some true)))))))))))
def g_berth_holds (N:Nat) (l:List TLine) (w:TWind) (parts:List TRat):Option (Bool) :=
  ((g_berth_blows N w).bind fun rblows =>
  g_berth_holds_L1 N l parts N rblows 0)
def g_berth_proves_1 (N:Nat) (f:TS__3_api_Rat) (cap0:List TRat):Option (TRat) :=
  ((g_berth_whole N 0).bind fun rwhole =>
  (if 0≤(0:Int)∧0 < ((cap0.length:Nat):Int) then
  ((g_e_MulRat N (⟨((cap0.getD 0 TRat.d).f_Num),((cap0.getD 0 TRat.d).f_Den)⟩:TRat) f.e0).bind fun rMulRat =>
  ((g_e_AddRat N rwhole rMulRat).bind fun rAddRat =>
  (if 0≤(1:Int)∧1 < ((cap0.length:Nat):Int) then
  ((g_e_MulRat N (⟨((cap0.getD 1 TRat.d).f_Num),((cap0.getD 1 TRat.d).f_Den)⟩:TRat) f.e1).bind fun rMulRat2 =>
  ((g_e_AddRat N rAddRat rMulRat2).bind fun rAddRat2 =>
  (if 0≤(2:Int)∧2 < ((cap0.length:Nat):Int) then
  ((g_e_MulRat N (⟨((cap0.getD 2 TRat.d).f_Num),((cap0.getD 2 TRat.d).f_Den)⟩:TRat) f.e2).bind fun rMulRat3 =>
  ((g_e_AddRat N rAddRat2 rMulRat3).bind fun rAddRat3 =>
  some rAddRat3))
  else none)))
  else none)))
  else none))
def g_berth_proves_J2 (N:Nat) (l:List TLine) (proof:List TRat) (x:Int) (K_g_berth_proves_L1:TRat→Int→Option (Bool)) (sum2:TRat):Option (Bool) :=
  K_g_berth_proves_L1 sum2 (w64 (x+1))
def g_berth_proves_L1 (N:Nat) (l:List TLine) (proof:List TRat):Nat→TRat→Int→Option (Bool)
  | 0,_,_=>none
  | fuel+1,sum,x =>
    (cond (decide (x < ((l.length:Nat):Int)))
    ((if 0≤x∧x < ((l.length:Nat):Int) then
    ((g_berth_pull N (l.getD ((x).toNat) TLine.d)).bind fun rpull =>
    ((g_berth_proves_1 N rpull proof).bind fun rproves12 =>
    ((g_e_CmpRat N rproves12 (⟨(⟨false,([]:List Int)⟩:TInt),(⟨false,([]:List Int)⟩:TInt)⟩:TRat)).bind fun rCmpRat =>
    (cond (decide (rCmpRat > 0))
    (((g_e_AddRat N sum rproves12).bind fun rAddRat =>
    g_berth_proves_J2 N l proof x (g_berth_proves_L1 N l proof fuel) rAddRat))
    (g_berth_proves_J2 N l proof x (g_berth_proves_L1 N l proof fuel) sum)))))
    else none))
    (((g_e_CmpRat N sum (⟨(⟨false,([]:List Int)⟩:TInt),(⟨false,([]:List Int)⟩:TInt)⟩:TRat)).bind fun rCmpRat2 =>
    some (decide (rCmpRat2 < 0)))))
def g_berth_proves (N:Nat) (l:List TLine) (w:TWind) (proof:List TRat):Option (Bool) :=
  ((g_berth_blows N w).bind fun rblows =>
  ((g_berth_proves_1 N rblows proof).bind fun rproves1 =>
  g_berth_proves_L1 N l proof N rproves1 0))
def g_berth_CheckMooring (N:Nat) (l:List TLine) (w:TWind) (m:TMooring):Option (Int) :=
  ((g_berth_CheckLines N l).bind fun rCheckLines =>
  (cond (rCheckLines != 0)
  (some rCheckLines)
  (((g_berth_checkWind N w).bind fun rcheckWind =>
  (cond (rcheckWind != 0)
  (some rcheckWind)
  ((cond (cond (cond m.f_Holds (((m.f_Parts.length:Nat):Int) != ((l.length:Nat):Int)) false) true (cond (!m.f_Holds) (((m.f_Proof.length:Nat):Int) != 3) false))
  (some 11)
  (((cond m.f_Holds (g_berth_holds N l w m.f_Parts) (some false)).bind fun rholds =>
  ((cond ((!(cond m.f_Holds (!rholds) false)) && ((!(cond m.f_Holds (!rholds) false)) && (!m.f_Holds))) (g_berth_proves N l w m.f_Proof) (some false)).bind fun rproves =>
  (cond (cond (cond m.f_Holds (!rholds) false) true (cond (!m.f_Holds) (!rproves) false))
  (some 24)
  (some 0))))))))))))
def g_b_IsName_L1 (N:Nat) (s:ByteArray):Nat→Int→Option (Bool)
  | 0,_=>none
  | fuel+1,i =>
    (cond (decide (i < ((s.size:Nat):Int)))
    ((if 0≤i∧i < ((s.size:Nat):Int) then
    (cond (cond (!(cond (cond (decide ((byteAt s ((i).toNat)) ≥ 97)) (decide ((byteAt s ((i).toNat))≤122)) false) true (cond (decide ((byteAt s ((i).toNat)) ≥ 65)) (decide ((byteAt s ((i).toNat))≤90)) false))) (cond (i == 0) true (cond ((byteAt s ((i).toNat)) != 45) (cond (decide ((byteAt s ((i).toNat)) < 48)) true (decide ((byteAt s ((i).toNat)) > 57))) false)) false)
    (some false)
    (g_b_IsName_L1 N s fuel (w64 (i+1))))
    else none))
    (some true))
def g_b_IsName (N:Nat) (s:ByteArray):Option (Bool) :=
  (cond (cond (decide (((s.size:Nat):Int) < 1)) true (decide (((s.size:Nat):Int) > 12)))
  (some false)
  (g_b_IsName_L1 N s N 0))
def g_r06_inside (N:Nat) (n:Int) (low:Int) (high:Int):Option (Bool) :=
  some (cond (decide (n ≥ low)) (decide (n≤high)) false)
def g_r06_checkLine (N:Nat) (l:TLine):Option (Int) :=
  ((g_r06_inside N l.f_X (-1000000) 1000000).bind fun rinside =>
  ((cond (!(!rinside)) (g_r06_inside N l.f_Y (-1000000) 1000000) (some false)).bind fun rinside2 =>
  ((cond (!(cond (!rinside) true (!rinside2))) (g_r06_inside N l.f_ToX (-1000000) 1000000) (some false)).bind fun rinside3 =>
  ((cond (!(cond (cond (!rinside) true (!rinside2)) true (!rinside3))) (g_r06_inside N l.f_ToY (-1000000) 1000000) (some false)).bind fun rinside4 =>
  ((cond (!(cond (cond (cond (!rinside) true (!rinside2)) true (!rinside3)) true (!rinside4))) (g_r06_inside N l.f_Most 1 1000000000) (some false)).bind fun rinside5 =>
  (cond (cond (cond (cond (cond (!rinside) true (!rinside2)) true (!rinside3)) true (!rinside4)) true (!rinside5))
  (some 2)
  ((cond (cond (l.f_X == l.f_ToX) (l.f_Y == l.f_ToY) false)
  (some 9)
  (some 0)))))))))
def g_r06_CheckLines_L2 (N:Nat) (l:List TLine) (i:Int) (K_g_r06_CheckLines_L1:Int→Option (Int)):Nat→Int→Option (Int)
  | 0,_=>none
  | fuel+1,k =>
    (cond (decide (k < i))
    ((if 0≤k∧k < ((l.length:Nat):Int) then
    (if 0≤i∧i < ((l.length:Nat):Int) then
    (cond (streq ((l.getD ((k).toNat) TLine.d).f_Name) ((l.getD ((i).toNat) TLine.d).f_Name))
    (some 5)
    (g_r06_CheckLines_L2 N l i K_g_r06_CheckLines_L1 fuel (w64 (k+1))))
    else none)
    else none))
    ((if 0≤i∧i < ((l.length:Nat):Int) then
    ((g_r06_checkLine N (l.getD ((i).toNat) TLine.d)).bind fun rcheckLine =>
    (cond (rcheckLine != 0)
    (some rcheckLine)
    (K_g_r06_CheckLines_L1 (w64 (i+1)))))
    else none)))
def g_r06_CheckLines_L1 (N:Nat) (l:List TLine):Nat→Int→Option (Int)
  | 0,_=>none
  | fuel+1,i =>
    (cond (decide (i < ((l.length:Nat):Int)))
    ((if 0≤i∧i < ((l.length:Nat):Int) then
    ((g_b_IsName N ((l.getD ((i).toNat) TLine.d).f_Name)).bind fun rIsName =>
    (cond (!rIsName)
    (some 4)
    (g_r06_CheckLines_L2 N l i (g_r06_CheckLines_L1 N l fuel) N 0)))
    else none))
    (some 0))
def g_r06_CheckLines (N:Nat) (l:List TLine):Option (Int) :=
  (cond (decide (((l.length:Nat):Int) > 12))
  (some 8)
  (g_r06_CheckLines_L1 N l N 0))
def g_r06_CheckWind (N:Nat) (w:TWind):Option (Int) :=
  ((g_r06_inside N w.f_X (-1000000000) 1000000000).bind fun rinside =>
  ((cond (!(!rinside)) (g_r06_inside N w.f_Y (-1000000000) 1000000000) (some false)).bind fun rinside2 =>
  ((cond (!(cond (!rinside) true (!rinside2))) (g_r06_inside N w.f_Turn (-1000000000000000) 1000000000000000) (some false)).bind fun rinside3 =>
  (cond (cond (cond (!rinside) true (!rinside2)) true (!rinside3))
  (some 2)
  (some 0)))))
def g_r01_made_L1 (N:Nat) (neg:Bool) (a:List Int):Nat→(List Int)→Int→Option (TInt)
  | 0,_,_=>none
  | fuel+1,x,i =>
    (cond (decide (i < ((a.length:Nat):Int)))
    ((if 0≤i∧i < ((a.length:Nat):Int) then
    (if (x.length+1) * 2≤140737488355328 then
    g_r01_made_L1 N neg a fuel (x ++ ([(IntKind.u16.wrap ((a.getD ((i).toNat) 0)))]:List Int)) (w64 (i+1))
    else none)
    else none))
    (some (⟨(cond neg (decide (((a.length:Nat):Int) > 0)) false),x⟩:TInt)))
def g_r01_made (N:Nat) (neg:Bool) (a:List Int):Option (TInt) :=
  g_r01_made_L1 N neg a N ([]:List Int) 0
def g_r01_Of_L1 (N:Nat) (n:Int):Nat→(List Int)→Int→Option (TInt)
  | 0,_,_=>none
  | fuel+1,a,u =>
    (cond (decide (u > 0))
    ((if (a.length+1) * 8≤140737488355328 then
    g_r01_Of_L1 N n fuel (a ++ ([(w64 ((u.tmod 65536)))]:List Int)) (IntKind.u64.wrap (u.tdiv 65536))
    else none))
    (((g_r01_made N (decide (n < 0)) a).bind fun rmade =>
    some rmade)))
def g_r01_Of (N:Nat) (n:Int):Option (TInt) :=
  (cond (decide (n < 0))
  (g_r01_Of_L1 N n N ([]:List Int) (IntKind.u64.wrap (0 - (IntKind.u64.wrap (n)))))
  (g_r01_Of_L1 N n N ([]:List Int) (IntKind.u64.wrap (n))))
def g_r01_Q (N:Nat) (n:Int):Option (TRat) :=
  ((g_r01_Of N n).bind fun rOf =>
  ((g_r01_Of N 1).bind fun rOf2 =>
  some (⟨rOf,rOf2⟩:TRat)))
def g_r06_three (N:Nat) (w:TWind):Option (TS__3_api_Rat) :=
  ((g_r01_Q N w.f_X).bind fun rQ =>
  ((g_r01_Q N w.f_Y).bind fun rQ2 =>
  ((g_r01_Q N w.f_Turn).bind fun rQ3 =>
  some (⟨rQ,rQ2,rQ3⟩:TS__3_api_Rat))))
def g_r01_trim_L1 (N:Nat) (a:List Int):Nat→Int→Option ((List Int))
  | 0,_=>none
  | fuel+1,n =>
    (if ((decide (n > 0)) = true→0≤(w64 (n - 1))∧(w64 (n - 1)) < ((a.length:Nat):Int)) then
    (cond (cond (decide (n > 0)) ((a.getD ((w64 (n - 1)).toNat) 0) == 0) false)
    (g_r01_trim_L1 N a fuel (w64 (n - 1)))
    ((if 0≤(n).toNat∧(n).toNat≤a.length then
    (if 0≤n then
    (if (0+(n).toNat - 0) * 8≤140737488355328 then
    some (([]:List Int) ++ ((a.take ((n).toNat)).drop 0))
    else none)
    else none)
    else none)))
    else none)
def g_r01_trim (N:Nat) (a:List Int):Option ((List Int)) :=
  g_r01_trim_L1 N a N ((a.length:Nat):Int)
def g_r01_read_L1 (N:Nat) (l:List Int):Nat→(List Int)→Int→Option ((List Int))
  | 0,_,_=>none
  | fuel+1,a,i =>
    (cond (decide (i < ((l.length:Nat):Int)))
    ((if 0≤i∧i < ((l.length:Nat):Int) then
    (if (a.length+1) * 8≤140737488355328 then
    g_r01_read_L1 N l fuel (a ++ ([(w64 ((l.getD ((i).toNat) 0)))]:List Int)) (w64 (i+1))
    else none)
    else none))
    (((g_r01_trim N a).bind fun rtrim =>
    some rtrim)))
def g_r01_read (N:Nat) (l:List Int):Option ((List Int)) :=
  g_r01_read_L1 N l N ([]:List Int) 0
def g_r01_digit (N:Nat) (a:List Int) (i:Int):Option (Int) :=
  (cond (decide (i < ((a.length:Nat):Int)))
  ((if 0≤i∧i < ((a.length:Nat):Int) then
  some (a.getD ((i).toNat) 0)
  else none))
  (some 0))
def g_r01_times_L2 (N:Nat) (a:List Int) (b:List Int) (i:Int) (K_g_r01_times_L1:(List Int)→Int→Option ((List Int))):Nat→(List Int)→Int→Int→Option ((List Int))
  | 0,_,_,_=>none
  | fuel+1,out2,carry,k =>
    (cond (cond (decide (k < ((b.length:Nat):Int))) true (decide (carry > 0)))
    ((if 0≤(w64 (i+k))∧(w64 (i+k)) < ((out2.length:Nat):Int) then
    (if 0≤i∧i < ((a.length:Nat):Int) then
    ((g_r01_digit N b k).bind fun rdigit =>
    g_r01_times_L2 N a b i K_g_r01_times_L1 fuel (out2.set ((w64 (i+k)).toNat) ((w64 ((w64 ((out2.getD ((w64 (i+k)).toNat) 0)+(w64 ((a.getD ((i).toNat) 0) * rdigit))))+carry)).tmod 65536)) (w64 ((w64 ((w64 ((out2.getD ((w64 (i+k)).toNat) 0)+(w64 ((a.getD ((i).toNat) 0) * rdigit))))+carry)).tdiv 65536)) (w64 (k+1)))
    else none)
    else none))
    (K_g_r01_times_L1 out2 (w64 (i+1))))
def g_r01_times_L1 (N:Nat) (a:List Int) (b:List Int):Nat→(List Int)→Int→Option ((List Int))
  | 0,_,_=>none
  | fuel+1,out,i =>
    (cond (decide (i < ((a.length:Nat):Int)))
    (g_r01_times_L2 N a b i (g_r01_times_L1 N a b fuel) N out 0 0)
    (((g_r01_trim N out).bind fun rtrim =>
    some rtrim)))
def g_r01_times (N:Nat) (a:List Int) (b:List Int):Option ((List Int)) :=
  (if 0≤(w64 ((w64 (((a.length:Nat):Int)+((b.length:Nat):Int)))+1))∧(8:Int) * (w64 ((w64 (((a.length:Nat):Int)+((b.length:Nat):Int)))+1))≤281474976710656∧(w64 ((w64 (((a.length:Nat):Int)+((b.length:Nat):Int)))+1))≤9223372036854775807 then
  g_r01_times_L1 N a b N (List.replicate ((w64 ((w64 (((a.length:Nat):Int)+((b.length:Nat):Int)))+1)).toNat) 0:List Int) 0
  else none)
def g_r01_compare_L1 (N:Nat) (a:List Int) (b:List Int):Nat→Int→Option (Int)
  | 0,_=>none
  | fuel+1,i =>
    (cond (decide (i ≥ 0))
    ((if 0≤i∧i < ((a.length:Nat):Int) then
    (if 0≤i∧i < ((b.length:Nat):Int) then
    (cond ((a.getD ((i).toNat) 0) != (b.getD ((i).toNat) 0))
    (some (w64 ((a.getD ((i).toNat) 0) - (b.getD ((i).toNat) 0))))
    (g_r01_compare_L1 N a b fuel (w64 (i - 1))))
    else none)
    else none))
    (some 0))
def g_r01_compare (N:Nat) (a:List Int) (b:List Int):Option (Int) :=
  (cond (((a.length:Nat):Int) != ((b.length:Nat):Int))
  (some (w64 (((a.length:Nat):Int) - ((b.length:Nat):Int))))
  (g_r01_compare_L1 N a b N (w64 (((a.length:Nat):Int) - 1))))
def g_r01_minus_J2 (N:Nat) (a:List Int) (b:List Int) (out:List Int) (i:Int) (K_g_r01_minus_L1:(List Int)→Int→Int→Option ((List Int))) (borrow2:Int) (s:Int):Option ((List Int)) :=
  (if (out.length+1) * 8≤140737488355328 then
  K_g_r01_minus_L1 (out ++ ([s]:List Int)) borrow2 (w64 (i+1))
  else none)
def g_r01_minus_L1 (N:Nat) (a:List Int) (b:List Int):Nat→(List Int)→Int→Int→Option ((List Int))
  | 0,_,_,_=>none
  | fuel+1,out,borrow,i =>
    (cond (decide (i < ((a.length:Nat):Int)))
    ((if 0≤i∧i < ((a.length:Nat):Int) then
    ((g_r01_digit N b i).bind fun rdigit =>
    (cond (decide ((w64 ((w64 ((a.getD ((i).toNat) 0) - rdigit)) - borrow)) < 0))
    (g_r01_minus_J2 N a b out i (g_r01_minus_L1 N a b fuel) 1 (w64 ((w64 ((w64 ((a.getD ((i).toNat) 0) - rdigit)) - borrow))+65536)))
    (g_r01_minus_J2 N a b out i (g_r01_minus_L1 N a b fuel) 0 (w64 ((w64 ((a.getD ((i).toNat) 0) - rdigit)) - borrow)))))
    else none))
    (((g_r01_trim N out).bind fun rtrim =>
    some rtrim)))
def g_r01_minus (N:Nat) (a:List Int) (b:List Int):Option ((List Int)) :=
  g_r01_minus_L1 N a b N ([]:List Int) 0 0
def g_r01_over_J3 (N:Nat) (a:List Int) (b:List Int) (q:List Int) (i:Int) (lo:Int) (K_g_r01_over_L1:(List Int)→(List Int)→Int→Option ((List Int) × (List Int))) (rest2:List Int):Option ((List Int) × (List Int)) :=
  K_g_r01_over_L1 rest2 (q.set ((i).toNat) lo) (w64 (i - 1))
def g_r01_over_L2 (N:Nat) (a:List Int) (b:List Int) (q:List Int) (i:Int) (rtrim:(List Int)) (K_g_r01_over_L1:(List Int)→(List Int)→Int→Option ((List Int) × (List Int))):Nat→Int→Int→Option ((List Int) × (List Int))
  | 0,_,_=>none
  | fuel+1,lo,hi =>
    (cond (decide (lo < hi))
    (((g_r01_times N b ([(w64 ((w64 ((w64 (lo+hi))+1)).tdiv 2))]:List Int)).bind fun rtimes =>
    ((g_r01_compare N rtimes rtrim).bind fun rcompare =>
    (cond (decide (rcompare≤0))
    (g_r01_over_L2 N a b q i rtrim K_g_r01_over_L1 fuel (w64 ((w64 ((w64 (lo+hi))+1)).tdiv 2)) hi)
    (g_r01_over_L2 N a b q i rtrim K_g_r01_over_L1 fuel lo (w64 ((w64 ((w64 ((w64 (lo+hi))+1)).tdiv 2)) - 1)))))))
    ((if 0≤i∧i < ((q.length:Nat):Int) then
    (cond (decide (lo > 0))
    (((g_r01_times N b ([lo]:List Int)).bind fun rtimes2 =>
    ((g_r01_minus N rtrim rtimes2).bind fun rminus =>
    g_r01_over_J3 N a b q i lo K_g_r01_over_L1 rminus)))
    (g_r01_over_J3 N a b q i lo K_g_r01_over_L1 rtrim))
    else none)))
def g_r01_over_L1 (N:Nat) (a:List Int) (b:List Int):Nat→(List Int)→(List Int)→Int→Option ((List Int) × (List Int))
  | 0,_,_,_=>none
  | fuel+1,rest,q,i =>
    (cond (decide (i ≥ 0))
    ((if 0≤i∧i < ((a.length:Nat):Int) then
    (if (1+rest.length) * 8≤140737488355328 then
    ((g_r01_trim N (([(a.getD ((i).toNat) 0)]:List Int) ++ rest)).bind fun rtrim =>
    g_r01_over_L2 N a b q i rtrim (g_r01_over_L1 N a b fuel) N 0 65535)
    else none)
    else none))
    (((g_r01_trim N q).bind fun rtrim2 =>
    some (rtrim2,rest))))
def g_r01_over (N:Nat) (a:List Int) (b:List Int):Option ((List Int) × (List Int)) :=
  (if 0≤((a.length:Nat):Int)∧(8:Int) * ((a.length:Nat):Int)≤281474976710656∧((a.length:Nat):Int)≤9223372036854775807 then
  g_r01_over_L1 N a b N ([]:List Int) (List.replicate a.length 0:List Int) (w64 (((a.length:Nat):Int) - 1))
  else none)
def g_r01_gcd_L1 (N:Nat):Nat→(List Int)→(List Int)→Option ((List Int))
  | 0,_,_=>none
  | fuel+1,a2,b2 =>
    (cond (decide (((b2.length:Nat):Int) > 0))
    (((g_r01_over N a2 b2).bind fun rover =>
    g_r01_gcd_L1 N fuel b2 rover.2))
    (some a2))
def g_r01_gcd (N:Nat) (a:List Int) (b:List Int):Option ((List Int)) :=
  g_r01_gcd_L1 N N a b
def g_r01_Over (N:Nat) (a:TInt) (b:TInt):Option (TRat) :=
  ((g_r01_read N a.f_Limbs).bind fun rread =>
  ((g_r01_read N b.f_Limbs).bind fun rread2 =>
  (cond (((rread2.length:Nat):Int) == 0)
  (((g_r01_made N a.f_Neg rread).bind fun rmade =>
  ((g_r01_Of N 1).bind fun rOf =>
  some (⟨rmade,rOf⟩:TRat))))
  (((g_r01_gcd N rread rread2).bind fun rgcd =>
  ((g_r01_over N rread rgcd).bind fun rover =>
  ((g_r01_over N rread2 rgcd).bind fun rover2 =>
  ((g_r01_made N (!(a.f_Neg == b.f_Neg)) rover.1).bind fun rmade2 =>
  ((g_r01_made N false rover2.1).bind fun rmade3 =>
  some (⟨rmade2,rmade3⟩:TRat))))))))))
def g_r01_NormRat (N:Nat) (x:TRat):Option (TRat) :=
  ((g_r01_Over N x.f_Num x.f_Den).bind fun rOver =>
  some rOver)
def g_r01_Sign (N:Nat) (a:TInt):Option (Int) :=
  ((g_r01_read N a.f_Limbs).bind fun rread =>
  (cond (((rread.length:Nat):Int) == 0)
  (some 0)
  ((cond a.f_Neg
  (some (-1))
  (some 1)))))
def g_r01_SignRat (N:Nat) (x:TRat):Option (Int) :=
  ((g_r01_NormRat N x).bind fun rNormRat =>
  ((g_r01_Sign N rNormRat.f_Num).bind fun rSign =>
  some rSign))
def g_r01_Neg (N:Nat) (a:TInt):Option (TInt) :=
  ((g_r01_read N a.f_Limbs).bind fun rread =>
  ((g_r01_made N (!a.f_Neg) rread).bind fun rmade =>
  some rmade))
def g_r01_NegRat (N:Nat) (x:TRat):Option (TRat) :=
  ((g_r01_NormRat N x).bind fun rNormRat =>
  ((g_r01_Neg N rNormRat.f_Num).bind fun rNeg =>
  some (⟨rNeg,rNormRat.f_Den⟩:TRat)))
def g_r01_Mul (N:Nat) (a:TInt) (b:TInt):Option (TInt) :=
  ((g_r01_read N a.f_Limbs).bind fun rread =>
  ((g_r01_read N b.f_Limbs).bind fun rread2 =>
  ((g_r01_times N rread rread2).bind fun rtimes =>
  ((g_r01_made N (!(a.f_Neg == b.f_Neg)) rtimes).bind fun rmade =>
  some rmade))))
def g_r01_plus_L1 (N:Nat) (a:List Int) (b:List Int):Nat→(List Int)→Int→Int→Option ((List Int))
  | 0,_,_,_=>none
  | fuel+1,out,carry,i =>
    (cond (cond (cond (decide (i < ((a.length:Nat):Int))) true (decide (i < ((b.length:Nat):Int)))) true (decide (carry > 0)))
    (((g_r01_digit N a i).bind fun rdigit =>
    ((g_r01_digit N b i).bind fun rdigit2 =>
    (if (out.length+1) * 8≤140737488355328 then
    g_r01_plus_L1 N a b fuel (out ++ ([((w64 ((w64 (rdigit+rdigit2))+carry)).tmod 65536)]:List Int)) (w64 ((w64 ((w64 (rdigit+rdigit2))+carry)).tdiv 65536)) (w64 (i+1))
    else none))))
    (((g_r01_trim N out).bind fun rtrim =>
    some rtrim)))
def g_r01_plus (N:Nat) (a:List Int) (b:List Int):Option ((List Int)) :=
  g_r01_plus_L1 N a b N ([]:List Int) 0 0
def g_r01_Add (N:Nat) (a:TInt) (b:TInt):Option (TInt) :=
  ((g_r01_read N a.f_Limbs).bind fun rread =>
  ((g_r01_read N b.f_Limbs).bind fun rread2 =>
  (cond (a.f_Neg == b.f_Neg)
  (((g_r01_plus N rread rread2).bind fun rplus =>
  ((g_r01_made N a.f_Neg rplus).bind fun rmade =>
  some rmade)))
  (((g_r01_compare N rread rread2).bind fun rcompare =>
  (cond (decide (rcompare ≥ 0))
  (((g_r01_minus N rread rread2).bind fun rminus =>
  ((g_r01_made N a.f_Neg rminus).bind fun rmade2 =>
  some rmade2)))
  (((g_r01_minus N rread2 rread).bind fun rminus2 =>
  ((g_r01_made N b.f_Neg rminus2).bind fun rmade3 =>
  some rmade3)))))))))
def g_r01_AddRat (N:Nat) (x:TRat) (y:TRat):Option (TRat) :=
  ((g_r01_NormRat N x).bind fun rNormRat =>
  ((g_r01_NormRat N y).bind fun rNormRat2 =>
  ((g_r01_Mul N rNormRat.f_Num rNormRat2.f_Den).bind fun rMul =>
  ((g_r01_Mul N rNormRat2.f_Num rNormRat.f_Den).bind fun rMul2 =>
  ((g_r01_Add N rMul rMul2).bind fun rAdd =>
  ((g_r01_Mul N rNormRat.f_Den rNormRat2.f_Den).bind fun rMul3 =>
  ((g_r01_Over N rAdd rMul3).bind fun rOver =>
  some rOver)))))))
def g_r01_SubRat (N:Nat) (x:TRat) (y:TRat):Option (TRat) :=
  ((g_r01_NegRat N y).bind fun rNegRat =>
  ((g_r01_AddRat N x rNegRat).bind fun rAddRat =>
  some rAddRat))
def g_r01_CmpRat (N:Nat) (x:TRat) (y:TRat):Option (Int) :=
  ((g_r01_SubRat N x y).bind fun rSubRat =>
  ((g_r01_SignRat N rSubRat).bind fun rSignRat =>
  some rSignRat))
def g_r06_Span_J2 (N:Nat) (l:TLine) (step:Int) (K_g_r06_Span_L1:Int→Int→Option (Int)) (s2:Int):Option (Int) :=
  K_g_r06_Span_L1 s2 (w64 (step.tdiv 2))
def g_r06_Span_L1 (N:Nat) (l:TLine):Nat→Int→Int→Option (Int)
  | 0,_,_=>none
  | fuel+1,s,step =>
    (cond (decide (step > 0))
    ((cond (decide ((w64 ((w64 (s+step)) * (w64 (s+step)))) < (w64 ((w64 ((w64 (l.f_ToX - l.f_X)) * (w64 (l.f_ToX - l.f_X))))+(w64 ((w64 (l.f_ToY - l.f_Y)) * (w64 (l.f_ToY - l.f_Y))))))))
    (g_r06_Span_J2 N l step (g_r06_Span_L1 N l fuel) (w64 (s+step)))
    (g_r06_Span_J2 N l step (g_r06_Span_L1 N l fuel) s)))
    (some (w64 (s+1))))
def g_r06_Span (N:Nat) (l:TLine):Option (Int) :=
  g_r06_Span_L1 N l N 0 4194304
def g_r01_QuoRat (N:Nat) (x:TRat) (y:TRat):Option (TRat) :=
  ((g_r01_NormRat N x).bind fun rNormRat =>
  ((g_r01_NormRat N y).bind fun rNormRat2 =>
  ((g_r01_Mul N rNormRat.f_Num rNormRat2.f_Den).bind fun rMul =>
  ((g_r01_Mul N rNormRat.f_Den rNormRat2.f_Num).bind fun rMul2 =>
  ((g_r01_Over N rMul rMul2).bind fun rOver =>
  some rOver)))))
def g_r01_MulRat (N:Nat) (x:TRat) (y:TRat):Option (TRat) :=
  ((g_r01_NormRat N x).bind fun rNormRat =>
  ((g_r01_NormRat N y).bind fun rNormRat2 =>
  ((g_r01_Mul N rNormRat.f_Num rNormRat2.f_Num).bind fun rMul =>
  ((g_r01_Mul N rNormRat.f_Den rNormRat2.f_Den).bind fun rMul2 =>
  ((g_r01_Over N rMul rMul2).bind fun rOver =>
  some rOver)))))
def g_r06_Pull (N:Nat) (l:TLine):Option (TS__3_api_Rat) :=
  ((g_r01_Q N l.f_Most).bind fun rQ =>
  ((g_r06_Span N l).bind fun rSpan =>
  ((g_r01_Q N rSpan).bind fun rQ2 =>
  ((g_r01_QuoRat N rQ rQ2).bind fun rQuoRat =>
  ((g_r01_Q N (w64 (l.f_ToX - l.f_X))).bind fun rQ3 =>
  ((g_r01_MulRat N rQuoRat rQ3).bind fun rMulRat =>
  ((g_r01_Q N (w64 (l.f_ToY - l.f_Y))).bind fun rQ4 =>
  ((g_r01_MulRat N rQuoRat rQ4).bind fun rMulRat2 =>
  ((g_r01_Q N l.f_X).bind fun rQ5 =>
  ((g_r01_MulRat N rQ5 rMulRat2).bind fun rMulRat3 =>
  ((g_r01_Q N l.f_Y).bind fun rQ6 =>
  ((g_r01_MulRat N rQ6 rMulRat).bind fun rMulRat4 =>
  ((g_r01_SubRat N rMulRat3 rMulRat4).bind fun rSubRat =>
  some (⟨rMulRat,rMulRat2,rSubRat⟩:TS__3_api_Rat))))))))))))))
def g_r06_Balanced_L1 (N:Nat) (l:List TLine) (parts:List TRat):Nat→TS__3_api_Rat→Int→Option (Bool)
  | 0,_,_=>none
  | fuel+1,sum,i =>
    (cond (decide (i < ((l.length:Nat):Int)))
    ((if 0≤i∧i < ((parts.length:Nat):Int) then
    ((g_r01_SignRat N (⟨((parts.getD ((i).toNat) TRat.d).f_Num),((parts.getD ((i).toNat) TRat.d).f_Den)⟩:TRat)).bind fun rSignRat =>
    (if ((!(decide (rSignRat < 0))) = true→0≤i∧i < ((parts.length:Nat):Int)) then
    ((cond (!(decide (rSignRat < 0))) (g_r01_Q N 1) (some TRat.d)).bind fun rQ =>
    ((cond (!(decide (rSignRat < 0))) (g_r01_CmpRat N (⟨((parts.getD ((i).toNat) TRat.d).f_Num),((parts.getD ((i).toNat) TRat.d).f_Den)⟩:TRat) rQ) (some 0)).bind fun rCmpRat =>
    (cond (cond (decide (rSignRat < 0)) true (decide (rCmpRat > 0)))
    (some false)
    ((if 0≤i∧i < ((l.length:Nat):Int) then
    ((g_r06_Pull N (l.getD ((i).toNat) TLine.d)).bind fun rPull =>
    ((g_r01_MulRat N (⟨((parts.getD ((i).toNat) TRat.d).f_Num),((parts.getD ((i).toNat) TRat.d).f_Den)⟩:TRat) rPull.e0).bind fun rMulRat =>
    ((g_r01_AddRat N sum.e0 rMulRat).bind fun rAddRat =>
    ((g_r01_MulRat N (⟨((parts.getD ((i).toNat) TRat.d).f_Num),((parts.getD ((i).toNat) TRat.d).f_Den)⟩:TRat) rPull.e1).bind fun rMulRat2 =>
    ((g_r01_AddRat N sum.e1 rMulRat2).bind fun rAddRat2 =>
    ((g_r01_MulRat N (⟨((parts.getD ((i).toNat) TRat.d).f_Num),((parts.getD ((i).toNat) TRat.d).f_Den)⟩:TRat) rPull.e2).bind fun rMulRat3 =>
    ((g_r01_AddRat N sum.e2 rMulRat3).bind fun rAddRat3 =>
    g_r06_Balanced_L1 N l parts fuel (⟨rAddRat,rAddRat2,rAddRat3⟩:TS__3_api_Rat) (w64 (i+1)))))))))
    else none)))))
    else none))
    else none))
    (((g_r01_SignRat N sum.e0).bind fun rSignRat2 =>
    ((cond (rSignRat2 == 0) (g_r01_SignRat N sum.e1) (some 0)).bind fun rSignRat3 =>
    ((cond (cond (rSignRat2 == 0) (rSignRat3 == 0) false) (g_r01_SignRat N sum.e2) (some 0)).bind fun rSignRat4 =>
    some (cond (cond (rSignRat2 == 0) (rSignRat3 == 0) false) (rSignRat4 == 0) false))))))
def g_r06_Balanced (N:Nat) (l:List TLine) (w:TWind) (parts:List TRat):Option (Bool) :=
  ((g_r06_three N w).bind fun rthree =>
  g_r06_Balanced_L1 N l parts N rthree 0)
def g_r06_along (N:Nat) (d:List TRat) (p:TS__3_api_Rat):Option (TRat) :=
  ((g_r01_Q N 0).bind fun rQ =>
  (if 0≤(0:Int)∧0 < ((d.length:Nat):Int) then
  ((g_r01_MulRat N (⟨((d.getD 0 TRat.d).f_Num),((d.getD 0 TRat.d).f_Den)⟩:TRat) p.e0).bind fun rMulRat =>
  ((g_r01_AddRat N rQ rMulRat).bind fun rAddRat =>
  (if 0≤(1:Int)∧1 < ((d.length:Nat):Int) then
  ((g_r01_MulRat N (⟨((d.getD 1 TRat.d).f_Num),((d.getD 1 TRat.d).f_Den)⟩:TRat) p.e1).bind fun rMulRat2 =>
  ((g_r01_AddRat N rAddRat rMulRat2).bind fun rAddRat2 =>
  (if 0≤(2:Int)∧2 < ((d.length:Nat):Int) then
  ((g_r01_MulRat N (⟨((d.getD 2 TRat.d).f_Num),((d.getD 2 TRat.d).f_Den)⟩:TRat) p.e2).bind fun rMulRat3 =>
  ((g_r01_AddRat N rAddRat2 rMulRat3).bind fun rAddRat3 =>
  some rAddRat3))
  else none)))
  else none)))
  else none))
def g_r06_Refuted_J2 (N:Nat) (l:List TLine) (d:List TRat) (i:Int) (K_g_r06_Refuted_L1:TRat→Int→Option (Bool)) (sum2:TRat):Option (Bool) :=
  K_g_r06_Refuted_L1 sum2 (w64 (i+1))
def g_r06_Refuted_L1 (N:Nat) (l:List TLine) (d:List TRat):Nat→TRat→Int→Option (Bool)
  | 0,_,_=>none
  | fuel+1,sum,i =>
    (cond (decide (i < ((l.length:Nat):Int)))
    ((if 0≤i∧i < ((l.length:Nat):Int) then
    ((g_r06_Pull N (l.getD ((i).toNat) TLine.d)).bind fun rPull =>
    ((g_r06_along N d rPull).bind fun ralong2 =>
    ((g_r01_SignRat N ralong2).bind fun rSignRat =>
    (cond (decide (rSignRat > 0))
    (((g_r01_AddRat N sum ralong2).bind fun rAddRat =>
    g_r06_Refuted_J2 N l d i (g_r06_Refuted_L1 N l d fuel) rAddRat))
    (g_r06_Refuted_J2 N l d i (g_r06_Refuted_L1 N l d fuel) sum)))))
    else none))
    (((g_r01_SignRat N sum).bind fun rSignRat2 =>
    some (decide (rSignRat2 < 0)))))
def g_r06_Refuted (N:Nat) (l:List TLine) (w:TWind) (d:List TRat):Option (Bool) :=
  ((g_r06_three N w).bind fun rthree =>
  ((g_r06_along N d rthree).bind fun ralong =>
  g_r06_Refuted_L1 N l d N ralong 0))
def g_r06_CheckMooring (N:Nat) (l:List TLine) (w:TWind) (m:TMooring):Option (Int) :=
  ((g_r06_CheckLines N l).bind fun rCheckLines =>
  (cond (rCheckLines != 0)
  (some rCheckLines)
  (((g_r06_CheckWind N w).bind fun rCheckWind =>
  (cond (rCheckWind != 0)
  (some rCheckWind)
  ((cond m.f_Holds
  ((cond (((m.f_Parts.length:Nat):Int) != ((l.length:Nat):Int))
  (some 11)
  (((g_r06_Balanced N l w m.f_Parts).bind fun rBalanced =>
  (cond (!rBalanced)
  (some 24)
  (some 0))))))
  ((cond (((m.f_Proof.length:Nat):Int) != 3)
  (some 11)
  (((g_r06_Refuted N l w m.f_Proof).bind fun rRefuted =>
  (cond (!rRefuted)
  (some 24)
  (some 0)))))))))))))
def g_w06_BerthMoorings (N:Nat) (l:List TLine) (w:TWind) (m:TMooring):Option (Bool) :=
  ((g_w06_spans N).bind fun rspans =>
  (cond (!rspans)
  (some false)
  (((g_w06_slack N l).bind fun rslack =>
  ((cond (!(!rslack)) (g_w06_flat N m) (some false)).bind fun rflat =>
  (cond (cond (!rslack) true (!rflat))
  (some true)
  (((g_berth_CheckMooring N l w m).bind fun rCheckMooring =>
  ((g_r06_CheckMooring N l w m).bind fun rCheckMooring2 =>
  some (rCheckMooring == rCheckMooring2))))))))))
end Go.Den
