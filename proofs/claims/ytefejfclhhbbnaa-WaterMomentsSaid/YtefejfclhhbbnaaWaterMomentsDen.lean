/- The functions of the program as Lean functions, each in the Option monad; N bounds the rounds of loops. No conditions. -/
import Derived.Test.YtefejfclhhbbnaaCc
set_option linter.unusedVariables false
set_option linter.unusedSimpArgs false
set_option linter.unusedVariables false
namespace Go.Den
open Go.Ab
structure TPointMass where
  f_X:Int
  f_Y:Int
  f_Mass:Int
def TPointMass.d:TPointMass:=⟨0,0,0⟩
def TPointMass.wf (x:TPointMass):Prop:=wI x.f_X∧wI x.f_Y∧wI x.f_Mass
def TPointMass.cells (x:TPointMass):List AV:=[(aI x.f_X),(aI x.f_Y),(aI x.f_Mass)]
structure TTank where
  f_Name:ByteArray
  f_X:Int
  f_Y:Int
  f_Steps:Int
  f_Mass:Int
def TTank.d:TTank:=⟨ByteArray.empty,0,0,0,0⟩
def TTank.wf (x:TTank):Prop:=wS x.f_Name∧wI x.f_X∧wI x.f_Y∧wI x.f_Steps∧wI x.f_Mass
def TTank.cells (x:TTank):List AV:=[(aS x.f_Name),(aI x.f_X),(aI x.f_Y),(aI x.f_Steps),(aI x.f_Mass)]
structure TPontoon where
  f_Length:Int
  f_Breadth:Int
  f_Density:Int
  f_Masses:List TPointMass
  f_Tanks:List TTank
def TPontoon.d:TPontoon:=⟨0,0,0,[],[]⟩
def TPontoon.wf (x:TPontoon):Prop:=wI x.f_Length∧wI x.f_Breadth∧wI x.f_Density∧(wL TPointMass.wf) x.f_Masses∧(wL TTank.wf) x.f_Tanks
def TPontoon.cells (x:TPontoon):List AV:=[(aI x.f_Length),(aI x.f_Breadth),(aI x.f_Density),(encL TPointMass.cells TPointMass.d x.f_Masses),(encL TTank.cells TTank.d x.f_Tanks)]
structure TInt where
  f_Neg:Bool
  f_Limbs:List Int
def TInt.d:TInt:=⟨false,[]⟩
def TInt.wf (x:TInt):Prop:=wB x.f_Neg∧(wL (wK .u16)) x.f_Limbs
def TInt.cells (x:TInt):List AV:=[(aB x.f_Neg),(encL (cU .u16) 0 x.f_Limbs)]
structure TRat where
  f_Num:TInt
  f_Den:TInt
def TRat.d:TRat:=⟨TInt.d,TInt.d⟩
def TRat.wf (x:TRat):Prop:=TInt.wf x.f_Num∧TInt.wf x.f_Den
def TRat.cells (x:TRat):List AV:=[(aB x.f_Num.f_Neg),(encL (cU .u16) 0 x.f_Num.f_Limbs),(aB x.f_Den.f_Neg),(encL (cU .u16) 0 x.f_Den.f_Limbs)]
structure TPose where
  f_Draught:TRat
  f_Trim:TRat
  f_Heel:TRat
  f_Hog:TRat
def TPose.d:TPose:=⟨TRat.d,TRat.d,TRat.d,TRat.d⟩
def TPose.wf (x:TPose):Prop:=TRat.wf x.f_Draught∧TRat.wf x.f_Trim∧TRat.wf x.f_Heel∧TRat.wf x.f_Hog
def TPose.cells (x:TPose):List AV:=[(aB x.f_Draught.f_Num.f_Neg),(encL (cU .u16) 0 x.f_Draught.f_Num.f_Limbs),(aB x.f_Draught.f_Den.f_Neg),(encL (cU .u16) 0 x.f_Draught.f_Den.f_Limbs),(aB x.f_Trim.f_Num.f_Neg),(encL (cU .u16) 0 x.f_Trim.f_Num.f_Limbs),(aB x.f_Trim.f_Den.f_Neg),(encL (cU .u16) 0 x.f_Trim.f_Den.f_Limbs),(aB x.f_Heel.f_Num.f_Neg),(encL (cU .u16) 0 x.f_Heel.f_Num.f_Limbs),(aB x.f_Heel.f_Den.f_Neg),(encL (cU .u16) 0 x.f_Heel.f_Den.f_Limbs),(aB x.f_Hog.f_Num.f_Neg),(encL (cU .u16) 0 x.f_Hog.f_Num.f_Limbs),(aB x.f_Hog.f_Den.f_Neg),(encL (cU .u16) 0 x.f_Hog.f_Den.f_Limbs)]
structure Twater_state where
  e0:Int
  e1:Int
  e2:Int
  e3:Int
  e4:Int
  e5:Int
def Twater_state.d:Twater_state:=⟨0,0,0,0,0,0⟩
def Twater_state.wf (x:Twater_state):Prop:=wI x.e0∧wI x.e1∧wI x.e2∧wI x.e3∧wI x.e4∧wI x.e5
def Twater_state.cells (x:Twater_state):List AV:=[(aI x.e0),(aI x.e1),(aI x.e2),(aI x.e3),(aI x.e4),(aI x.e5)]
structure Twater_sums where
  f_mass:Int
  f_x:Int
  f_y:Int
  f_arm:Int
def Twater_sums.d:Twater_sums:=⟨0,0,0,0⟩
def Twater_sums.wf (x:Twater_sums):Prop:=wI x.f_mass∧wI x.f_x∧wI x.f_y∧wI x.f_arm
def Twater_sums.cells (x:Twater_sums):List AV:=[(aI x.f_mass),(aI x.f_x),(aI x.f_y),(aI x.f_arm)]
def g_water_between (N:Nat) (n:Int) (low:Int) (high:Int):Option (Bool) :=
  some (cond (decide (n ≥ low)) (decide (n≤high)) false)
def g_water_CheckPontoon_1 (N:Nat) (x:Int) (y:Int):Option (Bool) :=
  ((g_water_between N x (-1000000) 1000000).bind fun rbetween =>
  ((cond rbetween (g_water_between N y (-1000000) 1000000) (some false)).bind fun rbetween2 =>
  some (cond rbetween rbetween2 false)))
def g_water_CheckPontoon_2 (N:Nat) (i:Int) (cap0:TPontoon):Option (ByteArray) :=
  (if 0≤i∧i < ((cap0.f_Tanks.length:Nat):Int) then
  some ((cap0.f_Tanks.getD ((i).toNat) TTank.d).f_Name)
  else none)
def g_water_isName_L1 (N:Nat) (s:ByteArray):Nat→Int→Option (Bool)
  | 0,_=>none
  | fuel+1,x =>
    (cond (decide (x < ((s.size:Nat):Int)))
    ((if 0≤x∧x < (((bytesL s).length:Nat):Int) then
    (cond (cond (!(cond (cond (decide (((bytesL s).getD ((x).toNat) 0) ≥ 97)) (decide (((bytesL s).getD ((x).toNat) 0)≤122)) false) true (cond (decide (((bytesL s).getD ((x).toNat) 0) ≥ 65)) (decide (((bytesL s).getD ((x).toNat) 0)≤90)) false))) (cond (x == 0) true (cond (((bytesL s).getD ((x).toNat) 0) != 45) (cond (decide (((bytesL s).getD ((x).toNat) 0) < 48)) true (decide (((bytesL s).getD ((x).toNat) 0) > 57))) false)) false)
    (some false)
    (g_water_isName_L1 N s fuel (w64 (x+1))))
    else none))
    (some true))
def g_water_isName (N:Nat) (s:ByteArray):Option (Bool) :=
  ((g_water_between N ((s.size:Nat):Int) 1 12).bind fun rbetween =>
  (cond (!rbetween)
  (some false)
  (g_water_isName_L1 N s N 0)))
def g_water_CheckPontoon_3 (N:Nat) (i:Int) (cap0:TPontoon):Option (Int) :=
  (if 0≤i∧i < ((cap0.f_Tanks.length:Nat):Int) then
  ((g_water_CheckPontoon_1 N ((cap0.f_Tanks.getD ((i).toNat) TTank.d).f_X) ((cap0.f_Tanks.getD ((i).toNat) TTank.d).f_Y)).bind fun rCheckPontoon =>
  ((cond (!(!rCheckPontoon)) (g_water_between N ((cap0.f_Tanks.getD ((i).toNat) TTank.d).f_Steps) 0 12) (some false)).bind fun rbetween =>
  ((cond (!(cond (!rCheckPontoon) true (!rbetween))) (g_water_between N ((cap0.f_Tanks.getD ((i).toNat) TTank.d).f_Mass) 0 1000000000) (some false)).bind fun rbetween2 =>
  (cond (cond (cond (!rCheckPontoon) true (!rbetween)) true (!rbetween2))
  (some 2)
  (some 0)))))
  else none)
def g_water_checkNamed_L1 (N:Nat) (n:Int) (cap0:TPontoon):Nat→(List (ByteArray × Bool))→Int→Option (Int)
  | 0,_,_=>none
  | fuel+1,names,x =>
    (cond (decide (x < n))
    (((g_water_CheckPontoon_2 N x cap0).bind fun rCheckPontoon =>
    ((g_water_isName N rCheckPontoon).bind fun risName =>
    (cond (!risName)
    (some 4)
    ((cond ((mGet streq names rCheckPontoon).getD false)
    (some 5)
    (((g_water_CheckPontoon_3 N x cap0).bind fun rCheckPontoon2 =>
    (cond (rCheckPontoon2 != 0)
    (some rCheckPontoon2)
    (g_water_checkNamed_L1 N n cap0 fuel (mPut streq names rCheckPontoon true) (w64 (x+1))))))))))))
    (some 0))
def g_water_checkNamed (N:Nat) (n:Int) (most:Int) (cap0:TPontoon):Option (Int) :=
  (cond (decide (n > most))
  (some 8)
  (g_water_checkNamed_L1 N n cap0 N ([]:List (ByteArray × Bool)) 0))
def g_water_CheckPontoon_L1 (N:Nat) (p:TPontoon):Nat→Int→Option (Int)
  | 0,_=>none
  | fuel+1,x =>
    (cond (decide (x < ((p.f_Masses.length:Nat):Int)))
    ((if 0≤x∧x < ((p.f_Masses.length:Nat):Int) then
    ((g_water_CheckPontoon_1 N ((p.f_Masses.getD ((x).toNat) TPointMass.d).f_X) ((p.f_Masses.getD ((x).toNat) TPointMass.d).f_Y)).bind fun rCheckPontoon =>
    ((cond (!(!rCheckPontoon)) (g_water_between N ((p.f_Masses.getD ((x).toNat) TPointMass.d).f_Mass) 0 1000000000) (some false)).bind fun rbetween4 =>
    (cond (cond (!rCheckPontoon) true (!rbetween4))
    (some 2)
    (g_water_CheckPontoon_L1 N p fuel (w64 (x+1))))))
    else none))
    (((g_water_checkNamed N ((p.f_Tanks.length:Nat):Int) 6 p).bind fun rcheckNamed =>
    some rcheckNamed)))
def g_water_CheckPontoon (N:Nat) (p:TPontoon):Option (Int) :=
  ((g_water_between N p.f_Length 1 1000000).bind fun rbetween =>
  ((cond (!(!rbetween)) (g_water_between N p.f_Breadth 1 1000000) (some false)).bind fun rbetween2 =>
  ((cond (!(cond (!rbetween) true (!rbetween2))) (g_water_between N p.f_Density 900 1100) (some false)).bind fun rbetween3 =>
  (cond (cond (cond (!rbetween) true (!rbetween2)) true (!rbetween3))
  (some 2)
  ((cond (decide (((p.f_Masses.length:Nat):Int) > 20))
  (some 8)
  (g_water_CheckPontoon_L1 N p N 0)))))))
def g_water_checkSteps_L1 (N:Nat) (p:TPontoon) (steps:List Int):Nat→Twater_state→Int→Option (Twater_state × Int)
  | 0,_,_=>none
  | fuel+1,out,x =>
    (cond (decide (x < ((steps.length:Nat):Int)))
    ((if 0≤x∧x < ((steps.length:Nat):Int) then
    (if 0≤x∧x < ((p.f_Tanks.length:Nat):Int) then
    ((g_water_between N (steps.getD ((x).toNat) 0) 0 ((p.f_Tanks.getD ((x).toNat) TTank.d).f_Steps)).bind fun rbetween =>
    (cond (!rbetween)
    (some ((⟨0,0,0,0,0,0⟩:Twater_state),2))
    ((if 0≤x∧x < ((6:Nat):Int) then
    g_water_checkSteps_L1 N p steps fuel (⟨(setI ((x).toNat) 0 (steps.getD ((x).toNat) 0) out.e0),(setI ((x).toNat) 1 (steps.getD ((x).toNat) 0) out.e1),(setI ((x).toNat) 2 (steps.getD ((x).toNat) 0) out.e2),(setI ((x).toNat) 3 (steps.getD ((x).toNat) 0) out.e3),(setI ((x).toNat) 4 (steps.getD ((x).toNat) 0) out.e4),(setI ((x).toNat) 5 (steps.getD ((x).toNat) 0) out.e5)⟩:Twater_state) (w64 (x+1))
    else none))))
    else none)
    else none))
    (some (out,0)))
def g_water_checkSteps (N:Nat) (p:TPontoon) (steps:List Int):Option (Twater_state × Int) :=
  (cond (((steps.length:Nat):Int) != ((p.f_Tanks.length:Nat):Int))
  (some ((⟨0,0,0,0,0,0⟩:Twater_state),11))
  (g_water_checkSteps_L1 N p steps N (⟨0,0,0,0,0,0⟩:Twater_state) 0))
def g_water_sumOf_1 (N:Nat) (x:Int) (y:Int) (mass:Int) (cap0:Twater_sums):Option (Twater_sums) :=
  some (⟨(w64 (cap0.f_mass+mass)),(w64 (cap0.f_x+(w64 (mass * x)))),(w64 (cap0.f_y+(w64 (mass * y)))),(w64 (cap0.f_arm+(w64 (mass * (if (w64 (0 - x)) > x then (w64 (0 - x)) else x)))))⟩:Twater_sums)
def g_water_sumOf_L2 (N:Nat) (p:TPontoon) (s:Twater_state):Nat→Twater_sums→Int→Option (Twater_sums)
  | 0,_,_=>none
  | fuel+1,out2,x2 =>
    (cond (decide (x2 < ((p.f_Tanks.length:Nat):Int)))
    ((if 0≤x2∧x2 < ((p.f_Tanks.length:Nat):Int) then
    (if 0≤x2∧x2 < ((6:Nat):Int) then
    ((g_water_sumOf_1 N ((p.f_Tanks.getD ((x2).toNat) TTank.d).f_X) ((p.f_Tanks.getD ((x2).toNat) TTank.d).f_Y) (w64 ((pickI [s.e0,s.e1,s.e2,s.e3,s.e4,s.e5] ((x2).toNat)) * (p.f_Tanks.getD ((x2).toNat) TTank.d).f_Mass)) out2).bind fun rsumOf12 =>
    g_water_sumOf_L2 N p s fuel rsumOf12 (w64 (x2+1)))
    else none)
    else none))
    (some out2))
def g_water_sumOf_L1 (N:Nat) (p:TPontoon) (s:Twater_state):Nat→Twater_sums→Int→Option (Twater_sums)
  | 0,_,_=>none
  | fuel+1,out,x =>
    (cond (decide (x < ((p.f_Masses.length:Nat):Int)))
    ((if 0≤x∧x < ((p.f_Masses.length:Nat):Int) then
    ((g_water_sumOf_1 N ((p.f_Masses.getD ((x).toNat) TPointMass.d).f_X) ((p.f_Masses.getD ((x).toNat) TPointMass.d).f_Y) ((p.f_Masses.getD ((x).toNat) TPointMass.d).f_Mass) out).bind fun rsumOf1 =>
    g_water_sumOf_L1 N p s fuel rsumOf1 (w64 (x+1)))
    else none))
    (g_water_sumOf_L2 N p s N out 0))
def g_water_sumOf (N:Nat) (p:TPontoon) (s:Twater_state):Option (Twater_sums) :=
  g_water_sumOf_L1 N p s N (⟨0,0,0,0⟩:Twater_sums) 0
def g_e_natural_L1 (N:Nat):Nat→Int→(List Int)→Option ((List Int))
  | 0,_,_=>none
  | fuel+1,n2,out =>
    (cond (decide (n2 > 0))
    ((if (out.length+1) * 2≤140737488355328 then
    g_e_natural_L1 N fuel (shrI .u64 n2 16) (out ++ ([(IntKind.u16.wrap (n2))]:List Int))
    else none))
    (some out))
def g_e_natural (N:Nat) (n:Int):Option ((List Int)) :=
  g_e_natural_L1 N N n ([]:List Int)
def g_e_trim_L1 (N:Nat):Nat→(List Int)→Option ((List Int))
  | 0,_=>none
  | fuel+1,n2 =>
    (if ((decide (((n2.length:Nat):Int) > 0)) = true→0≤(w64 (((n2.length:Nat):Int) - 1))∧(w64 (((n2.length:Nat):Int) - 1)) < ((n2.length:Nat):Int)) then
    (cond (cond (decide (((n2.length:Nat):Int) > 0)) ((n2.getD ((w64 (((n2.length:Nat):Int) - 1)).toNat) 0) == 0) false)
    ((if 0≤(w64 (((n2.length:Nat):Int) - 1)).toNat∧(w64 (((n2.length:Nat):Int) - 1)).toNat≤n2.length then
    (if 0≤(w64 (((n2.length:Nat):Int) - 1)) then
    g_e_trim_L1 N fuel ((n2.take ((w64 (((n2.length:Nat):Int) - 1)).toNat)).drop 0)
    else none)
    else none))
    (some n2))
    else none)
def g_e_trim (N:Nat) (n:List Int):Option ((List Int)) :=
  g_e_trim_L1 N N n
def g_slices_Clone_uint16_uint16 (N:Nat) (s:List Int):Option ((List Int)) :=
  (if (0+s.length) * 2≤140737488355328 then
  some (([]:List Int) ++ s)
  else none)
def g_e_signed (N:Nat) (neg:Bool) (n:List Int):Option (TInt) :=
  ((g_e_trim N n).bind fun rtrim =>
  (cond (((rtrim.length:Nat):Int) == 0)
  (some (⟨false,([]:List Int)⟩:TInt))
  (((g_slices_Clone_uint16_uint16 N rtrim).bind fun rClone =>
  some (⟨neg,rClone⟩:TInt)))))
def g_e_Of (N:Nat) (n:Int):Option (TInt) :=
  (cond (decide (n < 0))
  (((g_e_natural N (IntKind.u64.wrap (0 - (IntKind.u64.wrap (n))))).bind fun rnatural =>
  ((g_e_signed N true rnatural).bind fun rsigned =>
  some rsigned)))
  (((g_e_natural N (IntKind.u64.wrap (n))).bind fun rnatural2 =>
  ((g_e_signed N false rnatural2).bind fun rsigned2 =>
  some rsigned2))))
def g_e_word_L1 (N:Nat) (n:List Int):Nat→Int→Int→Option (Int × Bool)
  | 0,_,_=>none
  | fuel+1,out,i =>
    (cond (decide (i ≥ 0))
    ((if 0≤i∧i < ((n.length:Nat):Int) then
    g_e_word_L1 N n fuel (orI .u64 (shlI .u64 out 16) (IntKind.u64.wrap ((n.getD ((i).toNat) 0)))) (w64 (i - 1))
    else none))
    (some (out,true)))
def g_e_word (N:Nat) (n:List Int):Option (Int × Bool) :=
  (cond (decide (((n.length:Nat):Int) > 4))
  (some (0,false))
  (g_e_word_L1 N n N 0 (w64 (((n.length:Nat):Int) - 1))))
def g_e_compare_L1 (N:Nat) (a:List Int) (b:List Int):Nat→Int→Option (Int)
  | 0,_=>none
  | fuel+1,i =>
    (cond (decide (i ≥ 0))
    ((if 0≤i∧i < ((a.length:Nat):Int) then
    (if 0≤i∧i < ((b.length:Nat):Int) then
    (cond ((a.getD ((i).toNat) 0) != (b.getD ((i).toNat) 0))
    (some (w64 ((w64 ((a.getD ((i).toNat) 0))) - (w64 ((b.getD ((i).toNat) 0))))))
    (g_e_compare_L1 N a b fuel (w64 (i - 1))))
    else none)
    else none))
    (some 0))
def g_e_compare (N:Nat) (a:List Int) (b:List Int):Option (Int) :=
  (cond (((a.length:Nat):Int) != ((b.length:Nat):Int))
  (some (w64 (((a.length:Nat):Int) - ((b.length:Nat):Int))))
  (g_e_compare_L1 N a b N (w64 (((a.length:Nat):Int) - 1))))
def g_e_short_L1 (N:Nat) (a:List Int) (b:Int):Nat→(List Int)→Int→Int→Option ((List Int) × Int)
  | 0,_,_,_=>none
  | fuel+1,q,rest,i =>
    (cond (decide (i ≥ 0))
    ((if 0≤i∧i < ((a.length:Nat):Int) then
    (if ((IntKind.u32.wrap (b)):Int) ≠ 0 then
    (if 0≤i∧i < ((q.length:Nat):Int) then
    g_e_short_L1 N a b fuel (q.set ((i).toNat) (IntKind.u16.wrap ((IntKind.u32.wrap ((orI .u32 (shlI .u32 rest 16) (IntKind.u32.wrap ((a.getD ((i).toNat) 0)))).tdiv (IntKind.u32.wrap (b))))))) ((orI .u32 (shlI .u32 rest 16) (IntKind.u32.wrap ((a.getD ((i).toNat) 0)))).tmod (IntKind.u32.wrap (b))) (w64 (i - 1))
    else none)
    else none)
    else none))
    (((g_e_trim N q).bind fun rtrim =>
    some (rtrim,(IntKind.u16.wrap (rest))))))
def g_e_short (N:Nat) (a:List Int) (b:Int):Option ((List Int) × Int) :=
  (if 0≤((a.length:Nat):Int)∧(2:Int) * ((a.length:Nat):Int)≤281474976710656∧((a.length:Nat):Int)≤9223372036854775807 then
  g_e_short_L1 N a b N (List.replicate a.length 0:List Int) 0 (w64 (((a.length:Nat):Int) - 1))
  else none)
def g_math_bits_Len16_J1 (N:Nat) (x2:Int) (n:Int):Option (Int) :=
  (if 0≤(IntKind.u8.wrap (x2))∧(IntKind.u8.wrap (x2)) < (((⟨#[0,1,2,2,3,3,3,3,4,4,4,4,4,4,4,4,5,5,5,5,5,5,5,5,5,5,5,5,5,5,5,5,6,6,6,6,6,6,6,6,6,6,6,6,6,6,6,6,6,6,6,6,6,6,6,6,6,6,6,6,6,6,6,6,7,7,7,7,7,7,7,7,7,7,7,7,7,7,7,7,7,7,7,7,7,7,7,7,7,7,7,7,7,7,7,7,7,7,7,7,7,7,7,7,7,7,7,7,7,7,7,7,7,7,7,7,7,7,7,7,7,7,7,7,7,7,7,7,8,8,8,8,8,8,8,8,8,8,8,8,8,8,8,8,8,8,8,8,8,8,8,8,8,8,8,8,8,8,8,8,8,8,8,8,8,8,8,8,8,8,8,8,8,8,8,8,8,8,8,8,8,8,8,8,8,8,8,8,8,8,8,8,8,8,8,8,8,8,8,8,8,8,8,8,8,8,8,8,8,8,8,8,8,8,8,8,8,8,8,8,8,8,8,8,8,8,8,8,8,8,8,8,8,8,8,8,8,8,8,8,8,8,8,8,8,8,8,8,8,8,8,8,8,8,8,8]⟩:ByteArray).size:Nat):Int) then
  some (w64 (n+(w64 ((byteAt (⟨#[0,1,2,2,3,3,3,3,4,4,4,4,4,4,4,4,5,5,5,5,5,5,5,5,5,5,5,5,5,5,5,5,6,6,6,6,6,6,6,6,6,6,6,6,6,6,6,6,6,6,6,6,6,6,6,6,6,6,6,6,6,6,6,6,7,7,7,7,7,7,7,7,7,7,7,7,7,7,7,7,7,7,7,7,7,7,7,7,7,7,7,7,7,7,7,7,7,7,7,7,7,7,7,7,7,7,7,7,7,7,7,7,7,7,7,7,7,7,7,7,7,7,7,7,7,7,7,7,8,8,8,8,8,8,8,8,8,8,8,8,8,8,8,8,8,8,8,8,8,8,8,8,8,8,8,8,8,8,8,8,8,8,8,8,8,8,8,8,8,8,8,8,8,8,8,8,8,8,8,8,8,8,8,8,8,8,8,8,8,8,8,8,8,8,8,8,8,8,8,8,8,8,8,8,8,8,8,8,8,8,8,8,8,8,8,8,8,8,8,8,8,8,8,8,8,8,8,8,8,8,8,8,8,8,8,8,8,8,8,8,8,8,8,8,8,8,8,8,8,8,8,8,8,8,8,8]⟩:ByteArray) ((IntKind.u8.wrap (x2)).toNat))))))
  else none)
def g_math_bits_Len16 (N:Nat) (x:Int):Option (Int) :=
  (cond (decide (x ≥ 256))
  (g_math_bits_Len16_J1 N (shrI .u16 x 8) 8)
  (g_math_bits_Len16_J1 N x 0))
def g_math_bits_LeadingZeros16 (N:Nat) (x:Int):Option (Int) :=
  ((g_math_bits_Len16 N x).bind fun rLen16 =>
  some (w64 (16 - rLen16)))
def g_e_shifted_L1 (N:Nat) (a:List Int) (vby:Int):Nat→(List Int)→Int→Option ((List Int))
  | 0,_,_=>none
  | fuel+1,out,x =>
    (cond (decide (x < ((a.length:Nat):Int)))
    ((if 0≤x∧x < ((a.length:Nat):Int) then
    (if (0:Int)≤vby then
    (if 0≤x∧x < ((out.length:Nat):Int) then
    (if 0≤(w64 (x+1))∧(w64 (x+1)) < (((out.set ((x).toNat) (orI .u16 (out.getD ((x).toNat) 0) (IntKind.u16.wrap ((shlI .u32 (IntKind.u32.wrap ((a.getD ((x).toNat) 0))) vby))))).length:Nat):Int) then
    g_e_shifted_L1 N a vby fuel ((out.set ((x).toNat) (orI .u16 (out.getD ((x).toNat) 0) (IntKind.u16.wrap ((shlI .u32 (IntKind.u32.wrap ((a.getD ((x).toNat) 0))) vby))))).set ((w64 (x+1)).toNat) (IntKind.u16.wrap ((shrI .u32 (shlI .u32 (IntKind.u32.wrap ((a.getD ((x).toNat) 0))) vby) 16)))) (w64 (x+1))
    else none)
    else none)
    else none)
    else none))
    (some out))
def g_e_shifted (N:Nat) (a:List Int) (vby:Int):Option ((List Int)) :=
  (if 0≤(w64 (((a.length:Nat):Int)+1))∧(2:Int) * (w64 (((a.length:Nat):Int)+1))≤281474976710656∧(w64 (((a.length:Nat):Int)+1))≤9223372036854775807 then
  g_e_shifted_L1 N a vby N (List.replicate ((w64 (((a.length:Nat):Int)+1)).toNat) 0:List Int) 0
  else none)
def g_e_digit_J3 (N:Nat) (uo:Nat) (un:Nat) (v:List Int) (q:Int) (cap02:List Int) (borrow:Int) (x:Int) (K_g_e_digit_L2:(List Int)→Int→Int→Int→Option (Int × (List Int))) (x2:Int):Option (Int × (List Int)) :=
  (if 0≤x∧x < ((un:Nat):Int) then
  (if uo+un≤cap02.length then
  K_g_e_digit_L2 (cap02.set (addz uo (x).toNat) (IntKind.u16.wrap ((w64 ((w64 ((w64 ((cap02.getD (addz uo (x).toNat) 0))) - (w64 ((andI .u64 x2 65535)))))+borrow))))) (shrI .u64 x2 16) (shrI .i64 (w64 ((w64 ((w64 ((cap02.getD (addz uo (x).toNat) 0))) - (w64 ((andI .u64 x2 65535)))))+borrow)) 16) (w64 (x+1))
  else none)
  else none)
def g_e_digit_J5 (N:Nat) (cap04:List Int) (q2:Int):Option (Int × (List Int)) :=
  some ((IntKind.u16.wrap (q2)),cap04)
def g_e_digit_L4 (N:Nat) (uo:Nat) (un:Nat) (v:List Int) (q:Int):Nat→(List Int)→Int→Int→Option (Int × (List Int))
  | 0,_,_,_=>none
  | fuel+1,cap03,carry2,x3 =>
    (cond (decide (x3 < ((v.length:Nat):Int)))
    ((if 0≤x3∧x3 < ((un:Nat):Int) then
    (if uo+un≤cap03.length then
    (if 0≤x3∧x3 < ((v.length:Nat):Int) then
    g_e_digit_L4 N uo un v q fuel (cap03.set (addz uo (x3).toNat) (IntKind.u16.wrap ((IntKind.u32.wrap (carry2+(IntKind.u32.wrap ((IntKind.u32.wrap ((cap03.getD (addz uo (x3).toNat) 0)))+(IntKind.u32.wrap ((v.getD ((x3).toNat) 0)))))))))) (shrI .u32 (IntKind.u32.wrap (carry2+(IntKind.u32.wrap ((IntKind.u32.wrap ((cap03.getD (addz uo (x3).toNat) 0)))+(IntKind.u32.wrap ((v.getD ((x3).toNat) 0))))))) 16) (w64 (x3+1))
    else none)
    else none)
    else none))
    ((if 0≤((v.length:Nat):Int)∧((v.length:Nat):Int) < ((un:Nat):Int) then
    (if uo+un≤cap03.length then
    g_e_digit_J5 N (cap03.set (addz uo v.length) (IntKind.u16.wrap ((cap03.getD (addz uo v.length) 0)+(IntKind.u16.wrap (carry2))))) (IntKind.u64.wrap (q - 1))
    else none)
    else none)))
def g_e_digit_L2 (N:Nat) (uo:Nat) (un:Nat) (v:List Int) (q:Int):Nat→(List Int)→Int→Int→Int→Option (Int × (List Int))
  | 0,_,_,_,_=>none
  | fuel+1,cap02,carry,borrow,x =>
    (cond (decide (x < (w64 (((v.length:Nat):Int)+1))))
    ((cond (decide (x < ((v.length:Nat):Int)))
    ((if 0≤x∧x < ((v.length:Nat):Int) then
    g_e_digit_J3 N uo un v q cap02 borrow x (g_e_digit_L2 N uo un v q fuel) (IntKind.u64.wrap (carry+(IntKind.u64.wrap (q * (IntKind.u64.wrap ((v.getD ((x).toNat) 0)))))))
    else none))
    (g_e_digit_J3 N uo un v q cap02 borrow x (g_e_digit_L2 N uo un v q fuel) carry)))
    ((cond (decide (borrow < 0))
    (g_e_digit_L4 N uo un v q N cap02 0 0)
    (g_e_digit_J5 N cap02 q))))
def g_e_digit_L1 (N:Nat) (uo:Nat) (un:Nat) (v:List Int) (cap0:List Int):Nat→Int→Int→Option (Int × (List Int))
  | 0,_,_=>none
  | fuel+1,q,rest =>
    (if (((decide (rest < 65536)) && ((decide (rest < 65536)) && (!(decide (q > 65535))))) = true→0≤(w64 (((v.length:Nat):Int) - 2))∧(w64 (((v.length:Nat):Int) - 2)) < ((v.length:Nat):Int)) then
    (if (((decide (rest < 65536)) && ((decide (rest < 65536)) && (!(decide (q > 65535))))) = true→0≤(w64 (((v.length:Nat):Int) - 2))∧(w64 (((v.length:Nat):Int) - 2)) < ((un:Nat):Int)) then
    (if (((decide (rest < 65536)) && ((decide (rest < 65536)) && (!(decide (q > 65535))))) = true→uo+un≤cap0.length) then
    (cond (cond (decide (rest < 65536)) (cond (decide (q > 65535)) true (decide ((IntKind.u64.wrap (q * (IntKind.u64.wrap ((v.getD ((w64 (((v.length:Nat):Int) - 2)).toNat) 0))))) > (orI .u64 (shlI .u64 rest 16) (IntKind.u64.wrap ((cap0.getD (addz uo (w64 (((v.length:Nat):Int) - 2)).toNat) 0))))))) false)
    ((if 0≤(w64 (((v.length:Nat):Int) - 1))∧(w64 (((v.length:Nat):Int) - 1)) < ((v.length:Nat):Int) then
    g_e_digit_L1 N uo un v cap0 fuel (IntKind.u64.wrap (q - 1)) (IntKind.u64.wrap (rest+(IntKind.u64.wrap ((v.getD ((w64 (((v.length:Nat):Int) - 1)).toNat) 0)))))
    else none))
    (g_e_digit_L2 N uo un v q N cap0 0 0 0))
    else none)
    else none)
    else none)
def g_e_digit (N:Nat) (uo:Nat) (un:Nat) (v:List Int) (cap0:List Int):Option (Int × (List Int)) :=
  (if 0≤((v.length:Nat):Int)∧((v.length:Nat):Int) < ((un:Nat):Int) then
  (if uo+un≤cap0.length then
  (if 0≤(w64 (((v.length:Nat):Int) - 1))∧(w64 (((v.length:Nat):Int) - 1)) < ((un:Nat):Int) then
  (if 0≤(w64 (((v.length:Nat):Int) - 1))∧(w64 (((v.length:Nat):Int) - 1)) < ((v.length:Nat):Int) then
  (if ((IntKind.u64.wrap ((v.getD ((w64 (((v.length:Nat):Int) - 1)).toNat) 0))):Int) ≠ 0 then
  g_e_digit_L1 N uo un v cap0 N (IntKind.u64.wrap ((orI .u64 (shlI .u64 (IntKind.u64.wrap ((cap0.getD (addz uo v.length) 0))) 16) (IntKind.u64.wrap ((cap0.getD (addz uo (w64 (((v.length:Nat):Int) - 1)).toNat) 0)))).tdiv (IntKind.u64.wrap ((v.getD ((w64 (((v.length:Nat):Int) - 1)).toNat) 0))))) ((orI .u64 (shlI .u64 (IntKind.u64.wrap ((cap0.getD (addz uo v.length) 0))) 16) (IntKind.u64.wrap ((cap0.getD (addz uo (w64 (((v.length:Nat):Int) - 1)).toNat) 0)))).tmod (IntKind.u64.wrap ((v.getD ((w64 (((v.length:Nat):Int) - 1)).toNat) 0))))
  else none)
  else none)
  else none)
  else none)
  else none)
def g_e_divide_L2 (N:Nat) (b:List Int) (rLeadingZeros:Int) (q:List Int) (u:List Int):Nat→(List Int)→Int→Option ((List Int) × (List Int))
  | 0,_,_=>none
  | fuel+1,vr,x =>
    (cond (decide (x < (((b.length - 0):Nat):Int)))
    ((if 0≤x∧x < ((u.length:Nat):Int) then
    (if 0≤(w64 (x+1))∧(w64 (x+1)) < ((u.length:Nat):Int) then
    (if (0:Int)≤rLeadingZeros then
    (if 0≤x∧x < ((vr.length:Nat):Int) then
    g_e_divide_L2 N b rLeadingZeros q u fuel (vr.set ((x).toNat) (IntKind.u16.wrap ((shrI .u32 (orI .u32 (IntKind.u32.wrap ((u.getD ((x).toNat) 0))) (shlI .u32 (IntKind.u32.wrap ((u.getD ((w64 (x+1)).toNat) 0))) 16)) rLeadingZeros)))) (w64 (x+1))
    else none)
    else none)
    else none)
    else none))
    (((g_e_trim N q).bind fun rtrim2 =>
    ((g_e_trim N vr).bind fun rtrim3 =>
    some (rtrim2,rtrim3)))))
def g_e_divide_L1 (N:Nat) (b:List Int) (rLeadingZeros:Int) (rshifted2:(List Int)):Nat→(List Int)→(List Int)→Int→Option ((List Int) × (List Int))
  | 0,_,_,_=>none
  | fuel+1,q,u,j =>
    (cond (decide (j ≥ 0))
    ((if (j).toNat≤(w64 ((w64 (j+(((b.length - 0):Nat):Int)))+1)).toNat∧(w64 ((w64 (j+(((b.length - 0):Nat):Int)))+1)).toNat≤u.length then
    (if 0≤j then
    (if 0≤(w64 ((w64 (j+(((b.length - 0):Nat):Int)))+1)) then
    (if 0≤b.length∧b.length≤rshifted2.length then
    ((g_e_digit N ((j).toNat) ((w64 ((w64 (j+(((b.length - 0):Nat):Int)))+1)).toNat - (j).toNat) ((rshifted2.take b.length).drop 0) u).bind fun rdigit =>
    (if rdigit.2.length = u.length then
    (if 0≤j∧j < ((q.length:Nat):Int) then
    g_e_divide_L1 N b rLeadingZeros rshifted2 fuel (q.set ((j).toNat) rdigit.1) rdigit.2 (w64 (j - 1))
    else none)
    else none))
    else none)
    else none)
    else none)
    else none))
    ((if 0≤(((b.length - 0):Nat):Int)∧(2:Int) * (((b.length - 0):Nat):Int)≤281474976710656∧(((b.length - 0):Nat):Int)≤9223372036854775807 then
    g_e_divide_L2 N b rLeadingZeros q u N (List.replicate (b.length - 0) 0:List Int) 0
    else none)))
def g_e_divide (N:Nat) (a:List Int) (b:List Int):Option ((List Int) × (List Int)) :=
  ((g_e_compare N a b).bind fun rcompare =>
  (cond (decide (rcompare < 0))
  (((g_slices_Clone_uint16_uint16 N a).bind fun rClone =>
  some (([]:List Int),rClone)))
  ((cond (((b.length:Nat):Int) == 1)
  ((if 0≤(0:Int)∧0 < ((b.length:Nat):Int) then
  ((g_e_short N a (b.getD 0 0)).bind fun rshort =>
  ((g_e_trim N ([rshort.2]:List Int)).bind fun rtrim =>
  some (rshort.1,rtrim)))
  else none))
  ((if 0≤(w64 (((b.length:Nat):Int) - 1))∧(w64 (((b.length:Nat):Int) - 1)) < ((b.length:Nat):Int) then
  ((g_math_bits_LeadingZeros16 N (b.getD ((w64 (((b.length:Nat):Int) - 1)).toNat) 0)).bind fun rLeadingZeros =>
  ((g_e_shifted N a rLeadingZeros).bind fun rshifted =>
  ((g_e_shifted N b rLeadingZeros).bind fun rshifted2 =>
  (if 0≤b.length∧b.length≤rshifted2.length then
  (if 0≤(w64 (((rshifted.length:Nat):Int) - (((b.length - 0):Nat):Int)))∧(2:Int) * (w64 (((rshifted.length:Nat):Int) - (((b.length - 0):Nat):Int)))≤281474976710656∧(w64 (((rshifted.length:Nat):Int) - (((b.length - 0):Nat):Int)))≤9223372036854775807 then
  g_e_divide_L1 N b rLeadingZeros rshifted2 N (List.replicate ((w64 (((rshifted.length:Nat):Int) - (((b.length - 0):Nat):Int))).toNat) 0:List Int) rshifted (w64 ((w64 (((rshifted.length:Nat):Int) - (((b.length - 0):Nat):Int))) - 1))
  else none)
  else none))))
  else none))))))
def g_e_common_L2 (N:Nat) (K_g_e_common_L1:(List Int)→(List Int)→Option ((List Int))):Nat→Int→Int→Option ((List Int))
  | 0,_,_=>none
  | fuel+1,x,y =>
    (cond (decide (y > 0))
    ((if (y:Int) ≠ 0 then
    g_e_common_L2 N K_g_e_common_L1 fuel y (x.tmod y)
    else none))
    (((g_e_natural N x).bind fun rnatural =>
    some rnatural)))
def g_e_common_L1 (N:Nat):Nat→(List Int)→(List Int)→Option ((List Int))
  | 0,_,_=>none
  | fuel+1,a2,b2 =>
    (cond (decide (((b2.length:Nat):Int) > 0))
    (((g_e_word N a2).bind fun rword =>
    ((g_e_word N b2).bind fun rword2 =>
    (cond (cond rword.2 rword2.2 false)
    (g_e_common_L2 N (g_e_common_L1 N fuel) N rword.1 rword2.1)
    (((g_e_divide N a2 b2).bind fun rdivide =>
    g_e_common_L1 N fuel b2 rdivide.2))))))
    (some a2))
def g_e_common (N:Nat) (a:List Int) (b:List Int):Option ((List Int)) :=
  g_e_common_L1 N N a b
def g_e_fraction_J1 (N:Nat) (a:TInt) (b:TInt) (x:List Int) (y:List Int):Option (TRat) :=
  ((g_e_signed N (!(a.f_Neg == b.f_Neg)) x).bind fun rsigned =>
  ((g_e_signed N false y).bind fun rsigned2 =>
  some (⟨rsigned,rsigned2⟩:TRat)))
def g_e_fraction (N:Nat) (a:TInt) (b:TInt):Option (TRat) :=
  ((g_e_trim N a.f_Limbs).bind fun rtrim =>
  ((g_e_trim N b.f_Limbs).bind fun rtrim2 =>
  ((g_e_common N rtrim rtrim2).bind fun rcommon =>
  (if ((!(((rcommon.length:Nat):Int) != 1)) = true→0≤(0:Int)∧0 < ((rcommon.length:Nat):Int)) then
  (cond (cond (((rcommon.length:Nat):Int) != 1) true ((rcommon.getD 0 0) != 1))
  (((g_e_divide N rtrim rcommon).bind fun rdivide =>
  ((g_e_divide N rtrim2 rcommon).bind fun rdivide2 =>
  g_e_fraction_J1 N a b rdivide.1 rdivide2.1)))
  (g_e_fraction_J1 N a b rtrim rtrim2))
  else none))))
def g_e_Whole (N:Nat) (a:TInt):Option (TRat) :=
  ((g_e_fraction N a (⟨false,([1]:List Int)⟩:TInt)).bind fun rfraction =>
  some rfraction)
def g_e_times_L2 (N:Nat) (a:List Int) (b:List Int) (x:Int) (K_g_e_times_L1:(List Int)→Int→Option ((List Int))):Nat→(List Int)→Int→Int→Option ((List Int))
  | 0,_,_,_=>none
  | fuel+1,out2,carry,x2 =>
    (cond (decide (x2 < ((b.length:Nat):Int)))
    ((if 0≤x2∧x2 < ((b.length:Nat):Int) then
    (if 0≤(w64 (x+x2))∧(w64 (x+x2)) < ((out2.length:Nat):Int) then
    g_e_times_L2 N a b x K_g_e_times_L1 fuel (out2.set ((w64 (x+x2)).toNat) (IntKind.u16.wrap ((IntKind.u32.wrap (carry+(IntKind.u32.wrap ((IntKind.u32.wrap ((IntKind.u32.wrap ((a.getD ((x).toNat) 0))) * (IntKind.u32.wrap ((b.getD ((x2).toNat) 0)))))+(IntKind.u32.wrap ((out2.getD ((w64 (x+x2)).toNat) 0)))))))))) (shrI .u32 (IntKind.u32.wrap (carry+(IntKind.u32.wrap ((IntKind.u32.wrap ((IntKind.u32.wrap ((a.getD ((x).toNat) 0))) * (IntKind.u32.wrap ((b.getD ((x2).toNat) 0)))))+(IntKind.u32.wrap ((out2.getD ((w64 (x+x2)).toNat) 0))))))) 16) (w64 (x2+1))
    else none)
    else none))
    ((if 0≤(w64 (x+((b.length:Nat):Int)))∧(w64 (x+((b.length:Nat):Int))) < ((out2.length:Nat):Int) then
    K_g_e_times_L1 (out2.set ((w64 (x+((b.length:Nat):Int))).toNat) (IntKind.u16.wrap (carry))) (w64 (x+1))
    else none)))
def g_e_times_L1 (N:Nat) (a:List Int) (b:List Int):Nat→(List Int)→Int→Option ((List Int))
  | 0,_,_=>none
  | fuel+1,out,x =>
    (cond (decide (x < ((a.length:Nat):Int)))
    ((if 0≤x∧x < ((a.length:Nat):Int) then
    g_e_times_L2 N a b x (g_e_times_L1 N a b fuel) N out 0 0
    else none))
    (((g_e_trim N out).bind fun rtrim =>
    some rtrim)))
def g_e_times (N:Nat) (a:List Int) (b:List Int):Option ((List Int)) :=
  (if 0≤(w64 (((a.length:Nat):Int)+((b.length:Nat):Int)))∧(2:Int) * (w64 (((a.length:Nat):Int)+((b.length:Nat):Int)))≤281474976710656∧(w64 (((a.length:Nat):Int)+((b.length:Nat):Int)))≤9223372036854775807 then
  g_e_times_L1 N a b N (List.replicate ((w64 (((a.length:Nat):Int)+((b.length:Nat):Int))).toNat) 0:List Int) 0
  else none)
def g_e_Mul (N:Nat) (a:TInt) (b:TInt):Option (TInt) :=
  ((g_e_trim N a.f_Limbs).bind fun rtrim =>
  ((g_e_trim N b.f_Limbs).bind fun rtrim2 =>
  ((g_e_times N rtrim rtrim2).bind fun rtimes =>
  ((g_e_signed N (!(a.f_Neg == b.f_Neg)) rtimes).bind fun rsigned =>
  some rsigned))))
def g_e_sign (N:Nat) (a:TInt):Option (Int) :=
  ((g_e_trim N a.f_Limbs).bind fun rtrim =>
  (cond (((rtrim.length:Nat):Int) == 0)
  (some 0)
  ((cond a.f_Neg
  (some (-1))
  (some 1)))))
def g_e_below (N:Nat) (x:TRat):Option (TInt) :=
  ((g_e_sign N x.f_Den).bind fun rsign =>
  (cond (rsign == 0)
  (some (⟨false,([1]:List Int)⟩:TInt))
  (some x.f_Den)))
def g_e_MulRat (N:Nat) (x:TRat) (y:TRat):Option (TRat) :=
  ((g_e_Mul N x.f_Num y.f_Num).bind fun rMul =>
  ((g_e_below N x).bind fun rbelow =>
  ((g_e_below N y).bind fun rbelow2 =>
  ((g_e_Mul N rbelow rbelow2).bind fun rMul2 =>
  ((g_e_fraction N rMul rMul2).bind fun rfraction =>
  some rfraction)))))
def g_water_product_L1 (N:Nat) (l:List Int):Nat→TRat→Int→Option (TRat)
  | 0,_,_=>none
  | fuel+1,out,x =>
    (cond (decide (x < ((l.length:Nat):Int)))
    ((if 0≤x∧x < ((l.length:Nat):Int) then
    ((g_e_Of N (l.getD ((x).toNat) 0)).bind fun rOf2 =>
    ((g_e_Whole N rOf2).bind fun rWhole2 =>
    ((g_e_MulRat N out rWhole2).bind fun rMulRat =>
    g_water_product_L1 N l fuel rMulRat (w64 (x+1)))))
    else none))
    (some out))
def g_water_product (N:Nat) (l:List Int):Option (TRat) :=
  ((g_e_Of N 1).bind fun rOf =>
  ((g_e_Whole N rOf).bind fun rWhole =>
  g_water_product_L1 N l N rWhole 0))
def g_e_isZero (N:Nat) (x:TRat):Option (Bool) :=
  ((g_e_sign N x.f_Num).bind fun rsign =>
  some (rsign == 0))
def g_e_over (N:Nat) (x:TRat) (y:TRat):Option (TRat) :=
  ((g_e_below N y).bind fun rbelow =>
  ((g_e_Mul N x.f_Num rbelow).bind fun rMul =>
  ((g_e_below N x).bind fun rbelow2 =>
  ((g_e_Mul N rbelow2 y.f_Num).bind fun rMul2 =>
  ((g_e_fraction N rMul rMul2).bind fun rfraction =>
  some rfraction)))))
def g_e_QuoRat (N:Nat) (x:TRat) (y:TRat):Option (TRat × Int) :=
  ((g_e_isZero N y).bind fun risZero =>
  (cond risZero
  (some ((⟨(⟨false,([]:List Int)⟩:TInt),(⟨false,([]:List Int)⟩:TInt)⟩:TRat),9))
  (((g_e_over N x y).bind fun rover =>
  some (rover,0)))))
def g_water_quotient (N:Nat) (x:TRat) (y:TRat):Option (TRat) :=
  ((g_e_QuoRat N x y).bind fun rQuoRat =>
  some rQuoRat.1)
def g_e_opposite (N:Nat) (a:TInt):Option (TInt) :=
  some (⟨(!a.f_Neg),a.f_Limbs⟩:TInt)
def g_e_negative (N:Nat) (x:TRat):Option (TRat) :=
  ((g_e_opposite N x.f_Num).bind fun ropposite =>
  ((g_e_below N x).bind fun rbelow =>
  ((g_e_fraction N ropposite rbelow).bind fun rfraction =>
  some rfraction)))
def g_e_lowest (N:Nat) (x:TRat):Option (TRat) :=
  ((g_e_below N x).bind fun rbelow =>
  ((g_e_fraction N x.f_Num rbelow).bind fun rfraction =>
  some rfraction))
def g_e_plus_J3 (N:Nat) (a2:List Int) (b2:List Int) (out:List Int) (x:Int) (K_g_e_plus_L2:(List Int)→Int→Int→Option ((List Int))) (carry2:Int):Option ((List Int)) :=
  (if (out.length+1) * 2≤140737488355328 then
  K_g_e_plus_L2 (out ++ ([(IntKind.u16.wrap (carry2))]:List Int)) (shrI .u32 carry2 16) (w64 (x+1))
  else none)
def g_e_plus_L2 (N:Nat) (a2:List Int) (b2:List Int):Nat→(List Int)→Int→Int→Option ((List Int))
  | 0,_,_,_=>none
  | fuel+1,out,carry,x =>
    (cond (decide (x < ((a2.length:Nat):Int)))
    ((if 0≤x∧x < ((a2.length:Nat):Int) then
    (cond (decide (x < ((b2.length:Nat):Int)))
    ((if 0≤x∧x < ((b2.length:Nat):Int) then
    g_e_plus_J3 N a2 b2 out x (g_e_plus_L2 N a2 b2 fuel) (IntKind.u32.wrap ((IntKind.u32.wrap (carry+(IntKind.u32.wrap ((a2.getD ((x).toNat) 0)))))+(IntKind.u32.wrap ((b2.getD ((x).toNat) 0)))))
    else none))
    (g_e_plus_J3 N a2 b2 out x (g_e_plus_L2 N a2 b2 fuel) (IntKind.u32.wrap (carry+(IntKind.u32.wrap ((a2.getD ((x).toNat) 0)))))))
    else none))
    ((if (out.length+1) * 2≤140737488355328 then
    ((g_e_trim N (out ++ ([(IntKind.u16.wrap (carry))]:List Int))).bind fun rtrim =>
    some rtrim)
    else none)))
def g_e_plus_J1 (N:Nat) (a2:List Int) (b2:List Int):Option ((List Int)) :=
  (if 0≤(0:Int)∧(2:Int) * (w64 (((a2.length:Nat):Int)+1))≤281474976710656∧(w64 (((a2.length:Nat):Int)+1))≤9223372036854775807∧(0:Int)≤(w64 (((a2.length:Nat):Int)+1)) then
  g_e_plus_L2 N a2 b2 N (List.replicate 0 0:List Int) 0 0
  else none)
def g_e_plus (N:Nat) (a:List Int) (b:List Int):Option ((List Int)) :=
  (cond (decide (((a.length:Nat):Int) < ((b.length:Nat):Int)))
  (g_e_plus_J1 N b a)
  (g_e_plus_J1 N a b))
def g_e_minus_J3 (N:Nat) (a:List Int) (b:List Int) (out:List Int) (x:Int) (y:Int) (K_g_e_minus_L1:(List Int)→Int→Int→Option ((List Int))) (borrow2:Int):Option ((List Int)) :=
  (if 0≤x∧x < ((out.length:Nat):Int) then
  K_g_e_minus_L1 (out.set ((x).toNat) (IntKind.u16.wrap ((IntKind.u32.wrap ((IntKind.u32.wrap ((IntKind.u32.wrap ((a.getD ((x).toNat) 0)))+(shlI .u32 borrow2 16))) - y))))) borrow2 (w64 (x+1))
  else none)
def g_e_minus_J2 (N:Nat) (a:List Int) (b:List Int) (out:List Int) (x:Int) (K_g_e_minus_L1:(List Int)→Int→Int→Option ((List Int))) (y:Int):Option ((List Int)) :=
  (cond (decide ((IntKind.u32.wrap ((a.getD ((x).toNat) 0))) < y))
  (g_e_minus_J3 N a b out x y K_g_e_minus_L1 1)
  (g_e_minus_J3 N a b out x y K_g_e_minus_L1 0))
def g_e_minus_L1 (N:Nat) (a:List Int) (b:List Int):Nat→(List Int)→Int→Int→Option ((List Int))
  | 0,_,_,_=>none
  | fuel+1,out,borrow,x =>
    (cond (decide (x < ((a.length:Nat):Int)))
    ((if 0≤x∧x < ((a.length:Nat):Int) then
    (cond (decide (x < ((b.length:Nat):Int)))
    ((if 0≤x∧x < ((b.length:Nat):Int) then
    g_e_minus_J2 N a b out x (g_e_minus_L1 N a b fuel) (IntKind.u32.wrap (borrow+(IntKind.u32.wrap ((b.getD ((x).toNat) 0)))))
    else none))
    (g_e_minus_J2 N a b out x (g_e_minus_L1 N a b fuel) borrow))
    else none))
    (((g_e_trim N out).bind fun rtrim =>
    some rtrim)))
def g_e_minus (N:Nat) (a:List Int) (b:List Int):Option ((List Int)) :=
  (if 0≤((a.length:Nat):Int)∧(2:Int) * ((a.length:Nat):Int)≤281474976710656∧((a.length:Nat):Int)≤9223372036854775807 then
  g_e_minus_L1 N a b N (List.replicate a.length 0:List Int) 0 0
  else none)
def g_e_Add (N:Nat) (a:TInt) (b:TInt):Option (TInt) :=
  ((g_e_trim N a.f_Limbs).bind fun rtrim =>
  ((g_e_trim N b.f_Limbs).bind fun rtrim2 =>
  (cond (a.f_Neg == b.f_Neg)
  (((g_e_plus N rtrim rtrim2).bind fun rplus =>
  ((g_e_signed N a.f_Neg rplus).bind fun rsigned =>
  some rsigned)))
  (((g_e_compare N rtrim rtrim2).bind fun rcompare =>
  (cond (decide (rcompare ≥ 0))
  (((g_e_minus N rtrim rtrim2).bind fun rminus =>
  ((g_e_signed N a.f_Neg rminus).bind fun rsigned2 =>
  some rsigned2)))
  (((g_e_minus N rtrim2 rtrim).bind fun rminus2 =>
  ((g_e_signed N b.f_Neg rminus2).bind fun rsigned3 =>
  some rsigned3)))))))))
def g_e_AddRat (N:Nat) (x:TRat) (y:TRat):Option (TRat) :=
  ((g_e_isZero N x).bind fun risZero =>
  (cond risZero
  (((g_e_lowest N y).bind fun rlowest =>
  some rlowest))
  (((g_e_isZero N y).bind fun risZero2 =>
  (cond risZero2
  (((g_e_lowest N x).bind fun rlowest2 =>
  some rlowest2))
  (((g_e_below N x).bind fun rbelow =>
  ((g_e_below N y).bind fun rbelow2 =>
  ((g_e_Mul N x.f_Num rbelow2).bind fun rMul =>
  ((g_e_Mul N y.f_Num rbelow).bind fun rMul2 =>
  ((g_e_Add N rMul rMul2).bind fun rAdd =>
  ((g_e_Mul N rbelow rbelow2).bind fun rMul3 =>
  ((g_e_fraction N rAdd rMul3).bind fun rfraction =>
  some rfraction)))))))))))))
def g_e_SubRat (N:Nat) (x:TRat) (y:TRat):Option (TRat) :=
  ((g_e_negative N y).bind fun rnegative =>
  ((g_e_AddRat N x rnegative).bind fun rAddRat =>
  some rAddRat))
def g_water_Float (N:Nat) (p:TPontoon) (steps:List Int):Option (TPose × Int) :=
  ((g_water_CheckPontoon N p).bind fun rCheckPontoon =>
  (cond (rCheckPontoon != 0)
  (some ((⟨(⟨(⟨false,([]:List Int)⟩:TInt),(⟨false,([]:List Int)⟩:TInt)⟩:TRat),(⟨(⟨false,([]:List Int)⟩:TInt),(⟨false,([]:List Int)⟩:TInt)⟩:TRat),(⟨(⟨false,([]:List Int)⟩:TInt),(⟨false,([]:List Int)⟩:TInt)⟩:TRat),(⟨(⟨false,([]:List Int)⟩:TInt),(⟨false,([]:List Int)⟩:TInt)⟩:TRat)⟩:TPose),rCheckPontoon))
  (((g_water_checkSteps N p steps).bind fun rcheckSteps =>
  (cond (rcheckSteps.2 != 0)
  (some ((⟨(⟨(⟨false,([]:List Int)⟩:TInt),(⟨false,([]:List Int)⟩:TInt)⟩:TRat),(⟨(⟨false,([]:List Int)⟩:TInt),(⟨false,([]:List Int)⟩:TInt)⟩:TRat),(⟨(⟨false,([]:List Int)⟩:TInt),(⟨false,([]:List Int)⟩:TInt)⟩:TRat),(⟨(⟨false,([]:List Int)⟩:TInt),(⟨false,([]:List Int)⟩:TInt)⟩:TRat)⟩:TPose),rcheckSteps.2))
  (((g_water_sumOf N p rcheckSteps.1).bind fun rsumOf =>
  ((g_water_product N ([1000000000,rsumOf.f_mass]:List Int)).bind fun rproduct =>
  ((g_water_product N ([p.f_Density,p.f_Length,p.f_Breadth]:List Int)).bind fun rproduct2 =>
  ((g_water_quotient N rproduct rproduct2).bind fun rquotient =>
  ((g_water_product N ([12000000000,rsumOf.f_x]:List Int)).bind fun rproduct3 =>
  ((g_water_product N ([p.f_Density,p.f_Breadth,p.f_Length,p.f_Length,p.f_Length]:List Int)).bind fun rproduct4 =>
  ((g_water_quotient N rproduct3 rproduct4).bind fun rquotient2 =>
  ((g_water_product N ([12000000000,rsumOf.f_y]:List Int)).bind fun rproduct5 =>
  ((g_water_product N ([p.f_Density,p.f_Length,p.f_Breadth,p.f_Breadth,p.f_Breadth]:List Int)).bind fun rproduct6 =>
  ((g_water_quotient N rproduct5 rproduct6).bind fun rquotient3 =>
  ((g_water_product N ([rsumOf.f_arm]:List Int)).bind fun rproduct7 =>
  ((g_water_product N ([2]:List Int)).bind fun rproduct8 =>
  ((g_water_quotient N rproduct7 rproduct8).bind fun rquotient4 =>
  ((g_water_product N ([rsumOf.f_mass,p.f_Length]:List Int)).bind fun rproduct9 =>
  ((g_water_product N ([8]:List Int)).bind fun rproduct10 =>
  ((g_water_quotient N rproduct9 rproduct10).bind fun rquotient5 =>
  ((g_e_SubRat N rquotient4 rquotient5).bind fun rSubRat =>
  some ((⟨rquotient,rquotient2,rquotient3,rSubRat⟩:TPose),0))))))))))))))))))))))))
def g_b_limbs_L1 (N:Nat):Nat→Int→(List Int)→Option ((List Int))
  | 0,_,_=>none
  | fuel+1,n2,out =>
    (cond (decide (n2 > 0))
    ((if (out.length+1) * 2≤140737488355328 then
    g_b_limbs_L1 N fuel (shrI .u64 n2 16) (out ++ ([(IntKind.u16.wrap ((andI .u64 n2 65535)))]:List Int))
    else none))
    (some out))
def g_b_limbs (N:Nat) (n:Int):Option ((List Int)) :=
  g_b_limbs_L1 N N n ([]:List Int)
def g_b_Z (N:Nat) (n:Int):Option (TInt) :=
  (cond (decide (n < 0))
  (((g_b_limbs N (IntKind.u64.wrap ((IntKind.u64.wrap ((w64 (0 - (w64 (n+1))))))+1))).bind fun rlimbs =>
  some (⟨true,rlimbs⟩:TInt)))
  (((g_b_limbs N (IntKind.u64.wrap (n))).bind fun rlimbs2 =>
  some (⟨false,rlimbs2⟩:TInt))))
def g_b_W (N:Nat) (n:Int):Option (TRat) :=
  ((g_b_Z N n).bind fun rZ =>
  ((g_b_Z N 1).bind fun rZ2 =>
  some (⟨rZ,rZ2⟩:TRat)))
def g_b_SameInt_L1 (N:Nat) (a:TInt) (b:TInt):Nat→Int→Option (Bool)
  | 0,_=>none
  | fuel+1,i =>
    (cond (decide (i < ((a.f_Limbs.length:Nat):Int)))
    ((if 0≤i∧i < ((a.f_Limbs.length:Nat):Int) then
    (if 0≤i∧i < ((b.f_Limbs.length:Nat):Int) then
    (cond ((a.f_Limbs.getD ((i).toNat) 0) != (b.f_Limbs.getD ((i).toNat) 0))
    (some false)
    (g_b_SameInt_L1 N a b fuel (w64 (i+1))))
    else none)
    else none))
    (some true))
def g_b_SameInt (N:Nat) (a:TInt) (b:TInt):Option (Bool) :=
  (cond (cond (!(a.f_Neg == b.f_Neg)) true (((a.f_Limbs.length:Nat):Int) != ((b.f_Limbs.length:Nat):Int)))
  (some false)
  (g_b_SameInt_L1 N a b N 0))
def g_b_SameRat (N:Nat) (a:TRat) (b:TRat):Option (Bool) :=
  ((g_b_SameInt N a.f_Num b.f_Num).bind fun rSameInt =>
  ((cond rSameInt (g_b_SameInt N a.f_Den b.f_Den) (some false)).bind fun rSameInt2 =>
  some (cond rSameInt rSameInt2 false)))
def g_w05_afloat (N:Nat):Option (Bool) :=
  ((g_water_Float N (⟨100000,20000,1000,([(⟨0,0,2000000⟩:TPointMass)]:List TPointMass),([]:List TTank)⟩:TPontoon) ([]:List Int)).bind fun rFloat =>
  ((cond (rFloat.2 == 0) (g_b_W N 1000) (some TRat.d)).bind fun rW =>
  ((cond (rFloat.2 == 0) (g_b_SameRat N rFloat.1.f_Draught rW) (some false)).bind fun rSameRat =>
  ((cond (cond (rFloat.2 == 0) rSameRat false) (g_b_W N (-25000000000)) (some TRat.d)).bind fun rW2 =>
  ((cond (cond (rFloat.2 == 0) rSameRat false) (g_b_SameRat N rFloat.1.f_Hog rW2) (some false)).bind fun rSameRat2 =>
  some (cond (cond (rFloat.2 == 0) rSameRat false) rSameRat2 false))))))
def g_w05_fewMasses_L1 (N:Nat) (p:TPontoon):Nat→Int→Option (Bool)
  | 0,_=>none
  | fuel+1,i =>
    (cond (decide (i < ((p.f_Tanks.length:Nat):Int)))
    ((if 0≤i∧i < ((p.f_Tanks.length:Nat):Int) then
    (cond (decide (((((p.f_Tanks.getD ((i).toNat) TTank.d).f_Name).size:Nat):Int) > 40))
    (some false)
    (g_w05_fewMasses_L1 N p fuel (w64 (i+1))))
    else none))
    (some true))
def g_w05_fewMasses (N:Nat) (p:TPontoon):Option (Bool) :=
  (cond (cond (decide (((p.f_Masses.length:Nat):Int) > 25)) true (decide (((p.f_Tanks.length:Nat):Int) > 10)))
  (some false)
  (g_w05_fewMasses_L1 N p N 0))
def g_r01_trim_L1 (N:Nat) (a:List Int):Nat→Int→Option ((List Int))
  | 0,_=>none
  | fuel+1,n =>
    (if ((decide (n > 0)) = true→0≤(w64 (n - 1))∧(w64 (n - 1)) < ((a.length:Nat):Int)) then
    (cond (cond (decide (n > 0)) ((a.getD ((w64 (n - 1)).toNat) 0) == 0) false)
    (g_r01_trim_L1 N a fuel (w64 (n - 1)))
    ((if 0≤(n).toNat∧(n).toNat≤a.length then
    (if 0≤n then
    (if (0+(n).toNat - 0) * 8≤140737488355328 then
    some (([]:List Int) ++ ((a.take ((n).toNat)).drop 0))
    else none)
    else none)
    else none)))
    else none)
def g_r01_trim (N:Nat) (a:List Int):Option ((List Int)) :=
  g_r01_trim_L1 N a N ((a.length:Nat):Int)
def g_r01_read_L1 (N:Nat) (l:List Int):Nat→(List Int)→Int→Option ((List Int))
  | 0,_,_=>none
  | fuel+1,a,i =>
    (cond (decide (i < ((l.length:Nat):Int)))
    ((if 0≤i∧i < ((l.length:Nat):Int) then
    (if (a.length+1) * 8≤140737488355328 then
    g_r01_read_L1 N l fuel (a ++ ([(w64 ((l.getD ((i).toNat) 0)))]:List Int)) (w64 (i+1))
    else none)
    else none))
    (((g_r01_trim N a).bind fun rtrim =>
    some rtrim)))
def g_r01_read (N:Nat) (l:List Int):Option ((List Int)) :=
  g_r01_read_L1 N l N ([]:List Int) 0
def g_r01_made_L1 (N:Nat) (neg:Bool) (a:List Int):Nat→(List Int)→Int→Option (TInt)
  | 0,_,_=>none
  | fuel+1,x,i =>
    (cond (decide (i < ((a.length:Nat):Int)))
    ((if 0≤i∧i < ((a.length:Nat):Int) then
    (if (x.length+1) * 2≤140737488355328 then
    g_r01_made_L1 N neg a fuel (x ++ ([(IntKind.u16.wrap ((a.getD ((i).toNat) 0)))]:List Int)) (w64 (i+1))
    else none)
    else none))
    (some (⟨(cond neg (decide (((a.length:Nat):Int) > 0)) false),x⟩:TInt)))
def g_r01_made (N:Nat) (neg:Bool) (a:List Int):Option (TInt) :=
  g_r01_made_L1 N neg a N ([]:List Int) 0
def g_r01_Of_L1 (N:Nat) (n:Int):Nat→(List Int)→Int→Option (TInt)
  | 0,_,_=>none
  | fuel+1,a,u =>
    (cond (decide (u > 0))
    ((if (a.length+1) * 8≤140737488355328 then
    g_r01_Of_L1 N n fuel (a ++ ([(w64 ((u.tmod 65536)))]:List Int)) (IntKind.u64.wrap (u.tdiv 65536))
    else none))
    (((g_r01_made N (decide (n < 0)) a).bind fun rmade =>
    some rmade)))
def g_r01_Of (N:Nat) (n:Int):Option (TInt) :=
  (cond (decide (n < 0))
  (g_r01_Of_L1 N n N ([]:List Int) (IntKind.u64.wrap (0 - (IntKind.u64.wrap (n)))))
  (g_r01_Of_L1 N n N ([]:List Int) (IntKind.u64.wrap (n))))
def g_r01_digit (N:Nat) (a:List Int) (i:Int):Option (Int) :=
  (cond (decide (i < ((a.length:Nat):Int)))
  ((if 0≤i∧i < ((a.length:Nat):Int) then
  some (a.getD ((i).toNat) 0)
  else none))
  (some 0))
def g_r01_times_L2 (N:Nat) (a:List Int) (b:List Int) (i:Int) (K_g_r01_times_L1:(List Int)→Int→Option ((List Int))):Nat→(List Int)→Int→Int→Option ((List Int))
  | 0,_,_,_=>none
  | fuel+1,out2,carry,k =>
    (cond (cond (decide (k < ((b.length:Nat):Int))) true (decide (carry > 0)))
    ((if 0≤(w64 (i+k))∧(w64 (i+k)) < ((out2.length:Nat):Int) then
    (if 0≤i∧i < ((a.length:Nat):Int) then
    ((g_r01_digit N b k).bind fun rdigit =>
    g_r01_times_L2 N a b i K_g_r01_times_L1 fuel (out2.set ((w64 (i+k)).toNat) ((w64 ((w64 ((out2.getD ((w64 (i+k)).toNat) 0)+(w64 ((a.getD ((i).toNat) 0) * rdigit))))+carry)).tmod 65536)) (w64 ((w64 ((w64 ((out2.getD ((w64 (i+k)).toNat) 0)+(w64 ((a.getD ((i).toNat) 0) * rdigit))))+carry)).tdiv 65536)) (w64 (k+1)))
    else none)
    else none))
    (K_g_r01_times_L1 out2 (w64 (i+1))))
def g_r01_times_L1 (N:Nat) (a:List Int) (b:List Int):Nat→(List Int)→Int→Option ((List Int))
  | 0,_,_=>none
  | fuel+1,out,i =>
    (cond (decide (i < ((a.length:Nat):Int)))
    (g_r01_times_L2 N a b i (g_r01_times_L1 N a b fuel) N out 0 0)
    (((g_r01_trim N out).bind fun rtrim =>
    some rtrim)))
def g_r01_times (N:Nat) (a:List Int) (b:List Int):Option ((List Int)) :=
  (if 0≤(w64 ((w64 (((a.length:Nat):Int)+((b.length:Nat):Int)))+1))∧(8:Int) * (w64 ((w64 (((a.length:Nat):Int)+((b.length:Nat):Int)))+1))≤281474976710656∧(w64 ((w64 (((a.length:Nat):Int)+((b.length:Nat):Int)))+1))≤9223372036854775807 then
  g_r01_times_L1 N a b N (List.replicate ((w64 ((w64 (((a.length:Nat):Int)+((b.length:Nat):Int)))+1)).toNat) 0:List Int) 0
  else none)
def g_r01_compare_L1 (N:Nat) (a:List Int) (b:List Int):Nat→Int→Option (Int)
  | 0,_=>none
  | fuel+1,i =>
    (cond (decide (i ≥ 0))
    ((if 0≤i∧i < ((a.length:Nat):Int) then
    (if 0≤i∧i < ((b.length:Nat):Int) then
    (cond ((a.getD ((i).toNat) 0) != (b.getD ((i).toNat) 0))
    (some (w64 ((a.getD ((i).toNat) 0) - (b.getD ((i).toNat) 0))))
    (g_r01_compare_L1 N a b fuel (w64 (i - 1))))
    else none)
    else none))
    (some 0))
def g_r01_compare (N:Nat) (a:List Int) (b:List Int):Option (Int) :=
  (cond (((a.length:Nat):Int) != ((b.length:Nat):Int))
  (some (w64 (((a.length:Nat):Int) - ((b.length:Nat):Int))))
  (g_r01_compare_L1 N a b N (w64 (((a.length:Nat):Int) - 1))))
def g_r01_minus_J2 (N:Nat) (a:List Int) (b:List Int) (out:List Int) (i:Int) (K_g_r01_minus_L1:(List Int)→Int→Int→Option ((List Int))) (borrow2:Int) (s:Int):Option ((List Int)) :=
  (if (out.length+1) * 8≤140737488355328 then
  K_g_r01_minus_L1 (out ++ ([s]:List Int)) borrow2 (w64 (i+1))
  else none)
def g_r01_minus_L1 (N:Nat) (a:List Int) (b:List Int):Nat→(List Int)→Int→Int→Option ((List Int))
  | 0,_,_,_=>none
  | fuel+1,out,borrow,i =>
    (cond (decide (i < ((a.length:Nat):Int)))
    ((if 0≤i∧i < ((a.length:Nat):Int) then
    ((g_r01_digit N b i).bind fun rdigit =>
    (cond (decide ((w64 ((w64 ((a.getD ((i).toNat) 0) - rdigit)) - borrow)) < 0))
    (g_r01_minus_J2 N a b out i (g_r01_minus_L1 N a b fuel) 1 (w64 ((w64 ((w64 ((a.getD ((i).toNat) 0) - rdigit)) - borrow))+65536)))
    (g_r01_minus_J2 N a b out i (g_r01_minus_L1 N a b fuel) 0 (w64 ((w64 ((a.getD ((i).toNat) 0) - rdigit)) - borrow)))))
    else none))
    (((g_r01_trim N out).bind fun rtrim =>
    some rtrim)))
def g_r01_minus (N:Nat) (a:List Int) (b:List Int):Option ((List Int)) :=
  g_r01_minus_L1 N a b N ([]:List Int) 0 0
def g_r01_over_J3 (N:Nat) (a:List Int) (b:List Int) (q:List Int) (i:Int) (lo:Int) (K_g_r01_over_L1:(List Int)→(List Int)→Int→Option ((List Int) × (List Int))) (rest2:List Int):Option ((List Int) × (List Int)) :=
  K_g_r01_over_L1 rest2 (q.set ((i).toNat) lo) (w64 (i - 1))
def g_r01_over_L2 (N:Nat) (a:List Int) (b:List Int) (q:List Int) (i:Int) (rtrim:(List Int)) (K_g_r01_over_L1:(List Int)→(List Int)→Int→Option ((List Int) × (List Int))):Nat→Int→Int→Option ((List Int) × (List Int))
  | 0,_,_=>none
  | fuel+1,lo,hi =>
    (cond (decide (lo < hi))
    (((g_r01_times N b ([(w64 ((w64 ((w64 (lo+hi))+1)).tdiv 2))]:List Int)).bind fun rtimes =>
    ((g_r01_compare N rtimes rtrim).bind fun rcompare =>
    (cond (decide (rcompare≤0))
    (g_r01_over_L2 N a b q i rtrim K_g_r01_over_L1 fuel (w64 ((w64 ((w64 (lo+hi))+1)).tdiv 2)) hi)
    (g_r01_over_L2 N a b q i rtrim K_g_r01_over_L1 fuel lo (w64 ((w64 ((w64 ((w64 (lo+hi))+1)).tdiv 2)) - 1)))))))
    ((if 0≤i∧i < ((q.length:Nat):Int) then
    (cond (decide (lo > 0))
    (((g_r01_times N b ([lo]:List Int)).bind fun rtimes2 =>
    ((g_r01_minus N rtrim rtimes2).bind fun rminus =>
    g_r01_over_J3 N a b q i lo K_g_r01_over_L1 rminus)))
    (g_r01_over_J3 N a b q i lo K_g_r01_over_L1 rtrim))
    else none)))
def g_r01_over_L1 (N:Nat) (a:List Int) (b:List Int):Nat→(List Int)→(List Int)→Int→Option ((List Int) × (List Int))
  | 0,_,_,_=>none
  | fuel+1,rest,q,i =>
    (cond (decide (i ≥ 0))
    ((if 0≤i∧i < ((a.length:Nat):Int) then
    (if (1+rest.length) * 8≤140737488355328 then
    ((g_r01_trim N (([(a.getD ((i).toNat) 0)]:List Int) ++ rest)).bind fun rtrim =>
    g_r01_over_L2 N a b q i rtrim (g_r01_over_L1 N a b fuel) N 0 65535)
    else none)
    else none))
    (((g_r01_trim N q).bind fun rtrim2 =>
    some (rtrim2,rest))))
def g_r01_over (N:Nat) (a:List Int) (b:List Int):Option ((List Int) × (List Int)) :=
  (if 0≤((a.length:Nat):Int)∧(8:Int) * ((a.length:Nat):Int)≤281474976710656∧((a.length:Nat):Int)≤9223372036854775807 then
  g_r01_over_L1 N a b N ([]:List Int) (List.replicate a.length 0:List Int) (w64 (((a.length:Nat):Int) - 1))
  else none)
def g_r01_gcd_L1 (N:Nat):Nat→(List Int)→(List Int)→Option ((List Int))
  | 0,_,_=>none
  | fuel+1,a2,b2 =>
    (cond (decide (((b2.length:Nat):Int) > 0))
    (((g_r01_over N a2 b2).bind fun rover =>
    g_r01_gcd_L1 N fuel b2 rover.2))
    (some a2))
def g_r01_gcd (N:Nat) (a:List Int) (b:List Int):Option ((List Int)) :=
  g_r01_gcd_L1 N N a b
def g_r01_Over (N:Nat) (a:TInt) (b:TInt):Option (TRat) :=
  ((g_r01_read N a.f_Limbs).bind fun rread =>
  ((g_r01_read N b.f_Limbs).bind fun rread2 =>
  (cond (((rread2.length:Nat):Int) == 0)
  (((g_r01_made N a.f_Neg rread).bind fun rmade =>
  ((g_r01_Of N 1).bind fun rOf =>
  some (⟨rmade,rOf⟩:TRat))))
  (((g_r01_gcd N rread rread2).bind fun rgcd =>
  ((g_r01_over N rread rgcd).bind fun rover =>
  ((g_r01_over N rread2 rgcd).bind fun rover2 =>
  ((g_r01_made N (!(a.f_Neg == b.f_Neg)) rover.1).bind fun rmade2 =>
  ((g_r01_made N false rover2.1).bind fun rmade3 =>
  some (⟨rmade2,rmade3⟩:TRat))))))))))
def g_r01_NormRat (N:Nat) (x:TRat):Option (TRat) :=
  ((g_r01_Over N x.f_Num x.f_Den).bind fun rOver =>
  some rOver)
def g_r01_Mul (N:Nat) (a:TInt) (b:TInt):Option (TInt) :=
  ((g_r01_read N a.f_Limbs).bind fun rread =>
  ((g_r01_read N b.f_Limbs).bind fun rread2 =>
  ((g_r01_times N rread rread2).bind fun rtimes =>
  ((g_r01_made N (!(a.f_Neg == b.f_Neg)) rtimes).bind fun rmade =>
  some rmade))))
def g_r01_plus_L1 (N:Nat) (a:List Int) (b:List Int):Nat→(List Int)→Int→Int→Option ((List Int))
  | 0,_,_,_=>none
  | fuel+1,out,carry,i =>
    (cond (cond (cond (decide (i < ((a.length:Nat):Int))) true (decide (i < ((b.length:Nat):Int)))) true (decide (carry > 0)))
    (((g_r01_digit N a i).bind fun rdigit =>
    ((g_r01_digit N b i).bind fun rdigit2 =>
    (if (out.length+1) * 8≤140737488355328 then
    g_r01_plus_L1 N a b fuel (out ++ ([((w64 ((w64 (rdigit+rdigit2))+carry)).tmod 65536)]:List Int)) (w64 ((w64 ((w64 (rdigit+rdigit2))+carry)).tdiv 65536)) (w64 (i+1))
    else none))))
    (((g_r01_trim N out).bind fun rtrim =>
    some rtrim)))
def g_r01_plus (N:Nat) (a:List Int) (b:List Int):Option ((List Int)) :=
  g_r01_plus_L1 N a b N ([]:List Int) 0 0
def g_r01_Add (N:Nat) (a:TInt) (b:TInt):Option (TInt) :=
  ((g_r01_read N a.f_Limbs).bind fun rread =>
  ((g_r01_read N b.f_Limbs).bind fun rread2 =>
  (cond (a.f_Neg == b.f_Neg)
  (((g_r01_plus N rread rread2).bind fun rplus =>
  ((g_r01_made N a.f_Neg rplus).bind fun rmade =>
  some rmade)))
  (((g_r01_compare N rread rread2).bind fun rcompare =>
  (cond (decide (rcompare ≥ 0))
  (((g_r01_minus N rread rread2).bind fun rminus =>
  ((g_r01_made N a.f_Neg rminus).bind fun rmade2 =>
  some rmade2)))
  (((g_r01_minus N rread2 rread).bind fun rminus2 =>
  ((g_r01_made N b.f_Neg rminus2).bind fun rmade3 =>
  some rmade3)))))))))
def g_r01_AddRat (N:Nat) (x:TRat) (y:TRat):Option (TRat) :=
  ((g_r01_NormRat N x).bind fun rNormRat =>
  ((g_r01_NormRat N y).bind fun rNormRat2 =>
  ((g_r01_Mul N rNormRat.f_Num rNormRat2.f_Den).bind fun rMul =>
  ((g_r01_Mul N rNormRat2.f_Num rNormRat.f_Den).bind fun rMul2 =>
  ((g_r01_Add N rMul rMul2).bind fun rAdd =>
  ((g_r01_Mul N rNormRat.f_Den rNormRat2.f_Den).bind fun rMul3 =>
  ((g_r01_Over N rAdd rMul3).bind fun rOver =>
  some rOver)))))))
def g_w05_samePose (N:Nat) (a:TPose) (b:TPose):Option (Bool) :=
  ((g_b_SameRat N a.f_Draught b.f_Draught).bind fun rSameRat =>
  ((cond rSameRat (g_b_SameRat N a.f_Trim b.f_Trim) (some false)).bind fun rSameRat2 =>
  ((cond (cond rSameRat rSameRat2 false) (g_b_SameRat N a.f_Heel b.f_Heel) (some false)).bind fun rSameRat3 =>
  ((cond (cond (cond rSameRat rSameRat2 false) rSameRat3 false) (g_b_SameRat N a.f_Hog b.f_Hog) (some false)).bind fun rSameRat4 =>
  some (cond (cond (cond rSameRat rSameRat2 false) rSameRat3 false) rSameRat4 false)))))
def g_r01_Sign (N:Nat) (a:TInt):Option (Int) :=
  ((g_r01_read N a.f_Limbs).bind fun rread =>
  (cond (((rread.length:Nat):Int) == 0)
  (some 0)
  ((cond a.f_Neg
  (some (-1))
  (some 1)))))
def g_r01_SignRat (N:Nat) (x:TRat):Option (Int) :=
  ((g_r01_NormRat N x).bind fun rNormRat =>
  ((g_r01_Sign N rNormRat.f_Num).bind fun rSign =>
  some rSign))
def g_w05_WaterMoments (N:Nat) (p:TPontoon) (more:List TPointMass):Option (Bool) :=
  ((g_w05_afloat N).bind fun rafloat =>
  (cond (!rafloat)
  (some false)
  (((g_w05_fewMasses N p).bind fun rfewMasses =>
  ((cond (!(cond (cond (!rfewMasses) true (decide (((p.f_Tanks.length:Nat):Int) > 0))) true (decide ((w64 (((p.f_Masses.length:Nat):Int)+((more.length:Nat):Int))) > 20)))) (g_water_CheckPontoon N p) (some 0)).bind fun rCheckPontoon =>
  (cond (cond (cond (cond (!rfewMasses) true (decide (((p.f_Tanks.length:Nat):Int) > 0))) true (decide ((w64 (((p.f_Masses.length:Nat):Int)+((more.length:Nat):Int))) > 20))) true (rCheckPontoon != 0))
  (some true)
  ((if (0+p.f_Masses.length) * 24≤140737488355328 then
  (if ((0+p.f_Masses.length)+more.length) * 24≤140737488355328 then
  ((g_water_Float N p ([]:List Int)).bind fun rFloat =>
  ((g_water_Float N (⟨p.f_Length,p.f_Breadth,p.f_Density,more,p.f_Tanks⟩:TPontoon) ([]:List Int)).bind fun rFloat2 =>
  ((g_water_Float N (⟨p.f_Length,p.f_Breadth,p.f_Density,((([]:List TPointMass) ++ p.f_Masses) ++ more),p.f_Tanks⟩:TPontoon) ([]:List Int)).bind fun rFloat3 =>
  (cond (rFloat2.2 != 0)
  (some (cond (rFloat2.2 == 2) (rFloat3.2 == 2) false))
  (((g_r01_AddRat N rFloat.1.f_Draught rFloat2.1.f_Draught).bind fun rAddRat =>
  ((g_r01_AddRat N rFloat.1.f_Trim rFloat2.1.f_Trim).bind fun rAddRat2 =>
  ((g_r01_AddRat N rFloat.1.f_Heel rFloat2.1.f_Heel).bind fun rAddRat3 =>
  ((g_r01_AddRat N rFloat.1.f_Hog rFloat2.1.f_Hog).bind fun rAddRat4 =>
  ((cond (!(cond (rFloat.2 != 0) true (rFloat3.2 != 0))) (g_w05_samePose N rFloat3.1 (⟨rAddRat,rAddRat2,rAddRat3,rAddRat4⟩:TPose)) (some false)).bind fun rsamePose =>
  (cond (cond (cond (rFloat.2 != 0) true (rFloat3.2 != 0)) true (!rsamePose))
  (some false)
  (((g_water_Float N (⟨p.f_Length,p.f_Breadth,p.f_Density,([(⟨0,0,7⟩:TPointMass)]:List TPointMass),p.f_Tanks⟩:TPontoon) ([]:List Int)).bind fun rFloat4 =>
  ((cond (rFloat4.2 == 0) (g_r01_SignRat N rFloat4.1.f_Trim) (some 0)).bind fun rSignRat =>
  ((cond (cond (rFloat4.2 == 0) (rSignRat == 0) false) (g_r01_SignRat N rFloat4.1.f_Heel) (some 0)).bind fun rSignRat2 =>
  ((cond (cond (cond (rFloat4.2 == 0) (rSignRat == 0) false) (rSignRat2 == 0) false) (g_r01_SignRat N rFloat4.1.f_Hog) (some 0)).bind fun rSignRat3 =>
  ((cond (cond (cond (cond (rFloat4.2 == 0) (rSignRat == 0) false) (rSignRat2 == 0) false) (decide (rSignRat3 < 0)) false) (g_r01_SignRat N rFloat4.1.f_Draught) (some 0)).bind fun rSignRat4 =>
  some (cond (cond (cond (cond (rFloat4.2 == 0) (rSignRat == 0) false) (rSignRat2 == 0) false) (decide (rSignRat3 < 0)) false) (decide (rSignRat4 > 0)) false))))))))))))))))))
  else none)
  else none))))))))
end Go.Den
