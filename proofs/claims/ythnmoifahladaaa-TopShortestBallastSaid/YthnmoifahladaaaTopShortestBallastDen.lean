/- The functions of the program as Lean functions, each in the Option monad; N bounds the rounds of loops. No conditions. -/
import Derived.Test.YthnmoifahladaaaCd
set_option linter.unusedVariables false
set_option linter.unusedSimpArgs false
set_option linter.unusedVariables false
namespace Go.Den
open Go.Ab
structure TPointMass where
 f_X:Int
 f_Y:Int
 f_Mass:Int
def TPointMass.d:TPointMass:=⟨0,0,0⟩
def TPointMass.wf (x:TPointMass):Prop:=wI x.f_X∧wI x.f_Y∧wI x.f_Mass
def TPointMass.cells (x:TPointMass):List AV:=[(aI x.f_X),(aI x.f_Y),(aI x.f_Mass)]
structure TTank where
 f_Name:ByteArray
 f_X:Int
 f_Y:Int
 f_Steps:Int
 f_Mass:Int
def TTank.d:TTank:=⟨ByteArray.empty,0,0,0,0⟩
def TTank.wf (x:TTank):Prop:=wS x.f_Name∧wI x.f_X∧wI x.f_Y∧wI x.f_Steps∧wI x.f_Mass
def TTank.cells (x:TTank):List AV:=[(aS x.f_Name),(aI x.f_X),(aI x.f_Y),(aI x.f_Steps),(aI x.f_Mass)]
structure TPontoon where
 f_Length:Int
 f_Breadth:Int
 f_Density:Int
 f_Masses:List TPointMass
 f_Tanks:List TTank
def TPontoon.d:TPontoon:=⟨0,0,0,[],[]⟩
def TPontoon.wf (x:TPontoon):Prop:=wI x.f_Length∧wI x.f_Breadth∧wI x.f_Density∧(wL TPointMass.wf) x.f_Masses∧(wL TTank.wf) x.f_Tanks
def TPontoon.cells (x:TPontoon):List AV:=[(aI x.f_Length),(aI x.f_Breadth),(aI x.f_Density),(encL TPointMass.cells TPointMass.d x.f_Masses),(encL TTank.cells TTank.d x.f_Tanks)]
structure TLimits where
 f_DraughtLeast:Int
 f_DraughtMost:Int
 f_TrimMost:Int
 f_HeelMost:Int
 f_HogMost:Int
def TLimits.d:TLimits:=⟨0,0,0,0,0⟩
def TLimits.wf (x:TLimits):Prop:=wI x.f_DraughtLeast∧wI x.f_DraughtMost∧wI x.f_TrimMost∧wI x.f_HeelMost∧wI x.f_HogMost
def TLimits.cells (x:TLimits):List AV:=[(aI x.f_DraughtLeast),(aI x.f_DraughtMost),(aI x.f_TrimMost),(aI x.f_HeelMost),(aI x.f_HogMost)]
structure TAim where
 f_Start:List Int
 f_DraughtLeast:Int
 f_DraughtMost:Int
def TAim.d:TAim:=⟨[],0,0⟩
def TAim.wf (x:TAim):Prop:=(wL wI) x.f_Start∧wI x.f_DraughtLeast∧wI x.f_DraughtMost
def TAim.cells (x:TAim):List AV:=[(encL cI 0 x.f_Start),(aI x.f_DraughtLeast),(aI x.f_DraughtMost)]
structure TMove where
 f_Tank:Int
 f_Up:Bool
def TMove.d:TMove:=⟨0,false⟩
def TMove.wf (x:TMove):Prop:=wI x.f_Tank∧wB x.f_Up
def TMove.cells (x:TMove):List AV:=[(aI x.f_Tank),(aB x.f_Up)]
structure Tw05_Plan where
 f_P:TPontoon
 f_L:TLimits
 f_A:TAim
 f_Moves:List TMove
def Tw05_Plan.d:Tw05_Plan:=⟨TPontoon.d,TLimits.d,TAim.d,[]⟩
def Tw05_Plan.wf (x:Tw05_Plan):Prop:=TPontoon.wf x.f_P∧TLimits.wf x.f_L∧TAim.wf x.f_A∧(wL TMove.wf) x.f_Moves
def Tw05_Plan.cells (x:Tw05_Plan):List AV:=[(aI x.f_P.f_Length),(aI x.f_P.f_Breadth),(aI x.f_P.f_Density),(encL TPointMass.cells TPointMass.d x.f_P.f_Masses),(encL TTank.cells TTank.d x.f_P.f_Tanks),(aI x.f_L.f_DraughtLeast),(aI x.f_L.f_DraughtMost),(aI x.f_L.f_TrimMost),(aI x.f_L.f_HeelMost),(aI x.f_L.f_HogMost),(encL cI 0 x.f_A.f_Start),(aI x.f_A.f_DraughtLeast),(aI x.f_A.f_DraughtMost),(encL TMove.cells TMove.d x.f_Moves)]
structure TInt where
 f_Neg:Bool
 f_Limbs:List Int
def TInt.d:TInt:=⟨false,[]⟩
def TInt.wf (x:TInt):Prop:=wB x.f_Neg∧(wL (wK .u16)) x.f_Limbs
def TInt.cells (x:TInt):List AV:=[(aB x.f_Neg),(encL (cU .u16) 0 x.f_Limbs)]
structure TRat where
 f_Num:TInt
 f_Den:TInt
def TRat.d:TRat:=⟨TInt.d,TInt.d⟩
def TRat.wf (x:TRat):Prop:=TInt.wf x.f_Num∧TInt.wf x.f_Den
def TRat.cells (x:TRat):List AV:=[(aB x.f_Num.f_Neg),(encL (cU .u16) 0 x.f_Num.f_Limbs),(aB x.f_Den.f_Neg),(encL (cU .u16) 0 x.f_Den.f_Limbs)]
structure TPose where
 f_Draught:TRat
 f_Trim:TRat
 f_Heel:TRat
 f_Hog:TRat
def TPose.d:TPose:=⟨TRat.d,TRat.d,TRat.d,TRat.d⟩
def TPose.wf (x:TPose):Prop:=TRat.wf x.f_Draught∧TRat.wf x.f_Trim∧TRat.wf x.f_Heel∧TRat.wf x.f_Hog
def TPose.cells (x:TPose):List AV:=[(aB x.f_Draught.f_Num.f_Neg),(encL (cU .u16) 0 x.f_Draught.f_Num.f_Limbs),(aB x.f_Draught.f_Den.f_Neg),(encL (cU .u16) 0 x.f_Draught.f_Den.f_Limbs),(aB x.f_Trim.f_Num.f_Neg),(encL (cU .u16) 0 x.f_Trim.f_Num.f_Limbs),(aB x.f_Trim.f_Den.f_Neg),(encL (cU .u16) 0 x.f_Trim.f_Den.f_Limbs),(aB x.f_Heel.f_Num.f_Neg),(encL (cU .u16) 0 x.f_Heel.f_Num.f_Limbs),(aB x.f_Heel.f_Den.f_Neg),(encL (cU .u16) 0 x.f_Heel.f_Den.f_Limbs),(aB x.f_Hog.f_Num.f_Neg),(encL (cU .u16) 0 x.f_Hog.f_Num.f_Limbs),(aB x.f_Hog.f_Den.f_Neg),(encL (cU .u16) 0 x.f_Hog.f_Den.f_Limbs)]
structure Twater_state where
 e0:Int
 e1:Int
 e2:Int
 e3:Int
 e4:Int
 e5:Int
def Twater_state.d:Twater_state:=⟨0,0,0,0,0,0⟩
def Twater_state.wf (x:Twater_state):Prop:=wI x.e0∧wI x.e1∧wI x.e2∧wI x.e3∧wI x.e4∧wI x.e5
def Twater_state.cells (x:Twater_state):List AV:=[(aI x.e0),(aI x.e1),(aI x.e2),(aI x.e3),(aI x.e4),(aI x.e5)]
structure Twater_sums where
 f_mass:Int
 f_x:Int
 f_y:Int
 f_arm:Int
def Twater_sums.d:Twater_sums:=⟨0,0,0,0⟩
def Twater_sums.wf (x:Twater_sums):Prop:=wI x.f_mass∧wI x.f_x∧wI x.f_y∧wI x.f_arm
def Twater_sums.cells (x:Twater_sums):List AV:=[(aI x.f_mass),(aI x.f_x),(aI x.f_y),(aI x.f_arm)]
structure Twater_bounds where
 f_low:Int
 f_high:Int
 f_x:Int
 f_y:Int
 f_hog:Int
def Twater_bounds.d:Twater_bounds:=⟨0,0,0,0,0⟩
def Twater_bounds.wf (x:Twater_bounds):Prop:=wI x.f_low∧wI x.f_high∧wI x.f_x∧wI x.f_y∧wI x.f_hog
def Twater_bounds.cells (x:Twater_bounds):List AV:=[(aI x.f_low),(aI x.f_high),(aI x.f_x),(aI x.f_y),(aI x.f_hog)]
structure Twater_plan where
 f_p:TPontoon
 f_b:Twater_bounds
 f_start:Twater_state
 f_low:Int
 f_high:Int
def Twater_plan.d:Twater_plan:=⟨TPontoon.d,Twater_bounds.d,Twater_state.d,0,0⟩
def Twater_plan.wf (x:Twater_plan):Prop:=TPontoon.wf x.f_p∧Twater_bounds.wf x.f_b∧Twater_state.wf x.f_start∧wI x.f_low∧wI x.f_high
def Twater_plan.cells (x:Twater_plan):List AV:=[(aI x.f_p.f_Length),(aI x.f_p.f_Breadth),(aI x.f_p.f_Density),(encL TPointMass.cells TPointMass.d x.f_p.f_Masses),(encL TTank.cells TTank.d x.f_p.f_Tanks),(aI x.f_b.f_low),(aI x.f_b.f_high),(aI x.f_b.f_x),(aI x.f_b.f_y),(aI x.f_b.f_hog),(aI x.f_start.e0),(aI x.f_start.e1),(aI x.f_start.e2),(aI x.f_start.e3),(aI x.f_start.e4),(aI x.f_start.e5),(aI x.f_low),(aI x.f_high)]
structure Twater_arrival where
 f_from:Twater_state
 f_move:TMove
def Twater_arrival.d:Twater_arrival:=⟨Twater_state.d,TMove.d⟩
def Twater_arrival.wf (x:Twater_arrival):Prop:=Twater_state.wf x.f_from∧TMove.wf x.f_move
def Twater_arrival.cells (x:Twater_arrival):List AV:=[(aI x.f_from.e0),(aI x.f_from.e1),(aI x.f_from.e2),(aI x.f_from.e3),(aI x.f_from.e4),(aI x.f_from.e5),(aI x.f_move.f_Tank),(aB x.f_move.f_Up)]
structure TArea where
 f_From:Int
 f_Size:Int
def TArea.d:TArea:=⟨0,0⟩
def TArea.wf (x:TArea):Prop:=wI x.f_From∧wI x.f_Size
def TArea.cells (x:TArea):List AV:=[(aI x.f_From),(aI x.f_Size)]
structure TBasin where
 f_Name:ByteArray
 f_Areas:List TArea
 f_Rim:Int
def TBasin.d:TBasin:=⟨ByteArray.empty,[],0⟩
def TBasin.wf (x:TBasin):Prop:=wS x.f_Name∧(wL TArea.wf) x.f_Areas∧wI x.f_Rim
def TBasin.cells (x:TBasin):List AV:=[(aS x.f_Name),(encL TArea.cells TArea.d x.f_Areas),(aI x.f_Rim)]
def g_water_between (N:Nat) (n:Int) (low:Int) (high:Int):Option (Bool) :=
 some (cond (decide (n≥low)) (decide (n≤high)) false)
def g_water_CheckPontoon_1 (N:Nat) (x:Int) (y:Int):Option (Bool) :=
 ((g_water_between N x (-1000000) 1000000).bind fun rbetween =>
 ((cond rbetween (g_water_between N y (-1000000) 1000000) (some false)).bind fun rbetween2 =>
 some (cond rbetween rbetween2 false)))
def g_water_CheckPontoon_2 (N:Nat) (i:Int) (cap0:TPontoon):Option (ByteArray) :=
 (if 0≤i∧i < ((cap0.f_Tanks.length:Nat):Int) then
 some ((cap0.f_Tanks.getD ((i).toNat) TTank.d).f_Name)
 else none)
def g_water_isName_L1 (N:Nat) (s:ByteArray):Nat→Int→Option (Bool)
 | 0,_=>none
 | fuel+1,x =>
  (cond (decide (x < ((s.size:Nat):Int)))
  ((if 0≤x∧x < (((bytesL s).length:Nat):Int) then
  (cond (cond (!(cond (cond (decide (((bytesL s).getD ((x).toNat) 0)≥97)) (decide (((bytesL s).getD ((x).toNat) 0)≤122)) false) true (cond (decide (((bytesL s).getD ((x).toNat) 0)≥65)) (decide (((bytesL s).getD ((x).toNat) 0)≤90)) false))) (cond (x == 0) true (cond (((bytesL s).getD ((x).toNat) 0) != 45) (cond (decide (((bytesL s).getD ((x).toNat) 0) < 48)) true (decide (((bytesL s).getD ((x).toNat) 0) > 57))) false)) false)
  (some false)
  (g_water_isName_L1 N s fuel (w64 (x+1))))
  else none))
  (some true))
def g_water_isName (N:Nat) (s:ByteArray):Option (Bool) :=
 ((g_water_between N ((s.size:Nat):Int) 1 12).bind fun rbetween =>
 (cond (!rbetween)
 (some false)
 (g_water_isName_L1 N s N 0)))
def g_water_CheckPontoon_3 (N:Nat) (i:Int) (cap0:TPontoon):Option (Int) :=
 (if 0≤i∧i < ((cap0.f_Tanks.length:Nat):Int) then
 ((g_water_CheckPontoon_1 N ((cap0.f_Tanks.getD ((i).toNat) TTank.d).f_X) ((cap0.f_Tanks.getD ((i).toNat) TTank.d).f_Y)).bind fun rCheckPontoon =>
 ((cond (!(!rCheckPontoon)) (g_water_between N ((cap0.f_Tanks.getD ((i).toNat) TTank.d).f_Steps) 0 12) (some false)).bind fun rbetween =>
 ((cond (!(cond (!rCheckPontoon) true (!rbetween))) (g_water_between N ((cap0.f_Tanks.getD ((i).toNat) TTank.d).f_Mass) 0 1000000000) (some false)).bind fun rbetween2 =>
 (cond (cond (cond (!rCheckPontoon) true (!rbetween)) true (!rbetween2))
 (some 2)
 (some 0)))))
 else none)
def g_water_checkNamed_L1 (N:Nat) (n:Int) (cap0:TPontoon):Nat→(List (ByteArray×Bool))→Int→Option (Int)
 | 0,_,_=>none
 | fuel+1,names,x =>
  (cond (decide (x < n))
  (((g_water_CheckPontoon_2 N x cap0).bind fun rCheckPontoon =>
  ((g_water_isName N rCheckPontoon).bind fun risName =>
  (cond (!risName)
  (some 4)
  ((cond ((mGet streq names rCheckPontoon).getD false)
  (some 5)
  (((g_water_CheckPontoon_3 N x cap0).bind fun rCheckPontoon2 =>
  (cond (rCheckPontoon2 != 0)
  (some rCheckPontoon2)
  (g_water_checkNamed_L1 N n cap0 fuel (mPut streq names rCheckPontoon true) (w64 (x+1))))))))))))
  (some 0))
def g_water_checkNamed (N:Nat) (n:Int) (most:Int) (cap0:TPontoon):Option (Int) :=
 (cond (decide (n > most))
 (some 8)
 (g_water_checkNamed_L1 N n cap0 N ([]:List (ByteArray×Bool)) 0))
def g_water_CheckPontoon_L1 (N:Nat) (p:TPontoon):Nat→Int→Option (Int)
 | 0,_=>none
 | fuel+1,x =>
  (cond (decide (x < ((p.f_Masses.length:Nat):Int)))
  ((if 0≤x∧x < ((p.f_Masses.length:Nat):Int) then
  ((g_water_CheckPontoon_1 N ((p.f_Masses.getD ((x).toNat) TPointMass.d).f_X) ((p.f_Masses.getD ((x).toNat) TPointMass.d).f_Y)).bind fun rCheckPontoon =>
  ((cond (!(!rCheckPontoon)) (g_water_between N ((p.f_Masses.getD ((x).toNat) TPointMass.d).f_Mass) 0 1000000000) (some false)).bind fun rbetween4 =>
  (cond (cond (!rCheckPontoon) true (!rbetween4))
  (some 2)
  (g_water_CheckPontoon_L1 N p fuel (w64 (x+1))))))
  else none))
  (((g_water_checkNamed N ((p.f_Tanks.length:Nat):Int) 6 p).bind fun rcheckNamed =>
  some rcheckNamed)))
def g_water_CheckPontoon (N:Nat) (p:TPontoon):Option (Int) :=
 ((g_water_between N p.f_Length 1 1000000).bind fun rbetween =>
 ((cond (!(!rbetween)) (g_water_between N p.f_Breadth 1 1000000) (some false)).bind fun rbetween2 =>
 ((cond (!(cond (!rbetween) true (!rbetween2))) (g_water_between N p.f_Density 900 1100) (some false)).bind fun rbetween3 =>
 (cond (cond (cond (!rbetween) true (!rbetween2)) true (!rbetween3))
 (some 2)
 ((cond (decide (((p.f_Masses.length:Nat):Int) > 20))
 (some 8)
 (g_water_CheckPontoon_L1 N p N 0)))))))
def g_water_checkSteps_L1 (N:Nat) (p:TPontoon) (steps:List Int):Nat→Twater_state→Int→Option (Twater_state×Int)
 | 0,_,_=>none
 | fuel+1,out,x =>
  (cond (decide (x < ((steps.length:Nat):Int)))
  ((if 0≤x∧x < ((steps.length:Nat):Int) then
  (if 0≤x∧x < ((p.f_Tanks.length:Nat):Int) then
  ((g_water_between N (steps.getD ((x).toNat) 0) 0 ((p.f_Tanks.getD ((x).toNat) TTank.d).f_Steps)).bind fun rbetween =>
  (cond (!rbetween)
  (some ((⟨0,0,0,0,0,0⟩:Twater_state),2))
  ((if 0≤x∧x < ((6:Nat):Int) then
  g_water_checkSteps_L1 N p steps fuel (⟨(setI ((x).toNat) 0 (steps.getD ((x).toNat) 0) out.e0),(setI ((x).toNat) 1 (steps.getD ((x).toNat) 0) out.e1),(setI ((x).toNat) 2 (steps.getD ((x).toNat) 0) out.e2),(setI ((x).toNat) 3 (steps.getD ((x).toNat) 0) out.e3),(setI ((x).toNat) 4 (steps.getD ((x).toNat) 0) out.e4),(setI ((x).toNat) 5 (steps.getD ((x).toNat) 0) out.e5)⟩:Twater_state) (w64 (x+1))
  else none))))
  else none)
  else none))
  (some (out,0)))
def g_water_checkSteps (N:Nat) (p:TPontoon) (steps:List Int):Option (Twater_state×Int) :=
 (cond (((steps.length:Nat):Int) != ((p.f_Tanks.length:Nat):Int))
 (some ((⟨0,0,0,0,0,0⟩:Twater_state),11))
 (g_water_checkSteps_L1 N p steps N (⟨0,0,0,0,0,0⟩:Twater_state) 0))
def g_water_sumOf_1 (N:Nat) (x:Int) (y:Int) (mass:Int) (cap0:Twater_sums):Option (Twater_sums) :=
 some (⟨(w64 (cap0.f_mass+mass)),(w64 (cap0.f_x+(w64 (mass * x)))),(w64 (cap0.f_y+(w64 (mass * y)))),(w64 (cap0.f_arm+(w64 (mass * (if (w64 (0 - x)) > x then (w64 (0 - x)) else x)))))⟩:Twater_sums)
def g_water_sumOf_L2 (N:Nat) (p:TPontoon) (s:Twater_state):Nat→Twater_sums→Int→Option (Twater_sums)
 | 0,_,_=>none
 | fuel+1,out2,x2 =>
  (cond (decide (x2 < ((p.f_Tanks.length:Nat):Int)))
  ((if 0≤x2∧x2 < ((p.f_Tanks.length:Nat):Int) then
  (if 0≤x2∧x2 < ((6:Nat):Int) then
  ((g_water_sumOf_1 N ((p.f_Tanks.getD ((x2).toNat) TTank.d).f_X) ((p.f_Tanks.getD ((x2).toNat) TTank.d).f_Y) (w64 ((pickI [s.e0,s.e1,s.e2,s.e3,s.e4,s.e5] ((x2).toNat)) * (p.f_Tanks.getD ((x2).toNat) TTank.d).f_Mass)) out2).bind fun rsumOf12 =>
  g_water_sumOf_L2 N p s fuel rsumOf12 (w64 (x2+1)))
  else none)
  else none))
  (some out2))
def g_water_sumOf_L1 (N:Nat) (p:TPontoon) (s:Twater_state):Nat→Twater_sums→Int→Option (Twater_sums)
 | 0,_,_=>none
 | fuel+1,out,x =>
  (cond (decide (x < ((p.f_Masses.length:Nat):Int)))
  ((if 0≤x∧x < ((p.f_Masses.length:Nat):Int) then
  ((g_water_sumOf_1 N ((p.f_Masses.getD ((x).toNat) TPointMass.d).f_X) ((p.f_Masses.getD ((x).toNat) TPointMass.d).f_Y) ((p.f_Masses.getD ((x).toNat) TPointMass.d).f_Mass) out).bind fun rsumOf1 =>
  g_water_sumOf_L1 N p s fuel rsumOf1 (w64 (x+1)))
  else none))
  (g_water_sumOf_L2 N p s N out 0))
def g_water_sumOf (N:Nat) (p:TPontoon) (s:Twater_state):Option (Twater_sums) :=
 g_water_sumOf_L1 N p s N (⟨0,0,0,0⟩:Twater_sums) 0
def g_e_natural_L1 (N:Nat):Nat→Int→(List Int)→Option ((List Int))
 | 0,_,_=>none
 | fuel+1,n2,out =>
  (cond (decide (n2 > 0))
  ((if (out.length+1) * 2≤140737488355328 then
  g_e_natural_L1 N fuel (shrI .u64 n2 16) (out ++ ([(IntKind.u16.wrap (n2))]:List Int))
  else none))
  (some out))
def g_e_natural (N:Nat) (n:Int):Option ((List Int)) :=
 g_e_natural_L1 N N n ([]:List Int)
def g_e_trim_L1 (N:Nat):Nat→(List Int)→Option ((List Int))
 | 0,_=>none
 | fuel+1,n2 =>
  (if ((decide (((n2.length:Nat):Int) > 0))=true→0≤(w64 (((n2.length:Nat):Int) - 1))∧(w64 (((n2.length:Nat):Int) - 1)) < ((n2.length:Nat):Int)) then
  (cond (cond (decide (((n2.length:Nat):Int) > 0)) ((n2.getD ((w64 (((n2.length:Nat):Int) - 1)).toNat) 0) == 0) false)
  ((if 0≤(w64 (((n2.length:Nat):Int) - 1)).toNat∧(w64 (((n2.length:Nat):Int) - 1)).toNat≤n2.length then
  (if 0≤(w64 (((n2.length:Nat):Int) - 1)) then
  g_e_trim_L1 N fuel ((n2.take ((w64 (((n2.length:Nat):Int) - 1)).toNat)).drop 0)
  else none)
  else none))
  (some n2))
  else none)
def g_e_trim (N:Nat) (n:List Int):Option ((List Int)) :=
 g_e_trim_L1 N N n
def g_slices_Clone_uint16_uint16 (N:Nat) (s:List Int):Option ((List Int)) :=
 (if (0+s.length) * 2≤140737488355328 then
 some (([]:List Int) ++ s)
 else none)
def g_e_signed (N:Nat) (neg:Bool) (n:List Int):Option (TInt) :=
 ((g_e_trim N n).bind fun rtrim =>
 (cond (((rtrim.length:Nat):Int) == 0)
 (some (⟨false,([]:List Int)⟩:TInt))
 (((g_slices_Clone_uint16_uint16 N rtrim).bind fun rClone =>
 some (⟨neg,rClone⟩:TInt)))))
def g_e_Of (N:Nat) (n:Int):Option (TInt) :=
 (cond (decide (n < 0))
 (((g_e_natural N (IntKind.u64.wrap (0 - (IntKind.u64.wrap (n))))).bind fun rnatural =>
 ((g_e_signed N true rnatural).bind fun rsigned =>
 some rsigned)))
 (((g_e_natural N (IntKind.u64.wrap (n))).bind fun rnatural2 =>
 ((g_e_signed N false rnatural2).bind fun rsigned2 =>
 some rsigned2))))
def g_e_word_L1 (N:Nat) (n:List Int):Nat→Int→Int→Option (Int×Bool)
 | 0,_,_=>none
 | fuel+1,out,i =>
  (cond (decide (i≥0))
  ((if 0≤i∧i < ((n.length:Nat):Int) then
  g_e_word_L1 N n fuel (orI .u64 (shlI .u64 out 16) (IntKind.u64.wrap ((n.getD ((i).toNat) 0)))) (w64 (i - 1))
  else none))
  (some (out,true)))
def g_e_word (N:Nat) (n:List Int):Option (Int×Bool) :=
 (cond (decide (((n.length:Nat):Int) > 4))
 (some (0,false))
 (g_e_word_L1 N n N 0 (w64 (((n.length:Nat):Int) - 1))))
def g_e_compare_L1 (N:Nat) (a:List Int) (b:List Int):Nat→Int→Option (Int)
 | 0,_=>none
 | fuel+1,i =>
  (cond (decide (i≥0))
  ((if 0≤i∧i < ((a.length:Nat):Int) then
  (if 0≤i∧i < ((b.length:Nat):Int) then
  (cond ((a.getD ((i).toNat) 0) != (b.getD ((i).toNat) 0))
  (some (w64 ((w64 ((a.getD ((i).toNat) 0))) - (w64 ((b.getD ((i).toNat) 0))))))
  (g_e_compare_L1 N a b fuel (w64 (i - 1))))
  else none)
  else none))
  (some 0))
def g_e_compare (N:Nat) (a:List Int) (b:List Int):Option (Int) :=
 (cond (((a.length:Nat):Int) != ((b.length:Nat):Int))
 (some (w64 (((a.length:Nat):Int) - ((b.length:Nat):Int))))
 (g_e_compare_L1 N a b N (w64 (((a.length:Nat):Int) - 1))))
def g_e_short_L1 (N:Nat) (a:List Int) (b:Int):Nat→(List Int)→Int→Int→Option ((List Int)×Int)
 | 0,_,_,_=>none
 | fuel+1,q,rest,i =>
  (cond (decide (i≥0))
  ((if 0≤i∧i < ((a.length:Nat):Int) then
  (if ((IntKind.u32.wrap (b)):Int)≠0 then
  (if 0≤i∧i < ((q.length:Nat):Int) then
  g_e_short_L1 N a b fuel (q.set ((i).toNat) (IntKind.u16.wrap ((IntKind.u32.wrap ((orI .u32 (shlI .u32 rest 16) (IntKind.u32.wrap ((a.getD ((i).toNat) 0)))).tdiv (IntKind.u32.wrap (b))))))) ((orI .u32 (shlI .u32 rest 16) (IntKind.u32.wrap ((a.getD ((i).toNat) 0)))).tmod (IntKind.u32.wrap (b))) (w64 (i - 1))
  else none)
  else none)
  else none))
  (((g_e_trim N q).bind fun rtrim =>
  some (rtrim,(IntKind.u16.wrap (rest))))))
def g_e_short (N:Nat) (a:List Int) (b:Int):Option ((List Int)×Int) :=
 (if 0≤((a.length:Nat):Int)∧(2:Int) * ((a.length:Nat):Int)≤281474976710656∧((a.length:Nat):Int)≤9223372036854775807 then
 g_e_short_L1 N a b N (List.replicate a.length 0:List Int) 0 (w64 (((a.length:Nat):Int) - 1))
 else none)
def g_math_bits_Len16_J1 (N:Nat) (x2:Int) (n:Int):Option (Int) :=
 (if 0≤(IntKind.u8.wrap (x2))∧(IntKind.u8.wrap (x2)) < (((⟨#[0,1,2,2,3,3,3,3,4,4,4,4,4,4,4,4,5,5,5,5,5,5,5,5,5,5,5,5,5,5,5,5,6,6,6,6,6,6,6,6,6,6,6,6,6,6,6,6,6,6,6,6,6,6,6,6,6,6,6,6,6,6,6,6,7,7,7,7,7,7,7,7,7,7,7,7,7,7,7,7,7,7,7,7,7,7,7,7,7,7,7,7,7,7,7,7,7,7,7,7,7,7,7,7,7,7,7,7,7,7,7,7,7,7,7,7,7,7,7,7,7,7,7,7,7,7,7,7,8,8,8,8,8,8,8,8,8,8,8,8,8,8,8,8,8,8,8,8,8,8,8,8,8,8,8,8,8,8,8,8,8,8,8,8,8,8,8,8,8,8,8,8,8,8,8,8,8,8,8,8,8,8,8,8,8,8,8,8,8,8,8,8,8,8,8,8,8,8,8,8,8,8,8,8,8,8,8,8,8,8,8,8,8,8,8,8,8,8,8,8,8,8,8,8,8,8,8,8,8,8,8,8,8,8,8,8,8,8,8,8,8,8,8,8,8,8,8,8,8,8,8,8,8,8,8,8]⟩:ByteArray).size:Nat):Int) then
 some (w64 (n+(w64 ((byteAt (⟨#[0,1,2,2,3,3,3,3,4,4,4,4,4,4,4,4,5,5,5,5,5,5,5,5,5,5,5,5,5,5,5,5,6,6,6,6,6,6,6,6,6,6,6,6,6,6,6,6,6,6,6,6,6,6,6,6,6,6,6,6,6,6,6,6,7,7,7,7,7,7,7,7,7,7,7,7,7,7,7,7,7,7,7,7,7,7,7,7,7,7,7,7,7,7,7,7,7,7,7,7,7,7,7,7,7,7,7,7,7,7,7,7,7,7,7,7,7,7,7,7,7,7,7,7,7,7,7,7,8,8,8,8,8,8,8,8,8,8,8,8,8,8,8,8,8,8,8,8,8,8,8,8,8,8,8,8,8,8,8,8,8,8,8,8,8,8,8,8,8,8,8,8,8,8,8,8,8,8,8,8,8,8,8,8,8,8,8,8,8,8,8,8,8,8,8,8,8,8,8,8,8,8,8,8,8,8,8,8,8,8,8,8,8,8,8,8,8,8,8,8,8,8,8,8,8,8,8,8,8,8,8,8,8,8,8,8,8,8,8,8,8,8,8,8,8,8,8,8,8,8,8,8,8,8,8,8]⟩:ByteArray) ((IntKind.u8.wrap (x2)).toNat))))))
 else none)
def g_math_bits_Len16 (N:Nat) (x:Int):Option (Int) :=
 (cond (decide (x≥256))
 (g_math_bits_Len16_J1 N (shrI .u16 x 8) 8)
 (g_math_bits_Len16_J1 N x 0))
def g_math_bits_LeadingZeros16 (N:Nat) (x:Int):Option (Int) :=
 ((g_math_bits_Len16 N x).bind fun rLen16 =>
 some (w64 (16 - rLen16)))
def g_e_shifted_L1 (N:Nat) (a:List Int) (vby:Int):Nat→(List Int)→Int→Option ((List Int))
 | 0,_,_=>none
 | fuel+1,out,x =>
  (cond (decide (x < ((a.length:Nat):Int)))
  ((if 0≤x∧x < ((a.length:Nat):Int) then
  (if (0:Int)≤vby then
  (if 0≤x∧x < ((out.length:Nat):Int) then
  (if 0≤(w64 (x+1))∧(w64 (x+1)) < (((out.set ((x).toNat) (orI .u16 (out.getD ((x).toNat) 0) (IntKind.u16.wrap ((shlI .u32 (IntKind.u32.wrap ((a.getD ((x).toNat) 0))) vby))))).length:Nat):Int) then
  g_e_shifted_L1 N a vby fuel ((out.set ((x).toNat) (orI .u16 (out.getD ((x).toNat) 0) (IntKind.u16.wrap ((shlI .u32 (IntKind.u32.wrap ((a.getD ((x).toNat) 0))) vby))))).set ((w64 (x+1)).toNat) (IntKind.u16.wrap ((shrI .u32 (shlI .u32 (IntKind.u32.wrap ((a.getD ((x).toNat) 0))) vby) 16)))) (w64 (x+1))
  else none)
  else none)
  else none)
  else none))
  (some out))
def g_e_shifted (N:Nat) (a:List Int) (vby:Int):Option ((List Int)) :=
 (if 0≤(w64 (((a.length:Nat):Int)+1))∧(2:Int) * (w64 (((a.length:Nat):Int)+1))≤281474976710656∧(w64 (((a.length:Nat):Int)+1))≤9223372036854775807 then
 g_e_shifted_L1 N a vby N (List.replicate ((w64 (((a.length:Nat):Int)+1)).toNat) 0:List Int) 0
 else none)
def g_e_digit_J3 (N:Nat) (uo:Nat) (un:Nat) (v:List Int) (q:Int) (cap02:List Int) (borrow:Int) (x:Int) (K_g_e_digit_L2:(List Int)→Int→Int→Int→Option (Int×(List Int))) (x2:Int):Option (Int×(List Int)) :=
 (if 0≤x∧x < ((un:Nat):Int) then
 (if uo+un≤cap02.length then
 K_g_e_digit_L2 (cap02.set (addz uo (x).toNat) (IntKind.u16.wrap ((w64 ((w64 ((w64 ((cap02.getD (addz uo (x).toNat) 0))) - (w64 ((andI .u64 x2 65535)))))+borrow))))) (shrI .u64 x2 16) (shrI .i64 (w64 ((w64 ((w64 ((cap02.getD (addz uo (x).toNat) 0))) - (w64 ((andI .u64 x2 65535)))))+borrow)) 16) (w64 (x+1))
 else none)
 else none)
def g_e_digit_J5 (N:Nat) (cap04:List Int) (q2:Int):Option (Int×(List Int)) :=
 some ((IntKind.u16.wrap (q2)),cap04)
def g_e_digit_L4 (N:Nat) (uo:Nat) (un:Nat) (v:List Int) (q:Int):Nat→(List Int)→Int→Int→Option (Int×(List Int))
 | 0,_,_,_=>none
 | fuel+1,cap03,carry2,x3 =>
  (cond (decide (x3 < ((v.length:Nat):Int)))
  ((if 0≤x3∧x3 < ((un:Nat):Int) then
  (if uo+un≤cap03.length then
  (if 0≤x3∧x3 < ((v.length:Nat):Int) then
  g_e_digit_L4 N uo un v q fuel (cap03.set (addz uo (x3).toNat) (IntKind.u16.wrap ((IntKind.u32.wrap (carry2+(IntKind.u32.wrap ((IntKind.u32.wrap ((cap03.getD (addz uo (x3).toNat) 0)))+(IntKind.u32.wrap ((v.getD ((x3).toNat) 0)))))))))) (shrI .u32 (IntKind.u32.wrap (carry2+(IntKind.u32.wrap ((IntKind.u32.wrap ((cap03.getD (addz uo (x3).toNat) 0)))+(IntKind.u32.wrap ((v.getD ((x3).toNat) 0))))))) 16) (w64 (x3+1))
  else none)
  else none)
  else none))
  ((if 0≤((v.length:Nat):Int)∧((v.length:Nat):Int) < ((un:Nat):Int) then
  (if uo+un≤cap03.length then
  g_e_digit_J5 N (cap03.set (addz uo v.length) (IntKind.u16.wrap ((cap03.getD (addz uo v.length) 0)+(IntKind.u16.wrap (carry2))))) (IntKind.u64.wrap (q - 1))
  else none)
  else none)))
def g_e_digit_L2 (N:Nat) (uo:Nat) (un:Nat) (v:List Int) (q:Int):Nat→(List Int)→Int→Int→Int→Option (Int×(List Int))
 | 0,_,_,_,_=>none
 | fuel+1,cap02,carry,borrow,x =>
  (cond (decide (x < (w64 (((v.length:Nat):Int)+1))))
  ((cond (decide (x < ((v.length:Nat):Int)))
  ((if 0≤x∧x < ((v.length:Nat):Int) then
  g_e_digit_J3 N uo un v q cap02 borrow x (g_e_digit_L2 N uo un v q fuel) (IntKind.u64.wrap (carry+(IntKind.u64.wrap (q * (IntKind.u64.wrap ((v.getD ((x).toNat) 0)))))))
  else none))
  (g_e_digit_J3 N uo un v q cap02 borrow x (g_e_digit_L2 N uo un v q fuel) carry)))
  ((cond (decide (borrow < 0))
  (g_e_digit_L4 N uo un v q N cap02 0 0)
  (g_e_digit_J5 N cap02 q))))
def g_e_digit_L1 (N:Nat) (uo:Nat) (un:Nat) (v:List Int) (cap0:List Int):Nat→Int→Int→Option (Int×(List Int))
 | 0,_,_=>none
 | fuel+1,q,rest =>
  (if (((decide (rest < 65536)) && ((decide (rest < 65536)) && (!(decide (q > 65535)))))=true→0≤(w64 (((v.length:Nat):Int) - 2))∧(w64 (((v.length:Nat):Int) - 2)) < ((v.length:Nat):Int)) then
  (if (((decide (rest < 65536)) && ((decide (rest < 65536)) && (!(decide (q > 65535)))))=true→0≤(w64 (((v.length:Nat):Int) - 2))∧(w64 (((v.length:Nat):Int) - 2)) < ((un:Nat):Int)) then
  (if (((decide (rest < 65536)) && ((decide (rest < 65536)) && (!(decide (q > 65535)))))=true→uo+un≤cap0.length) then
  (cond (cond (decide (rest < 65536)) (cond (decide (q > 65535)) true (decide ((IntKind.u64.wrap (q * (IntKind.u64.wrap ((v.getD ((w64 (((v.length:Nat):Int) - 2)).toNat) 0))))) > (orI .u64 (shlI .u64 rest 16) (IntKind.u64.wrap ((cap0.getD (addz uo (w64 (((v.length:Nat):Int) - 2)).toNat) 0))))))) false)
  ((if 0≤(w64 (((v.length:Nat):Int) - 1))∧(w64 (((v.length:Nat):Int) - 1)) < ((v.length:Nat):Int) then
  g_e_digit_L1 N uo un v cap0 fuel (IntKind.u64.wrap (q - 1)) (IntKind.u64.wrap (rest+(IntKind.u64.wrap ((v.getD ((w64 (((v.length:Nat):Int) - 1)).toNat) 0)))))
  else none))
  (g_e_digit_L2 N uo un v q N cap0 0 0 0))
  else none)
  else none)
  else none)
def g_e_digit (N:Nat) (uo:Nat) (un:Nat) (v:List Int) (cap0:List Int):Option (Int×(List Int)) :=
 (if 0≤((v.length:Nat):Int)∧((v.length:Nat):Int) < ((un:Nat):Int) then
 (if uo+un≤cap0.length then
 (if 0≤(w64 (((v.length:Nat):Int) - 1))∧(w64 (((v.length:Nat):Int) - 1)) < ((un:Nat):Int) then
 (if 0≤(w64 (((v.length:Nat):Int) - 1))∧(w64 (((v.length:Nat):Int) - 1)) < ((v.length:Nat):Int) then
 (if ((IntKind.u64.wrap ((v.getD ((w64 (((v.length:Nat):Int) - 1)).toNat) 0))):Int)≠0 then
 g_e_digit_L1 N uo un v cap0 N (IntKind.u64.wrap ((orI .u64 (shlI .u64 (IntKind.u64.wrap ((cap0.getD (addz uo v.length) 0))) 16) (IntKind.u64.wrap ((cap0.getD (addz uo (w64 (((v.length:Nat):Int) - 1)).toNat) 0)))).tdiv (IntKind.u64.wrap ((v.getD ((w64 (((v.length:Nat):Int) - 1)).toNat) 0))))) ((orI .u64 (shlI .u64 (IntKind.u64.wrap ((cap0.getD (addz uo v.length) 0))) 16) (IntKind.u64.wrap ((cap0.getD (addz uo (w64 (((v.length:Nat):Int) - 1)).toNat) 0)))).tmod (IntKind.u64.wrap ((v.getD ((w64 (((v.length:Nat):Int) - 1)).toNat) 0))))
 else none)
 else none)
 else none)
 else none)
 else none)
def g_e_divide_L2 (N:Nat) (b:List Int) (rLeadingZeros:Int) (q:List Int) (u:List Int):Nat→(List Int)→Int→Option ((List Int)×(List Int))
 | 0,_,_=>none
 | fuel+1,vr,x =>
  (cond (decide (x < (((b.length - 0):Nat):Int)))
  ((if 0≤x∧x < ((u.length:Nat):Int) then
  (if 0≤(w64 (x+1))∧(w64 (x+1)) < ((u.length:Nat):Int) then
  (if (0:Int)≤rLeadingZeros then
  (if 0≤x∧x < ((vr.length:Nat):Int) then
  g_e_divide_L2 N b rLeadingZeros q u fuel (vr.set ((x).toNat) (IntKind.u16.wrap ((shrI .u32 (orI .u32 (IntKind.u32.wrap ((u.getD ((x).toNat) 0))) (shlI .u32 (IntKind.u32.wrap ((u.getD ((w64 (x+1)).toNat) 0))) 16)) rLeadingZeros)))) (w64 (x+1))
  else none)
  else none)
  else none)
  else none))
  (((g_e_trim N q).bind fun rtrim2 =>
  ((g_e_trim N vr).bind fun rtrim3 =>
  some (rtrim2,rtrim3)))))
def g_e_divide_L1 (N:Nat) (b:List Int) (rLeadingZeros:Int) (rshifted2:(List Int)):Nat→(List Int)→(List Int)→Int→Option ((List Int)×(List Int))
 | 0,_,_,_=>none
 | fuel+1,q,u,j =>
  (cond (decide (j≥0))
  ((if (j).toNat≤(w64 ((w64 (j+(((b.length - 0):Nat):Int)))+1)).toNat∧(w64 ((w64 (j+(((b.length - 0):Nat):Int)))+1)).toNat≤u.length then
  (if 0≤j then
  (if 0≤(w64 ((w64 (j+(((b.length - 0):Nat):Int)))+1)) then
  (if 0≤b.length∧b.length≤rshifted2.length then
  ((g_e_digit N ((j).toNat) ((w64 ((w64 (j+(((b.length - 0):Nat):Int)))+1)).toNat - (j).toNat) ((rshifted2.take b.length).drop 0) u).bind fun rdigit =>
  (if rdigit.2.length=u.length then
  (if 0≤j∧j < ((q.length:Nat):Int) then
  g_e_divide_L1 N b rLeadingZeros rshifted2 fuel (q.set ((j).toNat) rdigit.1) rdigit.2 (w64 (j - 1))
  else none)
  else none))
  else none)
  else none)
  else none)
  else none))
  ((if 0≤(((b.length - 0):Nat):Int)∧(2:Int) * (((b.length - 0):Nat):Int)≤281474976710656∧(((b.length - 0):Nat):Int)≤9223372036854775807 then
  g_e_divide_L2 N b rLeadingZeros q u N (List.replicate (b.length - 0) 0:List Int) 0
  else none)))
def g_e_divide (N:Nat) (a:List Int) (b:List Int):Option ((List Int)×(List Int)) :=
 ((g_e_compare N a b).bind fun rcompare =>
 (cond (decide (rcompare < 0))
 (((g_slices_Clone_uint16_uint16 N a).bind fun rClone =>
 some (([]:List Int),rClone)))
 ((cond (((b.length:Nat):Int) == 1)
 ((if 0≤(0:Int)∧0 < ((b.length:Nat):Int) then
 ((g_e_short N a (b.getD 0 0)).bind fun rshort =>
 ((g_e_trim N ([rshort.2]:List Int)).bind fun rtrim =>
 some (rshort.1,rtrim)))
 else none))
 ((if 0≤(w64 (((b.length:Nat):Int) - 1))∧(w64 (((b.length:Nat):Int) - 1)) < ((b.length:Nat):Int) then
 ((g_math_bits_LeadingZeros16 N (b.getD ((w64 (((b.length:Nat):Int) - 1)).toNat) 0)).bind fun rLeadingZeros =>
 ((g_e_shifted N a rLeadingZeros).bind fun rshifted =>
 ((g_e_shifted N b rLeadingZeros).bind fun rshifted2 =>
 (if 0≤b.length∧b.length≤rshifted2.length then
 (if 0≤(w64 (((rshifted.length:Nat):Int) - (((b.length - 0):Nat):Int)))∧(2:Int) * (w64 (((rshifted.length:Nat):Int) - (((b.length - 0):Nat):Int)))≤281474976710656∧(w64 (((rshifted.length:Nat):Int) - (((b.length - 0):Nat):Int)))≤9223372036854775807 then
 g_e_divide_L1 N b rLeadingZeros rshifted2 N (List.replicate ((w64 (((rshifted.length:Nat):Int) - (((b.length - 0):Nat):Int))).toNat) 0:List Int) rshifted (w64 ((w64 (((rshifted.length:Nat):Int) - (((b.length - 0):Nat):Int))) - 1))
 else none)
 else none))))
 else none))))))
def g_e_common_L2 (N:Nat) (K_g_e_common_L1:(List Int)→(List Int)→Option ((List Int))):Nat→Int→Int→Option ((List Int))
 | 0,_,_=>none
 | fuel+1,x,y =>
  (cond (decide (y > 0))
  ((if (y:Int)≠0 then
  g_e_common_L2 N K_g_e_common_L1 fuel y (x.tmod y)
  else none))
  (((g_e_natural N x).bind fun rnatural =>
  some rnatural)))
def g_e_common_L1 (N:Nat):Nat→(List Int)→(List Int)→Option ((List Int))
 | 0,_,_=>none
 | fuel+1,a2,b2 =>
  (cond (decide (((b2.length:Nat):Int) > 0))
  (((g_e_word N a2).bind fun rword =>
  ((g_e_word N b2).bind fun rword2 =>
  (cond (cond rword.2 rword2.2 false)
  (g_e_common_L2 N (g_e_common_L1 N fuel) N rword.1 rword2.1)
  (((g_e_divide N a2 b2).bind fun rdivide =>
  g_e_common_L1 N fuel b2 rdivide.2))))))
  (some a2))
def g_e_common (N:Nat) (a:List Int) (b:List Int):Option ((List Int)) :=
 g_e_common_L1 N N a b
def g_e_fraction_J1 (N:Nat) (a:TInt) (b:TInt) (x:List Int) (y:List Int):Option (TRat) :=
 ((g_e_signed N (!(a.f_Neg == b.f_Neg)) x).bind fun rsigned =>
 ((g_e_signed N false y).bind fun rsigned2 =>
 some (⟨rsigned,rsigned2⟩:TRat)))
def g_e_fraction (N:Nat) (a:TInt) (b:TInt):Option (TRat) :=
 ((g_e_trim N a.f_Limbs).bind fun rtrim =>
 ((g_e_trim N b.f_Limbs).bind fun rtrim2 =>
 ((g_e_common N rtrim rtrim2).bind fun rcommon =>
 (if ((!(((rcommon.length:Nat):Int) != 1))=true→0≤(0:Int)∧0 < ((rcommon.length:Nat):Int)) then
 (cond (cond (((rcommon.length:Nat):Int) != 1) true ((rcommon.getD 0 0) != 1))
 (((g_e_divide N rtrim rcommon).bind fun rdivide =>
 ((g_e_divide N rtrim2 rcommon).bind fun rdivide2 =>
 g_e_fraction_J1 N a b rdivide.1 rdivide2.1)))
 (g_e_fraction_J1 N a b rtrim rtrim2))
 else none))))
def g_e_Whole (N:Nat) (a:TInt):Option (TRat) :=
 ((g_e_fraction N a (⟨false,([1]:List Int)⟩:TInt)).bind fun rfraction =>
 some (⟨rfraction.f_Num,rfraction.f_Den⟩:TRat))
def g_e_times_L2 (N:Nat) (a:List Int) (b:List Int) (x:Int) (K_g_e_times_L1:(List Int)→Int→Option ((List Int))):Nat→(List Int)→Int→Int→Option ((List Int))
 | 0,_,_,_=>none
 | fuel+1,out2,carry,x2 =>
  (cond (decide (x2 < ((b.length:Nat):Int)))
  ((if 0≤x2∧x2 < ((b.length:Nat):Int) then
  (if 0≤(w64 (x+x2))∧(w64 (x+x2)) < ((out2.length:Nat):Int) then
  g_e_times_L2 N a b x K_g_e_times_L1 fuel (out2.set ((w64 (x+x2)).toNat) (IntKind.u16.wrap ((IntKind.u32.wrap (carry+(IntKind.u32.wrap ((IntKind.u32.wrap ((IntKind.u32.wrap ((a.getD ((x).toNat) 0))) * (IntKind.u32.wrap ((b.getD ((x2).toNat) 0)))))+(IntKind.u32.wrap ((out2.getD ((w64 (x+x2)).toNat) 0)))))))))) (shrI .u32 (IntKind.u32.wrap (carry+(IntKind.u32.wrap ((IntKind.u32.wrap ((IntKind.u32.wrap ((a.getD ((x).toNat) 0))) * (IntKind.u32.wrap ((b.getD ((x2).toNat) 0)))))+(IntKind.u32.wrap ((out2.getD ((w64 (x+x2)).toNat) 0))))))) 16) (w64 (x2+1))
  else none)
  else none))
  ((if 0≤(w64 (x+((b.length:Nat):Int)))∧(w64 (x+((b.length:Nat):Int))) < ((out2.length:Nat):Int) then
  K_g_e_times_L1 (out2.set ((w64 (x+((b.length:Nat):Int))).toNat) (IntKind.u16.wrap (carry))) (w64 (x+1))
  else none)))
def g_e_times_L1 (N:Nat) (a:List Int) (b:List Int):Nat→(List Int)→Int→Option ((List Int))
 | 0,_,_=>none
 | fuel+1,out,x =>
  (cond (decide (x < ((a.length:Nat):Int)))
  ((if 0≤x∧x < ((a.length:Nat):Int) then
  g_e_times_L2 N a b x (g_e_times_L1 N a b fuel) N out 0 0
  else none))
  (((g_e_trim N out).bind fun rtrim =>
  some rtrim)))
def g_e_times (N:Nat) (a:List Int) (b:List Int):Option ((List Int)) :=
 (if 0≤(w64 (((a.length:Nat):Int)+((b.length:Nat):Int)))∧(2:Int) * (w64 (((a.length:Nat):Int)+((b.length:Nat):Int)))≤281474976710656∧(w64 (((a.length:Nat):Int)+((b.length:Nat):Int)))≤9223372036854775807 then
 g_e_times_L1 N a b N (List.replicate ((w64 (((a.length:Nat):Int)+((b.length:Nat):Int))).toNat) 0:List Int) 0
 else none)
def g_e_Mul (N:Nat) (a:TInt) (b:TInt):Option (TInt) :=
 ((g_e_trim N a.f_Limbs).bind fun rtrim =>
 ((g_e_trim N b.f_Limbs).bind fun rtrim2 =>
 ((g_e_times N rtrim rtrim2).bind fun rtimes =>
 ((g_e_signed N (!(a.f_Neg == b.f_Neg)) rtimes).bind fun rsigned =>
 some rsigned))))
def g_e_sign (N:Nat) (a:TInt):Option (Int) :=
 ((g_e_trim N a.f_Limbs).bind fun rtrim =>
 (cond (((rtrim.length:Nat):Int) == 0)
 (some 0)
 ((cond a.f_Neg
 (some (-1))
 (some 1)))))
def g_e_below (N:Nat) (x:TRat):Option (TInt) :=
 ((g_e_sign N x.f_Den).bind fun rsign =>
 (cond (rsign == 0)
 (some (⟨false,([1]:List Int)⟩:TInt))
 (some x.f_Den)))
def g_e_MulRat (N:Nat) (x:TRat) (y:TRat):Option (TRat) :=
 ((g_e_Mul N x.f_Num y.f_Num).bind fun rMul =>
 ((g_e_below N x).bind fun rbelow =>
 ((g_e_below N y).bind fun rbelow2 =>
 ((g_e_Mul N rbelow rbelow2).bind fun rMul2 =>
 ((g_e_fraction N rMul rMul2).bind fun rfraction =>
 some (⟨rfraction.f_Num,rfraction.f_Den⟩:TRat))))))
def g_water_product_L1 (N:Nat) (l:List Int):Nat→Bool→(List Int)→Bool→(List Int)→Int→Option (TRat)
 | 0,_,_,_,_,_=>none
 | fuel+1,out,out2,out3,out4,x =>
  (cond (decide (x < ((l.length:Nat):Int)))
  ((if 0≤x∧x < ((l.length:Nat):Int) then
  ((g_e_Of N (l.getD ((x).toNat) 0)).bind fun rOf2 =>
  ((g_e_Whole N rOf2).bind fun rWhole2 =>
  ((g_e_MulRat N (⟨(⟨out,out2⟩:TInt),(⟨out3,out4⟩:TInt)⟩:TRat) (⟨rWhole2.f_Num,rWhole2.f_Den⟩:TRat)).bind fun rMulRat =>
  g_water_product_L1 N l fuel rMulRat.f_Num.f_Neg rMulRat.f_Num.f_Limbs rMulRat.f_Den.f_Neg rMulRat.f_Den.f_Limbs (w64 (x+1)))))
  else none))
  (some (⟨(⟨out,out2⟩:TInt),(⟨out3,out4⟩:TInt)⟩:TRat)))
def g_water_product (N:Nat) (l:List Int):Option (TRat) :=
 ((g_e_Of N 1).bind fun rOf =>
 ((g_e_Whole N rOf).bind fun rWhole =>
 g_water_product_L1 N l N rWhole.f_Num.f_Neg rWhole.f_Num.f_Limbs rWhole.f_Den.f_Neg rWhole.f_Den.f_Limbs 0))
def g_e_isZero (N:Nat) (x:TRat):Option (Bool) :=
 ((g_e_sign N x.f_Num).bind fun rsign =>
 some (rsign == 0))
def g_e_over (N:Nat) (x:TRat) (y:TRat):Option (TRat) :=
 ((g_e_below N y).bind fun rbelow =>
 ((g_e_Mul N x.f_Num rbelow).bind fun rMul =>
 ((g_e_below N x).bind fun rbelow2 =>
 ((g_e_Mul N rbelow2 y.f_Num).bind fun rMul2 =>
 ((g_e_fraction N rMul rMul2).bind fun rfraction =>
 some (⟨rfraction.f_Num,rfraction.f_Den⟩:TRat))))))
def g_e_QuoRat (N:Nat) (x:TRat) (y:TRat):Option (TRat×Int) :=
 ((g_e_isZero N y).bind fun risZero =>
 (cond risZero
 (some ((⟨(⟨false,([]:List Int)⟩:TInt),(⟨false,([]:List Int)⟩:TInt)⟩:TRat),9))
 (((g_e_over N x y).bind fun rover =>
 some ((⟨rover.f_Num,rover.f_Den⟩:TRat),0)))))
def g_water_quotient (N:Nat) (x:TRat) (y:TRat):Option (TRat) :=
 ((g_e_QuoRat N x y).bind fun rQuoRat =>
 some (⟨rQuoRat.1.f_Num,rQuoRat.1.f_Den⟩:TRat))
def g_e_opposite (N:Nat) (a:TInt):Option (TInt) :=
 some (⟨(!a.f_Neg),a.f_Limbs⟩:TInt)
def g_e_negative (N:Nat) (x:TRat):Option (TRat) :=
 ((g_e_opposite N x.f_Num).bind fun ropposite =>
 ((g_e_below N x).bind fun rbelow =>
 ((g_e_fraction N ropposite rbelow).bind fun rfraction =>
 some rfraction)))
def g_e_lowest (N:Nat) (x:TRat):Option (TRat) :=
 ((g_e_below N x).bind fun rbelow =>
 ((g_e_fraction N x.f_Num rbelow).bind fun rfraction =>
 some rfraction))
def g_e_plus_J3 (N:Nat) (a2:List Int) (b2:List Int) (out:List Int) (x:Int) (K_g_e_plus_L2:(List Int)→Int→Int→Option ((List Int))) (carry2:Int):Option ((List Int)) :=
 (if (out.length+1) * 2≤140737488355328 then
 K_g_e_plus_L2 (out ++ ([(IntKind.u16.wrap (carry2))]:List Int)) (shrI .u32 carry2 16) (w64 (x+1))
 else none)
def g_e_plus_L2 (N:Nat) (a2:List Int) (b2:List Int):Nat→(List Int)→Int→Int→Option ((List Int))
 | 0,_,_,_=>none
 | fuel+1,out,carry,x =>
  (cond (decide (x < ((a2.length:Nat):Int)))
  ((if 0≤x∧x < ((a2.length:Nat):Int) then
  (cond (decide (x < ((b2.length:Nat):Int)))
  ((if 0≤x∧x < ((b2.length:Nat):Int) then
  g_e_plus_J3 N a2 b2 out x (g_e_plus_L2 N a2 b2 fuel) (IntKind.u32.wrap ((IntKind.u32.wrap (carry+(IntKind.u32.wrap ((a2.getD ((x).toNat) 0)))))+(IntKind.u32.wrap ((b2.getD ((x).toNat) 0)))))
  else none))
  (g_e_plus_J3 N a2 b2 out x (g_e_plus_L2 N a2 b2 fuel) (IntKind.u32.wrap (carry+(IntKind.u32.wrap ((a2.getD ((x).toNat) 0)))))))
  else none))
  ((if (out.length+1) * 2≤140737488355328 then
  ((g_e_trim N (out ++ ([(IntKind.u16.wrap (carry))]:List Int))).bind fun rtrim =>
  some rtrim)
  else none)))
def g_e_plus_J1 (N:Nat) (a2:List Int) (b2:List Int):Option ((List Int)) :=
 (if 0≤(0:Int)∧(2:Int) * (w64 (((a2.length:Nat):Int)+1))≤281474976710656∧(w64 (((a2.length:Nat):Int)+1))≤9223372036854775807∧(0:Int)≤(w64 (((a2.length:Nat):Int)+1)) then
 g_e_plus_L2 N a2 b2 N (List.replicate 0 0:List Int) 0 0
 else none)
def g_e_plus (N:Nat) (a:List Int) (b:List Int):Option ((List Int)) :=
 (cond (decide (((a.length:Nat):Int) < ((b.length:Nat):Int)))
 (g_e_plus_J1 N b a)
 (g_e_plus_J1 N a b))
def g_e_minus_J3 (N:Nat) (a:List Int) (b:List Int) (out:List Int) (x:Int) (y:Int) (K_g_e_minus_L1:(List Int)→Int→Int→Option ((List Int))) (borrow2:Int):Option ((List Int)) :=
 (if 0≤x∧x < ((out.length:Nat):Int) then
 K_g_e_minus_L1 (out.set ((x).toNat) (IntKind.u16.wrap ((IntKind.u32.wrap ((IntKind.u32.wrap ((IntKind.u32.wrap ((a.getD ((x).toNat) 0)))+(shlI .u32 borrow2 16))) - y))))) borrow2 (w64 (x+1))
 else none)
def g_e_minus_J2 (N:Nat) (a:List Int) (b:List Int) (out:List Int) (x:Int) (K_g_e_minus_L1:(List Int)→Int→Int→Option ((List Int))) (y:Int):Option ((List Int)) :=
 (cond (decide ((IntKind.u32.wrap ((a.getD ((x).toNat) 0))) < y))
 (g_e_minus_J3 N a b out x y K_g_e_minus_L1 1)
 (g_e_minus_J3 N a b out x y K_g_e_minus_L1 0))
def g_e_minus_L1 (N:Nat) (a:List Int) (b:List Int):Nat→(List Int)→Int→Int→Option ((List Int))
 | 0,_,_,_=>none
 | fuel+1,out,borrow,x =>
  (cond (decide (x < ((a.length:Nat):Int)))
  ((if 0≤x∧x < ((a.length:Nat):Int) then
  (cond (decide (x < ((b.length:Nat):Int)))
  ((if 0≤x∧x < ((b.length:Nat):Int) then
  g_e_minus_J2 N a b out x (g_e_minus_L1 N a b fuel) (IntKind.u32.wrap (borrow+(IntKind.u32.wrap ((b.getD ((x).toNat) 0)))))
  else none))
  (g_e_minus_J2 N a b out x (g_e_minus_L1 N a b fuel) borrow))
  else none))
  (((g_e_trim N out).bind fun rtrim =>
  some rtrim)))
def g_e_minus (N:Nat) (a:List Int) (b:List Int):Option ((List Int)) :=
 (if 0≤((a.length:Nat):Int)∧(2:Int) * ((a.length:Nat):Int)≤281474976710656∧((a.length:Nat):Int)≤9223372036854775807 then
 g_e_minus_L1 N a b N (List.replicate a.length 0:List Int) 0 0
 else none)
def g_e_Add (N:Nat) (a:TInt) (b:TInt):Option (TInt) :=
 ((g_e_trim N a.f_Limbs).bind fun rtrim =>
 ((g_e_trim N b.f_Limbs).bind fun rtrim2 =>
 (cond (a.f_Neg == b.f_Neg)
 (((g_e_plus N rtrim rtrim2).bind fun rplus =>
 ((g_e_signed N a.f_Neg rplus).bind fun rsigned =>
 some rsigned)))
 (((g_e_compare N rtrim rtrim2).bind fun rcompare =>
 (cond (decide (rcompare≥0))
 (((g_e_minus N rtrim rtrim2).bind fun rminus =>
 ((g_e_signed N a.f_Neg rminus).bind fun rsigned2 =>
 some rsigned2)))
 (((g_e_minus N rtrim2 rtrim).bind fun rminus2 =>
 ((g_e_signed N b.f_Neg rminus2).bind fun rsigned3 =>
 some rsigned3)))))))))
def g_e_AddRat (N:Nat) (x:TRat) (y:TRat):Option (TRat) :=
 ((g_e_isZero N x).bind fun risZero =>
 (cond risZero
 (((g_e_lowest N y).bind fun rlowest =>
 some rlowest))
 (((g_e_isZero N y).bind fun risZero2 =>
 (cond risZero2
 (((g_e_lowest N x).bind fun rlowest2 =>
 some rlowest2))
 (((g_e_below N x).bind fun rbelow =>
 ((g_e_below N y).bind fun rbelow2 =>
 ((g_e_Mul N x.f_Num rbelow2).bind fun rMul =>
 ((g_e_Mul N y.f_Num rbelow).bind fun rMul2 =>
 ((g_e_Add N rMul rMul2).bind fun rAdd =>
 ((g_e_Mul N rbelow rbelow2).bind fun rMul3 =>
 ((g_e_fraction N rAdd rMul3).bind fun rfraction =>
 some rfraction)))))))))))))
def g_e_SubRat (N:Nat) (x:TRat) (y:TRat):Option (TRat) :=
 ((g_e_negative N y).bind fun rnegative =>
 ((g_e_AddRat N x rnegative).bind fun rAddRat =>
 some rAddRat))
def g_water_Float (N:Nat) (p:TPontoon) (steps:List Int):Option (TPose×Int) :=
 ((g_water_CheckPontoon N p).bind fun rCheckPontoon =>
 (cond (rCheckPontoon != 0)
 (some ((⟨(⟨(⟨false,([]:List Int)⟩:TInt),(⟨false,([]:List Int)⟩:TInt)⟩:TRat),(⟨(⟨false,([]:List Int)⟩:TInt),(⟨false,([]:List Int)⟩:TInt)⟩:TRat),(⟨(⟨false,([]:List Int)⟩:TInt),(⟨false,([]:List Int)⟩:TInt)⟩:TRat),(⟨(⟨false,([]:List Int)⟩:TInt),(⟨false,([]:List Int)⟩:TInt)⟩:TRat)⟩:TPose),rCheckPontoon))
 (((g_water_checkSteps N p steps).bind fun rcheckSteps =>
 (cond (rcheckSteps.2 != 0)
 (some ((⟨(⟨(⟨false,([]:List Int)⟩:TInt),(⟨false,([]:List Int)⟩:TInt)⟩:TRat),(⟨(⟨false,([]:List Int)⟩:TInt),(⟨false,([]:List Int)⟩:TInt)⟩:TRat),(⟨(⟨false,([]:List Int)⟩:TInt),(⟨false,([]:List Int)⟩:TInt)⟩:TRat),(⟨(⟨false,([]:List Int)⟩:TInt),(⟨false,([]:List Int)⟩:TInt)⟩:TRat)⟩:TPose),rcheckSteps.2))
 (((g_water_sumOf N p rcheckSteps.1).bind fun rsumOf =>
 ((g_water_product N ([1000000000,rsumOf.f_mass]:List Int)).bind fun rproduct =>
 ((g_water_product N ([p.f_Density,p.f_Length,p.f_Breadth]:List Int)).bind fun rproduct2 =>
 ((g_water_quotient N (⟨rproduct.f_Num,rproduct.f_Den⟩:TRat) (⟨rproduct2.f_Num,rproduct2.f_Den⟩:TRat)).bind fun rquotient =>
 ((g_water_product N ([12000000000,rsumOf.f_x]:List Int)).bind fun rproduct3 =>
 ((g_water_product N ([p.f_Density,p.f_Breadth,p.f_Length,p.f_Length,p.f_Length]:List Int)).bind fun rproduct4 =>
 ((g_water_quotient N (⟨rproduct3.f_Num,rproduct3.f_Den⟩:TRat) (⟨rproduct4.f_Num,rproduct4.f_Den⟩:TRat)).bind fun rquotient2 =>
 ((g_water_product N ([12000000000,rsumOf.f_y]:List Int)).bind fun rproduct5 =>
 ((g_water_product N ([p.f_Density,p.f_Length,p.f_Breadth,p.f_Breadth,p.f_Breadth]:List Int)).bind fun rproduct6 =>
 ((g_water_quotient N (⟨rproduct5.f_Num,rproduct5.f_Den⟩:TRat) (⟨rproduct6.f_Num,rproduct6.f_Den⟩:TRat)).bind fun rquotient3 =>
 ((g_water_product N ([rsumOf.f_arm]:List Int)).bind fun rproduct7 =>
 ((g_water_product N ([2]:List Int)).bind fun rproduct8 =>
 ((g_water_quotient N (⟨rproduct7.f_Num,rproduct7.f_Den⟩:TRat) (⟨rproduct8.f_Num,rproduct8.f_Den⟩:TRat)).bind fun rquotient4 =>
 ((g_water_product N ([rsumOf.f_mass,p.f_Length]:List Int)).bind fun rproduct9 =>
 ((g_water_product N ([8]:List Int)).bind fun rproduct10 =>
 ((g_water_quotient N (⟨rproduct9.f_Num,rproduct9.f_Den⟩:TRat) (⟨rproduct10.f_Num,rproduct10.f_Den⟩:TRat)).bind fun rquotient5 =>
 ((g_e_SubRat N (⟨rquotient4.f_Num,rquotient4.f_Den⟩:TRat) (⟨rquotient5.f_Num,rquotient5.f_Den⟩:TRat)).bind fun rSubRat =>
 some ((⟨rquotient,rquotient2,rquotient3,rSubRat⟩:TPose),0))))))))))))))))))))))))
def g_r05_inside (N:Nat) (n:Int) (low:Int) (high:Int):Option (Bool) :=
 some (cond (decide (n≥low)) (decide (n≤high)) false)
def g_b_IsName_L1 (N:Nat) (s:ByteArray):Nat→Int→Option (Bool)
 | 0,_=>none
 | fuel+1,i =>
  (cond (decide (i < ((s.size:Nat):Int)))
  ((if 0≤i∧i < ((s.size:Nat):Int) then
  (cond (cond (!(cond (cond (decide ((byteAt s ((i).toNat))≥97)) (decide ((byteAt s ((i).toNat))≤122)) false) true (cond (decide ((byteAt s ((i).toNat))≥65)) (decide ((byteAt s ((i).toNat))≤90)) false))) (cond (i == 0) true (cond ((byteAt s ((i).toNat)) != 45) (cond (decide ((byteAt s ((i).toNat)) < 48)) true (decide ((byteAt s ((i).toNat)) > 57))) false)) false)
  (some false)
  (g_b_IsName_L1 N s fuel (w64 (i+1))))
  else none))
  (some true))
def g_b_IsName (N:Nat) (s:ByteArray):Option (Bool) :=
 (cond (cond (decide (((s.size:Nat):Int) < 1)) true (decide (((s.size:Nat):Int) > 12)))
 (some false)
 (g_b_IsName_L1 N s N 0))
def g_r05_CheckPontoon_L3 (N:Nat) (p:TPontoon) (i2:Int) (K_g_r05_CheckPontoon_L2:Int→Option (Int)):Nat→Int→Option (Int)
 | 0,_=>none
 | fuel+1,k =>
  (cond (decide (k < i2))
  ((if 0≤k∧k < ((p.f_Tanks.length:Nat):Int) then
  (cond (streq ((p.f_Tanks.getD ((k).toNat) TTank.d).f_Name) ((p.f_Tanks.getD ((i2).toNat) TTank.d).f_Name))
  (some 5)
  (g_r05_CheckPontoon_L3 N p i2 K_g_r05_CheckPontoon_L2 fuel (w64 (k+1))))
  else none))
  (((g_r05_inside N ((p.f_Tanks.getD ((i2).toNat) TTank.d).f_X) (-1000000) 1000000).bind fun rinside7 =>
  ((cond (!(!rinside7)) (g_r05_inside N ((p.f_Tanks.getD ((i2).toNat) TTank.d).f_Y) (-1000000) 1000000) (some false)).bind fun rinside8 =>
  ((cond (!(cond (!rinside7) true (!rinside8))) (g_r05_inside N ((p.f_Tanks.getD ((i2).toNat) TTank.d).f_Steps) 0 12) (some false)).bind fun rinside9 =>
  ((cond (!(cond (cond (!rinside7) true (!rinside8)) true (!rinside9))) (g_r05_inside N ((p.f_Tanks.getD ((i2).toNat) TTank.d).f_Mass) 0 1000000000) (some false)).bind fun rinside10 =>
  (cond (cond (cond (cond (!rinside7) true (!rinside8)) true (!rinside9)) true (!rinside10))
  (some 2)
  (K_g_r05_CheckPontoon_L2 (w64 (i2+1))))))))))
def g_r05_CheckPontoon_L2 (N:Nat) (p:TPontoon):Nat→Int→Option (Int)
 | 0,_=>none
 | fuel+1,i2 =>
  (cond (decide (i2 < ((p.f_Tanks.length:Nat):Int)))
  ((if 0≤i2∧i2 < ((p.f_Tanks.length:Nat):Int) then
  ((g_b_IsName N ((p.f_Tanks.getD ((i2).toNat) TTank.d).f_Name)).bind fun rIsName =>
  (cond (!rIsName)
  (some 4)
  (g_r05_CheckPontoon_L3 N p i2 (g_r05_CheckPontoon_L2 N p fuel) N 0)))
  else none))
  (some 0))
def g_r05_CheckPontoon_L1 (N:Nat) (p:TPontoon):Nat→Int→Option (Int)
 | 0,_=>none
 | fuel+1,i =>
  (cond (decide (i < ((p.f_Masses.length:Nat):Int)))
  ((if 0≤i∧i < ((p.f_Masses.length:Nat):Int) then
  ((g_r05_inside N ((p.f_Masses.getD ((i).toNat) TPointMass.d).f_X) (-1000000) 1000000).bind fun rinside4 =>
  ((cond (!(!rinside4)) (g_r05_inside N ((p.f_Masses.getD ((i).toNat) TPointMass.d).f_Y) (-1000000) 1000000) (some false)).bind fun rinside5 =>
  ((cond (!(cond (!rinside4) true (!rinside5))) (g_r05_inside N ((p.f_Masses.getD ((i).toNat) TPointMass.d).f_Mass) 0 1000000000) (some false)).bind fun rinside6 =>
  (cond (cond (cond (!rinside4) true (!rinside5)) true (!rinside6))
  (some 2)
  (g_r05_CheckPontoon_L1 N p fuel (w64 (i+1)))))))
  else none))
  ((cond (decide (((p.f_Tanks.length:Nat):Int) > 6))
  (some 8)
  (g_r05_CheckPontoon_L2 N p N 0))))
def g_r05_CheckPontoon (N:Nat) (p:TPontoon):Option (Int) :=
 ((g_r05_inside N p.f_Length 1 1000000).bind fun rinside =>
 ((cond (!(!rinside)) (g_r05_inside N p.f_Breadth 1 1000000) (some false)).bind fun rinside2 =>
 ((cond (!(cond (!rinside) true (!rinside2))) (g_r05_inside N p.f_Density 900 1100) (some false)).bind fun rinside3 =>
 (cond (cond (cond (!rinside) true (!rinside2)) true (!rinside3))
 (some 2)
 ((cond (decide (((p.f_Masses.length:Nat):Int) > 20))
 (some 8)
 (g_r05_CheckPontoon_L1 N p N 0)))))))
def g_r05_States_L1 (N:Nat) (p:TPontoon) (most:Int):Nat→Int→Int→Option (Int)
 | 0,_,_=>none
 | fuel+1,n,i =>
  (cond (decide (i < ((p.f_Tanks.length:Nat):Int)))
  ((if 0≤i∧i < ((p.f_Tanks.length:Nat):Int) then
  (cond (decide ((w64 (n * (w64 ((p.f_Tanks.getD ((i).toNat) TTank.d).f_Steps+1)))) > most))
  (some (w64 (n * (w64 ((p.f_Tanks.getD ((i).toNat) TTank.d).f_Steps+1)))))
  (g_r05_States_L1 N p most fuel (w64 (n * (w64 ((p.f_Tanks.getD ((i).toNat) TTank.d).f_Steps+1)))) (w64 (i+1))))
  else none))
  (some n))
def g_r05_States (N:Nat) (p:TPontoon) (most:Int):Option (Int) :=
 g_r05_States_L1 N p most N 1 0
def g_water_checkLimits (N:Nat) (l:TLimits):Option (Int) :=
 ((g_water_between N l.f_DraughtLeast 0 1000000).bind fun rbetween =>
 ((cond (!(!rbetween)) (g_water_between N l.f_DraughtMost 0 1000000) (some false)).bind fun rbetween2 =>
 ((cond (!(cond (!rbetween) true (!rbetween2))) (g_water_between N l.f_TrimMost 0 1000) (some false)).bind fun rbetween3 =>
 ((cond (!(cond (cond (!rbetween) true (!rbetween2)) true (!rbetween3))) (g_water_between N l.f_HeelMost 0 1000) (some false)).bind fun rbetween4 =>
 ((cond (!(cond (cond (cond (!rbetween) true (!rbetween2)) true (!rbetween3)) true (!rbetween4))) (g_water_between N l.f_HogMost 0 1000000000000000000) (some false)).bind fun rbetween5 =>
 (cond (cond (cond (cond (cond (!rbetween) true (!rbetween2)) true (!rbetween3)) true (!rbetween4)) true (!rbetween5))
 (some 2)
 (some 0)))))))
def g_water_draughts_1 (N:Nat) (d:Int) (cap0:TPontoon):Option (TRat) :=
 ((g_water_product N ([d,cap0.f_Density,cap0.f_Length,cap0.f_Breadth]:List Int)).bind fun rproduct =>
 ((g_water_product N ([1000000000]:List Int)).bind fun rproduct2 =>
 ((g_water_quotient N (⟨rproduct.f_Num,rproduct.f_Den⟩:TRat) (⟨rproduct2.f_Num,rproduct2.f_Den⟩:TRat)).bind fun rquotient =>
 some (⟨rquotient.f_Num,rquotient.f_Den⟩:TRat))))
def g_e_DivMod_J1 (N:Nat) (a:TInt) (b:TInt) (n:List Int) (rest:List Int):Option (TInt×TInt×Int) :=
 ((g_e_signed N (!(a.f_Neg == b.f_Neg)) n).bind fun rsigned =>
 ((g_e_signed N false rest).bind fun rsigned2 =>
 some (rsigned,rsigned2,0)))
def g_e_DivMod (N:Nat) (a:TInt) (b:TInt):Option (TInt×TInt×Int) :=
 ((g_e_trim N a.f_Limbs).bind fun rtrim =>
 ((g_e_trim N b.f_Limbs).bind fun rtrim2 =>
 (cond (((rtrim2.length:Nat):Int) == 0)
 (some ((⟨false,([]:List Int)⟩:TInt),(⟨false,([]:List Int)⟩:TInt),9))
 (((g_e_divide N rtrim rtrim2).bind fun rdivide =>
 (cond (cond a.f_Neg (decide (((rdivide.2.length:Nat):Int) > 0)) false)
 (((g_e_plus N rdivide.1 ([1]:List Int)).bind fun rplus =>
 ((g_e_minus N rtrim2 rdivide.2).bind fun rminus =>
 g_e_DivMod_J1 N a b rplus rminus)))
 (g_e_DivMod_J1 N a b rdivide.1 rdivide.2)))))))
def g_e_Floor (N:Nat) (x:TRat):Option (TInt) :=
 ((g_e_lowest N x).bind fun rlowest =>
 ((g_e_DivMod N rlowest.f_Num rlowest.f_Den).bind fun rDivMod =>
 some rDivMod.1))
def g_e_Small (N:Nat) (a:TInt):Option (Int×Bool) :=
 ((g_e_trim N a.f_Limbs).bind fun rtrim =>
 ((g_e_word N rtrim).bind fun rword =>
 (cond (!rword.2)
 (some (0,false))
 ((cond (cond a.f_Neg (decide (rword.1≤9223372036854775808)) false)
 (some ((w64 ((IntKind.u64.wrap (0 - rword.1)))),true))
 ((cond (cond (!a.f_Neg) (decide (rword.1≤9223372036854775807)) false)
 (some ((w64 (rword.1)),true))
 (some (0,false)))))))))
def g_water_whole (N:Nat) (x:TRat):Option (Int) :=
 ((g_e_Floor N x).bind fun rFloor =>
 ((g_e_Small N rFloor).bind fun rSmall =>
 some rSmall.1))
def g_e_signOf (N:Nat) (x:TRat):Option (Int) :=
 ((g_e_sign N x.f_Num).bind fun rsign =>
 ((g_e_below N x).bind fun rbelow =>
 ((g_e_sign N rbelow).bind fun rsign2 =>
 some (w64 (rsign * rsign2)))))
def g_e_CmpRat (N:Nat) (x:TRat) (y:TRat):Option (Int) :=
 ((g_e_SubRat N x y).bind fun rSubRat =>
 ((g_e_signOf N rSubRat).bind fun rsignOf =>
 some rsignOf))
def g_water_draughts_J1 (N:Nat) (p:TPontoon) (most:Int) (low:Int):Option (Int×Int) :=
 ((g_water_draughts_1 N most p).bind fun rdraughts13 =>
 ((g_water_whole N (⟨rdraughts13.f_Num,rdraughts13.f_Den⟩:TRat)).bind fun rwhole2 =>
 some (low,rwhole2)))
def g_water_draughts (N:Nat) (p:TPontoon) (least:Int) (most:Int):Option (Int×Int) :=
 ((g_water_draughts_1 N least p).bind fun rdraughts1 =>
 ((g_water_whole N (⟨rdraughts1.f_Num,rdraughts1.f_Den⟩:TRat)).bind fun rwhole =>
 ((g_water_product N ([rwhole]:List Int)).bind fun rproduct =>
 ((g_water_draughts_1 N least p).bind fun rdraughts12 =>
 ((g_e_CmpRat N (⟨rproduct.f_Num,rproduct.f_Den⟩:TRat) (⟨rdraughts12.f_Num,rdraughts12.f_Den⟩:TRat)).bind fun rCmpRat =>
 (cond (decide (rCmpRat < 0))
 (g_water_draughts_J1 N p most (w64 (rwhole+1)))
 (g_water_draughts_J1 N p most rwhole)))))))
def g_water_boundsOf (N:Nat) (p:TPontoon) (l:TLimits):Option (Twater_bounds) :=
 ((g_water_draughts N p l.f_DraughtLeast l.f_DraughtMost).bind fun rdraughts =>
 ((g_water_product N ([l.f_TrimMost,p.f_Density,p.f_Breadth,p.f_Length,p.f_Length,p.f_Length]:List Int)).bind fun rproduct =>
 ((g_water_product N ([12000000000,1000]:List Int)).bind fun rproduct2 =>
 ((g_water_quotient N (⟨rproduct.f_Num,rproduct.f_Den⟩:TRat) (⟨rproduct2.f_Num,rproduct2.f_Den⟩:TRat)).bind fun rquotient =>
 ((g_water_whole N (⟨rquotient.f_Num,rquotient.f_Den⟩:TRat)).bind fun rwhole =>
 ((g_water_product N ([l.f_HeelMost,p.f_Density,p.f_Length,p.f_Breadth,p.f_Breadth,p.f_Breadth]:List Int)).bind fun rproduct3 =>
 ((g_water_product N ([12000000000,1000]:List Int)).bind fun rproduct4 =>
 ((g_water_quotient N (⟨rproduct3.f_Num,rproduct3.f_Den⟩:TRat) (⟨rproduct4.f_Num,rproduct4.f_Den⟩:TRat)).bind fun rquotient2 =>
 ((g_water_whole N (⟨rquotient2.f_Num,rquotient2.f_Den⟩:TRat)).bind fun rwhole2 =>
 some (⟨rdraughts.1,rdraughts.2,rwhole,rwhole2,(w64 (8 * l.f_HogMost))⟩:Twater_bounds))))))))))
def g_water_open (N:Nat) (p:TPontoon) (l:TLimits) (a:TAim):Option (Twater_plan×Int) :=
 ((g_water_CheckPontoon N p).bind fun rCheckPontoon =>
 (cond (rCheckPontoon != 0)
 (some ((⟨(⟨0,0,0,([]:List TPointMass),([]:List TTank)⟩:TPontoon),(⟨0,0,0,0,0⟩:Twater_bounds),(⟨0,0,0,0,0,0⟩:Twater_state),0,0⟩:Twater_plan),rCheckPontoon))
 (((g_water_checkLimits N l).bind fun rcheckLimits =>
 (cond (rcheckLimits != 0)
 (some ((⟨(⟨0,0,0,([]:List TPointMass),([]:List TTank)⟩:TPontoon),(⟨0,0,0,0,0⟩:Twater_bounds),(⟨0,0,0,0,0,0⟩:Twater_state),0,0⟩:Twater_plan),rcheckLimits))
 (((g_water_checkSteps N p a.f_Start).bind fun rcheckSteps =>
 (cond (rcheckSteps.2 != 0)
 (some ((⟨(⟨0,0,0,([]:List TPointMass),([]:List TTank)⟩:TPontoon),(⟨0,0,0,0,0⟩:Twater_bounds),(⟨0,0,0,0,0,0⟩:Twater_state),0,0⟩:Twater_plan),rcheckSteps.2))
 (((g_water_between N a.f_DraughtLeast 0 1000000).bind fun rbetween =>
 ((cond (!(!rbetween)) (g_water_between N a.f_DraughtMost 0 1000000) (some false)).bind fun rbetween2 =>
 (cond (cond (!rbetween) true (!rbetween2))
 (some ((⟨(⟨0,0,0,([]:List TPointMass),([]:List TTank)⟩:TPontoon),(⟨0,0,0,0,0⟩:Twater_bounds),(⟨0,0,0,0,0,0⟩:Twater_state),0,0⟩:Twater_plan),2))
 (((g_water_boundsOf N p l).bind fun rboundsOf =>
 ((g_water_draughts N p a.f_DraughtLeast a.f_DraughtMost).bind fun rdraughts =>
 some ((⟨p,rboundsOf,rcheckSteps.1,rdraughts.1,rdraughts.2⟩:Twater_plan),0))))))))))))))))
def g_water_many_L1 (N:Nat) (p:TPontoon):Nat→Int→Int→Option (Int)
 | 0,_,_=>none
 | fuel+1,n,x =>
  (cond (decide (x < ((p.f_Tanks.length:Nat):Int)))
  ((if 0≤x∧x < ((p.f_Tanks.length:Nat):Int) then
  g_water_many_L1 N p fuel (w64 (n * (w64 ((p.f_Tanks.getD ((x).toNat) TTank.d).f_Steps+1)))) (w64 (x+1))
  else none))
  (some n))
def g_water_many (N:Nat) (p:TPontoon):Option (Int) :=
 g_water_many_L1 N p N 1 0
def g_water_bounds_kept_J4 (N:Nat) (out4:Int):Option (Int) :=
 some out4
def g_water_bounds_kept_J3 (N:Nat) (b:Twater_bounds) (p:TPontoon) (rsumOf:Twater_sums) (out3:Int):Option (Int) :=
 ((g_water_between N (w64 ((w64 (4 * rsumOf.f_arm)) - (w64 (rsumOf.f_mass * p.f_Length)))) (w64 (0 - b.f_hog)) b.f_hog).bind fun rbetween4 =>
 (cond rbetween4
 (g_water_bounds_kept_J4 N (orI .i64 out3 8))
 (g_water_bounds_kept_J4 N out3)))
def g_water_bounds_kept_J2 (N:Nat) (b:Twater_bounds) (p:TPontoon) (rsumOf:Twater_sums) (out2:Int):Option (Int) :=
 ((g_water_between N rsumOf.f_y (w64 (0 - b.f_y)) b.f_y).bind fun rbetween3 =>
 (cond rbetween3
 (g_water_bounds_kept_J3 N b p rsumOf (orI .i64 out2 4))
 (g_water_bounds_kept_J3 N b p rsumOf out2)))
def g_water_bounds_kept_J1 (N:Nat) (b:Twater_bounds) (p:TPontoon) (rsumOf:Twater_sums) (out:Int):Option (Int) :=
 ((g_water_between N rsumOf.f_x (w64 (0 - b.f_x)) b.f_x).bind fun rbetween2 =>
 (cond rbetween2
 (g_water_bounds_kept_J2 N b p rsumOf (orI .i64 out 2))
 (g_water_bounds_kept_J2 N b p rsumOf out)))
def g_water_bounds_kept (N:Nat) (b:Twater_bounds) (p:TPontoon) (s:Twater_state):Option (Int) :=
 ((g_water_sumOf N p s).bind fun rsumOf =>
 ((g_water_between N rsumOf.f_mass b.f_low b.f_high).bind fun rbetween =>
 (cond rbetween
 (g_water_bounds_kept_J1 N b p rsumOf (orI .i64 0 1))
 (g_water_bounds_kept_J1 N b p rsumOf 0))))
def g_water_plan_keeps (N:Nat) (t:Twater_plan) (s:Twater_state):Option (Bool) :=
 ((g_water_bounds_kept N t.f_b t.f_p s).bind fun rkept =>
 some (rkept == 15))
def g_water_plan_done (N:Nat) (t:Twater_plan) (s:Twater_state):Option (Bool) :=
 ((g_water_sumOf N t.f_p s).bind fun rsumOf =>
 ((g_water_between N rsumOf.f_mass t.f_low t.f_high).bind fun rbetween =>
 some rbetween))
def g_slices_Reverse_api_Move_api_Move_L1 (N:Nat):Nat→(List TMove)→Int→Int→Option ((List TMove))
 | 0,_,_,_=>none
 | fuel+1,cap02,i,j =>
  (cond (decide (i < j))
  ((if 0≤j∧j < ((cap02.length:Nat):Int) then
  (if 0≤i∧i < ((cap02.length:Nat):Int) then
  g_slices_Reverse_api_Move_api_Move_L1 N fuel ((cap02.set ((i).toNat) (cap02.getD ((j).toNat) TMove.d)).set ((j).toNat) (cap02.getD ((i).toNat) TMove.d)) (w64 (i+1)) (w64 (j - 1))
  else none)
  else none))
  (some cap02))
def g_slices_Reverse_api_Move_api_Move (N:Nat) (cap0:List TMove):Option ((List TMove)) :=
 g_slices_Reverse_api_Move_api_Move_L1 N N cap0 0 (w64 (((cap0.length:Nat):Int) - 1))
def g_water_plan_way_L1 (N:Nat) (t:Twater_plan) (cap0:List (Twater_state×Twater_arrival)):Nat→Twater_state→(List TMove)→Option ((List TMove))
 | 0,_,_=>none
 | fuel+1,s2,out =>
  (cond (!((s2.e0 == t.f_start.e0) && ((s2.e1 == t.f_start.e1) && ((s2.e2 == t.f_start.e2) && ((s2.e3 == t.f_start.e3) && ((s2.e4 == t.f_start.e4) && ((s2.e5 == t.f_start.e5) && true)))))))
  ((if (out.length+1) * 16≤140737488355328 then
  g_water_plan_way_L1 N t cap0 fuel (((mGet (fun (za zb:Twater_state)=>((zb.e0 == za.e0) && ((zb.e1 == za.e1) && ((zb.e2 == za.e2) && ((zb.e3 == za.e3) && ((zb.e4 == za.e4) && ((zb.e5 == za.e5) && true))))))) cap0 s2).getD Twater_arrival.d).f_from) (out ++ ([(((mGet (fun (za zb:Twater_state)=>((zb.e0 == za.e0) && ((zb.e1 == za.e1) && ((zb.e2 == za.e2) && ((zb.e3 == za.e3) && ((zb.e4 == za.e4) && ((zb.e5 == za.e5) && true))))))) cap0 s2).getD Twater_arrival.d).f_move)]:List TMove))
  else none))
  (((g_slices_Reverse_api_Move_api_Move N out).bind fun rMove =>
  (if rMove.length=out.length then
  some rMove
  else none))))
def g_water_plan_way (N:Nat) (t:Twater_plan) (s:Twater_state) (cap0:List (Twater_state×Twater_arrival)):Option ((List TMove)) :=
 g_water_plan_way_L1 N t cap0 N s ([]:List TMove)
def g_water_plan_moved_J1 (N:Nat) (t:Twater_plan) (m:TMove) (s2:Twater_state):Option (Twater_state×Bool) :=
 (if 0≤m.f_Tank∧m.f_Tank < ((6:Nat):Int) then
 (if 0≤m.f_Tank∧m.f_Tank < ((t.f_p.f_Tanks.length:Nat):Int) then
 ((g_water_between N (pickI [s2.e0,s2.e1,s2.e2,s2.e3,s2.e4,s2.e5] ((m.f_Tank).toNat)) 0 ((t.f_p.f_Tanks.getD ((m.f_Tank).toNat) TTank.d).f_Steps)).bind fun rbetween2 =>
 some (s2,rbetween2))
 else none)
 else none)
def g_water_plan_moved (N:Nat) (t:Twater_plan) (s:Twater_state) (m:TMove):Option (Twater_state×Bool) :=
 ((g_water_between N m.f_Tank 0 (w64 (((t.f_p.f_Tanks.length:Nat):Int) - 1))).bind fun rbetween =>
 (cond (!rbetween)
 (some (s,false))
 ((cond m.f_Up
 ((if 0≤m.f_Tank∧m.f_Tank < ((6:Nat):Int) then
 g_water_plan_moved_J1 N t m (⟨(setI ((m.f_Tank).toNat) 0 (w64 ((pickI [s.e0,s.e1,s.e2,s.e3,s.e4,s.e5] ((m.f_Tank).toNat))+1)) s.e0),(setI ((m.f_Tank).toNat) 1 (w64 ((pickI [s.e0,s.e1,s.e2,s.e3,s.e4,s.e5] ((m.f_Tank).toNat))+1)) s.e1),(setI ((m.f_Tank).toNat) 2 (w64 ((pickI [s.e0,s.e1,s.e2,s.e3,s.e4,s.e5] ((m.f_Tank).toNat))+1)) s.e2),(setI ((m.f_Tank).toNat) 3 (w64 ((pickI [s.e0,s.e1,s.e2,s.e3,s.e4,s.e5] ((m.f_Tank).toNat))+1)) s.e3),(setI ((m.f_Tank).toNat) 4 (w64 ((pickI [s.e0,s.e1,s.e2,s.e3,s.e4,s.e5] ((m.f_Tank).toNat))+1)) s.e4),(setI ((m.f_Tank).toNat) 5 (w64 ((pickI [s.e0,s.e1,s.e2,s.e3,s.e4,s.e5] ((m.f_Tank).toNat))+1)) s.e5)⟩:Twater_state)
 else none))
 ((if 0≤m.f_Tank∧m.f_Tank < ((6:Nat):Int) then
 g_water_plan_moved_J1 N t m (⟨(setI ((m.f_Tank).toNat) 0 (w64 ((pickI [s.e0,s.e1,s.e2,s.e3,s.e4,s.e5] ((m.f_Tank).toNat)) - 1)) s.e0),(setI ((m.f_Tank).toNat) 1 (w64 ((pickI [s.e0,s.e1,s.e2,s.e3,s.e4,s.e5] ((m.f_Tank).toNat)) - 1)) s.e1),(setI ((m.f_Tank).toNat) 2 (w64 ((pickI [s.e0,s.e1,s.e2,s.e3,s.e4,s.e5] ((m.f_Tank).toNat)) - 1)) s.e2),(setI ((m.f_Tank).toNat) 3 (w64 ((pickI [s.e0,s.e1,s.e2,s.e3,s.e4,s.e5] ((m.f_Tank).toNat)) - 1)) s.e3),(setI ((m.f_Tank).toNat) 4 (w64 ((pickI [s.e0,s.e1,s.e2,s.e3,s.e4,s.e5] ((m.f_Tank).toNat)) - 1)) s.e4),(setI ((m.f_Tank).toNat) 5 (w64 ((pickI [s.e0,s.e1,s.e2,s.e3,s.e4,s.e5] ((m.f_Tank).toNat)) - 1)) s.e5)⟩:Twater_state)
 else none))))))
def g_water_Ballast_J4 (N:Nat) (p:TPontoon) (ropen:Twater_plan×Int) (todo:List Twater_state) (todoo:Nat) (x:Int) (x2:Int) (K_g_water_Ballast_L3:(List (Twater_state×Twater_arrival))→(List Twater_state)→Nat→Nat→Int→Option ((List TMove)×Int)) (K_g_water_Ballast_L2:(List (Twater_state×Twater_arrival))→(List Twater_state)→Nat→Nat→Int→Option ((List TMove)×Int)) (K_g_water_Ballast_L1:(List (Twater_state×Twater_arrival))→(List Twater_state)→Nat→Nat→Option ((List TMove)×Int)) (reached4:List (Twater_state×Twater_arrival)) (todo4:List Twater_state) (todoo4:Nat) (todon4:Nat):Option ((List TMove)×Int) :=
 K_g_water_Ballast_L3 reached4 todo4 todoo4 todon4 (w64 (x2+1))
noncomputable def g_water_Ballast_L3 (N:Nat) (p:TPontoon) (ropen:Twater_plan×Int) (todo:List Twater_state) (todoo:Nat) (x:Int) (K_g_water_Ballast_L2:(List (Twater_state×Twater_arrival))→(List Twater_state)→Nat→Nat→Int→Option ((List TMove)×Int)) (K_g_water_Ballast_L1:(List (Twater_state×Twater_arrival))→(List Twater_state)→Nat→Nat→Option ((List TMove)×Int)):Nat→(List (Twater_state×Twater_arrival))→(List Twater_state)→Nat→Nat→Int→Option ((List TMove)×Int)
 | 0,_,_,_,_,_=>none
 | fuel+1,reached3,todo3,todoo3,todon3,x2 =>
  (cond (decide (x2 < ((2:Nat):Int)))
  ((if 0≤x2∧x2 < ((([true,false]:List Bool).length:Nat):Int) then
  ((g_water_plan_moved N ropen.1 (todo.getD (addz todoo 0) Twater_state.d) (⟨x,(([true,false]:List Bool).getD ((x2).toNat) false)⟩:TMove)).bind fun rmoved =>
  ((cond (cond rmoved.2 (!((mGet (fun (za zb:Twater_state)=>((zb.e0 == za.e0) && ((zb.e1 == za.e1) && ((zb.e2 == za.e2) && ((zb.e3 == za.e3) && ((zb.e4 == za.e4) && ((zb.e5 == za.e5) && true))))))) reached3 rmoved.1).isSome)) false) (g_water_plan_keeps N ropen.1 rmoved.1) (some false)).bind fun rkeeps2 =>
  (cond (cond (cond rmoved.2 (!((mGet (fun (za zb:Twater_state)=>((zb.e0 == za.e0) && ((zb.e1 == za.e1) && ((zb.e2 == za.e2) && ((zb.e3 == za.e3) && ((zb.e4 == za.e4) && ((zb.e5 == za.e5) && true))))))) reached3 rmoved.1).isSome)) false) rkeeps2 false)
  ((if addz todoo3 todon3=todo3.length then
  both (g_water_Ballast_J4 N p ropen todo todoo x x2 (g_water_Ballast_L3 N p ropen todo todoo x K_g_water_Ballast_L2 K_g_water_Ballast_L1 fuel) K_g_water_Ballast_L2 K_g_water_Ballast_L1 (mPut (fun (za zb:Twater_state)=>((zb.e0 == za.e0) && ((zb.e1 == za.e1) && ((zb.e2 == za.e2) && ((zb.e3 == za.e3) && ((zb.e4 == za.e4) && ((zb.e5 == za.e5) && true))))))) reached3 rmoved.1 (⟨(todo.getD (addz todoo 0) Twater_state.d),(⟨x,(([true,false]:List Bool).getD ((x2).toNat) false)⟩:TMove)⟩:Twater_arrival)) (todo3 ++ ([rmoved.1]:List Twater_state)) todoo3 (todon3+1))
  ((if (todon3+1) * 48≤140737488355328 then
  g_water_Ballast_J4 N p ropen todo todoo x x2 (g_water_Ballast_L3 N p ropen todo todoo x K_g_water_Ballast_L2 K_g_water_Ballast_L1 fuel) K_g_water_Ballast_L2 K_g_water_Ballast_L1 (mPut (fun (za zb:Twater_state)=>((zb.e0 == za.e0) && ((zb.e1 == za.e1) && ((zb.e2 == za.e2) && ((zb.e3 == za.e3) && ((zb.e4 == za.e4) && ((zb.e5 == za.e5) && true))))))) reached3 rmoved.1 (⟨(todo.getD (addz todoo 0) Twater_state.d),(⟨x,(([true,false]:List Bool).getD ((x2).toNat) false)⟩:TMove)⟩:Twater_arrival)) ((todo3.drop todoo3) ++ ([rmoved.1]:List Twater_state)) 0 (((todo3.drop todoo3) ++ ([rmoved.1]:List Twater_state)).length)
  else none))
  else none))
  (g_water_Ballast_J4 N p ropen todo todoo x x2 (g_water_Ballast_L3 N p ropen todo todoo x K_g_water_Ballast_L2 K_g_water_Ballast_L1 fuel) K_g_water_Ballast_L2 K_g_water_Ballast_L1 reached3 todo3 todoo3 todon3))))
  else none))
  (K_g_water_Ballast_L2 reached3 todo3 todoo3 todon3 (w64 (x+1))))
noncomputable def g_water_Ballast_L2 (N:Nat) (p:TPontoon) (ropen:Twater_plan×Int) (todo:List Twater_state) (todoo:Nat) (K_g_water_Ballast_L1:(List (Twater_state×Twater_arrival))→(List Twater_state)→Nat→Nat→Option ((List TMove)×Int)):Nat→(List (Twater_state×Twater_arrival))→(List Twater_state)→Nat→Nat→Int→Option ((List TMove)×Int)
 | 0,_,_,_,_,_=>none
 | fuel+1,reached2,todo2,todoo2,todon2,x =>
  (cond (decide (x < ((p.f_Tanks.length:Nat):Int)))
  (g_water_Ballast_L3 N p ropen todo todoo x (g_water_Ballast_L2 N p ropen todo todoo K_g_water_Ballast_L1 fuel) K_g_water_Ballast_L1 N reached2 todo2 todoo2 todon2 0)
  ((if 1≤todon2∧todon2≤todon2 then
  K_g_water_Ballast_L1 reached2 todo2 (addz todoo2 1) (todon2 - 1)
  else none)))
noncomputable def g_water_Ballast_L1 (N:Nat) (p:TPontoon) (ropen:Twater_plan×Int):Nat→(List (Twater_state×Twater_arrival))→(List Twater_state)→Nat→Nat→Option ((List TMove)×Int)
 | 0,_,_,_,_=>none
 | fuel+1,reached,todo,todoo,todon =>
  (cond (decide (((todon:Nat):Int) > 0))
  ((if 0≤(0:Int)∧0 < ((todon:Nat):Int) then
  (if todoo+todon≤todo.length then
  ((g_water_plan_done N ropen.1 (todo.getD (addz todoo 0) Twater_state.d)).bind fun rdone =>
  (cond rdone
  (((g_water_plan_way N ropen.1 (todo.getD (addz todoo 0) Twater_state.d) reached).bind fun rway =>
  some (rway,0)))
  (g_water_Ballast_L2 N p ropen todo todoo (g_water_Ballast_L1 N p ropen fuel) N reached todo todoo todon 0)))
  else none)
  else none))
  (some (([]:List TMove),29)))
noncomputable def g_water_Ballast (N:Nat) (p:TPontoon) (l:TLimits) (a:TAim):Option ((List TMove)×Int) :=
 ((g_water_open N p l a).bind fun ropen =>
 (cond (ropen.2 != 0)
 (some (([]:List TMove),ropen.2))
 (((g_water_many N p).bind fun rmany =>
 (cond (decide (rmany > 20000))
 (some (([]:List TMove),8))
 (((g_water_plan_keeps N ropen.1 ropen.1.f_start).bind fun rkeeps =>
 (cond (!rkeeps)
 (some (([]:List TMove),16))
 (g_water_Ballast_L1 N p ropen N (mPut (fun (za zb:Twater_state)=>((zb.e0 == za.e0) && ((zb.e1 == za.e1) && ((zb.e2 == za.e2) && ((zb.e3 == za.e3) && ((zb.e4 == za.e4) && ((zb.e5 == za.e5) && true))))))) ([]:List (Twater_state×Twater_arrival)) ropen.1.f_start (⟨(⟨0,0,0,0,0,0⟩:Twater_state),(⟨0,false⟩:TMove)⟩:Twater_arrival)) ([ropen.1.f_start]:List Twater_state) 0 (([ropen.1.f_start]:List Twater_state).length))))))))))
def g_water_CheckBallast_L1 (N:Nat) (moves:List TMove) (ropen:Twater_plan×Int):Nat→Twater_state→Int→Option (Int)
 | 0,_,_=>none
 | fuel+1,s,x =>
  (cond (decide (x < ((moves.length:Nat):Int)))
  ((if 0≤x∧x < ((moves.length:Nat):Int) then
  ((g_water_plan_moved N ropen.1 s (moves.getD ((x).toNat) TMove.d)).bind fun rmoved =>
  (cond (!rmoved.2)
  (some 2)
  (((g_water_plan_keeps N ropen.1 rmoved.1).bind fun rkeeps2 =>
  (cond (!rkeeps2)
  (some 16)
  (g_water_CheckBallast_L1 N moves ropen fuel rmoved.1 (w64 (x+1))))))))
  else none))
  (((g_water_plan_done N ropen.1 s).bind fun rdone =>
  (cond (!rdone)
  (some 29)
  (some 0)))))
def g_water_CheckBallast (N:Nat) (p:TPontoon) (l:TLimits) (a:TAim) (moves:List TMove):Option (Int) :=
 ((g_water_open N p l a).bind fun ropen =>
 (cond (ropen.2 != 0)
 (some ropen.2)
 ((cond (decide (((moves.length:Nat):Int) > 20000))
 (some 8)
 (((g_water_plan_keeps N ropen.1 ropen.1.f_start).bind fun rkeeps =>
 (cond (!rkeeps)
 (some 16)
 (g_water_CheckBallast_L1 N moves ropen N ropen.1.f_start 0))))))))
def g_r05_CheckLimits (N:Nat) (l:TLimits):Option (Int) :=
 ((g_r05_inside N l.f_DraughtLeast 0 1000000).bind fun rinside =>
 ((cond (!(!rinside)) (g_r05_inside N l.f_DraughtMost 0 1000000) (some false)).bind fun rinside2 =>
 ((cond (!(cond (!rinside) true (!rinside2))) (g_r05_inside N l.f_TrimMost 0 1000) (some false)).bind fun rinside3 =>
 ((cond (!(cond (cond (!rinside) true (!rinside2)) true (!rinside3))) (g_r05_inside N l.f_HeelMost 0 1000) (some false)).bind fun rinside4 =>
 ((cond (!(cond (cond (cond (!rinside) true (!rinside2)) true (!rinside3)) true (!rinside4))) (g_r05_inside N l.f_HogMost 0 1000000000000000000) (some false)).bind fun rinside5 =>
 (cond (cond (cond (cond (cond (!rinside) true (!rinside2)) true (!rinside3)) true (!rinside4)) true (!rinside5))
 (some 2)
 (some 0)))))))
def g_r05_CheckSteps_L1 (N:Nat) (p:TPontoon) (steps:List Int):Nat→Int→Option (Int)
 | 0,_=>none
 | fuel+1,i =>
  (cond (decide (i < ((steps.length:Nat):Int)))
  ((if 0≤i∧i < ((steps.length:Nat):Int) then
  (if 0≤i∧i < ((p.f_Tanks.length:Nat):Int) then
  ((g_r05_inside N (steps.getD ((i).toNat) 0) 0 ((p.f_Tanks.getD ((i).toNat) TTank.d).f_Steps)).bind fun rinside =>
  (cond (!rinside)
  (some 2)
  (g_r05_CheckSteps_L1 N p steps fuel (w64 (i+1)))))
  else none)
  else none))
  (some 0))
def g_r05_CheckSteps (N:Nat) (p:TPontoon) (steps:List Int):Option (Int) :=
 (cond (((steps.length:Nat):Int) != ((p.f_Tanks.length:Nat):Int))
 (some 11)
 (g_r05_CheckSteps_L1 N p steps N 0))
def g_r05_CheckAim (N:Nat) (p:TPontoon) (a:TAim):Option (Int) :=
 ((g_r05_CheckSteps N p a.f_Start).bind fun rCheckSteps =>
 (cond (rCheckSteps != 0)
 (some rCheckSteps)
 (((g_r05_inside N a.f_DraughtLeast 0 1000000).bind fun rinside =>
 ((cond (!(!rinside)) (g_r05_inside N a.f_DraughtMost 0 1000000) (some false)).bind fun rinside2 =>
 (cond (cond (!rinside) true (!rinside2))
 (some 2)
 (some 0)))))))
def g_r05_CheckBegin (N:Nat) (p:TPontoon) (l:TLimits) (a:TAim):Option (Int) :=
 ((g_r05_CheckPontoon N p).bind fun rCheckPontoon =>
 (cond (rCheckPontoon != 0)
 (some rCheckPontoon)
 (((g_r05_CheckLimits N l).bind fun rCheckLimits =>
 (cond (rCheckLimits != 0)
 (some rCheckLimits)
 (((g_r05_CheckAim N p a).bind fun rCheckAim =>
 some rCheckAim)))))))
def g_water_checkForm_L1 (N:Nat) (b:TBasin):Nat→Int→Option (Int)
 | 0,_=>none
 | fuel+1,x =>
  (cond (decide (x < ((b.f_Areas.length:Nat):Int)))
  ((if 0≤x∧x < ((b.f_Areas.length:Nat):Int) then
  ((g_water_between N ((b.f_Areas.getD ((x).toNat) TArea.d).f_From) (-1000000) 1000000).bind fun rbetween2 =>
  ((cond (!(!rbetween2)) (g_water_between N ((b.f_Areas.getD ((x).toNat) TArea.d).f_Size) 1 1000000) (some false)).bind fun rbetween3 =>
  (cond (cond (!rbetween2) true (!rbetween3))
  (some 2)
  ((if ((decide (x > 0))=true→0≤(w64 (x - 1))∧(w64 (x - 1)) < ((b.f_Areas.length:Nat):Int)) then
  (cond (cond (decide (x > 0)) (decide ((b.f_Areas.getD ((x).toNat) TArea.d).f_From≤(b.f_Areas.getD ((w64 (x - 1)).toNat) TArea.d).f_From)) false)
  (some 10)
  (g_water_checkForm_L1 N b fuel (w64 (x+1))))
  else none)))))
  else none))
  ((if 0≤(w64 (((b.f_Areas.length:Nat):Int) - 1))∧(w64 (((b.f_Areas.length:Nat):Int) - 1)) < ((b.f_Areas.length:Nat):Int) then
  (cond (cond (decide (b.f_Rim≤(b.f_Areas.getD ((w64 (((b.f_Areas.length:Nat):Int) - 1)).toNat) TArea.d).f_From)) true (decide (b.f_Rim > 1000000)))
  (some 2)
  (some 0))
  else none)))
def g_water_checkForm (N:Nat) (b:TBasin):Option (Int) :=
 ((g_water_between N ((b.f_Areas.length:Nat):Int) 1 20).bind fun rbetween =>
 (cond (!rbetween)
 (some 2)
 (g_water_checkForm_L1 N b N 0)))
def g_water_CheckBasin (N:Nat) (b:TBasin):Option (Int) :=
 ((g_water_isName N b.f_Name).bind fun risName =>
 (cond (!risName)
 (some 4)
 (((g_water_checkForm N b).bind fun rcheckForm =>
 some rcheckForm))))
def g_water_floor (N:Nat) (b:TBasin):Option (Int) :=
 (if 0≤(0:Int)∧0 < ((b.f_Areas.length:Nat):Int) then
 some ((b.f_Areas.getD 0 TArea.d).f_From)
 else none)
def g_water_volume_J2 (N:Nat) (b:TBasin) (level:Int) (sum:Int) (x:Int) (K_g_water_volume_L1:Int→Int→Option (Int)) (top:Int):Option (Int) :=
 K_g_water_volume_L1 (w64 (sum+(w64 ((b.f_Areas.getD ((x).toNat) TArea.d).f_Size * (if (w64 (top - (b.f_Areas.getD ((x).toNat) TArea.d).f_From)) > 0 then (w64 (top - (b.f_Areas.getD ((x).toNat) TArea.d).f_From)) else 0))))) (w64 (x+1))
def g_water_volume_L1 (N:Nat) (b:TBasin) (level:Int):Nat→Int→Int→Option (Int)
 | 0,_,_=>none
 | fuel+1,sum,x =>
  (cond (decide (x < ((b.f_Areas.length:Nat):Int)))
  ((if 0≤x∧x < ((b.f_Areas.length:Nat):Int) then
  (cond (decide ((w64 (x+1)) < ((b.f_Areas.length:Nat):Int)))
  ((if 0≤(w64 (x+1))∧(w64 (x+1)) < ((b.f_Areas.length:Nat):Int) then
  g_water_volume_J2 N b level sum x (g_water_volume_L1 N b level fuel) (if (b.f_Areas.getD ((w64 (x+1)).toNat) TArea.d).f_From < level then (b.f_Areas.getD ((w64 (x+1)).toNat) TArea.d).f_From else level)
  else none))
  (g_water_volume_J2 N b level sum x (g_water_volume_L1 N b level fuel) level))
  else none))
  (some sum))
def g_water_volume (N:Nat) (b:TBasin) (level:Int):Option (Int) :=
 g_water_volume_L1 N b level N 0 0
def g_water_Volume (N:Nat) (b:TBasin) (level:Int):Option (Int×Int) :=
 ((g_water_CheckBasin N b).bind fun rCheckBasin =>
 (cond (rCheckBasin != 0)
 (some (0,rCheckBasin))
 (((g_water_floor N b).bind fun rfloor =>
 ((g_water_between N level rfloor b.f_Rim).bind fun rbetween =>
 (cond (!rbetween)
 (some (0,2))
 (((g_water_volume N b level).bind fun rvolume =>
 some (rvolume,0)))))))))
def g_keelblocktop_wet (N:Nat):Option (Bool) :=
 ((g_water_Volume N (⟨(⟨#[65]⟩:ByteArray),([(⟨0,100⟩:TArea)]:List TArea),50⟩:TBasin) 30).bind fun rVolume =>
 some (cond (rVolume.2 == 0) (rVolume.1 == 3000) false))
def g_b_Mod_J1 (N:Nat) (vr:Int):Option (Int) :=
 some vr
def g_b_Mod (N:Nat) (n:Int) (m:Int):Option (Int) :=
 (if (m:Int)≠0 then
 (cond (decide ((n.tmod m) < 0))
 (g_b_Mod_J1 N (w64 ((n.tmod m)+m)))
 (g_b_Mod_J1 N (n.tmod m)))
 else none)
def g_r05_Made_J1 (N:Nat) (p:TPontoon) (m:TMove) (out:List Int):Option ((List Int)×Bool) :=
 (if 0≤m.f_Tank∧m.f_Tank < ((out.length:Nat):Int) then
 (if 0≤m.f_Tank∧m.f_Tank < ((p.f_Tanks.length:Nat):Int) then
 ((g_r05_inside N (out.getD ((m.f_Tank).toNat) 0) 0 ((p.f_Tanks.getD ((m.f_Tank).toNat) TTank.d).f_Steps)).bind fun rinside =>
 some (out,rinside))
 else none)
 else none)
def g_r05_Made (N:Nat) (p:TPontoon) (steps:List Int) (m:TMove):Option ((List Int)×Bool) :=
 (cond (cond (decide (m.f_Tank < 0)) true (decide (m.f_Tank≥((steps.length:Nat):Int))))
 (some (([]:List Int),false))
 ((if (0+steps.length) * 8≤140737488355328 then
 (cond m.f_Up
 ((if 0≤m.f_Tank∧m.f_Tank < (((([]:List Int) ++ steps).length:Nat):Int) then
 g_r05_Made_J1 N p m ((([]:List Int) ++ steps).set ((m.f_Tank).toNat) (w64 (((([]:List Int) ++ steps).getD ((m.f_Tank).toNat) 0)+1)))
 else none))
 ((if 0≤m.f_Tank∧m.f_Tank < (((([]:List Int) ++ steps).length:Nat):Int) then
 g_r05_Made_J1 N p m ((([]:List Int) ++ steps).set ((m.f_Tank).toNat) (w64 (((([]:List Int) ++ steps).getD ((m.f_Tank).toNat) 0) - 1)))
 else none)))
 else none)))
noncomputable def g_keelblocktop_TopShortestBallast_L1 (N:Nat) (x:Tw05_Plan) (rBallast:(List TMove)×Int):Nat→(List Int)→(List TMove)→Int→Option (Bool)
 | 0,_,_,_=>none
 | fuel+1,vend,back,i =>
  (cond (decide (i < ((rBallast.1.length:Nat):Int)))
  ((if 0≤i∧i < ((rBallast.1.length:Nat):Int) then
  ((g_r05_Made N x.f_P vend (rBallast.1.getD ((i).toNat) TMove.d)).bind fun rMade =>
  (cond (!rMade.2)
  (some false)
  ((if (1+back.length) * 16≤140737488355328 then
  g_keelblocktop_TopShortestBallast_L1 N x rBallast fuel rMade.1 (([(⟨(rBallast.1.getD ((i).toNat) TMove.d).f_Tank,(!((rBallast.1.getD ((i).toNat) TMove.d).f_Up))⟩:TMove)]:List TMove) ++ back) (w64 (i+1))
  else none))))
  else none))
  (((g_water_CheckBallast N x.f_P x.f_L (⟨vend,0,1000000⟩:TAim) back).bind fun rCheckBallast3 =>
  (cond (rCheckBallast3 != 0)
  (some false)
  (((g_water_Float N x.f_P x.f_A.f_Start).bind fun rFloat =>
  ((g_e_Floor N rFloat.1.f_Draught).bind fun rFloor =>
  ((g_e_Small N rFloor).bind fun rSmall =>
  (cond (cond (cond (rFloat.2 != 0) true (!rSmall.2)) true (decide (rSmall.1≥1000000)))
  (((cond (rFloat.2 == 0) (g_keelblocktop_wet N) (some false)).bind fun rwet4 =>
  some (cond (rFloat.2 == 0) rwet4 false)))
  (((g_water_Ballast N x.f_P x.f_L (⟨vend,rSmall.1,(w64 (rSmall.1+1))⟩:TAim)).bind fun rBallast2 =>
  ((cond (cond (rBallast2.2 == 0) (decide (((rBallast2.1.length:Nat):Int)≤((rBallast.1.length:Nat):Int))) false) (g_keelblocktop_wet N) (some false)).bind fun rwet5 =>
  some (cond (cond (rBallast2.2 == 0) (decide (((rBallast2.1.length:Nat):Int)≤((rBallast.1.length:Nat):Int))) false) rwet5 false)))))))))))))
noncomputable def g_keelblocktop_TopShortestBallast (N:Nat) (x:Tw05_Plan) (k:Int):Option (Bool) :=
 ((cond (!(cond (cond (decide (((x.f_P.f_Masses.length:Nat):Int) > 20)) true (decide (((x.f_P.f_Tanks.length:Nat):Int) > 3))) true (decide (((x.f_A.f_Start.length:Nat):Int) > 10)))) (g_r05_CheckBegin N x.f_P x.f_L x.f_A) (some 0)).bind fun rCheckBegin =>
 ((cond (!(cond (cond (cond (decide (((x.f_P.f_Masses.length:Nat):Int) > 20)) true (decide (((x.f_P.f_Tanks.length:Nat):Int) > 3))) true (decide (((x.f_A.f_Start.length:Nat):Int) > 10))) true (rCheckBegin != 0))) (g_r05_States N x.f_P 60) (some 0)).bind fun rStates =>
 (cond (cond (cond (cond (cond (decide (((x.f_P.f_Masses.length:Nat):Int) > 20)) true (decide (((x.f_P.f_Tanks.length:Nat):Int) > 3))) true (decide (((x.f_A.f_Start.length:Nat):Int) > 10))) true (rCheckBegin != 0)) true (decide (rStates > 60)))
 (((g_keelblocktop_wet N).bind fun rwet =>
 some rwet))
 (((g_water_Ballast N x.f_P x.f_L x.f_A).bind fun rBallast =>
 (cond (rBallast.2 != 0)
 (((cond (cond (rBallast.2 == 16) true (rBallast.2 == 29)) (g_keelblocktop_wet N) (some false)).bind fun rwet2 =>
 some (cond (cond (rBallast.2 == 16) true (rBallast.2 == 29)) rwet2 false)))
 (((g_water_CheckBallast N x.f_P x.f_L x.f_A rBallast.1).bind fun rCheckBallast =>
 (cond (rCheckBallast != 0)
 (some false)
 ((cond (((rBallast.1.length:Nat):Int) == 0)
 (((g_keelblocktop_wet N).bind fun rwet3 =>
 some rwet3))
 (((g_b_Mod N k ((rBallast.1.length:Nat):Int)).bind fun rMod =>
 (if 0≤(rMod).toNat∧(rMod).toNat≤rBallast.1.length then
 (if 0≤rMod then
 (if (0+((rMod).toNat - 0)) * 16≤140737488355328 then
 (if (w64 (rMod+1)).toNat≤rBallast.1.length∧rBallast.1.length≤rBallast.1.length then
 (if 0≤(w64 (rMod+1)) then
 (if ((0+((rMod).toNat - 0))+(rBallast.1.length - (w64 (rMod+1)).toNat)) * 16≤140737488355328 then
 ((g_water_CheckBallast N x.f_P x.f_L x.f_A ((([]:List TMove) ++ ((rBallast.1.take ((rMod).toNat)).drop 0)) ++ ((rBallast.1.take rBallast.1.length).drop ((w64 (rMod+1)).toNat)))).bind fun rCheckBallast2 =>
 (cond (rCheckBallast2 == 0)
 (some false)
 ((if (0+x.f_A.f_Start.length) * 8≤140737488355328 then
 g_keelblocktop_TopShortestBallast_L1 N x rBallast N (([]:List Int) ++ x.f_A.f_Start) ([]:List TMove) 0
 else none))))
 else none)
 else none)
 else none)
 else none)
 else none)
 else none))))))))))))))
end Go.Den
