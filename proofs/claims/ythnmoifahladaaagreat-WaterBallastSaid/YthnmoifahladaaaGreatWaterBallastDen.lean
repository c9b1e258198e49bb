/- The functions of the program as Lean functions, each in the Option monad; N bounds the rounds of loops. No conditions. -/
import Derived.Test.YthnmoifahladaaaGreatCd
set_option linter.unusedVariables false
set_option linter.unusedSimpArgs false
set_option linter.unusedVariables false
namespace Go.Den
open Go.Ab
abbrev zB (s:ByteArray) (x:Int):Int:=(bytesL s).getD x.toNat 0
abbrev zA (s:ByteArray) (x:Int):Int:=byteAt s x.toNat
structure TPm where
 f_X:Int
 f_Y:Int
 fMa:Int
def TPm.d:TPm:=⟨0,0,0⟩
def TPm.wf (x:TPm):Prop:=wI x.f_X∧wI x.f_Y∧wI x.fMa
def TPm.cells (x:TPm):List AV:=[(aI x.f_X),(aI x.f_Y),(aI x.fMa)]
structure TTank where
 f_Name:ByteArray
 f_X:Int
 f_Y:Int
 f_Steps:Int
 fMa:Int
def TTank.d:TTank:=⟨ByteArray.empty,0,0,0,0⟩
def TTank.wf (x:TTank):Prop:=wS x.f_Name∧wI x.f_X∧wI x.f_Y∧wI x.f_Steps∧wI x.fMa
def TTank.cells (x:TTank):List AV:=[(aS x.f_Name),(aI x.f_X),(aI x.f_Y),(aI x.f_Steps),(aI x.fMa)]
structure TPn where
 fLn:Int
 fBr:Int
 fDsity:Int
 fMs:List TPm
 fTk:List TTank
def TPn.d:TPn:=⟨0,0,0,[],[]⟩
def TPn.wf (x:TPn):Prop:=wI x.fLn∧wI x.fBr∧wI x.fDsity∧(wL TPm.wf) x.fMs∧(wL TTank.wf) x.fTk
def TPn.cells (x:TPn):List AV:=[(aI x.fLn),(aI x.fBr),(aI x.fDsity),(encL TPm.cells TPm.d x.fMs),(encL TTank.cells TTank.d x.fTk)]
structure TLimits where
 f_DraughtLeast:Int
 f_DraughtMost:Int
 f_TrimMost:Int
 f_HeelMost:Int
 f_HogMost:Int
def TLimits.d:TLimits:=⟨0,0,0,0,0⟩
def TLimits.wf (x:TLimits):Prop:=wI x.f_DraughtLeast∧wI x.f_DraughtMost∧wI x.f_TrimMost∧wI x.f_HeelMost∧wI x.f_HogMost
def TLimits.cells (x:TLimits):List AV:=[(aI x.f_DraughtLeast),(aI x.f_DraughtMost),(aI x.f_TrimMost),(aI x.f_HeelMost),(aI x.f_HogMost)]
structure TAim where
 f_Start:List Int
 f_DraughtLeast:Int
 f_DraughtMost:Int
def TAim.d:TAim:=⟨[],0,0⟩
def TAim.wf (x:TAim):Prop:=(wL wI) x.f_Start∧wI x.f_DraughtLeast∧wI x.f_DraughtMost
def TAim.cells (x:TAim):List AV:=[(encL cI 0 x.f_Start),(aI x.f_DraughtLeast),(aI x.f_DraughtMost)]
structure TInt where
 fG:Bool
 fL:List Int
def TInt.d:TInt:=⟨false,[]⟩
def TInt.wf (x:TInt):Prop:=wB x.fG∧(wL (wK .u16)) x.fL
def TIc (x:TInt):List AV:=[(aB x.fG),(encL (cU .u16) 0 x.fL)]
structure TRat where
 fN:TInt
 fD:TInt
def TRat.d:TRat:=⟨TInt.d,TInt.d⟩
def TRat.wf (x:TRat):Prop:=TInt.wf x.fN∧TInt.wf x.fD
def TRc (x:TRat):List AV:=[(aB x.fN.fG),(encL (cU .u16) 0 x.fN.fL),(aB x.fD.fG),(encL (cU .u16) 0 x.fD.fL)]
structure TPose where
 f_Draught:TRat
 f_Trim:TRat
 f_Heel:TRat
 f_Hog:TRat
def TPose.d:TPose:=⟨TRat.d,TRat.d,TRat.d,TRat.d⟩
def TPose.wf (x:TPose):Prop:=TRat.wf x.f_Draught∧TRat.wf x.f_Trim∧TRat.wf x.f_Heel∧TRat.wf x.f_Hog
def TPose.cells (x:TPose):List AV:=[(aB x.f_Draught.fN.fG),(encL (cU .u16) 0 x.f_Draught.fN.fL),(aB x.f_Draught.fD.fG),(encL (cU .u16) 0 x.f_Draught.fD.fL),(aB x.f_Trim.fN.fG),(encL (cU .u16) 0 x.f_Trim.fN.fL),(aB x.f_Trim.fD.fG),(encL (cU .u16) 0 x.f_Trim.fD.fL),(aB x.f_Heel.fN.fG),(encL (cU .u16) 0 x.f_Heel.fN.fL),(aB x.f_Heel.fD.fG),(encL (cU .u16) 0 x.f_Heel.fD.fL),(aB x.f_Hog.fN.fG),(encL (cU .u16) 0 x.f_Hog.fN.fL),(aB x.f_Hog.fD.fG),(encL (cU .u16) 0 x.f_Hog.fD.fL)]
structure Tw_state where
 e0:Int
 e1:Int
 e2:Int
 e3:Int
 e4:Int
 e5:Int
def Tw_state.d:Tw_state:=⟨0,0,0,0,0,0⟩
def Tw_state.wf (x:Tw_state):Prop:=wI x.e0∧wI x.e1∧wI x.e2∧wI x.e3∧wI x.e4∧wI x.e5
def Tw_state.cells (x:Tw_state):List AV:=[(aI x.e0),(aI x.e1),(aI x.e2),(aI x.e3),(aI x.e4),(aI x.e5)]
structure Tw_sums where
 f_mass:Int
 f_x:Int
 f_y:Int
 f_arm:Int
def Tw_sums.d:Tw_sums:=⟨0,0,0,0⟩
def Tw_sums.wf (x:Tw_sums):Prop:=wI x.f_mass∧wI x.f_x∧wI x.f_y∧wI x.f_arm
def Tw_sums.cells (x:Tw_sums):List AV:=[(aI x.f_mass),(aI x.f_x),(aI x.f_y),(aI x.f_arm)]
structure TMove where
 f_Tank:Int
 f_Up:Bool
def TMove.d:TMove:=⟨0,false⟩
def TMove.wf (x:TMove):Prop:=wI x.f_Tank∧wB x.f_Up
def TMove.cells (x:TMove):List AV:=[(aI x.f_Tank),(aB x.f_Up)]
structure Tw_bounds where
 f_low:Int
 f_high:Int
 f_x:Int
 f_y:Int
 f_hog:Int
def Tw_bounds.d:Tw_bounds:=⟨0,0,0,0,0⟩
def Tw_bounds.wf (x:Tw_bounds):Prop:=wI x.f_low∧wI x.f_high∧wI x.f_x∧wI x.f_y∧wI x.f_hog
def Tw_bounds.cells (x:Tw_bounds):List AV:=[(aI x.f_low),(aI x.f_high),(aI x.f_x),(aI x.f_y),(aI x.f_hog)]
structure Tw_plan where
 f_p:TPn
 f_b:Tw_bounds
 f_start:Tw_state
 f_low:Int
 f_high:Int
def Tw_plan.d:Tw_plan:=⟨TPn.d,Tw_bounds.d,Tw_state.d,0,0⟩
def Tw_plan.wf (x:Tw_plan):Prop:=TPn.wf x.f_p∧Tw_bounds.wf x.f_b∧Tw_state.wf x.f_start∧wI x.f_low∧wI x.f_high
def Tw_plan.cells (x:Tw_plan):List AV:=[(aI x.f_p.fLn),(aI x.f_p.fBr),(aI x.f_p.fDsity),(encL TPm.cells TPm.d x.f_p.fMs),(encL TTank.cells TTank.d x.f_p.fTk),(aI x.f_b.f_low),(aI x.f_b.f_high),(aI x.f_b.f_x),(aI x.f_b.f_y),(aI x.f_b.f_hog),(aI x.f_start.e0),(aI x.f_start.e1),(aI x.f_start.e2),(aI x.f_start.e3),(aI x.f_start.e4),(aI x.f_start.e5),(aI x.f_low),(aI x.f_high)]
structure Tw_arrival where
 f_from:Tw_state
 f_move:TMove
def Tw_arrival.d:Tw_arrival:=⟨Tw_state.d,TMove.d⟩
def Tw_arrival.wf (x:Tw_arrival):Prop:=Tw_state.wf x.f_from∧TMove.wf x.f_move
def Tw_arrival.cells (x:Tw_arrival):List AV:=[(aI x.f_from.e0),(aI x.f_from.e1),(aI x.f_from.e2),(aI x.f_from.e3),(aI x.f_from.e4),(aI x.f_from.e5),(aI x.f_move.f_Tank),(aB x.f_move.f_Up)]
def g_w_between (N:Nat) (n:Int) (low:Int) (high:Int):Option (Bool) :=
 some (cond (decide (n≥low)) (decide (n≤high)) false)
def g_w_CheckPontoon_1 (N:Nat) (x:Int) (y:Int):Option (Bool) :=
 ((g_w_between N x (-1000000) 1000000).bind fun rBt =>
 ((cond rBt (g_w_between N y (-1000000) 1000000) (some false)).bind fun rBt2 =>
 some (cond rBt rBt2 false)))
def g_w_CheckPontoon_2 (N:Nat) (i:Int) (C0:TPn):Option (ByteArray) :=
 (if 0≤i∧i < ((C0.fTk.length:Nat):Int) then
 some ((C0.fTk.getD ((i).toNat) TTank.d).f_Name)
 else none)
def g_w_isName_L1 (N:Nat) (s:ByteArray):Nat→Int→Option (Bool)
 | 0,_=>none
 | fuel+1,x =>
  (cond (decide (x < ((s.size:Nat):Int)))
  ((if 0≤x∧x < (((bytesL s).length:Nat):Int) then
  (cond (cond (!(cond (cond (decide ((zB s x)≥97)) (decide ((zB s x)≤122)) false) true (cond (decide ((zB s x)≥65)) (decide ((zB s x)≤90)) false))) (cond (x == 0) true (cond ((zB s x) != 45) (cond (decide ((zB s x) < 48)) true (decide ((zB s x) > 57))) false)) false)
  (some false)
  (g_w_isName_L1 N s fuel (w64 (x+1))))
  else none))
  (some true))
def g_w_isName (N:Nat) (s:ByteArray):Option (Bool) :=
 ((g_w_between N ((s.size:Nat):Int) 1 12).bind fun rBt =>
 (cond (!rBt)
 (some false)
 (g_w_isName_L1 N s N 0)))
def g_w_CheckPontoon_3 (N:Nat) (i:Int) (C0:TPn):Option (Int) :=
 (if 0≤i∧i < ((C0.fTk.length:Nat):Int) then
 ((g_w_CheckPontoon_1 N ((C0.fTk.getD ((i).toNat) TTank.d).f_X) ((C0.fTk.getD ((i).toNat) TTank.d).f_Y)).bind fun rCP =>
 ((cond (!(!rCP)) (g_w_between N ((C0.fTk.getD ((i).toNat) TTank.d).f_Steps) 0 12) (some false)).bind fun rBt =>
 ((cond (!(cond (!rCP) true (!rBt))) (g_w_between N ((C0.fTk.getD ((i).toNat) TTank.d).fMa) 0 1000000000) (some false)).bind fun rBt2 =>
 (cond (cond (cond (!rCP) true (!rBt)) true (!rBt2))
 (some 2)
 (some 0)))))
 else none)
def g_w_checkNamed_L1 (N:Nat) (n:Int) (C0:TPn):Nat→(List (ByteArray×Bool))→Int→Option (Int)
 | 0,_,_=>none
 | fuel+1,names,x =>
  (cond (decide (x < n))
  (((g_w_CheckPontoon_2 N x C0).bind fun rCP =>
  ((g_w_isName N rCP).bind fun risName =>
  (cond (!risName)
  (some 4)
  ((cond ((mGet streq names rCP).getD false)
  (some 5)
  (((g_w_CheckPontoon_3 N x C0).bind fun rCP2 =>
  (cond (rCP2 != 0)
  (some rCP2)
  (g_w_checkNamed_L1 N n C0 fuel (mPut streq names rCP true) (w64 (x+1))))))))))))
  (some 0))
def g_w_checkNamed (N:Nat) (n:Int) (most:Int) (C0:TPn):Option (Int) :=
 (cond (decide (n > most))
 (some 8)
 (g_w_checkNamed_L1 N n C0 N ([]:List (ByteArray×Bool)) 0))
def g_w_CheckPontoon_L1 (N:Nat) (p:TPn):Nat→Int→Option (Int)
 | 0,_=>none
 | fuel+1,x =>
  (cond (decide (x < ((p.fMs.length:Nat):Int)))
  ((if 0≤x∧x < ((p.fMs.length:Nat):Int) then
  ((g_w_CheckPontoon_1 N ((p.fMs.getD ((x).toNat) TPm.d).f_X) ((p.fMs.getD ((x).toNat) TPm.d).f_Y)).bind fun rCP =>
  ((cond (!(!rCP)) (g_w_between N ((p.fMs.getD ((x).toNat) TPm.d).fMa) 0 1000000000) (some false)).bind fun rBt4 =>
  (cond (cond (!rCP) true (!rBt4))
  (some 2)
  (g_w_CheckPontoon_L1 N p fuel (w64 (x+1))))))
  else none))
  (((g_w_checkNamed N ((p.fTk.length:Nat):Int) 6 p).bind fun rcheckNamed =>
  some rcheckNamed)))
def g_w_CheckPontoon (N:Nat) (p:TPn):Option (Int) :=
 ((g_w_between N p.fLn 1 1000000).bind fun rBt =>
 ((cond (!(!rBt)) (g_w_between N p.fBr 1 1000000) (some false)).bind fun rBt2 =>
 ((cond (!(cond (!rBt) true (!rBt2))) (g_w_between N p.fDsity 900 1100) (some false)).bind fun rBt3 =>
 (cond (cond (cond (!rBt) true (!rBt2)) true (!rBt3))
 (some 2)
 ((cond (decide (((p.fMs.length:Nat):Int) > 20))
 (some 8)
 (g_w_CheckPontoon_L1 N p N 0)))))))
def g_w_checkSteps_L1 (N:Nat) (p:TPn) (steps:List Int):Nat→Tw_state→Int→Option (Tw_state×Int)
 | 0,_,_=>none
 | fuel+1,out,x =>
  (cond (decide (x < ((steps.length:Nat):Int)))
  ((if 0≤x∧x < ((steps.length:Nat):Int) then
  (if 0≤x∧x < ((p.fTk.length:Nat):Int) then
  ((g_w_between N (steps.getD ((x).toNat) 0) 0 ((p.fTk.getD ((x).toNat) TTank.d).f_Steps)).bind fun rBt =>
  (cond (!rBt)
  (some ((⟨0,0,0,0,0,0⟩:Tw_state),2))
  ((if 0≤x∧x < ((6:Nat):Int) then
  g_w_checkSteps_L1 N p steps fuel (⟨(setI ((x).toNat) 0 (steps.getD ((x).toNat) 0) out.e0),(setI ((x).toNat) 1 (steps.getD ((x).toNat) 0) out.e1),(setI ((x).toNat) 2 (steps.getD ((x).toNat) 0) out.e2),(setI ((x).toNat) 3 (steps.getD ((x).toNat) 0) out.e3),(setI ((x).toNat) 4 (steps.getD ((x).toNat) 0) out.e4),(setI ((x).toNat) 5 (steps.getD ((x).toNat) 0) out.e5)⟩:Tw_state) (w64 (x+1))
  else none))))
  else none)
  else none))
  (some (out,0)))
def g_w_checkSteps (N:Nat) (p:TPn) (steps:List Int):Option (Tw_state×Int) :=
 (cond (((steps.length:Nat):Int) != ((p.fTk.length:Nat):Int))
 (some ((⟨0,0,0,0,0,0⟩:Tw_state),11))
 (g_w_checkSteps_L1 N p steps N (⟨0,0,0,0,0,0⟩:Tw_state) 0))
def g_w_sumOf_1 (N:Nat) (x:Int) (y:Int) (mass:Int) (C0:Tw_sums):Option (Tw_sums) :=
 some (⟨(w64 (C0.f_mass+mass)),(w64 (C0.f_x+(w64 (mass * x)))),(w64 (C0.f_y+(w64 (mass * y)))),(w64 (C0.f_arm+(w64 (mass * (if (w64 (0 - x)) > x then (w64 (0 - x)) else x)))))⟩:Tw_sums)
def g_w_sumOf_L2 (N:Nat) (p:TPn) (s:Tw_state):Nat→Tw_sums→Int→Option (Tw_sums)
 | 0,_,_=>none
 | fuel+1,out2,x2 =>
  (cond (decide (x2 < ((p.fTk.length:Nat):Int)))
  ((if 0≤x2∧x2 < ((p.fTk.length:Nat):Int) then
  (if 0≤x2∧x2 < ((6:Nat):Int) then
  ((g_w_sumOf_1 N ((p.fTk.getD ((x2).toNat) TTank.d).f_X) ((p.fTk.getD ((x2).toNat) TTank.d).f_Y) (w64 ((pickI [s.e0,s.e1,s.e2,s.e3,s.e4,s.e5] ((x2).toNat)) * (p.fTk.getD ((x2).toNat) TTank.d).fMa)) out2).bind fun rsumOf12 =>
  g_w_sumOf_L2 N p s fuel rsumOf12 (w64 (x2+1)))
  else none)
  else none))
  (some out2))
def g_w_sumOf_L1 (N:Nat) (p:TPn) (s:Tw_state):Nat→Tw_sums→Int→Option (Tw_sums)
 | 0,_,_=>none
 | fuel+1,out,x =>
  (cond (decide (x < ((p.fMs.length:Nat):Int)))
  ((if 0≤x∧x < ((p.fMs.length:Nat):Int) then
  ((g_w_sumOf_1 N ((p.fMs.getD ((x).toNat) TPm.d).f_X) ((p.fMs.getD ((x).toNat) TPm.d).f_Y) ((p.fMs.getD ((x).toNat) TPm.d).fMa) out).bind fun rsumOf1 =>
  g_w_sumOf_L1 N p s fuel rsumOf1 (w64 (x+1)))
  else none))
  (g_w_sumOf_L2 N p s N out 0))
def g_w_sumOf (N:Nat) (p:TPn) (s:Tw_state):Option (Tw_sums) :=
 g_w_sumOf_L1 N p s N (⟨0,0,0,0⟩:Tw_sums) 0
def g_e_natural_L1 (N:Nat):Nat→Int→(List Int)→Option ((List Int))
 | 0,_,_=>none
 | fuel+1,n2,out =>
  (cond (decide (n2 > 0))
  ((if (out.length+1) * 2≤140737488355328 then
  g_e_natural_L1 N fuel (shrI .u64 n2 16) (out ++ ([(IntKind.u16.wrap (n2))]:List Int))
  else none))
  (some out))
def g_e_natural (N:Nat) (n:Int):Option ((List Int)) :=
 g_e_natural_L1 N N n ([]:List Int)
def g_e_trim_L1 (N:Nat):Nat→(List Int)→Option ((List Int))
 | 0,_=>none
 | fuel+1,n2 =>
  (if ((decide (((n2.length:Nat):Int) > 0))=true→0≤(w64 (((n2.length:Nat):Int) - 1))∧(w64 (((n2.length:Nat):Int) - 1)) < ((n2.length:Nat):Int)) then
  (cond (cond (decide (((n2.length:Nat):Int) > 0)) ((n2.getD ((w64 (((n2.length:Nat):Int) - 1)).toNat) 0) == 0) false)
  ((if 0≤(w64 (((n2.length:Nat):Int) - 1)).toNat∧(w64 (((n2.length:Nat):Int) - 1)).toNat≤n2.length then
  (if 0≤(w64 (((n2.length:Nat):Int) - 1)) then
  g_e_trim_L1 N fuel ((n2.take ((w64 (((n2.length:Nat):Int) - 1)).toNat)).drop 0)
  else none)
  else none))
  (some n2))
  else none)
def g_e_trim (N:Nat) (n:List Int):Option ((List Int)) :=
 g_e_trim_L1 N N n
def g_slices_Clone_uint16_uint16 (N:Nat) (s:List Int):Option ((List Int)) :=
 (if (0+s.length) * 2≤140737488355328 then
 some (([]:List Int) ++ s)
 else none)
def g_e_signed (N:Nat) (neg:Bool) (n:List Int):Option (TInt) :=
 ((g_e_trim N n).bind fun rtrim =>
 (cond (((rtrim.length:Nat):Int) == 0)
 (some (⟨false,([]:List Int)⟩:TInt))
 (((g_slices_Clone_uint16_uint16 N rtrim).bind fun rClone =>
 some (⟨neg,rClone⟩:TInt)))))
def g_e_Of (N:Nat) (n:Int):Option (TInt) :=
 (cond (decide (n < 0))
 (((g_e_natural N (IntKind.u64.wrap (0 - (IntKind.u64.wrap (n))))).bind fun rnatural =>
 ((g_e_signed N true rnatural).bind fun rSg =>
 some rSg)))
 (((g_e_natural N (IntKind.u64.wrap (n))).bind fun rnatural2 =>
 ((g_e_signed N false rnatural2).bind fun rSg2 =>
 some rSg2))))
def g_e_word_L1 (N:Nat) (n:List Int):Nat→Int→Int→Option (Int×Bool)
 | 0,_,_=>none
 | fuel+1,out,i =>
  (cond (decide (i≥0))
  ((if 0≤i∧i < ((n.length:Nat):Int) then
  g_e_word_L1 N n fuel (orI .u64 (shlI .u64 out 16) (IntKind.u64.wrap ((n.getD ((i).toNat) 0)))) (w64 (i - 1))
  else none))
  (some (out,true)))
def g_e_word (N:Nat) (n:List Int):Option (Int×Bool) :=
 (cond (decide (((n.length:Nat):Int) > 4))
 (some (0,false))
 (g_e_word_L1 N n N 0 (w64 (((n.length:Nat):Int) - 1))))
def g_e_compare_L1 (N:Nat) (a:List Int) (b:List Int):Nat→Int→Option (Int)
 | 0,_=>none
 | fuel+1,i =>
  (cond (decide (i≥0))
  ((if 0≤i∧i < ((a.length:Nat):Int) then
  (if 0≤i∧i < ((b.length:Nat):Int) then
  (cond ((a.getD ((i).toNat) 0) != (b.getD ((i).toNat) 0))
  (some (w64 ((w64 ((a.getD ((i).toNat) 0))) - (w64 ((b.getD ((i).toNat) 0))))))
  (g_e_compare_L1 N a b fuel (w64 (i - 1))))
  else none)
  else none))
  (some 0))
def g_e_compare (N:Nat) (a:List Int) (b:List Int):Option (Int) :=
 (cond (((a.length:Nat):Int) != ((b.length:Nat):Int))
 (some (w64 (((a.length:Nat):Int) - ((b.length:Nat):Int))))
 (g_e_compare_L1 N a b N (w64 (((a.length:Nat):Int) - 1))))
def g_e_short_L1 (N:Nat) (a:List Int) (b:Int):Nat→(List Int)→Int→Int→Option ((List Int)×Int)
 | 0,_,_,_=>none
 | fuel+1,q,rest,i =>
  (cond (decide (i≥0))
  ((if 0≤i∧i < ((a.length:Nat):Int) then
  (if ((IntKind.u32.wrap (b)):Int)≠0 then
  (if 0≤i∧i < ((q.length:Nat):Int) then
  g_e_short_L1 N a b fuel (q.set ((i).toNat) (IntKind.u16.wrap ((IntKind.u32.wrap ((orI .u32 (shlI .u32 rest 16) (IntKind.u32.wrap ((a.getD ((i).toNat) 0)))).tdiv (IntKind.u32.wrap (b))))))) ((orI .u32 (shlI .u32 rest 16) (IntKind.u32.wrap ((a.getD ((i).toNat) 0)))).tmod (IntKind.u32.wrap (b))) (w64 (i - 1))
  else none)
  else none)
  else none))
  (((g_e_trim N q).bind fun rtrim =>
  some (rtrim,(IntKind.u16.wrap (rest))))))
def g_e_short (N:Nat) (a:List Int) (b:Int):Option ((List Int)×Int) :=
 (if 0≤((a.length:Nat):Int)∧(2:Int) * ((a.length:Nat):Int)≤281474976710656∧((a.length:Nat):Int)≤9223372036854775807 then
 g_e_short_L1 N a b N (List.replicate a.length 0:List Int) 0 (w64 (((a.length:Nat):Int) - 1))
 else none)
def g_math_bits_Len16_J1 (N:Nat) (x2:Int) (n:Int):Option (Int) :=
 (if 0≤(IntKind.u8.wrap (x2))∧(IntKind.u8.wrap (x2)) < (((⟨#[0,1,2,2,3,3,3,3,4,4,4,4,4,4,4,4,5,5,5,5,5,5,5,5,5,5,5,5,5,5,5,5,6,6,6,6,6,6,6,6,6,6,6,6,6,6,6,6,6,6,6,6,6,6,6,6,6,6,6,6,6,6,6,6,7,7,7,7,7,7,7,7,7,7,7,7,7,7,7,7,7,7,7,7,7,7,7,7,7,7,7,7,7,7,7,7,7,7,7,7,7,7,7,7,7,7,7,7,7,7,7,7,7,7,7,7,7,7,7,7,7,7,7,7,7,7,7,7,8,8,8,8,8,8,8,8,8,8,8,8,8,8,8,8,8,8,8,8,8,8,8,8,8,8,8,8,8,8,8,8,8,8,8,8,8,8,8,8,8,8,8,8,8,8,8,8,8,8,8,8,8,8,8,8,8,8,8,8,8,8,8,8,8,8,8,8,8,8,8,8,8,8,8,8,8,8,8,8,8,8,8,8,8,8,8,8,8,8,8,8,8,8,8,8,8,8,8,8,8,8,8,8,8,8,8,8,8,8,8,8,8,8,8,8,8,8,8,8,8,8,8,8,8,8,8,8]⟩:ByteArray).size:Nat):Int) then
 some (w64 (n+(w64 ((byteAt (⟨#[0,1,2,2,3,3,3,3,4,4,4,4,4,4,4,4,5,5,5,5,5,5,5,5,5,5,5,5,5,5,5,5,6,6,6,6,6,6,6,6,6,6,6,6,6,6,6,6,6,6,6,6,6,6,6,6,6,6,6,6,6,6,6,6,7,7,7,7,7,7,7,7,7,7,7,7,7,7,7,7,7,7,7,7,7,7,7,7,7,7,7,7,7,7,7,7,7,7,7,7,7,7,7,7,7,7,7,7,7,7,7,7,7,7,7,7,7,7,7,7,7,7,7,7,7,7,7,7,8,8,8,8,8,8,8,8,8,8,8,8,8,8,8,8,8,8,8,8,8,8,8,8,8,8,8,8,8,8,8,8,8,8,8,8,8,8,8,8,8,8,8,8,8,8,8,8,8,8,8,8,8,8,8,8,8,8,8,8,8,8,8,8,8,8,8,8,8,8,8,8,8,8,8,8,8,8,8,8,8,8,8,8,8,8,8,8,8,8,8,8,8,8,8,8,8,8,8,8,8,8,8,8,8,8,8,8,8,8,8,8,8,8,8,8,8,8,8,8,8,8,8,8,8,8,8,8]⟩:ByteArray) ((IntKind.u8.wrap (x2)).toNat))))))
 else none)
def g_math_bits_Len16 (N:Nat) (x:Int):Option (Int) :=
 (cond (decide (x≥256))
 (g_math_bits_Len16_J1 N (shrI .u16 x 8) 8)
 (g_math_bits_Len16_J1 N x 0))
def g_math_bits_LeadingZeros16 (N:Nat) (x:Int):Option (Int) :=
 ((g_math_bits_Len16 N x).bind fun rLen16 =>
 some (w64 (16 - rLen16)))
def g_e_shifted_L1 (N:Nat) (a:List Int) (vby:Int):Nat→(List Int)→Int→Option ((List Int))
 | 0,_,_=>none
 | fuel+1,out,x =>
  (cond (decide (x < ((a.length:Nat):Int)))
  ((if 0≤x∧x < ((a.length:Nat):Int) then
  (if (0:Int)≤vby then
  (if 0≤x∧x < ((out.length:Nat):Int) then
  (if 0≤(w64 (x+1))∧(w64 (x+1)) < (((out.set ((x).toNat) (orI .u16 (out.getD ((x).toNat) 0) (IntKind.u16.wrap ((shlI .u32 (IntKind.u32.wrap ((a.getD ((x).toNat) 0))) vby))))).length:Nat):Int) then
  g_e_shifted_L1 N a vby fuel ((out.set ((x).toNat) (orI .u16 (out.getD ((x).toNat) 0) (IntKind.u16.wrap ((shlI .u32 (IntKind.u32.wrap ((a.getD ((x).toNat) 0))) vby))))).set ((w64 (x+1)).toNat) (IntKind.u16.wrap ((shrI .u32 (shlI .u32 (IntKind.u32.wrap ((a.getD ((x).toNat) 0))) vby) 16)))) (w64 (x+1))
  else none)
  else none)
  else none)
  else none))
  (some out))
def g_e_shifted (N:Nat) (a:List Int) (vby:Int):Option ((List Int)) :=
 (if 0≤(w64 (((a.length:Nat):Int)+1))∧(2:Int) * (w64 (((a.length:Nat):Int)+1))≤281474976710656∧(w64 (((a.length:Nat):Int)+1))≤9223372036854775807 then
 g_e_shifted_L1 N a vby N (List.replicate ((w64 (((a.length:Nat):Int)+1)).toNat) 0:List Int) 0
 else none)
def g_e_digit_J3 (N:Nat) (uo:Nat) (un:Nat) (v:List Int) (q:Int) (C02:List Int) (borrow:Int) (x:Int) (K_g_e_digit_L2:(List Int)→Int→Int→Int→Option (Int×(List Int))) (x2:Int):Option (Int×(List Int)) :=
 (if 0≤x∧x < ((un:Nat):Int) then
 (if uo+un≤C02.length then
 K_g_e_digit_L2 (C02.set (addz uo (x).toNat) (IntKind.u16.wrap ((w64 ((w64 ((w64 ((C02.getD (addz uo (x).toNat) 0))) - (w64 ((andI .u64 x2 65535)))))+borrow))))) (shrI .u64 x2 16) (shrI .i64 (w64 ((w64 ((w64 ((C02.getD (addz uo (x).toNat) 0))) - (w64 ((andI .u64 x2 65535)))))+borrow)) 16) (w64 (x+1))
 else none)
 else none)
def g_e_digit_J5 (N:Nat) (C04:List Int) (q2:Int):Option (Int×(List Int)) :=
 some ((IntKind.u16.wrap (q2)),C04)
def g_e_digit_L4 (N:Nat) (uo:Nat) (un:Nat) (v:List Int) (q:Int):Nat→(List Int)→Int→Int→Option (Int×(List Int))
 | 0,_,_,_=>none
 | fuel+1,C03,carry2,x3 =>
  (cond (decide (x3 < ((v.length:Nat):Int)))
  ((if 0≤x3∧x3 < ((un:Nat):Int) then
  (if uo+un≤C03.length then
  (if 0≤x3∧x3 < ((v.length:Nat):Int) then
  g_e_digit_L4 N uo un v q fuel (C03.set (addz uo (x3).toNat) (IntKind.u16.wrap ((IntKind.u32.wrap (carry2+(IntKind.u32.wrap ((IntKind.u32.wrap ((C03.getD (addz uo (x3).toNat) 0)))+(IntKind.u32.wrap ((v.getD ((x3).toNat) 0)))))))))) (shrI .u32 (IntKind.u32.wrap (carry2+(IntKind.u32.wrap ((IntKind.u32.wrap ((C03.getD (addz uo (x3).toNat) 0)))+(IntKind.u32.wrap ((v.getD ((x3).toNat) 0))))))) 16) (w64 (x3+1))
  else none)
  else none)
  else none))
  ((if 0≤((v.length:Nat):Int)∧((v.length:Nat):Int) < ((un:Nat):Int) then
  (if uo+un≤C03.length then
  g_e_digit_J5 N (C03.set (addz uo v.length) (IntKind.u16.wrap ((C03.getD (addz uo v.length) 0)+(IntKind.u16.wrap (carry2))))) (IntKind.u64.wrap (q - 1))
  else none)
  else none)))
def g_e_digit_L2 (N:Nat) (uo:Nat) (un:Nat) (v:List Int) (q:Int):Nat→(List Int)→Int→Int→Int→Option (Int×(List Int))
 | 0,_,_,_,_=>none
 | fuel+1,C02,carry,borrow,x =>
  (cond (decide (x < (w64 (((v.length:Nat):Int)+1))))
  ((cond (decide (x < ((v.length:Nat):Int)))
  ((if 0≤x∧x < ((v.length:Nat):Int) then
  g_e_digit_J3 N uo un v q C02 borrow x (g_e_digit_L2 N uo un v q fuel) (IntKind.u64.wrap (carry+(IntKind.u64.wrap (q * (IntKind.u64.wrap ((v.getD ((x).toNat) 0)))))))
  else none))
  (g_e_digit_J3 N uo un v q C02 borrow x (g_e_digit_L2 N uo un v q fuel) carry)))
  ((cond (decide (borrow < 0))
  (g_e_digit_L4 N uo un v q N C02 0 0)
  (g_e_digit_J5 N C02 q))))
def g_e_digit_L1 (N:Nat) (uo:Nat) (un:Nat) (v:List Int) (C0:List Int):Nat→Int→Int→Option (Int×(List Int))
 | 0,_,_=>none
 | fuel+1,q,rest =>
  (if (((decide (rest < 65536)) && ((decide (rest < 65536)) && (!(decide (q > 65535)))))=true→0≤(w64 (((v.length:Nat):Int) - 2))∧(w64 (((v.length:Nat):Int) - 2)) < ((v.length:Nat):Int)) then
  (if (((decide (rest < 65536)) && ((decide (rest < 65536)) && (!(decide (q > 65535)))))=true→0≤(w64 (((v.length:Nat):Int) - 2))∧(w64 (((v.length:Nat):Int) - 2)) < ((un:Nat):Int)) then
  (if (((decide (rest < 65536)) && ((decide (rest < 65536)) && (!(decide (q > 65535)))))=true→uo+un≤C0.length) then
  (cond (cond (decide (rest < 65536)) (cond (decide (q > 65535)) true (decide ((IntKind.u64.wrap (q * (IntKind.u64.wrap ((v.getD ((w64 (((v.length:Nat):Int) - 2)).toNat) 0))))) > (orI .u64 (shlI .u64 rest 16) (IntKind.u64.wrap ((C0.getD (addz uo (w64 (((v.length:Nat):Int) - 2)).toNat) 0))))))) false)
  ((if 0≤(w64 (((v.length:Nat):Int) - 1))∧(w64 (((v.length:Nat):Int) - 1)) < ((v.length:Nat):Int) then
  g_e_digit_L1 N uo un v C0 fuel (IntKind.u64.wrap (q - 1)) (IntKind.u64.wrap (rest+(IntKind.u64.wrap ((v.getD ((w64 (((v.length:Nat):Int) - 1)).toNat) 0)))))
  else none))
  (g_e_digit_L2 N uo un v q N C0 0 0 0))
  else none)
  else none)
  else none)
def g_e_digit (N:Nat) (uo:Nat) (un:Nat) (v:List Int) (C0:List Int):Option (Int×(List Int)) :=
 (if 0≤((v.length:Nat):Int)∧((v.length:Nat):Int) < ((un:Nat):Int) then
 (if uo+un≤C0.length then
 (if 0≤(w64 (((v.length:Nat):Int) - 1))∧(w64 (((v.length:Nat):Int) - 1)) < ((un:Nat):Int) then
 (if 0≤(w64 (((v.length:Nat):Int) - 1))∧(w64 (((v.length:Nat):Int) - 1)) < ((v.length:Nat):Int) then
 (if ((IntKind.u64.wrap ((v.getD ((w64 (((v.length:Nat):Int) - 1)).toNat) 0))):Int)≠0 then
 g_e_digit_L1 N uo un v C0 N (IntKind.u64.wrap ((orI .u64 (shlI .u64 (IntKind.u64.wrap ((C0.getD (addz uo v.length) 0))) 16) (IntKind.u64.wrap ((C0.getD (addz uo (w64 (((v.length:Nat):Int) - 1)).toNat) 0)))).tdiv (IntKind.u64.wrap ((v.getD ((w64 (((v.length:Nat):Int) - 1)).toNat) 0))))) ((orI .u64 (shlI .u64 (IntKind.u64.wrap ((C0.getD (addz uo v.length) 0))) 16) (IntKind.u64.wrap ((C0.getD (addz uo (w64 (((v.length:Nat):Int) - 1)).toNat) 0)))).tmod (IntKind.u64.wrap ((v.getD ((w64 (((v.length:Nat):Int) - 1)).toNat) 0))))
 else none)
 else none)
 else none)
 else none)
 else none)
def g_e_divide_L2 (N:Nat) (b:List Int) (rLeadingZeros:Int) (q:List Int) (u:List Int):Nat→(List Int)→Int→Option ((List Int)×(List Int))
 | 0,_,_=>none
 | fuel+1,vr,x =>
  (cond (decide (x < (((b.length - 0):Nat):Int)))
  ((if 0≤x∧x < ((u.length:Nat):Int) then
  (if 0≤(w64 (x+1))∧(w64 (x+1)) < ((u.length:Nat):Int) then
  (if (0:Int)≤rLeadingZeros then
  (if 0≤x∧x < ((vr.length:Nat):Int) then
  g_e_divide_L2 N b rLeadingZeros q u fuel (vr.set ((x).toNat) (IntKind.u16.wrap ((shrI .u32 (orI .u32 (IntKind.u32.wrap ((u.getD ((x).toNat) 0))) (shlI .u32 (IntKind.u32.wrap ((u.getD ((w64 (x+1)).toNat) 0))) 16)) rLeadingZeros)))) (w64 (x+1))
  else none)
  else none)
  else none)
  else none))
  (((g_e_trim N q).bind fun rtrim2 =>
  ((g_e_trim N vr).bind fun rtrim3 =>
  some (rtrim2,rtrim3)))))
def g_e_divide_L1 (N:Nat) (b:List Int) (rLeadingZeros:Int) (rshifted2:(List Int)):Nat→(List Int)→(List Int)→Int→Option ((List Int)×(List Int))
 | 0,_,_,_=>none
 | fuel+1,q,u,j =>
  (cond (decide (j≥0))
  ((if (j).toNat≤(w64 ((w64 (j+(((b.length - 0):Nat):Int)))+1)).toNat∧(w64 ((w64 (j+(((b.length - 0):Nat):Int)))+1)).toNat≤u.length then
  (if 0≤j then
  (if 0≤(w64 ((w64 (j+(((b.length - 0):Nat):Int)))+1)) then
  (if 0≤b.length∧b.length≤rshifted2.length then
  ((g_e_digit N ((j).toNat) ((w64 ((w64 (j+(((b.length - 0):Nat):Int)))+1)).toNat - (j).toNat) ((rshifted2.take b.length).drop 0) u).bind fun rdigit =>
  (if rdigit.2.length=u.length then
  (if 0≤j∧j < ((q.length:Nat):Int) then
  g_e_divide_L1 N b rLeadingZeros rshifted2 fuel (q.set ((j).toNat) rdigit.1) rdigit.2 (w64 (j - 1))
  else none)
  else none))
  else none)
  else none)
  else none)
  else none))
  ((if 0≤(((b.length - 0):Nat):Int)∧(2:Int) * (((b.length - 0):Nat):Int)≤281474976710656∧(((b.length - 0):Nat):Int)≤9223372036854775807 then
  g_e_divide_L2 N b rLeadingZeros q u N (List.replicate (b.length - 0) 0:List Int) 0
  else none)))
def g_e_divide (N:Nat) (a:List Int) (b:List Int):Option ((List Int)×(List Int)) :=
 ((g_e_compare N a b).bind fun rcompare =>
 (cond (decide (rcompare < 0))
 (((g_slices_Clone_uint16_uint16 N a).bind fun rClone =>
 some (([]:List Int),rClone)))
 ((cond (((b.length:Nat):Int) == 1)
 ((if 0≤(0:Int)∧0 < ((b.length:Nat):Int) then
 ((g_e_short N a (b.getD 0 0)).bind fun rshort =>
 ((g_e_trim N ([rshort.2]:List Int)).bind fun rtrim =>
 some (rshort.1,rtrim)))
 else none))
 ((if 0≤(w64 (((b.length:Nat):Int) - 1))∧(w64 (((b.length:Nat):Int) - 1)) < ((b.length:Nat):Int) then
 ((g_math_bits_LeadingZeros16 N (b.getD ((w64 (((b.length:Nat):Int) - 1)).toNat) 0)).bind fun rLeadingZeros =>
 ((g_e_shifted N a rLeadingZeros).bind fun rshifted =>
 ((g_e_shifted N b rLeadingZeros).bind fun rshifted2 =>
 (if 0≤b.length∧b.length≤rshifted2.length then
 (if 0≤(w64 (((rshifted.length:Nat):Int) - (((b.length - 0):Nat):Int)))∧(2:Int) * (w64 (((rshifted.length:Nat):Int) - (((b.length - 0):Nat):Int)))≤281474976710656∧(w64 (((rshifted.length:Nat):Int) - (((b.length - 0):Nat):Int)))≤9223372036854775807 then
 g_e_divide_L1 N b rLeadingZeros rshifted2 N (List.replicate ((w64 (((rshifted.length:Nat):Int) - (((b.length - 0):Nat):Int))).toNat) 0:List Int) rshifted (w64 ((w64 (((rshifted.length:Nat):Int) - (((b.length - 0):Nat):Int))) - 1))
 else none)
 else none))))
 else none))))))
def g_e_common_L2 (N:Nat) (K_g_e_common_L1:(List Int)→(List Int)→Option ((List Int))):Nat→Int→Int→Option ((List Int))
 | 0,_,_=>none
 | fuel+1,x,y =>
  (cond (decide (y > 0))
  ((if (y:Int)≠0 then
  g_e_common_L2 N K_g_e_common_L1 fuel y (x.tmod y)
  else none))
  (((g_e_natural N x).bind fun rnatural =>
  some rnatural)))
def g_e_common_L1 (N:Nat):Nat→(List Int)→(List Int)→Option ((List Int))
 | 0,_,_=>none
 | fuel+1,a2,b2 =>
  (cond (decide (((b2.length:Nat):Int) > 0))
  (((g_e_word N a2).bind fun rword =>
  ((g_e_word N b2).bind fun rword2 =>
  (cond (cond rword.2 rword2.2 false)
  (g_e_common_L2 N (g_e_common_L1 N fuel) N rword.1 rword2.1)
  (((g_e_divide N a2 b2).bind fun rdivide =>
  g_e_common_L1 N fuel b2 rdivide.2))))))
  (some a2))
def g_e_common (N:Nat) (a:List Int) (b:List Int):Option ((List Int)) :=
 g_e_common_L1 N N a b
def g_e_fraction_J1 (N:Nat) (a:TInt) (b:TInt) (x:List Int) (y:List Int):Option (TRat) :=
 ((g_e_signed N (!(a.fG == b.fG)) x).bind fun rSg =>
 ((g_e_signed N false y).bind fun rSg2 =>
 some (⟨rSg,rSg2⟩:TRat)))
def g_e_fraction (N:Nat) (a:TInt) (b:TInt):Option (TRat) :=
 ((g_e_trim N a.fL).bind fun rtrim =>
 ((g_e_trim N b.fL).bind fun rtrim2 =>
 ((g_e_common N rtrim rtrim2).bind fun rcommon =>
 (if ((!(((rcommon.length:Nat):Int) != 1))=true→0≤(0:Int)∧0 < ((rcommon.length:Nat):Int)) then
 (cond (cond (((rcommon.length:Nat):Int) != 1) true ((rcommon.getD 0 0) != 1))
 (((g_e_divide N rtrim rcommon).bind fun rdivide =>
 ((g_e_divide N rtrim2 rcommon).bind fun rdivide2 =>
 g_e_fraction_J1 N a b rdivide.1 rdivide2.1)))
 (g_e_fraction_J1 N a b rtrim rtrim2))
 else none))))
def g_e_Whole (N:Nat) (a:TInt):Option (TRat) :=
 ((g_e_fraction N a (⟨false,([1]:List Int)⟩:TInt)).bind fun rFr =>
 some (⟨rFr.fN,rFr.fD⟩:TRat))
def g_e_times_L2 (N:Nat) (a:List Int) (b:List Int) (x:Int) (K_g_e_times_L1:(List Int)→Int→Option ((List Int))):Nat→(List Int)→Int→Int→Option ((List Int))
 | 0,_,_,_=>none
 | fuel+1,out2,carry,x2 =>
  (cond (decide (x2 < ((b.length:Nat):Int)))
  ((if 0≤x2∧x2 < ((b.length:Nat):Int) then
  (if 0≤(w64 (x+x2))∧(w64 (x+x2)) < ((out2.length:Nat):Int) then
  g_e_times_L2 N a b x K_g_e_times_L1 fuel (out2.set ((w64 (x+x2)).toNat) (IntKind.u16.wrap ((IntKind.u32.wrap (carry+(IntKind.u32.wrap ((IntKind.u32.wrap ((IntKind.u32.wrap ((a.getD ((x).toNat) 0))) * (IntKind.u32.wrap ((b.getD ((x2).toNat) 0)))))+(IntKind.u32.wrap ((out2.getD ((w64 (x+x2)).toNat) 0)))))))))) (shrI .u32 (IntKind.u32.wrap (carry+(IntKind.u32.wrap ((IntKind.u32.wrap ((IntKind.u32.wrap ((a.getD ((x).toNat) 0))) * (IntKind.u32.wrap ((b.getD ((x2).toNat) 0)))))+(IntKind.u32.wrap ((out2.getD ((w64 (x+x2)).toNat) 0))))))) 16) (w64 (x2+1))
  else none)
  else none))
  ((if 0≤(w64 (x+((b.length:Nat):Int)))∧(w64 (x+((b.length:Nat):Int))) < ((out2.length:Nat):Int) then
  K_g_e_times_L1 (out2.set ((w64 (x+((b.length:Nat):Int))).toNat) (IntKind.u16.wrap (carry))) (w64 (x+1))
  else none)))
def g_e_times_L1 (N:Nat) (a:List Int) (b:List Int):Nat→(List Int)→Int→Option ((List Int))
 | 0,_,_=>none
 | fuel+1,out,x =>
  (cond (decide (x < ((a.length:Nat):Int)))
  ((if 0≤x∧x < ((a.length:Nat):Int) then
  g_e_times_L2 N a b x (g_e_times_L1 N a b fuel) N out 0 0
  else none))
  (((g_e_trim N out).bind fun rtrim =>
  some rtrim)))
def g_e_times (N:Nat) (a:List Int) (b:List Int):Option ((List Int)) :=
 (if 0≤(w64 (((a.length:Nat):Int)+((b.length:Nat):Int)))∧(2:Int) * (w64 (((a.length:Nat):Int)+((b.length:Nat):Int)))≤281474976710656∧(w64 (((a.length:Nat):Int)+((b.length:Nat):Int)))≤9223372036854775807 then
 g_e_times_L1 N a b N (List.replicate ((w64 (((a.length:Nat):Int)+((b.length:Nat):Int))).toNat) 0:List Int) 0
 else none)
def g_e_Mul (N:Nat) (a:TInt) (b:TInt):Option (TInt) :=
 ((g_e_trim N a.fL).bind fun rtrim =>
 ((g_e_trim N b.fL).bind fun rtrim2 =>
 ((g_e_times N rtrim rtrim2).bind fun rtimes =>
 ((g_e_signed N (!(a.fG == b.fG)) rtimes).bind fun rSg =>
 some rSg))))
def g_e_sign (N:Nat) (a:TInt):Option (Int) :=
 ((g_e_trim N a.fL).bind fun rtrim =>
 (cond (((rtrim.length:Nat):Int) == 0)
 (some 0)
 ((cond a.fG
 (some (-1))
 (some 1)))))
def g_e_below (N:Nat) (x:TRat):Option (TInt) :=
 ((g_e_sign N x.fD).bind fun rsign =>
 (cond (rsign == 0)
 (some (⟨false,([1]:List Int)⟩:TInt))
 (some x.fD)))
def g_e_MulRat (N:Nat) (x:TRat) (y:TRat):Option (TRat) :=
 ((g_e_Mul N x.fN y.fN).bind fun rMul =>
 ((g_e_below N x).bind fun rbelow =>
 ((g_e_below N y).bind fun rbelow2 =>
 ((g_e_Mul N rbelow rbelow2).bind fun rMul2 =>
 ((g_e_fraction N rMul rMul2).bind fun rFr =>
 some (⟨rFr.fN,rFr.fD⟩:TRat))))))
def g_w_product_L1 (N:Nat) (l:List Int):Nat→Bool→(List Int)→Bool→(List Int)→Int→Option (TRat)
 | 0,_,_,_,_,_=>none
 | fuel+1,out,out2,out3,out4,x =>
  (cond (decide (x < ((l.length:Nat):Int)))
  ((if 0≤x∧x < ((l.length:Nat):Int) then
  ((g_e_Of N (l.getD ((x).toNat) 0)).bind fun rOf2 =>
  ((g_e_Whole N rOf2).bind fun rWhole2 =>
  ((g_e_MulRat N (⟨(⟨out,out2⟩:TInt),(⟨out3,out4⟩:TInt)⟩:TRat) (⟨rWhole2.fN,rWhole2.fD⟩:TRat)).bind fun rMulRat =>
  g_w_product_L1 N l fuel rMulRat.fN.fG rMulRat.fN.fL rMulRat.fD.fG rMulRat.fD.fL (w64 (x+1)))))
  else none))
  (some (⟨(⟨out,out2⟩:TInt),(⟨out3,out4⟩:TInt)⟩:TRat)))
def g_w_product (N:Nat) (l:List Int):Option (TRat) :=
 ((g_e_Of N 1).bind fun rOf =>
 ((g_e_Whole N rOf).bind fun rWhole =>
 g_w_product_L1 N l N rWhole.fN.fG rWhole.fN.fL rWhole.fD.fG rWhole.fD.fL 0))
def g_e_isZero (N:Nat) (x:TRat):Option (Bool) :=
 ((g_e_sign N x.fN).bind fun rsign =>
 some (rsign == 0))
def g_e_over (N:Nat) (x:TRat) (y:TRat):Option (TRat) :=
 ((g_e_below N y).bind fun rbelow =>
 ((g_e_Mul N x.fN rbelow).bind fun rMul =>
 ((g_e_below N x).bind fun rbelow2 =>
 ((g_e_Mul N rbelow2 y.fN).bind fun rMul2 =>
 ((g_e_fraction N rMul rMul2).bind fun rFr =>
 some (⟨rFr.fN,rFr.fD⟩:TRat))))))
def g_e_QuoRat (N:Nat) (x:TRat) (y:TRat):Option (TRat×Int) :=
 ((g_e_isZero N y).bind fun risZero =>
 (cond risZero
 (some ((⟨(⟨false,([]:List Int)⟩:TInt),(⟨false,([]:List Int)⟩:TInt)⟩:TRat),9))
 (((g_e_over N x y).bind fun rover =>
 some ((⟨rover.fN,rover.fD⟩:TRat),0)))))
def g_w_quotient (N:Nat) (x:TRat) (y:TRat):Option (TRat) :=
 ((g_e_QuoRat N x y).bind fun rQuoRat =>
 some (⟨rQuoRat.1.fN,rQuoRat.1.fD⟩:TRat))
def g_e_opposite (N:Nat) (a:TInt):Option (TInt) :=
 some (⟨(!a.fG),a.fL⟩:TInt)
def g_e_negative (N:Nat) (x:TRat):Option (TRat) :=
 ((g_e_opposite N x.fN).bind fun ropposite =>
 ((g_e_below N x).bind fun rbelow =>
 ((g_e_fraction N ropposite rbelow).bind fun rFr =>
 some rFr)))
def g_e_lowest (N:Nat) (x:TRat):Option (TRat) :=
 ((g_e_below N x).bind fun rbelow =>
 ((g_e_fraction N x.fN rbelow).bind fun rFr =>
 some rFr))
def g_e_plus_J3 (N:Nat) (a2:List Int) (b2:List Int) (out:List Int) (x:Int) (K_g_e_plus_L2:(List Int)→Int→Int→Option ((List Int))) (carry2:Int):Option ((List Int)) :=
 (if (out.length+1) * 2≤140737488355328 then
 K_g_e_plus_L2 (out ++ ([(IntKind.u16.wrap (carry2))]:List Int)) (shrI .u32 carry2 16) (w64 (x+1))
 else none)
def g_e_plus_L2 (N:Nat) (a2:List Int) (b2:List Int):Nat→(List Int)→Int→Int→Option ((List Int))
 | 0,_,_,_=>none
 | fuel+1,out,carry,x =>
  (cond (decide (x < ((a2.length:Nat):Int)))
  ((if 0≤x∧x < ((a2.length:Nat):Int) then
  (cond (decide (x < ((b2.length:Nat):Int)))
  ((if 0≤x∧x < ((b2.length:Nat):Int) then
  g_e_plus_J3 N a2 b2 out x (g_e_plus_L2 N a2 b2 fuel) (IntKind.u32.wrap ((IntKind.u32.wrap (carry+(IntKind.u32.wrap ((a2.getD ((x).toNat) 0)))))+(IntKind.u32.wrap ((b2.getD ((x).toNat) 0)))))
  else none))
  (g_e_plus_J3 N a2 b2 out x (g_e_plus_L2 N a2 b2 fuel) (IntKind.u32.wrap (carry+(IntKind.u32.wrap ((a2.getD ((x).toNat) 0)))))))
  else none))
  ((if (out.length+1) * 2≤140737488355328 then
  ((g_e_trim N (out ++ ([(IntKind.u16.wrap (carry))]:List Int))).bind fun rtrim =>
  some rtrim)
  else none)))
def g_e_plus_J1 (N:Nat) (a2:List Int) (b2:List Int):Option ((List Int)) :=
 (if 0≤(0:Int)∧(2:Int) * (w64 (((a2.length:Nat):Int)+1))≤281474976710656∧(w64 (((a2.length:Nat):Int)+1))≤9223372036854775807∧(0:Int)≤(w64 (((a2.length:Nat):Int)+1)) then
 g_e_plus_L2 N a2 b2 N (List.replicate 0 0:List Int) 0 0
 else none)
def g_e_plus (N:Nat) (a:List Int) (b:List Int):Option ((List Int)) :=
 (cond (decide (((a.length:Nat):Int) < ((b.length:Nat):Int)))
 (g_e_plus_J1 N b a)
 (g_e_plus_J1 N a b))
def g_e_minus_J3 (N:Nat) (a:List Int) (b:List Int) (out:List Int) (x:Int) (y:Int) (K_g_e_minus_L1:(List Int)→Int→Int→Option ((List Int))) (borrow2:Int):Option ((List Int)) :=
 (if 0≤x∧x < ((out.length:Nat):Int) then
 K_g_e_minus_L1 (out.set ((x).toNat) (IntKind.u16.wrap ((IntKind.u32.wrap ((IntKind.u32.wrap ((IntKind.u32.wrap ((a.getD ((x).toNat) 0)))+(shlI .u32 borrow2 16))) - y))))) borrow2 (w64 (x+1))
 else none)
def g_e_minus_J2 (N:Nat) (a:List Int) (b:List Int) (out:List Int) (x:Int) (K_g_e_minus_L1:(List Int)→Int→Int→Option ((List Int))) (y:Int):Option ((List Int)) :=
 (cond (decide ((IntKind.u32.wrap ((a.getD ((x).toNat) 0))) < y))
 (g_e_minus_J3 N a b out x y K_g_e_minus_L1 1)
 (g_e_minus_J3 N a b out x y K_g_e_minus_L1 0))
def g_e_minus_L1 (N:Nat) (a:List Int) (b:List Int):Nat→(List Int)→Int→Int→Option ((List Int))
 | 0,_,_,_=>none
 | fuel+1,out,borrow,x =>
  (cond (decide (x < ((a.length:Nat):Int)))
  ((if 0≤x∧x < ((a.length:Nat):Int) then
  (cond (decide (x < ((b.length:Nat):Int)))
  ((if 0≤x∧x < ((b.length:Nat):Int) then
  g_e_minus_J2 N a b out x (g_e_minus_L1 N a b fuel) (IntKind.u32.wrap (borrow+(IntKind.u32.wrap ((b.getD ((x).toNat) 0)))))
  else none))
  (g_e_minus_J2 N a b out x (g_e_minus_L1 N a b fuel) borrow))
  else none))
  (((g_e_trim N out).bind fun rtrim =>
  some rtrim)))
def g_e_minus (N:Nat) (a:List Int) (b:List Int):Option ((List Int)) :=
 (if 0≤((a.length:Nat):Int)∧(2:Int) * ((a.length:Nat):Int)≤281474976710656∧((a.length:Nat):Int)≤9223372036854775807 then
 g_e_minus_L1 N a b N (List.replicate a.length 0:List Int) 0 0
 else none)
def g_e_Add (N:Nat) (a:TInt) (b:TInt):Option (TInt) :=
 ((g_e_trim N a.fL).bind fun rtrim =>
 ((g_e_trim N b.fL).bind fun rtrim2 =>
 (cond (a.fG == b.fG)
 (((g_e_plus N rtrim rtrim2).bind fun rplus =>
 ((g_e_signed N a.fG rplus).bind fun rSg =>
 some rSg)))
 (((g_e_compare N rtrim rtrim2).bind fun rcompare =>
 (cond (decide (rcompare≥0))
 (((g_e_minus N rtrim rtrim2).bind fun rminus =>
 ((g_e_signed N a.fG rminus).bind fun rSg2 =>
 some rSg2)))
 (((g_e_minus N rtrim2 rtrim).bind fun rminus2 =>
 ((g_e_signed N b.fG rminus2).bind fun rSg3 =>
 some rSg3)))))))))
def g_e_AddRat (N:Nat) (x:TRat) (y:TRat):Option (TRat) :=
 ((g_e_isZero N x).bind fun risZero =>
 (cond risZero
 (((g_e_lowest N y).bind fun rlowest =>
 some rlowest))
 (((g_e_isZero N y).bind fun risZero2 =>
 (cond risZero2
 (((g_e_lowest N x).bind fun rlowest2 =>
 some rlowest2))
 (((g_e_below N x).bind fun rbelow =>
 ((g_e_below N y).bind fun rbelow2 =>
 ((g_e_Mul N x.fN rbelow2).bind fun rMul =>
 ((g_e_Mul N y.fN rbelow).bind fun rMul2 =>
 ((g_e_Add N rMul rMul2).bind fun rAdd =>
 ((g_e_Mul N rbelow rbelow2).bind fun rMul3 =>
 ((g_e_fraction N rAdd rMul3).bind fun rFr =>
 some rFr)))))))))))))
def g_e_SubRat (N:Nat) (x:TRat) (y:TRat):Option (TRat) :=
 ((g_e_negative N y).bind fun rnegative =>
 ((g_e_AddRat N x rnegative).bind fun rAddRat =>
 some rAddRat))
def g_w_Float (N:Nat) (p:TPn) (steps:List Int):Option (TPose×Int) :=
 ((g_w_CheckPontoon N p).bind fun rCP =>
 (cond (rCP != 0)
 (some ((⟨(⟨(⟨false,([]:List Int)⟩:TInt),(⟨false,([]:List Int)⟩:TInt)⟩:TRat),(⟨(⟨false,([]:List Int)⟩:TInt),(⟨false,([]:List Int)⟩:TInt)⟩:TRat),(⟨(⟨false,([]:List Int)⟩:TInt),(⟨false,([]:List Int)⟩:TInt)⟩:TRat),(⟨(⟨false,([]:List Int)⟩:TInt),(⟨false,([]:List Int)⟩:TInt)⟩:TRat)⟩:TPose),rCP))
 (((g_w_checkSteps N p steps).bind fun rcheckSteps =>
 (cond (rcheckSteps.2 != 0)
 (some ((⟨(⟨(⟨false,([]:List Int)⟩:TInt),(⟨false,([]:List Int)⟩:TInt)⟩:TRat),(⟨(⟨false,([]:List Int)⟩:TInt),(⟨false,([]:List Int)⟩:TInt)⟩:TRat),(⟨(⟨false,([]:List Int)⟩:TInt),(⟨false,([]:List Int)⟩:TInt)⟩:TRat),(⟨(⟨false,([]:List Int)⟩:TInt),(⟨false,([]:List Int)⟩:TInt)⟩:TRat)⟩:TPose),rcheckSteps.2))
 (((g_w_sumOf N p rcheckSteps.1).bind fun rsumOf =>
 ((g_w_product N ([1000000000,rsumOf.f_mass]:List Int)).bind fun rproduct =>
 ((g_w_product N ([p.fDsity,p.fLn,p.fBr]:List Int)).bind fun rproduct2 =>
 ((g_w_quotient N (⟨rproduct.fN,rproduct.fD⟩:TRat) (⟨rproduct2.fN,rproduct2.fD⟩:TRat)).bind fun rquotient =>
 ((g_w_product N ([12000000000,rsumOf.f_x]:List Int)).bind fun rproduct3 =>
 ((g_w_product N ([p.fDsity,p.fBr,p.fLn,p.fLn,p.fLn]:List Int)).bind fun rproduct4 =>
 ((g_w_quotient N (⟨rproduct3.fN,rproduct3.fD⟩:TRat) (⟨rproduct4.fN,rproduct4.fD⟩:TRat)).bind fun rquotient2 =>
 ((g_w_product N ([12000000000,rsumOf.f_y]:List Int)).bind fun rproduct5 =>
 ((g_w_product N ([p.fDsity,p.fLn,p.fBr,p.fBr,p.fBr]:List Int)).bind fun rproduct6 =>
 ((g_w_quotient N (⟨rproduct5.fN,rproduct5.fD⟩:TRat) (⟨rproduct6.fN,rproduct6.fD⟩:TRat)).bind fun rquotient3 =>
 ((g_w_product N ([rsumOf.f_arm]:List Int)).bind fun rproduct7 =>
 ((g_w_product N ([2]:List Int)).bind fun rproduct8 =>
 ((g_w_quotient N (⟨rproduct7.fN,rproduct7.fD⟩:TRat) (⟨rproduct8.fN,rproduct8.fD⟩:TRat)).bind fun rquotient4 =>
 ((g_w_product N ([rsumOf.f_mass,p.fLn]:List Int)).bind fun rproduct9 =>
 ((g_w_product N ([8]:List Int)).bind fun rproduct10 =>
 ((g_w_quotient N (⟨rproduct9.fN,rproduct9.fD⟩:TRat) (⟨rproduct10.fN,rproduct10.fD⟩:TRat)).bind fun rquotient5 =>
 ((g_e_SubRat N (⟨rquotient4.fN,rquotient4.fD⟩:TRat) (⟨rquotient5.fN,rquotient5.fD⟩:TRat)).bind fun rSubRat =>
 some ((⟨rquotient,rquotient2,rquotient3,rSubRat⟩:TPose),0))))))))))))))))))))))))
def g_b_limbs_L1 (N:Nat):Nat→Int→(List Int)→Option ((List Int))
 | 0,_,_=>none
 | fuel+1,n2,out =>
  (cond (decide (n2 > 0))
  ((if (out.length+1) * 2≤140737488355328 then
  g_b_limbs_L1 N fuel (shrI .u64 n2 16) (out ++ ([(IntKind.u16.wrap ((andI .u64 n2 65535)))]:List Int))
  else none))
  (some out))
def g_b_limbs (N:Nat) (n:Int):Option ((List Int)) :=
 g_b_limbs_L1 N N n ([]:List Int)
def g_b_Z (N:Nat) (n:Int):Option (TInt) :=
 (cond (decide (n < 0))
 (((g_b_limbs N (IntKind.u64.wrap ((IntKind.u64.wrap ((w64 (0 - (w64 (n+1))))))+1))).bind fun rlimbs =>
 some (⟨true,rlimbs⟩:TInt)))
 (((g_b_limbs N (IntKind.u64.wrap (n))).bind fun rlimbs2 =>
 some (⟨false,rlimbs2⟩:TInt))))
def g_b_W (N:Nat) (n:Int):Option (TRat) :=
 ((g_b_Z N n).bind fun rZ =>
 ((g_b_Z N 1).bind fun rZ2 =>
 some (⟨rZ,rZ2⟩:TRat)))
def g_b_SameInt_L1 (N:Nat) (a:TInt) (b:TInt):Nat→Int→Option (Bool)
 | 0,_=>none
 | fuel+1,i =>
  (cond (decide (i < ((a.fL.length:Nat):Int)))
  ((if 0≤i∧i < ((a.fL.length:Nat):Int) then
  (if 0≤i∧i < ((b.fL.length:Nat):Int) then
  (cond ((a.fL.getD ((i).toNat) 0) != (b.fL.getD ((i).toNat) 0))
  (some false)
  (g_b_SameInt_L1 N a b fuel (w64 (i+1))))
  else none)
  else none))
  (some true))
def g_b_SameInt (N:Nat) (a:TInt) (b:TInt):Option (Bool) :=
 (cond (cond (!(a.fG == b.fG)) true (((a.fL.length:Nat):Int) != ((b.fL.length:Nat):Int)))
 (some false)
 (g_b_SameInt_L1 N a b N 0))
def g_b_SameRat (N:Nat) (a:TRat) (b:TRat):Option (Bool) :=
 ((g_b_SameInt N a.fN b.fN).bind fun rSameInt =>
 ((cond rSameInt (g_b_SameInt N a.fD b.fD) (some false)).bind fun rSameInt2 =>
 some (cond rSameInt rSameInt2 false)))
def g_w05_afloat (N:Nat):Option (Bool) :=
 ((g_w_Float N (⟨100000,20000,1000,([(⟨0,0,2000000⟩:TPm)]:List TPm),([]:List TTank)⟩:TPn) ([]:List Int)).bind fun rFloat =>
 ((cond (rFloat.2 == 0) (g_b_W N 1000) (some TRat.d)).bind fun rW =>
 ((cond (rFloat.2 == 0) (g_b_SameRat N rFloat.1.f_Draught rW) (some false)).bind fun rSameRat =>
 ((cond (cond (rFloat.2 == 0) rSameRat false) (g_b_W N (-25000000000)) (some TRat.d)).bind fun rW2 =>
 ((cond (cond (rFloat.2 == 0) rSameRat false) (g_b_SameRat N rFloat.1.f_Hog rW2) (some false)).bind fun rSameRat2 =>
 some (cond (cond (rFloat.2 == 0) rSameRat false) rSameRat2 false))))))
def g_w05_fewMasses_L1 (N:Nat) (p:TPn):Nat→Int→Option (Bool)
 | 0,_=>none
 | fuel+1,i =>
  (cond (decide (i < ((p.fTk.length:Nat):Int)))
  ((if 0≤i∧i < ((p.fTk.length:Nat):Int) then
  (cond (decide (((((p.fTk.getD ((i).toNat) TTank.d).f_Name).size:Nat):Int) > 40))
  (some false)
  (g_w05_fewMasses_L1 N p fuel (w64 (i+1))))
  else none))
  (some true))
def g_w05_fewMasses (N:Nat) (p:TPn):Option (Bool) :=
 (cond (cond (decide (((p.fMs.length:Nat):Int) > 25)) true (decide (((p.fTk.length:Nat):Int) > 10)))
 (some false)
 (g_w05_fewMasses_L1 N p N 0))
def g_r05_inside (N:Nat) (n:Int) (low:Int) (high:Int):Option (Bool) :=
 some (cond (decide (n≥low)) (decide (n≤high)) false)
def g_b_IsName_L1 (N:Nat) (s:ByteArray):Nat→Int→Option (Bool)
 | 0,_=>none
 | fuel+1,i =>
  (cond (decide (i < ((s.size:Nat):Int)))
  ((if 0≤i∧i < ((s.size:Nat):Int) then
  (cond (cond (!(cond (cond (decide ((zA s i)≥97)) (decide ((zA s i)≤122)) false) true (cond (decide ((zA s i)≥65)) (decide ((zA s i)≤90)) false))) (cond (i == 0) true (cond ((zA s i) != 45) (cond (decide ((zA s i) < 48)) true (decide ((zA s i) > 57))) false)) false)
  (some false)
  (g_b_IsName_L1 N s fuel (w64 (i+1))))
  else none))
  (some true))
def g_b_IsName (N:Nat) (s:ByteArray):Option (Bool) :=
 (cond (cond (decide (((s.size:Nat):Int) < 1)) true (decide (((s.size:Nat):Int) > 12)))
 (some false)
 (g_b_IsName_L1 N s N 0))
def g_r05_CheckPontoon_L3 (N:Nat) (p:TPn) (i2:Int) (K_g_r05_CheckPontoon_L2:Int→Option (Int)):Nat→Int→Option (Int)
 | 0,_=>none
 | fuel+1,k =>
  (cond (decide (k < i2))
  ((if 0≤k∧k < ((p.fTk.length:Nat):Int) then
  (cond (streq ((p.fTk.getD ((k).toNat) TTank.d).f_Name) ((p.fTk.getD ((i2).toNat) TTank.d).f_Name))
  (some 5)
  (g_r05_CheckPontoon_L3 N p i2 K_g_r05_CheckPontoon_L2 fuel (w64 (k+1))))
  else none))
  (((g_r05_inside N ((p.fTk.getD ((i2).toNat) TTank.d).f_X) (-1000000) 1000000).bind fun rIn7 =>
  ((cond (!(!rIn7)) (g_r05_inside N ((p.fTk.getD ((i2).toNat) TTank.d).f_Y) (-1000000) 1000000) (some false)).bind fun rIn8 =>
  ((cond (!(cond (!rIn7) true (!rIn8))) (g_r05_inside N ((p.fTk.getD ((i2).toNat) TTank.d).f_Steps) 0 12) (some false)).bind fun rIn9 =>
  ((cond (!(cond (cond (!rIn7) true (!rIn8)) true (!rIn9))) (g_r05_inside N ((p.fTk.getD ((i2).toNat) TTank.d).fMa) 0 1000000000) (some false)).bind fun rIn10 =>
  (cond (cond (cond (cond (!rIn7) true (!rIn8)) true (!rIn9)) true (!rIn10))
  (some 2)
  (K_g_r05_CheckPontoon_L2 (w64 (i2+1))))))))))
def g_r05_CheckPontoon_L2 (N:Nat) (p:TPn):Nat→Int→Option (Int)
 | 0,_=>none
 | fuel+1,i2 =>
  (cond (decide (i2 < ((p.fTk.length:Nat):Int)))
  ((if 0≤i2∧i2 < ((p.fTk.length:Nat):Int) then
  ((g_b_IsName N ((p.fTk.getD ((i2).toNat) TTank.d).f_Name)).bind fun rIsName =>
  (cond (!rIsName)
  (some 4)
  (g_r05_CheckPontoon_L3 N p i2 (g_r05_CheckPontoon_L2 N p fuel) N 0)))
  else none))
  (some 0))
def g_r05_CheckPontoon_L1 (N:Nat) (p:TPn):Nat→Int→Option (Int)
 | 0,_=>none
 | fuel+1,i =>
  (cond (decide (i < ((p.fMs.length:Nat):Int)))
  ((if 0≤i∧i < ((p.fMs.length:Nat):Int) then
  ((g_r05_inside N ((p.fMs.getD ((i).toNat) TPm.d).f_X) (-1000000) 1000000).bind fun rIn4 =>
  ((cond (!(!rIn4)) (g_r05_inside N ((p.fMs.getD ((i).toNat) TPm.d).f_Y) (-1000000) 1000000) (some false)).bind fun rIn5 =>
  ((cond (!(cond (!rIn4) true (!rIn5))) (g_r05_inside N ((p.fMs.getD ((i).toNat) TPm.d).fMa) 0 1000000000) (some false)).bind fun rIn6 =>
  (cond (cond (cond (!rIn4) true (!rIn5)) true (!rIn6))
  (some 2)
  (g_r05_CheckPontoon_L1 N p fuel (w64 (i+1)))))))
  else none))
  ((cond (decide (((p.fTk.length:Nat):Int) > 6))
  (some 8)
  (g_r05_CheckPontoon_L2 N p N 0))))
def g_r05_CheckPontoon (N:Nat) (p:TPn):Option (Int) :=
 ((g_r05_inside N p.fLn 1 1000000).bind fun rIn =>
 ((cond (!(!rIn)) (g_r05_inside N p.fBr 1 1000000) (some false)).bind fun rIn2 =>
 ((cond (!(cond (!rIn) true (!rIn2))) (g_r05_inside N p.fDsity 900 1100) (some false)).bind fun rIn3 =>
 (cond (cond (cond (!rIn) true (!rIn2)) true (!rIn3))
 (some 2)
 ((cond (decide (((p.fMs.length:Nat):Int) > 20))
 (some 8)
 (g_r05_CheckPontoon_L1 N p N 0)))))))
def g_r05_States_L1 (N:Nat) (p:TPn) (most:Int):Nat→Int→Int→Option (Int)
 | 0,_,_=>none
 | fuel+1,n,i =>
  (cond (decide (i < ((p.fTk.length:Nat):Int)))
  ((if 0≤i∧i < ((p.fTk.length:Nat):Int) then
  (cond (decide ((w64 (n * (w64 ((p.fTk.getD ((i).toNat) TTank.d).f_Steps+1)))) > most))
  (some (w64 (n * (w64 ((p.fTk.getD ((i).toNat) TTank.d).f_Steps+1)))))
  (g_r05_States_L1 N p most fuel (w64 (n * (w64 ((p.fTk.getD ((i).toNat) TTank.d).f_Steps+1)))) (w64 (i+1))))
  else none))
  (some n))
def g_r05_States (N:Nat) (p:TPn) (most:Int):Option (Int) :=
 g_r05_States_L1 N p most N 1 0
def g_w05_light_J1 (N:Nat) (n:Int):Option (Bool) :=
 some (cond (decide (n≤60)) true (decide (n > 20000)))
def g_w05_light (N:Nat) (p:TPn):Option (Bool) :=
 ((g_w05_fewMasses N p).bind fun rfewMasses =>
 (cond (!rfewMasses)
 (some false)
 (((g_r05_CheckPontoon N p).bind fun rCP =>
 (cond (rCP == 0)
 (((g_r05_States N p 20000).bind fun rStates =>
 g_w05_light_J1 N rStates))
 (g_w05_light_J1 N 0))))))
def g_w_checkLimits (N:Nat) (l:TLimits):Option (Int) :=
 ((g_w_between N l.f_DraughtLeast 0 1000000).bind fun rBt =>
 ((cond (!(!rBt)) (g_w_between N l.f_DraughtMost 0 1000000) (some false)).bind fun rBt2 =>
 ((cond (!(cond (!rBt) true (!rBt2))) (g_w_between N l.f_TrimMost 0 1000) (some false)).bind fun rBt3 =>
 ((cond (!(cond (cond (!rBt) true (!rBt2)) true (!rBt3))) (g_w_between N l.f_HeelMost 0 1000) (some false)).bind fun rBt4 =>
 ((cond (!(cond (cond (cond (!rBt) true (!rBt2)) true (!rBt3)) true (!rBt4))) (g_w_between N l.f_HogMost 0 1000000000000000000) (some false)).bind fun rBt5 =>
 (cond (cond (cond (cond (cond (!rBt) true (!rBt2)) true (!rBt3)) true (!rBt4)) true (!rBt5))
 (some 2)
 (some 0)))))))
def g_w_draughts_1 (N:Nat) (d:Int) (C0:TPn):Option (TRat) :=
 ((g_w_product N ([d,C0.fDsity,C0.fLn,C0.fBr]:List Int)).bind fun rproduct =>
 ((g_w_product N ([1000000000]:List Int)).bind fun rproduct2 =>
 ((g_w_quotient N (⟨rproduct.fN,rproduct.fD⟩:TRat) (⟨rproduct2.fN,rproduct2.fD⟩:TRat)).bind fun rquotient =>
 some (⟨rquotient.fN,rquotient.fD⟩:TRat))))
def g_e_DivMod_J1 (N:Nat) (a:TInt) (b:TInt) (n:List Int) (rest:List Int):Option (TInt×TInt×Int) :=
 ((g_e_signed N (!(a.fG == b.fG)) n).bind fun rSg =>
 ((g_e_signed N false rest).bind fun rSg2 =>
 some (rSg,rSg2,0)))
def g_e_DivMod (N:Nat) (a:TInt) (b:TInt):Option (TInt×TInt×Int) :=
 ((g_e_trim N a.fL).bind fun rtrim =>
 ((g_e_trim N b.fL).bind fun rtrim2 =>
 (cond (((rtrim2.length:Nat):Int) == 0)
 (some ((⟨false,([]:List Int)⟩:TInt),(⟨false,([]:List Int)⟩:TInt),9))
 (((g_e_divide N rtrim rtrim2).bind fun rdivide =>
 (cond (cond a.fG (decide (((rdivide.2.length:Nat):Int) > 0)) false)
 (((g_e_plus N rdivide.1 ([1]:List Int)).bind fun rplus =>
 ((g_e_minus N rtrim2 rdivide.2).bind fun rminus =>
 g_e_DivMod_J1 N a b rplus rminus)))
 (g_e_DivMod_J1 N a b rdivide.1 rdivide.2)))))))
def g_e_Floor (N:Nat) (x:TRat):Option (TInt) :=
 ((g_e_lowest N x).bind fun rlowest =>
 ((g_e_DivMod N rlowest.fN rlowest.fD).bind fun rDivMod =>
 some rDivMod.1))
def g_e_Small (N:Nat) (a:TInt):Option (Int×Bool) :=
 ((g_e_trim N a.fL).bind fun rtrim =>
 ((g_e_word N rtrim).bind fun rword =>
 (cond (!rword.2)
 (some (0,false))
 ((cond (cond a.fG (decide (rword.1≤9223372036854775808)) false)
 (some ((w64 ((IntKind.u64.wrap (0 - rword.1)))),true))
 ((cond (cond (!a.fG) (decide (rword.1≤9223372036854775807)) false)
 (some ((w64 (rword.1)),true))
 (some (0,false)))))))))
def g_w_whole (N:Nat) (x:TRat):Option (Int) :=
 ((g_e_Floor N x).bind fun rFloor =>
 ((g_e_Small N rFloor).bind fun rSmall =>
 some rSmall.1))
def g_e_signOf (N:Nat) (x:TRat):Option (Int) :=
 ((g_e_sign N x.fN).bind fun rsign =>
 ((g_e_below N x).bind fun rbelow =>
 ((g_e_sign N rbelow).bind fun rsign2 =>
 some (w64 (rsign * rsign2)))))
def g_e_CmpRat (N:Nat) (x:TRat) (y:TRat):Option (Int) :=
 ((g_e_SubRat N x y).bind fun rSubRat =>
 ((g_e_signOf N rSubRat).bind fun rsignOf =>
 some rsignOf))
def g_w_draughts_J1 (N:Nat) (p:TPn) (most:Int) (low:Int):Option (Int×Int) :=
 ((g_w_draughts_1 N most p).bind fun rdraughts13 =>
 ((g_w_whole N (⟨rdraughts13.fN,rdraughts13.fD⟩:TRat)).bind fun rwhole2 =>
 some (low,rwhole2)))
def g_w_draughts (N:Nat) (p:TPn) (least:Int) (most:Int):Option (Int×Int) :=
 ((g_w_draughts_1 N least p).bind fun rdraughts1 =>
 ((g_w_whole N (⟨rdraughts1.fN,rdraughts1.fD⟩:TRat)).bind fun rwhole =>
 ((g_w_product N ([rwhole]:List Int)).bind fun rproduct =>
 ((g_w_draughts_1 N least p).bind fun rdraughts12 =>
 ((g_e_CmpRat N (⟨rproduct.fN,rproduct.fD⟩:TRat) (⟨rdraughts12.fN,rdraughts12.fD⟩:TRat)).bind fun rCmpRat =>
 (cond (decide (rCmpRat < 0))
 (g_w_draughts_J1 N p most (w64 (rwhole+1)))
 (g_w_draughts_J1 N p most rwhole)))))))
def g_w_boundsOf (N:Nat) (p:TPn) (l:TLimits):Option (Tw_bounds) :=
 ((g_w_draughts N p l.f_DraughtLeast l.f_DraughtMost).bind fun rdraughts =>
 ((g_w_product N ([l.f_TrimMost,p.fDsity,p.fBr,p.fLn,p.fLn,p.fLn]:List Int)).bind fun rproduct =>
 ((g_w_product N ([12000000000,1000]:List Int)).bind fun rproduct2 =>
 ((g_w_quotient N (⟨rproduct.fN,rproduct.fD⟩:TRat) (⟨rproduct2.fN,rproduct2.fD⟩:TRat)).bind fun rquotient =>
 ((g_w_whole N (⟨rquotient.fN,rquotient.fD⟩:TRat)).bind fun rwhole =>
 ((g_w_product N ([l.f_HeelMost,p.fDsity,p.fLn,p.fBr,p.fBr,p.fBr]:List Int)).bind fun rproduct3 =>
 ((g_w_product N ([12000000000,1000]:List Int)).bind fun rproduct4 =>
 ((g_w_quotient N (⟨rproduct3.fN,rproduct3.fD⟩:TRat) (⟨rproduct4.fN,rproduct4.fD⟩:TRat)).bind fun rquotient2 =>
 ((g_w_whole N (⟨rquotient2.fN,rquotient2.fD⟩:TRat)).bind fun rwhole2 =>
 some (⟨rdraughts.1,rdraughts.2,rwhole,rwhole2,(w64 (8 * l.f_HogMost))⟩:Tw_bounds))))))))))
def g_w_open (N:Nat) (p:TPn) (l:TLimits) (a:TAim):Option (Tw_plan×Int) :=
 ((g_w_CheckPontoon N p).bind fun rCP =>
 (cond (rCP != 0)
 (some ((⟨(⟨0,0,0,([]:List TPm),([]:List TTank)⟩:TPn),(⟨0,0,0,0,0⟩:Tw_bounds),(⟨0,0,0,0,0,0⟩:Tw_state),0,0⟩:Tw_plan),rCP))
 (((g_w_checkLimits N l).bind fun rcheckLimits =>
 (cond (rcheckLimits != 0)
 (some ((⟨(⟨0,0,0,([]:List TPm),([]:List TTank)⟩:TPn),(⟨0,0,0,0,0⟩:Tw_bounds),(⟨0,0,0,0,0,0⟩:Tw_state),0,0⟩:Tw_plan),rcheckLimits))
 (((g_w_checkSteps N p a.f_Start).bind fun rcheckSteps =>
 (cond (rcheckSteps.2 != 0)
 (some ((⟨(⟨0,0,0,([]:List TPm),([]:List TTank)⟩:TPn),(⟨0,0,0,0,0⟩:Tw_bounds),(⟨0,0,0,0,0,0⟩:Tw_state),0,0⟩:Tw_plan),rcheckSteps.2))
 (((g_w_between N a.f_DraughtLeast 0 1000000).bind fun rBt =>
 ((cond (!(!rBt)) (g_w_between N a.f_DraughtMost 0 1000000) (some false)).bind fun rBt2 =>
 (cond (cond (!rBt) true (!rBt2))
 (some ((⟨(⟨0,0,0,([]:List TPm),([]:List TTank)⟩:TPn),(⟨0,0,0,0,0⟩:Tw_bounds),(⟨0,0,0,0,0,0⟩:Tw_state),0,0⟩:Tw_plan),2))
 (((g_w_boundsOf N p l).bind fun rboundsOf =>
 ((g_w_draughts N p a.f_DraughtLeast a.f_DraughtMost).bind fun rdraughts =>
 some ((⟨p,rboundsOf,rcheckSteps.1,rdraughts.1,rdraughts.2⟩:Tw_plan),0))))))))))))))))
def g_w_many_L1 (N:Nat) (p:TPn):Nat→Int→Int→Option (Int)
 | 0,_,_=>none
 | fuel+1,n,x =>
  (cond (decide (x < ((p.fTk.length:Nat):Int)))
  ((if 0≤x∧x < ((p.fTk.length:Nat):Int) then
  g_w_many_L1 N p fuel (w64 (n * (w64 ((p.fTk.getD ((x).toNat) TTank.d).f_Steps+1)))) (w64 (x+1))
  else none))
  (some n))
def g_w_many (N:Nat) (p:TPn):Option (Int) :=
 g_w_many_L1 N p N 1 0
def g_w_bounds_kept_J4 (N:Nat) (out4:Int):Option (Int) :=
 some out4
def g_w_bounds_kept_J3 (N:Nat) (b:Tw_bounds) (p:TPn) (rsumOf:Tw_sums) (out3:Int):Option (Int) :=
 ((g_w_between N (w64 ((w64 (4 * rsumOf.f_arm)) - (w64 (rsumOf.f_mass * p.fLn)))) (w64 (0 - b.f_hog)) b.f_hog).bind fun rBt4 =>
 (cond rBt4
 (g_w_bounds_kept_J4 N (orI .i64 out3 8))
 (g_w_bounds_kept_J4 N out3)))
def g_w_bounds_kept_J2 (N:Nat) (b:Tw_bounds) (p:TPn) (rsumOf:Tw_sums) (out2:Int):Option (Int) :=
 ((g_w_between N rsumOf.f_y (w64 (0 - b.f_y)) b.f_y).bind fun rBt3 =>
 (cond rBt3
 (g_w_bounds_kept_J3 N b p rsumOf (orI .i64 out2 4))
 (g_w_bounds_kept_J3 N b p rsumOf out2)))
def g_w_bounds_kept_J1 (N:Nat) (b:Tw_bounds) (p:TPn) (rsumOf:Tw_sums) (out:Int):Option (Int) :=
 ((g_w_between N rsumOf.f_x (w64 (0 - b.f_x)) b.f_x).bind fun rBt2 =>
 (cond rBt2
 (g_w_bounds_kept_J2 N b p rsumOf (orI .i64 out 2))
 (g_w_bounds_kept_J2 N b p rsumOf out)))
def g_w_bounds_kept (N:Nat) (b:Tw_bounds) (p:TPn) (s:Tw_state):Option (Int) :=
 ((g_w_sumOf N p s).bind fun rsumOf =>
 ((g_w_between N rsumOf.f_mass b.f_low b.f_high).bind fun rBt =>
 (cond rBt
 (g_w_bounds_kept_J1 N b p rsumOf (orI .i64 0 1))
 (g_w_bounds_kept_J1 N b p rsumOf 0))))
def g_w_plan_keeps (N:Nat) (t:Tw_plan) (s:Tw_state):Option (Bool) :=
 ((g_w_bounds_kept N t.f_b t.f_p s).bind fun rkept =>
 some (rkept == 15))
def g_w_plan_done (N:Nat) (t:Tw_plan) (s:Tw_state):Option (Bool) :=
 ((g_w_sumOf N t.f_p s).bind fun rsumOf =>
 ((g_w_between N rsumOf.f_mass t.f_low t.f_high).bind fun rBt =>
 some rBt))
def g_slices_Reverse_api_Move_api_Move_L1 (N:Nat):Nat→(List TMove)→Int→Int→Option ((List TMove))
 | 0,_,_,_=>none
 | fuel+1,C02,i,j =>
  (cond (decide (i < j))
  ((if 0≤j∧j < ((C02.length:Nat):Int) then
  (if 0≤i∧i < ((C02.length:Nat):Int) then
  g_slices_Reverse_api_Move_api_Move_L1 N fuel ((C02.set ((i).toNat) (C02.getD ((j).toNat) TMove.d)).set ((j).toNat) (C02.getD ((i).toNat) TMove.d)) (w64 (i+1)) (w64 (j - 1))
  else none)
  else none))
  (some C02))
def g_slices_Reverse_api_Move_api_Move (N:Nat) (C0:List TMove):Option ((List TMove)) :=
 g_slices_Reverse_api_Move_api_Move_L1 N N C0 0 (w64 (((C0.length:Nat):Int) - 1))
def g_w_plan_way_L1 (N:Nat) (t:Tw_plan) (C0:List (Tw_state×Tw_arrival)):Nat→Tw_state→(List TMove)→Option ((List TMove))
 | 0,_,_=>none
 | fuel+1,s2,out =>
  (cond (!((s2.e0 == t.f_start.e0) && ((s2.e1 == t.f_start.e1) && ((s2.e2 == t.f_start.e2) && ((s2.e3 == t.f_start.e3) && ((s2.e4 == t.f_start.e4) && ((s2.e5 == t.f_start.e5) && true)))))))
  ((if (out.length+1) * 16≤140737488355328 then
  g_w_plan_way_L1 N t C0 fuel (((mGet (fun (za zb:Tw_state)=>((zb.e0 == za.e0) && ((zb.e1 == za.e1) && ((zb.e2 == za.e2) && ((zb.e3 == za.e3) && ((zb.e4 == za.e4) && ((zb.e5 == za.e5) && true))))))) C0 s2).getD Tw_arrival.d).f_from) (out ++ ([(((mGet (fun (za zb:Tw_state)=>((zb.e0 == za.e0) && ((zb.e1 == za.e1) && ((zb.e2 == za.e2) && ((zb.e3 == za.e3) && ((zb.e4 == za.e4) && ((zb.e5 == za.e5) && true))))))) C0 s2).getD Tw_arrival.d).f_move)]:List TMove))
  else none))
  (((g_slices_Reverse_api_Move_api_Move N out).bind fun rMove =>
  (if rMove.length=out.length then
  some rMove
  else none))))
def g_w_plan_way (N:Nat) (t:Tw_plan) (s:Tw_state) (C0:List (Tw_state×Tw_arrival)):Option ((List TMove)) :=
 g_w_plan_way_L1 N t C0 N s ([]:List TMove)
def g_w_plan_moved_J1 (N:Nat) (t:Tw_plan) (m:TMove) (s2:Tw_state):Option (Tw_state×Bool) :=
 (if 0≤m.f_Tank∧m.f_Tank < ((6:Nat):Int) then
 (if 0≤m.f_Tank∧m.f_Tank < ((t.f_p.fTk.length:Nat):Int) then
 ((g_w_between N (pickI [s2.e0,s2.e1,s2.e2,s2.e3,s2.e4,s2.e5] ((m.f_Tank).toNat)) 0 ((t.f_p.fTk.getD ((m.f_Tank).toNat) TTank.d).f_Steps)).bind fun rBt2 =>
 some (s2,rBt2))
 else none)
 else none)
def g_w_plan_moved (N:Nat) (t:Tw_plan) (s:Tw_state) (m:TMove):Option (Tw_state×Bool) :=
 ((g_w_between N m.f_Tank 0 (w64 (((t.f_p.fTk.length:Nat):Int) - 1))).bind fun rBt =>
 (cond (!rBt)
 (some (s,false))
 ((cond m.f_Up
 ((if 0≤m.f_Tank∧m.f_Tank < ((6:Nat):Int) then
 g_w_plan_moved_J1 N t m (⟨(setI ((m.f_Tank).toNat) 0 (w64 ((pickI [s.e0,s.e1,s.e2,s.e3,s.e4,s.e5] ((m.f_Tank).toNat))+1)) s.e0),(setI ((m.f_Tank).toNat) 1 (w64 ((pickI [s.e0,s.e1,s.e2,s.e3,s.e4,s.e5] ((m.f_Tank).toNat))+1)) s.e1),(setI ((m.f_Tank).toNat) 2 (w64 ((pickI [s.e0,s.e1,s.e2,s.e3,s.e4,s.e5] ((m.f_Tank).toNat))+1)) s.e2),(setI ((m.f_Tank).toNat) 3 (w64 ((pickI [s.e0,s.e1,s.e2,s.e3,s.e4,s.e5] ((m.f_Tank).toNat))+1)) s.e3),(setI ((m.f_Tank).toNat) 4 (w64 ((pickI [s.e0,s.e1,s.e2,s.e3,s.e4,s.e5] ((m.f_Tank).toNat))+1)) s.e4),(setI ((m.f_Tank).toNat) 5 (w64 ((pickI [s.e0,s.e1,s.e2,s.e3,s.e4,s.e5] ((m.f_Tank).toNat))+1)) s.e5)⟩:Tw_state)
 else none))
 ((if 0≤m.f_Tank∧m.f_Tank < ((6:Nat):Int) then
 g_w_plan_moved_J1 N t m (⟨(setI ((m.f_Tank).toNat) 0 (w64 ((pickI [s.e0,s.e1,s.e2,s.e3,s.e4,s.e5] ((m.f_Tank).toNat)) - 1)) s.e0),(setI ((m.f_Tank).toNat) 1 (w64 ((pickI [s.e0,s.e1,s.e2,s.e3,s.e4,s.e5] ((m.f_Tank).toNat)) - 1)) s.e1),(setI ((m.f_Tank).toNat) 2 (w64 ((pickI [s.e0,s.e1,s.e2,s.e3,s.e4,s.e5] ((m.f_Tank).toNat)) - 1)) s.e2),(setI ((m.f_Tank).toNat) 3 (w64 ((pickI [s.e0,s.e1,s.e2,s.e3,s.e4,s.e5] ((m.f_Tank).toNat)) - 1)) s.e3),(setI ((m.f_Tank).toNat) 4 (w64 ((pickI [s.e0,s.e1,s.e2,s.e3,s.e4,s.e5] ((m.f_Tank).toNat)) - 1)) s.e4),(setI ((m.f_Tank).toNat) 5 (w64 ((pickI [s.e0,s.e1,s.e2,s.e3,s.e4,s.e5] ((m.f_Tank).toNat)) - 1)) s.e5)⟩:Tw_state)
 else none))))))
def g_w_Ballast_J4 (N:Nat) (p:TPn) (ropen:Tw_plan×Int) (todo:List Tw_state) (todoo:Nat) (x:Int) (x2:Int) (K_g_w_Ballast_L3:(List (Tw_state×Tw_arrival))→(List Tw_state)→Nat→Nat→Int→Option ((List TMove)×Int)) (K_g_w_Ballast_L2:(List (Tw_state×Tw_arrival))→(List Tw_state)→Nat→Nat→Int→Option ((List TMove)×Int)) (K_g_w_Ballast_L1:(List (Tw_state×Tw_arrival))→(List Tw_state)→Nat→Nat→Option ((List TMove)×Int)) (reached4:List (Tw_state×Tw_arrival)) (todo4:List Tw_state) (todoo4:Nat) (todon4:Nat):Option ((List TMove)×Int) :=
 K_g_w_Ballast_L3 reached4 todo4 todoo4 todon4 (w64 (x2+1))
noncomputable def g_w_Ballast_L3 (N:Nat) (p:TPn) (ropen:Tw_plan×Int) (todo:List Tw_state) (todoo:Nat) (x:Int) (K_g_w_Ballast_L2:(List (Tw_state×Tw_arrival))→(List Tw_state)→Nat→Nat→Int→Option ((List TMove)×Int)) (K_g_w_Ballast_L1:(List (Tw_state×Tw_arrival))→(List Tw_state)→Nat→Nat→Option ((List TMove)×Int)):Nat→(List (Tw_state×Tw_arrival))→(List Tw_state)→Nat→Nat→Int→Option ((List TMove)×Int)
 | 0,_,_,_,_,_=>none
 | fuel+1,reached3,todo3,todoo3,todon3,x2 =>
  (cond (decide (x2 < ((2:Nat):Int)))
  ((if 0≤x2∧x2 < ((([true,false]:List Bool).length:Nat):Int) then
  ((g_w_plan_moved N ropen.1 (todo.getD (addz todoo 0) Tw_state.d) (⟨x,(([true,false]:List Bool).getD ((x2).toNat) false)⟩:TMove)).bind fun rmoved =>
  ((cond (cond rmoved.2 (!((mGet (fun (za zb:Tw_state)=>((zb.e0 == za.e0) && ((zb.e1 == za.e1) && ((zb.e2 == za.e2) && ((zb.e3 == za.e3) && ((zb.e4 == za.e4) && ((zb.e5 == za.e5) && true))))))) reached3 rmoved.1).isSome)) false) (g_w_plan_keeps N ropen.1 rmoved.1) (some false)).bind fun rkeeps2 =>
  (cond (cond (cond rmoved.2 (!((mGet (fun (za zb:Tw_state)=>((zb.e0 == za.e0) && ((zb.e1 == za.e1) && ((zb.e2 == za.e2) && ((zb.e3 == za.e3) && ((zb.e4 == za.e4) && ((zb.e5 == za.e5) && true))))))) reached3 rmoved.1).isSome)) false) rkeeps2 false)
  ((if addz todoo3 todon3=todo3.length then
  both (g_w_Ballast_J4 N p ropen todo todoo x x2 (g_w_Ballast_L3 N p ropen todo todoo x K_g_w_Ballast_L2 K_g_w_Ballast_L1 fuel) K_g_w_Ballast_L2 K_g_w_Ballast_L1 (mPut (fun (za zb:Tw_state)=>((zb.e0 == za.e0) && ((zb.e1 == za.e1) && ((zb.e2 == za.e2) && ((zb.e3 == za.e3) && ((zb.e4 == za.e4) && ((zb.e5 == za.e5) && true))))))) reached3 rmoved.1 (⟨(todo.getD (addz todoo 0) Tw_state.d),(⟨x,(([true,false]:List Bool).getD ((x2).toNat) false)⟩:TMove)⟩:Tw_arrival)) (todo3 ++ ([rmoved.1]:List Tw_state)) todoo3 (todon3+1))
  ((if (todon3+1) * 48≤140737488355328 then
  g_w_Ballast_J4 N p ropen todo todoo x x2 (g_w_Ballast_L3 N p ropen todo todoo x K_g_w_Ballast_L2 K_g_w_Ballast_L1 fuel) K_g_w_Ballast_L2 K_g_w_Ballast_L1 (mPut (fun (za zb:Tw_state)=>((zb.e0 == za.e0) && ((zb.e1 == za.e1) && ((zb.e2 == za.e2) && ((zb.e3 == za.e3) && ((zb.e4 == za.e4) && ((zb.e5 == za.e5) && true))))))) reached3 rmoved.1 (⟨(todo.getD (addz todoo 0) Tw_state.d),(⟨x,(([true,false]:List Bool).getD ((x2).toNat) false)⟩:TMove)⟩:Tw_arrival)) ((todo3.drop todoo3) ++ ([rmoved.1]:List Tw_state)) 0 (((todo3.drop todoo3) ++ ([rmoved.1]:List Tw_state)).length)
  else none))
  else none))
  (g_w_Ballast_J4 N p ropen todo todoo x x2 (g_w_Ballast_L3 N p ropen todo todoo x K_g_w_Ballast_L2 K_g_w_Ballast_L1 fuel) K_g_w_Ballast_L2 K_g_w_Ballast_L1 reached3 todo3 todoo3 todon3))))
  else none))
  (K_g_w_Ballast_L2 reached3 todo3 todoo3 todon3 (w64 (x+1))))
noncomputable def g_w_Ballast_L2 (N:Nat) (p:TPn) (ropen:Tw_plan×Int) (todo:List Tw_state) (todoo:Nat) (K_g_w_Ballast_L1:(List (Tw_state×Tw_arrival))→(List Tw_state)→Nat→Nat→Option ((List TMove)×Int)):Nat→(List (Tw_state×Tw_arrival))→(List Tw_state)→Nat→Nat→Int→Option ((List TMove)×Int)
 | 0,_,_,_,_,_=>none
 | fuel+1,reached2,todo2,todoo2,todon2,x =>
  (cond (decide (x < ((p.fTk.length:Nat):Int)))
  (g_w_Ballast_L3 N p ropen todo todoo x (g_w_Ballast_L2 N p ropen todo todoo K_g_w_Ballast_L1 fuel) K_g_w_Ballast_L1 N reached2 todo2 todoo2 todon2 0)
  ((if 1≤todon2∧todon2≤todon2 then
  K_g_w_Ballast_L1 reached2 todo2 (addz todoo2 1) (todon2 - 1)
  else none)))
noncomputable def g_w_Ballast_L1 (N:Nat) (p:TPn) (ropen:Tw_plan×Int):Nat→(List (Tw_state×Tw_arrival))→(List Tw_state)→Nat→Nat→Option ((List TMove)×Int)
 | 0,_,_,_,_=>none
 | fuel+1,reached,todo,todoo,todon =>
  (cond (decide (((todon:Nat):Int) > 0))
  ((if 0≤(0:Int)∧0 < ((todon:Nat):Int) then
  (if todoo+todon≤todo.length then
  ((g_w_plan_done N ropen.1 (todo.getD (addz todoo 0) Tw_state.d)).bind fun rdone =>
  (cond rdone
  (((g_w_plan_way N ropen.1 (todo.getD (addz todoo 0) Tw_state.d) reached).bind fun rway =>
  some (rway,0)))
  (g_w_Ballast_L2 N p ropen todo todoo (g_w_Ballast_L1 N p ropen fuel) N reached todo todoo todon 0)))
  else none)
  else none))
  (some (([]:List TMove),29)))
noncomputable def g_w_Ballast (N:Nat) (p:TPn) (l:TLimits) (a:TAim):Option ((List TMove)×Int) :=
 ((g_w_open N p l a).bind fun ropen =>
 (cond (ropen.2 != 0)
 (some (([]:List TMove),ropen.2))
 (((g_w_many N p).bind fun rmany =>
 (cond (decide (rmany > 20000))
 (some (([]:List TMove),8))
 (((g_w_plan_keeps N ropen.1 ropen.1.f_start).bind fun rkeeps =>
 (cond (!rkeeps)
 (some (([]:List TMove),16))
 (g_w_Ballast_L1 N p ropen N (mPut (fun (za zb:Tw_state)=>((zb.e0 == za.e0) && ((zb.e1 == za.e1) && ((zb.e2 == za.e2) && ((zb.e3 == za.e3) && ((zb.e4 == za.e4) && ((zb.e5 == za.e5) && true))))))) ([]:List (Tw_state×Tw_arrival)) ropen.1.f_start (⟨(⟨0,0,0,0,0,0⟩:Tw_state),(⟨0,false⟩:TMove)⟩:Tw_arrival)) ([ropen.1.f_start]:List Tw_state) 0 (([ropen.1.f_start]:List Tw_state).length))))))))))
def g_r05_CheckLimits (N:Nat) (l:TLimits):Option (Int) :=
 ((g_r05_inside N l.f_DraughtLeast 0 1000000).bind fun rIn =>
 ((cond (!(!rIn)) (g_r05_inside N l.f_DraughtMost 0 1000000) (some false)).bind fun rIn2 =>
 ((cond (!(cond (!rIn) true (!rIn2))) (g_r05_inside N l.f_TrimMost 0 1000) (some false)).bind fun rIn3 =>
 ((cond (!(cond (cond (!rIn) true (!rIn2)) true (!rIn3))) (g_r05_inside N l.f_HeelMost 0 1000) (some false)).bind fun rIn4 =>
 ((cond (!(cond (cond (cond (!rIn) true (!rIn2)) true (!rIn3)) true (!rIn4))) (g_r05_inside N l.f_HogMost 0 1000000000000000000) (some false)).bind fun rIn5 =>
 (cond (cond (cond (cond (cond (!rIn) true (!rIn2)) true (!rIn3)) true (!rIn4)) true (!rIn5))
 (some 2)
 (some 0)))))))
def g_r05_CheckSteps_L1 (N:Nat) (p:TPn) (steps:List Int):Nat→Int→Option (Int)
 | 0,_=>none
 | fuel+1,i =>
  (cond (decide (i < ((steps.length:Nat):Int)))
  ((if 0≤i∧i < ((steps.length:Nat):Int) then
  (if 0≤i∧i < ((p.fTk.length:Nat):Int) then
  ((g_r05_inside N (steps.getD ((i).toNat) 0) 0 ((p.fTk.getD ((i).toNat) TTank.d).f_Steps)).bind fun rIn =>
  (cond (!rIn)
  (some 2)
  (g_r05_CheckSteps_L1 N p steps fuel (w64 (i+1)))))
  else none)
  else none))
  (some 0))
def g_r05_CheckSteps (N:Nat) (p:TPn) (steps:List Int):Option (Int) :=
 (cond (((steps.length:Nat):Int) != ((p.fTk.length:Nat):Int))
 (some 11)
 (g_r05_CheckSteps_L1 N p steps N 0))
def g_r05_CheckAim (N:Nat) (p:TPn) (a:TAim):Option (Int) :=
 ((g_r05_CheckSteps N p a.f_Start).bind fun rCheckSteps =>
 (cond (rCheckSteps != 0)
 (some rCheckSteps)
 (((g_r05_inside N a.f_DraughtLeast 0 1000000).bind fun rIn =>
 ((cond (!(!rIn)) (g_r05_inside N a.f_DraughtMost 0 1000000) (some false)).bind fun rIn2 =>
 (cond (cond (!rIn) true (!rIn2))
 (some 2)
 (some 0)))))))
def g_r05_CheckBegin (N:Nat) (p:TPn) (l:TLimits) (a:TAim):Option (Int) :=
 ((g_r05_CheckPontoon N p).bind fun rCP =>
 (cond (rCP != 0)
 (some rCP)
 (((g_r05_CheckLimits N l).bind fun rCheckLimits =>
 (cond (rCheckLimits != 0)
 (some rCheckLimits)
 (((g_r05_CheckAim N p a).bind fun rCheckAim =>
 some rCheckAim)))))))
def g_r01_made_L1 (N:Nat) (neg:Bool) (a:List Int):Nat→(List Int)→Int→Option (TInt)
 | 0,_,_=>none
 | fuel+1,x,i =>
  (cond (decide (i < ((a.length:Nat):Int)))
  ((if 0≤i∧i < ((a.length:Nat):Int) then
  (if (x.length+1) * 2≤140737488355328 then
  g_r01_made_L1 N neg a fuel (x ++ ([(IntKind.u16.wrap ((a.getD ((i).toNat) 0)))]:List Int)) (w64 (i+1))
  else none)
  else none))
  (some (⟨(cond neg (decide (((a.length:Nat):Int) > 0)) false),x⟩:TInt)))
def g_r01_made (N:Nat) (neg:Bool) (a:List Int):Option (TInt) :=
 g_r01_made_L1 N neg a N ([]:List Int) 0
def g_r01_Of_L1 (N:Nat) (n:Int):Nat→(List Int)→Int→Option (TInt)
 | 0,_,_=>none
 | fuel+1,a,u =>
  (cond (decide (u > 0))
  ((if (a.length+1) * 8≤140737488355328 then
  g_r01_Of_L1 N n fuel (a ++ ([(w64 ((u.tmod 65536)))]:List Int)) (IntKind.u64.wrap (u.tdiv 65536))
  else none))
  (((g_r01_made N (decide (n < 0)) a).bind fun rmade =>
  some rmade)))
def g_r01_Of (N:Nat) (n:Int):Option (TInt) :=
 (cond (decide (n < 0))
 (g_r01_Of_L1 N n N ([]:List Int) (IntKind.u64.wrap (0 - (IntKind.u64.wrap (n)))))
 (g_r01_Of_L1 N n N ([]:List Int) (IntKind.u64.wrap (n))))
def g_r01_Q (N:Nat) (n:Int):Option (TRat) :=
 ((g_r01_Of N n).bind fun rOf =>
 ((g_r01_Of N 1).bind fun rOf2 =>
 some (⟨rOf,rOf2⟩:TRat)))
def g_r05_loads_L1 (N:Nat) (p:TPn) (steps:List Int):Nat→(List TPm)→Int→Option ((List TPm))
 | 0,_,_=>none
 | fuel+1,out,i =>
  (cond (decide (i < ((steps.length:Nat):Int)))
  ((if 0≤i∧i < ((p.fTk.length:Nat):Int) then
  (if 0≤i∧i < ((steps.length:Nat):Int) then
  (if (out.length+1) * 24≤140737488355328 then
  g_r05_loads_L1 N p steps fuel (out ++ ([(⟨(p.fTk.getD ((i).toNat) TTank.d).f_X,(p.fTk.getD ((i).toNat) TTank.d).f_Y,(w64 ((steps.getD ((i).toNat) 0) * (p.fTk.getD ((i).toNat) TTank.d).fMa))⟩:TPm)]:List TPm)) (w64 (i+1))
  else none)
  else none)
  else none))
  (some out))
def g_r05_loads (N:Nat) (p:TPn) (steps:List Int):Option ((List TPm)) :=
 (if (0+p.fMs.length) * 24≤140737488355328 then
 g_r05_loads_L1 N p steps N (([]:List TPm) ++ p.fMs) 0
 else none)
def g_r01_trim_L1 (N:Nat) (a:List Int):Nat→Int→Option ((List Int))
 | 0,_=>none
 | fuel+1,n =>
  (if ((decide (n > 0))=true→0≤(w64 (n - 1))∧(w64 (n - 1)) < ((a.length:Nat):Int)) then
  (cond (cond (decide (n > 0)) ((a.getD ((w64 (n - 1)).toNat) 0) == 0) false)
  (g_r01_trim_L1 N a fuel (w64 (n - 1)))
  ((if 0≤(n).toNat∧(n).toNat≤a.length then
  (if 0≤n then
  (if (0+((n).toNat - 0)) * 8≤140737488355328 then
  some (([]:List Int) ++ ((a.take ((n).toNat)).drop 0))
  else none)
  else none)
  else none)))
  else none)
def g_r01_trim (N:Nat) (a:List Int):Option ((List Int)) :=
 g_r01_trim_L1 N a N ((a.length:Nat):Int)
def g_r01_read_L1 (N:Nat) (l:List Int):Nat→(List Int)→Int→Option ((List Int))
 | 0,_,_=>none
 | fuel+1,a,i =>
  (cond (decide (i < ((l.length:Nat):Int)))
  ((if 0≤i∧i < ((l.length:Nat):Int) then
  (if (a.length+1) * 8≤140737488355328 then
  g_r01_read_L1 N l fuel (a ++ ([(w64 ((l.getD ((i).toNat) 0)))]:List Int)) (w64 (i+1))
  else none)
  else none))
  (((g_r01_trim N a).bind fun rtrim =>
  some rtrim)))
def g_r01_read (N:Nat) (l:List Int):Option ((List Int)) :=
 g_r01_read_L1 N l N ([]:List Int) 0
def g_r01_digit (N:Nat) (a:List Int) (i:Int):Option (Int) :=
 (cond (decide (i < ((a.length:Nat):Int)))
 ((if 0≤i∧i < ((a.length:Nat):Int) then
 some (a.getD ((i).toNat) 0)
 else none))
 (some 0))
def g_r01_times_L2 (N:Nat) (a:List Int) (b:List Int) (i:Int) (K_g_r01_times_L1:(List Int)→Int→Option ((List Int))):Nat→(List Int)→Int→Int→Option ((List Int))
 | 0,_,_,_=>none
 | fuel+1,out2,carry,k =>
  (cond (cond (decide (k < ((b.length:Nat):Int))) true (decide (carry > 0)))
  ((if 0≤(w64 (i+k))∧(w64 (i+k)) < ((out2.length:Nat):Int) then
  (if 0≤i∧i < ((a.length:Nat):Int) then
  ((g_r01_digit N b k).bind fun rdigit =>
  g_r01_times_L2 N a b i K_g_r01_times_L1 fuel (out2.set ((w64 (i+k)).toNat) ((w64 ((w64 ((out2.getD ((w64 (i+k)).toNat) 0)+(w64 ((a.getD ((i).toNat) 0) * rdigit))))+carry)).tmod 65536)) (w64 ((w64 ((w64 ((out2.getD ((w64 (i+k)).toNat) 0)+(w64 ((a.getD ((i).toNat) 0) * rdigit))))+carry)).tdiv 65536)) (w64 (k+1)))
  else none)
  else none))
  (K_g_r01_times_L1 out2 (w64 (i+1))))
def g_r01_times_L1 (N:Nat) (a:List Int) (b:List Int):Nat→(List Int)→Int→Option ((List Int))
 | 0,_,_=>none
 | fuel+1,out,i =>
  (cond (decide (i < ((a.length:Nat):Int)))
  (g_r01_times_L2 N a b i (g_r01_times_L1 N a b fuel) N out 0 0)
  (((g_r01_trim N out).bind fun rtrim =>
  some rtrim)))
def g_r01_times (N:Nat) (a:List Int) (b:List Int):Option ((List Int)) :=
 (if 0≤(w64 ((w64 (((a.length:Nat):Int)+((b.length:Nat):Int)))+1))∧(8:Int) * (w64 ((w64 (((a.length:Nat):Int)+((b.length:Nat):Int)))+1))≤281474976710656∧(w64 ((w64 (((a.length:Nat):Int)+((b.length:Nat):Int)))+1))≤9223372036854775807 then
 g_r01_times_L1 N a b N (List.replicate ((w64 ((w64 (((a.length:Nat):Int)+((b.length:Nat):Int)))+1)).toNat) 0:List Int) 0
 else none)
def g_r01_compare_L1 (N:Nat) (a:List Int) (b:List Int):Nat→Int→Option (Int)
 | 0,_=>none
 | fuel+1,i =>
  (cond (decide (i≥0))
  ((if 0≤i∧i < ((a.length:Nat):Int) then
  (if 0≤i∧i < ((b.length:Nat):Int) then
  (cond ((a.getD ((i).toNat) 0) != (b.getD ((i).toNat) 0))
  (some (w64 ((a.getD ((i).toNat) 0) - (b.getD ((i).toNat) 0))))
  (g_r01_compare_L1 N a b fuel (w64 (i - 1))))
  else none)
  else none))
  (some 0))
def g_r01_compare (N:Nat) (a:List Int) (b:List Int):Option (Int) :=
 (cond (((a.length:Nat):Int) != ((b.length:Nat):Int))
 (some (w64 (((a.length:Nat):Int) - ((b.length:Nat):Int))))
 (g_r01_compare_L1 N a b N (w64 (((a.length:Nat):Int) - 1))))
def g_r01_minus_J2 (N:Nat) (a:List Int) (b:List Int) (out:List Int) (i:Int) (K_g_r01_minus_L1:(List Int)→Int→Int→Option ((List Int))) (borrow2:Int) (s:Int):Option ((List Int)) :=
 (if (out.length+1) * 8≤140737488355328 then
 K_g_r01_minus_L1 (out ++ ([s]:List Int)) borrow2 (w64 (i+1))
 else none)
def g_r01_minus_L1 (N:Nat) (a:List Int) (b:List Int):Nat→(List Int)→Int→Int→Option ((List Int))
 | 0,_,_,_=>none
 | fuel+1,out,borrow,i =>
  (cond (decide (i < ((a.length:Nat):Int)))
  ((if 0≤i∧i < ((a.length:Nat):Int) then
  ((g_r01_digit N b i).bind fun rdigit =>
  (cond (decide ((w64 ((w64 ((a.getD ((i).toNat) 0) - rdigit)) - borrow)) < 0))
  (g_r01_minus_J2 N a b out i (g_r01_minus_L1 N a b fuel) 1 (w64 ((w64 ((w64 ((a.getD ((i).toNat) 0) - rdigit)) - borrow))+65536)))
  (g_r01_minus_J2 N a b out i (g_r01_minus_L1 N a b fuel) 0 (w64 ((w64 ((a.getD ((i).toNat) 0) - rdigit)) - borrow)))))
  else none))
  (((g_r01_trim N out).bind fun rtrim =>
  some rtrim)))
def g_r01_minus (N:Nat) (a:List Int) (b:List Int):Option ((List Int)) :=
 g_r01_minus_L1 N a b N ([]:List Int) 0 0
def g_r01_over_J3 (N:Nat) (a:List Int) (b:List Int) (q:List Int) (i:Int) (lo:Int) (K_g_r01_over_L1:(List Int)→(List Int)→Int→Option ((List Int)×(List Int))) (rest2:List Int):Option ((List Int)×(List Int)) :=
 K_g_r01_over_L1 rest2 (q.set ((i).toNat) lo) (w64 (i - 1))
def g_r01_over_L2 (N:Nat) (a:List Int) (b:List Int) (q:List Int) (i:Int) (rtrim:(List Int)) (K_g_r01_over_L1:(List Int)→(List Int)→Int→Option ((List Int)×(List Int))):Nat→Int→Int→Option ((List Int)×(List Int))
 | 0,_,_=>none
 | fuel+1,lo,hi =>
  (cond (decide (lo < hi))
  (((g_r01_times N b ([(w64 ((w64 ((w64 (lo+hi))+1)).tdiv 2))]:List Int)).bind fun rtimes =>
  ((g_r01_compare N rtimes rtrim).bind fun rcompare =>
  (cond (decide (rcompare≤0))
  (g_r01_over_L2 N a b q i rtrim K_g_r01_over_L1 fuel (w64 ((w64 ((w64 (lo+hi))+1)).tdiv 2)) hi)
  (g_r01_over_L2 N a b q i rtrim K_g_r01_over_L1 fuel lo (w64 ((w64 ((w64 ((w64 (lo+hi))+1)).tdiv 2)) - 1)))))))
  ((if 0≤i∧i < ((q.length:Nat):Int) then
  (cond (decide (lo > 0))
  (((g_r01_times N b ([lo]:List Int)).bind fun rtimes2 =>
  ((g_r01_minus N rtrim rtimes2).bind fun rminus =>
  g_r01_over_J3 N a b q i lo K_g_r01_over_L1 rminus)))
  (g_r01_over_J3 N a b q i lo K_g_r01_over_L1 rtrim))
  else none)))
def g_r01_over_L1 (N:Nat) (a:List Int) (b:List Int):Nat→(List Int)→(List Int)→Int→Option ((List Int)×(List Int))
 | 0,_,_,_=>none
 | fuel+1,rest,q,i =>
  (cond (decide (i≥0))
  ((if 0≤i∧i < ((a.length:Nat):Int) then
  (if (1+rest.length) * 8≤140737488355328 then
  ((g_r01_trim N (([(a.getD ((i).toNat) 0)]:List Int) ++ rest)).bind fun rtrim =>
  g_r01_over_L2 N a b q i rtrim (g_r01_over_L1 N a b fuel) N 0 65535)
  else none)
  else none))
  (((g_r01_trim N q).bind fun rtrim2 =>
  some (rtrim2,rest))))
def g_r01_over (N:Nat) (a:List Int) (b:List Int):Option ((List Int)×(List Int)) :=
 (if 0≤((a.length:Nat):Int)∧(8:Int) * ((a.length:Nat):Int)≤281474976710656∧((a.length:Nat):Int)≤9223372036854775807 then
 g_r01_over_L1 N a b N ([]:List Int) (List.replicate a.length 0:List Int) (w64 (((a.length:Nat):Int) - 1))
 else none)
def g_r01_gcd_L1 (N:Nat):Nat→(List Int)→(List Int)→Option ((List Int))
 | 0,_,_=>none
 | fuel+1,a2,b2 =>
  (cond (decide (((b2.length:Nat):Int) > 0))
  (((g_r01_over N a2 b2).bind fun rover =>
  g_r01_gcd_L1 N fuel b2 rover.2))
  (some a2))
def g_r01_gcd (N:Nat) (a:List Int) (b:List Int):Option ((List Int)) :=
 g_r01_gcd_L1 N N a b
def g_r01_Over (N:Nat) (a:TInt) (b:TInt):Option (TRat) :=
 ((g_r01_read N a.fL).bind fun rread =>
 ((g_r01_read N b.fL).bind fun rread2 =>
 (cond (((rread2.length:Nat):Int) == 0)
 (((g_r01_made N a.fG rread).bind fun rmade =>
 ((g_r01_Of N 1).bind fun rOf =>
 some (⟨rmade,rOf⟩:TRat))))
 (((g_r01_gcd N rread rread2).bind fun rgcd =>
 ((g_r01_over N rread rgcd).bind fun rover =>
 ((g_r01_over N rread2 rgcd).bind fun rover2 =>
 ((g_r01_made N (!(a.fG == b.fG)) rover.1).bind fun rmade2 =>
 ((g_r01_made N false rover2.1).bind fun rmade3 =>
 some (⟨rmade2,rmade3⟩:TRat))))))))))
def g_r01_NormRat (N:Nat) (x:TRat):Option (TRat) :=
 ((g_r01_Over N x.fN x.fD).bind fun rOver =>
 some rOver)
def g_r01_Mul (N:Nat) (a:TInt) (b:TInt):Option (TInt) :=
 ((g_r01_read N a.fL).bind fun rread =>
 ((g_r01_read N b.fL).bind fun rread2 =>
 ((g_r01_times N rread rread2).bind fun rtimes =>
 ((g_r01_made N (!(a.fG == b.fG)) rtimes).bind fun rmade =>
 some rmade))))
def g_r01_plus_L1 (N:Nat) (a:List Int) (b:List Int):Nat→(List Int)→Int→Int→Option ((List Int))
 | 0,_,_,_=>none
 | fuel+1,out,carry,i =>
  (cond (cond (cond (decide (i < ((a.length:Nat):Int))) true (decide (i < ((b.length:Nat):Int)))) true (decide (carry > 0)))
  (((g_r01_digit N a i).bind fun rdigit =>
  ((g_r01_digit N b i).bind fun rdigit2 =>
  (if (out.length+1) * 8≤140737488355328 then
  g_r01_plus_L1 N a b fuel (out ++ ([((w64 ((w64 (rdigit+rdigit2))+carry)).tmod 65536)]:List Int)) (w64 ((w64 ((w64 (rdigit+rdigit2))+carry)).tdiv 65536)) (w64 (i+1))
  else none))))
  (((g_r01_trim N out).bind fun rtrim =>
  some rtrim)))
def g_r01_plus (N:Nat) (a:List Int) (b:List Int):Option ((List Int)) :=
 g_r01_plus_L1 N a b N ([]:List Int) 0 0
def g_r01_Add (N:Nat) (a:TInt) (b:TInt):Option (TInt) :=
 ((g_r01_read N a.fL).bind fun rread =>
 ((g_r01_read N b.fL).bind fun rread2 =>
 (cond (a.fG == b.fG)
 (((g_r01_plus N rread rread2).bind fun rplus =>
 ((g_r01_made N a.fG rplus).bind fun rmade =>
 some rmade)))
 (((g_r01_compare N rread rread2).bind fun rcompare =>
 (cond (decide (rcompare≥0))
 (((g_r01_minus N rread rread2).bind fun rminus =>
 ((g_r01_made N a.fG rminus).bind fun rmade2 =>
 some rmade2)))
 (((g_r01_minus N rread2 rread).bind fun rminus2 =>
 ((g_r01_made N b.fG rminus2).bind fun rmade3 =>
 some rmade3)))))))))
def g_r01_AddRat (N:Nat) (x:TRat) (y:TRat):Option (TRat) :=
 ((g_r01_NormRat N x).bind fun rNormRat =>
 ((g_r01_NormRat N y).bind fun rNormRat2 =>
 ((g_r01_Mul N rNormRat.fN rNormRat2.fD).bind fun rMul =>
 ((g_r01_Mul N rNormRat2.fN rNormRat.fD).bind fun rMul2 =>
 ((g_r01_Add N rMul rMul2).bind fun rAdd =>
 ((g_r01_Mul N rNormRat.fD rNormRat2.fD).bind fun rMul3 =>
 ((g_r01_Over N rAdd rMul3).bind fun rOver =>
 some rOver)))))))
def g_r01_MulRat (N:Nat) (x:TRat) (y:TRat):Option (TRat) :=
 ((g_r01_NormRat N x).bind fun rNormRat =>
 ((g_r01_NormRat N y).bind fun rNormRat2 =>
 ((g_r01_Mul N rNormRat.fN rNormRat2.fN).bind fun rMul =>
 ((g_r01_Mul N rNormRat.fD rNormRat2.fD).bind fun rMul2 =>
 ((g_r01_Over N rMul rMul2).bind fun rOver =>
 some rOver)))))
def g_r05_product_L1 (N:Nat) (l:List Int):Nat→TRat→Int→Option (TRat)
 | 0,_,_=>none
 | fuel+1,out,i =>
  (cond (decide (i < ((l.length:Nat):Int)))
  ((if 0≤i∧i < ((l.length:Nat):Int) then
  ((g_r01_Q N (l.getD ((i).toNat) 0)).bind fun rQ2 =>
  ((g_r01_MulRat N out rQ2).bind fun rMulRat =>
  g_r05_product_L1 N l fuel rMulRat (w64 (i+1))))
  else none))
  (some out))
def g_r05_product (N:Nat) (l:List Int):Option (TRat) :=
 ((g_r01_Q N 1).bind fun rQ =>
 g_r05_product_L1 N l N rQ 0)
def g_r05_size (N:Nat) (n:Int):Option (Int) :=
 (cond (decide (n < 0))
 (some (w64 (0 - n)))
 (some n))
def g_r01_QuoRat (N:Nat) (x:TRat) (y:TRat):Option (TRat) :=
 ((g_r01_NormRat N x).bind fun rNormRat =>
 ((g_r01_NormRat N y).bind fun rNormRat2 =>
 ((g_r01_Mul N rNormRat.fN rNormRat2.fD).bind fun rMul =>
 ((g_r01_Mul N rNormRat.fD rNormRat2.fN).bind fun rMul2 =>
 ((g_r01_Over N rMul rMul2).bind fun rOver =>
 some rOver)))))
def g_r01_Neg (N:Nat) (a:TInt):Option (TInt) :=
 ((g_r01_read N a.fL).bind fun rread =>
 ((g_r01_made N (!a.fG) rread).bind fun rmade =>
 some rmade))
def g_r01_NegRat (N:Nat) (x:TRat):Option (TRat) :=
 ((g_r01_NormRat N x).bind fun rNormRat =>
 ((g_r01_Neg N rNormRat.fN).bind fun rNeg =>
 some (⟨rNeg,rNormRat.fD⟩:TRat)))
def g_r01_SubRat (N:Nat) (x:TRat) (y:TRat):Option (TRat) :=
 ((g_r01_NegRat N y).bind fun rNegRat =>
 ((g_r01_AddRat N x rNegRat).bind fun rAddRat =>
 some rAddRat))
def g_r05_Float_L1 (N:Nat) (p:TPn) (rloads:(List TPm)):Nat→TRat→TRat→TRat→TRat→Int→Option (TPose)
 | 0,_,_,_,_,_=>none
 | fuel+1,mass,trim,heel,ends,i =>
  (cond (decide (i < ((rloads.length:Nat):Int)))
  ((if 0≤i∧i < ((rloads.length:Nat):Int) then
  ((g_r01_Q N ((rloads.getD ((i).toNat) TPm.d).fMa)).bind fun rQ5 =>
  ((g_r01_AddRat N mass rQ5).bind fun rAddRat =>
  ((g_r05_product N ([(rloads.getD ((i).toNat) TPm.d).fMa,(rloads.getD ((i).toNat) TPm.d).f_X]:List Int)).bind fun rproduct =>
  ((g_r01_AddRat N trim rproduct).bind fun rAddRat2 =>
  ((g_r05_product N ([(rloads.getD ((i).toNat) TPm.d).fMa,(rloads.getD ((i).toNat) TPm.d).f_Y]:List Int)).bind fun rproduct2 =>
  ((g_r01_AddRat N heel rproduct2).bind fun rAddRat3 =>
  ((g_r05_size N ((rloads.getD ((i).toNat) TPm.d).f_X)).bind fun rsize =>
  ((g_r05_product N ([(rloads.getD ((i).toNat) TPm.d).fMa,rsize]:List Int)).bind fun rproduct3 =>
  ((g_r01_AddRat N ends rproduct3).bind fun rAddRat4 =>
  g_r05_Float_L1 N p rloads fuel rAddRat rAddRat2 rAddRat3 rAddRat4 (w64 (i+1)))))))))))
  else none))
  (((g_r01_Q N 1000000000).bind fun rQ6 =>
  ((g_r01_Q N 12).bind fun rQ7 =>
  ((g_r01_MulRat N rQ7 rQ6).bind fun rMulRat =>
  ((g_r01_MulRat N rQ6 mass).bind fun rMulRat2 =>
  ((g_r05_product N ([p.fDsity,p.fLn,p.fBr]:List Int)).bind fun rproduct4 =>
  ((g_r01_QuoRat N rMulRat2 rproduct4).bind fun rQuoRat =>
  ((g_r01_MulRat N rMulRat trim).bind fun rMulRat3 =>
  ((g_r05_product N ([p.fDsity,p.fBr,p.fLn,p.fLn,p.fLn]:List Int)).bind fun rproduct5 =>
  ((g_r01_QuoRat N rMulRat3 rproduct5).bind fun rQuoRat2 =>
  ((g_r01_MulRat N rMulRat heel).bind fun rMulRat4 =>
  ((g_r05_product N ([p.fDsity,p.fLn,p.fBr,p.fBr,p.fBr]:List Int)).bind fun rproduct6 =>
  ((g_r01_QuoRat N rMulRat4 rproduct6).bind fun rQuoRat3 =>
  ((g_r01_Q N 2).bind fun rQ8 =>
  ((g_r01_QuoRat N ends rQ8).bind fun rQuoRat4 =>
  ((g_r01_Q N p.fLn).bind fun rQ9 =>
  ((g_r01_MulRat N mass rQ9).bind fun rMulRat5 =>
  ((g_r01_Q N 8).bind fun rQ10 =>
  ((g_r01_QuoRat N rMulRat5 rQ10).bind fun rQuoRat5 =>
  ((g_r01_SubRat N rQuoRat4 rQuoRat5).bind fun rSubRat =>
  some (⟨rQuoRat,rQuoRat2,rQuoRat3,rSubRat⟩:TPose))))))))))))))))))))))
def g_r05_Float (N:Nat) (p:TPn) (steps:List Int):Option (TPose) :=
 ((g_r01_Q N 0).bind fun rQ =>
 ((g_r01_Q N 0).bind fun rQ2 =>
 ((g_r01_Q N 0).bind fun rQ3 =>
 ((g_r01_Q N 0).bind fun rQ4 =>
 ((g_r05_loads N p steps).bind fun rloads =>
 g_r05_Float_L1 N p rloads N rQ rQ2 rQ3 rQ4 0)))))
def g_r01_Sign (N:Nat) (a:TInt):Option (Int) :=
 ((g_r01_read N a.fL).bind fun rread =>
 (cond (((rread.length:Nat):Int) == 0)
 (some 0)
 ((cond a.fG
 (some (-1))
 (some 1)))))
def g_r01_SignRat (N:Nat) (x:TRat):Option (Int) :=
 ((g_r01_NormRat N x).bind fun rNormRat =>
 ((g_r01_Sign N rNormRat.fN).bind fun rSign =>
 some rSign))
def g_r01_CmpRat (N:Nat) (x:TRat) (y:TRat):Option (Int) :=
 ((g_r01_SubRat N x y).bind fun rSubRat =>
 ((g_r01_SignRat N rSubRat).bind fun rSignRat =>
 some rSignRat))
def g_r05_between (N:Nat) (x:TRat) (low:Int) (high:Int):Option (Bool) :=
 ((g_r01_Q N low).bind fun rQ =>
 ((g_r01_CmpRat N x rQ).bind fun rCmpRat =>
 ((cond (decide (rCmpRat≥0)) (g_r01_Q N high) (some TRat.d)).bind fun rQ2 =>
 ((cond (decide (rCmpRat≥0)) (g_r01_CmpRat N x rQ2) (some 0)).bind fun rCmpRat2 =>
 some (cond (decide (rCmpRat≥0)) (decide (rCmpRat2≤0)) false)))))
def g_r05_atMost (N:Nat) (x:TRat) (vby:Int) (most:Int):Option (Bool) :=
 ((g_r01_Q N vby).bind fun rQ =>
 ((g_r01_MulRat N x rQ).bind fun rMulRat =>
 ((g_r01_Q N most).bind fun rQ2 =>
 ((g_r01_CmpRat N rMulRat rQ2).bind fun rCmpRat =>
 ((cond (decide (rCmpRat≤0)) (g_r01_NegRat N rMulRat) (some TRat.d)).bind fun rNegRat =>
 ((cond (decide (rCmpRat≤0)) (g_r01_Q N most) (some TRat.d)).bind fun rQ3 =>
 ((cond (decide (rCmpRat≤0)) (g_r01_CmpRat N rNegRat rQ3) (some 0)).bind fun rCmpRat2 =>
 some (cond (decide (rCmpRat≤0)) (decide (rCmpRat2≤0)) false))))))))
def g_r05_Broken_J4 (N:Nat) (out4:List ByteArray):Option ((List ByteArray)) :=
 some out4
def g_r05_Broken_J3 (N:Nat) (l:TLimits) (rFloat:TPose) (out3:List ByteArray):Option ((List ByteArray)) :=
 ((g_r05_atMost N rFloat.f_Hog 1 l.f_HogMost).bind fun ratMost3 =>
 (cond (!ratMost3)
 ((if (out3.length+1) * 16≤140737488355328 then
 g_r05_Broken_J4 N (out3 ++ ([(⟨#[104,111,103]⟩:ByteArray)]:List ByteArray))
 else none))
 (g_r05_Broken_J4 N out3)))
def g_r05_Broken_J2 (N:Nat) (l:TLimits) (rFloat:TPose) (out2:List ByteArray):Option ((List ByteArray)) :=
 ((g_r05_atMost N rFloat.f_Heel 1000 l.f_HeelMost).bind fun ratMost2 =>
 (cond (!ratMost2)
 ((if (out2.length+1) * 16≤140737488355328 then
 g_r05_Broken_J3 N l rFloat (out2 ++ ([(⟨#[104,101,101,108]⟩:ByteArray)]:List ByteArray))
 else none))
 (g_r05_Broken_J3 N l rFloat out2)))
def g_r05_Broken_J1 (N:Nat) (l:TLimits) (rFloat:TPose) (out:List ByteArray):Option ((List ByteArray)) :=
 ((g_r05_atMost N rFloat.f_Trim 1000 l.f_TrimMost).bind fun ratMost =>
 (cond (!ratMost)
 ((if (out.length+1) * 16≤140737488355328 then
 g_r05_Broken_J2 N l rFloat (out ++ ([(⟨#[116,114,105,109]⟩:ByteArray)]:List ByteArray))
 else none))
 (g_r05_Broken_J2 N l rFloat out)))
def g_r05_Broken (N:Nat) (p:TPn) (l:TLimits) (steps:List Int):Option ((List ByteArray)) :=
 ((g_r05_Float N p steps).bind fun rFloat =>
 ((g_r05_between N rFloat.f_Draught l.f_DraughtLeast l.f_DraughtMost).bind fun rBt =>
 (cond (!rBt)
 (g_r05_Broken_J1 N l rFloat ([(⟨#[100,114,97,117,103,104,116]⟩:ByteArray)]:List ByteArray))
 (g_r05_Broken_J1 N l rFloat ([]:List ByteArray)))))
def g_r05_State_L1 (N:Nat) (p:TPn):Nat→Int→(List Int)→Int→Option ((List Int))
 | 0,_,_,_=>none
 | fuel+1,k2,out,i =>
  (cond (decide (i < ((p.fTk.length:Nat):Int)))
  ((if 0≤i∧i < ((p.fTk.length:Nat):Int) then
  (if ((w64 ((p.fTk.getD ((i).toNat) TTank.d).f_Steps+1)):Int)≠0 then
  (if (out.length+1) * 8≤140737488355328 then
  g_r05_State_L1 N p fuel (w64 (k2.tdiv (w64 ((p.fTk.getD ((i).toNat) TTank.d).f_Steps+1)))) (out ++ ([(k2.tmod (w64 ((p.fTk.getD ((i).toNat) TTank.d).f_Steps+1)))]:List Int)) (w64 (i+1))
  else none)
  else none)
  else none))
  (some out))
def g_r05_State (N:Nat) (p:TPn) (k:Int):Option ((List Int)) :=
 g_r05_State_L1 N p N k ([]:List Int) 0
def g_r05_Reached (N:Nat) (p:TPn) (a:TAim) (steps:List Int):Option (Bool) :=
 ((g_r05_Float N p steps).bind fun rFloat =>
 ((g_r05_between N rFloat.f_Draught a.f_DraughtLeast a.f_DraughtMost).bind fun rBt =>
 some rBt))
def g_r05_Moves_L1 (N:Nat) (p:TPn):Nat→(List TMove)→Int→Option ((List TMove))
 | 0,_,_=>none
 | fuel+1,out,i =>
  (cond (decide (i < ((p.fTk.length:Nat):Int)))
  ((if (out.length+2) * 16≤140737488355328 then
  g_r05_Moves_L1 N p fuel (out ++ ([(⟨i,true⟩:TMove),(⟨i,false⟩:TMove)]:List TMove)) (w64 (i+1))
  else none))
  (some out))
def g_r05_Moves (N:Nat) (p:TPn):Option ((List TMove)) :=
 g_r05_Moves_L1 N p N ([]:List TMove) 0
def g_r05_Made_J1 (N:Nat) (p:TPn) (m:TMove) (out:List Int):Option ((List Int)×Bool) :=
 (if 0≤m.f_Tank∧m.f_Tank < ((out.length:Nat):Int) then
 (if 0≤m.f_Tank∧m.f_Tank < ((p.fTk.length:Nat):Int) then
 ((g_r05_inside N (out.getD ((m.f_Tank).toNat) 0) 0 ((p.fTk.getD ((m.f_Tank).toNat) TTank.d).f_Steps)).bind fun rIn =>
 some (out,rIn))
 else none)
 else none)
def g_r05_Made (N:Nat) (p:TPn) (steps:List Int) (m:TMove):Option ((List Int)×Bool) :=
 (cond (cond (decide (m.f_Tank < 0)) true (decide (m.f_Tank≥((steps.length:Nat):Int))))
 (some (([]:List Int),false))
 ((if (0+steps.length) * 8≤140737488355328 then
 (cond m.f_Up
 ((if 0≤m.f_Tank∧m.f_Tank < (((([]:List Int) ++ steps).length:Nat):Int) then
 g_r05_Made_J1 N p m ((([]:List Int) ++ steps).set ((m.f_Tank).toNat) (w64 (((([]:List Int) ++ steps).getD ((m.f_Tank).toNat) 0)+1)))
 else none))
 ((if 0≤m.f_Tank∧m.f_Tank < (((([]:List Int) ++ steps).length:Nat):Int) then
 g_r05_Made_J1 N p m ((([]:List Int) ++ steps).set ((m.f_Tank).toNat) (w64 (((([]:List Int) ++ steps).getD ((m.f_Tank).toNat) 0) - 1)))
 else none)))
 else none)))
def g_r05_Number_L1 (N:Nat) (p:TPn) (steps:List Int):Nat→Int→Int→Option (Int)
 | 0,_,_=>none
 | fuel+1,n,i =>
  (cond (decide (i≥0))
  ((if 0≤i∧i < ((p.fTk.length:Nat):Int) then
  (if 0≤i∧i < ((steps.length:Nat):Int) then
  g_r05_Number_L1 N p steps fuel (w64 ((w64 (n * (w64 ((p.fTk.getD ((i).toNat) TTank.d).f_Steps+1))))+(steps.getD ((i).toNat) 0))) (w64 (i - 1))
  else none)
  else none))
  (some n))
def g_r05_Number (N:Nat) (p:TPn) (steps:List Int):Option (Int) :=
 g_r05_Number_L1 N p steps N 0 (w64 (((steps.length:Nat):Int) - 1))
def g_r05_distances_J2 (N:Nat) (p:TPn) (l:TLimits) (a:TAim) (rStates:Int) (good:List Bool) (k:Int) (rBroken:(List ByteArray)) (K_g_r05_distances_L1:(List Int)→(List Bool)→Int→Option ((List Int))) (out2:List Int):Option ((List Int)) :=
 K_g_r05_distances_L1 out2 (good.set ((k).toNat) (((rBroken.length:Nat):Int) == 0)) (w64 (k+1))
def g_r05_distances_J5 (N:Nat) (p:TPn) (rStates:Int) (good:List Bool) (rMoves:(List TMove)) (d:Int) (k2:Int) (K_g_r05_distances_L4:(List Int)→Int→Option ((List Int))) (K_g_r05_distances_L3:(List Int)→Int→Option ((List Int))) (out5:List Int):Option ((List Int)) :=
 K_g_r05_distances_L4 out5 (w64 (k2+1))
def g_r05_distances_J7 (N:Nat) (p:TPn) (rStates:Int) (good:List Bool) (rMoves:(List TMove)) (d:Int) (k2:Int) (i:Int) (K_g_r05_distances_L6:(List Int)→Int→Option ((List Int))) (K_g_r05_distances_L4:(List Int)→Int→Option ((List Int))) (K_g_r05_distances_L3:(List Int)→Int→Option ((List Int))) (out7:List Int):Option ((List Int)) :=
 K_g_r05_distances_L6 out7 (w64 (i+1))
def g_r05_distances_L6 (N:Nat) (p:TPn) (rStates:Int) (good:List Bool) (rMoves:(List TMove)) (d:Int) (k2:Int) (K_g_r05_distances_L4:(List Int)→Int→Option ((List Int))) (K_g_r05_distances_L3:(List Int)→Int→Option ((List Int))):Nat→(List Int)→Int→Option ((List Int))
 | 0,_,_=>none
 | fuel+1,out6,i =>
  (cond (decide (i < ((rMoves.length:Nat):Int)))
  (((g_r05_State N p k2).bind fun rState2 =>
  (if 0≤i∧i < ((rMoves.length:Nat):Int) then
  ((g_r05_Made N p rState2 (rMoves.getD ((i).toNat) TMove.d)).bind fun rMade =>
  ((cond rMade.2 (g_r05_Number N p rMade.1) (some 0)).bind fun rNumber =>
  (if (rMade.2=true→0≤rNumber∧rNumber < ((good.length:Nat):Int)) then
  ((cond (cond rMade.2 (good.getD ((rNumber).toNat) false) false) (g_r05_Number N p rMade.1) (some 0)).bind fun rNumber2 =>
  (if ((cond rMade.2 (good.getD ((rNumber).toNat) false) false)=true→0≤rNumber2∧rNumber2 < ((out6.length:Nat):Int)) then
  (cond (cond (cond rMade.2 (good.getD ((rNumber).toNat) false) false) (decide ((out6.getD ((rNumber2).toNat) 0) < 0)) false)
  (((g_r05_Number N p rMade.1).bind fun rNumber3 =>
  (if 0≤rNumber3∧rNumber3 < ((out6.length:Nat):Int) then
  g_r05_distances_J7 N p rStates good rMoves d k2 i (g_r05_distances_L6 N p rStates good rMoves d k2 K_g_r05_distances_L4 K_g_r05_distances_L3 fuel) K_g_r05_distances_L4 K_g_r05_distances_L3 (out6.set ((rNumber3).toNat) (w64 (d+1)))
  else none)))
  (g_r05_distances_J7 N p rStates good rMoves d k2 i (g_r05_distances_L6 N p rStates good rMoves d k2 K_g_r05_distances_L4 K_g_r05_distances_L3 fuel) K_g_r05_distances_L4 K_g_r05_distances_L3 out6))
  else none))
  else none)))
  else none)))
  (g_r05_distances_J5 N p rStates good rMoves d k2 K_g_r05_distances_L4 K_g_r05_distances_L3 out6))
def g_r05_distances_L4 (N:Nat) (p:TPn) (rStates:Int) (good:List Bool) (rMoves:(List TMove)) (d:Int) (K_g_r05_distances_L3:(List Int)→Int→Option ((List Int))):Nat→(List Int)→Int→Option ((List Int))
 | 0,_,_=>none
 | fuel+1,out4,k2 =>
  (cond (decide (k2 < rStates))
  ((if 0≤k2∧k2 < ((out4.length:Nat):Int) then
  (cond ((out4.getD ((k2).toNat) 0) != d)
  (g_r05_distances_J5 N p rStates good rMoves d k2 (g_r05_distances_L4 N p rStates good rMoves d K_g_r05_distances_L3 fuel) K_g_r05_distances_L3 out4)
  (g_r05_distances_L6 N p rStates good rMoves d k2 (g_r05_distances_L4 N p rStates good rMoves d K_g_r05_distances_L3 fuel) K_g_r05_distances_L3 N out4 0))
  else none))
  (K_g_r05_distances_L3 out4 (w64 (d+1))))
def g_r05_distances_L3 (N:Nat) (p:TPn) (rStates:Int) (good:List Bool) (rMoves:(List TMove)):Nat→(List Int)→Int→Option ((List Int))
 | 0,_,_=>none
 | fuel+1,out3,d =>
  (cond (decide (d < rStates))
  (g_r05_distances_L4 N p rStates good rMoves d (g_r05_distances_L3 N p rStates good rMoves fuel) N out3 0)
  (some out3))
def g_r05_distances_L1 (N:Nat) (p:TPn) (l:TLimits) (a:TAim) (rStates:Int):Nat→(List Int)→(List Bool)→Int→Option ((List Int))
 | 0,_,_,_=>none
 | fuel+1,out,good,k =>
  (cond (decide (k < rStates))
  (((g_r05_State N p k).bind fun rState =>
  (if 0≤k∧k < ((out.length:Nat):Int) then
  ((g_r05_Broken N p l rState).bind fun rBroken =>
  (if 0≤k∧k < ((good.length:Nat):Int) then
  (if 0≤k∧k < (((good.set ((k).toNat) (((rBroken.length:Nat):Int) == 0)).length:Nat):Int) then
  ((cond ((good.set ((k).toNat) (((rBroken.length:Nat):Int) == 0)).getD ((k).toNat) false) (g_r05_Reached N p a rState) (some false)).bind fun rReached =>
  (cond (cond ((good.set ((k).toNat) (((rBroken.length:Nat):Int) == 0)).getD ((k).toNat) false) rReached false)
  ((if 0≤k∧k < (((out.set ((k).toNat) (-1)).length:Nat):Int) then
  g_r05_distances_J2 N p l a rStates good k rBroken (g_r05_distances_L1 N p l a rStates fuel) ((out.set ((k).toNat) (-1)).set ((k).toNat) 0)
  else none))
  (g_r05_distances_J2 N p l a rStates good k rBroken (g_r05_distances_L1 N p l a rStates fuel) (out.set ((k).toNat) (-1)))))
  else none)
  else none))
  else none)))
  (((g_r05_Moves N p).bind fun rMoves =>
  g_r05_distances_L3 N p rStates good rMoves N out 0)))
def g_r05_distances (N:Nat) (p:TPn) (l:TLimits) (a:TAim):Option ((List Int)) :=
 ((g_r05_States N p 20000).bind fun rStates =>
 (if 0≤rStates∧(8:Int) * rStates≤281474976710656∧rStates≤9223372036854775807 then
 (if 0≤rStates∧(1:Int) * rStates≤281474976710656∧rStates≤9223372036854775807 then
 g_r05_distances_L1 N p l a rStates N (List.replicate ((rStates).toNat) 0:List Int) (List.replicate ((rStates).toNat) false:List Bool) 0
 else none)
 else none))
def g_r05_Ballast_L2 (N:Nat) (p:TPn) (rdistances:(List Int)) (rMoves:(List TMove)) (vat:List Int) (out:List TMove) (K_g_r05_Ballast_L1:(List Int)→(List TMove)→Option ((List TMove)×Int)):Nat→Int→Option ((List TMove)×Int)
 | 0,_=>none
 | fuel+1,i =>
  (cond (decide (i < ((rMoves.length:Nat):Int)))
  ((if 0≤i∧i < ((rMoves.length:Nat):Int) then
  ((g_r05_Made N p vat (rMoves.getD ((i).toNat) TMove.d)).bind fun rMade =>
  ((cond rMade.2 (g_r05_Number N p rMade.1) (some 0)).bind fun rNumber3 =>
  (if (rMade.2=true→0≤rNumber3∧rNumber3 < ((rdistances.length:Nat):Int)) then
  ((cond rMade.2 (g_r05_Number N p vat) (some 0)).bind fun rNumber4 =>
  (if (rMade.2=true→0≤rNumber4∧rNumber4 < ((rdistances.length:Nat):Int)) then
  (cond (cond rMade.2 ((rdistances.getD ((rNumber3).toNat) 0) == (w64 ((rdistances.getD ((rNumber4).toNat) 0) - 1))) false)
  ((if (out.length+1) * 16≤140737488355328 then
  K_g_r05_Ballast_L1 rMade.1 (out ++ ([(rMoves.getD ((i).toNat) TMove.d)]:List TMove))
  else none))
  (g_r05_Ballast_L2 N p rdistances rMoves vat out K_g_r05_Ballast_L1 fuel (w64 (i+1))))
  else none))
  else none)))
  else none))
  (K_g_r05_Ballast_L1 vat out))
def g_r05_Ballast_L1 (N:Nat) (p:TPn) (rdistances:(List Int)) (rMoves:(List TMove)):Nat→(List Int)→(List TMove)→Option ((List TMove)×Int)
 | 0,_,_=>none
 | fuel+1,vat,out =>
  ((g_r05_Number N p vat).bind fun rNumber2 =>
  (if 0≤rNumber2∧rNumber2 < ((rdistances.length:Nat):Int) then
  (cond (decide ((rdistances.getD ((rNumber2).toNat) 0) > 0))
  (g_r05_Ballast_L2 N p rdistances rMoves vat out (g_r05_Ballast_L1 N p rdistances rMoves fuel) N 0)
  (some (out,0)))
  else none))
def g_r05_Ballast (N:Nat) (p:TPn) (l:TLimits) (a:TAim):Option ((List TMove)×Int) :=
 ((g_r05_CheckBegin N p l a).bind fun rCheckBegin =>
 (cond (rCheckBegin != 0)
 (some (([]:List TMove),rCheckBegin))
 (((g_r05_States N p 20000).bind fun rStates =>
 (cond (decide (rStates > 20000))
 (some (([]:List TMove),8))
 (((g_r05_Broken N p l a.f_Start).bind fun rBroken =>
 (cond (decide (((rBroken.length:Nat):Int) > 0))
 (some (([]:List TMove),16))
 (((g_r05_distances N p l a).bind fun rdistances =>
 (if (0+a.f_Start.length) * 8≤140737488355328 then
 ((g_r05_Number N p (([]:List Int) ++ a.f_Start)).bind fun rNumber =>
 (if 0≤rNumber∧rNumber < ((rdistances.length:Nat):Int) then
 (cond (decide ((rdistances.getD ((rNumber).toNat) 0) < 0))
 (some (([]:List TMove),29))
 (((g_r05_Moves N p).bind fun rMoves =>
 g_r05_Ballast_L1 N p rdistances rMoves N (([]:List Int) ++ a.f_Start) ([]:List TMove))))
 else none))
 else none)))))))))))
def g_w05_sameMoves_L1 (N:Nat) (a:List TMove) (b:List TMove):Nat→Int→Option (Bool)
 | 0,_=>none
 | fuel+1,i =>
  (cond (decide (i < ((a.length:Nat):Int)))
  ((if 0≤i∧i < ((a.length:Nat):Int) then
  (if 0≤i∧i < ((b.length:Nat):Int) then
  (cond (!(((a.getD ((i).toNat) TMove.d).f_Tank == (b.getD ((i).toNat) TMove.d).f_Tank) && (((a.getD ((i).toNat) TMove.d).f_Up == (b.getD ((i).toNat) TMove.d).f_Up) && true)))
  (some false)
  (g_w05_sameMoves_L1 N a b fuel (w64 (i+1))))
  else none)
  else none))
  (some true))
def g_w05_sameMoves (N:Nat) (a:List TMove) (b:List TMove):Option (Bool) :=
 (cond (((a.length:Nat):Int) != ((b.length:Nat):Int))
 (some false)
 (g_w05_sameMoves_L1 N a b N 0))
noncomputable def g_w05_WaterBallast (N:Nat) (p:TPn) (l:TLimits) (a:TAim):Option (Bool) :=
 ((g_w05_afloat N).bind fun rafloat =>
 (cond (!rafloat)
 (some false)
 (((g_w05_light N p).bind fun rlight =>
 (cond (cond (!rlight) true (decide (((a.f_Start.length:Nat):Int) > 20)))
 (some true)
 (((g_w_Ballast N p l a).bind fun rBallast =>
 ((g_r05_Ballast N p l a).bind fun rBallast2 =>
 ((g_w05_sameMoves N rBallast.1 rBallast2.1).bind fun rsameMoves =>
 some (cond rsameMoves (rBallast.2 == rBallast2.2) false))))))))))
end Go.Den
