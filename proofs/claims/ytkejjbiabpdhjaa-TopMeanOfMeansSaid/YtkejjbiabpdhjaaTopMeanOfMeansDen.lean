/- The functions of the program as Lean functions, each in the Option monad; N bounds the rounds of loops. No conditions. -/
import Derived.Test.YtkejjbiabpdhjaaCd
set_option linter.unusedVariables false
set_option linter.unusedSimpArgs false
set_option linter.unusedVariables false
namespace Go.Den
open Go.Ab
structure TS__5_int where
 e0:Int
 e1:Int
 e2:Int
 e3:Int
 e4:Int
def TS__5_int.d:TS__5_int:=⟨0,0,0,0,0⟩
def TS__5_int.wf (x:TS__5_int):Prop:=wI x.e0∧wI x.e1∧wI x.e2∧wI x.e3∧wI x.e4
def TS__5_int.cells (x:TS__5_int):List AV:=[(aI x.e0),(aI x.e1),(aI x.e2),(aI x.e3),(aI x.e4)]
structure Tkeelblocktop_Drift where
 f_V:Int
 f_D:Int
 f_A:TS__5_int
def Tkeelblocktop_Drift.d:Tkeelblocktop_Drift:=⟨0,0,TS__5_int.d⟩
def Tkeelblocktop_Drift.wf (x:Tkeelblocktop_Drift):Prop:=wI x.f_V∧wI x.f_D∧TS__5_int.wf x.f_A
def Tkeelblocktop_Drift.cells (x:Tkeelblocktop_Drift):List AV:=[(aI x.f_V),(aI x.f_D),(aI x.f_A.e0),(aI x.f_A.e1),(aI x.f_A.e2),(aI x.f_A.e3),(aI x.f_A.e4)]
structure TRun where
 f_Start:Int
 f_Seconds:Int
 f_Metres:Int
 f_Back:Bool
def TRun.d:TRun:=⟨0,0,0,false⟩
def TRun.wf (x:TRun):Prop:=wI x.f_Start∧wI x.f_Seconds∧wI x.f_Metres∧wB x.f_Back
def TRun.cells (x:TRun):List AV:=[(aI x.f_Start),(aI x.f_Seconds),(aI x.f_Metres),(aB x.f_Back)]
structure TInt where
 f_Neg:Bool
 f_Limbs:List Int
def TInt.d:TInt:=⟨false,[]⟩
def TInt.wf (x:TInt):Prop:=wB x.f_Neg∧(wL (wK .u16)) x.f_Limbs
def TInt.cells (x:TInt):List AV:=[(aB x.f_Neg),(encL (cU .u16) 0 x.f_Limbs)]
structure TRat where
 f_Num:TInt
 f_Den:TInt
def TRat.d:TRat:=⟨TInt.d,TInt.d⟩
def TRat.wf (x:TRat):Prop:=TInt.wf x.f_Num∧TInt.wf x.f_Den
def TRat.cells (x:TRat):List AV:=[(aB x.f_Num.f_Neg),(encL (cU .u16) 0 x.f_Num.f_Limbs),(aB x.f_Den.f_Neg),(encL (cU .u16) 0 x.f_Den.f_Limbs)]
def g_survey_letter (N:Nat):Option Unit:=some ()
def g_survey_name (N:Nat):Option Unit:=some ()
def g_survey_inside_1 (N:Nat):Option Unit:=some ()
def g_slices_IndexFunc_int_int (N:Nat):Option Unit:=some ()
def g_slices_ContainsFunc_int_int (N:Nat):Option Unit:=some ()
def g_survey_inside (N:Nat):Option Unit:=some ()
def g_survey_letter_v2 (N:Nat):Option Unit:=some ()
def g_survey_name_v2 (N:Nat):Option Unit:=some ()
def g_survey_inside_1_v2 (N:Nat):Option Unit:=some ()
def g_slices_IndexFunc_int_int_v2 (N:Nat):Option Unit:=some ()
def g_slices_ContainsFunc_int_int_v2 (N:Nat):Option Unit:=some ()
def g_survey_inside_v2 (N:Nat):Option Unit:=some ()
def g_survey_inside_1_v3 (N:Nat):Option Unit:=some ()
def g_slices_IndexFunc_int_int_v3 (N:Nat):Option Unit:=some ()
def g_slices_ContainsFunc_int_int_v3 (N:Nat):Option Unit:=some ()
def g_survey_inside_v3 (N:Nat):Option Unit:=some ()
def g_survey_checkPlate (N:Nat):Option Unit:=some ()
def g_survey_inside_1_v4 (N:Nat):Option Unit:=some ()
def g_slices_IndexFunc_int_int_v4 (N:Nat):Option Unit:=some ()
def g_slices_ContainsFunc_int_int_v4 (N:Nat):Option Unit:=some ()
def g_survey_inside_v4 (N:Nat):Option Unit:=some ()
def g_survey_checkStock (N:Nat):Option Unit:=some ()
def g_slices_IndexFunc_survey_shape_survey_shape (N:Nat):Option Unit:=some ()
def g_slices_ContainsFunc_survey_shape_survey_shape (N:Nat):Option Unit:=some ()
def g_slices_IndexFunc_survey_shape_survey_shape_v2 (N:Nat):Option Unit:=some ()
def g_slices_DeleteFunc_survey_shape_survey_shape (N:Nat):Option Unit:=some ()
def g_survey_kept (N:Nat):Option Unit:=some ()
def g_survey_shapes_1 (N:Nat):Option Unit:=some ()
def g_slices_IndexFunc_survey_shape_survey_shape_v3 (N:Nat):Option Unit:=some ()
def g_slices_ContainsFunc_survey_shape_survey_shape_v2 (N:Nat):Option Unit:=some ()
def g_slices_IndexFunc_survey_shape_survey_shape_v4 (N:Nat):Option Unit:=some ()
def g_slices_DeleteFunc_survey_shape_survey_shape_v2 (N:Nat):Option Unit:=some ()
def g_survey_kept_v2 (N:Nat):Option Unit:=some ()
def g_survey_shapes_1_v2 (N:Nat):Option Unit:=some ()
def g_math_bits_OnesCount64 (N:Nat):Option Unit:=some ()
def g_math_bits_OnesCount (N:Nat):Option Unit:=some ()
def g_math_bits_OnesCount64_v2 (N:Nat):Option Unit:=some ()
def g_math_bits_OnesCount_v2 (N:Nat):Option Unit:=some ()
def g_math_bits_OnesCount64_v3 (N:Nat):Option Unit:=some ()
def g_math_bits_OnesCount_v3 (N:Nat):Option Unit:=some ()
def g_math_bits_OnesCount64_v4 (N:Nat):Option Unit:=some ()
def g_math_bits_OnesCount_v4 (N:Nat):Option Unit:=some ()
def g_slices_IndexFunc_survey_shape_survey_shape_v5 (N:Nat):Option Unit:=some ()
def g_slices_ContainsFunc_survey_shape_survey_shape_v3 (N:Nat):Option Unit:=some ()
def g_slices_IndexFunc_survey_shape_survey_shape_v6 (N:Nat):Option Unit:=some ()
def g_slices_DeleteFunc_survey_shape_survey_shape_v3 (N:Nat):Option Unit:=some ()
def g_survey_kept_v3 (N:Nat):Option Unit:=some ()
def g_survey_shapes_1_v3 (N:Nat):Option Unit:=some ()
def g_survey_shapes_1_v4 (N:Nat):Option Unit:=some ()
def g_survey_shapes (N:Nat):Option Unit:=some ()
def g_survey_shape_cut_v2 (N:Nat):Option Unit:=some ()
def g_survey_shape_cut_v3 (N:Nat):Option Unit:=some ()
def g_survey_shape_cut (N:Nat):Option Unit:=some ()
def g_survey_whole (N:Nat):Option Unit:=some ()
def g_survey_Fit (N:Nat):Option Unit:=some ()
def g_survey_inside_1_v5 (N:Nat):Option Unit:=some ()
def g_slices_IndexFunc_int_int_v5 (N:Nat):Option Unit:=some ()
def g_slices_ContainsFunc_int_int_v5 (N:Nat):Option Unit:=some ()
def g_survey_inside_v5 (N:Nat):Option Unit:=some ()
def g_survey_checkPlate_v2 (N:Nat):Option Unit:=some ()
def g_survey_checkStock_v2 (N:Nat):Option Unit:=some ()
def g_survey_shapes_1_v5 (N:Nat):Option Unit:=some ()
def g_survey_shapes_1_v6 (N:Nat):Option Unit:=some ()
def g_survey_shapes_1_v7 (N:Nat):Option Unit:=some ()
def g_survey_shapes_1_v8 (N:Nat):Option Unit:=some ()
def g_survey_shapes_v2 (N:Nat):Option Unit:=some ()
def g_survey_whole_v2 (N:Nat):Option Unit:=some ()
def g_survey_Fit_v2 (N:Nat):Option Unit:=some ()
def g_keelblocktop_halved (N:Nat):Option Unit:=some ()
def g_keelblocktop_Drift_value_L1 (N:Nat) (d:Tkeelblocktop_Drift) (i:Int) (n:Int):Nat→Int→Int→Int→Option (Int)
 | 0,_,_,_=>none
 | fuel+1,sum,power,k =>
  (cond (cond (decide (k < n)) (decide (k < 5)) false)
  ((if 0≤k∧k < ((5:Nat):Int) then
  g_keelblocktop_Drift_value_L1 N d i n fuel (w64 (sum+(w64 ((pickI [d.f_A.e0,d.f_A.e1,d.f_A.e2,d.f_A.e3,d.f_A.e4] ((k).toNat)) * power)))) (w64 (power * i)) (w64 (k+1))
  else none))
  (some sum))
def g_keelblocktop_Drift_value (N:Nat) (d:Tkeelblocktop_Drift) (i:Int) (n:Int):Option (Int) :=
 g_keelblocktop_Drift_value_L1 N d i n N 0 1 0
def g_survey_inside_1_v6 (N:Nat) (n:Int) (cap0:Int) (cap1:Int):Option (Bool) :=
 some (cond (decide (n < cap0)) true (decide (n > cap1)))
def g_slices_IndexFunc_int_int_v6_L1 (N:Nat) (s:List Int) (cap0:Int) (cap1:Int):Nat→Int→Option (Int)
 | 0,_=>none
 | fuel+1,x =>
  (cond (decide (x < ((s.length:Nat):Int)))
  ((if 0≤x∧x < ((s.length:Nat):Int) then
  ((g_survey_inside_1_v6 N (s.getD ((x).toNat) 0) cap0 cap1).bind fun rinside1 =>
  (cond rinside1
  (some x)
  (g_slices_IndexFunc_int_int_v6_L1 N s cap0 cap1 fuel (w64 (x+1)))))
  else none))
  (some (-1)))
def g_slices_IndexFunc_int_int_v6 (N:Nat) (s:List Int) (cap0:Int) (cap1:Int):Option (Int) :=
 g_slices_IndexFunc_int_int_v6_L1 N s cap0 cap1 N 0
def g_slices_ContainsFunc_int_int_v6 (N:Nat) (s:List Int) (cap0:Int) (cap1:Int):Option (Bool) :=
 ((g_slices_IndexFunc_int_int_v6 N s cap0 cap1).bind fun rIndexFunc =>
 some (decide (rIndexFunc≥0)))
def g_survey_inside_v6 (N:Nat) (low:Int) (high:Int) (l:List Int):Option (Bool) :=
 ((g_slices_ContainsFunc_int_int_v6 N l low high).bind fun rContainsFunc =>
 some (!rContainsFunc))
def g_survey_CheckTrial_J2 (N:Nat) (l:List TRun) (x:Int) (K_g_survey_CheckTrial_L1:Int→Option (Int)):Option (Int) :=
 K_g_survey_CheckTrial_L1 (w64 (x+1))
def g_survey_CheckTrial_L1 (N:Nat) (l:List TRun):Nat→Int→Option (Int)
 | 0,_=>none
 | fuel+1,x =>
  (cond (decide (x < ((l.length:Nat):Int)))
  ((if 0≤x∧x < ((l.length:Nat):Int) then
  ((g_survey_inside_v6 N 0 1000000 ([(l.getD ((x).toNat) TRun.d).f_Start]:List Int)).bind fun rinside =>
  (cond (!(!rinside))
  (((g_survey_inside_v6 N 1 100000 ([(l.getD ((x).toNat) TRun.d).f_Seconds,(l.getD ((x).toNat) TRun.d).f_Metres]:List Int)).bind fun rinside2 =>
  (cond (cond (!rinside) true (!rinside2))
  (some 2)
  ((cond (x == 0)
  (g_survey_CheckTrial_J2 N l x (g_survey_CheckTrial_L1 N l fuel))
  ((if 0≤(w64 (x - 1))∧(w64 (x - 1)) < ((l.length:Nat):Int) then
  (cond (decide ((l.getD ((x).toNat) TRun.d).f_Start≤(l.getD ((w64 (x - 1)).toNat) TRun.d).f_Start))
  (some 10)
  ((cond (cond (decide ((w64 ((l.getD ((w64 (x - 1)).toNat) TRun.d).f_Start+(l.getD ((w64 (x - 1)).toNat) TRun.d).f_Seconds)) > (l.getD ((x).toNat) TRun.d).f_Start)) true ((l.getD ((w64 (x - 1)).toNat) TRun.d).f_Back == (l.getD ((x).toNat) TRun.d).f_Back))
  (some 17)
  (g_survey_CheckTrial_J2 N l x (g_survey_CheckTrial_L1 N l fuel)))))
  else none)))))))
  ((cond (cond (!rinside) true false)
  (some 2)
  ((cond (x == 0)
  (g_survey_CheckTrial_J2 N l x (g_survey_CheckTrial_L1 N l fuel))
  ((if 0≤(w64 (x - 1))∧(w64 (x - 1)) < ((l.length:Nat):Int) then
  (cond (decide ((l.getD ((x).toNat) TRun.d).f_Start≤(l.getD ((w64 (x - 1)).toNat) TRun.d).f_Start))
  (some 10)
  ((cond (cond (decide ((w64 ((l.getD ((w64 (x - 1)).toNat) TRun.d).f_Start+(l.getD ((w64 (x - 1)).toNat) TRun.d).f_Seconds)) > (l.getD ((x).toNat) TRun.d).f_Start)) true ((l.getD ((w64 (x - 1)).toNat) TRun.d).f_Back == (l.getD ((x).toNat) TRun.d).f_Back))
  (some 17)
  (g_survey_CheckTrial_J2 N l x (g_survey_CheckTrial_L1 N l fuel)))))
  else none))))))))
  else none))
  (some 0))
def g_survey_CheckTrial (N:Nat) (l:List TRun):Option (Int) :=
 (cond (decide (((l.length:Nat):Int) < 2))
 (some 11)
 ((cond (decide (((l.length:Nat):Int) > 12))
 (some 8)
 (g_survey_CheckTrial_L1 N l N 0))))
def g_e_natural_L1 (N:Nat):Nat→Int→(List Int)→Option ((List Int))
 | 0,_,_=>none
 | fuel+1,n2,out =>
  (cond (decide (n2 > 0))
  ((if (out.length+1) * 2≤140737488355328 then
  g_e_natural_L1 N fuel (shrI .u64 n2 16) (out ++ ([(IntKind.u16.wrap (n2))]:List Int))
  else none))
  (some out))
def g_e_natural (N:Nat) (n:Int):Option ((List Int)) :=
 g_e_natural_L1 N N n ([]:List Int)
def g_e_trim_L1 (N:Nat):Nat→(List Int)→Option ((List Int))
 | 0,_=>none
 | fuel+1,n2 =>
  (if ((decide (((n2.length:Nat):Int) > 0))=true→0≤(w64 (((n2.length:Nat):Int) - 1))∧(w64 (((n2.length:Nat):Int) - 1)) < ((n2.length:Nat):Int)) then
  (cond (cond (decide (((n2.length:Nat):Int) > 0)) ((n2.getD ((w64 (((n2.length:Nat):Int) - 1)).toNat) 0) == 0) false)
  ((if 0≤(w64 (((n2.length:Nat):Int) - 1)).toNat∧(w64 (((n2.length:Nat):Int) - 1)).toNat≤n2.length then
  (if 0≤(w64 (((n2.length:Nat):Int) - 1)) then
  g_e_trim_L1 N fuel ((n2.take ((w64 (((n2.length:Nat):Int) - 1)).toNat)).drop 0)
  else none)
  else none))
  (some n2))
  else none)
def g_e_trim (N:Nat) (n:List Int):Option ((List Int)) :=
 g_e_trim_L1 N N n
def g_slices_Clone_uint16_uint16 (N:Nat) (s:List Int):Option ((List Int)) :=
 (if (0+s.length) * 2≤140737488355328 then
 some (([]:List Int) ++ s)
 else none)
def g_e_signed (N:Nat) (neg:Bool) (n:List Int):Option (TInt) :=
 ((g_e_trim N n).bind fun rtrim =>
 (cond (((rtrim.length:Nat):Int) == 0)
 (some (⟨false,([]:List Int)⟩:TInt))
 (((g_slices_Clone_uint16_uint16 N rtrim).bind fun rClone =>
 some (⟨neg,rClone⟩:TInt)))))
def g_e_Of (N:Nat) (n:Int):Option (TInt) :=
 (cond (decide (n < 0))
 (((g_e_natural N (IntKind.u64.wrap (0 - (IntKind.u64.wrap (n))))).bind fun rnatural =>
 ((g_e_signed N true rnatural).bind fun rsigned =>
 some rsigned)))
 (((g_e_natural N (IntKind.u64.wrap (n))).bind fun rnatural2 =>
 ((g_e_signed N false rnatural2).bind fun rsigned2 =>
 some rsigned2))))
def g_e_word_L1 (N:Nat) (n:List Int):Nat→Int→Int→Option (Int×Bool)
 | 0,_,_=>none
 | fuel+1,out,i =>
  (cond (decide (i≥0))
  ((if 0≤i∧i < ((n.length:Nat):Int) then
  g_e_word_L1 N n fuel (orI .u64 (shlI .u64 out 16) (IntKind.u64.wrap ((n.getD ((i).toNat) 0)))) (w64 (i - 1))
  else none))
  (some (out,true)))
def g_e_word (N:Nat) (n:List Int):Option (Int×Bool) :=
 (cond (decide (((n.length:Nat):Int) > 4))
 (some (0,false))
 (g_e_word_L1 N n N 0 (w64 (((n.length:Nat):Int) - 1))))
def g_e_compare_L1 (N:Nat) (a:List Int) (b:List Int):Nat→Int→Option (Int)
 | 0,_=>none
 | fuel+1,i =>
  (cond (decide (i≥0))
  ((if 0≤i∧i < ((a.length:Nat):Int) then
  (if 0≤i∧i < ((b.length:Nat):Int) then
  (cond ((a.getD ((i).toNat) 0) != (b.getD ((i).toNat) 0))
  (some (w64 ((w64 ((a.getD ((i).toNat) 0))) - (w64 ((b.getD ((i).toNat) 0))))))
  (g_e_compare_L1 N a b fuel (w64 (i - 1))))
  else none)
  else none))
  (some 0))
def g_e_compare (N:Nat) (a:List Int) (b:List Int):Option (Int) :=
 (cond (((a.length:Nat):Int) != ((b.length:Nat):Int))
 (some (w64 (((a.length:Nat):Int) - ((b.length:Nat):Int))))
 (g_e_compare_L1 N a b N (w64 (((a.length:Nat):Int) - 1))))
def g_e_short_L1 (N:Nat) (a:List Int) (b:Int):Nat→(List Int)→Int→Int→Option ((List Int)×Int)
 | 0,_,_,_=>none
 | fuel+1,q,rest,i =>
  (cond (decide (i≥0))
  ((if 0≤i∧i < ((a.length:Nat):Int) then
  (if ((IntKind.u32.wrap (b)):Int)≠0 then
  (if 0≤i∧i < ((q.length:Nat):Int) then
  g_e_short_L1 N a b fuel (q.set ((i).toNat) (IntKind.u16.wrap ((IntKind.u32.wrap ((orI .u32 (shlI .u32 rest 16) (IntKind.u32.wrap ((a.getD ((i).toNat) 0)))).tdiv (IntKind.u32.wrap (b))))))) ((orI .u32 (shlI .u32 rest 16) (IntKind.u32.wrap ((a.getD ((i).toNat) 0)))).tmod (IntKind.u32.wrap (b))) (w64 (i - 1))
  else none)
  else none)
  else none))
  (((g_e_trim N q).bind fun rtrim =>
  some (rtrim,(IntKind.u16.wrap (rest))))))
def g_e_short (N:Nat) (a:List Int) (b:Int):Option ((List Int)×Int) :=
 (if 0≤((a.length:Nat):Int)∧(2:Int) * ((a.length:Nat):Int)≤281474976710656∧((a.length:Nat):Int)≤9223372036854775807 then
 g_e_short_L1 N a b N (List.replicate a.length 0:List Int) 0 (w64 (((a.length:Nat):Int) - 1))
 else none)
def g_math_bits_Len16_J1 (N:Nat) (x2:Int) (n:Int):Option (Int) :=
 (if 0≤(IntKind.u8.wrap (x2))∧(IntKind.u8.wrap (x2)) < (((⟨#[0,1,2,2,3,3,3,3,4,4,4,4,4,4,4,4,5,5,5,5,5,5,5,5,5,5,5,5,5,5,5,5,6,6,6,6,6,6,6,6,6,6,6,6,6,6,6,6,6,6,6,6,6,6,6,6,6,6,6,6,6,6,6,6,7,7,7,7,7,7,7,7,7,7,7,7,7,7,7,7,7,7,7,7,7,7,7,7,7,7,7,7,7,7,7,7,7,7,7,7,7,7,7,7,7,7,7,7,7,7,7,7,7,7,7,7,7,7,7,7,7,7,7,7,7,7,7,7,8,8,8,8,8,8,8,8,8,8,8,8,8,8,8,8,8,8,8,8,8,8,8,8,8,8,8,8,8,8,8,8,8,8,8,8,8,8,8,8,8,8,8,8,8,8,8,8,8,8,8,8,8,8,8,8,8,8,8,8,8,8,8,8,8,8,8,8,8,8,8,8,8,8,8,8,8,8,8,8,8,8,8,8,8,8,8,8,8,8,8,8,8,8,8,8,8,8,8,8,8,8,8,8,8,8,8,8,8,8,8,8,8,8,8,8,8,8,8,8,8,8,8,8,8,8,8,8]⟩:ByteArray).size:Nat):Int) then
 some (w64 (n+(w64 ((byteAt (⟨#[0,1,2,2,3,3,3,3,4,4,4,4,4,4,4,4,5,5,5,5,5,5,5,5,5,5,5,5,5,5,5,5,6,6,6,6,6,6,6,6,6,6,6,6,6,6,6,6,6,6,6,6,6,6,6,6,6,6,6,6,6,6,6,6,7,7,7,7,7,7,7,7,7,7,7,7,7,7,7,7,7,7,7,7,7,7,7,7,7,7,7,7,7,7,7,7,7,7,7,7,7,7,7,7,7,7,7,7,7,7,7,7,7,7,7,7,7,7,7,7,7,7,7,7,7,7,7,7,8,8,8,8,8,8,8,8,8,8,8,8,8,8,8,8,8,8,8,8,8,8,8,8,8,8,8,8,8,8,8,8,8,8,8,8,8,8,8,8,8,8,8,8,8,8,8,8,8,8,8,8,8,8,8,8,8,8,8,8,8,8,8,8,8,8,8,8,8,8,8,8,8,8,8,8,8,8,8,8,8,8,8,8,8,8,8,8,8,8,8,8,8,8,8,8,8,8,8,8,8,8,8,8,8,8,8,8,8,8,8,8,8,8,8,8,8,8,8,8,8,8,8,8,8,8,8,8]⟩:ByteArray) ((IntKind.u8.wrap (x2)).toNat))))))
 else none)
def g_math_bits_Len16 (N:Nat) (x:Int):Option (Int) :=
 (cond (decide (x≥256))
 (g_math_bits_Len16_J1 N (shrI .u16 x 8) 8)
 (g_math_bits_Len16_J1 N x 0))
def g_math_bits_LeadingZeros16 (N:Nat) (x:Int):Option (Int) :=
 ((g_math_bits_Len16 N x).bind fun rLen16 =>
 some (w64 (16 - rLen16)))
def g_e_shifted_L1 (N:Nat) (a:List Int) (vby:Int):Nat→(List Int)→Int→Option ((List Int))
 | 0,_,_=>none
 | fuel+1,out,x =>
  (cond (decide (x < ((a.length:Nat):Int)))
  ((if 0≤x∧x < ((a.length:Nat):Int) then
  (if (0:Int)≤vby then
  (if 0≤x∧x < ((out.length:Nat):Int) then
  (if 0≤(w64 (x+1))∧(w64 (x+1)) < (((out.set ((x).toNat) (orI .u16 (out.getD ((x).toNat) 0) (IntKind.u16.wrap ((shlI .u32 (IntKind.u32.wrap ((a.getD ((x).toNat) 0))) vby))))).length:Nat):Int) then
  g_e_shifted_L1 N a vby fuel ((out.set ((x).toNat) (orI .u16 (out.getD ((x).toNat) 0) (IntKind.u16.wrap ((shlI .u32 (IntKind.u32.wrap ((a.getD ((x).toNat) 0))) vby))))).set ((w64 (x+1)).toNat) (IntKind.u16.wrap ((shrI .u32 (shlI .u32 (IntKind.u32.wrap ((a.getD ((x).toNat) 0))) vby) 16)))) (w64 (x+1))
  else none)
  else none)
  else none)
  else none))
  (some out))
def g_e_shifted (N:Nat) (a:List Int) (vby:Int):Option ((List Int)) :=
 (if 0≤(w64 (((a.length:Nat):Int)+1))∧(2:Int) * (w64 (((a.length:Nat):Int)+1))≤281474976710656∧(w64 (((a.length:Nat):Int)+1))≤9223372036854775807 then
 g_e_shifted_L1 N a vby N (List.replicate ((w64 (((a.length:Nat):Int)+1)).toNat) 0:List Int) 0
 else none)
def g_e_digit_J3 (N:Nat) (uo:Nat) (un:Nat) (v:List Int) (q:Int) (cap02:List Int) (borrow:Int) (x:Int) (K_g_e_digit_L2:(List Int)→Int→Int→Int→Option (Int×(List Int))) (x2:Int):Option (Int×(List Int)) :=
 (if 0≤x∧x < ((un:Nat):Int) then
 (if uo+un≤cap02.length then
 K_g_e_digit_L2 (cap02.set (addz uo (x).toNat) (IntKind.u16.wrap ((w64 ((w64 ((w64 ((cap02.getD (addz uo (x).toNat) 0))) - (w64 ((andI .u64 x2 65535)))))+borrow))))) (shrI .u64 x2 16) (shrI .i64 (w64 ((w64 ((w64 ((cap02.getD (addz uo (x).toNat) 0))) - (w64 ((andI .u64 x2 65535)))))+borrow)) 16) (w64 (x+1))
 else none)
 else none)
def g_e_digit_J5 (N:Nat) (cap04:List Int) (q2:Int):Option (Int×(List Int)) :=
 some ((IntKind.u16.wrap (q2)),cap04)
def g_e_digit_L4 (N:Nat) (uo:Nat) (un:Nat) (v:List Int) (q:Int):Nat→(List Int)→Int→Int→Option (Int×(List Int))
 | 0,_,_,_=>none
 | fuel+1,cap03,carry2,x3 =>
  (cond (decide (x3 < ((v.length:Nat):Int)))
  ((if 0≤x3∧x3 < ((un:Nat):Int) then
  (if uo+un≤cap03.length then
  (if 0≤x3∧x3 < ((v.length:Nat):Int) then
  g_e_digit_L4 N uo un v q fuel (cap03.set (addz uo (x3).toNat) (IntKind.u16.wrap ((IntKind.u32.wrap (carry2+(IntKind.u32.wrap ((IntKind.u32.wrap ((cap03.getD (addz uo (x3).toNat) 0)))+(IntKind.u32.wrap ((v.getD ((x3).toNat) 0)))))))))) (shrI .u32 (IntKind.u32.wrap (carry2+(IntKind.u32.wrap ((IntKind.u32.wrap ((cap03.getD (addz uo (x3).toNat) 0)))+(IntKind.u32.wrap ((v.getD ((x3).toNat) 0))))))) 16) (w64 (x3+1))
  else none)
  else none)
  else none))
  ((if 0≤((v.length:Nat):Int)∧((v.length:Nat):Int) < ((un:Nat):Int) then
  (if uo+un≤cap03.length then
  g_e_digit_J5 N (cap03.set (addz uo v.length) (IntKind.u16.wrap ((cap03.getD (addz uo v.length) 0)+(IntKind.u16.wrap (carry2))))) (IntKind.u64.wrap (q - 1))
  else none)
  else none)))
def g_e_digit_L2 (N:Nat) (uo:Nat) (un:Nat) (v:List Int) (q:Int):Nat→(List Int)→Int→Int→Int→Option (Int×(List Int))
 | 0,_,_,_,_=>none
 | fuel+1,cap02,carry,borrow,x =>
  (cond (decide (x < (w64 (((v.length:Nat):Int)+1))))
  ((cond (decide (x < ((v.length:Nat):Int)))
  ((if 0≤x∧x < ((v.length:Nat):Int) then
  g_e_digit_J3 N uo un v q cap02 borrow x (g_e_digit_L2 N uo un v q fuel) (IntKind.u64.wrap (carry+(IntKind.u64.wrap (q * (IntKind.u64.wrap ((v.getD ((x).toNat) 0)))))))
  else none))
  (g_e_digit_J3 N uo un v q cap02 borrow x (g_e_digit_L2 N uo un v q fuel) carry)))
  ((cond (decide (borrow < 0))
  (g_e_digit_L4 N uo un v q N cap02 0 0)
  (g_e_digit_J5 N cap02 q))))
def g_e_digit_L1 (N:Nat) (uo:Nat) (un:Nat) (v:List Int) (cap0:List Int):Nat→Int→Int→Option (Int×(List Int))
 | 0,_,_=>none
 | fuel+1,q,rest =>
  (if (((decide (rest < 65536)) && ((decide (rest < 65536)) && (!(decide (q > 65535)))))=true→0≤(w64 (((v.length:Nat):Int) - 2))∧(w64 (((v.length:Nat):Int) - 2)) < ((v.length:Nat):Int)) then
  (if (((decide (rest < 65536)) && ((decide (rest < 65536)) && (!(decide (q > 65535)))))=true→0≤(w64 (((v.length:Nat):Int) - 2))∧(w64 (((v.length:Nat):Int) - 2)) < ((un:Nat):Int)) then
  (if (((decide (rest < 65536)) && ((decide (rest < 65536)) && (!(decide (q > 65535)))))=true→uo+un≤cap0.length) then
  (cond (cond (decide (rest < 65536)) (cond (decide (q > 65535)) true (decide ((IntKind.u64.wrap (q * (IntKind.u64.wrap ((v.getD ((w64 (((v.length:Nat):Int) - 2)).toNat) 0))))) > (orI .u64 (shlI .u64 rest 16) (IntKind.u64.wrap ((cap0.getD (addz uo (w64 (((v.length:Nat):Int) - 2)).toNat) 0))))))) false)
  ((if 0≤(w64 (((v.length:Nat):Int) - 1))∧(w64 (((v.length:Nat):Int) - 1)) < ((v.length:Nat):Int) then
  g_e_digit_L1 N uo un v cap0 fuel (IntKind.u64.wrap (q - 1)) (IntKind.u64.wrap (rest+(IntKind.u64.wrap ((v.getD ((w64 (((v.length:Nat):Int) - 1)).toNat) 0)))))
  else none))
  (g_e_digit_L2 N uo un v q N cap0 0 0 0))
  else none)
  else none)
  else none)
def g_e_digit (N:Nat) (uo:Nat) (un:Nat) (v:List Int) (cap0:List Int):Option (Int×(List Int)) :=
 (if 0≤((v.length:Nat):Int)∧((v.length:Nat):Int) < ((un:Nat):Int) then
 (if uo+un≤cap0.length then
 (if 0≤(w64 (((v.length:Nat):Int) - 1))∧(w64 (((v.length:Nat):Int) - 1)) < ((un:Nat):Int) then
 (if 0≤(w64 (((v.length:Nat):Int) - 1))∧(w64 (((v.length:Nat):Int) - 1)) < ((v.length:Nat):Int) then
 (if ((IntKind.u64.wrap ((v.getD ((w64 (((v.length:Nat):Int) - 1)).toNat) 0))):Int)≠0 then
 g_e_digit_L1 N uo un v cap0 N (IntKind.u64.wrap ((orI .u64 (shlI .u64 (IntKind.u64.wrap ((cap0.getD (addz uo v.length) 0))) 16) (IntKind.u64.wrap ((cap0.getD (addz uo (w64 (((v.length:Nat):Int) - 1)).toNat) 0)))).tdiv (IntKind.u64.wrap ((v.getD ((w64 (((v.length:Nat):Int) - 1)).toNat) 0))))) ((orI .u64 (shlI .u64 (IntKind.u64.wrap ((cap0.getD (addz uo v.length) 0))) 16) (IntKind.u64.wrap ((cap0.getD (addz uo (w64 (((v.length:Nat):Int) - 1)).toNat) 0)))).tmod (IntKind.u64.wrap ((v.getD ((w64 (((v.length:Nat):Int) - 1)).toNat) 0))))
 else none)
 else none)
 else none)
 else none)
 else none)
def g_e_divide_L2 (N:Nat) (b:List Int) (rLeadingZeros:Int) (q:List Int) (u:List Int):Nat→(List Int)→Int→Option ((List Int)×(List Int))
 | 0,_,_=>none
 | fuel+1,vr,x =>
  (cond (decide (x < (((b.length - 0):Nat):Int)))
  ((if 0≤x∧x < ((u.length:Nat):Int) then
  (if 0≤(w64 (x+1))∧(w64 (x+1)) < ((u.length:Nat):Int) then
  (if (0:Int)≤rLeadingZeros then
  (if 0≤x∧x < ((vr.length:Nat):Int) then
  g_e_divide_L2 N b rLeadingZeros q u fuel (vr.set ((x).toNat) (IntKind.u16.wrap ((shrI .u32 (orI .u32 (IntKind.u32.wrap ((u.getD ((x).toNat) 0))) (shlI .u32 (IntKind.u32.wrap ((u.getD ((w64 (x+1)).toNat) 0))) 16)) rLeadingZeros)))) (w64 (x+1))
  else none)
  else none)
  else none)
  else none))
  (((g_e_trim N q).bind fun rtrim2 =>
  ((g_e_trim N vr).bind fun rtrim3 =>
  some (rtrim2,rtrim3)))))
def g_e_divide_L1 (N:Nat) (b:List Int) (rLeadingZeros:Int) (rshifted2:(List Int)):Nat→(List Int)→(List Int)→Int→Option ((List Int)×(List Int))
 | 0,_,_,_=>none
 | fuel+1,q,u,j =>
  (cond (decide (j≥0))
  ((if (j).toNat≤(w64 ((w64 (j+(((b.length - 0):Nat):Int)))+1)).toNat∧(w64 ((w64 (j+(((b.length - 0):Nat):Int)))+1)).toNat≤u.length then
  (if 0≤j then
  (if 0≤(w64 ((w64 (j+(((b.length - 0):Nat):Int)))+1)) then
  (if 0≤b.length∧b.length≤rshifted2.length then
  ((g_e_digit N ((j).toNat) ((w64 ((w64 (j+(((b.length - 0):Nat):Int)))+1)).toNat - (j).toNat) ((rshifted2.take b.length).drop 0) u).bind fun rdigit =>
  (if rdigit.2.length=u.length then
  (if 0≤j∧j < ((q.length:Nat):Int) then
  g_e_divide_L1 N b rLeadingZeros rshifted2 fuel (q.set ((j).toNat) rdigit.1) rdigit.2 (w64 (j - 1))
  else none)
  else none))
  else none)
  else none)
  else none)
  else none))
  ((if 0≤(((b.length - 0):Nat):Int)∧(2:Int) * (((b.length - 0):Nat):Int)≤281474976710656∧(((b.length - 0):Nat):Int)≤9223372036854775807 then
  g_e_divide_L2 N b rLeadingZeros q u N (List.replicate (b.length - 0) 0:List Int) 0
  else none)))
def g_e_divide (N:Nat) (a:List Int) (b:List Int):Option ((List Int)×(List Int)) :=
 ((g_e_compare N a b).bind fun rcompare =>
 (cond (decide (rcompare < 0))
 (((g_slices_Clone_uint16_uint16 N a).bind fun rClone =>
 some (([]:List Int),rClone)))
 ((cond (((b.length:Nat):Int) == 1)
 ((if 0≤(0:Int)∧0 < ((b.length:Nat):Int) then
 ((g_e_short N a (b.getD 0 0)).bind fun rshort =>
 ((g_e_trim N ([rshort.2]:List Int)).bind fun rtrim =>
 some (rshort.1,rtrim)))
 else none))
 ((if 0≤(w64 (((b.length:Nat):Int) - 1))∧(w64 (((b.length:Nat):Int) - 1)) < ((b.length:Nat):Int) then
 ((g_math_bits_LeadingZeros16 N (b.getD ((w64 (((b.length:Nat):Int) - 1)).toNat) 0)).bind fun rLeadingZeros =>
 ((g_e_shifted N a rLeadingZeros).bind fun rshifted =>
 ((g_e_shifted N b rLeadingZeros).bind fun rshifted2 =>
 (if 0≤b.length∧b.length≤rshifted2.length then
 (if 0≤(w64 (((rshifted.length:Nat):Int) - (((b.length - 0):Nat):Int)))∧(2:Int) * (w64 (((rshifted.length:Nat):Int) - (((b.length - 0):Nat):Int)))≤281474976710656∧(w64 (((rshifted.length:Nat):Int) - (((b.length - 0):Nat):Int)))≤9223372036854775807 then
 g_e_divide_L1 N b rLeadingZeros rshifted2 N (List.replicate ((w64 (((rshifted.length:Nat):Int) - (((b.length - 0):Nat):Int))).toNat) 0:List Int) rshifted (w64 ((w64 (((rshifted.length:Nat):Int) - (((b.length - 0):Nat):Int))) - 1))
 else none)
 else none))))
 else none))))))
def g_e_common_L2 (N:Nat) (K_g_e_common_L1:(List Int)→(List Int)→Option ((List Int))):Nat→Int→Int→Option ((List Int))
 | 0,_,_=>none
 | fuel+1,x,y =>
  (cond (decide (y > 0))
  ((if (y:Int)≠0 then
  g_e_common_L2 N K_g_e_common_L1 fuel y (x.tmod y)
  else none))
  (((g_e_natural N x).bind fun rnatural =>
  some rnatural)))
def g_e_common_L1 (N:Nat):Nat→(List Int)→(List Int)→Option ((List Int))
 | 0,_,_=>none
 | fuel+1,a2,b2 =>
  (cond (decide (((b2.length:Nat):Int) > 0))
  (((g_e_word N a2).bind fun rword =>
  ((g_e_word N b2).bind fun rword2 =>
  (cond (cond rword.2 rword2.2 false)
  (g_e_common_L2 N (g_e_common_L1 N fuel) N rword.1 rword2.1)
  (((g_e_divide N a2 b2).bind fun rdivide =>
  g_e_common_L1 N fuel b2 rdivide.2))))))
  (some a2))
def g_e_common (N:Nat) (a:List Int) (b:List Int):Option ((List Int)) :=
 g_e_common_L1 N N a b
def g_e_fraction_J1 (N:Nat) (a:TInt) (b:TInt) (x:List Int) (y:List Int):Option (TRat) :=
 ((g_e_signed N (!(a.f_Neg == b.f_Neg)) x).bind fun rsigned =>
 ((g_e_signed N false y).bind fun rsigned2 =>
 some (⟨rsigned,rsigned2⟩:TRat)))
def g_e_fraction (N:Nat) (a:TInt) (b:TInt):Option (TRat) :=
 ((g_e_trim N a.f_Limbs).bind fun rtrim =>
 ((g_e_trim N b.f_Limbs).bind fun rtrim2 =>
 ((g_e_common N rtrim rtrim2).bind fun rcommon =>
 (if ((!(((rcommon.length:Nat):Int) != 1))=true→0≤(0:Int)∧0 < ((rcommon.length:Nat):Int)) then
 (cond (cond (((rcommon.length:Nat):Int) != 1) true ((rcommon.getD 0 0) != 1))
 (((g_e_divide N rtrim rcommon).bind fun rdivide =>
 ((g_e_divide N rtrim2 rcommon).bind fun rdivide2 =>
 g_e_fraction_J1 N a b rdivide.1 rdivide2.1)))
 (g_e_fraction_J1 N a b rtrim rtrim2))
 else none))))
def g_e_Ratio (N:Nat) (a:Int) (b:Int):Option (TRat×Int) :=
 (cond (b == 0)
 (some ((⟨(⟨false,([]:List Int)⟩:TInt),(⟨false,([]:List Int)⟩:TInt)⟩:TRat),9))
 (((g_e_Of N a).bind fun rOf =>
 ((g_e_Of N b).bind fun rOf2 =>
 ((g_e_fraction N rOf rOf2).bind fun rfraction =>
 some (rfraction,0))))))
def g_survey_ratio (N:Nat) (a:Int) (b:Int):Option (TRat) :=
 ((g_e_Ratio N a b).bind fun rRatio =>
 some rRatio.1)
def g_survey_Speeds_L1 (N:Nat) (cap0:List TRun):Nat→(List TRat)→Int→Option ((List TRat)×Int)
 | 0,_,_=>none
 | fuel+1,out,x =>
  (cond (decide (x < ((cap0.length:Nat):Int)))
  ((if 0≤x∧x < ((cap0.length:Nat):Int) then
  ((g_survey_ratio N ((cap0.getD ((x).toNat) TRun.d).f_Metres) ((cap0.getD ((x).toNat) TRun.d).f_Seconds)).bind fun rratio =>
  (if (out.length+1) * 64≤140737488355328 then
  g_survey_Speeds_L1 N cap0 fuel (out ++ ([rratio]:List TRat)) (w64 (x+1))
  else none))
  else none))
  (some (out,0)))
def g_survey_Speeds (N:Nat) (cap0:List TRun):Option ((List TRat)×Int) :=
 ((g_survey_CheckTrial N cap0).bind fun rCheckTrial =>
 (cond (rCheckTrial != 0)
 (some (([]:List TRat),rCheckTrial))
 (g_survey_Speeds_L1 N cap0 N ([]:List TRat) 0)))
def g_e_sign (N:Nat) (a:TInt):Option (Int) :=
 ((g_e_trim N a.f_Limbs).bind fun rtrim =>
 (cond (((rtrim.length:Nat):Int) == 0)
 (some 0)
 ((cond a.f_Neg
 (some (-1))
 (some 1)))))
def g_e_isZero (N:Nat) (x:TRat):Option (Bool) :=
 ((g_e_sign N x.f_Num).bind fun rsign =>
 some (rsign == 0))
def g_e_below (N:Nat) (x:TRat):Option (TInt) :=
 ((g_e_sign N x.f_Den).bind fun rsign =>
 (cond (rsign == 0)
 (some (⟨false,([1]:List Int)⟩:TInt))
 (some x.f_Den)))
def g_e_lowest (N:Nat) (x:TRat):Option (TRat) :=
 ((g_e_below N x).bind fun rbelow =>
 ((g_e_fraction N x.f_Num rbelow).bind fun rfraction =>
 some rfraction))
def g_e_times_L2 (N:Nat) (a:List Int) (b:List Int) (x:Int) (K_g_e_times_L1:(List Int)→Int→Option ((List Int))):Nat→(List Int)→Int→Int→Option ((List Int))
 | 0,_,_,_=>none
 | fuel+1,out2,carry,x2 =>
  (cond (decide (x2 < ((b.length:Nat):Int)))
  ((if 0≤x2∧x2 < ((b.length:Nat):Int) then
  (if 0≤(w64 (x+x2))∧(w64 (x+x2)) < ((out2.length:Nat):Int) then
  g_e_times_L2 N a b x K_g_e_times_L1 fuel (out2.set ((w64 (x+x2)).toNat) (IntKind.u16.wrap ((IntKind.u32.wrap (carry+(IntKind.u32.wrap ((IntKind.u32.wrap ((IntKind.u32.wrap ((a.getD ((x).toNat) 0))) * (IntKind.u32.wrap ((b.getD ((x2).toNat) 0)))))+(IntKind.u32.wrap ((out2.getD ((w64 (x+x2)).toNat) 0)))))))))) (shrI .u32 (IntKind.u32.wrap (carry+(IntKind.u32.wrap ((IntKind.u32.wrap ((IntKind.u32.wrap ((a.getD ((x).toNat) 0))) * (IntKind.u32.wrap ((b.getD ((x2).toNat) 0)))))+(IntKind.u32.wrap ((out2.getD ((w64 (x+x2)).toNat) 0))))))) 16) (w64 (x2+1))
  else none)
  else none))
  ((if 0≤(w64 (x+((b.length:Nat):Int)))∧(w64 (x+((b.length:Nat):Int))) < ((out2.length:Nat):Int) then
  K_g_e_times_L1 (out2.set ((w64 (x+((b.length:Nat):Int))).toNat) (IntKind.u16.wrap (carry))) (w64 (x+1))
  else none)))
def g_e_times_L1 (N:Nat) (a:List Int) (b:List Int):Nat→(List Int)→Int→Option ((List Int))
 | 0,_,_=>none
 | fuel+1,out,x =>
  (cond (decide (x < ((a.length:Nat):Int)))
  ((if 0≤x∧x < ((a.length:Nat):Int) then
  g_e_times_L2 N a b x (g_e_times_L1 N a b fuel) N out 0 0
  else none))
  (((g_e_trim N out).bind fun rtrim =>
  some rtrim)))
def g_e_times (N:Nat) (a:List Int) (b:List Int):Option ((List Int)) :=
 (if 0≤(w64 (((a.length:Nat):Int)+((b.length:Nat):Int)))∧(2:Int) * (w64 (((a.length:Nat):Int)+((b.length:Nat):Int)))≤281474976710656∧(w64 (((a.length:Nat):Int)+((b.length:Nat):Int)))≤9223372036854775807 then
 g_e_times_L1 N a b N (List.replicate ((w64 (((a.length:Nat):Int)+((b.length:Nat):Int))).toNat) 0:List Int) 0
 else none)
def g_e_Mul (N:Nat) (a:TInt) (b:TInt):Option (TInt) :=
 ((g_e_trim N a.f_Limbs).bind fun rtrim =>
 ((g_e_trim N b.f_Limbs).bind fun rtrim2 =>
 ((g_e_times N rtrim rtrim2).bind fun rtimes =>
 ((g_e_signed N (!(a.f_Neg == b.f_Neg)) rtimes).bind fun rsigned =>
 some rsigned))))
def g_e_plus_J3 (N:Nat) (a2:List Int) (b2:List Int) (out:List Int) (x:Int) (K_g_e_plus_L2:(List Int)→Int→Int→Option ((List Int))) (carry2:Int):Option ((List Int)) :=
 (if (out.length+1) * 2≤140737488355328 then
 K_g_e_plus_L2 (out ++ ([(IntKind.u16.wrap (carry2))]:List Int)) (shrI .u32 carry2 16) (w64 (x+1))
 else none)
def g_e_plus_L2 (N:Nat) (a2:List Int) (b2:List Int):Nat→(List Int)→Int→Int→Option ((List Int))
 | 0,_,_,_=>none
 | fuel+1,out,carry,x =>
  (cond (decide (x < ((a2.length:Nat):Int)))
  ((if 0≤x∧x < ((a2.length:Nat):Int) then
  (cond (decide (x < ((b2.length:Nat):Int)))
  ((if 0≤x∧x < ((b2.length:Nat):Int) then
  g_e_plus_J3 N a2 b2 out x (g_e_plus_L2 N a2 b2 fuel) (IntKind.u32.wrap ((IntKind.u32.wrap (carry+(IntKind.u32.wrap ((a2.getD ((x).toNat) 0)))))+(IntKind.u32.wrap ((b2.getD ((x).toNat) 0)))))
  else none))
  (g_e_plus_J3 N a2 b2 out x (g_e_plus_L2 N a2 b2 fuel) (IntKind.u32.wrap (carry+(IntKind.u32.wrap ((a2.getD ((x).toNat) 0)))))))
  else none))
  ((if (out.length+1) * 2≤140737488355328 then
  ((g_e_trim N (out ++ ([(IntKind.u16.wrap (carry))]:List Int))).bind fun rtrim =>
  some rtrim)
  else none)))
def g_e_plus_J1 (N:Nat) (a2:List Int) (b2:List Int):Option ((List Int)) :=
 (if 0≤(0:Int)∧(2:Int) * (w64 (((a2.length:Nat):Int)+1))≤281474976710656∧(w64 (((a2.length:Nat):Int)+1))≤9223372036854775807∧(0:Int)≤(w64 (((a2.length:Nat):Int)+1)) then
 g_e_plus_L2 N a2 b2 N (List.replicate 0 0:List Int) 0 0
 else none)
def g_e_plus (N:Nat) (a:List Int) (b:List Int):Option ((List Int)) :=
 (cond (decide (((a.length:Nat):Int) < ((b.length:Nat):Int)))
 (g_e_plus_J1 N b a)
 (g_e_plus_J1 N a b))
def g_e_minus_J3 (N:Nat) (a:List Int) (b:List Int) (out:List Int) (x:Int) (y:Int) (K_g_e_minus_L1:(List Int)→Int→Int→Option ((List Int))) (borrow2:Int):Option ((List Int)) :=
 (if 0≤x∧x < ((out.length:Nat):Int) then
 K_g_e_minus_L1 (out.set ((x).toNat) (IntKind.u16.wrap ((IntKind.u32.wrap ((IntKind.u32.wrap ((IntKind.u32.wrap ((a.getD ((x).toNat) 0)))+(shlI .u32 borrow2 16))) - y))))) borrow2 (w64 (x+1))
 else none)
def g_e_minus_J2 (N:Nat) (a:List Int) (b:List Int) (out:List Int) (x:Int) (K_g_e_minus_L1:(List Int)→Int→Int→Option ((List Int))) (y:Int):Option ((List Int)) :=
 (cond (decide ((IntKind.u32.wrap ((a.getD ((x).toNat) 0))) < y))
 (g_e_minus_J3 N a b out x y K_g_e_minus_L1 1)
 (g_e_minus_J3 N a b out x y K_g_e_minus_L1 0))
def g_e_minus_L1 (N:Nat) (a:List Int) (b:List Int):Nat→(List Int)→Int→Int→Option ((List Int))
 | 0,_,_,_=>none
 | fuel+1,out,borrow,x =>
  (cond (decide (x < ((a.length:Nat):Int)))
  ((if 0≤x∧x < ((a.length:Nat):Int) then
  (cond (decide (x < ((b.length:Nat):Int)))
  ((if 0≤x∧x < ((b.length:Nat):Int) then
  g_e_minus_J2 N a b out x (g_e_minus_L1 N a b fuel) (IntKind.u32.wrap (borrow+(IntKind.u32.wrap ((b.getD ((x).toNat) 0)))))
  else none))
  (g_e_minus_J2 N a b out x (g_e_minus_L1 N a b fuel) borrow))
  else none))
  (((g_e_trim N out).bind fun rtrim =>
  some rtrim)))
def g_e_minus (N:Nat) (a:List Int) (b:List Int):Option ((List Int)) :=
 (if 0≤((a.length:Nat):Int)∧(2:Int) * ((a.length:Nat):Int)≤281474976710656∧((a.length:Nat):Int)≤9223372036854775807 then
 g_e_minus_L1 N a b N (List.replicate a.length 0:List Int) 0 0
 else none)
def g_e_Add (N:Nat) (a:TInt) (b:TInt):Option (TInt) :=
 ((g_e_trim N a.f_Limbs).bind fun rtrim =>
 ((g_e_trim N b.f_Limbs).bind fun rtrim2 =>
 (cond (a.f_Neg == b.f_Neg)
 (((g_e_plus N rtrim rtrim2).bind fun rplus =>
 ((g_e_signed N a.f_Neg rplus).bind fun rsigned =>
 some rsigned)))
 (((g_e_compare N rtrim rtrim2).bind fun rcompare =>
 (cond (decide (rcompare≥0))
 (((g_e_minus N rtrim rtrim2).bind fun rminus =>
 ((g_e_signed N a.f_Neg rminus).bind fun rsigned2 =>
 some rsigned2)))
 (((g_e_minus N rtrim2 rtrim).bind fun rminus2 =>
 ((g_e_signed N b.f_Neg rminus2).bind fun rsigned3 =>
 some rsigned3)))))))))
def g_e_AddRat (N:Nat) (x:TRat) (y:TRat):Option (TRat) :=
 ((g_e_isZero N x).bind fun risZero =>
 (cond risZero
 (((g_e_lowest N y).bind fun rlowest =>
 some rlowest))
 (((g_e_isZero N y).bind fun risZero2 =>
 (cond risZero2
 (((g_e_lowest N x).bind fun rlowest2 =>
 some rlowest2))
 (((g_e_below N x).bind fun rbelow =>
 ((g_e_below N y).bind fun rbelow2 =>
 ((g_e_Mul N x.f_Num rbelow2).bind fun rMul =>
 ((g_e_Mul N y.f_Num rbelow).bind fun rMul2 =>
 ((g_e_Add N rMul rMul2).bind fun rAdd =>
 ((g_e_Mul N rbelow rbelow2).bind fun rMul3 =>
 ((g_e_fraction N rAdd rMul3).bind fun rfraction =>
 some rfraction)))))))))))))
def g_e_MulRat (N:Nat) (x:TRat) (y:TRat):Option (TRat) :=
 ((g_e_Mul N x.f_Num y.f_Num).bind fun rMul =>
 ((g_e_below N x).bind fun rbelow =>
 ((g_e_below N y).bind fun rbelow2 =>
 ((g_e_Mul N rbelow rbelow2).bind fun rMul2 =>
 ((g_e_fraction N rMul rMul2).bind fun rfraction =>
 some rfraction)))))
def g_survey_MeanOfMeans_L2 (N:Nat) (cap0:List TRun) (rratio:TRat) (v:List TRat) (K_g_survey_MeanOfMeans_L1:(List TRat)→Option (TRat×Int)):Nat→(List TRat)→Int→Option (TRat×Int)
 | 0,_,_=>none
 | fuel+1,v2,x =>
  (cond (decide (x < (w64 (((v.length:Nat):Int) - 1))))
  ((if 0≤x∧x < ((v2.length:Nat):Int) then
  (if 0≤(w64 (x+1))∧(w64 (x+1)) < ((v2.length:Nat):Int) then
  ((g_e_AddRat N (⟨((v2.getD ((x).toNat) TRat.d).f_Num),((v2.getD ((x).toNat) TRat.d).f_Den)⟩:TRat) (⟨((v2.getD ((w64 (x+1)).toNat) TRat.d).f_Num),((v2.getD ((w64 (x+1)).toNat) TRat.d).f_Den)⟩:TRat)).bind fun rAddRat =>
  ((g_e_MulRat N rratio rAddRat).bind fun rMulRat =>
  g_survey_MeanOfMeans_L2 N cap0 rratio v K_g_survey_MeanOfMeans_L1 fuel (v2.set ((x).toNat) rMulRat) (w64 (x+1))))
  else none)
  else none))
  ((if 0≤(w64 (((v2.length:Nat):Int) - 1)).toNat∧(w64 (((v2.length:Nat):Int) - 1)).toNat≤v2.length then
  (if 0≤(w64 (((v2.length:Nat):Int) - 1)) then
  (if (w64 (((v2.length:Nat):Int) - 1)).toNat≤v2.length then
  K_g_survey_MeanOfMeans_L1 (v2.take ((w64 (((v2.length:Nat):Int) - 1)).toNat))
  else none)
  else none)
  else none)))
def g_survey_MeanOfMeans_L1 (N:Nat) (cap0:List TRun) (rratio:TRat):Nat→(List TRat)→Option (TRat×Int)
 | 0,_=>none
 | fuel+1,v =>
  (cond (decide (((v.length:Nat):Int) > 1))
  (g_survey_MeanOfMeans_L2 N cap0 rratio v (g_survey_MeanOfMeans_L1 N cap0 rratio fuel) N v 0)
  ((if 0≤(0:Int)∧0 < ((v.length:Nat):Int) then
  some ((⟨((v.getD 0 TRat.d).f_Num),((v.getD 0 TRat.d).f_Den)⟩:TRat),0)
  else none)))
def g_survey_MeanOfMeans (N:Nat) (cap0:List TRun):Option (TRat×Int) :=
 ((g_survey_Speeds N cap0).bind fun rSpeeds =>
 (cond (rSpeeds.2 != 0)
 (some ((⟨(⟨false,([]:List Int)⟩:TInt),(⟨false,([]:List Int)⟩:TInt)⟩:TRat),rSpeeds.2))
 (((g_survey_ratio N 1 2).bind fun rratio =>
 g_survey_MeanOfMeans_L1 N cap0 rratio N rSpeeds.1))))
def g_e_opposite (N:Nat) (a:TInt):Option (TInt) :=
 some (⟨(!a.f_Neg),a.f_Limbs⟩:TInt)
def g_e_negative (N:Nat) (x:TRat):Option (TRat) :=
 ((g_e_opposite N x.f_Num).bind fun ropposite =>
 ((g_e_below N x).bind fun rbelow =>
 ((g_e_fraction N ropposite rbelow).bind fun rfraction =>
 some rfraction)))
def g_e_SubRat (N:Nat) (x:TRat) (y:TRat):Option (TRat) :=
 ((g_e_negative N y).bind fun rnegative =>
 ((g_e_AddRat N x rnegative).bind fun rAddRat =>
 some rAddRat))
def g_survey_Currents_J2 (N:Nat) (cap0:List TRun) (rMeanOfMeans:TRat×Int) (rSpeeds:(List TRat)×Int) (x:Int) (K_g_survey_Currents_L1:(List TRat)→Int→Option ((List TRat)×Int)) (v2:List TRat):Option ((List TRat)×Int) :=
 K_g_survey_Currents_L1 v2 (w64 (x+1))
def g_survey_Currents_L1 (N:Nat) (cap0:List TRun) (rMeanOfMeans:TRat×Int) (rSpeeds:(List TRat)×Int):Nat→(List TRat)→Int→Option ((List TRat)×Int)
 | 0,_,_=>none
 | fuel+1,v,x =>
  (cond (decide (x < ((rSpeeds.1.length:Nat):Int)))
  ((if 0≤x∧x < ((cap0.length:Nat):Int) then
  (cond ((cap0.getD ((x).toNat) TRun.d).f_Back)
  ((if 0≤x∧x < ((v.length:Nat):Int) then
  ((g_e_SubRat N rMeanOfMeans.1 (⟨((v.getD ((x).toNat) TRat.d).f_Num),((v.getD ((x).toNat) TRat.d).f_Den)⟩:TRat)).bind fun rSubRat =>
  g_survey_Currents_J2 N cap0 rMeanOfMeans rSpeeds x (g_survey_Currents_L1 N cap0 rMeanOfMeans rSpeeds fuel) (v.set ((x).toNat) rSubRat))
  else none))
  ((if 0≤x∧x < ((v.length:Nat):Int) then
  ((g_e_SubRat N (⟨((v.getD ((x).toNat) TRat.d).f_Num),((v.getD ((x).toNat) TRat.d).f_Den)⟩:TRat) rMeanOfMeans.1).bind fun rSubRat2 =>
  g_survey_Currents_J2 N cap0 rMeanOfMeans rSpeeds x (g_survey_Currents_L1 N cap0 rMeanOfMeans rSpeeds fuel) (v.set ((x).toNat) rSubRat2))
  else none)))
  else none))
  (some (v,0)))
def g_survey_Currents (N:Nat) (cap0:List TRun):Option ((List TRat)×Int) :=
 ((g_survey_MeanOfMeans N cap0).bind fun rMeanOfMeans =>
 (cond (rMeanOfMeans.2 != 0)
 (some (([]:List TRat),rMeanOfMeans.2))
 (((g_survey_Speeds N cap0).bind fun rSpeeds =>
 g_survey_Currents_L1 N cap0 rMeanOfMeans rSpeeds N rSpeeds.1 0))))
def g_b_limbs_L1 (N:Nat):Nat→Int→(List Int)→Option ((List Int))
 | 0,_,_=>none
 | fuel+1,n2,out =>
  (cond (decide (n2 > 0))
  ((if (out.length+1) * 2≤140737488355328 then
  g_b_limbs_L1 N fuel (shrI .u64 n2 16) (out ++ ([(IntKind.u16.wrap ((andI .u64 n2 65535)))]:List Int))
  else none))
  (some out))
def g_b_limbs (N:Nat) (n:Int):Option ((List Int)) :=
 g_b_limbs_L1 N N n ([]:List Int)
def g_b_Z (N:Nat) (n:Int):Option (TInt) :=
 (cond (decide (n < 0))
 (((g_b_limbs N (IntKind.u64.wrap ((IntKind.u64.wrap ((w64 (0 - (w64 (n+1))))))+1))).bind fun rlimbs =>
 some (⟨true,rlimbs⟩:TInt)))
 (((g_b_limbs N (IntKind.u64.wrap (n))).bind fun rlimbs2 =>
 some (⟨false,rlimbs2⟩:TInt))))
def g_b_Q_L2 (N:Nat) (a2:Int) (b2:Int):Nat→Int→Int→Option (TRat)
 | 0,_,_=>none
 | fuel+1,x,y =>
  (cond (decide (y > 0))
  ((if (y:Int)≠0 then
  g_b_Q_L2 N a2 b2 fuel y (x.tmod y)
  else none))
  ((if (x:Int)≠0 then
  ((g_b_Z N (w64 (a2.tdiv x))).bind fun rZ =>
  ((g_b_Z N (w64 (b2.tdiv x))).bind fun rZ2 =>
  some (⟨rZ,rZ2⟩:TRat)))
  else none)))
def g_b_Q_J1 (N:Nat) (a2:Int) (b2:Int):Option (TRat) :=
 (cond (decide (a2 < 0))
 (g_b_Q_L2 N a2 b2 N (w64 (0 - a2)) b2)
 (g_b_Q_L2 N a2 b2 N a2 b2))
def g_b_Q (N:Nat) (a:Int) (b:Int):Option (TRat) :=
 (cond (decide (b < 0))
 (g_b_Q_J1 N (w64 (0 - a)) (w64 (0 - b)))
 (g_b_Q_J1 N a b))
def g_b_SameInt_L1 (N:Nat) (a:TInt) (b:TInt):Nat→Int→Option (Bool)
 | 0,_=>none
 | fuel+1,i =>
  (cond (decide (i < ((a.f_Limbs.length:Nat):Int)))
  ((if 0≤i∧i < ((a.f_Limbs.length:Nat):Int) then
  (if 0≤i∧i < ((b.f_Limbs.length:Nat):Int) then
  (cond ((a.f_Limbs.getD ((i).toNat) 0) != (b.f_Limbs.getD ((i).toNat) 0))
  (some false)
  (g_b_SameInt_L1 N a b fuel (w64 (i+1))))
  else none)
  else none))
  (some true))
def g_b_SameInt (N:Nat) (a:TInt) (b:TInt):Option (Bool) :=
 (cond (cond (!(a.f_Neg == b.f_Neg)) true (((a.f_Limbs.length:Nat):Int) != ((b.f_Limbs.length:Nat):Int)))
 (some false)
 (g_b_SameInt_L1 N a b N 0))
def g_b_SameRat (N:Nat) (a:TRat) (b:TRat):Option (Bool) :=
 ((g_b_SameInt N a.f_Num b.f_Num).bind fun rSameInt =>
 ((cond rSameInt (g_b_SameInt N a.f_Den b.f_Den) (some false)).bind fun rSameInt2 =>
 some (cond rSameInt rSameInt2 false)))
def g_keelblocktop_TopMeanOfMeans_J4 (N:Nat) (d:Tkeelblocktop_Drift) (runs:Int) (back:Bool) (l:List TRun) (i:Int) (K_g_keelblocktop_TopMeanOfMeans_L2:(List TRun)→Int→Option (Bool)) (c4:Int):Option (Bool) :=
 (cond (cond (decide ((w64 (d.f_V+c4)) < 1)) true (decide ((w64 (d.f_V+c4)) > 100000)))
 (some true)
 ((if (l.length+1) * 32≤140737488355328 then
 K_g_keelblocktop_TopMeanOfMeans_L2 (l ++ ([(⟨(w64 (2000 * i)),d.f_D,(w64 (d.f_V+c4)),(!(back == ((i.tmod 2) == 1)))⟩:TRun)]:List TRun)) (w64 (i+1))
 else none)))
def g_keelblocktop_TopMeanOfMeans_J3 (N:Nat) (d:Tkeelblocktop_Drift) (runs:Int) (back:Bool) (l:List TRun) (i:Int) (K_g_keelblocktop_TopMeanOfMeans_L2:(List TRun)→Int→Option (Bool)) (c3:Int):Option (Bool) :=
 (cond back
 (g_keelblocktop_TopMeanOfMeans_J4 N d runs back l i K_g_keelblocktop_TopMeanOfMeans_L2 (w64 (0 - c3)))
 (g_keelblocktop_TopMeanOfMeans_J4 N d runs back l i K_g_keelblocktop_TopMeanOfMeans_L2 c3))
def g_keelblocktop_TopMeanOfMeans_L5 (N:Nat) (d:Tkeelblocktop_Drift) (runs:Int) (rCurrents:(List TRat)×Int):Nat→Int→Option (Bool)
 | 0,_=>none
 | fuel+1,i2 =>
  (cond (decide (i2 < (w64 (2+((w64 (runs)).tmod 5)))))
  ((if 0≤i2∧i2 < ((rCurrents.1.length:Nat):Int) then
  ((g_keelblocktop_Drift_value N d i2 (w64 ((w64 (2+((w64 (runs)).tmod 5))) - 1))).bind fun rvalue2 =>
  ((g_b_Q N rvalue2 d.f_D).bind fun rQ2 =>
  ((g_b_SameRat N (⟨((rCurrents.1.getD ((i2).toNat) TRat.d).f_Num),((rCurrents.1.getD ((i2).toNat) TRat.d).f_Den)⟩:TRat) rQ2).bind fun rSameRat2 =>
  (cond (!rSameRat2)
  (some false)
  (g_keelblocktop_TopMeanOfMeans_L5 N d runs rCurrents fuel (w64 (i2+1)))))))
  else none))
  (some true))
def g_keelblocktop_TopMeanOfMeans_L2 (N:Nat) (d:Tkeelblocktop_Drift) (runs:Int) (back:Bool):Nat→(List TRun)→Int→Option (Bool)
 | 0,_,_=>none
 | fuel+1,l,i =>
  (cond (decide (i < (w64 (2+((w64 (runs)).tmod 5)))))
  (((g_keelblocktop_Drift_value N d i (w64 ((w64 (2+((w64 (runs)).tmod 5))) - 1))).bind fun rvalue =>
  (cond ((i.tmod 2) == 1)
  (g_keelblocktop_TopMeanOfMeans_J3 N d runs back l i (g_keelblocktop_TopMeanOfMeans_L2 N d runs back fuel) (w64 (0 - rvalue)))
  (g_keelblocktop_TopMeanOfMeans_J3 N d runs back l i (g_keelblocktop_TopMeanOfMeans_L2 N d runs back fuel) rvalue))))
  (((g_survey_MeanOfMeans N l).bind fun rMeanOfMeans =>
  ((g_survey_Currents N l).bind fun rCurrents =>
  ((cond (!(cond (rMeanOfMeans.2 != 0) true (rCurrents.2 != 0))) (g_b_Q N d.f_V d.f_D) (some TRat.d)).bind fun rQ =>
  ((cond (!(cond (rMeanOfMeans.2 != 0) true (rCurrents.2 != 0))) (g_b_SameRat N rMeanOfMeans.1 rQ) (some false)).bind fun rSameRat =>
  (cond (cond (cond (cond (rMeanOfMeans.2 != 0) true (rCurrents.2 != 0)) true (!rSameRat)) true (((rCurrents.1.length:Nat):Int) != (w64 (2+((w64 (runs)).tmod 5)))))
  (some false)
  (g_keelblocktop_TopMeanOfMeans_L5 N d runs rCurrents N 0))))))))
def g_keelblocktop_TopMeanOfMeans_L1 (N:Nat) (d:Tkeelblocktop_Drift) (runs:Int) (back:Bool):Nat→Int→Option (Bool)
 | 0,_=>none
 | fuel+1,k =>
  (cond (decide (k < 5))
  ((if 0≤k∧k < ((5:Nat):Int) then
  (if ((!(decide ((pickI [d.f_A.e0,d.f_A.e1,d.f_A.e2,d.f_A.e3,d.f_A.e4] ((k).toNat)) < (-20))))=true→0≤k∧k < ((5:Nat):Int)) then
  (cond (cond (decide ((pickI [d.f_A.e0,d.f_A.e1,d.f_A.e2,d.f_A.e3,d.f_A.e4] ((k).toNat)) < (-20))) true (decide ((pickI [d.f_A.e0,d.f_A.e1,d.f_A.e2,d.f_A.e3,d.f_A.e4] ((k).toNat)) > 20)))
  (some true)
  (g_keelblocktop_TopMeanOfMeans_L1 N d runs back fuel (w64 (k+1))))
  else none)
  else none))
  (g_keelblocktop_TopMeanOfMeans_L2 N d runs back N ([]:List TRun) 0))
def g_keelblocktop_TopMeanOfMeans (N:Nat) (d:Tkeelblocktop_Drift) (runs:Int) (back:Bool):Option (Bool) :=
 (cond (!true)
 (some false)
 ((cond (cond (cond (cond (decide (d.f_D < 1)) true (decide (d.f_D > 1000))) true (decide (d.f_V < 1))) true (decide (d.f_V > 50000)))
 (some true)
 (g_keelblocktop_TopMeanOfMeans_L1 N d runs back N 0))))
end Go.Den
