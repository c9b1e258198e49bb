/- The functions of the program as Lean functions, each in the Option monad; N bounds the rounds of loops. No conditions. -/
import Derived.Test.YtakkcneiophofaaCd
set_option linter.unusedVariables false
set_option linter.unusedSimpArgs false
set_option linter.unusedVariables false
namespace Go.Den
open Go.Ab
structure TInt where
 fG:Bool
 fL:List Int
def TInt.d:TInt:=⟨false,[]⟩
def TInt.wf (x:TInt):Prop:=wB x.fG∧(wL (wK .u16)) x.fL
def TInt.cells (x:TInt):List AV:=[(aB x.fG),(encL (cU .u16) 0 x.fL)]
structure TRat where
 fN:TInt
 fD:TInt
def TRat.d:TRat:=⟨TInt.d,TInt.d⟩
def TRat.wf (x:TRat):Prop:=TInt.wf x.fN∧TInt.wf x.fD
def TRat.cells (x:TRat):List AV:=[(aB x.fN.fG),(encL (cU .u16) 0 x.fN.fL),(aB x.fD.fG),(encL (cU .u16) 0 x.fD.fL)]
structure TCurve where
 f_Starts:List Int
 f_Slopes:List TRat
def TCurve.d:TCurve:=⟨[],[]⟩
def TCurve.wf (x:TCurve):Prop:=(wL wI) x.f_Starts∧(wL TRat.wf) x.f_Slopes
def TCurve.cells (x:TCurve):List AV:=[(encL cI 0 x.f_Starts),(encL TRat.cells TRat.d x.f_Slopes)]
structure TS__2_int where
 e0:Int
 e1:Int
def TS__2_int.d:TS__2_int:=⟨0,0⟩
def TS__2_int.wf (x:TS__2_int):Prop:=wI x.e0∧wI x.e1
def TS__2_int.cells (x:TS__2_int):List AV:=[(aI x.e0),(aI x.e1)]
structure TRow where
 f_Coefs:List TRat
 f_Bound:TRat
def TRow.d:TRow:=⟨[],TRat.d⟩
def TRow.wf (x:TRow):Prop:=(wL TRat.wf) x.f_Coefs∧TRat.wf x.f_Bound
def TRow.cells (x:TRow):List AV:=[(encL TRat.cells TRat.d x.f_Coefs),(aB x.f_Bound.fN.fG),(encL (cU .u16) 0 x.f_Bound.fN.fL),(aB x.f_Bound.fD.fG),(encL (cU .u16) 0 x.f_Bound.fD.fL)]
structure Tw01_Problem where
 f_N:Int
 f_L:List TRow
def Tw01_Problem.d:Tw01_Problem:=⟨0,[]⟩
def Tw01_Problem.wf (x:Tw01_Problem):Prop:=wI x.f_N∧(wL TRow.wf) x.f_L
def Tw01_Problem.cells (x:Tw01_Problem):List AV:=[(aI x.f_N),(encL TRow.cells TRow.d x.f_L)]
structure TBest where
 f_Value:TRat
 f_Point:List TRat
 f_Multipliers:List TRat
def TBest.d:TBest:=⟨TRat.d,[],[]⟩
def TBest.wf (x:TBest):Prop:=TRat.wf x.f_Value∧(wL TRat.wf) x.f_Point∧(wL TRat.wf) x.f_Multipliers
def TBest.cells (x:TBest):List AV:=[(aB x.f_Value.fN.fG),(encL (cU .u16) 0 x.f_Value.fN.fL),(aB x.f_Value.fD.fG),(encL (cU .u16) 0 x.f_Value.fD.fL),(encL TRat.cells TRat.d x.f_Point),(encL TRat.cells TRat.d x.f_Multipliers)]
def g_b_limbs_L1 (N:Nat):Nat→Int→(List Int)→Option ((List Int))
 | 0,_,_=>none
 | fuel+1,n2,out =>
  (cond (decide (n2 > 0))
  ((if (out.length+1) * 2≤140737488355328 then
  g_b_limbs_L1 N fuel (shrI .u64 n2 16) (out ++ ([(IntKind.u16.wrap ((andI .u64 n2 65535)))]:List Int))
  else none))
  (some out))
def g_b_limbs (N:Nat) (n:Int):Option ((List Int)) :=
 g_b_limbs_L1 N N n ([]:List Int)
def g_b_Z (N:Nat) (n:Int):Option (TInt) :=
 (cond (decide (n < 0))
 (((g_b_limbs N (IntKind.u64.wrap ((IntKind.u64.wrap ((w64 (0 - (w64 (n+1))))))+1))).bind fun rlimbs =>
 some (⟨true,rlimbs⟩:TInt)))
 (((g_b_limbs N (IntKind.u64.wrap (n))).bind fun rlimbs2 =>
 some (⟨false,rlimbs2⟩:TInt))))
def g_e_trim_L1 (N:Nat):Nat→(List Int)→Option ((List Int))
 | 0,_=>none
 | fuel+1,n2 =>
  (if ((decide (((n2.length:Nat):Int) > 0))=true→0≤(w64 (((n2.length:Nat):Int) - 1))∧(w64 (((n2.length:Nat):Int) - 1)) < ((n2.length:Nat):Int)) then
  (cond (cond (decide (((n2.length:Nat):Int) > 0)) ((n2.getD ((w64 (((n2.length:Nat):Int) - 1)).toNat) 0) == 0) false)
  ((if 0≤(w64 (((n2.length:Nat):Int) - 1)).toNat∧(w64 (((n2.length:Nat):Int) - 1)).toNat≤n2.length then
  (if 0≤(w64 (((n2.length:Nat):Int) - 1)) then
  g_e_trim_L1 N fuel ((n2.take ((w64 (((n2.length:Nat):Int) - 1)).toNat)).drop 0)
  else none)
  else none))
  (some n2))
  else none)
def g_e_trim (N:Nat) (n:List Int):Option ((List Int)) :=
 g_e_trim_L1 N N n
def g_e_compare_L1 (N:Nat) (a:List Int) (b:List Int):Nat→Int→Option (Int)
 | 0,_=>none
 | fuel+1,i =>
  (cond (decide (i≥0))
  ((if 0≤i∧i < ((a.length:Nat):Int) then
  (if 0≤i∧i < ((b.length:Nat):Int) then
  (cond ((a.getD ((i).toNat) 0) != (b.getD ((i).toNat) 0))
  (some (w64 ((w64 ((a.getD ((i).toNat) 0))) - (w64 ((b.getD ((i).toNat) 0))))))
  (g_e_compare_L1 N a b fuel (w64 (i - 1))))
  else none)
  else none))
  (some 0))
def g_e_compare (N:Nat) (a:List Int) (b:List Int):Option (Int) :=
 (cond (((a.length:Nat):Int) != ((b.length:Nat):Int))
 (some (w64 (((a.length:Nat):Int) - ((b.length:Nat):Int))))
 (g_e_compare_L1 N a b N (w64 (((a.length:Nat):Int) - 1))))
def g_slices_Clone_uint16_uint16 (N:Nat) (s:List Int):Option ((List Int)) :=
 (if (0+s.length) * 2≤140737488355328 then
 some (([]:List Int) ++ s)
 else none)
def g_e_short_L1 (N:Nat) (a:List Int) (b:Int):Nat→(List Int)→Int→Int→Option ((List Int)×Int)
 | 0,_,_,_=>none
 | fuel+1,q,rest,i =>
  (cond (decide (i≥0))
  ((if 0≤i∧i < ((a.length:Nat):Int) then
  (if ((IntKind.u32.wrap (b)):Int)≠0 then
  (if 0≤i∧i < ((q.length:Nat):Int) then
  g_e_short_L1 N a b fuel (q.set ((i).toNat) (IntKind.u16.wrap ((IntKind.u32.wrap ((orI .u32 (shlI .u32 rest 16) (IntKind.u32.wrap ((a.getD ((i).toNat) 0)))).tdiv (IntKind.u32.wrap (b))))))) ((orI .u32 (shlI .u32 rest 16) (IntKind.u32.wrap ((a.getD ((i).toNat) 0)))).tmod (IntKind.u32.wrap (b))) (w64 (i - 1))
  else none)
  else none)
  else none))
  (((g_e_trim N q).bind fun rtrim =>
  some (rtrim,(IntKind.u16.wrap (rest))))))
def g_e_short (N:Nat) (a:List Int) (b:Int):Option ((List Int)×Int) :=
 (if 0≤((a.length:Nat):Int)∧(2:Int) * ((a.length:Nat):Int)≤281474976710656∧((a.length:Nat):Int)≤9223372036854775807 then
 g_e_short_L1 N a b N (List.replicate a.length 0:List Int) 0 (w64 (((a.length:Nat):Int) - 1))
 else none)
def g_math_bits_Len16_J1 (N:Nat) (x2:Int) (n:Int):Option (Int) :=
 (if 0≤(IntKind.u8.wrap (x2))∧(IntKind.u8.wrap (x2)) < (((⟨#[0,1,2,2,3,3,3,3,4,4,4,4,4,4,4,4,5,5,5,5,5,5,5,5,5,5,5,5,5,5,5,5,6,6,6,6,6,6,6,6,6,6,6,6,6,6,6,6,6,6,6,6,6,6,6,6,6,6,6,6,6,6,6,6,7,7,7,7,7,7,7,7,7,7,7,7,7,7,7,7,7,7,7,7,7,7,7,7,7,7,7,7,7,7,7,7,7,7,7,7,7,7,7,7,7,7,7,7,7,7,7,7,7,7,7,7,7,7,7,7,7,7,7,7,7,7,7,7,8,8,8,8,8,8,8,8,8,8,8,8,8,8,8,8,8,8,8,8,8,8,8,8,8,8,8,8,8,8,8,8,8,8,8,8,8,8,8,8,8,8,8,8,8,8,8,8,8,8,8,8,8,8,8,8,8,8,8,8,8,8,8,8,8,8,8,8,8,8,8,8,8,8,8,8,8,8,8,8,8,8,8,8,8,8,8,8,8,8,8,8,8,8,8,8,8,8,8,8,8,8,8,8,8,8,8,8,8,8,8,8,8,8,8,8,8,8,8,8,8,8,8,8,8,8,8,8]⟩:ByteArray).size:Nat):Int) then
 some (w64 (n+(w64 ((byteAt (⟨#[0,1,2,2,3,3,3,3,4,4,4,4,4,4,4,4,5,5,5,5,5,5,5,5,5,5,5,5,5,5,5,5,6,6,6,6,6,6,6,6,6,6,6,6,6,6,6,6,6,6,6,6,6,6,6,6,6,6,6,6,6,6,6,6,7,7,7,7,7,7,7,7,7,7,7,7,7,7,7,7,7,7,7,7,7,7,7,7,7,7,7,7,7,7,7,7,7,7,7,7,7,7,7,7,7,7,7,7,7,7,7,7,7,7,7,7,7,7,7,7,7,7,7,7,7,7,7,7,8,8,8,8,8,8,8,8,8,8,8,8,8,8,8,8,8,8,8,8,8,8,8,8,8,8,8,8,8,8,8,8,8,8,8,8,8,8,8,8,8,8,8,8,8,8,8,8,8,8,8,8,8,8,8,8,8,8,8,8,8,8,8,8,8,8,8,8,8,8,8,8,8,8,8,8,8,8,8,8,8,8,8,8,8,8,8,8,8,8,8,8,8,8,8,8,8,8,8,8,8,8,8,8,8,8,8,8,8,8,8,8,8,8,8,8,8,8,8,8,8,8,8,8,8,8,8,8]⟩:ByteArray) ((IntKind.u8.wrap (x2)).toNat))))))
 else none)
def g_math_bits_Len16 (N:Nat) (x:Int):Option (Int) :=
 (cond (decide (x≥256))
 (g_math_bits_Len16_J1 N (shrI .u16 x 8) 8)
 (g_math_bits_Len16_J1 N x 0))
def g_math_bits_LeadingZeros16 (N:Nat) (x:Int):Option (Int) :=
 ((g_math_bits_Len16 N x).bind fun rLen16 =>
 some (w64 (16 - rLen16)))
def g_e_shifted_L1 (N:Nat) (a:List Int) (vby:Int):Nat→(List Int)→Int→Option ((List Int))
 | 0,_,_=>none
 | fuel+1,out,x =>
  (cond (decide (x < ((a.length:Nat):Int)))
  ((if 0≤x∧x < ((a.length:Nat):Int) then
  (if (0:Int)≤vby then
  (if 0≤x∧x < ((out.length:Nat):Int) then
  (if 0≤(w64 (x+1))∧(w64 (x+1)) < (((out.set ((x).toNat) (orI .u16 (out.getD ((x).toNat) 0) (IntKind.u16.wrap ((shlI .u32 (IntKind.u32.wrap ((a.getD ((x).toNat) 0))) vby))))).length:Nat):Int) then
  g_e_shifted_L1 N a vby fuel ((out.set ((x).toNat) (orI .u16 (out.getD ((x).toNat) 0) (IntKind.u16.wrap ((shlI .u32 (IntKind.u32.wrap ((a.getD ((x).toNat) 0))) vby))))).set ((w64 (x+1)).toNat) (IntKind.u16.wrap ((shrI .u32 (shlI .u32 (IntKind.u32.wrap ((a.getD ((x).toNat) 0))) vby) 16)))) (w64 (x+1))
  else none)
  else none)
  else none)
  else none))
  (some out))
def g_e_shifted (N:Nat) (a:List Int) (vby:Int):Option ((List Int)) :=
 (if 0≤(w64 (((a.length:Nat):Int)+1))∧(2:Int) * (w64 (((a.length:Nat):Int)+1))≤281474976710656∧(w64 (((a.length:Nat):Int)+1))≤9223372036854775807 then
 g_e_shifted_L1 N a vby N (List.replicate ((w64 (((a.length:Nat):Int)+1)).toNat) 0:List Int) 0
 else none)
def g_e_digit_J3 (N:Nat) (uo:Nat) (un:Nat) (v:List Int) (q:Int) (cap02:List Int) (borrow:Int) (x:Int) (K_g_e_digit_L2:(List Int)→Int→Int→Int→Option (Int×(List Int))) (x2:Int):Option (Int×(List Int)) :=
 (if 0≤x∧x < ((un:Nat):Int) then
 (if uo+un≤cap02.length then
 K_g_e_digit_L2 (cap02.set (addz uo (x).toNat) (IntKind.u16.wrap ((w64 ((w64 ((w64 ((cap02.getD (addz uo (x).toNat) 0))) - (w64 ((andI .u64 x2 65535)))))+borrow))))) (shrI .u64 x2 16) (shrI .i64 (w64 ((w64 ((w64 ((cap02.getD (addz uo (x).toNat) 0))) - (w64 ((andI .u64 x2 65535)))))+borrow)) 16) (w64 (x+1))
 else none)
 else none)
def g_e_digit_J5 (N:Nat) (cap04:List Int) (q2:Int):Option (Int×(List Int)) :=
 some ((IntKind.u16.wrap (q2)),cap04)
def g_e_digit_L4 (N:Nat) (uo:Nat) (un:Nat) (v:List Int) (q:Int):Nat→(List Int)→Int→Int→Option (Int×(List Int))
 | 0,_,_,_=>none
 | fuel+1,cap03,carry2,x3 =>
  (cond (decide (x3 < ((v.length:Nat):Int)))
  ((if 0≤x3∧x3 < ((un:Nat):Int) then
  (if uo+un≤cap03.length then
  (if 0≤x3∧x3 < ((v.length:Nat):Int) then
  g_e_digit_L4 N uo un v q fuel (cap03.set (addz uo (x3).toNat) (IntKind.u16.wrap ((IntKind.u32.wrap (carry2+(IntKind.u32.wrap ((IntKind.u32.wrap ((cap03.getD (addz uo (x3).toNat) 0)))+(IntKind.u32.wrap ((v.getD ((x3).toNat) 0)))))))))) (shrI .u32 (IntKind.u32.wrap (carry2+(IntKind.u32.wrap ((IntKind.u32.wrap ((cap03.getD (addz uo (x3).toNat) 0)))+(IntKind.u32.wrap ((v.getD ((x3).toNat) 0))))))) 16) (w64 (x3+1))
  else none)
  else none)
  else none))
  ((if 0≤((v.length:Nat):Int)∧((v.length:Nat):Int) < ((un:Nat):Int) then
  (if uo+un≤cap03.length then
  g_e_digit_J5 N (cap03.set (addz uo v.length) (IntKind.u16.wrap ((cap03.getD (addz uo v.length) 0)+(IntKind.u16.wrap (carry2))))) (IntKind.u64.wrap (q - 1))
  else none)
  else none)))
def g_e_digit_L2 (N:Nat) (uo:Nat) (un:Nat) (v:List Int) (q:Int):Nat→(List Int)→Int→Int→Int→Option (Int×(List Int))
 | 0,_,_,_,_=>none
 | fuel+1,cap02,carry,borrow,x =>
  (cond (decide (x < (w64 (((v.length:Nat):Int)+1))))
  ((cond (decide (x < ((v.length:Nat):Int)))
  ((if 0≤x∧x < ((v.length:Nat):Int) then
  g_e_digit_J3 N uo un v q cap02 borrow x (g_e_digit_L2 N uo un v q fuel) (IntKind.u64.wrap (carry+(IntKind.u64.wrap (q * (IntKind.u64.wrap ((v.getD ((x).toNat) 0)))))))
  else none))
  (g_e_digit_J3 N uo un v q cap02 borrow x (g_e_digit_L2 N uo un v q fuel) carry)))
  ((cond (decide (borrow < 0))
  (g_e_digit_L4 N uo un v q N cap02 0 0)
  (g_e_digit_J5 N cap02 q))))
def g_e_digit_L1 (N:Nat) (uo:Nat) (un:Nat) (v:List Int) (cap0:List Int):Nat→Int→Int→Option (Int×(List Int))
 | 0,_,_=>none
 | fuel+1,q,rest =>
  (if (((decide (rest < 65536)) && ((decide (rest < 65536)) && (!(decide (q > 65535)))))=true→0≤(w64 (((v.length:Nat):Int) - 2))∧(w64 (((v.length:Nat):Int) - 2)) < ((v.length:Nat):Int)) then
  (if (((decide (rest < 65536)) && ((decide (rest < 65536)) && (!(decide (q > 65535)))))=true→0≤(w64 (((v.length:Nat):Int) - 2))∧(w64 (((v.length:Nat):Int) - 2)) < ((un:Nat):Int)) then
  (if (((decide (rest < 65536)) && ((decide (rest < 65536)) && (!(decide (q > 65535)))))=true→uo+un≤cap0.length) then
  (cond (cond (decide (rest < 65536)) (cond (decide (q > 65535)) true (decide ((IntKind.u64.wrap (q * (IntKind.u64.wrap ((v.getD ((w64 (((v.length:Nat):Int) - 2)).toNat) 0))))) > (orI .u64 (shlI .u64 rest 16) (IntKind.u64.wrap ((cap0.getD (addz uo (w64 (((v.length:Nat):Int) - 2)).toNat) 0))))))) false)
  ((if 0≤(w64 (((v.length:Nat):Int) - 1))∧(w64 (((v.length:Nat):Int) - 1)) < ((v.length:Nat):Int) then
  g_e_digit_L1 N uo un v cap0 fuel (IntKind.u64.wrap (q - 1)) (IntKind.u64.wrap (rest+(IntKind.u64.wrap ((v.getD ((w64 (((v.length:Nat):Int) - 1)).toNat) 0)))))
  else none))
  (g_e_digit_L2 N uo un v q N cap0 0 0 0))
  else none)
  else none)
  else none)
def g_e_digit (N:Nat) (uo:Nat) (un:Nat) (v:List Int) (cap0:List Int):Option (Int×(List Int)) :=
 (if 0≤((v.length:Nat):Int)∧((v.length:Nat):Int) < ((un:Nat):Int) then
 (if uo+un≤cap0.length then
 (if 0≤(w64 (((v.length:Nat):Int) - 1))∧(w64 (((v.length:Nat):Int) - 1)) < ((un:Nat):Int) then
 (if 0≤(w64 (((v.length:Nat):Int) - 1))∧(w64 (((v.length:Nat):Int) - 1)) < ((v.length:Nat):Int) then
 (if ((IntKind.u64.wrap ((v.getD ((w64 (((v.length:Nat):Int) - 1)).toNat) 0))):Int)≠0 then
 g_e_digit_L1 N uo un v cap0 N (IntKind.u64.wrap ((orI .u64 (shlI .u64 (IntKind.u64.wrap ((cap0.getD (addz uo v.length) 0))) 16) (IntKind.u64.wrap ((cap0.getD (addz uo (w64 (((v.length:Nat):Int) - 1)).toNat) 0)))).tdiv (IntKind.u64.wrap ((v.getD ((w64 (((v.length:Nat):Int) - 1)).toNat) 0))))) ((orI .u64 (shlI .u64 (IntKind.u64.wrap ((cap0.getD (addz uo v.length) 0))) 16) (IntKind.u64.wrap ((cap0.getD (addz uo (w64 (((v.length:Nat):Int) - 1)).toNat) 0)))).tmod (IntKind.u64.wrap ((v.getD ((w64 (((v.length:Nat):Int) - 1)).toNat) 0))))
 else none)
 else none)
 else none)
 else none)
 else none)
def g_e_divide_L2 (N:Nat) (b:List Int) (rLeadingZeros:Int) (q:List Int) (u:List Int):Nat→(List Int)→Int→Option ((List Int)×(List Int))
 | 0,_,_=>none
 | fuel+1,vr,x =>
  (cond (decide (x < (((b.length - 0):Nat):Int)))
  ((if 0≤x∧x < ((u.length:Nat):Int) then
  (if 0≤(w64 (x+1))∧(w64 (x+1)) < ((u.length:Nat):Int) then
  (if (0:Int)≤rLeadingZeros then
  (if 0≤x∧x < ((vr.length:Nat):Int) then
  g_e_divide_L2 N b rLeadingZeros q u fuel (vr.set ((x).toNat) (IntKind.u16.wrap ((shrI .u32 (orI .u32 (IntKind.u32.wrap ((u.getD ((x).toNat) 0))) (shlI .u32 (IntKind.u32.wrap ((u.getD ((w64 (x+1)).toNat) 0))) 16)) rLeadingZeros)))) (w64 (x+1))
  else none)
  else none)
  else none)
  else none))
  (((g_e_trim N q).bind fun rtrim2 =>
  ((g_e_trim N vr).bind fun rtrim3 =>
  some (rtrim2,rtrim3)))))
def g_e_divide_L1 (N:Nat) (b:List Int) (rLeadingZeros:Int) (rshifted2:(List Int)):Nat→(List Int)→(List Int)→Int→Option ((List Int)×(List Int))
 | 0,_,_,_=>none
 | fuel+1,q,u,j =>
  (cond (decide (j≥0))
  ((if (j).toNat≤(w64 ((w64 (j+(((b.length - 0):Nat):Int)))+1)).toNat∧(w64 ((w64 (j+(((b.length - 0):Nat):Int)))+1)).toNat≤u.length then
  (if 0≤j then
  (if 0≤(w64 ((w64 (j+(((b.length - 0):Nat):Int)))+1)) then
  (if 0≤b.length∧b.length≤rshifted2.length then
  ((g_e_digit N ((j).toNat) ((w64 ((w64 (j+(((b.length - 0):Nat):Int)))+1)).toNat - (j).toNat) ((rshifted2.take b.length).drop 0) u).bind fun rdigit =>
  (if rdigit.2.length=u.length then
  (if 0≤j∧j < ((q.length:Nat):Int) then
  g_e_divide_L1 N b rLeadingZeros rshifted2 fuel (q.set ((j).toNat) rdigit.1) rdigit.2 (w64 (j - 1))
  else none)
  else none))
  else none)
  else none)
  else none)
  else none))
  ((if 0≤(((b.length - 0):Nat):Int)∧(2:Int) * (((b.length - 0):Nat):Int)≤281474976710656∧(((b.length - 0):Nat):Int)≤9223372036854775807 then
  g_e_divide_L2 N b rLeadingZeros q u N (List.replicate (b.length - 0) 0:List Int) 0
  else none)))
def g_e_divide (N:Nat) (a:List Int) (b:List Int):Option ((List Int)×(List Int)) :=
 ((g_e_compare N a b).bind fun rcompare =>
 (cond (decide (rcompare < 0))
 (((g_slices_Clone_uint16_uint16 N a).bind fun rClone =>
 some (([]:List Int),rClone)))
 ((cond (((b.length:Nat):Int) == 1)
 ((if 0≤(0:Int)∧0 < ((b.length:Nat):Int) then
 ((g_e_short N a (b.getD 0 0)).bind fun rshort =>
 ((g_e_trim N ([rshort.2]:List Int)).bind fun rtrim =>
 some (rshort.1,rtrim)))
 else none))
 ((if 0≤(w64 (((b.length:Nat):Int) - 1))∧(w64 (((b.length:Nat):Int) - 1)) < ((b.length:Nat):Int) then
 ((g_math_bits_LeadingZeros16 N (b.getD ((w64 (((b.length:Nat):Int) - 1)).toNat) 0)).bind fun rLeadingZeros =>
 ((g_e_shifted N a rLeadingZeros).bind fun rshifted =>
 ((g_e_shifted N b rLeadingZeros).bind fun rshifted2 =>
 (if 0≤b.length∧b.length≤rshifted2.length then
 (if 0≤(w64 (((rshifted.length:Nat):Int) - (((b.length - 0):Nat):Int)))∧(2:Int) * (w64 (((rshifted.length:Nat):Int) - (((b.length - 0):Nat):Int)))≤281474976710656∧(w64 (((rshifted.length:Nat):Int) - (((b.length - 0):Nat):Int)))≤9223372036854775807 then
 g_e_divide_L1 N b rLeadingZeros rshifted2 N (List.replicate ((w64 (((rshifted.length:Nat):Int) - (((b.length - 0):Nat):Int))).toNat) 0:List Int) rshifted (w64 ((w64 (((rshifted.length:Nat):Int) - (((b.length - 0):Nat):Int))) - 1))
 else none)
 else none))))
 else none))))))
def g_e_plus_J3 (N:Nat) (a2:List Int) (b2:List Int) (out:List Int) (x:Int) (K_g_e_plus_L2:(List Int)→Int→Int→Option ((List Int))) (carry2:Int):Option ((List Int)) :=
 (if (out.length+1) * 2≤140737488355328 then
 K_g_e_plus_L2 (out ++ ([(IntKind.u16.wrap (carry2))]:List Int)) (shrI .u32 carry2 16) (w64 (x+1))
 else none)
def g_e_plus_L2 (N:Nat) (a2:List Int) (b2:List Int):Nat→(List Int)→Int→Int→Option ((List Int))
 | 0,_,_,_=>none
 | fuel+1,out,carry,x =>
  (cond (decide (x < ((a2.length:Nat):Int)))
  ((if 0≤x∧x < ((a2.length:Nat):Int) then
  (cond (decide (x < ((b2.length:Nat):Int)))
  ((if 0≤x∧x < ((b2.length:Nat):Int) then
  g_e_plus_J3 N a2 b2 out x (g_e_plus_L2 N a2 b2 fuel) (IntKind.u32.wrap ((IntKind.u32.wrap (carry+(IntKind.u32.wrap ((a2.getD ((x).toNat) 0)))))+(IntKind.u32.wrap ((b2.getD ((x).toNat) 0)))))
  else none))
  (g_e_plus_J3 N a2 b2 out x (g_e_plus_L2 N a2 b2 fuel) (IntKind.u32.wrap (carry+(IntKind.u32.wrap ((a2.getD ((x).toNat) 0)))))))
  else none))
  ((if (out.length+1) * 2≤140737488355328 then
  ((g_e_trim N (out ++ ([(IntKind.u16.wrap (carry))]:List Int))).bind fun rtrim =>
  some rtrim)
  else none)))
def g_e_plus_J1 (N:Nat) (a2:List Int) (b2:List Int):Option ((List Int)) :=
 (if 0≤(0:Int)∧(2:Int) * (w64 (((a2.length:Nat):Int)+1))≤281474976710656∧(w64 (((a2.length:Nat):Int)+1))≤9223372036854775807∧(0:Int)≤(w64 (((a2.length:Nat):Int)+1)) then
 g_e_plus_L2 N a2 b2 N (List.replicate 0 0:List Int) 0 0
 else none)
def g_e_plus (N:Nat) (a:List Int) (b:List Int):Option ((List Int)) :=
 (cond (decide (((a.length:Nat):Int) < ((b.length:Nat):Int)))
 (g_e_plus_J1 N b a)
 (g_e_plus_J1 N a b))
def g_e_minus_J3 (N:Nat) (a:List Int) (b:List Int) (out:List Int) (x:Int) (y:Int) (K_g_e_minus_L1:(List Int)→Int→Int→Option ((List Int))) (borrow2:Int):Option ((List Int)) :=
 (if 0≤x∧x < ((out.length:Nat):Int) then
 K_g_e_minus_L1 (out.set ((x).toNat) (IntKind.u16.wrap ((IntKind.u32.wrap ((IntKind.u32.wrap ((IntKind.u32.wrap ((a.getD ((x).toNat) 0)))+(shlI .u32 borrow2 16))) - y))))) borrow2 (w64 (x+1))
 else none)
def g_e_minus_J2 (N:Nat) (a:List Int) (b:List Int) (out:List Int) (x:Int) (K_g_e_minus_L1:(List Int)→Int→Int→Option ((List Int))) (y:Int):Option ((List Int)) :=
 (cond (decide ((IntKind.u32.wrap ((a.getD ((x).toNat) 0))) < y))
 (g_e_minus_J3 N a b out x y K_g_e_minus_L1 1)
 (g_e_minus_J3 N a b out x y K_g_e_minus_L1 0))
def g_e_minus_L1 (N:Nat) (a:List Int) (b:List Int):Nat→(List Int)→Int→Int→Option ((List Int))
 | 0,_,_,_=>none
 | fuel+1,out,borrow,x =>
  (cond (decide (x < ((a.length:Nat):Int)))
  ((if 0≤x∧x < ((a.length:Nat):Int) then
  (cond (decide (x < ((b.length:Nat):Int)))
  ((if 0≤x∧x < ((b.length:Nat):Int) then
  g_e_minus_J2 N a b out x (g_e_minus_L1 N a b fuel) (IntKind.u32.wrap (borrow+(IntKind.u32.wrap ((b.getD ((x).toNat) 0)))))
  else none))
  (g_e_minus_J2 N a b out x (g_e_minus_L1 N a b fuel) borrow))
  else none))
  (((g_e_trim N out).bind fun rtrim =>
  some rtrim)))
def g_e_minus (N:Nat) (a:List Int) (b:List Int):Option ((List Int)) :=
 (if 0≤((a.length:Nat):Int)∧(2:Int) * ((a.length:Nat):Int)≤281474976710656∧((a.length:Nat):Int)≤9223372036854775807 then
 g_e_minus_L1 N a b N (List.replicate a.length 0:List Int) 0 0
 else none)
def g_e_signed (N:Nat) (neg:Bool) (n:List Int):Option (TInt) :=
 ((g_e_trim N n).bind fun rtrim =>
 (cond (((rtrim.length:Nat):Int) == 0)
 (some (⟨false,([]:List Int)⟩:TInt))
 (((g_slices_Clone_uint16_uint16 N rtrim).bind fun rClone =>
 some (⟨neg,rClone⟩:TInt)))))
def g_e_DivMod_J1 (N:Nat) (a:TInt) (b:TInt) (n:List Int) (rest:List Int):Option (TInt×TInt×Int) :=
 ((g_e_signed N (!(a.fG == b.fG)) n).bind fun rSg =>
 ((g_e_signed N false rest).bind fun rSg2 =>
 some (rSg,rSg2,0)))
def g_e_DivMod (N:Nat) (a:TInt) (b:TInt):Option (TInt×TInt×Int) :=
 ((g_e_trim N a.fL).bind fun rtrim =>
 ((g_e_trim N b.fL).bind fun rtrim2 =>
 (cond (((rtrim2.length:Nat):Int) == 0)
 (some ((⟨false,([]:List Int)⟩:TInt),(⟨false,([]:List Int)⟩:TInt),9))
 (((g_e_divide N rtrim rtrim2).bind fun rdivide =>
 (cond (cond a.fG (decide (((rdivide.2.length:Nat):Int) > 0)) false)
 (((g_e_plus N rdivide.1 ([1]:List Int)).bind fun rplus =>
 ((g_e_minus N rtrim2 rdivide.2).bind fun rminus =>
 g_e_DivMod_J1 N a b rplus rminus)))
 (g_e_DivMod_J1 N a b rdivide.1 rdivide.2)))))))
def g_e_natural_L1 (N:Nat):Nat→Int→(List Int)→Option ((List Int))
 | 0,_,_=>none
 | fuel+1,n2,out =>
  (cond (decide (n2 > 0))
  ((if (out.length+1) * 2≤140737488355328 then
  g_e_natural_L1 N fuel (shrI .u64 n2 16) (out ++ ([(IntKind.u16.wrap (n2))]:List Int))
  else none))
  (some out))
def g_e_natural (N:Nat) (n:Int):Option ((List Int)) :=
 g_e_natural_L1 N N n ([]:List Int)
def g_e_Of (N:Nat) (n:Int):Option (TInt) :=
 (cond (decide (n < 0))
 (((g_e_natural N (IntKind.u64.wrap (0 - (IntKind.u64.wrap (n))))).bind fun rnatural =>
 ((g_e_signed N true rnatural).bind fun rSg =>
 some rSg)))
 (((g_e_natural N (IntKind.u64.wrap (n))).bind fun rnatural2 =>
 ((g_e_signed N false rnatural2).bind fun rSg2 =>
 some rSg2))))
def g_e_word_L1 (N:Nat) (n:List Int):Nat→Int→Int→Option (Int×Bool)
 | 0,_,_=>none
 | fuel+1,out,i =>
  (cond (decide (i≥0))
  ((if 0≤i∧i < ((n.length:Nat):Int) then
  g_e_word_L1 N n fuel (orI .u64 (shlI .u64 out 16) (IntKind.u64.wrap ((n.getD ((i).toNat) 0)))) (w64 (i - 1))
  else none))
  (some (out,true)))
def g_e_word (N:Nat) (n:List Int):Option (Int×Bool) :=
 (cond (decide (((n.length:Nat):Int) > 4))
 (some (0,false))
 (g_e_word_L1 N n N 0 (w64 (((n.length:Nat):Int) - 1))))
def g_e_common_L2 (N:Nat) (K_g_e_common_L1:(List Int)→(List Int)→Option ((List Int))):Nat→Int→Int→Option ((List Int))
 | 0,_,_=>none
 | fuel+1,x,y =>
  (cond (decide (y > 0))
  ((if (y:Int)≠0 then
  g_e_common_L2 N K_g_e_common_L1 fuel y (x.tmod y)
  else none))
  (((g_e_natural N x).bind fun rnatural =>
  some rnatural)))
def g_e_common_L1 (N:Nat):Nat→(List Int)→(List Int)→Option ((List Int))
 | 0,_,_=>none
 | fuel+1,a2,b2 =>
  (cond (decide (((b2.length:Nat):Int) > 0))
  (((g_e_word N a2).bind fun rword =>
  ((g_e_word N b2).bind fun rword2 =>
  (cond (cond rword.2 rword2.2 false)
  (g_e_common_L2 N (g_e_common_L1 N fuel) N rword.1 rword2.1)
  (((g_e_divide N a2 b2).bind fun rdivide =>
  g_e_common_L1 N fuel b2 rdivide.2))))))
  (some a2))
def g_e_common (N:Nat) (a:List Int) (b:List Int):Option ((List Int)) :=
 g_e_common_L1 N N a b
def g_e_fraction_J1 (N:Nat) (a:TInt) (b:TInt) (x:List Int) (y:List Int):Option (TRat) :=
 ((g_e_signed N (!(a.fG == b.fG)) x).bind fun rSg =>
 ((g_e_signed N false y).bind fun rSg2 =>
 some (⟨rSg,rSg2⟩:TRat)))
def g_e_fraction (N:Nat) (a:TInt) (b:TInt):Option (TRat) :=
 ((g_e_trim N a.fL).bind fun rtrim =>
 ((g_e_trim N b.fL).bind fun rtrim2 =>
 ((g_e_common N rtrim rtrim2).bind fun rcommon =>
 (if ((!(((rcommon.length:Nat):Int) != 1))=true→0≤(0:Int)∧0 < ((rcommon.length:Nat):Int)) then
 (cond (cond (((rcommon.length:Nat):Int) != 1) true ((rcommon.getD 0 0) != 1))
 (((g_e_divide N rtrim rcommon).bind fun rdivide =>
 ((g_e_divide N rtrim2 rcommon).bind fun rdivide2 =>
 g_e_fraction_J1 N a b rdivide.1 rdivide2.1)))
 (g_e_fraction_J1 N a b rtrim rtrim2))
 else none))))
def g_e_Ratio (N:Nat) (a:Int) (b:Int):Option (TRat×Int) :=
 (cond (b == 0)
 (some ((⟨(⟨false,([]:List Int)⟩:TInt),(⟨false,([]:List Int)⟩:TInt)⟩:TRat),9))
 (((g_e_Of N a).bind fun rOf =>
 ((g_e_Of N b).bind fun rOf2 =>
 ((g_e_fraction N rOf rOf2).bind fun rFr =>
 some (rFr,0))))))
def g_b_W (N:Nat) (n:Int):Option (TRat) :=
 ((g_b_Z N n).bind fun rZ =>
 ((g_b_Z N 1).bind fun rZ2 =>
 some (⟨rZ,rZ2⟩:TRat)))
def g_b_Ws_L1 (N:Nat) (l:List Int):Nat→(List TRat)→Int→Option ((List TRat))
 | 0,_,_=>none
 | fuel+1,out,i =>
  (cond (decide (i < ((l.length:Nat):Int)))
  ((if 0≤i∧i < ((l.length:Nat):Int) then
  ((g_b_W N (l.getD ((i).toNat) 0)).bind fun rW =>
  (if (out.length+1) * 64≤140737488355328 then
  g_b_Ws_L1 N l fuel (out ++ ([rW]:List TRat)) (w64 (i+1))
  else none))
  else none))
  (some out))
def g_b_Ws (N:Nat) (l:List Int):Option ((List TRat)) :=
 g_b_Ws_L1 N l N ([]:List TRat) 0
def g_e_sign (N:Nat) (a:TInt):Option (Int) :=
 ((g_e_trim N a.fL).bind fun rtrim =>
 (cond (((rtrim.length:Nat):Int) == 0)
 (some 0)
 ((cond a.fG
 (some (-1))
 (some 1)))))
def g_e_below (N:Nat) (x:TRat):Option (TInt) :=
 ((g_e_sign N x.fD).bind fun rsign =>
 (cond (rsign == 0)
 (some (⟨false,([1]:List Int)⟩:TInt))
 (some x.fD)))
def g_e_signOf (N:Nat) (x:TRat):Option (Int) :=
 ((g_e_sign N x.fN).bind fun rsign =>
 ((g_e_below N x).bind fun rbelow =>
 ((g_e_sign N rbelow).bind fun rsign2 =>
 some (w64 (rsign * rsign2)))))
def g_e_CheckCurve_L1 (N:Nat) (c:TCurve):Nat→Int→Option (Int)
 | 0,_=>none
 | fuel+1,x =>
  (cond (decide (x < ((c.f_Starts.length:Nat):Int)))
  ((if 0≤x∧x < ((c.f_Starts.length:Nat):Int) then
  (if ((!(cond (decide ((c.f_Starts.getD ((x).toNat) 0) < (-10000000))) true (decide ((c.f_Starts.getD ((x).toNat) 0) > 10000000))))=true→0≤x∧x < ((c.f_Slopes.length:Nat):Int)) then
  ((cond (!(cond (decide ((c.f_Starts.getD ((x).toNat) 0) < (-10000000))) true (decide ((c.f_Starts.getD ((x).toNat) 0) > 10000000)))) (g_e_signOf N (⟨((c.f_Slopes.getD ((x).toNat) TRat.d).fN),((c.f_Slopes.getD ((x).toNat) TRat.d).fD)⟩:TRat)) (some 0)).bind fun rsignOf =>
  (cond (cond (cond (decide ((c.f_Starts.getD ((x).toNat) 0) < (-10000000))) true (decide ((c.f_Starts.getD ((x).toNat) 0) > 10000000))) true (decide (rsignOf < 0)))
  (some 2)
  ((if ((decide (x > 0))=true→0≤(w64 (x - 1))∧(w64 (x - 1)) < ((c.f_Starts.length:Nat):Int)) then
  (cond (cond (decide (x > 0)) (decide ((c.f_Starts.getD ((x).toNat) 0)≤(c.f_Starts.getD ((w64 (x - 1)).toNat) 0))) false)
  (some 10)
  (g_e_CheckCurve_L1 N c fuel (w64 (x+1))))
  else none))))
  else none)
  else none))
  (some 0))
def g_e_CheckCurve (N:Nat) (c:TCurve):Option (Int) :=
 (cond (decide (((c.f_Starts.length:Nat):Int) > 40))
 (some 8)
 ((cond (((c.f_Slopes.length:Nat):Int) != ((c.f_Starts.length:Nat):Int))
 (some 11)
 (g_e_CheckCurve_L1 N c N 0))))
def g_e_Whole (N:Nat) (a:TInt):Option (TRat) :=
 ((g_e_fraction N a (⟨false,([1]:List Int)⟩:TInt)).bind fun rFr =>
 some rFr)
def g_e_number (N:Nat) (n:Int):Option (TRat) :=
 ((g_e_Of N n).bind fun rOf =>
 ((g_e_Whole N rOf).bind fun rWhole =>
 some rWhole))
def g_e_ramps (N:Nat) (c:TCurve) (y:TRat):Option (TCurve×TRat) :=
 some (c,y)
def g_e_times_L2 (N:Nat) (a:List Int) (b:List Int) (x:Int) (K_g_e_times_L1:(List Int)→Int→Option ((List Int))):Nat→(List Int)→Int→Int→Option ((List Int))
 | 0,_,_,_=>none
 | fuel+1,out2,carry,x2 =>
  (cond (decide (x2 < ((b.length:Nat):Int)))
  ((if 0≤x2∧x2 < ((b.length:Nat):Int) then
  (if 0≤(w64 (x+x2))∧(w64 (x+x2)) < ((out2.length:Nat):Int) then
  g_e_times_L2 N a b x K_g_e_times_L1 fuel (out2.set ((w64 (x+x2)).toNat) (IntKind.u16.wrap ((IntKind.u32.wrap (carry+(IntKind.u32.wrap ((IntKind.u32.wrap ((IntKind.u32.wrap ((a.getD ((x).toNat) 0))) * (IntKind.u32.wrap ((b.getD ((x2).toNat) 0)))))+(IntKind.u32.wrap ((out2.getD ((w64 (x+x2)).toNat) 0)))))))))) (shrI .u32 (IntKind.u32.wrap (carry+(IntKind.u32.wrap ((IntKind.u32.wrap ((IntKind.u32.wrap ((a.getD ((x).toNat) 0))) * (IntKind.u32.wrap ((b.getD ((x2).toNat) 0)))))+(IntKind.u32.wrap ((out2.getD ((w64 (x+x2)).toNat) 0))))))) 16) (w64 (x2+1))
  else none)
  else none))
  ((if 0≤(w64 (x+((b.length:Nat):Int)))∧(w64 (x+((b.length:Nat):Int))) < ((out2.length:Nat):Int) then
  K_g_e_times_L1 (out2.set ((w64 (x+((b.length:Nat):Int))).toNat) (IntKind.u16.wrap (carry))) (w64 (x+1))
  else none)))
def g_e_times_L1 (N:Nat) (a:List Int) (b:List Int):Nat→(List Int)→Int→Option ((List Int))
 | 0,_,_=>none
 | fuel+1,out,x =>
  (cond (decide (x < ((a.length:Nat):Int)))
  ((if 0≤x∧x < ((a.length:Nat):Int) then
  g_e_times_L2 N a b x (g_e_times_L1 N a b fuel) N out 0 0
  else none))
  (((g_e_trim N out).bind fun rtrim =>
  some rtrim)))
def g_e_times (N:Nat) (a:List Int) (b:List Int):Option ((List Int)) :=
 (if 0≤(w64 (((a.length:Nat):Int)+((b.length:Nat):Int)))∧(2:Int) * (w64 (((a.length:Nat):Int)+((b.length:Nat):Int)))≤281474976710656∧(w64 (((a.length:Nat):Int)+((b.length:Nat):Int)))≤9223372036854775807 then
 g_e_times_L1 N a b N (List.replicate ((w64 (((a.length:Nat):Int)+((b.length:Nat):Int))).toNat) 0:List Int) 0
 else none)
def g_e_Mul (N:Nat) (a:TInt) (b:TInt):Option (TInt) :=
 ((g_e_trim N a.fL).bind fun rtrim =>
 ((g_e_trim N b.fL).bind fun rtrim2 =>
 ((g_e_times N rtrim rtrim2).bind fun rtimes =>
 ((g_e_signed N (!(a.fG == b.fG)) rtimes).bind fun rSg =>
 some rSg))))
def g_e_MulRat (N:Nat) (x:TRat) (y:TRat):Option (TRat) :=
 ((g_e_Mul N x.fN y.fN).bind fun rMul =>
 ((g_e_below N x).bind fun rbelow =>
 ((g_e_below N y).bind fun rbelow2 =>
 ((g_e_Mul N rbelow rbelow2).bind fun rMul2 =>
 ((g_e_fraction N rMul rMul2).bind fun rFr =>
 some rFr)))))
def g_e_isZero (N:Nat) (x:TRat):Option (Bool) :=
 ((g_e_sign N x.fN).bind fun rsign =>
 some (rsign == 0))
def g_e_lowest (N:Nat) (x:TRat):Option (TRat) :=
 ((g_e_below N x).bind fun rbelow =>
 ((g_e_fraction N x.fN rbelow).bind fun rFr =>
 some rFr))
def g_e_Add (N:Nat) (a:TInt) (b:TInt):Option (TInt) :=
 ((g_e_trim N a.fL).bind fun rtrim =>
 ((g_e_trim N b.fL).bind fun rtrim2 =>
 (cond (a.fG == b.fG)
 (((g_e_plus N rtrim rtrim2).bind fun rplus =>
 ((g_e_signed N a.fG rplus).bind fun rSg =>
 some rSg)))
 (((g_e_compare N rtrim rtrim2).bind fun rcompare =>
 (cond (decide (rcompare≥0))
 (((g_e_minus N rtrim rtrim2).bind fun rminus =>
 ((g_e_signed N a.fG rminus).bind fun rSg2 =>
 some rSg2)))
 (((g_e_minus N rtrim2 rtrim).bind fun rminus2 =>
 ((g_e_signed N b.fG rminus2).bind fun rSg3 =>
 some rSg3)))))))))
def g_e_AddRat (N:Nat) (x:TRat) (y:TRat):Option (TRat) :=
 ((g_e_isZero N x).bind fun risZero =>
 (cond risZero
 (((g_e_lowest N y).bind fun rlowest =>
 some rlowest))
 (((g_e_isZero N y).bind fun risZero2 =>
 (cond risZero2
 (((g_e_lowest N x).bind fun rlowest2 =>
 some rlowest2))
 (((g_e_below N x).bind fun rbelow =>
 ((g_e_below N y).bind fun rbelow2 =>
 ((g_e_Mul N x.fN rbelow2).bind fun rMul =>
 ((g_e_Mul N y.fN rbelow).bind fun rMul2 =>
 ((g_e_Add N rMul rMul2).bind fun rAdd =>
 ((g_e_Mul N rbelow rbelow2).bind fun rMul3 =>
 ((g_e_fraction N rAdd rMul3).bind fun rFr =>
 some rFr)))))))))))))
def g_e_opposite (N:Nat) (a:TInt):Option (TInt) :=
 some (⟨(!a.fG),a.fL⟩:TInt)
def g_e_negative (N:Nat) (x:TRat):Option (TRat) :=
 ((g_e_opposite N x.fN).bind fun ropposite =>
 ((g_e_below N x).bind fun rbelow =>
 ((g_e_fraction N ropposite rbelow).bind fun rFr =>
 some rFr)))
def g_e_SubRat (N:Nat) (x:TRat) (y:TRat):Option (TRat) :=
 ((g_e_negative N y).bind fun rnegative =>
 ((g_e_AddRat N x rnegative).bind fun rAddRat =>
 some rAddRat))
def g_e_ramps_1_L1 (N:Nat) (RD:TRat→TRat→TRat→Option TRat) (cap1:TCurve) (cap2:TRat):Nat→TRat→TRat→Int→Option (TRat)
 | 0,_,_,_=>none
 | fuel+1,cap02,before,x =>
  (cond (decide (x < ((cap1.f_Starts.length:Nat):Int)))
  ((if 0≤x∧x < ((cap1.f_Starts.length:Nat):Int) then
  ((g_e_number N (cap1.f_Starts.getD ((x).toNat) 0)).bind fun rnumber2 =>
  ((g_e_SubRat N cap2 rnumber2).bind fun rSubRat =>
  ((g_e_signOf N rSubRat).bind fun rsignOf =>
  (if ((!(decide (rsignOf < 0)))=true→0≤x∧x < ((cap1.f_Slopes.length:Nat):Int)) then
  ((cond (!(decide (rsignOf < 0))) (g_e_SubRat N (⟨((cap1.f_Slopes.getD ((x).toNat) TRat.d).fN),((cap1.f_Slopes.getD ((x).toNat) TRat.d).fD)⟩:TRat) before) (some TRat.d)).bind fun rSubRat2 =>
  (cond (!(decide (rsignOf < 0)))
  (((RD rSubRat2 rSubRat cap02).bind fun ry =>
  (cond (cond (decide (rsignOf < 0)) true (!true))
  (some ry)
  ((if 0≤x∧x < ((cap1.f_Slopes.length:Nat):Int) then
  g_e_ramps_1_L1 N RD cap1 cap2 fuel ry (⟨((cap1.f_Slopes.getD ((x).toNat) TRat.d).fN),((cap1.f_Slopes.getD ((x).toNat) TRat.d).fD)⟩:TRat) (w64 (x+1))
  else none)))))
  ((cond (cond (decide (rsignOf < 0)) true false)
  (some cap02)
  ((if 0≤x∧x < ((cap1.f_Slopes.length:Nat):Int) then
  g_e_ramps_1_L1 N RD cap1 cap2 fuel cap02 (⟨((cap1.f_Slopes.getD ((x).toNat) TRat.d).fN),((cap1.f_Slopes.getD ((x).toNat) TRat.d).fD)⟩:TRat) (w64 (x+1))
  else none))))))
  else none))))
  else none))
  (some cap02))
def g_e_ramps_1 (N:Nat) (RD:TRat→TRat→TRat→Option TRat) (cap0:TRat) (cap1:TCurve) (cap2:TRat):Option (TRat) :=
 ((g_e_number N 0).bind fun rnumber =>
 g_e_ramps_1_L1 N RD cap1 cap2 N cap0 rnumber 0)
def g_e_Value_R (N:Nat) (change:TRat) (far:TRat) (sum:TRat):Option TRat :=
 ((g_e_MulRat N change far).bind fun rMulRat =>
 ((g_e_AddRat N sum rMulRat).bind fun rAddRat =>
 some rAddRat))
def g_e_Value (N:Nat) (c:TCurve) (y:TRat):Option (TRat×Int) :=
 ((g_e_CheckCurve N c).bind fun rCheckCurve =>
 (cond (rCheckCurve != 0)
 (some ((⟨(⟨false,([]:List Int)⟩:TInt),(⟨false,([]:List Int)⟩:TInt)⟩:TRat),rCheckCurve))
 (((g_e_number N 0).bind fun rnumber =>
 ((g_e_ramps N c y).bind fun rramps =>
 ((g_e_ramps_1 N (g_e_Value_R N) rnumber rramps.1 rramps.2).bind fun rr =>
 some (rr,0)))))))
def g_b_SameInt_L1 (N:Nat) (a:TInt) (b:TInt):Nat→Int→Option (Bool)
 | 0,_=>none
 | fuel+1,i =>
  (cond (decide (i < ((a.fL.length:Nat):Int)))
  ((if 0≤i∧i < ((a.fL.length:Nat):Int) then
  (if 0≤i∧i < ((b.fL.length:Nat):Int) then
  (cond ((a.fL.getD ((i).toNat) 0) != (b.fL.getD ((i).toNat) 0))
  (some false)
  (g_b_SameInt_L1 N a b fuel (w64 (i+1))))
  else none)
  else none))
  (some true))
def g_b_SameInt (N:Nat) (a:TInt) (b:TInt):Option (Bool) :=
 (cond (cond (!(a.fG == b.fG)) true (((a.fL.length:Nat):Int) != ((b.fL.length:Nat):Int)))
 (some false)
 (g_b_SameInt_L1 N a b N 0))
def g_b_Q_L2 (N:Nat) (a2:Int) (b2:Int):Nat→Int→Int→Option (TRat)
 | 0,_,_=>none
 | fuel+1,x,y =>
  (cond (decide (y > 0))
  ((if (y:Int)≠0 then
  g_b_Q_L2 N a2 b2 fuel y (x.tmod y)
  else none))
  ((if (x:Int)≠0 then
  ((g_b_Z N (w64 (a2.tdiv x))).bind fun rZ =>
  ((g_b_Z N (w64 (b2.tdiv x))).bind fun rZ2 =>
  some (⟨rZ,rZ2⟩:TRat)))
  else none)))
def g_b_Q_J1 (N:Nat) (a2:Int) (b2:Int):Option (TRat) :=
 (cond (decide (a2 < 0))
 (g_b_Q_L2 N a2 b2 N (w64 (0 - a2)) b2)
 (g_b_Q_L2 N a2 b2 N a2 b2))
def g_b_Q (N:Nat) (a:Int) (b:Int):Option (TRat) :=
 (cond (decide (b < 0))
 (g_b_Q_J1 N (w64 (0 - a)) (w64 (0 - b)))
 (g_b_Q_J1 N a b))
def g_b_SameRat (N:Nat) (a:TRat) (b:TRat):Option (Bool) :=
 ((g_b_SameInt N a.fN b.fN).bind fun rSameInt =>
 ((cond rSameInt (g_b_SameInt N a.fD b.fD) (some false)).bind fun rSameInt2 =>
 some (cond rSameInt rSameInt2 false)))
def g_w01_awake (N:Nat):Option (Bool) :=
 ((g_b_Z N (-7)).bind fun rZ =>
 ((g_b_Z N 2).bind fun rZ2 =>
 ((g_e_DivMod N rZ rZ2).bind fun rDivMod =>
 ((g_e_Ratio N 6 (-4)).bind fun rRatio =>
 ((g_b_Ws N ([2,0]:List Int)).bind fun rWs =>
 ((g_b_W N 5).bind fun rW =>
 ((g_e_Value N (⟨([0,10]:List Int),rWs⟩:TCurve) rW).bind fun rValue =>
 ((cond (rDivMod.2.2 == 0) (g_b_Z N (-4)) (some TInt.d)).bind fun rZ3 =>
 ((cond (rDivMod.2.2 == 0) (g_b_SameInt N rDivMod.1 rZ3) (some false)).bind fun rSameInt =>
 ((cond (cond (rDivMod.2.2 == 0) rSameInt false) (g_b_Z N 1) (some TInt.d)).bind fun rZ4 =>
 ((cond (cond (rDivMod.2.2 == 0) rSameInt false) (g_b_SameInt N rDivMod.2.1 rZ4) (some false)).bind fun rSameInt2 =>
 ((cond (cond (cond (cond (rDivMod.2.2 == 0) rSameInt false) rSameInt2 false) (rRatio.2 == 0) false) (g_b_Q N (-3) 2) (some TRat.d)).bind fun rQ =>
 ((cond (cond (cond (cond (rDivMod.2.2 == 0) rSameInt false) rSameInt2 false) (rRatio.2 == 0) false) (g_b_SameRat N rRatio.1 rQ) (some false)).bind fun rSameRat =>
 ((cond (cond (cond (cond (cond (cond (rDivMod.2.2 == 0) rSameInt false) rSameInt2 false) (rRatio.2 == 0) false) rSameRat false) (rValue.2 == 0) false) (g_b_W N 10) (some TRat.d)).bind fun rW2 =>
 ((cond (cond (cond (cond (cond (cond (rDivMod.2.2 == 0) rSameInt false) rSameInt2 false) (rRatio.2 == 0) false) rSameRat false) (rValue.2 == 0) false) (g_b_SameRat N rValue.1 rW2) (some false)).bind fun rSameRat2 =>
 some (cond (cond (cond (cond (cond (cond (rDivMod.2.2 == 0) rSameInt false) rSameInt2 false) (rRatio.2 == 0) false) rSameRat false) (rValue.2 == 0) false) rSameRat2 false))))))))))))))))
def g_e_Sub (N:Nat) (a:TInt) (b:TInt):Option (TInt) :=
 ((g_e_opposite N b).bind fun ropposite =>
 ((g_e_Add N a ropposite).bind fun rAdd =>
 some rAdd))
def g_r01_trim_L1 (N:Nat) (a:List Int):Nat→Int→Option ((List Int))
 | 0,_=>none
 | fuel+1,n =>
  (if ((decide (n > 0))=true→0≤(w64 (n - 1))∧(w64 (n - 1)) < ((a.length:Nat):Int)) then
  (cond (cond (decide (n > 0)) ((a.getD ((w64 (n - 1)).toNat) 0) == 0) false)
  (g_r01_trim_L1 N a fuel (w64 (n - 1)))
  ((if 0≤(n).toNat∧(n).toNat≤a.length then
  (if 0≤n then
  (if (0+((n).toNat - 0)) * 8≤140737488355328 then
  some (([]:List Int) ++ ((a.take ((n).toNat)).drop 0))
  else none)
  else none)
  else none)))
  else none)
def g_r01_trim (N:Nat) (a:List Int):Option ((List Int)) :=
 g_r01_trim_L1 N a N ((a.length:Nat):Int)
def g_r01_read_L1 (N:Nat) (l:List Int):Nat→(List Int)→Int→Option ((List Int))
 | 0,_,_=>none
 | fuel+1,a,i =>
  (cond (decide (i < ((l.length:Nat):Int)))
  ((if 0≤i∧i < ((l.length:Nat):Int) then
  (if (a.length+1) * 8≤140737488355328 then
  g_r01_read_L1 N l fuel (a ++ ([(w64 ((l.getD ((i).toNat) 0)))]:List Int)) (w64 (i+1))
  else none)
  else none))
  (((g_r01_trim N a).bind fun rtrim =>
  some rtrim)))
def g_r01_read (N:Nat) (l:List Int):Option ((List Int)) :=
 g_r01_read_L1 N l N ([]:List Int) 0
def g_r01_made_L1 (N:Nat) (neg:Bool) (a:List Int):Nat→(List Int)→Int→Option (TInt)
 | 0,_,_=>none
 | fuel+1,x,i =>
  (cond (decide (i < ((a.length:Nat):Int)))
  ((if 0≤i∧i < ((a.length:Nat):Int) then
  (if (x.length+1) * 2≤140737488355328 then
  g_r01_made_L1 N neg a fuel (x ++ ([(IntKind.u16.wrap ((a.getD ((i).toNat) 0)))]:List Int)) (w64 (i+1))
  else none)
  else none))
  (some (⟨(cond neg (decide (((a.length:Nat):Int) > 0)) false),x⟩:TInt)))
def g_r01_made (N:Nat) (neg:Bool) (a:List Int):Option (TInt) :=
 g_r01_made_L1 N neg a N ([]:List Int) 0
def g_r01_Of_L1 (N:Nat) (n:Int):Nat→(List Int)→Int→Option (TInt)
 | 0,_,_=>none
 | fuel+1,a,u =>
  (cond (decide (u > 0))
  ((if (a.length+1) * 8≤140737488355328 then
  g_r01_Of_L1 N n fuel (a ++ ([(w64 ((u.tmod 65536)))]:List Int)) (IntKind.u64.wrap (u.tdiv 65536))
  else none))
  (((g_r01_made N (decide (n < 0)) a).bind fun rmade =>
  some rmade)))
def g_r01_Of (N:Nat) (n:Int):Option (TInt) :=
 (cond (decide (n < 0))
 (g_r01_Of_L1 N n N ([]:List Int) (IntKind.u64.wrap (0 - (IntKind.u64.wrap (n)))))
 (g_r01_Of_L1 N n N ([]:List Int) (IntKind.u64.wrap (n))))
def g_r01_Neg (N:Nat) (a:TInt):Option (TInt) :=
 ((g_r01_read N a.fL).bind fun rread =>
 ((g_r01_made N (!a.fG) rread).bind fun rmade =>
 some rmade))
def g_r01_digit (N:Nat) (a:List Int) (i:Int):Option (Int) :=
 (cond (decide (i < ((a.length:Nat):Int)))
 ((if 0≤i∧i < ((a.length:Nat):Int) then
 some (a.getD ((i).toNat) 0)
 else none))
 (some 0))
def g_r01_plus_L1 (N:Nat) (a:List Int) (b:List Int):Nat→(List Int)→Int→Int→Option ((List Int))
 | 0,_,_,_=>none
 | fuel+1,out,carry,i =>
  (cond (cond (cond (decide (i < ((a.length:Nat):Int))) true (decide (i < ((b.length:Nat):Int)))) true (decide (carry > 0)))
  (((g_r01_digit N a i).bind fun rdigit =>
  ((g_r01_digit N b i).bind fun rdigit2 =>
  (if (out.length+1) * 8≤140737488355328 then
  g_r01_plus_L1 N a b fuel (out ++ ([((w64 ((w64 (rdigit+rdigit2))+carry)).tmod 65536)]:List Int)) (w64 ((w64 ((w64 (rdigit+rdigit2))+carry)).tdiv 65536)) (w64 (i+1))
  else none))))
  (((g_r01_trim N out).bind fun rtrim =>
  some rtrim)))
def g_r01_plus (N:Nat) (a:List Int) (b:List Int):Option ((List Int)) :=
 g_r01_plus_L1 N a b N ([]:List Int) 0 0
def g_r01_compare_L1 (N:Nat) (a:List Int) (b:List Int):Nat→Int→Option (Int)
 | 0,_=>none
 | fuel+1,i =>
  (cond (decide (i≥0))
  ((if 0≤i∧i < ((a.length:Nat):Int) then
  (if 0≤i∧i < ((b.length:Nat):Int) then
  (cond ((a.getD ((i).toNat) 0) != (b.getD ((i).toNat) 0))
  (some (w64 ((a.getD ((i).toNat) 0) - (b.getD ((i).toNat) 0))))
  (g_r01_compare_L1 N a b fuel (w64 (i - 1))))
  else none)
  else none))
  (some 0))
def g_r01_compare (N:Nat) (a:List Int) (b:List Int):Option (Int) :=
 (cond (((a.length:Nat):Int) != ((b.length:Nat):Int))
 (some (w64 (((a.length:Nat):Int) - ((b.length:Nat):Int))))
 (g_r01_compare_L1 N a b N (w64 (((a.length:Nat):Int) - 1))))
def g_r01_minus_J2 (N:Nat) (a:List Int) (b:List Int) (out:List Int) (i:Int) (K_g_r01_minus_L1:(List Int)→Int→Int→Option ((List Int))) (borrow2:Int) (s:Int):Option ((List Int)) :=
 (if (out.length+1) * 8≤140737488355328 then
 K_g_r01_minus_L1 (out ++ ([s]:List Int)) borrow2 (w64 (i+1))
 else none)
def g_r01_minus_L1 (N:Nat) (a:List Int) (b:List Int):Nat→(List Int)→Int→Int→Option ((List Int))
 | 0,_,_,_=>none
 | fuel+1,out,borrow,i =>
  (cond (decide (i < ((a.length:Nat):Int)))
  ((if 0≤i∧i < ((a.length:Nat):Int) then
  ((g_r01_digit N b i).bind fun rdigit =>
  (cond (decide ((w64 ((w64 ((a.getD ((i).toNat) 0) - rdigit)) - borrow)) < 0))
  (g_r01_minus_J2 N a b out i (g_r01_minus_L1 N a b fuel) 1 (w64 ((w64 ((w64 ((a.getD ((i).toNat) 0) - rdigit)) - borrow))+65536)))
  (g_r01_minus_J2 N a b out i (g_r01_minus_L1 N a b fuel) 0 (w64 ((w64 ((a.getD ((i).toNat) 0) - rdigit)) - borrow)))))
  else none))
  (((g_r01_trim N out).bind fun rtrim =>
  some rtrim)))
def g_r01_minus (N:Nat) (a:List Int) (b:List Int):Option ((List Int)) :=
 g_r01_minus_L1 N a b N ([]:List Int) 0 0
def g_r01_Add (N:Nat) (a:TInt) (b:TInt):Option (TInt) :=
 ((g_r01_read N a.fL).bind fun rread =>
 ((g_r01_read N b.fL).bind fun rread2 =>
 (cond (a.fG == b.fG)
 (((g_r01_plus N rread rread2).bind fun rplus =>
 ((g_r01_made N a.fG rplus).bind fun rmade =>
 some rmade)))
 (((g_r01_compare N rread rread2).bind fun rcompare =>
 (cond (decide (rcompare≥0))
 (((g_r01_minus N rread rread2).bind fun rminus =>
 ((g_r01_made N a.fG rminus).bind fun rmade2 =>
 some rmade2)))
 (((g_r01_minus N rread2 rread).bind fun rminus2 =>
 ((g_r01_made N b.fG rminus2).bind fun rmade3 =>
 some rmade3)))))))))
def g_r01_Sub (N:Nat) (a:TInt) (b:TInt):Option (TInt) :=
 ((g_r01_Neg N b).bind fun rNeg =>
 ((g_r01_Add N a rNeg).bind fun rAdd =>
 some rAdd))
def g_r01_Sign (N:Nat) (a:TInt):Option (Int) :=
 ((g_r01_read N a.fL).bind fun rread =>
 (cond (((rread.length:Nat):Int) == 0)
 (some 0)
 ((cond a.fG
 (some (-1))
 (some 1)))))
def g_r01_times_L2 (N:Nat) (a:List Int) (b:List Int) (i:Int) (K_g_r01_times_L1:(List Int)→Int→Option ((List Int))):Nat→(List Int)→Int→Int→Option ((List Int))
 | 0,_,_,_=>none
 | fuel+1,out2,carry,k =>
  (cond (cond (decide (k < ((b.length:Nat):Int))) true (decide (carry > 0)))
  ((if 0≤(w64 (i+k))∧(w64 (i+k)) < ((out2.length:Nat):Int) then
  (if 0≤i∧i < ((a.length:Nat):Int) then
  ((g_r01_digit N b k).bind fun rdigit =>
  g_r01_times_L2 N a b i K_g_r01_times_L1 fuel (out2.set ((w64 (i+k)).toNat) ((w64 ((w64 ((out2.getD ((w64 (i+k)).toNat) 0)+(w64 ((a.getD ((i).toNat) 0) * rdigit))))+carry)).tmod 65536)) (w64 ((w64 ((w64 ((out2.getD ((w64 (i+k)).toNat) 0)+(w64 ((a.getD ((i).toNat) 0) * rdigit))))+carry)).tdiv 65536)) (w64 (k+1)))
  else none)
  else none))
  (K_g_r01_times_L1 out2 (w64 (i+1))))
def g_r01_times_L1 (N:Nat) (a:List Int) (b:List Int):Nat→(List Int)→Int→Option ((List Int))
 | 0,_,_=>none
 | fuel+1,out,i =>
  (cond (decide (i < ((a.length:Nat):Int)))
  (g_r01_times_L2 N a b i (g_r01_times_L1 N a b fuel) N out 0 0)
  (((g_r01_trim N out).bind fun rtrim =>
  some rtrim)))
def g_r01_times (N:Nat) (a:List Int) (b:List Int):Option ((List Int)) :=
 (if 0≤(w64 ((w64 (((a.length:Nat):Int)+((b.length:Nat):Int)))+1))∧(8:Int) * (w64 ((w64 (((a.length:Nat):Int)+((b.length:Nat):Int)))+1))≤281474976710656∧(w64 ((w64 (((a.length:Nat):Int)+((b.length:Nat):Int)))+1))≤9223372036854775807 then
 g_r01_times_L1 N a b N (List.replicate ((w64 ((w64 (((a.length:Nat):Int)+((b.length:Nat):Int)))+1)).toNat) 0:List Int) 0
 else none)
def g_r01_Mul (N:Nat) (a:TInt) (b:TInt):Option (TInt) :=
 ((g_r01_read N a.fL).bind fun rread =>
 ((g_r01_read N b.fL).bind fun rread2 =>
 ((g_r01_times N rread rread2).bind fun rtimes =>
 ((g_r01_made N (!(a.fG == b.fG)) rtimes).bind fun rmade =>
 some rmade))))
def g_r01_over_J3 (N:Nat) (a:List Int) (b:List Int) (q:List Int) (i:Int) (lo:Int) (K_g_r01_over_L1:(List Int)→(List Int)→Int→Option ((List Int)×(List Int))) (rest2:List Int):Option ((List Int)×(List Int)) :=
 K_g_r01_over_L1 rest2 (q.set ((i).toNat) lo) (w64 (i - 1))
def g_r01_over_L2 (N:Nat) (a:List Int) (b:List Int) (q:List Int) (i:Int) (rtrim:(List Int)) (K_g_r01_over_L1:(List Int)→(List Int)→Int→Option ((List Int)×(List Int))):Nat→Int→Int→Option ((List Int)×(List Int))
 | 0,_,_=>none
 | fuel+1,lo,hi =>
  (cond (decide (lo < hi))
  (((g_r01_times N b ([(w64 ((w64 ((w64 (lo+hi))+1)).tdiv 2))]:List Int)).bind fun rtimes =>
  ((g_r01_compare N rtimes rtrim).bind fun rcompare =>
  (cond (decide (rcompare≤0))
  (g_r01_over_L2 N a b q i rtrim K_g_r01_over_L1 fuel (w64 ((w64 ((w64 (lo+hi))+1)).tdiv 2)) hi)
  (g_r01_over_L2 N a b q i rtrim K_g_r01_over_L1 fuel lo (w64 ((w64 ((w64 ((w64 (lo+hi))+1)).tdiv 2)) - 1)))))))
  ((if 0≤i∧i < ((q.length:Nat):Int) then
  (cond (decide (lo > 0))
  (((g_r01_times N b ([lo]:List Int)).bind fun rtimes2 =>
  ((g_r01_minus N rtrim rtimes2).bind fun rminus =>
  g_r01_over_J3 N a b q i lo K_g_r01_over_L1 rminus)))
  (g_r01_over_J3 N a b q i lo K_g_r01_over_L1 rtrim))
  else none)))
def g_r01_over_L1 (N:Nat) (a:List Int) (b:List Int):Nat→(List Int)→(List Int)→Int→Option ((List Int)×(List Int))
 | 0,_,_,_=>none
 | fuel+1,rest,q,i =>
  (cond (decide (i≥0))
  ((if 0≤i∧i < ((a.length:Nat):Int) then
  (if (1+rest.length) * 8≤140737488355328 then
  ((g_r01_trim N (([(a.getD ((i).toNat) 0)]:List Int) ++ rest)).bind fun rtrim =>
  g_r01_over_L2 N a b q i rtrim (g_r01_over_L1 N a b fuel) N 0 65535)
  else none)
  else none))
  (((g_r01_trim N q).bind fun rtrim2 =>
  some (rtrim2,rest))))
def g_r01_over (N:Nat) (a:List Int) (b:List Int):Option ((List Int)×(List Int)) :=
 (if 0≤((a.length:Nat):Int)∧(8:Int) * ((a.length:Nat):Int)≤281474976710656∧((a.length:Nat):Int)≤9223372036854775807 then
 g_r01_over_L1 N a b N ([]:List Int) (List.replicate a.length 0:List Int) (w64 (((a.length:Nat):Int) - 1))
 else none)
def g_w01_wide (N:Nat) (x:TRat):Option (Bool) :=
 some (cond (decide (((x.fN.fL.length:Nat):Int) > 12)) true (decide (((x.fD.fL.length:Nat):Int) > 12)))
def g_e_over (N:Nat) (x:TRat) (y:TRat):Option (TRat) :=
 ((g_e_below N y).bind fun rbelow =>
 ((g_e_Mul N x.fN rbelow).bind fun rMul =>
 ((g_e_below N x).bind fun rbelow2 =>
 ((g_e_Mul N rbelow2 y.fN).bind fun rMul2 =>
 ((g_e_fraction N rMul rMul2).bind fun rFr =>
 some rFr)))))
def g_e_QuoRat (N:Nat) (x:TRat) (y:TRat):Option (TRat×Int) :=
 ((g_e_isZero N y).bind fun risZero =>
 (cond risZero
 (some ((⟨(⟨false,([]:List Int)⟩:TInt),(⟨false,([]:List Int)⟩:TInt)⟩:TRat),9))
 (((g_e_over N x y).bind fun rover =>
 some (rover,0)))))
def g_r01_gcd_L1 (N:Nat):Nat→(List Int)→(List Int)→Option ((List Int))
 | 0,_,_=>none
 | fuel+1,a2,b2 =>
  (cond (decide (((b2.length:Nat):Int) > 0))
  (((g_r01_over N a2 b2).bind fun rover =>
  g_r01_gcd_L1 N fuel b2 rover.2))
  (some a2))
def g_r01_gcd (N:Nat) (a:List Int) (b:List Int):Option ((List Int)) :=
 g_r01_gcd_L1 N N a b
def g_r01_Over (N:Nat) (a:TInt) (b:TInt):Option (TRat) :=
 ((g_r01_read N a.fL).bind fun rread =>
 ((g_r01_read N b.fL).bind fun rread2 =>
 (cond (((rread2.length:Nat):Int) == 0)
 (((g_r01_made N a.fG rread).bind fun rmade =>
 ((g_r01_Of N 1).bind fun rOf =>
 some (⟨rmade,rOf⟩:TRat))))
 (((g_r01_gcd N rread rread2).bind fun rgcd =>
 ((g_r01_over N rread rgcd).bind fun rover =>
 ((g_r01_over N rread2 rgcd).bind fun rover2 =>
 ((g_r01_made N (!(a.fG == b.fG)) rover.1).bind fun rmade2 =>
 ((g_r01_made N false rover2.1).bind fun rmade3 =>
 some (⟨rmade2,rmade3⟩:TRat))))))))))
def g_r01_NormRat (N:Nat) (x:TRat):Option (TRat) :=
 ((g_r01_Over N x.fN x.fD).bind fun rOver =>
 some rOver)
def g_r01_SignRat (N:Nat) (x:TRat):Option (Int) :=
 ((g_r01_NormRat N x).bind fun rNormRat =>
 ((g_r01_Sign N rNormRat.fN).bind fun rSign =>
 some rSign))
def g_r01_AddRat (N:Nat) (x:TRat) (y:TRat):Option (TRat) :=
 ((g_r01_NormRat N x).bind fun rNormRat =>
 ((g_r01_NormRat N y).bind fun rNormRat2 =>
 ((g_r01_Mul N rNormRat.fN rNormRat2.fD).bind fun rMul =>
 ((g_r01_Mul N rNormRat2.fN rNormRat.fD).bind fun rMul2 =>
 ((g_r01_Add N rMul rMul2).bind fun rAdd =>
 ((g_r01_Mul N rNormRat.fD rNormRat2.fD).bind fun rMul3 =>
 ((g_r01_Over N rAdd rMul3).bind fun rOver =>
 some rOver)))))))
def g_r01_NegRat (N:Nat) (x:TRat):Option (TRat) :=
 ((g_r01_NormRat N x).bind fun rNormRat =>
 ((g_r01_Neg N rNormRat.fN).bind fun rNeg =>
 some (⟨rNeg,rNormRat.fD⟩:TRat)))
def g_r01_SubRat (N:Nat) (x:TRat) (y:TRat):Option (TRat) :=
 ((g_r01_NegRat N y).bind fun rNegRat =>
 ((g_r01_AddRat N x rNegRat).bind fun rAddRat =>
 some rAddRat))
def g_r01_MulRat (N:Nat) (x:TRat) (y:TRat):Option (TRat) :=
 ((g_r01_NormRat N x).bind fun rNormRat =>
 ((g_r01_NormRat N y).bind fun rNormRat2 =>
 ((g_r01_Mul N rNormRat.fN rNormRat2.fN).bind fun rMul =>
 ((g_r01_Mul N rNormRat.fD rNormRat2.fD).bind fun rMul2 =>
 ((g_r01_Over N rMul rMul2).bind fun rOver =>
 some rOver)))))
def g_r01_Norm (N:Nat) (a:TInt):Option (TInt) :=
 ((g_r01_read N a.fL).bind fun rread =>
 ((g_r01_made N a.fG rread).bind fun rmade =>
 some rmade))
def g_r01_QuoRat (N:Nat) (x:TRat) (y:TRat):Option (TRat) :=
 ((g_r01_NormRat N x).bind fun rNormRat =>
 ((g_r01_NormRat N y).bind fun rNormRat2 =>
 ((g_r01_Mul N rNormRat.fN rNormRat2.fD).bind fun rMul =>
 ((g_r01_Mul N rNormRat.fD rNormRat2.fN).bind fun rMul2 =>
 ((g_r01_Over N rMul rMul2).bind fun rOver =>
 some rOver)))))
def g_w01_wideAll_L1 (N:Nat) (l:List TRat):Nat→Int→Option (Bool)
 | 0,_=>none
 | fuel+1,i =>
  (cond (decide (i < ((l.length:Nat):Int)))
  ((if 0≤i∧i < ((l.length:Nat):Int) then
  ((g_w01_wide N (⟨((l.getD ((i).toNat) TRat.d).fN),((l.getD ((i).toNat) TRat.d).fD)⟩:TRat)).bind fun rwide =>
  (cond rwide
  (some true)
  (g_w01_wideAll_L1 N l fuel (w64 (i+1)))))
  else none))
  (some false))
def g_w01_wideAll (N:Nat) (l:List TRat) (most:Int):Option (Bool) :=
 (cond (decide (((l.length:Nat):Int) > most))
 (some true)
 (g_w01_wideAll_L1 N l N 0))
def g_b_SameRats_L1 (N:Nat) (a:List TRat) (b:List TRat):Nat→Int→Option (Bool)
 | 0,_=>none
 | fuel+1,i =>
  (cond (decide (i < ((a.length:Nat):Int)))
  ((if 0≤i∧i < ((a.length:Nat):Int) then
  (if 0≤i∧i < ((b.length:Nat):Int) then
  ((g_b_SameRat N (⟨((a.getD ((i).toNat) TRat.d).fN),((a.getD ((i).toNat) TRat.d).fD)⟩:TRat) (⟨((b.getD ((i).toNat) TRat.d).fN),((b.getD ((i).toNat) TRat.d).fD)⟩:TRat)).bind fun rSameRat =>
  (cond (!rSameRat)
  (some false)
  (g_b_SameRats_L1 N a b fuel (w64 (i+1)))))
  else none)
  else none))
  (some true))
def g_b_SameRats (N:Nat) (a:List TRat) (b:List TRat):Option (Bool) :=
 (cond (((a.length:Nat):Int) != ((b.length:Nat):Int))
 (some false)
 (g_b_SameRats_L1 N a b N 0))
def g_r01_Q (N:Nat) (n:Int):Option (TRat) :=
 ((g_r01_Of N n).bind fun rOf =>
 ((g_r01_Of N 1).bind fun rOf2 =>
 some (⟨rOf,rOf2⟩:TRat)))
def g_e_Solve_1 (N:Nat) (vr:List TRat) (cap0:List (List TRat)):Option (Bool) :=
 some (((vr.length:Nat):Int) != ((cap0.length:Nat):Int))
def g_slices_IndexFunc_Rat_v2_L1 (N:Nat) (s:List (List TRat)) (cap0:List (List TRat)):Nat→Int→Option (Int)
 | 0,_=>none
 | fuel+1,x =>
  (cond (decide (x < ((s.length:Nat):Int)))
  ((if 0≤x∧x < ((s.length:Nat):Int) then
  ((g_e_Solve_1 N (s.getD ((x).toNat) []) cap0).bind fun rSolve1 =>
  (cond rSolve1
  (some x)
  (g_slices_IndexFunc_Rat_v2_L1 N s cap0 fuel (w64 (x+1)))))
  else none))
  (some (-1)))
def g_slices_IndexFunc_Rat_v2 (N:Nat) (s:List (List TRat)) (cap0:List (List TRat)):Option (Int) :=
 g_slices_IndexFunc_Rat_v2_L1 N s cap0 N 0
def g_slices_ContainsFunc_Rat_v2 (N:Nat) (s:List (List TRat)) (cap0:List (List TRat)):Option (Bool) :=
 ((g_slices_IndexFunc_Rat_v2 N s cap0).bind fun rRat =>
 some (decide (rRat≥0)))
def g_slices_Clone_Rat (N:Nat) (s:List TRat):Option ((List TRat)) :=
 (if (0+s.length) * 64≤140737488355328 then
 some (([]:List TRat) ++ s)
 else none)
def g_e_Solve_2 (N:Nat) (vr:List TRat) (cap0:Int):Option (Bool) :=
 (if 0≤cap0∧cap0 < ((vr.length:Nat):Int) then
 ((g_e_isZero N (⟨((vr.getD ((cap0).toNat) TRat.d).fN),((vr.getD ((cap0).toNat) TRat.d).fD)⟩:TRat)).bind fun risZero =>
 some (!risZero))
 else none)
def g_slices_IndexFunc_Rat_v3_L1 (N:Nat) (so:Nat) (sn:Nat) (cap0:List (List TRat)) (cap1:Int):Nat→Int→Option (Int)
 | 0,_=>none
 | fuel+1,x =>
  (cond (decide (x < ((sn:Nat):Int)))
  ((if (addz so (x).toNat) < cap0.length then
  (if 0≤x∧x < ((sn:Nat):Int) then
  (if so+sn≤cap0.length then
  ((g_e_Solve_2 N (cap0.getD (addz so (x).toNat) []) cap1).bind fun rSolve2 =>
  (cond rSolve2
  (some x)
  (g_slices_IndexFunc_Rat_v3_L1 N so sn cap0 cap1 fuel (w64 (x+1)))))
  else none)
  else none)
  else none))
  (some (-1)))
def g_slices_IndexFunc_Rat_v3 (N:Nat) (so:Nat) (sn:Nat) (cap0:List (List TRat)) (cap1:Int):Option (Int) :=
 g_slices_IndexFunc_Rat_v3_L1 N so sn cap0 cap1 N 0
def g_e_Solve_J6 (N:Nat) (a:List (List TRat)) (x2:Int) (a3:List (List TRat)) (x5:Int) (K_g_e_Solve_L4:(List (List TRat))→Int→Option ((List TRat)×Int)) (K_g_e_Solve_L2:(List (List TRat))→Int→Option ((List TRat)×Int)) (a6:List (List TRat)):Option ((List TRat)×Int) :=
 K_g_e_Solve_L4 a6 (w64 (x5+1))
def g_e_Solve_L5 (N:Nat) (a:List (List TRat)) (x2:Int) (a3:List (List TRat)) (a4:List (List TRat)) (x5:Int) (K_g_e_Solve_L4:(List (List TRat))→Int→Option ((List TRat)×Int)) (K_g_e_Solve_L2:(List (List TRat))→Int→Option ((List TRat)×Int)):Nat→(List (List TRat))→Int→Option ((List TRat)×Int)
 | 0,_,_=>none
 | fuel+1,a5,x6 =>
  (cond (decide (x6 < (((a4.getD ((x5).toNat) []).length:Nat):Int)))
  ((if (x5).toNat < a5.length then
  (cond (decide ((x2).toNat=(x5).toNat))
  ((if 0≤x5∧x5 < ((a5.length:Nat):Int) then
  (if 0≤x6∧x6 < (((a5.getD ((x5).toNat) []).length:Nat):Int) then
  (if 0≤x2∧x2 < ((a5.length:Nat):Int) then
  ((g_e_MulRat N (⟨(((a4.getD ((x5).toNat) []).getD ((x2).toNat) TRat.d).fN),(((a4.getD ((x5).toNat) []).getD ((x2).toNat) TRat.d).fD)⟩:TRat) (⟨(((a5.getD ((x5).toNat) []).getD ((x6).toNat) TRat.d).fN),(((a5.getD ((x5).toNat) []).getD ((x6).toNat) TRat.d).fD)⟩:TRat)).bind fun rMulRat =>
  ((g_e_SubRat N (⟨(((a5.getD ((x5).toNat) []).getD ((x6).toNat) TRat.d).fN),(((a5.getD ((x5).toNat) []).getD ((x6).toNat) TRat.d).fD)⟩:TRat) rMulRat).bind fun rSubRat =>
  g_e_Solve_L5 N a x2 a3 a4 x5 K_g_e_Solve_L4 K_g_e_Solve_L2 fuel (a5.set ((x5).toNat) ((a5.getD ((x5).toNat) []).set ((x6).toNat) rSubRat)) (w64 (x6+1))))
  else none)
  else none)
  else none))
  ((if (x2).toNat < a5.length then
  (if 0≤x5∧x5 < ((a5.length:Nat):Int) then
  (if 0≤x6∧x6 < (((a5.getD ((x5).toNat) []).length:Nat):Int) then
  (if 0≤x2∧x2 < ((a5.length:Nat):Int) then
  (if 0≤x6∧x6 < (((a5.getD ((x2).toNat) []).length:Nat):Int) then
  ((g_e_MulRat N (⟨(((a4.getD ((x5).toNat) []).getD ((x2).toNat) TRat.d).fN),(((a4.getD ((x5).toNat) []).getD ((x2).toNat) TRat.d).fD)⟩:TRat) (⟨(((a5.getD ((x2).toNat) []).getD ((x6).toNat) TRat.d).fN),(((a5.getD ((x2).toNat) []).getD ((x6).toNat) TRat.d).fD)⟩:TRat)).bind fun rMulRat2 =>
  ((g_e_SubRat N (⟨(((a5.getD ((x5).toNat) []).getD ((x6).toNat) TRat.d).fN),(((a5.getD ((x5).toNat) []).getD ((x6).toNat) TRat.d).fD)⟩:TRat) rMulRat2).bind fun rSubRat2 =>
  g_e_Solve_L5 N a x2 a3 a4 x5 K_g_e_Solve_L4 K_g_e_Solve_L2 fuel (a5.set ((x5).toNat) ((a5.getD ((x5).toNat) []).set ((x6).toNat) rSubRat2)) (w64 (x6+1))))
  else none)
  else none)
  else none)
  else none)
  else none)))
  else none))
  (g_e_Solve_J6 N a x2 a3 x5 K_g_e_Solve_L4 K_g_e_Solve_L2 a5))
def g_e_Solve_L4 (N:Nat) (a:List (List TRat)) (x2:Int) (a3:List (List TRat)) (K_g_e_Solve_L2:(List (List TRat))→Int→Option ((List TRat)×Int)):Nat→(List (List TRat))→Int→Option ((List TRat)×Int)
 | 0,_,_=>none
 | fuel+1,a4,x5 =>
  (cond (decide (x5 < ((a3.length:Nat):Int)))
  ((if (x5).toNat < a4.length then
  (if 0≤x5∧x5 < ((a4.length:Nat):Int) then
  (if 0≤x2∧x2 < (((a4.getD ((x5).toNat) []).length:Nat):Int) then
  ((cond (x5 != x2) (g_e_isZero N (⟨(((a4.getD ((x5).toNat) []).getD ((x2).toNat) TRat.d).fN),(((a4.getD ((x5).toNat) []).getD ((x2).toNat) TRat.d).fD)⟩:TRat)) (some false)).bind fun risZero =>
  (cond (cond (x5 != x2) (!risZero) false)
  (g_e_Solve_L5 N a x2 a3 a4 x5 (g_e_Solve_L4 N a x2 a3 K_g_e_Solve_L2 fuel) K_g_e_Solve_L2 N a4 0)
  (g_e_Solve_J6 N a x2 a3 x5 (g_e_Solve_L4 N a x2 a3 K_g_e_Solve_L2 fuel) K_g_e_Solve_L2 a4)))
  else none)
  else none)
  else none))
  (K_g_e_Solve_L2 a4 (w64 (x2+1))))
def g_e_Solve_L3 (N:Nat) (a:List (List TRat)) (x2:Int) (K_g_e_Solve_L2:(List (List TRat))→Int→Option ((List TRat)×Int)):Nat→(List (List TRat))→TRat→Int→Int→Option ((List TRat)×Int)
 | 0,_,_,_,_=>none
 | fuel+1,a3,first,x3,x4 =>
  (cond (decide (x4 < x3))
  ((if (x2).toNat < a3.length then
  (if 0≤x2∧x2 < ((a3.length:Nat):Int) then
  (if 0≤x4∧x4 < (((a3.getD ((x2).toNat) []).length:Nat):Int) then
  ((g_e_over N (⟨(((a3.getD ((x2).toNat) []).getD ((x4).toNat) TRat.d).fN),(((a3.getD ((x2).toNat) []).getD ((x4).toNat) TRat.d).fD)⟩:TRat) first).bind fun rover =>
  g_e_Solve_L3 N a x2 K_g_e_Solve_L2 fuel (a3.set ((x2).toNat) ((a3.getD ((x2).toNat) []).set ((x4).toNat) rover)) first x3 (w64 (x4+1)))
  else none)
  else none)
  else none))
  (g_e_Solve_L4 N a x2 a3 K_g_e_Solve_L2 N a3 0))
def g_e_Solve_L7 (N:Nat) (a2:List (List TRat)):Nat→(List TRat)→Int→Option ((List TRat)×Int)
 | 0,_,_=>none
 | fuel+1,out,x7 =>
  (cond (decide (x7 < ((a2.length:Nat):Int)))
  ((if (x7).toNat < a2.length then
  (if 0≤x7∧x7 < ((a2.length:Nat):Int) then
  (if 0≤((a2.length:Nat):Int)∧((a2.length:Nat):Int) < (((a2.getD ((x7).toNat) []).length:Nat):Int) then
  ((g_e_lowest N (⟨(((a2.getD ((x7).toNat) []).getD a2.length TRat.d).fN),(((a2.getD ((x7).toNat) []).getD a2.length TRat.d).fD)⟩:TRat)).bind fun rlowest =>
  (if 0≤x7∧x7 < ((out.length:Nat):Int) then
  g_e_Solve_L7 N a2 fuel (out.set ((x7).toNat) rlowest) (w64 (x7+1))
  else none))
  else none)
  else none)
  else none))
  (some (out,0)))
def g_e_Solve_L2 (N:Nat) (a:List (List TRat)):Nat→(List (List TRat))→Int→Option ((List TRat)×Int)
 | 0,_,_=>none
 | fuel+1,a2,x2 =>
  (cond (decide (x2 < ((a.length:Nat):Int)))
  ((if (x2).toNat≤a2.length∧a2.length≤a2.length then
  (if 0≤x2 then
  ((g_slices_IndexFunc_Rat_v3 N ((x2).toNat) (a2.length - (x2).toNat) a2 x2).bind fun rRat3 =>
  (cond (decide (rRat3 < 0))
  (some (([]:List TRat),29))
  ((if (w64 (x2+rRat3)).toNat < a2.length then
  (cond (decide ((x2).toNat=(w64 (x2+rRat3)).toNat))
  ((if 0≤(w64 (x2+rRat3))∧(w64 (x2+rRat3)) < ((a2.length:Nat):Int) then
  (if 0≤x2∧x2 < ((a2.length:Nat):Int) then
  (if (x2).toNat < a2.length then
  (if 0≤x2∧x2 < (((a2.getD ((x2).toNat) []).length:Nat):Int) then
  g_e_Solve_L3 N a x2 (g_e_Solve_L2 N a fuel) N a2 (⟨(((a2.getD ((x2).toNat) []).getD ((x2).toNat) TRat.d).fN),(((a2.getD ((x2).toNat) []).getD ((x2).toNat) TRat.d).fD)⟩:TRat) (((a2.getD ((x2).toNat) []).length:Nat):Int) 0
  else none)
  else none)
  else none)
  else none))
  ((if (x2).toNat < a2.length then
  (if 0≤(w64 (x2+rRat3))∧(w64 (x2+rRat3)) < ((a2.length:Nat):Int) then
  (if 0≤x2∧x2 < ((a2.length:Nat):Int) then
  (if (x2).toNat < (a2.set ((w64 (x2+rRat3)).toNat) (a2.getD ((x2).toNat) [])).length then
  (if (x2).toNat < ((a2.set ((w64 (x2+rRat3)).toNat) (a2.getD ((x2).toNat) [])).set ((x2).toNat) (a2.getD ((w64 (x2+rRat3)).toNat) [])).length then
  (if 0≤x2∧x2 < ((((a2.set ((w64 (x2+rRat3)).toNat) (a2.getD ((x2).toNat) [])).set ((x2).toNat) (a2.getD ((w64 (x2+rRat3)).toNat) [])).length:Nat):Int) then
  (if 0≤x2∧x2 < (((((a2.set ((w64 (x2+rRat3)).toNat) (a2.getD ((x2).toNat) [])).set ((x2).toNat) (a2.getD ((w64 (x2+rRat3)).toNat) [])).getD ((x2).toNat) []).length:Nat):Int) then
  g_e_Solve_L3 N a x2 (g_e_Solve_L2 N a fuel) N ((a2.set ((w64 (x2+rRat3)).toNat) (a2.getD ((x2).toNat) [])).set ((x2).toNat) (a2.getD ((w64 (x2+rRat3)).toNat) [])) (⟨(((((a2.set ((w64 (x2+rRat3)).toNat) (a2.getD ((x2).toNat) [])).set ((x2).toNat) (a2.getD ((w64 (x2+rRat3)).toNat) [])).getD ((x2).toNat) []).getD ((x2).toNat) TRat.d).fN),(((((a2.set ((w64 (x2+rRat3)).toNat) (a2.getD ((x2).toNat) [])).set ((x2).toNat) (a2.getD ((w64 (x2+rRat3)).toNat) [])).getD ((x2).toNat) []).getD ((x2).toNat) TRat.d).fD)⟩:TRat) (((((a2.set ((w64 (x2+rRat3)).toNat) (a2.getD ((x2).toNat) [])).set ((x2).toNat) (a2.getD ((w64 (x2+rRat3)).toNat) [])).getD ((x2).toNat) []).length:Nat):Int) 0
  else none)
  else none)
  else none)
  else none)
  else none)
  else none)
  else none)))
  else none))))
  else none)
  else none))
  ((if 0≤((a2.length:Nat):Int)∧(64:Int) * ((a2.length:Nat):Int)≤281474976710656∧((a2.length:Nat):Int)≤9223372036854775807 then
  g_e_Solve_L7 N a2 N (List.replicate a2.length TRat.d:List TRat) 0
  else none)))
def g_e_Solve_L1 (N:Nat) (m:List (List TRat)) (b:List TRat):Nat→(List (List TRat))→Int→Option ((List TRat)×Int)
 | 0,_,_=>none
 | fuel+1,a,x =>
  (cond (decide (x < ((m.length:Nat):Int)))
  ((if 0≤x∧x < ((m.length:Nat):Int) then
  ((g_slices_Clone_Rat N (m.getD ((x).toNat) [])).bind fun rRat2 =>
  (if 0≤x∧x < ((b.length:Nat):Int) then
  (if (rRat2.length+1) * 64≤140737488355328 then
  (if (a.length+1) * 24≤140737488355328 then
  g_e_Solve_L1 N m b fuel (a ++ [(rRat2 ++ ([(⟨((b.getD ((x).toNat) TRat.d).fN),((b.getD ((x).toNat) TRat.d).fD)⟩:TRat)]:List TRat))]) (w64 (x+1))
  else none)
  else none)
  else none))
  else none))
  (g_e_Solve_L2 N a N a 0))
def g_e_Solve (N:Nat) (m:List (List TRat)) (b:List TRat):Option ((List TRat)×Int) :=
 (cond (decide (((m.length:Nat):Int) > 40))
 (some (([]:List TRat),8))
 (((cond (!(((b.length:Nat):Int) != ((m.length:Nat):Int))) (g_slices_ContainsFunc_Rat_v2 N m m) (some false)).bind fun rRat =>
 (cond (cond (((b.length:Nat):Int) != ((m.length:Nat):Int)) true rRat)
 (some (([]:List TRat),11))
 (g_e_Solve_L1 N m b N ([]:List (List TRat)) 0)))))
def g_r01_Solve_J6 (N:Nat) (m:List (List TRat)) (c7:Int) (i3:Int) (K_g_r01_Solve_L5:(List (List TRat))→Int→Option ((List TRat)×Int)) (K_g_r01_Solve_L3:(List (List TRat))→Int→Option ((List TRat)×Int)) (rows4:List (List TRat)):Option ((List TRat)×Int) :=
 K_g_r01_Solve_L5 rows4 (w64 (i3+1))
def g_r01_Solve_L7 (N:Nat) (m:List (List TRat)) (c7:Int) (i3:Int) (K_g_r01_Solve_L5:(List (List TRat))→Int→Option ((List TRat)×Int)) (K_g_r01_Solve_L3:(List (List TRat))→Int→Option ((List TRat)×Int)):Nat→(List (List TRat))→TRat→Int→Option ((List TRat)×Int)
 | 0,_,_,_=>none
 | fuel+1,rows5,f,k =>
  (cond (decide (k≤((m.length:Nat):Int)))
  ((if (i3).toNat < rows5.length then
  (cond (decide ((c7).toNat=(i3).toNat))
  ((if 0≤i3∧i3 < ((rows5.length:Nat):Int) then
  (if 0≤k∧k < (((rows5.getD ((i3).toNat) []).length:Nat):Int) then
  (if 0≤c7∧c7 < ((rows5.length:Nat):Int) then
  ((g_r01_MulRat N f (⟨(((rows5.getD ((i3).toNat) []).getD ((k).toNat) TRat.d).fN),(((rows5.getD ((i3).toNat) []).getD ((k).toNat) TRat.d).fD)⟩:TRat)).bind fun rMulRat =>
  ((g_r01_SubRat N (⟨(((rows5.getD ((i3).toNat) []).getD ((k).toNat) TRat.d).fN),(((rows5.getD ((i3).toNat) []).getD ((k).toNat) TRat.d).fD)⟩:TRat) rMulRat).bind fun rSubRat =>
  g_r01_Solve_L7 N m c7 i3 K_g_r01_Solve_L5 K_g_r01_Solve_L3 fuel (rows5.set ((i3).toNat) ((rows5.getD ((i3).toNat) []).set ((k).toNat) rSubRat)) f (w64 (k+1))))
  else none)
  else none)
  else none))
  ((if (c7).toNat < rows5.length then
  (if 0≤i3∧i3 < ((rows5.length:Nat):Int) then
  (if 0≤k∧k < (((rows5.getD ((i3).toNat) []).length:Nat):Int) then
  (if 0≤c7∧c7 < ((rows5.length:Nat):Int) then
  (if 0≤k∧k < (((rows5.getD ((c7).toNat) []).length:Nat):Int) then
  ((g_r01_MulRat N f (⟨(((rows5.getD ((c7).toNat) []).getD ((k).toNat) TRat.d).fN),(((rows5.getD ((c7).toNat) []).getD ((k).toNat) TRat.d).fD)⟩:TRat)).bind fun rMulRat2 =>
  ((g_r01_SubRat N (⟨(((rows5.getD ((i3).toNat) []).getD ((k).toNat) TRat.d).fN),(((rows5.getD ((i3).toNat) []).getD ((k).toNat) TRat.d).fD)⟩:TRat) rMulRat2).bind fun rSubRat2 =>
  g_r01_Solve_L7 N m c7 i3 K_g_r01_Solve_L5 K_g_r01_Solve_L3 fuel (rows5.set ((i3).toNat) ((rows5.getD ((i3).toNat) []).set ((k).toNat) rSubRat2)) f (w64 (k+1))))
  else none)
  else none)
  else none)
  else none)
  else none)))
  else none))
  (g_r01_Solve_J6 N m c7 i3 K_g_r01_Solve_L5 K_g_r01_Solve_L3 rows5))
def g_r01_Solve_L5 (N:Nat) (m:List (List TRat)) (c7:Int) (K_g_r01_Solve_L3:(List (List TRat))→Int→Option ((List TRat)×Int)):Nat→(List (List TRat))→Int→Option ((List TRat)×Int)
 | 0,_,_=>none
 | fuel+1,rows3,i3 =>
  (cond (decide (i3 < ((m.length:Nat):Int)))
  ((if (i3).toNat < rows3.length then
  (cond (decide ((c7).toNat=(i3).toNat))
  ((if 0≤i3∧i3 < ((rows3.length:Nat):Int) then
  (if 0≤c7∧c7 < (((rows3.getD ((i3).toNat) []).length:Nat):Int) then
  (if 0≤c7∧c7 < ((rows3.length:Nat):Int) then
  ((g_r01_QuoRat N (⟨(((rows3.getD ((i3).toNat) []).getD ((c7).toNat) TRat.d).fN),(((rows3.getD ((i3).toNat) []).getD ((c7).toNat) TRat.d).fD)⟩:TRat) (⟨(((rows3.getD ((i3).toNat) []).getD ((c7).toNat) TRat.d).fN),(((rows3.getD ((i3).toNat) []).getD ((c7).toNat) TRat.d).fD)⟩:TRat)).bind fun rQuoRat =>
  ((cond (!(i3 == c7)) (g_r01_SignRat N rQuoRat) (some 0)).bind fun rSignRat2 =>
  (cond (cond (i3 == c7) true (rSignRat2 == 0))
  (g_r01_Solve_J6 N m c7 i3 (g_r01_Solve_L5 N m c7 K_g_r01_Solve_L3 fuel) K_g_r01_Solve_L3 rows3)
  (g_r01_Solve_L7 N m c7 i3 (g_r01_Solve_L5 N m c7 K_g_r01_Solve_L3 fuel) K_g_r01_Solve_L3 N rows3 rQuoRat 0))))
  else none)
  else none)
  else none))
  ((if (c7).toNat < rows3.length then
  (if 0≤i3∧i3 < ((rows3.length:Nat):Int) then
  (if 0≤c7∧c7 < (((rows3.getD ((i3).toNat) []).length:Nat):Int) then
  (if 0≤c7∧c7 < ((rows3.length:Nat):Int) then
  (if 0≤c7∧c7 < (((rows3.getD ((c7).toNat) []).length:Nat):Int) then
  ((g_r01_QuoRat N (⟨(((rows3.getD ((i3).toNat) []).getD ((c7).toNat) TRat.d).fN),(((rows3.getD ((i3).toNat) []).getD ((c7).toNat) TRat.d).fD)⟩:TRat) (⟨(((rows3.getD ((c7).toNat) []).getD ((c7).toNat) TRat.d).fN),(((rows3.getD ((c7).toNat) []).getD ((c7).toNat) TRat.d).fD)⟩:TRat)).bind fun rQuoRat2 =>
  ((cond (!(i3 == c7)) (g_r01_SignRat N rQuoRat2) (some 0)).bind fun rSignRat3 =>
  (cond (cond (i3 == c7) true (rSignRat3 == 0))
  (g_r01_Solve_J6 N m c7 i3 (g_r01_Solve_L5 N m c7 K_g_r01_Solve_L3 fuel) K_g_r01_Solve_L3 rows3)
  (g_r01_Solve_L7 N m c7 i3 (g_r01_Solve_L5 N m c7 K_g_r01_Solve_L3 fuel) K_g_r01_Solve_L3 N rows3 rQuoRat2 0))))
  else none)
  else none)
  else none)
  else none)
  else none)))
  else none))
  (K_g_r01_Solve_L3 rows3 (w64 (c7+1))))
def g_r01_Solve_L4 (N:Nat) (m:List (List TRat)) (rows2:List (List TRat)) (c7:Int) (K_g_r01_Solve_L3:(List (List TRat))→Int→Option ((List TRat)×Int)):Nat→Int→Option ((List TRat)×Int)
 | 0,_=>none
 | fuel+1,vat =>
  (cond (decide (vat < ((m.length:Nat):Int)))
  ((if (vat).toNat < rows2.length then
  (if 0≤vat∧vat < ((rows2.length:Nat):Int) then
  (if 0≤c7∧c7 < (((rows2.getD ((vat).toNat) []).length:Nat):Int) then
  ((g_r01_SignRat N (⟨(((rows2.getD ((vat).toNat) []).getD ((c7).toNat) TRat.d).fN),(((rows2.getD ((vat).toNat) []).getD ((c7).toNat) TRat.d).fD)⟩:TRat)).bind fun rSignRat =>
  (cond (cond (decide (vat < ((m.length:Nat):Int))) (rSignRat == 0) false)
  (g_r01_Solve_L4 N m rows2 c7 K_g_r01_Solve_L3 fuel (w64 (vat+1)))
  ((cond (vat == ((m.length:Nat):Int))
  (some (([]:List TRat),29))
  ((cond (decide ((c7).toNat=(vat).toNat))
  ((if 0≤c7∧c7 < ((rows2.length:Nat):Int) then
  g_r01_Solve_L5 N m c7 K_g_r01_Solve_L3 N rows2 0
  else none))
  ((if (c7).toNat < rows2.length then
  (if 0≤c7∧c7 < ((rows2.length:Nat):Int) then
  (if (c7).toNat < (rows2.set ((vat).toNat) (rows2.getD ((c7).toNat) [])).length then
  g_r01_Solve_L5 N m c7 K_g_r01_Solve_L3 N ((rows2.set ((vat).toNat) (rows2.getD ((c7).toNat) [])).set ((c7).toNat) (rows2.getD ((vat).toNat) [])) 0
  else none)
  else none)
  else none))))))))
  else none)
  else none)
  else none))
  ((cond (cond (decide (vat < ((m.length:Nat):Int))) false false)
  (g_r01_Solve_L4 N m rows2 c7 K_g_r01_Solve_L3 fuel (w64 (vat+1)))
  ((cond (vat == ((m.length:Nat):Int))
  (some (([]:List TRat),29))
  ((if (vat).toNat < rows2.length then
  (cond (decide ((c7).toNat=(vat).toNat))
  ((if 0≤vat∧vat < ((rows2.length:Nat):Int) then
  (if 0≤c7∧c7 < ((rows2.length:Nat):Int) then
  g_r01_Solve_L5 N m c7 K_g_r01_Solve_L3 N rows2 0
  else none)
  else none))
  ((if (c7).toNat < rows2.length then
  (if 0≤vat∧vat < ((rows2.length:Nat):Int) then
  (if 0≤c7∧c7 < ((rows2.length:Nat):Int) then
  (if (c7).toNat < (rows2.set ((vat).toNat) (rows2.getD ((c7).toNat) [])).length then
  g_r01_Solve_L5 N m c7 K_g_r01_Solve_L3 N ((rows2.set ((vat).toNat) (rows2.getD ((c7).toNat) [])).set ((c7).toNat) (rows2.getD ((vat).toNat) [])) 0
  else none)
  else none)
  else none)
  else none)))
  else none)))))))
def g_r01_Solve_L8 (N:Nat) (m:List (List TRat)) (rows2:List (List TRat)):Nat→(List TRat)→Int→Option ((List TRat)×Int)
 | 0,_,_=>none
 | fuel+1,out,i4 =>
  (cond (decide (i4 < ((m.length:Nat):Int)))
  ((if (i4).toNat < rows2.length then
  (if 0≤i4∧i4 < ((rows2.length:Nat):Int) then
  (if 0≤((m.length:Nat):Int)∧((m.length:Nat):Int) < (((rows2.getD ((i4).toNat) []).length:Nat):Int) then
  (if 0≤i4∧i4 < (((rows2.getD ((i4).toNat) []).length:Nat):Int) then
  ((g_r01_QuoRat N (⟨(((rows2.getD ((i4).toNat) []).getD m.length TRat.d).fN),(((rows2.getD ((i4).toNat) []).getD m.length TRat.d).fD)⟩:TRat) (⟨(((rows2.getD ((i4).toNat) []).getD ((i4).toNat) TRat.d).fN),(((rows2.getD ((i4).toNat) []).getD ((i4).toNat) TRat.d).fD)⟩:TRat)).bind fun rQuoRat3 =>
  (if (out.length+1) * 64≤140737488355328 then
  g_r01_Solve_L8 N m rows2 fuel (out ++ ([rQuoRat3]:List TRat)) (w64 (i4+1))
  else none))
  else none)
  else none)
  else none)
  else none))
  (some (out,0)))
def g_r01_Solve_L3 (N:Nat) (m:List (List TRat)):Nat→(List (List TRat))→Int→Option ((List TRat)×Int)
 | 0,_,_=>none
 | fuel+1,rows2,c7 =>
  (cond (decide (c7 < ((m.length:Nat):Int)))
  (g_r01_Solve_L4 N m rows2 c7 (g_r01_Solve_L3 N m fuel) N c7)
  (g_r01_Solve_L8 N m rows2 N ([]:List TRat) 0))
def g_r01_Solve_L2 (N:Nat) (m:List (List TRat)) (b:List TRat):Nat→(List (List TRat))→Int→Option ((List TRat)×Int)
 | 0,_,_=>none
 | fuel+1,rows,i2 =>
  (cond (decide (i2 < ((m.length:Nat):Int)))
  ((if 0≤i2∧i2 < ((m.length:Nat):Int) then
  (if (0+(m.getD ((i2).toNat) []).length) * 64≤140737488355328 then
  (if 0≤i2∧i2 < ((b.length:Nat):Int) then
  (if ((0+(m.getD ((i2).toNat) []).length)+1) * 64≤140737488355328 then
  (if (rows.length+1) * 24≤140737488355328 then
  g_r01_Solve_L2 N m b fuel (rows ++ [((([]:List TRat) ++ (m.getD ((i2).toNat) [])) ++ ([(⟨((b.getD ((i2).toNat) TRat.d).fN),((b.getD ((i2).toNat) TRat.d).fD)⟩:TRat)]:List TRat))]) (w64 (i2+1))
  else none)
  else none)
  else none)
  else none)
  else none))
  (g_r01_Solve_L3 N m N rows 0))
def g_r01_Solve_L1 (N:Nat) (m:List (List TRat)) (b:List TRat):Nat→Int→Option ((List TRat)×Int)
 | 0,_=>none
 | fuel+1,i =>
  (cond (decide (i < ((m.length:Nat):Int)))
  ((if 0≤i∧i < ((m.length:Nat):Int) then
  (cond ((((m.getD ((i).toNat) []).length:Nat):Int) != ((m.length:Nat):Int))
  (some (([]:List TRat),11))
  (g_r01_Solve_L1 N m b fuel (w64 (i+1))))
  else none))
  ((cond (((b.length:Nat):Int) != ((m.length:Nat):Int))
  (some (([]:List TRat),11))
  (g_r01_Solve_L2 N m b N ([]:List (List TRat)) 0))))
def g_r01_Solve (N:Nat) (m:List (List TRat)) (b:List TRat):Option ((List TRat)×Int) :=
 (cond (decide (((m.length:Nat):Int) > 40))
 (some (([]:List TRat),8))
 (g_r01_Solve_L1 N m b N 0))
def g_w01_ExactSolves_L1 (N:Nat) (m:List (List TRat)) (b:List TRat):Nat→Int→Option (Bool)
 | 0,_=>none
 | fuel+1,i =>
  (cond (decide (i < ((m.length:Nat):Int)))
  ((if 0≤i∧i < ((m.length:Nat):Int) then
  ((g_w01_wideAll N (m.getD ((i).toNat) []) 60).bind fun rwideAll2 =>
  (cond rwideAll2
  (((g_w01_awake N).bind fun rawake2 =>
  some rawake2))
  (g_w01_ExactSolves_L1 N m b fuel (w64 (i+1)))))
  else none))
  (((g_e_Solve N m b).bind fun rSolve =>
  ((g_r01_Solve N m b).bind fun rSolve2 =>
  ((g_b_SameRats N rSolve.1 rSolve2.1).bind fun rSameRats =>
  ((cond (cond rSameRats (rSolve.2 == rSolve2.2) false) (g_w01_awake N) (some false)).bind fun rawake3 =>
  some (cond (cond rSameRats (rSolve.2 == rSolve2.2) false) rawake3 false)))))))
def g_w01_ExactSolves (N:Nat) (m:List (List TRat)) (b:List TRat):Option (Bool) :=
 ((cond (!(cond (decide (((m.length:Nat):Int) > 50)) true (cond (decide (((m.length:Nat):Int) > 4)) (decide (((m.length:Nat):Int)≤40)) false))) (g_w01_wideAll N b 60) (some false)).bind fun rwideAll =>
 (cond (cond (cond (decide (((m.length:Nat):Int) > 50)) true (cond (decide (((m.length:Nat):Int) > 4)) (decide (((m.length:Nat):Int)≤40)) false)) true rwideAll)
 (((g_w01_awake N).bind fun rawake =>
 some rawake))
 (g_w01_ExactSolves_L1 N m b N 0)))
end Go.Den
