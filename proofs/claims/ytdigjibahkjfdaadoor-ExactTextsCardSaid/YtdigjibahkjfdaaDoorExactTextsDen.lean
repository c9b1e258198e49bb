/- The functions of the program as Lean functions, each in the Option monad; N bounds the rounds of loops. No conditions. -/
import Derived.Test.YtdigjibahkjfdaaDoorCd
import Derived.Lib.Bytealg
set_option linter.unusedVariables false
set_option linter.unusedSimpArgs false
set_option linter.unusedVariables false
namespace Go.Den
open Go.Ab
structure TInt where
 f_Neg:Bool
 f_Limbs:List Int
def TInt.d:TInt:=⟨false,[]⟩
def TInt.wf (x:TInt):Prop:=wB x.f_Neg∧(wL (wK .u16)) x.f_Limbs
def TInt.cells (x:TInt):List AV:=[(aB x.f_Neg),(encL (cU .u16) 0 x.f_Limbs)]
structure TRat where
 f_Num:TInt
 f_Den:TInt
def TRat.d:TRat:=⟨TInt.d,TInt.d⟩
def TRat.wf (x:TRat):Prop:=TInt.wf x.f_Num∧TInt.wf x.f_Den
def TRat.cells (x:TRat):List AV:=[(aB x.f_Num.f_Neg),(encL (cU .u16) 0 x.f_Num.f_Limbs),(aB x.f_Den.f_Neg),(encL (cU .u16) 0 x.f_Den.f_Limbs)]
structure TCurve where
 f_Starts:List Int
 f_Slopes:List TRat
def TCurve.d:TCurve:=⟨[],[]⟩
def TCurve.wf (x:TCurve):Prop:=(wL wI) x.f_Starts∧(wL TRat.wf) x.f_Slopes
def TCurve.cells (x:TCurve):List AV:=[(encL cI 0 x.f_Starts),(encL TRat.cells TRat.d x.f_Slopes)]
def g_w01_wide (N:Nat) (x:TRat):Option (Bool) :=
 some (cond (decide (((x.f_Num.f_Limbs.length:Nat):Int) > 12)) true (decide (((x.f_Den.f_Limbs.length:Nat):Int) > 12)))
def g_b_limbs_L1 (N:Nat):Nat→Int→(List Int)→Option ((List Int))
 | 0,_,_=>none
 | fuel+1,n2,out =>
  (cond (decide (n2 > 0))
  ((if (out.length+1) * 2≤140737488355328 then
  g_b_limbs_L1 N fuel (shrI .u64 n2 16) (out ++ ([(IntKind.u16.wrap ((andI .u64 n2 65535)))]:List Int))
  else none))
  (some out))
def g_b_limbs (N:Nat) (n:Int):Option ((List Int)) :=
 g_b_limbs_L1 N N n ([]:List Int)
def g_b_Z (N:Nat) (n:Int):Option (TInt) :=
 (cond (decide (n < 0))
 (((g_b_limbs N (IntKind.u64.wrap ((IntKind.u64.wrap ((w64 (0 - (w64 (n+1))))))+1))).bind fun rlimbs =>
 some (⟨true,rlimbs⟩:TInt)))
 (((g_b_limbs N (IntKind.u64.wrap (n))).bind fun rlimbs2 =>
 some (⟨false,rlimbs2⟩:TInt))))
def g_e_trim_L1 (N:Nat):Nat→(List Int)→Option ((List Int))
 | 0,_=>none
 | fuel+1,n2 =>
  (if ((decide (((n2.length:Nat):Int) > 0))=true→0≤(w64 (((n2.length:Nat):Int) - 1))∧(w64 (((n2.length:Nat):Int) - 1)) < ((n2.length:Nat):Int)) then
  (cond (cond (decide (((n2.length:Nat):Int) > 0)) ((n2.getD ((w64 (((n2.length:Nat):Int) - 1)).toNat) 0) == 0) false)
  ((if 0≤(w64 (((n2.length:Nat):Int) - 1)).toNat∧(w64 (((n2.length:Nat):Int) - 1)).toNat≤n2.length then
  (if 0≤(w64 (((n2.length:Nat):Int) - 1)) then
  g_e_trim_L1 N fuel ((n2.take ((w64 (((n2.length:Nat):Int) - 1)).toNat)).drop 0)
  else none)
  else none))
  (some n2))
  else none)
def g_e_trim (N:Nat) (n:List Int):Option ((List Int)) :=
 g_e_trim_L1 N N n
def g_e_compare_L1 (N:Nat) (a:List Int) (b:List Int):Nat→Int→Option (Int)
 | 0,_=>none
 | fuel+1,i =>
  (cond (decide (i≥0))
  ((if 0≤i∧i < ((a.length:Nat):Int) then
  (if 0≤i∧i < ((b.length:Nat):Int) then
  (cond ((a.getD ((i).toNat) 0) != (b.getD ((i).toNat) 0))
  (some (w64 ((w64 ((a.getD ((i).toNat) 0))) - (w64 ((b.getD ((i).toNat) 0))))))
  (g_e_compare_L1 N a b fuel (w64 (i - 1))))
  else none)
  else none))
  (some 0))
def g_e_compare (N:Nat) (a:List Int) (b:List Int):Option (Int) :=
 (cond (((a.length:Nat):Int) != ((b.length:Nat):Int))
 (some (w64 (((a.length:Nat):Int) - ((b.length:Nat):Int))))
 (g_e_compare_L1 N a b N (w64 (((a.length:Nat):Int) - 1))))
def g_slices_Clone_uint16_uint16 (N:Nat) (s:List Int):Option ((List Int)) :=
 (if (0+s.length) * 2≤140737488355328 then
 some (([]:List Int) ++ s)
 else none)
def g_e_short_L1 (N:Nat) (a:List Int) (b:Int):Nat→(List Int)→Int→Int→Option ((List Int)×Int)
 | 0,_,_,_=>none
 | fuel+1,q,rest,i =>
  (cond (decide (i≥0))
  ((if 0≤i∧i < ((a.length:Nat):Int) then
  (if ((IntKind.u32.wrap (b)):Int)≠0 then
  (if 0≤i∧i < ((q.length:Nat):Int) then
  g_e_short_L1 N a b fuel (q.set ((i).toNat) (IntKind.u16.wrap ((IntKind.u32.wrap ((orI .u32 (shlI .u32 rest 16) (IntKind.u32.wrap ((a.getD ((i).toNat) 0)))).tdiv (IntKind.u32.wrap (b))))))) ((orI .u32 (shlI .u32 rest 16) (IntKind.u32.wrap ((a.getD ((i).toNat) 0)))).tmod (IntKind.u32.wrap (b))) (w64 (i - 1))
  else none)
  else none)
  else none))
  (((g_e_trim N q).bind fun rtrim =>
  some (rtrim,(IntKind.u16.wrap (rest))))))
def g_e_short (N:Nat) (a:List Int) (b:Int):Option ((List Int)×Int) :=
 (if 0≤((a.length:Nat):Int)∧(2:Int) * ((a.length:Nat):Int)≤281474976710656∧((a.length:Nat):Int)≤9223372036854775807 then
 g_e_short_L1 N a b N (List.replicate a.length 0:List Int) 0 (w64 (((a.length:Nat):Int) - 1))
 else none)
def g_math_bits_Len16_J1 (N:Nat) (x2:Int) (n:Int):Option (Int) :=
 (if 0≤(IntKind.u8.wrap (x2))∧(IntKind.u8.wrap (x2)) < (((⟨#[0,1,2,2,3,3,3,3,4,4,4,4,4,4,4,4,5,5,5,5,5,5,5,5,5,5,5,5,5,5,5,5,6,6,6,6,6,6,6,6,6,6,6,6,6,6,6,6,6,6,6,6,6,6,6,6,6,6,6,6,6,6,6,6,7,7,7,7,7,7,7,7,7,7,7,7,7,7,7,7,7,7,7,7,7,7,7,7,7,7,7,7,7,7,7,7,7,7,7,7,7,7,7,7,7,7,7,7,7,7,7,7,7,7,7,7,7,7,7,7,7,7,7,7,7,7,7,7,8,8,8,8,8,8,8,8,8,8,8,8,8,8,8,8,8,8,8,8,8,8,8,8,8,8,8,8,8,8,8,8,8,8,8,8,8,8,8,8,8,8,8,8,8,8,8,8,8,8,8,8,8,8,8,8,8,8,8,8,8,8,8,8,8,8,8,8,8,8,8,8,8,8,8,8,8,8,8,8,8,8,8,8,8,8,8,8,8,8,8,8,8,8,8,8,8,8,8,8,8,8,8,8,8,8,8,8,8,8,8,8,8,8,8,8,8,8,8,8,8,8,8,8,8,8,8,8]⟩:ByteArray).size:Nat):Int) then
 some (w64 (n+(w64 ((byteAt (⟨#[0,1,2,2,3,3,3,3,4,4,4,4,4,4,4,4,5,5,5,5,5,5,5,5,5,5,5,5,5,5,5,5,6,6,6,6,6,6,6,6,6,6,6,6,6,6,6,6,6,6,6,6,6,6,6,6,6,6,6,6,6,6,6,6,7,7,7,7,7,7,7,7,7,7,7,7,7,7,7,7,7,7,7,7,7,7,7,7,7,7,7,7,7,7,7,7,7,7,7,7,7,7,7,7,7,7,7,7,7,7,7,7,7,7,7,7,7,7,7,7,7,7,7,7,7,7,7,7,8,8,8,8,8,8,8,8,8,8,8,8,8,8,8,8,8,8,8,8,8,8,8,8,8,8,8,8,8,8,8,8,8,8,8,8,8,8,8,8,8,8,8,8,8,8,8,8,8,8,8,8,8,8,8,8,8,8,8,8,8,8,8,8,8,8,8,8,8,8,8,8,8,8,8,8,8,8,8,8,8,8,8,8,8,8,8,8,8,8,8,8,8,8,8,8,8,8,8,8,8,8,8,8,8,8,8,8,8,8,8,8,8,8,8,8,8,8,8,8,8,8,8,8,8,8,8,8]⟩:ByteArray) ((IntKind.u8.wrap (x2)).toNat))))))
 else none)
def g_math_bits_Len16 (N:Nat) (x:Int):Option (Int) :=
 (cond (decide (x≥256))
 (g_math_bits_Len16_J1 N (shrI .u16 x 8) 8)
 (g_math_bits_Len16_J1 N x 0))
def g_math_bits_LeadingZeros16 (N:Nat) (x:Int):Option (Int) :=
 ((g_math_bits_Len16 N x).bind fun rLen16 =>
 some (w64 (16 - rLen16)))
def g_e_shifted_L1 (N:Nat) (a:List Int) (vby:Int):Nat→(List Int)→Int→Option ((List Int))
 | 0,_,_=>none
 | fuel+1,out,x =>
  (cond (decide (x < ((a.length:Nat):Int)))
  ((if 0≤x∧x < ((a.length:Nat):Int) then
  (if (0:Int)≤vby then
  (if 0≤x∧x < ((out.length:Nat):Int) then
  (if 0≤(w64 (x+1))∧(w64 (x+1)) < (((out.set ((x).toNat) (orI .u16 (out.getD ((x).toNat) 0) (IntKind.u16.wrap ((shlI .u32 (IntKind.u32.wrap ((a.getD ((x).toNat) 0))) vby))))).length:Nat):Int) then
  g_e_shifted_L1 N a vby fuel ((out.set ((x).toNat) (orI .u16 (out.getD ((x).toNat) 0) (IntKind.u16.wrap ((shlI .u32 (IntKind.u32.wrap ((a.getD ((x).toNat) 0))) vby))))).set ((w64 (x+1)).toNat) (IntKind.u16.wrap ((shrI .u32 (shlI .u32 (IntKind.u32.wrap ((a.getD ((x).toNat) 0))) vby) 16)))) (w64 (x+1))
  else none)
  else none)
  else none)
  else none))
  (some out))
def g_e_shifted (N:Nat) (a:List Int) (vby:Int):Option ((List Int)) :=
 (if 0≤(w64 (((a.length:Nat):Int)+1))∧(2:Int) * (w64 (((a.length:Nat):Int)+1))≤281474976710656∧(w64 (((a.length:Nat):Int)+1))≤9223372036854775807 then
 g_e_shifted_L1 N a vby N (List.replicate ((w64 (((a.length:Nat):Int)+1)).toNat) 0:List Int) 0
 else none)
def g_e_digit_J3 (N:Nat) (uo:Nat) (un:Nat) (v:List Int) (q:Int) (cap02:List Int) (borrow:Int) (x:Int) (K_g_e_digit_L2:(List Int)→Int→Int→Int→Option (Int×(List Int))) (x2:Int):Option (Int×(List Int)) :=
 (if 0≤x∧x < ((un:Nat):Int) then
 (if uo+un≤cap02.length then
 K_g_e_digit_L2 (cap02.set (addz uo (x).toNat) (IntKind.u16.wrap ((w64 ((w64 ((w64 ((cap02.getD (addz uo (x).toNat) 0))) - (w64 ((andI .u64 x2 65535)))))+borrow))))) (shrI .u64 x2 16) (shrI .i64 (w64 ((w64 ((w64 ((cap02.getD (addz uo (x).toNat) 0))) - (w64 ((andI .u64 x2 65535)))))+borrow)) 16) (w64 (x+1))
 else none)
 else none)
def g_e_digit_J5 (N:Nat) (cap04:List Int) (q2:Int):Option (Int×(List Int)) :=
 some ((IntKind.u16.wrap (q2)),cap04)
def g_e_digit_L4 (N:Nat) (uo:Nat) (un:Nat) (v:List Int) (q:Int):Nat→(List Int)→Int→Int→Option (Int×(List Int))
 | 0,_,_,_=>none
 | fuel+1,cap03,carry2,x3 =>
  (cond (decide (x3 < ((v.length:Nat):Int)))
  ((if 0≤x3∧x3 < ((un:Nat):Int) then
  (if uo+un≤cap03.length then
  (if 0≤x3∧x3 < ((v.length:Nat):Int) then
  g_e_digit_L4 N uo un v q fuel (cap03.set (addz uo (x3).toNat) (IntKind.u16.wrap ((IntKind.u32.wrap (carry2+(IntKind.u32.wrap ((IntKind.u32.wrap ((cap03.getD (addz uo (x3).toNat) 0)))+(IntKind.u32.wrap ((v.getD ((x3).toNat) 0)))))))))) (shrI .u32 (IntKind.u32.wrap (carry2+(IntKind.u32.wrap ((IntKind.u32.wrap ((cap03.getD (addz uo (x3).toNat) 0)))+(IntKind.u32.wrap ((v.getD ((x3).toNat) 0))))))) 16) (w64 (x3+1))
  else none)
  else none)
  else none))
  ((if 0≤((v.length:Nat):Int)∧((v.length:Nat):Int) < ((un:Nat):Int) then
  (if uo+un≤cap03.length then
  g_e_digit_J5 N (cap03.set (addz uo v.length) (IntKind.u16.wrap ((cap03.getD (addz uo v.length) 0)+(IntKind.u16.wrap (carry2))))) (IntKind.u64.wrap (q - 1))
  else none)
  else none)))
def g_e_digit_L2 (N:Nat) (uo:Nat) (un:Nat) (v:List Int) (q:Int):Nat→(List Int)→Int→Int→Int→Option (Int×(List Int))
 | 0,_,_,_,_=>none
 | fuel+1,cap02,carry,borrow,x =>
  (cond (decide (x < (w64 (((v.length:Nat):Int)+1))))
  ((cond (decide (x < ((v.length:Nat):Int)))
  ((if 0≤x∧x < ((v.length:Nat):Int) then
  g_e_digit_J3 N uo un v q cap02 borrow x (g_e_digit_L2 N uo un v q fuel) (IntKind.u64.wrap (carry+(IntKind.u64.wrap (q * (IntKind.u64.wrap ((v.getD ((x).toNat) 0)))))))
  else none))
  (g_e_digit_J3 N uo un v q cap02 borrow x (g_e_digit_L2 N uo un v q fuel) carry)))
  ((cond (decide (borrow < 0))
  (g_e_digit_L4 N uo un v q N cap02 0 0)
  (g_e_digit_J5 N cap02 q))))
def g_e_digit_L1 (N:Nat) (uo:Nat) (un:Nat) (v:List Int) (cap0:List Int):Nat→Int→Int→Option (Int×(List Int))
 | 0,_,_=>none
 | fuel+1,q,rest =>
  (if (((decide (rest < 65536)) && ((decide (rest < 65536)) && (!(decide (q > 65535)))))=true→0≤(w64 (((v.length:Nat):Int) - 2))∧(w64 (((v.length:Nat):Int) - 2)) < ((v.length:Nat):Int)) then
  (if (((decide (rest < 65536)) && ((decide (rest < 65536)) && (!(decide (q > 65535)))))=true→0≤(w64 (((v.length:Nat):Int) - 2))∧(w64 (((v.length:Nat):Int) - 2)) < ((un:Nat):Int)) then
  (if (((decide (rest < 65536)) && ((decide (rest < 65536)) && (!(decide (q > 65535)))))=true→uo+un≤cap0.length) then
  (cond (cond (decide (rest < 65536)) (cond (decide (q > 65535)) true (decide ((IntKind.u64.wrap (q * (IntKind.u64.wrap ((v.getD ((w64 (((v.length:Nat):Int) - 2)).toNat) 0))))) > (orI .u64 (shlI .u64 rest 16) (IntKind.u64.wrap ((cap0.getD (addz uo (w64 (((v.length:Nat):Int) - 2)).toNat) 0))))))) false)
  ((if 0≤(w64 (((v.length:Nat):Int) - 1))∧(w64 (((v.length:Nat):Int) - 1)) < ((v.length:Nat):Int) then
  g_e_digit_L1 N uo un v cap0 fuel (IntKind.u64.wrap (q - 1)) (IntKind.u64.wrap (rest+(IntKind.u64.wrap ((v.getD ((w64 (((v.length:Nat):Int) - 1)).toNat) 0)))))
  else none))
  (g_e_digit_L2 N uo un v q N cap0 0 0 0))
  else none)
  else none)
  else none)
def g_e_digit (N:Nat) (uo:Nat) (un:Nat) (v:List Int) (cap0:List Int):Option (Int×(List Int)) :=
 (if 0≤((v.length:Nat):Int)∧((v.length:Nat):Int) < ((un:Nat):Int) then
 (if uo+un≤cap0.length then
 (if 0≤(w64 (((v.length:Nat):Int) - 1))∧(w64 (((v.length:Nat):Int) - 1)) < ((un:Nat):Int) then
 (if 0≤(w64 (((v.length:Nat):Int) - 1))∧(w64 (((v.length:Nat):Int) - 1)) < ((v.length:Nat):Int) then
 (if ((IntKind.u64.wrap ((v.getD ((w64 (((v.length:Nat):Int) - 1)).toNat) 0))):Int)≠0 then
 g_e_digit_L1 N uo un v cap0 N (IntKind.u64.wrap ((orI .u64 (shlI .u64 (IntKind.u64.wrap ((cap0.getD (addz uo v.length) 0))) 16) (IntKind.u64.wrap ((cap0.getD (addz uo (w64 (((v.length:Nat):Int) - 1)).toNat) 0)))).tdiv (IntKind.u64.wrap ((v.getD ((w64 (((v.length:Nat):Int) - 1)).toNat) 0))))) ((orI .u64 (shlI .u64 (IntKind.u64.wrap ((cap0.getD (addz uo v.length) 0))) 16) (IntKind.u64.wrap ((cap0.getD (addz uo (w64 (((v.length:Nat):Int) - 1)).toNat) 0)))).tmod (IntKind.u64.wrap ((v.getD ((w64 (((v.length:Nat):Int) - 1)).toNat) 0))))
 else none)
 else none)
 else none)
 else none)
 else none)
def g_e_divide_L2 (N:Nat) (b:List Int) (rLeadingZeros:Int) (q:List Int) (u:List Int):Nat→(List Int)→Int→Option ((List Int)×(List Int))
 | 0,_,_=>none
 | fuel+1,vr,x =>
  (cond (decide (x < (((b.length - 0):Nat):Int)))
  ((if 0≤x∧x < ((u.length:Nat):Int) then
  (if 0≤(w64 (x+1))∧(w64 (x+1)) < ((u.length:Nat):Int) then
  (if (0:Int)≤rLeadingZeros then
  (if 0≤x∧x < ((vr.length:Nat):Int) then
  g_e_divide_L2 N b rLeadingZeros q u fuel (vr.set ((x).toNat) (IntKind.u16.wrap ((shrI .u32 (orI .u32 (IntKind.u32.wrap ((u.getD ((x).toNat) 0))) (shlI .u32 (IntKind.u32.wrap ((u.getD ((w64 (x+1)).toNat) 0))) 16)) rLeadingZeros)))) (w64 (x+1))
  else none)
  else none)
  else none)
  else none))
  (((g_e_trim N q).bind fun rtrim2 =>
  ((g_e_trim N vr).bind fun rtrim3 =>
  some (rtrim2,rtrim3)))))
def g_e_divide_L1 (N:Nat) (b:List Int) (rLeadingZeros:Int) (rshifted2:(List Int)):Nat→(List Int)→(List Int)→Int→Option ((List Int)×(List Int))
 | 0,_,_,_=>none
 | fuel+1,q,u,j =>
  (cond (decide (j≥0))
  ((if (j).toNat≤(w64 ((w64 (j+(((b.length - 0):Nat):Int)))+1)).toNat∧(w64 ((w64 (j+(((b.length - 0):Nat):Int)))+1)).toNat≤u.length then
  (if 0≤j then
  (if 0≤(w64 ((w64 (j+(((b.length - 0):Nat):Int)))+1)) then
  (if 0≤b.length∧b.length≤rshifted2.length then
  ((g_e_digit N ((j).toNat) ((w64 ((w64 (j+(((b.length - 0):Nat):Int)))+1)).toNat - (j).toNat) ((rshifted2.take b.length).drop 0) u).bind fun rdigit =>
  (if rdigit.2.length=u.length then
  (if 0≤j∧j < ((q.length:Nat):Int) then
  g_e_divide_L1 N b rLeadingZeros rshifted2 fuel (q.set ((j).toNat) rdigit.1) rdigit.2 (w64 (j - 1))
  else none)
  else none))
  else none)
  else none)
  else none)
  else none))
  ((if 0≤(((b.length - 0):Nat):Int)∧(2:Int) * (((b.length - 0):Nat):Int)≤281474976710656∧(((b.length - 0):Nat):Int)≤9223372036854775807 then
  g_e_divide_L2 N b rLeadingZeros q u N (List.replicate (b.length - 0) 0:List Int) 0
  else none)))
def g_e_divide (N:Nat) (a:List Int) (b:List Int):Option ((List Int)×(List Int)) :=
 ((g_e_compare N a b).bind fun rcompare =>
 (cond (decide (rcompare < 0))
 (((g_slices_Clone_uint16_uint16 N a).bind fun rClone =>
 some (([]:List Int),rClone)))
 ((cond (((b.length:Nat):Int) == 1)
 ((if 0≤(0:Int)∧0 < ((b.length:Nat):Int) then
 ((g_e_short N a (b.getD 0 0)).bind fun rshort =>
 ((g_e_trim N ([rshort.2]:List Int)).bind fun rtrim =>
 some (rshort.1,rtrim)))
 else none))
 ((if 0≤(w64 (((b.length:Nat):Int) - 1))∧(w64 (((b.length:Nat):Int) - 1)) < ((b.length:Nat):Int) then
 ((g_math_bits_LeadingZeros16 N (b.getD ((w64 (((b.length:Nat):Int) - 1)).toNat) 0)).bind fun rLeadingZeros =>
 ((g_e_shifted N a rLeadingZeros).bind fun rshifted =>
 ((g_e_shifted N b rLeadingZeros).bind fun rshifted2 =>
 (if 0≤b.length∧b.length≤rshifted2.length then
 (if 0≤(w64 (((rshifted.length:Nat):Int) - (((b.length - 0):Nat):Int)))∧(2:Int) * (w64 (((rshifted.length:Nat):Int) - (((b.length - 0):Nat):Int)))≤281474976710656∧(w64 (((rshifted.length:Nat):Int) - (((b.length - 0):Nat):Int)))≤9223372036854775807 then
 g_e_divide_L1 N b rLeadingZeros rshifted2 N (List.replicate ((w64 (((rshifted.length:Nat):Int) - (((b.length - 0):Nat):Int))).toNat) 0:List Int) rshifted (w64 ((w64 (((rshifted.length:Nat):Int) - (((b.length - 0):Nat):Int))) - 1))
 else none)
 else none))))
 else none))))))
def g_e_plus_J3 (N:Nat) (a2:List Int) (b2:List Int) (out:List Int) (x:Int) (K_g_e_plus_L2:(List Int)→Int→Int→Option ((List Int))) (carry2:Int):Option ((List Int)) :=
 (if (out.length+1) * 2≤140737488355328 then
 K_g_e_plus_L2 (out ++ ([(IntKind.u16.wrap (carry2))]:List Int)) (shrI .u32 carry2 16) (w64 (x+1))
 else none)
def g_e_plus_L2 (N:Nat) (a2:List Int) (b2:List Int):Nat→(List Int)→Int→Int→Option ((List Int))
 | 0,_,_,_=>none
 | fuel+1,out,carry,x =>
  (cond (decide (x < ((a2.length:Nat):Int)))
  ((if 0≤x∧x < ((a2.length:Nat):Int) then
  (cond (decide (x < ((b2.length:Nat):Int)))
  ((if 0≤x∧x < ((b2.length:Nat):Int) then
  g_e_plus_J3 N a2 b2 out x (g_e_plus_L2 N a2 b2 fuel) (IntKind.u32.wrap ((IntKind.u32.wrap (carry+(IntKind.u32.wrap ((a2.getD ((x).toNat) 0)))))+(IntKind.u32.wrap ((b2.getD ((x).toNat) 0)))))
  else none))
  (g_e_plus_J3 N a2 b2 out x (g_e_plus_L2 N a2 b2 fuel) (IntKind.u32.wrap (carry+(IntKind.u32.wrap ((a2.getD ((x).toNat) 0)))))))
  else none))
  ((if (out.length+1) * 2≤140737488355328 then
  ((g_e_trim N (out ++ ([(IntKind.u16.wrap (carry))]:List Int))).bind fun rtrim =>
  some rtrim)
  else none)))
def g_e_plus_J1 (N:Nat) (a2:List Int) (b2:List Int):Option ((List Int)) :=
 (if 0≤(0:Int)∧(2:Int) * (w64 (((a2.length:Nat):Int)+1))≤281474976710656∧(w64 (((a2.length:Nat):Int)+1))≤9223372036854775807∧(0:Int)≤(w64 (((a2.length:Nat):Int)+1)) then
 g_e_plus_L2 N a2 b2 N (List.replicate 0 0:List Int) 0 0
 else none)
def g_e_plus (N:Nat) (a:List Int) (b:List Int):Option ((List Int)) :=
 (cond (decide (((a.length:Nat):Int) < ((b.length:Nat):Int)))
 (g_e_plus_J1 N b a)
 (g_e_plus_J1 N a b))
def g_e_minus_J3 (N:Nat) (a:List Int) (b:List Int) (out:List Int) (x:Int) (y:Int) (K_g_e_minus_L1:(List Int)→Int→Int→Option ((List Int))) (borrow2:Int):Option ((List Int)) :=
 (if 0≤x∧x < ((out.length:Nat):Int) then
 K_g_e_minus_L1 (out.set ((x).toNat) (IntKind.u16.wrap ((IntKind.u32.wrap ((IntKind.u32.wrap ((IntKind.u32.wrap ((a.getD ((x).toNat) 0)))+(shlI .u32 borrow2 16))) - y))))) borrow2 (w64 (x+1))
 else none)
def g_e_minus_J2 (N:Nat) (a:List Int) (b:List Int) (out:List Int) (x:Int) (K_g_e_minus_L1:(List Int)→Int→Int→Option ((List Int))) (y:Int):Option ((List Int)) :=
 (cond (decide ((IntKind.u32.wrap ((a.getD ((x).toNat) 0))) < y))
 (g_e_minus_J3 N a b out x y K_g_e_minus_L1 1)
 (g_e_minus_J3 N a b out x y K_g_e_minus_L1 0))
def g_e_minus_L1 (N:Nat) (a:List Int) (b:List Int):Nat→(List Int)→Int→Int→Option ((List Int))
 | 0,_,_,_=>none
 | fuel+1,out,borrow,x =>
  (cond (decide (x < ((a.length:Nat):Int)))
  ((if 0≤x∧x < ((a.length:Nat):Int) then
  (cond (decide (x < ((b.length:Nat):Int)))
  ((if 0≤x∧x < ((b.length:Nat):Int) then
  g_e_minus_J2 N a b out x (g_e_minus_L1 N a b fuel) (IntKind.u32.wrap (borrow+(IntKind.u32.wrap ((b.getD ((x).toNat) 0)))))
  else none))
  (g_e_minus_J2 N a b out x (g_e_minus_L1 N a b fuel) borrow))
  else none))
  (((g_e_trim N out).bind fun rtrim =>
  some rtrim)))
def g_e_minus (N:Nat) (a:List Int) (b:List Int):Option ((List Int)) :=
 (if 0≤((a.length:Nat):Int)∧(2:Int) * ((a.length:Nat):Int)≤281474976710656∧((a.length:Nat):Int)≤9223372036854775807 then
 g_e_minus_L1 N a b N (List.replicate a.length 0:List Int) 0 0
 else none)
def g_e_signed (N:Nat) (neg:Bool) (n:List Int):Option (TInt) :=
 ((g_e_trim N n).bind fun rtrim =>
 (cond (((rtrim.length:Nat):Int) == 0)
 (some (⟨false,([]:List Int)⟩:TInt))
 (((g_slices_Clone_uint16_uint16 N rtrim).bind fun rClone =>
 some (⟨neg,rClone⟩:TInt)))))
def g_e_DivMod_J1 (N:Nat) (a:TInt) (b:TInt) (n:List Int) (rest:List Int):Option (TInt×TInt×Int) :=
 ((g_e_signed N (!(a.f_Neg == b.f_Neg)) n).bind fun rsigned =>
 ((g_e_signed N false rest).bind fun rsigned2 =>
 some (rsigned,rsigned2,0)))
def g_e_DivMod (N:Nat) (a:TInt) (b:TInt):Option (TInt×TInt×Int) :=
 ((g_e_trim N a.f_Limbs).bind fun rtrim =>
 ((g_e_trim N b.f_Limbs).bind fun rtrim2 =>
 (cond (((rtrim2.length:Nat):Int) == 0)
 (some ((⟨false,([]:List Int)⟩:TInt),(⟨false,([]:List Int)⟩:TInt),9))
 (((g_e_divide N rtrim rtrim2).bind fun rdivide =>
 (cond (cond a.f_Neg (decide (((rdivide.2.length:Nat):Int) > 0)) false)
 (((g_e_plus N rdivide.1 ([1]:List Int)).bind fun rplus =>
 ((g_e_minus N rtrim2 rdivide.2).bind fun rminus =>
 g_e_DivMod_J1 N a b rplus rminus)))
 (g_e_DivMod_J1 N a b rdivide.1 rdivide.2)))))))
def g_e_natural_L1 (N:Nat):Nat→Int→(List Int)→Option ((List Int))
 | 0,_,_=>none
 | fuel+1,n2,out =>
  (cond (decide (n2 > 0))
  ((if (out.length+1) * 2≤140737488355328 then
  g_e_natural_L1 N fuel (shrI .u64 n2 16) (out ++ ([(IntKind.u16.wrap (n2))]:List Int))
  else none))
  (some out))
def g_e_natural (N:Nat) (n:Int):Option ((List Int)) :=
 g_e_natural_L1 N N n ([]:List Int)
def g_e_Of (N:Nat) (n:Int):Option (TInt) :=
 (cond (decide (n < 0))
 (((g_e_natural N (IntKind.u64.wrap (0 - (IntKind.u64.wrap (n))))).bind fun rnatural =>
 ((g_e_signed N true rnatural).bind fun rsigned =>
 some rsigned)))
 (((g_e_natural N (IntKind.u64.wrap (n))).bind fun rnatural2 =>
 ((g_e_signed N false rnatural2).bind fun rsigned2 =>
 some rsigned2))))
def g_e_word_L1 (N:Nat) (n:List Int):Nat→Int→Int→Option (Int×Bool)
 | 0,_,_=>none
 | fuel+1,out,i =>
  (cond (decide (i≥0))
  ((if 0≤i∧i < ((n.length:Nat):Int) then
  g_e_word_L1 N n fuel (orI .u64 (shlI .u64 out 16) (IntKind.u64.wrap ((n.getD ((i).toNat) 0)))) (w64 (i - 1))
  else none))
  (some (out,true)))
def g_e_word (N:Nat) (n:List Int):Option (Int×Bool) :=
 (cond (decide (((n.length:Nat):Int) > 4))
 (some (0,false))
 (g_e_word_L1 N n N 0 (w64 (((n.length:Nat):Int) - 1))))
def g_e_common_L2 (N:Nat) (K_g_e_common_L1:(List Int)→(List Int)→Option ((List Int))):Nat→Int→Int→Option ((List Int))
 | 0,_,_=>none
 | fuel+1,x,y =>
  (cond (decide (y > 0))
  ((if (y:Int)≠0 then
  g_e_common_L2 N K_g_e_common_L1 fuel y (x.tmod y)
  else none))
  (((g_e_natural N x).bind fun rnatural =>
  some rnatural)))
def g_e_common_L1 (N:Nat):Nat→(List Int)→(List Int)→Option ((List Int))
 | 0,_,_=>none
 | fuel+1,a2,b2 =>
  (cond (decide (((b2.length:Nat):Int) > 0))
  (((g_e_word N a2).bind fun rword =>
  ((g_e_word N b2).bind fun rword2 =>
  (cond (cond rword.2 rword2.2 false)
  (g_e_common_L2 N (g_e_common_L1 N fuel) N rword.1 rword2.1)
  (((g_e_divide N a2 b2).bind fun rdivide =>
  g_e_common_L1 N fuel b2 rdivide.2))))))
  (some a2))
def g_e_common (N:Nat) (a:List Int) (b:List Int):Option ((List Int)) :=
 g_e_common_L1 N N a b
def g_e_fraction_J1 (N:Nat) (a:TInt) (b:TInt) (x:List Int) (y:List Int):Option (TRat) :=
 ((g_e_signed N (!(a.f_Neg == b.f_Neg)) x).bind fun rsigned =>
 ((g_e_signed N false y).bind fun rsigned2 =>
 some (⟨rsigned,rsigned2⟩:TRat)))
def g_e_fraction (N:Nat) (a:TInt) (b:TInt):Option (TRat) :=
 ((g_e_trim N a.f_Limbs).bind fun rtrim =>
 ((g_e_trim N b.f_Limbs).bind fun rtrim2 =>
 ((g_e_common N rtrim rtrim2).bind fun rcommon =>
 (if ((!(((rcommon.length:Nat):Int) != 1))=true→0≤(0:Int)∧0 < ((rcommon.length:Nat):Int)) then
 (cond (cond (((rcommon.length:Nat):Int) != 1) true ((rcommon.getD 0 0) != 1))
 (((g_e_divide N rtrim rcommon).bind fun rdivide =>
 ((g_e_divide N rtrim2 rcommon).bind fun rdivide2 =>
 g_e_fraction_J1 N a b rdivide.1 rdivide2.1)))
 (g_e_fraction_J1 N a b rtrim rtrim2))
 else none))))
def g_e_Ratio (N:Nat) (a:Int) (b:Int):Option (TRat×Int) :=
 (cond (b == 0)
 (some ((⟨(⟨false,([]:List Int)⟩:TInt),(⟨false,([]:List Int)⟩:TInt)⟩:TRat),9))
 (((g_e_Of N a).bind fun rOf =>
 ((g_e_Of N b).bind fun rOf2 =>
 ((g_e_fraction N rOf rOf2).bind fun rfraction =>
 some (rfraction,0))))))
def g_b_W (N:Nat) (n:Int):Option (TRat) :=
 ((g_b_Z N n).bind fun rZ =>
 ((g_b_Z N 1).bind fun rZ2 =>
 some (⟨rZ,rZ2⟩:TRat)))
def g_b_Ws_L1 (N:Nat) (l:List Int):Nat→(List TRat)→Int→Option ((List TRat))
 | 0,_,_=>none
 | fuel+1,out,i =>
  (cond (decide (i < ((l.length:Nat):Int)))
  ((if 0≤i∧i < ((l.length:Nat):Int) then
  ((g_b_W N (l.getD ((i).toNat) 0)).bind fun rW =>
  (if (out.length+1) * 64≤140737488355328 then
  g_b_Ws_L1 N l fuel (out ++ ([rW]:List TRat)) (w64 (i+1))
  else none))
  else none))
  (some out))
def g_b_Ws (N:Nat) (l:List Int):Option ((List TRat)) :=
 g_b_Ws_L1 N l N ([]:List TRat) 0
def g_e_sign (N:Nat) (a:TInt):Option (Int) :=
 ((g_e_trim N a.f_Limbs).bind fun rtrim =>
 (cond (((rtrim.length:Nat):Int) == 0)
 (some 0)
 ((cond a.f_Neg
 (some (-1))
 (some 1)))))
def g_e_below (N:Nat) (x:TRat):Option (TInt) :=
 ((g_e_sign N x.f_Den).bind fun rsign =>
 (cond (rsign == 0)
 (some (⟨false,([1]:List Int)⟩:TInt))
 (some x.f_Den)))
def g_e_signOf (N:Nat) (x:TRat):Option (Int) :=
 ((g_e_sign N x.f_Num).bind fun rsign =>
 ((g_e_below N x).bind fun rbelow =>
 ((g_e_sign N rbelow).bind fun rsign2 =>
 some (w64 (rsign * rsign2)))))
def g_e_CheckCurve_L1 (N:Nat) (c:TCurve):Nat→Int→Option (Int)
 | 0,_=>none
 | fuel+1,x =>
  (cond (decide (x < ((c.f_Starts.length:Nat):Int)))
  ((if 0≤x∧x < ((c.f_Starts.length:Nat):Int) then
  (if ((!(cond (decide ((c.f_Starts.getD ((x).toNat) 0) < (-10000000))) true (decide ((c.f_Starts.getD ((x).toNat) 0) > 10000000))))=true→0≤x∧x < ((c.f_Slopes.length:Nat):Int)) then
  ((cond (!(cond (decide ((c.f_Starts.getD ((x).toNat) 0) < (-10000000))) true (decide ((c.f_Starts.getD ((x).toNat) 0) > 10000000)))) (g_e_signOf N (⟨((c.f_Slopes.getD ((x).toNat) TRat.d).f_Num),((c.f_Slopes.getD ((x).toNat) TRat.d).f_Den)⟩:TRat)) (some 0)).bind fun rsignOf =>
  (cond (cond (cond (decide ((c.f_Starts.getD ((x).toNat) 0) < (-10000000))) true (decide ((c.f_Starts.getD ((x).toNat) 0) > 10000000))) true (decide (rsignOf < 0)))
  (some 2)
  ((if ((decide (x > 0))=true→0≤(w64 (x - 1))∧(w64 (x - 1)) < ((c.f_Starts.length:Nat):Int)) then
  (cond (cond (decide (x > 0)) (decide ((c.f_Starts.getD ((x).toNat) 0)≤(c.f_Starts.getD ((w64 (x - 1)).toNat) 0))) false)
  (some 10)
  (g_e_CheckCurve_L1 N c fuel (w64 (x+1))))
  else none))))
  else none)
  else none))
  (some 0))
def g_e_CheckCurve (N:Nat) (c:TCurve):Option (Int) :=
 (cond (decide (((c.f_Starts.length:Nat):Int) > 40))
 (some 8)
 ((cond (((c.f_Slopes.length:Nat):Int) != ((c.f_Starts.length:Nat):Int))
 (some 11)
 (g_e_CheckCurve_L1 N c N 0))))
def g_e_Whole (N:Nat) (a:TInt):Option (TRat) :=
 ((g_e_fraction N a (⟨false,([1]:List Int)⟩:TInt)).bind fun rfraction =>
 some rfraction)
def g_e_number (N:Nat) (n:Int):Option (TRat) :=
 ((g_e_Of N n).bind fun rOf =>
 ((g_e_Whole N rOf).bind fun rWhole =>
 some rWhole))
def g_e_ramps (N:Nat) (c:TCurve) (y:TRat):Option (TCurve×TRat) :=
 some (c,y)
def g_e_times_L2 (N:Nat) (a:List Int) (b:List Int) (x:Int) (K_g_e_times_L1:(List Int)→Int→Option ((List Int))):Nat→(List Int)→Int→Int→Option ((List Int))
 | 0,_,_,_=>none
 | fuel+1,out2,carry,x2 =>
  (cond (decide (x2 < ((b.length:Nat):Int)))
  ((if 0≤x2∧x2 < ((b.length:Nat):Int) then
  (if 0≤(w64 (x+x2))∧(w64 (x+x2)) < ((out2.length:Nat):Int) then
  g_e_times_L2 N a b x K_g_e_times_L1 fuel (out2.set ((w64 (x+x2)).toNat) (IntKind.u16.wrap ((IntKind.u32.wrap (carry+(IntKind.u32.wrap ((IntKind.u32.wrap ((IntKind.u32.wrap ((a.getD ((x).toNat) 0))) * (IntKind.u32.wrap ((b.getD ((x2).toNat) 0)))))+(IntKind.u32.wrap ((out2.getD ((w64 (x+x2)).toNat) 0)))))))))) (shrI .u32 (IntKind.u32.wrap (carry+(IntKind.u32.wrap ((IntKind.u32.wrap ((IntKind.u32.wrap ((a.getD ((x).toNat) 0))) * (IntKind.u32.wrap ((b.getD ((x2).toNat) 0)))))+(IntKind.u32.wrap ((out2.getD ((w64 (x+x2)).toNat) 0))))))) 16) (w64 (x2+1))
  else none)
  else none))
  ((if 0≤(w64 (x+((b.length:Nat):Int)))∧(w64 (x+((b.length:Nat):Int))) < ((out2.length:Nat):Int) then
  K_g_e_times_L1 (out2.set ((w64 (x+((b.length:Nat):Int))).toNat) (IntKind.u16.wrap (carry))) (w64 (x+1))
  else none)))
def g_e_times_L1 (N:Nat) (a:List Int) (b:List Int):Nat→(List Int)→Int→Option ((List Int))
 | 0,_,_=>none
 | fuel+1,out,x =>
  (cond (decide (x < ((a.length:Nat):Int)))
  ((if 0≤x∧x < ((a.length:Nat):Int) then
  g_e_times_L2 N a b x (g_e_times_L1 N a b fuel) N out 0 0
  else none))
  (((g_e_trim N out).bind fun rtrim =>
  some rtrim)))
def g_e_times (N:Nat) (a:List Int) (b:List Int):Option ((List Int)) :=
 (if 0≤(w64 (((a.length:Nat):Int)+((b.length:Nat):Int)))∧(2:Int) * (w64 (((a.length:Nat):Int)+((b.length:Nat):Int)))≤281474976710656∧(w64 (((a.length:Nat):Int)+((b.length:Nat):Int)))≤9223372036854775807 then
 g_e_times_L1 N a b N (List.replicate ((w64 (((a.length:Nat):Int)+((b.length:Nat):Int))).toNat) 0:List Int) 0
 else none)
def g_e_Mul (N:Nat) (a:TInt) (b:TInt):Option (TInt) :=
 ((g_e_trim N a.f_Limbs).bind fun rtrim =>
 ((g_e_trim N b.f_Limbs).bind fun rtrim2 =>
 ((g_e_times N rtrim rtrim2).bind fun rtimes =>
 ((g_e_signed N (!(a.f_Neg == b.f_Neg)) rtimes).bind fun rsigned =>
 some rsigned))))
def g_e_MulRat (N:Nat) (x:TRat) (y:TRat):Option (TRat) :=
 ((g_e_Mul N x.f_Num y.f_Num).bind fun rMul =>
 ((g_e_below N x).bind fun rbelow =>
 ((g_e_below N y).bind fun rbelow2 =>
 ((g_e_Mul N rbelow rbelow2).bind fun rMul2 =>
 ((g_e_fraction N rMul rMul2).bind fun rfraction =>
 some rfraction)))))
def g_e_isZero (N:Nat) (x:TRat):Option (Bool) :=
 ((g_e_sign N x.f_Num).bind fun rsign =>
 some (rsign == 0))
def g_e_lowest (N:Nat) (x:TRat):Option (TRat) :=
 ((g_e_below N x).bind fun rbelow =>
 ((g_e_fraction N x.f_Num rbelow).bind fun rfraction =>
 some rfraction))
def g_e_Add (N:Nat) (a:TInt) (b:TInt):Option (TInt) :=
 ((g_e_trim N a.f_Limbs).bind fun rtrim =>
 ((g_e_trim N b.f_Limbs).bind fun rtrim2 =>
 (cond (a.f_Neg == b.f_Neg)
 (((g_e_plus N rtrim rtrim2).bind fun rplus =>
 ((g_e_signed N a.f_Neg rplus).bind fun rsigned =>
 some rsigned)))
 (((g_e_compare N rtrim rtrim2).bind fun rcompare =>
 (cond (decide (rcompare≥0))
 (((g_e_minus N rtrim rtrim2).bind fun rminus =>
 ((g_e_signed N a.f_Neg rminus).bind fun rsigned2 =>
 some rsigned2)))
 (((g_e_minus N rtrim2 rtrim).bind fun rminus2 =>
 ((g_e_signed N b.f_Neg rminus2).bind fun rsigned3 =>
 some rsigned3)))))))))
def g_e_AddRat (N:Nat) (x:TRat) (y:TRat):Option (TRat) :=
 ((g_e_isZero N x).bind fun risZero =>
 (cond risZero
 (((g_e_lowest N y).bind fun rlowest =>
 some rlowest))
 (((g_e_isZero N y).bind fun risZero2 =>
 (cond risZero2
 (((g_e_lowest N x).bind fun rlowest2 =>
 some rlowest2))
 (((g_e_below N x).bind fun rbelow =>
 ((g_e_below N y).bind fun rbelow2 =>
 ((g_e_Mul N x.f_Num rbelow2).bind fun rMul =>
 ((g_e_Mul N y.f_Num rbelow).bind fun rMul2 =>
 ((g_e_Add N rMul rMul2).bind fun rAdd =>
 ((g_e_Mul N rbelow rbelow2).bind fun rMul3 =>
 ((g_e_fraction N rAdd rMul3).bind fun rfraction =>
 some rfraction)))))))))))))
def g_e_opposite (N:Nat) (a:TInt):Option (TInt) :=
 some (⟨(!a.f_Neg),a.f_Limbs⟩:TInt)
def g_e_negative (N:Nat) (x:TRat):Option (TRat) :=
 ((g_e_opposite N x.f_Num).bind fun ropposite =>
 ((g_e_below N x).bind fun rbelow =>
 ((g_e_fraction N ropposite rbelow).bind fun rfraction =>
 some rfraction)))
def g_e_SubRat (N:Nat) (x:TRat) (y:TRat):Option (TRat) :=
 ((g_e_negative N y).bind fun rnegative =>
 ((g_e_AddRat N x rnegative).bind fun rAddRat =>
 some rAddRat))
def g_e_ramps_1_L1 (N:Nat) (RD:TRat→TRat→TRat→Option TRat) (cap1:TCurve) (cap2:TRat):Nat→TRat→TRat→Int→Option (TRat)
 | 0,_,_,_=>none
 | fuel+1,cap02,before,x =>
  (cond (decide (x < ((cap1.f_Starts.length:Nat):Int)))
  ((if 0≤x∧x < ((cap1.f_Starts.length:Nat):Int) then
  ((g_e_number N (cap1.f_Starts.getD ((x).toNat) 0)).bind fun rnumber2 =>
  ((g_e_SubRat N cap2 rnumber2).bind fun rSubRat =>
  ((g_e_signOf N rSubRat).bind fun rsignOf =>
  (if ((!(decide (rsignOf < 0)))=true→0≤x∧x < ((cap1.f_Slopes.length:Nat):Int)) then
  ((cond (!(decide (rsignOf < 0))) (g_e_SubRat N (⟨((cap1.f_Slopes.getD ((x).toNat) TRat.d).f_Num),((cap1.f_Slopes.getD ((x).toNat) TRat.d).f_Den)⟩:TRat) before) (some TRat.d)).bind fun rSubRat2 =>
  (cond (!(decide (rsignOf < 0)))
  (((RD rSubRat2 rSubRat cap02).bind fun ry =>
  (cond (cond (decide (rsignOf < 0)) true (!true))
  (some ry)
  ((if 0≤x∧x < ((cap1.f_Slopes.length:Nat):Int) then
  g_e_ramps_1_L1 N RD cap1 cap2 fuel ry (⟨((cap1.f_Slopes.getD ((x).toNat) TRat.d).f_Num),((cap1.f_Slopes.getD ((x).toNat) TRat.d).f_Den)⟩:TRat) (w64 (x+1))
  else none)))))
  ((cond (cond (decide (rsignOf < 0)) true false)
  (some cap02)
  ((if 0≤x∧x < ((cap1.f_Slopes.length:Nat):Int) then
  g_e_ramps_1_L1 N RD cap1 cap2 fuel cap02 (⟨((cap1.f_Slopes.getD ((x).toNat) TRat.d).f_Num),((cap1.f_Slopes.getD ((x).toNat) TRat.d).f_Den)⟩:TRat) (w64 (x+1))
  else none))))))
  else none))))
  else none))
  (some cap02))
def g_e_ramps_1 (N:Nat) (RD:TRat→TRat→TRat→Option TRat) (cap0:TRat) (cap1:TCurve) (cap2:TRat):Option (TRat) :=
 ((g_e_number N 0).bind fun rnumber =>
 g_e_ramps_1_L1 N RD cap1 cap2 N cap0 rnumber 0)
def g_e_Value_R (N:Nat) (change:TRat) (far:TRat) (sum:TRat):Option TRat :=
 ((g_e_MulRat N change far).bind fun rMulRat =>
 ((g_e_AddRat N sum rMulRat).bind fun rAddRat =>
 some rAddRat))
def g_e_Value (N:Nat) (c:TCurve) (y:TRat):Option (TRat×Int) :=
 ((g_e_CheckCurve N c).bind fun rCheckCurve =>
 (cond (rCheckCurve != 0)
 (some ((⟨(⟨false,([]:List Int)⟩:TInt),(⟨false,([]:List Int)⟩:TInt)⟩:TRat),rCheckCurve))
 (((g_e_number N 0).bind fun rnumber =>
 ((g_e_ramps N c y).bind fun rramps =>
 ((g_e_ramps_1 N (g_e_Value_R N) rnumber rramps.1 rramps.2).bind fun rr =>
 some (rr,0)))))))
def g_b_SameInt_L1 (N:Nat) (a:TInt) (b:TInt):Nat→Int→Option (Bool)
 | 0,_=>none
 | fuel+1,i =>
  (cond (decide (i < ((a.f_Limbs.length:Nat):Int)))
  ((if 0≤i∧i < ((a.f_Limbs.length:Nat):Int) then
  (if 0≤i∧i < ((b.f_Limbs.length:Nat):Int) then
  (cond ((a.f_Limbs.getD ((i).toNat) 0) != (b.f_Limbs.getD ((i).toNat) 0))
  (some false)
  (g_b_SameInt_L1 N a b fuel (w64 (i+1))))
  else none)
  else none))
  (some true))
def g_b_SameInt (N:Nat) (a:TInt) (b:TInt):Option (Bool) :=
 (cond (cond (!(a.f_Neg == b.f_Neg)) true (((a.f_Limbs.length:Nat):Int) != ((b.f_Limbs.length:Nat):Int)))
 (some false)
 (g_b_SameInt_L1 N a b N 0))
def g_b_Q_L2 (N:Nat) (a2:Int) (b2:Int):Nat→Int→Int→Option (TRat)
 | 0,_,_=>none
 | fuel+1,x,y =>
  (cond (decide (y > 0))
  ((if (y:Int)≠0 then
  g_b_Q_L2 N a2 b2 fuel y (x.tmod y)
  else none))
  ((if (x:Int)≠0 then
  ((g_b_Z N (w64 (a2.tdiv x))).bind fun rZ =>
  ((g_b_Z N (w64 (b2.tdiv x))).bind fun rZ2 =>
  some (⟨rZ,rZ2⟩:TRat)))
  else none)))
def g_b_Q_J1 (N:Nat) (a2:Int) (b2:Int):Option (TRat) :=
 (cond (decide (a2 < 0))
 (g_b_Q_L2 N a2 b2 N (w64 (0 - a2)) b2)
 (g_b_Q_L2 N a2 b2 N a2 b2))
def g_b_Q (N:Nat) (a:Int) (b:Int):Option (TRat) :=
 (cond (decide (b < 0))
 (g_b_Q_J1 N (w64 (0 - a)) (w64 (0 - b)))
 (g_b_Q_J1 N a b))
def g_b_SameRat (N:Nat) (a:TRat) (b:TRat):Option (Bool) :=
 ((g_b_SameInt N a.f_Num b.f_Num).bind fun rSameInt =>
 ((cond rSameInt (g_b_SameInt N a.f_Den b.f_Den) (some false)).bind fun rSameInt2 =>
 some (cond rSameInt rSameInt2 false)))
def g_w01_awake (N:Nat):Option (Bool) :=
 ((g_b_Z N (-7)).bind fun rZ =>
 ((g_b_Z N 2).bind fun rZ2 =>
 ((g_e_DivMod N rZ rZ2).bind fun rDivMod =>
 ((g_e_Ratio N 6 (-4)).bind fun rRatio =>
 ((g_b_Ws N ([2,0]:List Int)).bind fun rWs =>
 ((g_b_W N 5).bind fun rW =>
 ((g_e_Value N (⟨([0,10]:List Int),rWs⟩:TCurve) rW).bind fun rValue =>
 ((cond (rDivMod.2.2 == 0) (g_b_Z N (-4)) (some TInt.d)).bind fun rZ3 =>
 ((cond (rDivMod.2.2 == 0) (g_b_SameInt N rDivMod.1 rZ3) (some false)).bind fun rSameInt =>
 ((cond (cond (rDivMod.2.2 == 0) rSameInt false) (g_b_Z N 1) (some TInt.d)).bind fun rZ4 =>
 ((cond (cond (rDivMod.2.2 == 0) rSameInt false) (g_b_SameInt N rDivMod.2.1 rZ4) (some false)).bind fun rSameInt2 =>
 ((cond (cond (cond (cond (rDivMod.2.2 == 0) rSameInt false) rSameInt2 false) (rRatio.2 == 0) false) (g_b_Q N (-3) 2) (some TRat.d)).bind fun rQ =>
 ((cond (cond (cond (cond (rDivMod.2.2 == 0) rSameInt false) rSameInt2 false) (rRatio.2 == 0) false) (g_b_SameRat N rRatio.1 rQ) (some false)).bind fun rSameRat =>
 ((cond (cond (cond (cond (cond (cond (rDivMod.2.2 == 0) rSameInt false) rSameInt2 false) (rRatio.2 == 0) false) rSameRat false) (rValue.2 == 0) false) (g_b_W N 10) (some TRat.d)).bind fun rW2 =>
 ((cond (cond (cond (cond (cond (cond (rDivMod.2.2 == 0) rSameInt false) rSameInt2 false) (rRatio.2 == 0) false) rSameRat false) (rValue.2 == 0) false) (g_b_SameRat N rValue.1 rW2) (some false)).bind fun rSameRat2 =>
 some (cond (cond (cond (cond (cond (cond (rDivMod.2.2 == 0) rSameInt false) rSameInt2 false) (rRatio.2 == 0) false) rSameRat false) (rValue.2 == 0) false) rSameRat2 false))))))))))))))))
def g_slices_Reverse_byte_byte_L1 (N:Nat):Nat→(List Int)→Int→Int→Option ((List Int))
 | 0,_,_,_=>none
 | fuel+1,cap02,i,j =>
  (cond (decide (i < j))
  ((if 0≤j∧j < ((cap02.length:Nat):Int) then
  (if 0≤i∧i < ((cap02.length:Nat):Int) then
  g_slices_Reverse_byte_byte_L1 N fuel ((cap02.set ((i).toNat) (cap02.getD ((j).toNat) 0)).set ((j).toNat) (cap02.getD ((i).toNat) 0)) (w64 (i+1)) (w64 (j - 1))
  else none)
  else none))
  (some cap02))
def g_slices_Reverse_byte_byte (N:Nat) (cap0:List Int):Option ((List Int)) :=
 g_slices_Reverse_byte_byte_L1 N N cap0 0 (w64 (((cap0.length:Nat):Int) - 1))
def g_strings_trimLeftByte_L1 (N:Nat) (c:Int):Nat→ByteArray→Option (ByteArray)
 | 0,_=>none
 | fuel+1,s2 =>
  (if ((decide (((s2.size:Nat):Int) > 0))=true→0≤(0:Int)∧0 < ((s2.size:Nat):Int)) then
  (cond (cond (decide (((s2.size:Nat):Int) > 0)) ((byteAt s2 0) == c) false)
  ((if 1≤s2.size∧s2.size≤s2.size then
  g_strings_trimLeftByte_L1 N c fuel (s2.extract 1 s2.size)
  else none))
  (some s2))
  else none)
def g_strings_trimLeftByte (N:Nat) (s:ByteArray) (c:Int):Option (ByteArray) :=
 g_strings_trimLeftByte_L1 N c N s
def g_strings_TrimLeft (N:Nat) (s:ByteArray) (cutset:ByteArray):Option (ByteArray) :=
 (cond (cond (streq s ByteArray.empty) true (streq cutset ByteArray.empty))
 (some s)
 ((if ((((cutset.size:Nat):Int) == 1)=true→0≤(0:Int)∧0 < ((cutset.size:Nat):Int)) then
 (cond (cond (((cutset.size:Nat):Int) == 1) (decide ((byteAt cutset 0) < 128)) false)
 ((if 0≤(0:Int)∧0 < ((cutset.size:Nat):Int) then
 ((g_strings_trimLeftByte N s (byteAt cutset 0)).bind fun rtrimLeftByte =>
 some rtrimLeftByte)
 else none))
 (none))
 else none)))
def g_e_Format_L2 (N:Nat) (a:TInt) (rshort:(List Int)×Int) (K_g_e_Format_L1:(List Int)→(List Int)→Option (ByteArray)):Nat→(List Int)→Int→Int→Option (ByteArray)
 | 0,_,_,_=>none
 | fuel+1,digits2,rest,x =>
  (cond (decide (x < 4))
  ((if (digits2.length+1) * 1≤140737488355328 then
  g_e_Format_L2 N a rshort K_g_e_Format_L1 fuel (digits2 ++ ([(IntKind.u8.wrap ((IntKind.u16.wrap (48+(rest.tmod 10)))))]:List Int)) (IntKind.u16.wrap (rest.tdiv 10)) (w64 (x+1))
  else none))
  (K_g_e_Format_L1 rshort.1 digits2))
def g_e_Format_L1 (N:Nat) (a:TInt):Nat→(List Int)→(List Int)→Option (ByteArray)
 | 0,_,_=>none
 | fuel+1,n,digits =>
  (cond (decide (((n.length:Nat):Int) > 0))
  (((g_e_short N n 10000).bind fun rshort =>
  g_e_Format_L2 N a rshort (g_e_Format_L1 N a fuel) N digits rshort.2 0))
  (((g_slices_Reverse_byte_byte N digits).bind fun rReverse =>
  (if rReverse.length=digits.length then
  ((g_strings_TrimLeft N (strL rReverse) (⟨#[48]⟩:ByteArray)).bind fun rTrimLeft =>
  (cond a.f_Neg
  ((if (((⟨#[45]⟩:ByteArray).size+rTrimLeft.size:Nat):Int)≤IntKind.i64.max then
  some ((⟨#[45]⟩:ByteArray) ++ rTrimLeft)
  else none))
  (some rTrimLeft)))
  else none))))
def g_e_Format (N:Nat) (a:TInt):Option (ByteArray) :=
 ((g_e_trim N a.f_Limbs).bind fun rtrim =>
 (cond (((rtrim.length:Nat):Int) == 0)
 (some (⟨#[48]⟩:ByteArray))
 (g_e_Format_L1 N a N rtrim ([]:List Int))))
def g_e_FormatRat (N:Nat) (x:TRat):Option (ByteArray) :=
 ((g_e_lowest N x).bind fun rlowest =>
 ((g_e_Format N rlowest.f_Den).bind fun rFormat =>
 (cond (streq rFormat (⟨#[49]⟩:ByteArray))
 (((g_e_Format N rlowest.f_Num).bind fun rFormat2 =>
 some rFormat2))
 (((g_e_Format N rlowest.f_Num).bind fun rFormat3 =>
 (if ((rFormat3.size+(⟨#[47]⟩:ByteArray).size:Nat):Int)≤IntKind.i64.max then
 (if (((rFormat3 ++ (⟨#[47]⟩:ByteArray)).size+rFormat.size:Nat):Int)≤IntKind.i64.max then
 some ((rFormat3 ++ (⟨#[47]⟩:ByteArray)) ++ rFormat)
 else none)
 else none))))))
def g_internal_stringslite_HasPrefix (N:Nat) (s:ByteArray) (vprefix:ByteArray):Option (Bool) :=
 (if ((decide (((s.size:Nat):Int)≥((vprefix.size:Nat):Int)))=true→0≤vprefix.size∧vprefix.size≤s.size) then
 some (cond (decide (((s.size:Nat):Int)≥((vprefix.size:Nat):Int))) (streq (s.extract 0 vprefix.size) vprefix) false)
 else none)
def g_internal_stringslite_CutPrefix (N:Nat) (s:ByteArray) (vprefix:ByteArray):Option (ByteArray×Bool) :=
 ((g_internal_stringslite_HasPrefix N s vprefix).bind fun rHasPrefix =>
 (cond (!rHasPrefix)
 (some (s,false))
 ((if vprefix.size≤s.size∧s.size≤s.size then
 some ((s.extract vprefix.size s.size),true)
 else none))))
def g_strings_CutPrefix (N:Nat) (s:ByteArray) (vprefix:ByteArray):Option (ByteArray×Bool) :=
 ((g_internal_stringslite_CutPrefix N s vprefix).bind fun rCutPrefix =>
 some (rCutPrefix.1,rCutPrefix.2))
def g_e_Parse_L1 (N:Nat) (s:ByteArray) (rCutPrefix:ByteArray×Bool):Nat→(List Int)→Int→Option (TInt×Int)
 | 0,_,_=>none
 | fuel+1,n,x =>
  (cond (decide (x < ((rCutPrefix.1.size:Nat):Int)))
  ((if 0≤x∧x < ((rCutPrefix.1.size:Nat):Int) then
  (cond (cond (decide ((byteAt rCutPrefix.1 ((x).toNat)) < 48)) true (decide ((byteAt rCutPrefix.1 ((x).toNat)) > 57)))
  (some ((⟨false,([]:List Int)⟩:TInt),7))
  (((g_e_times N n ([10]:List Int)).bind fun rtimes =>
  ((g_e_trim N ([(IntKind.u16.wrap ((IntKind.u8.wrap ((byteAt rCutPrefix.1 ((x).toNat)) - 48))))]:List Int)).bind fun rtrim =>
  ((g_e_plus N rtimes rtrim).bind fun rplus =>
  g_e_Parse_L1 N s rCutPrefix fuel rplus (w64 (x+1)))))))
  else none))
  (((g_e_signed N rCutPrefix.2 n).bind fun rsigned =>
  ((g_e_Format N rsigned).bind fun rFormat =>
  (cond (!(streq rFormat s))
  (some ((⟨false,([]:List Int)⟩:TInt),7))
  (some (rsigned,0)))))))
def g_e_Parse (N:Nat) (s:ByteArray):Option (TInt×Int) :=
 (cond (decide (((s.size:Nat):Int) > 400))
 (some ((⟨false,([]:List Int)⟩:TInt),8))
 (((g_strings_CutPrefix N s (⟨#[45]⟩:ByteArray)).bind fun rCutPrefix =>
 g_e_Parse_L1 N s rCutPrefix N ([]:List Int) 0)))
def g_r01_digit (N:Nat) (a:List Int) (i:Int):Option (Int) :=
 (cond (decide (i < ((a.length:Nat):Int)))
 ((if 0≤i∧i < ((a.length:Nat):Int) then
 some (a.getD ((i).toNat) 0)
 else none))
 (some 0))
def g_r01_trim_L1 (N:Nat) (a:List Int):Nat→Int→Option ((List Int))
 | 0,_=>none
 | fuel+1,n =>
  (if ((decide (n > 0))=true→0≤(w64 (n - 1))∧(w64 (n - 1)) < ((a.length:Nat):Int)) then
  (cond (cond (decide (n > 0)) ((a.getD ((w64 (n - 1)).toNat) 0) == 0) false)
  (g_r01_trim_L1 N a fuel (w64 (n - 1)))
  ((if 0≤(n).toNat∧(n).toNat≤a.length then
  (if 0≤n then
  (if (0+((n).toNat - 0)) * 8≤140737488355328 then
  some (([]:List Int) ++ ((a.take ((n).toNat)).drop 0))
  else none)
  else none)
  else none)))
  else none)
def g_r01_trim (N:Nat) (a:List Int):Option ((List Int)) :=
 g_r01_trim_L1 N a N ((a.length:Nat):Int)
def g_r01_times_L2 (N:Nat) (a:List Int) (b:List Int) (i:Int) (K_g_r01_times_L1:(List Int)→Int→Option ((List Int))):Nat→(List Int)→Int→Int→Option ((List Int))
 | 0,_,_,_=>none
 | fuel+1,out2,carry,k =>
  (cond (cond (decide (k < ((b.length:Nat):Int))) true (decide (carry > 0)))
  ((if 0≤(w64 (i+k))∧(w64 (i+k)) < ((out2.length:Nat):Int) then
  (if 0≤i∧i < ((a.length:Nat):Int) then
  ((g_r01_digit N b k).bind fun rdigit =>
  g_r01_times_L2 N a b i K_g_r01_times_L1 fuel (out2.set ((w64 (i+k)).toNat) ((w64 ((w64 ((out2.getD ((w64 (i+k)).toNat) 0)+(w64 ((a.getD ((i).toNat) 0) * rdigit))))+carry)).tmod 65536)) (w64 ((w64 ((w64 ((out2.getD ((w64 (i+k)).toNat) 0)+(w64 ((a.getD ((i).toNat) 0) * rdigit))))+carry)).tdiv 65536)) (w64 (k+1)))
  else none)
  else none))
  (K_g_r01_times_L1 out2 (w64 (i+1))))
def g_r01_times_L1 (N:Nat) (a:List Int) (b:List Int):Nat→(List Int)→Int→Option ((List Int))
 | 0,_,_=>none
 | fuel+1,out,i =>
  (cond (decide (i < ((a.length:Nat):Int)))
  (g_r01_times_L2 N a b i (g_r01_times_L1 N a b fuel) N out 0 0)
  (((g_r01_trim N out).bind fun rtrim =>
  some rtrim)))
def g_r01_times (N:Nat) (a:List Int) (b:List Int):Option ((List Int)) :=
 (if 0≤(w64 ((w64 (((a.length:Nat):Int)+((b.length:Nat):Int)))+1))∧(8:Int) * (w64 ((w64 (((a.length:Nat):Int)+((b.length:Nat):Int)))+1))≤281474976710656∧(w64 ((w64 (((a.length:Nat):Int)+((b.length:Nat):Int)))+1))≤9223372036854775807 then
 g_r01_times_L1 N a b N (List.replicate ((w64 ((w64 (((a.length:Nat):Int)+((b.length:Nat):Int)))+1)).toNat) 0:List Int) 0
 else none)
def g_r01_plus_L1 (N:Nat) (a:List Int) (b:List Int):Nat→(List Int)→Int→Int→Option ((List Int))
 | 0,_,_,_=>none
 | fuel+1,out,carry,i =>
  (cond (cond (cond (decide (i < ((a.length:Nat):Int))) true (decide (i < ((b.length:Nat):Int)))) true (decide (carry > 0)))
  (((g_r01_digit N a i).bind fun rdigit =>
  ((g_r01_digit N b i).bind fun rdigit2 =>
  (if (out.length+1) * 8≤140737488355328 then
  g_r01_plus_L1 N a b fuel (out ++ ([((w64 ((w64 (rdigit+rdigit2))+carry)).tmod 65536)]:List Int)) (w64 ((w64 ((w64 (rdigit+rdigit2))+carry)).tdiv 65536)) (w64 (i+1))
  else none))))
  (((g_r01_trim N out).bind fun rtrim =>
  some rtrim)))
def g_r01_plus (N:Nat) (a:List Int) (b:List Int):Option ((List Int)) :=
 g_r01_plus_L1 N a b N ([]:List Int) 0 0
def g_r01_made_L1 (N:Nat) (neg:Bool) (a:List Int):Nat→(List Int)→Int→Option (TInt)
 | 0,_,_=>none
 | fuel+1,x,i =>
  (cond (decide (i < ((a.length:Nat):Int)))
  ((if 0≤i∧i < ((a.length:Nat):Int) then
  (if (x.length+1) * 2≤140737488355328 then
  g_r01_made_L1 N neg a fuel (x ++ ([(IntKind.u16.wrap ((a.getD ((i).toNat) 0)))]:List Int)) (w64 (i+1))
  else none)
  else none))
  (some (⟨(cond neg (decide (((a.length:Nat):Int) > 0)) false),x⟩:TInt)))
def g_r01_made (N:Nat) (neg:Bool) (a:List Int):Option (TInt) :=
 g_r01_made_L1 N neg a N ([]:List Int) 0
def g_r01_read_L1 (N:Nat) (l:List Int):Nat→(List Int)→Int→Option ((List Int))
 | 0,_,_=>none
 | fuel+1,a,i =>
  (cond (decide (i < ((l.length:Nat):Int)))
  ((if 0≤i∧i < ((l.length:Nat):Int) then
  (if (a.length+1) * 8≤140737488355328 then
  g_r01_read_L1 N l fuel (a ++ ([(w64 ((l.getD ((i).toNat) 0)))]:List Int)) (w64 (i+1))
  else none)
  else none))
  (((g_r01_trim N a).bind fun rtrim =>
  some rtrim)))
def g_r01_read (N:Nat) (l:List Int):Option ((List Int)) :=
 g_r01_read_L1 N l N ([]:List Int) 0
def g_r01_compare_L1 (N:Nat) (a:List Int) (b:List Int):Nat→Int→Option (Int)
 | 0,_=>none
 | fuel+1,i =>
  (cond (decide (i≥0))
  ((if 0≤i∧i < ((a.length:Nat):Int) then
  (if 0≤i∧i < ((b.length:Nat):Int) then
  (cond ((a.getD ((i).toNat) 0) != (b.getD ((i).toNat) 0))
  (some (w64 ((a.getD ((i).toNat) 0) - (b.getD ((i).toNat) 0))))
  (g_r01_compare_L1 N a b fuel (w64 (i - 1))))
  else none)
  else none))
  (some 0))
def g_r01_compare (N:Nat) (a:List Int) (b:List Int):Option (Int) :=
 (cond (((a.length:Nat):Int) != ((b.length:Nat):Int))
 (some (w64 (((a.length:Nat):Int) - ((b.length:Nat):Int))))
 (g_r01_compare_L1 N a b N (w64 (((a.length:Nat):Int) - 1))))
def g_r01_minus_J2 (N:Nat) (a:List Int) (b:List Int) (out:List Int) (i:Int) (K_g_r01_minus_L1:(List Int)→Int→Int→Option ((List Int))) (borrow2:Int) (s:Int):Option ((List Int)) :=
 (if (out.length+1) * 8≤140737488355328 then
 K_g_r01_minus_L1 (out ++ ([s]:List Int)) borrow2 (w64 (i+1))
 else none)
def g_r01_minus_L1 (N:Nat) (a:List Int) (b:List Int):Nat→(List Int)→Int→Int→Option ((List Int))
 | 0,_,_,_=>none
 | fuel+1,out,borrow,i =>
  (cond (decide (i < ((a.length:Nat):Int)))
  ((if 0≤i∧i < ((a.length:Nat):Int) then
  ((g_r01_digit N b i).bind fun rdigit =>
  (cond (decide ((w64 ((w64 ((a.getD ((i).toNat) 0) - rdigit)) - borrow)) < 0))
  (g_r01_minus_J2 N a b out i (g_r01_minus_L1 N a b fuel) 1 (w64 ((w64 ((w64 ((a.getD ((i).toNat) 0) - rdigit)) - borrow))+65536)))
  (g_r01_minus_J2 N a b out i (g_r01_minus_L1 N a b fuel) 0 (w64 ((w64 ((a.getD ((i).toNat) 0) - rdigit)) - borrow)))))
  else none))
  (((g_r01_trim N out).bind fun rtrim =>
  some rtrim)))
def g_r01_minus (N:Nat) (a:List Int) (b:List Int):Option ((List Int)) :=
 g_r01_minus_L1 N a b N ([]:List Int) 0 0
def g_r01_over_J3 (N:Nat) (a:List Int) (b:List Int) (q:List Int) (i:Int) (lo:Int) (K_g_r01_over_L1:(List Int)→(List Int)→Int→Option ((List Int)×(List Int))) (rest2:List Int):Option ((List Int)×(List Int)) :=
 K_g_r01_over_L1 rest2 (q.set ((i).toNat) lo) (w64 (i - 1))
def g_r01_over_L2 (N:Nat) (a:List Int) (b:List Int) (q:List Int) (i:Int) (rtrim:(List Int)) (K_g_r01_over_L1:(List Int)→(List Int)→Int→Option ((List Int)×(List Int))):Nat→Int→Int→Option ((List Int)×(List Int))
 | 0,_,_=>none
 | fuel+1,lo,hi =>
  (cond (decide (lo < hi))
  (((g_r01_times N b ([(w64 ((w64 ((w64 (lo+hi))+1)).tdiv 2))]:List Int)).bind fun rtimes =>
  ((g_r01_compare N rtimes rtrim).bind fun rcompare =>
  (cond (decide (rcompare≤0))
  (g_r01_over_L2 N a b q i rtrim K_g_r01_over_L1 fuel (w64 ((w64 ((w64 (lo+hi))+1)).tdiv 2)) hi)
  (g_r01_over_L2 N a b q i rtrim K_g_r01_over_L1 fuel lo (w64 ((w64 ((w64 ((w64 (lo+hi))+1)).tdiv 2)) - 1)))))))
  ((if 0≤i∧i < ((q.length:Nat):Int) then
  (cond (decide (lo > 0))
  (((g_r01_times N b ([lo]:List Int)).bind fun rtimes2 =>
  ((g_r01_minus N rtrim rtimes2).bind fun rminus =>
  g_r01_over_J3 N a b q i lo K_g_r01_over_L1 rminus)))
  (g_r01_over_J3 N a b q i lo K_g_r01_over_L1 rtrim))
  else none)))
def g_r01_over_L1 (N:Nat) (a:List Int) (b:List Int):Nat→(List Int)→(List Int)→Int→Option ((List Int)×(List Int))
 | 0,_,_,_=>none
 | fuel+1,rest,q,i =>
  (cond (decide (i≥0))
  ((if 0≤i∧i < ((a.length:Nat):Int) then
  (if (1+rest.length) * 8≤140737488355328 then
  ((g_r01_trim N (([(a.getD ((i).toNat) 0)]:List Int) ++ rest)).bind fun rtrim =>
  g_r01_over_L2 N a b q i rtrim (g_r01_over_L1 N a b fuel) N 0 65535)
  else none)
  else none))
  (((g_r01_trim N q).bind fun rtrim2 =>
  some (rtrim2,rest))))
def g_r01_over (N:Nat) (a:List Int) (b:List Int):Option ((List Int)×(List Int)) :=
 (if 0≤((a.length:Nat):Int)∧(8:Int) * ((a.length:Nat):Int)≤281474976710656∧((a.length:Nat):Int)≤9223372036854775807 then
 g_r01_over_L1 N a b N ([]:List Int) (List.replicate a.length 0:List Int) (w64 (((a.length:Nat):Int) - 1))
 else none)
def g_r01_Format_L1 (N:Nat) (a:TInt):Nat→(List Int)→ByteArray→Option (ByteArray)
 | 0,_,_=>none
 | fuel+1,n,s =>
  (cond (decide (((n.length:Nat):Int) > 0))
  (((g_r01_over N n ([10]:List Int)).bind fun rover =>
  ((g_r01_digit N rover.2 0).bind fun rdigit =>
  ((g_r01_digit N rover.2 0).bind fun rdigit2 =>
  (if (rdigit).toNat≤(w64 (rdigit2+1)).toNat∧(w64 (rdigit2+1)).toNat≤(⟨#[48,49,50,51,52,53,54,55,56,57]⟩:ByteArray).size then
  (if 0≤rdigit then
  (if 0≤(w64 (rdigit2+1)) then
  (if ((((⟨#[48,49,50,51,52,53,54,55,56,57]⟩:ByteArray).extract ((rdigit).toNat) ((w64 (rdigit2+1)).toNat)).size+s.size:Nat):Int)≤IntKind.i64.max then
  g_r01_Format_L1 N a fuel rover.1 (((⟨#[48,49,50,51,52,53,54,55,56,57]⟩:ByteArray).extract ((rdigit).toNat) ((w64 (rdigit2+1)).toNat)) ++ s)
  else none)
  else none)
  else none)
  else none)))))
  ((cond (streq s ByteArray.empty)
  (some (⟨#[48]⟩:ByteArray))
  ((cond a.f_Neg
  ((if (((⟨#[45]⟩:ByteArray).size+s.size:Nat):Int)≤IntKind.i64.max then
  some ((⟨#[45]⟩:ByteArray) ++ s)
  else none))
  (some s))))))
def g_r01_Format (N:Nat) (a:TInt):Option (ByteArray) :=
 ((g_r01_read N a.f_Limbs).bind fun rread =>
 g_r01_Format_L1 N a N rread ByteArray.empty)
def g_r01_Parse_J2 (N:Nat) (s:ByteArray) (i:Int) (K_g_r01_Parse_L1:(List Int)→Int→Option (TInt×Int)) (n2:List Int):Option (TInt×Int) :=
 K_g_r01_Parse_L1 n2 (w64 (i+1))
def g_r01_Parse_L1 (N:Nat) (s:ByteArray):Nat→(List Int)→Int→Option (TInt×Int)
 | 0,_,_=>none
 | fuel+1,n,i =>
  (cond (decide (i < ((s.size:Nat):Int)))
  ((cond (cond (i == 0) (cond (decide (((s.size:Nat):Int) > 0)) ((byteAt s 0) == 45) false) false)
  (g_r01_Parse_J2 N s i (g_r01_Parse_L1 N s fuel) n)
  ((if 0≤i∧i < ((s.size:Nat):Int) then
  (if ((!(decide ((byteAt s ((i).toNat)) < 48)))=true→0≤i∧i < ((s.size:Nat):Int)) then
  (cond (cond (decide ((byteAt s ((i).toNat)) < 48)) true (decide ((byteAt s ((i).toNat)) > 57)))
  (some ((⟨false,([]:List Int)⟩:TInt),7))
  (((g_r01_times N n ([10]:List Int)).bind fun rtimes =>
  ((g_r01_trim N ([(w64 ((IntKind.u8.wrap ((byteAt s ((i).toNat)) - 48))))]:List Int)).bind fun rtrim =>
  ((g_r01_plus N rtimes rtrim).bind fun rplus =>
  g_r01_Parse_J2 N s i (g_r01_Parse_L1 N s fuel) rplus)))))
  else none)
  else none))))
  (((g_r01_made N (cond (decide (((s.size:Nat):Int) > 0)) ((byteAt s 0) == 45) false) n).bind fun rmade =>
  ((g_r01_Format N rmade).bind fun rFormat =>
  (cond (streq rFormat s)
  (some (rmade,0))
  (some ((⟨false,([]:List Int)⟩:TInt),7)))))))
def g_r01_Parse (N:Nat) (s:ByteArray):Option (TInt×Int) :=
 (cond (decide (((s.size:Nat):Int) > 400))
 (some ((⟨false,([]:List Int)⟩:TInt),8))
 ((if ((decide (((s.size:Nat):Int) > 0))=true→0≤(0:Int)∧0 < ((s.size:Nat):Int)) then
 g_r01_Parse_L1 N s N ([]:List Int) 0
 else none)))
def g_internal_stringslite_IndexByte (N:Nat) (s:ByteArray) (c:Int):Option (Int):=some (Lib.indexByte s.data.toList c.toNat.toUInt8)
def g_internal_stringslite_Index (N:Nat) (s:ByteArray) (substr:ByteArray):Option (Int) :=
 (cond (cond (((substr.size:Nat):Int) == 0) true (streq substr s))
 (some 0)
 ((cond (((substr.size:Nat):Int) == 1)
 ((if 0≤(0:Int)∧0 < ((substr.size:Nat):Int) then
 ((g_internal_stringslite_IndexByte N s (byteAt substr 0)).bind fun rIndexByte =>
 some rIndexByte)
 else none))
 ((cond (decide (((substr.size:Nat):Int)≥((s.size:Nat):Int)))
 (some (-1))
 (none))))))
def g_internal_stringslite_Cut (N:Nat) (s:ByteArray) (sep:ByteArray):Option (ByteArray×ByteArray×Bool) :=
 ((g_internal_stringslite_Index N s sep).bind fun rIndex =>
 (cond (decide (rIndex≥0))
 ((if 0≤(rIndex).toNat∧(rIndex).toNat≤s.size then
 (if 0≤rIndex then
 (if (w64 (rIndex+((sep.size:Nat):Int))).toNat≤s.size∧s.size≤s.size then
 (if 0≤(w64 (rIndex+((sep.size:Nat):Int))) then
 some ((s.extract 0 ((rIndex).toNat)),(s.extract ((w64 (rIndex+((sep.size:Nat):Int))).toNat) s.size),true)
 else none)
 else none)
 else none)
 else none))
 (some (s,ByteArray.empty,false))))
def g_strings_Cut (N:Nat) (s:ByteArray) (sep:ByteArray):Option (ByteArray×ByteArray×Bool) :=
 ((g_internal_stringslite_Cut N s sep).bind fun rCut =>
 some (rCut.1,rCut.2.1,rCut.2.2))
def g_e_whole_L1 (N:Nat) (rCutPrefix:ByteArray×Bool):Nat→(List Int)→Int→Option (TInt×Int)
 | 0,_,_=>none
 | fuel+1,n,x =>
  (cond (decide (x < ((rCutPrefix.1.size:Nat):Int)))
  ((if 0≤x∧x < ((rCutPrefix.1.size:Nat):Int) then
  (cond (cond (decide ((byteAt rCutPrefix.1 ((x).toNat)) < 48)) true (decide ((byteAt rCutPrefix.1 ((x).toNat)) > 57)))
  (some ((⟨false,([]:List Int)⟩:TInt),7))
  (((g_e_times N n ([10]:List Int)).bind fun rtimes =>
  ((g_e_trim N ([(IntKind.u16.wrap ((IntKind.u8.wrap ((byteAt rCutPrefix.1 ((x).toNat)) - 48))))]:List Int)).bind fun rtrim =>
  ((g_e_plus N rtimes rtrim).bind fun rplus =>
  g_e_whole_L1 N rCutPrefix fuel rplus (w64 (x+1)))))))
  else none))
  (((g_e_signed N rCutPrefix.2 n).bind fun rsigned =>
  some (rsigned,0))))
def g_e_whole (N:Nat) (s:ByteArray):Option (TInt×Int) :=
 ((g_strings_CutPrefix N s (⟨#[45]⟩:ByteArray)).bind fun rCutPrefix =>
 g_e_whole_L1 N rCutPrefix N ([]:List Int) 0)
def g_e_ParseRat_J1 (N:Nat) (s:ByteArray) (rCut:ByteArray×ByteArray×Bool) (under:ByteArray):Option (TRat×Int) :=
 ((g_e_whole N rCut.1).bind fun rwhole =>
 ((g_e_whole N under).bind fun rwhole2 =>
 ((cond (!(cond (rwhole.2 != 0) true (rwhole2.2 != 0))) (g_e_sign N rwhole2.1) (some 0)).bind fun rsign =>
 (cond (cond (cond (rwhole.2 != 0) true (rwhole2.2 != 0)) true (rsign == 0))
 (some ((⟨(⟨false,([]:List Int)⟩:TInt),(⟨false,([]:List Int)⟩:TInt)⟩:TRat),7))
 (((g_e_fraction N rwhole.1 rwhole2.1).bind fun rfraction =>
 ((g_e_FormatRat N rfraction).bind fun rFormatRat =>
 (cond (!(streq rFormatRat s))
 (some ((⟨(⟨false,([]:List Int)⟩:TInt),(⟨false,([]:List Int)⟩:TInt)⟩:TRat),7))
 (some (rfraction,0))))))))))
def g_e_ParseRat (N:Nat) (s:ByteArray):Option (TRat×Int) :=
 (cond (decide (((s.size:Nat):Int) > 800))
 (some ((⟨(⟨false,([]:List Int)⟩:TInt),(⟨false,([]:List Int)⟩:TInt)⟩:TRat),8))
 (((g_strings_Cut N s (⟨#[47]⟩:ByteArray)).bind fun rCut =>
 (cond (!rCut.2.2)
 (g_e_ParseRat_J1 N s rCut (⟨#[49]⟩:ByteArray))
 (g_e_ParseRat_J1 N s rCut rCut.2.1)))))
def g_r01_decimal_J2 (N:Nat) (s:ByteArray) (i:Int) (K_g_r01_decimal_L1:(List Int)→Int→Option (TInt×Int)) (n2:List Int):Option (TInt×Int) :=
 K_g_r01_decimal_L1 n2 (w64 (i+1))
def g_r01_decimal_L1 (N:Nat) (s:ByteArray):Nat→(List Int)→Int→Option (TInt×Int)
 | 0,_,_=>none
 | fuel+1,n,i =>
  (cond (decide (i < ((s.size:Nat):Int)))
  ((if ((i == 0)=true→0≤i∧i < ((s.size:Nat):Int)) then
  (cond (cond (i == 0) ((byteAt s ((i).toNat)) == 45) false)
  (g_r01_decimal_J2 N s i (g_r01_decimal_L1 N s fuel) n)
  ((if 0≤i∧i < ((s.size:Nat):Int) then
  (if ((!(decide ((byteAt s ((i).toNat)) < 48)))=true→0≤i∧i < ((s.size:Nat):Int)) then
  (cond (cond (decide ((byteAt s ((i).toNat)) < 48)) true (decide ((byteAt s ((i).toNat)) > 57)))
  (some ((⟨false,([]:List Int)⟩:TInt),7))
  (((g_r01_times N n ([10]:List Int)).bind fun rtimes =>
  ((g_r01_trim N ([(w64 ((IntKind.u8.wrap ((byteAt s ((i).toNat)) - 48))))]:List Int)).bind fun rtrim =>
  ((g_r01_plus N rtimes rtrim).bind fun rplus =>
  g_r01_decimal_J2 N s i (g_r01_decimal_L1 N s fuel) rplus)))))
  else none)
  else none)))
  else none))
  ((if ((decide (((s.size:Nat):Int) > 0))=true→0≤(0:Int)∧0 < ((s.size:Nat):Int)) then
  ((g_r01_made N (cond (decide (((s.size:Nat):Int) > 0)) ((byteAt s 0) == 45) false) n).bind fun rmade =>
  some (rmade,0))
  else none)))
def g_r01_decimal (N:Nat) (s:ByteArray):Option (TInt×Int) :=
 g_r01_decimal_L1 N s N ([]:List Int) 0
def g_r01_Of_L1 (N:Nat) (n:Int):Nat→(List Int)→Int→Option (TInt)
 | 0,_,_=>none
 | fuel+1,a,u =>
  (cond (decide (u > 0))
  ((if (a.length+1) * 8≤140737488355328 then
  g_r01_Of_L1 N n fuel (a ++ ([(w64 ((u.tmod 65536)))]:List Int)) (IntKind.u64.wrap (u.tdiv 65536))
  else none))
  (((g_r01_made N (decide (n < 0)) a).bind fun rmade =>
  some rmade)))
def g_r01_Of (N:Nat) (n:Int):Option (TInt) :=
 (cond (decide (n < 0))
 (g_r01_Of_L1 N n N ([]:List Int) (IntKind.u64.wrap (0 - (IntKind.u64.wrap (n)))))
 (g_r01_Of_L1 N n N ([]:List Int) (IntKind.u64.wrap (n))))
def g_r01_gcd_L1 (N:Nat):Nat→(List Int)→(List Int)→Option ((List Int))
 | 0,_,_=>none
 | fuel+1,a2,b2 =>
  (cond (decide (((b2.length:Nat):Int) > 0))
  (((g_r01_over N a2 b2).bind fun rover =>
  g_r01_gcd_L1 N fuel b2 rover.2))
  (some a2))
def g_r01_gcd (N:Nat) (a:List Int) (b:List Int):Option ((List Int)) :=
 g_r01_gcd_L1 N N a b
def g_r01_Over (N:Nat) (a:TInt) (b:TInt):Option (TRat) :=
 ((g_r01_read N a.f_Limbs).bind fun rread =>
 ((g_r01_read N b.f_Limbs).bind fun rread2 =>
 (cond (((rread2.length:Nat):Int) == 0)
 (((g_r01_made N a.f_Neg rread).bind fun rmade =>
 ((g_r01_Of N 1).bind fun rOf =>
 some (⟨rmade,rOf⟩:TRat))))
 (((g_r01_gcd N rread rread2).bind fun rgcd =>
 ((g_r01_over N rread rgcd).bind fun rover =>
 ((g_r01_over N rread2 rgcd).bind fun rover2 =>
 ((g_r01_made N (!(a.f_Neg == b.f_Neg)) rover.1).bind fun rmade2 =>
 ((g_r01_made N false rover2.1).bind fun rmade3 =>
 some (⟨rmade2,rmade3⟩:TRat))))))))))
def g_r01_NormRat (N:Nat) (x:TRat):Option (TRat) :=
 ((g_r01_Over N x.f_Num x.f_Den).bind fun rOver =>
 some rOver)
def g_r01_FormatRat (N:Nat) (x:TRat):Option (ByteArray) :=
 ((g_r01_NormRat N x).bind fun rNormRat =>
 ((g_r01_Format N rNormRat.f_Den).bind fun rFormat =>
 (cond (streq rFormat (⟨#[49]⟩:ByteArray))
 (((g_r01_Format N rNormRat.f_Num).bind fun rFormat2 =>
 some rFormat2))
 (((g_r01_Format N rNormRat.f_Num).bind fun rFormat3 =>
 (if ((rFormat3.size+(⟨#[47]⟩:ByteArray).size:Nat):Int)≤IntKind.i64.max then
 ((g_r01_Format N rNormRat.f_Den).bind fun rFormat4 =>
 (if (((rFormat3 ++ (⟨#[47]⟩:ByteArray)).size+rFormat4.size:Nat):Int)≤IntKind.i64.max then
 some ((rFormat3 ++ (⟨#[47]⟩:ByteArray)) ++ rFormat4)
 else none))
 else none))))))
def g_r01_ParseRat_J2 (N:Nat) (s:ByteArray) (i:Int) (K_g_r01_ParseRat_L1:Int→Int→Option (TRat×Int)) (vat2:Int):Option (TRat×Int) :=
 K_g_r01_ParseRat_L1 vat2 (w64 (i - 1))
def g_r01_ParseRat_J3 (N:Nat) (s:ByteArray) (rdecimal:TInt×Int) (b:TInt) (f:Int):Option (TRat×Int) :=
 ((g_r01_Over N rdecimal.1 b).bind fun rOver =>
 ((cond (cond (rdecimal.2 == 0) (f == 0) false) (g_r01_FormatRat N rOver) (some ByteArray.empty)).bind fun rFormatRat =>
 (cond (cond (cond (rdecimal.2 == 0) (f == 0) false) (streq rFormatRat s) false)
 (some (rOver,0))
 (some ((⟨(⟨false,([]:List Int)⟩:TInt),(⟨false,([]:List Int)⟩:TInt)⟩:TRat),7)))))
def g_r01_ParseRat_L1 (N:Nat) (s:ByteArray):Nat→Int→Int→Option (TRat×Int)
 | 0,_,_=>none
 | fuel+1,vat,i =>
  (cond (decide (i≥0))
  ((if 0≤i∧i < ((s.size:Nat):Int) then
  (cond ((byteAt s ((i).toNat)) == 47)
  (g_r01_ParseRat_J2 N s i (g_r01_ParseRat_L1 N s fuel) i)
  (g_r01_ParseRat_J2 N s i (g_r01_ParseRat_L1 N s fuel) vat))
  else none))
  ((if 0≤(vat).toNat∧(vat).toNat≤s.size then
  (if 0≤vat then
  ((g_r01_decimal N (s.extract 0 ((vat).toNat))).bind fun rdecimal =>
  (cond (decide (vat < ((s.size:Nat):Int)))
  ((if (w64 (vat+1)).toNat≤s.size∧s.size≤s.size then
  (if 0≤(w64 (vat+1)) then
  ((g_r01_decimal N (s.extract ((w64 (vat+1)).toNat) s.size)).bind fun rdecimal2 =>
  g_r01_ParseRat_J3 N s rdecimal rdecimal2.1 rdecimal2.2)
  else none)
  else none))
  (g_r01_ParseRat_J3 N s rdecimal (⟨false,([]:List Int)⟩:TInt) 0)))
  else none)
  else none)))
def g_r01_ParseRat (N:Nat) (s:ByteArray):Option (TRat×Int) :=
 (cond (decide (((s.size:Nat):Int) > 800))
 (some ((⟨(⟨false,([]:List Int)⟩:TInt),(⟨false,([]:List Int)⟩:TInt)⟩:TRat),8))
 (g_r01_ParseRat_L1 N s N ((s.size:Nat):Int) (w64 (((s.size:Nat):Int) - 1))))
def g_w01_rat (N:Nat) (x:TRat) (e:Int) (y:TRat) (f:Int):Option (Bool) :=
 (cond (f != 0)
 (((g_b_SameRat N x (⟨(⟨false,([]:List Int)⟩:TInt),(⟨false,([]:List Int)⟩:TInt)⟩:TRat)).bind fun rSameRat =>
 some (cond rSameRat (e == f) false)))
 (((cond (e == 0) (g_b_SameRat N x y) (some false)).bind fun rSameRat2 =>
 some (cond (e == 0) rSameRat2 false))))
def g_r01_Norm (N:Nat) (a:TInt):Option (TInt) :=
 ((g_r01_read N a.f_Limbs).bind fun rread =>
 ((g_r01_made N a.f_Neg rread).bind fun rmade =>
 some rmade))
def g_w01_ExactTexts (N:Nat) (x:TRat) (s:ByteArray):Option (Bool) :=
 ((g_w01_wide N x).bind fun rwide =>
 (cond (cond rwide true (decide (((s.size:Nat):Int) > 900)))
 (((g_w01_awake N).bind fun rawake =>
 some rawake))
 (((g_e_Format N x.f_Num).bind fun rFormat =>
 ((g_e_FormatRat N x).bind fun rFormatRat =>
 ((g_e_Parse N s).bind fun rParse =>
 ((g_r01_Parse N s).bind fun rParse2 =>
 ((g_e_ParseRat N s).bind fun rParseRat =>
 ((g_r01_ParseRat N s).bind fun rParseRat2 =>
 ((g_e_Parse N rFormat).bind fun rParse3 =>
 ((g_e_ParseRat N rFormatRat).bind fun rParseRat3 =>
 ((g_r01_Format N x.f_Num).bind fun rFormat2 =>
 ((cond (!(!(streq rFormat rFormat2))) (g_r01_FormatRat N x) (some ByteArray.empty)).bind fun rFormatRat2 =>
 ((cond (!(cond (!(streq rFormat rFormat2)) true (!(streq rFormatRat rFormatRat2)))) (g_b_SameInt N rParse.1 rParse2.1) (some false)).bind fun rSameInt =>
 ((cond (!(cond (cond (cond (!(streq rFormat rFormat2)) true (!(streq rFormatRat rFormatRat2))) true (!rSameInt)) true (rParse.2 != rParse2.2))) (g_w01_rat N rParseRat.1 rParseRat.2 rParseRat2.1 rParseRat2.2) (some false)).bind fun rrat =>
 (cond (cond (cond (cond (cond (!(streq rFormat rFormat2)) true (!(streq rFormatRat rFormatRat2))) true (!rSameInt)) true (rParse.2 != rParse2.2)) true (!rrat))
 (some false)
 (((cond (rParse3.2 == 0) (g_r01_Norm N x.f_Num) (some TInt.d)).bind fun rNorm =>
 ((cond (rParse3.2 == 0) (g_b_SameInt N rParse3.1 rNorm) (some false)).bind fun rSameInt2 =>
 ((cond (cond (rParse3.2 == 0) rSameInt2 false) (g_r01_NormRat N x) (some TRat.d)).bind fun rNormRat =>
 ((cond (cond (rParse3.2 == 0) rSameInt2 false) (g_w01_rat N rParseRat3.1 rParseRat3.2 rNormRat 0) (some false)).bind fun rrat2 =>
 ((cond (cond (cond (rParse3.2 == 0) rSameInt2 false) rrat2 false) (g_w01_awake N) (some false)).bind fun rawake2 =>
 some (cond (cond (cond (rParse3.2 == 0) rSameInt2 false) rrat2 false) rawake2 false)))))))))))))))))))))))
end Go.Den
