/- The functions of the program as Lean functions, each in the Option monad; N bounds the rounds of loops. No conditions. -/
import Derived.Test.YtakkcneiophofaaGreatCd
set_option linter.unusedVariables false
set_option linter.unusedSimpArgs false
set_option linter.unusedVariables false
namespace Go.Den
open Go.Ab
abbrev zA (s:ByteArray) (x:Int):Int:=byteAt s x.toNat
structure TInt where
 fG:Bool
 fL:List Int
def TInt.d:TInt:=⟨false,[]⟩
def TInt.wf (x:TInt):Prop:=wB x.fG∧(wL (wK .u16)) x.fL
def TIc (x:TInt):List AV:=[(aB x.fG),(encL (cU .u16) 0 x.fL)]
structure TRat where
 fN:TInt
 fD:TInt
def TRat.d:TRat:=⟨TInt.d,TInt.d⟩
def TRat.wf (x:TRat):Prop:=TInt.wf x.fN∧TInt.wf x.fD
def TRc (x:TRat):List AV:=[(aB x.fN.fG),(encL (cU .u16) 0 x.fN.fL),(aB x.fD.fG),(encL (cU .u16) 0 x.fD.fL)]
structure TRow where
 f_Coefs:List TRat
 f_Bound:TRat
def TRow.d:TRow:=⟨[],TRat.d⟩
def TRow.wf (x:TRow):Prop:=(wL TRat.wf) x.f_Coefs∧TRat.wf x.f_Bound
def TWc (x:TRow):List AV:=[(encL TRc TRat.d x.f_Coefs),(aB x.f_Bound.fN.fG),(encL (cU .u16) 0 x.f_Bound.fN.fL),(aB x.f_Bound.fD.fG),(encL (cU .u16) 0 x.f_Bound.fD.fL)]
structure Tw01_Problem where
 f_N:Int
 f_L:List TRow
def Tw01_Problem.d:Tw01_Problem:=⟨0,[]⟩
def Tw01_Problem.wf (x:Tw01_Problem):Prop:=wI x.f_N∧(wL TRow.wf) x.f_L
def Tw01_Problem.cells (x:Tw01_Problem):List AV:=[(aI x.f_N),(encL TWc TRow.d x.f_L)]
structure TCurve where
 f_Starts:List Int
 f_Slopes:List TRat
def TCurve.d:TCurve:=⟨[],[]⟩
def TCurve.wf (x:TCurve):Prop:=(wL wI) x.f_Starts∧(wL TRat.wf) x.f_Slopes
def TCc (x:TCurve):List AV:=[(encL cI 0 x.f_Starts),(encL TRc TRat.d x.f_Slopes)]
structure Ttb where
 f_n:Int
 f_m:Int
 f_basic:List Int
 f_free:List Int
 f_a:List (List TRat)
 f_b:List TRat
 f_goal:List TRat
 f_value:TRat
 f_helper:Int
def Ttb.d:Ttb:=⟨0,0,[],[],[],[],[],TRat.d,0⟩
def Ttb.wf (x:Ttb):Prop:=wI x.f_n∧wI x.f_m∧(wL wI) x.f_basic∧(wL wI) x.f_free∧(wL (wL TRat.wf)) x.f_a∧(wL TRat.wf) x.f_b∧(wL TRat.wf) x.f_goal∧TRat.wf x.f_value∧wI x.f_helper
def Ttb.cells (x:Ttb):List AV:=[(aI x.f_n),(aI x.f_m),(encL cI 0 x.f_basic),(encL cI 0 x.f_free),(encL (fun x=>[encL TRc TRat.d x]) [] x.f_a),(encL TRc TRat.d x.f_b),(encL TRc TRat.d x.f_goal),(aB x.f_value.fN.fG),(encL (cU .u16) 0 x.f_value.fN.fL),(aB x.f_value.fD.fG),(encL (cU .u16) 0 x.f_value.fD.fL),(aI x.f_helper)]
def g_r01_CheckRows_L1 (N:Nat) (n:Int) (l:List TRow):Nat→Int→Option (Int)
 | 0,_=>none
 | fuel+1,i =>
  (cond (decide (i < ((l.length:Nat):Int)))
  ((if 0≤i∧i < ((l.length:Nat):Int) then
  (cond (decide (((((l.getD ((i).toNat) TRow.d).f_Coefs).length:Nat):Int) > n))
  (some 11)
  (g_r01_CheckRows_L1 N n l fuel (w64 (i+1))))
  else none))
  (some 0))
def g_r01_CheckRows (N:Nat) (n:Int) (l:List TRow):Option (Int) :=
 (cond (cond (decide (n < 0)) true (decide (n > 12)))
 (some 2)
 ((cond (decide (((l.length:Nat):Int) > 40))
 (some 8)
 (g_r01_CheckRows_L1 N n l N 0))))
def g_w01_Problem_modest_L2 (N:Nat) (p:Tw01_Problem) (i:Int) (K_g_w01_Problem_modest_L1:Int→Option (Bool)):Nat→Int→Option (Bool)
 | 0,_=>none
 | fuel+1,j =>
  (if 0≤i∧i < ((p.f_L.length:Nat):Int) then
  (cond (decide (j < ((((p.f_L.getD ((i).toNat) TRow.d).f_Coefs).length:Nat):Int)))
  ((if 0≤j∧j < ((((p.f_L.getD ((i).toNat) TRow.d).f_Coefs).length:Nat):Int) then
  (if ((!(decide ((((((((p.f_L.getD ((i).toNat) TRow.d).f_Coefs).getD ((j).toNat) TRat.d).fN).fL).length:Nat):Int) > 2)))=true→0≤i∧i < ((p.f_L.length:Nat):Int)) then
  (if ((!(decide ((((((((p.f_L.getD ((i).toNat) TRow.d).f_Coefs).getD ((j).toNat) TRat.d).fN).fL).length:Nat):Int) > 2)))=true→0≤j∧j < ((((p.f_L.getD ((i).toNat) TRow.d).f_Coefs).length:Nat):Int)) then
  (cond (cond (decide ((((((((p.f_L.getD ((i).toNat) TRow.d).f_Coefs).getD ((j).toNat) TRat.d).fN).fL).length:Nat):Int) > 2)) true (decide ((((((((p.f_L.getD ((i).toNat) TRow.d).f_Coefs).getD ((j).toNat) TRat.d).fD).fL).length:Nat):Int) > 2)))
  (some false)
  (g_w01_Problem_modest_L2 N p i K_g_w01_Problem_modest_L1 fuel (w64 (j+1))))
  else none)
  else none)
  else none))
  (K_g_w01_Problem_modest_L1 (w64 (i+1))))
  else none)
def g_w01_Problem_modest_L1 (N:Nat) (p:Tw01_Problem):Nat→Int→Option (Bool)
 | 0,_=>none
 | fuel+1,i =>
  (cond (decide (i < ((p.f_L.length:Nat):Int)))
  ((if 0≤i∧i < ((p.f_L.length:Nat):Int) then
  (if ((!(decide (((((((p.f_L.getD ((i).toNat) TRow.d).f_Bound).fN).fL).length:Nat):Int) > 2)))=true→0≤i∧i < ((p.f_L.length:Nat):Int)) then
  (if ((!(cond (decide (((((((p.f_L.getD ((i).toNat) TRow.d).f_Bound).fN).fL).length:Nat):Int) > 2)) true (decide (((((((p.f_L.getD ((i).toNat) TRow.d).f_Bound).fD).fL).length:Nat):Int) > 2))))=true→0≤i∧i < ((p.f_L.length:Nat):Int)) then
  (cond (cond (cond (decide (((((((p.f_L.getD ((i).toNat) TRow.d).f_Bound).fN).fL).length:Nat):Int) > 2)) true (decide (((((((p.f_L.getD ((i).toNat) TRow.d).f_Bound).fD).fL).length:Nat):Int) > 2))) true (decide (((((p.f_L.getD ((i).toNat) TRow.d).f_Coefs).length:Nat):Int) > 20)))
  (some false)
  (g_w01_Problem_modest_L2 N p i (g_w01_Problem_modest_L1 N p fuel) N 0))
  else none)
  else none)
  else none))
  (((g_r01_CheckRows N p.f_N p.f_L).bind fun rCheckRows =>
  some (cond (rCheckRows != 0) true (cond (decide (p.f_N≤4)) (decide (((p.f_L.length:Nat):Int)≤7)) false)))))
def g_w01_Problem_modest (N:Nat) (p:Tw01_Problem):Option (Bool) :=
 (cond (decide (((p.f_L.length:Nat):Int) > 60))
 (some false)
 (g_w01_Problem_modest_L1 N p N 0))
def g_b_limbs_L1 (N:Nat):Nat→Int→(List Int)→Option ((List Int))
 | 0,_,_=>none
 | fuel+1,n2,out =>
  (cond (decide (n2 > 0))
  ((if (out.length+1) * 2≤140737488355328 then
  g_b_limbs_L1 N fuel (shrI .u64 n2 16) (out ++ ([(IntKind.u16.wrap ((andI .u64 n2 65535)))]:List Int))
  else none))
  (some out))
def g_b_limbs (N:Nat) (n:Int):Option ((List Int)) :=
 g_b_limbs_L1 N N n ([]:List Int)
def g_b_Z (N:Nat) (n:Int):Option (TInt) :=
 (cond (decide (n < 0))
 (((g_b_limbs N (IntKind.u64.wrap ((IntKind.u64.wrap ((w64 (0 - (w64 (n+1))))))+1))).bind fun rlimbs =>
 some (⟨true,rlimbs⟩:TInt)))
 (((g_b_limbs N (IntKind.u64.wrap (n))).bind fun rlimbs2 =>
 some (⟨false,rlimbs2⟩:TInt))))
def g_e_trim_L1 (N:Nat):Nat→(List Int)→Option ((List Int))
 | 0,_=>none
 | fuel+1,n2 =>
  (if ((decide (((n2.length:Nat):Int) > 0))=true→0≤(w64 (((n2.length:Nat):Int) - 1))∧(w64 (((n2.length:Nat):Int) - 1)) < ((n2.length:Nat):Int)) then
  (cond (cond (decide (((n2.length:Nat):Int) > 0)) ((n2.getD ((w64 (((n2.length:Nat):Int) - 1)).toNat) 0) == 0) false)
  ((if 0≤(w64 (((n2.length:Nat):Int) - 1)).toNat∧(w64 (((n2.length:Nat):Int) - 1)).toNat≤n2.length then
  (if 0≤(w64 (((n2.length:Nat):Int) - 1)) then
  g_e_trim_L1 N fuel ((n2.take ((w64 (((n2.length:Nat):Int) - 1)).toNat)).drop 0)
  else none)
  else none))
  (some n2))
  else none)
def g_e_trim (N:Nat) (n:List Int):Option ((List Int)) :=
 g_e_trim_L1 N N n
def g_e_compare_L1 (N:Nat) (a:List Int) (b:List Int):Nat→Int→Option (Int)
 | 0,_=>none
 | fuel+1,i =>
  (cond (decide (i≥0))
  ((if 0≤i∧i < ((a.length:Nat):Int) then
  (if 0≤i∧i < ((b.length:Nat):Int) then
  (cond ((a.getD ((i).toNat) 0) != (b.getD ((i).toNat) 0))
  (some (w64 ((w64 ((a.getD ((i).toNat) 0))) - (w64 ((b.getD ((i).toNat) 0))))))
  (g_e_compare_L1 N a b fuel (w64 (i - 1))))
  else none)
  else none))
  (some 0))
def g_e_compare (N:Nat) (a:List Int) (b:List Int):Option (Int) :=
 (cond (((a.length:Nat):Int) != ((b.length:Nat):Int))
 (some (w64 (((a.length:Nat):Int) - ((b.length:Nat):Int))))
 (g_e_compare_L1 N a b N (w64 (((a.length:Nat):Int) - 1))))
def g_slices_Clone_uint16_uint16 (N:Nat) (s:List Int):Option ((List Int)) :=
 (if (0+s.length) * 2≤140737488355328 then
 some (([]:List Int) ++ s)
 else none)
def g_e_short_L1 (N:Nat) (a:List Int) (b:Int):Nat→(List Int)→Int→Int→Option ((List Int)×Int)
 | 0,_,_,_=>none
 | fuel+1,q,rest,i =>
  (cond (decide (i≥0))
  ((if 0≤i∧i < ((a.length:Nat):Int) then
  (if ((IntKind.u32.wrap (b)):Int)≠0 then
  (if 0≤i∧i < ((q.length:Nat):Int) then
  g_e_short_L1 N a b fuel (q.set ((i).toNat) (IntKind.u16.wrap ((IntKind.u32.wrap ((orI .u32 (shlI .u32 rest 16) (IntKind.u32.wrap ((a.getD ((i).toNat) 0)))).tdiv (IntKind.u32.wrap (b))))))) ((orI .u32 (shlI .u32 rest 16) (IntKind.u32.wrap ((a.getD ((i).toNat) 0)))).tmod (IntKind.u32.wrap (b))) (w64 (i - 1))
  else none)
  else none)
  else none))
  (((g_e_trim N q).bind fun rtrim =>
  some (rtrim,(IntKind.u16.wrap (rest))))))
def g_e_short (N:Nat) (a:List Int) (b:Int):Option ((List Int)×Int) :=
 (if 0≤((a.length:Nat):Int)∧(2:Int) * ((a.length:Nat):Int)≤281474976710656∧((a.length:Nat):Int)≤9223372036854775807 then
 g_e_short_L1 N a b N (List.replicate a.length 0:List Int) 0 (w64 (((a.length:Nat):Int) - 1))
 else none)
def g_math_bits_Len16_J1 (N:Nat) (x2:Int) (n:Int):Option (Int) :=
 (if 0≤(IntKind.u8.wrap (x2))∧(IntKind.u8.wrap (x2)) < (((⟨#[0,1,2,2,3,3,3,3,4,4,4,4,4,4,4,4,5,5,5,5,5,5,5,5,5,5,5,5,5,5,5,5,6,6,6,6,6,6,6,6,6,6,6,6,6,6,6,6,6,6,6,6,6,6,6,6,6,6,6,6,6,6,6,6,7,7,7,7,7,7,7,7,7,7,7,7,7,7,7,7,7,7,7,7,7,7,7,7,7,7,7,7,7,7,7,7,7,7,7,7,7,7,7,7,7,7,7,7,7,7,7,7,7,7,7,7,7,7,7,7,7,7,7,7,7,7,7,7,8,8,8,8,8,8,8,8,8,8,8,8,8,8,8,8,8,8,8,8,8,8,8,8,8,8,8,8,8,8,8,8,8,8,8,8,8,8,8,8,8,8,8,8,8,8,8,8,8,8,8,8,8,8,8,8,8,8,8,8,8,8,8,8,8,8,8,8,8,8,8,8,8,8,8,8,8,8,8,8,8,8,8,8,8,8,8,8,8,8,8,8,8,8,8,8,8,8,8,8,8,8,8,8,8,8,8,8,8,8,8,8,8,8,8,8,8,8,8,8,8,8,8,8,8,8,8,8]⟩:ByteArray).size:Nat):Int) then
 some (w64 (n+(w64 ((byteAt (⟨#[0,1,2,2,3,3,3,3,4,4,4,4,4,4,4,4,5,5,5,5,5,5,5,5,5,5,5,5,5,5,5,5,6,6,6,6,6,6,6,6,6,6,6,6,6,6,6,6,6,6,6,6,6,6,6,6,6,6,6,6,6,6,6,6,7,7,7,7,7,7,7,7,7,7,7,7,7,7,7,7,7,7,7,7,7,7,7,7,7,7,7,7,7,7,7,7,7,7,7,7,7,7,7,7,7,7,7,7,7,7,7,7,7,7,7,7,7,7,7,7,7,7,7,7,7,7,7,7,8,8,8,8,8,8,8,8,8,8,8,8,8,8,8,8,8,8,8,8,8,8,8,8,8,8,8,8,8,8,8,8,8,8,8,8,8,8,8,8,8,8,8,8,8,8,8,8,8,8,8,8,8,8,8,8,8,8,8,8,8,8,8,8,8,8,8,8,8,8,8,8,8,8,8,8,8,8,8,8,8,8,8,8,8,8,8,8,8,8,8,8,8,8,8,8,8,8,8,8,8,8,8,8,8,8,8,8,8,8,8,8,8,8,8,8,8,8,8,8,8,8,8,8,8,8,8,8]⟩:ByteArray) ((IntKind.u8.wrap (x2)).toNat))))))
 else none)
def g_math_bits_Len16 (N:Nat) (x:Int):Option (Int) :=
 (cond (decide (x≥256))
 (g_math_bits_Len16_J1 N (shrI .u16 x 8) 8)
 (g_math_bits_Len16_J1 N x 0))
def g_math_bits_LeadingZeros16 (N:Nat) (x:Int):Option (Int) :=
 ((g_math_bits_Len16 N x).bind fun rLen16 =>
 some (w64 (16 - rLen16)))
def g_e_shifted_L1 (N:Nat) (a:List Int) (vby:Int):Nat→(List Int)→Int→Option ((List Int))
 | 0,_,_=>none
 | fuel+1,out,x =>
  (cond (decide (x < ((a.length:Nat):Int)))
  ((if 0≤x∧x < ((a.length:Nat):Int) then
  (if (0:Int)≤vby then
  (if 0≤x∧x < ((out.length:Nat):Int) then
  (if 0≤(w64 (x+1))∧(w64 (x+1)) < (((out.set ((x).toNat) (orI .u16 (out.getD ((x).toNat) 0) (IntKind.u16.wrap ((shlI .u32 (IntKind.u32.wrap ((a.getD ((x).toNat) 0))) vby))))).length:Nat):Int) then
  g_e_shifted_L1 N a vby fuel ((out.set ((x).toNat) (orI .u16 (out.getD ((x).toNat) 0) (IntKind.u16.wrap ((shlI .u32 (IntKind.u32.wrap ((a.getD ((x).toNat) 0))) vby))))).set ((w64 (x+1)).toNat) (IntKind.u16.wrap ((shrI .u32 (shlI .u32 (IntKind.u32.wrap ((a.getD ((x).toNat) 0))) vby) 16)))) (w64 (x+1))
  else none)
  else none)
  else none)
  else none))
  (some out))
def g_e_shifted (N:Nat) (a:List Int) (vby:Int):Option ((List Int)) :=
 (if 0≤(w64 (((a.length:Nat):Int)+1))∧(2:Int) * (w64 (((a.length:Nat):Int)+1))≤281474976710656∧(w64 (((a.length:Nat):Int)+1))≤9223372036854775807 then
 g_e_shifted_L1 N a vby N (List.replicate ((w64 (((a.length:Nat):Int)+1)).toNat) 0:List Int) 0
 else none)
def g_e_digit_J3 (N:Nat) (uo:Nat) (un:Nat) (v:List Int) (q:Int) (C02:List Int) (borrow:Int) (x:Int) (K_g_e_digit_L2:(List Int)→Int→Int→Int→Option (Int×(List Int))) (x2:Int):Option (Int×(List Int)) :=
 (if 0≤x∧x < ((un:Nat):Int) then
 (if uo+un≤C02.length then
 K_g_e_digit_L2 (C02.set (addz uo (x).toNat) (IntKind.u16.wrap ((w64 ((w64 ((w64 ((C02.getD (addz uo (x).toNat) 0))) - (w64 ((andI .u64 x2 65535)))))+borrow))))) (shrI .u64 x2 16) (shrI .i64 (w64 ((w64 ((w64 ((C02.getD (addz uo (x).toNat) 0))) - (w64 ((andI .u64 x2 65535)))))+borrow)) 16) (w64 (x+1))
 else none)
 else none)
def g_e_digit_J5 (N:Nat) (C04:List Int) (q2:Int):Option (Int×(List Int)) :=
 some ((IntKind.u16.wrap (q2)),C04)
def g_e_digit_L4 (N:Nat) (uo:Nat) (un:Nat) (v:List Int) (q:Int):Nat→(List Int)→Int→Int→Option (Int×(List Int))
 | 0,_,_,_=>none
 | fuel+1,C03,carry2,x3 =>
  (cond (decide (x3 < ((v.length:Nat):Int)))
  ((if 0≤x3∧x3 < ((un:Nat):Int) then
  (if uo+un≤C03.length then
  (if 0≤x3∧x3 < ((v.length:Nat):Int) then
  g_e_digit_L4 N uo un v q fuel (C03.set (addz uo (x3).toNat) (IntKind.u16.wrap ((IntKind.u32.wrap (carry2+(IntKind.u32.wrap ((IntKind.u32.wrap ((C03.getD (addz uo (x3).toNat) 0)))+(IntKind.u32.wrap ((v.getD ((x3).toNat) 0)))))))))) (shrI .u32 (IntKind.u32.wrap (carry2+(IntKind.u32.wrap ((IntKind.u32.wrap ((C03.getD (addz uo (x3).toNat) 0)))+(IntKind.u32.wrap ((v.getD ((x3).toNat) 0))))))) 16) (w64 (x3+1))
  else none)
  else none)
  else none))
  ((if 0≤((v.length:Nat):Int)∧((v.length:Nat):Int) < ((un:Nat):Int) then
  (if uo+un≤C03.length then
  g_e_digit_J5 N (C03.set (addz uo v.length) (IntKind.u16.wrap ((C03.getD (addz uo v.length) 0)+(IntKind.u16.wrap (carry2))))) (IntKind.u64.wrap (q - 1))
  else none)
  else none)))
def g_e_digit_L2 (N:Nat) (uo:Nat) (un:Nat) (v:List Int) (q:Int):Nat→(List Int)→Int→Int→Int→Option (Int×(List Int))
 | 0,_,_,_,_=>none
 | fuel+1,C02,carry,borrow,x =>
  (cond (decide (x < (w64 (((v.length:Nat):Int)+1))))
  ((cond (decide (x < ((v.length:Nat):Int)))
  ((if 0≤x∧x < ((v.length:Nat):Int) then
  g_e_digit_J3 N uo un v q C02 borrow x (g_e_digit_L2 N uo un v q fuel) (IntKind.u64.wrap (carry+(IntKind.u64.wrap (q * (IntKind.u64.wrap ((v.getD ((x).toNat) 0)))))))
  else none))
  (g_e_digit_J3 N uo un v q C02 borrow x (g_e_digit_L2 N uo un v q fuel) carry)))
  ((cond (decide (borrow < 0))
  (g_e_digit_L4 N uo un v q N C02 0 0)
  (g_e_digit_J5 N C02 q))))
def g_e_digit_L1 (N:Nat) (uo:Nat) (un:Nat) (v:List Int) (C0:List Int):Nat→Int→Int→Option (Int×(List Int))
 | 0,_,_=>none
 | fuel+1,q,rest =>
  (if (((decide (rest < 65536)) && ((decide (rest < 65536)) && (!(decide (q > 65535)))))=true→0≤(w64 (((v.length:Nat):Int) - 2))∧(w64 (((v.length:Nat):Int) - 2)) < ((v.length:Nat):Int)) then
  (if (((decide (rest < 65536)) && ((decide (rest < 65536)) && (!(decide (q > 65535)))))=true→0≤(w64 (((v.length:Nat):Int) - 2))∧(w64 (((v.length:Nat):Int) - 2)) < ((un:Nat):Int)) then
  (if (((decide (rest < 65536)) && ((decide (rest < 65536)) && (!(decide (q > 65535)))))=true→uo+un≤C0.length) then
  (cond (cond (decide (rest < 65536)) (cond (decide (q > 65535)) true (decide ((IntKind.u64.wrap (q * (IntKind.u64.wrap ((v.getD ((w64 (((v.length:Nat):Int) - 2)).toNat) 0))))) > (orI .u64 (shlI .u64 rest 16) (IntKind.u64.wrap ((C0.getD (addz uo (w64 (((v.length:Nat):Int) - 2)).toNat) 0))))))) false)
  ((if 0≤(w64 (((v.length:Nat):Int) - 1))∧(w64 (((v.length:Nat):Int) - 1)) < ((v.length:Nat):Int) then
  g_e_digit_L1 N uo un v C0 fuel (IntKind.u64.wrap (q - 1)) (IntKind.u64.wrap (rest+(IntKind.u64.wrap ((v.getD ((w64 (((v.length:Nat):Int) - 1)).toNat) 0)))))
  else none))
  (g_e_digit_L2 N uo un v q N C0 0 0 0))
  else none)
  else none)
  else none)
def g_e_digit (N:Nat) (uo:Nat) (un:Nat) (v:List Int) (C0:List Int):Option (Int×(List Int)) :=
 (if 0≤((v.length:Nat):Int)∧((v.length:Nat):Int) < ((un:Nat):Int) then
 (if uo+un≤C0.length then
 (if 0≤(w64 (((v.length:Nat):Int) - 1))∧(w64 (((v.length:Nat):Int) - 1)) < ((un:Nat):Int) then
 (if 0≤(w64 (((v.length:Nat):Int) - 1))∧(w64 (((v.length:Nat):Int) - 1)) < ((v.length:Nat):Int) then
 (if ((IntKind.u64.wrap ((v.getD ((w64 (((v.length:Nat):Int) - 1)).toNat) 0))):Int)≠0 then
 g_e_digit_L1 N uo un v C0 N (IntKind.u64.wrap ((orI .u64 (shlI .u64 (IntKind.u64.wrap ((C0.getD (addz uo v.length) 0))) 16) (IntKind.u64.wrap ((C0.getD (addz uo (w64 (((v.length:Nat):Int) - 1)).toNat) 0)))).tdiv (IntKind.u64.wrap ((v.getD ((w64 (((v.length:Nat):Int) - 1)).toNat) 0))))) ((orI .u64 (shlI .u64 (IntKind.u64.wrap ((C0.getD (addz uo v.length) 0))) 16) (IntKind.u64.wrap ((C0.getD (addz uo (w64 (((v.length:Nat):Int) - 1)).toNat) 0)))).tmod (IntKind.u64.wrap ((v.getD ((w64 (((v.length:Nat):Int) - 1)).toNat) 0))))
 else none)
 else none)
 else none)
 else none)
 else none)
def g_e_divide_L2 (N:Nat) (b:List Int) (rLeadingZeros:Int) (q:List Int) (u:List Int):Nat→(List Int)→Int→Option ((List Int)×(List Int))
 | 0,_,_=>none
 | fuel+1,vr,x =>
  (cond (decide (x < (((b.length - 0):Nat):Int)))
  ((if 0≤x∧x < ((u.length:Nat):Int) then
  (if 0≤(w64 (x+1))∧(w64 (x+1)) < ((u.length:Nat):Int) then
  (if (0:Int)≤rLeadingZeros then
  (if 0≤x∧x < ((vr.length:Nat):Int) then
  g_e_divide_L2 N b rLeadingZeros q u fuel (vr.set ((x).toNat) (IntKind.u16.wrap ((shrI .u32 (orI .u32 (IntKind.u32.wrap ((u.getD ((x).toNat) 0))) (shlI .u32 (IntKind.u32.wrap ((u.getD ((w64 (x+1)).toNat) 0))) 16)) rLeadingZeros)))) (w64 (x+1))
  else none)
  else none)
  else none)
  else none))
  (((g_e_trim N q).bind fun rtrim2 =>
  ((g_e_trim N vr).bind fun rtrim3 =>
  some (rtrim2,rtrim3)))))
def g_e_divide_L1 (N:Nat) (b:List Int) (rLeadingZeros:Int) (rshifted2:(List Int)):Nat→(List Int)→(List Int)→Int→Option ((List Int)×(List Int))
 | 0,_,_,_=>none
 | fuel+1,q,u,j =>
  (cond (decide (j≥0))
  ((if (j).toNat≤(w64 ((w64 (j+(((b.length - 0):Nat):Int)))+1)).toNat∧(w64 ((w64 (j+(((b.length - 0):Nat):Int)))+1)).toNat≤u.length then
  (if 0≤j then
  (if 0≤(w64 ((w64 (j+(((b.length - 0):Nat):Int)))+1)) then
  (if 0≤b.length∧b.length≤rshifted2.length then
  ((g_e_digit N ((j).toNat) ((w64 ((w64 (j+(((b.length - 0):Nat):Int)))+1)).toNat - (j).toNat) ((rshifted2.take b.length).drop 0) u).bind fun rdigit =>
  (if rdigit.2.length=u.length then
  (if 0≤j∧j < ((q.length:Nat):Int) then
  g_e_divide_L1 N b rLeadingZeros rshifted2 fuel (q.set ((j).toNat) rdigit.1) rdigit.2 (w64 (j - 1))
  else none)
  else none))
  else none)
  else none)
  else none)
  else none))
  ((if 0≤(((b.length - 0):Nat):Int)∧(2:Int) * (((b.length - 0):Nat):Int)≤281474976710656∧(((b.length - 0):Nat):Int)≤9223372036854775807 then
  g_e_divide_L2 N b rLeadingZeros q u N (List.replicate (b.length - 0) 0:List Int) 0
  else none)))
def g_e_divide (N:Nat) (a:List Int) (b:List Int):Option ((List Int)×(List Int)) :=
 ((g_e_compare N a b).bind fun rcompare =>
 (cond (decide (rcompare < 0))
 (((g_slices_Clone_uint16_uint16 N a).bind fun rClone =>
 some (([]:List Int),rClone)))
 ((cond (((b.length:Nat):Int) == 1)
 ((if 0≤(0:Int)∧0 < ((b.length:Nat):Int) then
 ((g_e_short N a (b.getD 0 0)).bind fun rshort =>
 ((g_e_trim N ([rshort.2]:List Int)).bind fun rtrim =>
 some (rshort.1,rtrim)))
 else none))
 ((if 0≤(w64 (((b.length:Nat):Int) - 1))∧(w64 (((b.length:Nat):Int) - 1)) < ((b.length:Nat):Int) then
 ((g_math_bits_LeadingZeros16 N (b.getD ((w64 (((b.length:Nat):Int) - 1)).toNat) 0)).bind fun rLeadingZeros =>
 ((g_e_shifted N a rLeadingZeros).bind fun rshifted =>
 ((g_e_shifted N b rLeadingZeros).bind fun rshifted2 =>
 (if 0≤b.length∧b.length≤rshifted2.length then
 (if 0≤(w64 (((rshifted.length:Nat):Int) - (((b.length - 0):Nat):Int)))∧(2:Int) * (w64 (((rshifted.length:Nat):Int) - (((b.length - 0):Nat):Int)))≤281474976710656∧(w64 (((rshifted.length:Nat):Int) - (((b.length - 0):Nat):Int)))≤9223372036854775807 then
 g_e_divide_L1 N b rLeadingZeros rshifted2 N (List.replicate ((w64 (((rshifted.length:Nat):Int) - (((b.length - 0):Nat):Int))).toNat) 0:List Int) rshifted (w64 ((w64 (((rshifted.length:Nat):Int) - (((b.length - 0):Nat):Int))) - 1))
 else none)
 else none))))
 else none))))))
def g_e_plus_J3 (N:Nat) (a2:List Int) (b2:List Int) (out:List Int) (x:Int) (K_g_e_plus_L2:(List Int)→Int→Int→Option ((List Int))) (carry2:Int):Option ((List Int)) :=
 (if (out.length+1) * 2≤140737488355328 then
 K_g_e_plus_L2 (out ++ ([(IntKind.u16.wrap (carry2))]:List Int)) (shrI .u32 carry2 16) (w64 (x+1))
 else none)
def g_e_plus_L2 (N:Nat) (a2:List Int) (b2:List Int):Nat→(List Int)→Int→Int→Option ((List Int))
 | 0,_,_,_=>none
 | fuel+1,out,carry,x =>
  (cond (decide (x < ((a2.length:Nat):Int)))
  ((if 0≤x∧x < ((a2.length:Nat):Int) then
  (cond (decide (x < ((b2.length:Nat):Int)))
  ((if 0≤x∧x < ((b2.length:Nat):Int) then
  g_e_plus_J3 N a2 b2 out x (g_e_plus_L2 N a2 b2 fuel) (IntKind.u32.wrap ((IntKind.u32.wrap (carry+(IntKind.u32.wrap ((a2.getD ((x).toNat) 0)))))+(IntKind.u32.wrap ((b2.getD ((x).toNat) 0)))))
  else none))
  (g_e_plus_J3 N a2 b2 out x (g_e_plus_L2 N a2 b2 fuel) (IntKind.u32.wrap (carry+(IntKind.u32.wrap ((a2.getD ((x).toNat) 0)))))))
  else none))
  ((if (out.length+1) * 2≤140737488355328 then
  ((g_e_trim N (out ++ ([(IntKind.u16.wrap (carry))]:List Int))).bind fun rtrim =>
  some rtrim)
  else none)))
def g_e_plus_J1 (N:Nat) (a2:List Int) (b2:List Int):Option ((List Int)) :=
 (if 0≤(0:Int)∧(2:Int) * (w64 (((a2.length:Nat):Int)+1))≤281474976710656∧(w64 (((a2.length:Nat):Int)+1))≤9223372036854775807∧(0:Int)≤(w64 (((a2.length:Nat):Int)+1)) then
 g_e_plus_L2 N a2 b2 N (List.replicate 0 0:List Int) 0 0
 else none)
def g_e_plus (N:Nat) (a:List Int) (b:List Int):Option ((List Int)) :=
 (cond (decide (((a.length:Nat):Int) < ((b.length:Nat):Int)))
 (g_e_plus_J1 N b a)
 (g_e_plus_J1 N a b))
def g_e_minus_J3 (N:Nat) (a:List Int) (b:List Int) (out:List Int) (x:Int) (y:Int) (K_g_e_minus_L1:(List Int)→Int→Int→Option ((List Int))) (borrow2:Int):Option ((List Int)) :=
 (if 0≤x∧x < ((out.length:Nat):Int) then
 K_g_e_minus_L1 (out.set ((x).toNat) (IntKind.u16.wrap ((IntKind.u32.wrap ((IntKind.u32.wrap ((IntKind.u32.wrap ((a.getD ((x).toNat) 0)))+(shlI .u32 borrow2 16))) - y))))) borrow2 (w64 (x+1))
 else none)
def g_e_minus_J2 (N:Nat) (a:List Int) (b:List Int) (out:List Int) (x:Int) (K_g_e_minus_L1:(List Int)→Int→Int→Option ((List Int))) (y:Int):Option ((List Int)) :=
 (cond (decide ((IntKind.u32.wrap ((a.getD ((x).toNat) 0))) < y))
 (g_e_minus_J3 N a b out x y K_g_e_minus_L1 1)
 (g_e_minus_J3 N a b out x y K_g_e_minus_L1 0))
def g_e_minus_L1 (N:Nat) (a:List Int) (b:List Int):Nat→(List Int)→Int→Int→Option ((List Int))
 | 0,_,_,_=>none
 | fuel+1,out,borrow,x =>
  (cond (decide (x < ((a.length:Nat):Int)))
  ((if 0≤x∧x < ((a.length:Nat):Int) then
  (cond (decide (x < ((b.length:Nat):Int)))
  ((if 0≤x∧x < ((b.length:Nat):Int) then
  g_e_minus_J2 N a b out x (g_e_minus_L1 N a b fuel) (IntKind.u32.wrap (borrow+(IntKind.u32.wrap ((b.getD ((x).toNat) 0)))))
  else none))
  (g_e_minus_J2 N a b out x (g_e_minus_L1 N a b fuel) borrow))
  else none))
  (((g_e_trim N out).bind fun rtrim =>
  some rtrim)))
def g_e_minus (N:Nat) (a:List Int) (b:List Int):Option ((List Int)) :=
 (if 0≤((a.length:Nat):Int)∧(2:Int) * ((a.length:Nat):Int)≤281474976710656∧((a.length:Nat):Int)≤9223372036854775807 then
 g_e_minus_L1 N a b N (List.replicate a.length 0:List Int) 0 0
 else none)
def g_e_signed (N:Nat) (neg:Bool) (n:List Int):Option (TInt) :=
 ((g_e_trim N n).bind fun rtrim =>
 (cond (((rtrim.length:Nat):Int) == 0)
 (some (⟨false,([]:List Int)⟩:TInt))
 (((g_slices_Clone_uint16_uint16 N rtrim).bind fun rClone =>
 some (⟨neg,rClone⟩:TInt)))))
def g_e_DivMod_J1 (N:Nat) (a:TInt) (b:TInt) (n:List Int) (rest:List Int):Option (TInt×TInt×Int) :=
 ((g_e_signed N (!(a.fG == b.fG)) n).bind fun rSg =>
 ((g_e_signed N false rest).bind fun rSg2 =>
 some (rSg,rSg2,0)))
def g_e_DivMod (N:Nat) (a:TInt) (b:TInt):Option (TInt×TInt×Int) :=
 ((g_e_trim N a.fL).bind fun rtrim =>
 ((g_e_trim N b.fL).bind fun rtrim2 =>
 (cond (((rtrim2.length:Nat):Int) == 0)
 (some ((⟨false,([]:List Int)⟩:TInt),(⟨false,([]:List Int)⟩:TInt),9))
 (((g_e_divide N rtrim rtrim2).bind fun rdivide =>
 (cond (cond a.fG (decide (((rdivide.2.length:Nat):Int) > 0)) false)
 (((g_e_plus N rdivide.1 ([1]:List Int)).bind fun rplus =>
 ((g_e_minus N rtrim2 rdivide.2).bind fun rminus =>
 g_e_DivMod_J1 N a b rplus rminus)))
 (g_e_DivMod_J1 N a b rdivide.1 rdivide.2)))))))
def g_e_natural_L1 (N:Nat):Nat→Int→(List Int)→Option ((List Int))
 | 0,_,_=>none
 | fuel+1,n2,out =>
  (cond (decide (n2 > 0))
  ((if (out.length+1) * 2≤140737488355328 then
  g_e_natural_L1 N fuel (shrI .u64 n2 16) (out ++ ([(IntKind.u16.wrap (n2))]:List Int))
  else none))
  (some out))
def g_e_natural (N:Nat) (n:Int):Option ((List Int)) :=
 g_e_natural_L1 N N n ([]:List Int)
def g_e_Of (N:Nat) (n:Int):Option (TInt) :=
 (cond (decide (n < 0))
 (((g_e_natural N (IntKind.u64.wrap (0 - (IntKind.u64.wrap (n))))).bind fun rnatural =>
 ((g_e_signed N true rnatural).bind fun rSg =>
 some rSg)))
 (((g_e_natural N (IntKind.u64.wrap (n))).bind fun rnatural2 =>
 ((g_e_signed N false rnatural2).bind fun rSg2 =>
 some rSg2))))
def g_e_word_L1 (N:Nat) (n:List Int):Nat→Int→Int→Option (Int×Bool)
 | 0,_,_=>none
 | fuel+1,out,i =>
  (cond (decide (i≥0))
  ((if 0≤i∧i < ((n.length:Nat):Int) then
  g_e_word_L1 N n fuel (orI .u64 (shlI .u64 out 16) (IntKind.u64.wrap ((n.getD ((i).toNat) 0)))) (w64 (i - 1))
  else none))
  (some (out,true)))
def g_e_word (N:Nat) (n:List Int):Option (Int×Bool) :=
 (cond (decide (((n.length:Nat):Int) > 4))
 (some (0,false))
 (g_e_word_L1 N n N 0 (w64 (((n.length:Nat):Int) - 1))))
def g_e_common_L2 (N:Nat) (K_g_e_common_L1:(List Int)→(List Int)→Option ((List Int))):Nat→Int→Int→Option ((List Int))
 | 0,_,_=>none
 | fuel+1,x,y =>
  (cond (decide (y > 0))
  ((if (y:Int)≠0 then
  g_e_common_L2 N K_g_e_common_L1 fuel y (x.tmod y)
  else none))
  (((g_e_natural N x).bind fun rnatural =>
  some rnatural)))
def g_e_common_L1 (N:Nat):Nat→(List Int)→(List Int)→Option ((List Int))
 | 0,_,_=>none
 | fuel+1,a2,b2 =>
  (cond (decide (((b2.length:Nat):Int) > 0))
  (((g_e_word N a2).bind fun rword =>
  ((g_e_word N b2).bind fun rword2 =>
  (cond (cond rword.2 rword2.2 false)
  (g_e_common_L2 N (g_e_common_L1 N fuel) N rword.1 rword2.1)
  (((g_e_divide N a2 b2).bind fun rdivide =>
  g_e_common_L1 N fuel b2 rdivide.2))))))
  (some a2))
def g_e_common (N:Nat) (a:List Int) (b:List Int):Option ((List Int)) :=
 g_e_common_L1 N N a b
def g_e_fraction_J1 (N:Nat) (a:TInt) (b:TInt) (x:List Int) (y:List Int):Option (TRat) :=
 ((g_e_signed N (!(a.fG == b.fG)) x).bind fun rSg =>
 ((g_e_signed N false y).bind fun rSg2 =>
 some (⟨rSg,rSg2⟩:TRat)))
def g_e_fraction (N:Nat) (a:TInt) (b:TInt):Option (TRat) :=
 ((g_e_trim N a.fL).bind fun rtrim =>
 ((g_e_trim N b.fL).bind fun rtrim2 =>
 ((g_e_common N rtrim rtrim2).bind fun rcommon =>
 (if ((!(((rcommon.length:Nat):Int) != 1))=true→0≤(0:Int)∧0 < ((rcommon.length:Nat):Int)) then
 (cond (cond (((rcommon.length:Nat):Int) != 1) true ((rcommon.getD 0 0) != 1))
 (((g_e_divide N rtrim rcommon).bind fun rdivide =>
 ((g_e_divide N rtrim2 rcommon).bind fun rdivide2 =>
 g_e_fraction_J1 N a b rdivide.1 rdivide2.1)))
 (g_e_fraction_J1 N a b rtrim rtrim2))
 else none))))
def g_e_Ratio (N:Nat) (a:Int) (b:Int):Option (TRat×Int) :=
 (cond (b == 0)
 (some ((⟨(⟨false,([]:List Int)⟩:TInt),(⟨false,([]:List Int)⟩:TInt)⟩:TRat),9))
 (((g_e_Of N a).bind fun rOf =>
 ((g_e_Of N b).bind fun rOf2 =>
 ((g_e_fraction N rOf rOf2).bind fun rFr =>
 some (rFr,0))))))
def g_b_W (N:Nat) (n:Int):Option (TRat) :=
 ((g_b_Z N n).bind fun rZ =>
 ((g_b_Z N 1).bind fun rZ2 =>
 some (⟨rZ,rZ2⟩:TRat)))
def g_b_Ws_L1 (N:Nat) (l:List Int):Nat→(List TRat)→Int→Option ((List TRat))
 | 0,_,_=>none
 | fuel+1,out,i =>
  (cond (decide (i < ((l.length:Nat):Int)))
  ((if 0≤i∧i < ((l.length:Nat):Int) then
  ((g_b_W N (l.getD ((i).toNat) 0)).bind fun rW =>
  (if (out.length+1) * 64≤140737488355328 then
  g_b_Ws_L1 N l fuel (out ++ ([rW]:List TRat)) (w64 (i+1))
  else none))
  else none))
  (some out))
def g_b_Ws (N:Nat) (l:List Int):Option ((List TRat)) :=
 g_b_Ws_L1 N l N ([]:List TRat) 0
def g_e_sign (N:Nat) (a:TInt):Option (Int) :=
 ((g_e_trim N a.fL).bind fun rtrim =>
 (cond (((rtrim.length:Nat):Int) == 0)
 (some 0)
 ((cond a.fG
 (some (-1))
 (some 1)))))
def g_e_below (N:Nat) (x:TRat):Option (TInt) :=
 ((g_e_sign N x.fD).bind fun rsign =>
 (cond (rsign == 0)
 (some (⟨false,([1]:List Int)⟩:TInt))
 (some x.fD)))
def g_e_signOf (N:Nat) (x:TRat):Option (Int) :=
 ((g_e_sign N x.fN).bind fun rsign =>
 ((g_e_below N x).bind fun rbelow =>
 ((g_e_sign N rbelow).bind fun rsign2 =>
 some (w64 (rsign * rsign2)))))
def g_e_CheckCurve_L1 (N:Nat) (c:TCurve):Nat→Int→Option (Int)
 | 0,_=>none
 | fuel+1,x =>
  (cond (decide (x < ((c.f_Starts.length:Nat):Int)))
  ((if 0≤x∧x < ((c.f_Starts.length:Nat):Int) then
  (if ((!(cond (decide ((c.f_Starts.getD ((x).toNat) 0) < (-10000000))) true (decide ((c.f_Starts.getD ((x).toNat) 0) > 10000000))))=true→0≤x∧x < ((c.f_Slopes.length:Nat):Int)) then
  ((cond (!(cond (decide ((c.f_Starts.getD ((x).toNat) 0) < (-10000000))) true (decide ((c.f_Starts.getD ((x).toNat) 0) > 10000000)))) (g_e_signOf N (⟨((c.f_Slopes.getD ((x).toNat) TRat.d).fN),((c.f_Slopes.getD ((x).toNat) TRat.d).fD)⟩:TRat)) (some 0)).bind fun rsignOf =>
  (cond (cond (cond (decide ((c.f_Starts.getD ((x).toNat) 0) < (-10000000))) true (decide ((c.f_Starts.getD ((x).toNat) 0) > 10000000))) true (decide (rsignOf < 0)))
  (some 2)
  ((if ((decide (x > 0))=true→0≤(w64 (x - 1))∧(w64 (x - 1)) < ((c.f_Starts.length:Nat):Int)) then
  (cond (cond (decide (x > 0)) (decide ((c.f_Starts.getD ((x).toNat) 0)≤(c.f_Starts.getD ((w64 (x - 1)).toNat) 0))) false)
  (some 10)
  (g_e_CheckCurve_L1 N c fuel (w64 (x+1))))
  else none))))
  else none)
  else none))
  (some 0))
def g_e_CheckCurve (N:Nat) (c:TCurve):Option (Int) :=
 (cond (decide (((c.f_Starts.length:Nat):Int) > 40))
 (some 8)
 ((cond (((c.f_Slopes.length:Nat):Int) != ((c.f_Starts.length:Nat):Int))
 (some 11)
 (g_e_CheckCurve_L1 N c N 0))))
def g_e_Whole (N:Nat) (a:TInt):Option (TRat) :=
 ((g_e_fraction N a (⟨false,([1]:List Int)⟩:TInt)).bind fun rFr =>
 some rFr)
def g_e_number (N:Nat) (n:Int):Option (TRat) :=
 ((g_e_Of N n).bind fun rOf =>
 ((g_e_Whole N rOf).bind fun rWhole =>
 some rWhole))
def g_e_ramps (N:Nat) (c:TCurve) (y:TRat):Option (TCurve×TRat) :=
 some (c,y)
def g_e_times_L2 (N:Nat) (a:List Int) (b:List Int) (x:Int) (K_g_e_times_L1:(List Int)→Int→Option ((List Int))):Nat→(List Int)→Int→Int→Option ((List Int))
 | 0,_,_,_=>none
 | fuel+1,out2,carry,x2 =>
  (cond (decide (x2 < ((b.length:Nat):Int)))
  ((if 0≤x2∧x2 < ((b.length:Nat):Int) then
  (if 0≤(w64 (x+x2))∧(w64 (x+x2)) < ((out2.length:Nat):Int) then
  g_e_times_L2 N a b x K_g_e_times_L1 fuel (out2.set ((w64 (x+x2)).toNat) (IntKind.u16.wrap ((IntKind.u32.wrap (carry+(IntKind.u32.wrap ((IntKind.u32.wrap ((IntKind.u32.wrap ((a.getD ((x).toNat) 0))) * (IntKind.u32.wrap ((b.getD ((x2).toNat) 0)))))+(IntKind.u32.wrap ((out2.getD ((w64 (x+x2)).toNat) 0)))))))))) (shrI .u32 (IntKind.u32.wrap (carry+(IntKind.u32.wrap ((IntKind.u32.wrap ((IntKind.u32.wrap ((a.getD ((x).toNat) 0))) * (IntKind.u32.wrap ((b.getD ((x2).toNat) 0)))))+(IntKind.u32.wrap ((out2.getD ((w64 (x+x2)).toNat) 0))))))) 16) (w64 (x2+1))
  else none)
  else none))
  ((if 0≤(w64 (x+((b.length:Nat):Int)))∧(w64 (x+((b.length:Nat):Int))) < ((out2.length:Nat):Int) then
  K_g_e_times_L1 (out2.set ((w64 (x+((b.length:Nat):Int))).toNat) (IntKind.u16.wrap (carry))) (w64 (x+1))
  else none)))
def g_e_times_L1 (N:Nat) (a:List Int) (b:List Int):Nat→(List Int)→Int→Option ((List Int))
 | 0,_,_=>none
 | fuel+1,out,x =>
  (cond (decide (x < ((a.length:Nat):Int)))
  ((if 0≤x∧x < ((a.length:Nat):Int) then
  g_e_times_L2 N a b x (g_e_times_L1 N a b fuel) N out 0 0
  else none))
  (((g_e_trim N out).bind fun rtrim =>
  some rtrim)))
def g_e_times (N:Nat) (a:List Int) (b:List Int):Option ((List Int)) :=
 (if 0≤(w64 (((a.length:Nat):Int)+((b.length:Nat):Int)))∧(2:Int) * (w64 (((a.length:Nat):Int)+((b.length:Nat):Int)))≤281474976710656∧(w64 (((a.length:Nat):Int)+((b.length:Nat):Int)))≤9223372036854775807 then
 g_e_times_L1 N a b N (List.replicate ((w64 (((a.length:Nat):Int)+((b.length:Nat):Int))).toNat) 0:List Int) 0
 else none)
def g_e_Mul (N:Nat) (a:TInt) (b:TInt):Option (TInt) :=
 ((g_e_trim N a.fL).bind fun rtrim =>
 ((g_e_trim N b.fL).bind fun rtrim2 =>
 ((g_e_times N rtrim rtrim2).bind fun rtimes =>
 ((g_e_signed N (!(a.fG == b.fG)) rtimes).bind fun rSg =>
 some rSg))))
def g_e_MulRat (N:Nat) (x:TRat) (y:TRat):Option (TRat) :=
 ((g_e_Mul N x.fN y.fN).bind fun rMul =>
 ((g_e_below N x).bind fun rbelow =>
 ((g_e_below N y).bind fun rbelow2 =>
 ((g_e_Mul N rbelow rbelow2).bind fun rMul2 =>
 ((g_e_fraction N rMul rMul2).bind fun rFr =>
 some rFr)))))
def g_e_isZero (N:Nat) (x:TRat):Option (Bool) :=
 ((g_e_sign N x.fN).bind fun rsign =>
 some (rsign == 0))
def g_e_lowest (N:Nat) (x:TRat):Option (TRat) :=
 ((g_e_below N x).bind fun rbelow =>
 ((g_e_fraction N x.fN rbelow).bind fun rFr =>
 some rFr))
def g_e_Add (N:Nat) (a:TInt) (b:TInt):Option (TInt) :=
 ((g_e_trim N a.fL).bind fun rtrim =>
 ((g_e_trim N b.fL).bind fun rtrim2 =>
 (cond (a.fG == b.fG)
 (((g_e_plus N rtrim rtrim2).bind fun rplus =>
 ((g_e_signed N a.fG rplus).bind fun rSg =>
 some rSg)))
 (((g_e_compare N rtrim rtrim2).bind fun rcompare =>
 (cond (decide (rcompare≥0))
 (((g_e_minus N rtrim rtrim2).bind fun rminus =>
 ((g_e_signed N a.fG rminus).bind fun rSg2 =>
 some rSg2)))
 (((g_e_minus N rtrim2 rtrim).bind fun rminus2 =>
 ((g_e_signed N b.fG rminus2).bind fun rSg3 =>
 some rSg3)))))))))
def g_e_AddRat (N:Nat) (x:TRat) (y:TRat):Option (TRat) :=
 ((g_e_isZero N x).bind fun risZero =>
 (cond risZero
 (((g_e_lowest N y).bind fun rlowest =>
 some rlowest))
 (((g_e_isZero N y).bind fun risZero2 =>
 (cond risZero2
 (((g_e_lowest N x).bind fun rlowest2 =>
 some rlowest2))
 (((g_e_below N x).bind fun rbelow =>
 ((g_e_below N y).bind fun rbelow2 =>
 ((g_e_Mul N x.fN rbelow2).bind fun rMul =>
 ((g_e_Mul N y.fN rbelow).bind fun rMul2 =>
 ((g_e_Add N rMul rMul2).bind fun rAdd =>
 ((g_e_Mul N rbelow rbelow2).bind fun rMul3 =>
 ((g_e_fraction N rAdd rMul3).bind fun rFr =>
 some rFr)))))))))))))
def g_e_opposite (N:Nat) (a:TInt):Option (TInt) :=
 some (⟨(!a.fG),a.fL⟩:TInt)
def g_e_negative (N:Nat) (x:TRat):Option (TRat) :=
 ((g_e_opposite N x.fN).bind fun ropposite =>
 ((g_e_below N x).bind fun rbelow =>
 ((g_e_fraction N ropposite rbelow).bind fun rFr =>
 some rFr)))
def g_e_SubRat (N:Nat) (x:TRat) (y:TRat):Option (TRat) :=
 ((g_e_negative N y).bind fun rnegative =>
 ((g_e_AddRat N x rnegative).bind fun rAddRat =>
 some rAddRat))
def g_e_ramps_1_L1 (N:Nat) (RD:TRat→TRat→TRat→Option TRat) (C1:TCurve) (C2:TRat):Nat→TRat→TRat→Int→Option (TRat)
 | 0,_,_,_=>none
 | fuel+1,C02,before,x =>
  (cond (decide (x < ((C1.f_Starts.length:Nat):Int)))
  ((if 0≤x∧x < ((C1.f_Starts.length:Nat):Int) then
  ((g_e_number N (C1.f_Starts.getD ((x).toNat) 0)).bind fun rnumber2 =>
  ((g_e_SubRat N C2 rnumber2).bind fun rSubRat =>
  ((g_e_signOf N rSubRat).bind fun rsignOf =>
  (if ((!(decide (rsignOf < 0)))=true→0≤x∧x < ((C1.f_Slopes.length:Nat):Int)) then
  ((cond (!(decide (rsignOf < 0))) (g_e_SubRat N (⟨((C1.f_Slopes.getD ((x).toNat) TRat.d).fN),((C1.f_Slopes.getD ((x).toNat) TRat.d).fD)⟩:TRat) before) (some TRat.d)).bind fun rSubRat2 =>
  (cond (!(decide (rsignOf < 0)))
  (((RD rSubRat2 rSubRat C02).bind fun ry =>
  (cond (cond (decide (rsignOf < 0)) true (!true))
  (some ry)
  ((if 0≤x∧x < ((C1.f_Slopes.length:Nat):Int) then
  g_e_ramps_1_L1 N RD C1 C2 fuel ry (⟨((C1.f_Slopes.getD ((x).toNat) TRat.d).fN),((C1.f_Slopes.getD ((x).toNat) TRat.d).fD)⟩:TRat) (w64 (x+1))
  else none)))))
  ((cond (cond (decide (rsignOf < 0)) true false)
  (some C02)
  ((if 0≤x∧x < ((C1.f_Slopes.length:Nat):Int) then
  g_e_ramps_1_L1 N RD C1 C2 fuel C02 (⟨((C1.f_Slopes.getD ((x).toNat) TRat.d).fN),((C1.f_Slopes.getD ((x).toNat) TRat.d).fD)⟩:TRat) (w64 (x+1))
  else none))))))
  else none))))
  else none))
  (some C02))
def g_e_ramps_1 (N:Nat) (RD:TRat→TRat→TRat→Option TRat) (C0:TRat) (C1:TCurve) (C2:TRat):Option (TRat) :=
 ((g_e_number N 0).bind fun rnumber =>
 g_e_ramps_1_L1 N RD C1 C2 N C0 rnumber 0)
def g_e_Value_R (N:Nat) (change:TRat) (far:TRat) (sum:TRat):Option TRat :=
 ((g_e_MulRat N change far).bind fun rMulRat =>
 ((g_e_AddRat N sum rMulRat).bind fun rAddRat =>
 some rAddRat))
def g_e_Value (N:Nat) (c:TCurve) (y:TRat):Option (TRat×Int) :=
 ((g_e_CheckCurve N c).bind fun rCheckCurve =>
 (cond (rCheckCurve != 0)
 (some ((⟨(⟨false,([]:List Int)⟩:TInt),(⟨false,([]:List Int)⟩:TInt)⟩:TRat),rCheckCurve))
 (((g_e_number N 0).bind fun rnumber =>
 ((g_e_ramps N c y).bind fun rramps =>
 ((g_e_ramps_1 N (g_e_Value_R N) rnumber rramps.1 rramps.2).bind fun rr =>
 some (rr,0)))))))
def g_b_SameInt_L1 (N:Nat) (a:TInt) (b:TInt):Nat→Int→Option (Bool)
 | 0,_=>none
 | fuel+1,i =>
  (cond (decide (i < ((a.fL.length:Nat):Int)))
  ((if 0≤i∧i < ((a.fL.length:Nat):Int) then
  (if 0≤i∧i < ((b.fL.length:Nat):Int) then
  (cond ((a.fL.getD ((i).toNat) 0) != (b.fL.getD ((i).toNat) 0))
  (some false)
  (g_b_SameInt_L1 N a b fuel (w64 (i+1))))
  else none)
  else none))
  (some true))
def g_b_SameInt (N:Nat) (a:TInt) (b:TInt):Option (Bool) :=
 (cond (cond (!(a.fG == b.fG)) true (((a.fL.length:Nat):Int) != ((b.fL.length:Nat):Int)))
 (some false)
 (g_b_SameInt_L1 N a b N 0))
def g_b_Q_L2 (N:Nat) (a2:Int) (b2:Int):Nat→Int→Int→Option (TRat)
 | 0,_,_=>none
 | fuel+1,x,y =>
  (cond (decide (y > 0))
  ((if (y:Int)≠0 then
  g_b_Q_L2 N a2 b2 fuel y (x.tmod y)
  else none))
  ((if (x:Int)≠0 then
  ((g_b_Z N (w64 (a2.tdiv x))).bind fun rZ =>
  ((g_b_Z N (w64 (b2.tdiv x))).bind fun rZ2 =>
  some (⟨rZ,rZ2⟩:TRat)))
  else none)))
def g_b_Q_J1 (N:Nat) (a2:Int) (b2:Int):Option (TRat) :=
 (cond (decide (a2 < 0))
 (g_b_Q_L2 N a2 b2 N (w64 (0 - a2)) b2)
 (g_b_Q_L2 N a2 b2 N a2 b2))
def g_b_Q (N:Nat) (a:Int) (b:Int):Option (TRat) :=
 (cond (decide (b < 0))
 (g_b_Q_J1 N (w64 (0 - a)) (w64 (0 - b)))
 (g_b_Q_J1 N a b))
def g_b_SameRat (N:Nat) (a:TRat) (b:TRat):Option (Bool) :=
 ((g_b_SameInt N a.fN b.fN).bind fun rSameInt =>
 ((cond rSameInt (g_b_SameInt N a.fD b.fD) (some false)).bind fun rSameInt2 =>
 some (cond rSameInt rSameInt2 false)))
def g_w01_awake (N:Nat):Option (Bool) :=
 ((g_b_Z N (-7)).bind fun rZ =>
 ((g_b_Z N 2).bind fun rZ2 =>
 ((g_e_DivMod N rZ rZ2).bind fun rDivMod =>
 ((g_e_Ratio N 6 (-4)).bind fun rRatio =>
 ((g_b_Ws N ([2,0]:List Int)).bind fun rWs =>
 ((g_b_W N 5).bind fun rW =>
 ((g_e_Value N (⟨([0,10]:List Int),rWs⟩:TCurve) rW).bind fun rValue =>
 ((cond (rDivMod.2.2 == 0) (g_b_Z N (-4)) (some TInt.d)).bind fun rZ3 =>
 ((cond (rDivMod.2.2 == 0) (g_b_SameInt N rDivMod.1 rZ3) (some false)).bind fun rSameInt =>
 ((cond (cond (rDivMod.2.2 == 0) rSameInt false) (g_b_Z N 1) (some TInt.d)).bind fun rZ4 =>
 ((cond (cond (rDivMod.2.2 == 0) rSameInt false) (g_b_SameInt N rDivMod.2.1 rZ4) (some false)).bind fun rSameInt2 =>
 ((cond (cond (cond (cond (rDivMod.2.2 == 0) rSameInt false) rSameInt2 false) (rRatio.2 == 0) false) (g_b_Q N (-3) 2) (some TRat.d)).bind fun rQ =>
 ((cond (cond (cond (cond (rDivMod.2.2 == 0) rSameInt false) rSameInt2 false) (rRatio.2 == 0) false) (g_b_SameRat N rRatio.1 rQ) (some false)).bind fun rSameRat =>
 ((cond (cond (cond (cond (cond (cond (rDivMod.2.2 == 0) rSameInt false) rSameInt2 false) (rRatio.2 == 0) false) rSameRat false) (rValue.2 == 0) false) (g_b_W N 10) (some TRat.d)).bind fun rW2 =>
 ((cond (cond (cond (cond (cond (cond (rDivMod.2.2 == 0) rSameInt false) rSameInt2 false) (rRatio.2 == 0) false) rSameRat false) (rValue.2 == 0) false) (g_b_SameRat N rValue.1 rW2) (some false)).bind fun rSameRat2 =>
 some (cond (cond (cond (cond (cond (cond (rDivMod.2.2 == 0) rSameInt false) rSameInt2 false) (rRatio.2 == 0) false) rSameRat false) (rValue.2 == 0) false) rSameRat2 false))))))))))))))))
def g_e_CheckRows_1 (N:Nat) (vr:TRow) (C0:Int):Option (Bool) :=
 some (decide (((vr.f_Coefs.length:Nat):Int) > C0))
def g_slices_IndexFunc_Row_L1 (N:Nat) (s:List TRow) (C0:Int):Nat→Int→Option (Int)
 | 0,_=>none
 | fuel+1,x =>
  (cond (decide (x < ((s.length:Nat):Int)))
  ((if 0≤x∧x < ((s.length:Nat):Int) then
  ((g_e_CheckRows_1 N (s.getD ((x).toNat) TRow.d) C0).bind fun rCheckRows1 =>
  (cond rCheckRows1
  (some x)
  (g_slices_IndexFunc_Row_L1 N s C0 fuel (w64 (x+1)))))
  else none))
  (some (-1)))
def g_slices_IndexFunc_Row (N:Nat) (s:List TRow) (C0:Int):Option (Int) :=
 g_slices_IndexFunc_Row_L1 N s C0 N 0
def g_slices_ContainsFunc_Row (N:Nat) (s:List TRow) (C0:Int):Option (Bool) :=
 ((g_slices_IndexFunc_Row N s C0).bind fun rRow =>
 some (decide (rRow≥0)))
def g_e_CheckRows (N:Nat) (n:Int) (l:List TRow):Option (Int) :=
 (cond (cond (decide (n < 0)) true (decide (n > 12)))
 (some 2)
 ((cond (decide (((l.length:Nat):Int) > 40))
 (some 8)
 (((g_slices_ContainsFunc_Row N l n).bind fun rRow =>
 (cond rRow
 (some 11)
 (some 0)))))))
def g_e_begin_J4 (N:Nat) (n:Int) (l:List TRow) (rnumber:TRat) (t:List Int) (t2:List Int) (t3:List (List TRat)) (t4:List TRat) (x2:Int) (row:List TRat) (x3:Int) (K_g_e_begin_L3:(List TRat)→Int→Option (Ttb)) (K_g_e_begin_L2:(List Int)→(List (List TRat))→(List TRat)→Int→Option (Ttb)) (c7:TRat):Option (Ttb) :=
 ((g_e_negative N c7).bind fun rnegative =>
 (if 0≤x3∧x3 < ((row.length:Nat):Int) then
 (if 0≤(w64 (n+x3))∧(w64 (n+x3)) < ((row.length:Nat):Int) then
 K_g_e_begin_L3 ((row.set ((x3).toNat) rnegative).set ((w64 (n+x3)).toNat) c7) (w64 (x3+1))
 else none)
 else none))
def g_e_begin_L3 (N:Nat) (n:Int) (l:List TRow) (rnumber:TRat) (t:List Int) (t2:List Int) (t3:List (List TRat)) (t4:List TRat) (x2:Int) (K_g_e_begin_L2:(List Int)→(List (List TRat))→(List TRat)→Int→Option (Ttb)):Nat→(List TRat)→Int→Option (Ttb)
 | 0,_,_=>none
 | fuel+1,row,x3 =>
  (cond (decide (x3 < n))
  (((g_e_number N 0).bind fun rnumber2 =>
  (cond (decide (x3 < ((((l.getD ((x2).toNat) TRow.d).f_Coefs).length:Nat):Int)))
  ((if 0≤x3∧x3 < ((((l.getD ((x2).toNat) TRow.d).f_Coefs).length:Nat):Int) then
  ((g_e_lowest N (⟨((((l.getD ((x2).toNat) TRow.d).f_Coefs).getD ((x3).toNat) TRat.d).fN),((((l.getD ((x2).toNat) TRow.d).f_Coefs).getD ((x3).toNat) TRat.d).fD)⟩:TRat)).bind fun rlowest =>
  g_e_begin_J4 N n l rnumber t t2 t3 t4 x2 row x3 (g_e_begin_L3 N n l rnumber t t2 t3 t4 x2 K_g_e_begin_L2 fuel) K_g_e_begin_L2 rlowest)
  else none))
  (g_e_begin_J4 N n l rnumber t t2 t3 t4 x2 row x3 (g_e_begin_L3 N n l rnumber t t2 t3 t4 x2 K_g_e_begin_L2 fuel) K_g_e_begin_L2 rnumber2))))
  (((g_e_number N 1).bind fun rnumber3 =>
  (if 0≤(w64 (2 * n))∧(w64 (2 * n)) < ((row.length:Nat):Int) then
  (if (t3.length+1) * 24≤140737488355328 then
  ((g_e_lowest N (⟨(((l.getD ((x2).toNat) TRow.d).f_Bound).fN),(((l.getD ((x2).toNat) TRow.d).f_Bound).fD)⟩:TRat)).bind fun rlowest2 =>
  (if (t4.length+1) * 64≤140737488355328 then
  K_g_e_begin_L2 (t2 ++ ([(w64 ((w64 (2 * n))+x2))]:List Int)) (t3 ++ [(row.set ((w64 (2 * n)).toNat) rnumber3)]) (t4 ++ ([rlowest2]:List TRat)) (w64 (x2+1))
  else none))
  else none)
  else none))))
def g_e_begin_L5 (N:Nat) (n:Int) (l:List TRow) (rnumber:TRat) (t:List Int) (t2:List Int) (t3:List (List TRat)) (t4:List TRat):Nat→(List TRat)→Int→Option (Ttb)
 | 0,_,_=>none
 | fuel+1,t5,x4 =>
  (cond (decide (x4 < (((List.replicate ((w64 ((w64 (2 * n))+1)).toNat) TRat.d:List TRat).length:Nat):Int)))
  (((g_e_number N 0).bind fun rnumber4 =>
  (if 0≤x4∧x4 < ((t5.length:Nat):Int) then
  g_e_begin_L5 N n l rnumber t t2 t3 t4 fuel (t5.set ((x4).toNat) rnumber4) (w64 (x4+1))
  else none)))
  (some (⟨n,((l.length:Nat):Int),t2,(t ++ ([(w64 ((w64 (2 * n))+((l.length:Nat):Int)))]:List Int)),t3,t4,t5,rnumber,(w64 ((w64 (2 * n))+((l.length:Nat):Int)))⟩:Ttb)))
def g_e_begin_L2 (N:Nat) (n:Int) (l:List TRow) (rnumber:TRat) (t:List Int):Nat→(List Int)→(List (List TRat))→(List TRat)→Int→Option (Ttb)
 | 0,_,_,_,_=>none
 | fuel+1,t2,t3,t4,x2 =>
  (cond (decide (x2 < ((l.length:Nat):Int)))
  ((if 0≤x2∧x2 < ((l.length:Nat):Int) then
  (if (t2.length+1) * 8≤140737488355328 then
  (if 0≤(w64 ((w64 (2 * n))+1))∧(64:Int) * (w64 ((w64 (2 * n))+1))≤281474976710656∧(w64 ((w64 (2 * n))+1))≤9223372036854775807 then
  g_e_begin_L3 N n l rnumber t t2 t3 t4 x2 (g_e_begin_L2 N n l rnumber t fuel) N (List.replicate ((w64 ((w64 (2 * n))+1)).toNat) TRat.d:List TRat) 0
  else none)
  else none)
  else none))
  ((if 0≤(w64 ((w64 (2 * n))+1))∧(64:Int) * (w64 ((w64 (2 * n))+1))≤281474976710656∧(w64 ((w64 (2 * n))+1))≤9223372036854775807 then
  g_e_begin_L5 N n l rnumber t t2 t3 t4 N (List.replicate ((w64 ((w64 (2 * n))+1)).toNat) TRat.d:List TRat) 0
  else none)))
def g_e_begin_L1 (N:Nat) (n:Int) (l:List TRow) (rnumber:TRat):Nat→(List Int)→Int→Option (Ttb)
 | 0,_,_=>none
 | fuel+1,t,x =>
  (cond (decide (x < (w64 (2 * n))))
  ((if (t.length+1) * 8≤140737488355328 then
  g_e_begin_L1 N n l rnumber fuel (t ++ ([x]:List Int)) (w64 (x+1))
  else none))
  ((if (t.length+1) * 8≤140737488355328 then
  g_e_begin_L2 N n l rnumber t N ([]:List Int) ([]:List (List TRat)) ([]:List TRat) 0
  else none)))
def g_e_begin (N:Nat) (n:Int) (l:List TRow):Option (Ttb) :=
 ((g_e_number N 0).bind fun rnumber =>
 g_e_begin_L1 N n l rnumber N ([]:List Int) 0)
def g_e_CmpRat (N:Nat) (x:TRat) (y:TRat):Option (Int) :=
 ((g_e_SubRat N x y).bind fun rSubRat =>
 ((g_e_signOf N rSubRat).bind fun rsignOf =>
 some rsignOf))
def g_e_over (N:Nat) (x:TRat) (y:TRat):Option (TRat) :=
 ((g_e_below N y).bind fun rbelow =>
 ((g_e_Mul N x.fN rbelow).bind fun rMul =>
 ((g_e_below N x).bind fun rbelow2 =>
 ((g_e_Mul N rbelow2 y.fN).bind fun rMul2 =>
 ((g_e_fraction N rMul rMul2).bind fun rFr =>
 some rFr)))))
def g_e_tableau_put_J2 (N:Nat) (j:Int) (f:TRat) (C0:List TRat) (x:Int) (K_g_e_tableau_put_L1:(List TRat)→Int→Option ((List TRat))) (C03:List TRat):Option ((List TRat)) :=
 K_g_e_tableau_put_L1 C03 (w64 (x+1))
def g_e_tableau_put_L1 (N:Nat) (j:Int) (f:TRat) (C0:List TRat):Nat→(List TRat)→Int→Option ((List TRat))
 | 0,_,_=>none
 | fuel+1,C02,x =>
  (cond (decide (x < ((C0.length:Nat):Int)))
  ((cond (x == j)
  ((if 0≤x∧x < ((C02.length:Nat):Int) then
  ((g_e_MulRat N f (⟨((C02.getD ((x).toNat) TRat.d).fN),((C02.getD ((x).toNat) TRat.d).fD)⟩:TRat)).bind fun rMulRat =>
  g_e_tableau_put_J2 N j f C0 x (g_e_tableau_put_L1 N j f C0 fuel) (C02.set ((x).toNat) rMulRat))
  else none))
  ((if 0≤x∧x < ((C02.length:Nat):Int) then
  ((g_e_isZero N (⟨((C02.getD ((x).toNat) TRat.d).fN),((C02.getD ((x).toNat) TRat.d).fD)⟩:TRat)).bind fun risZero =>
  (cond (!risZero)
  (((g_e_MulRat N f (⟨((C02.getD ((x).toNat) TRat.d).fN),((C02.getD ((x).toNat) TRat.d).fD)⟩:TRat)).bind fun rMulRat2 =>
  ((g_e_AddRat N (⟨((C02.getD ((x).toNat) TRat.d).fN),((C02.getD ((x).toNat) TRat.d).fD)⟩:TRat) rMulRat2).bind fun rAddRat =>
  g_e_tableau_put_J2 N j f C0 x (g_e_tableau_put_L1 N j f C0 fuel) (C02.set ((x).toNat) rAddRat))))
  (g_e_tableau_put_J2 N j f C0 x (g_e_tableau_put_L1 N j f C0 fuel) C02)))
  else none))))
  (some C02))
def g_e_tableau_put (N:Nat) (j:Int) (f:TRat) (C0:List TRat):Option ((List TRat)) :=
 g_e_tableau_put_L1 N j f C0 N C0 0
def g_e_tableau_put_v2_J2 (N:Nat) (j:Int) (f:TRat) (C0:List TRat) (C1:List TRat) (x:Int) (K_g_e_tableau_put_v2_L1:(List TRat)→Int→Option ((List TRat))) (C03:List TRat):Option ((List TRat)) :=
 K_g_e_tableau_put_v2_L1 C03 (w64 (x+1))
def g_e_tableau_put_v2_L1 (N:Nat) (j:Int) (f:TRat) (C0:List TRat) (C1:List TRat):Nat→(List TRat)→Int→Option ((List TRat))
 | 0,_,_=>none
 | fuel+1,C02,x =>
  (cond (decide (x < ((C0.length:Nat):Int)))
  ((cond (x == j)
  ((if 0≤x∧x < ((C1.length:Nat):Int) then
  ((g_e_MulRat N f (⟨((C1.getD ((x).toNat) TRat.d).fN),((C1.getD ((x).toNat) TRat.d).fD)⟩:TRat)).bind fun rMulRat =>
  (if 0≤x∧x < ((C02.length:Nat):Int) then
  g_e_tableau_put_v2_J2 N j f C0 C1 x (g_e_tableau_put_v2_L1 N j f C0 C1 fuel) (C02.set ((x).toNat) rMulRat)
  else none))
  else none))
  ((if 0≤x∧x < ((C1.length:Nat):Int) then
  ((g_e_isZero N (⟨((C1.getD ((x).toNat) TRat.d).fN),((C1.getD ((x).toNat) TRat.d).fD)⟩:TRat)).bind fun risZero =>
  (cond (!risZero)
  ((if 0≤x∧x < ((C02.length:Nat):Int) then
  ((g_e_MulRat N f (⟨((C1.getD ((x).toNat) TRat.d).fN),((C1.getD ((x).toNat) TRat.d).fD)⟩:TRat)).bind fun rMulRat2 =>
  ((g_e_AddRat N (⟨((C02.getD ((x).toNat) TRat.d).fN),((C02.getD ((x).toNat) TRat.d).fD)⟩:TRat) rMulRat2).bind fun rAddRat =>
  g_e_tableau_put_v2_J2 N j f C0 C1 x (g_e_tableau_put_v2_L1 N j f C0 C1 fuel) (C02.set ((x).toNat) rAddRat)))
  else none))
  (g_e_tableau_put_v2_J2 N j f C0 C1 x (g_e_tableau_put_v2_L1 N j f C0 C1 fuel) C02)))
  else none))))
  (some C02))
def g_e_tableau_put_v2 (N:Nat) (j:Int) (f:TRat) (C0:List TRat) (C1:List TRat):Option ((List TRat)) :=
 g_e_tableau_put_v2_L1 N j f C0 C1 N C0 0
def g_e_tableau_pivot_J2 (N:Nat) (i:Int) (j:Int) (C0:Int) (C02:Int) (C03:Bool) (C04:List Int) (C05:Bool) (C06:List Int) (C07:Int) (C1:List Int) (C2:List Int) (C3:List (List TRat)) (C4:List TRat) (C5:List TRat) (x:Int) (K_g_e_tableau_pivot_L1:(List TRat)→Int→Option (Ttb×(List Int)×(List Int)×(List (List TRat))×(List TRat)×(List TRat))) (C0r2:List TRat):Option (Ttb×(List Int)×(List Int)×(List (List TRat))×(List TRat)×(List TRat)) :=
 K_g_e_tableau_pivot_L1 C0r2 (w64 (x+1))
def g_e_tableau_pivot_J4 (N:Nat) (i:Int) (j:Int) (C0:Int) (C02:Int) (C03:Bool) (C04:List Int) (C05:Bool) (C06:List Int) (C07:Int) (C1:List Int) (C2:List Int) (C3:List (List TRat)) (C5:List TRat) (x2:Int) (K_g_e_tableau_pivot_L3:(List (List TRat))→(List TRat)→(List TRat)→Int→Option (Ttb×(List Int)×(List Int)×(List (List TRat))×(List TRat)×(List TRat))) (C010:List (List TRat)) (C0r4:List TRat) (C011:List TRat):Option (Ttb×(List Int)×(List Int)×(List (List TRat))×(List TRat)×(List TRat)) :=
 K_g_e_tableau_pivot_L3 C010 C0r4 C011 (w64 (x2+1))
def g_e_tableau_pivot_J5 (N:Nat) (i:Int) (j:Int) (C0:Int) (C02:Int) (C07:Int) (C1:List Int) (C2:List Int) (C08:List (List TRat)) (C0r3:List TRat) (C09:List TRat) (C012:List TRat) (C013:Bool) (C014:List Int) (C015:Bool) (C016:List Int):Option (Ttb×(List Int)×(List Int)×(List (List TRat))×(List TRat)×(List TRat)) :=
 (if 0≤j∧j < ((C2.length:Nat):Int) then
 (if 0≤i∧i < ((C1.length:Nat):Int) then
 some ((⟨C0,C02,(C1.set ((i).toNat) (C2.getD ((j).toNat) 0)),(C2.set ((j).toNat) (C1.getD ((i).toNat) 0)),(C08.set ((i).toNat) C0r3),C09,C012,(⟨(⟨C013,C014⟩:TInt),(⟨C015,C016⟩:TInt)⟩:TRat),C07⟩:Ttb),(C1.set ((i).toNat) (C2.getD ((j).toNat) 0)),(C2.set ((j).toNat) (C1.getD ((i).toNat) 0)),(C08.set ((i).toNat) C0r3),C09,C012)
 else none)
 else none)
def g_e_tableau_pivot_L3 (N:Nat) (i:Int) (j:Int) (C0:Int) (C02:Int) (C03:Bool) (C04:List Int) (C05:Bool) (C06:List Int) (C07:Int) (C1:List Int) (C2:List Int) (C3:List (List TRat)) (C5:List TRat):Nat→(List (List TRat))→(List TRat)→(List TRat)→Int→Option (Ttb×(List Int)×(List Int)×(List (List TRat))×(List TRat)×(List TRat))
 | 0,_,_,_,_=>none
 | fuel+1,C08,C0r3,C09,x2 =>
  (cond (decide (x2 < ((C3.length:Nat):Int)))
  ((cond (decide ((x2).toNat=(i).toNat))
  ((if 0≤x2∧x2 < ((C08.length:Nat):Int) then
  (if 0≤j∧j < ((C0r3.length:Nat):Int) then
  ((cond (x2 != i) (g_e_isZero N (⟨((C0r3.getD ((j).toNat) TRat.d).fN),((C0r3.getD ((j).toNat) TRat.d).fD)⟩:TRat)) (some false)).bind fun risZero =>
  (cond (cond (x2 != i) (!risZero) false)
  ((if 0≤x2∧x2 < ((C09.length:Nat):Int) then
  (if 0≤i∧i < ((C09.length:Nat):Int) then
  ((g_e_MulRat N (⟨((C0r3.getD ((j).toNat) TRat.d).fN),((C0r3.getD ((j).toNat) TRat.d).fD)⟩:TRat) (⟨((C09.getD ((i).toNat) TRat.d).fN),((C09.getD ((i).toNat) TRat.d).fD)⟩:TRat)).bind fun rMulRat =>
  ((g_e_AddRat N (⟨((C09.getD ((x2).toNat) TRat.d).fN),((C09.getD ((x2).toNat) TRat.d).fD)⟩:TRat) rMulRat).bind fun rAddRat =>
  (cond (decide ((x2).toNat=(i).toNat))
  (((g_e_tableau_put N j (⟨((C0r3.getD ((j).toNat) TRat.d).fN),((C0r3.getD ((j).toNat) TRat.d).fD)⟩:TRat) C0r3).bind fun rput =>
  (if rput.length=C0r3.length then
  g_e_tableau_pivot_J4 N i j C0 C02 C03 C04 C05 C06 C07 C1 C2 C3 C5 x2 (g_e_tableau_pivot_L3 N i j C0 C02 C03 C04 C05 C06 C07 C1 C2 C3 C5 fuel) C08 rput (C09.set ((x2).toNat) rAddRat)
  else none)))
  ((if (x2).toNat < C08.length then
  ((g_e_tableau_put_v2 N j (⟨((C0r3.getD ((j).toNat) TRat.d).fN),((C0r3.getD ((j).toNat) TRat.d).fD)⟩:TRat) (C08.getD ((x2).toNat) []) C0r3).bind fun rput2 =>
  (if rput2.length=(C08.getD ((x2).toNat) []).length then
  g_e_tableau_pivot_J4 N i j C0 C02 C03 C04 C05 C06 C07 C1 C2 C3 C5 x2 (g_e_tableau_pivot_L3 N i j C0 C02 C03 C04 C05 C06 C07 C1 C2 C3 C5 fuel) (C08.set ((x2).toNat) rput2) C0r3 (C09.set ((x2).toNat) rAddRat)
  else none))
  else none)))))
  else none)
  else none))
  (g_e_tableau_pivot_J4 N i j C0 C02 C03 C04 C05 C06 C07 C1 C2 C3 C5 x2 (g_e_tableau_pivot_L3 N i j C0 C02 C03 C04 C05 C06 C07 C1 C2 C3 C5 fuel) C08 C0r3 C09)))
  else none)
  else none))
  ((if (x2).toNat < C08.length then
  (if 0≤x2∧x2 < ((C08.length:Nat):Int) then
  (if 0≤j∧j < (((C08.getD ((x2).toNat) []).length:Nat):Int) then
  ((cond (x2 != i) (g_e_isZero N (⟨(((C08.getD ((x2).toNat) []).getD ((j).toNat) TRat.d).fN),(((C08.getD ((x2).toNat) []).getD ((j).toNat) TRat.d).fD)⟩:TRat)) (some false)).bind fun risZero2 =>
  (cond (cond (x2 != i) (!risZero2) false)
  ((if 0≤x2∧x2 < ((C09.length:Nat):Int) then
  (if 0≤i∧i < ((C09.length:Nat):Int) then
  ((g_e_MulRat N (⟨(((C08.getD ((x2).toNat) []).getD ((j).toNat) TRat.d).fN),(((C08.getD ((x2).toNat) []).getD ((j).toNat) TRat.d).fD)⟩:TRat) (⟨((C09.getD ((i).toNat) TRat.d).fN),((C09.getD ((i).toNat) TRat.d).fD)⟩:TRat)).bind fun rMulRat2 =>
  ((g_e_AddRat N (⟨((C09.getD ((x2).toNat) TRat.d).fN),((C09.getD ((x2).toNat) TRat.d).fD)⟩:TRat) rMulRat2).bind fun rAddRat2 =>
  ((g_e_tableau_put_v2 N j (⟨(((C08.getD ((x2).toNat) []).getD ((j).toNat) TRat.d).fN),(((C08.getD ((x2).toNat) []).getD ((j).toNat) TRat.d).fD)⟩:TRat) (C08.getD ((x2).toNat) []) C0r3).bind fun rput3 =>
  (if rput3.length=(C08.getD ((x2).toNat) []).length then
  g_e_tableau_pivot_J4 N i j C0 C02 C03 C04 C05 C06 C07 C1 C2 C3 C5 x2 (g_e_tableau_pivot_L3 N i j C0 C02 C03 C04 C05 C06 C07 C1 C2 C3 C5 fuel) (C08.set ((x2).toNat) rput3) C0r3 (C09.set ((x2).toNat) rAddRat2)
  else none))))
  else none)
  else none))
  (g_e_tableau_pivot_J4 N i j C0 C02 C03 C04 C05 C06 C07 C1 C2 C3 C5 x2 (g_e_tableau_pivot_L3 N i j C0 C02 C03 C04 C05 C06 C07 C1 C2 C3 C5 fuel) C08 C0r3 C09)))
  else none)
  else none)
  else none))))
  ((if 0≤j∧j < ((C5.length:Nat):Int) then
  ((g_e_isZero N (⟨((C5.getD ((j).toNat) TRat.d).fN),((C5.getD ((j).toNat) TRat.d).fD)⟩:TRat)).bind fun risZero3 =>
  (cond (!risZero3)
  ((if 0≤i∧i < ((C09.length:Nat):Int) then
  ((g_e_MulRat N (⟨((C5.getD ((j).toNat) TRat.d).fN),((C5.getD ((j).toNat) TRat.d).fD)⟩:TRat) (⟨((C09.getD ((i).toNat) TRat.d).fN),((C09.getD ((i).toNat) TRat.d).fD)⟩:TRat)).bind fun rMulRat3 =>
  ((g_e_AddRat N (⟨(⟨C03,C04⟩:TInt),(⟨C05,C06⟩:TInt)⟩:TRat) rMulRat3).bind fun rAddRat3 =>
  ((g_e_tableau_put_v2 N j (⟨((C5.getD ((j).toNat) TRat.d).fN),((C5.getD ((j).toNat) TRat.d).fD)⟩:TRat) C5 C0r3).bind fun rput4 =>
  (if rput4.length=C5.length then
  (if (i).toNat < C08.length then
  g_e_tableau_pivot_J5 N i j C0 C02 C07 C1 C2 C08 C0r3 C09 rput4 rAddRat3.fN.fG rAddRat3.fN.fL rAddRat3.fD.fG rAddRat3.fD.fL
  else none)
  else none))))
  else none))
  ((if (i).toNat < C08.length then
  g_e_tableau_pivot_J5 N i j C0 C02 C07 C1 C2 C08 C0r3 C09 C5 C03 C04 C05 C06
  else none))))
  else none)))
def g_e_tableau_pivot_L1 (N:Nat) (i:Int) (j:Int) (C0:Int) (C02:Int) (C03:Bool) (C04:List Int) (C05:Bool) (C06:List Int) (C07:Int) (C1:List Int) (C2:List Int) (C3:List (List TRat)) (C4:List TRat) (C5:List TRat):Nat→(List TRat)→Int→Option (Ttb×(List Int)×(List Int)×(List (List TRat))×(List TRat)×(List TRat))
 | 0,_,_=>none
 | fuel+1,C0r,x =>
  (cond (decide (x < (((C3.getD ((i).toNat) []).length:Nat):Int)))
  ((cond (x != j)
  ((if 0≤x∧x < ((C0r.length:Nat):Int) then
  ((g_e_over N (⟨((C0r.getD ((x).toNat) TRat.d).fN),((C0r.getD ((x).toNat) TRat.d).fD)⟩:TRat) (⟨(((C3.getD ((i).toNat) []).getD ((j).toNat) TRat.d).fN),(((C3.getD ((i).toNat) []).getD ((j).toNat) TRat.d).fD)⟩:TRat)).bind fun rover =>
  ((g_e_negative N rover).bind fun rnegative =>
  g_e_tableau_pivot_J2 N i j C0 C02 C03 C04 C05 C06 C07 C1 C2 C3 C4 C5 x (g_e_tableau_pivot_L1 N i j C0 C02 C03 C04 C05 C06 C07 C1 C2 C3 C4 C5 fuel) (C0r.set ((x).toNat) rnegative)))
  else none))
  (g_e_tableau_pivot_J2 N i j C0 C02 C03 C04 C05 C06 C07 C1 C2 C3 C4 C5 x (g_e_tableau_pivot_L1 N i j C0 C02 C03 C04 C05 C06 C07 C1 C2 C3 C4 C5 fuel) C0r)))
  (((g_e_number N 1).bind fun rnumber =>
  ((g_e_over N rnumber (⟨(((C3.getD ((i).toNat) []).getD ((j).toNat) TRat.d).fN),(((C3.getD ((i).toNat) []).getD ((j).toNat) TRat.d).fD)⟩:TRat)).bind fun rover2 =>
  (if 0≤j∧j < ((C0r.length:Nat):Int) then
  (if 0≤i∧i < ((C4.length:Nat):Int) then
  ((g_e_over N (⟨((C4.getD ((i).toNat) TRat.d).fN),((C4.getD ((i).toNat) TRat.d).fD)⟩:TRat) (⟨(((C3.getD ((i).toNat) []).getD ((j).toNat) TRat.d).fN),(((C3.getD ((i).toNat) []).getD ((j).toNat) TRat.d).fD)⟩:TRat)).bind fun rover3 =>
  ((g_e_negative N rover3).bind fun rnegative2 =>
  g_e_tableau_pivot_L3 N i j C0 C02 C03 C04 C05 C06 C07 C1 C2 C3 C5 N C3 (C0r.set ((j).toNat) rover2) (C4.set ((i).toNat) rnegative2) 0))
  else none)
  else none)))))
def g_e_tableau_pivot (N:Nat) (i:Int) (j:Int) (C0:Int) (C02:Int) (C03:Bool) (C04:List Int) (C05:Bool) (C06:List Int) (C07:Int) (C1:List Int) (C2:List Int) (C3:List (List TRat)) (C4:List TRat) (C5:List TRat):Option (Ttb×(List Int)×(List Int)×(List (List TRat))×(List TRat)×(List TRat)) :=
 (if (i).toNat < C3.length then
 (if 0≤i∧i < ((C3.length:Nat):Int) then
 (if 0≤j∧j < (((C3.getD ((i).toNat) []).length:Nat):Int) then
 g_e_tableau_pivot_L1 N i j C0 C02 C03 C04 C05 C06 C07 C1 C2 C3 C4 C5 N (C3.getD ((i).toNat) []) 0
 else none)
 else none)
 else none)
def g_e_tableau_entering_J2 (N:Nat) (C0:Int) (C02:Int) (C03:Bool) (C04:List Int) (C05:Bool) (C06:List Int) (C07:Int) (C1:List Int) (C2:List Int) (C3:List (List TRat)) (C4:List TRat) (C5:List TRat) (x:Int) (K_g_e_tableau_entering_L1:Int→Int→Option (Int)) (best2:Int):Option (Int) :=
 K_g_e_tableau_entering_L1 best2 (w64 (x+1))
def g_e_tableau_entering_L1 (N:Nat) (C0:Int) (C02:Int) (C03:Bool) (C04:List Int) (C05:Bool) (C06:List Int) (C07:Int) (C1:List Int) (C2:List Int) (C3:List (List TRat)) (C4:List TRat) (C5:List TRat):Nat→Int→Int→Option (Int)
 | 0,_,_=>none
 | fuel+1,best,x =>
  (cond (decide (x < ((C2.length:Nat):Int)))
  ((if 0≤x∧x < ((C5.length:Nat):Int) then
  ((g_e_signOf N (⟨((C5.getD ((x).toNat) TRat.d).fN),((C5.getD ((x).toNat) TRat.d).fD)⟩:TRat)).bind fun rsignOf =>
  (if (((decide (rsignOf > 0)) && ((decide (rsignOf > 0)) && (!(decide (best < 0)))))=true→0≤x∧x < ((C2.length:Nat):Int)) then
  (if (((decide (rsignOf > 0)) && ((decide (rsignOf > 0)) && (!(decide (best < 0)))))=true→0≤best∧best < ((C2.length:Nat):Int)) then
  (cond (cond (decide (rsignOf > 0)) (cond (decide (best < 0)) true (decide ((C2.getD ((x).toNat) 0) < (C2.getD ((best).toNat) 0)))) false)
  (g_e_tableau_entering_J2 N C0 C02 C03 C04 C05 C06 C07 C1 C2 C3 C4 C5 x (g_e_tableau_entering_L1 N C0 C02 C03 C04 C05 C06 C07 C1 C2 C3 C4 C5 fuel) x)
  (g_e_tableau_entering_J2 N C0 C02 C03 C04 C05 C06 C07 C1 C2 C3 C4 C5 x (g_e_tableau_entering_L1 N C0 C02 C03 C04 C05 C06 C07 C1 C2 C3 C4 C5 fuel) best))
  else none)
  else none))
  else none))
  (some best))
def g_e_tableau_entering (N:Nat) (C0:Int) (C02:Int) (C03:Bool) (C04:List Int) (C05:Bool) (C06:List Int) (C07:Int) (C1:List Int) (C2:List Int) (C3:List (List TRat)) (C4:List TRat) (C5:List TRat):Option (Int) :=
 g_e_tableau_entering_L1 N C0 C02 C03 C04 C05 C06 C07 C1 C2 C3 C4 C5 N (-1) 0
def g_e_tableau_leaving_J2 (N:Nat) (j:Int) (C0:Int) (C02:Int) (C03:Bool) (C04:List Int) (C05:Bool) (C06:List Int) (C07:Int) (C1:List Int) (C2:List Int) (C3:List (List TRat)) (C4:List TRat) (C5:List TRat) (x:Int) (K_g_e_tableau_leaving_L1:Int→TRat→Int→Option (Int)) (best2:Int) (least2:TRat):Option (Int) :=
 K_g_e_tableau_leaving_L1 best2 least2 (w64 (x+1))
def g_e_tableau_leaving_J3 (N:Nat) (j:Int) (C0:Int) (C02:Int) (C03:Bool) (C04:List Int) (C05:Bool) (C06:List Int) (C07:Int) (C1:List Int) (C2:List Int) (C3:List (List TRat)) (C4:List TRat) (C5:List TRat) (best:Int) (least:TRat) (x:Int) (rover:TRat) (K_g_e_tableau_leaving_L1:Int→TRat→Int→Option (Int)) (c7:Int):Option (Int) :=
 (if (((!(decide (c7 < 0))) && ((!(decide (c7 < 0))) && (c7 == 0)))=true→0≤x∧x < ((C1.length:Nat):Int)) then
 (if (((!(decide (c7 < 0))) && ((!(decide (c7 < 0))) && (c7 == 0)))=true→0≤best∧best < ((C1.length:Nat):Int)) then
 (cond (cond (decide (c7 < 0)) true (cond (c7 == 0) (decide ((C1.getD ((x).toNat) 0) < (C1.getD ((best).toNat) 0))) false))
 (g_e_tableau_leaving_J2 N j C0 C02 C03 C04 C05 C06 C07 C1 C2 C3 C4 C5 x K_g_e_tableau_leaving_L1 x rover)
 (g_e_tableau_leaving_J2 N j C0 C02 C03 C04 C05 C06 C07 C1 C2 C3 C4 C5 x K_g_e_tableau_leaving_L1 best least))
 else none)
 else none)
def g_e_tableau_leaving_L1 (N:Nat) (j:Int) (C0:Int) (C02:Int) (C03:Bool) (C04:List Int) (C05:Bool) (C06:List Int) (C07:Int) (C1:List Int) (C2:List Int) (C3:List (List TRat)) (C4:List TRat) (C5:List TRat):Nat→Int→TRat→Int→Option (Int)
 | 0,_,_,_=>none
 | fuel+1,best,least,x =>
  (cond (decide (x < ((C1.length:Nat):Int)))
  ((if (x).toNat < C3.length then
  (if 0≤x∧x < ((C3.length:Nat):Int) then
  (if 0≤j∧j < (((C3.getD ((x).toNat) []).length:Nat):Int) then
  ((g_e_signOf N (⟨(((C3.getD ((x).toNat) []).getD ((j).toNat) TRat.d).fN),(((C3.getD ((x).toNat) []).getD ((j).toNat) TRat.d).fD)⟩:TRat)).bind fun rsignOf =>
  (cond (decide (rsignOf≥0))
  (g_e_tableau_leaving_J2 N j C0 C02 C03 C04 C05 C06 C07 C1 C2 C3 C4 C5 x (g_e_tableau_leaving_L1 N j C0 C02 C03 C04 C05 C06 C07 C1 C2 C3 C4 C5 fuel) best least)
  ((if 0≤x∧x < ((C4.length:Nat):Int) then
  ((g_e_negative N (⟨(((C3.getD ((x).toNat) []).getD ((j).toNat) TRat.d).fN),(((C3.getD ((x).toNat) []).getD ((j).toNat) TRat.d).fD)⟩:TRat)).bind fun rnegative =>
  ((g_e_over N (⟨((C4.getD ((x).toNat) TRat.d).fN),((C4.getD ((x).toNat) TRat.d).fD)⟩:TRat) rnegative).bind fun rover =>
  (cond (decide (best≥0))
  (((g_e_CmpRat N rover least).bind fun rCmpRat =>
  g_e_tableau_leaving_J3 N j C0 C02 C03 C04 C05 C06 C07 C1 C2 C3 C4 C5 best least x rover (g_e_tableau_leaving_L1 N j C0 C02 C03 C04 C05 C06 C07 C1 C2 C3 C4 C5 fuel) rCmpRat))
  (g_e_tableau_leaving_J3 N j C0 C02 C03 C04 C05 C06 C07 C1 C2 C3 C4 C5 best least x rover (g_e_tableau_leaving_L1 N j C0 C02 C03 C04 C05 C06 C07 C1 C2 C3 C4 C5 fuel) (-1)))))
  else none))))
  else none)
  else none)
  else none))
  (some best))
def g_e_tableau_leaving (N:Nat) (j:Int) (C0:Int) (C02:Int) (C03:Bool) (C04:List Int) (C05:Bool) (C06:List Int) (C07:Int) (C1:List Int) (C2:List Int) (C3:List (List TRat)) (C4:List TRat) (C5:List TRat):Option (Int) :=
 g_e_tableau_leaving_L1 N j C0 C02 C03 C04 C05 C06 C07 C1 C2 C3 C4 C5 N (-1) (⟨(⟨false,([]:List Int)⟩:TInt),(⟨false,([]:List Int)⟩:TInt)⟩:TRat) 0
def g_e_tableau_climb_L1 (N:Nat):Nat→Int→Int→(List Int)→(List Int)→(List (List TRat))→(List TRat)→(List TRat)→Bool→(List Int)→Bool→(List Int)→Int→Option (Int×Ttb×(List Int)×(List Int)×(List (List TRat))×(List TRat)×(List TRat))
 | 0,_,_,_,_,_,_,_,_,_,_,_,_=>none
 | fuel+1,C08,C09,C010,C011,C012,C013,C014,C015,C016,C017,C018,C019 =>
  ((g_e_tableau_entering N C08 C09 C015 C016 C017 C018 C019 C010 C011 C012 C013 C014).bind fun rentering =>
  (cond (decide (rentering < 0))
  (some ((-1),(⟨C08,C09,C010,C011,C012,C013,C014,(⟨(⟨C015,C016⟩:TInt),(⟨C017,C018⟩:TInt)⟩:TRat),C019⟩:Ttb),C010,C011,C012,C013,C014))
  (((g_e_tableau_leaving N rentering C08 C09 C015 C016 C017 C018 C019 C010 C011 C012 C013 C014).bind fun rleaving =>
  (cond (decide (rleaving < 0))
  (some (rentering,(⟨C08,C09,C010,C011,C012,C013,C014,(⟨(⟨C015,C016⟩:TInt),(⟨C017,C018⟩:TInt)⟩:TRat),C019⟩:Ttb),C010,C011,C012,C013,C014))
  (((g_e_tableau_pivot N rleaving rentering C08 C09 C015 C016 C017 C018 C019 C010 C011 C012 C013 C014).bind fun rpivot =>
  (if rpivot.2.1.length=C010.length then
  (if rpivot.2.2.1.length=C011.length then
  (if rpivot.2.2.2.1.length=C012.length then
  (if rpivot.2.2.2.2.1.length=C013.length then
  (if rpivot.2.2.2.2.2.length=C014.length then
  g_e_tableau_climb_L1 N fuel rpivot.1.f_n rpivot.1.f_m rpivot.2.1 rpivot.2.2.1 rpivot.2.2.2.1 rpivot.2.2.2.2.1 rpivot.2.2.2.2.2 rpivot.1.f_value.fN.fG rpivot.1.f_value.fN.fL rpivot.1.f_value.fD.fG rpivot.1.f_value.fD.fL rpivot.1.f_helper
  else none)
  else none)
  else none)
  else none)
  else none))))))))
def g_e_tableau_climb (N:Nat) (C0:Int) (C02:Int) (C03:Bool) (C04:List Int) (C05:Bool) (C06:List Int) (C07:Int) (C1:List Int) (C2:List Int) (C3:List (List TRat)) (C4:List TRat) (C5:List TRat):Option (Int×Ttb×(List Int)×(List Int)×(List (List TRat))×(List TRat)×(List TRat)) :=
 g_e_tableau_climb_L1 N N C0 C02 C1 C2 C3 C4 C5 C03 C04 C05 C06 C07
def g_slices_Index_int_int_L1 (N:Nat) (s:List Int) (v:Int):Nat→Int→Option (Int)
 | 0,_=>none
 | fuel+1,x =>
  (cond (decide (x < ((s.length:Nat):Int)))
  ((if 0≤x∧x < ((s.length:Nat):Int) then
  (cond (v == (s.getD ((x).toNat) 0))
  (some x)
  (g_slices_Index_int_int_L1 N s v fuel (w64 (x+1))))
  else none))
  (some (-1)))
def g_slices_Index_int_int (N:Nat) (s:List Int) (v:Int):Option (Int) :=
 g_slices_Index_int_int_L1 N s v N 0
def g_e_tableau_settle_1 (N:Nat) (x:TRat):Option (Bool) :=
 ((g_e_isZero N x).bind fun risZero =>
 some (!risZero))
def g_slices_IndexFunc_Rat_L1 (N:Nat) (s:List TRat):Nat→Int→Option (Int)
 | 0,_=>none
 | fuel+1,x =>
  (cond (decide (x < ((s.length:Nat):Int)))
  ((if 0≤x∧x < ((s.length:Nat):Int) then
  ((g_e_tableau_settle_1 N (⟨((s.getD ((x).toNat) TRat.d).fN),((s.getD ((x).toNat) TRat.d).fD)⟩:TRat)).bind fun rsettle1 =>
  (cond rsettle1
  (some x)
  (g_slices_IndexFunc_Rat_L1 N s fuel (w64 (x+1)))))
  else none))
  (some (-1)))
def g_slices_IndexFunc_Rat (N:Nat) (s:List TRat):Option (Int) :=
 g_slices_IndexFunc_Rat_L1 N s N 0
def g_slices_Delete_int_int (N:Nat) (i:Int) (j:Int) (C0:List Int):Option ((List Int)×(List Int)) :=
 (if 0≤i∧i≤j∧j≤((C0.length:Nat):Int)∧((C0.length:Nat):Int)≤((C0.length:Nat):Int) then
 (cond (i == j)
 (some (C0,C0))
 ((if 0≤(i).toNat∧(i).toNat≤C0.length then
 (if 0≤i then
 (if (j).toNat≤C0.length∧C0.length≤C0.length then
 (if 0≤j then
 (if (i).toNat≤(j).toNat∧(j).toNat≤C0.length then
 (if 0 < C0.length then
 (if (((i).toNat - 0)+(C0.length - (j).toNat))≤C0.length∧0+C0.length≤(delL C0 ((i).toNat) ((j).toNat)).length then
 (if 0 < (C0.length - (((i).toNat - 0)+(C0.length - (j).toNat)))∧(((i).toNat - 0)+(C0.length - (j).toNat))+(C0.length - (((i).toNat - 0)+(C0.length - (j).toNat)))≤(delL C0 ((i).toNat) ((j).toNat)).length then
 some (((delL C0 ((i).toNat) ((j).toNat)).take (((i).toNat - 0)+(C0.length - (j).toNat))),((delL C0 ((i).toNat) ((j).toNat)).take (((i).toNat - 0)+(C0.length - (j).toNat))))
 else none)
 else none)
 else none)
 else none)
 else none)
 else none)
 else none)
 else none)))
 else none)
def g_slices_Delete_Rat (N:Nat) (i:Int) (j:Int) (C0:List TRat):Option ((List TRat)×(List TRat)) :=
 (if 0≤i∧i≤j∧j≤((C0.length:Nat):Int)∧((C0.length:Nat):Int)≤((C0.length:Nat):Int) then
 (cond (i == j)
 (some (C0,C0))
 ((if 0≤(i).toNat∧(i).toNat≤C0.length then
 (if 0≤i then
 (if (j).toNat≤C0.length∧C0.length≤C0.length then
 (if 0≤j then
 (if (i).toNat≤(j).toNat∧(j).toNat≤C0.length then
 (if 0 < C0.length then
 (if (((i).toNat - 0)+(C0.length - (j).toNat))≤C0.length∧0+C0.length≤(delL C0 ((i).toNat) ((j).toNat)).length then
 (if 0 < (C0.length - (((i).toNat - 0)+(C0.length - (j).toNat)))∧(((i).toNat - 0)+(C0.length - (j).toNat))+(C0.length - (((i).toNat - 0)+(C0.length - (j).toNat)))≤(delL C0 ((i).toNat) ((j).toNat)).length then
 some (((delL C0 ((i).toNat) ((j).toNat)).take (((i).toNat - 0)+(C0.length - (j).toNat))),((delL C0 ((i).toNat) ((j).toNat)).take (((i).toNat - 0)+(C0.length - (j).toNat))))
 else none)
 else none)
 else none)
 else none)
 else none)
 else none)
 else none)
 else none)))
 else none)
def g_e_tableau_settle_J2 (N:Nat) (C0:Int) (C02:Int) (C03:Bool) (C04:List Int) (C05:Bool) (C06:List Int) (C07:Int) (C1:List Int) (C2:List Int) (C3:List (List TRat)) (C4:List TRat) (C5:List TRat) (x:Int) (K_g_e_tableau_settle_L1:Int→Int→Option (Bool×Ttb×(List Int)×(List Int)×(List (List TRat))×(List TRat))) (low2:Int):Option (Bool×Ttb×(List Int)×(List Int)×(List (List TRat))×(List TRat)) :=
 K_g_e_tableau_settle_L1 low2 (w64 (x+1))
def g_e_tableau_settle_L6 (N:Nat) (C020:Int) (C021:Int) (C022:List Int) (C025:List TRat) (C026:List TRat) (C027:Bool) (C028:List Int) (C029:Bool) (C030:List Int) (C031:Int) (rDelete:(List Int)×(List Int)) (C032:List (List TRat)):Nat→(List TRat)→Int→Option (Bool×Ttb×(List Int)×(List Int)×(List (List TRat))×(List TRat))
 | 0,_,_=>none
 | fuel+1,C033,x3 =>
  (cond (decide (x3 < (((List.replicate rDelete.2.length TRat.d:List TRat).length:Nat):Int)))
  (((g_e_number N 0).bind fun rnumber2 =>
  (if 0≤x3∧x3 < ((C033.length:Nat):Int) then
  g_e_tableau_settle_L6 N C020 C021 C022 C025 C026 C027 C028 C029 C030 C031 rDelete C032 fuel (C033.set ((x3).toNat) rnumber2) (w64 (x3+1))
  else none)))
  (((g_e_number N 0).bind fun rnumber3 =>
  some (true,(⟨C020,C021,C022,rDelete.2,C032,C025,C033,rnumber3,C031⟩:Ttb),C022,rDelete.2,C032,C025))))
def g_e_tableau_settle_L5 (N:Nat) (C020:Int) (C021:Int) (C022:List Int) (C024:List (List TRat)) (C025:List TRat) (C026:List TRat) (C027:Bool) (C028:List Int) (C029:Bool) (C030:List Int) (C031:Int) (rIndex2:Int) (rDelete:(List Int)×(List Int)):Nat→(List (List TRat))→Int→Option (Bool×Ttb×(List Int)×(List Int)×(List (List TRat))×(List TRat))
 | 0,_,_=>none
 | fuel+1,C032,x2 =>
  (cond (decide (x2 < ((C024.length:Nat):Int)))
  ((if (x2).toNat < C032.length then
  (if 0≤x2∧x2 < ((C032.length:Nat):Int) then
  ((g_slices_Delete_Rat N rIndex2 (w64 (rIndex2+1)) (C032.getD ((x2).toNat) [])).bind fun rRat2 =>
  g_e_tableau_settle_L5 N C020 C021 C022 C024 C025 C026 C027 C028 C029 C030 C031 rIndex2 rDelete fuel (C032.set ((x2).toNat) rRat2.2) (w64 (x2+1)))
  else none)
  else none))
  ((if 0≤((rDelete.2.length:Nat):Int)∧(64:Int) * ((rDelete.2.length:Nat):Int)≤281474976710656∧((rDelete.2.length:Nat):Int)≤9223372036854775807 then
  g_e_tableau_settle_L6 N C020 C021 C022 C025 C026 C027 C028 C029 C030 C031 rDelete C032 N (List.replicate rDelete.2.length TRat.d:List TRat) 0
  else none)))
def g_e_tableau_settle_J4 (N:Nat) (C020:Int) (C021:Int) (C022:List Int) (C023:List Int) (C024:List (List TRat)) (C025:List TRat) (C026:List TRat) (C027:Bool) (C028:List Int) (C029:Bool) (C030:List Int) (C031:Int):Option (Bool×Ttb×(List Int)×(List Int)×(List (List TRat))×(List TRat)) :=
 ((g_slices_Index_int_int N C023 C031).bind fun rIndex2 =>
 ((g_slices_Delete_int_int N rIndex2 (w64 (rIndex2+1)) C023).bind fun rDelete =>
 g_e_tableau_settle_L5 N C020 C021 C022 C024 C025 C026 C027 C028 C029 C030 C031 rIndex2 rDelete N C024 0))
def g_e_tableau_settle_J3 (N:Nat) (C08:Int) (C09:Int) (C010:List Int) (C011:List Int) (C012:List (List TRat)) (C013:List TRat) (C014:List TRat) (C015:Bool) (C016:List Int) (C017:Bool) (C018:List Int) (C019:Int):Option (Bool×Ttb×(List Int)×(List Int)×(List (List TRat))×(List TRat)) :=
 ((g_slices_Index_int_int N C010 C019).bind fun rIndex =>
 (cond (decide (rIndex≥0))
 ((if (rIndex).toNat < C012.length then
 (if 0≤rIndex∧rIndex < ((C012.length:Nat):Int) then
 ((g_slices_IndexFunc_Rat N (C012.getD ((rIndex).toNat) [])).bind fun rRat =>
 ((g_e_tableau_pivot N rIndex rRat C08 C09 C015 C016 C017 C018 C019 C010 C011 C012 C013 C014).bind fun rpivot2 =>
 (if rpivot2.2.1.length=C010.length then
 (if rpivot2.2.2.1.length=C011.length then
 (if rpivot2.2.2.2.1.length=C012.length then
 (if rpivot2.2.2.2.2.1.length=C013.length then
 (if rpivot2.2.2.2.2.2.length=C014.length then
 g_e_tableau_settle_J4 N rpivot2.1.f_n rpivot2.1.f_m rpivot2.2.1 rpivot2.2.2.1 rpivot2.2.2.2.1 rpivot2.2.2.2.2.1 rpivot2.2.2.2.2.2 rpivot2.1.f_value.fN.fG rpivot2.1.f_value.fN.fL rpivot2.1.f_value.fD.fG rpivot2.1.f_value.fD.fL rpivot2.1.f_helper
 else none)
 else none)
 else none)
 else none)
 else none)))
 else none)
 else none))
 (g_e_tableau_settle_J4 N C08 C09 C010 C011 C012 C013 C014 C015 C016 C017 C018 C019)))
def g_e_tableau_settle_L1 (N:Nat) (C0:Int) (C02:Int) (C03:Bool) (C04:List Int) (C05:Bool) (C06:List Int) (C07:Int) (C1:List Int) (C2:List Int) (C3:List (List TRat)) (C4:List TRat) (C5:List TRat):Nat→Int→Int→Option (Bool×Ttb×(List Int)×(List Int)×(List (List TRat))×(List TRat))
 | 0,_,_=>none
 | fuel+1,low,x =>
  (cond (decide (x < ((C4.length:Nat):Int)))
  ((if 0≤x∧x < ((C4.length:Nat):Int) then
  ((g_e_signOf N (⟨((C4.getD ((x).toNat) TRat.d).fN),((C4.getD ((x).toNat) TRat.d).fD)⟩:TRat)).bind fun rsignOf =>
  (if (((decide (rsignOf < 0)) && ((decide (rsignOf < 0)) && (!(decide (low < 0)))))=true→0≤x∧x < ((C4.length:Nat):Int)) then
  (if (((decide (rsignOf < 0)) && ((decide (rsignOf < 0)) && (!(decide (low < 0)))))=true→0≤low∧low < ((C4.length:Nat):Int)) then
  ((cond ((decide (rsignOf < 0)) && ((decide (rsignOf < 0)) && (!(decide (low < 0))))) (g_e_CmpRat N (⟨((C4.getD ((x).toNat) TRat.d).fN),((C4.getD ((x).toNat) TRat.d).fD)⟩:TRat) (⟨((C4.getD ((low).toNat) TRat.d).fN),((C4.getD ((low).toNat) TRat.d).fD)⟩:TRat)) (some 0)).bind fun rCmpRat =>
  (cond (cond (decide (rsignOf < 0)) (cond (decide (low < 0)) true (decide (rCmpRat < 0))) false)
  (g_e_tableau_settle_J2 N C0 C02 C03 C04 C05 C06 C07 C1 C2 C3 C4 C5 x (g_e_tableau_settle_L1 N C0 C02 C03 C04 C05 C06 C07 C1 C2 C3 C4 C5 fuel) x)
  (g_e_tableau_settle_J2 N C0 C02 C03 C04 C05 C06 C07 C1 C2 C3 C4 C5 x (g_e_tableau_settle_L1 N C0 C02 C03 C04 C05 C06 C07 C1 C2 C3 C4 C5 fuel) low)))
  else none)
  else none))
  else none))
  ((cond (decide (low≥0))
  (((g_e_number N (-1)).bind fun rnumber =>
  (if 0≤(w64 (((C2.length:Nat):Int) - 1))∧(w64 (((C2.length:Nat):Int) - 1)) < ((C5.length:Nat):Int) then
  ((g_e_tableau_pivot N low (w64 (((C2.length:Nat):Int) - 1)) C0 C02 C03 C04 C05 C06 C07 C1 C2 C3 C4 (C5.set ((w64 (((C2.length:Nat):Int) - 1)).toNat) rnumber)).bind fun rpivot =>
  (if rpivot.2.1.length=C1.length then
  (if rpivot.2.2.1.length=C2.length then
  (if rpivot.2.2.2.1.length=C3.length then
  (if rpivot.2.2.2.2.1.length=C4.length then
  (if rpivot.2.2.2.2.2.length=(C5.set ((w64 (((C2.length:Nat):Int) - 1)).toNat) rnumber).length then
  ((g_e_tableau_climb N rpivot.1.f_n rpivot.1.f_m rpivot.1.f_value.fN.fG rpivot.1.f_value.fN.fL rpivot.1.f_value.fD.fG rpivot.1.f_value.fD.fL rpivot.1.f_helper rpivot.2.1 rpivot.2.2.1 rpivot.2.2.2.1 rpivot.2.2.2.2.1 rpivot.2.2.2.2.2).bind fun rclimb =>
  (if rclimb.2.2.1.length=rpivot.2.1.length then
  (if rclimb.2.2.2.1.length=rpivot.2.2.1.length then
  (if rclimb.2.2.2.2.1.length=rpivot.2.2.2.1.length then
  (if rclimb.2.2.2.2.2.1.length=rpivot.2.2.2.2.1.length then
  (if rclimb.2.2.2.2.2.2.length=rpivot.2.2.2.2.2.length then
  ((g_e_isZero N rclimb.2.1.f_value).bind fun risZero =>
  (cond (!risZero)
  (some (false,(⟨rclimb.2.1.f_n,rclimb.2.1.f_m,rclimb.2.2.1,rclimb.2.2.2.1,rclimb.2.2.2.2.1,rclimb.2.2.2.2.2.1,rclimb.2.2.2.2.2.2,rclimb.2.1.f_value,rclimb.2.1.f_helper⟩:Ttb),rclimb.2.2.1,rclimb.2.2.2.1,rclimb.2.2.2.2.1,rclimb.2.2.2.2.2.1))
  (g_e_tableau_settle_J3 N rclimb.2.1.f_n rclimb.2.1.f_m rclimb.2.2.1 rclimb.2.2.2.1 rclimb.2.2.2.2.1 rclimb.2.2.2.2.2.1 rclimb.2.2.2.2.2.2 rclimb.2.1.f_value.fN.fG rclimb.2.1.f_value.fN.fL rclimb.2.1.f_value.fD.fG rclimb.2.1.f_value.fD.fL rclimb.2.1.f_helper)))
  else none)
  else none)
  else none)
  else none)
  else none))
  else none)
  else none)
  else none)
  else none)
  else none))
  else none)))
  (g_e_tableau_settle_J3 N C0 C02 C1 C2 C3 C4 C5 C03 C04 C05 C06 C07))))
def g_e_tableau_settle (N:Nat) (C0:Int) (C02:Int) (C03:Bool) (C04:List Int) (C05:Bool) (C06:List Int) (C07:Int) (C1:List Int) (C2:List Int) (C3:List (List TRat)) (C4:List TRat) (C5:List TRat):Option (Bool×Ttb×(List Int)×(List Int)×(List (List TRat))×(List TRat)) :=
 g_e_tableau_settle_L1 N C0 C02 C03 C04 C05 C06 C07 C1 C2 C3 C4 C5 N (-1) 0
def g_e_contradictory (N:Nat) (n:Int) (l:List TRow):Option (Bool) :=
 ((g_e_begin N n l).bind fun rbegin =>
 ((g_e_tableau_settle N rbegin.f_n rbegin.f_m rbegin.f_value.fN.fG rbegin.f_value.fN.fL rbegin.f_value.fD.fG rbegin.f_value.fD.fL rbegin.f_helper rbegin.f_basic rbegin.f_free rbegin.f_a rbegin.f_b rbegin.f_goal).bind fun rsettle =>
 (if rsettle.2.2.1.length=rbegin.f_basic.length then
 (if rsettle.2.2.2.2.1.length=rbegin.f_a.length then
 (if rsettle.2.2.2.2.2.length=rbegin.f_b.length then
 some (!rsettle.1)
 else none)
 else none)
 else none)))
def g_slices_Clone_int_int (N:Nat) (s:List Int):Option ((List Int)) :=
 (if (0+s.length) * 8≤140737488355328 then
 some (([]:List Int) ++ s)
 else none)
def g_e_Core_1 (N:Nat) (k:Int) (C0:Int):Option (Bool) :=
 some (k == C0)
def g_slices_IndexFunc_int_int_L1 (N:Nat) (s:List Int) (C0:Int):Nat→Int→Option (Int)
 | 0,_=>none
 | fuel+1,x =>
  (cond (decide (x < ((s.length:Nat):Int)))
  ((if 0≤x∧x < ((s.length:Nat):Int) then
  ((g_e_Core_1 N (s.getD ((x).toNat) 0) C0).bind fun rCore1 =>
  (cond rCore1
  (some x)
  (g_slices_IndexFunc_int_int_L1 N s C0 fuel (w64 (x+1)))))
  else none))
  (some (-1)))
def g_slices_IndexFunc_int_int (N:Nat) (s:List Int) (C0:Int):Option (Int) :=
 g_slices_IndexFunc_int_int_L1 N s C0 N 0
def g_slices_DeleteFunc_int_int_J2 (N:Nat) (C1:Int) (j:Int) (K_g_slices_DeleteFunc_int_int_L1:(List Int)→Int→Int→Option ((List Int)×(List Int))) (C03:List Int) (i2:Int):Option ((List Int)×(List Int)) :=
 K_g_slices_DeleteFunc_int_int_L1 C03 i2 (w64 (j+1))
def g_slices_DeleteFunc_int_int_L1 (N:Nat) (C1:Int):Nat→(List Int)→Int→Int→Option ((List Int)×(List Int))
 | 0,_,_,_=>none
 | fuel+1,C02,i,j =>
  (cond (decide (j < ((C02.length:Nat):Int)))
  ((if 0≤j∧j < ((C02.length:Nat):Int) then
  ((g_e_Core_1 N (C02.getD ((j).toNat) 0) C1).bind fun rCore1 =>
  (cond (!rCore1)
  ((if 0≤i∧i < ((C02.length:Nat):Int) then
  g_slices_DeleteFunc_int_int_J2 N C1 j (g_slices_DeleteFunc_int_int_L1 N C1 fuel) (C02.set ((i).toNat) (C02.getD ((j).toNat) 0)) (w64 (i+1))
  else none))
  (g_slices_DeleteFunc_int_int_J2 N C1 j (g_slices_DeleteFunc_int_int_L1 N C1 fuel) C02 i)))
  else none))
  ((if (i).toNat≤C02.length∧C02.length≤C02.length then
  (if 0≤i then
  (if 0 < (C02.length - (i).toNat)∧(i).toNat+(C02.length - (i).toNat)≤C02.length then
  (if 0≤(i).toNat∧(i).toNat≤C02.length then
  some ((C02.take ((i).toNat)),(C02.take ((i).toNat)))
  else none)
  else none)
  else none)
  else none)))
def g_slices_DeleteFunc_int_int (N:Nat) (C0:List Int) (C1:Int):Option ((List Int)×(List Int)) :=
 ((g_slices_IndexFunc_int_int N C0 C1).bind fun rIndexFunc =>
 (cond (rIndexFunc == (-1))
 (some (C0,C0))
 (g_slices_DeleteFunc_int_int_L1 N C1 N C0 rIndexFunc (w64 (rIndexFunc+1)))))
def g_e_Core_J4 (N:Nat) (n:Int) (l:List TRow) (x2:Int) (K_g_e_Core_L2:(List Int)→Int→Option ((List Int)×Int)) (kept3:List Int):Option ((List Int)×Int) :=
 K_g_e_Core_L2 kept3 (w64 (x2+1))
def g_e_Core_L3 (N:Nat) (n:Int) (l:List TRow) (kept2:List Int) (x2:Int) (rDeleteFunc:(List Int)×(List Int)) (K_g_e_Core_L2:(List Int)→Int→Option ((List Int)×Int)):Nat→(List TRow)→Int→Option ((List Int)×Int)
 | 0,_,_=>none
 | fuel+1,vsome,x3 =>
  (cond (decide (x3 < ((rDeleteFunc.2.length:Nat):Int)))
  ((if 0≤x3∧x3 < ((rDeleteFunc.2.length:Nat):Int) then
  (if 0≤(rDeleteFunc.2.getD ((x3).toNat) 0)∧(rDeleteFunc.2.getD ((x3).toNat) 0) < ((l.length:Nat):Int) then
  (if (vsome.length+1) * 88≤140737488355328 then
  g_e_Core_L3 N n l kept2 x2 rDeleteFunc K_g_e_Core_L2 fuel (vsome ++ ([(l.getD ((rDeleteFunc.2.getD ((x3).toNat) 0).toNat) TRow.d)]:List TRow)) (w64 (x3+1))
  else none)
  else none)
  else none))
  (((g_e_contradictory N n vsome).bind fun rcontradictor2 =>
  (cond rcontradictor2
  (g_e_Core_J4 N n l x2 K_g_e_Core_L2 rDeleteFunc.2)
  (g_e_Core_J4 N n l x2 K_g_e_Core_L2 kept2)))))
def g_e_Core_L2 (N:Nat) (n:Int) (l:List TRow):Nat→(List Int)→Int→Option ((List Int)×Int)
 | 0,_,_=>none
 | fuel+1,kept2,x2 =>
  (cond (decide (x2 < ((l.length:Nat):Int)))
  (((g_slices_Clone_int_int N kept2).bind fun rClone =>
  ((g_slices_DeleteFunc_int_int N rClone x2).bind fun rDeleteFunc =>
  g_e_Core_L3 N n l kept2 x2 rDeleteFunc (g_e_Core_L2 N n l fuel) N ([]:List TRow) 0)))
  (some (kept2,0)))
def g_e_Core_L1 (N:Nat) (n:Int) (l:List TRow):Nat→(List Int)→Int→Option ((List Int)×Int)
 | 0,_,_=>none
 | fuel+1,kept,x =>
  (cond (decide (x < ((l.length:Nat):Int)))
  ((if (kept.length+1) * 8≤140737488355328 then
  g_e_Core_L1 N n l fuel (kept ++ ([x]:List Int)) (w64 (x+1))
  else none))
  (g_e_Core_L2 N n l N kept 0))
def g_e_Core (N:Nat) (n:Int) (l:List TRow):Option ((List Int)×Int) :=
 ((g_e_CheckRows N n l).bind fun rCheckRows =>
 (cond (rCheckRows != 0)
 (some (([]:List Int),rCheckRows))
 (((g_e_contradictory N n l).bind fun rcontradictor =>
 (cond (!rcontradictor)
 (some (([]:List Int),29))
 (g_e_Core_L1 N n l N ([]:List Int) 0))))))
def g_e_tableau_multipliers_J2 (N:Nat) (C0:Int) (C02:Int) (C03:Bool) (C04:List Int) (C05:Bool) (C06:List Int) (C07:Int) (C1:List Int) (C2:List Int) (C3:List (List TRat)) (C4:List TRat) (C5:List TRat) (x:Int) (K_g_e_tableau_multipliers_L1:(List TRat)→Int→Option ((List TRat))) (out2:List TRat):Option ((List TRat)) :=
 K_g_e_tableau_multipliers_L1 out2 (w64 (x+1))
def g_e_tableau_multipliers_L1 (N:Nat) (C0:Int) (C02:Int) (C03:Bool) (C04:List Int) (C05:Bool) (C06:List Int) (C07:Int) (C1:List Int) (C2:List Int) (C3:List (List TRat)) (C4:List TRat) (C5:List TRat):Nat→(List TRat)→Int→Option ((List TRat))
 | 0,_,_=>none
 | fuel+1,out,x =>
  (cond (decide (x < (((List.replicate ((C02).toNat) TRat.d:List TRat).length:Nat):Int)))
  (((g_e_number N 0).bind fun rnumber =>
  (if 0≤x∧x < ((out.length:Nat):Int) then
  ((g_slices_Index_int_int N C2 (w64 ((w64 (2 * C0))+x))).bind fun rIndex =>
  (cond (decide (rIndex≥0))
  ((if 0≤rIndex∧rIndex < ((C5.length:Nat):Int) then
  ((g_e_negative N (⟨((C5.getD ((rIndex).toNat) TRat.d).fN),((C5.getD ((rIndex).toNat) TRat.d).fD)⟩:TRat)).bind fun rnegative =>
  (if 0≤x∧x < (((out.set ((x).toNat) rnumber).length:Nat):Int) then
  g_e_tableau_multipliers_J2 N C0 C02 C03 C04 C05 C06 C07 C1 C2 C3 C4 C5 x (g_e_tableau_multipliers_L1 N C0 C02 C03 C04 C05 C06 C07 C1 C2 C3 C4 C5 fuel) ((out.set ((x).toNat) rnumber).set ((x).toNat) rnegative)
  else none))
  else none))
  (g_e_tableau_multipliers_J2 N C0 C02 C03 C04 C05 C06 C07 C1 C2 C3 C4 C5 x (g_e_tableau_multipliers_L1 N C0 C02 C03 C04 C05 C06 C07 C1 C2 C3 C4 C5 fuel) (out.set ((x).toNat) rnumber))))
  else none)))
  (some out))
def g_e_tableau_multipliers (N:Nat) (C0:Int) (C02:Int) (C03:Bool) (C04:List Int) (C05:Bool) (C06:List Int) (C07:Int) (C1:List Int) (C2:List Int) (C3:List (List TRat)) (C4:List TRat) (C5:List TRat):Option ((List TRat)) :=
 (if 0≤C02∧(64:Int) * C02≤281474976710656∧C02≤9223372036854775807 then
 g_e_tableau_multipliers_L1 N C0 C02 C03 C04 C05 C06 C07 C1 C2 C3 C4 C5 N (List.replicate ((C02).toNat) TRat.d:List TRat) 0
 else none)
def g_e_tableau_at (N:Nat) (vvariable:Int) (C0:Int) (C02:Int) (C03:Bool) (C04:List Int) (C05:Bool) (C06:List Int) (C07:Int) (C1:List Int) (C2:List Int) (C3:List (List TRat)) (C4:List TRat) (C5:List TRat):Option (TRat) :=
 ((g_slices_Index_int_int N C1 vvariable).bind fun rIndex =>
 (cond (decide (rIndex≥0))
 ((if 0≤rIndex∧rIndex < ((C4.length:Nat):Int) then
 some (⟨((C4.getD ((rIndex).toNat) TRat.d).fN),((C4.getD ((rIndex).toNat) TRat.d).fD)⟩:TRat)
 else none))
 (((g_e_number N 0).bind fun rnumber =>
 some rnumber))))
def g_e_tableau_point_L1 (N:Nat) (C0:Int) (C02:Int) (C03:Bool) (C04:List Int) (C05:Bool) (C06:List Int) (C07:Int) (C1:List Int) (C2:List Int) (C3:List (List TRat)) (C4:List TRat) (C5:List TRat):Nat→(List TRat)→Int→Option ((List TRat))
 | 0,_,_=>none
 | fuel+1,out,x =>
  (cond (decide (x < (((List.replicate ((C0).toNat) TRat.d:List TRat).length:Nat):Int)))
  (((g_e_tableau_at N x C0 C02 C03 C04 C05 C06 C07 C1 C2 C3 C4 C5).bind fun rat =>
  ((g_e_tableau_at N (w64 (C0+x)) C0 C02 C03 C04 C05 C06 C07 C1 C2 C3 C4 C5).bind fun rat2 =>
  ((g_e_SubRat N rat rat2).bind fun rSubRat =>
  (if 0≤x∧x < ((out.length:Nat):Int) then
  g_e_tableau_point_L1 N C0 C02 C03 C04 C05 C06 C07 C1 C2 C3 C4 C5 fuel (out.set ((x).toNat) rSubRat) (w64 (x+1))
  else none)))))
  (some out))
def g_e_tableau_point (N:Nat) (C0:Int) (C02:Int) (C03:Bool) (C04:List Int) (C05:Bool) (C06:List Int) (C07:Int) (C1:List Int) (C2:List Int) (C3:List (List TRat)) (C4:List TRat) (C5:List TRat):Option ((List TRat)) :=
 (if 0≤C0∧(64:Int) * C0≤281474976710656∧C0≤9223372036854775807 then
 g_e_tableau_point_L1 N C0 C02 C03 C04 C05 C06 C07 C1 C2 C3 C4 C5 N (List.replicate ((C0).toNat) TRat.d:List TRat) 0
 else none)
def g_e_Feasible (N:Nat) (n:Int) (l:List TRow):Option ((List TRat)×(List TRat)×Int) :=
 ((g_e_CheckRows N n l).bind fun rCheckRows =>
 (cond (rCheckRows != 0)
 (some (([]:List TRat),([]:List TRat),rCheckRows))
 (((g_e_begin N n l).bind fun rbegin =>
 ((g_e_tableau_settle N rbegin.f_n rbegin.f_m rbegin.f_value.fN.fG rbegin.f_value.fN.fL rbegin.f_value.fD.fG rbegin.f_value.fD.fL rbegin.f_helper rbegin.f_basic rbegin.f_free rbegin.f_a rbegin.f_b rbegin.f_goal).bind fun rsettle =>
 (if rsettle.2.2.1.length=rbegin.f_basic.length then
 (if rsettle.2.2.2.2.1.length=rbegin.f_a.length then
 (if rsettle.2.2.2.2.2.length=rbegin.f_b.length then
 (cond (!rsettle.1)
 (((g_e_tableau_multipliers N rsettle.2.1.f_n rsettle.2.1.f_m rsettle.2.1.f_value.fN.fG rsettle.2.1.f_value.fN.fL rsettle.2.1.f_value.fD.fG rsettle.2.1.f_value.fD.fL rsettle.2.1.f_helper rsettle.2.2.1 rsettle.2.2.2.1 rsettle.2.2.2.2.1 rsettle.2.2.2.2.2 rsettle.2.1.f_goal).bind fun rmultipliers =>
 some (([]:List TRat),rmultipliers,29)))
 (((g_e_tableau_point N rsettle.2.1.f_n rsettle.2.1.f_m rsettle.2.1.f_value.fN.fG rsettle.2.1.f_value.fN.fL rsettle.2.1.f_value.fD.fG rsettle.2.1.f_value.fD.fL rsettle.2.1.f_helper rsettle.2.2.1 rsettle.2.2.2.1 rsettle.2.2.2.2.1 rsettle.2.2.2.2.2 rsettle.2.1.f_goal).bind fun rpoint =>
 some (rpoint,([]:List TRat),0))))
 else none)
 else none)
 else none))))))
def g_r01_made_L1 (N:Nat) (neg:Bool) (a:List Int):Nat→(List Int)→Int→Option (TInt)
 | 0,_,_=>none
 | fuel+1,x,i =>
  (cond (decide (i < ((a.length:Nat):Int)))
  ((if 0≤i∧i < ((a.length:Nat):Int) then
  (if (x.length+1) * 2≤140737488355328 then
  g_r01_made_L1 N neg a fuel (x ++ ([(IntKind.u16.wrap ((a.getD ((i).toNat) 0)))]:List Int)) (w64 (i+1))
  else none)
  else none))
  (some (⟨(cond neg (decide (((a.length:Nat):Int) > 0)) false),x⟩:TInt)))
def g_r01_made (N:Nat) (neg:Bool) (a:List Int):Option (TInt) :=
 g_r01_made_L1 N neg a N ([]:List Int) 0
def g_r01_Of_L1 (N:Nat) (n:Int):Nat→(List Int)→Int→Option (TInt)
 | 0,_,_=>none
 | fuel+1,a,u =>
  (cond (decide (u > 0))
  ((if (a.length+1) * 8≤140737488355328 then
  g_r01_Of_L1 N n fuel (a ++ ([(w64 ((u.tmod 65536)))]:List Int)) (IntKind.u64.wrap (u.tdiv 65536))
  else none))
  (((g_r01_made N (decide (n < 0)) a).bind fun rmade =>
  some rmade)))
def g_r01_Of (N:Nat) (n:Int):Option (TInt) :=
 (cond (decide (n < 0))
 (g_r01_Of_L1 N n N ([]:List Int) (IntKind.u64.wrap (0 - (IntKind.u64.wrap (n)))))
 (g_r01_Of_L1 N n N ([]:List Int) (IntKind.u64.wrap (n))))
def g_r01_Q (N:Nat) (n:Int):Option (TRat) :=
 ((g_r01_Of N n).bind fun rOf =>
 ((g_r01_Of N 1).bind fun rOf2 =>
 some (⟨rOf,rOf2⟩:TRat)))
def g_r01_trim_L1 (N:Nat) (a:List Int):Nat→Int→Option ((List Int))
 | 0,_=>none
 | fuel+1,n =>
  (if ((decide (n > 0))=true→0≤(w64 (n - 1))∧(w64 (n - 1)) < ((a.length:Nat):Int)) then
  (cond (cond (decide (n > 0)) ((a.getD ((w64 (n - 1)).toNat) 0) == 0) false)
  (g_r01_trim_L1 N a fuel (w64 (n - 1)))
  ((if 0≤(n).toNat∧(n).toNat≤a.length then
  (if 0≤n then
  (if (0+((n).toNat - 0)) * 8≤140737488355328 then
  some (([]:List Int) ++ ((a.take ((n).toNat)).drop 0))
  else none)
  else none)
  else none)))
  else none)
def g_r01_trim (N:Nat) (a:List Int):Option ((List Int)) :=
 g_r01_trim_L1 N a N ((a.length:Nat):Int)
def g_r01_read_L1 (N:Nat) (l:List Int):Nat→(List Int)→Int→Option ((List Int))
 | 0,_,_=>none
 | fuel+1,a,i =>
  (cond (decide (i < ((l.length:Nat):Int)))
  ((if 0≤i∧i < ((l.length:Nat):Int) then
  (if (a.length+1) * 8≤140737488355328 then
  g_r01_read_L1 N l fuel (a ++ ([(w64 ((l.getD ((i).toNat) 0)))]:List Int)) (w64 (i+1))
  else none)
  else none))
  (((g_r01_trim N a).bind fun rtrim =>
  some rtrim)))
def g_r01_read (N:Nat) (l:List Int):Option ((List Int)) :=
 g_r01_read_L1 N l N ([]:List Int) 0
def g_r01_digit (N:Nat) (a:List Int) (i:Int):Option (Int) :=
 (cond (decide (i < ((a.length:Nat):Int)))
 ((if 0≤i∧i < ((a.length:Nat):Int) then
 some (a.getD ((i).toNat) 0)
 else none))
 (some 0))
def g_r01_times_L2 (N:Nat) (a:List Int) (b:List Int) (i:Int) (K_g_r01_times_L1:(List Int)→Int→Option ((List Int))):Nat→(List Int)→Int→Int→Option ((List Int))
 | 0,_,_,_=>none
 | fuel+1,out2,carry,k =>
  (cond (cond (decide (k < ((b.length:Nat):Int))) true (decide (carry > 0)))
  ((if 0≤(w64 (i+k))∧(w64 (i+k)) < ((out2.length:Nat):Int) then
  (if 0≤i∧i < ((a.length:Nat):Int) then
  ((g_r01_digit N b k).bind fun rdigit =>
  g_r01_times_L2 N a b i K_g_r01_times_L1 fuel (out2.set ((w64 (i+k)).toNat) ((w64 ((w64 ((out2.getD ((w64 (i+k)).toNat) 0)+(w64 ((a.getD ((i).toNat) 0) * rdigit))))+carry)).tmod 65536)) (w64 ((w64 ((w64 ((out2.getD ((w64 (i+k)).toNat) 0)+(w64 ((a.getD ((i).toNat) 0) * rdigit))))+carry)).tdiv 65536)) (w64 (k+1)))
  else none)
  else none))
  (K_g_r01_times_L1 out2 (w64 (i+1))))
def g_r01_times_L1 (N:Nat) (a:List Int) (b:List Int):Nat→(List Int)→Int→Option ((List Int))
 | 0,_,_=>none
 | fuel+1,out,i =>
  (cond (decide (i < ((a.length:Nat):Int)))
  (g_r01_times_L2 N a b i (g_r01_times_L1 N a b fuel) N out 0 0)
  (((g_r01_trim N out).bind fun rtrim =>
  some rtrim)))
def g_r01_times (N:Nat) (a:List Int) (b:List Int):Option ((List Int)) :=
 (if 0≤(w64 ((w64 (((a.length:Nat):Int)+((b.length:Nat):Int)))+1))∧(8:Int) * (w64 ((w64 (((a.length:Nat):Int)+((b.length:Nat):Int)))+1))≤281474976710656∧(w64 ((w64 (((a.length:Nat):Int)+((b.length:Nat):Int)))+1))≤9223372036854775807 then
 g_r01_times_L1 N a b N (List.replicate ((w64 ((w64 (((a.length:Nat):Int)+((b.length:Nat):Int)))+1)).toNat) 0:List Int) 0
 else none)
def g_r01_compare_L1 (N:Nat) (a:List Int) (b:List Int):Nat→Int→Option (Int)
 | 0,_=>none
 | fuel+1,i =>
  (cond (decide (i≥0))
  ((if 0≤i∧i < ((a.length:Nat):Int) then
  (if 0≤i∧i < ((b.length:Nat):Int) then
  (cond ((a.getD ((i).toNat) 0) != (b.getD ((i).toNat) 0))
  (some (w64 ((a.getD ((i).toNat) 0) - (b.getD ((i).toNat) 0))))
  (g_r01_compare_L1 N a b fuel (w64 (i - 1))))
  else none)
  else none))
  (some 0))
def g_r01_compare (N:Nat) (a:List Int) (b:List Int):Option (Int) :=
 (cond (((a.length:Nat):Int) != ((b.length:Nat):Int))
 (some (w64 (((a.length:Nat):Int) - ((b.length:Nat):Int))))
 (g_r01_compare_L1 N a b N (w64 (((a.length:Nat):Int) - 1))))
def g_r01_minus_J2 (N:Nat) (a:List Int) (b:List Int) (out:List Int) (i:Int) (K_g_r01_minus_L1:(List Int)→Int→Int→Option ((List Int))) (borrow2:Int) (s:Int):Option ((List Int)) :=
 (if (out.length+1) * 8≤140737488355328 then
 K_g_r01_minus_L1 (out ++ ([s]:List Int)) borrow2 (w64 (i+1))
 else none)
def g_r01_minus_L1 (N:Nat) (a:List Int) (b:List Int):Nat→(List Int)→Int→Int→Option ((List Int))
 | 0,_,_,_=>none
 | fuel+1,out,borrow,i =>
  (cond (decide (i < ((a.length:Nat):Int)))
  ((if 0≤i∧i < ((a.length:Nat):Int) then
  ((g_r01_digit N b i).bind fun rdigit =>
  (cond (decide ((w64 ((w64 ((a.getD ((i).toNat) 0) - rdigit)) - borrow)) < 0))
  (g_r01_minus_J2 N a b out i (g_r01_minus_L1 N a b fuel) 1 (w64 ((w64 ((w64 ((a.getD ((i).toNat) 0) - rdigit)) - borrow))+65536)))
  (g_r01_minus_J2 N a b out i (g_r01_minus_L1 N a b fuel) 0 (w64 ((w64 ((a.getD ((i).toNat) 0) - rdigit)) - borrow)))))
  else none))
  (((g_r01_trim N out).bind fun rtrim =>
  some rtrim)))
def g_r01_minus (N:Nat) (a:List Int) (b:List Int):Option ((List Int)) :=
 g_r01_minus_L1 N a b N ([]:List Int) 0 0
def g_r01_over_J3 (N:Nat) (a:List Int) (b:List Int) (q:List Int) (i:Int) (lo:Int) (K_g_r01_over_L1:(List Int)→(List Int)→Int→Option ((List Int)×(List Int))) (rest2:List Int):Option ((List Int)×(List Int)) :=
 K_g_r01_over_L1 rest2 (q.set ((i).toNat) lo) (w64 (i - 1))
def g_r01_over_L2 (N:Nat) (a:List Int) (b:List Int) (q:List Int) (i:Int) (rtrim:(List Int)) (K_g_r01_over_L1:(List Int)→(List Int)→Int→Option ((List Int)×(List Int))):Nat→Int→Int→Option ((List Int)×(List Int))
 | 0,_,_=>none
 | fuel+1,lo,hi =>
  (cond (decide (lo < hi))
  (((g_r01_times N b ([(w64 ((w64 ((w64 (lo+hi))+1)).tdiv 2))]:List Int)).bind fun rtimes =>
  ((g_r01_compare N rtimes rtrim).bind fun rcompare =>
  (cond (decide (rcompare≤0))
  (g_r01_over_L2 N a b q i rtrim K_g_r01_over_L1 fuel (w64 ((w64 ((w64 (lo+hi))+1)).tdiv 2)) hi)
  (g_r01_over_L2 N a b q i rtrim K_g_r01_over_L1 fuel lo (w64 ((w64 ((w64 ((w64 (lo+hi))+1)).tdiv 2)) - 1)))))))
  ((if 0≤i∧i < ((q.length:Nat):Int) then
  (cond (decide (lo > 0))
  (((g_r01_times N b ([lo]:List Int)).bind fun rtimes2 =>
  ((g_r01_minus N rtrim rtimes2).bind fun rminus =>
  g_r01_over_J3 N a b q i lo K_g_r01_over_L1 rminus)))
  (g_r01_over_J3 N a b q i lo K_g_r01_over_L1 rtrim))
  else none)))
def g_r01_over_L1 (N:Nat) (a:List Int) (b:List Int):Nat→(List Int)→(List Int)→Int→Option ((List Int)×(List Int))
 | 0,_,_,_=>none
 | fuel+1,rest,q,i =>
  (cond (decide (i≥0))
  ((if 0≤i∧i < ((a.length:Nat):Int) then
  (if (1+rest.length) * 8≤140737488355328 then
  ((g_r01_trim N (([(a.getD ((i).toNat) 0)]:List Int) ++ rest)).bind fun rtrim =>
  g_r01_over_L2 N a b q i rtrim (g_r01_over_L1 N a b fuel) N 0 65535)
  else none)
  else none))
  (((g_r01_trim N q).bind fun rtrim2 =>
  some (rtrim2,rest))))
def g_r01_over (N:Nat) (a:List Int) (b:List Int):Option ((List Int)×(List Int)) :=
 (if 0≤((a.length:Nat):Int)∧(8:Int) * ((a.length:Nat):Int)≤281474976710656∧((a.length:Nat):Int)≤9223372036854775807 then
 g_r01_over_L1 N a b N ([]:List Int) (List.replicate a.length 0:List Int) (w64 (((a.length:Nat):Int) - 1))
 else none)
def g_r01_gcd_L1 (N:Nat):Nat→(List Int)→(List Int)→Option ((List Int))
 | 0,_,_=>none
 | fuel+1,a2,b2 =>
  (cond (decide (((b2.length:Nat):Int) > 0))
  (((g_r01_over N a2 b2).bind fun rover =>
  g_r01_gcd_L1 N fuel b2 rover.2))
  (some a2))
def g_r01_gcd (N:Nat) (a:List Int) (b:List Int):Option ((List Int)) :=
 g_r01_gcd_L1 N N a b
def g_r01_Over (N:Nat) (a:TInt) (b:TInt):Option (TRat) :=
 ((g_r01_read N a.fL).bind fun rread =>
 ((g_r01_read N b.fL).bind fun rread2 =>
 (cond (((rread2.length:Nat):Int) == 0)
 (((g_r01_made N a.fG rread).bind fun rmade =>
 ((g_r01_Of N 1).bind fun rOf =>
 some (⟨rmade,rOf⟩:TRat))))
 (((g_r01_gcd N rread rread2).bind fun rgcd =>
 ((g_r01_over N rread rgcd).bind fun rover =>
 ((g_r01_over N rread2 rgcd).bind fun rover2 =>
 ((g_r01_made N (!(a.fG == b.fG)) rover.1).bind fun rmade2 =>
 ((g_r01_made N false rover2.1).bind fun rmade3 =>
 some (⟨rmade2,rmade3⟩:TRat))))))))))
def g_r01_NormRat (N:Nat) (x:TRat):Option (TRat) :=
 ((g_r01_Over N x.fN x.fD).bind fun rOver =>
 some rOver)
def g_r01_Mul (N:Nat) (a:TInt) (b:TInt):Option (TInt) :=
 ((g_r01_read N a.fL).bind fun rread =>
 ((g_r01_read N b.fL).bind fun rread2 =>
 ((g_r01_times N rread rread2).bind fun rtimes =>
 ((g_r01_made N (!(a.fG == b.fG)) rtimes).bind fun rmade =>
 some rmade))))
def g_r01_MulRat (N:Nat) (x:TRat) (y:TRat):Option (TRat) :=
 ((g_r01_NormRat N x).bind fun rNormRat =>
 ((g_r01_NormRat N y).bind fun rNormRat2 =>
 ((g_r01_Mul N rNormRat.fN rNormRat2.fN).bind fun rMul =>
 ((g_r01_Mul N rNormRat.fD rNormRat2.fD).bind fun rMul2 =>
 ((g_r01_Over N rMul rMul2).bind fun rOver =>
 some rOver)))))
def g_r01_plus_L1 (N:Nat) (a:List Int) (b:List Int):Nat→(List Int)→Int→Int→Option ((List Int))
 | 0,_,_,_=>none
 | fuel+1,out,carry,i =>
  (cond (cond (cond (decide (i < ((a.length:Nat):Int))) true (decide (i < ((b.length:Nat):Int)))) true (decide (carry > 0)))
  (((g_r01_digit N a i).bind fun rdigit =>
  ((g_r01_digit N b i).bind fun rdigit2 =>
  (if (out.length+1) * 8≤140737488355328 then
  g_r01_plus_L1 N a b fuel (out ++ ([((w64 ((w64 (rdigit+rdigit2))+carry)).tmod 65536)]:List Int)) (w64 ((w64 ((w64 (rdigit+rdigit2))+carry)).tdiv 65536)) (w64 (i+1))
  else none))))
  (((g_r01_trim N out).bind fun rtrim =>
  some rtrim)))
def g_r01_plus (N:Nat) (a:List Int) (b:List Int):Option ((List Int)) :=
 g_r01_plus_L1 N a b N ([]:List Int) 0 0
def g_r01_Add (N:Nat) (a:TInt) (b:TInt):Option (TInt) :=
 ((g_r01_read N a.fL).bind fun rread =>
 ((g_r01_read N b.fL).bind fun rread2 =>
 (cond (a.fG == b.fG)
 (((g_r01_plus N rread rread2).bind fun rplus =>
 ((g_r01_made N a.fG rplus).bind fun rmade =>
 some rmade)))
 (((g_r01_compare N rread rread2).bind fun rcompare =>
 (cond (decide (rcompare≥0))
 (((g_r01_minus N rread rread2).bind fun rminus =>
 ((g_r01_made N a.fG rminus).bind fun rmade2 =>
 some rmade2)))
 (((g_r01_minus N rread2 rread).bind fun rminus2 =>
 ((g_r01_made N b.fG rminus2).bind fun rmade3 =>
 some rmade3)))))))))
def g_r01_AddRat (N:Nat) (x:TRat) (y:TRat):Option (TRat) :=
 ((g_r01_NormRat N x).bind fun rNormRat =>
 ((g_r01_NormRat N y).bind fun rNormRat2 =>
 ((g_r01_Mul N rNormRat.fN rNormRat2.fD).bind fun rMul =>
 ((g_r01_Mul N rNormRat2.fN rNormRat.fD).bind fun rMul2 =>
 ((g_r01_Add N rMul rMul2).bind fun rAdd =>
 ((g_r01_Mul N rNormRat.fD rNormRat2.fD).bind fun rMul3 =>
 ((g_r01_Over N rAdd rMul3).bind fun rOver =>
 some rOver)))))))
def g_r01_Combined_J3 (N:Nat) (n:Int) (l:List TRow) (y:List TRat) (out:List TRat) (j:Int) (i:Int) (K_g_r01_Combined_L2:TRat→Int→Option ((List TRat)×TRat)) (K_g_r01_Combined_L1:(List TRat)→Int→Option ((List TRat)×TRat)) (s2:TRat):Option ((List TRat)×TRat) :=
 K_g_r01_Combined_L2 s2 (w64 (i+1))
def g_r01_Combined_L2 (N:Nat) (n:Int) (l:List TRow) (y:List TRat) (out:List TRat) (j:Int) (K_g_r01_Combined_L1:(List TRat)→Int→Option ((List TRat)×TRat)):Nat→TRat→Int→Option ((List TRat)×TRat)
 | 0,_,_=>none
 | fuel+1,s,i =>
  (cond (decide (i < ((l.length:Nat):Int)))
  ((if 0≤i∧i < ((l.length:Nat):Int) then
  (cond (decide (j < ((((l.getD ((i).toNat) TRow.d).f_Coefs).length:Nat):Int)))
  ((if 0≤i∧i < ((y.length:Nat):Int) then
  (if 0≤j∧j < ((((l.getD ((i).toNat) TRow.d).f_Coefs).length:Nat):Int) then
  ((g_r01_MulRat N (⟨((y.getD ((i).toNat) TRat.d).fN),((y.getD ((i).toNat) TRat.d).fD)⟩:TRat) (⟨((((l.getD ((i).toNat) TRow.d).f_Coefs).getD ((j).toNat) TRat.d).fN),((((l.getD ((i).toNat) TRow.d).f_Coefs).getD ((j).toNat) TRat.d).fD)⟩:TRat)).bind fun rMulRat =>
  ((g_r01_AddRat N s rMulRat).bind fun rAddRat =>
  g_r01_Combined_J3 N n l y out j i (g_r01_Combined_L2 N n l y out j K_g_r01_Combined_L1 fuel) K_g_r01_Combined_L1 rAddRat))
  else none)
  else none))
  (g_r01_Combined_J3 N n l y out j i (g_r01_Combined_L2 N n l y out j K_g_r01_Combined_L1 fuel) K_g_r01_Combined_L1 s))
  else none))
  ((if (out.length+1) * 64≤140737488355328 then
  K_g_r01_Combined_L1 (out ++ ([s]:List TRat)) (w64 (j+1))
  else none)))
def g_r01_Combined_L4 (N:Nat) (l:List TRow) (y:List TRat) (out:List TRat):Nat→TRat→Int→Option ((List TRat)×TRat)
 | 0,_,_=>none
 | fuel+1,bound,i2 =>
  (cond (decide (i2 < ((l.length:Nat):Int)))
  ((if 0≤i2∧i2 < ((y.length:Nat):Int) then
  (if 0≤i2∧i2 < ((l.length:Nat):Int) then
  ((g_r01_MulRat N (⟨((y.getD ((i2).toNat) TRat.d).fN),((y.getD ((i2).toNat) TRat.d).fD)⟩:TRat) (⟨(((l.getD ((i2).toNat) TRow.d).f_Bound).fN),(((l.getD ((i2).toNat) TRow.d).f_Bound).fD)⟩:TRat)).bind fun rMulRat2 =>
  ((g_r01_AddRat N bound rMulRat2).bind fun rAddRat2 =>
  g_r01_Combined_L4 N l y out fuel rAddRat2 (w64 (i2+1))))
  else none)
  else none))
  (some (out,bound)))
def g_r01_Combined_L1 (N:Nat) (n:Int) (l:List TRow) (y:List TRat):Nat→(List TRat)→Int→Option ((List TRat)×TRat)
 | 0,_,_=>none
 | fuel+1,out,j =>
  (cond (decide (j < n))
  (((g_r01_Q N 0).bind fun rQ =>
  g_r01_Combined_L2 N n l y out j (g_r01_Combined_L1 N n l y fuel) N rQ 0))
  (((g_r01_Q N 0).bind fun rQ2 =>
  g_r01_Combined_L4 N l y out N rQ2 0)))
def g_r01_Combined (N:Nat) (n:Int) (l:List TRow) (y:List TRat):Option ((List TRat)×TRat) :=
 g_r01_Combined_L1 N n l y N ([]:List TRat) 0
def g_r01_Sign (N:Nat) (a:TInt):Option (Int) :=
 ((g_r01_read N a.fL).bind fun rread =>
 (cond (((rread.length:Nat):Int) == 0)
 (some 0)
 ((cond a.fG
 (some (-1))
 (some 1)))))
def g_r01_SignRat (N:Nat) (x:TRat):Option (Int) :=
 ((g_r01_NormRat N x).bind fun rNormRat =>
 ((g_r01_Sign N rNormRat.fN).bind fun rSign =>
 some rSign))
def g_r01_NoneNegative_L1 (N:Nat) (l:List TRat):Nat→Int→Option (Bool)
 | 0,_=>none
 | fuel+1,i =>
  (cond (decide (i < ((l.length:Nat):Int)))
  ((if 0≤i∧i < ((l.length:Nat):Int) then
  ((g_r01_SignRat N (⟨((l.getD ((i).toNat) TRat.d).fN),((l.getD ((i).toNat) TRat.d).fD)⟩:TRat)).bind fun rSignRat =>
  (cond (decide (rSignRat < 0))
  (some false)
  (g_r01_NoneNegative_L1 N l fuel (w64 (i+1)))))
  else none))
  (some true))
def g_r01_NoneNegative (N:Nat) (l:List TRat):Option (Bool) :=
 g_r01_NoneNegative_L1 N l N 0
def g_r01_Contradicts_L1 (N:Nat) (n:Int) (y:List TRat) (rCombined:(List TRat)×TRat):Nat→Int→Option (Bool)
 | 0,_=>none
 | fuel+1,j =>
  (cond (decide (j < n))
  ((if 0≤j∧j < ((rCombined.1.length:Nat):Int) then
  ((g_r01_SignRat N (⟨((rCombined.1.getD ((j).toNat) TRat.d).fN),((rCombined.1.getD ((j).toNat) TRat.d).fD)⟩:TRat)).bind fun rSignRat =>
  (cond (rSignRat != 0)
  (some false)
  (g_r01_Contradicts_L1 N n y rCombined fuel (w64 (j+1)))))
  else none))
  (((g_r01_NoneNegative N y).bind fun rNoneNegative =>
  ((cond rNoneNegative (g_r01_SignRat N rCombined.2) (some 0)).bind fun rSignRat2 =>
  some (cond rNoneNegative (decide (rSignRat2 < 0)) false)))))
def g_r01_Contradicts (N:Nat) (n:Int) (l:List TRow) (y:List TRat):Option (Bool) :=
 ((g_r01_Combined N n l y).bind fun rCombined =>
 g_r01_Contradicts_L1 N n y rCombined N 0)
def g_r01_Product_L1 (N:Nat) (a:List TRat) (b:List TRat):Nat→TRat→Int→Option (TRat)
 | 0,_,_=>none
 | fuel+1,out,i =>
  (cond (cond (decide (i < ((a.length:Nat):Int))) (decide (i < ((b.length:Nat):Int))) false)
  ((if 0≤i∧i < ((a.length:Nat):Int) then
  (if 0≤i∧i < ((b.length:Nat):Int) then
  ((g_r01_MulRat N (⟨((a.getD ((i).toNat) TRat.d).fN),((a.getD ((i).toNat) TRat.d).fD)⟩:TRat) (⟨((b.getD ((i).toNat) TRat.d).fN),((b.getD ((i).toNat) TRat.d).fD)⟩:TRat)).bind fun rMulRat =>
  ((g_r01_AddRat N out rMulRat).bind fun rAddRat =>
  g_r01_Product_L1 N a b fuel rAddRat (w64 (i+1))))
  else none)
  else none))
  (some out))
def g_r01_Product (N:Nat) (a:List TRat) (b:List TRat):Option (TRat) :=
 ((g_r01_Q N 0).bind fun rQ =>
 g_r01_Product_L1 N a b N rQ 0)
def g_r01_Neg (N:Nat) (a:TInt):Option (TInt) :=
 ((g_r01_read N a.fL).bind fun rread =>
 ((g_r01_made N (!a.fG) rread).bind fun rmade =>
 some rmade))
def g_r01_NegRat (N:Nat) (x:TRat):Option (TRat) :=
 ((g_r01_NormRat N x).bind fun rNormRat =>
 ((g_r01_Neg N rNormRat.fN).bind fun rNeg =>
 some (⟨rNeg,rNormRat.fD⟩:TRat)))
def g_r01_SubRat (N:Nat) (x:TRat) (y:TRat):Option (TRat) :=
 ((g_r01_NegRat N y).bind fun rNegRat =>
 ((g_r01_AddRat N x rNegRat).bind fun rAddRat =>
 some rAddRat))
def g_r01_CmpRat (N:Nat) (x:TRat) (y:TRat):Option (Int) :=
 ((g_r01_SubRat N x y).bind fun rSubRat =>
 ((g_r01_SignRat N rSubRat).bind fun rSignRat =>
 some rSignRat))
def g_r01_Holds_L1 (N:Nat) (l:List TRow) (point:List TRat):Nat→Int→Option (Bool)
 | 0,_=>none
 | fuel+1,i =>
  (cond (decide (i < ((l.length:Nat):Int)))
  ((if 0≤i∧i < ((l.length:Nat):Int) then
  ((g_r01_Product N ((l.getD ((i).toNat) TRow.d).f_Coefs) point).bind fun rProduct =>
  ((g_r01_CmpRat N rProduct (⟨(((l.getD ((i).toNat) TRow.d).f_Bound).fN),(((l.getD ((i).toNat) TRow.d).f_Bound).fD)⟩:TRat)).bind fun rCmpRat =>
  (cond (decide (rCmpRat > 0))
  (some false)
  (g_r01_Holds_L1 N l point fuel (w64 (i+1))))))
  else none))
  (some true))
def g_r01_Holds (N:Nat) (l:List TRow) (point:List TRat):Option (Bool) :=
 g_r01_Holds_L1 N l point N 0
def g_w01_contradictory (N:Nat) (n:Int) (l:List TRow):Option (Bool×Bool) :=
 ((g_e_Feasible N n l).bind fun rFeasible =>
 (cond (rFeasible.2.2 == 29)
 (((cond (((rFeasible.2.1.length:Nat):Int) == ((l.length:Nat):Int)) (g_r01_Contradicts N n l rFeasible.2.1) (some false)).bind fun rContradicts =>
 some (true,(cond (((rFeasible.2.1.length:Nat):Int) == ((l.length:Nat):Int)) rContradicts false))))
 (((cond (cond (rFeasible.2.2 == 0) (((rFeasible.1.length:Nat):Int) == n) false) (g_r01_Holds N l rFeasible.1) (some false)).bind fun rHolds =>
 some (false,(cond (cond (rFeasible.2.2 == 0) (((rFeasible.1.length:Nat):Int) == n) false) rHolds false))))))
def g_w01_without (N:Nat) (i:Int) (C0:List TRow):Option ((List TRow)) :=
 (if 0≤(i).toNat∧(i).toNat≤C0.length then
 (if 0≤i then
 (if (0+((i).toNat - 0)) * 88≤140737488355328 then
 (if (w64 (i+1)).toNat≤C0.length∧C0.length≤C0.length then
 (if 0≤(w64 (i+1)) then
 (if ((0+((i).toNat - 0))+(C0.length - (w64 (i+1)).toNat)) * 88≤140737488355328 then
 some ((([]:List TRow) ++ ((C0.take ((i).toNat)).drop 0)) ++ ((C0.take C0.length).drop ((w64 (i+1)).toNat)))
 else none)
 else none)
 else none)
 else none)
 else none)
 else none)
def g_w01_ExactIrreducible_L2 (N:Nat) (p:Tw01_Problem) (l:List TRow):Nat→Int→Option (Bool)
 | 0,_=>none
 | fuel+1,i2 =>
  (cond (decide (i2 < ((l.length:Nat):Int)))
  (((g_w01_without N i2 l).bind fun rwithout =>
  ((g_w01_contradictory N p.f_N rwithout).bind fun rcontradictor2 =>
  (cond (cond rcontradictor2.1 true (!rcontradictor2.2))
  (some false)
  (g_w01_ExactIrreducible_L2 N p l fuel (w64 (i2+1)))))))
  (((g_w01_awake N).bind fun rawake3 =>
  some rawake3)))
def g_w01_ExactIrreducible_L1 (N:Nat) (p:Tw01_Problem) (rCore:(List Int)×Int):Nat→(List TRow)→Int→Option (Bool)
 | 0,_,_=>none
 | fuel+1,l,i =>
  (cond (decide (i < ((rCore.1.length:Nat):Int)))
  ((if 0≤i∧i < ((rCore.1.length:Nat):Int) then
  (if ((!(decide ((rCore.1.getD ((i).toNat) 0) < 0)))=true→0≤i∧i < ((rCore.1.length:Nat):Int)) then
  (if (((!(cond (decide ((rCore.1.getD ((i).toNat) 0) < 0)) true (decide ((rCore.1.getD ((i).toNat) 0)≥((p.f_L.length:Nat):Int))))) && ((!(cond (decide ((rCore.1.getD ((i).toNat) 0) < 0)) true (decide ((rCore.1.getD ((i).toNat) 0)≥((p.f_L.length:Nat):Int))))) && (decide (i > 0))))=true→0≤i∧i < ((rCore.1.length:Nat):Int)) then
  (if (((!(cond (decide ((rCore.1.getD ((i).toNat) 0) < 0)) true (decide ((rCore.1.getD ((i).toNat) 0)≥((p.f_L.length:Nat):Int))))) && ((!(cond (decide ((rCore.1.getD ((i).toNat) 0) < 0)) true (decide ((rCore.1.getD ((i).toNat) 0)≥((p.f_L.length:Nat):Int))))) && (decide (i > 0))))=true→0≤(w64 (i - 1))∧(w64 (i - 1)) < ((rCore.1.length:Nat):Int)) then
  (cond (cond (cond (decide ((rCore.1.getD ((i).toNat) 0) < 0)) true (decide ((rCore.1.getD ((i).toNat) 0)≥((p.f_L.length:Nat):Int)))) true (cond (decide (i > 0)) (decide ((rCore.1.getD ((i).toNat) 0)≤(rCore.1.getD ((w64 (i - 1)).toNat) 0))) false))
  (some false)
  ((if 0≤(rCore.1.getD ((i).toNat) 0)∧(rCore.1.getD ((i).toNat) 0) < ((p.f_L.length:Nat):Int) then
  (if (l.length+1) * 88≤140737488355328 then
  g_w01_ExactIrreducible_L1 N p rCore fuel (l ++ ([(p.f_L.getD ((rCore.1.getD ((i).toNat) 0).toNat) TRow.d)]:List TRow)) (w64 (i+1))
  else none)
  else none)))
  else none)
  else none)
  else none)
  else none))
  (((g_w01_contradictory N p.f_N l).bind fun rcontradictor =>
  (cond (cond (!rcontradictor.1) true (!rcontradictor.2))
  (some false)
  (g_w01_ExactIrreducible_L2 N p l N 0)))))
def g_w01_ExactIrreducible (N:Nat) (p:Tw01_Problem):Option (Bool) :=
 ((g_w01_Problem_modest N p).bind fun rmodest =>
 ((cond (!(!rmodest)) (g_r01_CheckRows N p.f_N p.f_L) (some 0)).bind fun rCheckRows =>
 (cond (cond (!rmodest) true (rCheckRows != 0))
 (((g_w01_awake N).bind fun rawake =>
 some rawake))
 (((g_e_Core N p.f_N p.f_L).bind fun rCore =>
 (cond (rCore.2 != 0)
 (((cond (rCore.2 == 29) (g_w01_awake N) (some false)).bind fun rawake2 =>
 some (cond (rCore.2 == 29) rawake2 false)))
 (g_w01_ExactIrreducible_L1 N p rCore N ([]:List TRow) 0)))))))
end Go.Den
