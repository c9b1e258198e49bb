/- The functions of the program as Lean functions, each in the Option monad; N bounds the rounds of loops. No conditions. -/
import Derived.Test.YtakkcneiophofaaCc

set_option linter.unusedVariables false
set_option linter.unusedSimpArgs false
set_option linter.unusedVariables false
namespace Go.Den
open Go.Ab

/-- api.Int -/
structure Tapi_Int where
  f_Neg : Bool
  f_Limbs : List Int
def Tapi_Int.d : Tapi_Int := ⟨false, []⟩
def Tapi_Int.wf (x : Tapi_Int) : Prop := wB x.f_Neg ∧ (wL (wK .u16)) x.f_Limbs
def Tapi_Int.cells (x : Tapi_Int) : List AV := [(aB x.f_Neg), (encL (cU .u16) 0 x.f_Limbs)]
/-- api.Rat -/
structure Tapi_Rat where
  f_Num : Tapi_Int
  f_Den : Tapi_Int
def Tapi_Rat.d : Tapi_Rat := ⟨Tapi_Int.d, Tapi_Int.d⟩
def Tapi_Rat.wf (x : Tapi_Rat) : Prop := Tapi_Int.wf x.f_Num ∧ Tapi_Int.wf x.f_Den
def Tapi_Rat.cells (x : Tapi_Rat) : List AV := [(aB x.f_Num.f_Neg), (encL (cU .u16) 0 x.f_Num.f_Limbs), (aB x.f_Den.f_Neg), (encL (cU .u16) 0 x.f_Den.f_Limbs)]
/-- api.Curve -/
structure Tapi_Curve where
  f_Starts : List Int
  f_Slopes : List Tapi_Rat
def Tapi_Curve.d : Tapi_Curve := ⟨[], []⟩
def Tapi_Curve.wf (x : Tapi_Curve) : Prop := (wL wI) x.f_Starts ∧ (wL Tapi_Rat.wf) x.f_Slopes
def Tapi_Curve.cells (x : Tapi_Curve) : List AV := [(encL cI 0 x.f_Starts), (encL Tapi_Rat.cells Tapi_Rat.d x.f_Slopes)]
/-- [2]int -/
structure TS__2_int where
  e0 : Int
  e1 : Int
def TS__2_int.d : TS__2_int := ⟨0, 0⟩
def TS__2_int.wf (x : TS__2_int) : Prop := wI x.e0 ∧ wI x.e1
def TS__2_int.cells (x : TS__2_int) : List AV := [(aI x.e0), (aI x.e1)]
/-- api.Row -/
structure Tapi_Row where
  f_Coefs : List Tapi_Rat
  f_Bound : Tapi_Rat
def Tapi_Row.d : Tapi_Row := ⟨[], Tapi_Rat.d⟩
def Tapi_Row.wf (x : Tapi_Row) : Prop := (wL Tapi_Rat.wf) x.f_Coefs ∧ Tapi_Rat.wf x.f_Bound
def Tapi_Row.cells (x : Tapi_Row) : List AV := [(encL Tapi_Rat.cells Tapi_Rat.d x.f_Coefs), (aB x.f_Bound.f_Num.f_Neg), (encL (cU .u16) 0 x.f_Bound.f_Num.f_Limbs), (aB x.f_Bound.f_Den.f_Neg), (encL (cU .u16) 0 x.f_Bound.f_Den.f_Limbs)]
/-- keelblocklaw01.Problem -/
structure Tkeelblocklaw01_Problem where
  f_N : Int
  f_L : List Tapi_Row
def Tkeelblocklaw01_Problem.d : Tkeelblocklaw01_Problem := ⟨0, []⟩
def Tkeelblocklaw01_Problem.wf (x : Tkeelblocklaw01_Problem) : Prop := wI x.f_N ∧ (wL Tapi_Row.wf) x.f_L
def Tkeelblocklaw01_Problem.cells (x : Tkeelblocklaw01_Problem) : List AV := [(aI x.f_N), (encL Tapi_Row.cells Tapi_Row.d x.f_L)]
/-- api.Best -/
structure Tapi_Best where
  f_Value : Tapi_Rat
  f_Point : List Tapi_Rat
  f_Multipliers : List Tapi_Rat
def Tapi_Best.d : Tapi_Best := ⟨Tapi_Rat.d, [], []⟩
def Tapi_Best.wf (x : Tapi_Best) : Prop := Tapi_Rat.wf x.f_Value ∧ (wL Tapi_Rat.wf) x.f_Point ∧ (wL Tapi_Rat.wf) x.f_Multipliers
def Tapi_Best.cells (x : Tapi_Best) : List AV := [(aB x.f_Value.f_Num.f_Neg), (encL (cU .u16) 0 x.f_Value.f_Num.f_Limbs), (aB x.f_Value.f_Den.f_Neg), (encL (cU .u16) 0 x.f_Value.f_Den.f_Limbs), (encL Tapi_Rat.cells Tapi_Rat.d x.f_Point), (encL Tapi_Rat.cells Tapi_Rat.d x.f_Multipliers)]

def g_keelblockbase_limbs_L1 (N : Nat) : Nat → Int → (List Int) → Option ((List Int))
  | 0, _, _ => none
  | fuel + 1, n2, out =>
    (cond (decide (n2 > 0))
    ((if (out.length + 1) * 2 ≤ 140737488355328 then
    g_keelblockbase_limbs_L1 N fuel (shrI .u64 n2 16) (out ++ ([(IntKind.u16.wrap ((andI .u64 n2 65535)))] : List Int))
    else none))
    (some out))

/-- keelblock/keelblockbase.limbs -/
def g_keelblockbase_limbs (N : Nat) (n : Int) : Option ((List Int)) :=
  g_keelblockbase_limbs_L1 N N n ([] : List Int)

/-- keelblock/keelblockbase.Z -/
def g_keelblockbase_Z (N : Nat) (n : Int) : Option (Tapi_Int) :=
  (cond (decide (n < 0))
  (((g_keelblockbase_limbs N (IntKind.u64.wrap ((IntKind.u64.wrap ((w64 (0 - (w64 (n + 1)))))) + 1))).bind fun rlimbs =>
  some (⟨true, rlimbs⟩ : Tapi_Int)))
  (((g_keelblockbase_limbs N (IntKind.u64.wrap (n))).bind fun rlimbs2 =>
  some (⟨false, rlimbs2⟩ : Tapi_Int))))

def g_exact_trim_L1 (N : Nat) : Nat → (List Int) → Option ((List Int))
  | 0, _ => none
  | fuel + 1, n2 =>
    (if ((decide (((n2.length : Nat) : Int) > 0)) = true → 0 ≤ (w64 (((n2.length : Nat) : Int) - 1)) ∧ (w64 (((n2.length : Nat) : Int) - 1)) < ((n2.length : Nat) : Int)) then
    (cond (cond (decide (((n2.length : Nat) : Int) > 0)) ((n2.getD ((w64 (((n2.length : Nat) : Int) - 1)).toNat) 0) == 0) false)
    ((if 0 ≤ (w64 (((n2.length : Nat) : Int) - 1)).toNat ∧ (w64 (((n2.length : Nat) : Int) - 1)).toNat ≤ n2.length then
    (if 0 ≤ (w64 (((n2.length : Nat) : Int) - 1)) then
    g_exact_trim_L1 N fuel ((n2.take ((w64 (((n2.length : Nat) : Int) - 1)).toNat)).drop 0)
    else none)
    else none))
    (some n2))
    else none)

/-- keelblock/exact.trim -/
def g_exact_trim (N : Nat) (n : List Int) : Option ((List Int)) :=
  g_exact_trim_L1 N N n

def g_exact_compare_L1 (N : Nat) (a : List Int) (b : List Int) : Nat → Int → Option (Int)
  | 0, _ => none
  | fuel + 1, i =>
    (cond (decide (i ≥ 0))
    ((if 0 ≤ i ∧ i < ((a.length : Nat) : Int) then
    (if 0 ≤ i ∧ i < ((b.length : Nat) : Int) then
    (cond ((a.getD ((i).toNat) 0) != (b.getD ((i).toNat) 0))
    (some (w64 ((w64 ((a.getD ((i).toNat) 0))) - (w64 ((b.getD ((i).toNat) 0))))))
    (g_exact_compare_L1 N a b fuel (w64 (i - 1))))
    else none)
    else none))
    (some 0))

/-- keelblock/exact.compare -/
def g_exact_compare (N : Nat) (a : List Int) (b : List Int) : Option (Int) :=
  (cond (((a.length : Nat) : Int) != ((b.length : Nat) : Int))
  (some (w64 (((a.length : Nat) : Int) - ((b.length : Nat) : Int))))
  (g_exact_compare_L1 N a b N (w64 (((a.length : Nat) : Int) - 1))))

/-- slices.Clone   uint16,uint16  -/
def g_slices_Clone_uint16_uint16 (N : Nat) (s : List Int) : Option ((List Int)) :=
  (if (0 + s.length) * 2 ≤ 140737488355328 then
  some (([] : List Int) ++ s)
  else none)

def g_exact_short_L1 (N : Nat) (a : List Int) (b : Int) : Nat → (List Int) → Int → Int → Option ((List Int) × Int)
  | 0, _, _, _ => none
  | fuel + 1, q, rest, i =>
    (cond (decide (i ≥ 0))
    ((if 0 ≤ i ∧ i < ((a.length : Nat) : Int) then
    (if ((IntKind.u32.wrap (b)) : Int) ≠ 0 then
    (if 0 ≤ i ∧ i < ((q.length : Nat) : Int) then
    g_exact_short_L1 N a b fuel (q.set ((i).toNat) (IntKind.u16.wrap ((IntKind.u32.wrap ((orI .u32 (shlI .u32 rest 16) (IntKind.u32.wrap ((a.getD ((i).toNat) 0)))).tdiv (IntKind.u32.wrap (b))))))) ((orI .u32 (shlI .u32 rest 16) (IntKind.u32.wrap ((a.getD ((i).toNat) 0)))).tmod (IntKind.u32.wrap (b))) (w64 (i - 1))
    else none)
    else none)
    else none))
    (((g_exact_trim N q).bind fun rtrim =>
    some (rtrim, (IntKind.u16.wrap (rest))))))

/-- keelblock/exact.short -/
def g_exact_short (N : Nat) (a : List Int) (b : Int) : Option ((List Int) × Int) :=
  (if 0 ≤ ((a.length : Nat) : Int) ∧ (2 : Int) * ((a.length : Nat) : Int) ≤ 281474976710656 ∧ ((a.length : Nat) : Int) ≤ 9223372036854775807 then
  g_exact_short_L1 N a b N (List.replicate a.length 0 : List Int) 0 (w64 (((a.length : Nat) : Int) - 1))
  else none)

def g_math_bits_Len16_J1 (N : Nat) (x2 : Int) (n : Int) : Option (Int) :=
  (if 0 ≤ (IntKind.u8.wrap (x2)) ∧ (IntKind.u8.wrap (x2)) < (((⟨#[0, 1, 2, 2, 3, 3, 3, 3, 4, 4, 4, 4, 4, 4, 4, 4, 5, 5, 5, 5, 5, 5, 5, 5, 5, 5, 5, 5, 5, 5, 5, 5, 6, 6, 6, 6, 6, 6, 6, 6, 6, 6, 6, 6, 6, 6, 6, 6, 6, 6, 6, 6, 6, 6, 6, 6, 6, 6, 6, 6, 6, 6, 6, 6, 7, 7, 7, 7, 7, 7, 7, 7, 7, 7, 7, 7, 7, 7, 7, 7, 7, 7, 7, 7, 7, 7, 7, 7, 7, 7, 7, 7, 7, 7, 7, 7, 7, 7, 7, 7, 7, 7, 7, 7, 7, 7, 7, 7, 7, 7, 7, 7, 7, 7, 7, 7, 7, 7, 7, 7, 7, 7, 7, 7, 7, 7, 7, 7, 8, 8, 8, 8, 8, 8, 8, 8, 8, 8, 8, 8, 8, 8, 8, 8, 8, 8, 8, 8, 8, 8, 8, 8, 8, 8, 8, 8, 8, 8, 8, 8, 8, 8, 8, 8, 8, 8, 8, 8, 8, 8, 8, 8, 8, 8, 8, 8, 8, 8, 8, 8, 8, 8, 8, 8, 8, 8, 8, 8, 8, 8, 8, 8, 8, 8, 8, 8, 8, 8, 8, 8, 8, 8, 8, 8, 8, 8, 8, 8, 8, 8, 8, 8, 8, 8, 8, 8, 8, 8, 8, 8, 8, 8, 8, 8, 8, 8, 8, 8, 8, 8, 8, 8, 8, 8, 8, 8, 8, 8, 8, 8, 8, 8, 8, 8, 8, 8, 8, 8, 8, 8, 8, 8, 8, 8, 8, 8]⟩ : ByteArray).size : Nat) : Int) then
  some (w64 (n + (w64 ((byteAt (⟨#[0, 1, 2, 2, 3, 3, 3, 3, 4, 4, 4, 4, 4, 4, 4, 4, 5, 5, 5, 5, 5, 5, 5, 5, 5, 5, 5, 5, 5, 5, 5, 5, 6, 6, 6, 6, 6, 6, 6, 6, 6, 6, 6, 6, 6, 6, 6, 6, 6, 6, 6, 6, 6, 6, 6, 6, 6, 6, 6, 6, 6, 6, 6, 6, 7, 7, 7, 7, 7, 7, 7, 7, 7, 7, 7, 7, 7, 7, 7, 7, 7, 7, 7, 7, 7, 7, 7, 7, 7, 7, 7, 7, 7, 7, 7, 7, 7, 7, 7, 7, 7, 7, 7, 7, 7, 7, 7, 7, 7, 7, 7, 7, 7, 7, 7, 7, 7, 7, 7, 7, 7, 7, 7, 7, 7, 7, 7, 7, 8, 8, 8, 8, 8, 8, 8, 8, 8, 8, 8, 8, 8, 8, 8, 8, 8, 8, 8, 8, 8, 8, 8, 8, 8, 8, 8, 8, 8, 8, 8, 8, 8, 8, 8, 8, 8, 8, 8, 8, 8, 8, 8, 8, 8, 8, 8, 8, 8, 8, 8, 8, 8, 8, 8, 8, 8, 8, 8, 8, 8, 8, 8, 8, 8, 8, 8, 8, 8, 8, 8, 8, 8, 8, 8, 8, 8, 8, 8, 8, 8, 8, 8, 8, 8, 8, 8, 8, 8, 8, 8, 8, 8, 8, 8, 8, 8, 8, 8, 8, 8, 8, 8, 8, 8, 8, 8, 8, 8, 8, 8, 8, 8, 8, 8, 8, 8, 8, 8, 8, 8, 8, 8, 8, 8, 8, 8, 8]⟩ : ByteArray) ((IntKind.u8.wrap (x2)).toNat))))))
  else none)

/-- math/bits.Len16 -/
def g_math_bits_Len16 (N : Nat) (x : Int) : Option (Int) :=
  (cond (decide (x ≥ 256))
  (g_math_bits_Len16_J1 N (shrI .u16 x 8) 8)
  (g_math_bits_Len16_J1 N x 0))

/-- math/bits.LeadingZeros16 -/
def g_math_bits_LeadingZeros16 (N : Nat) (x : Int) : Option (Int) :=
  ((g_math_bits_Len16 N x).bind fun rLen16 =>
  some (w64 (16 - rLen16)))

def g_exact_shifted_L1 (N : Nat) (a : List Int) (vby : Int) : Nat → (List Int) → Int → Option ((List Int))
  | 0, _, _ => none
  | fuel + 1, out, x =>
    (cond (decide (x < ((a.length : Nat) : Int)))
    ((if 0 ≤ x ∧ x < ((a.length : Nat) : Int) then
    (if (0 : Int) ≤ vby then
    (if 0 ≤ x ∧ x < ((out.length : Nat) : Int) then
    (if 0 ≤ (w64 (x + 1)) ∧ (w64 (x + 1)) < (((out.set ((x).toNat) (orI .u16 (out.getD ((x).toNat) 0) (IntKind.u16.wrap ((shlI .u32 (IntKind.u32.wrap ((a.getD ((x).toNat) 0))) vby))))).length : Nat) : Int) then
    g_exact_shifted_L1 N a vby fuel ((out.set ((x).toNat) (orI .u16 (out.getD ((x).toNat) 0) (IntKind.u16.wrap ((shlI .u32 (IntKind.u32.wrap ((a.getD ((x).toNat) 0))) vby))))).set ((w64 (x + 1)).toNat) (IntKind.u16.wrap ((shrI .u32 (shlI .u32 (IntKind.u32.wrap ((a.getD ((x).toNat) 0))) vby) 16)))) (w64 (x + 1))
    else none)
    else none)
    else none)
    else none))
    (some out))

/-- keelblock/exact.shifted -/
def g_exact_shifted (N : Nat) (a : List Int) (vby : Int) : Option ((List Int)) :=
  (if 0 ≤ (w64 (((a.length : Nat) : Int) + 1)) ∧ (2 : Int) * (w64 (((a.length : Nat) : Int) + 1)) ≤ 281474976710656 ∧ (w64 (((a.length : Nat) : Int) + 1)) ≤ 9223372036854775807 then
  g_exact_shifted_L1 N a vby N (List.replicate ((w64 (((a.length : Nat) : Int) + 1)).toNat) 0 : List Int) 0
  else none)

def g_exact_digit_J3 (N : Nat) (uo : Nat) (un : Nat) (v : List Int) (q : Int) (cap02 : List Int) (borrow : Int) (x : Int) (K_g_exact_digit_L2 : (List Int) → Int → Int → Int → Option (Int × (List Int))) (x2 : Int) : Option (Int × (List Int)) :=
  (if 0 ≤ x ∧ x < ((un : Nat) : Int) then
  (if uo + un ≤ cap02.length then
  K_g_exact_digit_L2 (cap02.set (addz uo (x).toNat) (IntKind.u16.wrap ((w64 ((w64 ((w64 ((cap02.getD (addz uo (x).toNat) 0))) - (w64 ((andI .u64 x2 65535))))) + borrow))))) (shrI .u64 x2 16) (shrI .i64 (w64 ((w64 ((w64 ((cap02.getD (addz uo (x).toNat) 0))) - (w64 ((andI .u64 x2 65535))))) + borrow)) 16) (w64 (x + 1))
  else none)
  else none)

def g_exact_digit_J5 (N : Nat) (cap04 : List Int) (q2 : Int) : Option (Int × (List Int)) :=
  some ((IntKind.u16.wrap (q2)), cap04)

def g_exact_digit_L4 (N : Nat) (uo : Nat) (un : Nat) (v : List Int) (q : Int) : Nat → (List Int) → Int → Int → Option (Int × (List Int))
  | 0, _, _, _ => none
  | fuel + 1, cap03, carry2, x3 =>
    (cond (decide (x3 < ((v.length : Nat) : Int)))
    ((if 0 ≤ x3 ∧ x3 < ((un : Nat) : Int) then
    (if uo + un ≤ cap03.length then
    (if 0 ≤ x3 ∧ x3 < ((v.length : Nat) : Int) then
    g_exact_digit_L4 N uo un v q fuel (cap03.set (addz uo (x3).toNat) (IntKind.u16.wrap ((IntKind.u32.wrap (carry2 + (IntKind.u32.wrap ((IntKind.u32.wrap ((cap03.getD (addz uo (x3).toNat) 0))) + (IntKind.u32.wrap ((v.getD ((x3).toNat) 0)))))))))) (shrI .u32 (IntKind.u32.wrap (carry2 + (IntKind.u32.wrap ((IntKind.u32.wrap ((cap03.getD (addz uo (x3).toNat) 0))) + (IntKind.u32.wrap ((v.getD ((x3).toNat) 0))))))) 16) (w64 (x3 + 1))
    else none)
    else none)
    else none))
    ((if 0 ≤ ((v.length : Nat) : Int) ∧ ((v.length : Nat) : Int) < ((un : Nat) : Int) then
    (if uo + un ≤ cap03.length then
    g_exact_digit_J5 N (cap03.set (addz uo v.length) (IntKind.u16.wrap ((cap03.getD (addz uo v.length) 0) + (IntKind.u16.wrap (carry2))))) (IntKind.u64.wrap (q - 1))
    else none)
    else none)))

def g_exact_digit_L2 (N : Nat) (uo : Nat) (un : Nat) (v : List Int) (q : Int) : Nat → (List Int) → Int → Int → Int → Option (Int × (List Int))
  | 0, _, _, _, _ => none
  | fuel + 1, cap02, carry, borrow, x =>
    (cond (decide (x < (w64 (((v.length : Nat) : Int) + 1))))
    ((cond (decide (x < ((v.length : Nat) : Int)))
    ((if 0 ≤ x ∧ x < ((v.length : Nat) : Int) then
    g_exact_digit_J3 N uo un v q cap02 borrow x (g_exact_digit_L2 N uo un v q fuel) (IntKind.u64.wrap (carry + (IntKind.u64.wrap (q * (IntKind.u64.wrap ((v.getD ((x).toNat) 0)))))))
    else none))
    (g_exact_digit_J3 N uo un v q cap02 borrow x (g_exact_digit_L2 N uo un v q fuel) carry)))
    ((cond (decide (borrow < 0))
    (g_exact_digit_L4 N uo un v q N cap02 0 0)
    (g_exact_digit_J5 N cap02 q))))

def g_exact_digit_L1 (N : Nat) (uo : Nat) (un : Nat) (v : List Int) (cap0 : List Int) : Nat → Int → Int → Option (Int × (List Int))
  | 0, _, _ => none
  | fuel + 1, q, rest =>
    (if (((decide (rest < 65536)) && ((decide (rest < 65536)) && (!(decide (q > 65535))))) = true → 0 ≤ (w64 (((v.length : Nat) : Int) - 2)) ∧ (w64 (((v.length : Nat) : Int) - 2)) < ((v.length : Nat) : Int)) then
    (if (((decide (rest < 65536)) && ((decide (rest < 65536)) && (!(decide (q > 65535))))) = true → 0 ≤ (w64 (((v.length : Nat) : Int) - 2)) ∧ (w64 (((v.length : Nat) : Int) - 2)) < ((un : Nat) : Int)) then
    (if (((decide (rest < 65536)) && ((decide (rest < 65536)) && (!(decide (q > 65535))))) = true → uo + un ≤ cap0.length) then
    (cond (cond (decide (rest < 65536)) (cond (decide (q > 65535)) true (decide ((IntKind.u64.wrap (q * (IntKind.u64.wrap ((v.getD ((w64 (((v.length : Nat) : Int) - 2)).toNat) 0))))) > (orI .u64 (shlI .u64 rest 16) (IntKind.u64.wrap ((cap0.getD (addz uo (w64 (((v.length : Nat) : Int) - 2)).toNat) 0))))))) false)
    ((if 0 ≤ (w64 (((v.length : Nat) : Int) - 1)) ∧ (w64 (((v.length : Nat) : Int) - 1)) < ((v.length : Nat) : Int) then
    g_exact_digit_L1 N uo un v cap0 fuel (IntKind.u64.wrap (q - 1)) (IntKind.u64.wrap (rest + (IntKind.u64.wrap ((v.getD ((w64 (((v.length : Nat) : Int) - 1)).toNat) 0)))))
    else none))
    (g_exact_digit_L2 N uo un v q N cap0 0 0 0))
    else none)
    else none)
    else none)

/-- keelblock/exact.digit -/
def g_exact_digit (N : Nat) (uo : Nat) (un : Nat) (v : List Int) (cap0 : List Int) : Option (Int × (List Int)) :=
  (if 0 ≤ ((v.length : Nat) : Int) ∧ ((v.length : Nat) : Int) < ((un : Nat) : Int) then
  (if uo + un ≤ cap0.length then
  (if 0 ≤ (w64 (((v.length : Nat) : Int) - 1)) ∧ (w64 (((v.length : Nat) : Int) - 1)) < ((un : Nat) : Int) then
  (if 0 ≤ (w64 (((v.length : Nat) : Int) - 1)) ∧ (w64 (((v.length : Nat) : Int) - 1)) < ((v.length : Nat) : Int) then
  (if ((IntKind.u64.wrap ((v.getD ((w64 (((v.length : Nat) : Int) - 1)).toNat) 0))) : Int) ≠ 0 then
  g_exact_digit_L1 N uo un v cap0 N (IntKind.u64.wrap ((orI .u64 (shlI .u64 (IntKind.u64.wrap ((cap0.getD (addz uo v.length) 0))) 16) (IntKind.u64.wrap ((cap0.getD (addz uo (w64 (((v.length : Nat) : Int) - 1)).toNat) 0)))).tdiv (IntKind.u64.wrap ((v.getD ((w64 (((v.length : Nat) : Int) - 1)).toNat) 0))))) ((orI .u64 (shlI .u64 (IntKind.u64.wrap ((cap0.getD (addz uo v.length) 0))) 16) (IntKind.u64.wrap ((cap0.getD (addz uo (w64 (((v.length : Nat) : Int) - 1)).toNat) 0)))).tmod (IntKind.u64.wrap ((v.getD ((w64 (((v.length : Nat) : Int) - 1)).toNat) 0))))
  else none)
  else none)
  else none)
  else none)
  else none)

def g_exact_divide_L2 (N : Nat) (b : List Int) (rLeadingZeros : Int) (q : List Int) (u : List Int) : Nat → (List Int) → Int → Option ((List Int) × (List Int))
  | 0, _, _ => none
  | fuel + 1, vr, x =>
    (cond (decide (x < (((b.length - 0) : Nat) : Int)))
    ((if 0 ≤ x ∧ x < ((u.length : Nat) : Int) then
    (if 0 ≤ (w64 (x + 1)) ∧ (w64 (x + 1)) < ((u.length : Nat) : Int) then
    (if (0 : Int) ≤ rLeadingZeros then
    (if 0 ≤ x ∧ x < ((vr.length : Nat) : Int) then
    g_exact_divide_L2 N b rLeadingZeros q u fuel (vr.set ((x).toNat) (IntKind.u16.wrap ((shrI .u32 (orI .u32 (IntKind.u32.wrap ((u.getD ((x).toNat) 0))) (shlI .u32 (IntKind.u32.wrap ((u.getD ((w64 (x + 1)).toNat) 0))) 16)) rLeadingZeros)))) (w64 (x + 1))
    else none)
    else none)
    else none)
    else none))
    (((g_exact_trim N q).bind fun rtrim2 =>
    ((g_exact_trim N vr).bind fun rtrim3 =>
    some (rtrim2, rtrim3)))))

def g_exact_divide_L1 (N : Nat) (b : List Int) (rLeadingZeros : Int) (rshifted2 : (List Int)) : Nat → (List Int) → (List Int) → Int → Option ((List Int) × (List Int))
  | 0, _, _, _ => none
  | fuel + 1, q, u, j =>
    (cond (decide (j ≥ 0))
    ((if (j).toNat ≤ (w64 ((w64 (j + (((b.length - 0) : Nat) : Int))) + 1)).toNat ∧ (w64 ((w64 (j + (((b.length - 0) : Nat) : Int))) + 1)).toNat ≤ u.length then
    (if 0 ≤ j then
    (if 0 ≤ (w64 ((w64 (j + (((b.length - 0) : Nat) : Int))) + 1)) then
    (if 0 ≤ b.length ∧ b.length ≤ rshifted2.length then
    ((g_exact_digit N ((j).toNat) ((w64 ((w64 (j + (((b.length - 0) : Nat) : Int))) + 1)).toNat - (j).toNat) ((rshifted2.take b.length).drop 0) u).bind fun rdigit =>
    (if rdigit.2.length = u.length then
    (if 0 ≤ j ∧ j < ((q.length : Nat) : Int) then
    g_exact_divide_L1 N b rLeadingZeros rshifted2 fuel (q.set ((j).toNat) rdigit.1) rdigit.2 (w64 (j - 1))
    else none)
    else none))
    else none)
    else none)
    else none)
    else none))
    ((if 0 ≤ (((b.length - 0) : Nat) : Int) ∧ (2 : Int) * (((b.length - 0) : Nat) : Int) ≤ 281474976710656 ∧ (((b.length - 0) : Nat) : Int) ≤ 9223372036854775807 then
    g_exact_divide_L2 N b rLeadingZeros q u N (List.replicate (b.length - 0) 0 : List Int) 0
    else none)))

/-- keelblock/exact.divide -/
def g_exact_divide (N : Nat) (a : List Int) (b : List Int) : Option ((List Int) × (List Int)) :=
  ((g_exact_compare N a b).bind fun rcompare =>
  (cond (decide (rcompare < 0))
  (((g_slices_Clone_uint16_uint16 N a).bind fun rClone =>
  some (([] : List Int), rClone)))
  ((cond (((b.length : Nat) : Int) == 1)
  ((if 0 ≤ (0 : Int) ∧ 0 < ((b.length : Nat) : Int) then
  ((g_exact_short N a (b.getD 0 0)).bind fun rshort =>
  ((g_exact_trim N ([rshort.2] : List Int)).bind fun rtrim =>
  some (rshort.1, rtrim)))
  else none))
  ((if 0 ≤ (w64 (((b.length : Nat) : Int) - 1)) ∧ (w64 (((b.length : Nat) : Int) - 1)) < ((b.length : Nat) : Int) then
  ((g_math_bits_LeadingZeros16 N (b.getD ((w64 (((b.length : Nat) : Int) - 1)).toNat) 0)).bind fun rLeadingZeros =>
  ((g_exact_shifted N a rLeadingZeros).bind fun rshifted =>
  ((g_exact_shifted N b rLeadingZeros).bind fun rshifted2 =>
  (if 0 ≤ b.length ∧ b.length ≤ rshifted2.length then
  (if 0 ≤ (w64 (((rshifted.length : Nat) : Int) - (((b.length - 0) : Nat) : Int))) ∧ (2 : Int) * (w64 (((rshifted.length : Nat) : Int) - (((b.length - 0) : Nat) : Int))) ≤ 281474976710656 ∧ (w64 (((rshifted.length : Nat) : Int) - (((b.length - 0) : Nat) : Int))) ≤ 9223372036854775807 then
  g_exact_divide_L1 N b rLeadingZeros rshifted2 N (List.replicate ((w64 (((rshifted.length : Nat) : Int) - (((b.length - 0) : Nat) : Int))).toNat) 0 : List Int) rshifted (w64 ((w64 (((rshifted.length : Nat) : Int) - (((b.length - 0) : Nat) : Int))) - 1))
  else none)
  else none))))
  else none))))))

def g_exact_plus_J3 (N : Nat) (a2 : List Int) (b2 : List Int) (out : List Int) (x : Int) (K_g_exact_plus_L2 : (List Int) → Int → Int → Option ((List Int))) (carry2 : Int) : Option ((List Int)) :=
  (if (out.length + 1) * 2 ≤ 140737488355328 then
  K_g_exact_plus_L2 (out ++ ([(IntKind.u16.wrap (carry2))] : List Int)) (shrI .u32 carry2 16) (w64 (x + 1))
  else none)

def g_exact_plus_L2 (N : Nat) (a2 : List Int) (b2 : List Int) : Nat → (List Int) → Int → Int → Option ((List Int))
  | 0, _, _, _ => none
  | fuel + 1, out, carry, x =>
    (cond (decide (x < ((a2.length : Nat) : Int)))
    ((if 0 ≤ x ∧ x < ((a2.length : Nat) : Int) then
    (cond (decide (x < ((b2.length : Nat) : Int)))
    ((if 0 ≤ x ∧ x < ((b2.length : Nat) : Int) then
    g_exact_plus_J3 N a2 b2 out x (g_exact_plus_L2 N a2 b2 fuel) (IntKind.u32.wrap ((IntKind.u32.wrap (carry + (IntKind.u32.wrap ((a2.getD ((x).toNat) 0))))) + (IntKind.u32.wrap ((b2.getD ((x).toNat) 0)))))
    else none))
    (g_exact_plus_J3 N a2 b2 out x (g_exact_plus_L2 N a2 b2 fuel) (IntKind.u32.wrap (carry + (IntKind.u32.wrap ((a2.getD ((x).toNat) 0)))))))
    else none))
    ((if (out.length + 1) * 2 ≤ 140737488355328 then
    ((g_exact_trim N (out ++ ([(IntKind.u16.wrap (carry))] : List Int))).bind fun rtrim =>
    some rtrim)
    else none)))

def g_exact_plus_J1 (N : Nat) (a2 : List Int) (b2 : List Int) : Option ((List Int)) :=
  (if 0 ≤ (0 : Int) ∧ (2 : Int) * (w64 (((a2.length : Nat) : Int) + 1)) ≤ 281474976710656 ∧ (w64 (((a2.length : Nat) : Int) + 1)) ≤ 9223372036854775807 ∧ (0 : Int) ≤ (w64 (((a2.length : Nat) : Int) + 1)) then
  g_exact_plus_L2 N a2 b2 N (List.replicate 0 0 : List Int) 0 0
  else none)

/-- keelblock/exact.plus -/
def g_exact_plus (N : Nat) (a : List Int) (b : List Int) : Option ((List Int)) :=
  (cond (decide (((a.length : Nat) : Int) < ((b.length : Nat) : Int)))
  (g_exact_plus_J1 N b a)
  (g_exact_plus_J1 N a b))

def g_exact_minus_J3 (N : Nat) (a : List Int) (b : List Int) (out : List Int) (x : Int) (y : Int) (K_g_exact_minus_L1 : (List Int) → Int → Int → Option ((List Int))) (borrow2 : Int) : Option ((List Int)) :=
  (if 0 ≤ x ∧ x < ((out.length : Nat) : Int) then
  K_g_exact_minus_L1 (out.set ((x).toNat) (IntKind.u16.wrap ((IntKind.u32.wrap ((IntKind.u32.wrap ((IntKind.u32.wrap ((a.getD ((x).toNat) 0))) + (shlI .u32 borrow2 16))) - y))))) borrow2 (w64 (x + 1))
  else none)

def g_exact_minus_J2 (N : Nat) (a : List Int) (b : List Int) (out : List Int) (x : Int) (K_g_exact_minus_L1 : (List Int) → Int → Int → Option ((List Int))) (y : Int) : Option ((List Int)) :=
  (cond (decide ((IntKind.u32.wrap ((a.getD ((x).toNat) 0))) < y))
  (g_exact_minus_J3 N a b out x y K_g_exact_minus_L1 1)
  (g_exact_minus_J3 N a b out x y K_g_exact_minus_L1 0))

def g_exact_minus_L1 (N : Nat) (a : List Int) (b : List Int) : Nat → (List Int) → Int → Int → Option ((List Int))
  | 0, _, _, _ => none
  | fuel + 1, out, borrow, x =>
    (cond (decide (x < ((a.length : Nat) : Int)))
    ((if 0 ≤ x ∧ x < ((a.length : Nat) : Int) then
    (cond (decide (x < ((b.length : Nat) : Int)))
    ((if 0 ≤ x ∧ x < ((b.length : Nat) : Int) then
    g_exact_minus_J2 N a b out x (g_exact_minus_L1 N a b fuel) (IntKind.u32.wrap (borrow + (IntKind.u32.wrap ((b.getD ((x).toNat) 0)))))
    else none))
    (g_exact_minus_J2 N a b out x (g_exact_minus_L1 N a b fuel) borrow))
    else none))
    (((g_exact_trim N out).bind fun rtrim =>
    some rtrim)))

/-- keelblock/exact.minus -/
def g_exact_minus (N : Nat) (a : List Int) (b : List Int) : Option ((List Int)) :=
  (if 0 ≤ ((a.length : Nat) : Int) ∧ (2 : Int) * ((a.length : Nat) : Int) ≤ 281474976710656 ∧ ((a.length : Nat) : Int) ≤ 9223372036854775807 then
  g_exact_minus_L1 N a b N (List.replicate a.length 0 : List Int) 0 0
  else none)

/-- keelblock/exact.signed -/
def g_exact_signed (N : Nat) (neg : Bool) (n : List Int) : Option (Tapi_Int) :=
  ((g_exact_trim N n).bind fun rtrim =>
  (cond (((rtrim.length : Nat) : Int) == 0)
  (some (⟨false, ([] : List Int)⟩ : Tapi_Int))
  (((g_slices_Clone_uint16_uint16 N rtrim).bind fun rClone =>
  some (⟨neg, rClone⟩ : Tapi_Int)))))

def g_exact_DivMod_J1 (N : Nat) (a : Tapi_Int) (b : Tapi_Int) (n : List Int) (rest : List Int) : Option (Tapi_Int × Tapi_Int × Int) :=
  ((g_exact_signed N (!(a.f_Neg == b.f_Neg)) n).bind fun rsigned =>
  ((g_exact_signed N false rest).bind fun rsigned2 =>
  some (rsigned, rsigned2, 0)))

/-- keelblock/exact.DivMod -/
def g_exact_DivMod (N : Nat) (a : Tapi_Int) (b : Tapi_Int) : Option (Tapi_Int × Tapi_Int × Int) :=
  ((g_exact_trim N a.f_Limbs).bind fun rtrim =>
  ((g_exact_trim N b.f_Limbs).bind fun rtrim2 =>
  (cond (((rtrim2.length : Nat) : Int) == 0)
  (some ((⟨false, ([] : List Int)⟩ : Tapi_Int), (⟨false, ([] : List Int)⟩ : Tapi_Int), 9))
  (((g_exact_divide N rtrim rtrim2).bind fun rdivide =>
  (cond (cond a.f_Neg (decide (((rdivide.2.length : Nat) : Int) > 0)) false)
  (((g_exact_plus N rdivide.1 ([1] : List Int)).bind fun rplus =>
  ((g_exact_minus N rtrim2 rdivide.2).bind fun rminus =>
  g_exact_DivMod_J1 N a b rplus rminus)))
  (g_exact_DivMod_J1 N a b rdivide.1 rdivide.2)))))))

def g_exact_natural_L1 (N : Nat) : Nat → Int → (List Int) → Option ((List Int))
  | 0, _, _ => none
  | fuel + 1, n2, out =>
    (cond (decide (n2 > 0))
    ((if (out.length + 1) * 2 ≤ 140737488355328 then
    g_exact_natural_L1 N fuel (shrI .u64 n2 16) (out ++ ([(IntKind.u16.wrap (n2))] : List Int))
    else none))
    (some out))

/-- keelblock/exact.natural -/
def g_exact_natural (N : Nat) (n : Int) : Option ((List Int)) :=
  g_exact_natural_L1 N N n ([] : List Int)

/-- keelblock/exact.Of -/
def g_exact_Of (N : Nat) (n : Int) : Option (Tapi_Int) :=
  (cond (decide (n < 0))
  (((g_exact_natural N (IntKind.u64.wrap (0 - (IntKind.u64.wrap (n))))).bind fun rnatural =>
  ((g_exact_signed N true rnatural).bind fun rsigned =>
  some rsigned)))
  (((g_exact_natural N (IntKind.u64.wrap (n))).bind fun rnatural2 =>
  ((g_exact_signed N false rnatural2).bind fun rsigned2 =>
  some rsigned2))))

def g_exact_word_L1 (N : Nat) (n : List Int) : Nat → Int → Int → Option (Int × Bool)
  | 0, _, _ => none
  | fuel + 1, out, i =>
    (cond (decide (i ≥ 0))
    ((if 0 ≤ i ∧ i < ((n.length : Nat) : Int) then
    g_exact_word_L1 N n fuel (orI .u64 (shlI .u64 out 16) (IntKind.u64.wrap ((n.getD ((i).toNat) 0)))) (w64 (i - 1))
    else none))
    (some (out, true)))

/-- keelblock/exact.word -/
def g_exact_word (N : Nat) (n : List Int) : Option (Int × Bool) :=
  (cond (decide (((n.length : Nat) : Int) > 4))
  (some (0, false))
  (g_exact_word_L1 N n N 0 (w64 (((n.length : Nat) : Int) - 1))))

def g_exact_common_L2 (N : Nat) (K_g_exact_common_L1 : (List Int) → (List Int) → Option ((List Int))) : Nat → Int → Int → Option ((List Int))
  | 0, _, _ => none
  | fuel + 1, x, y =>
    (cond (decide (y > 0))
    ((if (y : Int) ≠ 0 then
    g_exact_common_L2 N K_g_exact_common_L1 fuel y (x.tmod y)
    else none))
    (((g_exact_natural N x).bind fun rnatural =>
    some rnatural)))

def g_exact_common_L1 (N : Nat) : Nat → (List Int) → (List Int) → Option ((List Int))
  | 0, _, _ => none
  | fuel + 1, a2, b2 =>
    (cond (decide (((b2.length : Nat) : Int) > 0))
    (((g_exact_word N a2).bind fun rword =>
    ((g_exact_word N b2).bind fun rword2 =>
    (cond (cond rword.2 rword2.2 false)
    (g_exact_common_L2 N (g_exact_common_L1 N fuel) N rword.1 rword2.1)
    (((g_exact_divide N a2 b2).bind fun rdivide =>
    g_exact_common_L1 N fuel b2 rdivide.2))))))
    (some a2))

/-- keelblock/exact.common -/
def g_exact_common (N : Nat) (a : List Int) (b : List Int) : Option ((List Int)) :=
  g_exact_common_L1 N N a b

def g_exact_fraction_J1 (N : Nat) (a : Tapi_Int) (b : Tapi_Int) (x : List Int) (y : List Int) : Option (Tapi_Rat) :=
  ((g_exact_signed N (!(a.f_Neg == b.f_Neg)) x).bind fun rsigned =>
  ((g_exact_signed N false y).bind fun rsigned2 =>
  some (⟨rsigned, rsigned2⟩ : Tapi_Rat)))

/-- keelblock/exact.fraction -/
def g_exact_fraction (N : Nat) (a : Tapi_Int) (b : Tapi_Int) : Option (Tapi_Rat) :=
  ((g_exact_trim N a.f_Limbs).bind fun rtrim =>
  ((g_exact_trim N b.f_Limbs).bind fun rtrim2 =>
  ((g_exact_common N rtrim rtrim2).bind fun rcommon =>
  (if ((!(((rcommon.length : Nat) : Int) != 1)) = true → 0 ≤ (0 : Int) ∧ 0 < ((rcommon.length : Nat) : Int)) then
  (cond (cond (((rcommon.length : Nat) : Int) != 1) true ((rcommon.getD 0 0) != 1))
  (((g_exact_divide N rtrim rcommon).bind fun rdivide =>
  ((g_exact_divide N rtrim2 rcommon).bind fun rdivide2 =>
  g_exact_fraction_J1 N a b rdivide.1 rdivide2.1)))
  (g_exact_fraction_J1 N a b rtrim rtrim2))
  else none))))

/-- keelblock/exact.Ratio -/
def g_exact_Ratio (N : Nat) (a : Int) (b : Int) : Option (Tapi_Rat × Int) :=
  (cond (b == 0)
  (some ((⟨(⟨false, ([] : List Int)⟩ : Tapi_Int), (⟨false, ([] : List Int)⟩ : Tapi_Int)⟩ : Tapi_Rat), 9))
  (((g_exact_Of N a).bind fun rOf =>
  ((g_exact_Of N b).bind fun rOf2 =>
  ((g_exact_fraction N rOf rOf2).bind fun rfraction =>
  some (rfraction, 0))))))

/-- keelblock/keelblockbase.W -/
def g_keelblockbase_W (N : Nat) (n : Int) : Option (Tapi_Rat) :=
  ((g_keelblockbase_Z N n).bind fun rZ =>
  ((g_keelblockbase_Z N 1).bind fun rZ2 =>
  some (⟨rZ, rZ2⟩ : Tapi_Rat)))

def g_keelblockbase_Ws_L1 (N : Nat) (l : List Int) : Nat → (List Tapi_Rat) → Int → Option ((List Tapi_Rat))
  | 0, _, _ => none
  | fuel + 1, out, i =>
    (cond (decide (i < ((l.length : Nat) : Int)))
    ((if 0 ≤ i ∧ i < ((l.length : Nat) : Int) then
    ((g_keelblockbase_W N (l.getD ((i).toNat) 0)).bind fun rW =>
    (if (out.length + 1) * 64 ≤ 140737488355328 then
    g_keelblockbase_Ws_L1 N l fuel (out ++ ([rW] : List Tapi_Rat)) (w64 (i + 1))
    else none))
    else none))
    (some out))

/-- keelblock/keelblockbase.Ws -/
def g_keelblockbase_Ws (N : Nat) (l : List Int) : Option ((List Tapi_Rat)) :=
  g_keelblockbase_Ws_L1 N l N ([] : List Tapi_Rat) 0

/-- keelblock/exact.sign -/
def g_exact_sign (N : Nat) (a : Tapi_Int) : Option (Int) :=
  ((g_exact_trim N a.f_Limbs).bind fun rtrim =>
  (cond (((rtrim.length : Nat) : Int) == 0)
  (some 0)
  ((cond a.f_Neg
  (some (-1))
  (some 1)))))

/-- keelblock/exact.below -/
def g_exact_below (N : Nat) (x : Tapi_Rat) : Option (Tapi_Int) :=
  ((g_exact_sign N x.f_Den).bind fun rsign =>
  (cond (rsign == 0)
  (some (⟨false, ([1] : List Int)⟩ : Tapi_Int))
  (some x.f_Den)))

/-- keelblock/exact.signOf -/
def g_exact_signOf (N : Nat) (x : Tapi_Rat) : Option (Int) :=
  ((g_exact_sign N x.f_Num).bind fun rsign =>
  ((g_exact_below N x).bind fun rbelow =>
  ((g_exact_sign N rbelow).bind fun rsign2 =>
  some (w64 (rsign * rsign2)))))

def g_exact_CheckCurve_L1 (N : Nat) (c : Tapi_Curve) : Nat → Int → Option (Int)
  | 0, _ => none
  | fuel + 1, x =>
    (cond (decide (x < ((c.f_Starts.length : Nat) : Int)))
    ((if 0 ≤ x ∧ x < ((c.f_Starts.length : Nat) : Int) then
    (if ((!(cond (decide ((c.f_Starts.getD ((x).toNat) 0) < (-10000000))) true (decide ((c.f_Starts.getD ((x).toNat) 0) > 10000000)))) = true → 0 ≤ x ∧ x < ((c.f_Slopes.length : Nat) : Int)) then
    ((cond (!(cond (decide ((c.f_Starts.getD ((x).toNat) 0) < (-10000000))) true (decide ((c.f_Starts.getD ((x).toNat) 0) > 10000000)))) (g_exact_signOf N (⟨((c.f_Slopes.getD ((x).toNat) Tapi_Rat.d).f_Num), ((c.f_Slopes.getD ((x).toNat) Tapi_Rat.d).f_Den)⟩ : Tapi_Rat)) (some 0)).bind fun rsignOf =>
    (cond (cond (cond (decide ((c.f_Starts.getD ((x).toNat) 0) < (-10000000))) true (decide ((c.f_Starts.getD ((x).toNat) 0) > 10000000))) true (decide (rsignOf < 0)))
    (some 2)
    ((if ((decide (x > 0)) = true → 0 ≤ (w64 (x - 1)) ∧ (w64 (x - 1)) < ((c.f_Starts.length : Nat) : Int)) then
    (cond (cond (decide (x > 0)) (decide ((c.f_Starts.getD ((x).toNat) 0) ≤ (c.f_Starts.getD ((w64 (x - 1)).toNat) 0))) false)
    (some 10)
    (g_exact_CheckCurve_L1 N c fuel (w64 (x + 1))))
    else none))))
    else none)
    else none))
    (some 0))

/-- keelblock/exact.CheckCurve -/
def g_exact_CheckCurve (N : Nat) (c : Tapi_Curve) : Option (Int) :=
  (cond (decide (((c.f_Starts.length : Nat) : Int) > 40))
  (some 8)
  ((cond (((c.f_Slopes.length : Nat) : Int) != ((c.f_Starts.length : Nat) : Int))
  (some 11)
  (g_exact_CheckCurve_L1 N c N 0))))

/-- keelblock/exact.Whole -/
def g_exact_Whole (N : Nat) (a : Tapi_Int) : Option (Tapi_Rat) :=
  ((g_exact_fraction N a (⟨false, ([1] : List Int)⟩ : Tapi_Int)).bind fun rfraction =>
  some rfraction)

/-- keelblock/exact.number -/
def g_exact_number (N : Nat) (n : Int) : Option (Tapi_Rat) :=
  ((g_exact_Of N n).bind fun rOf =>
  ((g_exact_Whole N rOf).bind fun rWhole =>
  some rWhole))

/-- keelblock/exact.ramps -/
def g_exact_ramps (N : Nat) (c : Tapi_Curve) (y : Tapi_Rat) : Option (Tapi_Curve × Tapi_Rat) :=
  some (c, y)

def g_exact_times_L2 (N : Nat) (a : List Int) (b : List Int) (x : Int) (K_g_exact_times_L1 : (List Int) → Int → Option ((List Int))) : Nat → (List Int) → Int → Int → Option ((List Int))
  | 0, _, _, _ => none
  | fuel + 1, out2, carry, x2 =>
    (cond (decide (x2 < ((b.length : Nat) : Int)))
    ((if 0 ≤ x2 ∧ x2 < ((b.length : Nat) : Int) then
    (if 0 ≤ (w64 (x + x2)) ∧ (w64 (x + x2)) < ((out2.length : Nat) : Int) then
    g_exact_times_L2 N a b x K_g_exact_times_L1 fuel (out2.set ((w64 (x + x2)).toNat) (IntKind.u16.wrap ((IntKind.u32.wrap (carry + (IntKind.u32.wrap ((IntKind.u32.wrap ((IntKind.u32.wrap ((a.getD ((x).toNat) 0))) * (IntKind.u32.wrap ((b.getD ((x2).toNat) 0))))) + (IntKind.u32.wrap ((out2.getD ((w64 (x + x2)).toNat) 0)))))))))) (shrI .u32 (IntKind.u32.wrap (carry + (IntKind.u32.wrap ((IntKind.u32.wrap ((IntKind.u32.wrap ((a.getD ((x).toNat) 0))) * (IntKind.u32.wrap ((b.getD ((x2).toNat) 0))))) + (IntKind.u32.wrap ((out2.getD ((w64 (x + x2)).toNat) 0))))))) 16) (w64 (x2 + 1))
    else none)
    else none))
    ((if 0 ≤ (w64 (x + ((b.length : Nat) : Int))) ∧ (w64 (x + ((b.length : Nat) : Int))) < ((out2.length : Nat) : Int) then
    K_g_exact_times_L1 (out2.set ((w64 (x + ((b.length : Nat) : Int))).toNat) (IntKind.u16.wrap (carry))) (w64 (x + 1))
    else none)))

def g_exact_times_L1 (N : Nat) (a : List Int) (b : List Int) : Nat → (List Int) → Int → Option ((List Int))
  | 0, _, _ => none
  | fuel + 1, out, x =>
    (cond (decide (x < ((a.length : Nat) : Int)))
    ((if 0 ≤ x ∧ x < ((a.length : Nat) : Int) then
    g_exact_times_L2 N a b x (g_exact_times_L1 N a b fuel) N out 0 0
    else none))
    (((g_exact_trim N out).bind fun rtrim =>
    some rtrim)))

/-- keelblock/exact.times -/
def g_exact_times (N : Nat) (a : List Int) (b : List Int) : Option ((List Int)) :=
  (if 0 ≤ (w64 (((a.length : Nat) : Int) + ((b.length : Nat) : Int))) ∧ (2 : Int) * (w64 (((a.length : Nat) : Int) + ((b.length : Nat) : Int))) ≤ 281474976710656 ∧ (w64 (((a.length : Nat) : Int) + ((b.length : Nat) : Int))) ≤ 9223372036854775807 then
  g_exact_times_L1 N a b N (List.replicate ((w64 (((a.length : Nat) : Int) + ((b.length : Nat) : Int))).toNat) 0 : List Int) 0
  else none)

/-- keelblock/exact.Mul -/
def g_exact_Mul (N : Nat) (a : Tapi_Int) (b : Tapi_Int) : Option (Tapi_Int) :=
  ((g_exact_trim N a.f_Limbs).bind fun rtrim =>
  ((g_exact_trim N b.f_Limbs).bind fun rtrim2 =>
  ((g_exact_times N rtrim rtrim2).bind fun rtimes =>
  ((g_exact_signed N (!(a.f_Neg == b.f_Neg)) rtimes).bind fun rsigned =>
  some rsigned))))

/-- keelblock/exact.MulRat -/
def g_exact_MulRat (N : Nat) (x : Tapi_Rat) (y : Tapi_Rat) : Option (Tapi_Rat) :=
  ((g_exact_Mul N x.f_Num y.f_Num).bind fun rMul =>
  ((g_exact_below N x).bind fun rbelow =>
  ((g_exact_below N y).bind fun rbelow2 =>
  ((g_exact_Mul N rbelow rbelow2).bind fun rMul2 =>
  ((g_exact_fraction N rMul rMul2).bind fun rfraction =>
  some rfraction)))))

/-- keelblock/exact.isZero -/
def g_exact_isZero (N : Nat) (x : Tapi_Rat) : Option (Bool) :=
  ((g_exact_sign N x.f_Num).bind fun rsign =>
  some (rsign == 0))

/-- keelblock/exact.lowest -/
def g_exact_lowest (N : Nat) (x : Tapi_Rat) : Option (Tapi_Rat) :=
  ((g_exact_below N x).bind fun rbelow =>
  ((g_exact_fraction N x.f_Num rbelow).bind fun rfraction =>
  some rfraction))

/-- keelblock/exact.Add -/
def g_exact_Add (N : Nat) (a : Tapi_Int) (b : Tapi_Int) : Option (Tapi_Int) :=
  ((g_exact_trim N a.f_Limbs).bind fun rtrim =>
  ((g_exact_trim N b.f_Limbs).bind fun rtrim2 =>
  (cond (a.f_Neg == b.f_Neg)
  (((g_exact_plus N rtrim rtrim2).bind fun rplus =>
  ((g_exact_signed N a.f_Neg rplus).bind fun rsigned =>
  some rsigned)))
  (((g_exact_compare N rtrim rtrim2).bind fun rcompare =>
  (cond (decide (rcompare ≥ 0))
  (((g_exact_minus N rtrim rtrim2).bind fun rminus =>
  ((g_exact_signed N a.f_Neg rminus).bind fun rsigned2 =>
  some rsigned2)))
  (((g_exact_minus N rtrim2 rtrim).bind fun rminus2 =>
  ((g_exact_signed N b.f_Neg rminus2).bind fun rsigned3 =>
  some rsigned3)))))))))

/-- keelblock/exact.AddRat -/
def g_exact_AddRat (N : Nat) (x : Tapi_Rat) (y : Tapi_Rat) : Option (Tapi_Rat) :=
  ((g_exact_isZero N x).bind fun risZero =>
  (cond risZero
  (((g_exact_lowest N y).bind fun rlowest =>
  some rlowest))
  (((g_exact_isZero N y).bind fun risZero2 =>
  (cond risZero2
  (((g_exact_lowest N x).bind fun rlowest2 =>
  some rlowest2))
  (((g_exact_below N x).bind fun rbelow =>
  ((g_exact_below N y).bind fun rbelow2 =>
  ((g_exact_Mul N x.f_Num rbelow2).bind fun rMul =>
  ((g_exact_Mul N y.f_Num rbelow).bind fun rMul2 =>
  ((g_exact_Add N rMul rMul2).bind fun rAdd =>
  ((g_exact_Mul N rbelow rbelow2).bind fun rMul3 =>
  ((g_exact_fraction N rAdd rMul3).bind fun rfraction =>
  some rfraction)))))))))))))

/-- keelblock/exact.opposite -/
def g_exact_opposite (N : Nat) (a : Tapi_Int) : Option (Tapi_Int) :=
  some (⟨(!a.f_Neg), a.f_Limbs⟩ : Tapi_Int)

/-- keelblock/exact.negative -/
def g_exact_negative (N : Nat) (x : Tapi_Rat) : Option (Tapi_Rat) :=
  ((g_exact_opposite N x.f_Num).bind fun ropposite =>
  ((g_exact_below N x).bind fun rbelow =>
  ((g_exact_fraction N ropposite rbelow).bind fun rfraction =>
  some rfraction)))

/-- keelblock/exact.SubRat -/
def g_exact_SubRat (N : Nat) (x : Tapi_Rat) (y : Tapi_Rat) : Option (Tapi_Rat) :=
  ((g_exact_negative N y).bind fun rnegative =>
  ((g_exact_AddRat N x rnegative).bind fun rAddRat =>
  some rAddRat))

def g_exact_ramps_1_L1 (N : Nat) (RD : Tapi_Rat → Tapi_Rat → Tapi_Rat → Option Tapi_Rat) (cap1 : Tapi_Curve) (cap2 : Tapi_Rat) : Nat → Tapi_Rat → Tapi_Rat → Int → Option (Tapi_Rat)
  | 0, _, _, _ => none
  | fuel + 1, cap02, before, x =>
    (cond (decide (x < ((cap1.f_Starts.length : Nat) : Int)))
    ((if 0 ≤ x ∧ x < ((cap1.f_Starts.length : Nat) : Int) then
    ((g_exact_number N (cap1.f_Starts.getD ((x).toNat) 0)).bind fun rnumber2 =>
    ((g_exact_SubRat N cap2 rnumber2).bind fun rSubRat =>
    ((g_exact_signOf N rSubRat).bind fun rsignOf =>
    (if ((!(decide (rsignOf < 0))) = true → 0 ≤ x ∧ x < ((cap1.f_Slopes.length : Nat) : Int)) then
    ((cond (!(decide (rsignOf < 0))) (g_exact_SubRat N (⟨((cap1.f_Slopes.getD ((x).toNat) Tapi_Rat.d).f_Num), ((cap1.f_Slopes.getD ((x).toNat) Tapi_Rat.d).f_Den)⟩ : Tapi_Rat) before) (some Tapi_Rat.d)).bind fun rSubRat2 =>
    (cond (!(decide (rsignOf < 0)))
    (((RD rSubRat2 rSubRat cap02).bind fun ry =>
    (cond (cond (decide (rsignOf < 0)) true (!true))
    (some ry)
    ((if 0 ≤ x ∧ x < ((cap1.f_Slopes.length : Nat) : Int) then
    g_exact_ramps_1_L1 N RD cap1 cap2 fuel ry (⟨((cap1.f_Slopes.getD ((x).toNat) Tapi_Rat.d).f_Num), ((cap1.f_Slopes.getD ((x).toNat) Tapi_Rat.d).f_Den)⟩ : Tapi_Rat) (w64 (x + 1))
    else none)))))
    ((cond (cond (decide (rsignOf < 0)) true false)
    (some cap02)
    ((if 0 ≤ x ∧ x < ((cap1.f_Slopes.length : Nat) : Int) then
    g_exact_ramps_1_L1 N RD cap1 cap2 fuel cap02 (⟨((cap1.f_Slopes.getD ((x).toNat) Tapi_Rat.d).f_Num), ((cap1.f_Slopes.getD ((x).toNat) Tapi_Rat.d).f_Den)⟩ : Tapi_Rat) (w64 (x + 1))
    else none))))))
    else none))))
    else none))
    (some cap02))

/-- keelblock/exact.ramps 1 -/
def g_exact_ramps_1 (N : Nat) (RD : Tapi_Rat → Tapi_Rat → Tapi_Rat → Option Tapi_Rat) (cap0 : Tapi_Rat) (cap1 : Tapi_Curve) (cap2 : Tapi_Rat) : Option (Tapi_Rat) :=
  ((g_exact_number N 0).bind fun rnumber =>
  g_exact_ramps_1_L1 N RD cap1 cap2 N cap0 rnumber 0)

def g_exact_Value_R (N : Nat) (change : Tapi_Rat) (far : Tapi_Rat) (sum : Tapi_Rat) : Option Tapi_Rat :=
  ((g_exact_MulRat N change far).bind fun rMulRat =>
  ((g_exact_AddRat N sum rMulRat).bind fun rAddRat =>
  some rAddRat))

/-- keelblock/exact.Value -/
def g_exact_Value (N : Nat) (c : Tapi_Curve) (y : Tapi_Rat) : Option (Tapi_Rat × Int) :=
  ((g_exact_CheckCurve N c).bind fun rCheckCurve =>
  (cond (rCheckCurve != 0)
  (some ((⟨(⟨false, ([] : List Int)⟩ : Tapi_Int), (⟨false, ([] : List Int)⟩ : Tapi_Int)⟩ : Tapi_Rat), rCheckCurve))
  (((g_exact_number N 0).bind fun rnumber =>
  ((g_exact_ramps N c y).bind fun rramps =>
  ((g_exact_ramps_1 N (g_exact_Value_R N) rnumber rramps.1 rramps.2).bind fun rr =>
  some (rr, 0)))))))

def g_keelblockbase_SameInt_L1 (N : Nat) (a : Tapi_Int) (b : Tapi_Int) : Nat → Int → Option (Bool)
  | 0, _ => none
  | fuel + 1, i =>
    (cond (decide (i < ((a.f_Limbs.length : Nat) : Int)))
    ((if 0 ≤ i ∧ i < ((a.f_Limbs.length : Nat) : Int) then
    (if 0 ≤ i ∧ i < ((b.f_Limbs.length : Nat) : Int) then
    (cond ((a.f_Limbs.getD ((i).toNat) 0) != (b.f_Limbs.getD ((i).toNat) 0))
    (some false)
    (g_keelblockbase_SameInt_L1 N a b fuel (w64 (i + 1))))
    else none)
    else none))
    (some true))

/-- keelblock/keelblockbase.SameInt -/
def g_keelblockbase_SameInt (N : Nat) (a : Tapi_Int) (b : Tapi_Int) : Option (Bool) :=
  (cond (cond (!(a.f_Neg == b.f_Neg)) true (((a.f_Limbs.length : Nat) : Int) != ((b.f_Limbs.length : Nat) : Int)))
  (some false)
  (g_keelblockbase_SameInt_L1 N a b N 0))

def g_keelblockbase_Q_L2 (N : Nat) (a2 : Int) (b2 : Int) : Nat → Int → Int → Option (Tapi_Rat)
  | 0, _, _ => none
  | fuel + 1, x, y =>
    (cond (decide (y > 0))
    ((if (y : Int) ≠ 0 then
    g_keelblockbase_Q_L2 N a2 b2 fuel y (x.tmod y)
    else none))
    ((if (x : Int) ≠ 0 then
    ((g_keelblockbase_Z N (w64 (a2.tdiv x))).bind fun rZ =>
    ((g_keelblockbase_Z N (w64 (b2.tdiv x))).bind fun rZ2 =>
    some (⟨rZ, rZ2⟩ : Tapi_Rat)))
    else none)))

def g_keelblockbase_Q_J1 (N : Nat) (a2 : Int) (b2 : Int) : Option (Tapi_Rat) :=
  (cond (decide (a2 < 0))
  (g_keelblockbase_Q_L2 N a2 b2 N (w64 (0 - a2)) b2)
  (g_keelblockbase_Q_L2 N a2 b2 N a2 b2))

/-- keelblock/keelblockbase.Q -/
def g_keelblockbase_Q (N : Nat) (a : Int) (b : Int) : Option (Tapi_Rat) :=
  (cond (decide (b < 0))
  (g_keelblockbase_Q_J1 N (w64 (0 - a)) (w64 (0 - b)))
  (g_keelblockbase_Q_J1 N a b))

/-- keelblock/keelblockbase.SameRat -/
def g_keelblockbase_SameRat (N : Nat) (a : Tapi_Rat) (b : Tapi_Rat) : Option (Bool) :=
  ((g_keelblockbase_SameInt N a.f_Num b.f_Num).bind fun rSameInt =>
  ((cond rSameInt (g_keelblockbase_SameInt N a.f_Den b.f_Den) (some false)).bind fun rSameInt2 =>
  some (cond rSameInt rSameInt2 false)))

/-- keelblock/keelblocklaw01.awake -/
def g_w01_awake (N : Nat) : Option (Bool) :=
  ((g_keelblockbase_Z N (-7)).bind fun rZ =>
  ((g_keelblockbase_Z N 2).bind fun rZ2 =>
  ((g_exact_DivMod N rZ rZ2).bind fun rDivMod =>
  ((g_exact_Ratio N 6 (-4)).bind fun rRatio =>
  ((g_keelblockbase_Ws N ([2, 0] : List Int)).bind fun rWs =>
  ((g_keelblockbase_W N 5).bind fun rW =>
  ((g_exact_Value N (⟨([0, 10] : List Int), rWs⟩ : Tapi_Curve) rW).bind fun rValue =>
  ((cond (rDivMod.2.2 == 0) (g_keelblockbase_Z N (-4)) (some Tapi_Int.d)).bind fun rZ3 =>
  ((cond (rDivMod.2.2 == 0) (g_keelblockbase_SameInt N rDivMod.1 rZ3) (some false)).bind fun rSameInt =>
  ((cond (cond (rDivMod.2.2 == 0) rSameInt false) (g_keelblockbase_Z N 1) (some Tapi_Int.d)).bind fun rZ4 =>
  ((cond (cond (rDivMod.2.2 == 0) rSameInt false) (g_keelblockbase_SameInt N rDivMod.2.1 rZ4) (some false)).bind fun rSameInt2 =>
  ((cond (cond (cond (cond (rDivMod.2.2 == 0) rSameInt false) rSameInt2 false) (rRatio.2 == 0) false) (g_keelblockbase_Q N (-3) 2) (some Tapi_Rat.d)).bind fun rQ =>
  ((cond (cond (cond (cond (rDivMod.2.2 == 0) rSameInt false) rSameInt2 false) (rRatio.2 == 0) false) (g_keelblockbase_SameRat N rRatio.1 rQ) (some false)).bind fun rSameRat =>
  ((cond (cond (cond (cond (cond (cond (rDivMod.2.2 == 0) rSameInt false) rSameInt2 false) (rRatio.2 == 0) false) rSameRat false) (rValue.2 == 0) false) (g_keelblockbase_W N 10) (some Tapi_Rat.d)).bind fun rW2 =>
  ((cond (cond (cond (cond (cond (cond (rDivMod.2.2 == 0) rSameInt false) rSameInt2 false) (rRatio.2 == 0) false) rSameRat false) (rValue.2 == 0) false) (g_keelblockbase_SameRat N rValue.1 rW2) (some false)).bind fun rSameRat2 =>
  some (cond (cond (cond (cond (cond (cond (rDivMod.2.2 == 0) rSameInt false) rSameInt2 false) (rRatio.2 == 0) false) rSameRat false) (rValue.2 == 0) false) rSameRat2 false))))))))))))))))

/-- keelblock/exact.Sub -/
def g_exact_Sub (N : Nat) (a : Tapi_Int) (b : Tapi_Int) : Option (Tapi_Int) :=
  ((g_exact_opposite N b).bind fun ropposite =>
  ((g_exact_Add N a ropposite).bind fun rAdd =>
  some rAdd))

/-- keelblock/exact.Cmp -/
def g_exact_Cmp (N : Nat) (a : Tapi_Int) (b : Tapi_Int) : Option (Int) :=
  ((g_exact_Sub N a b).bind fun rSub =>
  ((g_exact_sign N rSub).bind fun rsign =>
  some rsign))

/-- keelblock/exact.Small -/
def g_exact_Small (N : Nat) (a : Tapi_Int) : Option (Int × Bool) :=
  ((g_exact_trim N a.f_Limbs).bind fun rtrim =>
  ((g_exact_word N rtrim).bind fun rword =>
  (cond (!rword.2)
  (some (0, false))
  ((cond (cond a.f_Neg (decide (rword.1 ≤ 9223372036854775808)) false)
  (some ((w64 ((IntKind.u64.wrap (0 - rword.1)))), true))
  ((cond (cond (!a.f_Neg) (decide (rword.1 ≤ 9223372036854775807)) false)
  (some ((w64 (rword.1)), true))
  (some (0, false)))))))))

def g_r01_trim_L1 (N : Nat) (a : List Int) : Nat → Int → Option ((List Int))
  | 0, _ => none
  | fuel + 1, n =>
    (if ((decide (n > 0)) = true → 0 ≤ (w64 (n - 1)) ∧ (w64 (n - 1)) < ((a.length : Nat) : Int)) then
    (cond (cond (decide (n > 0)) ((a.getD ((w64 (n - 1)).toNat) 0) == 0) false)
    (g_r01_trim_L1 N a fuel (w64 (n - 1)))
    ((if 0 ≤ (n).toNat ∧ (n).toNat ≤ a.length then
    (if 0 ≤ n then
    (if (0 + (n).toNat - 0) * 8 ≤ 140737488355328 then
    some (([] : List Int) ++ ((a.take ((n).toNat)).drop 0))
    else none)
    else none)
    else none)))
    else none)

/-- keelblock/keelblockref01.trim -/
def g_r01_trim (N : Nat) (a : List Int) : Option ((List Int)) :=
  g_r01_trim_L1 N a N ((a.length : Nat) : Int)

def g_r01_read_L1 (N : Nat) (l : List Int) : Nat → (List Int) → Int → Option ((List Int))
  | 0, _, _ => none
  | fuel + 1, a, i =>
    (cond (decide (i < ((l.length : Nat) : Int)))
    ((if 0 ≤ i ∧ i < ((l.length : Nat) : Int) then
    (if (a.length + 1) * 8 ≤ 140737488355328 then
    g_r01_read_L1 N l fuel (a ++ ([(w64 ((l.getD ((i).toNat) 0)))] : List Int)) (w64 (i + 1))
    else none)
    else none))
    (((g_r01_trim N a).bind fun rtrim =>
    some rtrim)))

/-- keelblock/keelblockref01.read -/
def g_r01_read (N : Nat) (l : List Int) : Option ((List Int)) :=
  g_r01_read_L1 N l N ([] : List Int) 0

def g_r01_made_L1 (N : Nat) (neg : Bool) (a : List Int) : Nat → (List Int) → Int → Option (Tapi_Int)
  | 0, _, _ => none
  | fuel + 1, x, i =>
    (cond (decide (i < ((a.length : Nat) : Int)))
    ((if 0 ≤ i ∧ i < ((a.length : Nat) : Int) then
    (if (x.length + 1) * 2 ≤ 140737488355328 then
    g_r01_made_L1 N neg a fuel (x ++ ([(IntKind.u16.wrap ((a.getD ((i).toNat) 0)))] : List Int)) (w64 (i + 1))
    else none)
    else none))
    (some (⟨(cond neg (decide (((a.length : Nat) : Int) > 0)) false), x⟩ : Tapi_Int)))

/-- keelblock/keelblockref01.made -/
def g_r01_made (N : Nat) (neg : Bool) (a : List Int) : Option (Tapi_Int) :=
  g_r01_made_L1 N neg a N ([] : List Int) 0

def g_r01_Of_L1 (N : Nat) (n : Int) : Nat → (List Int) → Int → Option (Tapi_Int)
  | 0, _, _ => none
  | fuel + 1, a, u =>
    (cond (decide (u > 0))
    ((if (a.length + 1) * 8 ≤ 140737488355328 then
    g_r01_Of_L1 N n fuel (a ++ ([(w64 ((u.tmod 65536)))] : List Int)) (IntKind.u64.wrap (u.tdiv 65536))
    else none))
    (((g_r01_made N (decide (n < 0)) a).bind fun rmade =>
    some rmade)))

/-- keelblock/keelblockref01.Of -/
def g_r01_Of (N : Nat) (n : Int) : Option (Tapi_Int) :=
  (cond (decide (n < 0))
  (g_r01_Of_L1 N n N ([] : List Int) (IntKind.u64.wrap (0 - (IntKind.u64.wrap (n)))))
  (g_r01_Of_L1 N n N ([] : List Int) (IntKind.u64.wrap (n))))

/-- keelblock/keelblockref01.Neg -/
def g_r01_Neg (N : Nat) (a : Tapi_Int) : Option (Tapi_Int) :=
  ((g_r01_read N a.f_Limbs).bind fun rread =>
  ((g_r01_made N (!a.f_Neg) rread).bind fun rmade =>
  some rmade))

/-- keelblock/keelblockref01.digit -/
def g_r01_digit (N : Nat) (a : List Int) (i : Int) : Option (Int) :=
  (cond (decide (i < ((a.length : Nat) : Int)))
  ((if 0 ≤ i ∧ i < ((a.length : Nat) : Int) then
  some (a.getD ((i).toNat) 0)
  else none))
  (some 0))

def g_r01_plus_L1 (N : Nat) (a : List Int) (b : List Int) : Nat → (List Int) → Int → Int → Option ((List Int))
  | 0, _, _, _ => none
  | fuel + 1, out, carry, i =>
    (cond (cond (cond (decide (i < ((a.length : Nat) : Int))) true (decide (i < ((b.length : Nat) : Int)))) true (decide (carry > 0)))
    (((g_r01_digit N a i).bind fun rdigit =>
    ((g_r01_digit N b i).bind fun rdigit2 =>
    (if (out.length + 1) * 8 ≤ 140737488355328 then
    g_r01_plus_L1 N a b fuel (out ++ ([((w64 ((w64 (rdigit + rdigit2)) + carry)).tmod 65536)] : List Int)) (w64 ((w64 ((w64 (rdigit + rdigit2)) + carry)).tdiv 65536)) (w64 (i + 1))
    else none))))
    (((g_r01_trim N out).bind fun rtrim =>
    some rtrim)))

/-- keelblock/keelblockref01.plus -/
def g_r01_plus (N : Nat) (a : List Int) (b : List Int) : Option ((List Int)) :=
  g_r01_plus_L1 N a b N ([] : List Int) 0 0

def g_r01_compare_L1 (N : Nat) (a : List Int) (b : List Int) : Nat → Int → Option (Int)
  | 0, _ => none
  | fuel + 1, i =>
    (cond (decide (i ≥ 0))
    ((if 0 ≤ i ∧ i < ((a.length : Nat) : Int) then
    (if 0 ≤ i ∧ i < ((b.length : Nat) : Int) then
    (cond ((a.getD ((i).toNat) 0) != (b.getD ((i).toNat) 0))
    (some (w64 ((a.getD ((i).toNat) 0) - (b.getD ((i).toNat) 0))))
    (g_r01_compare_L1 N a b fuel (w64 (i - 1))))
    else none)
    else none))
    (some 0))

/-- keelblock/keelblockref01.compare -/
def g_r01_compare (N : Nat) (a : List Int) (b : List Int) : Option (Int) :=
  (cond (((a.length : Nat) : Int) != ((b.length : Nat) : Int))
  (some (w64 (((a.length : Nat) : Int) - ((b.length : Nat) : Int))))
  (g_r01_compare_L1 N a b N (w64 (((a.length : Nat) : Int) - 1))))

def g_r01_minus_J2 (N : Nat) (a : List Int) (b : List Int) (out : List Int) (i : Int) (K_g_r01_minus_L1 : (List Int) → Int → Int → Option ((List Int))) (borrow2 : Int) (s : Int) : Option ((List Int)) :=
  (if (out.length + 1) * 8 ≤ 140737488355328 then
  K_g_r01_minus_L1 (out ++ ([s] : List Int)) borrow2 (w64 (i + 1))
  else none)

def g_r01_minus_L1 (N : Nat) (a : List Int) (b : List Int) : Nat → (List Int) → Int → Int → Option ((List Int))
  | 0, _, _, _ => none
  | fuel + 1, out, borrow, i =>
    (cond (decide (i < ((a.length : Nat) : Int)))
    ((if 0 ≤ i ∧ i < ((a.length : Nat) : Int) then
    ((g_r01_digit N b i).bind fun rdigit =>
    (cond (decide ((w64 ((w64 ((a.getD ((i).toNat) 0) - rdigit)) - borrow)) < 0))
    (g_r01_minus_J2 N a b out i (g_r01_minus_L1 N a b fuel) 1 (w64 ((w64 ((w64 ((a.getD ((i).toNat) 0) - rdigit)) - borrow)) + 65536)))
    (g_r01_minus_J2 N a b out i (g_r01_minus_L1 N a b fuel) 0 (w64 ((w64 ((a.getD ((i).toNat) 0) - rdigit)) - borrow)))))
    else none))
    (((g_r01_trim N out).bind fun rtrim =>
    some rtrim)))

/-- keelblock/keelblockref01.minus -/
def g_r01_minus (N : Nat) (a : List Int) (b : List Int) : Option ((List Int)) :=
  g_r01_minus_L1 N a b N ([] : List Int) 0 0

/-- keelblock/keelblockref01.Add -/
def g_r01_Add (N : Nat) (a : Tapi_Int) (b : Tapi_Int) : Option (Tapi_Int) :=
  ((g_r01_read N a.f_Limbs).bind fun rread =>
  ((g_r01_read N b.f_Limbs).bind fun rread2 =>
  (cond (a.f_Neg == b.f_Neg)
  (((g_r01_plus N rread rread2).bind fun rplus =>
  ((g_r01_made N a.f_Neg rplus).bind fun rmade =>
  some rmade)))
  (((g_r01_compare N rread rread2).bind fun rcompare =>
  (cond (decide (rcompare ≥ 0))
  (((g_r01_minus N rread rread2).bind fun rminus =>
  ((g_r01_made N a.f_Neg rminus).bind fun rmade2 =>
  some rmade2)))
  (((g_r01_minus N rread2 rread).bind fun rminus2 =>
  ((g_r01_made N b.f_Neg rminus2).bind fun rmade3 =>
  some rmade3)))))))))

/-- keelblock/keelblockref01.Sub -/
def g_r01_Sub (N : Nat) (a : Tapi_Int) (b : Tapi_Int) : Option (Tapi_Int) :=
  ((g_r01_Neg N b).bind fun rNeg =>
  ((g_r01_Add N a rNeg).bind fun rAdd =>
  some rAdd))

/-- keelblock/keelblockref01.Sign -/
def g_r01_Sign (N : Nat) (a : Tapi_Int) : Option (Int) :=
  ((g_r01_read N a.f_Limbs).bind fun rread =>
  (cond (((rread.length : Nat) : Int) == 0)
  (some 0)
  ((cond a.f_Neg
  (some (-1))
  (some 1)))))

/-- keelblock/keelblockref01.Cmp -/
def g_r01_Cmp (N : Nat) (a : Tapi_Int) (b : Tapi_Int) : Option (Int) :=
  ((g_r01_Sub N a b).bind fun rSub =>
  ((g_r01_Sign N rSub).bind fun rSign =>
  some rSign))

def g_r01_times_L2 (N : Nat) (a : List Int) (b : List Int) (i : Int) (K_g_r01_times_L1 : (List Int) → Int → Option ((List Int))) : Nat → (List Int) → Int → Int → Option ((List Int))
  | 0, _, _, _ => none
  | fuel + 1, out2, carry, k =>
    (cond (cond (decide (k < ((b.length : Nat) : Int))) true (decide (carry > 0)))
    ((if 0 ≤ (w64 (i + k)) ∧ (w64 (i + k)) < ((out2.length : Nat) : Int) then
    (if 0 ≤ i ∧ i < ((a.length : Nat) : Int) then
    ((g_r01_digit N b k).bind fun rdigit =>
    g_r01_times_L2 N a b i K_g_r01_times_L1 fuel (out2.set ((w64 (i + k)).toNat) ((w64 ((w64 ((out2.getD ((w64 (i + k)).toNat) 0) + (w64 ((a.getD ((i).toNat) 0) * rdigit)))) + carry)).tmod 65536)) (w64 ((w64 ((w64 ((out2.getD ((w64 (i + k)).toNat) 0) + (w64 ((a.getD ((i).toNat) 0) * rdigit)))) + carry)).tdiv 65536)) (w64 (k + 1)))
    else none)
    else none))
    (K_g_r01_times_L1 out2 (w64 (i + 1))))

def g_r01_times_L1 (N : Nat) (a : List Int) (b : List Int) : Nat → (List Int) → Int → Option ((List Int))
  | 0, _, _ => none
  | fuel + 1, out, i =>
    (cond (decide (i < ((a.length : Nat) : Int)))
    (g_r01_times_L2 N a b i (g_r01_times_L1 N a b fuel) N out 0 0)
    (((g_r01_trim N out).bind fun rtrim =>
    some rtrim)))

/-- keelblock/keelblockref01.times -/
def g_r01_times (N : Nat) (a : List Int) (b : List Int) : Option ((List Int)) :=
  (if 0 ≤ (w64 ((w64 (((a.length : Nat) : Int) + ((b.length : Nat) : Int))) + 1)) ∧ (8 : Int) * (w64 ((w64 (((a.length : Nat) : Int) + ((b.length : Nat) : Int))) + 1)) ≤ 281474976710656 ∧ (w64 ((w64 (((a.length : Nat) : Int) + ((b.length : Nat) : Int))) + 1)) ≤ 9223372036854775807 then
  g_r01_times_L1 N a b N (List.replicate ((w64 ((w64 (((a.length : Nat) : Int) + ((b.length : Nat) : Int))) + 1)).toNat) 0 : List Int) 0
  else none)

/-- keelblock/keelblockref01.Mul -/
def g_r01_Mul (N : Nat) (a : Tapi_Int) (b : Tapi_Int) : Option (Tapi_Int) :=
  ((g_r01_read N a.f_Limbs).bind fun rread =>
  ((g_r01_read N b.f_Limbs).bind fun rread2 =>
  ((g_r01_times N rread rread2).bind fun rtimes =>
  ((g_r01_made N (!(a.f_Neg == b.f_Neg)) rtimes).bind fun rmade =>
  some rmade))))

def g_r01_over_J3 (N : Nat) (a : List Int) (b : List Int) (q : List Int) (i : Int) (lo : Int) (K_g_r01_over_L1 : (List Int) → (List Int) → Int → Option ((List Int) × (List Int))) (rest2 : List Int) : Option ((List Int) × (List Int)) :=
  K_g_r01_over_L1 rest2 (q.set ((i).toNat) lo) (w64 (i - 1))

def g_r01_over_L2 (N : Nat) (a : List Int) (b : List Int) (q : List Int) (i : Int) (rtrim : (List Int)) (K_g_r01_over_L1 : (List Int) → (List Int) → Int → Option ((List Int) × (List Int))) : Nat → Int → Int → Option ((List Int) × (List Int))
  | 0, _, _ => none
  | fuel + 1, lo, hi =>
    (cond (decide (lo < hi))
    (((g_r01_times N b ([(w64 ((w64 ((w64 (lo + hi)) + 1)).tdiv 2))] : List Int)).bind fun rtimes =>
    ((g_r01_compare N rtimes rtrim).bind fun rcompare =>
    (cond (decide (rcompare ≤ 0))
    (g_r01_over_L2 N a b q i rtrim K_g_r01_over_L1 fuel (w64 ((w64 ((w64 (lo + hi)) + 1)).tdiv 2)) hi)
    (g_r01_over_L2 N a b q i rtrim K_g_r01_over_L1 fuel lo (w64 ((w64 ((w64 ((w64 (lo + hi)) + 1)).tdiv 2)) - 1)))))))
    ((if 0 ≤ i ∧ i < ((q.length : Nat) : Int) then
    (cond (decide (lo > 0))
    (((g_r01_times N b ([lo] : List Int)).bind fun rtimes2 =>
    ((g_r01_minus N rtrim rtimes2).bind fun rminus =>
    g_r01_over_J3 N a b q i lo K_g_r01_over_L1 rminus)))
    (g_r01_over_J3 N a b q i lo K_g_r01_over_L1 rtrim))
    else none)))

def g_r01_over_L1 (N : Nat) (a : List Int) (b : List Int) : Nat → (List Int) → (List Int) → Int → Option ((List Int) × (List Int))
  | 0, _, _, _ => none
  | fuel + 1, rest, q, i =>
    (cond (decide (i ≥ 0))
    ((if 0 ≤ i ∧ i < ((a.length : Nat) : Int) then
    (if (1 + rest.length) * 8 ≤ 140737488355328 then
    ((g_r01_trim N (([(a.getD ((i).toNat) 0)] : List Int) ++ rest)).bind fun rtrim =>
    g_r01_over_L2 N a b q i rtrim (g_r01_over_L1 N a b fuel) N 0 65535)
    else none)
    else none))
    (((g_r01_trim N q).bind fun rtrim2 =>
    some (rtrim2, rest))))

/-- keelblock/keelblockref01.over -/
def g_r01_over (N : Nat) (a : List Int) (b : List Int) : Option ((List Int) × (List Int)) :=
  (if 0 ≤ ((a.length : Nat) : Int) ∧ (8 : Int) * ((a.length : Nat) : Int) ≤ 281474976710656 ∧ ((a.length : Nat) : Int) ≤ 9223372036854775807 then
  g_r01_over_L1 N a b N ([] : List Int) (List.replicate a.length 0 : List Int) (w64 (((a.length : Nat) : Int) - 1))
  else none)

/-- keelblock/keelblocklaw01.wide -/
def g_w01_wide (N : Nat) (x : Tapi_Rat) : Option (Bool) :=
  some (cond (decide (((x.f_Num.f_Limbs.length : Nat) : Int) > 12)) true (decide (((x.f_Den.f_Limbs.length : Nat) : Int) > 12)))

/-- keelblock/exact.CmpRat -/
def g_exact_CmpRat (N : Nat) (x : Tapi_Rat) (y : Tapi_Rat) : Option (Int) :=
  ((g_exact_SubRat N x y).bind fun rSubRat =>
  ((g_exact_signOf N rSubRat).bind fun rsignOf =>
  some rsignOf))

def g_r01_gcd_L1 (N : Nat) : Nat → (List Int) → (List Int) → Option ((List Int))
  | 0, _, _ => none
  | fuel + 1, a2, b2 =>
    (cond (decide (((b2.length : Nat) : Int) > 0))
    (((g_r01_over N a2 b2).bind fun rover =>
    g_r01_gcd_L1 N fuel b2 rover.2))
    (some a2))

/-- keelblock/keelblockref01.gcd -/
def g_r01_gcd (N : Nat) (a : List Int) (b : List Int) : Option ((List Int)) :=
  g_r01_gcd_L1 N N a b

/-- keelblock/keelblockref01.Over -/
def g_r01_Over (N : Nat) (a : Tapi_Int) (b : Tapi_Int) : Option (Tapi_Rat) :=
  ((g_r01_read N a.f_Limbs).bind fun rread =>
  ((g_r01_read N b.f_Limbs).bind fun rread2 =>
  (cond (((rread2.length : Nat) : Int) == 0)
  (((g_r01_made N a.f_Neg rread).bind fun rmade =>
  ((g_r01_Of N 1).bind fun rOf =>
  some (⟨rmade, rOf⟩ : Tapi_Rat))))
  (((g_r01_gcd N rread rread2).bind fun rgcd =>
  ((g_r01_over N rread rgcd).bind fun rover =>
  ((g_r01_over N rread2 rgcd).bind fun rover2 =>
  ((g_r01_made N (!(a.f_Neg == b.f_Neg)) rover.1).bind fun rmade2 =>
  ((g_r01_made N false rover2.1).bind fun rmade3 =>
  some (⟨rmade2, rmade3⟩ : Tapi_Rat))))))))))

/-- keelblock/keelblockref01.NormRat -/
def g_r01_NormRat (N : Nat) (x : Tapi_Rat) : Option (Tapi_Rat) :=
  ((g_r01_Over N x.f_Num x.f_Den).bind fun rOver =>
  some rOver)

/-- keelblock/keelblockref01.SignRat -/
def g_r01_SignRat (N : Nat) (x : Tapi_Rat) : Option (Int) :=
  ((g_r01_NormRat N x).bind fun rNormRat =>
  ((g_r01_Sign N rNormRat.f_Num).bind fun rSign =>
  some rSign))

/-- keelblock/keelblockref01.AddRat -/
def g_r01_AddRat (N : Nat) (x : Tapi_Rat) (y : Tapi_Rat) : Option (Tapi_Rat) :=
  ((g_r01_NormRat N x).bind fun rNormRat =>
  ((g_r01_NormRat N y).bind fun rNormRat2 =>
  ((g_r01_Mul N rNormRat.f_Num rNormRat2.f_Den).bind fun rMul =>
  ((g_r01_Mul N rNormRat2.f_Num rNormRat.f_Den).bind fun rMul2 =>
  ((g_r01_Add N rMul rMul2).bind fun rAdd =>
  ((g_r01_Mul N rNormRat.f_Den rNormRat2.f_Den).bind fun rMul3 =>
  ((g_r01_Over N rAdd rMul3).bind fun rOver =>
  some rOver)))))))

/-- keelblock/keelblockref01.NegRat -/
def g_r01_NegRat (N : Nat) (x : Tapi_Rat) : Option (Tapi_Rat) :=
  ((g_r01_NormRat N x).bind fun rNormRat =>
  ((g_r01_Neg N rNormRat.f_Num).bind fun rNeg =>
  some (⟨rNeg, rNormRat.f_Den⟩ : Tapi_Rat)))

/-- keelblock/keelblockref01.SubRat -/
def g_r01_SubRat (N : Nat) (x : Tapi_Rat) (y : Tapi_Rat) : Option (Tapi_Rat) :=
  ((g_r01_NegRat N y).bind fun rNegRat =>
  ((g_r01_AddRat N x rNegRat).bind fun rAddRat =>
  some rAddRat))

/-- keelblock/keelblockref01.MulRat -/
def g_r01_MulRat (N : Nat) (x : Tapi_Rat) (y : Tapi_Rat) : Option (Tapi_Rat) :=
  ((g_r01_NormRat N x).bind fun rNormRat =>
  ((g_r01_NormRat N y).bind fun rNormRat2 =>
  ((g_r01_Mul N rNormRat.f_Num rNormRat2.f_Num).bind fun rMul =>
  ((g_r01_Mul N rNormRat.f_Den rNormRat2.f_Den).bind fun rMul2 =>
  ((g_r01_Over N rMul rMul2).bind fun rOver =>
  some rOver)))))

/-- keelblock/keelblockref01.Norm -/
def g_r01_Norm (N : Nat) (a : Tapi_Int) : Option (Tapi_Int) :=
  ((g_r01_read N a.f_Limbs).bind fun rread =>
  ((g_r01_made N a.f_Neg rread).bind fun rmade =>
  some rmade))

/-- keelblock/keelblockref01.CmpRat -/
def g_r01_CmpRat (N : Nat) (x : Tapi_Rat) (y : Tapi_Rat) : Option (Int) :=
  ((g_r01_SubRat N x y).bind fun rSubRat =>
  ((g_r01_SignRat N rSubRat).bind fun rSignRat =>
  some rSignRat))

def g_w01_wideAll_L1 (N : Nat) (l : List Tapi_Rat) : Nat → Int → Option (Bool)
  | 0, _ => none
  | fuel + 1, i =>
    (cond (decide (i < ((l.length : Nat) : Int)))
    ((if 0 ≤ i ∧ i < ((l.length : Nat) : Int) then
    ((g_w01_wide N (⟨((l.getD ((i).toNat) Tapi_Rat.d).f_Num), ((l.getD ((i).toNat) Tapi_Rat.d).f_Den)⟩ : Tapi_Rat)).bind fun rwide =>
    (cond rwide
    (some true)
    (g_w01_wideAll_L1 N l fuel (w64 (i + 1)))))
    else none))
    (some false))

/-- keelblock/keelblocklaw01.wideAll -/
def g_w01_wideAll (N : Nat) (l : List Tapi_Rat) (most : Int) : Option (Bool) :=
  (cond (decide (((l.length : Nat) : Int) > most))
  (some true)
  (g_w01_wideAll_L1 N l N 0))

/-- keelblock/keelblocklaw01.heavy -/
def g_w01_heavy (N : Nat) (c : Tapi_Curve) : Option (Bool) :=
  ((cond (!(decide (((c.f_Starts.length : Nat) : Int) > 60))) (g_w01_wideAll N c.f_Slopes 60) (some false)).bind fun rwideAll =>
  some (cond (cond (decide (((c.f_Starts.length : Nat) : Int) > 60)) true rwideAll) true (cond (decide (((c.f_Starts.length : Nat) : Int) ≤ 40)) (decide (((c.f_Starts.length : Nat) : Int) > 12)) false)))

def g_r01_CheckCurve_L1 (N : Nat) (c : Tapi_Curve) : Nat → Int → Option (Int)
  | 0, _ => none
  | fuel + 1, i =>
    (cond (decide (i < ((c.f_Starts.length : Nat) : Int)))
    ((if 0 ≤ i ∧ i < ((c.f_Starts.length : Nat) : Int) then
    (if ((!(decide ((c.f_Starts.getD ((i).toNat) 0) < (-10000000)))) = true → 0 ≤ i ∧ i < ((c.f_Starts.length : Nat) : Int)) then
    (if ((!(cond (decide ((c.f_Starts.getD ((i).toNat) 0) < (-10000000))) true (decide ((c.f_Starts.getD ((i).toNat) 0) > 10000000)))) = true → 0 ≤ i ∧ i < ((c.f_Slopes.length : Nat) : Int)) then
    ((cond (!(cond (decide ((c.f_Starts.getD ((i).toNat) 0) < (-10000000))) true (decide ((c.f_Starts.getD ((i).toNat) 0) > 10000000)))) (g_r01_SignRat N (⟨((c.f_Slopes.getD ((i).toNat) Tapi_Rat.d).f_Num), ((c.f_Slopes.getD ((i).toNat) Tapi_Rat.d).f_Den)⟩ : Tapi_Rat)) (some 0)).bind fun rSignRat =>
    (cond (cond (cond (decide ((c.f_Starts.getD ((i).toNat) 0) < (-10000000))) true (decide ((c.f_Starts.getD ((i).toNat) 0) > 10000000))) true (decide (rSignRat < 0)))
    (some 2)
    ((if ((decide (i > 0)) = true → 0 ≤ i ∧ i < ((c.f_Starts.length : Nat) : Int)) then
    (if ((decide (i > 0)) = true → 0 ≤ (w64 (i - 1)) ∧ (w64 (i - 1)) < ((c.f_Starts.length : Nat) : Int)) then
    (cond (cond (decide (i > 0)) (decide ((c.f_Starts.getD ((i).toNat) 0) ≤ (c.f_Starts.getD ((w64 (i - 1)).toNat) 0))) false)
    (some 10)
    (g_r01_CheckCurve_L1 N c fuel (w64 (i + 1))))
    else none)
    else none))))
    else none)
    else none)
    else none))
    (some 0))

/-- keelblock/keelblockref01.CheckCurve -/
def g_r01_CheckCurve (N : Nat) (c : Tapi_Curve) : Option (Int) :=
  (cond (decide (((c.f_Starts.length : Nat) : Int) > 40))
  (some 8)
  ((cond (((c.f_Slopes.length : Nat) : Int) != ((c.f_Starts.length : Nat) : Int))
  (some 11)
  (g_r01_CheckCurve_L1 N c N 0))))

def g_exact_normal_J2 (N : Nat) (c : Tapi_Curve) (before : Tapi_Rat) (x : Int) (K_g_exact_normal_L1 : (List Int) → (List Tapi_Rat) → Tapi_Rat → Int → Option (Tapi_Curve)) (out3 : List Int) (out4 : List Tapi_Rat) : Option (Tapi_Curve) :=
  (if 0 ≤ x ∧ x < ((c.f_Slopes.length : Nat) : Int) then
  K_g_exact_normal_L1 out3 out4 (⟨((c.f_Slopes.getD ((x).toNat) Tapi_Rat.d).f_Num), ((c.f_Slopes.getD ((x).toNat) Tapi_Rat.d).f_Den)⟩ : Tapi_Rat) (w64 (x + 1))
  else none)

def g_exact_normal_L1 (N : Nat) (c : Tapi_Curve) : Nat → (List Int) → (List Tapi_Rat) → Tapi_Rat → Int → Option (Tapi_Curve)
  | 0, _, _, _, _ => none
  | fuel + 1, out, out2, before, x =>
    (cond (decide (x < ((c.f_Starts.length : Nat) : Int)))
    ((if 0 ≤ x ∧ x < ((c.f_Starts.length : Nat) : Int) then
    (if 0 ≤ x ∧ x < ((c.f_Slopes.length : Nat) : Int) then
    ((g_exact_CmpRat N (⟨((c.f_Slopes.getD ((x).toNat) Tapi_Rat.d).f_Num), ((c.f_Slopes.getD ((x).toNat) Tapi_Rat.d).f_Den)⟩ : Tapi_Rat) before).bind fun rCmpRat =>
    (cond (rCmpRat != 0)
    ((if (out.length + 1) * 8 ≤ 140737488355328 then
    ((g_exact_lowest N (⟨((c.f_Slopes.getD ((x).toNat) Tapi_Rat.d).f_Num), ((c.f_Slopes.getD ((x).toNat) Tapi_Rat.d).f_Den)⟩ : Tapi_Rat)).bind fun rlowest =>
    (if (out2.length + 1) * 64 ≤ 140737488355328 then
    g_exact_normal_J2 N c before x (g_exact_normal_L1 N c fuel) (out ++ ([(c.f_Starts.getD ((x).toNat) 0)] : List Int)) (out2 ++ ([rlowest] : List Tapi_Rat))
    else none))
    else none))
    (g_exact_normal_J2 N c before x (g_exact_normal_L1 N c fuel) out out2)))
    else none)
    else none))
    (some (⟨out, out2⟩ : Tapi_Curve)))

/-- keelblock/exact.normal -/
def g_exact_normal (N : Nat) (c : Tapi_Curve) : Option (Tapi_Curve) :=
  ((g_exact_number N 0).bind fun rnumber =>
  g_exact_normal_L1 N c N ([] : List Int) ([] : List Tapi_Rat) rnumber 0)

def g_exact_Sum_J4 (N : Nat) (a : Tapi_Curve) (b : Tapi_Curve) (c : List Int) (c2 : List Tapi_Rat) (vat : Int) (x2 : Tapi_Rat) (i2 : Int) (K_g_exact_Sum_L1 : (List Int) → (List Tapi_Rat) → Tapi_Rat → Tapi_Rat → Int → Int → Option (Tapi_Curve × Int)) (y2 : Tapi_Rat) (k2 : Int) : Option (Tapi_Curve × Int) :=
  (if (c.length + 1) * 8 ≤ 140737488355328 then
  ((g_exact_AddRat N x2 y2).bind fun rAddRat =>
  (if (c2.length + 1) * 64 ≤ 140737488355328 then
  K_g_exact_Sum_L1 (c ++ ([vat] : List Int)) (c2 ++ ([rAddRat] : List Tapi_Rat)) x2 y2 i2 k2
  else none))
  else none)

def g_exact_Sum_J3 (N : Nat) (a : Tapi_Curve) (b : Tapi_Curve) (c : List Int) (c2 : List Tapi_Rat) (y : Tapi_Rat) (k : Int) (vat : Int) (K_g_exact_Sum_L1 : (List Int) → (List Tapi_Rat) → Tapi_Rat → Tapi_Rat → Int → Int → Option (Tapi_Curve × Int)) (x2 : Tapi_Rat) (i2 : Int) : Option (Tapi_Curve × Int) :=
  (if ((decide (k < ((b.f_Starts.length : Nat) : Int))) = true → 0 ≤ k ∧ k < ((b.f_Starts.length : Nat) : Int)) then
  (cond (cond (decide (k < ((b.f_Starts.length : Nat) : Int))) ((b.f_Starts.getD ((k).toNat) 0) == vat) false)
  ((if 0 ≤ k ∧ k < ((b.f_Slopes.length : Nat) : Int) then
  g_exact_Sum_J4 N a b c c2 vat x2 i2 K_g_exact_Sum_L1 (⟨((b.f_Slopes.getD ((k).toNat) Tapi_Rat.d).f_Num), ((b.f_Slopes.getD ((k).toNat) Tapi_Rat.d).f_Den)⟩ : Tapi_Rat) (w64 (k + 1))
  else none))
  (g_exact_Sum_J4 N a b c c2 vat x2 i2 K_g_exact_Sum_L1 y k))
  else none)

def g_exact_Sum_J2 (N : Nat) (a : Tapi_Curve) (b : Tapi_Curve) (c : List Int) (c2 : List Tapi_Rat) (x : Tapi_Rat) (y : Tapi_Rat) (i : Int) (k : Int) (K_g_exact_Sum_L1 : (List Int) → (List Tapi_Rat) → Tapi_Rat → Tapi_Rat → Int → Int → Option (Tapi_Curve × Int)) (vat : Int) : Option (Tapi_Curve × Int) :=
  (if ((decide (i < ((a.f_Starts.length : Nat) : Int))) = true → 0 ≤ i ∧ i < ((a.f_Starts.length : Nat) : Int)) then
  (cond (cond (decide (i < ((a.f_Starts.length : Nat) : Int))) ((a.f_Starts.getD ((i).toNat) 0) == vat) false)
  ((if 0 ≤ i ∧ i < ((a.f_Slopes.length : Nat) : Int) then
  g_exact_Sum_J3 N a b c c2 y k vat K_g_exact_Sum_L1 (⟨((a.f_Slopes.getD ((i).toNat) Tapi_Rat.d).f_Num), ((a.f_Slopes.getD ((i).toNat) Tapi_Rat.d).f_Den)⟩ : Tapi_Rat) (w64 (i + 1))
  else none))
  (g_exact_Sum_J3 N a b c c2 y k vat K_g_exact_Sum_L1 x i))
  else none)

def g_exact_Sum_L1 (N : Nat) (a : Tapi_Curve) (b : Tapi_Curve) : Nat → (List Int) → (List Tapi_Rat) → Tapi_Rat → Tapi_Rat → Int → Int → Option (Tapi_Curve × Int)
  | 0, _, _, _, _, _, _ => none
  | fuel + 1, c, c2, x, y, i, k =>
    (cond (cond (decide (i < ((a.f_Starts.length : Nat) : Int))) true (decide (k < ((b.f_Starts.length : Nat) : Int))))
    ((if (((!(k == ((b.f_Starts.length : Nat) : Int))) && ((!(k == ((b.f_Starts.length : Nat) : Int))) && (decide (i < ((a.f_Starts.length : Nat) : Int))))) = true → 0 ≤ i ∧ i < ((a.f_Starts.length : Nat) : Int)) then
    (if (((!(k == ((b.f_Starts.length : Nat) : Int))) && ((!(k == ((b.f_Starts.length : Nat) : Int))) && (decide (i < ((a.f_Starts.length : Nat) : Int))))) = true → 0 ≤ k ∧ k < ((b.f_Starts.length : Nat) : Int)) then
    (cond (cond (k == ((b.f_Starts.length : Nat) : Int)) true (cond (decide (i < ((a.f_Starts.length : Nat) : Int))) (decide ((a.f_Starts.getD ((i).toNat) 0) ≤ (b.f_Starts.getD ((k).toNat) 0))) false))
    ((if 0 ≤ i ∧ i < ((a.f_Starts.length : Nat) : Int) then
    g_exact_Sum_J2 N a b c c2 x y i k (g_exact_Sum_L1 N a b fuel) (a.f_Starts.getD ((i).toNat) 0)
    else none))
    ((if 0 ≤ k ∧ k < ((b.f_Starts.length : Nat) : Int) then
    g_exact_Sum_J2 N a b c c2 x y i k (g_exact_Sum_L1 N a b fuel) (b.f_Starts.getD ((k).toNat) 0)
    else none)))
    else none)
    else none))
    (((g_exact_normal N (⟨c, c2⟩ : Tapi_Curve)).bind fun rnormal =>
    (cond (decide (((rnormal.f_Starts.length : Nat) : Int) > 40))
    (some ((⟨([] : List Int), ([] : List Tapi_Rat)⟩ : Tapi_Curve), 8))
    (some (rnormal, 0))))))

/-- keelblock/exact.Sum -/
def g_exact_Sum (N : Nat) (a : Tapi_Curve) (b : Tapi_Curve) : Option (Tapi_Curve × Int) :=
  ((g_exact_CheckCurve N a).bind fun rCheckCurve =>
  (cond (rCheckCurve != 0)
  (some ((⟨([] : List Int), ([] : List Tapi_Rat)⟩ : Tapi_Curve), rCheckCurve))
  (((g_exact_CheckCurve N b).bind fun rCheckCurve2 =>
  (cond (rCheckCurve2 != 0)
  (some ((⟨([] : List Int), ([] : List Tapi_Rat)⟩ : Tapi_Curve), rCheckCurve2))
  (((g_exact_number N 0).bind fun rnumber =>
  ((g_exact_number N 0).bind fun rnumber2 =>
  g_exact_Sum_L1 N a b N ([] : List Int) ([] : List Tapi_Rat) rnumber rnumber2 0 0))))))))

def g_exact_Shift_L1 (N : Nat) (vby : Int) (rnormal : Tapi_Curve) : Nat → (List Int) → Int → Option (Tapi_Curve × Int)
  | 0, _, _ => none
  | fuel + 1, out, x =>
    (cond (decide (x < ((rnormal.f_Starts.length : Nat) : Int)))
    ((if ((!(cond (decide (vby < (-20000000))) true (decide (vby > 20000000)))) = true → 0 ≤ x ∧ x < ((out.length : Nat) : Int)) then
    (if ((!(cond (cond (decide (vby < (-20000000))) true (decide (vby > 20000000))) true (decide ((w64 ((out.getD ((x).toNat) 0) + vby)) < (-10000000))))) = true → 0 ≤ x ∧ x < ((out.length : Nat) : Int)) then
    (cond (cond (cond (cond (decide (vby < (-20000000))) true (decide (vby > 20000000))) true (decide ((w64 ((out.getD ((x).toNat) 0) + vby)) < (-10000000)))) true (decide ((w64 ((out.getD ((x).toNat) 0) + vby)) > 10000000)))
    (some ((⟨([] : List Int), ([] : List Tapi_Rat)⟩ : Tapi_Curve), 2))
    ((if 0 ≤ x ∧ x < ((out.length : Nat) : Int) then
    g_exact_Shift_L1 N vby rnormal fuel (out.set ((x).toNat) (w64 ((out.getD ((x).toNat) 0) + vby))) (w64 (x + 1))
    else none)))
    else none)
    else none))
    (some ((⟨out, rnormal.f_Slopes⟩ : Tapi_Curve), 0)))

/-- keelblock/exact.Shift -/
def g_exact_Shift (N : Nat) (c : Tapi_Curve) (vby : Int) : Option (Tapi_Curve × Int) :=
  ((g_exact_CheckCurve N c).bind fun rCheckCurve =>
  (cond (rCheckCurve != 0)
  (some ((⟨([] : List Int), ([] : List Tapi_Rat)⟩ : Tapi_Curve), rCheckCurve))
  (((g_exact_normal N c).bind fun rnormal =>
  g_exact_Shift_L1 N vby rnormal N rnormal.f_Starts 0))))

def g_keelblockbase_Ints_L1 (N : Nat) (a : List Int) (b : List Int) : Nat → Int → Option (Bool)
  | 0, _ => none
  | fuel + 1, i =>
    (cond (decide (i < ((a.length : Nat) : Int)))
    ((if 0 ≤ i ∧ i < ((a.length : Nat) : Int) then
    (if 0 ≤ i ∧ i < ((b.length : Nat) : Int) then
    (cond ((a.getD ((i).toNat) 0) != (b.getD ((i).toNat) 0))
    (some false)
    (g_keelblockbase_Ints_L1 N a b fuel (w64 (i + 1))))
    else none)
    else none))
    (some true))

/-- keelblock/keelblockbase.Ints -/
def g_keelblockbase_Ints (N : Nat) (a : List Int) (b : List Int) : Option (Bool) :=
  (cond (((a.length : Nat) : Int) != ((b.length : Nat) : Int))
  (some false)
  (g_keelblockbase_Ints_L1 N a b N 0))

def g_keelblockbase_SameRats_L1 (N : Nat) (a : List Tapi_Rat) (b : List Tapi_Rat) : Nat → Int → Option (Bool)
  | 0, _ => none
  | fuel + 1, i =>
    (cond (decide (i < ((a.length : Nat) : Int)))
    ((if 0 ≤ i ∧ i < ((a.length : Nat) : Int) then
    (if 0 ≤ i ∧ i < ((b.length : Nat) : Int) then
    ((g_keelblockbase_SameRat N (⟨((a.getD ((i).toNat) Tapi_Rat.d).f_Num), ((a.getD ((i).toNat) Tapi_Rat.d).f_Den)⟩ : Tapi_Rat) (⟨((b.getD ((i).toNat) Tapi_Rat.d).f_Num), ((b.getD ((i).toNat) Tapi_Rat.d).f_Den)⟩ : Tapi_Rat)).bind fun rSameRat =>
    (cond (!rSameRat)
    (some false)
    (g_keelblockbase_SameRats_L1 N a b fuel (w64 (i + 1)))))
    else none)
    else none))
    (some true))

/-- keelblock/keelblockbase.SameRats -/
def g_keelblockbase_SameRats (N : Nat) (a : List Tapi_Rat) (b : List Tapi_Rat) : Option (Bool) :=
  (cond (((a.length : Nat) : Int) != ((b.length : Nat) : Int))
  (some false)
  (g_keelblockbase_SameRats_L1 N a b N 0))

/-- keelblock/keelblockbase.SameCurve -/
def g_keelblockbase_SameCurve (N : Nat) (a : Tapi_Curve) (b : Tapi_Curve) : Option (Bool) :=
  ((g_keelblockbase_Ints N a.f_Starts b.f_Starts).bind fun rInts =>
  ((cond rInts (g_keelblockbase_SameRats N a.f_Slopes b.f_Slopes) (some false)).bind fun rSameRats =>
  some (cond rInts rSameRats false)))

/-- keelblock/keelblockref01.Q -/
def g_r01_Q (N : Nat) (n : Int) : Option (Tapi_Rat) :=
  ((g_r01_Of N n).bind fun rOf =>
  ((g_r01_Of N 1).bind fun rOf2 =>
  some (⟨rOf, rOf2⟩ : Tapi_Rat)))

def g_r01_Normal_J2 (N : Nat) (c : Tapi_Curve) (i : Int) (K_g_r01_Normal_L1 : (List Int) → (List Tapi_Rat) → Tapi_Rat → Int → Option (Tapi_Curve)) (out3 : List Int) (out4 : List Tapi_Rat) (last2 : Tapi_Rat) : Option (Tapi_Curve) :=
  K_g_r01_Normal_L1 out3 out4 last2 (w64 (i + 1))

def g_r01_Normal_L1 (N : Nat) (c : Tapi_Curve) : Nat → (List Int) → (List Tapi_Rat) → Tapi_Rat → Int → Option (Tapi_Curve)
  | 0, _, _, _, _ => none
  | fuel + 1, out, out2, last, i =>
    (cond (decide (i < ((c.f_Starts.length : Nat) : Int)))
    ((if 0 ≤ i ∧ i < ((c.f_Slopes.length : Nat) : Int) then
    ((g_r01_NormRat N (⟨((c.f_Slopes.getD ((i).toNat) Tapi_Rat.d).f_Num), ((c.f_Slopes.getD ((i).toNat) Tapi_Rat.d).f_Den)⟩ : Tapi_Rat)).bind fun rNormRat =>
    ((g_r01_CmpRat N rNormRat last).bind fun rCmpRat =>
    (cond (rCmpRat != 0)
    ((if 0 ≤ i ∧ i < ((c.f_Starts.length : Nat) : Int) then
    (if (out.length + 1) * 8 ≤ 140737488355328 then
    (if (out2.length + 1) * 64 ≤ 140737488355328 then
    g_r01_Normal_J2 N c i (g_r01_Normal_L1 N c fuel) (out ++ ([(c.f_Starts.getD ((i).toNat) 0)] : List Int)) (out2 ++ ([rNormRat] : List Tapi_Rat)) rNormRat
    else none)
    else none)
    else none))
    (g_r01_Normal_J2 N c i (g_r01_Normal_L1 N c fuel) out out2 last))))
    else none))
    (some (⟨out, out2⟩ : Tapi_Curve)))

/-- keelblock/keelblockref01.Normal -/
def g_r01_Normal (N : Nat) (c : Tapi_Curve) : Option (Tapi_Curve) :=
  ((g_r01_Q N 0).bind fun rQ =>
  g_r01_Normal_L1 N c N ([] : List Int) ([] : List Tapi_Rat) rQ 0)

def g_r01_Shift_L2 (N : Nat) (vby : Int) (rNormal : Tapi_Curve) : Nat → (List Int) → Int → Option (Tapi_Curve × Int)
  | 0, _, _ => none
  | fuel + 1, out, i2 =>
    (cond (decide (i2 < ((out.length : Nat) : Int)))
    ((if 0 ≤ i2 ∧ i2 < ((out.length : Nat) : Int) then
    g_r01_Shift_L2 N vby rNormal fuel (out.set ((i2).toNat) (w64 ((out.getD ((i2).toNat) 0) + vby))) (w64 (i2 + 1))
    else none))
    (some ((⟨out, rNormal.f_Slopes⟩ : Tapi_Curve), 0)))

def g_r01_Shift_L1 (N : Nat) (vby : Int) (rNormal : Tapi_Curve) : Nat → Int → Option (Tapi_Curve × Int)
  | 0, _ => none
  | fuel + 1, i =>
    (cond (decide (i < ((rNormal.f_Starts.length : Nat) : Int)))
    ((if ((!(cond (decide (vby < (-20000000))) true (decide (vby > 20000000)))) = true → 0 ≤ i ∧ i < ((rNormal.f_Starts.length : Nat) : Int)) then
    (if ((!(cond (cond (decide (vby < (-20000000))) true (decide (vby > 20000000))) true (decide ((w64 ((rNormal.f_Starts.getD ((i).toNat) 0) + vby)) < (-10000000))))) = true → 0 ≤ i ∧ i < ((rNormal.f_Starts.length : Nat) : Int)) then
    (cond (cond (cond (cond (decide (vby < (-20000000))) true (decide (vby > 20000000))) true (decide ((w64 ((rNormal.f_Starts.getD ((i).toNat) 0) + vby)) < (-10000000)))) true (decide ((w64 ((rNormal.f_Starts.getD ((i).toNat) 0) + vby)) > 10000000)))
    (some ((⟨([] : List Int), ([] : List Tapi_Rat)⟩ : Tapi_Curve), 2))
    (g_r01_Shift_L1 N vby rNormal fuel (w64 (i + 1))))
    else none)
    else none))
    (g_r01_Shift_L2 N vby rNormal N rNormal.f_Starts 0))

/-- keelblock/keelblockref01.Shift -/
def g_r01_Shift (N : Nat) (c : Tapi_Curve) (vby : Int) : Option (Tapi_Curve × Int) :=
  ((g_r01_Normal N c).bind fun rNormal =>
  g_r01_Shift_L1 N vby rNormal N 0)

def g_r01_Slope_J2 (N : Nat) (c : Tapi_Curve) (y : Tapi_Rat) (i : Int) (K_g_r01_Slope_L1 : Tapi_Rat → Int → Option (Tapi_Rat)) (out2 : Tapi_Rat) : Option (Tapi_Rat) :=
  K_g_r01_Slope_L1 out2 (w64 (i + 1))

def g_r01_Slope_L1 (N : Nat) (c : Tapi_Curve) (y : Tapi_Rat) : Nat → Tapi_Rat → Int → Option (Tapi_Rat)
  | 0, _, _ => none
  | fuel + 1, out, i =>
    (cond (decide (i < ((c.f_Starts.length : Nat) : Int)))
    ((if 0 ≤ i ∧ i < ((c.f_Starts.length : Nat) : Int) then
    ((g_r01_Q N (c.f_Starts.getD ((i).toNat) 0)).bind fun rQ2 =>
    ((g_r01_CmpRat N rQ2 y).bind fun rCmpRat =>
    (cond (decide (rCmpRat ≤ 0))
    ((if 0 ≤ i ∧ i < ((c.f_Slopes.length : Nat) : Int) then
    ((g_r01_NormRat N (⟨((c.f_Slopes.getD ((i).toNat) Tapi_Rat.d).f_Num), ((c.f_Slopes.getD ((i).toNat) Tapi_Rat.d).f_Den)⟩ : Tapi_Rat)).bind fun rNormRat =>
    g_r01_Slope_J2 N c y i (g_r01_Slope_L1 N c y fuel) rNormRat)
    else none))
    (g_r01_Slope_J2 N c y i (g_r01_Slope_L1 N c y fuel) out))))
    else none))
    (some out))

/-- keelblock/keelblockref01.Slope -/
def g_r01_Slope (N : Nat) (c : Tapi_Curve) (y : Tapi_Rat) : Option (Tapi_Rat) :=
  ((g_r01_Q N 0).bind fun rQ =>
  g_r01_Slope_L1 N c y N rQ 0)

def g_r01_Sum_L4 (N : Nat) (a : Tapi_Curve) (b : Tapi_Curve) (c : List Int) (c2 : List Tapi_Rat) (vat : Int) (rAddRat : Tapi_Rat) (i2 : Int) (K_g_r01_Sum_L1 : (List Int) → (List Tapi_Rat) → Int → Int → Option (Tapi_Curve × Int)) : Nat → Int → Option (Tapi_Curve × Int)
  | 0, _ => none
  | fuel + 1, k2 =>
    (if ((decide (k2 < ((b.f_Starts.length : Nat) : Int))) = true → 0 ≤ k2 ∧ k2 < ((b.f_Starts.length : Nat) : Int)) then
    (cond (cond (decide (k2 < ((b.f_Starts.length : Nat) : Int))) (decide ((b.f_Starts.getD ((k2).toNat) 0) ≤ vat)) false)
    (g_r01_Sum_L4 N a b c c2 vat rAddRat i2 K_g_r01_Sum_L1 fuel (w64 (k2 + 1)))
    (K_g_r01_Sum_L1 (c ++ ([vat] : List Int)) (c2 ++ ([rAddRat] : List Tapi_Rat)) i2 k2))
    else none)

def g_r01_Sum_L3 (N : Nat) (a : Tapi_Curve) (b : Tapi_Curve) (c : List Int) (c2 : List Tapi_Rat) (k : Int) (vat : Int) (rAddRat : Tapi_Rat) (K_g_r01_Sum_L1 : (List Int) → (List Tapi_Rat) → Int → Int → Option (Tapi_Curve × Int)) : Nat → Int → Option (Tapi_Curve × Int)
  | 0, _ => none
  | fuel + 1, i2 =>
    (if ((decide (i2 < ((a.f_Starts.length : Nat) : Int))) = true → 0 ≤ i2 ∧ i2 < ((a.f_Starts.length : Nat) : Int)) then
    (cond (cond (decide (i2 < ((a.f_Starts.length : Nat) : Int))) (decide ((a.f_Starts.getD ((i2).toNat) 0) ≤ vat)) false)
    (g_r01_Sum_L3 N a b c c2 k vat rAddRat K_g_r01_Sum_L1 fuel (w64 (i2 + 1)))
    (g_r01_Sum_L4 N a b c c2 vat rAddRat i2 K_g_r01_Sum_L1 N k))
    else none)

def g_r01_Sum_J2 (N : Nat) (a : Tapi_Curve) (b : Tapi_Curve) (c : List Int) (c2 : List Tapi_Rat) (i : Int) (k : Int) (K_g_r01_Sum_L1 : (List Int) → (List Tapi_Rat) → Int → Int → Option (Tapi_Curve × Int)) (vat : Int) : Option (Tapi_Curve × Int) :=
  (if (c.length + 1) * 8 ≤ 140737488355328 then
  ((g_r01_Q N vat).bind fun rQ =>
  ((g_r01_Slope N a rQ).bind fun rSlope =>
  ((g_r01_Q N vat).bind fun rQ2 =>
  ((g_r01_Slope N b rQ2).bind fun rSlope2 =>
  ((g_r01_AddRat N rSlope rSlope2).bind fun rAddRat =>
  (if (c2.length + 1) * 64 ≤ 140737488355328 then
  g_r01_Sum_L3 N a b c c2 k vat rAddRat K_g_r01_Sum_L1 N i
  else none))))))
  else none)

def g_r01_Sum_L1 (N : Nat) (a : Tapi_Curve) (b : Tapi_Curve) : Nat → (List Int) → (List Tapi_Rat) → Int → Int → Option (Tapi_Curve × Int)
  | 0, _, _, _, _ => none
  | fuel + 1, c, c2, i, k =>
    (cond (cond (decide (i < ((a.f_Starts.length : Nat) : Int))) true (decide (k < ((b.f_Starts.length : Nat) : Int))))
    ((if (((!(decide (k ≥ ((b.f_Starts.length : Nat) : Int)))) && ((!(decide (k ≥ ((b.f_Starts.length : Nat) : Int)))) && (decide (i < ((a.f_Starts.length : Nat) : Int))))) = true → 0 ≤ i ∧ i < ((a.f_Starts.length : Nat) : Int)) then
    (if (((!(decide (k ≥ ((b.f_Starts.length : Nat) : Int)))) && ((!(decide (k ≥ ((b.f_Starts.length : Nat) : Int)))) && (decide (i < ((a.f_Starts.length : Nat) : Int))))) = true → 0 ≤ k ∧ k < ((b.f_Starts.length : Nat) : Int)) then
    (cond (cond (decide (k ≥ ((b.f_Starts.length : Nat) : Int))) true (cond (decide (i < ((a.f_Starts.length : Nat) : Int))) (decide ((a.f_Starts.getD ((i).toNat) 0) ≤ (b.f_Starts.getD ((k).toNat) 0))) false))
    ((if 0 ≤ i ∧ i < ((a.f_Starts.length : Nat) : Int) then
    g_r01_Sum_J2 N a b c c2 i k (g_r01_Sum_L1 N a b fuel) (a.f_Starts.getD ((i).toNat) 0)
    else none))
    ((if 0 ≤ k ∧ k < ((b.f_Starts.length : Nat) : Int) then
    g_r01_Sum_J2 N a b c c2 i k (g_r01_Sum_L1 N a b fuel) (b.f_Starts.getD ((k).toNat) 0)
    else none)))
    else none)
    else none))
    (((g_r01_Normal N (⟨c, c2⟩ : Tapi_Curve)).bind fun rNormal =>
    (cond (decide (((rNormal.f_Starts.length : Nat) : Int) > 40))
    (some ((⟨([] : List Int), ([] : List Tapi_Rat)⟩ : Tapi_Curve), 8))
    (some (rNormal, 0))))))

/-- keelblock/keelblockref01.Sum -/
def g_r01_Sum (N : Nat) (a : Tapi_Curve) (b : Tapi_Curve) : Option (Tapi_Curve × Int) :=
  g_r01_Sum_L1 N a b N ([] : List Int) ([] : List Tapi_Rat) 0 0

/-- keelblock/keelblocklaw01.ExactSums -/
def g_w01_ExactSums (N : Nat) (a : Tapi_Curve) (b : Tapi_Curve) (vby : Int) : Option (Bool) :=
  ((g_w01_heavy N a).bind fun rheavy =>
  ((cond (!rheavy) (g_w01_heavy N b) (some false)).bind fun rheavy2 =>
  (cond (cond rheavy true rheavy2)
  (((g_w01_awake N).bind fun rawake =>
  some rawake))
  (((g_r01_CheckCurve N a).bind fun rCheckCurve =>
  ((g_r01_CheckCurve N b).bind fun rCheckCurve2 =>
  ((g_exact_Sum N a b).bind fun rSum =>
  ((g_exact_Shift N a vby).bind fun rShift =>
  (cond (rCheckCurve != 0)
  (((g_keelblockbase_SameCurve N rSum.1 (⟨([] : List Int), ([] : List Tapi_Rat)⟩ : Tapi_Curve)).bind fun rSameCurve =>
  ((cond (cond rSameCurve (rSum.2 == rCheckCurve) false) (g_keelblockbase_SameCurve N rShift.1 (⟨([] : List Int), ([] : List Tapi_Rat)⟩ : Tapi_Curve)) (some false)).bind fun rSameCurve2 =>
  ((cond (cond (cond (cond rSameCurve (rSum.2 == rCheckCurve) false) rSameCurve2 false) (rShift.2 == rCheckCurve) false) (g_w01_awake N) (some false)).bind fun rawake2 =>
  some (cond (cond (cond (cond rSameCurve (rSum.2 == rCheckCurve) false) rSameCurve2 false) (rShift.2 == rCheckCurve) false) rawake2 false)))))
  (((g_r01_Shift N a vby).bind fun rShift2 =>
  ((g_keelblockbase_SameCurve N rShift.1 rShift2.1).bind fun rSameCurve3 =>
  (cond (cond (!rSameCurve3) true (rShift.2 != rShift2.2))
  (some false)
  ((cond (rCheckCurve2 != 0)
  (((g_keelblockbase_SameCurve N rSum.1 (⟨([] : List Int), ([] : List Tapi_Rat)⟩ : Tapi_Curve)).bind fun rSameCurve4 =>
  ((cond (cond rSameCurve4 (rSum.2 == rCheckCurve2) false) (g_w01_awake N) (some false)).bind fun rawake3 =>
  some (cond (cond rSameCurve4 (rSum.2 == rCheckCurve2) false) rawake3 false))))
  (((g_r01_Sum N a b).bind fun rSum2 =>
  ((g_keelblockbase_SameCurve N rSum.1 rSum2.1).bind fun rSameCurve5 =>
  ((cond (cond rSameCurve5 (rSum.2 == rSum2.2) false) (g_w01_awake N) (some false)).bind fun rawake4 =>
  some (cond (cond rSameCurve5 (rSum.2 == rSum2.2) false) rawake4 false))))))))))))))))))))

end Go.Den
