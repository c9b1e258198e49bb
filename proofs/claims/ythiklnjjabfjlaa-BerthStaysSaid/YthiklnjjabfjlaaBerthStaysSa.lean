/- Each function of the program does what its Lean function computes (part 1). No conditions. -/
import Derived.Test.YthiklnjjabfjlaaBerthStaysDen
import Derived.Test.YthiklnjjabfjlaaProg
set_option linter.unusedVariables false
set_option maxRecDepth 100000
namespace Go.Den
open Go.Ab Go.Proofs
noncomputable def C_6 (n:Nat):Code:=cat (bodyOf Try.f28) (pth n)
theorem g_water_between_ok (N:Nat) (n:Int) (low:Int) (high:Int) (r:Bool) (h:g_water_between N n low high=some r):Sound Try.prog 28 [(aI n),(aI low),(aI high)] [] 0 (aB r) []:=by
 unfold g_water_between at h
 refine Sound.of_runs (fu:=Try.f28) (c:=C_6 1) (nt:=15) (by kernel_rfl) (by kernel_rfl) (by kernel_rfl) (by kernel_rfl) (fun hm=>rfl) ?_
 intro E hE
 refine Runs.sA 1 [.code (C_6 2),.code (C_6 3)] ?_
 refine Runs.sR hE ⟨[(0,(aI n)),(1,(aI low)),(2,(aI high))],[],16⟩ (C_6 2) [] [] (kp [0,1,2]) [] 16 [] trivial ?_
 refine Runs.sA 1 [.code (C_6 6),.code (C_6 7)] ?_
 refine Runs.sR hE ⟨[(6,(aB (cond (decide (n≥low)) (decide (n≤high)) false)))],[],160⟩ (C_6 6) [] [] (kp [6]) [] 160 [(decide (n≥low))=true→AllP [(decide (n≥low))=true,(decide (n≥low))=true],(decide (n≥low))=true→AllP [(decide (n≥low))=true]] ⟨(fun hg=>⟨hg,hg,trivial⟩),(fun hq=>⟨hq,trivial⟩),trivial⟩ ?_
 obtain rfl:=Option.some.inj h
 refine Runs.sW hE ⟨[(6,(aB (cond (decide (n≥low)) (decide (n≤high)) false)))],[],160⟩ [] (kp [6]) [] 160 [] trivial ?_
 exact Runs.sT Try.f28 [] [] trivial
noncomputable def C_13 (n:Nat):Code:=cat (bodyOf Try.f27) (pth n)
theorem g_water_CheckSea_L1_ok (N:Nat) (m:List TMark) (fuel:Nat):∀ (x:Int) (r:Int),g_water_CheckSea_L1 N m fuel x=some r→∀ E,EnvOk E 0→Runs Try.prog E 27 39 (SPost E [] (aI r)) [.code (C_13 116),.inLoop (C_13 116),.inBlock 0,.code (C_13 15)] ⟨[(0,(encL TMark.cells TMark.d m)),(8,(encL TMark.cells TMark.d m)),(9,(aI ((m.length:Nat):Int))),(10,(aI x))],[],0⟩:=by
 induction fuel with
 | zero=>intro _ r h;rw [g_water_CheckSea_L1.eq_1] at h;cases h
 | succ fuel ih =>
  intro x r h E hE
  rw [g_water_CheckSea_L1.eq_2] at h
  refine Runs.sA 1 [.code (C_13 232),.code (C_13 233),.inLoop (C_13 116),.inBlock 0,.code (C_13 15)] ?_
  refine Runs.sR hE ⟨[(0,(encL TMark.cells TMark.d m)),(8,(encL TMark.cells TMark.d m)),(9,(aI ((m.length:Nat):Int))),(10,(aI x)),(11,(aB (decide (x < ((m.length:Nat):Int)))))],[],16⟩ (C_13 232) [] [] (kp [0,8,9,10,11]) [] 16 [] trivial ?_
  refine Runs.sA 1 [.code (C_13 466),.code (C_13 467),.inLoop (C_13 116),.inBlock 0,.code (C_13 15)] ?_
  refine Runs.sC 11 (C_13 932) (C_13 933) (decide (x < ((m.length:Nat):Int))) (fun hq3=>?_) (fun hq3=>?_)
  ·have h:=condT h hq3
   refine Runs.sA 4 [.code (C_13 3736),.code (C_13 3737),.inBlock 1,.code (C_13 935),.inLoop (C_13 116),.inBlock 0,.code (C_13 15)] ?_
   obtain ⟨c,h⟩:=ifSome h
   refine Runs.sR hE ⟨[(0,(encL TMark.cells TMark.d m)),(3,(aI x)),(4,(.op 64 0 0)),(8,(encL TMark.cells TMark.d m)),(9,(aI ((m.length:Nat):Int))),(10,(aI x))],[(64,vO 2 (TMark.cells (m.getD ((x).toNat) TMark.d)))],112⟩ (C_13 3736) [] [] (kp [0,3,4,8,9,10]) (kq [64]) 112 [0≤x∧x < ((m.length:Nat):Int),0 < 1] ⟨c,o1,trivial⟩ ?_
   refine Runs.sA 2 [.code (C_13 14948),.code (C_13 14949),.code (C_13 7475),.inBlock 1,.code (C_13 935),.inLoop (C_13 116),.inBlock 0,.code (C_13 15)] ?_
   obtain ⟨rbetween,hr,h⟩:=bindSome h
   obtain ⟨rbetween2,hr2,h⟩:=bindSome h
   refine Runs.sR hE ⟨[(0,(encL TMark.cells TMark.d m)),(3,(aI x)),(4,(.op 64 0 0)),(8,(encL TMark.cells TMark.d m)),(9,(aI ((m.length:Nat):Int))),(10,(aI x)),(24,(aB (cond (!rbetween) true (!rbetween2))))],[(64,vO 2 (TMark.cells (m.getD ((x).toNat) TMark.d)))],272⟩ (C_13 14948) [(2,⟨[],true,(aB rbetween),[],0,false,none⟩),(7,⟨[],true,(aB rbetween2),[],0,false,none⟩)] [] (kp [0,3,4,8,9,10,24]) (kq [64]) 272 [0 < 1,Sound Try.prog 28 [(aI ((m.getD ((x).toNat) TMark.d).f_Minute)),(aI 0),(aI 1000000)] [] 0 (aB rbetween) [],(!(!rbetween))=true→AllP [(!(!rbetween))=true,0 < 1],(!(!rbetween))=true→AllP [Sound Try.prog 28 [(aI ((m.getD ((x).toNat) TMark.d).f_Level)),(aI (-1000000)),(aI 1000000)] [] 0 (aB rbetween2) [],(!(!rbetween))=true],(!(!rbetween))=true→AllP [(!(!rbetween))=true],(!(!rbetween))=true→AllP [(!(!rbetween))=true]] ⟨o1,(g_water_between_ok N ((m.getD ((x).toNat) TMark.d).f_Minute) 0 1000000 rbetween hr),(fun hg=>⟨hg,o1,trivial⟩),(fun hg=>⟨(g_water_between_ok N ((m.getD ((x).toNat) TMark.d).f_Level) (-1000000) 1000000 rbetween2 (condT hr2 hg)),hg,trivial⟩),(fun hg=>⟨hg,trivial⟩),(fun hq=>⟨hq,trivial⟩),trivial⟩ ?_
   refine Runs.sC 24 (C_13 29898) (C_13 29899) (cond (!rbetween) true (!rbetween2)) (fun hq4=>?_) (fun hq4=>?_)
   ·have h:=condT h hq4
    refine Runs.sA 1 [.code (C_13 59796),.code (C_13 59797),.code (C_13 7475),.inBlock 1,.code (C_13 935),.inLoop (C_13 116),.inBlock 0,.code (C_13 15)] ?_
    refine Runs.sR hE ⟨[(2,(aI 2))],[],288⟩ (C_13 59796) [] [] (kp [2]) [] 288 [] trivial ?_
    obtain rfl:=Option.some.inj h
    refine Runs.sW hE ⟨[(2,(aI 2))],[],288⟩ [] (kp [2]) [] 288 [] trivial ?_
    exact Runs.sT Try.f27 [] [] trivial
   ·have h:=condF h hq4
    refine Runs.sA 2 [.code (C_13 14950),.code (C_13 14951),.inBlock 1,.code (C_13 935),.inLoop (C_13 116),.inBlock 0,.code (C_13 15)] ?_
    obtain ⟨c2,h⟩:=ifSome h
    refine Runs.sR hE ⟨[(0,(encL TMark.cells TMark.d m)),(8,(encL TMark.cells TMark.d m)),(9,(aI ((m.length:Nat):Int))),(10,(aI x)),(37,(aB (cond (decide (x > 0)) (decide ((m.getD ((x).toNat) TMark.d).f_Minute≤(m.getD ((w64 (x - 1)).toNat) TMark.d).f_Minute)) false)))],[],480⟩ (C_13 14950) [] [] (kp [0,8,9,10,37]) [] 480 [(decide (x > 0))=true→AllP [(decide (x > 0))=true,0 < 1],(decide (x > 0))=true→AllP [(decide (x > 0))=true],(decide (x > 0))=true→AllP [(decide (x > 0))=true,(decide (x > 0))=true,0≤(w64 (x - 1))∧(w64 (x - 1)) < ((m.length:Nat):Int)],(decide (x > 0))=true→AllP [(decide (x > 0))=true],(decide (x > 0))=true→AllP [(decide (x > 0))=true],(decide (x > 0))=true→AllP [(decide (x > 0))=true,(decide (x > 0))=true],(decide (x > 0))=true→AllP [(decide (x > 0))=true]] ⟨(fun hg=>⟨hg,o1,trivial⟩),(fun hg=>⟨hg,trivial⟩),(fun hg=>⟨hg,hg,(c2 hg),trivial⟩),(fun hg=>⟨hg,trivial⟩),(fun hg=>⟨hg,trivial⟩),(fun hg=>⟨hg,hg,trivial⟩),(fun hq=>⟨hq,trivial⟩),trivial⟩ ?_
    refine Runs.sC 37 (C_13 29902) (C_13 29903) (cond (decide (x > 0)) (decide ((m.getD ((x).toNat) TMark.d).f_Minute≤(m.getD ((w64 (x - 1)).toNat) TMark.d).f_Minute)) false) (fun hq5=>?_) (fun hq5=>?_)
    ·have h:=condT h hq5
     refine Runs.sA 1 [.code (C_13 59804),.code (C_13 59805),.inBlock 1,.code (C_13 935),.inLoop (C_13 116),.inBlock 0,.code (C_13 15)] ?_
     refine Runs.sR hE ⟨[(2,(aI 10))],[],496⟩ (C_13 59804) [] [] (kp [2]) [] 496 [] trivial ?_
     obtain rfl:=Option.some.inj h
     refine Runs.sW hE ⟨[(2,(aI 10))],[],496⟩ [] (kp [2]) [] 496 [] trivial ?_
     exact Runs.sT Try.f27 [] [] trivial
    ·have h:=condF h hq5
     refine Runs.sA 2 [.code (C_13 935),.inLoop (C_13 116),.inBlock 0,.code (C_13 15)] ?_
     refine Runs.sR hE ⟨[(0,(encL TMark.cells TMark.d m)),(8,(encL TMark.cells TMark.d m)),(9,(aI ((m.length:Nat):Int))),(10,(aI (w64 (x+1))))],[],512⟩ (C_13 935) [] [] (kp [0,8,9,10]) [] 512 [] trivial ?_
     refine Runs.sA 1 [.code (C_13 116),.inLoop (C_13 116),.inBlock 0,.code (C_13 15)] ?_
     exact Runs.sW hE _ [] (kp [0,8,9,10]) [] 0 [] trivial (ih (w64 (x+1)) _ h E hE)
  ·have h:=condF h hq3
   refine Runs.sA 2 [.code (C_13 30),.code (C_13 31)] ?_
   refine Runs.sR hE ⟨[(2,(aI 0))],[],32⟩ (C_13 30) [] [] (kp [2]) [] 32 [] trivial ?_
   obtain rfl:=Option.some.inj h
   refine Runs.sW hE ⟨[(2,(aI 0))],[],48⟩ [] (kp [2]) [] 48 [] trivial ?_
   exact Runs.sT Try.f27 [] [] trivial
theorem g_water_CheckSea_ok (N:Nat) (m:List TMark) (r:Int) (h:g_water_CheckSea N m=some r):Sound Try.prog 27 [(encL TMark.cells TMark.d m)] [] 0 (aI r) []:=by
 unfold g_water_CheckSea at h
 refine Sound.of_runs (fu:=Try.f27) (c:=C_13 1) (nt:=39) (by kernel_rfl) (by kernel_rfl) (by kernel_rfl) (by kernel_rfl) (fun hm=>rfl) ?_
 intro E hE
 refine Runs.sA 1 [.code (C_13 2),.code (C_13 3)] ?_
 refine Runs.sR hE ⟨[(0,(encL TMark.cells TMark.d m))],[],16⟩ (C_13 2) [] [] (kp [0]) [] 16 [] trivial ?_
 refine Runs.sA 2 [.code (C_13 12),.code (C_13 13),.code (C_13 7)] ?_
 refine Runs.sR hE ⟨[(0,(encL TMark.cells TMark.d m)),(7,(aB (decide (((m.length:Nat):Int) > 400))))],[],64⟩ (C_13 12) [] [] (kp [0,7]) [] 64 [] trivial ?_
 refine Runs.sC 7 (C_13 26) (C_13 27) (decide (((m.length:Nat):Int) > 400)) (fun hq2=>?_) (fun hq2=>?_)
 ·have h:=condT h hq2
  refine Runs.sA 1 [.code (C_13 52),.code (C_13 53),.code (C_13 7)] ?_
  refine Runs.sR hE ⟨[(2,(aI 8))],[],80⟩ (C_13 52) [] [] (kp [2]) [] 80 [] trivial ?_
  obtain rfl:=Option.some.inj h
  refine Runs.sW hE ⟨[(2,(aI 8))],[],80⟩ [] (kp [2]) [] 80 [] trivial ?_
  exact Runs.sT Try.f27 [] [] trivial
 ·have h:=condF h hq2
  refine Runs.sA 3 [.code (C_13 28),.code (C_13 29),.code (C_13 15)] ?_
  refine Runs.sR hE ⟨[(0,(encL TMark.cells TMark.d m)),(8,(encL TMark.cells TMark.d m)),(9,(aI ((m.length:Nat):Int))),(10,(aI 0))],[],112⟩ (C_13 28) [] [] (kp [0,8,9,10]) [] 112 [] trivial ?_
  refine Runs.sA 2 [.code (C_13 116),.inLoop (C_13 116),.inBlock 0,.code (C_13 15)] ?_
  exact Runs.sW hE _ [] (kp [0,8,9,10]) [] 0 [] trivial (g_water_CheckSea_L1_ok N m N 0 _ h E hE)
noncomputable def C_16 (n:Nat):Code:=cat (bodyOf Try.f94) (pth n)
theorem g_math_bits_Len64_J3_ok (N:Nat) (x4:Int) (n3:Int) (r:Int) (h:g_math_bits_Len64_J3 N x4 n3=some r):∀ E,EnvOk E 0→Runs Try.prog E 94 25 (SPost E [] (aI r)) [.code (C_16 62),.code (C_16 63)] ⟨[(0,(.atom (.int .u64 x4))),(2,(aI n3))],[],0⟩:=by
 intro E hE
 unfold g_math_bits_Len64_J3 at h
 obtain ⟨c,h⟩:=ifSome h
 refine Runs.sR hE ⟨[(2,(aI (w64 (n3+(w64 ((byteAt (⟨#[0,1,2,2,3,3,3,3,4,4,4,4,4,4,4,4,5,5,5,5,5,5,5,5,5,5,5,5,5,5,5,5,6,6,6,6,6,6,6,6,6,6,6,6,6,6,6,6,6,6,6,6,6,6,6,6,6,6,6,6,6,6,6,6,7,7,7,7,7,7,7,7,7,7,7,7,7,7,7,7,7,7,7,7,7,7,7,7,7,7,7,7,7,7,7,7,7,7,7,7,7,7,7,7,7,7,7,7,7,7,7,7,7,7,7,7,7,7,7,7,7,7,7,7,7,7,7,7,8,8,8,8,8,8,8,8,8,8,8,8,8,8,8,8,8,8,8,8,8,8,8,8,8,8,8,8,8,8,8,8,8,8,8,8,8,8,8,8,8,8,8,8,8,8,8,8,8,8,8,8,8,8,8,8,8,8,8,8,8,8,8,8,8,8,8,8,8,8,8,8,8,8,8,8,8,8,8,8,8,8,8,8,8,8,8,8,8,8,8,8,8,8,8,8,8,8,8,8,8,8,8,8,8,8,8,8,8,8,8,8,8,8,8,8,8,8,8,8,8,8,8,8,8,8,8,8]⟩:ByteArray) ((IntKind.u8.wrap (x4)).toNat))))))))],[],112⟩ (C_16 62) [] [] (kp [2]) [] 112 [0≤(IntKind.u8.wrap (x4))∧(IntKind.u8.wrap (x4)) < (((⟨#[0,1,2,2,3,3,3,3,4,4,4,4,4,4,4,4,5,5,5,5,5,5,5,5,5,5,5,5,5,5,5,5,6,6,6,6,6,6,6,6,6,6,6,6,6,6,6,6,6,6,6,6,6,6,6,6,6,6,6,6,6,6,6,6,7,7,7,7,7,7,7,7,7,7,7,7,7,7,7,7,7,7,7,7,7,7,7,7,7,7,7,7,7,7,7,7,7,7,7,7,7,7,7,7,7,7,7,7,7,7,7,7,7,7,7,7,7,7,7,7,7,7,7,7,7,7,7,7,8,8,8,8,8,8,8,8,8,8,8,8,8,8,8,8,8,8,8,8,8,8,8,8,8,8,8,8,8,8,8,8,8,8,8,8,8,8,8,8,8,8,8,8,8,8,8,8,8,8,8,8,8,8,8,8,8,8,8,8,8,8,8,8,8,8,8,8,8,8,8,8,8,8,8,8,8,8,8,8,8,8,8,8,8,8,8,8,8,8,8,8,8,8,8,8,8,8,8,8,8,8,8,8,8,8,8,8,8,8,8,8,8,8,8,8,8,8,8,8,8,8,8,8,8,8,8,8]⟩:ByteArray).size:Nat):Int)] ⟨c,trivial⟩ ?_
 obtain rfl:=Option.some.inj h
 refine Runs.sW hE ⟨[(2,(aI (w64 (n3+(w64 ((byteAt (⟨#[0,1,2,2,3,3,3,3,4,4,4,4,4,4,4,4,5,5,5,5,5,5,5,5,5,5,5,5,5,5,5,5,6,6,6,6,6,6,6,6,6,6,6,6,6,6,6,6,6,6,6,6,6,6,6,6,6,6,6,6,6,6,6,6,7,7,7,7,7,7,7,7,7,7,7,7,7,7,7,7,7,7,7,7,7,7,7,7,7,7,7,7,7,7,7,7,7,7,7,7,7,7,7,7,7,7,7,7,7,7,7,7,7,7,7,7,7,7,7,7,7,7,7,7,7,7,7,7,8,8,8,8,8,8,8,8,8,8,8,8,8,8,8,8,8,8,8,8,8,8,8,8,8,8,8,8,8,8,8,8,8,8,8,8,8,8,8,8,8,8,8,8,8,8,8,8,8,8,8,8,8,8,8,8,8,8,8,8,8,8,8,8,8,8,8,8,8,8,8,8,8,8,8,8,8,8,8,8,8,8,8,8,8,8,8,8,8,8,8,8,8,8,8,8,8,8,8,8,8,8,8,8,8,8,8,8,8,8,8,8,8,8,8,8,8,8,8,8,8,8,8,8,8,8,8,8]⟩:ByteArray) ((IntKind.u8.wrap (x4)).toNat))))))))],[],112⟩ [] (kp [2]) [] 112 [] trivial ?_
 exact Runs.sT Try.f94 [] [] trivial
theorem g_math_bits_Len64_J2_ok (N:Nat) (x3:Int) (n2:Int) (r:Int) (h:g_math_bits_Len64_J2 N x3 n2=some r):∀ E,EnvOk E 0→Runs Try.prog E 94 25 (SPost E [] (aI r)) [.code (C_16 60),.code (C_16 61),.code (C_16 31)] ⟨[(0,(.atom (.int .u64 x3))),(2,(aI n2))],[],0⟩:=by
 intro E hE
 unfold g_math_bits_Len64_J2 at h
 refine Runs.sR hE ⟨[(0,(.atom (.int .u64 x3))),(2,(aI n2)),(14,(aB (decide (x3≥256))))],[],32⟩ (C_16 60) [] [] (kp [0,2,14]) [] 32 [] trivial ?_
 refine Runs.sC 14 (C_16 122) (C_16 123) (decide (x3≥256)) (fun hq4=>?_) (fun hq4=>?_)
 ·have h:=condT h hq4
  refine Runs.sA 1 [.code (C_16 244),.code (C_16 245),.code (C_16 31)] ?_
  refine Runs.sR hE ⟨[(0,(.atom (.int .u64 (shrI .u64 x3 8)))),(2,(aI n2))],[],80⟩ (C_16 244) [] [] (kp [0,2]) [] 80 [(0:Int)≤8] ⟨(by decide),trivial⟩ ?_
  refine Runs.sR hE ⟨[(0,(.atom (.int .u64 (shrI .u64 x3 8)))),(2,(aI (w64 (n2+8))))],[],128⟩ (C_16 245) [] [] (kp [0,2]) [] 128 [] trivial ?_
  refine Runs.sA 1 [.code (C_16 62),.code (C_16 63)] ?_
  exact Runs.sW hE _ [] (kp [0,2]) [] 0 [] trivial (g_math_bits_Len64_J3_ok N (shrI .u64 x3 8) (w64 (n2+8)) _ h E hE)
 ·have h:=condF h hq4
  refine Runs.sA 2 [.code (C_16 62),.code (C_16 63)] ?_
  exact Runs.sW hE _ [] (kp [0,2]) [] 0 [] trivial (g_math_bits_Len64_J3_ok N x3 n2 _ h E hE)
theorem g_math_bits_Len64_J1_ok (N:Nat) (x2:Int) (n:Int) (r:Int) (h:g_math_bits_Len64_J1 N x2 n=some r):∀ E,EnvOk E 0→Runs Try.prog E 94 25 (SPost E [] (aI r)) [.code (C_16 28),.code (C_16 29),.code (C_16 15)] ⟨[(0,(.atom (.int .u64 x2))),(2,(aI n))],[],0⟩:=by
 intro E hE
 unfold g_math_bits_Len64_J1 at h
 refine Runs.sR hE ⟨[(0,(.atom (.int .u64 x2))),(2,(aI n)),(8,(aB (decide (x2≥65536))))],[],32⟩ (C_16 28) [] [] (kp [0,2,8]) [] 32 [] trivial ?_
 refine Runs.sC 8 (C_16 58) (C_16 59) (decide (x2≥65536)) (fun hq3=>?_) (fun hq3=>?_)
 ·have h:=condT h hq3
  refine Runs.sA 1 [.code (C_16 116),.code (C_16 117),.code (C_16 15)] ?_
  refine Runs.sR hE ⟨[(0,(.atom (.int .u64 (shrI .u64 x2 16)))),(2,(aI n))],[],80⟩ (C_16 116) [] [] (kp [0,2]) [] 80 [(0:Int)≤16] ⟨(by decide),trivial⟩ ?_
  refine Runs.sR hE ⟨[(0,(.atom (.int .u64 (shrI .u64 x2 16)))),(2,(aI (w64 (n+16))))],[],128⟩ (C_16 117) [] [] (kp [0,2]) [] 128 [] trivial ?_
  refine Runs.sA 2 [.code (C_16 60),.code (C_16 61),.code (C_16 31)] ?_
  exact Runs.sW hE _ [] (kp [0,2]) [] 0 [] trivial (g_math_bits_Len64_J2_ok N (shrI .u64 x2 16) (w64 (n+16)) _ h E hE)
 ·have h:=condF h hq3
  refine Runs.sA 3 [.code (C_16 60),.code (C_16 61),.code (C_16 31)] ?_
  exact Runs.sW hE _ [] (kp [0,2]) [] 0 [] trivial (g_math_bits_Len64_J2_ok N x2 n _ h E hE)
theorem g_math_bits_Len64_ok (N:Nat) (x:Int) (r:Int) (h:g_math_bits_Len64 N x=some r):Sound Try.prog 94 [(.atom (.int .u64 x))] [] 0 (aI r) []:=by
 unfold g_math_bits_Len64 at h
 refine Sound.of_runs (fu:=Try.f94) (c:=C_16 1) (nt:=25) (by kernel_rfl) (by kernel_rfl) (by kernel_rfl) (by kernel_rfl) (fun hm=>rfl) ?_
 intro E hE
 refine Runs.sA 1 [.code (C_16 2),.code (C_16 3)] ?_
 refine Runs.sR hE ⟨[(0,(.atom (.int .u64 x))),(2,(aI 0))],[],16⟩ (C_16 2) [] [] (kp [0,2]) [] 16 [] trivial ?_
 refine Runs.sA 2 [.code (C_16 12),.code (C_16 13),.code (C_16 7)] ?_
 refine Runs.sR hE ⟨[(0,(.atom (.int .u64 x))),(2,(aI 0)),(4,(aB (decide (x≥4294967296))))],[],48⟩ (C_16 12) [] [] (kp [0,2,4]) [] 48 [] trivial ?_
 refine Runs.sC 4 (C_16 26) (C_16 27) (decide (x≥4294967296)) (fun hq2=>?_) (fun hq2=>?_)
 ·have h:=condT h hq2
  refine Runs.sA 1 [.code (C_16 52),.code (C_16 53),.code (C_16 7)] ?_
  refine Runs.sR hE ⟨[(0,(.atom (.int .u64 (shrI .u64 x 32))))],[],96⟩ (C_16 52) [] [] (kp [0]) [] 96 [(0:Int)≤32] ⟨(by decide),trivial⟩ ?_
  refine Runs.sR hE ⟨[(0,(.atom (.int .u64 (shrI .u64 x 32)))),(2,(aI 32))],[],112⟩ (C_16 53) [] [] (kp [0,2]) [] 112 [] trivial ?_
  refine Runs.sA 2 [.code (C_16 28),.code (C_16 29),.code (C_16 15)] ?_
  exact Runs.sW hE _ [] (kp [0,2]) [] 0 [] trivial (g_math_bits_Len64_J1_ok N (shrI .u64 x 32) 32 _ h E hE)
 ·have h:=condF h hq2
  refine Runs.sA 3 [.code (C_16 28),.code (C_16 29),.code (C_16 15)] ?_
  exact Runs.sW hE _ [] (kp [0,2]) [] 0 [] trivial (g_math_bits_Len64_J1_ok N x 0 _ h E hE)
noncomputable def C_15 (n:Nat):Code:=cat (bodyOf Try.f67) (pth n)
theorem g_math_bits_Len_ok (N:Nat) (x:Int) (r:Int) (h:g_math_bits_Len N x=some r):Sound Try.prog 67 [(.atom (.int .u64 x))] [] 0 (aI r) []:=by
 unfold g_math_bits_Len at h
 refine Sound.of_runs (fu:=Try.f67) (c:=C_15 1) (nt:=8) (by kernel_rfl) (by kernel_rfl) (by kernel_rfl) (by kernel_rfl) (fun hm=>rfl) ?_
 intro E hE
 refine Runs.sA 1 [.code (C_15 2),.code (C_15 3)] ?_
 refine Runs.sR hE ⟨[(0,(.atom (.int .u64 x)))],[],16⟩ (C_15 2) [] [] (kp [0]) [] 16 [] trivial ?_
 refine Runs.sA 1 [.code (C_15 6),.code (C_15 7)] ?_
 refine Runs.sK0 (C_15 12) (C_15 13) ?_
 refine Runs.sA 2 [.code (C_15 14),.code (C_15 15)] ?_
 obtain ⟨rLen64,hr,h⟩:=bindSome h
 refine Runs.sR hE ⟨[(2,(aI rLen64))],[],64⟩ (C_15 14) [(1,⟨[],true,(aI rLen64),[],0,false,none⟩)] [] (kp [2]) [] 64 [Sound Try.prog 94 [(.atom (.int .u64 x))] [] 0 (aI rLen64) []] ⟨(g_math_bits_Len64_ok N x rLen64 hr),trivial⟩ ?_
 obtain rfl:=Option.some.inj h
 refine Runs.sW hE ⟨[(2,(aI rLen64))],[],64⟩ [] (kp [2]) [] 64 [] trivial ?_
 exact Runs.sT Try.f67 [] [] trivial
noncomputable def C_20 (n:Nat):Code:=cat (bodyOf Try.f107) (pth n)
theorem g_cmp_isNaN_int_ok (N:Nat) (x:Int) (r:Bool) (h:g_cmp_isNaN_int N x=some r):Sound Try.prog 107 [(aI x)] [] 0 (aB r) []:=by
 unfold g_cmp_isNaN_int at h
 refine Sound.of_runs (fu:=Try.f107) (c:=C_20 1) (nt:=6) (by kernel_rfl) (by kernel_rfl) (by kernel_rfl) (by kernel_rfl) (fun hm=>rfl) ?_
 intro E hE
 refine Runs.sA 1 [.code (C_20 2),.code (C_20 3)] ?_
 refine Runs.sR hE ⟨[(0,(aI x))],[],16⟩ (C_20 2) [] [] (kp [0]) [] 16 [] trivial ?_
 refine Runs.sA 1 [.code (C_20 6),.code (C_20 7)] ?_
 refine Runs.sR hE ⟨[(2,(aB (x != x)))],[],80⟩ (C_20 6) [] [] (kp [2]) [] 80 [] trivial ?_
 obtain rfl:=Option.some.inj h
 refine Runs.sW hE ⟨[(2,(aB (x != x)))],[],80⟩ [] (kp [2]) [] 80 [] trivial ?_
 exact Runs.sT Try.f107 [] [] trivial
noncomputable def C_19 (n:Nat):Code:=cat (bodyOf Try.f90) (pth n)
theorem g_cmp_Less_int_ok (N:Nat) (x:Int) (y:Int) (r:Bool) (h:g_cmp_Less_int N x y=some r):Sound Try.prog 90 [(aI x),(aI y)] [] 0 (aB r) []:=by
 unfold g_cmp_Less_int at h
 refine Sound.of_runs (fu:=Try.f90) (c:=C_19 1) (nt:=17) (by kernel_rfl) (by kernel_rfl) (by kernel_rfl) (by kernel_rfl) (fun hm=>rfl) ?_
 intro E hE
 refine Runs.sA 1 [.code (C_19 2),.code (C_19 3)] ?_
 refine Runs.sR hE ⟨[(0,(aI x)),(1,(aI y))],[],16⟩ (C_19 2) [] [] (kp [0,1]) [] 16 [] trivial ?_
 refine Runs.sA 1 [.code (C_19 6),.code (C_19 7)] ?_
 obtain ⟨risNaN,hr,h⟩:=bindSome h
 obtain ⟨risNaN2,hr2,h⟩:=bindSome h
 refine Runs.sR hE ⟨[(4,(aB (cond (cond risNaN (!risNaN2) false) true (decide (x < y)))))],[],224⟩ (C_19 6) [(1,⟨[],true,(aB risNaN),[],0,false,none⟩),(4,⟨[],true,(aB risNaN2),[],0,false,none⟩)] [] (kp [4]) [] 224 [Sound Try.prog 107 [(aI x)] [] 0 (aB risNaN) [],risNaN=true→AllP [Sound Try.prog 107 [(aI y)] [] 0 (aB risNaN2) [],risNaN=true],risNaN=true→AllP [risNaN=true],risNaN=true→AllP [risNaN=true],(!(cond risNaN (!risNaN2) false))=true→AllP [(!(cond risNaN (!risNaN2) false))=true,(!(cond risNaN (!risNaN2) false))=true],(!(cond risNaN (!risNaN2) false))=true→AllP [(!(cond risNaN (!risNaN2) false))=true]] ⟨(g_cmp_isNaN_int_ok N x risNaN hr),(fun hg=>⟨(g_cmp_isNaN_int_ok N y risNaN2 (condT hr2 hg)),hg,trivial⟩),(fun hg=>⟨hg,trivial⟩),(fun hq=>⟨hq,trivial⟩),(fun hg=>⟨hg,hg,trivial⟩),(fun hq=>⟨hq,trivial⟩),trivial⟩ ?_
 obtain rfl:=Option.some.inj h
 refine Runs.sW hE ⟨[(4,(aB (cond (cond risNaN (!risNaN2) false) true (decide (x < y)))))],[],224⟩ [] (kp [4]) [] 224 [] trivial ?_
 exact Runs.sT Try.f90 [] [] trivial
noncomputable def C_18 (n:Nat):Code:=cat (bodyOf Try.f84) (pth n)
theorem g_slices_insertionSortOrdered_int_L2_ok (N:Nat) (a:Int) (b:Int) (i:Int) (K_g_slices_insertionSortOrdered_int_L1:(List Int)→Int→Option ((List Int)))
  (hK_g_slices_insertionSortOrdered_int_L1:∀ (cap02:List Int) (i:Int) (r:(List Int)),K_g_slices_insertionSortOrdered_int_L1 cap02 i=some r→∀ E,EnvOk E 1→Runs Try.prog E 84 49 (SPost E [(0,aO 1 cI 0 r)] (.tup [])) [.code (C_18 12),.inLoop (C_18 12),.inBlock 0] ⟨[(0,(.os 0 0 cap02.length)),(1,(aI a)),(2,(aI b)),(6,(aI i))],[(0,aO 1 cI 0 cap02)],1⟩) (fuel:Nat):∀ (cap03:List Int) (j:Int) (r:(List Int)),g_slices_insertionSortOrdered_int_L2 N a b i K_g_slices_insertionSortOrdered_int_L1 fuel cap03 j=some r→∀ E,EnvOk E 1→Runs Try.prog E 84 49 (SPost E [(0,aO 1 cI 0 r)] (.tup [])) [.code (C_18 804),.inLoop (C_18 804),.inBlock 2,.inBlock 1,.code (C_18 51),.inLoop (C_18 12),.inBlock 0] ⟨[(0,(.os 0 0 cap03.length)),(1,(aI a)),(2,(aI b)),(6,(aI i)),(7,(aI j))],[(0,aO 1 cI 0 cap03)],1⟩:=by
 induction fuel with
 | zero=>intro _ _ r h;rw [g_slices_insertionSortOrdered_int_L2.eq_1] at h;cases h
 | succ fuel ih =>
  intro cap03 j r h E hE
  rw [g_slices_insertionSortOrdered_int_L2.eq_2] at h
  refine Runs.sA 2 [.code (C_18 3216),.code (C_18 3217),.code (C_18 1609),.inLoop (C_18 804),.inBlock 2,.inBlock 1,.code (C_18 51),.inLoop (C_18 12),.inBlock 0] ?_
  obtain ⟨c,h⟩:=ifSome h
  obtain ⟨c2,h⟩:=ifSome h
  obtain ⟨rLess,hr,h⟩:=bindSome h
  refine Runs.sR hE ⟨[(0,(.os 0 0 cap03.length)),(1,(aI a)),(2,(aI b)),(6,(aI i)),(7,(aI j)),(30,(aB (cond (decide (j > a)) rLess false)))],[(0,aO 1 cI 0 cap03)],241⟩ (C_18 3216) [(13,⟨[],true,(aB rLess),[],0,false,none⟩)] [] (kp [0,1,2,6,7,30]) (kq [0]) 241 [(decide (j > a))=true→AllP [(decide (j > a))=true,(decide (j > a))=true,0≤j∧j < ((cap03.length:Nat):Int)],(decide (j > a))=true→AllP [(decide (j > a))=true,(j).toNat < cap03.length],(decide (j > a))=true→AllP [(decide (j > a))=true],(decide (j > a))=true→AllP [(decide (j > a))=true,(decide (j > a))=true,0≤(w64 (j - 1))∧(w64 (j - 1)) < ((cap03.length:Nat):Int)],(decide (j > a))=true→AllP [(decide (j > a))=true,(w64 (j - 1)).toNat < cap03.length],(decide (j > a))=true→AllP [Sound Try.prog 90 [(aI (cap03.getD ((j).toNat) 0)),(aI (cap03.getD ((w64 (j - 1)).toNat) 0))] [] 0 (aB rLess) [],(decide (j > a))=true,(decide (j > a))=true],(decide (j > a))=true→AllP [(decide (j > a))=true]] ⟨(fun hg=>⟨hg,hg,(c hg),trivial⟩),(fun hg=>⟨hg,(ltOf (c hg)),trivial⟩),(fun hg=>⟨hg,trivial⟩),(fun hg=>⟨hg,hg,(c2 hg),trivial⟩),(fun hg=>⟨hg,(ltOf (c2 hg)),trivial⟩),(fun hg=>⟨(g_cmp_Less_int_ok N (cap03.getD ((j).toNat) 0) (cap03.getD ((w64 (j - 1)).toNat) 0) rLess (condT hr hg)),hg,hg,trivial⟩),(fun hq=>⟨hq,trivial⟩),trivial⟩ ?_
  refine Runs.sC 30 (C_18 6434) (C_18 6435) (cond (decide (j > a)) rLess false) (fun hq3=>?_) (fun hq3=>?_)
  ·have h:=condT h hq3
   refine Runs.sA 3 [.code (C_18 6436),.inBlock 3,.code (C_18 3219),.inLoop (C_18 804),.inBlock 2,.inBlock 1,.code (C_18 51),.inLoop (C_18 12),.inBlock 0] ?_
   obtain ⟨c3,h⟩:=ifSome h
   obtain ⟨c4,h⟩:=ifSome h
   refine Runs.sR hE ⟨[(0,(.os 0 0 (((cap03.set ((j).toNat) (cap03.getD ((w64 (j - 1)).toNat) 0)).set ((w64 (j - 1)).toNat) (cap03.getD ((j).toNat) 0)).length))),(1,(aI a)),(2,(aI b)),(6,(aI i)),(7,(aI j))],[(0,aO 1 cI 0 ((cap03.set ((j).toNat) (cap03.getD ((w64 (j - 1)).toNat) 0)).set ((w64 (j - 1)).toNat) (cap03.getD ((j).toNat) 0)))],529⟩ (C_18 6436) [] [] ([(0,.osl (((cap03.set ((j).toNat) (cap03.getD ((w64 (j - 1)).toNat) 0)).set ((w64 (j - 1)).toNat) (cap03.getD ((j).toNat) 0)).length))] ++ kp [1,2,6,7]) [(0,.arr 0 (((cap03.set ((j).toNat) (cap03.getD ((w64 (j - 1)).toNat) 0)).set ((w64 (j - 1)).toNat) (cap03.getD ((j).toNat) 0)).length) (fun zi=>cI (((cap03.set ((j).toNat) (cap03.getD ((w64 (j - 1)).toNat) 0)).set ((w64 (j - 1)).toNat) (cap03.getD ((j).toNat) 0)).getD zi 0)))] 529 [0≤(w64 (j - 1))∧(w64 (j - 1)) < ((cap03.length:Nat):Int),(w64 (j - 1)).toNat < cap03.length,0≤j∧j < ((cap03.length:Nat):Int),(j).toNat < cap03.length,0≤j∧j < ((cap03.length:Nat):Int),(j).toNat < cap03.length,0≤(w64 (j - 1))∧(w64 (j - 1)) < ((cap03.length:Nat):Int),(w64 (j - 1)).toNat < cap03.length,cap03.length=((cap03.set ((j).toNat) (cap03.getD ((w64 (j - 1)).toNat) 0)).set ((w64 (j - 1)).toNat) (cap03.getD ((j).toNat) 0)).length,cap03.length=((cap03.set ((j).toNat) (cap03.getD ((w64 (j - 1)).toNat) 0)).set ((w64 (j - 1)).toNat) (cap03.getD ((j).toNat) 0)).length,∀ zi,zi < ((cap03.set ((j).toNat) (cap03.getD ((w64 (j - 1)).toNat) 0)).set ((w64 (j - 1)).toNat) (cap03.getD ((j).toNat) 0)).length→(fun zi=>cI (((cap03.set ((j).toNat) (cap03.getD ((w64 (j - 1)).toNat) 0)).set ((w64 (j - 1)).toNat) (cap03.getD ((j).toNat) 0)).getD zi 0)) zi=((fun zm=>if zm=(w64 (j - 1)).toNat then [(aI (cap03.getD ((j).toNat) 0))] else ((fun zm=>if zm=(j).toNat then [(aI (cap03.getD ((w64 (j - 1)).toNat) 0))] else (fun zi=>cI (cap03.getD zi 0)) zm)) zm)) zi] ⟨c3,(ltOf c3),c4,(ltOf c4),c4,(ltOf c4),c3,(ltOf c3),(len_set_raw (len_set_raw rfl)),(len_set_raw (len_set_raw rfl)),(get_set_raw cI 0 (cap03.set ((j).toNat) (cap03.getD ((w64 (j - 1)).toNat) 0)) ((w64 (j - 1)).toNat) (cap03.getD ((j).toNat) 0) (get_set_raw cI 0 cap03 ((j).toNat) (cap03.getD ((w64 (j - 1)).toNat) 0) (fun _ _=>rfl))),trivial⟩ ?_
   refine Runs.sA 1 [.code (C_18 3219),.inLoop (C_18 804),.inBlock 2,.inBlock 1,.code (C_18 51),.inLoop (C_18 12),.inBlock 0] ?_
   refine Runs.sR hE ⟨[(0,(.os 0 0 (((cap03.set ((j).toNat) (cap03.getD ((w64 (j - 1)).toNat) 0)).set ((w64 (j - 1)).toNat) (cap03.getD ((j).toNat) 0)).length))),(1,(aI a)),(2,(aI b)),(6,(aI i)),(7,(aI (w64 (j - 1))))],[(0,aO 1 cI 0 ((cap03.set ((j).toNat) (cap03.getD ((w64 (j - 1)).toNat) 0)).set ((w64 (j - 1)).toNat) (cap03.getD ((j).toNat) 0)))],577⟩ (C_18 3219) [] [] (kp [0,1,2,6,7]) (kq [0]) 577 [] trivial ?_
   refine Runs.sA 1 [.code (C_18 804),.inLoop (C_18 804),.inBlock 2,.inBlock 1,.code (C_18 51),.inLoop (C_18 12),.inBlock 0] ?_
   exact Runs.sW hE _ [] (kp [0,1,2,6,7]) (kq [0]) 1 [] trivial (ih ((cap03.set ((j).toNat) (cap03.getD ((w64 (j - 1)).toNat) 0)).set ((w64 (j - 1)).toNat) (cap03.getD ((j).toNat) 0)) (w64 (j - 1)) _ h E hE)
  ·have h:=condF h hq3
   refine Runs.sA 2 [.code (C_18 51),.inLoop (C_18 12),.inBlock 0] ?_
   refine Runs.sR hE ⟨[(0,(.os 0 0 cap03.length)),(1,(aI a)),(2,(aI b)),(6,(aI (w64 (i+1))))],[(0,aO 1 cI 0 cap03)],289⟩ (C_18 51) [] [] (kp [0,1,2,6]) (kq [0]) 289 [] trivial ?_
   refine Runs.sA 1 [.code (C_18 12),.inLoop (C_18 12),.inBlock 0] ?_
   exact Runs.sW hE _ [] (kp [0,1,2,6]) (kq [0]) 1 [] trivial (hK_g_slices_insertionSortOrdered_int_L1 cap03 (w64 (i+1)) _ h E hE)
theorem g_slices_insertionSortOrdered_int_L1_ok (N:Nat) (a:Int) (b:Int) (fuel:Nat):∀ (cap02:List Int) (i:Int) (r:(List Int)),g_slices_insertionSortOrdered_int_L1 N a b fuel cap02 i=some r→∀ E,EnvOk E 1→Runs Try.prog E 84 49 (SPost E [(0,aO 1 cI 0 r)] (.tup [])) [.code (C_18 12),.inLoop (C_18 12),.inBlock 0] ⟨[(0,(.os 0 0 cap02.length)),(1,(aI a)),(2,(aI b)),(6,(aI i))],[(0,aO 1 cI 0 cap02)],1⟩:=by
 induction fuel with
 | zero=>intro _ _ r h;rw [g_slices_insertionSortOrdered_int_L1.eq_1] at h;cases h
 | succ fuel ih =>
  intro cap02 i r h E hE
  rw [g_slices_insertionSortOrdered_int_L1.eq_2] at h
  refine Runs.sA 2 [.code (C_18 48),.code (C_18 49),.code (C_18 25),.inLoop (C_18 12),.inBlock 0] ?_
  refine Runs.sR hE ⟨[(0,(.os 0 0 cap02.length)),(1,(aI a)),(2,(aI b)),(6,(aI i)),(12,(aB (decide (i < b))))],[(0,aO 1 cI 0 cap02)],49⟩ (C_18 48) [] [] (kp [0,1,2,6,12]) (kq [0]) 49 [] trivial ?_
  refine Runs.sC 12 (C_18 98) (C_18 99) (decide (i < b)) (fun hq2=>?_) (fun hq2=>?_)
  ·have h:=condT h hq2
   refine Runs.sA 4 [.code (C_18 200),.code (C_18 201),.inBlock 1,.code (C_18 51),.inLoop (C_18 12),.inBlock 0] ?_
   refine Runs.sR hE ⟨[(0,(.os 0 0 cap02.length)),(1,(aI a)),(2,(aI b)),(6,(aI i)),(7,(aI i))],[(0,aO 1 cI 0 cap02)],81⟩ (C_18 200) [] [] (kp [0,1,2,6,7]) (kq [0]) 81 [] trivial ?_
   refine Runs.sA 2 [.code (C_18 804),.inLoop (C_18 804),.inBlock 2,.inBlock 1,.code (C_18 51),.inLoop (C_18 12),.inBlock 0] ?_
   exact Runs.sW hE _ [] (kp [0,1,2,6,7]) (kq [0]) 1 [] trivial (g_slices_insertionSortOrdered_int_L2_ok N a b i (g_slices_insertionSortOrdered_int_L1 N a b fuel) ih N cap02 i _ h E hE)
  ·have h:=condF h hq2
   refine Runs.sA 1 [] ?_
   obtain rfl:=Option.some.inj h
   refine Runs.sW hE ⟨[],[(0,aO 1 cI 0 cap02)],49⟩ [] [] (kq [0]) 49 [] trivial ?_
   exact Runs.sF Try.f84 [] [] trivial
theorem g_slices_insertionSortOrdered_int_ok (N:Nat) (a:Int) (b:Int) (cap0:List Int) (r:(List Int)) (h:g_slices_insertionSortOrdered_int N a b cap0=some r):Sound Try.prog 84 [(.os 0 0 cap0.length),(aI a),(aI b)] [(0,aO 1 cI 0 cap0)] 1 (.tup []) [(0,aO 1 cI 0 r)]:=by
 unfold g_slices_insertionSortOrdered_int at h
 refine Sound.of_runs (fu:=Try.f84) (c:=C_18 1) (nt:=49) (by kernel_rfl) (by kernel_rfl) (by kernel_rfl) (by kernel_rfl) (fun hm=>absurd hm (by decide)) ?_
 intro E hE
 refine Runs.sA 1 [.code (C_18 2),.code (C_18 3)] ?_
 refine Runs.sR hE ⟨[(0,(.os 0 0 cap0.length)),(1,(aI a)),(2,(aI b)),(6,(aI (w64 (a+1))))],[(0,aO 1 cI 0 cap0)],49⟩ (C_18 2) [] [] (kp [0,1,2,6]) (kq [0]) 49 [] trivial ?_
 refine Runs.sA 2 [.code (C_18 12),.inLoop (C_18 12),.inBlock 0] ?_
 exact Runs.sW hE _ [] (kp [0,1,2,6]) (kq [0]) 1 [] trivial (g_slices_insertionSortOrdered_int_L1_ok N a b N cap0 (w64 (a+1)) _ h E hE)
noncomputable def C_22 (n:Nat):Code:=cat (bodyOf Try.f102) (pth n)
theorem g_slices_siftDownOrdered_int_J2_ok (N:Nat) (hi:Int) (first:Int) (cap02:List Int) (root:Int) (K_g_slices_siftDownOrdered_int_L1:(List Int)→Int→Option ((List Int)))
  (hK_g_slices_siftDownOrdered_int_L1:∀ (cap02:List Int) (root:Int) (r:(List Int)),K_g_slices_siftDownOrdered_int_L1 cap02 root=some r→∀ E,EnvOk E 1→Runs Try.prog E 102 76 (SPost E [(0,aO 1 cI 0 r)] (.tup [])) [.code (C_22 12),.inLoop (C_22 12),.inBlock 0] ⟨[(0,(.os 0 0 cap02.length)),(2,(aI hi)),(3,(aI first)),(8,(aI root))],[(0,aO 1 cI 0 cap02)],1⟩) (child:Int) (r:(List Int)) (h:g_slices_siftDownOrdered_int_J2 N hi first cap02 root K_g_slices_siftDownOrdered_int_L1 child=some r):∀ E,EnvOk E 1→Runs Try.prog E 102 76 (SPost E [(0,aO 1 cI 0 r)] (.tup [])) [.code (C_22 796),.code (C_22 797),.code (C_22 399),.inBlock 1,.inLoop (C_22 12),.inBlock 0] ⟨[(0,(.os 0 0 cap02.length)),(2,(aI hi)),(3,(aI first)),(8,(aI root)),(9,(aI child))],[(0,aO 1 cI 0 cap02)],1⟩:=by
 intro E hE
 unfold g_slices_siftDownOrdered_int_J2 at h
 obtain ⟨c3,h⟩:=ifSome h
 obtain ⟨c4,h⟩:=ifSome h
 obtain ⟨rLess2,hr2,h⟩:=bindSome h
 refine Runs.sR hE ⟨[(0,(.os 0 0 cap02.length)),(2,(aI hi)),(3,(aI first)),(8,(aI root)),(9,(aI child)),(52,(aB (!rLess2)))],[(0,aO 1 cI 0 cap02)],225⟩ (C_22 796) [(12,⟨[],true,(aB rLess2),[],0,false,none⟩)] [] (kp [0,2,3,8,9,52]) (kq [0]) 225 [0≤(w64 (first+root))∧(w64 (first+root)) < ((cap02.length:Nat):Int),(w64 (first+root)).toNat < cap02.length,0≤(w64 (first+child))∧(w64 (first+child)) < ((cap02.length:Nat):Int),(w64 (first+child)).toNat < cap02.length,Sound Try.prog 90 [(aI (cap02.getD ((w64 (first+root)).toNat) 0)),(aI (cap02.getD ((w64 (first+child)).toNat) 0))] [] 0 (aB rLess2) []] ⟨c3,(ltOf c3),c4,(ltOf c4),(g_cmp_Less_int_ok N (cap02.getD ((w64 (first+root)).toNat) 0) (cap02.getD ((w64 (first+child)).toNat) 0) rLess2 hr2),trivial⟩ ?_
 refine Runs.sC 52 (C_22 1594) (C_22 1595) (!rLess2) (fun hq4=>?_) (fun hq4=>?_)
 ·have h:=condT h hq4
  obtain rfl:=Option.some.inj h
  refine Runs.sW hE ⟨[],[(0,aO 1 cI 0 cap02)],225⟩ [] [] (kq [0]) 225 [] trivial ?_
  exact Runs.sT Try.f102 [] [] trivial
 ·have h:=condF h hq4
  refine Runs.sA 2 [.code (C_22 798),.code (C_22 799),.inBlock 1,.inLoop (C_22 12),.inBlock 0] ?_
  refine Runs.sR hE ⟨[(0,(.os 0 0 (((cap02.set ((w64 (first+root)).toNat) (cap02.getD ((w64 (first+child)).toNat) 0)).set ((w64 (first+child)).toNat) (cap02.getD ((w64 (first+root)).toNat) 0)).length))),(2,(aI hi)),(3,(aI first)),(9,(aI child))],[(0,aO 1 cI 0 ((cap02.set ((w64 (first+root)).toNat) (cap02.getD ((w64 (first+child)).toNat) 0)).set ((w64 (first+child)).toNat) (cap02.getD ((w64 (first+root)).toNat) 0)))],609⟩ (C_22 798) [] [] ([(0,.osl (((cap02.set ((w64 (first+root)).toNat) (cap02.getD ((w64 (first+child)).toNat) 0)).set ((w64 (first+child)).toNat) (cap02.getD ((w64 (first+root)).toNat) 0)).length))] ++ kp [2,3,9]) [(0,.arr 0 (((cap02.set ((w64 (first+root)).toNat) (cap02.getD ((w64 (first+child)).toNat) 0)).set ((w64 (first+child)).toNat) (cap02.getD ((w64 (first+root)).toNat) 0)).length) (fun zi=>cI (((cap02.set ((w64 (first+root)).toNat) (cap02.getD ((w64 (first+child)).toNat) 0)).set ((w64 (first+child)).toNat) (cap02.getD ((w64 (first+root)).toNat) 0)).getD zi 0)))] 609 [0≤(w64 (first+child))∧(w64 (first+child)) < ((cap02.length:Nat):Int),(w64 (first+child)).toNat < cap02.length,0≤(w64 (first+root))∧(w64 (first+root)) < ((cap02.length:Nat):Int),(w64 (first+root)).toNat < cap02.length,0≤(w64 (first+root))∧(w64 (first+root)) < ((cap02.length:Nat):Int),(w64 (first+root)).toNat < cap02.length,0≤(w64 (first+child))∧(w64 (first+child)) < ((cap02.length:Nat):Int),(w64 (first+child)).toNat < cap02.length,cap02.length=((cap02.set ((w64 (first+root)).toNat) (cap02.getD ((w64 (first+child)).toNat) 0)).set ((w64 (first+child)).toNat) (cap02.getD ((w64 (first+root)).toNat) 0)).length,cap02.length=((cap02.set ((w64 (first+root)).toNat) (cap02.getD ((w64 (first+child)).toNat) 0)).set ((w64 (first+child)).toNat) (cap02.getD ((w64 (first+root)).toNat) 0)).length,∀ zi,zi < ((cap02.set ((w64 (first+root)).toNat) (cap02.getD ((w64 (first+child)).toNat) 0)).set ((w64 (first+child)).toNat) (cap02.getD ((w64 (first+root)).toNat) 0)).length→(fun zi=>cI (((cap02.set ((w64 (first+root)).toNat) (cap02.getD ((w64 (first+child)).toNat) 0)).set ((w64 (first+child)).toNat) (cap02.getD ((w64 (first+root)).toNat) 0)).getD zi 0)) zi=((fun zm=>if zm=(w64 (first+child)).toNat then [(aI (cap02.getD ((w64 (first+root)).toNat) 0))] else ((fun zm=>if zm=(w64 (first+root)).toNat then [(aI (cap02.getD ((w64 (first+child)).toNat) 0))] else (fun zi=>cI (cap02.getD zi 0)) zm)) zm)) zi] ⟨c4,(ltOf c4),c3,(ltOf c3),c3,(ltOf c3),c4,(ltOf c4),(len_set_raw (len_set_raw rfl)),(len_set_raw (len_set_raw rfl)),(get_set_raw cI 0 (cap02.set ((w64 (first+root)).toNat) (cap02.getD ((w64 (first+child)).toNat) 0)) ((w64 (first+child)).toNat) (cap02.getD ((w64 (first+root)).toNat) 0) (get_set_raw cI 0 cap02 ((w64 (first+root)).toNat) (cap02.getD ((w64 (first+child)).toNat) 0) (fun _ _=>rfl))),trivial⟩ ?_
  refine Runs.sR hE ⟨[(0,(.os 0 0 (((cap02.set ((w64 (first+root)).toNat) (cap02.getD ((w64 (first+child)).toNat) 0)).set ((w64 (first+child)).toNat) (cap02.getD ((w64 (first+root)).toNat) 0)).length))),(2,(aI hi)),(3,(aI first)),(8,(aI child))],[(0,aO 1 cI 0 ((cap02.set ((w64 (first+root)).toNat) (cap02.getD ((w64 (first+child)).toNat) 0)).set ((w64 (first+child)).toNat) (cap02.getD ((w64 (first+root)).toNat) 0)))],641⟩ (C_22 799) [] [] (kp [0,2,3,8]) (kq [0]) 641 [] trivial ?_
  refine Runs.sA 2 [.code (C_22 12),.inLoop (C_22 12),.inBlock 0] ?_
  exact Runs.sW hE _ [] (kp [0,2,3,8]) (kq [0]) 1 [] trivial (hK_g_slices_siftDownOrdered_int_L1 ((cap02.set ((w64 (first+root)).toNat) (cap02.getD ((w64 (first+child)).toNat) 0)).set ((w64 (first+child)).toNat) (cap02.getD ((w64 (first+root)).toNat) 0)) child _ h E hE)
theorem g_slices_siftDownOrdered_int_L1_ok (N:Nat) (hi:Int) (first:Int) (fuel:Nat):∀ (cap02:List Int) (root:Int) (r:(List Int)),g_slices_siftDownOrdered_int_L1 N hi first fuel cap02 root=some r→∀ E,EnvOk E 1→Runs Try.prog E 102 76 (SPost E [(0,aO 1 cI 0 r)] (.tup [])) [.code (C_22 12),.inLoop (C_22 12),.inBlock 0] ⟨[(0,(.os 0 0 cap02.length)),(2,(aI hi)),(3,(aI first)),(8,(aI root))],[(0,aO 1 cI 0 cap02)],1⟩:=by
 induction fuel with
 | zero=>intro _ _ r h;rw [g_slices_siftDownOrdered_int_L1.eq_1] at h;cases h
 | succ fuel ih =>
  intro cap02 root r h E hE
  rw [g_slices_siftDownOrdered_int_L1.eq_2] at h
  refine Runs.sA 2 [.code (C_22 48),.code (C_22 49),.inBlock 1,.inLoop (C_22 12),.inBlock 0] ?_
  refine Runs.sR hE ⟨[(0,(.os 0 0 cap02.length)),(2,(aI hi)),(3,(aI first)),(8,(aI root)),(9,(aI (w64 ((w64 (2 * root))+1))))],[(0,aO 1 cI 0 cap02)],65⟩ (C_22 48) [] [] (kp [0,2,3,8,9]) (kq [0]) 65 [] trivial ?_
  refine Runs.sA 2 [.code (C_22 196),.code (C_22 197),.code (C_22 99),.inBlock 1,.inLoop (C_22 12),.inBlock 0] ?_
  refine Runs.sR hE ⟨[(0,(.os 0 0 cap02.length)),(2,(aI hi)),(3,(aI first)),(8,(aI root)),(9,(aI (w64 ((w64 (2 * root))+1)))),(16,(aB (decide ((w64 ((w64 (2 * root))+1))≥hi))))],[(0,aO 1 cI 0 cap02)],113⟩ (C_22 196) [] [] (kp [0,2,3,8,9,16]) (kq [0]) 113 [] trivial ?_
  refine Runs.sC 16 (C_22 394) (C_22 395) (decide ((w64 ((w64 (2 * root))+1))≥hi)) (fun hq2=>?_) (fun hq2=>?_)
  ·have h:=condT h hq2
   refine Runs.sA 1 [] ?_
   obtain rfl:=Option.some.inj h
   refine Runs.sW hE ⟨[],[(0,aO 1 cI 0 cap02)],113⟩ [] [] (kq [0]) 113 [] trivial ?_
   exact Runs.sF Try.f102 [] [] trivial
  ·have h:=condF h hq2
   refine Runs.sA 3 [.code (C_22 396),.code (C_22 397),.code (C_22 199),.inBlock 1,.inLoop (C_22 12),.inBlock 0] ?_
   obtain ⟨c,h⟩:=ifSome h
   obtain ⟨c2,h⟩:=ifSome h
   obtain ⟨rLess,hr,h⟩:=bindSome h
   refine Runs.sR hE ⟨[(0,(.os 0 0 cap02.length)),(2,(aI hi)),(3,(aI first)),(8,(aI root)),(9,(aI (w64 ((w64 (2 * root))+1)))),(36,(aB (cond (decide ((w64 ((w64 ((w64 (2 * root))+1))+1)) < hi)) rLess false)))],[(0,aO 1 cI 0 cap02)],433⟩ (C_22 396) [(18,⟨[],true,(aB rLess),[],0,false,none⟩)] [] (kp [0,2,3,8,9,36]) (kq [0]) 433 [(decide ((w64 ((w64 ((w64 (2 * root))+1))+1)) < hi))=true→AllP [(decide ((w64 ((w64 ((w64 (2 * root))+1))+1)) < hi))=true,(decide ((w64 ((w64 ((w64 (2 * root))+1))+1)) < hi))=true],(decide ((w64 ((w64 ((w64 (2 * root))+1))+1)) < hi))=true→AllP [(decide ((w64 ((w64 ((w64 (2 * root))+1))+1)) < hi))=true,(decide ((w64 ((w64 ((w64 (2 * root))+1))+1)) < hi))=true,0≤(w64 (first+(w64 ((w64 (2 * root))+1))))∧(w64 (first+(w64 ((w64 (2 * root))+1)))) < ((cap02.length:Nat):Int)],(decide ((w64 ((w64 ((w64 (2 * root))+1))+1)) < hi))=true→AllP [(decide ((w64 ((w64 ((w64 (2 * root))+1))+1)) < hi))=true,(w64 (first+(w64 ((w64 (2 * root))+1)))).toNat < cap02.length],(decide ((w64 ((w64 ((w64 (2 * root))+1))+1)) < hi))=true→AllP [(decide ((w64 ((w64 ((w64 (2 * root))+1))+1)) < hi))=true,(decide ((w64 ((w64 ((w64 (2 * root))+1))+1)) < hi))=true],(decide ((w64 ((w64 ((w64 (2 * root))+1))+1)) < hi))=true→AllP [(decide ((w64 ((w64 ((w64 (2 * root))+1))+1)) < hi))=true],(decide ((w64 ((w64 ((w64 (2 * root))+1))+1)) < hi))=true→AllP [(decide ((w64 ((w64 ((w64 (2 * root))+1))+1)) < hi))=true,(decide ((w64 ((w64 ((w64 (2 * root))+1))+1)) < hi))=true,0≤(w64 ((w64 (first+(w64 ((w64 (2 * root))+1))))+1))∧(w64 ((w64 (first+(w64 ((w64 (2 * root))+1))))+1)) < ((cap02.length:Nat):Int)],(decide ((w64 ((w64 ((w64 (2 * root))+1))+1)) < hi))=true→AllP [(decide ((w64 ((w64 ((w64 (2 * root))+1))+1)) < hi))=true,(w64 ((w64 (first+(w64 ((w64 (2 * root))+1))))+1)).toNat < cap02.length],(decide ((w64 ((w64 ((w64 (2 * root))+1))+1)) < hi))=true→AllP [Sound Try.prog 90 [(aI (cap02.getD ((w64 (first+(w64 ((w64 (2 * root))+1)))).toNat) 0)),(aI (cap02.getD ((w64 ((w64 (first+(w64 ((w64 (2 * root))+1))))+1)).toNat) 0))] [] 0 (aB rLess) [],(decide ((w64 ((w64 ((w64 (2 * root))+1))+1)) < hi))=true,(decide ((w64 ((w64 ((w64 (2 * root))+1))+1)) < hi))=true],(decide ((w64 ((w64 ((w64 (2 * root))+1))+1)) < hi))=true→AllP [(decide ((w64 ((w64 ((w64 (2 * root))+1))+1)) < hi))=true]] ⟨(fun hg=>⟨hg,hg,trivial⟩),(fun hg=>⟨hg,hg,(c hg),trivial⟩),(fun hg=>⟨hg,(ltOf (c hg)),trivial⟩),(fun hg=>⟨hg,hg,trivial⟩),(fun hg=>⟨hg,trivial⟩),(fun hg=>⟨hg,hg,(c2 hg),trivial⟩),(fun hg=>⟨hg,(ltOf (c2 hg)),trivial⟩),(fun hg=>⟨(g_cmp_Less_int_ok N (cap02.getD ((w64 (first+(w64 ((w64 (2 * root))+1)))).toNat) 0) (cap02.getD ((w64 ((w64 (first+(w64 ((w64 (2 * root))+1))))+1)).toNat) 0) rLess (condT hr hg)),hg,hg,trivial⟩),(fun hq=>⟨hq,trivial⟩),trivial⟩ ?_
   refine Runs.sC 36 (C_22 794) (C_22 795) (cond (decide ((w64 ((w64 ((w64 (2 * root))+1))+1)) < hi)) rLess false) (fun hq3=>?_) (fun hq3=>?_)
   ·have h:=condT h hq3
    refine Runs.sR hE ⟨[(0,(.os 0 0 cap02.length)),(2,(aI hi)),(3,(aI first)),(8,(aI root)),(9,(aI (w64 ((w64 ((w64 (2 * root))+1))+1))))],[(0,aO 1 cI 0 cap02)],481⟩ (C_22 794) [] [] (kp [0,2,3,8,9]) (kq [0]) 481 [] trivial ?_
    refine Runs.sA 2 [.code (C_22 796),.code (C_22 797),.code (C_22 399),.inBlock 1,.inLoop (C_22 12),.inBlock 0] ?_
    exact Runs.sW hE _ [] (kp [0,2,3,8,9]) (kq [0]) 1 [] trivial (g_slices_siftDownOrdered_int_J2_ok N hi first cap02 root (g_slices_siftDownOrdered_int_L1 N hi first fuel) ih (w64 ((w64 ((w64 (2 * root))+1))+1)) _ h E hE)
   ·have h:=condF h hq3
    refine Runs.sA 3 [.code (C_22 796),.code (C_22 797),.code (C_22 399),.inBlock 1,.inLoop (C_22 12),.inBlock 0] ?_
    exact Runs.sW hE _ [] (kp [0,2,3,8,9]) (kq [0]) 1 [] trivial (g_slices_siftDownOrdered_int_J2_ok N hi first cap02 root (g_slices_siftDownOrdered_int_L1 N hi first fuel) ih (w64 ((w64 (2 * root))+1)) _ h E hE)
theorem g_slices_siftDownOrdered_int_ok (N:Nat) (lo:Int) (hi:Int) (first:Int) (cap0:List Int) (r:(List Int)) (h:g_slices_siftDownOrdered_int N lo hi first cap0=some r):Sound Try.prog 102 [(.os 0 0 cap0.length),(aI lo),(aI hi),(aI first)] [(0,aO 1 cI 0 cap0)] 1 (.tup []) [(0,aO 1 cI 0 r)]:=by
 unfold g_slices_siftDownOrdered_int at h
 refine Sound.of_runs (fu:=Try.f102) (c:=C_22 1) (nt:=76) (by kernel_rfl) (by kernel_rfl) (by kernel_rfl) (by kernel_rfl) (fun hm=>absurd hm (by decide)) ?_
 intro E hE
 refine Runs.sA 1 [.code (C_22 2),.code (C_22 3)] ?_
 refine Runs.sR hE ⟨[(0,(.os 0 0 cap0.length)),(2,(aI hi)),(3,(aI first)),(8,(aI lo))],[(0,aO 1 cI 0 cap0)],33⟩ (C_22 2) [] [] (kp [0,2,3,8]) (kq [0]) 33 [] trivial ?_
 refine Runs.sA 2 [.code (C_22 12),.inLoop (C_22 12),.inBlock 0] ?_
 exact Runs.sW hE _ [] (kp [0,2,3,8]) (kq [0]) 1 [] trivial (g_slices_siftDownOrdered_int_L1_ok N hi first N cap0 lo _ h E hE)
noncomputable def C_21 (n:Nat):Code:=cat (bodyOf Try.f85) (pth n)
theorem g_slices_heapSortOrdered_int_L2_ok (N:Nat) (a:Int) (fuel:Nat):∀ (cap03:List Int) (i2:Int) (r:(List Int)),g_slices_heapSortOrdered_int_L2 N a fuel cap03 i2=some r→∀ E,EnvOk E 1→Runs Try.prog E 85 56 (SPost E [(0,aO 1 cI 0 r)] (.tup [])) [.code (C_21 252),.inLoop (C_21 252),.inBlock 2] ⟨[(0,(.os 0 0 cap03.length)),(6,(aI a)),(7,(aI 0)),(10,(aI i2))],[(0,aO 1 cI 0 cap03)],1⟩:=by
 induction fuel with
 | zero=>intro _ _ r h;rw [g_slices_heapSortOrdered_int_L2.eq_1] at h;cases h
 | succ fuel ih =>
  intro cap03 i2 r h E hE
  rw [g_slices_heapSortOrdered_int_L2.eq_2] at h
  refine Runs.sA 2 [.code (C_21 1008),.code (C_21 1009),.code (C_21 505),.inLoop (C_21 252),.inBlock 2] ?_
  refine Runs.sR hE ⟨[(0,(.os 0 0 cap03.length)),(6,(aI a)),(7,(aI 0)),(10,(aI i2)),(30,(aB (decide (i2≥0))))],[(0,aO 1 cI 0 cap03)],33⟩ (C_21 1008) [] [] (kp [0,6,7,10,30]) (kq [0]) 33 [] trivial ?_
  refine Runs.sC 30 (C_21 2018) (C_21 2019) (decide (i2≥0)) (fun hq3=>?_) (fun hq3=>?_)
  ·have h:=condT h hq3
   refine Runs.sA 4 [.code (C_21 4040),.code (C_21 4041),.inBlock 3,.code (C_21 1011),.inLoop (C_21 252),.inBlock 2] ?_
   obtain ⟨c2,h⟩:=ifSome h
   obtain ⟨c3,h⟩:=ifSome h
   refine Runs.sR hE ⟨[(0,(.os 0 0 (((cap03.set ((a).toNat) (cap03.getD ((w64 (a+i2)).toNat) 0)).set ((w64 (a+i2)).toNat) (cap03.getD ((a).toNat) 0)).length))),(6,(aI a)),(7,(aI 0)),(10,(aI i2))],[(0,aO 1 cI 0 ((cap03.set ((a).toNat) (cap03.getD ((w64 (a+i2)).toNat) 0)).set ((w64 (a+i2)).toNat) (cap03.getD ((a).toNat) 0)))],353⟩ (C_21 4040) [] [] ([(0,.osl (((cap03.set ((a).toNat) (cap03.getD ((w64 (a+i2)).toNat) 0)).set ((w64 (a+i2)).toNat) (cap03.getD ((a).toNat) 0)).length))] ++ kp [6,7,10]) [(0,.arr 0 (((cap03.set ((a).toNat) (cap03.getD ((w64 (a+i2)).toNat) 0)).set ((w64 (a+i2)).toNat) (cap03.getD ((a).toNat) 0)).length) (fun zi=>cI (((cap03.set ((a).toNat) (cap03.getD ((w64 (a+i2)).toNat) 0)).set ((w64 (a+i2)).toNat) (cap03.getD ((a).toNat) 0)).getD zi 0)))] 353 [0≤(w64 (a+i2))∧(w64 (a+i2)) < ((cap03.length:Nat):Int),(w64 (a+i2)).toNat < cap03.length,0≤a∧a < ((cap03.length:Nat):Int),(a).toNat < cap03.length,0≤a∧a < ((cap03.length:Nat):Int),(a).toNat < cap03.length,0≤(w64 (a+i2))∧(w64 (a+i2)) < ((cap03.length:Nat):Int),(w64 (a+i2)).toNat < cap03.length,cap03.length=((cap03.set ((a).toNat) (cap03.getD ((w64 (a+i2)).toNat) 0)).set ((w64 (a+i2)).toNat) (cap03.getD ((a).toNat) 0)).length,cap03.length=((cap03.set ((a).toNat) (cap03.getD ((w64 (a+i2)).toNat) 0)).set ((w64 (a+i2)).toNat) (cap03.getD ((a).toNat) 0)).length,∀ zi,zi < ((cap03.set ((a).toNat) (cap03.getD ((w64 (a+i2)).toNat) 0)).set ((w64 (a+i2)).toNat) (cap03.getD ((a).toNat) 0)).length→(fun zi=>cI (((cap03.set ((a).toNat) (cap03.getD ((w64 (a+i2)).toNat) 0)).set ((w64 (a+i2)).toNat) (cap03.getD ((a).toNat) 0)).getD zi 0)) zi=((fun zm=>if zm=(w64 (a+i2)).toNat then [(aI (cap03.getD ((a).toNat) 0))] else ((fun zm=>if zm=(a).toNat then [(aI (cap03.getD ((w64 (a+i2)).toNat) 0))] else (fun zi=>cI (cap03.getD zi 0)) zm)) zm)) zi] ⟨c2,(ltOf c2),c3,(ltOf c3),c3,(ltOf c3),c2,(ltOf c2),(len_set_raw (len_set_raw rfl)),(len_set_raw (len_set_raw rfl)),(get_set_raw cI 0 (cap03.set ((a).toNat) (cap03.getD ((w64 (a+i2)).toNat) 0)) ((w64 (a+i2)).toNat) (cap03.getD ((a).toNat) 0) (get_set_raw cI 0 cap03 ((a).toNat) (cap03.getD ((w64 (a+i2)).toNat) 0) (fun _ _=>rfl))),trivial⟩ ?_
   obtain ⟨rsiftDownOrde2,hr2,h⟩:=bindSome h
   obtain ⟨c4,h⟩:=ifSome h
   refine Runs.sR hE ⟨[(0,(.os 0 0 rsiftDownOrde2.length)),(6,(aI a)),(7,(aI 0)),(10,(aI i2))],[(0,aO 1 cI 0 rsiftDownOrde2)],433⟩ (C_21 4041) [(4,⟨[0],false,(.tup []),[(0,aO 1 cI 0 rsiftDownOrde2)],0,false,none⟩)] [] ([(0,.osl (rsiftDownOrde2.length))] ++ kp [6,7,10]) (kq [0]) 433 [Sound Try.prog 102 [(.os 0 0 (((cap03.set ((a).toNat) (cap03.getD ((w64 (a+i2)).toNat) 0)).set ((w64 (a+i2)).toNat) (cap03.getD ((a).toNat) 0)).length)),(aI 0),(aI i2),(aI a)] [(0,aO 1 cI 0 ((cap03.set ((a).toNat) (cap03.getD ((w64 (a+i2)).toNat) 0)).set ((w64 (a+i2)).toNat) (cap03.getD ((a).toNat) 0)))] 1 (.tup []) [(0,aO 1 cI 0 rsiftDownOrde2)],((cap03.set ((a).toNat) (cap03.getD ((w64 (a+i2)).toNat) 0)).set ((w64 (a+i2)).toNat) (cap03.getD ((a).toNat) 0)).length=rsiftDownOrde2.length] ⟨(g_slices_siftDownOrdered_int_ok N 0 i2 a ((cap03.set ((a).toNat) (cap03.getD ((w64 (a+i2)).toNat) 0)).set ((w64 (a+i2)).toNat) (cap03.getD ((a).toNat) 0)) rsiftDownOrde2 hr2),(Eq.symm c4),trivial⟩ ?_
   refine Runs.sA 1 [.code (C_21 1011),.inLoop (C_21 252),.inBlock 2] ?_
   refine Runs.sR hE ⟨[(0,(.os 0 0 rsiftDownOrde2.length)),(6,(aI a)),(7,(aI 0)),(10,(aI (w64 (i2 - 1))))],[(0,aO 1 cI 0 rsiftDownOrde2)],481⟩ (C_21 1011) [] [] (kp [0,6,7,10]) (kq [0]) 481 [] trivial ?_
   refine Runs.sA 1 [.code (C_21 252),.inLoop (C_21 252),.inBlock 2] ?_
   exact Runs.sW hE _ [] (kp [0,6,7,10]) (kq [0]) 1 [] trivial (ih rsiftDownOrde2 (w64 (i2 - 1)) _ h E hE)
  ·have h:=condF h hq3
   refine Runs.sA 1 [] ?_
   obtain rfl:=Option.some.inj h
   refine Runs.sW hE ⟨[],[(0,aO 1 cI 0 cap03)],49⟩ [] [] (kq [0]) 49 [] trivial ?_
   exact Runs.sF Try.f85 [] [] trivial
theorem g_slices_heapSortOrdered_int_L1_ok (N:Nat) (a:Int) (b:Int) (fuel:Nat):∀ (cap02:List Int) (i:Int) (r:(List Int)),g_slices_heapSortOrdered_int_L1 N a b fuel cap02 i=some r→∀ E,EnvOk E 1→Runs Try.prog E 85 56 (SPost E [(0,aO 1 cI 0 r)] (.tup [])) [.code (C_21 244),.inLoop (C_21 244),.inBlock 0,.code (C_21 31)] ⟨[(0,(.os 0 0 cap02.length)),(6,(aI a)),(7,(aI 0)),(8,(aI (w64 (b - a)))),(9,(aI i))],[(0,aO 1 cI 0 cap02)],1⟩:=by
 induction fuel with
 | zero=>intro _ _ r h;rw [g_slices_heapSortOrdered_int_L1.eq_1] at h;cases h
 | succ fuel ih =>
  intro cap02 i r h E hE
  rw [g_slices_heapSortOrdered_int_L1.eq_2] at h
  refine Runs.sA 2 [.code (C_21 976),.code (C_21 977),.code (C_21 489),.inLoop (C_21 244),.inBlock 0,.code (C_21 31)] ?_
  refine Runs.sR hE ⟨[(0,(.os 0 0 cap02.length)),(6,(aI a)),(7,(aI 0)),(8,(aI (w64 (b - a)))),(9,(aI i)),(19,(aB (decide (i≥0))))],[(0,aO 1 cI 0 cap02)],33⟩ (C_21 976) [] [] (kp [0,6,7,8,9,19]) (kq [0]) 33 [] trivial ?_
  refine Runs.sC 19 (C_21 1954) (C_21 1955) (decide (i≥0)) (fun hq2=>?_) (fun hq2=>?_)
  ·have h:=condT h hq2
   refine Runs.sA 3 [.code (C_21 1956),.inBlock 1,.code (C_21 979),.inLoop (C_21 244),.inBlock 0,.code (C_21 31)] ?_
   obtain ⟨rsiftDownOrde,hr,h⟩:=bindSome h
   obtain ⟨c,h⟩:=ifSome h
   refine Runs.sR hE ⟨[(0,(.os 0 0 rsiftDownOrde.length)),(6,(aI a)),(7,(aI 0)),(8,(aI (w64 (b - a)))),(9,(aI i))],[(0,aO 1 cI 0 rsiftDownOrde)],113⟩ (C_21 1956) [(4,⟨[0],false,(.tup []),[(0,aO 1 cI 0 rsiftDownOrde)],0,false,none⟩)] [] ([(0,.osl (rsiftDownOrde.length))] ++ kp [6,7,8,9]) (kq [0]) 113 [Sound Try.prog 102 [(.os 0 0 cap02.length),(aI i),(aI (w64 (b - a))),(aI a)] [(0,aO 1 cI 0 cap02)] 1 (.tup []) [(0,aO 1 cI 0 rsiftDownOrde)],cap02.length=rsiftDownOrde.length] ⟨(g_slices_siftDownOrdered_int_ok N i (w64 (b - a)) a cap02 rsiftDownOrde hr),(Eq.symm c),trivial⟩ ?_
   refine Runs.sA 1 [.code (C_21 979),.inLoop (C_21 244),.inBlock 0,.code (C_21 31)] ?_
   refine Runs.sR hE ⟨[(0,(.os 0 0 rsiftDownOrde.length)),(6,(aI a)),(7,(aI 0)),(8,(aI (w64 (b - a)))),(9,(aI (w64 (i - 1))))],[(0,aO 1 cI 0 rsiftDownOrde)],161⟩ (C_21 979) [] [] (kp [0,6,7,8,9]) (kq [0]) 161 [] trivial ?_
   refine Runs.sA 1 [.code (C_21 244),.inLoop (C_21 244),.inBlock 0,.code (C_21 31)] ?_
   exact Runs.sW hE _ [] (kp [0,6,7,8,9]) (kq [0]) 1 [] trivial (ih rsiftDownOrde (w64 (i - 1)) _ h E hE)
  ·have h:=condF h hq2
   refine Runs.sA 2 [.code (C_21 62),.code (C_21 63)] ?_
   refine Runs.sR hE ⟨[(0,(.os 0 0 cap02.length)),(6,(aI a)),(7,(aI 0)),(10,(aI (w64 ((w64 (b - a)) - 1))))],[(0,aO 1 cI 0 cap02)],81⟩ (C_21 62) [] [] (kp [0,6,7,10]) (kq [0]) 81 [] trivial ?_
   refine Runs.sA 2 [.code (C_21 252),.inLoop (C_21 252),.inBlock 2] ?_
   exact Runs.sW hE _ [] (kp [0,6,7,10]) (kq [0]) 1 [] trivial (g_slices_heapSortOrdered_int_L2_ok N a N cap02 (w64 ((w64 (b - a)) - 1)) _ h E hE)
theorem g_slices_heapSortOrdered_int_ok (N:Nat) (a:Int) (b:Int) (cap0:List Int) (r:(List Int)) (h:g_slices_heapSortOrdered_int N a b cap0=some r):Sound Try.prog 85 [(.os 0 0 cap0.length),(aI a),(aI b)] [(0,aO 1 cI 0 cap0)] 1 (.tup []) [(0,aO 1 cI 0 r)]:=by
 unfold g_slices_heapSortOrdered_int at h
 refine Sound.of_runs (fu:=Try.f85) (c:=C_21 1) (nt:=56) (by kernel_rfl) (by kernel_rfl) (by kernel_rfl) (by kernel_rfl) (fun hm=>absurd hm (by decide)) ?_
 intro E hE
 refine Runs.sA 1 [.code (C_21 2),.code (C_21 3)] ?_
 refine Runs.sR hE ⟨[(0,(.os 0 0 cap0.length)),(1,(aI a)),(2,(aI b)),(6,(aI a))],[(0,aO 1 cI 0 cap0)],33⟩ (C_21 2) [] [] (kp [0,1,2,6]) (kq [0]) 33 [] trivial ?_
 refine Runs.sA 1 [.code (C_21 6),.code (C_21 7)] ?_
 refine Runs.sR hE ⟨[(0,(.os 0 0 cap0.length)),(1,(aI a)),(2,(aI b)),(6,(aI a)),(7,(aI 0))],[(0,aO 1 cI 0 cap0)],49⟩ (C_21 6) [] [] (kp [0,1,2,6,7]) (kq [0]) 49 [] trivial ?_
 refine Runs.sA 1 [.code (C_21 14),.code (C_21 15)] ?_
 refine Runs.sR hE ⟨[(0,(.os 0 0 cap0.length)),(6,(aI a)),(7,(aI 0)),(8,(aI (w64 (b - a))))],[(0,aO 1 cI 0 cap0)],113⟩ (C_21 14) [] [] (kp [0,6,7,8]) (kq [0]) 113 [] trivial ?_
 refine Runs.sA 2 [.code (C_21 60),.code (C_21 61),.code (C_21 31)] ?_
 refine Runs.sR hE ⟨[(0,(.os 0 0 cap0.length)),(6,(aI a)),(7,(aI 0)),(8,(aI (w64 (b - a)))),(9,(aI (w64 ((w64 ((w64 (b - a)) - 1)).tdiv 2))))],[(0,aO 1 cI 0 cap0)],177⟩ (C_21 60) [] [] (kp [0,6,7,8,9]) (kq [0]) 177 [(2:Int)≠0] ⟨(by decide),trivial⟩ ?_
 refine Runs.sA 2 [.code (C_21 244),.inLoop (C_21 244),.inBlock 0,.code (C_21 31)] ?_
 exact Runs.sW hE _ [] (kp [0,6,7,8,9]) (kq [0]) 1 [] trivial (g_slices_heapSortOrdered_int_L1_ok N a b N cap0 (w64 ((w64 ((w64 (b - a)) - 1)).tdiv 2)) _ h E hE)
noncomputable def C_24 (n:Nat):Code:=cat (bodyOf Try.f103) (pth n)
theorem g_slices_nextPowerOfTwo_ok (N:Nat) (length:Int) (r:Int) (h:g_slices_nextPowerOfTwo N length=some r):Sound Try.prog 103 [(aI length)] [] 0 (.atom (.int .u64 r)) []:=by
 unfold g_slices_nextPowerOfTwo at h
 refine Sound.of_runs (fu:=Try.f103) (c:=C_24 1) (nt:=7) (by kernel_rfl) (by kernel_rfl) (by kernel_rfl) (by kernel_rfl) (fun hm=>rfl) ?_
 intro E hE
 refine Runs.sA 1 [.code (C_24 2),.code (C_24 3)] ?_
 refine Runs.sR hE ⟨[(0,(aI length))],[],16⟩ (C_24 2) [] [] (kp [0]) [] 16 [] trivial ?_
 refine Runs.sA 1 [.code (C_24 6),.code (C_24 7)] ?_
 obtain ⟨rLen,hr,h⟩:=bindSome h
 obtain ⟨c,h⟩:=ifSome h
 refine Runs.sR hE ⟨[(2,(.atom (.int .u64 (shlI .u64 1 rLen))))],[],96⟩ (C_24 6) [(2,⟨[],true,(aI rLen),[],0,false,none⟩)] [] (kp [2]) [] 96 [Sound Try.prog 67 [(.atom (.int .u64 (IntKind.u64.wrap (length))))] [] 0 (aI rLen) [],(0:Int)≤rLen] ⟨(g_math_bits_Len_ok N (IntKind.u64.wrap (length)) rLen hr),c,trivial⟩ ?_
 obtain rfl:=Option.some.inj h
 refine Runs.sW hE ⟨[(2,(.atom (.int .u64 (shlI .u64 1 rLen))))],[],96⟩ [] (kp [2]) [] 96 [] trivial ?_
 exact Runs.sT Try.f103 [] [] trivial
noncomputable def C_25 (n:Nat):Code:=cat (bodyOf Try.f104) (pth n)
theorem g_slices_xorshift_Next_ok (N:Nat) (cap0:Int) (r:Int×Int) (h:g_slices_xorshift_Next N cap0=some r):Sound Try.prog 104 [(.op 0 0 0)] [(0,vO 1 [(.atom (.int .u64 cap0))])] 1 (.atom (.int .u64 r.1)) [(0,vO 1 [(.atom (.int .u64 r.2))])]:=by
 unfold g_slices_xorshift_Next at h
 refine Sound.of_runs (fu:=Try.f104) (c:=C_25 1) (nt:=33) (by kernel_rfl) (by kernel_rfl) (by kernel_rfl) (by kernel_rfl) (fun hm=>absurd hm (by decide)) ?_
 intro E hE
 refine Runs.sA 1 [.code (C_25 2),.code (C_25 3)] ?_
 refine Runs.sR hE ⟨[(0,(.op 0 0 0))],[(0,vO 1 [(.atom (.int .u64 cap0))])],17⟩ (C_25 2) [] [] (kp [0]) (kq [0]) 17 [] trivial ?_
 refine Runs.sA 1 [.code (C_25 6),.code (C_25 7)] ?_
 refine Runs.sR hE ⟨[(0,(.op 0 0 0))],[(0,vO 1 [(.atom (.int .u64 (xorI .u64 cap0 (shlI .u64 cap0 13))))])],177⟩ (C_25 6) [] [] (kp [0]) (kq [0]) 177 [0 < 1,0 < 1,(0:Int)≤13,0 < 1] ⟨o1,o1,(by decide),o1,trivial⟩ ?_
 refine Runs.sA 1 [.code (C_25 14),.code (C_25 15)] ?_
 refine Runs.sR hE ⟨[(0,(.op 0 0 0))],[(0,vO 1 [(.atom (.int .u64 (xorI .u64 (xorI .u64 cap0 (shlI .u64 cap0 13)) (shrI .u64 (xorI .u64 cap0 (shlI .u64 cap0 13)) 7))))])],337⟩ (C_25 14) [] [] (kp [0]) (kq [0]) 337 [0 < 1,0 < 1,(0:Int)≤7,0 < 1] ⟨o1,o1,(by decide),o1,trivial⟩ ?_
 refine Runs.sA 1 [.code (C_25 30),.code (C_25 31)] ?_
 refine Runs.sR hE ⟨[(0,(.op 0 0 0))],[(0,vO 1 [(.atom (.int .u64 (xorI .u64 (xorI .u64 (xorI .u64 cap0 (shlI .u64 cap0 13)) (shrI .u64 (xorI .u64 cap0 (shlI .u64 cap0 13)) 7)) (shlI .u64 (xorI .u64 (xorI .u64 cap0 (shlI .u64 cap0 13)) (shrI .u64 (xorI .u64 cap0 (shlI .u64 cap0 13)) 7)) 17))))])],497⟩ (C_25 30) [] [] (kp [0]) (kq [0]) 497 [0 < 1,0 < 1,(0:Int)≤17,0 < 1] ⟨o1,o1,(by decide),o1,trivial⟩ ?_
 refine Runs.sA 1 [.code (C_25 62),.code (C_25 63)] ?_
 refine Runs.sR hE ⟨[(2,(.atom (.int .u64 (xorI .u64 (xorI .u64 (xorI .u64 cap0 (shlI .u64 cap0 13)) (shrI .u64 (xorI .u64 cap0 (shlI .u64 cap0 13)) 7)) (shlI .u64 (xorI .u64 (xorI .u64 cap0 (shlI .u64 cap0 13)) (shrI .u64 (xorI .u64 cap0 (shlI .u64 cap0 13)) 7)) 17)))))],[(0,vO 1 [(.atom (.int .u64 (xorI .u64 (xorI .u64 (xorI .u64 cap0 (shlI .u64 cap0 13)) (shrI .u64 (xorI .u64 cap0 (shlI .u64 cap0 13)) 7)) (shlI .u64 (xorI .u64 (xorI .u64 cap0 (shlI .u64 cap0 13)) (shrI .u64 (xorI .u64 cap0 (shlI .u64 cap0 13)) 7)) 17))))])],561⟩ (C_25 62) [] [] (kp [2]) (kq [0]) 561 [0 < 1] ⟨o1,trivial⟩ ?_
 obtain rfl:=Option.some.inj h
 refine Runs.sW hE ⟨[(2,(.atom (.int .u64 (xorI .u64 (xorI .u64 (xorI .u64 cap0 (shlI .u64 cap0 13)) (shrI .u64 (xorI .u64 cap0 (shlI .u64 cap0 13)) 7)) (shlI .u64 (xorI .u64 (xorI .u64 cap0 (shlI .u64 cap0 13)) (shrI .u64 (xorI .u64 cap0 (shlI .u64 cap0 13)) 7)) 17)))))],[(0,vO 1 [(.atom (.int .u64 (xorI .u64 (xorI .u64 (xorI .u64 cap0 (shlI .u64 cap0 13)) (shrI .u64 (xorI .u64 cap0 (shlI .u64 cap0 13)) 7)) (shlI .u64 (xorI .u64 (xorI .u64 cap0 (shlI .u64 cap0 13)) (shrI .u64 (xorI .u64 cap0 (shlI .u64 cap0 13)) 7)) 17))))])],561⟩ [] (kp [2]) (kq [0]) 561 [] trivial ?_
 exact Runs.sT Try.f104 [] [] trivial
noncomputable def C_23 (n:Nat):Code:=cat (bodyOf Try.f86) (pth n)
theorem g_slices_breakPatternsOrdered_int_J2_ok (N:Nat) (a:Int) (b:Int) (rnextPowerOfT:Int) (cap02:List Int) (idx:Int) (rNext:Int×Int) (K_g_slices_breakPatternsOrdered_int_L1:(List Int)→Int→Int→Option ((List Int)))
  (hK_g_slices_breakPatternsOrdered_int_L1:∀ (cap02:List Int) (random:Int) (idx:Int) (r:(List Int)),K_g_slices_breakPatternsOrdered_int_L1 cap02 random idx=some r→∀ E,EnvOk E 1→Runs Try.prog E 86 65 (SPost E [(0,aO 1 cI 0 r)] (.tup [])) [.code (C_23 476),.inLoop (C_23 476),.inBlock 0] ⟨[(0,(.os 0 0 cap02.length)),(1,(aI a)),(6,(aI (w64 (b - a)))),(7,(.op 1 0 0)),(8,(.atom (.int .u64 rnextPowerOfT))),(9,(aI idx))],[(0,aO 1 cI 0 cap02),(1,vO 1 [(.atom (.int .u64 random))])],2⟩) (other:Int) (r:(List Int)) (h:g_slices_breakPatternsOrdered_int_J2 N a b rnextPowerOfT cap02 idx rNext K_g_slices_breakPatternsOrdered_int_L1 other=some r):∀ E,EnvOk E 1→Runs Try.prog E 86 65 (SPost E [(0,aO 1 cI 0 r)] (.tup [])) [.code (C_23 15251),.inBlock 1,.code (C_23 1907),.inLoop (C_23 476),.inBlock 0] ⟨[(0,(.os 0 0 cap02.length)),(1,(aI a)),(6,(aI (w64 (b - a)))),(7,(.op 1 0 0)),(8,(.atom (.int .u64 rnextPowerOfT))),(9,(aI idx)),(10,(aI other))],[(0,aO 1 cI 0 cap02),(1,vO 1 [(.atom (.int .u64 rNext.2))])],2⟩:=by
 intro E hE
 unfold g_slices_breakPatternsOrdered_int_J2 at h
 obtain ⟨c,h⟩:=ifSome h
 obtain ⟨c2,h⟩:=ifSome h
 refine Runs.sR hE ⟨[(0,(.os 0 0 (((cap02.set ((idx).toNat) (cap02.getD ((w64 (a+other)).toNat) 0)).set ((w64 (a+other)).toNat) (cap02.getD ((idx).toNat) 0)).length))),(1,(aI a)),(6,(aI (w64 (b - a)))),(7,(.op 1 0 0)),(8,(.atom (.int .u64 rnextPowerOfT))),(9,(aI idx))],[(0,aO 1 cI 0 ((cap02.set ((idx).toNat) (cap02.getD ((w64 (a+other)).toNat) 0)).set ((w64 (a+other)).toNat) (cap02.getD ((idx).toNat) 0))),(1,vO 1 [(.atom (.int .u64 rNext.2))])],322⟩ (C_23 15251) [] [] ([(0,.osl (((cap02.set ((idx).toNat) (cap02.getD ((w64 (a+other)).toNat) 0)).set ((w64 (a+other)).toNat) (cap02.getD ((idx).toNat) 0)).length))] ++ kp [1,6,7,8,9]) ([(0,.arr 0 (((cap02.set ((idx).toNat) (cap02.getD ((w64 (a+other)).toNat) 0)).set ((w64 (a+other)).toNat) (cap02.getD ((idx).toNat) 0)).length) (fun zi=>cI (((cap02.set ((idx).toNat) (cap02.getD ((w64 (a+other)).toNat) 0)).set ((w64 (a+other)).toNat) (cap02.getD ((idx).toNat) 0)).getD zi 0)))] ++ kq [1]) 322 [0≤(w64 (a+other))∧(w64 (a+other)) < ((cap02.length:Nat):Int),(w64 (a+other)).toNat < cap02.length,0≤idx∧idx < ((cap02.length:Nat):Int),(idx).toNat < cap02.length,0≤idx∧idx < ((cap02.length:Nat):Int),(idx).toNat < cap02.length,0≤(w64 (a+other))∧(w64 (a+other)) < ((cap02.length:Nat):Int),(w64 (a+other)).toNat < cap02.length,cap02.length=((cap02.set ((idx).toNat) (cap02.getD ((w64 (a+other)).toNat) 0)).set ((w64 (a+other)).toNat) (cap02.getD ((idx).toNat) 0)).length,cap02.length=((cap02.set ((idx).toNat) (cap02.getD ((w64 (a+other)).toNat) 0)).set ((w64 (a+other)).toNat) (cap02.getD ((idx).toNat) 0)).length,∀ zi,zi < ((cap02.set ((idx).toNat) (cap02.getD ((w64 (a+other)).toNat) 0)).set ((w64 (a+other)).toNat) (cap02.getD ((idx).toNat) 0)).length→(fun zi=>cI (((cap02.set ((idx).toNat) (cap02.getD ((w64 (a+other)).toNat) 0)).set ((w64 (a+other)).toNat) (cap02.getD ((idx).toNat) 0)).getD zi 0)) zi=((fun zm=>if zm=(w64 (a+other)).toNat then [(aI (cap02.getD ((idx).toNat) 0))] else ((fun zm=>if zm=(idx).toNat then [(aI (cap02.getD ((w64 (a+other)).toNat) 0))] else (fun zi=>cI (cap02.getD zi 0)) zm)) zm)) zi] ⟨c,(ltOf c),c2,(ltOf c2),c2,(ltOf c2),c,(ltOf c),(len_set_raw (len_set_raw rfl)),(len_set_raw (len_set_raw rfl)),(get_set_raw cI 0 (cap02.set ((idx).toNat) (cap02.getD ((w64 (a+other)).toNat) 0)) ((w64 (a+other)).toNat) (cap02.getD ((idx).toNat) 0) (get_set_raw cI 0 cap02 ((idx).toNat) (cap02.getD ((w64 (a+other)).toNat) 0) (fun _ _=>rfl))),trivial⟩ ?_
 refine Runs.sA 1 [.code (C_23 1907),.inLoop (C_23 476),.inBlock 0] ?_
 refine Runs.sR hE ⟨[(0,(.os 0 0 (((cap02.set ((idx).toNat) (cap02.getD ((w64 (a+other)).toNat) 0)).set ((w64 (a+other)).toNat) (cap02.getD ((idx).toNat) 0)).length))),(1,(aI a)),(6,(aI (w64 (b - a)))),(7,(.op 1 0 0)),(8,(.atom (.int .u64 rnextPowerOfT))),(9,(aI (w64 (idx+1))))],[(0,aO 1 cI 0 ((cap02.set ((idx).toNat) (cap02.getD ((w64 (a+other)).toNat) 0)).set ((w64 (a+other)).toNat) (cap02.getD ((idx).toNat) 0))),(1,vO 1 [(.atom (.int .u64 rNext.2))])],370⟩ (C_23 1907) [] [] (kp [0,1,6,7,8,9]) (kq [0,1]) 370 [] trivial ?_
 refine Runs.sA 1 [.code (C_23 476),.inLoop (C_23 476),.inBlock 0] ?_
 exact Runs.sW hE _ [] (kp [0,1,6,7,8,9]) (kq [0,1]) 2 [] trivial (hK_g_slices_breakPatternsOrdered_int_L1 ((cap02.set ((idx).toNat) (cap02.getD ((w64 (a+other)).toNat) 0)).set ((w64 (a+other)).toNat) (cap02.getD ((idx).toNat) 0)) rNext.2 (w64 (idx+1)) _ h E hE)
theorem g_slices_breakPatternsOrdered_int_L1_ok (N:Nat) (a:Int) (b:Int) (rnextPowerOfT:Int) (fuel:Nat):∀ (cap02:List Int) (random:Int) (idx:Int) (r:(List Int)),g_slices_breakPatternsOrdered_int_L1 N a b rnextPowerOfT fuel cap02 random idx=some r→∀ E,EnvOk E 1→Runs Try.prog E 86 65 (SPost E [(0,aO 1 cI 0 r)] (.tup [])) [.code (C_23 476),.inLoop (C_23 476),.inBlock 0] ⟨[(0,(.os 0 0 cap02.length)),(1,(aI a)),(6,(aI (w64 (b - a)))),(7,(.op 1 0 0)),(8,(.atom (.int .u64 rnextPowerOfT))),(9,(aI idx))],[(0,aO 1 cI 0 cap02),(1,vO 1 [(.atom (.int .u64 random))])],2⟩:=by
 induction fuel with
 | zero=>intro _ _ _ r h;rw [g_slices_breakPatternsOrdered_int_L1.eq_1] at h;cases h
 | succ fuel ih =>
  intro cap02 random idx r h E hE
  rw [g_slices_breakPatternsOrdered_int_L1.eq_2] at h
  refine Runs.sA 2 [.code (C_23 1904),.code (C_23 1905),.code (C_23 953),.inLoop (C_23 476),.inBlock 0] ?_
  refine Runs.sR hE ⟨[(0,(.os 0 0 cap02.length)),(1,(aI a)),(6,(aI (w64 (b - a)))),(7,(.op 1 0 0)),(8,(.atom (.int .u64 rnextPowerOfT))),(9,(aI idx)),(33,(aB (decide (idx≤(w64 ((w64 (a+(w64 ((w64 ((w64 (b - a)).tdiv 4)) * 2))))+1))))))],[(0,aO 1 cI 0 cap02),(1,vO 1 [(.atom (.int .u64 random))])],130⟩ (C_23 1904) [] [] (kp [0,1,6,7,8,9,33]) (kq [0,1]) 130 [(4:Int)≠0] ⟨(by decide),trivial⟩ ?_
  refine Runs.sC 33 (C_23 3810) (C_23 3811) (decide (idx≤(w64 ((w64 (a+(w64 ((w64 ((w64 (b - a)).tdiv 4)) * 2))))+1)))) (fun hq3=>?_) (fun hq3=>?_)
  ·have h:=condT h hq3
   refine Runs.sA 4 [.code (C_23 7624),.code (C_23 7625),.inBlock 1,.code (C_23 1907),.inLoop (C_23 476),.inBlock 0] ?_
   obtain ⟨rNext,hr2,h⟩:=bindSome h
   refine Runs.sR hE ⟨[(0,(.os 0 0 cap02.length)),(1,(aI a)),(6,(aI (w64 (b - a)))),(7,(.op 1 0 0)),(8,(.atom (.int .u64 rnextPowerOfT))),(9,(aI idx)),(10,(aI (w64 ((andI .u64 rNext.1 (IntKind.u64.wrap (rnextPowerOfT - 1)))))))],[(0,aO 1 cI 0 cap02),(1,vO 1 [(.atom (.int .u64 rNext.2))])],226⟩ (C_23 7624) [(0,⟨[1],false,(.atom (.int .u64 rNext.1)),[(0,vO 1 [(.atom (.int .u64 rNext.2))])],0,false,none⟩)] [] (kp [0,1,6,7,8,9,10]) (kq [0,1]) 226 [Sound Try.prog 104 [(.op 0 0 0)] [(0,vO 1 [(.atom (.int .u64 random))])] 1 (.atom (.int .u64 rNext.1)) [(0,vO 1 [(.atom (.int .u64 rNext.2))])]] ⟨(g_slices_xorshift_Next_ok N random rNext hr2),trivial⟩ ?_
   refine Runs.sA 2 [.code (C_23 30500),.code (C_23 30501),.code (C_23 15251),.inBlock 1,.code (C_23 1907),.inLoop (C_23 476),.inBlock 0] ?_
   refine Runs.sR hE ⟨[(0,(.os 0 0 cap02.length)),(1,(aI a)),(6,(aI (w64 (b - a)))),(7,(.op 1 0 0)),(8,(.atom (.int .u64 rnextPowerOfT))),(9,(aI idx)),(10,(aI (w64 ((andI .u64 rNext.1 (IntKind.u64.wrap (rnextPowerOfT - 1))))))),(43,(aB (decide ((w64 ((andI .u64 rNext.1 (IntKind.u64.wrap (rnextPowerOfT - 1)))))≥(w64 (b - a))))))],[(0,aO 1 cI 0 cap02),(1,vO 1 [(.atom (.int .u64 rNext.2))])],274⟩ (C_23 30500) [] [] (kp [0,1,6,7,8,9,10,43]) (kq [0,1]) 274 [] trivial ?_
   refine Runs.sC 43 (C_23 61002) (C_23 61003) (decide ((w64 ((andI .u64 rNext.1 (IntKind.u64.wrap (rnextPowerOfT - 1)))))≥(w64 (b - a)))) (fun hq4=>?_) (fun hq4=>?_)
   ·have h:=condT h hq4
    refine Runs.sR hE ⟨[(0,(.os 0 0 cap02.length)),(1,(aI a)),(6,(aI (w64 (b - a)))),(7,(.op 1 0 0)),(8,(.atom (.int .u64 rnextPowerOfT))),(9,(aI idx)),(10,(aI (w64 ((w64 ((andI .u64 rNext.1 (IntKind.u64.wrap (rnextPowerOfT - 1))))) - (w64 (b - a))))))],[(0,aO 1 cI 0 cap02),(1,vO 1 [(.atom (.int .u64 rNext.2))])],338⟩ (C_23 61002) [] [] (kp [0,1,6,7,8,9,10]) (kq [0,1]) 338 [] trivial ?_
    exact Runs.sW hE _ [] (kp [0,1,6,7,8,9,10]) (kq [0,1]) 2 [] trivial (g_slices_breakPatternsOrdered_int_J2_ok N a b rnextPowerOfT cap02 idx rNext (g_slices_breakPatternsOrdered_int_L1 N a b rnextPowerOfT fuel) ih (w64 ((w64 ((andI .u64 rNext.1 (IntKind.u64.wrap (rnextPowerOfT - 1))))) - (w64 (b - a)))) _ h E hE)
   ·have h:=condF h hq4
    refine Runs.sA 1 [.code (C_23 15251),.inBlock 1,.code (C_23 1907),.inLoop (C_23 476),.inBlock 0] ?_
    exact Runs.sW hE _ [] (kp [0,1,6,7,8,9,10]) (kq [0,1]) 2 [] trivial (g_slices_breakPatternsOrdered_int_J2_ok N a b rnextPowerOfT cap02 idx rNext (g_slices_breakPatternsOrdered_int_L1 N a b rnextPowerOfT fuel) ih (w64 ((andI .u64 rNext.1 (IntKind.u64.wrap (rnextPowerOfT - 1))))) _ h E hE)
  ·have h:=condF h hq3
   refine Runs.sA 1 [] ?_
   obtain rfl:=Option.some.inj h
   refine Runs.sW hE ⟨[],[(0,aO 1 cI 0 cap02)],130⟩ [] [] (kq [0]) 130 [] trivial ?_
   exact Runs.sF Try.f86 [] [] trivial
theorem g_slices_breakPatternsOrdered_int_ok (N:Nat) (a:Int) (b:Int) (cap0:List Int) (r:(List Int)) (h:g_slices_breakPatternsOrdered_int N a b cap0=some r):Sound Try.prog 86 [(.os 0 0 cap0.length),(aI a),(aI b)] [(0,aO 1 cI 0 cap0)] 1 (.tup []) [(0,aO 1 cI 0 r)]:=by
 unfold g_slices_breakPatternsOrdered_int at h
 refine Sound.of_runs (fu:=Try.f86) (c:=C_23 1) (nt:=65) (by kernel_rfl) (by kernel_rfl) (by kernel_rfl) (by kernel_rfl) (fun hm=>absurd hm (by decide)) ?_
 intro E hE
 refine Runs.sA 1 [.code (C_23 2),.code (C_23 3)] ?_
 refine Runs.sR hE ⟨[(0,(.os 0 0 cap0.length)),(1,(aI a)),(6,(aI (w64 (b - a))))],[(0,aO 1 cI 0 cap0)],65⟩ (C_23 2) [] [] (kp [0,1,6]) (kq [0]) 65 [] trivial ?_
 refine Runs.sA 1 [.code (C_23 6),.code (C_23 7)] ?_
 refine Runs.sR hE ⟨[(0,(.os 0 0 cap0.length)),(1,(aI a)),(6,(aI (w64 (b - a)))),(15,(aB (decide ((w64 (b - a))≥8))))],[(0,aO 1 cI 0 cap0)],97⟩ (C_23 6) [] [] (kp [0,1,6,15]) (kq [0]) 97 [] trivial ?_
 refine Runs.sC 15 (C_23 14) (C_23 15) (decide ((w64 (b - a))≥8)) (fun hq2=>?_) (fun hq2=>?_)
 ·have h:=condT h hq2
  refine Runs.sA 1 [.code (C_23 28),.code (C_23 29)] ?_
  refine Runs.sR hE ⟨[(0,(.os 0 0 cap0.length)),(1,(aI a)),(6,(aI (w64 (b - a)))),(7,(.op 129 0 0))],[(0,aO 1 cI 0 cap0),(129,vO 1 [(.atom (.int .u64 (IntKind.u64.wrap ((w64 (b - a))))))])],161⟩ (C_23 28) [] [] (kp [0,1,6,7]) (kq [0,129]) 161 [0 < 1] ⟨o1,trivial⟩ ?_
  refine Runs.sA 1 [.code (C_23 58),.code (C_23 59)] ?_
  obtain ⟨rnextPowerOfT,hr,h⟩:=bindSome h
  refine Runs.sR hE ⟨[(0,(.os 0 0 cap0.length)),(1,(aI a)),(6,(aI (w64 (b - a)))),(7,(.op 129 0 0)),(8,(.atom (.int .u64 rnextPowerOfT)))],[(0,aO 1 cI 0 cap0),(129,vO 1 [(.atom (.int .u64 (IntKind.u64.wrap ((w64 (b - a))))))])],209⟩ (C_23 58) [(1,⟨[],true,(.atom (.int .u64 rnextPowerOfT)),[],0,false,none⟩)] [] (kp [0,1,6,7,8]) (kq [0,129]) 209 [Sound Try.prog 103 [(aI (w64 (b - a)))] [] 0 (.atom (.int .u64 rnextPowerOfT)) []] ⟨(g_slices_nextPowerOfTwo_ok N (w64 (b - a)) rnextPowerOfT hr),trivial⟩ ?_
  refine Runs.sA 1 [.code (C_23 118),.code (C_23 119)] ?_
  refine Runs.sR hE ⟨[(0,(.os 0 0 cap0.length)),(1,(aI a)),(6,(aI (w64 (b - a)))),(7,(.op 129 0 0)),(8,(.atom (.int .u64 rnextPowerOfT))),(9,(aI (w64 ((w64 (a+(w64 ((w64 ((w64 (b - a)).tdiv 4)) * 2)))) - 1))))],[(0,aO 1 cI 0 cap0),(129,vO 1 [(.atom (.int .u64 (IntKind.u64.wrap ((w64 (b - a))))))])],321⟩ (C_23 118) [] [] (kp [0,1,6,7,8,9]) (kq [0,129]) 321 [(4:Int)≠0] ⟨(by decide),trivial⟩ ?_
  refine Runs.sA 2 [.code (C_23 476),.inLoop (C_23 476),.inBlock 0] ?_
  exact Runs.sW hE _ [] (kp [0,1,6,7,8,9]) (kq [0] ++ [(1,.keep 129)]) 2 [] trivial (g_slices_breakPatternsOrdered_int_L1_ok N a b rnextPowerOfT N cap0 (IntKind.u64.wrap ((w64 (b - a)))) (w64 ((w64 (a+(w64 ((w64 ((w64 (b - a)).tdiv 4)) * 2)))) - 1)) _ h E hE)
 ·have h:=condF h hq2
  refine Runs.sA 1 [] ?_
  obtain rfl:=Option.some.inj h
  refine Runs.sW hE ⟨[],[(0,aO 1 cI 0 cap0)],97⟩ [] [] (kq [0]) 97 [] trivial ?_
  exact Runs.sF Try.f86 [] [] trivial
noncomputable def C_29 (n:Nat):Code:=cat (bodyOf Try.f113) (pth n)
theorem g_slices_order2Ordered_int_ok (N:Nat) (data:List Int) (a:Int) (b:Int) (cap0:Int) (r:Int×Int×Int) (h:g_slices_order2Ordered_int N data a b cap0=some r):Sound Try.prog 113 [(encL cI 0 data),(aI a),(aI b),(.op 0 0 0)] [(0,vO 1 [(aI cap0)])] 1 (.tup [(aI r.1),(aI r.2.1)]) [(0,vO 1 [(aI r.2.2)])]:=by
 unfold g_slices_order2Ordered_int at h
 refine Sound.of_runs (fu:=Try.f113) (c:=C_29 1) (nt:=28) (by kernel_rfl) (by kernel_rfl) (by kernel_rfl) (by kernel_rfl) (fun hm=>absurd hm (by decide)) ?_
 intro E hE
 refine Runs.sA 1 [.code (C_29 2),.code (C_29 3)] ?_
 refine Runs.sR hE ⟨[(0,(encL cI 0 data)),(1,(aI a)),(2,(aI b)),(3,(.op 0 0 0))],[(0,vO 1 [(aI cap0)])],33⟩ (C_29 2) [] [] (kp [0,1,2,3]) (kq [0]) 33 [] trivial ?_
 refine Runs.sA 2 [.code (C_29 12),.code (C_29 13),.code (C_29 7)] ?_
 obtain ⟨c,h⟩:=ifSome h
 obtain ⟨c2,h⟩:=ifSome h
 obtain ⟨rLess,hr,h⟩:=bindSome h
 refine Runs.sR hE ⟨[(1,(aI a)),(2,(aI b)),(3,(.op 0 0 0)),(18,(aB rLess))],[(0,vO 1 [(aI cap0)])],177⟩ (C_29 12) [(8,⟨[],true,(aB rLess),[],0,false,none⟩)] [] (kp [1,2,3,18]) (kq [0]) 177 [0≤b∧b < ((data.length:Nat):Int),0≤a∧a < ((data.length:Nat):Int),Sound Try.prog 90 [(aI (data.getD ((b).toNat) 0)),(aI (data.getD ((a).toNat) 0))] [] 0 (aB rLess) []] ⟨c,c2,(g_cmp_Less_int_ok N (data.getD ((b).toNat) 0) (data.getD ((a).toNat) 0) rLess hr),trivial⟩ ?_
 refine Runs.sC 18 (C_29 26) (C_29 27) rLess (fun hq2=>?_) (fun hq2=>?_)
 ·have h:=condT h hq2
  refine Runs.sA 1 [.code (C_29 52),.code (C_29 53),.code (C_29 7)] ?_
  refine Runs.sR hE ⟨[(1,(aI a)),(2,(aI b))],[(0,vO 1 [(aI (w64 (cap0+1)))])],273⟩ (C_29 52) [] [] (kp [1,2]) (kq [0]) 273 [0 < 1,0 < 1] ⟨o1,o1,trivial⟩ ?_
  refine Runs.sA 1 [.code (C_29 106),.code (C_29 107),.code (C_29 7)] ?_
  refine Runs.sR hE ⟨[(8,(aI b)),(9,(aI a))],[(0,vO 1 [(aI (w64 (cap0+1)))])],337⟩ (C_29 106) [] [] (kp [8,9]) (kq [0]) 337 [] trivial ?_
  obtain rfl:=Option.some.inj h
  refine Runs.sW hE ⟨[(8,(aI b)),(9,(aI a))],[(0,vO 1 [(aI (w64 (cap0+1)))])],337⟩ [] (kp [8,9]) (kq [0]) 337 [] trivial ?_
  exact Runs.sT Try.f113 [] [] trivial
 ·have h:=condF h hq2
  refine Runs.sA 2 [.code (C_29 14),.code (C_29 15)] ?_
  refine Runs.sR hE ⟨[(8,(aI a)),(9,(aI b))],[(0,vO 1 [(aI cap0)])],241⟩ (C_29 14) [] [] (kp [8,9]) (kq [0]) 241 [] trivial ?_
  obtain rfl:=Option.some.inj h
  refine Runs.sW hE ⟨[(8,(aI a)),(9,(aI b))],[(0,vO 1 [(aI cap0)])],241⟩ [] (kp [8,9]) (kq [0]) 241 [] trivial ?_
  exact Runs.sT Try.f113 [] [] trivial
noncomputable def C_28 (n:Nat):Code:=cat (bodyOf Try.f106) (pth n)
theorem g_slices_medianOrdered_int_ok (N:Nat) (data:List Int) (a:Int) (b:Int) (c:Int) (cap0:Int) (r:Int×Int) (h:g_slices_medianOrdered_int N data a b c cap0=some r):Sound Try.prog 106 [(encL cI 0 data),(aI a),(aI b),(aI c),(.op 0 0 0)] [(0,vO 1 [(aI cap0)])] 1 (aI r.1) [(0,vO 1 [(aI r.2)])]:=by
 unfold g_slices_medianOrdered_int at h
 refine Sound.of_runs (fu:=Try.f106) (c:=C_28 1) (nt:=36) (by kernel_rfl) (by kernel_rfl) (by kernel_rfl) (by kernel_rfl) (fun hm=>absurd hm (by decide)) ?_
 intro E hE
 refine Runs.sA 1 [.code (C_28 2),.code (C_28 3)] ?_
 refine Runs.sR hE ⟨[(0,(encL cI 0 data)),(1,(aI a)),(2,(aI b)),(3,(aI c)),(4,(.op 0 0 0))],[(0,vO 1 [(aI cap0)])],17⟩ (C_28 2) [] [] (kp [0,1,2,3,4]) (kq [0]) 17 [] trivial ?_
 refine Runs.sA 1 [.code (C_28 6),.code (C_28 7)] ?_
 obtain ⟨rorder2Ordere,hr,h⟩:=bindSome h
 refine Runs.sR hE ⟨[(0,(encL cI 0 data)),(1,(aI rorder2Ordere.1)),(2,(aI rorder2Ordere.2.1)),(3,(aI c)),(4,(.op 0 0 0))],[(0,vO 1 [(aI rorder2Ordere.2.2)])],177⟩ (C_28 6) [(4,⟨[0],false,(.tup [(aI rorder2Ordere.1),(aI rorder2Ordere.2.1)]),[(0,vO 1 [(aI rorder2Ordere.2.2)])],0,false,none⟩)] [] (kp [0,1,2,3,4]) (kq [0]) 177 [Sound Try.prog 113 [(encL cI 0 data),(aI a),(aI b),(.op 0 0 0)] [(0,vO 1 [(aI cap0)])] 1 (.tup [(aI rorder2Ordere.1),(aI rorder2Ordere.2.1)]) [(0,vO 1 [(aI rorder2Ordere.2.2)])]] ⟨(g_slices_order2Ordered_int_ok N data a b cap0 rorder2Ordere hr),trivial⟩ ?_
 refine Runs.sA 1 [.code (C_28 14),.code (C_28 15)] ?_
 obtain ⟨rorder2Ordere2,hr2,h⟩:=bindSome h
 refine Runs.sR hE ⟨[(0,(encL cI 0 data)),(1,(aI rorder2Ordere.1)),(2,(aI rorder2Ordere2.1)),(4,(.op 0 0 0))],[(0,vO 1 [(aI rorder2Ordere2.2.2)])],337⟩ (C_28 14) [(4,⟨[0],false,(.tup [(aI rorder2Ordere2.1),(aI rorder2Ordere2.2.1)]),[(0,vO 1 [(aI rorder2Ordere2.2.2)])],0,false,none⟩)] [] (kp [0,1,2,4]) (kq [0]) 337 [Sound Try.prog 113 [(encL cI 0 data),(aI rorder2Ordere.2.1),(aI c),(.op 0 0 0)] [(0,vO 1 [(aI rorder2Ordere.2.2)])] 1 (.tup [(aI rorder2Ordere2.1),(aI rorder2Ordere2.2.1)]) [(0,vO 1 [(aI rorder2Ordere2.2.2)])]] ⟨(g_slices_order2Ordered_int_ok N data rorder2Ordere.2.1 c rorder2Ordere.2.2 rorder2Ordere2 hr2),trivial⟩ ?_
 refine Runs.sA 1 [.code (C_28 30),.code (C_28 31)] ?_
 obtain ⟨rorder2Ordere3,hr3,h⟩:=bindSome h
 refine Runs.sR hE ⟨[(2,(aI rorder2Ordere3.2.1))],[(0,vO 1 [(aI rorder2Ordere3.2.2)])],497⟩ (C_28 30) [(4,⟨[0],false,(.tup [(aI rorder2Ordere3.1),(aI rorder2Ordere3.2.1)]),[(0,vO 1 [(aI rorder2Ordere3.2.2)])],0,false,none⟩)] [] (kp [2]) (kq [0]) 497 [Sound Try.prog 113 [(encL cI 0 data),(aI rorder2Ordere.1),(aI rorder2Ordere2.1),(.op 0 0 0)] [(0,vO 1 [(aI rorder2Ordere2.2.2)])] 1 (.tup [(aI rorder2Ordere3.1),(aI rorder2Ordere3.2.1)]) [(0,vO 1 [(aI rorder2Ordere3.2.2)])]] ⟨(g_slices_order2Ordered_int_ok N data rorder2Ordere.1 rorder2Ordere2.1 rorder2Ordere2.2.2 rorder2Ordere3 hr3),trivial⟩ ?_
 refine Runs.sA 1 [.code (C_28 62),.code (C_28 63)] ?_
 refine Runs.sR hE ⟨[(10,(aI rorder2Ordere3.2.1))],[(0,vO 1 [(aI rorder2Ordere3.2.2)])],529⟩ (C_28 62) [] [] (kp [10]) (kq [0]) 529 [] trivial ?_
 obtain rfl:=Option.some.inj h
 refine Runs.sW hE ⟨[(10,(aI rorder2Ordere3.2.1))],[(0,vO 1 [(aI rorder2Ordere3.2.2)])],529⟩ [] (kp [10]) (kq [0]) 529 [] trivial ?_
 exact Runs.sT Try.f106 [] [] trivial
noncomputable def C_27 (n:Nat):Code:=cat (bodyOf Try.f105) (pth n)
theorem g_slices_medianAdjacentOrdered_int_ok (N:Nat) (data:List Int) (a:Int) (cap0:Int) (r:Int×Int) (h:g_slices_medianAdjacentOrdered_int N data a cap0=some r):Sound Try.prog 105 [(encL cI 0 data),(aI a),(.op 0 0 0)] [(0,vO 1 [(aI cap0)])] 1 (aI r.1) [(0,vO 1 [(aI r.2)])]:=by
 unfold g_slices_medianAdjacentOrdered_int at h
 refine Sound.of_runs (fu:=Try.f105) (c:=C_27 1) (nt:=15) (by kernel_rfl) (by kernel_rfl) (by kernel_rfl) (by kernel_rfl) (fun hm=>absurd hm (by decide)) ?_
 intro E hE
 refine Runs.sA 1 [.code (C_27 2),.code (C_27 3)] ?_
 refine Runs.sR hE ⟨[(0,(encL cI 0 data)),(1,(aI a)),(2,(.op 0 0 0))],[(0,vO 1 [(aI cap0)])],17⟩ (C_27 2) [] [] (kp [0,1,2]) (kq [0]) 17 [] trivial ?_
 refine Runs.sA 1 [.code (C_27 6),.code (C_27 7)] ?_
 obtain ⟨rmedianOrdere,hr,h⟩:=bindSome h
 refine Runs.sR hE ⟨[(6,(aI rmedianOrdere.1))],[(0,vO 1 [(aI rmedianOrdere.2)])],161⟩ (C_27 6) [(7,⟨[0],false,(aI rmedianOrdere.1),[(0,vO 1 [(aI rmedianOrdere.2)])],0,false,none⟩)] [] (kp [6]) (kq [0]) 161 [Sound Try.prog 106 [(encL cI 0 data),(aI (w64 (a - 1))),(aI a),(aI (w64 (a+1))),(.op 0 0 0)] [(0,vO 1 [(aI cap0)])] 1 (aI rmedianOrdere.1) [(0,vO 1 [(aI rmedianOrdere.2)])]] ⟨(g_slices_medianOrdered_int_ok N data (w64 (a - 1)) a (w64 (a+1)) cap0 rmedianOrdere hr),trivial⟩ ?_
 obtain rfl:=Option.some.inj h
 refine Runs.sW hE ⟨[(6,(aI rmedianOrdere.1))],[(0,vO 1 [(aI rmedianOrdere.2)])],161⟩ [] (kp [6]) (kq [0]) 161 [] trivial ?_
 exact Runs.sT Try.f105 [] [] trivial
noncomputable def C_26 (n:Nat):Code:=cat (bodyOf Try.f87) (pth n)
theorem g_slices_choosePivotOrdered_int_J2_ok (N:Nat) (swaps2:Int) (j2:Int) (r:Int×Int) (h:g_slices_choosePivotOrdered_int_J2 N swaps2 j2=some r):∀ E,EnvOk E 0→Runs Try.prog E 87 57 (SPost E [] (.tup [(aI r.1),(aI r.2)])) [.code (C_26 510),.code (C_26 511)] ⟨[(9,(.op 0 0 0)),(11,(aI j2))],[(0,vO 1 [(aI swaps2)])],1⟩:=by
 intro E hE
 unfold g_slices_choosePivotOrdered_int_J2 at h
 refine Runs.sR hE ⟨[(11,(aI j2)),(49,(aI swaps2))],[],17⟩ (C_26 510) [] [] (kp [11,49]) [] 17 [0 < 1] ⟨o1,trivial⟩ ?_
 refine Runs.sA 2 [.code (C_26 2044),.code (C_26 2045),.inBlock 0] ?_
 refine Runs.sR hE ⟨[(11,(aI j2)),(49,(aI swaps2)),(51,(aB (swaps2 == 0)))],[],49⟩ (C_26 2044) [] [] (kp [11,49,51]) [] 49 [] trivial ?_
 refine Runs.sC 51 (C_26 4090) (C_26 4091) (swaps2 == 0) (fun hq4=>?_) (fun hq4=>?_)
 ·have h:=condT h hq4
  refine Runs.sA 1 [.code (C_26 8180),.code (C_26 8181),.inBlock 0] ?_
  refine Runs.sR hE ⟨[(6,(aI j2)),(7,(aI 1))],[],97⟩ (C_26 8180) [] [] (kp [6,7]) [] 97 [] trivial ?_
  obtain rfl:=Option.some.inj h
  refine Runs.sW hE ⟨[(6,(aI j2)),(7,(aI 1))],[],97⟩ [] (kp [6,7]) [] 97 [] trivial ?_
  exact Runs.sT Try.f87 [] [] trivial
 ·have h:=condF h hq4
  refine Runs.sA 1 [.code (C_26 8182),.code (C_26 8183),.inBlock 0] ?_
  refine Runs.sR hE ⟨[(11,(aI j2)),(54,(aB (swaps2 == 12)))],[],81⟩ (C_26 8182) [] [] (kp [11,54]) [] 81 [] trivial ?_
  refine Runs.sC 54 (C_26 16366) (C_26 16367) (swaps2 == 12) (fun hq5=>?_) (fun hq5=>?_)
  ·have h:=condT h hq5
   refine Runs.sA 1 [.code (C_26 32732),.code (C_26 32733),.inBlock 0] ?_
   refine Runs.sR hE ⟨[(6,(aI j2)),(7,(aI 2))],[],129⟩ (C_26 32732) [] [] (kp [6,7]) [] 129 [] trivial ?_
   obtain rfl:=Option.some.inj h
   refine Runs.sW hE ⟨[(6,(aI j2)),(7,(aI 2))],[],129⟩ [] (kp [6,7]) [] 129 [] trivial ?_
   exact Runs.sT Try.f87 [] [] trivial
  ·have h:=condF h hq5
   refine Runs.sA 1 [.code (C_26 32734),.code (C_26 32735),.inBlock 0] ?_
   refine Runs.sR hE ⟨[(6,(aI j2)),(7,(aI 0))],[],129⟩ (C_26 32734) [] [] (kp [6,7]) [] 129 [] trivial ?_
   obtain rfl:=Option.some.inj h
   refine Runs.sW hE ⟨[(6,(aI j2)),(7,(aI 0))],[],129⟩ [] (kp [6,7]) [] 129 [] trivial ?_
   exact Runs.sT Try.f87 [] [] trivial
theorem g_slices_choosePivotOrdered_int_J1_ok (N:Nat) (data:List Int) (swaps:Int) (i:Int) (j:Int) (k:Int) (r:Int×Int) (h:g_slices_choosePivotOrdered_int_J1 N data swaps i j k=some r):∀ E,EnvOk E 0→Runs Try.prog E 87 57 (SPost E [] (.tup [(aI r.1),(aI r.2)])) [.code (C_26 2037),.code (C_26 255)] ⟨[(0,(encL cI 0 data)),(9,(.op 0 0 0)),(10,(aI i)),(11,(aI j)),(12,(aI k))],[(0,vO 1 [(aI swaps)])],1⟩:=by
 intro E hE
 unfold g_slices_choosePivotOrdered_int_J1 at h
 obtain ⟨rmedianOrdere,hr4,h⟩:=bindSome h
 refine Runs.sR hE ⟨[(9,(.op 0 0 0)),(11,(aI rmedianOrdere.1))],[(0,vO 1 [(aI rmedianOrdere.2)])],97⟩ (C_26 2037) [(4,⟨[0],false,(aI rmedianOrdere.1),[(0,vO 1 [(aI rmedianOrdere.2)])],0,false,none⟩)] [] (kp [9,11]) (kq [0]) 97 [Sound Try.prog 106 [(encL cI 0 data),(aI i),(aI j),(aI k),(.op 0 0 0)] [(0,vO 1 [(aI swaps)])] 1 (aI rmedianOrdere.1) [(0,vO 1 [(aI rmedianOrdere.2)])]] ⟨(g_slices_medianOrdered_int_ok N data i j k swaps rmedianOrdere hr4),trivial⟩ ?_
 refine Runs.sA 1 [.code (C_26 510),.code (C_26 511)] ?_
 exact Runs.sW hE _ [] (kp [9,11]) (kq [0]) 1 [] trivial (g_slices_choosePivotOrdered_int_J2_ok N rmedianOrdere.2 rmedianOrdere.1 _ h E hE)
theorem g_slices_choosePivotOrdered_int_ok (N:Nat) (data:List Int) (a:Int) (b:Int) (r:Int×Int) (h:g_slices_choosePivotOrdered_int N data a b=some r):Sound Try.prog 87 [(encL cI 0 data),(aI a),(aI b)] [] 0 (.tup [(aI r.1),(aI r.2)]) []:=by
 unfold g_slices_choosePivotOrdered_int at h
 refine Sound.of_runs (fu:=Try.f87) (c:=C_26 1) (nt:=57) (by kernel_rfl) (by kernel_rfl) (by kernel_rfl) (by kernel_rfl) (fun hm=>rfl) ?_
 intro E hE
 refine Runs.sA 1 [.code (C_26 2),.code (C_26 3)] ?_
 refine Runs.sR hE ⟨[(0,(encL cI 0 data)),(1,(aI a)),(2,(aI b))],[],32⟩ (C_26 2) [] [] (kp [0,1,2]) [] 32 [] trivial ?_
 refine Runs.sA 1 [.code (C_26 6),.code (C_26 7)] ?_
 refine Runs.sR hE ⟨[(0,(encL cI 0 data)),(1,(aI a)),(8,(aI (w64 (b - a))))],[],96⟩ (C_26 6) [] [] (kp [0,1,8]) [] 96 [] trivial ?_
 refine Runs.sA 1 [.code (C_26 14),.code (C_26 15)] ?_
 refine Runs.sR hE ⟨[(0,(encL cI 0 data)),(1,(aI a)),(8,(aI (w64 (b - a)))),(9,(.op 96 0 0))],[(96,vO 1 [(aI 0)])],112⟩ (C_26 14) [] [] (kp [0,1,8,9]) (kq [96]) 112 [] trivial ?_
 refine Runs.sA 1 [.code (C_26 30),.code (C_26 31)] ?_
 refine Runs.sR hE ⟨[(0,(encL cI 0 data)),(1,(aI a)),(8,(aI (w64 (b - a)))),(9,(.op 96 0 0)),(10,(aI (w64 (a+(w64 ((w64 ((w64 (b - a)).tdiv 4)) * 1))))))],[(96,vO 1 [(aI 0)])],208⟩ (C_26 30) [] [] (kp [0,1,8,9,10]) (kq [96]) 208 [(4:Int)≠0] ⟨(by decide),trivial⟩ ?_
 refine Runs.sA 1 [.code (C_26 62),.code (C_26 63)] ?_
 refine Runs.sR hE ⟨[(0,(encL cI 0 data)),(1,(aI a)),(8,(aI (w64 (b - a)))),(9,(.op 96 0 0)),(10,(aI (w64 (a+(w64 ((w64 ((w64 (b - a)).tdiv 4)) * 1)))))),(11,(aI (w64 (a+(w64 ((w64 ((w64 (b - a)).tdiv 4)) * 2))))))],[(96,vO 1 [(aI 0)])],304⟩ (C_26 62) [] [] (kp [0,1,8,9,10,11]) (kq [96]) 304 [(4:Int)≠0] ⟨(by decide),trivial⟩ ?_
 refine Runs.sA 1 [.code (C_26 126),.code (C_26 127)] ?_
 refine Runs.sR hE ⟨[(0,(encL cI 0 data)),(8,(aI (w64 (b - a)))),(9,(.op 96 0 0)),(10,(aI (w64 (a+(w64 ((w64 ((w64 (b - a)).tdiv 4)) * 1)))))),(11,(aI (w64 (a+(w64 ((w64 ((w64 (b - a)).tdiv 4)) * 2)))))),(12,(aI (w64 (a+(w64 ((w64 ((w64 (b - a)).tdiv 4)) * 3))))))],[(96,vO 1 [(aI 0)])],400⟩ (C_26 126) [] [] (kp [0,8,9,10,11,12]) (kq [96]) 400 [(4:Int)≠0] ⟨(by decide),trivial⟩ ?_
 refine Runs.sA 2 [.code (C_26 508),.code (C_26 509),.code (C_26 255)] ?_
 refine Runs.sR hE ⟨[(0,(encL cI 0 data)),(8,(aI (w64 (b - a)))),(9,(.op 96 0 0)),(10,(aI (w64 (a+(w64 ((w64 ((w64 (b - a)).tdiv 4)) * 1)))))),(11,(aI (w64 (a+(w64 ((w64 ((w64 (b - a)).tdiv 4)) * 2)))))),(12,(aI (w64 (a+(w64 ((w64 ((w64 (b - a)).tdiv 4)) * 3)))))),(32,(aB (decide ((w64 (b - a))≥8))))],[(96,vO 1 [(aI 0)])],432⟩ (C_26 508) [] [] (kp [0,8,9,10,11,12,32]) (kq [96]) 432 [] trivial ?_
 refine Runs.sC 32 (C_26 1018) (C_26 1019) (decide ((w64 (b - a))≥8)) (fun hq2=>?_) (fun hq2=>?_)
 ·have h:=condT h hq2
  refine Runs.sA 2 [.code (C_26 4072),.code (C_26 4073),.code (C_26 2037),.code (C_26 255)] ?_
  refine Runs.sR hE ⟨[(0,(encL cI 0 data)),(9,(.op 96 0 0)),(10,(aI (w64 (a+(w64 ((w64 ((w64 (b - a)).tdiv 4)) * 1)))))),(11,(aI (w64 (a+(w64 ((w64 ((w64 (b - a)).tdiv 4)) * 2)))))),(12,(aI (w64 (a+(w64 ((w64 ((w64 (b - a)).tdiv 4)) * 3)))))),(34,(aB (decide ((w64 (b - a))≥50))))],[(96,vO 1 [(aI 0)])],464⟩ (C_26 4072) [] [] (kp [0,9,10,11,12,34]) (kq [96]) 464 [] trivial ?_
  refine Runs.sC 34 (C_26 8146) (C_26 8147) (decide ((w64 (b - a))≥50)) (fun hq3=>?_) (fun hq3=>?_)
  ·have h:=condT h hq3
   refine Runs.sA 1 [.code (C_26 16292),.code (C_26 16293),.code (C_26 2037),.code (C_26 255)] ?_
   obtain ⟨rmedianAdjace,hr,h⟩:=bindSome h
   refine Runs.sR hE ⟨[(0,(encL cI 0 data)),(9,(.op 96 0 0)),(10,(aI rmedianAdjace.1)),(11,(aI (w64 (a+(w64 ((w64 ((w64 (b - a)).tdiv 4)) * 2)))))),(12,(aI (w64 (a+(w64 ((w64 ((w64 (b - a)).tdiv 4)) * 3))))))],[(96,vO 1 [(aI rmedianAdjace.2)])],528⟩ (C_26 16292) [(2,⟨[96],false,(aI rmedianAdjace.1),[(0,vO 1 [(aI rmedianAdjace.2)])],0,false,none⟩)] [] (kp [0,9,10,11,12]) (kq [96]) 528 [Sound Try.prog 105 [(encL cI 0 data),(aI (w64 (a+(w64 ((w64 ((w64 (b - a)).tdiv 4)) * 1))))),(.op 0 0 0)] [(0,vO 1 [(aI 0)])] 1 (aI rmedianAdjace.1) [(0,vO 1 [(aI rmedianAdjace.2)])]] ⟨(g_slices_medianAdjacentOrdered_int_ok N data (w64 (a+(w64 ((w64 ((w64 (b - a)).tdiv 4)) * 1)))) 0 rmedianAdjace hr),trivial⟩ ?_
   refine Runs.sA 1 [.code (C_26 32586),.code (C_26 32587),.code (C_26 2037),.code (C_26 255)] ?_
   obtain ⟨rmedianAdjace2,hr2,h⟩:=bindSome h
   refine Runs.sR hE ⟨[(0,(encL cI 0 data)),(9,(.op 96 0 0)),(10,(aI rmedianAdjace.1)),(11,(aI rmedianAdjace2.1)),(12,(aI (w64 (a+(w64 ((w64 ((w64 (b - a)).tdiv 4)) * 3))))))],[(96,vO 1 [(aI rmedianAdjace2.2)])],592⟩ (C_26 32586) [(2,⟨[96],false,(aI rmedianAdjace2.1),[(0,vO 1 [(aI rmedianAdjace2.2)])],0,false,none⟩)] [] (kp [0,9,10,11,12]) (kq [96]) 592 [Sound Try.prog 105 [(encL cI 0 data),(aI (w64 (a+(w64 ((w64 ((w64 (b - a)).tdiv 4)) * 2))))),(.op 0 0 0)] [(0,vO 1 [(aI rmedianAdjace.2)])] 1 (aI rmedianAdjace2.1) [(0,vO 1 [(aI rmedianAdjace2.2)])]] ⟨(g_slices_medianAdjacentOrdered_int_ok N data (w64 (a+(w64 ((w64 ((w64 (b - a)).tdiv 4)) * 2)))) rmedianAdjace.2 rmedianAdjace2 hr2),trivial⟩ ?_
   obtain ⟨rmedianAdjace3,hr3,h⟩:=bindSome h
   refine Runs.sR hE ⟨[(0,(encL cI 0 data)),(9,(.op 96 0 0)),(10,(aI rmedianAdjace.1)),(11,(aI rmedianAdjace2.1)),(12,(aI rmedianAdjace3.1))],[(96,vO 1 [(aI rmedianAdjace3.2)])],656⟩ (C_26 32587) [(2,⟨[96],false,(aI rmedianAdjace3.1),[(0,vO 1 [(aI rmedianAdjace3.2)])],0,false,none⟩)] [] (kp [0,9,10,11,12]) (kq [96]) 656 [Sound Try.prog 105 [(encL cI 0 data),(aI (w64 (a+(w64 ((w64 ((w64 (b - a)).tdiv 4)) * 3))))),(.op 0 0 0)] [(0,vO 1 [(aI rmedianAdjace2.2)])] 1 (aI rmedianAdjace3.1) [(0,vO 1 [(aI rmedianAdjace3.2)])]] ⟨(g_slices_medianAdjacentOrdered_int_ok N data (w64 (a+(w64 ((w64 ((w64 (b - a)).tdiv 4)) * 3)))) rmedianAdjace2.2 rmedianAdjace3 hr3),trivial⟩ ?_
   exact Runs.sW hE _ [] (kp [0,9,10,11,12]) [(0,.keep 96)] 1 [] trivial (g_slices_choosePivotOrdered_int_J1_ok N data rmedianAdjace3.2 rmedianAdjace.1 rmedianAdjace2.1 rmedianAdjace3.1 _ h E hE)
  ·have h:=condF h hq3
   refine Runs.sA 1 [.code (C_26 2037),.code (C_26 255)] ?_
   exact Runs.sW hE _ [] (kp [0,9,10,11,12]) [(0,.keep 96)] 1 [] trivial (g_slices_choosePivotOrdered_int_J1_ok N data 0 (w64 (a+(w64 ((w64 ((w64 (b - a)).tdiv 4)) * 1)))) (w64 (a+(w64 ((w64 ((w64 (b - a)).tdiv 4)) * 2)))) (w64 (a+(w64 ((w64 ((w64 (b - a)).tdiv 4)) * 3)))) _ h E hE)
 ·have h:=condF h hq2
  refine Runs.sA 2 [.code (C_26 510),.code (C_26 511)] ?_
  exact Runs.sW hE _ [] (kp [9,11]) [(0,.keep 96)] 1 [] trivial (g_slices_choosePivotOrdered_int_J2_ok N 0 (w64 (a+(w64 ((w64 ((w64 (b - a)).tdiv 4)) * 2)))) _ h E hE)
noncomputable def C_30 (n:Nat):Code:=cat (bodyOf Try.f88) (pth n)
theorem g_slices_reverseRangeOrdered_int_L1_ok (N:Nat) (fuel:Nat):∀ (cap02:List Int) (i:Int) (j:Int) (r:(List Int)),g_slices_reverseRangeOrdered_int_L1 N fuel cap02 i j=some r→∀ E,EnvOk E 1→Runs Try.prog E 88 32 (SPost E [(0,aO 1 cI 0 r)] (.tup [])) [.code (C_30 28),.inLoop (C_30 28),.inBlock 0] ⟨[(0,(.os 0 0 cap02.length)),(6,(aI i)),(7,(aI j))],[(0,aO 1 cI 0 cap02)],1⟩:=by
 induction fuel with
 | zero=>intro _ _ _ r h;rw [g_slices_reverseRangeOrdered_int_L1.eq_1] at h;cases h
 | succ fuel ih =>
  intro cap02 i j r h E hE
  rw [g_slices_reverseRangeOrdered_int_L1.eq_2] at h
  refine Runs.sA 2 [.code (C_30 112),.code (C_30 113),.code (C_30 57),.inLoop (C_30 28),.inBlock 0] ?_
  refine Runs.sR hE ⟨[(0,(.os 0 0 cap02.length)),(6,(aI i)),(7,(aI j)),(13,(aB (decide (i < j))))],[(0,aO 1 cI 0 cap02)],49⟩ (C_30 112) [] [] (kp [0,6,7,13]) (kq [0]) 49 [] trivial ?_
  refine Runs.sC 13 (C_30 226) (C_30 227) (decide (i < j)) (fun hq2=>?_) (fun hq2=>?_)
  ·have h:=condT h hq2
   refine Runs.sA 3 [.code (C_30 228),.code (C_30 229),.inBlock 1,.inLoop (C_30 28),.inBlock 0] ?_
   obtain ⟨c,h⟩:=ifSome h
   obtain ⟨c2,h⟩:=ifSome h
   refine Runs.sR hE ⟨[(0,(.os 0 0 (((cap02.set ((i).toNat) (cap02.getD ((j).toNat) 0)).set ((j).toNat) (cap02.getD ((i).toNat) 0)).length))),(6,(aI i)),(7,(aI j))],[(0,aO 1 cI 0 ((cap02.set ((i).toNat) (cap02.getD ((j).toNat) 0)).set ((j).toNat) (cap02.getD ((i).toNat) 0)))],305⟩ (C_30 228) [] [] ([(0,.osl (((cap02.set ((i).toNat) (cap02.getD ((j).toNat) 0)).set ((j).toNat) (cap02.getD ((i).toNat) 0)).length))] ++ kp [6,7]) [(0,.arr 0 (((cap02.set ((i).toNat) (cap02.getD ((j).toNat) 0)).set ((j).toNat) (cap02.getD ((i).toNat) 0)).length) (fun zi=>cI (((cap02.set ((i).toNat) (cap02.getD ((j).toNat) 0)).set ((j).toNat) (cap02.getD ((i).toNat) 0)).getD zi 0)))] 305 [0≤j∧j < ((cap02.length:Nat):Int),(j).toNat < cap02.length,0≤i∧i < ((cap02.length:Nat):Int),(i).toNat < cap02.length,0≤i∧i < ((cap02.length:Nat):Int),(i).toNat < cap02.length,0≤j∧j < ((cap02.length:Nat):Int),(j).toNat < cap02.length,cap02.length=((cap02.set ((i).toNat) (cap02.getD ((j).toNat) 0)).set ((j).toNat) (cap02.getD ((i).toNat) 0)).length,cap02.length=((cap02.set ((i).toNat) (cap02.getD ((j).toNat) 0)).set ((j).toNat) (cap02.getD ((i).toNat) 0)).length,∀ zi,zi < ((cap02.set ((i).toNat) (cap02.getD ((j).toNat) 0)).set ((j).toNat) (cap02.getD ((i).toNat) 0)).length→(fun zi=>cI (((cap02.set ((i).toNat) (cap02.getD ((j).toNat) 0)).set ((j).toNat) (cap02.getD ((i).toNat) 0)).getD zi 0)) zi=((fun zm=>if zm=(j).toNat then [(aI (cap02.getD ((i).toNat) 0))] else ((fun zm=>if zm=(i).toNat then [(aI (cap02.getD ((j).toNat) 0))] else (fun zi=>cI (cap02.getD zi 0)) zm)) zm)) zi] ⟨c,(ltOf c),c2,(ltOf c2),c2,(ltOf c2),c,(ltOf c),(len_set_raw (len_set_raw rfl)),(len_set_raw (len_set_raw rfl)),(get_set_raw cI 0 (cap02.set ((i).toNat) (cap02.getD ((j).toNat) 0)) ((j).toNat) (cap02.getD ((i).toNat) 0) (get_set_raw cI 0 cap02 ((i).toNat) (cap02.getD ((j).toNat) 0) (fun _ _=>rfl))),trivial⟩ ?_
   refine Runs.sA 1 [.code (C_30 458),.code (C_30 459),.inBlock 1,.inLoop (C_30 28),.inBlock 0] ?_
   refine Runs.sR hE ⟨[(0,(.os 0 0 (((cap02.set ((i).toNat) (cap02.getD ((j).toNat) 0)).set ((j).toNat) (cap02.getD ((i).toNat) 0)).length))),(6,(aI (w64 (i+1)))),(7,(aI j))],[(0,aO 1 cI 0 ((cap02.set ((i).toNat) (cap02.getD ((j).toNat) 0)).set ((j).toNat) (cap02.getD ((i).toNat) 0)))],353⟩ (C_30 458) [] [] (kp [0,6,7]) (kq [0]) 353 [] trivial ?_
   refine Runs.sR hE ⟨[(0,(.os 0 0 (((cap02.set ((i).toNat) (cap02.getD ((j).toNat) 0)).set ((j).toNat) (cap02.getD ((i).toNat) 0)).length))),(6,(aI (w64 (i+1)))),(7,(aI (w64 (j - 1))))],[(0,aO 1 cI 0 ((cap02.set ((i).toNat) (cap02.getD ((j).toNat) 0)).set ((j).toNat) (cap02.getD ((i).toNat) 0)))],401⟩ (C_30 459) [] [] (kp [0,6,7]) (kq [0]) 401 [] trivial ?_
   refine Runs.sA 2 [.code (C_30 28),.inLoop (C_30 28),.inBlock 0] ?_
   exact Runs.sW hE _ [] (kp [0,6,7]) (kq [0]) 1 [] trivial (ih ((cap02.set ((i).toNat) (cap02.getD ((j).toNat) 0)).set ((j).toNat) (cap02.getD ((i).toNat) 0)) (w64 (i+1)) (w64 (j - 1)) _ h E hE)
  ·have h:=condF h hq2
   refine Runs.sA 1 [] ?_
   obtain rfl:=Option.some.inj h
   refine Runs.sW hE ⟨[],[(0,aO 1 cI 0 cap02)],49⟩ [] [] (kq [0]) 49 [] trivial ?_
   exact Runs.sF Try.f88 [] [] trivial
theorem g_slices_reverseRangeOrdered_int_ok (N:Nat) (a:Int) (b:Int) (cap0:List Int) (r:(List Int)) (h:g_slices_reverseRangeOrdered_int N a b cap0=some r):Sound Try.prog 88 [(.os 0 0 cap0.length),(aI a),(aI b)] [(0,aO 1 cI 0 cap0)] 1 (.tup []) [(0,aO 1 cI 0 r)]:=by
 unfold g_slices_reverseRangeOrdered_int at h
 refine Sound.of_runs (fu:=Try.f88) (c:=C_30 1) (nt:=32) (by kernel_rfl) (by kernel_rfl) (by kernel_rfl) (by kernel_rfl) (fun hm=>absurd hm (by decide)) ?_
 intro E hE
 refine Runs.sA 1 [.code (C_30 2),.code (C_30 3)] ?_
 refine Runs.sR hE ⟨[(0,(.os 0 0 cap0.length)),(2,(aI b)),(6,(aI a))],[(0,aO 1 cI 0 cap0)],33⟩ (C_30 2) [] [] (kp [0,2,6]) (kq [0]) 33 [] trivial ?_
 refine Runs.sA 1 [.code (C_30 6),.code (C_30 7)] ?_
 refine Runs.sR hE ⟨[(0,(.os 0 0 cap0.length)),(6,(aI a)),(7,(aI (w64 (b - 1))))],[(0,aO 1 cI 0 cap0)],81⟩ (C_30 6) [] [] (kp [0,6,7]) (kq [0]) 81 [] trivial ?_
 refine Runs.sA 2 [.code (C_30 28),.inLoop (C_30 28),.inBlock 0] ?_
 exact Runs.sW hE _ [] (kp [0,6,7]) (kq [0]) 1 [] trivial (g_slices_reverseRangeOrdered_int_L1_ok N N cap0 a (w64 (b - 1)) _ h E hE)
noncomputable def C_31 (n:Nat):Code:=cat (bodyOf Try.f89) (pth n)
theorem g_slices_partialInsertionSortOrdered_int_J6_ok (N:Nat) (a:Int) (b:Int) (j:Int) (i2:Int) (K_g_slices_partialInsertionSortOrdered_int_L1:(List Int)→Int→Int→Option (Bool×(List Int)))
  (hK_g_slices_partialInsertionSortOrdered_int_L1:∀ (cap02:List Int) (i:Int) (j:Int) (r:Bool×(List Int)),K_g_slices_partialInsertionSortOrdered_int_L1 cap02 i j=some r→∀ E,EnvOk E 1→Runs Try.prog E 89 133 (SPost E [(0,aO 1 cI 0 r.2)] (aB r.1)) [.code (C_31 116),.inLoop (C_31 116),.inBlock 0,.code (C_31 15)] ⟨[(0,(.os 0 0 cap02.length)),(1,(aI a)),(2,(aI b)),(7,(aI i)),(8,(aI j))],[(0,aO 1 cI 0 cap02)],1⟩) (cap06:List Int) (r:Bool×(List Int)) (h:g_slices_partialInsertionSortOrdered_int_J6 N a b j i2 K_g_slices_partialInsertionSortOrdered_int_L1 cap06=some r):∀ E,EnvOk E 1→Runs Try.prog E 89 133 (SPost E [(0,aO 1 cI 0 r.2)] (aB r.1)) [.code (C_31 467),.inLoop (C_31 116),.inBlock 0,.code (C_31 15)] ⟨[(0,(.os 0 0 cap06.length)),(1,(aI a)),(2,(aI b)),(7,(aI i2)),(8,(aI j))],[(0,aO 1 cI 0 cap06)],1⟩:=by
 intro E hE
 unfold g_slices_partialInsertionSortOrdered_int_J6 at h
 refine Runs.sR hE ⟨[(0,(.os 0 0 cap06.length)),(1,(aI a)),(2,(aI b)),(7,(aI i2)),(8,(aI (w64 (j+1))))],[(0,aO 1 cI 0 cap06)],49⟩ (C_31 467) [] [] (kp [0,1,2,7,8]) (kq [0]) 49 [] trivial ?_
 refine Runs.sA 1 [.code (C_31 116),.inLoop (C_31 116),.inBlock 0,.code (C_31 15)] ?_
 exact Runs.sW hE _ [] (kp [0,1,2,7,8]) (kq [0]) 1 [] trivial (hK_g_slices_partialInsertionSortOrdered_int_L1 cap06 i2 (w64 (j+1)) _ h E hE)
theorem g_slices_partialInsertionSortOrdered_int_L5_ok (N:Nat) (a:Int) (b:Int) (j:Int) (i2:Int) (K_g_slices_partialInsertionSortOrdered_int_L1:(List Int)→Int→Int→Option (Bool×(List Int)))
  (hK_g_slices_partialInsertionSortOrdered_int_L1:∀ (cap02:List Int) (i:Int) (j:Int) (r:Bool×(List Int)),K_g_slices_partialInsertionSortOrdered_int_L1 cap02 i j=some r→∀ E,EnvOk E 1→Runs Try.prog E 89 133 (SPost E [(0,aO 1 cI 0 r.2)] (aB r.1)) [.code (C_31 116),.inLoop (C_31 116),.inBlock 0,.code (C_31 15)] ⟨[(0,(.os 0 0 cap02.length)),(1,(aI a)),(2,(aI b)),(7,(aI i)),(8,(aI j))],[(0,aO 1 cI 0 cap02)],1⟩) (fuel:Nat):∀ (cap05:List Int) (j3:Int) (r:Bool×(List Int)),g_slices_partialInsertionSortOrdered_int_L5 N a b j i2 K_g_slices_partialInsertionSortOrdered_int_L1 fuel cap05 j3=some r→∀ E,EnvOk E 1→Runs Try.prog E 89 133 (SPost E [(0,aO 1 cI 0 r.2)] (aB r.1)) [.code (C_31 955380),.inLoop (C_31 955380),.inBlock 6,.inBlock 1,.code (C_31 467),.inLoop (C_31 116),.inBlock 0,.code (C_31 15)] ⟨[(0,(.os 0 0 cap05.length)),(1,(aI a)),(2,(aI b)),(7,(aI i2)),(8,(aI j)),(10,(aI j3))],[(0,aO 1 cI 0 cap05)],1⟩:=by
 induction fuel with
 | zero=>intro _ _ r h;rw [g_slices_partialInsertionSortOrdered_int_L5.eq_1] at h;cases h
 | succ fuel ih =>
  intro cap05 j3 r h E hE
  rw [g_slices_partialInsertionSortOrdered_int_L5.eq_2] at h
  refine Runs.sA 2 [.code (C_31 3821520),.code (C_31 3821521),.code (C_31 1910761),.inLoop (C_31 955380),.inBlock 6,.inBlock 1,.code (C_31 467),.inLoop (C_31 116),.inBlock 0,.code (C_31 15)] ?_
  refine Runs.sR hE ⟨[(0,(.os 0 0 cap05.length)),(1,(aI a)),(2,(aI b)),(7,(aI i2)),(8,(aI j)),(10,(aI j3)),(103,(aB (decide (j3 < b))))],[(0,aO 1 cI 0 cap05)],49⟩ (C_31 3821520) [] [] (kp [0,1,2,7,8,10,103]) (kq [0]) 49 [] trivial ?_
  refine Runs.sC 103 (C_31 7643042) (C_31 7643043) (decide (j3 < b)) (fun hq10=>?_) (fun hq10=>?_)
  ·have h:=condT h hq10
   refine Runs.sA 5 [.code (C_31 30572176),.code (C_31 30572177),.code (C_31 15286089),.inBlock 7,.code (C_31 3821523),.inLoop (C_31 955380),.inBlock 6,.inBlock 1,.code (C_31 467),.inLoop (C_31 116),.inBlock 0,.code (C_31 15)] ?_
   obtain ⟨c7,h⟩:=ifSome h
   obtain ⟨c8,h⟩:=ifSome h
   obtain ⟨rLess3,hr3,h⟩:=bindSome h
   refine Runs.sR hE ⟨[(0,(.os 0 0 cap05.length)),(1,(aI a)),(2,(aI b)),(7,(aI i2)),(8,(aI j)),(10,(aI j3)),(116,(aB (!rLess3)))],[(0,aO 1 cI 0 cap05)],225⟩ (C_31 30572176) [(9,⟨[],true,(aB rLess3),[],0,false,none⟩)] [] (kp [0,1,2,7,8,10,116]) (kq [0]) 225 [0≤j3∧j3 < ((cap05.length:Nat):Int),(j3).toNat < cap05.length,0≤(w64 (j3 - 1))∧(w64 (j3 - 1)) < ((cap05.length:Nat):Int),(w64 (j3 - 1)).toNat < cap05.length,Sound Try.prog 90 [(aI (cap05.getD ((j3).toNat) 0)),(aI (cap05.getD ((w64 (j3 - 1)).toNat) 0))] [] 0 (aB rLess3) []] ⟨c7,(ltOf c7),c8,(ltOf c8),(g_cmp_Less_int_ok N (cap05.getD ((j3).toNat) 0) (cap05.getD ((w64 (j3 - 1)).toNat) 0) rLess3 hr3),trivial⟩ ?_
   refine Runs.sC 116 (C_31 61144354) (C_31 61144355) (!rLess3) (fun hq11=>?_) (fun hq11=>?_)
   ·have h:=condT h hq11
    refine Runs.sA 2 [.code (C_31 467),.inLoop (C_31 116),.inBlock 0,.code (C_31 15)] ?_
    exact Runs.sW hE _ [] (kp [0,1,2,7,8]) (kq [0]) 1 [] trivial (g_slices_partialInsertionSortOrdered_int_J6_ok N a b j i2 K_g_slices_partialInsertionSortOrdered_int_L1 hK_g_slices_partialInsertionSortOrdered_int_L1 cap05 _ h E hE)
   ·have h:=condF h hq11
    refine Runs.sA 1 [.code (C_31 15286089),.inBlock 7,.code (C_31 3821523),.inLoop (C_31 955380),.inBlock 6,.inBlock 1,.code (C_31 467),.inLoop (C_31 116),.inBlock 0,.code (C_31 15)] ?_
    refine Runs.sR hE ⟨[(0,(.os 0 0 (((cap05.set ((j3).toNat) (cap05.getD ((w64 (j3 - 1)).toNat) 0)).set ((w64 (j3 - 1)).toNat) (cap05.getD ((j3).toNat) 0)).length))),(1,(aI a)),(2,(aI b)),(7,(aI i2)),(8,(aI j)),(10,(aI j3))],[(0,aO 1 cI 0 ((cap05.set ((j3).toNat) (cap05.getD ((w64 (j3 - 1)).toNat) 0)).set ((w64 (j3 - 1)).toNat) (cap05.getD ((j3).toNat) 0)))],513⟩ (C_31 15286089) [] [] ([(0,.osl (((cap05.set ((j3).toNat) (cap05.getD ((w64 (j3 - 1)).toNat) 0)).set ((w64 (j3 - 1)).toNat) (cap05.getD ((j3).toNat) 0)).length))] ++ kp [1,2,7,8,10]) [(0,.arr 0 (((cap05.set ((j3).toNat) (cap05.getD ((w64 (j3 - 1)).toNat) 0)).set ((w64 (j3 - 1)).toNat) (cap05.getD ((j3).toNat) 0)).length) (fun zi=>cI (((cap05.set ((j3).toNat) (cap05.getD ((w64 (j3 - 1)).toNat) 0)).set ((w64 (j3 - 1)).toNat) (cap05.getD ((j3).toNat) 0)).getD zi 0)))] 513 [0≤(w64 (j3 - 1))∧(w64 (j3 - 1)) < ((cap05.length:Nat):Int),(w64 (j3 - 1)).toNat < cap05.length,0≤j3∧j3 < ((cap05.length:Nat):Int),(j3).toNat < cap05.length,0≤j3∧j3 < ((cap05.length:Nat):Int),(j3).toNat < cap05.length,0≤(w64 (j3 - 1))∧(w64 (j3 - 1)) < ((cap05.length:Nat):Int),(w64 (j3 - 1)).toNat < cap05.length,cap05.length=((cap05.set ((j3).toNat) (cap05.getD ((w64 (j3 - 1)).toNat) 0)).set ((w64 (j3 - 1)).toNat) (cap05.getD ((j3).toNat) 0)).length,cap05.length=((cap05.set ((j3).toNat) (cap05.getD ((w64 (j3 - 1)).toNat) 0)).set ((w64 (j3 - 1)).toNat) (cap05.getD ((j3).toNat) 0)).length,∀ zi,zi < ((cap05.set ((j3).toNat) (cap05.getD ((w64 (j3 - 1)).toNat) 0)).set ((w64 (j3 - 1)).toNat) (cap05.getD ((j3).toNat) 0)).length→(fun zi=>cI (((cap05.set ((j3).toNat) (cap05.getD ((w64 (j3 - 1)).toNat) 0)).set ((w64 (j3 - 1)).toNat) (cap05.getD ((j3).toNat) 0)).getD zi 0)) zi=((fun zm=>if zm=(w64 (j3 - 1)).toNat then [(aI (cap05.getD ((j3).toNat) 0))] else ((fun zm=>if zm=(j3).toNat then [(aI (cap05.getD ((w64 (j3 - 1)).toNat) 0))] else (fun zi=>cI (cap05.getD zi 0)) zm)) zm)) zi] ⟨c8,(ltOf c8),c7,(ltOf c7),c7,(ltOf c7),c8,(ltOf c8),(len_set_raw (len_set_raw rfl)),(len_set_raw (len_set_raw rfl)),(get_set_raw cI 0 (cap05.set ((j3).toNat) (cap05.getD ((w64 (j3 - 1)).toNat) 0)) ((w64 (j3 - 1)).toNat) (cap05.getD ((j3).toNat) 0) (get_set_raw cI 0 cap05 ((j3).toNat) (cap05.getD ((w64 (j3 - 1)).toNat) 0) (fun _ _=>rfl))),trivial⟩ ?_
    refine Runs.sA 1 [.code (C_31 3821523),.inLoop (C_31 955380),.inBlock 6,.inBlock 1,.code (C_31 467),.inLoop (C_31 116),.inBlock 0,.code (C_31 15)] ?_
    refine Runs.sR hE ⟨[(0,(.os 0 0 (((cap05.set ((j3).toNat) (cap05.getD ((w64 (j3 - 1)).toNat) 0)).set ((w64 (j3 - 1)).toNat) (cap05.getD ((j3).toNat) 0)).length))),(1,(aI a)),(2,(aI b)),(7,(aI i2)),(8,(aI j)),(10,(aI (w64 (j3+1))))],[(0,aO 1 cI 0 ((cap05.set ((j3).toNat) (cap05.getD ((w64 (j3 - 1)).toNat) 0)).set ((w64 (j3 - 1)).toNat) (cap05.getD ((j3).toNat) 0)))],561⟩ (C_31 3821523) [] [] (kp [0,1,2,7,8,10]) (kq [0]) 561 [] trivial ?_
    refine Runs.sA 1 [.code (C_31 955380),.inLoop (C_31 955380),.inBlock 6,.inBlock 1,.code (C_31 467),.inLoop (C_31 116),.inBlock 0,.code (C_31 15)] ?_
    exact Runs.sW hE _ [] (kp [0,1,2,7,8,10]) (kq [0]) 1 [] trivial (ih ((cap05.set ((j3).toNat) (cap05.getD ((w64 (j3 - 1)).toNat) 0)).set ((w64 (j3 - 1)).toNat) (cap05.getD ((j3).toNat) 0)) (w64 (j3+1)) _ h E hE)
  ·have h:=condF h hq10
   refine Runs.sA 2 [.code (C_31 467),.inLoop (C_31 116),.inBlock 0,.code (C_31 15)] ?_
   exact Runs.sW hE _ [] (kp [0,1,2,7,8]) (kq [0]) 1 [] trivial (g_slices_partialInsertionSortOrdered_int_J6_ok N a b j i2 K_g_slices_partialInsertionSortOrdered_int_L1 hK_g_slices_partialInsertionSortOrdered_int_L1 cap05 _ h E hE)
theorem g_slices_partialInsertionSortOrdered_int_J4_ok (N:Nat) (a:Int) (b:Int) (j:Int) (i2:Int) (K_g_slices_partialInsertionSortOrdered_int_L1:(List Int)→Int→Int→Option (Bool×(List Int)))
  (hK_g_slices_partialInsertionSortOrdered_int_L1:∀ (cap02:List Int) (i:Int) (j:Int) (r:Bool×(List Int)),K_g_slices_partialInsertionSortOrdered_int_L1 cap02 i j=some r→∀ E,EnvOk E 1→Runs Try.prog E 89 133 (SPost E [(0,aO 1 cI 0 r.2)] (aB r.1)) [.code (C_31 116),.inLoop (C_31 116),.inBlock 0,.code (C_31 15)] ⟨[(0,(.os 0 0 cap02.length)),(1,(aI a)),(2,(aI b)),(7,(aI i)),(8,(aI j))],[(0,aO 1 cI 0 cap02)],1⟩) (cap04:List Int) (r:Bool×(List Int)) (h:g_slices_partialInsertionSortOrdered_int_J4 N a b j i2 K_g_slices_partialInsertionSortOrdered_int_L1 cap04=some r):∀ E,EnvOk E 1→Runs Try.prog E 89 133 (SPost E [(0,aO 1 cI 0 r.2)] (aB r.1)) [.code (C_31 59710),.code (C_31 59711),.inBlock 1,.code (C_31 467),.inLoop (C_31 116),.inBlock 0,.code (C_31 15)] ⟨[(0,(.os 0 0 cap04.length)),(1,(aI a)),(2,(aI b)),(7,(aI i2)),(8,(aI j))],[(0,aO 1 cI 0 cap04)],1⟩:=by
 intro E hE
 unfold g_slices_partialInsertionSortOrdered_int_J4 at h
 refine Runs.sR hE ⟨[(0,(.os 0 0 cap04.length)),(1,(aI a)),(2,(aI b)),(7,(aI i2)),(8,(aI j)),(98,(aB (decide ((w64 (b - i2))≥2))))],[(0,aO 1 cI 0 cap04)],65⟩ (C_31 59710) [] [] (kp [0,1,2,7,8,98]) (kq [0]) 65 [] trivial ?_
 refine Runs.sC 98 (C_31 119422) (C_31 119423) (decide ((w64 (b - i2))≥2)) (fun hq9=>?_) (fun hq9=>?_)
 ·have h:=condT h hq9
  refine Runs.sA 1 [.code (C_31 238844),.code (C_31 238845),.inBlock 1,.code (C_31 467),.inLoop (C_31 116),.inBlock 0,.code (C_31 15)] ?_
  refine Runs.sR hE ⟨[(0,(.os 0 0 cap04.length)),(1,(aI a)),(2,(aI b)),(7,(aI i2)),(8,(aI j)),(10,(aI (w64 (i2+1))))],[(0,aO 1 cI 0 cap04)],113⟩ (C_31 238844) [] [] (kp [0,1,2,7,8,10]) (kq [0]) 113 [] trivial ?_
  refine Runs.sA 2 [.code (C_31 955380),.inLoop (C_31 955380),.inBlock 6,.inBlock 1,.code (C_31 467),.inLoop (C_31 116),.inBlock 0,.code (C_31 15)] ?_
  exact Runs.sW hE _ [] (kp [0,1,2,7,8,10]) (kq [0]) 1 [] trivial (g_slices_partialInsertionSortOrdered_int_L5_ok N a b j i2 K_g_slices_partialInsertionSortOrdered_int_L1 hK_g_slices_partialInsertionSortOrdered_int_L1 N cap04 (w64 (i2+1)) _ h E hE)
 ·have h:=condF h hq9
  refine Runs.sA 2 [.code (C_31 467),.inLoop (C_31 116),.inBlock 0,.code (C_31 15)] ?_
  exact Runs.sW hE _ [] (kp [0,1,2,7,8]) (kq [0]) 1 [] trivial (g_slices_partialInsertionSortOrdered_int_J6_ok N a b j i2 K_g_slices_partialInsertionSortOrdered_int_L1 hK_g_slices_partialInsertionSortOrdered_int_L1 cap04 _ h E hE)
theorem g_slices_partialInsertionSortOrdered_int_L3_ok (N:Nat) (a:Int) (b:Int) (j:Int) (i2:Int) (K_g_slices_partialInsertionSortOrdered_int_L1:(List Int)→Int→Int→Option (Bool×(List Int)))
  (hK_g_slices_partialInsertionSortOrdered_int_L1:∀ (cap02:List Int) (i:Int) (j:Int) (r:Bool×(List Int)),K_g_slices_partialInsertionSortOrdered_int_L1 cap02 i j=some r→∀ E,EnvOk E 1→Runs Try.prog E 89 133 (SPost E [(0,aO 1 cI 0 r.2)] (aB r.1)) [.code (C_31 116),.inLoop (C_31 116),.inBlock 0,.code (C_31 15)] ⟨[(0,(.os 0 0 cap02.length)),(1,(aI a)),(2,(aI b)),(7,(aI i)),(8,(aI j))],[(0,aO 1 cI 0 cap02)],1⟩) (fuel:Nat):∀ (cap03:List Int) (j2:Int) (r:Bool×(List Int)),g_slices_partialInsertionSortOrdered_int_L3 N a b j i2 K_g_slices_partialInsertionSortOrdered_int_L1 fuel cap03 j2=some r→∀ E,EnvOk E 1→Runs Try.prog E 89 133 (SPost E [(0,aO 1 cI 0 r.2)] (aB r.1)) [.code (C_31 955348),.inLoop (C_31 955348),.inBlock 4,.code (C_31 29855),.inBlock 1,.code (C_31 467),.inLoop (C_31 116),.inBlock 0,.code (C_31 15)] ⟨[(0,(.os 0 0 cap03.length)),(1,(aI a)),(2,(aI b)),(7,(aI i2)),(8,(aI j)),(9,(aI j2))],[(0,aO 1 cI 0 cap03)],1⟩:=by
 induction fuel with
 | zero=>intro _ _ r h;rw [g_slices_partialInsertionSortOrdered_int_L3.eq_1] at h;cases h
 | succ fuel ih =>
  intro cap03 j2 r h E hE
  rw [g_slices_partialInsertionSortOrdered_int_L3.eq_2] at h
  refine Runs.sA 2 [.code (C_31 3821392),.code (C_31 3821393),.code (C_31 1910697),.inLoop (C_31 955348),.inBlock 4,.code (C_31 29855),.inBlock 1,.code (C_31 467),.inLoop (C_31 116),.inBlock 0,.code (C_31 15)] ?_
  refine Runs.sR hE ⟨[(0,(.os 0 0 cap03.length)),(1,(aI a)),(2,(aI b)),(7,(aI i2)),(8,(aI j)),(9,(aI j2)),(65,(aB (decide (j2≥1))))],[(0,aO 1 cI 0 cap03)],33⟩ (C_31 3821392) [] [] (kp [0,1,2,7,8,9,65]) (kq [0]) 33 [] trivial ?_
  refine Runs.sC 65 (C_31 7642786) (C_31 7642787) (decide (j2≥1)) (fun hq7=>?_) (fun hq7=>?_)
  ·have h:=condT h hq7
   refine Runs.sA 5 [.code (C_31 30571152),.code (C_31 30571153),.code (C_31 15285577),.inBlock 5,.code (C_31 3821395),.inLoop (C_31 955348),.inBlock 4,.code (C_31 29855),.inBlock 1,.code (C_31 467),.inLoop (C_31 116),.inBlock 0,.code (C_31 15)] ?_
   obtain ⟨c5,h⟩:=ifSome h
   obtain ⟨c6,h⟩:=ifSome h
   obtain ⟨rLess2,hr2,h⟩:=bindSome h
   refine Runs.sR hE ⟨[(0,(.os 0 0 cap03.length)),(1,(aI a)),(2,(aI b)),(7,(aI i2)),(8,(aI j)),(9,(aI j2)),(78,(aB (!rLess2)))],[(0,aO 1 cI 0 cap03)],209⟩ (C_31 30571152) [(9,⟨[],true,(aB rLess2),[],0,false,none⟩)] [] (kp [0,1,2,7,8,9,78]) (kq [0]) 209 [0≤j2∧j2 < ((cap03.length:Nat):Int),(j2).toNat < cap03.length,0≤(w64 (j2 - 1))∧(w64 (j2 - 1)) < ((cap03.length:Nat):Int),(w64 (j2 - 1)).toNat < cap03.length,Sound Try.prog 90 [(aI (cap03.getD ((j2).toNat) 0)),(aI (cap03.getD ((w64 (j2 - 1)).toNat) 0))] [] 0 (aB rLess2) []] ⟨c5,(ltOf c5),c6,(ltOf c6),(g_cmp_Less_int_ok N (cap03.getD ((j2).toNat) 0) (cap03.getD ((w64 (j2 - 1)).toNat) 0) rLess2 hr2),trivial⟩ ?_
   refine Runs.sC 78 (C_31 61142306) (C_31 61142307) (!rLess2) (fun hq8=>?_) (fun hq8=>?_)
   ·have h:=condT h hq8
    refine Runs.sA 2 [.code (C_31 59710),.code (C_31 59711),.inBlock 1,.code (C_31 467),.inLoop (C_31 116),.inBlock 0,.code (C_31 15)] ?_
    exact Runs.sW hE _ [] (kp [0,1,2,7,8]) (kq [0]) 1 [] trivial (g_slices_partialInsertionSortOrdered_int_J4_ok N a b j i2 K_g_slices_partialInsertionSortOrdered_int_L1 hK_g_slices_partialInsertionSortOrdered_int_L1 cap03 _ h E hE)
   ·have h:=condF h hq8
    refine Runs.sA 1 [.code (C_31 15285577),.inBlock 5,.code (C_31 3821395),.inLoop (C_31 955348),.inBlock 4,.code (C_31 29855),.inBlock 1,.code (C_31 467),.inLoop (C_31 116),.inBlock 0,.code (C_31 15)] ?_
    refine Runs.sR hE ⟨[(0,(.os 0 0 (((cap03.set ((j2).toNat) (cap03.getD ((w64 (j2 - 1)).toNat) 0)).set ((w64 (j2 - 1)).toNat) (cap03.getD ((j2).toNat) 0)).length))),(1,(aI a)),(2,(aI b)),(7,(aI i2)),(8,(aI j)),(9,(aI j2))],[(0,aO 1 cI 0 ((cap03.set ((j2).toNat) (cap03.getD ((w64 (j2 - 1)).toNat) 0)).set ((w64 (j2 - 1)).toNat) (cap03.getD ((j2).toNat) 0)))],497⟩ (C_31 15285577) [] [] ([(0,.osl (((cap03.set ((j2).toNat) (cap03.getD ((w64 (j2 - 1)).toNat) 0)).set ((w64 (j2 - 1)).toNat) (cap03.getD ((j2).toNat) 0)).length))] ++ kp [1,2,7,8,9]) [(0,.arr 0 (((cap03.set ((j2).toNat) (cap03.getD ((w64 (j2 - 1)).toNat) 0)).set ((w64 (j2 - 1)).toNat) (cap03.getD ((j2).toNat) 0)).length) (fun zi=>cI (((cap03.set ((j2).toNat) (cap03.getD ((w64 (j2 - 1)).toNat) 0)).set ((w64 (j2 - 1)).toNat) (cap03.getD ((j2).toNat) 0)).getD zi 0)))] 497 [0≤(w64 (j2 - 1))∧(w64 (j2 - 1)) < ((cap03.length:Nat):Int),(w64 (j2 - 1)).toNat < cap03.length,0≤j2∧j2 < ((cap03.length:Nat):Int),(j2).toNat < cap03.length,0≤j2∧j2 < ((cap03.length:Nat):Int),(j2).toNat < cap03.length,0≤(w64 (j2 - 1))∧(w64 (j2 - 1)) < ((cap03.length:Nat):Int),(w64 (j2 - 1)).toNat < cap03.length,cap03.length=((cap03.set ((j2).toNat) (cap03.getD ((w64 (j2 - 1)).toNat) 0)).set ((w64 (j2 - 1)).toNat) (cap03.getD ((j2).toNat) 0)).length,cap03.length=((cap03.set ((j2).toNat) (cap03.getD ((w64 (j2 - 1)).toNat) 0)).set ((w64 (j2 - 1)).toNat) (cap03.getD ((j2).toNat) 0)).length,∀ zi,zi < ((cap03.set ((j2).toNat) (cap03.getD ((w64 (j2 - 1)).toNat) 0)).set ((w64 (j2 - 1)).toNat) (cap03.getD ((j2).toNat) 0)).length→(fun zi=>cI (((cap03.set ((j2).toNat) (cap03.getD ((w64 (j2 - 1)).toNat) 0)).set ((w64 (j2 - 1)).toNat) (cap03.getD ((j2).toNat) 0)).getD zi 0)) zi=((fun zm=>if zm=(w64 (j2 - 1)).toNat then [(aI (cap03.getD ((j2).toNat) 0))] else ((fun zm=>if zm=(j2).toNat then [(aI (cap03.getD ((w64 (j2 - 1)).toNat) 0))] else (fun zi=>cI (cap03.getD zi 0)) zm)) zm)) zi] ⟨c6,(ltOf c6),c5,(ltOf c5),c5,(ltOf c5),c6,(ltOf c6),(len_set_raw (len_set_raw rfl)),(len_set_raw (len_set_raw rfl)),(get_set_raw cI 0 (cap03.set ((j2).toNat) (cap03.getD ((w64 (j2 - 1)).toNat) 0)) ((w64 (j2 - 1)).toNat) (cap03.getD ((j2).toNat) 0) (get_set_raw cI 0 cap03 ((j2).toNat) (cap03.getD ((w64 (j2 - 1)).toNat) 0) (fun _ _=>rfl))),trivial⟩ ?_
    refine Runs.sA 1 [.code (C_31 3821395),.inLoop (C_31 955348),.inBlock 4,.code (C_31 29855),.inBlock 1,.code (C_31 467),.inLoop (C_31 116),.inBlock 0,.code (C_31 15)] ?_
    refine Runs.sR hE ⟨[(0,(.os 0 0 (((cap03.set ((j2).toNat) (cap03.getD ((w64 (j2 - 1)).toNat) 0)).set ((w64 (j2 - 1)).toNat) (cap03.getD ((j2).toNat) 0)).length))),(1,(aI a)),(2,(aI b)),(7,(aI i2)),(8,(aI j)),(9,(aI (w64 (j2 - 1))))],[(0,aO 1 cI 0 ((cap03.set ((j2).toNat) (cap03.getD ((w64 (j2 - 1)).toNat) 0)).set ((w64 (j2 - 1)).toNat) (cap03.getD ((j2).toNat) 0)))],545⟩ (C_31 3821395) [] [] (kp [0,1,2,7,8,9]) (kq [0]) 545 [] trivial ?_
    refine Runs.sA 1 [.code (C_31 955348),.inLoop (C_31 955348),.inBlock 4,.code (C_31 29855),.inBlock 1,.code (C_31 467),.inLoop (C_31 116),.inBlock 0,.code (C_31 15)] ?_
    exact Runs.sW hE _ [] (kp [0,1,2,7,8,9]) (kq [0]) 1 [] trivial (ih ((cap03.set ((j2).toNat) (cap03.getD ((w64 (j2 - 1)).toNat) 0)).set ((w64 (j2 - 1)).toNat) (cap03.getD ((j2).toNat) 0)) (w64 (j2 - 1)) _ h E hE)
  ·have h:=condF h hq7
   refine Runs.sA 2 [.code (C_31 59710),.code (C_31 59711),.inBlock 1,.code (C_31 467),.inLoop (C_31 116),.inBlock 0,.code (C_31 15)] ?_
   exact Runs.sW hE _ [] (kp [0,1,2,7,8]) (kq [0]) 1 [] trivial (g_slices_partialInsertionSortOrdered_int_J4_ok N a b j i2 K_g_slices_partialInsertionSortOrdered_int_L1 hK_g_slices_partialInsertionSortOrdered_int_L1 cap03 _ h E hE)
theorem g_slices_partialInsertionSortOrdered_int_L2_ok (N:Nat) (a:Int) (b:Int) (cap02:List Int) (j:Int) (K_g_slices_partialInsertionSortOrdered_int_L1:(List Int)→Int→Int→Option (Bool×(List Int)))
  (hK_g_slices_partialInsertionSortOrdered_int_L1:∀ (cap02:List Int) (i:Int) (j:Int) (r:Bool×(List Int)),K_g_slices_partialInsertionSortOrdered_int_L1 cap02 i j=some r→∀ E,EnvOk E 1→Runs Try.prog E 89 133 (SPost E [(0,aO 1 cI 0 r.2)] (aB r.1)) [.code (C_31 116),.inLoop (C_31 116),.inBlock 0,.code (C_31 15)] ⟨[(0,(.os 0 0 cap02.length)),(1,(aI a)),(2,(aI b)),(7,(aI i)),(8,(aI j))],[(0,aO 1 cI 0 cap02)],1⟩) (fuel:Nat):∀ (i2:Int) (r:Bool×(List Int)),g_slices_partialInsertionSortOrdered_int_L2 N a b cap02 j K_g_slices_partialInsertionSortOrdered_int_L1 fuel i2=some r→∀ E,EnvOk E 1→Runs Try.prog E 89 133 (SPost E [(0,aO 1 cI 0 r.2)] (aB r.1)) [.code (C_31 7456),.inLoop (C_31 7456),.inBlock 2,.code (C_31 1865),.inBlock 1,.code (C_31 467),.inLoop (C_31 116),.inBlock 0,.code (C_31 15)] ⟨[(0,(.os 0 0 cap02.length)),(1,(aI a)),(2,(aI b)),(7,(aI i2)),(8,(aI j))],[(0,aO 1 cI 0 cap02)],1⟩:=by
 induction fuel with
 | zero=>intro _ r h;rw [g_slices_partialInsertionSortOrdered_int_L2.eq_1] at h;cases h
 | succ fuel ih =>
  intro i2 r h E hE
  rw [g_slices_partialInsertionSortOrdered_int_L2.eq_2] at h
  refine Runs.sA 2 [.code (C_31 29824),.code (C_31 29825),.code (C_31 14913),.inLoop (C_31 7456),.inBlock 2,.code (C_31 1865),.inBlock 1,.code (C_31 467),.inLoop (C_31 116),.inBlock 0,.code (C_31 15)] ?_
  obtain ⟨c,h⟩:=ifSome h
  obtain ⟨c2,h⟩:=ifSome h
  obtain ⟨rLess,hr,h⟩:=bindSome h
  refine Runs.sR hE ⟨[(0,(.os 0 0 cap02.length)),(1,(aI a)),(2,(aI b)),(7,(aI i2)),(8,(aI j)),(32,(aB (cond (decide (i2 < b)) (!rLess) false)))],[(0,aO 1 cI 0 cap02)],257⟩ (C_31 29824) [(13,⟨[],true,(aB rLess),[],0,false,none⟩)] [] (kp [0,1,2,7,8,32]) (kq [0]) 257 [(decide (i2 < b))=true→AllP [(decide (i2 < b))=true,(decide (i2 < b))=true,0≤i2∧i2 < ((cap02.length:Nat):Int)],(decide (i2 < b))=true→AllP [(decide (i2 < b))=true,(i2).toNat < cap02.length],(decide (i2 < b))=true→AllP [(decide (i2 < b))=true],(decide (i2 < b))=true→AllP [(decide (i2 < b))=true,(decide (i2 < b))=true,0≤(w64 (i2 - 1))∧(w64 (i2 - 1)) < ((cap02.length:Nat):Int)],(decide (i2 < b))=true→AllP [(decide (i2 < b))=true,(w64 (i2 - 1)).toNat < cap02.length],(decide (i2 < b))=true→AllP [Sound Try.prog 90 [(aI (cap02.getD ((i2).toNat) 0)),(aI (cap02.getD ((w64 (i2 - 1)).toNat) 0))] [] 0 (aB rLess) [],(decide (i2 < b))=true,(decide (i2 < b))=true],(decide (i2 < b))=true→AllP [(decide (i2 < b))=true],(decide (i2 < b))=true→AllP [(decide (i2 < b))=true]] ⟨(fun hg=>⟨hg,hg,(c hg),trivial⟩),(fun hg=>⟨hg,(ltOf (c hg)),trivial⟩),(fun hg=>⟨hg,trivial⟩),(fun hg=>⟨hg,hg,(c2 hg),trivial⟩),(fun hg=>⟨hg,(ltOf (c2 hg)),trivial⟩),(fun hg=>⟨(g_cmp_Less_int_ok N (cap02.getD ((i2).toNat) 0) (cap02.getD ((w64 (i2 - 1)).toNat) 0) rLess (condT hr hg)),hg,hg,trivial⟩),(fun hg=>⟨hg,trivial⟩),(fun hq=>⟨hq,trivial⟩),trivial⟩ ?_
  refine Runs.sC 32 (C_31 59650) (C_31 59651) (cond (decide (i2 < b)) (!rLess) false) (fun hq3=>?_) (fun hq3=>?_)
  ·have h:=condT h hq3
   refine Runs.sA 2 [.code (C_31 29826),.inBlock 3,.inLoop (C_31 7456),.inBlock 2,.code (C_31 1865),.inBlock 1,.code (C_31 467),.inLoop (C_31 116),.inBlock 0,.code (C_31 15)] ?_
   refine Runs.sR hE ⟨[(0,(.os 0 0 cap02.length)),(1,(aI a)),(2,(aI b)),(7,(aI (w64 (i2+1)))),(8,(aI j))],[(0,aO 1 cI 0 cap02)],305⟩ (C_31 29826) [] [] (kp [0,1,2,7,8]) (kq [0]) 305 [] trivial ?_
   refine Runs.sA 2 [.code (C_31 7456),.inLoop (C_31 7456),.inBlock 2,.code (C_31 1865),.inBlock 1,.code (C_31 467),.inLoop (C_31 116),.inBlock 0,.code (C_31 15)] ?_
   exact Runs.sW hE _ [] (kp [0,1,2,7,8]) (kq [0]) 1 [] trivial (ih (w64 (i2+1)) _ h E hE)
  ·have h:=condF h hq3
   refine Runs.sA 3 [.code (C_31 7460),.code (C_31 7461),.code (C_31 3731),.inBlock 1,.code (C_31 467),.inLoop (C_31 116),.inBlock 0,.code (C_31 15)] ?_
   refine Runs.sR hE ⟨[(0,(.os 0 0 cap02.length)),(1,(aI a)),(2,(aI b)),(7,(aI i2)),(8,(aI j)),(37,(aB (i2 == b)))],[(0,aO 1 cI 0 cap02)],305⟩ (C_31 7460) [] [] (kp [0,1,2,7,8,37]) (kq [0]) 305 [] trivial ?_
   refine Runs.sC 37 (C_31 14922) (C_31 14923) (i2 == b) (fun hq4=>?_) (fun hq4=>?_)
   ·have h:=condT h hq4
    refine Runs.sA 1 [.code (C_31 29844),.code (C_31 29845),.code (C_31 3731),.inBlock 1,.code (C_31 467),.inLoop (C_31 116),.inBlock 0,.code (C_31 15)] ?_
    refine Runs.sR hE ⟨[(6,(aB true))],[(0,aO 1 cI 0 cap02)],321⟩ (C_31 29844) [] [] (kp [6]) (kq [0]) 321 [] trivial ?_
    obtain rfl:=Option.some.inj h
    refine Runs.sW hE ⟨[(6,(aB true))],[(0,aO 1 cI 0 cap02)],321⟩ [] (kp [6]) (kq [0]) 321 [] trivial ?_
    exact Runs.sT Try.f89 [] [] trivial
   ·have h:=condF h hq4
    refine Runs.sA 3 [.code (C_31 14924),.code (C_31 14925),.code (C_31 7463),.inBlock 1,.code (C_31 467),.inLoop (C_31 116),.inBlock 0,.code (C_31 15)] ?_
    refine Runs.sR hE ⟨[(0,(.os 0 0 cap02.length)),(1,(aI a)),(2,(aI b)),(7,(aI i2)),(8,(aI j)),(41,(aB (decide ((w64 (b - a)) < 50))))],[(0,aO 1 cI 0 cap02)],369⟩ (C_31 14924) [] [] (kp [0,1,2,7,8,41]) (kq [0]) 369 [] trivial ?_
    refine Runs.sC 41 (C_31 29850) (C_31 29851) (decide ((w64 (b - a)) < 50)) (fun hq5=>?_) (fun hq5=>?_)
    ·have h:=condT h hq5
     refine Runs.sA 1 [.code (C_31 59700),.code (C_31 59701),.code (C_31 7463),.inBlock 1,.code (C_31 467),.inLoop (C_31 116),.inBlock 0,.code (C_31 15)] ?_
     refine Runs.sR hE ⟨[(6,(aB false))],[(0,aO 1 cI 0 cap02)],385⟩ (C_31 59700) [] [] (kp [6]) (kq [0]) 385 [] trivial ?_
     obtain rfl:=Option.some.inj h
     refine Runs.sW hE ⟨[(6,(aB false))],[(0,aO 1 cI 0 cap02)],385⟩ [] (kp [6]) (kq [0]) 385 [] trivial ?_
     exact Runs.sT Try.f89 [] [] trivial
    ·have h:=condF h hq5
     refine Runs.sA 2 [.code (C_31 14926),.code (C_31 14927),.inBlock 1,.code (C_31 467),.inLoop (C_31 116),.inBlock 0,.code (C_31 15)] ?_
     obtain ⟨c3,h⟩:=ifSome h
     obtain ⟨c4,h⟩:=ifSome h
     refine Runs.sR hE ⟨[(0,(.os 0 0 (((cap02.set ((i2).toNat) (cap02.getD ((w64 (i2 - 1)).toNat) 0)).set ((w64 (i2 - 1)).toNat) (cap02.getD ((i2).toNat) 0)).length))),(1,(aI a)),(2,(aI b)),(7,(aI i2)),(8,(aI j))],[(0,aO 1 cI 0 ((cap02.set ((i2).toNat) (cap02.getD ((w64 (i2 - 1)).toNat) 0)).set ((w64 (i2 - 1)).toNat) (cap02.getD ((i2).toNat) 0)))],657⟩ (C_31 14926) [] [] ([(0,.osl (((cap02.set ((i2).toNat) (cap02.getD ((w64 (i2 - 1)).toNat) 0)).set ((w64 (i2 - 1)).toNat) (cap02.getD ((i2).toNat) 0)).length))] ++ kp [1,2,7,8]) [(0,.arr 0 (((cap02.set ((i2).toNat) (cap02.getD ((w64 (i2 - 1)).toNat) 0)).set ((w64 (i2 - 1)).toNat) (cap02.getD ((i2).toNat) 0)).length) (fun zi=>cI (((cap02.set ((i2).toNat) (cap02.getD ((w64 (i2 - 1)).toNat) 0)).set ((w64 (i2 - 1)).toNat) (cap02.getD ((i2).toNat) 0)).getD zi 0)))] 657 [0≤(w64 (i2 - 1))∧(w64 (i2 - 1)) < ((cap02.length:Nat):Int),(w64 (i2 - 1)).toNat < cap02.length,0≤i2∧i2 < ((cap02.length:Nat):Int),(i2).toNat < cap02.length,0≤i2∧i2 < ((cap02.length:Nat):Int),(i2).toNat < cap02.length,0≤(w64 (i2 - 1))∧(w64 (i2 - 1)) < ((cap02.length:Nat):Int),(w64 (i2 - 1)).toNat < cap02.length,cap02.length=((cap02.set ((i2).toNat) (cap02.getD ((w64 (i2 - 1)).toNat) 0)).set ((w64 (i2 - 1)).toNat) (cap02.getD ((i2).toNat) 0)).length,cap02.length=((cap02.set ((i2).toNat) (cap02.getD ((w64 (i2 - 1)).toNat) 0)).set ((w64 (i2 - 1)).toNat) (cap02.getD ((i2).toNat) 0)).length,∀ zi,zi < ((cap02.set ((i2).toNat) (cap02.getD ((w64 (i2 - 1)).toNat) 0)).set ((w64 (i2 - 1)).toNat) (cap02.getD ((i2).toNat) 0)).length→(fun zi=>cI (((cap02.set ((i2).toNat) (cap02.getD ((w64 (i2 - 1)).toNat) 0)).set ((w64 (i2 - 1)).toNat) (cap02.getD ((i2).toNat) 0)).getD zi 0)) zi=((fun zm=>if zm=(w64 (i2 - 1)).toNat then [(aI (cap02.getD ((i2).toNat) 0))] else ((fun zm=>if zm=(i2).toNat then [(aI (cap02.getD ((w64 (i2 - 1)).toNat) 0))] else (fun zi=>cI (cap02.getD zi 0)) zm)) zm)) zi] ⟨c3,(ltOf c3),c4,(ltOf c4),c4,(ltOf c4),c3,(ltOf c3),(len_set_raw (len_set_raw rfl)),(len_set_raw (len_set_raw rfl)),(get_set_raw cI 0 (cap02.set ((i2).toNat) (cap02.getD ((w64 (i2 - 1)).toNat) 0)) ((w64 (i2 - 1)).toNat) (cap02.getD ((i2).toNat) 0) (get_set_raw cI 0 cap02 ((i2).toNat) (cap02.getD ((w64 (i2 - 1)).toNat) 0) (fun _ _=>rfl))),trivial⟩ ?_
     refine Runs.sA 2 [.code (C_31 59708),.code (C_31 59709),.code (C_31 29855),.inBlock 1,.code (C_31 467),.inLoop (C_31 116),.inBlock 0,.code (C_31 15)] ?_
     refine Runs.sR hE ⟨[(0,(.os 0 0 (((cap02.set ((i2).toNat) (cap02.getD ((w64 (i2 - 1)).toNat) 0)).set ((w64 (i2 - 1)).toNat) (cap02.getD ((i2).toNat) 0)).length))),(1,(aI a)),(2,(aI b)),(7,(aI i2)),(8,(aI j)),(61,(aB (decide ((w64 (i2 - a))≥2))))],[(0,aO 1 cI 0 ((cap02.set ((i2).toNat) (cap02.getD ((w64 (i2 - 1)).toNat) 0)).set ((w64 (i2 - 1)).toNat) (cap02.getD ((i2).toNat) 0)))],721⟩ (C_31 59708) [] [] (kp [0,1,2,7,8,61]) (kq [0]) 721 [] trivial ?_
     refine Runs.sC 61 (C_31 119418) (C_31 119419) (decide ((w64 (i2 - a))≥2)) (fun hq6=>?_) (fun hq6=>?_)
     ·have h:=condT h hq6
      refine Runs.sA 1 [.code (C_31 238836),.code (C_31 238837),.code (C_31 29855),.inBlock 1,.code (C_31 467),.inLoop (C_31 116),.inBlock 0,.code (C_31 15)] ?_
      refine Runs.sR hE ⟨[(0,(.os 0 0 (((cap02.set ((i2).toNat) (cap02.getD ((w64 (i2 - 1)).toNat) 0)).set ((w64 (i2 - 1)).toNat) (cap02.getD ((i2).toNat) 0)).length))),(1,(aI a)),(2,(aI b)),(7,(aI i2)),(8,(aI j)),(9,(aI (w64 (i2 - 1))))],[(0,aO 1 cI 0 ((cap02.set ((i2).toNat) (cap02.getD ((w64 (i2 - 1)).toNat) 0)).set ((w64 (i2 - 1)).toNat) (cap02.getD ((i2).toNat) 0)))],769⟩ (C_31 238836) [] [] (kp [0,1,2,7,8,9]) (kq [0]) 769 [] trivial ?_
      refine Runs.sA 2 [.code (C_31 955348),.inLoop (C_31 955348),.inBlock 4,.code (C_31 29855),.inBlock 1,.code (C_31 467),.inLoop (C_31 116),.inBlock 0,.code (C_31 15)] ?_
      exact Runs.sW hE _ [] (kp [0,1,2,7,8,9]) (kq [0]) 1 [] trivial (g_slices_partialInsertionSortOrdered_int_L3_ok N a b j i2 K_g_slices_partialInsertionSortOrdered_int_L1 hK_g_slices_partialInsertionSortOrdered_int_L1 N ((cap02.set ((i2).toNat) (cap02.getD ((w64 (i2 - 1)).toNat) 0)).set ((w64 (i2 - 1)).toNat) (cap02.getD ((i2).toNat) 0)) (w64 (i2 - 1)) _ h E hE)
     ·have h:=condF h hq6
      refine Runs.sA 2 [.code (C_31 59710),.code (C_31 59711),.inBlock 1,.code (C_31 467),.inLoop (C_31 116),.inBlock 0,.code (C_31 15)] ?_
      exact Runs.sW hE _ [] (kp [0,1,2,7,8]) (kq [0]) 1 [] trivial (g_slices_partialInsertionSortOrdered_int_J4_ok N a b j i2 K_g_slices_partialInsertionSortOrdered_int_L1 hK_g_slices_partialInsertionSortOrdered_int_L1 ((cap02.set ((i2).toNat) (cap02.getD ((w64 (i2 - 1)).toNat) 0)).set ((w64 (i2 - 1)).toNat) (cap02.getD ((i2).toNat) 0)) _ h E hE)
theorem g_slices_partialInsertionSortOrdered_int_L1_ok (N:Nat) (a:Int) (b:Int) (fuel:Nat):∀ (cap02:List Int) (i:Int) (j:Int) (r:Bool×(List Int)),g_slices_partialInsertionSortOrdered_int_L1 N a b fuel cap02 i j=some r→∀ E,EnvOk E 1→Runs Try.prog E 89 133 (SPost E [(0,aO 1 cI 0 r.2)] (aB r.1)) [.code (C_31 116),.inLoop (C_31 116),.inBlock 0,.code (C_31 15)] ⟨[(0,(.os 0 0 cap02.length)),(1,(aI a)),(2,(aI b)),(7,(aI i)),(8,(aI j))],[(0,aO 1 cI 0 cap02)],1⟩:=by
 induction fuel with
 | zero=>intro _ _ _ r h;rw [g_slices_partialInsertionSortOrdered_int_L1.eq_1] at h;cases h
 | succ fuel ih =>
  intro cap02 i j r h E hE
  rw [g_slices_partialInsertionSortOrdered_int_L1.eq_2] at h
  refine Runs.sA 2 [.code (C_31 464),.code (C_31 465),.code (C_31 233),.inLoop (C_31 116),.inBlock 0,.code (C_31 15)] ?_
  refine Runs.sR hE ⟨[(0,(.os 0 0 cap02.length)),(1,(aI a)),(2,(aI b)),(7,(aI i)),(8,(aI j)),(14,(aB (decide (j < 5))))],[(0,aO 1 cI 0 cap02)],33⟩ (C_31 464) [] [] (kp [0,1,2,7,8,14]) (kq [0]) 33 [] trivial ?_
  refine Runs.sC 14 (C_31 930) (C_31 931) (decide (j < 5)) (fun hq2=>?_) (fun hq2=>?_)
  ·have h:=condT h hq2
   refine Runs.sA 6 [.code (C_31 7456),.inLoop (C_31 7456),.inBlock 2,.code (C_31 1865),.inBlock 1,.code (C_31 467),.inLoop (C_31 116),.inBlock 0,.code (C_31 15)] ?_
   exact Runs.sW hE _ [] (kp [0,1,2,7,8]) (kq [0]) 1 [] trivial (g_slices_partialInsertionSortOrdered_int_L2_ok N a b cap02 j (g_slices_partialInsertionSortOrdered_int_L1 N a b fuel) ih N i _ h E hE)
  ·have h:=condF h hq2
   refine Runs.sA 2 [.code (C_31 30),.code (C_31 31)] ?_
   refine Runs.sR hE ⟨[(6,(aB false))],[(0,aO 1 cI 0 cap02)],49⟩ (C_31 30) [] [] (kp [6]) (kq [0]) 49 [] trivial ?_
   obtain rfl:=Option.some.inj h
   refine Runs.sW hE ⟨[(6,(aB false))],[(0,aO 1 cI 0 cap02)],49⟩ [] (kp [6]) (kq [0]) 49 [] trivial ?_
   exact Runs.sT Try.f89 [] [] trivial
theorem g_slices_partialInsertionSortOrdered_int_ok (N:Nat) (a:Int) (b:Int) (cap0:List Int) (r:Bool×(List Int)) (h:g_slices_partialInsertionSortOrdered_int N a b cap0=some r):Sound Try.prog 89 [(.os 0 0 cap0.length),(aI a),(aI b)] [(0,aO 1 cI 0 cap0)] 1 (aB r.1) [(0,aO 1 cI 0 r.2)]:=by
 unfold g_slices_partialInsertionSortOrdered_int at h
 refine Sound.of_runs (fu:=Try.f89) (c:=C_31 1) (nt:=133) (by kernel_rfl) (by kernel_rfl) (by kernel_rfl) (by kernel_rfl) (fun hm=>absurd hm (by decide)) ?_
 intro E hE
 refine Runs.sA 1 [.code (C_31 2),.code (C_31 3)] ?_
 refine Runs.sR hE ⟨[(0,(.os 0 0 cap0.length)),(1,(aI a)),(2,(aI b))],[(0,aO 1 cI 0 cap0)],17⟩ (C_31 2) [] [] (kp [0,1,2]) (kq [0]) 17 [] trivial ?_
 refine Runs.sA 1 [.code (C_31 6),.code (C_31 7)] ?_
 refine Runs.sR hE ⟨[(0,(.os 0 0 cap0.length)),(1,(aI a)),(2,(aI b)),(7,(aI (w64 (a+1))))],[(0,aO 1 cI 0 cap0)],65⟩ (C_31 6) [] [] (kp [0,1,2,7]) (kq [0]) 65 [] trivial ?_
 refine Runs.sA 2 [.code (C_31 28),.code (C_31 29),.code (C_31 15)] ?_
 refine Runs.sR hE ⟨[(0,(.os 0 0 cap0.length)),(1,(aI a)),(2,(aI b)),(7,(aI (w64 (a+1)))),(8,(aI 0))],[(0,aO 1 cI 0 cap0)],81⟩ (C_31 28) [] [] (kp [0,1,2,7,8]) (kq [0]) 81 [] trivial ?_
 refine Runs.sA 2 [.code (C_31 116),.inLoop (C_31 116),.inBlock 0,.code (C_31 15)] ?_
 exact Runs.sW hE _ [] (kp [0,1,2,7,8]) (kq [0]) 1 [] trivial (g_slices_partialInsertionSortOrdered_int_L1_ok N a b N cap0 (w64 (a+1)) 0 _ h E hE)
noncomputable def C_32 (n:Nat):Code:=cat (bodyOf Try.f91) (pth n)
theorem g_slices_partitionEqualOrdered_int_L3_ok (N:Nat) (a:Int) (cap02:List Int) (i2:Int) (K_g_slices_partitionEqualOrdered_int_L1:(List Int)→Int→Int→Option (Int×(List Int)))
  (hK_g_slices_partitionEqualOrdered_int_L1:∀ (cap02:List Int) (i:Int) (j:Int) (r:Int×(List Int)),K_g_slices_partitionEqualOrdered_int_L1 cap02 i j=some r→∀ E,EnvOk E 1→Runs Try.prog E 91 84 (SPost E [(0,aO 1 cI 0 r.2)] (aI r.1)) [.code (C_32 120),.inLoop (C_32 120),.inBlock 0,.code (C_32 31)] ⟨[(0,(.os 0 0 cap02.length)),(1,(aI a)),(9,(aI i)),(10,(aI j))],[(0,aO 1 cI 0 cap02)],1⟩) (fuel:Nat):∀ (j2:Int) (r:Int×(List Int)),g_slices_partitionEqualOrdered_int_L3 N a cap02 i2 K_g_slices_partitionEqualOrdered_int_L1 fuel j2=some r→∀ E,EnvOk E 1→Runs Try.prog E 91 84 (SPost E [(0,aO 1 cI 0 r.2)] (aI r.1)) [.code (C_32 3848),.inLoop (C_32 3848),.inBlock 4,.code (C_32 963),.inBlock 1,.inLoop (C_32 120),.inBlock 0,.code (C_32 31)] ⟨[(0,(.os 0 0 cap02.length)),(1,(aI a)),(9,(aI i2)),(10,(aI j2))],[(0,aO 1 cI 0 cap02)],1⟩:=by
 induction fuel with
 | zero=>intro _ r h;rw [g_slices_partitionEqualOrdered_int_L3.eq_1] at h;cases h
 | succ fuel ih =>
  intro j2 r h E hE
  rw [g_slices_partitionEqualOrdered_int_L3.eq_2] at h
  refine Runs.sA 2 [.code (C_32 15392),.code (C_32 15393),.code (C_32 7697),.inLoop (C_32 3848),.inBlock 4,.code (C_32 963),.inBlock 1,.inLoop (C_32 120),.inBlock 0,.code (C_32 31)] ?_
  obtain ⟨c5,h⟩:=ifSome h
  obtain ⟨c6,h⟩:=ifSome h
  obtain ⟨rLess2,hr2,h⟩:=bindSome h
  refine Runs.sR hE ⟨[(0,(.os 0 0 cap02.length)),(1,(aI a)),(9,(aI i2)),(10,(aI j2)),(59,(aB (cond (decide (i2≤j2)) rLess2 false)))],[(0,aO 1 cI 0 cap02)],225⟩ (C_32 15392) [(12,⟨[],true,(aB rLess2),[],0,false,none⟩)] [] (kp [0,1,9,10,59]) (kq [0]) 225 [(decide (i2≤j2))=true→AllP [(decide (i2≤j2))=true,(decide (i2≤j2))=true,0≤a∧a < ((cap02.length:Nat):Int)],(decide (i2≤j2))=true→AllP [(decide (i2≤j2))=true,(a).toNat < cap02.length],(decide (i2≤j2))=true→AllP [(decide (i2≤j2))=true,(decide (i2≤j2))=true,0≤j2∧j2 < ((cap02.length:Nat):Int)],(decide (i2≤j2))=true→AllP [(decide (i2≤j2))=true,(j2).toNat < cap02.length],(decide (i2≤j2))=true→AllP [Sound Try.prog 90 [(aI (cap02.getD ((a).toNat) 0)),(aI (cap02.getD ((j2).toNat) 0))] [] 0 (aB rLess2) [],(decide (i2≤j2))=true,(decide (i2≤j2))=true],(decide (i2≤j2))=true→AllP [(decide (i2≤j2))=true]] ⟨(fun hg=>⟨hg,hg,(c5 hg),trivial⟩),(fun hg=>⟨hg,(ltOf (c5 hg)),trivial⟩),(fun hg=>⟨hg,hg,(c6 hg),trivial⟩),(fun hg=>⟨hg,(ltOf (c6 hg)),trivial⟩),(fun hg=>⟨(g_cmp_Less_int_ok N (cap02.getD ((a).toNat) 0) (cap02.getD ((j2).toNat) 0) rLess2 (condT hr2 hg)),hg,hg,trivial⟩),(fun hq=>⟨hq,trivial⟩),trivial⟩ ?_
  refine Runs.sC 59 (C_32 30786) (C_32 30787) (cond (decide (i2≤j2)) rLess2 false) (fun hq3=>?_) (fun hq3=>?_)
  ·have h:=condT h hq3
   refine Runs.sA 2 [.code (C_32 15394),.inBlock 5,.inLoop (C_32 3848),.inBlock 4,.code (C_32 963),.inBlock 1,.inLoop (C_32 120),.inBlock 0,.code (C_32 31)] ?_
   refine Runs.sR hE ⟨[(0,(.os 0 0 cap02.length)),(1,(aI a)),(9,(aI i2)),(10,(aI (w64 (j2 - 1))))],[(0,aO 1 cI 0 cap02)],273⟩ (C_32 15394) [] [] (kp [0,1,9,10]) (kq [0]) 273 [] trivial ?_
   refine Runs.sA 2 [.code (C_32 3848),.inLoop (C_32 3848),.inBlock 4,.code (C_32 963),.inBlock 1,.inLoop (C_32 120),.inBlock 0,.code (C_32 31)] ?_
   exact Runs.sW hE _ [] (kp [0,1,9,10]) (kq [0]) 1 [] trivial (ih (w64 (j2 - 1)) _ h E hE)
  ·have h:=condF h hq3
   refine Runs.sA 3 [.code (C_32 3852),.code (C_32 3853),.code (C_32 1927),.inBlock 1,.inLoop (C_32 120),.inBlock 0,.code (C_32 31)] ?_
   refine Runs.sR hE ⟨[(0,(.os 0 0 cap02.length)),(1,(aI a)),(9,(aI i2)),(10,(aI j2)),(64,(aB (decide (i2 > j2))))],[(0,aO 1 cI 0 cap02)],273⟩ (C_32 3852) [] [] (kp [0,1,9,10,64]) (kq [0]) 273 [] trivial ?_
   refine Runs.sC 64 (C_32 7706) (C_32 7707) (decide (i2 > j2)) (fun hq4=>?_) (fun hq4=>?_)
   ·have h:=condT h hq4
    refine Runs.sA 2 [.code (C_32 62),.code (C_32 63)] ?_
    refine Runs.sR hE ⟨[(8,(aI i2))],[(0,aO 1 cI 0 cap02)],305⟩ (C_32 62) [] [] (kp [8]) (kq [0]) 305 [] trivial ?_
    obtain rfl:=Option.some.inj h
    refine Runs.sW hE ⟨[(8,(aI i2))],[(0,aO 1 cI 0 cap02)],305⟩ [] (kp [8]) (kq [0]) 305 [] trivial ?_
    exact Runs.sT Try.f91 [] [] trivial
   ·have h:=condF h hq4
    refine Runs.sA 2 [.code (C_32 3854),.code (C_32 3855),.inBlock 1,.inLoop (C_32 120),.inBlock 0,.code (C_32 31)] ?_
    obtain ⟨c7,h⟩:=ifSome h
    obtain ⟨c8,h⟩:=ifSome h
    refine Runs.sR hE ⟨[(0,(.os 0 0 (((cap02.set ((i2).toNat) (cap02.getD ((j2).toNat) 0)).set ((j2).toNat) (cap02.getD ((i2).toNat) 0)).length))),(1,(aI a)),(9,(aI i2)),(10,(aI j2))],[(0,aO 1 cI 0 ((cap02.set ((i2).toNat) (cap02.getD ((j2).toNat) 0)).set ((j2).toNat) (cap02.getD ((i2).toNat) 0)))],529⟩ (C_32 3854) [] [] ([(0,.osl (((cap02.set ((i2).toNat) (cap02.getD ((j2).toNat) 0)).set ((j2).toNat) (cap02.getD ((i2).toNat) 0)).length))] ++ kp [1,9,10]) [(0,.arr 0 (((cap02.set ((i2).toNat) (cap02.getD ((j2).toNat) 0)).set ((j2).toNat) (cap02.getD ((i2).toNat) 0)).length) (fun zi=>cI (((cap02.set ((i2).toNat) (cap02.getD ((j2).toNat) 0)).set ((j2).toNat) (cap02.getD ((i2).toNat) 0)).getD zi 0)))] 529 [0≤j2∧j2 < ((cap02.length:Nat):Int),(j2).toNat < cap02.length,0≤i2∧i2 < ((cap02.length:Nat):Int),(i2).toNat < cap02.length,0≤i2∧i2 < ((cap02.length:Nat):Int),(i2).toNat < cap02.length,0≤j2∧j2 < ((cap02.length:Nat):Int),(j2).toNat < cap02.length,cap02.length=((cap02.set ((i2).toNat) (cap02.getD ((j2).toNat) 0)).set ((j2).toNat) (cap02.getD ((i2).toNat) 0)).length,cap02.length=((cap02.set ((i2).toNat) (cap02.getD ((j2).toNat) 0)).set ((j2).toNat) (cap02.getD ((i2).toNat) 0)).length,∀ zi,zi < ((cap02.set ((i2).toNat) (cap02.getD ((j2).toNat) 0)).set ((j2).toNat) (cap02.getD ((i2).toNat) 0)).length→(fun zi=>cI (((cap02.set ((i2).toNat) (cap02.getD ((j2).toNat) 0)).set ((j2).toNat) (cap02.getD ((i2).toNat) 0)).getD zi 0)) zi=((fun zm=>if zm=(j2).toNat then [(aI (cap02.getD ((i2).toNat) 0))] else ((fun zm=>if zm=(i2).toNat then [(aI (cap02.getD ((j2).toNat) 0))] else (fun zi=>cI (cap02.getD zi 0)) zm)) zm)) zi] ⟨c7,(ltOf c7),c8,(ltOf c8),c8,(ltOf c8),c7,(ltOf c7),(len_set_raw (len_set_raw rfl)),(len_set_raw (len_set_raw rfl)),(get_set_raw cI 0 (cap02.set ((i2).toNat) (cap02.getD ((j2).toNat) 0)) ((j2).toNat) (cap02.getD ((i2).toNat) 0) (get_set_raw cI 0 cap02 ((i2).toNat) (cap02.getD ((j2).toNat) 0) (fun _ _=>rfl))),trivial⟩ ?_
    refine Runs.sA 1 [.code (C_32 7710),.code (C_32 7711),.inBlock 1,.inLoop (C_32 120),.inBlock 0,.code (C_32 31)] ?_
    refine Runs.sR hE ⟨[(0,(.os 0 0 (((cap02.set ((i2).toNat) (cap02.getD ((j2).toNat) 0)).set ((j2).toNat) (cap02.getD ((i2).toNat) 0)).length))),(1,(aI a)),(9,(aI (w64 (i2+1)))),(10,(aI j2))],[(0,aO 1 cI 0 ((cap02.set ((i2).toNat) (cap02.getD ((j2).toNat) 0)).set ((j2).toNat) (cap02.getD ((i2).toNat) 0)))],577⟩ (C_32 7710) [] [] (kp [0,1,9,10]) (kq [0]) 577 [] trivial ?_
    refine Runs.sR hE ⟨[(0,(.os 0 0 (((cap02.set ((i2).toNat) (cap02.getD ((j2).toNat) 0)).set ((j2).toNat) (cap02.getD ((i2).toNat) 0)).length))),(1,(aI a)),(9,(aI (w64 (i2+1)))),(10,(aI (w64 (j2 - 1))))],[(0,aO 1 cI 0 ((cap02.set ((i2).toNat) (cap02.getD ((j2).toNat) 0)).set ((j2).toNat) (cap02.getD ((i2).toNat) 0)))],625⟩ (C_32 7711) [] [] (kp [0,1,9,10]) (kq [0]) 625 [] trivial ?_
    refine Runs.sA 2 [.code (C_32 120),.inLoop (C_32 120),.inBlock 0,.code (C_32 31)] ?_
    exact Runs.sW hE _ [] (kp [0,1,9,10]) (kq [0]) 1 [] trivial (hK_g_slices_partitionEqualOrdered_int_L1 ((cap02.set ((i2).toNat) (cap02.getD ((j2).toNat) 0)).set ((j2).toNat) (cap02.getD ((i2).toNat) 0)) (w64 (i2+1)) (w64 (j2 - 1)) _ h E hE)
theorem g_slices_partitionEqualOrdered_int_L2_ok (N:Nat) (a:Int) (cap02:List Int) (j:Int) (K_g_slices_partitionEqualOrdered_int_L1:(List Int)→Int→Int→Option (Int×(List Int)))
  (hK_g_slices_partitionEqualOrdered_int_L1:∀ (cap02:List Int) (i:Int) (j:Int) (r:Int×(List Int)),K_g_slices_partitionEqualOrdered_int_L1 cap02 i j=some r→∀ E,EnvOk E 1→Runs Try.prog E 91 84 (SPost E [(0,aO 1 cI 0 r.2)] (aI r.1)) [.code (C_32 120),.inLoop (C_32 120),.inBlock 0,.code (C_32 31)] ⟨[(0,(.os 0 0 cap02.length)),(1,(aI a)),(9,(aI i)),(10,(aI j))],[(0,aO 1 cI 0 cap02)],1⟩) (fuel:Nat):∀ (i2:Int) (r:Int×(List Int)),g_slices_partitionEqualOrdered_int_L2 N a cap02 j K_g_slices_partitionEqualOrdered_int_L1 fuel i2=some r→∀ E,EnvOk E 1→Runs Try.prog E 91 84 (SPost E [(0,aO 1 cI 0 r.2)] (aI r.1)) [.code (C_32 1920),.inLoop (C_32 1920),.inBlock 2,.code (C_32 481),.inBlock 1,.inLoop (C_32 120),.inBlock 0,.code (C_32 31)] ⟨[(0,(.os 0 0 cap02.length)),(1,(aI a)),(9,(aI i2)),(10,(aI j))],[(0,aO 1 cI 0 cap02)],1⟩:=by
 induction fuel with
 | zero=>intro _ r h;rw [g_slices_partitionEqualOrdered_int_L2.eq_1] at h;cases h
 | succ fuel ih =>
  intro i2 r h E hE
  rw [g_slices_partitionEqualOrdered_int_L2.eq_2] at h
  refine Runs.sA 2 [.code (C_32 7680),.code (C_32 7681),.code (C_32 3841),.inLoop (C_32 1920),.inBlock 2,.code (C_32 481),.inBlock 1,.inLoop (C_32 120),.inBlock 0,.code (C_32 31)] ?_
  obtain ⟨c3,h⟩:=ifSome h
  obtain ⟨c4,h⟩:=ifSome h
  obtain ⟨rLess,hr,h⟩:=bindSome h
  refine Runs.sR hE ⟨[(0,(.os 0 0 cap02.length)),(1,(aI a)),(9,(aI i2)),(10,(aI j)),(43,(aB (cond (decide (i2≤j)) (!rLess) false)))],[(0,aO 1 cI 0 cap02)],241⟩ (C_32 7680) [(12,⟨[],true,(aB rLess),[],0,false,none⟩)] [] (kp [0,1,9,10,43]) (kq [0]) 241 [(decide (i2≤j))=true→AllP [(decide (i2≤j))=true,(decide (i2≤j))=true,0≤a∧a < ((cap02.length:Nat):Int)],(decide (i2≤j))=true→AllP [(decide (i2≤j))=true,(a).toNat < cap02.length],(decide (i2≤j))=true→AllP [(decide (i2≤j))=true,(decide (i2≤j))=true,0≤i2∧i2 < ((cap02.length:Nat):Int)],(decide (i2≤j))=true→AllP [(decide (i2≤j))=true,(i2).toNat < cap02.length],(decide (i2≤j))=true→AllP [Sound Try.prog 90 [(aI (cap02.getD ((a).toNat) 0)),(aI (cap02.getD ((i2).toNat) 0))] [] 0 (aB rLess) [],(decide (i2≤j))=true,(decide (i2≤j))=true],(decide (i2≤j))=true→AllP [(decide (i2≤j))=true],(decide (i2≤j))=true→AllP [(decide (i2≤j))=true]] ⟨(fun hg=>⟨hg,hg,(c3 hg),trivial⟩),(fun hg=>⟨hg,(ltOf (c3 hg)),trivial⟩),(fun hg=>⟨hg,hg,(c4 hg),trivial⟩),(fun hg=>⟨hg,(ltOf (c4 hg)),trivial⟩),(fun hg=>⟨(g_cmp_Less_int_ok N (cap02.getD ((a).toNat) 0) (cap02.getD ((i2).toNat) 0) rLess (condT hr hg)),hg,hg,trivial⟩),(fun hg=>⟨hg,trivial⟩),(fun hq=>⟨hq,trivial⟩),trivial⟩ ?_
  refine Runs.sC 43 (C_32 15362) (C_32 15363) (cond (decide (i2≤j)) (!rLess) false) (fun hq2=>?_) (fun hq2=>?_)
  ·have h:=condT h hq2
   refine Runs.sA 2 [.code (C_32 7682),.inBlock 3,.inLoop (C_32 1920),.inBlock 2,.code (C_32 481),.inBlock 1,.inLoop (C_32 120),.inBlock 0,.code (C_32 31)] ?_
   refine Runs.sR hE ⟨[(0,(.os 0 0 cap02.length)),(1,(aI a)),(9,(aI (w64 (i2+1)))),(10,(aI j))],[(0,aO 1 cI 0 cap02)],289⟩ (C_32 7682) [] [] (kp [0,1,9,10]) (kq [0]) 289 [] trivial ?_
   refine Runs.sA 2 [.code (C_32 1920),.inLoop (C_32 1920),.inBlock 2,.code (C_32 481),.inBlock 1,.inLoop (C_32 120),.inBlock 0,.code (C_32 31)] ?_
   exact Runs.sW hE _ [] (kp [0,1,9,10]) (kq [0]) 1 [] trivial (ih (w64 (i2+1)) _ h E hE)
  ·have h:=condF h hq2
   refine Runs.sA 4 [.code (C_32 3848),.inLoop (C_32 3848),.inBlock 4,.code (C_32 963),.inBlock 1,.inLoop (C_32 120),.inBlock 0,.code (C_32 31)] ?_
   exact Runs.sW hE _ [] (kp [0,1,9,10]) (kq [0]) 1 [] trivial (g_slices_partitionEqualOrdered_int_L3_ok N a cap02 i2 K_g_slices_partitionEqualOrdered_int_L1 hK_g_slices_partitionEqualOrdered_int_L1 N j _ h E hE)
theorem g_slices_partitionEqualOrdered_int_L1_ok (N:Nat) (a:Int) (fuel:Nat):∀ (cap02:List Int) (i:Int) (j:Int) (r:Int×(List Int)),g_slices_partitionEqualOrdered_int_L1 N a fuel cap02 i j=some r→∀ E,EnvOk E 1→Runs Try.prog E 91 84 (SPost E [(0,aO 1 cI 0 r.2)] (aI r.1)) [.code (C_32 120),.inLoop (C_32 120),.inBlock 0,.code (C_32 31)] ⟨[(0,(.os 0 0 cap02.length)),(1,(aI a)),(9,(aI i)),(10,(aI j))],[(0,aO 1 cI 0 cap02)],1⟩:=by
 induction fuel with
 | zero=>intro _ _ _ r h;rw [g_slices_partitionEqualOrdered_int_L1.eq_1] at h;cases h
 | succ fuel ih =>
  intro cap02 i j r h E hE
  rw [g_slices_partitionEqualOrdered_int_L1.eq_2] at h
  refine Runs.sA 4 [.code (C_32 1920),.inLoop (C_32 1920),.inBlock 2,.code (C_32 481),.inBlock 1,.inLoop (C_32 120),.inBlock 0,.code (C_32 31)] ?_
  exact Runs.sW hE _ [] (kp [0,1,9,10]) (kq [0]) 1 [] trivial (g_slices_partitionEqualOrdered_int_L2_ok N a cap02 j (g_slices_partitionEqualOrdered_int_L1 N a fuel) ih N i _ h E hE)
theorem g_slices_partitionEqualOrdered_int_ok (N:Nat) (a:Int) (b:Int) (pivot:Int) (cap0:List Int) (r:Int×(List Int)) (h:g_slices_partitionEqualOrdered_int N a b pivot cap0=some r):Sound Try.prog 91 [(.os 0 0 cap0.length),(aI a),(aI b),(aI pivot)] [(0,aO 1 cI 0 cap0)] 1 (aI r.1) [(0,aO 1 cI 0 r.2)]:=by
 unfold g_slices_partitionEqualOrdered_int at h
 refine Sound.of_runs (fu:=Try.f91) (c:=C_32 1) (nt:=84) (by kernel_rfl) (by kernel_rfl) (by kernel_rfl) (by kernel_rfl) (fun hm=>absurd hm (by decide)) ?_
 intro E hE
 refine Runs.sA 1 [.code (C_32 2),.code (C_32 3)] ?_
 refine Runs.sR hE ⟨[(0,(.os 0 0 cap0.length)),(1,(aI a)),(2,(aI b)),(3,(aI pivot))],[(0,aO 1 cI 0 cap0)],17⟩ (C_32 2) [] [] (kp [0,1,2,3]) (kq [0]) 17 [] trivial ?_
 refine Runs.sA 1 [.code (C_32 6),.code (C_32 7)] ?_
 obtain ⟨c,h⟩:=ifSome h
 obtain ⟨c2,h⟩:=ifSome h
 refine Runs.sR hE ⟨[(0,(.os 0 0 (((cap0.set ((a).toNat) (cap0.getD ((pivot).toNat) 0)).set ((pivot).toNat) (cap0.getD ((a).toNat) 0)).length))),(1,(aI a)),(2,(aI b))],[(0,aO 1 cI 0 ((cap0.set ((a).toNat) (cap0.getD ((pivot).toNat) 0)).set ((pivot).toNat) (cap0.getD ((a).toNat) 0)))],273⟩ (C_32 6) [] [] ([(0,.osl (((cap0.set ((a).toNat) (cap0.getD ((pivot).toNat) 0)).set ((pivot).toNat) (cap0.getD ((a).toNat) 0)).length))] ++ kp [1,2]) [(0,.arr 0 (((cap0.set ((a).toNat) (cap0.getD ((pivot).toNat) 0)).set ((pivot).toNat) (cap0.getD ((a).toNat) 0)).length) (fun zi=>cI (((cap0.set ((a).toNat) (cap0.getD ((pivot).toNat) 0)).set ((pivot).toNat) (cap0.getD ((a).toNat) 0)).getD zi 0)))] 273 [0≤pivot∧pivot < ((cap0.length:Nat):Int),(pivot).toNat < cap0.length,0≤a∧a < ((cap0.length:Nat):Int),(a).toNat < cap0.length,0≤a∧a < ((cap0.length:Nat):Int),(a).toNat < cap0.length,0≤pivot∧pivot < ((cap0.length:Nat):Int),(pivot).toNat < cap0.length,cap0.length=((cap0.set ((a).toNat) (cap0.getD ((pivot).toNat) 0)).set ((pivot).toNat) (cap0.getD ((a).toNat) 0)).length,cap0.length=((cap0.set ((a).toNat) (cap0.getD ((pivot).toNat) 0)).set ((pivot).toNat) (cap0.getD ((a).toNat) 0)).length,∀ zi,zi < ((cap0.set ((a).toNat) (cap0.getD ((pivot).toNat) 0)).set ((pivot).toNat) (cap0.getD ((a).toNat) 0)).length→(fun zi=>cI (((cap0.set ((a).toNat) (cap0.getD ((pivot).toNat) 0)).set ((pivot).toNat) (cap0.getD ((a).toNat) 0)).getD zi 0)) zi=((fun zm=>if zm=(pivot).toNat then [(aI (cap0.getD ((a).toNat) 0))] else ((fun zm=>if zm=(a).toNat then [(aI (cap0.getD ((pivot).toNat) 0))] else (fun zi=>cI (cap0.getD zi 0)) zm)) zm)) zi] ⟨c,(ltOf c),c2,(ltOf c2),c2,(ltOf c2),c,(ltOf c),(len_set_raw (len_set_raw rfl)),(len_set_raw (len_set_raw rfl)),(get_set_raw cI 0 (cap0.set ((a).toNat) (cap0.getD ((pivot).toNat) 0)) ((pivot).toNat) (cap0.getD ((a).toNat) 0) (get_set_raw cI 0 cap0 ((a).toNat) (cap0.getD ((pivot).toNat) 0) (fun _ _=>rfl))),trivial⟩ ?_
 refine Runs.sA 1 [.code (C_32 14),.code (C_32 15)] ?_
 refine Runs.sR hE ⟨[(0,(.os 0 0 (((cap0.set ((a).toNat) (cap0.getD ((pivot).toNat) 0)).set ((pivot).toNat) (cap0.getD ((a).toNat) 0)).length))),(1,(aI a)),(9,(aI (w64 (a+1)))),(10,(aI (w64 (b - 1))))],[(0,aO 1 cI 0 ((cap0.set ((a).toNat) (cap0.getD ((pivot).toNat) 0)).set ((pivot).toNat) (cap0.getD ((a).toNat) 0)))],369⟩ (C_32 14) [] [] (kp [0,1,9,10]) (kq [0]) 369 [] trivial ?_
 refine Runs.sA 3 [.code (C_32 120),.inLoop (C_32 120),.inBlock 0,.code (C_32 31)] ?_
 exact Runs.sW hE _ [] (kp [0,1,9,10]) (kq [0]) 1 [] trivial (g_slices_partitionEqualOrdered_int_L1_ok N a N ((cap0.set ((a).toNat) (cap0.getD ((pivot).toNat) 0)).set ((pivot).toNat) (cap0.getD ((a).toNat) 0)) (w64 (a+1)) (w64 (b - 1)) _ h E hE)
noncomputable def C_33 (n:Nat):Code:=cat (bodyOf Try.f92) (pth n)
theorem g_slices_partitionOrdered_int_L5_ok (N:Nat) (a:Int) (cap02:List Int) (i3:Int) (K_g_slices_partitionOrdered_int_L3:(List Int)→Int→Int→Option (Int×Bool×(List Int)))
  (hK_g_slices_partitionOrdered_int_L3:∀ (cap02:List Int) (i2:Int) (j2:Int) (r:Int×Bool×(List Int)),K_g_slices_partitionOrdered_int_L3 cap02 i2 j2=some r→∀ E,EnvOk E 1→Runs Try.prog E 92 168 (SPost E [(0,aO 1 cI 0 r.2.2)] (.tup [(aI r.1),(aB r.2.1)])) [.code (C_33 8184),.inLoop (C_33 8184),.inBlock 4,.code (C_33 2047)] ⟨[(0,(.os 0 0 cap02.length)),(1,(aI a)),(10,(aI i2)),(11,(aI j2))],[(0,aO 1 cI 0 cap02)],1⟩) (fuel:Nat):∀ (j3:Int) (r:Int×Bool×(List Int)),g_slices_partitionOrdered_int_L5 N a cap02 i3 K_g_slices_partitionOrdered_int_L3 fuel j3=some r→∀ E,EnvOk E 1→Runs Try.prog E 92 168 (SPost E [(0,aO 1 cI 0 r.2.2)] (.tup [(aI r.1),(aB r.2.1)])) [.code (C_33 261896),.inLoop (C_33 261896),.inBlock 8,.code (C_33 65475),.inBlock 5,.inLoop (C_33 8184),.inBlock 4,.code (C_33 2047)] ⟨[(0,(.os 0 0 cap02.length)),(1,(aI a)),(10,(aI i3)),(11,(aI j3))],[(0,aO 1 cI 0 cap02)],1⟩:=by
 induction fuel with
 | zero=>intro _ r h;rw [g_slices_partitionOrdered_int_L5.eq_1] at h;cases h
 | succ fuel ih =>
  intro j3 r h E hE
  rw [g_slices_partitionOrdered_int_L5.eq_2] at h
  refine Runs.sA 2 [.code (C_33 1047584),.code (C_33 1047585),.code (C_33 523793),.inLoop (C_33 261896),.inBlock 8,.code (C_33 65475),.inBlock 5,.inLoop (C_33 8184),.inBlock 4,.code (C_33 2047)] ?_
  obtain ⟨c13,h⟩:=ifSome h
  obtain ⟨c14,h⟩:=ifSome h
  obtain ⟨rLess4,hr4,h⟩:=bindSome h
  refine Runs.sR hE ⟨[(0,(.os 0 0 cap02.length)),(1,(aI a)),(10,(aI i3)),(11,(aI j3)),(129,(aB (cond (decide (i3≤j3)) (!rLess4) false)))],[(0,aO 1 cI 0 cap02)],241⟩ (C_33 1047584) [(12,⟨[],true,(aB rLess4),[],0,false,none⟩)] [] (kp [0,1,10,11,129]) (kq [0]) 241 [(decide (i3≤j3))=true→AllP [(decide (i3≤j3))=true,(decide (i3≤j3))=true,0≤j3∧j3 < ((cap02.length:Nat):Int)],(decide (i3≤j3))=true→AllP [(decide (i3≤j3))=true,(j3).toNat < cap02.length],(decide (i3≤j3))=true→AllP [(decide (i3≤j3))=true,(decide (i3≤j3))=true,0≤a∧a < ((cap02.length:Nat):Int)],(decide (i3≤j3))=true→AllP [(decide (i3≤j3))=true,(a).toNat < cap02.length],(decide (i3≤j3))=true→AllP [Sound Try.prog 90 [(aI (cap02.getD ((j3).toNat) 0)),(aI (cap02.getD ((a).toNat) 0))] [] 0 (aB rLess4) [],(decide (i3≤j3))=true,(decide (i3≤j3))=true],(decide (i3≤j3))=true→AllP [(decide (i3≤j3))=true],(decide (i3≤j3))=true→AllP [(decide (i3≤j3))=true]] ⟨(fun hg=>⟨hg,hg,(c13 hg),trivial⟩),(fun hg=>⟨hg,(ltOf (c13 hg)),trivial⟩),(fun hg=>⟨hg,hg,(c14 hg),trivial⟩),(fun hg=>⟨hg,(ltOf (c14 hg)),trivial⟩),(fun hg=>⟨(g_cmp_Less_int_ok N (cap02.getD ((j3).toNat) 0) (cap02.getD ((a).toNat) 0) rLess4 (condT hr4 hg)),hg,hg,trivial⟩),(fun hg=>⟨hg,trivial⟩),(fun hq=>⟨hq,trivial⟩),trivial⟩ ?_
  refine Runs.sC 129 (C_33 2095170) (C_33 2095171) (cond (decide (i3≤j3)) (!rLess4) false) (fun hq6=>?_) (fun hq6=>?_)
  ·have h:=condT h hq6
   refine Runs.sA 2 [.code (C_33 1047586),.inBlock 9,.inLoop (C_33 261896),.inBlock 8,.code (C_33 65475),.inBlock 5,.inLoop (C_33 8184),.inBlock 4,.code (C_33 2047)] ?_
   refine Runs.sR hE ⟨[(0,(.os 0 0 cap02.length)),(1,(aI a)),(10,(aI i3)),(11,(aI (w64 (j3 - 1))))],[(0,aO 1 cI 0 cap02)],289⟩ (C_33 1047586) [] [] (kp [0,1,10,11]) (kq [0]) 289 [] trivial ?_
   refine Runs.sA 2 [.code (C_33 261896),.inLoop (C_33 261896),.inBlock 8,.code (C_33 65475),.inBlock 5,.inLoop (C_33 8184),.inBlock 4,.code (C_33 2047)] ?_
   exact Runs.sW hE _ [] (kp [0,1,10,11]) (kq [0]) 1 [] trivial (ih (w64 (j3 - 1)) _ h E hE)
  ·have h:=condF h hq6
   refine Runs.sA 3 [.code (C_33 261900),.code (C_33 261901),.code (C_33 130951),.inBlock 5,.inLoop (C_33 8184),.inBlock 4,.code (C_33 2047)] ?_
   refine Runs.sR hE ⟨[(0,(.os 0 0 cap02.length)),(1,(aI a)),(10,(aI i3)),(11,(aI j3)),(134,(aB (decide (i3 > j3))))],[(0,aO 1 cI 0 cap02)],289⟩ (C_33 261900) [] [] (kp [0,1,10,11,134]) (kq [0]) 289 [] trivial ?_
   refine Runs.sC 134 (C_33 523802) (C_33 523803) (decide (i3 > j3)) (fun hq7=>?_) (fun hq7=>?_)
   ·have h:=condT h hq7
    refine Runs.sA 2 [.code (C_33 4094),.code (C_33 4095)] ?_
    obtain ⟨c15,h⟩:=ifSome h
    obtain ⟨c16,h⟩:=ifSome h
    refine Runs.sR hE ⟨[(11,(aI j3))],[(0,aO 1 cI 0 ((cap02.set ((j3).toNat) (cap02.getD ((a).toNat) 0)).set ((a).toNat) (cap02.getD ((j3).toNat) 0)))],545⟩ (C_33 4094) [] [] (kp [11]) [(0,.arr 0 (((cap02.set ((j3).toNat) (cap02.getD ((a).toNat) 0)).set ((a).toNat) (cap02.getD ((j3).toNat) 0)).length) (fun zi=>cI (((cap02.set ((j3).toNat) (cap02.getD ((a).toNat) 0)).set ((a).toNat) (cap02.getD ((j3).toNat) 0)).getD zi 0)))] 545 [0≤a∧a < ((cap02.length:Nat):Int),(a).toNat < cap02.length,0≤j3∧j3 < ((cap02.length:Nat):Int),(j3).toNat < cap02.length,0≤j3∧j3 < ((cap02.length:Nat):Int),(j3).toNat < cap02.length,0≤a∧a < ((cap02.length:Nat):Int),(a).toNat < cap02.length,cap02.length=((cap02.set ((j3).toNat) (cap02.getD ((a).toNat) 0)).set ((a).toNat) (cap02.getD ((j3).toNat) 0)).length,∀ zi,zi < ((cap02.set ((j3).toNat) (cap02.getD ((a).toNat) 0)).set ((a).toNat) (cap02.getD ((j3).toNat) 0)).length→(fun zi=>cI (((cap02.set ((j3).toNat) (cap02.getD ((a).toNat) 0)).set ((a).toNat) (cap02.getD ((j3).toNat) 0)).getD zi 0)) zi=((fun zm=>if zm=(a).toNat then [(aI (cap02.getD ((j3).toNat) 0))] else ((fun zm=>if zm=(j3).toNat then [(aI (cap02.getD ((a).toNat) 0))] else (fun zi=>cI (cap02.getD zi 0)) zm)) zm)) zi] ⟨c15,(ltOf c15),c16,(ltOf c16),c16,(ltOf c16),c15,(ltOf c15),(len_set_raw (len_set_raw rfl)),(get_set_raw cI 0 (cap02.set ((j3).toNat) (cap02.getD ((a).toNat) 0)) ((a).toNat) (cap02.getD ((j3).toNat) 0) (get_set_raw cI 0 cap02 ((j3).toNat) (cap02.getD ((a).toNat) 0) (fun _ _=>rfl))),trivial⟩ ?_
    refine Runs.sA 1 [.code (C_33 8190),.code (C_33 8191)] ?_
    refine Runs.sR hE ⟨[(8,(aI j3)),(9,(aB false))],[(0,aO 1 cI 0 ((cap02.set ((j3).toNat) (cap02.getD ((a).toNat) 0)).set ((a).toNat) (cap02.getD ((j3).toNat) 0)))],593⟩ (C_33 8190) [] [] (kp [8,9]) (kq [0]) 593 [] trivial ?_
    obtain rfl:=Option.some.inj h
    refine Runs.sW hE ⟨[(8,(aI j3)),(9,(aB false))],[(0,aO 1 cI 0 ((cap02.set ((j3).toNat) (cap02.getD ((a).toNat) 0)).set ((a).toNat) (cap02.getD ((j3).toNat) 0)))],593⟩ [] (kp [8,9]) (kq [0]) 593 [] trivial ?_
    exact Runs.sT Try.f92 [] [] trivial
   ·have h:=condF h hq7
    refine Runs.sA 2 [.code (C_33 261902),.code (C_33 261903),.inBlock 5,.inLoop (C_33 8184),.inBlock 4,.code (C_33 2047)] ?_
    obtain ⟨c17,h⟩:=ifSome h
    obtain ⟨c18,h⟩:=ifSome h
    refine Runs.sR hE ⟨[(0,(.os 0 0 (((cap02.set ((i3).toNat) (cap02.getD ((j3).toNat) 0)).set ((j3).toNat) (cap02.getD ((i3).toNat) 0)).length))),(1,(aI a)),(10,(aI i3)),(11,(aI j3))],[(0,aO 1 cI 0 ((cap02.set ((i3).toNat) (cap02.getD ((j3).toNat) 0)).set ((j3).toNat) (cap02.getD ((i3).toNat) 0)))],545⟩ (C_33 261902) [] [] ([(0,.osl (((cap02.set ((i3).toNat) (cap02.getD ((j3).toNat) 0)).set ((j3).toNat) (cap02.getD ((i3).toNat) 0)).length))] ++ kp [1,10,11]) [(0,.arr 0 (((cap02.set ((i3).toNat) (cap02.getD ((j3).toNat) 0)).set ((j3).toNat) (cap02.getD ((i3).toNat) 0)).length) (fun zi=>cI (((cap02.set ((i3).toNat) (cap02.getD ((j3).toNat) 0)).set ((j3).toNat) (cap02.getD ((i3).toNat) 0)).getD zi 0)))] 545 [0≤j3∧j3 < ((cap02.length:Nat):Int),(j3).toNat < cap02.length,0≤i3∧i3 < ((cap02.length:Nat):Int),(i3).toNat < cap02.length,0≤i3∧i3 < ((cap02.length:Nat):Int),(i3).toNat < cap02.length,0≤j3∧j3 < ((cap02.length:Nat):Int),(j3).toNat < cap02.length,cap02.length=((cap02.set ((i3).toNat) (cap02.getD ((j3).toNat) 0)).set ((j3).toNat) (cap02.getD ((i3).toNat) 0)).length,cap02.length=((cap02.set ((i3).toNat) (cap02.getD ((j3).toNat) 0)).set ((j3).toNat) (cap02.getD ((i3).toNat) 0)).length,∀ zi,zi < ((cap02.set ((i3).toNat) (cap02.getD ((j3).toNat) 0)).set ((j3).toNat) (cap02.getD ((i3).toNat) 0)).length→(fun zi=>cI (((cap02.set ((i3).toNat) (cap02.getD ((j3).toNat) 0)).set ((j3).toNat) (cap02.getD ((i3).toNat) 0)).getD zi 0)) zi=((fun zm=>if zm=(j3).toNat then [(aI (cap02.getD ((i3).toNat) 0))] else ((fun zm=>if zm=(i3).toNat then [(aI (cap02.getD ((j3).toNat) 0))] else (fun zi=>cI (cap02.getD zi 0)) zm)) zm)) zi] ⟨c17,(ltOf c17),c18,(ltOf c18),c18,(ltOf c18),c17,(ltOf c17),(len_set_raw (len_set_raw rfl)),(len_set_raw (len_set_raw rfl)),(get_set_raw cI 0 (cap02.set ((i3).toNat) (cap02.getD ((j3).toNat) 0)) ((j3).toNat) (cap02.getD ((i3).toNat) 0) (get_set_raw cI 0 cap02 ((i3).toNat) (cap02.getD ((j3).toNat) 0) (fun _ _=>rfl))),trivial⟩ ?_
    refine Runs.sA 1 [.code (C_33 523806),.code (C_33 523807),.inBlock 5,.inLoop (C_33 8184),.inBlock 4,.code (C_33 2047)] ?_
    refine Runs.sR hE ⟨[(0,(.os 0 0 (((cap02.set ((i3).toNat) (cap02.getD ((j3).toNat) 0)).set ((j3).toNat) (cap02.getD ((i3).toNat) 0)).length))),(1,(aI a)),(10,(aI (w64 (i3+1)))),(11,(aI j3))],[(0,aO 1 cI 0 ((cap02.set ((i3).toNat) (cap02.getD ((j3).toNat) 0)).set ((j3).toNat) (cap02.getD ((i3).toNat) 0)))],593⟩ (C_33 523806) [] [] (kp [0,1,10,11]) (kq [0]) 593 [] trivial ?_
    refine Runs.sR hE ⟨[(0,(.os 0 0 (((cap02.set ((i3).toNat) (cap02.getD ((j3).toNat) 0)).set ((j3).toNat) (cap02.getD ((i3).toNat) 0)).length))),(1,(aI a)),(10,(aI (w64 (i3+1)))),(11,(aI (w64 (j3 - 1))))],[(0,aO 1 cI 0 ((cap02.set ((i3).toNat) (cap02.getD ((j3).toNat) 0)).set ((j3).toNat) (cap02.getD ((i3).toNat) 0)))],641⟩ (C_33 523807) [] [] (kp [0,1,10,11]) (kq [0]) 641 [] trivial ?_
    refine Runs.sA 2 [.code (C_33 8184),.inLoop (C_33 8184),.inBlock 4,.code (C_33 2047)] ?_
    exact Runs.sW hE _ [] (kp [0,1,10,11]) (kq [0]) 1 [] trivial (hK_g_slices_partitionOrdered_int_L3 ((cap02.set ((i3).toNat) (cap02.getD ((j3).toNat) 0)).set ((j3).toNat) (cap02.getD ((i3).toNat) 0)) (w64 (i3+1)) (w64 (j3 - 1)) _ h E hE)
theorem g_slices_partitionOrdered_int_L4_ok (N:Nat) (a:Int) (cap02:List Int) (j2:Int) (K_g_slices_partitionOrdered_int_L3:(List Int)→Int→Int→Option (Int×Bool×(List Int)))
  (hK_g_slices_partitionOrdered_int_L3:∀ (cap02:List Int) (i2:Int) (j2:Int) (r:Int×Bool×(List Int)),K_g_slices_partitionOrdered_int_L3 cap02 i2 j2=some r→∀ E,EnvOk E 1→Runs Try.prog E 92 168 (SPost E [(0,aO 1 cI 0 r.2.2)] (.tup [(aI r.1),(aB r.2.1)])) [.code (C_33 8184),.inLoop (C_33 8184),.inBlock 4,.code (C_33 2047)] ⟨[(0,(.os 0 0 cap02.length)),(1,(aI a)),(10,(aI i2)),(11,(aI j2))],[(0,aO 1 cI 0 cap02)],1⟩) (fuel:Nat):∀ (i3:Int) (r:Int×Bool×(List Int)),g_slices_partitionOrdered_int_L4 N a cap02 j2 K_g_slices_partitionOrdered_int_L3 fuel i3=some r→∀ E,EnvOk E 1→Runs Try.prog E 92 168 (SPost E [(0,aO 1 cI 0 r.2.2)] (.tup [(aI r.1),(aB r.2.1)])) [.code (C_33 130944),.inLoop (C_33 130944),.inBlock 6,.code (C_33 32737),.inBlock 5,.inLoop (C_33 8184),.inBlock 4,.code (C_33 2047)] ⟨[(0,(.os 0 0 cap02.length)),(1,(aI a)),(10,(aI i3)),(11,(aI j2))],[(0,aO 1 cI 0 cap02)],1⟩:=by
 induction fuel with
 | zero=>intro _ r h;rw [g_slices_partitionOrdered_int_L4.eq_1] at h;cases h
 | succ fuel ih =>
  intro i3 r h E hE
  rw [g_slices_partitionOrdered_int_L4.eq_2] at h
  refine Runs.sA 2 [.code (C_33 523776),.code (C_33 523777),.code (C_33 261889),.inLoop (C_33 130944),.inBlock 6,.code (C_33 32737),.inBlock 5,.inLoop (C_33 8184),.inBlock 4,.code (C_33 2047)] ?_
  obtain ⟨c11,h⟩:=ifSome h
  obtain ⟨c12,h⟩:=ifSome h
  obtain ⟨rLess3,hr3,h⟩:=bindSome h
  refine Runs.sR hE ⟨[(0,(.os 0 0 cap02.length)),(1,(aI a)),(10,(aI i3)),(11,(aI j2)),(112,(aB (cond (decide (i3≤j2)) rLess3 false)))],[(0,aO 1 cI 0 cap02)],225⟩ (C_33 523776) [(12,⟨[],true,(aB rLess3),[],0,false,none⟩)] [] (kp [0,1,10,11,112]) (kq [0]) 225 [(decide (i3≤j2))=true→AllP [(decide (i3≤j2))=true,(decide (i3≤j2))=true,0≤i3∧i3 < ((cap02.length:Nat):Int)],(decide (i3≤j2))=true→AllP [(decide (i3≤j2))=true,(i3).toNat < cap02.length],(decide (i3≤j2))=true→AllP [(decide (i3≤j2))=true,(decide (i3≤j2))=true,0≤a∧a < ((cap02.length:Nat):Int)],(decide (i3≤j2))=true→AllP [(decide (i3≤j2))=true,(a).toNat < cap02.length],(decide (i3≤j2))=true→AllP [Sound Try.prog 90 [(aI (cap02.getD ((i3).toNat) 0)),(aI (cap02.getD ((a).toNat) 0))] [] 0 (aB rLess3) [],(decide (i3≤j2))=true,(decide (i3≤j2))=true],(decide (i3≤j2))=true→AllP [(decide (i3≤j2))=true]] ⟨(fun hg=>⟨hg,hg,(c11 hg),trivial⟩),(fun hg=>⟨hg,(ltOf (c11 hg)),trivial⟩),(fun hg=>⟨hg,hg,(c12 hg),trivial⟩),(fun hg=>⟨hg,(ltOf (c12 hg)),trivial⟩),(fun hg=>⟨(g_cmp_Less_int_ok N (cap02.getD ((i3).toNat) 0) (cap02.getD ((a).toNat) 0) rLess3 (condT hr3 hg)),hg,hg,trivial⟩),(fun hq=>⟨hq,trivial⟩),trivial⟩ ?_
  refine Runs.sC 112 (C_33 1047554) (C_33 1047555) (cond (decide (i3≤j2)) rLess3 false) (fun hq5=>?_) (fun hq5=>?_)
  ·have h:=condT h hq5
   refine Runs.sA 2 [.code (C_33 523778),.inBlock 7,.inLoop (C_33 130944),.inBlock 6,.code (C_33 32737),.inBlock 5,.inLoop (C_33 8184),.inBlock 4,.code (C_33 2047)] ?_
   refine Runs.sR hE ⟨[(0,(.os 0 0 cap02.length)),(1,(aI a)),(10,(aI (w64 (i3+1)))),(11,(aI j2))],[(0,aO 1 cI 0 cap02)],273⟩ (C_33 523778) [] [] (kp [0,1,10,11]) (kq [0]) 273 [] trivial ?_
   refine Runs.sA 2 [.code (C_33 130944),.inLoop (C_33 130944),.inBlock 6,.code (C_33 32737),.inBlock 5,.inLoop (C_33 8184),.inBlock 4,.code (C_33 2047)] ?_
   exact Runs.sW hE _ [] (kp [0,1,10,11]) (kq [0]) 1 [] trivial (ih (w64 (i3+1)) _ h E hE)
  ·have h:=condF h hq5
   refine Runs.sA 4 [.code (C_33 261896),.inLoop (C_33 261896),.inBlock 8,.code (C_33 65475),.inBlock 5,.inLoop (C_33 8184),.inBlock 4,.code (C_33 2047)] ?_
   exact Runs.sW hE _ [] (kp [0,1,10,11]) (kq [0]) 1 [] trivial (g_slices_partitionOrdered_int_L5_ok N a cap02 i3 K_g_slices_partitionOrdered_int_L3 hK_g_slices_partitionOrdered_int_L3 N j2 _ h E hE)
theorem g_slices_partitionOrdered_int_L3_ok (N:Nat) (a:Int) (fuel:Nat):∀ (cap02:List Int) (i2:Int) (j2:Int) (r:Int×Bool×(List Int)),g_slices_partitionOrdered_int_L3 N a fuel cap02 i2 j2=some r→∀ E,EnvOk E 1→Runs Try.prog E 92 168 (SPost E [(0,aO 1 cI 0 r.2.2)] (.tup [(aI r.1),(aB r.2.1)])) [.code (C_33 8184),.inLoop (C_33 8184),.inBlock 4,.code (C_33 2047)] ⟨[(0,(.os 0 0 cap02.length)),(1,(aI a)),(10,(aI i2)),(11,(aI j2))],[(0,aO 1 cI 0 cap02)],1⟩:=by
 induction fuel with
 | zero=>intro _ _ _ r h;rw [g_slices_partitionOrdered_int_L3.eq_1] at h;cases h
 | succ fuel ih =>
  intro cap02 i2 j2 r h E hE
  rw [g_slices_partitionOrdered_int_L3.eq_2] at h
  refine Runs.sA 4 [.code (C_33 130944),.inLoop (C_33 130944),.inBlock 6,.code (C_33 32737),.inBlock 5,.inLoop (C_33 8184),.inBlock 4,.code (C_33 2047)] ?_
  exact Runs.sW hE _ [] (kp [0,1,10,11]) (kq [0]) 1 [] trivial (g_slices_partitionOrdered_int_L4_ok N a cap02 j2 (g_slices_partitionOrdered_int_L3 N a fuel) ih N i2 _ h E hE)
theorem g_slices_partitionOrdered_int_L2_ok (N:Nat) (a:Int) (pivot:Int) (cap0:List Int) (i:Int) (fuel:Nat):∀ (j:Int) (r:Int×Bool×(List Int)),g_slices_partitionOrdered_int_L2 N a pivot cap0 i fuel j=some r→∀ E,EnvOk E 1→Runs Try.prog E 92 168 (SPost E [(0,aO 1 cI 0 r.2.2)] (.tup [(aI r.1),(aB r.2.1)])) [.code (C_33 248),.inLoop (C_33 248),.inBlock 2,.code (C_33 63)] ⟨[(0,(.os 0 0 (((cap0.set ((a).toNat) (cap0.getD ((pivot).toNat) 0)).set ((pivot).toNat) (cap0.getD ((a).toNat) 0)).length))),(1,(aI a)),(10,(aI i)),(11,(aI j))],[(0,aO 1 cI 0 ((cap0.set ((a).toNat) (cap0.getD ((pivot).toNat) 0)).set ((pivot).toNat) (cap0.getD ((a).toNat) 0)))],1⟩:=by
 induction fuel with
 | zero=>intro _ r h;rw [g_slices_partitionOrdered_int_L2.eq_1] at h;cases h
 | succ fuel ih =>
  intro j r h E hE
  rw [g_slices_partitionOrdered_int_L2.eq_2] at h
  refine Runs.sA 2 [.code (C_33 992),.code (C_33 993),.code (C_33 497),.inLoop (C_33 248),.inBlock 2,.code (C_33 63)] ?_
  obtain ⟨c5,h⟩:=ifSome h
  obtain ⟨c6,h⟩:=ifSome h
  obtain ⟨rLess2,hr2,h⟩:=bindSome h
  refine Runs.sR hE ⟨[(0,(.os 0 0 (((cap0.set ((a).toNat) (cap0.getD ((pivot).toNat) 0)).set ((pivot).toNat) (cap0.getD ((a).toNat) 0)).length))),(1,(aI a)),(10,(aI i)),(11,(aI j)),(60,(aB (cond (decide (i≤j)) (!rLess2) false)))],[(0,aO 1 cI 0 ((cap0.set ((a).toNat) (cap0.getD ((pivot).toNat) 0)).set ((pivot).toNat) (cap0.getD ((a).toNat) 0)))],241⟩ (C_33 992) [(12,⟨[],true,(aB rLess2),[],0,false,none⟩)] [] (kp [0,1,10,11,60]) (kq [0]) 241 [(decide (i≤j))=true→AllP [(decide (i≤j))=true,(decide (i≤j))=true,0≤j∧j < ((((cap0.set ((a).toNat) (cap0.getD ((pivot).toNat) 0)).set ((pivot).toNat) (cap0.getD ((a).toNat) 0)).length:Nat):Int)],(decide (i≤j))=true→AllP [(decide (i≤j))=true,(j).toNat < ((cap0.set ((a).toNat) (cap0.getD ((pivot).toNat) 0)).set ((pivot).toNat) (cap0.getD ((a).toNat) 0)).length],(decide (i≤j))=true→AllP [(decide (i≤j))=true,(decide (i≤j))=true,0≤a∧a < ((((cap0.set ((a).toNat) (cap0.getD ((pivot).toNat) 0)).set ((pivot).toNat) (cap0.getD ((a).toNat) 0)).length:Nat):Int)],(decide (i≤j))=true→AllP [(decide (i≤j))=true,(a).toNat < ((cap0.set ((a).toNat) (cap0.getD ((pivot).toNat) 0)).set ((pivot).toNat) (cap0.getD ((a).toNat) 0)).length],(decide (i≤j))=true→AllP [Sound Try.prog 90 [(aI (((cap0.set ((a).toNat) (cap0.getD ((pivot).toNat) 0)).set ((pivot).toNat) (cap0.getD ((a).toNat) 0)).getD ((j).toNat) 0)),(aI (((cap0.set ((a).toNat) (cap0.getD ((pivot).toNat) 0)).set ((pivot).toNat) (cap0.getD ((a).toNat) 0)).getD ((a).toNat) 0))] [] 0 (aB rLess2) [],(decide (i≤j))=true,(decide (i≤j))=true],(decide (i≤j))=true→AllP [(decide (i≤j))=true],(decide (i≤j))=true→AllP [(decide (i≤j))=true]] ⟨(fun hg=>⟨hg,hg,(c5 hg),trivial⟩),(fun hg=>⟨hg,(ltOf (c5 hg)),trivial⟩),(fun hg=>⟨hg,hg,(c6 hg),trivial⟩),(fun hg=>⟨hg,(ltOf (c6 hg)),trivial⟩),(fun hg=>⟨(g_cmp_Less_int_ok N (((cap0.set ((a).toNat) (cap0.getD ((pivot).toNat) 0)).set ((pivot).toNat) (cap0.getD ((a).toNat) 0)).getD ((j).toNat) 0) (((cap0.set ((a).toNat) (cap0.getD ((pivot).toNat) 0)).set ((pivot).toNat) (cap0.getD ((a).toNat) 0)).getD ((a).toNat) 0) rLess2 (condT hr2 hg)),hg,hg,trivial⟩),(fun hg=>⟨hg,trivial⟩),(fun hq=>⟨hq,trivial⟩),trivial⟩ ?_
  refine Runs.sC 60 (C_33 1986) (C_33 1987) (cond (decide (i≤j)) (!rLess2) false) (fun hq3=>?_) (fun hq3=>?_)
  ·have h:=condT h hq3
   refine Runs.sA 2 [.code (C_33 994),.inBlock 3,.inLoop (C_33 248),.inBlock 2,.code (C_33 63)] ?_
   refine Runs.sR hE ⟨[(0,(.os 0 0 (((cap0.set ((a).toNat) (cap0.getD ((pivot).toNat) 0)).set ((pivot).toNat) (cap0.getD ((a).toNat) 0)).length))),(1,(aI a)),(10,(aI i)),(11,(aI (w64 (j - 1))))],[(0,aO 1 cI 0 ((cap0.set ((a).toNat) (cap0.getD ((pivot).toNat) 0)).set ((pivot).toNat) (cap0.getD ((a).toNat) 0)))],289⟩ (C_33 994) [] [] (kp [0,1,10,11]) (kq [0]) 289 [] trivial ?_
   refine Runs.sA 2 [.code (C_33 248),.inLoop (C_33 248),.inBlock 2,.code (C_33 63)] ?_
   exact Runs.sW hE _ [] (kp [0,1,10,11]) (kq [0]) 1 [] trivial (ih (w64 (j - 1)) _ h E hE)
  ·have h:=condF h hq3
   refine Runs.sA 3 [.code (C_33 252),.code (C_33 253),.code (C_33 127)] ?_
   refine Runs.sR hE ⟨[(0,(.os 0 0 (((cap0.set ((a).toNat) (cap0.getD ((pivot).toNat) 0)).set ((pivot).toNat) (cap0.getD ((a).toNat) 0)).length))),(1,(aI a)),(10,(aI i)),(11,(aI j)),(65,(aB (decide (i > j))))],[(0,aO 1 cI 0 ((cap0.set ((a).toNat) (cap0.getD ((pivot).toNat) 0)).set ((pivot).toNat) (cap0.getD ((a).toNat) 0)))],289⟩ (C_33 252) [] [] (kp [0,1,10,11,65]) (kq [0]) 289 [] trivial ?_
   refine Runs.sC 65 (C_33 506) (C_33 507) (decide (i > j)) (fun hq4=>?_) (fun hq4=>?_)
   ·have h:=condT h hq4
    refine Runs.sA 1 [.code (C_33 1012),.code (C_33 1013),.code (C_33 127)] ?_
    obtain ⟨c7,h⟩:=ifSome h
    obtain ⟨c8,h⟩:=ifSome h
    refine Runs.sR hE ⟨[(11,(aI j))],[(0,aO 1 cI 0 ((((cap0.set ((a).toNat) (cap0.getD ((pivot).toNat) 0)).set ((pivot).toNat) (cap0.getD ((a).toNat) 0)).set ((j).toNat) (((cap0.set ((a).toNat) (cap0.getD ((pivot).toNat) 0)).set ((pivot).toNat) (cap0.getD ((a).toNat) 0)).getD ((a).toNat) 0)).set ((a).toNat) (((cap0.set ((a).toNat) (cap0.getD ((pivot).toNat) 0)).set ((pivot).toNat) (cap0.getD ((a).toNat) 0)).getD ((j).toNat) 0)))],545⟩ (C_33 1012) [] [] (kp [11]) [(0,.arr 0 (((((cap0.set ((a).toNat) (cap0.getD ((pivot).toNat) 0)).set ((pivot).toNat) (cap0.getD ((a).toNat) 0)).set ((j).toNat) (((cap0.set ((a).toNat) (cap0.getD ((pivot).toNat) 0)).set ((pivot).toNat) (cap0.getD ((a).toNat) 0)).getD ((a).toNat) 0)).set ((a).toNat) (((cap0.set ((a).toNat) (cap0.getD ((pivot).toNat) 0)).set ((pivot).toNat) (cap0.getD ((a).toNat) 0)).getD ((j).toNat) 0)).length) (fun zi=>cI (((((cap0.set ((a).toNat) (cap0.getD ((pivot).toNat) 0)).set ((pivot).toNat) (cap0.getD ((a).toNat) 0)).set ((j).toNat) (((cap0.set ((a).toNat) (cap0.getD ((pivot).toNat) 0)).set ((pivot).toNat) (cap0.getD ((a).toNat) 0)).getD ((a).toNat) 0)).set ((a).toNat) (((cap0.set ((a).toNat) (cap0.getD ((pivot).toNat) 0)).set ((pivot).toNat) (cap0.getD ((a).toNat) 0)).getD ((j).toNat) 0)).getD zi 0)))] 545 [0≤a∧a < ((((cap0.set ((a).toNat) (cap0.getD ((pivot).toNat) 0)).set ((pivot).toNat) (cap0.getD ((a).toNat) 0)).length:Nat):Int),(a).toNat < ((cap0.set ((a).toNat) (cap0.getD ((pivot).toNat) 0)).set ((pivot).toNat) (cap0.getD ((a).toNat) 0)).length,0≤j∧j < ((((cap0.set ((a).toNat) (cap0.getD ((pivot).toNat) 0)).set ((pivot).toNat) (cap0.getD ((a).toNat) 0)).length:Nat):Int),(j).toNat < ((cap0.set ((a).toNat) (cap0.getD ((pivot).toNat) 0)).set ((pivot).toNat) (cap0.getD ((a).toNat) 0)).length,0≤j∧j < ((((cap0.set ((a).toNat) (cap0.getD ((pivot).toNat) 0)).set ((pivot).toNat) (cap0.getD ((a).toNat) 0)).length:Nat):Int),(j).toNat < ((cap0.set ((a).toNat) (cap0.getD ((pivot).toNat) 0)).set ((pivot).toNat) (cap0.getD ((a).toNat) 0)).length,0≤a∧a < ((((cap0.set ((a).toNat) (cap0.getD ((pivot).toNat) 0)).set ((pivot).toNat) (cap0.getD ((a).toNat) 0)).length:Nat):Int),(a).toNat < ((cap0.set ((a).toNat) (cap0.getD ((pivot).toNat) 0)).set ((pivot).toNat) (cap0.getD ((a).toNat) 0)).length,((cap0.set ((a).toNat) (cap0.getD ((pivot).toNat) 0)).set ((pivot).toNat) (cap0.getD ((a).toNat) 0)).length=((((cap0.set ((a).toNat) (cap0.getD ((pivot).toNat) 0)).set ((pivot).toNat) (cap0.getD ((a).toNat) 0)).set ((j).toNat) (((cap0.set ((a).toNat) (cap0.getD ((pivot).toNat) 0)).set ((pivot).toNat) (cap0.getD ((a).toNat) 0)).getD ((a).toNat) 0)).set ((a).toNat) (((cap0.set ((a).toNat) (cap0.getD ((pivot).toNat) 0)).set ((pivot).toNat) (cap0.getD ((a).toNat) 0)).getD ((j).toNat) 0)).length,∀ zi,zi < ((((cap0.set ((a).toNat) (cap0.getD ((pivot).toNat) 0)).set ((pivot).toNat) (cap0.getD ((a).toNat) 0)).set ((j).toNat) (((cap0.set ((a).toNat) (cap0.getD ((pivot).toNat) 0)).set ((pivot).toNat) (cap0.getD ((a).toNat) 0)).getD ((a).toNat) 0)).set ((a).toNat) (((cap0.set ((a).toNat) (cap0.getD ((pivot).toNat) 0)).set ((pivot).toNat) (cap0.getD ((a).toNat) 0)).getD ((j).toNat) 0)).length→(fun zi=>cI (((((cap0.set ((a).toNat) (cap0.getD ((pivot).toNat) 0)).set ((pivot).toNat) (cap0.getD ((a).toNat) 0)).set ((j).toNat) (((cap0.set ((a).toNat) (cap0.getD ((pivot).toNat) 0)).set ((pivot).toNat) (cap0.getD ((a).toNat) 0)).getD ((a).toNat) 0)).set ((a).toNat) (((cap0.set ((a).toNat) (cap0.getD ((pivot).toNat) 0)).set ((pivot).toNat) (cap0.getD ((a).toNat) 0)).getD ((j).toNat) 0)).getD zi 0)) zi=((fun zm=>if zm=(a).toNat then [(aI (((cap0.set ((a).toNat) (cap0.getD ((pivot).toNat) 0)).set ((pivot).toNat) (cap0.getD ((a).toNat) 0)).getD ((j).toNat) 0))] else ((fun zm=>if zm=(j).toNat then [(aI (((cap0.set ((a).toNat) (cap0.getD ((pivot).toNat) 0)).set ((pivot).toNat) (cap0.getD ((a).toNat) 0)).getD ((a).toNat) 0))] else (fun zi=>cI (((cap0.set ((a).toNat) (cap0.getD ((pivot).toNat) 0)).set ((pivot).toNat) (cap0.getD ((a).toNat) 0)).getD zi 0)) zm)) zm)) zi] ⟨c7,(ltOf c7),c8,(ltOf c8),c8,(ltOf c8),c7,(ltOf c7),(len_set_raw (len_set_raw rfl)),(get_set_raw cI 0 (((cap0.set ((a).toNat) (cap0.getD ((pivot).toNat) 0)).set ((pivot).toNat) (cap0.getD ((a).toNat) 0)).set ((j).toNat) (((cap0.set ((a).toNat) (cap0.getD ((pivot).toNat) 0)).set ((pivot).toNat) (cap0.getD ((a).toNat) 0)).getD ((a).toNat) 0)) ((a).toNat) (((cap0.set ((a).toNat) (cap0.getD ((pivot).toNat) 0)).set ((pivot).toNat) (cap0.getD ((a).toNat) 0)).getD ((j).toNat) 0) (get_set_raw cI 0 ((cap0.set ((a).toNat) (cap0.getD ((pivot).toNat) 0)).set ((pivot).toNat) (cap0.getD ((a).toNat) 0)) ((j).toNat) (((cap0.set ((a).toNat) (cap0.getD ((pivot).toNat) 0)).set ((pivot).toNat) (cap0.getD ((a).toNat) 0)).getD ((a).toNat) 0) (fun _ _=>rfl))),trivial⟩ ?_
    refine Runs.sA 1 [.code (C_33 2026),.code (C_33 2027),.code (C_33 127)] ?_
    refine Runs.sR hE ⟨[(8,(aI j)),(9,(aB true))],[(0,aO 1 cI 0 ((((cap0.set ((a).toNat) (cap0.getD ((pivot).toNat) 0)).set ((pivot).toNat) (cap0.getD ((a).toNat) 0)).set ((j).toNat) (((cap0.set ((a).toNat) (cap0.getD ((pivot).toNat) 0)).set ((pivot).toNat) (cap0.getD ((a).toNat) 0)).getD ((a).toNat) 0)).set ((a).toNat) (((cap0.set ((a).toNat) (cap0.getD ((pivot).toNat) 0)).set ((pivot).toNat) (cap0.getD ((a).toNat) 0)).getD ((j).toNat) 0)))],593⟩ (C_33 2026) [] [] (kp [8,9]) (kq [0]) 593 [] trivial ?_
    obtain rfl:=Option.some.inj h
    refine Runs.sW hE ⟨[(8,(aI j)),(9,(aB true))],[(0,aO 1 cI 0 ((((cap0.set ((a).toNat) (cap0.getD ((pivot).toNat) 0)).set ((pivot).toNat) (cap0.getD ((a).toNat) 0)).set ((j).toNat) (((cap0.set ((a).toNat) (cap0.getD ((pivot).toNat) 0)).set ((pivot).toNat) (cap0.getD ((a).toNat) 0)).getD ((a).toNat) 0)).set ((a).toNat) (((cap0.set ((a).toNat) (cap0.getD ((pivot).toNat) 0)).set ((pivot).toNat) (cap0.getD ((a).toNat) 0)).getD ((j).toNat) 0)))],593⟩ [] (kp [8,9]) (kq [0]) 593 [] trivial ?_
    exact Runs.sT Try.f92 [] [] trivial
   ·have h:=condF h hq4
    refine Runs.sA 2 [.code (C_33 254),.code (C_33 255)] ?_
    obtain ⟨c9,h⟩:=ifSome h
    obtain ⟨c10,h⟩:=ifSome h
    refine Runs.sR hE ⟨[(0,(.os 0 0 (((((cap0.set ((a).toNat) (cap0.getD ((pivot).toNat) 0)).set ((pivot).toNat) (cap0.getD ((a).toNat) 0)).set ((i).toNat) (((cap0.set ((a).toNat) (cap0.getD ((pivot).toNat) 0)).set ((pivot).toNat) (cap0.getD ((a).toNat) 0)).getD ((j).toNat) 0)).set ((j).toNat) (((cap0.set ((a).toNat) (cap0.getD ((pivot).toNat) 0)).set ((pivot).toNat) (cap0.getD ((a).toNat) 0)).getD ((i).toNat) 0)).length))),(1,(aI a)),(10,(aI i)),(11,(aI j))],[(0,aO 1 cI 0 ((((cap0.set ((a).toNat) (cap0.getD ((pivot).toNat) 0)).set ((pivot).toNat) (cap0.getD ((a).toNat) 0)).set ((i).toNat) (((cap0.set ((a).toNat) (cap0.getD ((pivot).toNat) 0)).set ((pivot).toNat) (cap0.getD ((a).toNat) 0)).getD ((j).toNat) 0)).set ((j).toNat) (((cap0.set ((a).toNat) (cap0.getD ((pivot).toNat) 0)).set ((pivot).toNat) (cap0.getD ((a).toNat) 0)).getD ((i).toNat) 0)))],545⟩ (C_33 254) [] [] ([(0,.osl (((((cap0.set ((a).toNat) (cap0.getD ((pivot).toNat) 0)).set ((pivot).toNat) (cap0.getD ((a).toNat) 0)).set ((i).toNat) (((cap0.set ((a).toNat) (cap0.getD ((pivot).toNat) 0)).set ((pivot).toNat) (cap0.getD ((a).toNat) 0)).getD ((j).toNat) 0)).set ((j).toNat) (((cap0.set ((a).toNat) (cap0.getD ((pivot).toNat) 0)).set ((pivot).toNat) (cap0.getD ((a).toNat) 0)).getD ((i).toNat) 0)).length))] ++ kp [1,10,11]) [(0,.arr 0 (((((cap0.set ((a).toNat) (cap0.getD ((pivot).toNat) 0)).set ((pivot).toNat) (cap0.getD ((a).toNat) 0)).set ((i).toNat) (((cap0.set ((a).toNat) (cap0.getD ((pivot).toNat) 0)).set ((pivot).toNat) (cap0.getD ((a).toNat) 0)).getD ((j).toNat) 0)).set ((j).toNat) (((cap0.set ((a).toNat) (cap0.getD ((pivot).toNat) 0)).set ((pivot).toNat) (cap0.getD ((a).toNat) 0)).getD ((i).toNat) 0)).length) (fun zi=>cI (((((cap0.set ((a).toNat) (cap0.getD ((pivot).toNat) 0)).set ((pivot).toNat) (cap0.getD ((a).toNat) 0)).set ((i).toNat) (((cap0.set ((a).toNat) (cap0.getD ((pivot).toNat) 0)).set ((pivot).toNat) (cap0.getD ((a).toNat) 0)).getD ((j).toNat) 0)).set ((j).toNat) (((cap0.set ((a).toNat) (cap0.getD ((pivot).toNat) 0)).set ((pivot).toNat) (cap0.getD ((a).toNat) 0)).getD ((i).toNat) 0)).getD zi 0)))] 545 [0≤j∧j < ((((cap0.set ((a).toNat) (cap0.getD ((pivot).toNat) 0)).set ((pivot).toNat) (cap0.getD ((a).toNat) 0)).length:Nat):Int),(j).toNat < ((cap0.set ((a).toNat) (cap0.getD ((pivot).toNat) 0)).set ((pivot).toNat) (cap0.getD ((a).toNat) 0)).length,0≤i∧i < ((((cap0.set ((a).toNat) (cap0.getD ((pivot).toNat) 0)).set ((pivot).toNat) (cap0.getD ((a).toNat) 0)).length:Nat):Int),(i).toNat < ((cap0.set ((a).toNat) (cap0.getD ((pivot).toNat) 0)).set ((pivot).toNat) (cap0.getD ((a).toNat) 0)).length,0≤i∧i < ((((cap0.set ((a).toNat) (cap0.getD ((pivot).toNat) 0)).set ((pivot).toNat) (cap0.getD ((a).toNat) 0)).length:Nat):Int),(i).toNat < ((cap0.set ((a).toNat) (cap0.getD ((pivot).toNat) 0)).set ((pivot).toNat) (cap0.getD ((a).toNat) 0)).length,0≤j∧j < ((((cap0.set ((a).toNat) (cap0.getD ((pivot).toNat) 0)).set ((pivot).toNat) (cap0.getD ((a).toNat) 0)).length:Nat):Int),(j).toNat < ((cap0.set ((a).toNat) (cap0.getD ((pivot).toNat) 0)).set ((pivot).toNat) (cap0.getD ((a).toNat) 0)).length,((cap0.set ((a).toNat) (cap0.getD ((pivot).toNat) 0)).set ((pivot).toNat) (cap0.getD ((a).toNat) 0)).length=((((cap0.set ((a).toNat) (cap0.getD ((pivot).toNat) 0)).set ((pivot).toNat) (cap0.getD ((a).toNat) 0)).set ((i).toNat) (((cap0.set ((a).toNat) (cap0.getD ((pivot).toNat) 0)).set ((pivot).toNat) (cap0.getD ((a).toNat) 0)).getD ((j).toNat) 0)).set ((j).toNat) (((cap0.set ((a).toNat) (cap0.getD ((pivot).toNat) 0)).set ((pivot).toNat) (cap0.getD ((a).toNat) 0)).getD ((i).toNat) 0)).length,((cap0.set ((a).toNat) (cap0.getD ((pivot).toNat) 0)).set ((pivot).toNat) (cap0.getD ((a).toNat) 0)).length=((((cap0.set ((a).toNat) (cap0.getD ((pivot).toNat) 0)).set ((pivot).toNat) (cap0.getD ((a).toNat) 0)).set ((i).toNat) (((cap0.set ((a).toNat) (cap0.getD ((pivot).toNat) 0)).set ((pivot).toNat) (cap0.getD ((a).toNat) 0)).getD ((j).toNat) 0)).set ((j).toNat) (((cap0.set ((a).toNat) (cap0.getD ((pivot).toNat) 0)).set ((pivot).toNat) (cap0.getD ((a).toNat) 0)).getD ((i).toNat) 0)).length,∀ zi,zi < ((((cap0.set ((a).toNat) (cap0.getD ((pivot).toNat) 0)).set ((pivot).toNat) (cap0.getD ((a).toNat) 0)).set ((i).toNat) (((cap0.set ((a).toNat) (cap0.getD ((pivot).toNat) 0)).set ((pivot).toNat) (cap0.getD ((a).toNat) 0)).getD ((j).toNat) 0)).set ((j).toNat) (((cap0.set ((a).toNat) (cap0.getD ((pivot).toNat) 0)).set ((pivot).toNat) (cap0.getD ((a).toNat) 0)).getD ((i).toNat) 0)).length→(fun zi=>cI (((((cap0.set ((a).toNat) (cap0.getD ((pivot).toNat) 0)).set ((pivot).toNat) (cap0.getD ((a).toNat) 0)).set ((i).toNat) (((cap0.set ((a).toNat) (cap0.getD ((pivot).toNat) 0)).set ((pivot).toNat) (cap0.getD ((a).toNat) 0)).getD ((j).toNat) 0)).set ((j).toNat) (((cap0.set ((a).toNat) (cap0.getD ((pivot).toNat) 0)).set ((pivot).toNat) (cap0.getD ((a).toNat) 0)).getD ((i).toNat) 0)).getD zi 0)) zi=((fun zm=>if zm=(j).toNat then [(aI (((cap0.set ((a).toNat) (cap0.getD ((pivot).toNat) 0)).set ((pivot).toNat) (cap0.getD ((a).toNat) 0)).getD ((i).toNat) 0))] else ((fun zm=>if zm=(i).toNat then [(aI (((cap0.set ((a).toNat) (cap0.getD ((pivot).toNat) 0)).set ((pivot).toNat) (cap0.getD ((a).toNat) 0)).getD ((j).toNat) 0))] else (fun zi=>cI (((cap0.set ((a).toNat) (cap0.getD ((pivot).toNat) 0)).set ((pivot).toNat) (cap0.getD ((a).toNat) 0)).getD zi 0)) zm)) zm)) zi] ⟨c9,(ltOf c9),c10,(ltOf c10),c10,(ltOf c10),c9,(ltOf c9),(len_set_raw (len_set_raw rfl)),(len_set_raw (len_set_raw rfl)),(get_set_raw cI 0 (((cap0.set ((a).toNat) (cap0.getD ((pivot).toNat) 0)).set ((pivot).toNat) (cap0.getD ((a).toNat) 0)).set ((i).toNat) (((cap0.set ((a).toNat) (cap0.getD ((pivot).toNat) 0)).set ((pivot).toNat) (cap0.getD ((a).toNat) 0)).getD ((j).toNat) 0)) ((j).toNat) (((cap0.set ((a).toNat) (cap0.getD ((pivot).toNat) 0)).set ((pivot).toNat) (cap0.getD ((a).toNat) 0)).getD ((i).toNat) 0) (get_set_raw cI 0 ((cap0.set ((a).toNat) (cap0.getD ((pivot).toNat) 0)).set ((pivot).toNat) (cap0.getD ((a).toNat) 0)) ((i).toNat) (((cap0.set ((a).toNat) (cap0.getD ((pivot).toNat) 0)).set ((pivot).toNat) (cap0.getD ((a).toNat) 0)).getD ((j).toNat) 0) (fun _ _=>rfl))),trivial⟩ ?_
    refine Runs.sA 1 [.code (C_33 510),.code (C_33 511)] ?_
    refine Runs.sR hE ⟨[(0,(.os 0 0 (((((cap0.set ((a).toNat) (cap0.getD ((pivot).toNat) 0)).set ((pivot).toNat) (cap0.getD ((a).toNat) 0)).set ((i).toNat) (((cap0.set ((a).toNat) (cap0.getD ((pivot).toNat) 0)).set ((pivot).toNat) (cap0.getD ((a).toNat) 0)).getD ((j).toNat) 0)).set ((j).toNat) (((cap0.set ((a).toNat) (cap0.getD ((pivot).toNat) 0)).set ((pivot).toNat) (cap0.getD ((a).toNat) 0)).getD ((i).toNat) 0)).length))),(1,(aI a)),(10,(aI (w64 (i+1)))),(11,(aI j))],[(0,aO 1 cI 0 ((((cap0.set ((a).toNat) (cap0.getD ((pivot).toNat) 0)).set ((pivot).toNat) (cap0.getD ((a).toNat) 0)).set ((i).toNat) (((cap0.set ((a).toNat) (cap0.getD ((pivot).toNat) 0)).set ((pivot).toNat) (cap0.getD ((a).toNat) 0)).getD ((j).toNat) 0)).set ((j).toNat) (((cap0.set ((a).toNat) (cap0.getD ((pivot).toNat) 0)).set ((pivot).toNat) (cap0.getD ((a).toNat) 0)).getD ((i).toNat) 0)))],593⟩ (C_33 510) [] [] (kp [0,1,10,11]) (kq [0]) 593 [] trivial ?_
    refine Runs.sA 1 [.code (C_33 1022),.code (C_33 1023)] ?_
    refine Runs.sR hE ⟨[(0,(.os 0 0 (((((cap0.set ((a).toNat) (cap0.getD ((pivot).toNat) 0)).set ((pivot).toNat) (cap0.getD ((a).toNat) 0)).set ((i).toNat) (((cap0.set ((a).toNat) (cap0.getD ((pivot).toNat) 0)).set ((pivot).toNat) (cap0.getD ((a).toNat) 0)).getD ((j).toNat) 0)).set ((j).toNat) (((cap0.set ((a).toNat) (cap0.getD ((pivot).toNat) 0)).set ((pivot).toNat) (cap0.getD ((a).toNat) 0)).getD ((i).toNat) 0)).length))),(1,(aI a)),(10,(aI (w64 (i+1)))),(11,(aI (w64 (j - 1))))],[(0,aO 1 cI 0 ((((cap0.set ((a).toNat) (cap0.getD ((pivot).toNat) 0)).set ((pivot).toNat) (cap0.getD ((a).toNat) 0)).set ((i).toNat) (((cap0.set ((a).toNat) (cap0.getD ((pivot).toNat) 0)).set ((pivot).toNat) (cap0.getD ((a).toNat) 0)).getD ((j).toNat) 0)).set ((j).toNat) (((cap0.set ((a).toNat) (cap0.getD ((pivot).toNat) 0)).set ((pivot).toNat) (cap0.getD ((a).toNat) 0)).getD ((i).toNat) 0)))],641⟩ (C_33 1022) [] [] (kp [0,1,10,11]) (kq [0]) 641 [] trivial ?_
    refine Runs.sA 3 [.code (C_33 8184),.inLoop (C_33 8184),.inBlock 4,.code (C_33 2047)] ?_
    exact Runs.sW hE _ [] (kp [0,1,10,11]) (kq [0]) 1 [] trivial (g_slices_partitionOrdered_int_L3_ok N a N ((((cap0.set ((a).toNat) (cap0.getD ((pivot).toNat) 0)).set ((pivot).toNat) (cap0.getD ((a).toNat) 0)).set ((i).toNat) (((cap0.set ((a).toNat) (cap0.getD ((pivot).toNat) 0)).set ((pivot).toNat) (cap0.getD ((a).toNat) 0)).getD ((j).toNat) 0)).set ((j).toNat) (((cap0.set ((a).toNat) (cap0.getD ((pivot).toNat) 0)).set ((pivot).toNat) (cap0.getD ((a).toNat) 0)).getD ((i).toNat) 0)) (w64 (i+1)) (w64 (j - 1)) _ h E hE)
theorem g_slices_partitionOrdered_int_L1_ok (N:Nat) (a:Int) (b:Int) (pivot:Int) (cap0:List Int) (fuel:Nat):∀ (i:Int) (r:Int×Bool×(List Int)),g_slices_partitionOrdered_int_L1 N a b pivot cap0 fuel i=some r→∀ E,EnvOk E 1→Runs Try.prog E 92 168 (SPost E [(0,aO 1 cI 0 r.2.2)] (.tup [(aI r.1),(aB r.2.1)])) [.code (C_33 120),.inLoop (C_33 120),.inBlock 0,.code (C_33 31)] ⟨[(0,(.os 0 0 (((cap0.set ((a).toNat) (cap0.getD ((pivot).toNat) 0)).set ((pivot).toNat) (cap0.getD ((a).toNat) 0)).length))),(1,(aI a)),(10,(aI i)),(11,(aI (w64 (b - 1))))],[(0,aO 1 cI 0 ((cap0.set ((a).toNat) (cap0.getD ((pivot).toNat) 0)).set ((pivot).toNat) (cap0.getD ((a).toNat) 0)))],1⟩:=by
 induction fuel with
 | zero=>intro _ r h;rw [g_slices_partitionOrdered_int_L1.eq_1] at h;cases h
 | succ fuel ih =>
  intro i r h E hE
  rw [g_slices_partitionOrdered_int_L1.eq_2] at h
  refine Runs.sA 2 [.code (C_33 480),.code (C_33 481),.code (C_33 241),.inLoop (C_33 120),.inBlock 0,.code (C_33 31)] ?_
  obtain ⟨c3,h⟩:=ifSome h
  obtain ⟨c4,h⟩:=ifSome h
  obtain ⟨rLess,hr,h⟩:=bindSome h
  refine Runs.sR hE ⟨[(0,(.os 0 0 (((cap0.set ((a).toNat) (cap0.getD ((pivot).toNat) 0)).set ((pivot).toNat) (cap0.getD ((a).toNat) 0)).length))),(1,(aI a)),(10,(aI i)),(11,(aI (w64 (b - 1)))),(43,(aB (cond (decide (i≤(w64 (b - 1)))) rLess false)))],[(0,aO 1 cI 0 ((cap0.set ((a).toNat) (cap0.getD ((pivot).toNat) 0)).set ((pivot).toNat) (cap0.getD ((a).toNat) 0)))],225⟩ (C_33 480) [(12,⟨[],true,(aB rLess),[],0,false,none⟩)] [] (kp [0,1,10,11,43]) (kq [0]) 225 [(decide (i≤(w64 (b - 1))))=true→AllP [(decide (i≤(w64 (b - 1))))=true,(decide (i≤(w64 (b - 1))))=true,0≤i∧i < ((((cap0.set ((a).toNat) (cap0.getD ((pivot).toNat) 0)).set ((pivot).toNat) (cap0.getD ((a).toNat) 0)).length:Nat):Int)],(decide (i≤(w64 (b - 1))))=true→AllP [(decide (i≤(w64 (b - 1))))=true,(i).toNat < ((cap0.set ((a).toNat) (cap0.getD ((pivot).toNat) 0)).set ((pivot).toNat) (cap0.getD ((a).toNat) 0)).length],(decide (i≤(w64 (b - 1))))=true→AllP [(decide (i≤(w64 (b - 1))))=true,(decide (i≤(w64 (b - 1))))=true,0≤a∧a < ((((cap0.set ((a).toNat) (cap0.getD ((pivot).toNat) 0)).set ((pivot).toNat) (cap0.getD ((a).toNat) 0)).length:Nat):Int)],(decide (i≤(w64 (b - 1))))=true→AllP [(decide (i≤(w64 (b - 1))))=true,(a).toNat < ((cap0.set ((a).toNat) (cap0.getD ((pivot).toNat) 0)).set ((pivot).toNat) (cap0.getD ((a).toNat) 0)).length],(decide (i≤(w64 (b - 1))))=true→AllP [Sound Try.prog 90 [(aI (((cap0.set ((a).toNat) (cap0.getD ((pivot).toNat) 0)).set ((pivot).toNat) (cap0.getD ((a).toNat) 0)).getD ((i).toNat) 0)),(aI (((cap0.set ((a).toNat) (cap0.getD ((pivot).toNat) 0)).set ((pivot).toNat) (cap0.getD ((a).toNat) 0)).getD ((a).toNat) 0))] [] 0 (aB rLess) [],(decide (i≤(w64 (b - 1))))=true,(decide (i≤(w64 (b - 1))))=true],(decide (i≤(w64 (b - 1))))=true→AllP [(decide (i≤(w64 (b - 1))))=true]] ⟨(fun hg=>⟨hg,hg,(c3 hg),trivial⟩),(fun hg=>⟨hg,(ltOf (c3 hg)),trivial⟩),(fun hg=>⟨hg,hg,(c4 hg),trivial⟩),(fun hg=>⟨hg,(ltOf (c4 hg)),trivial⟩),(fun hg=>⟨(g_cmp_Less_int_ok N (((cap0.set ((a).toNat) (cap0.getD ((pivot).toNat) 0)).set ((pivot).toNat) (cap0.getD ((a).toNat) 0)).getD ((i).toNat) 0) (((cap0.set ((a).toNat) (cap0.getD ((pivot).toNat) 0)).set ((pivot).toNat) (cap0.getD ((a).toNat) 0)).getD ((a).toNat) 0) rLess (condT hr hg)),hg,hg,trivial⟩),(fun hq=>⟨hq,trivial⟩),trivial⟩ ?_
  refine Runs.sC 43 (C_33 962) (C_33 963) (cond (decide (i≤(w64 (b - 1)))) rLess false) (fun hq2=>?_) (fun hq2=>?_)
  ·have h:=condT h hq2
   refine Runs.sA 2 [.code (C_33 482),.inBlock 1,.inLoop (C_33 120),.inBlock 0,.code (C_33 31)] ?_
   refine Runs.sR hE ⟨[(0,(.os 0 0 (((cap0.set ((a).toNat) (cap0.getD ((pivot).toNat) 0)).set ((pivot).toNat) (cap0.getD ((a).toNat) 0)).length))),(1,(aI a)),(10,(aI (w64 (i+1)))),(11,(aI (w64 (b - 1))))],[(0,aO 1 cI 0 ((cap0.set ((a).toNat) (cap0.getD ((pivot).toNat) 0)).set ((pivot).toNat) (cap0.getD ((a).toNat) 0)))],273⟩ (C_33 482) [] [] (kp [0,1,10,11]) (kq [0]) 273 [] trivial ?_
   refine Runs.sA 2 [.code (C_33 120),.inLoop (C_33 120),.inBlock 0,.code (C_33 31)] ?_
   exact Runs.sW hE _ [] (kp [0,1,10,11]) (kq [0]) 1 [] trivial (ih (w64 (i+1)) _ h E hE)
  ·have h:=condF h hq2
   refine Runs.sA 4 [.code (C_33 248),.inLoop (C_33 248),.inBlock 2,.code (C_33 63)] ?_
   exact Runs.sW hE _ [] (kp [0,1,10,11]) (kq [0]) 1 [] trivial (g_slices_partitionOrdered_int_L2_ok N a pivot cap0 i N (w64 (b - 1)) _ h E hE)
theorem g_slices_partitionOrdered_int_ok (N:Nat) (a:Int) (b:Int) (pivot:Int) (cap0:List Int) (r:Int×Bool×(List Int)) (h:g_slices_partitionOrdered_int N a b pivot cap0=some r):Sound Try.prog 92 [(.os 0 0 cap0.length),(aI a),(aI b),(aI pivot)] [(0,aO 1 cI 0 cap0)] 1 (.tup [(aI r.1),(aB r.2.1)]) [(0,aO 1 cI 0 r.2.2)]:=by
 unfold g_slices_partitionOrdered_int at h
 refine Sound.of_runs (fu:=Try.f92) (c:=C_33 1) (nt:=168) (by kernel_rfl) (by kernel_rfl) (by kernel_rfl) (by kernel_rfl) (fun hm=>absurd hm (by decide)) ?_
 intro E hE
 refine Runs.sA 1 [.code (C_33 2),.code (C_33 3)] ?_
 refine Runs.sR hE ⟨[(0,(.os 0 0 cap0.length)),(1,(aI a)),(2,(aI b)),(3,(aI pivot))],[(0,aO 1 cI 0 cap0)],33⟩ (C_33 2) [] [] (kp [0,1,2,3]) (kq [0]) 33 [] trivial ?_
 refine Runs.sA 1 [.code (C_33 6),.code (C_33 7)] ?_
 obtain ⟨c,h⟩:=ifSome h
 obtain ⟨c2,h⟩:=ifSome h
 refine Runs.sR hE ⟨[(0,(.os 0 0 (((cap0.set ((a).toNat) (cap0.getD ((pivot).toNat) 0)).set ((pivot).toNat) (cap0.getD ((a).toNat) 0)).length))),(1,(aI a)),(2,(aI b))],[(0,aO 1 cI 0 ((cap0.set ((a).toNat) (cap0.getD ((pivot).toNat) 0)).set ((pivot).toNat) (cap0.getD ((a).toNat) 0)))],289⟩ (C_33 6) [] [] ([(0,.osl (((cap0.set ((a).toNat) (cap0.getD ((pivot).toNat) 0)).set ((pivot).toNat) (cap0.getD ((a).toNat) 0)).length))] ++ kp [1,2]) [(0,.arr 0 (((cap0.set ((a).toNat) (cap0.getD ((pivot).toNat) 0)).set ((pivot).toNat) (cap0.getD ((a).toNat) 0)).length) (fun zi=>cI (((cap0.set ((a).toNat) (cap0.getD ((pivot).toNat) 0)).set ((pivot).toNat) (cap0.getD ((a).toNat) 0)).getD zi 0)))] 289 [0≤pivot∧pivot < ((cap0.length:Nat):Int),(pivot).toNat < cap0.length,0≤a∧a < ((cap0.length:Nat):Int),(a).toNat < cap0.length,0≤a∧a < ((cap0.length:Nat):Int),(a).toNat < cap0.length,0≤pivot∧pivot < ((cap0.length:Nat):Int),(pivot).toNat < cap0.length,cap0.length=((cap0.set ((a).toNat) (cap0.getD ((pivot).toNat) 0)).set ((pivot).toNat) (cap0.getD ((a).toNat) 0)).length,cap0.length=((cap0.set ((a).toNat) (cap0.getD ((pivot).toNat) 0)).set ((pivot).toNat) (cap0.getD ((a).toNat) 0)).length,∀ zi,zi < ((cap0.set ((a).toNat) (cap0.getD ((pivot).toNat) 0)).set ((pivot).toNat) (cap0.getD ((a).toNat) 0)).length→(fun zi=>cI (((cap0.set ((a).toNat) (cap0.getD ((pivot).toNat) 0)).set ((pivot).toNat) (cap0.getD ((a).toNat) 0)).getD zi 0)) zi=((fun zm=>if zm=(pivot).toNat then [(aI (cap0.getD ((a).toNat) 0))] else ((fun zm=>if zm=(a).toNat then [(aI (cap0.getD ((pivot).toNat) 0))] else (fun zi=>cI (cap0.getD zi 0)) zm)) zm)) zi] ⟨c,(ltOf c),c2,(ltOf c2),c2,(ltOf c2),c,(ltOf c),(len_set_raw (len_set_raw rfl)),(len_set_raw (len_set_raw rfl)),(get_set_raw cI 0 (cap0.set ((a).toNat) (cap0.getD ((pivot).toNat) 0)) ((pivot).toNat) (cap0.getD ((a).toNat) 0) (get_set_raw cI 0 cap0 ((a).toNat) (cap0.getD ((pivot).toNat) 0) (fun _ _=>rfl))),trivial⟩ ?_
 refine Runs.sA 1 [.code (C_33 14),.code (C_33 15)] ?_
 refine Runs.sR hE ⟨[(0,(.os 0 0 (((cap0.set ((a).toNat) (cap0.getD ((pivot).toNat) 0)).set ((pivot).toNat) (cap0.getD ((a).toNat) 0)).length))),(1,(aI a)),(10,(aI (w64 (a+1)))),(11,(aI (w64 (b - 1))))],[(0,aO 1 cI 0 ((cap0.set ((a).toNat) (cap0.getD ((pivot).toNat) 0)).set ((pivot).toNat) (cap0.getD ((a).toNat) 0)))],385⟩ (C_33 14) [] [] (kp [0,1,10,11]) (kq [0]) 385 [] trivial ?_
 refine Runs.sA 3 [.code (C_33 120),.inLoop (C_33 120),.inBlock 0,.code (C_33 31)] ?_
 exact Runs.sW hE _ [] (kp [0,1,10,11]) (kq [0]) 1 [] trivial (g_slices_partitionOrdered_int_L1_ok N a b pivot cap0 N (w64 (a+1)) _ h E hE)
noncomputable def C_17 (n:Nat):Code:=cat (bodyOf Try.f66) (pth n)
theorem g_slices_pdqsortOrdered_int_J4_ok (N:Nat) (a2:Int) (b2:Int) (wasBalanced:Bool) (wasPartitioned:Bool) (limit3:Int) (pivot:Int) (R_:Int→Int→Int→(List Int)→Option ((List Int))) (K_g_slices_pdqsortOrdered_int_L1:(List Int)→Int→Int→Int→Bool→Bool→Option ((List Int)))
  (hR_:∀ (a:Int) (b:Int) (limit:Int) (cap0:List Int) (r:(List Int)),R_ a b limit cap0=some r→Sound Try.prog 66 [(.os 0 0 cap0.length),(aI a),(aI b),(aI limit)] [(0,aO 1 cI 0 cap0)] 1 (.tup []) [(0,aO 1 cI 0 r)])
  (hK_g_slices_pdqsortOrdered_int_L1:∀ (cap02:List Int) (a2:Int) (b2:Int) (limit2:Int) (wasBalanced:Bool) (wasPartitioned:Bool) (r:(List Int)),K_g_slices_pdqsortOrdered_int_L1 cap02 a2 b2 limit2 wasBalanced wasPartitioned=some r→∀ E,EnvOk E 1→Runs Try.prog E 66 134 (SPost E [(0,aO 1 cI 0 r)] (.tup [])) [.code (C_17 28),.inLoop (C_17 28),.inBlock 0] ⟨[(0,(.os 0 0 cap02.length)),(1,(aI a2)),(2,(aI b2)),(3,(aI limit2)),(8,(aB wasBalanced)),(9,(aB wasPartitioned))],[(0,aO 1 cI 0 cap02)],1⟩) (cap05:List Int) (r:(List Int)) (h:g_slices_pdqsortOrdered_int_J4 N a2 b2 wasBalanced wasPartitioned limit3 pivot R_ K_g_slices_pdqsortOrdered_int_L1 cap05=some r):∀ E,EnvOk E 1→Runs Try.prog E 66 134 (SPost E [(0,aO 1 cI 0 r)] (.tup [])) [.code (C_17 29180),.code (C_17 29181),.code (C_17 14591),.inBlock 1,.inLoop (C_17 28),.inBlock 0] ⟨[(0,(.os 0 0 cap05.length)),(1,(aI a2)),(2,(aI b2)),(3,(aI limit3)),(8,(aB wasBalanced)),(9,(aB wasPartitioned)),(10,(aI (w64 (b2 - a2)))),(11,(aI pivot))],[(0,aO 1 cI 0 cap05)],1⟩:=by
 intro E hE
 unfold g_slices_pdqsortOrdered_int_J4 at h
 obtain ⟨c6,h⟩:=ifSome h
 obtain ⟨c7,h⟩:=ifSome h
 obtain ⟨rLess,hr7,h⟩:=bindSome h
 refine Runs.sR hE ⟨[(0,(.os 0 0 cap05.length)),(1,(aI a2)),(2,(aI b2)),(3,(aI limit3)),(8,(aB wasBalanced)),(9,(aB wasPartitioned)),(10,(aI (w64 (b2 - a2)))),(11,(aI pivot)),(87,(aB (cond (decide (a2 > 0)) (!rLess) false)))],[(0,aO 1 cI 0 cap05)],241⟩ (C_17 29180) [(12,⟨[],true,(aB rLess),[],0,false,none⟩)] [] (kp [0,1,2,3,8,9,10,11,87]) (kq [0]) 241 [(decide (a2 > 0))=true→AllP [(decide (a2 > 0))=true],(decide (a2 > 0))=true→AllP [(decide (a2 > 0))=true,(decide (a2 > 0))=true,0≤(w64 (a2 - 1))∧(w64 (a2 - 1)) < ((cap05.length:Nat):Int)],(decide (a2 > 0))=true→AllP [(decide (a2 > 0))=true,(w64 (a2 - 1)).toNat < cap05.length],(decide (a2 > 0))=true→AllP [(decide (a2 > 0))=true,(decide (a2 > 0))=true,0≤pivot∧pivot < ((cap05.length:Nat):Int)],(decide (a2 > 0))=true→AllP [(decide (a2 > 0))=true,(pivot).toNat < cap05.length],(decide (a2 > 0))=true→AllP [Sound Try.prog 90 [(aI (cap05.getD ((w64 (a2 - 1)).toNat) 0)),(aI (cap05.getD ((pivot).toNat) 0))] [] 0 (aB rLess) [],(decide (a2 > 0))=true,(decide (a2 > 0))=true],(decide (a2 > 0))=true→AllP [(decide (a2 > 0))=true],(decide (a2 > 0))=true→AllP [(decide (a2 > 0))=true]] ⟨(fun hg=>⟨hg,trivial⟩),(fun hg=>⟨hg,hg,(c6 hg),trivial⟩),(fun hg=>⟨hg,(ltOf (c6 hg)),trivial⟩),(fun hg=>⟨hg,hg,(c7 hg),trivial⟩),(fun hg=>⟨hg,(ltOf (c7 hg)),trivial⟩),(fun hg=>⟨(g_cmp_Less_int_ok N (cap05.getD ((w64 (a2 - 1)).toNat) 0) (cap05.getD ((pivot).toNat) 0) rLess (condT hr7 hg)),hg,hg,trivial⟩),(fun hg=>⟨hg,trivial⟩),(fun hq=>⟨hq,trivial⟩),trivial⟩ ?_
 refine Runs.sC 87 (C_17 58362) (C_17 58363) (cond (decide (a2 > 0)) (!rLess) false) (fun hq8=>?_) (fun hq8=>?_)
 ·have h:=condT h hq8
  refine Runs.sA 1 [.code (C_17 116724),.code (C_17 116725),.code (C_17 14591),.inBlock 1,.inLoop (C_17 28),.inBlock 0] ?_
  obtain ⟨rpartitionEqu,hr8,h⟩:=bindSome h
  obtain ⟨c8,h⟩:=ifSome h
  refine Runs.sR hE ⟨[(0,(.os 0 0 rpartitionEqu.2.length)),(2,(aI b2)),(3,(aI limit3)),(8,(aB wasBalanced)),(9,(aB wasPartitioned)),(13,(aI rpartitionEqu.1))],[(0,aO 1 cI 0 rpartitionEqu.2)],337⟩ (C_17 116724) [(4,⟨[0],false,(aI rpartitionEqu.1),[(0,aO 1 cI 0 rpartitionEqu.2)],0,false,none⟩)] [] ([(0,.osl (rpartitionEqu.2.length))] ++ kp [2,3,8,9,13]) (kq [0]) 337 [Sound Try.prog 91 [(.os 0 0 cap05.length),(aI a2),(aI b2),(aI pivot)] [(0,aO 1 cI 0 cap05)] 1 (aI rpartitionEqu.1) [(0,aO 1 cI 0 rpartitionEqu.2)],cap05.length=rpartitionEqu.2.length] ⟨(g_slices_partitionEqualOrdered_int_ok N a2 b2 pivot cap05 rpartitionEqu hr8),(Eq.symm c8),trivial⟩ ?_
  refine Runs.sA 1 [.code (C_17 233450),.code (C_17 233451),.code (C_17 14591),.inBlock 1,.inLoop (C_17 28),.inBlock 0] ?_
  refine Runs.sR hE ⟨[(0,(.os 0 0 rpartitionEqu.2.length)),(1,(aI rpartitionEqu.1)),(2,(aI b2)),(3,(aI limit3)),(8,(aB wasBalanced)),(9,(aB wasPartitioned))],[(0,aO 1 cI 0 rpartitionEqu.2)],369⟩ (C_17 233450) [] [] (kp [0,1,2,3,8,9]) (kq [0]) 369 [] trivial ?_
  refine Runs.sA 2 [.code (C_17 28),.inLoop (C_17 28),.inBlock 0] ?_
  exact Runs.sW hE _ [] (kp [0,1,2,3,8,9]) (kq [0]) 1 [] trivial (hK_g_slices_pdqsortOrdered_int_L1 rpartitionEqu.2 rpartitionEqu.1 b2 limit3 wasBalanced wasPartitioned _ h E hE)
 ·have h:=condF h hq8
  refine Runs.sA 2 [.code (C_17 29182),.code (C_17 29183),.inBlock 1,.inLoop (C_17 28),.inBlock 0] ?_
  obtain ⟨rpartitionOrd,hr9,h⟩:=bindSome h
  obtain ⟨c9,h⟩:=ifSome h
  refine Runs.sR hE ⟨[(0,(.os 0 0 rpartitionOrd.2.2.length)),(1,(aI a2)),(2,(aI b2)),(3,(aI limit3)),(10,(aI (w64 (b2 - a2)))),(14,(aI rpartitionOrd.1)),(15,(aB rpartitionOrd.2.1))],[(0,aO 1 cI 0 rpartitionOrd.2.2)],401⟩ (C_17 29182) [(4,⟨[0],false,(.tup [(aI rpartitionOrd.1),(aB rpartitionOrd.2.1)]),[(0,aO 1 cI 0 rpartitionOrd.2.2)],0,false,none⟩)] [] ([(0,.osl (rpartitionOrd.2.2.length))] ++ kp [1,2,3,10,14,15]) (kq [0]) 401 [Sound Try.prog 92 [(.os 0 0 cap05.length),(aI a2),(aI b2),(aI pivot)] [(0,aO 1 cI 0 cap05)] 1 (.tup [(aI rpartitionOrd.1),(aB rpartitionOrd.2.1)]) [(0,aO 1 cI 0 rpartitionOrd.2.2)],cap05.length=rpartitionOrd.2.2.length] ⟨(g_slices_partitionOrdered_int_ok N a2 b2 pivot cap05 rpartitionOrd hr9),(Eq.symm c9),trivial⟩ ?_
  refine Runs.sA 1 [.code (C_17 58366),.code (C_17 58367),.inBlock 1,.inLoop (C_17 28),.inBlock 0] ?_
  refine Runs.sR hE ⟨[(0,(.os 0 0 rpartitionOrd.2.2.length)),(1,(aI a2)),(2,(aI b2)),(3,(aI limit3)),(9,(aB rpartitionOrd.2.1)),(10,(aI (w64 (b2 - a2)))),(14,(aI rpartitionOrd.1))],[(0,aO 1 cI 0 rpartitionOrd.2.2)],433⟩ (C_17 58366) [] [] (kp [0,1,2,3,9,10,14]) (kq [0]) 433 [] trivial ?_
  refine Runs.sA 1 [.code (C_17 116734),.code (C_17 116735),.inBlock 1,.inLoop (C_17 28),.inBlock 0] ?_
  refine Runs.sR hE ⟨[(0,(.os 0 0 rpartitionOrd.2.2.length)),(1,(aI a2)),(2,(aI b2)),(3,(aI limit3)),(9,(aB rpartitionOrd.2.1)),(10,(aI (w64 (b2 - a2)))),(14,(aI rpartitionOrd.1)),(16,(aI (w64 (rpartitionOrd.1 - a2)))),(17,(aI (w64 (b2 - rpartitionOrd.1))))],[(0,aO 1 cI 0 rpartitionOrd.2.2)],561⟩ (C_17 116734) [] [] (kp [0,1,2,3,9,10,14,16,17]) (kq [0]) 561 [] trivial ?_
  refine Runs.sA 1 [.code (C_17 233470),.code (C_17 233471),.inBlock 1,.inLoop (C_17 28),.inBlock 0] ?_
  refine Runs.sR hE ⟨[(0,(.os 0 0 rpartitionOrd.2.2.length)),(1,(aI a2)),(2,(aI b2)),(3,(aI limit3)),(9,(aB rpartitionOrd.2.1)),(14,(aI rpartitionOrd.1)),(16,(aI (w64 (rpartitionOrd.1 - a2)))),(17,(aI (w64 (b2 - rpartitionOrd.1)))),(18,(aI (w64 ((w64 (b2 - a2)).tdiv 8))))],[(0,aO 1 cI 0 rpartitionOrd.2.2)],609⟩ (C_17 233470) [] [] (kp [0,1,2,3,9,14,16,17,18]) (kq [0]) 609 [(8:Int)≠0] ⟨(by decide),trivial⟩ ?_
  refine Runs.sA 1 [.code (C_17 466942),.code (C_17 466943),.inBlock 1,.inLoop (C_17 28),.inBlock 0] ?_
  refine Runs.sR hE ⟨[(0,(.os 0 0 rpartitionOrd.2.2.length)),(1,(aI a2)),(2,(aI b2)),(3,(aI limit3)),(9,(aB rpartitionOrd.2.1)),(14,(aI rpartitionOrd.1)),(16,(aI (w64 (rpartitionOrd.1 - a2)))),(17,(aI (w64 (b2 - rpartitionOrd.1)))),(18,(aI (w64 ((w64 (b2 - a2)).tdiv 8)))),(113,(aB (decide ((w64 (rpartitionOrd.1 - a2)) < (w64 (b2 - rpartitionOrd.1))))))],[(0,aO 1 cI 0 rpartitionOrd.2.2)],657⟩ (C_17 466942) [] [] (kp [0,1,2,3,9,14,16,17,18,113]) (kq [0]) 657 [] trivial ?_
  refine Runs.sC 113 (C_17 933886) (C_17 933887) (decide ((w64 (rpartitionOrd.1 - a2)) < (w64 (b2 - rpartitionOrd.1)))) (fun hq9=>?_) (fun hq9=>?_)
  ·have h:=condT h hq9
   refine Runs.sA 1 [.code (C_17 1867772),.code (C_17 1867773),.inBlock 1,.inLoop (C_17 28),.inBlock 0] ?_
   refine Runs.sR hE ⟨[(0,(.os 0 0 rpartitionOrd.2.2.length)),(1,(aI a2)),(2,(aI b2)),(3,(aI limit3)),(8,(aB (decide ((w64 (rpartitionOrd.1 - a2))≥(w64 ((w64 (b2 - a2)).tdiv 8)))))),(9,(aB rpartitionOrd.2.1)),(14,(aI rpartitionOrd.1))],[(0,aO 1 cI 0 rpartitionOrd.2.2)],721⟩ (C_17 1867772) [] [] (kp [0,1,2,3,8,9,14]) (kq [0]) 721 [] trivial ?_
   refine Runs.sA 1 [.code (C_17 3735546),.code (C_17 3735547),.inBlock 1,.inLoop (C_17 28),.inBlock 0] ?_
   obtain ⟨rpdqsortOrder,hr10,h⟩:=bindSome h
   obtain ⟨c10,h⟩:=ifSome h
   refine Runs.sR hE ⟨[(0,(.os 0 0 rpdqsortOrder.length)),(2,(aI b2)),(3,(aI limit3)),(8,(aB (decide ((w64 (rpartitionOrd.1 - a2))≥(w64 ((w64 (b2 - a2)).tdiv 8)))))),(9,(aB rpartitionOrd.2.1)),(14,(aI rpartitionOrd.1))],[(0,aO 1 cI 0 rpdqsortOrder)],801⟩ (C_17 3735546) [(4,⟨[0],false,(.tup []),[(0,aO 1 cI 0 rpdqsortOrder)],0,false,none⟩)] [] ([(0,.osl (rpdqsortOrder.length))] ++ kp [2,3,8,9,14]) (kq [0]) 801 [Sound Try.prog 66 [(.os 0 0 rpartitionOrd.2.2.length),(aI a2),(aI rpartitionOrd.1),(aI limit3)] [(0,aO 1 cI 0 rpartitionOrd.2.2)] 1 (.tup []) [(0,aO 1 cI 0 rpdqsortOrder)],rpartitionOrd.2.2.length=rpdqsortOrder.length] ⟨(hR_ a2 rpartitionOrd.1 limit3 rpartitionOrd.2.2 rpdqsortOrder hr10),(Eq.symm c10),trivial⟩ ?_
   refine Runs.sR hE ⟨[(0,(.os 0 0 rpdqsortOrder.length)),(1,(aI (w64 (rpartitionOrd.1+1)))),(2,(aI b2)),(3,(aI limit3)),(8,(aB (decide ((w64 (rpartitionOrd.1 - a2))≥(w64 ((w64 (b2 - a2)).tdiv 8)))))),(9,(aB rpartitionOrd.2.1))],[(0,aO 1 cI 0 rpdqsortOrder)],849⟩ (C_17 3735547) [] [] (kp [0,1,2,3,8,9]) (kq [0]) 849 [] trivial ?_
   refine Runs.sA 2 [.code (C_17 28),.inLoop (C_17 28),.inBlock 0] ?_
   exact Runs.sW hE _ [] (kp [0,1,2,3,8,9]) (kq [0]) 1 [] trivial (hK_g_slices_pdqsortOrdered_int_L1 rpdqsortOrder (w64 (rpartitionOrd.1+1)) b2 limit3 (decide ((w64 (rpartitionOrd.1 - a2))≥(w64 ((w64 (b2 - a2)).tdiv 8)))) rpartitionOrd.2.1 _ h E hE)
  ·have h:=condF h hq9
   refine Runs.sA 1 [.code (C_17 1867774),.code (C_17 1867775),.inBlock 1,.inLoop (C_17 28),.inBlock 0] ?_
   refine Runs.sR hE ⟨[(0,(.os 0 0 rpartitionOrd.2.2.length)),(1,(aI a2)),(2,(aI b2)),(3,(aI limit3)),(8,(aB (decide ((w64 (b2 - rpartitionOrd.1))≥(w64 ((w64 (b2 - a2)).tdiv 8)))))),(9,(aB rpartitionOrd.2.1)),(14,(aI rpartitionOrd.1))],[(0,aO 1 cI 0 rpartitionOrd.2.2)],721⟩ (C_17 1867774) [] [] (kp [0,1,2,3,8,9,14]) (kq [0]) 721 [] trivial ?_
   refine Runs.sA 1 [.code (C_17 3735550),.code (C_17 3735551),.inBlock 1,.inLoop (C_17 28),.inBlock 0] ?_
   obtain ⟨rpdqsortOrder2,hr11,h⟩:=bindSome h
   obtain ⟨c11,h⟩:=ifSome h
   refine Runs.sR hE ⟨[(0,(.os 0 0 rpdqsortOrder2.length)),(1,(aI a2)),(3,(aI limit3)),(8,(aB (decide ((w64 (b2 - rpartitionOrd.1))≥(w64 ((w64 (b2 - a2)).tdiv 8)))))),(9,(aB rpartitionOrd.2.1)),(14,(aI rpartitionOrd.1))],[(0,aO 1 cI 0 rpdqsortOrder2)],817⟩ (C_17 3735550) [(5,⟨[0],false,(.tup []),[(0,aO 1 cI 0 rpdqsortOrder2)],0,false,none⟩)] [] ([(0,.osl (rpdqsortOrder2.length))] ++ kp [1,3,8,9,14]) (kq [0]) 817 [Sound Try.prog 66 [(.os 0 0 rpartitionOrd.2.2.length),(aI (w64 (rpartitionOrd.1+1))),(aI b2),(aI limit3)] [(0,aO 1 cI 0 rpartitionOrd.2.2)] 1 (.tup []) [(0,aO 1 cI 0 rpdqsortOrder2)],rpartitionOrd.2.2.length=rpdqsortOrder2.length] ⟨(hR_ (w64 (rpartitionOrd.1+1)) b2 limit3 rpartitionOrd.2.2 rpdqsortOrder2 hr11),(Eq.symm c11),trivial⟩ ?_
   refine Runs.sR hE ⟨[(0,(.os 0 0 rpdqsortOrder2.length)),(1,(aI a2)),(2,(aI rpartitionOrd.1)),(3,(aI limit3)),(8,(aB (decide ((w64 (b2 - rpartitionOrd.1))≥(w64 ((w64 (b2 - a2)).tdiv 8)))))),(9,(aB rpartitionOrd.2.1))],[(0,aO 1 cI 0 rpdqsortOrder2)],849⟩ (C_17 3735551) [] [] (kp [0,1,2,3,8,9]) (kq [0]) 849 [] trivial ?_
   refine Runs.sA 2 [.code (C_17 28),.inLoop (C_17 28),.inBlock 0] ?_
   exact Runs.sW hE _ [] (kp [0,1,2,3,8,9]) (kq [0]) 1 [] trivial (hK_g_slices_pdqsortOrdered_int_L1 rpdqsortOrder2 a2 rpartitionOrd.1 limit3 (decide ((w64 (b2 - rpartitionOrd.1))≥(w64 ((w64 (b2 - a2)).tdiv 8)))) rpartitionOrd.2.1 _ h E hE)
theorem g_slices_pdqsortOrdered_int_J3_ok (N:Nat) (a2:Int) (b2:Int) (wasBalanced:Bool) (wasPartitioned:Bool) (limit3:Int) (R_:Int→Int→Int→(List Int)→Option ((List Int))) (K_g_slices_pdqsortOrdered_int_L1:(List Int)→Int→Int→Int→Bool→Bool→Option ((List Int)))
  (hR_:∀ (a:Int) (b:Int) (limit:Int) (cap0:List Int) (r:(List Int)),R_ a b limit cap0=some r→Sound Try.prog 66 [(.os 0 0 cap0.length),(aI a),(aI b),(aI limit)] [(0,aO 1 cI 0 cap0)] 1 (.tup []) [(0,aO 1 cI 0 r)])
  (hK_g_slices_pdqsortOrdered_int_L1:∀ (cap02:List Int) (a2:Int) (b2:Int) (limit2:Int) (wasBalanced:Bool) (wasPartitioned:Bool) (r:(List Int)),K_g_slices_pdqsortOrdered_int_L1 cap02 a2 b2 limit2 wasBalanced wasPartitioned=some r→∀ E,EnvOk E 1→Runs Try.prog E 66 134 (SPost E [(0,aO 1 cI 0 r)] (.tup [])) [.code (C_17 28),.inLoop (C_17 28),.inBlock 0] ⟨[(0,(.os 0 0 cap02.length)),(1,(aI a2)),(2,(aI b2)),(3,(aI limit2)),(8,(aB wasBalanced)),(9,(aB wasPartitioned))],[(0,aO 1 cI 0 cap02)],1⟩) (cap04:List Int) (pivot:Int) (hint:Int) (r:(List Int)) (h:g_slices_pdqsortOrdered_int_J3 N a2 b2 wasBalanced wasPartitioned limit3 R_ K_g_slices_pdqsortOrdered_int_L1 cap04 pivot hint=some r):∀ E,EnvOk E 1→Runs Try.prog E 66 134 (SPost E [(0,aO 1 cI 0 r)] (.tup [])) [.code (C_17 14588),.code (C_17 14589),.code (C_17 7295),.inBlock 1,.inLoop (C_17 28),.inBlock 0] ⟨[(0,(.os 0 0 cap04.length)),(1,(aI a2)),(2,(aI b2)),(3,(aI limit3)),(8,(aB wasBalanced)),(9,(aB wasPartitioned)),(10,(aI (w64 (b2 - a2)))),(11,(aI pivot)),(12,(aI hint))],[(0,aO 1 cI 0 cap04)],1⟩:=by
 intro E hE
 unfold g_slices_pdqsortOrdered_int_J3 at h
 refine Runs.sR hE ⟨[(0,(.os 0 0 cap04.length)),(1,(aI a2)),(2,(aI b2)),(3,(aI limit3)),(8,(aB wasBalanced)),(9,(aB wasPartitioned)),(10,(aI (w64 (b2 - a2)))),(11,(aI pivot)),(68,(aB (cond (cond wasBalanced wasPartitioned false) (hint == 1) false)))],[(0,aO 1 cI 0 cap04)],129⟩ (C_17 14588) [] [] (kp [0,1,2,3,8,9,10,11,68]) (kq [0]) 129 [wasBalanced=true→AllP [wasBalanced=true],(cond wasBalanced wasPartitioned false)=true→AllP [(cond wasBalanced wasPartitioned false)=true],(cond wasBalanced wasPartitioned false)=true→AllP [(cond wasBalanced wasPartitioned false)=true]] ⟨(fun hq=>⟨hq,trivial⟩),(fun hg=>⟨hg,trivial⟩),(fun hq=>⟨hq,trivial⟩),trivial⟩ ?_
 refine Runs.sC 68 (C_17 29178) (C_17 29179) (cond (cond wasBalanced wasPartitioned false) (hint == 1) false) (fun hq6=>?_) (fun hq6=>?_)
 ·have h:=condT h hq6
  refine Runs.sA 1 [.code (C_17 58356),.code (C_17 58357),.code (C_17 7295),.inBlock 1,.inLoop (C_17 28),.inBlock 0] ?_
  obtain ⟨rpartialInser,hr6,h⟩:=bindSome h
  obtain ⟨c5,h⟩:=ifSome h
  refine Runs.sR hE ⟨[(0,(.os 0 0 rpartialInser.2.length)),(1,(aI a2)),(2,(aI b2)),(3,(aI limit3)),(8,(aB wasBalanced)),(9,(aB wasPartitioned)),(10,(aI (w64 (b2 - a2)))),(11,(aI pivot)),(72,(aB rpartialInser.1))],[(0,aO 1 cI 0 rpartialInser.2)],193⟩ (C_17 58356) [(3,⟨[0],false,(aB rpartialInser.1),[(0,aO 1 cI 0 rpartialInser.2)],0,false,none⟩)] [] ([(0,.osl (rpartialInser.2.length))] ++ kp [1,2,3,8,9,10,11,72]) (kq [0]) 193 [Sound Try.prog 89 [(.os 0 0 cap04.length),(aI a2),(aI b2)] [(0,aO 1 cI 0 cap04)] 1 (aB rpartialInser.1) [(0,aO 1 cI 0 rpartialInser.2)],cap04.length=rpartialInser.2.length] ⟨(g_slices_partialInsertionSortOrdered_int_ok N a2 b2 cap04 rpartialInser hr6),(Eq.symm c5),trivial⟩ ?_
  refine Runs.sC 72 (C_17 116714) (C_17 116715) rpartialInser.1 (fun hq7=>?_) (fun hq7=>?_)
  ·have h:=condT h hq7
   obtain rfl:=Option.some.inj h
   refine Runs.sW hE ⟨[],[(0,aO 1 cI 0 rpartialInser.2)],193⟩ [] [] (kq [0]) 193 [] trivial ?_
   exact Runs.sT Try.f66 [] [] trivial
  ·have h:=condF h hq7
   refine Runs.sA 3 [.code (C_17 29180),.code (C_17 29181),.code (C_17 14591),.inBlock 1,.inLoop (C_17 28),.inBlock 0] ?_
   exact Runs.sW hE _ [] (kp [0,1,2,3,8,9,10,11]) (kq [0]) 1 [] trivial (g_slices_pdqsortOrdered_int_J4_ok N a2 b2 wasBalanced wasPartitioned limit3 pivot R_ K_g_slices_pdqsortOrdered_int_L1 hR_ hK_g_slices_pdqsortOrdered_int_L1 rpartialInser.2 _ h E hE)
 ·have h:=condF h hq6
  refine Runs.sA 3 [.code (C_17 29180),.code (C_17 29181),.code (C_17 14591),.inBlock 1,.inLoop (C_17 28),.inBlock 0] ?_
  exact Runs.sW hE _ [] (kp [0,1,2,3,8,9,10,11]) (kq [0]) 1 [] trivial (g_slices_pdqsortOrdered_int_J4_ok N a2 b2 wasBalanced wasPartitioned limit3 pivot R_ K_g_slices_pdqsortOrdered_int_L1 hR_ hK_g_slices_pdqsortOrdered_int_L1 cap04 _ h E hE)
theorem g_slices_pdqsortOrdered_int_J2_ok (N:Nat) (a2:Int) (b2:Int) (wasBalanced:Bool) (wasPartitioned:Bool) (R_:Int→Int→Int→(List Int)→Option ((List Int))) (K_g_slices_pdqsortOrdered_int_L1:(List Int)→Int→Int→Int→Bool→Bool→Option ((List Int)))
  (hR_:∀ (a:Int) (b:Int) (limit:Int) (cap0:List Int) (r:(List Int)),R_ a b limit cap0=some r→Sound Try.prog 66 [(.os 0 0 cap0.length),(aI a),(aI b),(aI limit)] [(0,aO 1 cI 0 cap0)] 1 (.tup []) [(0,aO 1 cI 0 r)])
  (hK_g_slices_pdqsortOrdered_int_L1:∀ (cap02:List Int) (a2:Int) (b2:Int) (limit2:Int) (wasBalanced:Bool) (wasPartitioned:Bool) (r:(List Int)),K_g_slices_pdqsortOrdered_int_L1 cap02 a2 b2 limit2 wasBalanced wasPartitioned=some r→∀ E,EnvOk E 1→Runs Try.prog E 66 134 (SPost E [(0,aO 1 cI 0 r)] (.tup [])) [.code (C_17 28),.inLoop (C_17 28),.inBlock 0] ⟨[(0,(.os 0 0 cap02.length)),(1,(aI a2)),(2,(aI b2)),(3,(aI limit2)),(8,(aB wasBalanced)),(9,(aB wasPartitioned))],[(0,aO 1 cI 0 cap02)],1⟩) (cap03:List Int) (limit3:Int) (r:(List Int)) (h:g_slices_pdqsortOrdered_int_J2 N a2 b2 wasBalanced wasPartitioned R_ K_g_slices_pdqsortOrdered_int_L1 cap03 limit3=some r):∀ E,EnvOk E 1→Runs Try.prog E 66 134 (SPost E [(0,aO 1 cI 0 r)] (.tup [])) [.code (C_17 1822),.code (C_17 1823),.inBlock 1,.inLoop (C_17 28),.inBlock 0] ⟨[(0,(.os 0 0 cap03.length)),(1,(aI a2)),(2,(aI b2)),(3,(aI limit3)),(8,(aB wasBalanced)),(9,(aB wasPartitioned)),(10,(aI (w64 (b2 - a2))))],[(0,aO 1 cI 0 cap03)],1⟩:=by
 intro E hE
 unfold g_slices_pdqsortOrdered_int_J2 at h
 obtain ⟨rchoosePivotO,hr4,h⟩:=bindSome h
 refine Runs.sR hE ⟨[(0,(.os 0 0 cap03.length)),(1,(aI a2)),(2,(aI b2)),(3,(aI limit3)),(8,(aB wasBalanced)),(9,(aB wasPartitioned)),(10,(aI (w64 (b2 - a2)))),(11,(aI rchoosePivotO.1)),(12,(aI rchoosePivotO.2))],[(0,aO 1 cI 0 cap03)],145⟩ (C_17 1822) [(3,⟨[],true,(.tup [(aI rchoosePivotO.1),(aI rchoosePivotO.2)]),[],0,false,none⟩)] [] (kp [0,1,2,3,8,9,10,11,12]) (kq [0]) 145 [Sound Try.prog 87 [(encL cI 0 cap03),(aI a2),(aI b2)] [] 0 (.tup [(aI rchoosePivotO.1),(aI rchoosePivotO.2)]) [],0+cap03.length≤cap03.length] ⟨(g_slices_choosePivotOrdered_int_ok N cap03 a2 b2 rchoosePivotO hr4),z0,trivial⟩ ?_
 refine Runs.sA 2 [.code (C_17 7292),.code (C_17 7293),.code (C_17 3647),.inBlock 1,.inLoop (C_17 28),.inBlock 0] ?_
 refine Runs.sR hE ⟨[(0,(.os 0 0 cap03.length)),(1,(aI a2)),(2,(aI b2)),(3,(aI limit3)),(8,(aB wasBalanced)),(9,(aB wasPartitioned)),(10,(aI (w64 (b2 - a2)))),(11,(aI rchoosePivotO.1)),(12,(aI rchoosePivotO.2)),(50,(aB (rchoosePivotO.2 == 2)))],[(0,aO 1 cI 0 cap03)],177⟩ (C_17 7292) [] [] (kp [0,1,2,3,8,9,10,11,12,50]) (kq [0]) 177 [] trivial ?_
 refine Runs.sC 50 (C_17 14586) (C_17 14587) (rchoosePivotO.2 == 2) (fun hq5=>?_) (fun hq5=>?_)
 ·have h:=condT h hq5
  refine Runs.sA 1 [.code (C_17 29172),.code (C_17 29173),.code (C_17 3647),.inBlock 1,.inLoop (C_17 28),.inBlock 0] ?_
  obtain ⟨rreverseRange,hr5,h⟩:=bindSome h
  obtain ⟨c4,h⟩:=ifSome h
  refine Runs.sR hE ⟨[(0,(.os 0 0 rreverseRange.length)),(1,(aI a2)),(2,(aI b2)),(3,(aI limit3)),(8,(aB wasBalanced)),(9,(aB wasPartitioned)),(10,(aI (w64 (b2 - a2)))),(11,(aI rchoosePivotO.1))],[(0,aO 1 cI 0 rreverseRange)],241⟩ (C_17 29172) [(3,⟨[0],false,(.tup []),[(0,aO 1 cI 0 rreverseRange)],0,false,none⟩)] [] ([(0,.osl (rreverseRange.length))] ++ kp [1,2,3,8,9,10,11]) (kq [0]) 241 [Sound Try.prog 88 [(.os 0 0 cap03.length),(aI a2),(aI b2)] [(0,aO 1 cI 0 cap03)] 1 (.tup []) [(0,aO 1 cI 0 rreverseRange)],cap03.length=rreverseRange.length] ⟨(g_slices_reverseRangeOrdered_int_ok N a2 b2 cap03 rreverseRange hr5),(Eq.symm c4),trivial⟩ ?_
  refine Runs.sA 1 [.code (C_17 58346),.code (C_17 58347),.code (C_17 3647),.inBlock 1,.inLoop (C_17 28),.inBlock 0] ?_
  refine Runs.sR hE ⟨[(0,(.os 0 0 rreverseRange.length)),(1,(aI a2)),(2,(aI b2)),(3,(aI limit3)),(8,(aB wasBalanced)),(9,(aB wasPartitioned)),(10,(aI (w64 (b2 - a2)))),(11,(aI (w64 ((w64 (b2 - 1)) - (w64 (rchoosePivotO.1 - a2))))))],[(0,aO 1 cI 0 rreverseRange)],353⟩ (C_17 58346) [] [] (kp [0,1,2,3,8,9,10,11]) (kq [0]) 353 [] trivial ?_
  refine Runs.sR hE ⟨[(0,(.os 0 0 rreverseRange.length)),(1,(aI a2)),(2,(aI b2)),(3,(aI limit3)),(8,(aB wasBalanced)),(9,(aB wasPartitioned)),(10,(aI (w64 (b2 - a2)))),(11,(aI (w64 ((w64 (b2 - 1)) - (w64 (rchoosePivotO.1 - a2)))))),(12,(aI 1))],[(0,aO 1 cI 0 rreverseRange)],369⟩ (C_17 58347) [] [] (kp [0,1,2,3,8,9,10,11,12]) (kq [0]) 369 [] trivial ?_
  refine Runs.sA 2 [.code (C_17 14588),.code (C_17 14589),.code (C_17 7295),.inBlock 1,.inLoop (C_17 28),.inBlock 0] ?_
  exact Runs.sW hE _ [] (kp [0,1,2,3,8,9,10,11,12]) (kq [0]) 1 [] trivial (g_slices_pdqsortOrdered_int_J3_ok N a2 b2 wasBalanced wasPartitioned limit3 R_ K_g_slices_pdqsortOrdered_int_L1 hR_ hK_g_slices_pdqsortOrdered_int_L1 rreverseRange (w64 ((w64 (b2 - 1)) - (w64 (rchoosePivotO.1 - a2)))) 1 _ h E hE)
 ·have h:=condF h hq5
  refine Runs.sA 3 [.code (C_17 14588),.code (C_17 14589),.code (C_17 7295),.inBlock 1,.inLoop (C_17 28),.inBlock 0] ?_
  exact Runs.sW hE _ [] (kp [0,1,2,3,8,9,10,11,12]) (kq [0]) 1 [] trivial (g_slices_pdqsortOrdered_int_J3_ok N a2 b2 wasBalanced wasPartitioned limit3 R_ K_g_slices_pdqsortOrdered_int_L1 hR_ hK_g_slices_pdqsortOrdered_int_L1 cap03 rchoosePivotO.1 rchoosePivotO.2 _ h E hE)
theorem g_slices_pdqsortOrdered_int_L1_ok (N:Nat) (R_:Int→Int→Int→(List Int)→Option ((List Int)))
  (hR_:∀ (a:Int) (b:Int) (limit:Int) (cap0:List Int) (r:(List Int)),R_ a b limit cap0=some r→Sound Try.prog 66 [(.os 0 0 cap0.length),(aI a),(aI b),(aI limit)] [(0,aO 1 cI 0 cap0)] 1 (.tup []) [(0,aO 1 cI 0 r)]) (fuel:Nat):∀ (cap02:List Int) (a2:Int) (b2:Int) (limit2:Int) (wasBalanced:Bool) (wasPartitioned:Bool) (r:(List Int)),g_slices_pdqsortOrdered_int_L1 N R_ fuel cap02 a2 b2 limit2 wasBalanced wasPartitioned=some r→∀ E,EnvOk E 1→Runs Try.prog E 66 134 (SPost E [(0,aO 1 cI 0 r)] (.tup [])) [.code (C_17 28),.inLoop (C_17 28),.inBlock 0] ⟨[(0,(.os 0 0 cap02.length)),(1,(aI a2)),(2,(aI b2)),(3,(aI limit2)),(8,(aB wasBalanced)),(9,(aB wasPartitioned))],[(0,aO 1 cI 0 cap02)],1⟩:=by
 induction fuel with
 | zero=>intro _ _ _ _ _ _ r h;rw [g_slices_pdqsortOrdered_int_L1.eq_1] at h;cases h
 | succ fuel ih =>
  intro cap02 a2 b2 limit2 wasBalanced wasPartitioned r h E hE
  rw [g_slices_pdqsortOrdered_int_L1.eq_2] at h
  refine Runs.sA 2 [.code (C_17 112),.code (C_17 113),.inBlock 1,.inLoop (C_17 28),.inBlock 0] ?_
  refine Runs.sR hE ⟨[(0,(.os 0 0 cap02.length)),(1,(aI a2)),(2,(aI b2)),(3,(aI limit2)),(8,(aB wasBalanced)),(9,(aB wasPartitioned)),(10,(aI (w64 (b2 - a2))))],[(0,aO 1 cI 0 cap02)],65⟩ (C_17 112) [] [] (kp [0,1,2,3,8,9,10]) (kq [0]) 65 [] trivial ?_
  refine Runs.sA 2 [.code (C_17 452),.code (C_17 453),.code (C_17 227),.inBlock 1,.inLoop (C_17 28),.inBlock 0] ?_
  refine Runs.sR hE ⟨[(0,(.os 0 0 cap02.length)),(1,(aI a2)),(2,(aI b2)),(3,(aI limit2)),(8,(aB wasBalanced)),(9,(aB wasPartitioned)),(10,(aI (w64 (b2 - a2)))),(23,(aB (decide ((w64 (b2 - a2))≤12))))],[(0,aO 1 cI 0 cap02)],97⟩ (C_17 452) [] [] (kp [0,1,2,3,8,9,10,23]) (kq [0]) 97 [] trivial ?_
  refine Runs.sC 23 (C_17 906) (C_17 907) (decide ((w64 (b2 - a2))≤12)) (fun hq2=>?_) (fun hq2=>?_)
  ·have h:=condT h hq2
   refine Runs.sA 1 [.code (C_17 1812),.code (C_17 1813),.code (C_17 227),.inBlock 1,.inLoop (C_17 28),.inBlock 0] ?_
   obtain ⟨rinsertionSor,hr,h⟩:=bindSome h
   obtain ⟨c,h⟩:=ifSome h
   refine Runs.sR hE ⟨[],[(0,aO 1 cI 0 rinsertionSor)],161⟩ (C_17 1812) [(3,⟨[0],false,(.tup []),[(0,aO 1 cI 0 rinsertionSor)],0,false,none⟩)] [] [] (kq [0]) 161 [Sound Try.prog 84 [(.os 0 0 cap02.length),(aI a2),(aI b2)] [(0,aO 1 cI 0 cap02)] 1 (.tup []) [(0,aO 1 cI 0 rinsertionSor)]] ⟨(g_slices_insertionSortOrdered_int_ok N a2 b2 cap02 rinsertionSor hr),trivial⟩ ?_
   obtain rfl:=Option.some.inj h
   refine Runs.sW hE ⟨[],[(0,aO 1 cI 0 rinsertionSor)],161⟩ [] [] (kq [0]) 161 [] trivial ?_
   exact Runs.sT Try.f66 [] [] trivial
  ·have h:=condF h hq2
   refine Runs.sA 3 [.code (C_17 908),.code (C_17 909),.code (C_17 455),.inBlock 1,.inLoop (C_17 28),.inBlock 0] ?_
   refine Runs.sR hE ⟨[(0,(.os 0 0 cap02.length)),(1,(aI a2)),(2,(aI b2)),(3,(aI limit2)),(8,(aB wasBalanced)),(9,(aB wasPartitioned)),(10,(aI (w64 (b2 - a2)))),(29,(aB (limit2 == 0)))],[(0,aO 1 cI 0 cap02)],129⟩ (C_17 908) [] [] (kp [0,1,2,3,8,9,10,29]) (kq [0]) 129 [] trivial ?_
   refine Runs.sC 29 (C_17 1818) (C_17 1819) (limit2 == 0) (fun hq3=>?_) (fun hq3=>?_)
   ·have h:=condT h hq3
    refine Runs.sA 1 [.code (C_17 3636),.code (C_17 3637),.code (C_17 455),.inBlock 1,.inLoop (C_17 28),.inBlock 0] ?_
    obtain ⟨rheapSortOrde,hr2,h⟩:=bindSome h
    obtain ⟨c2,h⟩:=ifSome h
    refine Runs.sR hE ⟨[],[(0,aO 1 cI 0 rheapSortOrde)],193⟩ (C_17 3636) [(3,⟨[0],false,(.tup []),[(0,aO 1 cI 0 rheapSortOrde)],0,false,none⟩)] [] [] (kq [0]) 193 [Sound Try.prog 85 [(.os 0 0 cap02.length),(aI a2),(aI b2)] [(0,aO 1 cI 0 cap02)] 1 (.tup []) [(0,aO 1 cI 0 rheapSortOrde)]] ⟨(g_slices_heapSortOrdered_int_ok N a2 b2 cap02 rheapSortOrde hr2),trivial⟩ ?_
    obtain rfl:=Option.some.inj h
    refine Runs.sW hE ⟨[],[(0,aO 1 cI 0 rheapSortOrde)],193⟩ [] [] (kq [0]) 193 [] trivial ?_
    exact Runs.sT Try.f66 [] [] trivial
   ·have h:=condF h hq3
    refine Runs.sA 3 [.code (C_17 1820),.code (C_17 1821),.code (C_17 911),.inBlock 1,.inLoop (C_17 28),.inBlock 0] ?_
    refine Runs.sR hE ⟨[(0,(.os 0 0 cap02.length)),(1,(aI a2)),(2,(aI b2)),(3,(aI limit2)),(8,(aB wasBalanced)),(9,(aB wasPartitioned)),(10,(aI (w64 (b2 - a2)))),(35,(aB (!wasBalanced)))],[(0,aO 1 cI 0 cap02)],161⟩ (C_17 1820) [] [] (kp [0,1,2,3,8,9,10,35]) (kq [0]) 161 [] trivial ?_
    refine Runs.sC 35 (C_17 3642) (C_17 3643) (!wasBalanced) (fun hq4=>?_) (fun hq4=>?_)
    ·have h:=condT h hq4
     refine Runs.sA 1 [.code (C_17 7284),.code (C_17 7285),.code (C_17 911),.inBlock 1,.inLoop (C_17 28),.inBlock 0] ?_
     obtain ⟨rbreakPattern,hr3,h⟩:=bindSome h
     obtain ⟨c3,h⟩:=ifSome h
     refine Runs.sR hE ⟨[(0,(.os 0 0 rbreakPattern.length)),(1,(aI a2)),(2,(aI b2)),(3,(aI limit2)),(8,(aB wasBalanced)),(9,(aB wasPartitioned)),(10,(aI (w64 (b2 - a2))))],[(0,aO 1 cI 0 rbreakPattern)],225⟩ (C_17 7284) [(3,⟨[0],false,(.tup []),[(0,aO 1 cI 0 rbreakPattern)],0,false,none⟩)] [] ([(0,.osl (rbreakPattern.length))] ++ kp [1,2,3,8,9,10]) (kq [0]) 225 [Sound Try.prog 86 [(.os 0 0 cap02.length),(aI a2),(aI b2)] [(0,aO 1 cI 0 cap02)] 1 (.tup []) [(0,aO 1 cI 0 rbreakPattern)],cap02.length=rbreakPattern.length] ⟨(g_slices_breakPatternsOrdered_int_ok N a2 b2 cap02 rbreakPattern hr3),(Eq.symm c3),trivial⟩ ?_
     refine Runs.sR hE ⟨[(0,(.os 0 0 rbreakPattern.length)),(1,(aI a2)),(2,(aI b2)),(3,(aI (w64 (limit2 - 1)))),(8,(aB wasBalanced)),(9,(aB wasPartitioned)),(10,(aI (w64 (b2 - a2))))],[(0,aO 1 cI 0 rbreakPattern)],273⟩ (C_17 7285) [] [] (kp [0,1,2,3,8,9,10]) (kq [0]) 273 [] trivial ?_
     refine Runs.sA 1 [.code (C_17 1822),.code (C_17 1823),.inBlock 1,.inLoop (C_17 28),.inBlock 0] ?_
     exact Runs.sW hE _ [] (kp [0,1,2,3,8,9,10]) (kq [0]) 1 [] trivial (g_slices_pdqsortOrdered_int_J2_ok N a2 b2 wasBalanced wasPartitioned R_ (g_slices_pdqsortOrdered_int_L1 N R_ fuel) hR_ ih rbreakPattern (w64 (limit2 - 1)) _ h E hE)
    ·have h:=condF h hq4
     refine Runs.sA 2 [.code (C_17 1822),.code (C_17 1823),.inBlock 1,.inLoop (C_17 28),.inBlock 0] ?_
     exact Runs.sW hE _ [] (kp [0,1,2,3,8,9,10]) (kq [0]) 1 [] trivial (g_slices_pdqsortOrdered_int_J2_ok N a2 b2 wasBalanced wasPartitioned R_ (g_slices_pdqsortOrdered_int_L1 N R_ fuel) hR_ ih cap02 limit2 _ h E hE)
theorem g_slices_pdqsortOrdered_int_ok (N:Nat) (fuel:Nat):∀ (a:Int) (b:Int) (limit:Int) (cap0:List Int) (r:(List Int)),g_slices_pdqsortOrdered_int N fuel a b limit cap0=some r→Sound Try.prog 66 [(.os 0 0 cap0.length),(aI a),(aI b),(aI limit)] [(0,aO 1 cI 0 cap0)] 1 (.tup []) [(0,aO 1 cI 0 r)]:=by
 induction fuel with
 | zero=>intro _ _ _ _ r h;rw [g_slices_pdqsortOrdered_int.eq_1] at h;cases h
 | succ fuel ih =>
  intro a b limit cap0 r h
  rw [g_slices_pdqsortOrdered_int.eq_2] at h
  refine Sound.of_runs (fu:=Try.f66) (c:=C_17 1) (nt:=134) (by kernel_rfl) (by kernel_rfl) (by kernel_rfl) (by kernel_rfl) (fun hm=>absurd hm (by decide)) ?_
  intro E hE
  refine Runs.sA 1 [.code (C_17 2),.code (C_17 3)] ?_
  refine Runs.sR hE ⟨[(0,(.os 0 0 cap0.length)),(1,(aI a)),(2,(aI b)),(3,(aI limit)),(8,(aB true))],[(0,aO 1 cI 0 cap0)],17⟩ (C_17 2) [] [] (kp [0,1,2,3,8]) (kq [0]) 17 [] trivial ?_
  refine Runs.sA 1 [.code (C_17 6),.code (C_17 7)] ?_
  refine Runs.sR hE ⟨[(0,(.os 0 0 cap0.length)),(1,(aI a)),(2,(aI b)),(3,(aI limit)),(8,(aB true)),(9,(aB true))],[(0,aO 1 cI 0 cap0)],33⟩ (C_17 6) [] [] (kp [0,1,2,3,8,9]) (kq [0]) 33 [] trivial ?_
  refine Runs.sA 2 [.code (C_17 28),.inLoop (C_17 28),.inBlock 0] ?_
  exact Runs.sW hE _ [] (kp [0,1,2,3,8,9]) (kq [0]) 1 [] trivial (g_slices_pdqsortOrdered_int_L1_ok N (g_slices_pdqsortOrdered_int N fuel) ih N cap0 a b limit true true _ h E hE)
noncomputable def C_14 (n:Nat):Code:=cat (bodyOf Try.f31) (pth n)
theorem g_slices_Sort_int_int_ok (N:Nat) (cap0:List Int) (r:(List Int)) (h:g_slices_Sort_int_int N cap0=some r):Sound Try.prog 31 [(.os 0 0 cap0.length)] [(0,aO 1 cI 0 cap0)] 1 (.tup []) [(0,aO 1 cI 0 r)]:=by
 unfold g_slices_Sort_int_int at h
 refine Sound.of_runs (fu:=Try.f31) (c:=C_14 1) (nt:=11) (by kernel_rfl) (by kernel_rfl) (by kernel_rfl) (by kernel_rfl) (fun hm=>absurd hm (by decide)) ?_
 intro E hE
 refine Runs.sA 1 [.code (C_14 2),.code (C_14 3)] ?_
 refine Runs.sR hE ⟨[(0,(.os 0 0 cap0.length)),(2,(aI ((cap0.length:Nat):Int)))],[(0,aO 1 cI 0 cap0)],49⟩ (C_14 2) [] [] (kp [0,2]) (kq [0]) 49 [] trivial ?_
 obtain ⟨rLen,hr,h⟩:=bindSome h
 obtain ⟨rpdqsortOrder,hr2,h⟩:=bindSome h
 obtain ⟨c,h⟩:=ifSome h
 refine Runs.sR hE ⟨[],[(0,aO 1 cI 0 rpdqsortOrder)],145⟩ (C_14 3) [(4,⟨[],true,(aI rLen),[],0,false,none⟩),(5,⟨[0],false,(.tup []),[(0,aO 1 cI 0 rpdqsortOrder)],0,false,none⟩)] [] [] (kq [0]) 145 [Sound Try.prog 67 [(.atom (.int .u64 (IntKind.u64.wrap (((cap0.length:Nat):Int)))))] [] 0 (aI rLen) [],Sound Try.prog 66 [(.os 0 0 cap0.length),(aI 0),(aI ((cap0.length:Nat):Int)),(aI rLen)] [(0,aO 1 cI 0 cap0)] 1 (.tup []) [(0,aO 1 cI 0 rpdqsortOrder)]] ⟨(g_math_bits_Len_ok N (IntKind.u64.wrap (((cap0.length:Nat):Int))) rLen hr),(g_slices_pdqsortOrdered_int_ok N N 0 ((cap0.length:Nat):Int) rLen cap0 rpdqsortOrder hr2),trivial⟩ ?_
 obtain rfl:=Option.some.inj h
 refine Runs.sW hE ⟨[],[(0,aO 1 cI 0 rpdqsortOrder)],145⟩ [] [] (kq [0]) 145 [] trivial ?_
 exact Runs.sF Try.f31 [] [] trivial
noncomputable def C_37 (n:Nat):Code:=cat (bodyOf Try.f65) (pth n)
theorem g_water_tide_1_ok (N:Nat) (i:Int) (cap0:List TMark) (cap1:Int) (r:Bool) (h:g_water_tide_1 N i cap0 cap1=some r):Sound Try.prog 65 [(aI i),(.op 0 0 0),(.op 1 0 0)] [(0,vO 1 [(encL TMark.cells TMark.d cap0)]),(1,vO 1 [(aI cap1)])] 2 (aB r) [(0,vO 1 [(encL TMark.cells TMark.d cap0)]),(1,vO 1 [(aI cap1)])]:=by
 unfold g_water_tide_1 at h
 refine Sound.of_runs (fu:=Try.f65) (c:=C_37 1) (nt:=12) (by kernel_rfl) (by kernel_rfl) (by kernel_rfl) (by kernel_rfl) (fun hm=>absurd hm (by decide)) ?_
 intro E hE
 refine Runs.sA 1 [.code (C_37 2),.code (C_37 3)] ?_
 refine Runs.sR hE ⟨[(0,(aI i)),(1,(.op 0 0 0)),(2,(.op 1 0 0))],[(0,vO 1 [(encL TMark.cells TMark.d cap0)]),(1,vO 1 [(aI cap1)])],18⟩ (C_37 2) [] [] (kp [0,1,2]) (kq [0,1]) 18 [] trivial ?_
 refine Runs.sA 1 [.code (C_37 6),.code (C_37 7)] ?_
 obtain ⟨c,h⟩:=ifSome h
 refine Runs.sR hE ⟨[(4,(aB (decide ((cap0.getD ((i).toNat) TMark.d).f_Minute > cap1))))],[(0,vO 1 [(encL TMark.cells TMark.d cap0)]),(1,vO 1 [(aI cap1)])],146⟩ (C_37 6) [] [] (kp [4]) (kq [0,1]) 146 [0 < 1,0≤i∧i < ((cap0.length:Nat):Int),0 < 1] ⟨o1,c,o1,trivial⟩ ?_
 obtain rfl:=Option.some.inj h
 refine Runs.sW hE ⟨[(4,(aB (decide ((cap0.getD ((i).toNat) TMark.d).f_Minute > cap1))))],[(0,vO 1 [(encL TMark.cells TMark.d cap0)]),(1,vO 1 [(aI cap1)])],146⟩ [] (kp [4]) (kq [0,1]) 146 [] trivial ?_
 exact Runs.sT Try.f65 [] [] trivial
noncomputable def C_36 (n:Nat):Code:=cat (bodyOf Try.f33) (pth n)
theorem g_sort_Search_L1_ok (N:Nat) (cap0:List TMark) (cap1:Int) (fuel:Nat):∀ (i:Int) (j:Int) (r:Int),g_sort_Search_L1 N cap0 cap1 fuel i j=some r→∀ E,EnvOk E 2→Runs Try.prog E 33 26 (SPost E [(0,vO 1 [(encL TMark.cells TMark.d cap0)]),(1,vO 1 [(aI cap1)])] (aI r)) [.code (C_36 56),.inLoop (C_36 56),.inBlock 0,.code (C_36 15)] ⟨[(1,(.fn (.func 65) [] [(.op 0 0 0),(.op 1 0 0)])),(5,(aI i)),(6,(aI j))],[(0,vO 1 [(encL TMark.cells TMark.d cap0)]),(1,vO 1 [(aI cap1)])],2⟩:=by
 induction fuel with
 | zero=>intro _ _ r h;rw [g_sort_Search_L1.eq_1] at h;cases h
 | succ fuel ih =>
  intro i j r h E hE
  rw [g_sort_Search_L1.eq_2] at h
  refine Runs.sA 2 [.code (C_36 224),.code (C_36 225),.code (C_36 113),.inLoop (C_36 56),.inBlock 0,.code (C_36 15)] ?_
  refine Runs.sR hE ⟨[(1,(.fn (.func 65) [] [(.op 0 0 0),(.op 1 0 0)])),(5,(aI i)),(6,(aI j)),(11,(aB (decide (i < j))))],[(0,vO 1 [(encL TMark.cells TMark.d cap0)]),(1,vO 1 [(aI cap1)])],50⟩ (C_36 224) [] [] (kp [1,5,6,11]) (kq [0,1]) 50 [] trivial ?_
  refine Runs.sC 11 (C_36 450) (C_36 451) (decide (i < j)) (fun hq2=>?_) (fun hq2=>?_)
  ·have h:=condT h hq2
   refine Runs.sA 3 [.code (C_36 452),.code (C_36 453),.inBlock 1,.inLoop (C_36 56),.inBlock 0,.code (C_36 15)] ?_
   refine Runs.sR hE ⟨[(1,(.fn (.func 65) [] [(.op 0 0 0),(.op 1 0 0)])),(5,(aI i)),(6,(aI j)),(7,(aI (w64 ((shrI .u64 (IntKind.u64.wrap ((w64 (i+j)))) 1)))))],[(0,vO 1 [(encL TMark.cells TMark.d cap0)]),(1,vO 1 [(aI cap1)])],162⟩ (C_36 452) [] [] (kp [1,5,6,7]) (kq [0,1]) 162 [(0:Int)≤1] ⟨(by decide),trivial⟩ ?_
   refine Runs.sA 1 [.code (C_36 906),.code (C_36 907),.inBlock 1,.inLoop (C_36 56),.inBlock 0,.code (C_36 15)] ?_
   obtain ⟨rtide1,hr,h⟩:=bindSome h
   refine Runs.sR hE ⟨[(1,(.fn (.func 65) [] [(.op 0 0 0),(.op 1 0 0)])),(5,(aI i)),(6,(aI j)),(7,(aI (w64 ((shrI .u64 (IntKind.u64.wrap ((w64 (i+j)))) 1))))),(21,(aB (!rtide1)))],[(0,vO 1 [(encL TMark.cells TMark.d cap0)]),(1,vO 1 [(aI cap1)])],226⟩ (C_36 906) [(2,⟨[0,1],true,(aB rtide1),[],0,false,none⟩)] [] (kp [1,5,6,7,21]) (kq [0,1]) 226 [Sound Try.prog 65 [(aI (w64 ((shrI .u64 (IntKind.u64.wrap ((w64 (i+j)))) 1)))),(.op 0 0 0),(.op 1 0 0)] [(0,vO 1 [(encL TMark.cells TMark.d cap0)]),(1,vO 1 [(aI cap1)])] 2 (aB rtide1) [(0,vO 1 [(encL TMark.cells TMark.d cap0)]),(1,vO 1 [(aI cap1)])]] ⟨(g_water_tide_1_ok N (w64 ((shrI .u64 (IntKind.u64.wrap ((w64 (i+j)))) 1))) cap0 cap1 rtide1 hr),trivial⟩ ?_
   refine Runs.sC 21 (C_36 1814) (C_36 1815) (!rtide1) (fun hq3=>?_) (fun hq3=>?_)
   ·have h:=condT h hq3
    refine Runs.sR hE ⟨[(1,(.fn (.func 65) [] [(.op 0 0 0),(.op 1 0 0)])),(5,(aI (w64 ((w64 ((shrI .u64 (IntKind.u64.wrap ((w64 (i+j)))) 1)))+1)))),(6,(aI j))],[(0,vO 1 [(encL TMark.cells TMark.d cap0)]),(1,vO 1 [(aI cap1)])],274⟩ (C_36 1814) [] [] (kp [1,5,6]) (kq [0,1]) 274 [] trivial ?_
    refine Runs.sA 2 [.code (C_36 56),.inLoop (C_36 56),.inBlock 0,.code (C_36 15)] ?_
    exact Runs.sW hE _ [] (kp [1,5,6]) (kq [0,1]) 2 [] trivial (ih (w64 ((w64 ((shrI .u64 (IntKind.u64.wrap ((w64 (i+j)))) 1)))+1)) j _ h E hE)
   ·have h:=condF h hq3
    refine Runs.sR hE ⟨[(1,(.fn (.func 65) [] [(.op 0 0 0),(.op 1 0 0)])),(5,(aI i)),(6,(aI (w64 ((shrI .u64 (IntKind.u64.wrap ((w64 (i+j)))) 1)))))],[(0,vO 1 [(encL TMark.cells TMark.d cap0)]),(1,vO 1 [(aI cap1)])],258⟩ (C_36 1815) [] [] (kp [1,5,6]) (kq [0,1]) 258 [] trivial ?_
    refine Runs.sA 2 [.code (C_36 56),.inLoop (C_36 56),.inBlock 0,.code (C_36 15)] ?_
    exact Runs.sW hE _ [] (kp [1,5,6]) (kq [0,1]) 2 [] trivial (ih i (w64 ((shrI .u64 (IntKind.u64.wrap ((w64 (i+j)))) 1))) _ h E hE)
  ·have h:=condF h hq2
   refine Runs.sA 2 [.code (C_36 30),.code (C_36 31)] ?_
   refine Runs.sR hE ⟨[(4,(aI i))],[(0,vO 1 [(encL TMark.cells TMark.d cap0)]),(1,vO 1 [(aI cap1)])],82⟩ (C_36 30) [] [] (kp [4]) (kq [0,1]) 82 [] trivial ?_
   obtain rfl:=Option.some.inj h
   refine Runs.sW hE ⟨[(4,(aI i))],[(0,vO 1 [(encL TMark.cells TMark.d cap0)]),(1,vO 1 [(aI cap1)])],82⟩ [] (kp [4]) (kq [0,1]) 82 [] trivial ?_
   exact Runs.sT Try.f33 [] [] trivial
theorem g_sort_Search_ok (N:Nat) (n:Int) (cap0:List TMark) (cap1:Int) (r:Int) (h:g_sort_Search N n cap0 cap1=some r):Sound Try.prog 33 [(aI n),(.fn (.func 65) [] [(.op 0 0 0),(.op 1 0 0)])] [(0,vO 1 [(encL TMark.cells TMark.d cap0)]),(1,vO 1 [(aI cap1)])] 2 (aI r) [(0,vO 1 [(encL TMark.cells TMark.d cap0)]),(1,vO 1 [(aI cap1)])]:=by
 unfold g_sort_Search at h
 refine Sound.of_runs (fu:=Try.f33) (c:=C_36 1) (nt:=26) (by kernel_rfl) (by kernel_rfl) (by kernel_rfl) (by kernel_rfl) (fun hm=>absurd hm (by decide)) ?_
 intro E hE
 refine Runs.sA 1 [.code (C_36 2),.code (C_36 3)] ?_
 refine Runs.sR hE ⟨[(0,(aI n)),(1,(.fn (.func 65) [] [(.op 0 0 0),(.op 1 0 0)]))],[(0,vO 1 [(encL TMark.cells TMark.d cap0)]),(1,vO 1 [(aI cap1)])],18⟩ (C_36 2) [] [] (kp [0,1]) (kq [0,1]) 18 [] trivial ?_
 refine Runs.sA 1 [.code (C_36 6),.code (C_36 7)] ?_
 refine Runs.sR hE ⟨[(1,(.fn (.func 65) [] [(.op 0 0 0),(.op 1 0 0)])),(5,(aI 0)),(6,(aI n))],[(0,vO 1 [(encL TMark.cells TMark.d cap0)]),(1,vO 1 [(aI cap1)])],66⟩ (C_36 6) [] [] (kp [1,5,6]) (kq [0,1]) 66 [] trivial ?_
 refine Runs.sA 3 [.code (C_36 56),.inLoop (C_36 56),.inBlock 0,.code (C_36 15)] ?_
 exact Runs.sW hE _ [] (kp [1,5,6]) (kq [0,1]) 2 [] trivial (g_sort_Search_L1_ok N cap0 cap1 N 0 n _ h E hE)
noncomputable def C_35 (n:Nat):Code:=cat (bodyOf Try.f30) (pth n)
theorem g_water_tide_J1_ok (N:Nat) (m:List TMark) (rSearch:Int) (down:Int) (r:Int) (h:g_water_tide_J1 N m rSearch down=some r):∀ E,EnvOk E 0→Runs Try.prog E 30 70 (SPost E [] (aI r)) [.code (C_35 510),.code (C_35 511)] ⟨[(6,(.op 0 0 0)),(10,(aI down))],[(0,vO 2 (TMark.cells (m.getD ((w64 (rSearch - 1)).toNat) TMark.d)))],1⟩:=by
 intro E hE
 unfold g_water_tide_J1 at h
 refine Runs.sR hE ⟨[(4,(aI (w64 ((m.getD ((w64 (rSearch - 1)).toNat) TMark.d).f_Level+down))))],[],81⟩ (C_35 510) [] [] (kp [4]) [] 81 [0 < 1] ⟨o1,trivial⟩ ?_
 obtain rfl:=Option.some.inj h
 refine Runs.sW hE ⟨[(4,(aI (w64 ((m.getD ((w64 (rSearch - 1)).toNat) TMark.d).f_Level+down))))],[],81⟩ [] (kp [4]) [] 81 [] trivial ?_
 exact Runs.sT Try.f30 [] [] trivial
theorem g_water_tide_ok (N:Nat) (m:List TMark) (minute:Int) (r:Int) (h:g_water_tide N m minute=some r):Sound Try.prog 30 [(encL TMark.cells TMark.d m),(aI minute)] [] 0 (aI r) []:=by
 unfold g_water_tide at h
 refine Sound.of_runs (fu:=Try.f30) (c:=C_35 1) (nt:=70) (by kernel_rfl) (by kernel_rfl) (by kernel_rfl) (by kernel_rfl) (fun hm=>rfl) ?_
 intro E hE
 refine Runs.sA 1 [.code (C_35 2),.code (C_35 3)] ?_
 refine Runs.sR hE ⟨[(2,(.op 0 0 0)),(3,(.op 16 0 0))],[(0,vO 1 [(encL TMark.cells TMark.d m)]),(16,vO 1 [(aI minute)])],48⟩ (C_35 2) [] [] (kp [2,3]) (kq [0,16]) 48 [] trivial ?_
 refine Runs.sA 1 [.code (C_35 6),.code (C_35 7)] ?_
 obtain ⟨rSearch,hr,h⟩:=bindSome h
 refine Runs.sR hE ⟨[(2,(.op 0 0 0)),(3,(.op 16 0 0)),(5,(aI rSearch))],[(0,vO 1 [(encL TMark.cells TMark.d m)]),(16,vO 1 [(aI minute)])],128⟩ (C_35 6) [(3,⟨[0,16],true,(aI rSearch),[],0,false,none⟩)] [] (kp [2,3,5]) (kq [0,16]) 128 [0 < 1,Sound Try.prog 33 [(aI ((m.length:Nat):Int)),(.fn (.func 65) [] [(.op 0 0 0),(.op 1 0 0)])] [(0,vO 1 [(encL TMark.cells TMark.d m)]),(1,vO 1 [(aI minute)])] 2 (aI rSearch) [(0,vO 1 [(encL TMark.cells TMark.d m)]),(1,vO 1 [(aI minute)])]] ⟨o1,(g_sort_Search_ok N ((m.length:Nat):Int) m minute rSearch hr),trivial⟩ ?_
 refine Runs.sA 3 [.code (C_35 56),.code (C_35 57),.inBlock 0,.code (C_35 15)] ?_
 refine Runs.sR hE ⟨[(2,(.op 0 0 0)),(3,(.op 16 0 0)),(5,(aI rSearch)),(15,(aB (rSearch == 0)))],[(0,vO 1 [(encL TMark.cells TMark.d m)]),(16,vO 1 [(aI minute)])],176⟩ (C_35 56) [] [] (kp [2,3,5,15]) (kq [0,16]) 176 [] trivial ?_
 refine Runs.sC 15 (C_35 114) (C_35 115) (rSearch == 0) (fun hq2=>?_) (fun hq2=>?_)
 ·have h:=condT h hq2
  refine Runs.sA 1 [.code (C_35 228),.code (C_35 229),.inBlock 0,.code (C_35 15)] ?_
  obtain ⟨c,h⟩:=ifSome h
  refine Runs.sR hE ⟨[(4,(aI ((m.getD 0 TMark.d).f_Level)))],[],256⟩ (C_35 228) [] [] (kp [4]) [] 256 [0 < 1,0≤(0:Int)∧0 < ((m.length:Nat):Int)] ⟨o1,c,trivial⟩ ?_
  obtain rfl:=Option.some.inj h
  refine Runs.sW hE ⟨[(4,(aI ((m.getD 0 TMark.d).f_Level)))],[],256⟩ [] (kp [4]) [] 256 [] trivial ?_
  exact Runs.sT Try.f30 [] [] trivial
 ·have h:=condF h hq2
  refine Runs.sA 1 [.code (C_35 230),.code (C_35 231),.inBlock 0,.code (C_35 15)] ?_
  refine Runs.sR hE ⟨[(2,(.op 0 0 0)),(3,(.op 16 0 0)),(5,(aI rSearch)),(22,(aB (rSearch == ((m.length:Nat):Int))))],[(0,vO 1 [(encL TMark.cells TMark.d m)]),(16,vO 1 [(aI minute)])],256⟩ (C_35 230) [] [] (kp [2,3,5,22]) (kq [0,16]) 256 [0 < 1] ⟨o1,trivial⟩ ?_
  refine Runs.sC 22 (C_35 462) (C_35 463) (rSearch == ((m.length:Nat):Int)) (fun hq3=>?_) (fun hq3=>?_)
  ·have h:=condT h hq3
   refine Runs.sA 1 [.code (C_35 924),.code (C_35 925),.inBlock 0,.code (C_35 15)] ?_
   obtain ⟨c2,h⟩:=ifSome h
   refine Runs.sR hE ⟨[(4,(aI ((m.getD ((w64 (rSearch - 1)).toNat) TMark.d).f_Level)))],[],368⟩ (C_35 924) [] [] (kp [4]) [] 368 [0 < 1,0≤(w64 (rSearch - 1))∧(w64 (rSearch - 1)) < ((m.length:Nat):Int)] ⟨o1,c2,trivial⟩ ?_
   obtain rfl:=Option.some.inj h
   refine Runs.sW hE ⟨[(4,(aI ((m.getD ((w64 (rSearch - 1)).toNat) TMark.d).f_Level)))],[],368⟩ [] (kp [4]) [] 368 [] trivial ?_
   exact Runs.sT Try.f30 [] [] trivial
  ·have h:=condF h hq3
   refine Runs.sA 3 [.code (C_35 30),.code (C_35 31)] ?_
   obtain ⟨c3,h⟩:=ifSome h
   obtain ⟨c4,h⟩:=ifSome h
   refine Runs.sR hE ⟨[(3,(.op 16 0 0)),(6,(.op 400 0 0)),(7,(.op 416 0 0))],[(16,vO 1 [(aI minute)]),(400,vO 2 (TMark.cells (m.getD ((w64 (rSearch - 1)).toNat) TMark.d))),(416,vO 2 (TMark.cells (m.getD ((rSearch).toNat) TMark.d)))],464⟩ (C_35 30) [] [] (kp [3,6,7]) (kq [16,400,416]) 464 [0 < 1,0≤(w64 (rSearch - 1))∧(w64 (rSearch - 1)) < ((m.length:Nat):Int),0 < 1,0≤rSearch∧rSearch < ((m.length:Nat):Int),0 < 1,0 < 1] ⟨o1,c3,o1,c4,o1,o1,trivial⟩ ?_
   refine Runs.sA 1 [.code (C_35 62),.code (C_35 63)] ?_
   refine Runs.sR hE ⟨[(6,(.op 400 0 0)),(8,(aI (w64 ((w64 ((m.getD ((rSearch).toNat) TMark.d).f_Level - (m.getD ((w64 (rSearch - 1)).toNat) TMark.d).f_Level)) * (w64 (minute - (m.getD ((w64 (rSearch - 1)).toNat) TMark.d).f_Minute)))))),(9,(aI (w64 ((m.getD ((rSearch).toNat) TMark.d).f_Minute - (m.getD ((w64 (rSearch - 1)).toNat) TMark.d).f_Minute))))],[(400,vO 2 (TMark.cells (m.getD ((w64 (rSearch - 1)).toNat) TMark.d)))],736⟩ (C_35 62) [] [] (kp [6,8,9]) (kq [400]) 736 [0 < 1,0 < 1,0 < 1,0 < 1,0 < 1,0 < 1] ⟨o1,o1,o1,o1,o1,o1,trivial⟩ ?_
   refine Runs.sA 1 [.code (C_35 126),.code (C_35 127)] ?_
   obtain ⟨c5,h⟩:=ifSome h
   refine Runs.sR hE ⟨[(6,(.op 400 0 0)),(8,(aI (w64 ((w64 ((m.getD ((rSearch).toNat) TMark.d).f_Level - (m.getD ((w64 (rSearch - 1)).toNat) TMark.d).f_Level)) * (w64 (minute - (m.getD ((w64 (rSearch - 1)).toNat) TMark.d).f_Minute)))))),(9,(aI (w64 ((m.getD ((rSearch).toNat) TMark.d).f_Minute - (m.getD ((w64 (rSearch - 1)).toNat) TMark.d).f_Minute)))),(10,(aI (w64 ((w64 ((w64 ((m.getD ((rSearch).toNat) TMark.d).f_Level - (m.getD ((w64 (rSearch - 1)).toNat) TMark.d).f_Level)) * (w64 (minute - (m.getD ((w64 (rSearch - 1)).toNat) TMark.d).f_Minute)))).tdiv (w64 ((m.getD ((rSearch).toNat) TMark.d).f_Minute - (m.getD ((w64 (rSearch - 1)).toNat) TMark.d).f_Minute))))))],[(400,vO 2 (TMark.cells (m.getD ((w64 (rSearch - 1)).toNat) TMark.d)))],800⟩ (C_35 126) [] [] (kp [6,8,9,10]) (kq [400]) 800 [((w64 ((m.getD ((rSearch).toNat) TMark.d).f_Minute - (m.getD ((w64 (rSearch - 1)).toNat) TMark.d).f_Minute)):Int)≠0] ⟨c5,trivial⟩ ?_
   refine Runs.sA 2 [.code (C_35 508),.code (C_35 509),.code (C_35 255)] ?_
   refine Runs.sR hE ⟨[(6,(.op 400 0 0)),(10,(aI (w64 ((w64 ((w64 ((m.getD ((rSearch).toNat) TMark.d).f_Level - (m.getD ((w64 (rSearch - 1)).toNat) TMark.d).f_Level)) * (w64 (minute - (m.getD ((w64 (rSearch - 1)).toNat) TMark.d).f_Minute)))).tdiv (w64 ((m.getD ((rSearch).toNat) TMark.d).f_Minute - (m.getD ((w64 (rSearch - 1)).toNat) TMark.d).f_Minute)))))),(63,(aB (decide (((w64 ((w64 ((m.getD ((rSearch).toNat) TMark.d).f_Level - (m.getD ((w64 (rSearch - 1)).toNat) TMark.d).f_Level)) * (w64 (minute - (m.getD ((w64 (rSearch - 1)).toNat) TMark.d).f_Minute)))).tmod (w64 ((m.getD ((rSearch).toNat) TMark.d).f_Minute - (m.getD ((w64 (rSearch - 1)).toNat) TMark.d).f_Minute))) < 0))))],[(400,vO 2 (TMark.cells (m.getD ((w64 (rSearch - 1)).toNat) TMark.d)))],864⟩ (C_35 508) [] [] (kp [6,10,63]) (kq [400]) 864 [((w64 ((m.getD ((rSearch).toNat) TMark.d).f_Minute - (m.getD ((w64 (rSearch - 1)).toNat) TMark.d).f_Minute)):Int)≠0] ⟨c5,trivial⟩ ?_
   refine Runs.sC 63 (C_35 1018) (C_35 1019) (decide (((w64 ((w64 ((m.getD ((rSearch).toNat) TMark.d).f_Level - (m.getD ((w64 (rSearch - 1)).toNat) TMark.d).f_Level)) * (w64 (minute - (m.getD ((w64 (rSearch - 1)).toNat) TMark.d).f_Minute)))).tmod (w64 ((m.getD ((rSearch).toNat) TMark.d).f_Minute - (m.getD ((w64 (rSearch - 1)).toNat) TMark.d).f_Minute))) < 0)) (fun hq4=>?_) (fun hq4=>?_)
   ·have h:=condT h hq4
    refine Runs.sR hE ⟨[(6,(.op 400 0 0)),(10,(aI (w64 ((w64 ((w64 ((w64 ((m.getD ((rSearch).toNat) TMark.d).f_Level - (m.getD ((w64 (rSearch - 1)).toNat) TMark.d).f_Level)) * (w64 (minute - (m.getD ((w64 (rSearch - 1)).toNat) TMark.d).f_Minute)))).tdiv (w64 ((m.getD ((rSearch).toNat) TMark.d).f_Minute - (m.getD ((w64 (rSearch - 1)).toNat) TMark.d).f_Minute)))) - 1))))],[(400,vO 2 (TMark.cells (m.getD ((w64 (rSearch - 1)).toNat) TMark.d)))],912⟩ (C_35 1018) [] [] (kp [6,10]) (kq [400]) 912 [] trivial ?_
    refine Runs.sA 1 [.code (C_35 510),.code (C_35 511)] ?_
    exact Runs.sW hE _ [] (kp [6,10]) [(0,.keep 400)] 1 [] trivial (g_water_tide_J1_ok N m rSearch (w64 ((w64 ((w64 ((w64 ((m.getD ((rSearch).toNat) TMark.d).f_Level - (m.getD ((w64 (rSearch - 1)).toNat) TMark.d).f_Level)) * (w64 (minute - (m.getD ((w64 (rSearch - 1)).toNat) TMark.d).f_Minute)))).tdiv (w64 ((m.getD ((rSearch).toNat) TMark.d).f_Minute - (m.getD ((w64 (rSearch - 1)).toNat) TMark.d).f_Minute)))) - 1)) _ h E hE)
   ·have h:=condF h hq4
    refine Runs.sA 2 [.code (C_35 510),.code (C_35 511)] ?_
    exact Runs.sW hE _ [] (kp [6,10]) [(0,.keep 400)] 1 [] trivial (g_water_tide_J1_ok N m rSearch (w64 ((w64 ((w64 ((m.getD ((rSearch).toNat) TMark.d).f_Level - (m.getD ((w64 (rSearch - 1)).toNat) TMark.d).f_Level)) * (w64 (minute - (m.getD ((w64 (rSearch - 1)).toNat) TMark.d).f_Minute)))).tdiv (w64 ((m.getD ((rSearch).toNat) TMark.d).f_Minute - (m.getD ((w64 (rSearch - 1)).toNat) TMark.d).f_Minute)))) _ h E hE)
noncomputable def C_34 (n:Nat):Code:=cat (bodyOf Try.f29) (pth n)
theorem g_water_Above_1_ok (N:Nat) (minute:Int) (cap0:List TMark) (cap1:Int) (r:Bool) (h:g_water_Above_1 N minute cap0 cap1=some r):Sound Try.prog 29 [(aI minute),(.op 0 0 0),(.op 1 0 0)] [(0,vO 1 [(encL TMark.cells TMark.d cap0)]),(1,vO 1 [(aI cap1)])] 2 (aB r) [(0,vO 1 [(encL TMark.cells TMark.d cap0)]),(1,vO 1 [(aI cap1)])]:=by
 unfold g_water_Above_1 at h
 refine Sound.of_runs (fu:=Try.f29) (c:=C_34 1) (nt:=10) (by kernel_rfl) (by kernel_rfl) (by kernel_rfl) (by kernel_rfl) (fun hm=>absurd hm (by decide)) ?_
 intro E hE
 refine Runs.sA 1 [.code (C_34 2),.code (C_34 3)] ?_
 refine Runs.sR hE ⟨[(0,(aI minute)),(1,(.op 0 0 0)),(2,(.op 1 0 0))],[(0,vO 1 [(encL TMark.cells TMark.d cap0)]),(1,vO 1 [(aI cap1)])],18⟩ (C_34 2) [] [] (kp [0,1,2]) (kq [0,1]) 18 [] trivial ?_
 refine Runs.sA 1 [.code (C_34 6),.code (C_34 7)] ?_
 obtain ⟨rtide,hr,h⟩:=bindSome h
 refine Runs.sR hE ⟨[(4,(aB (decide (rtide≥cap1))))],[(0,vO 1 [(encL TMark.cells TMark.d cap0)]),(1,vO 1 [(aI cap1)])],114⟩ (C_34 6) [(2,⟨[],true,(aI rtide),[],0,false,none⟩)] [] (kp [4]) (kq [0,1]) 114 [0 < 1,Sound Try.prog 30 [(encL TMark.cells TMark.d cap0),(aI minute)] [] 0 (aI rtide) [],0 < 1] ⟨o1,(g_water_tide_ok N cap0 minute rtide hr),o1,trivial⟩ ?_
 obtain rfl:=Option.some.inj h
 refine Runs.sW hE ⟨[(4,(aB (decide (rtide≥cap1))))],[(0,vO 1 [(encL TMark.cells TMark.d cap0)]),(1,vO 1 [(aI cap1)])],114⟩ [] (kp [4]) (kq [0,1]) 114 [] trivial ?_
 exact Runs.sT Try.f29 [] [] trivial
noncomputable def C_38 (n:Nat):Code:=cat (bodyOf Try.f32) (pth n)
theorem g_water_Above_2_ok (N:Nat) (a:Int) (b:Int) (cap1:List TS__2_int) (r:(List TS__2_int)) (h:g_water_Above_2 N a b cap1=some r):Sound Try.prog 32 [(aI a),(aI b),(.op 0 0 0)] [(0,vN 1 [(.os 1 0 cap1.length)]),(1,aO 2 TS__2_int.cells TS__2_int.d cap1)] 2 (.tup []) [(0,vN 1 [(.os 2 0 r.length)]),(2,aO 2 TS__2_int.cells TS__2_int.d r)]:=by
 unfold g_water_Above_2 at h
 refine Sound.of_runs (fu:=Try.f32) (c:=C_38 1) (nt:=33) (by kernel_rfl) (by kernel_rfl) (by kernel_rfl) (by kernel_rfl) (fun hm=>absurd hm (by decide)) ?_
 intro E hE
 refine Runs.sA 2 [.code (C_38 4),.code (C_38 5),.code (C_38 3)] ?_
 refine Runs.sR hE ⟨[(0,(aI a)),(1,(aI b)),(2,(.op 0 0 0)),(5,(aI ((cap1.length:Nat):Int)))],[(0,vN 1 [(.os 1 0 cap1.length)]),(1,aO 2 TS__2_int.cells TS__2_int.d cap1)],50⟩ (C_38 4) [] [] (kp [0,1,2,5]) (kq [0,1]) 50 [0 < 1] ⟨o1,trivial⟩ ?_
 refine Runs.sA 1 [.code (C_38 10),.code (C_38 11),.code (C_38 3)] ?_
 obtain ⟨c,h⟩:=ifSome h
 refine Runs.sR hE ⟨[(0,(aI a)),(1,(aI b)),(2,(.op 0 0 0)),(5,(aI ((cap1.length:Nat):Int))),(20,(aB (cond (decide (((cap1.length:Nat):Int) > 0)) (decide (a≤(w64 ((cap1.getD ((w64 (((cap1.length:Nat):Int) - 1)).toNat) TS__2_int.d).e1+1)))) false)))],[(0,vN 1 [(.os 1 0 cap1.length)]),(1,aO 2 TS__2_int.cells TS__2_int.d cap1)],258⟩ (C_38 10) [] [] (kp [0,1,2,5,20]) (kq [0,1]) 258 [(decide (((cap1.length:Nat):Int) > 0))=true→AllP [0 < 1],(decide (((cap1.length:Nat):Int) > 0))=true→AllP [(decide (((cap1.length:Nat):Int) > 0))=true],(decide (((cap1.length:Nat):Int) > 0))=true→AllP [(decide (((cap1.length:Nat):Int) > 0))=true,(decide (((cap1.length:Nat):Int) > 0))=true,0≤(w64 (((cap1.length:Nat):Int) - 1))∧(w64 (((cap1.length:Nat):Int) - 1)) < ((cap1.length:Nat):Int)],(decide (((cap1.length:Nat):Int) > 0))=true→AllP [(decide (((cap1.length:Nat):Int) > 0))=true,0≤(1:Int)∧(1:Int) < ((2:Nat):Int)],(decide (((cap1.length:Nat):Int) > 0))=true→AllP [(decide (((cap1.length:Nat):Int) > 0))=true,(w64 (((cap1.length:Nat):Int) - 1)).toNat < cap1.length],(decide (((cap1.length:Nat):Int) > 0))=true→AllP [(decide (((cap1.length:Nat):Int) > 0))=true],(decide (((cap1.length:Nat):Int) > 0))=true→AllP [(decide (((cap1.length:Nat):Int) > 0))=true,(decide (((cap1.length:Nat):Int) > 0))=true],(decide (((cap1.length:Nat):Int) > 0))=true→AllP [(decide (((cap1.length:Nat):Int) > 0))=true]] ⟨(fun hg=>⟨o1,trivial⟩),(fun hg=>⟨hg,trivial⟩),(fun hg=>⟨hg,hg,(c hg),trivial⟩),(fun hg=>⟨hg,(by decide),trivial⟩),(fun hg=>⟨hg,(ltOf (c hg)),trivial⟩),(fun hg=>⟨hg,trivial⟩),(fun hg=>⟨hg,hg,trivial⟩),(fun hq=>⟨hq,trivial⟩),trivial⟩ ?_
 refine Runs.sC 20 (C_38 22) (C_38 23) (cond (decide (((cap1.length:Nat):Int) > 0)) (decide (a≤(w64 ((cap1.getD ((w64 (((cap1.length:Nat):Int) - 1)).toNat) TS__2_int.d).e1+1)))) false) (fun hq2=>?_) (fun hq2=>?_)
 ·have h:=condT h hq2
  refine Runs.sA 1 [.code (C_38 44),.code (C_38 45),.code (C_38 3)] ?_
  obtain ⟨c2,h⟩:=ifSome h
  refine Runs.sR hE ⟨[],[(0,vN 1 [(.os 1 0 ((cap1.set ((w64 (((cap1.length:Nat):Int) - 1)).toNat) (⟨(cap1.getD ((w64 (((cap1.length:Nat):Int) - 1)).toNat) TS__2_int.d).e0,b⟩:TS__2_int)).length))]),(1,aO 2 TS__2_int.cells TS__2_int.d (cap1.set ((w64 (((cap1.length:Nat):Int) - 1)).toNat) (⟨(cap1.getD ((w64 (((cap1.length:Nat):Int) - 1)).toNat) TS__2_int.d).e0,b⟩:TS__2_int)))],370⟩ (C_38 44) [] [] [] [(0,.var 0 [.osl ((cap1.set ((w64 (((cap1.length:Nat):Int) - 1)).toNat) (⟨(cap1.getD ((w64 (((cap1.length:Nat):Int) - 1)).toNat) TS__2_int.d).e0,b⟩:TS__2_int)).length)]),(1,.arr 1 ((cap1.set ((w64 (((cap1.length:Nat):Int) - 1)).toNat) (⟨(cap1.getD ((w64 (((cap1.length:Nat):Int) - 1)).toNat) TS__2_int.d).e0,b⟩:TS__2_int)).length) (fun zi=>TS__2_int.cells ((cap1.set ((w64 (((cap1.length:Nat):Int) - 1)).toNat) (⟨(cap1.getD ((w64 (((cap1.length:Nat):Int) - 1)).toNat) TS__2_int.d).e0,b⟩:TS__2_int)).getD zi TS__2_int.d)))] 370 [0 < 1,0≤(w64 (((cap1.length:Nat):Int) - 1))∧(w64 (((cap1.length:Nat):Int) - 1)) < ((cap1.length:Nat):Int),0≤(1:Int)∧(1:Int) < ((2:Nat):Int),(w64 (((cap1.length:Nat):Int) - 1)).toNat < cap1.length,cap1.length=(cap1.set ((w64 (((cap1.length:Nat):Int) - 1)).toNat) (⟨(cap1.getD ((w64 (((cap1.length:Nat):Int) - 1)).toNat) TS__2_int.d).e0,b⟩:TS__2_int)).length,cap1.length=(cap1.set ((w64 (((cap1.length:Nat):Int) - 1)).toNat) (⟨(cap1.getD ((w64 (((cap1.length:Nat):Int) - 1)).toNat) TS__2_int.d).e0,b⟩:TS__2_int)).length,∀ zi,zi < (cap1.set ((w64 (((cap1.length:Nat):Int) - 1)).toNat) (⟨(cap1.getD ((w64 (((cap1.length:Nat):Int) - 1)).toNat) TS__2_int.d).e0,b⟩:TS__2_int)).length→(fun zi=>TS__2_int.cells ((cap1.set ((w64 (((cap1.length:Nat):Int) - 1)).toNat) (⟨(cap1.getD ((w64 (((cap1.length:Nat):Int) - 1)).toNat) TS__2_int.d).e0,b⟩:TS__2_int)).getD zi TS__2_int.d)) zi=((fun zm=>if zm=(w64 (((cap1.length:Nat):Int) - 1)).toNat then [(aI ((cap1.getD ((w64 (((cap1.length:Nat):Int) - 1)).toNat) TS__2_int.d).e0)),(aI b)] else (fun zi=>TS__2_int.cells (cap1.getD zi TS__2_int.d)) zm)) zi] ⟨o1,c2,(by decide),(ltOf c2),(len_set_raw rfl),(len_set_raw rfl),(get_set_raw TS__2_int.cells TS__2_int.d cap1 ((w64 (((cap1.length:Nat):Int) - 1)).toNat) (⟨(cap1.getD ((w64 (((cap1.length:Nat):Int) - 1)).toNat) TS__2_int.d).e0,b⟩:TS__2_int) (fun _ _=>rfl)),trivial⟩ ?_
  obtain rfl:=Option.some.inj h
  refine Runs.sW hE ⟨[],[(0,vN 1 [(.os 2 0 ((cap1.set ((w64 (((cap1.length:Nat):Int) - 1)).toNat) (⟨(cap1.getD ((w64 (((cap1.length:Nat):Int) - 1)).toNat) TS__2_int.d).e0,b⟩:TS__2_int)).length))]),(2,aO 2 TS__2_int.cells TS__2_int.d (cap1.set ((w64 (((cap1.length:Nat):Int) - 1)).toNat) (⟨(cap1.getD ((w64 (((cap1.length:Nat):Int) - 1)).toNat) TS__2_int.d).e0,b⟩:TS__2_int)))],370⟩ [] [] (kq [0] ++ [(2,.keep 1)]) 370 [] trivial ?_
  exact Runs.sT Try.f32 [] [] trivial
 ·have h:=condF h hq2
  refine Runs.sA 1 [.code (C_38 3)] ?_
  obtain ⟨c3,h⟩:=ifSome h
  refine Runs.sR hE ⟨[],[(0,vN 1 [(.os 338 0 ((cap1 ++ ([(⟨a,b⟩:TS__2_int)]:List TS__2_int)).length))]),(338,aO 2 TS__2_int.cells TS__2_int.d (cap1 ++ ([(⟨a,b⟩:TS__2_int)]:List TS__2_int)))],370⟩ (C_38 3) [] [] [] [(0,.var 0 [.osl ((cap1 ++ ([(⟨a,b⟩:TS__2_int)]:List TS__2_int)).length)]),(338,.arr 338 ((cap1 ++ ([(⟨a,b⟩:TS__2_int)]:List TS__2_int)).length) (fun zi=>TS__2_int.cells ((cap1 ++ ([(⟨a,b⟩:TS__2_int)]:List TS__2_int)).getD zi TS__2_int.d)))] 370 [0 < 1,cap1.length=cap1.length,(cap1.length+1) * 16≤140737488355328,0+1≤1,∀ zi,zi < 1→AV.oneL ((fun zi=>([[(aI a),(aI b)]]:List (List AV)).getD zi []) (addz 0 zi))=true,0 < 1,(cap1.length+1)=(cap1 ++ ([(⟨a,b⟩:TS__2_int)]:List TS__2_int)).length,cap1.length+1=(cap1 ++ ([(⟨a,b⟩:TS__2_int)]:List TS__2_int)).length,∀ zi,zi < (cap1 ++ ([(⟨a,b⟩:TS__2_int)]:List TS__2_int)).length→(fun zi=>TS__2_int.cells ((cap1 ++ ([(⟨a,b⟩:TS__2_int)]:List TS__2_int)).getD zi TS__2_int.d)) zi=((fun zm=>if zm < cap1.length then (fun zi=>TS__2_int.cells (cap1.getD zi TS__2_int.d)) zm else (fun zi=>([[(aI a),(aI b)]]:List (List AV)).getD zi []) (zm - cap1.length))) zi] ⟨o1,rfl,c3,z0,(oneN rfl),o1,(len_app_raw rfl rfl),(len_app_raw rfl rfl),(get_app_raw TS__2_int.cells TS__2_int.d cap1 ([(⟨a,b⟩:TS__2_int)]:List TS__2_int) rfl (fun _ _=>rfl) (fun zq hzq=>get_chunk TS__2_int.cells TS__2_int.d ([(⟨a,b⟩:TS__2_int)]:List TS__2_int) zq hzq)),trivial⟩ ?_
  obtain rfl:=Option.some.inj h
  refine Runs.sW hE ⟨[],[(0,vN 1 [(.os 2 0 ((cap1 ++ ([(⟨a,b⟩:TS__2_int)]:List TS__2_int)).length))]),(2,aO 2 TS__2_int.cells TS__2_int.d (cap1 ++ ([(⟨a,b⟩:TS__2_int)]:List TS__2_int)))],370⟩ [] [] (kq [0] ++ [(2,.keep 338)]) 370 [] trivial ?_
  exact Runs.sF Try.f32 [] [] trivial
noncomputable def C_40 (n:Nat):Code:=cat (bodyOf Try.f34) (pth n)
theorem g_water_Above_3_ok (N:Nat) (k:Int) (cap1:List TMark) (cap2:Int) (cap3:Int) (r:Bool) (h:g_water_Above_3 N k cap1 cap2 cap3=some r):Sound Try.prog 34 [(aI k),(.op 0 0 0),(.op 3 0 0)] [(0,vN 1 [(.fn (.func 29) [] [(.op 1 0 0),(.op 2 0 0)])]),(1,vO 1 [(encL TMark.cells TMark.d cap1)]),(2,vO 1 [(aI cap2)]),(3,vO 1 [(aI cap3)])] 4 (aB r) [(0,vN 1 [(.fn (.func 29) [] [(.op 1 0 0),(.op 2 0 0)])]),(1,vO 1 [(encL TMark.cells TMark.d cap1)]),(2,vO 1 [(aI cap2)]),(3,vO 1 [(aI cap3)])]:=by
 unfold g_water_Above_3 at h
 refine Sound.of_runs (fu:=Try.f34) (c:=C_40 1) (nt:=11) (by kernel_rfl) (by kernel_rfl) (by kernel_rfl) (by kernel_rfl) (fun hm=>absurd hm (by decide)) ?_
 intro E hE
 refine Runs.sA 1 [.code (C_40 2),.code (C_40 3)] ?_
 refine Runs.sR hE ⟨[(0,(aI k)),(1,(.op 0 0 0)),(2,(.op 3 0 0))],[(0,vN 1 [(.fn (.func 29) [] [(.op 1 0 0),(.op 2 0 0)])]),(1,vO 1 [(encL TMark.cells TMark.d cap1)]),(2,vO 1 [(aI cap2)]),(3,vO 1 [(aI cap3)])],20⟩ (C_40 2) [] [] (kp [0,1,2]) (kq [0,1,2,3]) 20 [] trivial ?_
 refine Runs.sA 1 [.code (C_40 6),.code (C_40 7)] ?_
 obtain ⟨rAbove1,hr,h⟩:=bindSome h
 refine Runs.sR hE ⟨[(4,(aB (!rAbove1)))],[(0,vN 1 [(.fn (.func 29) [] [(.op 1 0 0),(.op 2 0 0)])]),(1,vO 1 [(encL TMark.cells TMark.d cap1)]),(2,vO 1 [(aI cap2)]),(3,vO 1 [(aI cap3)])],132⟩ (C_40 6) [(4,⟨[1,2],true,(aB rAbove1),[],0,false,none⟩)] [] (kp [4]) (kq [0,1,2,3]) 132 [0 < 1,0 < 1,Sound Try.prog 29 [(aI (w64 (cap3+k))),(.op 0 0 0),(.op 1 0 0)] [(0,vO 1 [(encL TMark.cells TMark.d cap1)]),(1,vO 1 [(aI cap2)])] 2 (aB rAbove1) [(0,vO 1 [(encL TMark.cells TMark.d cap1)]),(1,vO 1 [(aI cap2)])]] ⟨o1,o1,(g_water_Above_1_ok N (w64 (cap3+k)) cap1 cap2 rAbove1 hr),trivial⟩ ?_
 obtain rfl:=Option.some.inj h
 refine Runs.sW hE ⟨[(4,(aB (!rAbove1)))],[(0,vN 1 [(.fn (.func 29) [] [(.op 1 0 0),(.op 2 0 0)])]),(1,vO 1 [(encL TMark.cells TMark.d cap1)]),(2,vO 1 [(aI cap2)]),(3,vO 1 [(aI cap3)])],132⟩ [] (kp [4]) (kq [0,1,2,3]) 132 [] trivial ?_
 exact Runs.sT Try.f34 [] [] trivial
noncomputable def C_39 (n:Nat):Code:=cat (bodyOf Try.f33) (pth n)
theorem g_sort_Search_v2_L1_ok (N:Nat) (cap1:List TMark) (cap2:Int) (cap3:Int) (fuel:Nat):∀ (i:Int) (j:Int) (r:Int),g_sort_Search_v2_L1 N cap1 cap2 cap3 fuel i j=some r→∀ E,EnvOk E 4→Runs Try.prog E 33 26 (SPost E [(0,vN 1 [(.fn (.func 29) [] [(.op 1 0 0),(.op 2 0 0)])]),(1,vO 1 [(encL TMark.cells TMark.d cap1)]),(2,vO 1 [(aI cap2)]),(3,vO 1 [(aI cap3)])] (aI r)) [.code (C_39 56),.inLoop (C_39 56),.inBlock 0,.code (C_39 15)] ⟨[(1,(.fn (.func 34) [] [(.op 0 0 0),(.op 3 0 0)])),(5,(aI i)),(6,(aI j))],[(0,vN 1 [(.fn (.func 29) [] [(.op 1 0 0),(.op 2 0 0)])]),(1,vO 1 [(encL TMark.cells TMark.d cap1)]),(2,vO 1 [(aI cap2)]),(3,vO 1 [(aI cap3)])],4⟩:=by
 induction fuel with
 | zero=>intro _ _ r h;rw [g_sort_Search_v2_L1.eq_1] at h;cases h
 | succ fuel ih =>
  intro i j r h E hE
  rw [g_sort_Search_v2_L1.eq_2] at h
  refine Runs.sA 2 [.code (C_39 224),.code (C_39 225),.code (C_39 113),.inLoop (C_39 56),.inBlock 0,.code (C_39 15)] ?_
  refine Runs.sR hE ⟨[(1,(.fn (.func 34) [] [(.op 0 0 0),(.op 3 0 0)])),(5,(aI i)),(6,(aI j)),(11,(aB (decide (i < j))))],[(0,vN 1 [(.fn (.func 29) [] [(.op 1 0 0),(.op 2 0 0)])]),(1,vO 1 [(encL TMark.cells TMark.d cap1)]),(2,vO 1 [(aI cap2)]),(3,vO 1 [(aI cap3)])],52⟩ (C_39 224) [] [] (kp [1,5,6,11]) (kq [0,1,2,3]) 52 [] trivial ?_
  refine Runs.sC 11 (C_39 450) (C_39 451) (decide (i < j)) (fun hq2=>?_) (fun hq2=>?_)
  ·have h:=condT h hq2
   refine Runs.sA 3 [.code (C_39 452),.code (C_39 453),.inBlock 1,.inLoop (C_39 56),.inBlock 0,.code (C_39 15)] ?_
   refine Runs.sR hE ⟨[(1,(.fn (.func 34) [] [(.op 0 0 0),(.op 3 0 0)])),(5,(aI i)),(6,(aI j)),(7,(aI (w64 ((shrI .u64 (IntKind.u64.wrap ((w64 (i+j)))) 1)))))],[(0,vN 1 [(.fn (.func 29) [] [(.op 1 0 0),(.op 2 0 0)])]),(1,vO 1 [(encL TMark.cells TMark.d cap1)]),(2,vO 1 [(aI cap2)]),(3,vO 1 [(aI cap3)])],164⟩ (C_39 452) [] [] (kp [1,5,6,7]) (kq [0,1,2,3]) 164 [(0:Int)≤1] ⟨(by decide),trivial⟩ ?_
   refine Runs.sA 1 [.code (C_39 906),.code (C_39 907),.inBlock 1,.inLoop (C_39 56),.inBlock 0,.code (C_39 15)] ?_
   obtain ⟨rAbove3,hr,h⟩:=bindSome h
   refine Runs.sR hE ⟨[(1,(.fn (.func 34) [] [(.op 0 0 0),(.op 3 0 0)])),(5,(aI i)),(6,(aI j)),(7,(aI (w64 ((shrI .u64 (IntKind.u64.wrap ((w64 (i+j)))) 1))))),(21,(aB (!rAbove3)))],[(0,vN 1 [(.fn (.func 29) [] [(.op 1 0 0),(.op 2 0 0)])]),(1,vO 1 [(encL TMark.cells TMark.d cap1)]),(2,vO 1 [(aI cap2)]),(3,vO 1 [(aI cap3)])],228⟩ (C_39 906) [(2,⟨[0,1,2,3],true,(aB rAbove3),[],0,false,none⟩)] [] (kp [1,5,6,7,21]) (kq [0,1,2,3]) 228 [Sound Try.prog 34 [(aI (w64 ((shrI .u64 (IntKind.u64.wrap ((w64 (i+j)))) 1)))),(.op 0 0 0),(.op 3 0 0)] [(0,vN 1 [(.fn (.func 29) [] [(.op 1 0 0),(.op 2 0 0)])]),(1,vO 1 [(encL TMark.cells TMark.d cap1)]),(2,vO 1 [(aI cap2)]),(3,vO 1 [(aI cap3)])] 4 (aB rAbove3) [(0,vN 1 [(.fn (.func 29) [] [(.op 1 0 0),(.op 2 0 0)])]),(1,vO 1 [(encL TMark.cells TMark.d cap1)]),(2,vO 1 [(aI cap2)]),(3,vO 1 [(aI cap3)])]] ⟨(g_water_Above_3_ok N (w64 ((shrI .u64 (IntKind.u64.wrap ((w64 (i+j)))) 1))) cap1 cap2 cap3 rAbove3 hr),trivial⟩ ?_
   refine Runs.sC 21 (C_39 1814) (C_39 1815) (!rAbove3) (fun hq3=>?_) (fun hq3=>?_)
   ·have h:=condT h hq3
    refine Runs.sR hE ⟨[(1,(.fn (.func 34) [] [(.op 0 0 0),(.op 3 0 0)])),(5,(aI (w64 ((w64 ((shrI .u64 (IntKind.u64.wrap ((w64 (i+j)))) 1)))+1)))),(6,(aI j))],[(0,vN 1 [(.fn (.func 29) [] [(.op 1 0 0),(.op 2 0 0)])]),(1,vO 1 [(encL TMark.cells TMark.d cap1)]),(2,vO 1 [(aI cap2)]),(3,vO 1 [(aI cap3)])],276⟩ (C_39 1814) [] [] (kp [1,5,6]) (kq [0,1,2,3]) 276 [] trivial ?_
    refine Runs.sA 2 [.code (C_39 56),.inLoop (C_39 56),.inBlock 0,.code (C_39 15)] ?_
    exact Runs.sW hE _ [] (kp [1,5,6]) (kq [0,1,2,3]) 4 [] trivial (ih (w64 ((w64 ((shrI .u64 (IntKind.u64.wrap ((w64 (i+j)))) 1)))+1)) j _ h E hE)
   ·have h:=condF h hq3
    refine Runs.sR hE ⟨[(1,(.fn (.func 34) [] [(.op 0 0 0),(.op 3 0 0)])),(5,(aI i)),(6,(aI (w64 ((shrI .u64 (IntKind.u64.wrap ((w64 (i+j)))) 1)))))],[(0,vN 1 [(.fn (.func 29) [] [(.op 1 0 0),(.op 2 0 0)])]),(1,vO 1 [(encL TMark.cells TMark.d cap1)]),(2,vO 1 [(aI cap2)]),(3,vO 1 [(aI cap3)])],260⟩ (C_39 1815) [] [] (kp [1,5,6]) (kq [0,1,2,3]) 260 [] trivial ?_
    refine Runs.sA 2 [.code (C_39 56),.inLoop (C_39 56),.inBlock 0,.code (C_39 15)] ?_
    exact Runs.sW hE _ [] (kp [1,5,6]) (kq [0,1,2,3]) 4 [] trivial (ih i (w64 ((shrI .u64 (IntKind.u64.wrap ((w64 (i+j)))) 1))) _ h E hE)
  ·have h:=condF h hq2
   refine Runs.sA 2 [.code (C_39 30),.code (C_39 31)] ?_
   refine Runs.sR hE ⟨[(4,(aI i))],[(0,vN 1 [(.fn (.func 29) [] [(.op 1 0 0),(.op 2 0 0)])]),(1,vO 1 [(encL TMark.cells TMark.d cap1)]),(2,vO 1 [(aI cap2)]),(3,vO 1 [(aI cap3)])],84⟩ (C_39 30) [] [] (kp [4]) (kq [0,1,2,3]) 84 [] trivial ?_
   obtain rfl:=Option.some.inj h
   refine Runs.sW hE ⟨[(4,(aI i))],[(0,vN 1 [(.fn (.func 29) [] [(.op 1 0 0),(.op 2 0 0)])]),(1,vO 1 [(encL TMark.cells TMark.d cap1)]),(2,vO 1 [(aI cap2)]),(3,vO 1 [(aI cap3)])],84⟩ [] (kp [4]) (kq [0,1,2,3]) 84 [] trivial ?_
   exact Runs.sT Try.f33 [] [] trivial
theorem g_sort_Search_v2_ok (N:Nat) (n:Int) (cap1:List TMark) (cap2:Int) (cap3:Int) (r:Int) (h:g_sort_Search_v2 N n cap1 cap2 cap3=some r):Sound Try.prog 33 [(aI n),(.fn (.func 34) [] [(.op 0 0 0),(.op 3 0 0)])] [(0,vN 1 [(.fn (.func 29) [] [(.op 1 0 0),(.op 2 0 0)])]),(1,vO 1 [(encL TMark.cells TMark.d cap1)]),(2,vO 1 [(aI cap2)]),(3,vO 1 [(aI cap3)])] 4 (aI r) [(0,vN 1 [(.fn (.func 29) [] [(.op 1 0 0),(.op 2 0 0)])]),(1,vO 1 [(encL TMark.cells TMark.d cap1)]),(2,vO 1 [(aI cap2)]),(3,vO 1 [(aI cap3)])]:=by
 unfold g_sort_Search_v2 at h
 refine Sound.of_runs (fu:=Try.f33) (c:=C_39 1) (nt:=26) (by kernel_rfl) (by kernel_rfl) (by kernel_rfl) (by kernel_rfl) (fun hm=>absurd hm (by decide)) ?_
 intro E hE
 refine Runs.sA 1 [.code (C_39 2),.code (C_39 3)] ?_
 refine Runs.sR hE ⟨[(0,(aI n)),(1,(.fn (.func 34) [] [(.op 0 0 0),(.op 3 0 0)]))],[(0,vN 1 [(.fn (.func 29) [] [(.op 1 0 0),(.op 2 0 0)])]),(1,vO 1 [(encL TMark.cells TMark.d cap1)]),(2,vO 1 [(aI cap2)]),(3,vO 1 [(aI cap3)])],20⟩ (C_39 2) [] [] (kp [0,1]) (kq [0,1,2,3]) 20 [] trivial ?_
 refine Runs.sA 1 [.code (C_39 6),.code (C_39 7)] ?_
 refine Runs.sR hE ⟨[(1,(.fn (.func 34) [] [(.op 0 0 0),(.op 3 0 0)])),(5,(aI 0)),(6,(aI n))],[(0,vN 1 [(.fn (.func 29) [] [(.op 1 0 0),(.op 2 0 0)])]),(1,vO 1 [(encL TMark.cells TMark.d cap1)]),(2,vO 1 [(aI cap2)]),(3,vO 1 [(aI cap3)])],68⟩ (C_39 6) [] [] (kp [1,5,6]) (kq [0,1,2,3]) 68 [] trivial ?_
 refine Runs.sA 3 [.code (C_39 56),.inLoop (C_39 56),.inBlock 0,.code (C_39 15)] ?_
 exact Runs.sW hE _ [] (kp [1,5,6]) (kq [0,1,2,3]) 4 [] trivial (g_sort_Search_v2_L1_ok N cap1 cap2 cap3 N 0 n _ h E hE)
noncomputable def C_42 (n:Nat):Code:=cat (bodyOf Try.f35) (pth n)
theorem g_water_Above_4_ok (N:Nat) (k:Int) (cap1:List TMark) (cap2:Int) (cap3:Int) (r:Bool) (h:g_water_Above_4 N k cap1 cap2 cap3=some r):Sound Try.prog 35 [(aI k),(.op 0 0 0),(.op 3 0 0)] [(0,vN 1 [(.fn (.func 29) [] [(.op 1 0 0),(.op 2 0 0)])]),(1,vO 1 [(encL TMark.cells TMark.d cap1)]),(2,vO 1 [(aI cap2)]),(3,vO 1 [(aI cap3)])] 4 (aB r) [(0,vN 1 [(.fn (.func 29) [] [(.op 1 0 0),(.op 2 0 0)])]),(1,vO 1 [(encL TMark.cells TMark.d cap1)]),(2,vO 1 [(aI cap2)]),(3,vO 1 [(aI cap3)])]:=by
 unfold g_water_Above_4 at h
 refine Sound.of_runs (fu:=Try.f35) (c:=C_42 1) (nt:=10) (by kernel_rfl) (by kernel_rfl) (by kernel_rfl) (by kernel_rfl) (fun hm=>absurd hm (by decide)) ?_
 intro E hE
 refine Runs.sA 1 [.code (C_42 2),.code (C_42 3)] ?_
 refine Runs.sR hE ⟨[(0,(aI k)),(1,(.op 0 0 0)),(2,(.op 3 0 0))],[(0,vN 1 [(.fn (.func 29) [] [(.op 1 0 0),(.op 2 0 0)])]),(1,vO 1 [(encL TMark.cells TMark.d cap1)]),(2,vO 1 [(aI cap2)]),(3,vO 1 [(aI cap3)])],20⟩ (C_42 2) [] [] (kp [0,1,2]) (kq [0,1,2,3]) 20 [] trivial ?_
 refine Runs.sA 1 [.code (C_42 6),.code (C_42 7)] ?_
 obtain ⟨rAbove1,hr,h⟩:=bindSome h
 refine Runs.sR hE ⟨[(4,(aB rAbove1))],[(0,vN 1 [(.fn (.func 29) [] [(.op 1 0 0),(.op 2 0 0)])]),(1,vO 1 [(encL TMark.cells TMark.d cap1)]),(2,vO 1 [(aI cap2)]),(3,vO 1 [(aI cap3)])],116⟩ (C_42 6) [(4,⟨[1,2],true,(aB rAbove1),[],0,false,none⟩)] [] (kp [4]) (kq [0,1,2,3]) 116 [0 < 1,0 < 1,Sound Try.prog 29 [(aI (w64 (cap3+k))),(.op 0 0 0),(.op 1 0 0)] [(0,vO 1 [(encL TMark.cells TMark.d cap1)]),(1,vO 1 [(aI cap2)])] 2 (aB rAbove1) [(0,vO 1 [(encL TMark.cells TMark.d cap1)]),(1,vO 1 [(aI cap2)])]] ⟨o1,o1,(g_water_Above_1_ok N (w64 (cap3+k)) cap1 cap2 rAbove1 hr),trivial⟩ ?_
 obtain rfl:=Option.some.inj h
 refine Runs.sW hE ⟨[(4,(aB rAbove1))],[(0,vN 1 [(.fn (.func 29) [] [(.op 1 0 0),(.op 2 0 0)])]),(1,vO 1 [(encL TMark.cells TMark.d cap1)]),(2,vO 1 [(aI cap2)]),(3,vO 1 [(aI cap3)])],116⟩ [] (kp [4]) (kq [0,1,2,3]) 116 [] trivial ?_
 exact Runs.sT Try.f35 [] [] trivial
noncomputable def C_41 (n:Nat):Code:=cat (bodyOf Try.f33) (pth n)
theorem g_sort_Search_v3_L1_ok (N:Nat) (cap1:List TMark) (cap2:Int) (cap3:Int) (fuel:Nat):∀ (i:Int) (j:Int) (r:Int),g_sort_Search_v3_L1 N cap1 cap2 cap3 fuel i j=some r→∀ E,EnvOk E 4→Runs Try.prog E 33 26 (SPost E [(0,vN 1 [(.fn (.func 29) [] [(.op 1 0 0),(.op 2 0 0)])]),(1,vO 1 [(encL TMark.cells TMark.d cap1)]),(2,vO 1 [(aI cap2)]),(3,vO 1 [(aI cap3)])] (aI r)) [.code (C_41 56),.inLoop (C_41 56),.inBlock 0,.code (C_41 15)] ⟨[(1,(.fn (.func 35) [] [(.op 0 0 0),(.op 3 0 0)])),(5,(aI i)),(6,(aI j))],[(0,vN 1 [(.fn (.func 29) [] [(.op 1 0 0),(.op 2 0 0)])]),(1,vO 1 [(encL TMark.cells TMark.d cap1)]),(2,vO 1 [(aI cap2)]),(3,vO 1 [(aI cap3)])],4⟩:=by
 induction fuel with
 | zero=>intro _ _ r h;rw [g_sort_Search_v3_L1.eq_1] at h;cases h
 | succ fuel ih =>
  intro i j r h E hE
  rw [g_sort_Search_v3_L1.eq_2] at h
  refine Runs.sA 2 [.code (C_41 224),.code (C_41 225),.code (C_41 113),.inLoop (C_41 56),.inBlock 0,.code (C_41 15)] ?_
  refine Runs.sR hE ⟨[(1,(.fn (.func 35) [] [(.op 0 0 0),(.op 3 0 0)])),(5,(aI i)),(6,(aI j)),(11,(aB (decide (i < j))))],[(0,vN 1 [(.fn (.func 29) [] [(.op 1 0 0),(.op 2 0 0)])]),(1,vO 1 [(encL TMark.cells TMark.d cap1)]),(2,vO 1 [(aI cap2)]),(3,vO 1 [(aI cap3)])],52⟩ (C_41 224) [] [] (kp [1,5,6,11]) (kq [0,1,2,3]) 52 [] trivial ?_
  refine Runs.sC 11 (C_41 450) (C_41 451) (decide (i < j)) (fun hq2=>?_) (fun hq2=>?_)
  ·have h:=condT h hq2
   refine Runs.sA 3 [.code (C_41 452),.code (C_41 453),.inBlock 1,.inLoop (C_41 56),.inBlock 0,.code (C_41 15)] ?_
   refine Runs.sR hE ⟨[(1,(.fn (.func 35) [] [(.op 0 0 0),(.op 3 0 0)])),(5,(aI i)),(6,(aI j)),(7,(aI (w64 ((shrI .u64 (IntKind.u64.wrap ((w64 (i+j)))) 1)))))],[(0,vN 1 [(.fn (.func 29) [] [(.op 1 0 0),(.op 2 0 0)])]),(1,vO 1 [(encL TMark.cells TMark.d cap1)]),(2,vO 1 [(aI cap2)]),(3,vO 1 [(aI cap3)])],164⟩ (C_41 452) [] [] (kp [1,5,6,7]) (kq [0,1,2,3]) 164 [(0:Int)≤1] ⟨(by decide),trivial⟩ ?_
   refine Runs.sA 1 [.code (C_41 906),.code (C_41 907),.inBlock 1,.inLoop (C_41 56),.inBlock 0,.code (C_41 15)] ?_
   obtain ⟨rAbove4,hr,h⟩:=bindSome h
   refine Runs.sR hE ⟨[(1,(.fn (.func 35) [] [(.op 0 0 0),(.op 3 0 0)])),(5,(aI i)),(6,(aI j)),(7,(aI (w64 ((shrI .u64 (IntKind.u64.wrap ((w64 (i+j)))) 1))))),(21,(aB (!rAbove4)))],[(0,vN 1 [(.fn (.func 29) [] [(.op 1 0 0),(.op 2 0 0)])]),(1,vO 1 [(encL TMark.cells TMark.d cap1)]),(2,vO 1 [(aI cap2)]),(3,vO 1 [(aI cap3)])],228⟩ (C_41 906) [(2,⟨[0,1,2,3],true,(aB rAbove4),[],0,false,none⟩)] [] (kp [1,5,6,7,21]) (kq [0,1,2,3]) 228 [Sound Try.prog 35 [(aI (w64 ((shrI .u64 (IntKind.u64.wrap ((w64 (i+j)))) 1)))),(.op 0 0 0),(.op 3 0 0)] [(0,vN 1 [(.fn (.func 29) [] [(.op 1 0 0),(.op 2 0 0)])]),(1,vO 1 [(encL TMark.cells TMark.d cap1)]),(2,vO 1 [(aI cap2)]),(3,vO 1 [(aI cap3)])] 4 (aB rAbove4) [(0,vN 1 [(.fn (.func 29) [] [(.op 1 0 0),(.op 2 0 0)])]),(1,vO 1 [(encL TMark.cells TMark.d cap1)]),(2,vO 1 [(aI cap2)]),(3,vO 1 [(aI cap3)])]] ⟨(g_water_Above_4_ok N (w64 ((shrI .u64 (IntKind.u64.wrap ((w64 (i+j)))) 1))) cap1 cap2 cap3 rAbove4 hr),trivial⟩ ?_
   refine Runs.sC 21 (C_41 1814) (C_41 1815) (!rAbove4) (fun hq3=>?_) (fun hq3=>?_)
   ·have h:=condT h hq3
    refine Runs.sR hE ⟨[(1,(.fn (.func 35) [] [(.op 0 0 0),(.op 3 0 0)])),(5,(aI (w64 ((w64 ((shrI .u64 (IntKind.u64.wrap ((w64 (i+j)))) 1)))+1)))),(6,(aI j))],[(0,vN 1 [(.fn (.func 29) [] [(.op 1 0 0),(.op 2 0 0)])]),(1,vO 1 [(encL TMark.cells TMark.d cap1)]),(2,vO 1 [(aI cap2)]),(3,vO 1 [(aI cap3)])],276⟩ (C_41 1814) [] [] (kp [1,5,6]) (kq [0,1,2,3]) 276 [] trivial ?_
    refine Runs.sA 2 [.code (C_41 56),.inLoop (C_41 56),.inBlock 0,.code (C_41 15)] ?_
    exact Runs.sW hE _ [] (kp [1,5,6]) (kq [0,1,2,3]) 4 [] trivial (ih (w64 ((w64 ((shrI .u64 (IntKind.u64.wrap ((w64 (i+j)))) 1)))+1)) j _ h E hE)
   ·have h:=condF h hq3
    refine Runs.sR hE ⟨[(1,(.fn (.func 35) [] [(.op 0 0 0),(.op 3 0 0)])),(5,(aI i)),(6,(aI (w64 ((shrI .u64 (IntKind.u64.wrap ((w64 (i+j)))) 1)))))],[(0,vN 1 [(.fn (.func 29) [] [(.op 1 0 0),(.op 2 0 0)])]),(1,vO 1 [(encL TMark.cells TMark.d cap1)]),(2,vO 1 [(aI cap2)]),(3,vO 1 [(aI cap3)])],260⟩ (C_41 1815) [] [] (kp [1,5,6]) (kq [0,1,2,3]) 260 [] trivial ?_
    refine Runs.sA 2 [.code (C_41 56),.inLoop (C_41 56),.inBlock 0,.code (C_41 15)] ?_
    exact Runs.sW hE _ [] (kp [1,5,6]) (kq [0,1,2,3]) 4 [] trivial (ih i (w64 ((shrI .u64 (IntKind.u64.wrap ((w64 (i+j)))) 1))) _ h E hE)
  ·have h:=condF h hq2
   refine Runs.sA 2 [.code (C_41 30),.code (C_41 31)] ?_
   refine Runs.sR hE ⟨[(4,(aI i))],[(0,vN 1 [(.fn (.func 29) [] [(.op 1 0 0),(.op 2 0 0)])]),(1,vO 1 [(encL TMark.cells TMark.d cap1)]),(2,vO 1 [(aI cap2)]),(3,vO 1 [(aI cap3)])],84⟩ (C_41 30) [] [] (kp [4]) (kq [0,1,2,3]) 84 [] trivial ?_
   obtain rfl:=Option.some.inj h
   refine Runs.sW hE ⟨[(4,(aI i))],[(0,vN 1 [(.fn (.func 29) [] [(.op 1 0 0),(.op 2 0 0)])]),(1,vO 1 [(encL TMark.cells TMark.d cap1)]),(2,vO 1 [(aI cap2)]),(3,vO 1 [(aI cap3)])],84⟩ [] (kp [4]) (kq [0,1,2,3]) 84 [] trivial ?_
   exact Runs.sT Try.f33 [] [] trivial
theorem g_sort_Search_v3_ok (N:Nat) (n:Int) (cap1:List TMark) (cap2:Int) (cap3:Int) (r:Int) (h:g_sort_Search_v3 N n cap1 cap2 cap3=some r):Sound Try.prog 33 [(aI n),(.fn (.func 35) [] [(.op 0 0 0),(.op 3 0 0)])] [(0,vN 1 [(.fn (.func 29) [] [(.op 1 0 0),(.op 2 0 0)])]),(1,vO 1 [(encL TMark.cells TMark.d cap1)]),(2,vO 1 [(aI cap2)]),(3,vO 1 [(aI cap3)])] 4 (aI r) [(0,vN 1 [(.fn (.func 29) [] [(.op 1 0 0),(.op 2 0 0)])]),(1,vO 1 [(encL TMark.cells TMark.d cap1)]),(2,vO 1 [(aI cap2)]),(3,vO 1 [(aI cap3)])]:=by
 unfold g_sort_Search_v3 at h
 refine Sound.of_runs (fu:=Try.f33) (c:=C_41 1) (nt:=26) (by kernel_rfl) (by kernel_rfl) (by kernel_rfl) (by kernel_rfl) (fun hm=>absurd hm (by decide)) ?_
 intro E hE
 refine Runs.sA 1 [.code (C_41 2),.code (C_41 3)] ?_
 refine Runs.sR hE ⟨[(0,(aI n)),(1,(.fn (.func 35) [] [(.op 0 0 0),(.op 3 0 0)]))],[(0,vN 1 [(.fn (.func 29) [] [(.op 1 0 0),(.op 2 0 0)])]),(1,vO 1 [(encL TMark.cells TMark.d cap1)]),(2,vO 1 [(aI cap2)]),(3,vO 1 [(aI cap3)])],20⟩ (C_41 2) [] [] (kp [0,1]) (kq [0,1,2,3]) 20 [] trivial ?_
 refine Runs.sA 1 [.code (C_41 6),.code (C_41 7)] ?_
 refine Runs.sR hE ⟨[(1,(.fn (.func 35) [] [(.op 0 0 0),(.op 3 0 0)])),(5,(aI 0)),(6,(aI n))],[(0,vN 1 [(.fn (.func 29) [] [(.op 1 0 0),(.op 2 0 0)])]),(1,vO 1 [(encL TMark.cells TMark.d cap1)]),(2,vO 1 [(aI cap2)]),(3,vO 1 [(aI cap3)])],68⟩ (C_41 6) [] [] (kp [1,5,6]) (kq [0,1,2,3]) 68 [] trivial ?_
 refine Runs.sA 3 [.code (C_41 56),.inLoop (C_41 56),.inBlock 0,.code (C_41 15)] ?_
 exact Runs.sW hE _ [] (kp [1,5,6]) (kq [0,1,2,3]) 4 [] trivial (g_sort_Search_v3_L1_ok N cap1 cap2 cap3 N 0 n _ h E hE)
end Go.Den
