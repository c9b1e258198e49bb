/- Each function of the program does what its Lean function computes (part 1). No conditions. -/
import Derived.Test.YthiklnjjabfjlaaWaterWindowsDen
import Derived.Test.YthiklnjjabfjlaaProg
set_option linter.unusedVariables false
set_option maxRecDepth 100000
namespace Go.Den
open Go.Ab Go.Proofs
noncomputable def C_2 (n:Nat):Code:=cat (bodyOf Try.f25) (pth n)
theorem g_w05_tub_ok (N:Nat) (r:TBasin) (h:g_w05_tub N=some r):Sound Try.prog 25 [] [] 0 (.agg (TBasin.cells r)) []:=by
 unfold g_w05_tub at h
 refine Sound.of_runs (fu:=Try.f25) (c:=C_2 1) (nt:=5) (by kernel_rfl) (by kernel_rfl) (by kernel_rfl) (by kernel_rfl) (fun hm=>rfl) ?_
 intro E hE
 refine Runs.sA 1 [.code (C_2 2),.code (C_2 3)] ?_
 refine Runs.sR hE ⟨[(0,(.op 0 0 0))],[(0,vO 3 [(aS ByteArray.empty),.nil,(aI 0)])],16⟩ (C_2 2) [] [] (kp [0]) (kq [0]) 16 [] trivial ?_
 refine Runs.sA 1 [.code (C_2 6),.code (C_2 7)] ?_
 refine Runs.sR hE ⟨[(0,(.op 0 0 0))],[(0,vN 3 [(aS (⟨#[65]⟩:ByteArray)),(.os 48 0 (([(⟨0,100⟩:TArea),(⟨1000,200⟩:TArea)]:List TArea).length)),(aI 3000)]),(48,aO 2 TArea.cells TArea.d ([(⟨0,100⟩:TArea),(⟨1000,200⟩:TArea)]:List TArea))],96⟩ (C_2 6) [] [] (kp [0]) [(0,.var 0 [.keep,.osl (([(⟨0,100⟩:TArea),(⟨1000,200⟩:TArea)]:List TArea).length),.keep]),(48,.arr 48 (([(⟨0,100⟩:TArea),(⟨1000,200⟩:TArea)]:List TArea).length) (fun zi=>TArea.cells (([(⟨0,100⟩:TArea),(⟨1000,200⟩:TArea)]:List TArea).getD zi TArea.d)))] 96 [0 < 1,2=([(⟨0,100⟩:TArea),(⟨1000,200⟩:TArea)]:List TArea).length,2=([(⟨0,100⟩:TArea),(⟨1000,200⟩:TArea)]:List TArea).length,∀ zi,zi < ([(⟨0,100⟩:TArea),(⟨1000,200⟩:TArea)]:List TArea).length→(fun zi=>TArea.cells (([(⟨0,100⟩:TArea),(⟨1000,200⟩:TArea)]:List TArea).getD zi TArea.d)) zi=(fun zi=>([[(aI 0),(aI 100)],[(aI 1000),(aI 200)]]:List (List AV)).getD zi []) zi] ⟨o1,rfl,rfl,(fun zq hzq=>get_chunk TArea.cells TArea.d ([(⟨0,100⟩:TArea),(⟨1000,200⟩:TArea)]:List TArea) zq hzq),trivial⟩ ?_
 obtain rfl:=Option.some.inj h
 refine Runs.sW hE ⟨[(0,(.op 16 0 0))],[(16,vO 3 [(aS (⟨#[65]⟩:ByteArray)),(encL TArea.cells TArea.d ([(⟨0,100⟩:TArea),(⟨1000,200⟩:TArea)]:List TArea)),(aI 3000)])],96⟩ [48] (kp [0]) [(16,.var 0 [.keep,.sl (([(⟨0,100⟩:TArea),(⟨1000,200⟩:TArea)]:List TArea).length) (fun zi=>TArea.cells (([(⟨0,100⟩:TArea),(⟨1000,200⟩:TArea)]:List TArea).getD zi TArea.d)),.keep])] 96 [([(⟨0,100⟩:TArea),(⟨1000,200⟩:TArea)]:List TArea).length=([(⟨0,100⟩:TArea),(⟨1000,200⟩:TArea)]:List TArea).length,0+([(⟨0,100⟩:TArea),(⟨1000,200⟩:TArea)]:List TArea).length≤([(⟨0,100⟩:TArea),(⟨1000,200⟩:TArea)]:List TArea).length,∀ zi,zi < ([(⟨0,100⟩:TArea),(⟨1000,200⟩:TArea)]:List TArea).length→(fun zi=>TArea.cells (([(⟨0,100⟩:TArea),(⟨1000,200⟩:TArea)]:List TArea).getD zi TArea.d)) zi=(fun zi=>TArea.cells (([(⟨0,100⟩:TArea),(⟨1000,200⟩:TArea)]:List TArea).getD zi TArea.d)) (addz 0 zi)] ⟨rfl,z0,(fun _ _=>rfl),trivial⟩ ?_
 exact Runs.sT Try.f25 [16] [0 < 1] ⟨o1,trivial⟩
noncomputable def C_6 (n:Nat):Code:=cat (bodyOf Try.f28) (pth n)
theorem g_water_between_ok (N:Nat) (n:Int) (low:Int) (high:Int) (r:Bool) (h:g_water_between N n low high=some r):Sound Try.prog 28 [(aI n),(aI low),(aI high)] [] 0 (aB r) []:=by
 unfold g_water_between at h
 refine Sound.of_runs (fu:=Try.f28) (c:=C_6 1) (nt:=15) (by kernel_rfl) (by kernel_rfl) (by kernel_rfl) (by kernel_rfl) (fun hm=>rfl) ?_
 intro E hE
 refine Runs.sA 1 [.code (C_6 2),.code (C_6 3)] ?_
 refine Runs.sR hE ⟨[(0,(aI n)),(1,(aI low)),(2,(aI high))],[],16⟩ (C_6 2) [] [] (kp [0,1,2]) [] 16 [] trivial ?_
 refine Runs.sA 1 [.code (C_6 6),.code (C_6 7)] ?_
 refine Runs.sR hE ⟨[(6,(aB (cond (decide (n≥low)) (decide (n≤high)) false)))],[],160⟩ (C_6 6) [] [] (kp [6]) [] 160 [(decide (n≥low))=true→AllP [(decide (n≥low))=true,(decide (n≥low))=true],(decide (n≥low))=true→AllP [(decide (n≥low))=true]] ⟨(fun hg=>⟨hg,hg,trivial⟩),(fun hq=>⟨hq,trivial⟩),trivial⟩ ?_
 obtain rfl:=Option.some.inj h
 refine Runs.sW hE ⟨[(6,(aB (cond (decide (n≥low)) (decide (n≤high)) false)))],[],160⟩ [] (kp [6]) [] 160 [] trivial ?_
 exact Runs.sT Try.f28 [] [] trivial
noncomputable def C_5 (n:Nat):Code:=cat (bodyOf Try.f82) (pth n)
theorem g_water_isName_L1_ok (N:Nat) (s:ByteArray) (fuel:Nat):∀ (x:Int) (r:Bool),g_water_isName_L1 N s fuel x=some r→∀ E,EnvOk E 0→Runs Try.prog E 82 51 (SPost E [] (aB r)) [.code (C_5 116),.inLoop (C_5 116),.inBlock 0,.code (C_5 15)] ⟨[(11,(encL (cU .u8) 0 (bytesL s))),(12,(aI ((s.size:Nat):Int))),(13,(aI x))],[],0⟩:=by
 induction fuel with
 | zero=>intro _ r h;rw [g_water_isName_L1.eq_1] at h;cases h
 | succ fuel ih =>
  intro x r h E hE
  rw [g_water_isName_L1.eq_2] at h
  refine Runs.sA 1 [.code (C_5 232),.code (C_5 233),.inLoop (C_5 116),.inBlock 0,.code (C_5 15)] ?_
  refine Runs.sR hE ⟨[(11,(encL (cU .u8) 0 (bytesL s))),(12,(aI ((s.size:Nat):Int))),(13,(aI x)),(14,(aB (decide (x < ((s.size:Nat):Int)))))],[],16⟩ (C_5 232) [] [] (kp [11,12,13,14]) [] 16 [] trivial ?_
  refine Runs.sA 1 [.code (C_5 466),.code (C_5 467),.inLoop (C_5 116),.inBlock 0,.code (C_5 15)] ?_
  refine Runs.sC 14 (C_5 932) (C_5 933) (decide (x < ((s.size:Nat):Int))) (fun hq3=>?_) (fun hq3=>?_)
  ·have h:=condT h hq3
   refine Runs.sA 4 [.code (C_5 3736),.code (C_5 3737),.inBlock 1,.code (C_5 935),.inLoop (C_5 116),.inBlock 0,.code (C_5 15)] ?_
   obtain ⟨c,h⟩:=ifSome h
   refine Runs.sR hE ⟨[(3,(aI x)),(4,(.atom (.int .u8 ((bytesL s).getD ((x).toNat) 0)))),(11,(encL (cU .u8) 0 (bytesL s))),(12,(aI ((s.size:Nat):Int))),(13,(aI x))],[],96⟩ (C_5 3736) [] [] (kp [3,4,11,12,13]) [] 96 [0≤x∧x < (((bytesL s).length:Nat):Int)] ⟨c,trivial⟩ ?_
   refine Runs.sA 1 [.code (C_5 7474),.code (C_5 7475),.inBlock 1,.code (C_5 935),.inLoop (C_5 116),.inBlock 0,.code (C_5 15)] ?_
   refine Runs.sR hE ⟨[(3,(aI x)),(4,(.atom (.int .u8 ((bytesL s).getD ((x).toNat) 0)))),(5,(aB (cond (cond (decide (((bytesL s).getD ((x).toNat) 0)≥97)) (decide (((bytesL s).getD ((x).toNat) 0)≤122)) false) true (cond (decide (((bytesL s).getD ((x).toNat) 0)≥65)) (decide (((bytesL s).getD ((x).toNat) 0)≤90)) false)))),(11,(encL (cU .u8) 0 (bytesL s))),(12,(aI ((s.size:Nat):Int))),(13,(aI x))],[],336⟩ (C_5 7474) [] [] (kp [3,4,5,11,12,13]) [] 336 [(decide (((bytesL s).getD ((x).toNat) 0)≥97))=true→AllP [(decide (((bytesL s).getD ((x).toNat) 0)≥97))=true],(decide (((bytesL s).getD ((x).toNat) 0)≥97))=true→AllP [(decide (((bytesL s).getD ((x).toNat) 0)≥97))=true],(!(cond (decide (((bytesL s).getD ((x).toNat) 0)≥97)) (decide (((bytesL s).getD ((x).toNat) 0)≤122)) false))=true→AllP [(!(cond (decide (((bytesL s).getD ((x).toNat) 0)≥97)) (decide (((bytesL s).getD ((x).toNat) 0)≤122)) false))=true],((!(cond (decide (((bytesL s).getD ((x).toNat) 0)≥97)) (decide (((bytesL s).getD ((x).toNat) 0)≤122)) false)) && ((!(cond (decide (((bytesL s).getD ((x).toNat) 0)≥97)) (decide (((bytesL s).getD ((x).toNat) 0)≤122)) false)) && (decide (((bytesL s).getD ((x).toNat) 0)≥65))))=true→AllP [((!(cond (decide (((bytesL s).getD ((x).toNat) 0)≥97)) (decide (((bytesL s).getD ((x).toNat) 0)≤122)) false)) && ((!(cond (decide (((bytesL s).getD ((x).toNat) 0)≥97)) (decide (((bytesL s).getD ((x).toNat) 0)≤122)) false)) && (decide (((bytesL s).getD ((x).toNat) 0)≥65))))=true],(!(cond (decide (((bytesL s).getD ((x).toNat) 0)≥97)) (decide (((bytesL s).getD ((x).toNat) 0)≤122)) false))=true→AllP [(!(cond (decide (((bytesL s).getD ((x).toNat) 0)≥97)) (decide (((bytesL s).getD ((x).toNat) 0)≤122)) false))=true,(!(cond (decide (((bytesL s).getD ((x).toNat) 0)≥97)) (decide (((bytesL s).getD ((x).toNat) 0)≤122)) false))=true,(decide (((bytesL s).getD ((x).toNat) 0)≥65))=true→AllP [((!(cond (decide (((bytesL s).getD ((x).toNat) 0)≥97)) (decide (((bytesL s).getD ((x).toNat) 0)≤122)) false)) && ((!(cond (decide (((bytesL s).getD ((x).toNat) 0)≥97)) (decide (((bytesL s).getD ((x).toNat) 0)≤122)) false)) && (decide (((bytesL s).getD ((x).toNat) 0)≥65))))=true]],(!(cond (decide (((bytesL s).getD ((x).toNat) 0)≥97)) (decide (((bytesL s).getD ((x).toNat) 0)≤122)) false))=true→AllP [(!(cond (decide (((bytesL s).getD ((x).toNat) 0)≥97)) (decide (((bytesL s).getD ((x).toNat) 0)≤122)) false))=true]] ⟨(fun hg=>⟨hg,trivial⟩),(fun hq=>⟨hq,trivial⟩),(fun hg=>⟨hg,trivial⟩),(fun hg=>⟨hg,trivial⟩),(fun hg=>⟨hg,hg,(fun hq=>⟨(andI' hg (andI' hg hq)),trivial⟩),trivial⟩),(fun hq=>⟨hq,trivial⟩),trivial⟩ ?_
   refine Runs.sA 1 [.code (C_5 14950),.code (C_5 14951),.inBlock 1,.code (C_5 935),.inLoop (C_5 116),.inBlock 0,.code (C_5 15)] ?_
   refine Runs.sR hE ⟨[(11,(encL (cU .u8) 0 (bytesL s))),(12,(aI ((s.size:Nat):Int))),(13,(aI x)),(49,(aB (cond (!(cond (cond (decide (((bytesL s).getD ((x).toNat) 0)≥97)) (decide (((bytesL s).getD ((x).toNat) 0)≤122)) false) true (cond (decide (((bytesL s).getD ((x).toNat) 0)≥65)) (decide (((bytesL s).getD ((x).toNat) 0)≤90)) false))) (cond (x == 0) true (cond (((bytesL s).getD ((x).toNat) 0) != 45) (cond (decide (((bytesL s).getD ((x).toNat) 0) < 48)) true (decide (((bytesL s).getD ((x).toNat) 0) > 57))) false)) false)))],[],624⟩ (C_5 14950) [] [] (kp [11,12,13,49]) [] 624 [(!(cond (cond (decide (((bytesL s).getD ((x).toNat) 0)≥97)) (decide (((bytesL s).getD ((x).toNat) 0)≤122)) false) true (cond (decide (((bytesL s).getD ((x).toNat) 0)≥65)) (decide (((bytesL s).getD ((x).toNat) 0)≤90)) false)))=true→AllP [(!(cond (cond (decide (((bytesL s).getD ((x).toNat) 0)≥97)) (decide (((bytesL s).getD ((x).toNat) 0)≤122)) false) true (cond (decide (((bytesL s).getD ((x).toNat) 0)≥65)) (decide (((bytesL s).getD ((x).toNat) 0)≤90)) false)))=true],((!(cond (cond (decide (((bytesL s).getD ((x).toNat) 0)≥97)) (decide (((bytesL s).getD ((x).toNat) 0)≤122)) false) true (cond (decide (((bytesL s).getD ((x).toNat) 0)≥65)) (decide (((bytesL s).getD ((x).toNat) 0)≤90)) false))) && ((!(cond (cond (decide (((bytesL s).getD ((x).toNat) 0)≥97)) (decide (((bytesL s).getD ((x).toNat) 0)≤122)) false) true (cond (decide (((bytesL s).getD ((x).toNat) 0)≥65)) (decide (((bytesL s).getD ((x).toNat) 0)≤90)) false))) && (!(x == 0))))=true→AllP [((!(cond (cond (decide (((bytesL s).getD ((x).toNat) 0)≥97)) (decide (((bytesL s).getD ((x).toNat) 0)≤122)) false) true (cond (decide (((bytesL s).getD ((x).toNat) 0)≥65)) (decide (((bytesL s).getD ((x).toNat) 0)≤90)) false))) && ((!(cond (cond (decide (((bytesL s).getD ((x).toNat) 0)≥97)) (decide (((bytesL s).getD ((x).toNat) 0)≤122)) false) true (cond (decide (((bytesL s).getD ((x).toNat) 0)≥65)) (decide (((bytesL s).getD ((x).toNat) 0)≤90)) false))) && (!(x == 0))))=true],(((!(cond (cond (decide (((bytesL s).getD ((x).toNat) 0)≥97)) (decide (((bytesL s).getD ((x).toNat) 0)≤122)) false) true (cond (decide (((bytesL s).getD ((x).toNat) 0)≥65)) (decide (((bytesL s).getD ((x).toNat) 0)≤90)) false))) && ((!(cond (cond (decide (((bytesL s).getD ((x).toNat) 0)≥97)) (decide (((bytesL s).getD ((x).toNat) 0)≤122)) false) true (cond (decide (((bytesL s).getD ((x).toNat) 0)≥65)) (decide (((bytesL s).getD ((x).toNat) 0)≤90)) false))) && (!(x == 0)))) && (((!(cond (cond (decide (((bytesL s).getD ((x).toNat) 0)≥97)) (decide (((bytesL s).getD ((x).toNat) 0)≤122)) false) true (cond (decide (((bytesL s).getD ((x).toNat) 0)≥65)) (decide (((bytesL s).getD ((x).toNat) 0)≤90)) false))) && ((!(cond (cond (decide (((bytesL s).getD ((x).toNat) 0)≥97)) (decide (((bytesL s).getD ((x).toNat) 0)≤122)) false) true (cond (decide (((bytesL s).getD ((x).toNat) 0)≥65)) (decide (((bytesL s).getD ((x).toNat) 0)≤90)) false))) && (!(x == 0)))) && (((bytesL s).getD ((x).toNat) 0) != 45)))=true→AllP [(((!(cond (cond (decide (((bytesL s).getD ((x).toNat) 0)≥97)) (decide (((bytesL s).getD ((x).toNat) 0)≤122)) false) true (cond (decide (((bytesL s).getD ((x).toNat) 0)≥65)) (decide (((bytesL s).getD ((x).toNat) 0)≤90)) false))) && ((!(cond (cond (decide (((bytesL s).getD ((x).toNat) 0)≥97)) (decide (((bytesL s).getD ((x).toNat) 0)≤122)) false) true (cond (decide (((bytesL s).getD ((x).toNat) 0)≥65)) (decide (((bytesL s).getD ((x).toNat) 0)≤90)) false))) && (!(x == 0)))) && (((!(cond (cond (decide (((bytesL s).getD ((x).toNat) 0)≥97)) (decide (((bytesL s).getD ((x).toNat) 0)≤122)) false) true (cond (decide (((bytesL s).getD ((x).toNat) 0)≥65)) (decide (((bytesL s).getD ((x).toNat) 0)≤90)) false))) && ((!(cond (cond (decide (((bytesL s).getD ((x).toNat) 0)≥97)) (decide (((bytesL s).getD ((x).toNat) 0)≤122)) false) true (cond (decide (((bytesL s).getD ((x).toNat) 0)≥65)) (decide (((bytesL s).getD ((x).toNat) 0)≤90)) false))) && (!(x == 0)))) && (((bytesL s).getD ((x).toNat) 0) != 45)))=true],((((!(cond (cond (decide (((bytesL s).getD ((x).toNat) 0)≥97)) (decide (((bytesL s).getD ((x).toNat) 0)≤122)) false) true (cond (decide (((bytesL s).getD ((x).toNat) 0)≥65)) (decide (((bytesL s).getD ((x).toNat) 0)≤90)) false))) && ((!(cond (cond (decide (((bytesL s).getD ((x).toNat) 0)≥97)) (decide (((bytesL s).getD ((x).toNat) 0)≤122)) false) true (cond (decide (((bytesL s).getD ((x).toNat) 0)≥65)) (decide (((bytesL s).getD ((x).toNat) 0)≤90)) false))) && (!(x == 0)))) && (((!(cond (cond (decide (((bytesL s).getD ((x).toNat) 0)≥97)) (decide (((bytesL s).getD ((x).toNat) 0)≤122)) false) true (cond (decide (((bytesL s).getD ((x).toNat) 0)≥65)) (decide (((bytesL s).getD ((x).toNat) 0)≤90)) false))) && ((!(cond (cond (decide (((bytesL s).getD ((x).toNat) 0)≥97)) (decide (((bytesL s).getD ((x).toNat) 0)≤122)) false) true (cond (decide (((bytesL s).getD ((x).toNat) 0)≥65)) (decide (((bytesL s).getD ((x).toNat) 0)≤90)) false))) && (!(x == 0)))) && (((bytesL s).getD ((x).toNat) 0) != 45))) && ((((!(cond (cond (decide (((bytesL s).getD ((x).toNat) 0)≥97)) (decide (((bytesL s).getD ((x).toNat) 0)≤122)) false) true (cond (decide (((bytesL s).getD ((x).toNat) 0)≥65)) (decide (((bytesL s).getD ((x).toNat) 0)≤90)) false))) && ((!(cond (cond (decide (((bytesL s).getD ((x).toNat) 0)≥97)) (decide (((bytesL s).getD ((x).toNat) 0)≤122)) false) true (cond (decide (((bytesL s).getD ((x).toNat) 0)≥65)) (decide (((bytesL s).getD ((x).toNat) 0)≤90)) false))) && (!(x == 0)))) && (((!(cond (cond (decide (((bytesL s).getD ((x).toNat) 0)≥97)) (decide (((bytesL s).getD ((x).toNat) 0)≤122)) false) true (cond (decide (((bytesL s).getD ((x).toNat) 0)≥65)) (decide (((bytesL s).getD ((x).toNat) 0)≤90)) false))) && ((!(cond (cond (decide (((bytesL s).getD ((x).toNat) 0)≥97)) (decide (((bytesL s).getD ((x).toNat) 0)≤122)) false) true (cond (decide (((bytesL s).getD ((x).toNat) 0)≥65)) (decide (((bytesL s).getD ((x).toNat) 0)≤90)) false))) && (!(x == 0)))) && (((bytesL s).getD ((x).toNat) 0) != 45))) && (!(decide (((bytesL s).getD ((x).toNat) 0) < 48)))))=true→AllP [((((!(cond (cond (decide (((bytesL s).getD ((x).toNat) 0)≥97)) (decide (((bytesL s).getD ((x).toNat) 0)≤122)) false) true (cond (decide (((bytesL s).getD ((x).toNat) 0)≥65)) (decide (((bytesL s).getD ((x).toNat) 0)≤90)) false))) && ((!(cond (cond (decide (((bytesL s).getD ((x).toNat) 0)≥97)) (decide (((bytesL s).getD ((x).toNat) 0)≤122)) false) true (cond (decide (((bytesL s).getD ((x).toNat) 0)≥65)) (decide (((bytesL s).getD ((x).toNat) 0)≤90)) false))) && (!(x == 0)))) && (((!(cond (cond (decide (((bytesL s).getD ((x).toNat) 0)≥97)) (decide (((bytesL s).getD ((x).toNat) 0)≤122)) false) true (cond (decide (((bytesL s).getD ((x).toNat) 0)≥65)) (decide (((bytesL s).getD ((x).toNat) 0)≤90)) false))) && ((!(cond (cond (decide (((bytesL s).getD ((x).toNat) 0)≥97)) (decide (((bytesL s).getD ((x).toNat) 0)≤122)) false) true (cond (decide (((bytesL s).getD ((x).toNat) 0)≥65)) (decide (((bytesL s).getD ((x).toNat) 0)≤90)) false))) && (!(x == 0)))) && (((bytesL s).getD ((x).toNat) 0) != 45))) && ((((!(cond (cond (decide (((bytesL s).getD ((x).toNat) 0)≥97)) (decide (((bytesL s).getD ((x).toNat) 0)≤122)) false) true (cond (decide (((bytesL s).getD ((x).toNat) 0)≥65)) (decide (((bytesL s).getD ((x).toNat) 0)≤90)) false))) && ((!(cond (cond (decide (((bytesL s).getD ((x).toNat) 0)≥97)) (decide (((bytesL s).getD ((x).toNat) 0)≤122)) false) true (cond (decide (((bytesL s).getD ((x).toNat) 0)≥65)) (decide (((bytesL s).getD ((x).toNat) 0)≤90)) false))) && (!(x == 0)))) && (((!(cond (cond (decide (((bytesL s).getD ((x).toNat) 0)≥97)) (decide (((bytesL s).getD ((x).toNat) 0)≤122)) false) true (cond (decide (((bytesL s).getD ((x).toNat) 0)≥65)) (decide (((bytesL s).getD ((x).toNat) 0)≤90)) false))) && ((!(cond (cond (decide (((bytesL s).getD ((x).toNat) 0)≥97)) (decide (((bytesL s).getD ((x).toNat) 0)≤122)) false) true (cond (decide (((bytesL s).getD ((x).toNat) 0)≥65)) (decide (((bytesL s).getD ((x).toNat) 0)≤90)) false))) && (!(x == 0)))) && (((bytesL s).getD ((x).toNat) 0) != 45))) && (!(decide (((bytesL s).getD ((x).toNat) 0) < 48)))))=true],(((!(cond (cond (decide (((bytesL s).getD ((x).toNat) 0)≥97)) (decide (((bytesL s).getD ((x).toNat) 0)≤122)) false) true (cond (decide (((bytesL s).getD ((x).toNat) 0)≥65)) (decide (((bytesL s).getD ((x).toNat) 0)≤90)) false))) && ((!(cond (cond (decide (((bytesL s).getD ((x).toNat) 0)≥97)) (decide (((bytesL s).getD ((x).toNat) 0)≤122)) false) true (cond (decide (((bytesL s).getD ((x).toNat) 0)≥65)) (decide (((bytesL s).getD ((x).toNat) 0)≤90)) false))) && (!(x == 0)))) && (((!(cond (cond (decide (((bytesL s).getD ((x).toNat) 0)≥97)) (decide (((bytesL s).getD ((x).toNat) 0)≤122)) false) true (cond (decide (((bytesL s).getD ((x).toNat) 0)≥65)) (decide (((bytesL s).getD ((x).toNat) 0)≤90)) false))) && ((!(cond (cond (decide (((bytesL s).getD ((x).toNat) 0)≥97)) (decide (((bytesL s).getD ((x).toNat) 0)≤122)) false) true (cond (decide (((bytesL s).getD ((x).toNat) 0)≥65)) (decide (((bytesL s).getD ((x).toNat) 0)≤90)) false))) && (!(x == 0)))) && (((bytesL s).getD ((x).toNat) 0) != 45)))=true→AllP [(((!(cond (cond (decide (((bytesL s).getD ((x).toNat) 0)≥97)) (decide (((bytesL s).getD ((x).toNat) 0)≤122)) false) true (cond (decide (((bytesL s).getD ((x).toNat) 0)≥65)) (decide (((bytesL s).getD ((x).toNat) 0)≤90)) false))) && ((!(cond (cond (decide (((bytesL s).getD ((x).toNat) 0)≥97)) (decide (((bytesL s).getD ((x).toNat) 0)≤122)) false) true (cond (decide (((bytesL s).getD ((x).toNat) 0)≥65)) (decide (((bytesL s).getD ((x).toNat) 0)≤90)) false))) && (!(x == 0)))) && (((!(cond (cond (decide (((bytesL s).getD ((x).toNat) 0)≥97)) (decide (((bytesL s).getD ((x).toNat) 0)≤122)) false) true (cond (decide (((bytesL s).getD ((x).toNat) 0)≥65)) (decide (((bytesL s).getD ((x).toNat) 0)≤90)) false))) && ((!(cond (cond (decide (((bytesL s).getD ((x).toNat) 0)≥97)) (decide (((bytesL s).getD ((x).toNat) 0)≤122)) false) true (cond (decide (((bytesL s).getD ((x).toNat) 0)≥65)) (decide (((bytesL s).getD ((x).toNat) 0)≤90)) false))) && (!(x == 0)))) && (((bytesL s).getD ((x).toNat) 0) != 45)))=true,(((!(cond (cond (decide (((bytesL s).getD ((x).toNat) 0)≥97)) (decide (((bytesL s).getD ((x).toNat) 0)≤122)) false) true (cond (decide (((bytesL s).getD ((x).toNat) 0)≥65)) (decide (((bytesL s).getD ((x).toNat) 0)≤90)) false))) && ((!(cond (cond (decide (((bytesL s).getD ((x).toNat) 0)≥97)) (decide (((bytesL s).getD ((x).toNat) 0)≤122)) false) true (cond (decide (((bytesL s).getD ((x).toNat) 0)≥65)) (decide (((bytesL s).getD ((x).toNat) 0)≤90)) false))) && (!(x == 0)))) && (((!(cond (cond (decide (((bytesL s).getD ((x).toNat) 0)≥97)) (decide (((bytesL s).getD ((x).toNat) 0)≤122)) false) true (cond (decide (((bytesL s).getD ((x).toNat) 0)≥65)) (decide (((bytesL s).getD ((x).toNat) 0)≤90)) false))) && ((!(cond (cond (decide (((bytesL s).getD ((x).toNat) 0)≥97)) (decide (((bytesL s).getD ((x).toNat) 0)≤122)) false) true (cond (decide (((bytesL s).getD ((x).toNat) 0)≥65)) (decide (((bytesL s).getD ((x).toNat) 0)≤90)) false))) && (!(x == 0)))) && (((bytesL s).getD ((x).toNat) 0) != 45)))=true,(!(decide (((bytesL s).getD ((x).toNat) 0) < 48)))=true→AllP [((((!(cond (cond (decide (((bytesL s).getD ((x).toNat) 0)≥97)) (decide (((bytesL s).getD ((x).toNat) 0)≤122)) false) true (cond (decide (((bytesL s).getD ((x).toNat) 0)≥65)) (decide (((bytesL s).getD ((x).toNat) 0)≤90)) false))) && ((!(cond (cond (decide (((bytesL s).getD ((x).toNat) 0)≥97)) (decide (((bytesL s).getD ((x).toNat) 0)≤122)) false) true (cond (decide (((bytesL s).getD ((x).toNat) 0)≥65)) (decide (((bytesL s).getD ((x).toNat) 0)≤90)) false))) && (!(x == 0)))) && (((!(cond (cond (decide (((bytesL s).getD ((x).toNat) 0)≥97)) (decide (((bytesL s).getD ((x).toNat) 0)≤122)) false) true (cond (decide (((bytesL s).getD ((x).toNat) 0)≥65)) (decide (((bytesL s).getD ((x).toNat) 0)≤90)) false))) && ((!(cond (cond (decide (((bytesL s).getD ((x).toNat) 0)≥97)) (decide (((bytesL s).getD ((x).toNat) 0)≤122)) false) true (cond (decide (((bytesL s).getD ((x).toNat) 0)≥65)) (decide (((bytesL s).getD ((x).toNat) 0)≤90)) false))) && (!(x == 0)))) && (((bytesL s).getD ((x).toNat) 0) != 45))) && ((((!(cond (cond (decide (((bytesL s).getD ((x).toNat) 0)≥97)) (decide (((bytesL s).getD ((x).toNat) 0)≤122)) false) true (cond (decide (((bytesL s).getD ((x).toNat) 0)≥65)) (decide (((bytesL s).getD ((x).toNat) 0)≤90)) false))) && ((!(cond (cond (decide (((bytesL s).getD ((x).toNat) 0)≥97)) (decide (((bytesL s).getD ((x).toNat) 0)≤122)) false) true (cond (decide (((bytesL s).getD ((x).toNat) 0)≥65)) (decide (((bytesL s).getD ((x).toNat) 0)≤90)) false))) && (!(x == 0)))) && (((!(cond (cond (decide (((bytesL s).getD ((x).toNat) 0)≥97)) (decide (((bytesL s).getD ((x).toNat) 0)≤122)) false) true (cond (decide (((bytesL s).getD ((x).toNat) 0)≥65)) (decide (((bytesL s).getD ((x).toNat) 0)≤90)) false))) && ((!(cond (cond (decide (((bytesL s).getD ((x).toNat) 0)≥97)) (decide (((bytesL s).getD ((x).toNat) 0)≤122)) false) true (cond (decide (((bytesL s).getD ((x).toNat) 0)≥65)) (decide (((bytesL s).getD ((x).toNat) 0)≤90)) false))) && (!(x == 0)))) && (((bytesL s).getD ((x).toNat) 0) != 45))) && (!(decide (((bytesL s).getD ((x).toNat) 0) < 48)))))=true]],((!(cond (cond (decide (((bytesL s).getD ((x).toNat) 0)≥97)) (decide (((bytesL s).getD ((x).toNat) 0)≤122)) false) true (cond (decide (((bytesL s).getD ((x).toNat) 0)≥65)) (decide (((bytesL s).getD ((x).toNat) 0)≤90)) false))) && ((!(cond (cond (decide (((bytesL s).getD ((x).toNat) 0)≥97)) (decide (((bytesL s).getD ((x).toNat) 0)≤122)) false) true (cond (decide (((bytesL s).getD ((x).toNat) 0)≥65)) (decide (((bytesL s).getD ((x).toNat) 0)≤90)) false))) && (!(x == 0))))=true→AllP [((!(cond (cond (decide (((bytesL s).getD ((x).toNat) 0)≥97)) (decide (((bytesL s).getD ((x).toNat) 0)≤122)) false) true (cond (decide (((bytesL s).getD ((x).toNat) 0)≥65)) (decide (((bytesL s).getD ((x).toNat) 0)≤90)) false))) && ((!(cond (cond (decide (((bytesL s).getD ((x).toNat) 0)≥97)) (decide (((bytesL s).getD ((x).toNat) 0)≤122)) false) true (cond (decide (((bytesL s).getD ((x).toNat) 0)≥65)) (decide (((bytesL s).getD ((x).toNat) 0)≤90)) false))) && (!(x == 0))))=true,((!(cond (cond (decide (((bytesL s).getD ((x).toNat) 0)≥97)) (decide (((bytesL s).getD ((x).toNat) 0)≤122)) false) true (cond (decide (((bytesL s).getD ((x).toNat) 0)≥65)) (decide (((bytesL s).getD ((x).toNat) 0)≤90)) false))) && ((!(cond (cond (decide (((bytesL s).getD ((x).toNat) 0)≥97)) (decide (((bytesL s).getD ((x).toNat) 0)≤122)) false) true (cond (decide (((bytesL s).getD ((x).toNat) 0)≥65)) (decide (((bytesL s).getD ((x).toNat) 0)≤90)) false))) && (!(x == 0))))=true,(((bytesL s).getD ((x).toNat) 0) != 45)=true→AllP [(((!(cond (cond (decide (((bytesL s).getD ((x).toNat) 0)≥97)) (decide (((bytesL s).getD ((x).toNat) 0)≤122)) false) true (cond (decide (((bytesL s).getD ((x).toNat) 0)≥65)) (decide (((bytesL s).getD ((x).toNat) 0)≤90)) false))) && ((!(cond (cond (decide (((bytesL s).getD ((x).toNat) 0)≥97)) (decide (((bytesL s).getD ((x).toNat) 0)≤122)) false) true (cond (decide (((bytesL s).getD ((x).toNat) 0)≥65)) (decide (((bytesL s).getD ((x).toNat) 0)≤90)) false))) && (!(x == 0)))) && (((!(cond (cond (decide (((bytesL s).getD ((x).toNat) 0)≥97)) (decide (((bytesL s).getD ((x).toNat) 0)≤122)) false) true (cond (decide (((bytesL s).getD ((x).toNat) 0)≥65)) (decide (((bytesL s).getD ((x).toNat) 0)≤90)) false))) && ((!(cond (cond (decide (((bytesL s).getD ((x).toNat) 0)≥97)) (decide (((bytesL s).getD ((x).toNat) 0)≤122)) false) true (cond (decide (((bytesL s).getD ((x).toNat) 0)≥65)) (decide (((bytesL s).getD ((x).toNat) 0)≤90)) false))) && (!(x == 0)))) && (((bytesL s).getD ((x).toNat) 0) != 45)))=true]],(!(cond (cond (decide (((bytesL s).getD ((x).toNat) 0)≥97)) (decide (((bytesL s).getD ((x).toNat) 0)≤122)) false) true (cond (decide (((bytesL s).getD ((x).toNat) 0)≥65)) (decide (((bytesL s).getD ((x).toNat) 0)≤90)) false)))=true→AllP [(!(cond (cond (decide (((bytesL s).getD ((x).toNat) 0)≥97)) (decide (((bytesL s).getD ((x).toNat) 0)≤122)) false) true (cond (decide (((bytesL s).getD ((x).toNat) 0)≥65)) (decide (((bytesL s).getD ((x).toNat) 0)≤90)) false)))=true,(!(cond (cond (decide (((bytesL s).getD ((x).toNat) 0)≥97)) (decide (((bytesL s).getD ((x).toNat) 0)≤122)) false) true (cond (decide (((bytesL s).getD ((x).toNat) 0)≥65)) (decide (((bytesL s).getD ((x).toNat) 0)≤90)) false)))=true,(!(x == 0))=true→AllP [((!(cond (cond (decide (((bytesL s).getD ((x).toNat) 0)≥97)) (decide (((bytesL s).getD ((x).toNat) 0)≤122)) false) true (cond (decide (((bytesL s).getD ((x).toNat) 0)≥65)) (decide (((bytesL s).getD ((x).toNat) 0)≤90)) false))) && ((!(cond (cond (decide (((bytesL s).getD ((x).toNat) 0)≥97)) (decide (((bytesL s).getD ((x).toNat) 0)≤122)) false) true (cond (decide (((bytesL s).getD ((x).toNat) 0)≥65)) (decide (((bytesL s).getD ((x).toNat) 0)≤90)) false))) && (!(x == 0))))=true]],(!(cond (cond (decide (((bytesL s).getD ((x).toNat) 0)≥97)) (decide (((bytesL s).getD ((x).toNat) 0)≤122)) false) true (cond (decide (((bytesL s).getD ((x).toNat) 0)≥65)) (decide (((bytesL s).getD ((x).toNat) 0)≤90)) false)))=true→AllP [(!(cond (cond (decide (((bytesL s).getD ((x).toNat) 0)≥97)) (decide (((bytesL s).getD ((x).toNat) 0)≤122)) false) true (cond (decide (((bytesL s).getD ((x).toNat) 0)≥65)) (decide (((bytesL s).getD ((x).toNat) 0)≤90)) false)))=true]] ⟨(fun hg=>⟨hg,trivial⟩),(fun hg=>⟨hg,trivial⟩),(fun hg=>⟨hg,trivial⟩),(fun hg=>⟨hg,trivial⟩),(fun hg=>⟨hg,hg,(fun hq=>⟨(andI' hg (andI' hg hq)),trivial⟩),trivial⟩),(fun hg=>⟨hg,hg,(fun hq=>⟨(andI' hg (andI' hg hq)),trivial⟩),trivial⟩),(fun hg=>⟨hg,hg,(fun hq=>⟨(andI' hg (andI' hg hq)),trivial⟩),trivial⟩),(fun hq=>⟨hq,trivial⟩),trivial⟩ ?_
   refine Runs.sC 49 (C_5 29902) (C_5 29903) (cond (!(cond (cond (decide (((bytesL s).getD ((x).toNat) 0)≥97)) (decide (((bytesL s).getD ((x).toNat) 0)≤122)) false) true (cond (decide (((bytesL s).getD ((x).toNat) 0)≥65)) (decide (((bytesL s).getD ((x).toNat) 0)≤90)) false))) (cond (x == 0) true (cond (((bytesL s).getD ((x).toNat) 0) != 45) (cond (decide (((bytesL s).getD ((x).toNat) 0) < 48)) true (decide (((bytesL s).getD ((x).toNat) 0) > 57))) false)) false) (fun hq4=>?_) (fun hq4=>?_)
   ·have h:=condT h hq4
    refine Runs.sA 1 [.code (C_5 59804),.code (C_5 59805),.inBlock 1,.code (C_5 935),.inLoop (C_5 116),.inBlock 0,.code (C_5 15)] ?_
    refine Runs.sR hE ⟨[(2,(aB false))],[],640⟩ (C_5 59804) [] [] (kp [2]) [] 640 [] trivial ?_
    obtain rfl:=Option.some.inj h
    refine Runs.sW hE ⟨[(2,(aB false))],[],640⟩ [] (kp [2]) [] 640 [] trivial ?_
    exact Runs.sT Try.f82 [] [] trivial
   ·have h:=condF h hq4
    refine Runs.sA 2 [.code (C_5 935),.inLoop (C_5 116),.inBlock 0,.code (C_5 15)] ?_
    refine Runs.sR hE ⟨[(11,(encL (cU .u8) 0 (bytesL s))),(12,(aI ((s.size:Nat):Int))),(13,(aI (w64 (x+1))))],[],656⟩ (C_5 935) [] [] (kp [11,12,13]) [] 656 [] trivial ?_
    refine Runs.sA 1 [.code (C_5 116),.inLoop (C_5 116),.inBlock 0,.code (C_5 15)] ?_
    exact Runs.sW hE _ [] (kp [11,12,13]) [] 0 [] trivial (ih (w64 (x+1)) _ h E hE)
  ·have h:=condF h hq3
   refine Runs.sA 2 [.code (C_5 30),.code (C_5 31)] ?_
   refine Runs.sR hE ⟨[(2,(aB true))],[],32⟩ (C_5 30) [] [] (kp [2]) [] 32 [] trivial ?_
   obtain rfl:=Option.some.inj h
   refine Runs.sW hE ⟨[(2,(aB true))],[],48⟩ [] (kp [2]) [] 48 [] trivial ?_
   exact Runs.sT Try.f82 [] [] trivial
theorem g_water_isName_ok (N:Nat) (s:ByteArray) (r:Bool) (h:g_water_isName N s=some r):Sound Try.prog 82 [(aS s)] [] 0 (aB r) []:=by
 unfold g_water_isName at h
 refine Sound.of_runs (fu:=Try.f82) (c:=C_5 1) (nt:=51) (by kernel_rfl) (by kernel_rfl) (by kernel_rfl) (by kernel_rfl) (fun hm=>rfl) ?_
 intro E hE
 refine Runs.sA 1 [.code (C_5 2),.code (C_5 3)] ?_
 refine Runs.sR hE ⟨[(0,(aS s))],[],16⟩ (C_5 2) [] [] (kp [0]) [] 16 [] trivial ?_
 refine Runs.sA 2 [.code (C_5 12),.code (C_5 13),.code (C_5 7)] ?_
 obtain ⟨rbetween,hr,h⟩:=bindSome h
 refine Runs.sR hE ⟨[(0,(aS s)),(9,(aB (!rbetween)))],[],80⟩ (C_5 12) [(2,⟨[],true,(aB rbetween),[],0,false,none⟩)] [] (kp [0,9]) [] 80 [Sound Try.prog 28 [(aI ((s.size:Nat):Int)),(aI 1),(aI 12)] [] 0 (aB rbetween) []] ⟨(g_water_between_ok N ((s.size:Nat):Int) 1 12 rbetween hr),trivial⟩ ?_
 refine Runs.sC 9 (C_5 26) (C_5 27) (!rbetween) (fun hq2=>?_) (fun hq2=>?_)
 ·have h:=condT h hq2
  refine Runs.sA 1 [.code (C_5 52),.code (C_5 53),.code (C_5 7)] ?_
  refine Runs.sR hE ⟨[(2,(aB false))],[],96⟩ (C_5 52) [] [] (kp [2]) [] 96 [] trivial ?_
  obtain rfl:=Option.some.inj h
  refine Runs.sW hE ⟨[(2,(aB false))],[],96⟩ [] (kp [2]) [] 96 [] trivial ?_
  exact Runs.sT Try.f82 [] [] trivial
 ·have h:=condF h hq2
  refine Runs.sA 3 [.code (C_5 28),.code (C_5 29),.code (C_5 15)] ?_
  refine Runs.sR hE ⟨[(11,(encL (cU .u8) 0 (bytesL s))),(12,(aI ((s.size:Nat):Int))),(13,(aI 0))],[],144⟩ (C_5 28) [] [] ([(11,.sl ((bytesL s).length) (fun zi=>(cU .u8) ((bytesL s).getD zi 0)))] ++ kp [12,13]) [] 144 [s.size=(bytesL s).length,∀ zi,zi < (bytesL s).length→(fun zi=>(cU .u8) ((bytesL s).getD zi 0)) zi=(fun zi=>[.atom (.int .u8 (byteAt s zi))]) zi] ⟨(bytesL_len s),(bytesL_get s),trivial⟩ ?_
  refine Runs.sA 2 [.code (C_5 116),.inLoop (C_5 116),.inBlock 0,.code (C_5 15)] ?_
  exact Runs.sW hE _ [] (kp [11,12,13]) [] 0 [] trivial (g_water_isName_L1_ok N s N 0 _ h E hE)
noncomputable def C_7 (n:Nat):Code:=cat (bodyOf Try.f83) (pth n)
theorem g_water_checkForm_L1_ok (N:Nat) (b:TBasin) (fuel:Nat):∀ (x:Int) (r:Int),g_water_checkForm_L1 N b fuel x=some r→∀ E,EnvOk E 0→Runs Try.prog E 83 60 (SPost E [] (aI r)) [.code (C_7 116),.inLoop (C_7 116),.inBlock 0,.code (C_7 15)] ⟨[(1,(.op 0 0 0)),(11,(encL TArea.cells TArea.d b.f_Areas)),(12,(aI ((b.f_Areas.length:Nat):Int))),(13,(aI x))],[(0,vO 3 (TBasin.cells b))],1⟩:=by
 induction fuel with
 | zero=>intro _ r h;rw [g_water_checkForm_L1.eq_1] at h;cases h
 | succ fuel ih =>
  intro x r h E hE
  rw [g_water_checkForm_L1.eq_2] at h
  refine Runs.sA 1 [.code (C_7 232),.code (C_7 233),.inLoop (C_7 116),.inBlock 0,.code (C_7 15)] ?_
  refine Runs.sR hE ⟨[(1,(.op 0 0 0)),(11,(encL TArea.cells TArea.d b.f_Areas)),(12,(aI ((b.f_Areas.length:Nat):Int))),(13,(aI x)),(14,(aB (decide (x < ((b.f_Areas.length:Nat):Int)))))],[(0,vO 3 (TBasin.cells b))],17⟩ (C_7 232) [] [] (kp [1,11,12,13,14]) (kq [0]) 17 [] trivial ?_
  refine Runs.sA 1 [.code (C_7 466),.code (C_7 467),.inLoop (C_7 116),.inBlock 0,.code (C_7 15)] ?_
  refine Runs.sC 14 (C_7 932) (C_7 933) (decide (x < ((b.f_Areas.length:Nat):Int))) (fun hq3=>?_) (fun hq3=>?_)
  ·have h:=condT h hq3
   refine Runs.sA 4 [.code (C_7 3736),.code (C_7 3737),.inBlock 1,.code (C_7 935),.inLoop (C_7 116),.inBlock 0,.code (C_7 15)] ?_
   obtain ⟨c,h⟩:=ifSome h
   refine Runs.sR hE ⟨[(1,(.op 0 0 0)),(3,(aI x)),(4,(.op 65 0 0)),(11,(encL TArea.cells TArea.d b.f_Areas)),(12,(aI ((b.f_Areas.length:Nat):Int))),(13,(aI x))],[(0,vO 3 (TBasin.cells b)),(65,vO 2 (TArea.cells (b.f_Areas.getD ((x).toNat) TArea.d)))],113⟩ (C_7 3736) [] [] (kp [1,3,4,11,12,13]) (kq [0,65]) 113 [0≤x∧x < ((b.f_Areas.length:Nat):Int),0 < 1] ⟨c,o1,trivial⟩ ?_
   refine Runs.sA 2 [.code (C_7 14948),.code (C_7 14949),.code (C_7 7475),.inBlock 1,.code (C_7 935),.inLoop (C_7 116),.inBlock 0,.code (C_7 15)] ?_
   obtain ⟨rbetween2,hr2,h⟩:=bindSome h
   obtain ⟨rbetween3,hr3,h⟩:=bindSome h
   refine Runs.sR hE ⟨[(1,(.op 0 0 0)),(3,(aI x)),(4,(.op 65 0 0)),(11,(encL TArea.cells TArea.d b.f_Areas)),(12,(aI ((b.f_Areas.length:Nat):Int))),(13,(aI x)),(27,(aB (cond (!rbetween2) true (!rbetween3))))],[(0,vO 3 (TBasin.cells b)),(65,vO 2 (TArea.cells (b.f_Areas.getD ((x).toNat) TArea.d)))],273⟩ (C_7 14948) [(2,⟨[],true,(aB rbetween2),[],0,false,none⟩),(7,⟨[],true,(aB rbetween3),[],0,false,none⟩)] [] (kp [1,3,4,11,12,13,27]) (kq [0,65]) 273 [0 < 1,Sound Try.prog 28 [(aI ((b.f_Areas.getD ((x).toNat) TArea.d).f_From)),(aI (-1000000)),(aI 1000000)] [] 0 (aB rbetween2) [],(!(!rbetween2))=true→AllP [(!(!rbetween2))=true,0 < 1],(!(!rbetween2))=true→AllP [Sound Try.prog 28 [(aI ((b.f_Areas.getD ((x).toNat) TArea.d).f_Size)),(aI 1),(aI 1000000)] [] 0 (aB rbetween3) [],(!(!rbetween2))=true],(!(!rbetween2))=true→AllP [(!(!rbetween2))=true],(!(!rbetween2))=true→AllP [(!(!rbetween2))=true]] ⟨o1,(g_water_between_ok N ((b.f_Areas.getD ((x).toNat) TArea.d).f_From) (-1000000) 1000000 rbetween2 hr2),(fun hg=>⟨hg,o1,trivial⟩),(fun hg=>⟨(g_water_between_ok N ((b.f_Areas.getD ((x).toNat) TArea.d).f_Size) 1 1000000 rbetween3 (condT hr3 hg)),hg,trivial⟩),(fun hg=>⟨hg,trivial⟩),(fun hq=>⟨hq,trivial⟩),trivial⟩ ?_
   refine Runs.sC 27 (C_7 29898) (C_7 29899) (cond (!rbetween2) true (!rbetween3)) (fun hq4=>?_) (fun hq4=>?_)
   ·have h:=condT h hq4
    refine Runs.sA 1 [.code (C_7 59796),.code (C_7 59797),.code (C_7 7475),.inBlock 1,.code (C_7 935),.inLoop (C_7 116),.inBlock 0,.code (C_7 15)] ?_
    refine Runs.sR hE ⟨[(2,(aI 2))],[],289⟩ (C_7 59796) [] [] (kp [2]) [] 289 [] trivial ?_
    obtain rfl:=Option.some.inj h
    refine Runs.sW hE ⟨[(2,(aI 2))],[],289⟩ [] (kp [2]) [] 289 [] trivial ?_
    exact Runs.sT Try.f83 [] [] trivial
   ·have h:=condF h hq4
    refine Runs.sA 2 [.code (C_7 14950),.code (C_7 14951),.inBlock 1,.code (C_7 935),.inLoop (C_7 116),.inBlock 0,.code (C_7 15)] ?_
    obtain ⟨c2,h⟩:=ifSome h
    refine Runs.sR hE ⟨[(1,(.op 0 0 0)),(11,(encL TArea.cells TArea.d b.f_Areas)),(12,(aI ((b.f_Areas.length:Nat):Int))),(13,(aI x)),(41,(aB (cond (decide (x > 0)) (decide ((b.f_Areas.getD ((x).toNat) TArea.d).f_From≤(b.f_Areas.getD ((w64 (x - 1)).toNat) TArea.d).f_From)) false)))],[(0,vO 3 (TBasin.cells b))],497⟩ (C_7 14950) [] [] (kp [1,11,12,13,41]) (kq [0]) 497 [(decide (x > 0))=true→AllP [(decide (x > 0))=true,0 < 1],(decide (x > 0))=true→AllP [(decide (x > 0))=true,0 < 1],(decide (x > 0))=true→AllP [(decide (x > 0))=true],(decide (x > 0))=true→AllP [(decide (x > 0))=true,(decide (x > 0))=true,0≤(w64 (x - 1))∧(w64 (x - 1)) < ((b.f_Areas.length:Nat):Int)],(decide (x > 0))=true→AllP [(decide (x > 0))=true],(decide (x > 0))=true→AllP [(decide (x > 0))=true],(decide (x > 0))=true→AllP [(decide (x > 0))=true,(decide (x > 0))=true],(decide (x > 0))=true→AllP [(decide (x > 0))=true]] ⟨(fun hg=>⟨hg,o1,trivial⟩),(fun hg=>⟨hg,o1,trivial⟩),(fun hg=>⟨hg,trivial⟩),(fun hg=>⟨hg,hg,(c2 hg),trivial⟩),(fun hg=>⟨hg,trivial⟩),(fun hg=>⟨hg,trivial⟩),(fun hg=>⟨hg,hg,trivial⟩),(fun hq=>⟨hq,trivial⟩),trivial⟩ ?_
    refine Runs.sC 41 (C_7 29902) (C_7 29903) (cond (decide (x > 0)) (decide ((b.f_Areas.getD ((x).toNat) TArea.d).f_From≤(b.f_Areas.getD ((w64 (x - 1)).toNat) TArea.d).f_From)) false) (fun hq5=>?_) (fun hq5=>?_)
    ·have h:=condT h hq5
     refine Runs.sA 1 [.code (C_7 59804),.code (C_7 59805),.inBlock 1,.code (C_7 935),.inLoop (C_7 116),.inBlock 0,.code (C_7 15)] ?_
     refine Runs.sR hE ⟨[(2,(aI 10))],[],513⟩ (C_7 59804) [] [] (kp [2]) [] 513 [] trivial ?_
     obtain rfl:=Option.some.inj h
     refine Runs.sW hE ⟨[(2,(aI 10))],[],513⟩ [] (kp [2]) [] 513 [] trivial ?_
     exact Runs.sT Try.f83 [] [] trivial
    ·have h:=condF h hq5
     refine Runs.sA 2 [.code (C_7 935),.inLoop (C_7 116),.inBlock 0,.code (C_7 15)] ?_
     refine Runs.sR hE ⟨[(1,(.op 0 0 0)),(11,(encL TArea.cells TArea.d b.f_Areas)),(12,(aI ((b.f_Areas.length:Nat):Int))),(13,(aI (w64 (x+1))))],[(0,vO 3 (TBasin.cells b))],529⟩ (C_7 935) [] [] (kp [1,11,12,13]) (kq [0]) 529 [] trivial ?_
     refine Runs.sA 1 [.code (C_7 116),.inLoop (C_7 116),.inBlock 0,.code (C_7 15)] ?_
     exact Runs.sW hE _ [] (kp [1,11,12,13]) (kq [0]) 1 [] trivial (ih (w64 (x+1)) _ h E hE)
  ·have h:=condF h hq3
   refine Runs.sA 3 [.code (C_7 60),.code (C_7 61),.code (C_7 31)] ?_
   obtain ⟨c3,h⟩:=ifSome h
   refine Runs.sR hE ⟨[(59,(aB (cond (decide (b.f_Rim≤(b.f_Areas.getD ((w64 (((b.f_Areas.length:Nat):Int) - 1)).toNat) TArea.d).f_From)) true (decide (b.f_Rim > 1000000)))))],[],289⟩ (C_7 60) [] [] (kp [59]) [] 289 [0 < 1,0 < 1,0 < 1,0≤(w64 (((b.f_Areas.length:Nat):Int) - 1))∧(w64 (((b.f_Areas.length:Nat):Int) - 1)) < ((b.f_Areas.length:Nat):Int),(!(decide (b.f_Rim≤(b.f_Areas.getD ((w64 (((b.f_Areas.length:Nat):Int) - 1)).toNat) TArea.d).f_From)))=true→AllP [(!(decide (b.f_Rim≤(b.f_Areas.getD ((w64 (((b.f_Areas.length:Nat):Int) - 1)).toNat) TArea.d).f_From)))=true,0 < 1],(!(decide (b.f_Rim≤(b.f_Areas.getD ((w64 (((b.f_Areas.length:Nat):Int) - 1)).toNat) TArea.d).f_From)))=true→AllP [(!(decide (b.f_Rim≤(b.f_Areas.getD ((w64 (((b.f_Areas.length:Nat):Int) - 1)).toNat) TArea.d).f_From)))=true],(!(decide (b.f_Rim≤(b.f_Areas.getD ((w64 (((b.f_Areas.length:Nat):Int) - 1)).toNat) TArea.d).f_From)))=true→AllP [(!(decide (b.f_Rim≤(b.f_Areas.getD ((w64 (((b.f_Areas.length:Nat):Int) - 1)).toNat) TArea.d).f_From)))=true]] ⟨o1,o1,o1,c3,(fun hg=>⟨hg,o1,trivial⟩),(fun hg=>⟨hg,trivial⟩),(fun hq=>⟨hq,trivial⟩),trivial⟩ ?_
   refine Runs.sC 59 (C_7 122) (C_7 123) (cond (decide (b.f_Rim≤(b.f_Areas.getD ((w64 (((b.f_Areas.length:Nat):Int) - 1)).toNat) TArea.d).f_From)) true (decide (b.f_Rim > 1000000))) (fun hq6=>?_) (fun hq6=>?_)
   ·have h:=condT h hq6
    refine Runs.sA 1 [.code (C_7 244),.code (C_7 245),.code (C_7 31)] ?_
    refine Runs.sR hE ⟨[(2,(aI 2))],[],305⟩ (C_7 244) [] [] (kp [2]) [] 305 [] trivial ?_
    obtain rfl:=Option.some.inj h
    refine Runs.sW hE ⟨[(2,(aI 2))],[],305⟩ [] (kp [2]) [] 305 [] trivial ?_
    exact Runs.sT Try.f83 [] [] trivial
   ·have h:=condF h hq6
    refine Runs.sA 2 [.code (C_7 62),.code (C_7 63)] ?_
    refine Runs.sR hE ⟨[(2,(aI 0))],[],305⟩ (C_7 62) [] [] (kp [2]) [] 305 [] trivial ?_
    obtain rfl:=Option.some.inj h
    refine Runs.sW hE ⟨[(2,(aI 0))],[],305⟩ [] (kp [2]) [] 305 [] trivial ?_
    exact Runs.sT Try.f83 [] [] trivial
theorem g_water_checkForm_ok (N:Nat) (b:TBasin) (r:Int) (h:g_water_checkForm N b=some r):Sound Try.prog 83 [(.agg (TBasin.cells b))] [] 0 (aI r) []:=by
 unfold g_water_checkForm at h
 refine Sound.of_runs (fu:=Try.f83) (c:=C_7 1) (nt:=60) (by kernel_rfl) (by kernel_rfl) (by kernel_rfl) (by kernel_rfl) (fun hm=>rfl) ?_
 intro E hE
 refine Runs.sA 1 [.code (C_7 2),.code (C_7 3)] ?_
 refine Runs.sR hE ⟨[(1,(.op 0 0 0))],[(0,vO 3 (TBasin.cells b))],32⟩ (C_7 2) [] [] (kp [1]) (kq [0]) 32 [] trivial ?_
 refine Runs.sA 2 [.code (C_7 12),.code (C_7 13),.code (C_7 7)] ?_
 obtain ⟨rbetween,hr,h⟩:=bindSome h
 refine Runs.sR hE ⟨[(1,(.op 0 0 0)),(9,(aB (!rbetween)))],[(0,vO 3 (TBasin.cells b))],112⟩ (C_7 12) [(3,⟨[],true,(aB rbetween),[],0,false,none⟩)] [] (kp [1,9]) (kq [0]) 112 [0 < 1,Sound Try.prog 28 [(aI ((b.f_Areas.length:Nat):Int)),(aI 1),(aI 20)] [] 0 (aB rbetween) []] ⟨o1,(g_water_between_ok N ((b.f_Areas.length:Nat):Int) 1 20 rbetween hr),trivial⟩ ?_
 refine Runs.sC 9 (C_7 26) (C_7 27) (!rbetween) (fun hq2=>?_) (fun hq2=>?_)
 ·have h:=condT h hq2
  refine Runs.sA 1 [.code (C_7 52),.code (C_7 53),.code (C_7 7)] ?_
  refine Runs.sR hE ⟨[(2,(aI 2))],[],128⟩ (C_7 52) [] [] (kp [2]) [] 128 [] trivial ?_
  obtain rfl:=Option.some.inj h
  refine Runs.sW hE ⟨[(2,(aI 2))],[],128⟩ [] (kp [2]) [] 128 [] trivial ?_
  exact Runs.sT Try.f83 [] [] trivial
 ·have h:=condF h hq2
  refine Runs.sA 3 [.code (C_7 28),.code (C_7 29),.code (C_7 15)] ?_
  refine Runs.sR hE ⟨[(1,(.op 0 0 0)),(11,(encL TArea.cells TArea.d b.f_Areas)),(12,(aI ((b.f_Areas.length:Nat):Int))),(13,(aI 0))],[(0,vO 3 (TBasin.cells b))],176⟩ (C_7 28) [] [] (kp [1,11,12,13]) (kq [0]) 176 [0 < 1] ⟨o1,trivial⟩ ?_
  refine Runs.sA 2 [.code (C_7 116),.inLoop (C_7 116),.inBlock 0,.code (C_7 15)] ?_
  exact Runs.sW hE _ [] (kp [1,11,12,13]) (kq [0]) 1 [] trivial (g_water_checkForm_L1_ok N b N 0 _ h E hE)
noncomputable def C_4 (n:Nat):Code:=cat (bodyOf Try.f61) (pth n)
theorem g_water_CheckBasin_ok (N:Nat) (b:TBasin) (r:Int) (h:g_water_CheckBasin N b=some r):Sound Try.prog 61 [(.agg (TBasin.cells b))] [] 0 (aI r) []:=by
 unfold g_water_CheckBasin at h
 refine Sound.of_runs (fu:=Try.f61) (c:=C_4 1) (nt:=9) (by kernel_rfl) (by kernel_rfl) (by kernel_rfl) (by kernel_rfl) (fun hm=>rfl) ?_
 intro E hE
 refine Runs.sA 1 [.code (C_4 2),.code (C_4 3)] ?_
 refine Runs.sR hE ⟨[(1,(.op 0 0 0))],[(0,vO 3 (TBasin.cells b))],32⟩ (C_4 2) [] [] (kp [1]) (kq [0]) 32 [] trivial ?_
 refine Runs.sA 2 [.code (C_4 12),.code (C_4 13),.code (C_4 7)] ?_
 obtain ⟨risName,hr,h⟩:=bindSome h
 refine Runs.sR hE ⟨[(1,(.op 0 0 0)),(6,(aB (!risName)))],[(0,vO 3 (TBasin.cells b))],96⟩ (C_4 12) [(2,⟨[],true,(aB risName),[],0,false,none⟩)] [] (kp [1,6]) (kq [0]) 96 [0 < 1,Sound Try.prog 82 [(aS b.f_Name)] [] 0 (aB risName) []] ⟨o1,(g_water_isName_ok N b.f_Name risName hr),trivial⟩ ?_
 refine Runs.sC 6 (C_4 26) (C_4 27) (!risName) (fun hq2=>?_) (fun hq2=>?_)
 ·have h:=condT h hq2
  refine Runs.sA 1 [.code (C_4 52),.code (C_4 53),.code (C_4 7)] ?_
  refine Runs.sR hE ⟨[(2,(aI 4))],[],112⟩ (C_4 52) [] [] (kp [2]) [] 112 [] trivial ?_
  obtain rfl:=Option.some.inj h
  refine Runs.sW hE ⟨[(2,(aI 4))],[],112⟩ [] (kp [2]) [] 112 [] trivial ?_
  exact Runs.sT Try.f61 [] [] trivial
 ·have h:=condF h hq2
  refine Runs.sA 2 [.code (C_4 14),.code (C_4 15)] ?_
  obtain ⟨rcheckForm,hr2,h⟩:=bindSome h
  refine Runs.sR hE ⟨[(2,(aI rcheckForm))],[],144⟩ (C_4 14) [(1,⟨[],true,(aI rcheckForm),[],0,false,none⟩)] [] (kp [2]) [] 144 [0 < 1,Sound Try.prog 83 [(.agg (TBasin.cells b))] [] 0 (aI rcheckForm) []] ⟨o1,(g_water_checkForm_ok N b rcheckForm hr2),trivial⟩ ?_
  obtain rfl:=Option.some.inj h
  refine Runs.sW hE ⟨[(2,(aI rcheckForm))],[],144⟩ [] (kp [2]) [] 144 [] trivial ?_
  exact Runs.sT Try.f61 [] [] trivial
noncomputable def C_8 (n:Nat):Code:=cat (bodyOf Try.f62) (pth n)
theorem g_water_floor_ok (N:Nat) (b:TBasin) (r:Int) (h:g_water_floor N b=some r):Sound Try.prog 62 [(.agg (TBasin.cells b))] [] 0 (aI r) []:=by
 unfold g_water_floor at h
 refine Sound.of_runs (fu:=Try.f62) (c:=C_8 1) (nt:=8) (by kernel_rfl) (by kernel_rfl) (by kernel_rfl) (by kernel_rfl) (fun hm=>rfl) ?_
 intro E hE
 refine Runs.sA 1 [.code (C_8 2),.code (C_8 3)] ?_
 refine Runs.sR hE ⟨[(1,(.op 0 0 0))],[(0,vO 3 (TBasin.cells b))],32⟩ (C_8 2) [] [] (kp [1]) (kq [0]) 32 [] trivial ?_
 refine Runs.sA 1 [.code (C_8 6),.code (C_8 7)] ?_
 obtain ⟨c,h⟩:=ifSome h
 refine Runs.sR hE ⟨[(2,(aI ((b.f_Areas.getD 0 TArea.d).f_From)))],[],128⟩ (C_8 6) [] [] (kp [2]) [] 128 [0 < 1,0≤(0:Int)∧0 < ((b.f_Areas.length:Nat):Int)] ⟨o1,c,trivial⟩ ?_
 obtain rfl:=Option.some.inj h
 refine Runs.sW hE ⟨[(2,(aI ((b.f_Areas.getD 0 TArea.d).f_From)))],[],128⟩ [] (kp [2]) [] 128 [] trivial ?_
 exact Runs.sT Try.f62 [] [] trivial
noncomputable def C_9 (n:Nat):Code:=cat (bodyOf Try.f63) (pth n)
theorem g_water_volume_J2_ok (N:Nat) (b:TBasin) (level:Int) (sum:Int) (x:Int) (K_g_water_volume_L1:Int→Int→Option (Int))
  (hK_g_water_volume_L1:∀ (sum:Int) (x:Int) (r:Int),K_g_water_volume_L1 sum x=some r→∀ E,EnvOk E 0→Runs Try.prog E 63 45 (SPost E [] (aI r)) [.code (C_9 116),.inLoop (C_9 116),.inBlock 0,.code (C_9 15)] ⟨[(1,(aI level)),(2,(.op 0 0 0)),(5,(aI sum)),(10,(encL TArea.cells TArea.d b.f_Areas)),(11,(aI ((b.f_Areas.length:Nat):Int))),(12,(aI x))],[(0,vO 3 (TBasin.cells b))],1⟩) (top:Int) (r:Int) (h:g_water_volume_J2 N b level sum x K_g_water_volume_L1 top=some r):∀ E,EnvOk E 0→Runs Try.prog E 63 45 (SPost E [] (aI r)) [.code (C_9 14951),.inBlock 1,.code (C_9 935),.inLoop (C_9 116),.inBlock 0,.code (C_9 15)] ⟨[(1,(aI level)),(2,(.op 0 0 0)),(5,(aI sum)),(7,(.op 1 0 0)),(8,(aI top)),(10,(encL TArea.cells TArea.d b.f_Areas)),(11,(aI ((b.f_Areas.length:Nat):Int))),(12,(aI x))],[(0,vO 3 (TBasin.cells b)),(1,vO 2 (TArea.cells (b.f_Areas.getD ((x).toNat) TArea.d)))],2⟩:=by
 intro E hE
 unfold g_water_volume_J2 at h
 refine Runs.sR hE ⟨[(1,(aI level)),(2,(.op 0 0 0)),(5,(aI (w64 (sum+(w64 ((b.f_Areas.getD ((x).toNat) TArea.d).f_Size * (if (w64 (top - (b.f_Areas.getD ((x).toNat) TArea.d).f_From)) > 0 then (w64 (top - (b.f_Areas.getD ((x).toNat) TArea.d).f_From)) else 0))))))),(10,(encL TArea.cells TArea.d b.f_Areas)),(11,(aI ((b.f_Areas.length:Nat):Int))),(12,(aI x))],[(0,vO 3 (TBasin.cells b))],178⟩ (C_9 14951) [] [] (kp [1,2,5,10,11,12]) (kq [0]) 178 [0 < 1,0 < 1] ⟨o1,o1,trivial⟩ ?_
 refine Runs.sA 1 [.code (C_9 935),.inLoop (C_9 116),.inBlock 0,.code (C_9 15)] ?_
 refine Runs.sR hE ⟨[(1,(aI level)),(2,(.op 0 0 0)),(5,(aI (w64 (sum+(w64 ((b.f_Areas.getD ((x).toNat) TArea.d).f_Size * (if (w64 (top - (b.f_Areas.getD ((x).toNat) TArea.d).f_From)) > 0 then (w64 (top - (b.f_Areas.getD ((x).toNat) TArea.d).f_From)) else 0))))))),(10,(encL TArea.cells TArea.d b.f_Areas)),(11,(aI ((b.f_Areas.length:Nat):Int))),(12,(aI (w64 (x+1))))],[(0,vO 3 (TBasin.cells b))],210⟩ (C_9 935) [] [] (kp [1,2,5,10,11,12]) (kq [0]) 210 [] trivial ?_
 refine Runs.sA 1 [.code (C_9 116),.inLoop (C_9 116),.inBlock 0,.code (C_9 15)] ?_
 exact Runs.sW hE _ [] (kp [1,2,5,10,11,12]) (kq [0]) 1 [] trivial (hK_g_water_volume_L1 (w64 (sum+(w64 ((b.f_Areas.getD ((x).toNat) TArea.d).f_Size * (if (w64 (top - (b.f_Areas.getD ((x).toNat) TArea.d).f_From)) > 0 then (w64 (top - (b.f_Areas.getD ((x).toNat) TArea.d).f_From)) else 0))))) (w64 (x+1)) _ h E hE)
theorem g_water_volume_L1_ok (N:Nat) (b:TBasin) (level:Int) (fuel:Nat):∀ (sum:Int) (x:Int) (r:Int),g_water_volume_L1 N b level fuel sum x=some r→∀ E,EnvOk E 0→Runs Try.prog E 63 45 (SPost E [] (aI r)) [.code (C_9 116),.inLoop (C_9 116),.inBlock 0,.code (C_9 15)] ⟨[(1,(aI level)),(2,(.op 0 0 0)),(5,(aI sum)),(10,(encL TArea.cells TArea.d b.f_Areas)),(11,(aI ((b.f_Areas.length:Nat):Int))),(12,(aI x))],[(0,vO 3 (TBasin.cells b))],1⟩:=by
 induction fuel with
 | zero=>intro _ _ r h;rw [g_water_volume_L1.eq_1] at h;cases h
 | succ fuel ih =>
  intro sum x r h E hE
  rw [g_water_volume_L1.eq_2] at h
  refine Runs.sA 1 [.code (C_9 232),.code (C_9 233),.inLoop (C_9 116),.inBlock 0,.code (C_9 15)] ?_
  refine Runs.sR hE ⟨[(1,(aI level)),(2,(.op 0 0 0)),(5,(aI sum)),(10,(encL TArea.cells TArea.d b.f_Areas)),(11,(aI ((b.f_Areas.length:Nat):Int))),(12,(aI x)),(13,(aB (decide (x < ((b.f_Areas.length:Nat):Int)))))],[(0,vO 3 (TBasin.cells b))],17⟩ (C_9 232) [] [] (kp [1,2,5,10,11,12,13]) (kq [0]) 17 [] trivial ?_
  refine Runs.sA 1 [.code (C_9 466),.code (C_9 467),.inLoop (C_9 116),.inBlock 0,.code (C_9 15)] ?_
  refine Runs.sC 13 (C_9 932) (C_9 933) (decide (x < ((b.f_Areas.length:Nat):Int))) (fun hq2=>?_) (fun hq2=>?_)
  ·have h:=condT h hq2
   refine Runs.sA 4 [.code (C_9 3736),.code (C_9 3737),.inBlock 1,.code (C_9 935),.inLoop (C_9 116),.inBlock 0,.code (C_9 15)] ?_
   obtain ⟨c,h⟩:=ifSome h
   refine Runs.sR hE ⟨[(1,(aI level)),(2,(.op 0 0 0)),(5,(aI sum)),(6,(aI x)),(7,(.op 65 0 0)),(10,(encL TArea.cells TArea.d b.f_Areas)),(11,(aI ((b.f_Areas.length:Nat):Int))),(12,(aI x))],[(0,vO 3 (TBasin.cells b)),(65,vO 2 (TArea.cells (b.f_Areas.getD ((x).toNat) TArea.d)))],113⟩ (C_9 3736) [] [] (kp [1,2,5,6,7,10,11,12]) (kq [0,65]) 113 [0≤x∧x < ((b.f_Areas.length:Nat):Int),0 < 1] ⟨c,o1,trivial⟩ ?_
   refine Runs.sA 1 [.code (C_9 7474),.code (C_9 7475),.inBlock 1,.code (C_9 935),.inLoop (C_9 116),.inBlock 0,.code (C_9 15)] ?_
   refine Runs.sR hE ⟨[(1,(aI level)),(2,(.op 0 0 0)),(5,(aI sum)),(6,(aI x)),(7,(.op 65 0 0)),(8,(aI level)),(10,(encL TArea.cells TArea.d b.f_Areas)),(11,(aI ((b.f_Areas.length:Nat):Int))),(12,(aI x))],[(0,vO 3 (TBasin.cells b)),(65,vO 2 (TArea.cells (b.f_Areas.getD ((x).toNat) TArea.d)))],145⟩ (C_9 7474) [] [] (kp [1,2,5,6,7,8,10,11,12]) (kq [0,65]) 145 [] trivial ?_
   refine Runs.sA 2 [.code (C_9 29900),.code (C_9 29901),.code (C_9 14951),.inBlock 1,.code (C_9 935),.inLoop (C_9 116),.inBlock 0,.code (C_9 15)] ?_
   refine Runs.sR hE ⟨[(1,(aI level)),(2,(.op 0 0 0)),(5,(aI sum)),(6,(aI x)),(7,(.op 65 0 0)),(8,(aI level)),(10,(encL TArea.cells TArea.d b.f_Areas)),(11,(aI ((b.f_Areas.length:Nat):Int))),(12,(aI x)),(23,(aB (decide ((w64 (x+1)) < ((b.f_Areas.length:Nat):Int)))))],[(0,vO 3 (TBasin.cells b)),(65,vO 2 (TArea.cells (b.f_Areas.getD ((x).toNat) TArea.d)))],241⟩ (C_9 29900) [] [] (kp [1,2,5,6,7,8,10,11,12,23]) (kq [0,65]) 241 [0 < 1] ⟨o1,trivial⟩ ?_
   refine Runs.sC 23 (C_9 59802) (C_9 59803) (decide ((w64 (x+1)) < ((b.f_Areas.length:Nat):Int))) (fun hq3=>?_) (fun hq3=>?_)
   ·have h:=condT h hq3
    obtain ⟨c2,h⟩:=ifSome h
    refine Runs.sR hE ⟨[(1,(aI level)),(2,(.op 0 0 0)),(5,(aI sum)),(7,(.op 65 0 0)),(8,(aI (if (b.f_Areas.getD ((w64 (x+1)).toNat) TArea.d).f_From < level then (b.f_Areas.getD ((w64 (x+1)).toNat) TArea.d).f_From else level))),(10,(encL TArea.cells TArea.d b.f_Areas)),(11,(aI ((b.f_Areas.length:Nat):Int))),(12,(aI x))],[(0,vO 3 (TBasin.cells b)),(65,vO 2 (TArea.cells (b.f_Areas.getD ((x).toNat) TArea.d)))],401⟩ (C_9 59802) [] [] (kp [1,2,5,7,8,10,11,12]) (kq [0,65]) 401 [0 < 1,0≤(w64 (x+1))∧(w64 (x+1)) < ((b.f_Areas.length:Nat):Int)] ⟨o1,c2,trivial⟩ ?_
    exact Runs.sW hE _ [] (kp [1,2,5,7,8,10,11,12]) (kq [0] ++ [(1,.keep 65)]) 2 [] trivial (g_water_volume_J2_ok N b level sum x (g_water_volume_L1 N b level fuel) ih (if (b.f_Areas.getD ((w64 (x+1)).toNat) TArea.d).f_From < level then (b.f_Areas.getD ((w64 (x+1)).toNat) TArea.d).f_From else level) _ h E hE)
   ·have h:=condF h hq3
    refine Runs.sA 1 [.code (C_9 14951),.inBlock 1,.code (C_9 935),.inLoop (C_9 116),.inBlock 0,.code (C_9 15)] ?_
    exact Runs.sW hE _ [] (kp [1,2,5,7,8,10,11,12]) (kq [0] ++ [(1,.keep 65)]) 2 [] trivial (g_water_volume_J2_ok N b level sum x (g_water_volume_L1 N b level fuel) ih level _ h E hE)
  ·have h:=condF h hq2
   refine Runs.sA 2 [.code (C_9 30),.code (C_9 31)] ?_
   refine Runs.sR hE ⟨[(4,(aI sum))],[],49⟩ (C_9 30) [] [] (kp [4]) [] 49 [] trivial ?_
   obtain rfl:=Option.some.inj h
   refine Runs.sW hE ⟨[(4,(aI sum))],[],49⟩ [] (kp [4]) [] 49 [] trivial ?_
   exact Runs.sT Try.f63 [] [] trivial
theorem g_water_volume_ok (N:Nat) (b:TBasin) (level:Int) (r:Int) (h:g_water_volume N b level=some r):Sound Try.prog 63 [(.agg (TBasin.cells b)),(aI level)] [] 0 (aI r) []:=by
 unfold g_water_volume at h
 refine Sound.of_runs (fu:=Try.f63) (c:=C_9 1) (nt:=45) (by kernel_rfl) (by kernel_rfl) (by kernel_rfl) (by kernel_rfl) (fun hm=>rfl) ?_
 intro E hE
 refine Runs.sA 1 [.code (C_9 2),.code (C_9 3)] ?_
 refine Runs.sR hE ⟨[(1,(aI level)),(2,(.op 0 0 0))],[(0,vO 3 (TBasin.cells b))],32⟩ (C_9 2) [] [] (kp [1,2]) (kq [0]) 32 [] trivial ?_
 refine Runs.sA 1 [.code (C_9 6),.code (C_9 7)] ?_
 refine Runs.sR hE ⟨[(1,(aI level)),(2,(.op 0 0 0)),(5,(aI 0))],[(0,vO 3 (TBasin.cells b))],48⟩ (C_9 6) [] [] (kp [1,2,5]) (kq [0]) 48 [] trivial ?_
 refine Runs.sA 2 [.code (C_9 28),.code (C_9 29),.code (C_9 15)] ?_
 refine Runs.sR hE ⟨[(1,(aI level)),(2,(.op 0 0 0)),(5,(aI 0)),(10,(encL TArea.cells TArea.d b.f_Areas)),(11,(aI ((b.f_Areas.length:Nat):Int))),(12,(aI 0))],[(0,vO 3 (TBasin.cells b))],112⟩ (C_9 28) [] [] (kp [1,2,5,10,11,12]) (kq [0]) 112 [0 < 1] ⟨o1,trivial⟩ ?_
 refine Runs.sA 2 [.code (C_9 116),.inLoop (C_9 116),.inBlock 0,.code (C_9 15)] ?_
 exact Runs.sW hE _ [] (kp [1,2,5,10,11,12]) (kq [0]) 1 [] trivial (g_water_volume_L1_ok N b level N 0 0 _ h E hE)
noncomputable def C_3 (n:Nat):Code:=cat (bodyOf Try.f24) (pth n)
theorem g_water_Volume_ok (N:Nat) (b:TBasin) (level:Int) (r:Int×Int) (h:g_water_Volume N b level=some r):Sound Try.prog 24 [(.agg (TBasin.cells b)),(aI level)] [] 0 (.tup [(aI r.1),(aI r.2)]) []:=by
 unfold g_water_Volume at h
 refine Sound.of_runs (fu:=Try.f24) (c:=C_3 1) (nt:=22) (by kernel_rfl) (by kernel_rfl) (by kernel_rfl) (by kernel_rfl) (fun hm=>rfl) ?_
 intro E hE
 refine Runs.sA 1 [.code (C_3 2),.code (C_3 3)] ?_
 refine Runs.sR hE ⟨[(1,(aI level)),(2,(.op 0 0 0))],[(0,vO 3 (TBasin.cells b))],48⟩ (C_3 2) [] [] (kp [1,2]) (kq [0]) 48 [] trivial ?_
 refine Runs.sA 2 [.code (C_3 12),.code (C_3 13),.code (C_3 7)] ?_
 obtain ⟨rCheckBasin,hr,h⟩:=bindSome h
 refine Runs.sR hE ⟨[(1,(aI level)),(2,(.op 0 0 0)),(6,(aI rCheckBasin))],[(0,vO 3 (TBasin.cells b))],96⟩ (C_3 12) [(1,⟨[],true,(aI rCheckBasin),[],0,false,none⟩)] [] (kp [1,2,6]) (kq [0]) 96 [0 < 1,Sound Try.prog 61 [(.agg (TBasin.cells b))] [] 0 (aI rCheckBasin) []] ⟨o1,(g_water_CheckBasin_ok N b rCheckBasin hr),trivial⟩ ?_
 refine Runs.sA 1 [.code (C_3 26),.code (C_3 27),.code (C_3 7)] ?_
 refine Runs.sR hE ⟨[(1,(aI level)),(2,(.op 0 0 0)),(6,(aI rCheckBasin)),(10,(aB (rCheckBasin != 0)))],[(0,vO 3 (TBasin.cells b))],128⟩ (C_3 26) [] [] (kp [1,2,6,10]) (kq [0]) 128 [] trivial ?_
 refine Runs.sC 10 (C_3 54) (C_3 55) (rCheckBasin != 0) (fun hq2=>?_) (fun hq2=>?_)
 ·have h:=condT h hq2
  refine Runs.sA 1 [.code (C_3 108),.code (C_3 109),.code (C_3 7)] ?_
  refine Runs.sR hE ⟨[(4,(aI 0)),(5,(aI rCheckBasin))],[],176⟩ (C_3 108) [] [] (kp [4,5]) [] 176 [] trivial ?_
  obtain rfl:=Option.some.inj h
  refine Runs.sW hE ⟨[(4,(aI 0)),(5,(aI rCheckBasin))],[],176⟩ [] (kp [4,5]) [] 176 [] trivial ?_
  exact Runs.sT Try.f24 [] [] trivial
 ·have h:=condF h hq2
  refine Runs.sA 3 [.code (C_3 28),.code (C_3 29),.code (C_3 15)] ?_
  obtain ⟨rfloor,hr2,h⟩:=bindSome h
  obtain ⟨rbetween,hr3,h⟩:=bindSome h
  refine Runs.sR hE ⟨[(1,(aI level)),(2,(.op 0 0 0)),(18,(aB (!rbetween)))],[(0,vO 3 (TBasin.cells b))],240⟩ (C_3 28) [(2,⟨[],true,(aI rfloor),[],0,false,none⟩),(5,⟨[],true,(aB rbetween),[],0,false,none⟩)] [] (kp [1,2,18]) (kq [0]) 240 [0 < 1,Sound Try.prog 62 [(.agg (TBasin.cells b))] [] 0 (aI rfloor) [],0 < 1,Sound Try.prog 28 [(aI level),(aI rfloor),(aI b.f_Rim)] [] 0 (aB rbetween) []] ⟨o1,(g_water_floor_ok N b rfloor hr2),o1,(g_water_between_ok N level rfloor b.f_Rim rbetween hr3),trivial⟩ ?_
  refine Runs.sC 18 (C_3 58) (C_3 59) (!rbetween) (fun hq3=>?_) (fun hq3=>?_)
  ·have h:=condT h hq3
   refine Runs.sA 1 [.code (C_3 116),.code (C_3 117),.code (C_3 15)] ?_
   refine Runs.sR hE ⟨[(4,(aI 0)),(5,(aI 2))],[],272⟩ (C_3 116) [] [] (kp [4,5]) [] 272 [] trivial ?_
   obtain rfl:=Option.some.inj h
   refine Runs.sW hE ⟨[(4,(aI 0)),(5,(aI 2))],[],272⟩ [] (kp [4,5]) [] 272 [] trivial ?_
   exact Runs.sT Try.f24 [] [] trivial
  ·have h:=condF h hq3
   refine Runs.sA 2 [.code (C_3 30),.code (C_3 31)] ?_
   obtain ⟨rvolume,hr4,h⟩:=bindSome h
   refine Runs.sR hE ⟨[(4,(aI rvolume)),(5,(aI 0))],[],320⟩ (C_3 30) [(2,⟨[],true,(aI rvolume),[],0,false,none⟩)] [] (kp [4,5]) [] 320 [0 < 1,Sound Try.prog 63 [(.agg (TBasin.cells b)),(aI level)] [] 0 (aI rvolume) []] ⟨o1,(g_water_volume_ok N b level rvolume hr4),trivial⟩ ?_
   obtain rfl:=Option.some.inj h
   refine Runs.sW hE ⟨[(4,(aI rvolume)),(5,(aI 0))],[],320⟩ [] (kp [4,5]) [] 320 [] trivial ?_
   exact Runs.sT Try.f24 [] [] trivial
noncomputable def C_11 (n:Nat):Code:=cat (bodyOf Try.f64) (pth n)
theorem g_water_levelOf_J2_ok (N:Nat) (b:TBasin) (litres2:Int) (x:Int) (K_g_water_levelOf_L1:Int→Int→Int→Option (Int))
  (hK_g_water_levelOf_L1:∀ (litres2:Int) (level:Int) (x:Int) (r:Int),K_g_water_levelOf_L1 litres2 level x=some r→∀ E,EnvOk E 0→Runs Try.prog E 64 58 (SPost E [] (aI r)) [.code (C_11 116),.inLoop (C_11 116),.inBlock 0,.code (C_11 15)] ⟨[(1,(aI litres2)),(2,(.op 0 0 0)),(5,(aI level)),(13,(encL TArea.cells TArea.d b.f_Areas)),(14,(aI ((b.f_Areas.length:Nat):Int))),(15,(aI x))],[(0,vO 3 (TBasin.cells b))],1⟩) (top:Int) (r:Int) (h:g_water_levelOf_J2 N b litres2 x K_g_water_levelOf_L1 top=some r):∀ E,EnvOk E 0→Runs Try.prog E 64 58 (SPost E [] (aI r)) [.code (C_11 29902),.code (C_11 29903),.inBlock 1,.code (C_11 935),.inLoop (C_11 116),.inBlock 0,.code (C_11 15)] ⟨[(1,(aI litres2)),(2,(.op 0 0 0)),(7,(.op 1 0 0)),(8,(aI top)),(13,(encL TArea.cells TArea.d b.f_Areas)),(14,(aI ((b.f_Areas.length:Nat):Int))),(15,(aI x))],[(0,vO 3 (TBasin.cells b)),(1,vO 2 (TArea.cells (b.f_Areas.getD ((x).toNat) TArea.d)))],2⟩:=by
 intro E hE
 unfold g_water_levelOf_J2 at h
 refine Runs.sR hE ⟨[(1,(aI litres2)),(2,(.op 0 0 0)),(7,(.op 1 0 0)),(8,(aI top)),(9,(aI (w64 ((b.f_Areas.getD ((x).toNat) TArea.d).f_Size * (w64 (top - (b.f_Areas.getD ((x).toNat) TArea.d).f_From)))))),(13,(encL TArea.cells TArea.d b.f_Areas)),(14,(aI ((b.f_Areas.length:Nat):Int))),(15,(aI x))],[(0,vO 3 (TBasin.cells b)),(1,vO 2 (TArea.cells (b.f_Areas.getD ((x).toNat) TArea.d)))],130⟩ (C_11 29902) [] [] (kp [1,2,7,8,9,13,14,15]) (kq [0,1]) 130 [0 < 1,0 < 1] ⟨o1,o1,trivial⟩ ?_
 refine Runs.sA 2 [.code (C_11 119612),.code (C_11 119613),.code (C_11 59807),.inBlock 1,.code (C_11 935),.inLoop (C_11 116),.inBlock 0,.code (C_11 15)] ?_
 refine Runs.sR hE ⟨[(1,(aI litres2)),(2,(.op 0 0 0)),(7,(.op 1 0 0)),(8,(aI top)),(9,(aI (w64 ((b.f_Areas.getD ((x).toNat) TArea.d).f_Size * (w64 (top - (b.f_Areas.getD ((x).toNat) TArea.d).f_From)))))),(13,(encL TArea.cells TArea.d b.f_Areas)),(14,(aI ((b.f_Areas.length:Nat):Int))),(15,(aI x)),(44,(aB (decide (litres2 < (w64 ((b.f_Areas.getD ((x).toNat) TArea.d).f_Size * (w64 (top - (b.f_Areas.getD ((x).toNat) TArea.d).f_From))))))))],[(0,vO 3 (TBasin.cells b)),(1,vO 2 (TArea.cells (b.f_Areas.getD ((x).toNat) TArea.d)))],178⟩ (C_11 119612) [] [] (kp [1,2,7,8,9,13,14,15,44]) (kq [0,1]) 178 [] trivial ?_
 refine Runs.sC 44 (C_11 239226) (C_11 239227) (decide (litres2 < (w64 ((b.f_Areas.getD ((x).toNat) TArea.d).f_Size * (w64 (top - (b.f_Areas.getD ((x).toNat) TArea.d).f_From)))))) (fun hq4=>?_) (fun hq4=>?_)
 ·have h:=condT h hq4
  refine Runs.sA 1 [.code (C_11 478452),.code (C_11 478453),.code (C_11 59807),.inBlock 1,.code (C_11 935),.inLoop (C_11 116),.inBlock 0,.code (C_11 15)] ?_
  obtain ⟨c3,h⟩:=ifSome h
  refine Runs.sR hE ⟨[(4,(aI (w64 ((b.f_Areas.getD ((x).toNat) TArea.d).f_From+(w64 (litres2.tdiv ((b.f_Areas.getD ((x).toNat) TArea.d).f_Size)))))))],[],306⟩ (C_11 478452) [] [] (kp [4]) [] 306 [0 < 1,0 < 1,((b.f_Areas.getD ((x).toNat) TArea.d).f_Size:Int)≠0] ⟨o1,o1,c3,trivial⟩ ?_
  obtain rfl:=Option.some.inj h
  refine Runs.sW hE ⟨[(4,(aI (w64 ((b.f_Areas.getD ((x).toNat) TArea.d).f_From+(w64 (litres2.tdiv ((b.f_Areas.getD ((x).toNat) TArea.d).f_Size)))))))],[],306⟩ [] (kp [4]) [] 306 [] trivial ?_
  exact Runs.sT Try.f64 [] [] trivial
 ·have h:=condF h hq4
  refine Runs.sA 2 [.code (C_11 119614),.code (C_11 119615),.inBlock 1,.code (C_11 935),.inLoop (C_11 116),.inBlock 0,.code (C_11 15)] ?_
  refine Runs.sR hE ⟨[(1,(aI (w64 (litres2 - (w64 ((b.f_Areas.getD ((x).toNat) TArea.d).f_Size * (w64 (top - (b.f_Areas.getD ((x).toNat) TArea.d).f_From)))))))),(2,(.op 0 0 0)),(8,(aI top)),(13,(encL TArea.cells TArea.d b.f_Areas)),(14,(aI ((b.f_Areas.length:Nat):Int))),(15,(aI x))],[(0,vO 3 (TBasin.cells b))],242⟩ (C_11 119614) [] [] (kp [1,2,8,13,14,15]) (kq [0]) 242 [] trivial ?_
  refine Runs.sR hE ⟨[(1,(aI (w64 (litres2 - (w64 ((b.f_Areas.getD ((x).toNat) TArea.d).f_Size * (w64 (top - (b.f_Areas.getD ((x).toNat) TArea.d).f_From)))))))),(2,(.op 0 0 0)),(5,(aI top)),(13,(encL TArea.cells TArea.d b.f_Areas)),(14,(aI ((b.f_Areas.length:Nat):Int))),(15,(aI x))],[(0,vO 3 (TBasin.cells b))],274⟩ (C_11 119615) [] [] (kp [1,2,5,13,14,15]) (kq [0]) 274 [] trivial ?_
  refine Runs.sA 1 [.code (C_11 935),.inLoop (C_11 116),.inBlock 0,.code (C_11 15)] ?_
  refine Runs.sR hE ⟨[(1,(aI (w64 (litres2 - (w64 ((b.f_Areas.getD ((x).toNat) TArea.d).f_Size * (w64 (top - (b.f_Areas.getD ((x).toNat) TArea.d).f_From)))))))),(2,(.op 0 0 0)),(5,(aI top)),(13,(encL TArea.cells TArea.d b.f_Areas)),(14,(aI ((b.f_Areas.length:Nat):Int))),(15,(aI (w64 (x+1))))],[(0,vO 3 (TBasin.cells b))],306⟩ (C_11 935) [] [] (kp [1,2,5,13,14,15]) (kq [0]) 306 [] trivial ?_
  refine Runs.sA 1 [.code (C_11 116),.inLoop (C_11 116),.inBlock 0,.code (C_11 15)] ?_
  exact Runs.sW hE _ [] (kp [1,2,5,13,14,15]) (kq [0]) 1 [] trivial (hK_g_water_levelOf_L1 (w64 (litres2 - (w64 ((b.f_Areas.getD ((x).toNat) TArea.d).f_Size * (w64 (top - (b.f_Areas.getD ((x).toNat) TArea.d).f_From)))))) top (w64 (x+1)) _ h E hE)
theorem g_water_levelOf_L1_ok (N:Nat) (b:TBasin) (fuel:Nat):∀ (litres2:Int) (level:Int) (x:Int) (r:Int),g_water_levelOf_L1 N b fuel litres2 level x=some r→∀ E,EnvOk E 0→Runs Try.prog E 64 58 (SPost E [] (aI r)) [.code (C_11 116),.inLoop (C_11 116),.inBlock 0,.code (C_11 15)] ⟨[(1,(aI litres2)),(2,(.op 0 0 0)),(5,(aI level)),(13,(encL TArea.cells TArea.d b.f_Areas)),(14,(aI ((b.f_Areas.length:Nat):Int))),(15,(aI x))],[(0,vO 3 (TBasin.cells b))],1⟩:=by
 induction fuel with
 | zero=>intro _ _ _ r h;rw [g_water_levelOf_L1.eq_1] at h;cases h
 | succ fuel ih =>
  intro litres2 level x r h E hE
  rw [g_water_levelOf_L1.eq_2] at h
  refine Runs.sA 1 [.code (C_11 232),.code (C_11 233),.inLoop (C_11 116),.inBlock 0,.code (C_11 15)] ?_
  refine Runs.sR hE ⟨[(1,(aI litres2)),(2,(.op 0 0 0)),(5,(aI level)),(13,(encL TArea.cells TArea.d b.f_Areas)),(14,(aI ((b.f_Areas.length:Nat):Int))),(15,(aI x)),(16,(aB (decide (x < ((b.f_Areas.length:Nat):Int)))))],[(0,vO 3 (TBasin.cells b))],17⟩ (C_11 232) [] [] (kp [1,2,5,13,14,15,16]) (kq [0]) 17 [] trivial ?_
  refine Runs.sA 1 [.code (C_11 466),.code (C_11 467),.inLoop (C_11 116),.inBlock 0,.code (C_11 15)] ?_
  refine Runs.sC 16 (C_11 932) (C_11 933) (decide (x < ((b.f_Areas.length:Nat):Int))) (fun hq2=>?_) (fun hq2=>?_)
  ·have h:=condT h hq2
   refine Runs.sA 4 [.code (C_11 3736),.code (C_11 3737),.inBlock 1,.code (C_11 935),.inLoop (C_11 116),.inBlock 0,.code (C_11 15)] ?_
   obtain ⟨c,h⟩:=ifSome h
   refine Runs.sR hE ⟨[(1,(aI litres2)),(2,(.op 0 0 0)),(6,(aI x)),(7,(.op 65 0 0)),(13,(encL TArea.cells TArea.d b.f_Areas)),(14,(aI ((b.f_Areas.length:Nat):Int))),(15,(aI x))],[(0,vO 3 (TBasin.cells b)),(65,vO 2 (TArea.cells (b.f_Areas.getD ((x).toNat) TArea.d)))],113⟩ (C_11 3736) [] [] (kp [1,2,6,7,13,14,15]) (kq [0,65]) 113 [0≤x∧x < ((b.f_Areas.length:Nat):Int),0 < 1] ⟨c,o1,trivial⟩ ?_
   refine Runs.sA 1 [.code (C_11 7474),.code (C_11 7475),.inBlock 1,.code (C_11 935),.inLoop (C_11 116),.inBlock 0,.code (C_11 15)] ?_
   refine Runs.sR hE ⟨[(1,(aI litres2)),(2,(.op 0 0 0)),(6,(aI x)),(7,(.op 65 0 0)),(8,(aI b.f_Rim)),(13,(encL TArea.cells TArea.d b.f_Areas)),(14,(aI ((b.f_Areas.length:Nat):Int))),(15,(aI x))],[(0,vO 3 (TBasin.cells b)),(65,vO 2 (TArea.cells (b.f_Areas.getD ((x).toNat) TArea.d)))],161⟩ (C_11 7474) [] [] (kp [1,2,6,7,8,13,14,15]) (kq [0,65]) 161 [0 < 1] ⟨o1,trivial⟩ ?_
   refine Runs.sA 2 [.code (C_11 29900),.code (C_11 29901),.code (C_11 14951),.inBlock 1,.code (C_11 935),.inLoop (C_11 116),.inBlock 0,.code (C_11 15)] ?_
   refine Runs.sR hE ⟨[(1,(aI litres2)),(2,(.op 0 0 0)),(6,(aI x)),(7,(.op 65 0 0)),(8,(aI b.f_Rim)),(13,(encL TArea.cells TArea.d b.f_Areas)),(14,(aI ((b.f_Areas.length:Nat):Int))),(15,(aI x)),(27,(aB (decide ((w64 (x+1)) < ((b.f_Areas.length:Nat):Int)))))],[(0,vO 3 (TBasin.cells b)),(65,vO 2 (TArea.cells (b.f_Areas.getD ((x).toNat) TArea.d)))],257⟩ (C_11 29900) [] [] (kp [1,2,6,7,8,13,14,15,27]) (kq [0,65]) 257 [0 < 1] ⟨o1,trivial⟩ ?_
   refine Runs.sC 27 (C_11 59802) (C_11 59803) (decide ((w64 (x+1)) < ((b.f_Areas.length:Nat):Int))) (fun hq3=>?_) (fun hq3=>?_)
   ·have h:=condT h hq3
    obtain ⟨c2,h⟩:=ifSome h
    refine Runs.sR hE ⟨[(1,(aI litres2)),(2,(.op 0 0 0)),(7,(.op 65 0 0)),(8,(aI ((b.f_Areas.getD ((w64 (x+1)).toNat) TArea.d).f_From))),(13,(encL TArea.cells TArea.d b.f_Areas)),(14,(aI ((b.f_Areas.length:Nat):Int))),(15,(aI x))],[(0,vO 3 (TBasin.cells b)),(65,vO 2 (TArea.cells (b.f_Areas.getD ((x).toNat) TArea.d)))],385⟩ (C_11 59802) [] [] (kp [1,2,7,8,13,14,15]) (kq [0,65]) 385 [0 < 1,0≤(w64 (x+1))∧(w64 (x+1)) < ((b.f_Areas.length:Nat):Int)] ⟨o1,c2,trivial⟩ ?_
    refine Runs.sA 1 [.code (C_11 29902),.code (C_11 29903),.inBlock 1,.code (C_11 935),.inLoop (C_11 116),.inBlock 0,.code (C_11 15)] ?_
    exact Runs.sW hE _ [] (kp [1,2,7,8,13,14,15]) (kq [0] ++ [(1,.keep 65)]) 2 [] trivial (g_water_levelOf_J2_ok N b litres2 x (g_water_levelOf_L1 N b fuel) ih ((b.f_Areas.getD ((w64 (x+1)).toNat) TArea.d).f_From) _ h E hE)
   ·have h:=condF h hq3
    refine Runs.sA 2 [.code (C_11 29902),.code (C_11 29903),.inBlock 1,.code (C_11 935),.inLoop (C_11 116),.inBlock 0,.code (C_11 15)] ?_
    exact Runs.sW hE _ [] (kp [1,2,7,8,13,14,15]) (kq [0] ++ [(1,.keep 65)]) 2 [] trivial (g_water_levelOf_J2_ok N b litres2 x (g_water_levelOf_L1 N b fuel) ih b.f_Rim _ h E hE)
  ·have h:=condF h hq2
   refine Runs.sA 2 [.code (C_11 30),.code (C_11 31)] ?_
   refine Runs.sR hE ⟨[(4,(aI level))],[],49⟩ (C_11 30) [] [] (kp [4]) [] 49 [] trivial ?_
   obtain rfl:=Option.some.inj h
   refine Runs.sW hE ⟨[(4,(aI level))],[],49⟩ [] (kp [4]) [] 49 [] trivial ?_
   exact Runs.sT Try.f64 [] [] trivial
theorem g_water_levelOf_ok (N:Nat) (b:TBasin) (litres:Int) (r:Int) (h:g_water_levelOf N b litres=some r):Sound Try.prog 64 [(.agg (TBasin.cells b)),(aI litres)] [] 0 (aI r) []:=by
 unfold g_water_levelOf at h
 refine Sound.of_runs (fu:=Try.f64) (c:=C_11 1) (nt:=58) (by kernel_rfl) (by kernel_rfl) (by kernel_rfl) (by kernel_rfl) (fun hm=>rfl) ?_
 intro E hE
 refine Runs.sA 1 [.code (C_11 2),.code (C_11 3)] ?_
 refine Runs.sR hE ⟨[(1,(aI litres)),(2,(.op 0 0 0))],[(0,vO 3 (TBasin.cells b))],32⟩ (C_11 2) [] [] (kp [1,2]) (kq [0]) 32 [] trivial ?_
 refine Runs.sA 1 [.code (C_11 6),.code (C_11 7)] ?_
 obtain ⟨rfloor,hr,h⟩:=bindSome h
 refine Runs.sR hE ⟨[(1,(aI litres)),(2,(.op 0 0 0)),(5,(aI rfloor))],[(0,vO 3 (TBasin.cells b))],80⟩ (C_11 6) [(1,⟨[],true,(aI rfloor),[],0,false,none⟩)] [] (kp [1,2,5]) (kq [0]) 80 [0 < 1,Sound Try.prog 62 [(.agg (TBasin.cells b))] [] 0 (aI rfloor) []] ⟨o1,(g_water_floor_ok N b rfloor hr),trivial⟩ ?_
 refine Runs.sA 2 [.code (C_11 28),.code (C_11 29),.code (C_11 15)] ?_
 refine Runs.sR hE ⟨[(1,(aI litres)),(2,(.op 0 0 0)),(5,(aI rfloor)),(13,(encL TArea.cells TArea.d b.f_Areas)),(14,(aI ((b.f_Areas.length:Nat):Int))),(15,(aI 0))],[(0,vO 3 (TBasin.cells b))],144⟩ (C_11 28) [] [] (kp [1,2,5,13,14,15]) (kq [0]) 144 [0 < 1] ⟨o1,trivial⟩ ?_
 refine Runs.sA 2 [.code (C_11 116),.inLoop (C_11 116),.inBlock 0,.code (C_11 15)] ?_
 exact Runs.sW hE _ [] (kp [1,2,5,13,14,15]) (kq [0]) 1 [] trivial (g_water_levelOf_L1_ok N b N litres rfloor 0 _ h E hE)
noncomputable def C_10 (n:Nat):Code:=cat (bodyOf Try.f26) (pth n)
theorem g_water_Level_ok (N:Nat) (b:TBasin) (litres:Int) (r:Int×Int) (h:g_water_Level N b litres=some r):Sound Try.prog 26 [(.agg (TBasin.cells b)),(aI litres)] [] 0 (.tup [(aI r.1),(aI r.2)]) []:=by
 unfold g_water_Level at h
 refine Sound.of_runs (fu:=Try.f26) (c:=C_10 1) (nt:=22) (by kernel_rfl) (by kernel_rfl) (by kernel_rfl) (by kernel_rfl) (fun hm=>rfl) ?_
 intro E hE
 refine Runs.sA 1 [.code (C_10 2),.code (C_10 3)] ?_
 refine Runs.sR hE ⟨[(1,(aI litres)),(2,(.op 0 0 0))],[(0,vO 3 (TBasin.cells b))],48⟩ (C_10 2) [] [] (kp [1,2]) (kq [0]) 48 [] trivial ?_
 refine Runs.sA 2 [.code (C_10 12),.code (C_10 13),.code (C_10 7)] ?_
 obtain ⟨rCheckBasin,hr,h⟩:=bindSome h
 refine Runs.sR hE ⟨[(1,(aI litres)),(2,(.op 0 0 0)),(6,(aI rCheckBasin))],[(0,vO 3 (TBasin.cells b))],96⟩ (C_10 12) [(1,⟨[],true,(aI rCheckBasin),[],0,false,none⟩)] [] (kp [1,2,6]) (kq [0]) 96 [0 < 1,Sound Try.prog 61 [(.agg (TBasin.cells b))] [] 0 (aI rCheckBasin) []] ⟨o1,(g_water_CheckBasin_ok N b rCheckBasin hr),trivial⟩ ?_
 refine Runs.sA 1 [.code (C_10 26),.code (C_10 27),.code (C_10 7)] ?_
 refine Runs.sR hE ⟨[(1,(aI litres)),(2,(.op 0 0 0)),(6,(aI rCheckBasin)),(10,(aB (rCheckBasin != 0)))],[(0,vO 3 (TBasin.cells b))],128⟩ (C_10 26) [] [] (kp [1,2,6,10]) (kq [0]) 128 [] trivial ?_
 refine Runs.sC 10 (C_10 54) (C_10 55) (rCheckBasin != 0) (fun hq2=>?_) (fun hq2=>?_)
 ·have h:=condT h hq2
  refine Runs.sA 1 [.code (C_10 108),.code (C_10 109),.code (C_10 7)] ?_
  refine Runs.sR hE ⟨[(4,(aI 0)),(5,(aI rCheckBasin))],[],176⟩ (C_10 108) [] [] (kp [4,5]) [] 176 [] trivial ?_
  obtain rfl:=Option.some.inj h
  refine Runs.sW hE ⟨[(4,(aI 0)),(5,(aI rCheckBasin))],[],176⟩ [] (kp [4,5]) [] 176 [] trivial ?_
  exact Runs.sT Try.f26 [] [] trivial
 ·have h:=condF h hq2
  refine Runs.sA 3 [.code (C_10 28),.code (C_10 29),.code (C_10 15)] ?_
  obtain ⟨rvolume,hr2,h⟩:=bindSome h
  obtain ⟨rbetween,hr3,h⟩:=bindSome h
  refine Runs.sR hE ⟨[(1,(aI litres)),(2,(.op 0 0 0)),(18,(aB (!rbetween)))],[(0,vO 3 (TBasin.cells b))],240⟩ (C_10 28) [(4,⟨[],true,(aI rvolume),[],0,false,none⟩),(5,⟨[],true,(aB rbetween),[],0,false,none⟩)] [] (kp [1,2,18]) (kq [0]) 240 [0 < 1,0 < 1,Sound Try.prog 63 [(.agg (TBasin.cells b)),(aI b.f_Rim)] [] 0 (aI rvolume) [],Sound Try.prog 28 [(aI litres),(aI 0),(aI rvolume)] [] 0 (aB rbetween) []] ⟨o1,o1,(g_water_volume_ok N b b.f_Rim rvolume hr2),(g_water_between_ok N litres 0 rvolume rbetween hr3),trivial⟩ ?_
  refine Runs.sC 18 (C_10 58) (C_10 59) (!rbetween) (fun hq3=>?_) (fun hq3=>?_)
  ·have h:=condT h hq3
   refine Runs.sA 1 [.code (C_10 116),.code (C_10 117),.code (C_10 15)] ?_
   refine Runs.sR hE ⟨[(4,(aI 0)),(5,(aI 2))],[],272⟩ (C_10 116) [] [] (kp [4,5]) [] 272 [] trivial ?_
   obtain rfl:=Option.some.inj h
   refine Runs.sW hE ⟨[(4,(aI 0)),(5,(aI 2))],[],272⟩ [] (kp [4,5]) [] 272 [] trivial ?_
   exact Runs.sT Try.f26 [] [] trivial
  ·have h:=condF h hq3
   refine Runs.sA 2 [.code (C_10 30),.code (C_10 31)] ?_
   obtain ⟨rlevelOf,hr4,h⟩:=bindSome h
   refine Runs.sR hE ⟨[(4,(aI rlevelOf)),(5,(aI 0))],[],320⟩ (C_10 30) [(2,⟨[],true,(aI rlevelOf),[],0,false,none⟩)] [] (kp [4,5]) [] 320 [0 < 1,Sound Try.prog 64 [(.agg (TBasin.cells b)),(aI litres)] [] 0 (aI rlevelOf) []] ⟨o1,(g_water_levelOf_ok N b litres rlevelOf hr4),trivial⟩ ?_
   obtain rfl:=Option.some.inj h
   refine Runs.sW hE ⟨[(4,(aI rlevelOf)),(5,(aI 0))],[],320⟩ [] (kp [4,5]) [] 320 [] trivial ?_
   exact Runs.sT Try.f26 [] [] trivial
noncomputable def C_1 (n:Nat):Code:=cat (bodyOf Try.f6) (pth n)
theorem g_w05_awake_ok (N:Nat) (r:Bool) (h:g_w05_awake N=some r):Sound Try.prog 6 [] [] 0 (aB r) []:=by
 unfold g_w05_awake at h
 refine Sound.of_runs (fu:=Try.f6) (c:=C_1 1) (nt:=29) (by kernel_rfl) (by kernel_rfl) (by kernel_rfl) (by kernel_rfl) (fun hm=>rfl) ?_
 intro E hE
 refine Runs.sA 1 [.code (C_1 2),.code (C_1 3)] ?_
 refine Runs.sR hE ⟨[],[],16⟩ (C_1 2) [] [] [] [] 16 [] trivial ?_
 refine Runs.sA 1 [.code (C_1 6),.code (C_1 7)] ?_
 obtain ⟨rtub,hr,h⟩:=bindSome h
 obtain ⟨rVolume,hr2,h⟩:=bindSome h
 refine Runs.sR hE ⟨[(1,(aI rVolume.1)),(2,(aI rVolume.2))],[],128⟩ (C_1 6) [(0,⟨[],true,(.agg (TBasin.cells rtub)),[],0,false,none⟩),(1,⟨[],true,(.tup [(aI rVolume.1),(aI rVolume.2)]),[],0,false,none⟩)] [] (kp [1,2]) [] 128 [Sound Try.prog 25 [] [] 0 (.agg (TBasin.cells rtub)) [],Sound Try.prog 24 [(.agg (TBasin.cells rtub)),(aI 1500)] [] 0 (.tup [(aI rVolume.1),(aI rVolume.2)]) []] ⟨(g_w05_tub_ok N rtub hr),(g_water_Volume_ok N rtub 1500 rVolume hr2),trivial⟩ ?_
 refine Runs.sA 1 [.code (C_1 14),.code (C_1 15)] ?_
 obtain ⟨rtub2,hr3,h⟩:=bindSome h
 obtain ⟨rLevel,hr4,h⟩:=bindSome h
 refine Runs.sR hE ⟨[(1,(aI rVolume.1)),(2,(aI rVolume.2)),(3,(aI rLevel.1)),(4,(aI rLevel.2))],[],240⟩ (C_1 14) [(0,⟨[],true,(.agg (TBasin.cells rtub2)),[],0,false,none⟩),(1,⟨[],true,(.tup [(aI rLevel.1),(aI rLevel.2)]),[],0,false,none⟩)] [] (kp [1,2,3,4]) [] 240 [Sound Try.prog 25 [] [] 0 (.agg (TBasin.cells rtub2)) [],Sound Try.prog 26 [(.agg (TBasin.cells rtub2)),(aI 100199)] [] 0 (.tup [(aI rLevel.1),(aI rLevel.2)]) []] ⟨(g_w05_tub_ok N rtub2 hr3),(g_water_Level_ok N rtub2 100199 rLevel hr4),trivial⟩ ?_
 refine Runs.sA 1 [.code (C_1 30),.code (C_1 31)] ?_
 refine Runs.sR hE ⟨[(0,(aB (cond (cond (cond (rVolume.2 == 0) (rVolume.1 == 200000) false) (rLevel.2 == 0) false) (rLevel.1 == 1000) false)))],[],480⟩ (C_1 30) [] [] (kp [0]) [] 480 [(rVolume.2 == 0)=true→AllP [(rVolume.2 == 0)=true],(rVolume.2 == 0)=true→AllP [(rVolume.2 == 0)=true],(cond (rVolume.2 == 0) (rVolume.1 == 200000) false)=true→AllP [(cond (rVolume.2 == 0) (rVolume.1 == 200000) false)=true],(cond (rVolume.2 == 0) (rVolume.1 == 200000) false)=true→AllP [(cond (rVolume.2 == 0) (rVolume.1 == 200000) false)=true],(cond (cond (rVolume.2 == 0) (rVolume.1 == 200000) false) (rLevel.2 == 0) false)=true→AllP [(cond (cond (rVolume.2 == 0) (rVolume.1 == 200000) false) (rLevel.2 == 0) false)=true],(cond (cond (rVolume.2 == 0) (rVolume.1 == 200000) false) (rLevel.2 == 0) false)=true→AllP [(cond (cond (rVolume.2 == 0) (rVolume.1 == 200000) false) (rLevel.2 == 0) false)=true]] ⟨(fun hg=>⟨hg,trivial⟩),(fun hq=>⟨hq,trivial⟩),(fun hg=>⟨hg,trivial⟩),(fun hq=>⟨hq,trivial⟩),(fun hg=>⟨hg,trivial⟩),(fun hq=>⟨hq,trivial⟩),trivial⟩ ?_
 obtain rfl:=Option.some.inj h
 refine Runs.sW hE ⟨[(0,(aB (cond (cond (cond (rVolume.2 == 0) (rVolume.1 == 200000) false) (rLevel.2 == 0) false) (rLevel.1 == 1000) false)))],[],480⟩ [] (kp [0]) [] 480 [] trivial ?_
 exact Runs.sT Try.f6 [] [] trivial
noncomputable def C_13 (n:Nat):Code:=cat (bodyOf Try.f27) (pth n)
theorem g_water_CheckSea_L1_ok (N:Nat) (m:List TMark) (fuel:Nat):∀ (x:Int) (r:Int),g_water_CheckSea_L1 N m fuel x=some r→∀ E,EnvOk E 0→Runs Try.prog E 27 39 (SPost E [] (aI r)) [.code (C_13 116),.inLoop (C_13 116),.inBlock 0,.code (C_13 15)] ⟨[(0,(encL TMark.cells TMark.d m)),(8,(encL TMark.cells TMark.d m)),(9,(aI ((m.length:Nat):Int))),(10,(aI x))],[],0⟩:=by
 induction fuel with
 | zero=>intro _ r h;rw [g_water_CheckSea_L1.eq_1] at h;cases h
 | succ fuel ih =>
  intro x r h E hE
  rw [g_water_CheckSea_L1.eq_2] at h
  refine Runs.sA 1 [.code (C_13 232),.code (C_13 233),.inLoop (C_13 116),.inBlock 0,.code (C_13 15)] ?_
  refine Runs.sR hE ⟨[(0,(encL TMark.cells TMark.d m)),(8,(encL TMark.cells TMark.d m)),(9,(aI ((m.length:Nat):Int))),(10,(aI x)),(11,(aB (decide (x < ((m.length:Nat):Int)))))],[],16⟩ (C_13 232) [] [] (kp [0,8,9,10,11]) [] 16 [] trivial ?_
  refine Runs.sA 1 [.code (C_13 466),.code (C_13 467),.inLoop (C_13 116),.inBlock 0,.code (C_13 15)] ?_
  refine Runs.sC 11 (C_13 932) (C_13 933) (decide (x < ((m.length:Nat):Int))) (fun hq3=>?_) (fun hq3=>?_)
  ·have h:=condT h hq3
   refine Runs.sA 4 [.code (C_13 3736),.code (C_13 3737),.inBlock 1,.code (C_13 935),.inLoop (C_13 116),.inBlock 0,.code (C_13 15)] ?_
   obtain ⟨c,h⟩:=ifSome h
   refine Runs.sR hE ⟨[(0,(encL TMark.cells TMark.d m)),(3,(aI x)),(4,(.op 64 0 0)),(8,(encL TMark.cells TMark.d m)),(9,(aI ((m.length:Nat):Int))),(10,(aI x))],[(64,vO 2 (TMark.cells (m.getD ((x).toNat) TMark.d)))],112⟩ (C_13 3736) [] [] (kp [0,3,4,8,9,10]) (kq [64]) 112 [0≤x∧x < ((m.length:Nat):Int),0 < 1] ⟨c,o1,trivial⟩ ?_
   refine Runs.sA 2 [.code (C_13 14948),.code (C_13 14949),.code (C_13 7475),.inBlock 1,.code (C_13 935),.inLoop (C_13 116),.inBlock 0,.code (C_13 15)] ?_
   obtain ⟨rbetween,hr,h⟩:=bindSome h
   obtain ⟨rbetween2,hr2,h⟩:=bindSome h
   refine Runs.sR hE ⟨[(0,(encL TMark.cells TMark.d m)),(3,(aI x)),(4,(.op 64 0 0)),(8,(encL TMark.cells TMark.d m)),(9,(aI ((m.length:Nat):Int))),(10,(aI x)),(24,(aB (cond (!rbetween) true (!rbetween2))))],[(64,vO 2 (TMark.cells (m.getD ((x).toNat) TMark.d)))],272⟩ (C_13 14948) [(2,⟨[],true,(aB rbetween),[],0,false,none⟩),(7,⟨[],true,(aB rbetween2),[],0,false,none⟩)] [] (kp [0,3,4,8,9,10,24]) (kq [64]) 272 [0 < 1,Sound Try.prog 28 [(aI ((m.getD ((x).toNat) TMark.d).f_Minute)),(aI 0),(aI 1000000)] [] 0 (aB rbetween) [],(!(!rbetween))=true→AllP [(!(!rbetween))=true,0 < 1],(!(!rbetween))=true→AllP [Sound Try.prog 28 [(aI ((m.getD ((x).toNat) TMark.d).f_Level)),(aI (-1000000)),(aI 1000000)] [] 0 (aB rbetween2) [],(!(!rbetween))=true],(!(!rbetween))=true→AllP [(!(!rbetween))=true],(!(!rbetween))=true→AllP [(!(!rbetween))=true]] ⟨o1,(g_water_between_ok N ((m.getD ((x).toNat) TMark.d).f_Minute) 0 1000000 rbetween hr),(fun hg=>⟨hg,o1,trivial⟩),(fun hg=>⟨(g_water_between_ok N ((m.getD ((x).toNat) TMark.d).f_Level) (-1000000) 1000000 rbetween2 (condT hr2 hg)),hg,trivial⟩),(fun hg=>⟨hg,trivial⟩),(fun hq=>⟨hq,trivial⟩),trivial⟩ ?_
   refine Runs.sC 24 (C_13 29898) (C_13 29899) (cond (!rbetween) true (!rbetween2)) (fun hq4=>?_) (fun hq4=>?_)
   ·have h:=condT h hq4
    refine Runs.sA 1 [.code (C_13 59796),.code (C_13 59797),.code (C_13 7475),.inBlock 1,.code (C_13 935),.inLoop (C_13 116),.inBlock 0,.code (C_13 15)] ?_
    refine Runs.sR hE ⟨[(2,(aI 2))],[],288⟩ (C_13 59796) [] [] (kp [2]) [] 288 [] trivial ?_
    obtain rfl:=Option.some.inj h
    refine Runs.sW hE ⟨[(2,(aI 2))],[],288⟩ [] (kp [2]) [] 288 [] trivial ?_
    exact Runs.sT Try.f27 [] [] trivial
   ·have h:=condF h hq4
    refine Runs.sA 2 [.code (C_13 14950),.code (C_13 14951),.inBlock 1,.code (C_13 935),.inLoop (C_13 116),.inBlock 0,.code (C_13 15)] ?_
    obtain ⟨c2,h⟩:=ifSome h
    refine Runs.sR hE ⟨[(0,(encL TMark.cells TMark.d m)),(8,(encL TMark.cells TMark.d m)),(9,(aI ((m.length:Nat):Int))),(10,(aI x)),(37,(aB (cond (decide (x > 0)) (decide ((m.getD ((x).toNat) TMark.d).f_Minute≤(m.getD ((w64 (x - 1)).toNat) TMark.d).f_Minute)) false)))],[],480⟩ (C_13 14950) [] [] (kp [0,8,9,10,37]) [] 480 [(decide (x > 0))=true→AllP [(decide (x > 0))=true,0 < 1],(decide (x > 0))=true→AllP [(decide (x > 0))=true],(decide (x > 0))=true→AllP [(decide (x > 0))=true,(decide (x > 0))=true,0≤(w64 (x - 1))∧(w64 (x - 1)) < ((m.length:Nat):Int)],(decide (x > 0))=true→AllP [(decide (x > 0))=true],(decide (x > 0))=true→AllP [(decide (x > 0))=true],(decide (x > 0))=true→AllP [(decide (x > 0))=true,(decide (x > 0))=true],(decide (x > 0))=true→AllP [(decide (x > 0))=true]] ⟨(fun hg=>⟨hg,o1,trivial⟩),(fun hg=>⟨hg,trivial⟩),(fun hg=>⟨hg,hg,(c2 hg),trivial⟩),(fun hg=>⟨hg,trivial⟩),(fun hg=>⟨hg,trivial⟩),(fun hg=>⟨hg,hg,trivial⟩),(fun hq=>⟨hq,trivial⟩),trivial⟩ ?_
    refine Runs.sC 37 (C_13 29902) (C_13 29903) (cond (decide (x > 0)) (decide ((m.getD ((x).toNat) TMark.d).f_Minute≤(m.getD ((w64 (x - 1)).toNat) TMark.d).f_Minute)) false) (fun hq5=>?_) (fun hq5=>?_)
    ·have h:=condT h hq5
     refine Runs.sA 1 [.code (C_13 59804),.code (C_13 59805),.inBlock 1,.code (C_13 935),.inLoop (C_13 116),.inBlock 0,.code (C_13 15)] ?_
     refine Runs.sR hE ⟨[(2,(aI 10))],[],496⟩ (C_13 59804) [] [] (kp [2]) [] 496 [] trivial ?_
     obtain rfl:=Option.some.inj h
     refine Runs.sW hE ⟨[(2,(aI 10))],[],496⟩ [] (kp [2]) [] 496 [] trivial ?_
     exact Runs.sT Try.f27 [] [] trivial
    ·have h:=condF h hq5
     refine Runs.sA 2 [.code (C_13 935),.inLoop (C_13 116),.inBlock 0,.code (C_13 15)] ?_
     refine Runs.sR hE ⟨[(0,(encL TMark.cells TMark.d m)),(8,(encL TMark.cells TMark.d m)),(9,(aI ((m.length:Nat):Int))),(10,(aI (w64 (x+1))))],[],512⟩ (C_13 935) [] [] (kp [0,8,9,10]) [] 512 [] trivial ?_
     refine Runs.sA 1 [.code (C_13 116),.inLoop (C_13 116),.inBlock 0,.code (C_13 15)] ?_
     exact Runs.sW hE _ [] (kp [0,8,9,10]) [] 0 [] trivial (ih (w64 (x+1)) _ h E hE)
  ·have h:=condF h hq3
   refine Runs.sA 2 [.code (C_13 30),.code (C_13 31)] ?_
   refine Runs.sR hE ⟨[(2,(aI 0))],[],32⟩ (C_13 30) [] [] (kp [2]) [] 32 [] trivial ?_
   obtain rfl:=Option.some.inj h
   refine Runs.sW hE ⟨[(2,(aI 0))],[],48⟩ [] (kp [2]) [] 48 [] trivial ?_
   exact Runs.sT Try.f27 [] [] trivial
theorem g_water_CheckSea_ok (N:Nat) (m:List TMark) (r:Int) (h:g_water_CheckSea N m=some r):Sound Try.prog 27 [(encL TMark.cells TMark.d m)] [] 0 (aI r) []:=by
 unfold g_water_CheckSea at h
 refine Sound.of_runs (fu:=Try.f27) (c:=C_13 1) (nt:=39) (by kernel_rfl) (by kernel_rfl) (by kernel_rfl) (by kernel_rfl) (fun hm=>rfl) ?_
 intro E hE
 refine Runs.sA 1 [.code (C_13 2),.code (C_13 3)] ?_
 refine Runs.sR hE ⟨[(0,(encL TMark.cells TMark.d m))],[],16⟩ (C_13 2) [] [] (kp [0]) [] 16 [] trivial ?_
 refine Runs.sA 2 [.code (C_13 12),.code (C_13 13),.code (C_13 7)] ?_
 refine Runs.sR hE ⟨[(0,(encL TMark.cells TMark.d m)),(7,(aB (decide (((m.length:Nat):Int) > 400))))],[],64⟩ (C_13 12) [] [] (kp [0,7]) [] 64 [] trivial ?_
 refine Runs.sC 7 (C_13 26) (C_13 27) (decide (((m.length:Nat):Int) > 400)) (fun hq2=>?_) (fun hq2=>?_)
 ·have h:=condT h hq2
  refine Runs.sA 1 [.code (C_13 52),.code (C_13 53),.code (C_13 7)] ?_
  refine Runs.sR hE ⟨[(2,(aI 8))],[],80⟩ (C_13 52) [] [] (kp [2]) [] 80 [] trivial ?_
  obtain rfl:=Option.some.inj h
  refine Runs.sW hE ⟨[(2,(aI 8))],[],80⟩ [] (kp [2]) [] 80 [] trivial ?_
  exact Runs.sT Try.f27 [] [] trivial
 ·have h:=condF h hq2
  refine Runs.sA 3 [.code (C_13 28),.code (C_13 29),.code (C_13 15)] ?_
  refine Runs.sR hE ⟨[(0,(encL TMark.cells TMark.d m)),(8,(encL TMark.cells TMark.d m)),(9,(aI ((m.length:Nat):Int))),(10,(aI 0))],[],112⟩ (C_13 28) [] [] (kp [0,8,9,10]) [] 112 [] trivial ?_
  refine Runs.sA 2 [.code (C_13 116),.inLoop (C_13 116),.inBlock 0,.code (C_13 15)] ?_
  exact Runs.sW hE _ [] (kp [0,8,9,10]) [] 0 [] trivial (g_water_CheckSea_L1_ok N m N 0 _ h E hE)
noncomputable def C_16 (n:Nat):Code:=cat (bodyOf Try.f94) (pth n)
theorem g_math_bits_Len64_J3_ok (N:Nat) (x4:Int) (n3:Int) (r:Int) (h:g_math_bits_Len64_J3 N x4 n3=some r):∀ E,EnvOk E 0→Runs Try.prog E 94 25 (SPost E [] (aI r)) [.code (C_16 62),.code (C_16 63)] ⟨[(0,(.atom (.int .u64 x4))),(2,(aI n3))],[],0⟩:=by
 intro E hE
 unfold g_math_bits_Len64_J3 at h
 obtain ⟨c,h⟩:=ifSome h
 refine Runs.sR hE ⟨[(2,(aI (w64 (n3+(w64 ((byteAt (⟨#[0,1,2,2,3,3,3,3,4,4,4,4,4,4,4,4,5,5,5,5,5,5,5,5,5,5,5,5,5,5,5,5,6,6,6,6,6,6,6,6,6,6,6,6,6,6,6,6,6,6,6,6,6,6,6,6,6,6,6,6,6,6,6,6,7,7,7,7,7,7,7,7,7,7,7,7,7,7,7,7,7,7,7,7,7,7,7,7,7,7,7,7,7,7,7,7,7,7,7,7,7,7,7,7,7,7,7,7,7,7,7,7,7,7,7,7,7,7,7,7,7,7,7,7,7,7,7,7,8,8,8,8,8,8,8,8,8,8,8,8,8,8,8,8,8,8,8,8,8,8,8,8,8,8,8,8,8,8,8,8,8,8,8,8,8,8,8,8,8,8,8,8,8,8,8,8,8,8,8,8,8,8,8,8,8,8,8,8,8,8,8,8,8,8,8,8,8,8,8,8,8,8,8,8,8,8,8,8,8,8,8,8,8,8,8,8,8,8,8,8,8,8,8,8,8,8,8,8,8,8,8,8,8,8,8,8,8,8,8,8,8,8,8,8,8,8,8,8,8,8,8,8,8,8,8,8]⟩:ByteArray) ((IntKind.u8.wrap (x4)).toNat))))))))],[],112⟩ (C_16 62) [] [] (kp [2]) [] 112 [0≤(IntKind.u8.wrap (x4))∧(IntKind.u8.wrap (x4)) < (((⟨#[0,1,2,2,3,3,3,3,4,4,4,4,4,4,4,4,5,5,5,5,5,5,5,5,5,5,5,5,5,5,5,5,6,6,6,6,6,6,6,6,6,6,6,6,6,6,6,6,6,6,6,6,6,6,6,6,6,6,6,6,6,6,6,6,7,7,7,7,7,7,7,7,7,7,7,7,7,7,7,7,7,7,7,7,7,7,7,7,7,7,7,7,7,7,7,7,7,7,7,7,7,7,7,7,7,7,7,7,7,7,7,7,7,7,7,7,7,7,7,7,7,7,7,7,7,7,7,7,8,8,8,8,8,8,8,8,8,8,8,8,8,8,8,8,8,8,8,8,8,8,8,8,8,8,8,8,8,8,8,8,8,8,8,8,8,8,8,8,8,8,8,8,8,8,8,8,8,8,8,8,8,8,8,8,8,8,8,8,8,8,8,8,8,8,8,8,8,8,8,8,8,8,8,8,8,8,8,8,8,8,8,8,8,8,8,8,8,8,8,8,8,8,8,8,8,8,8,8,8,8,8,8,8,8,8,8,8,8,8,8,8,8,8,8,8,8,8,8,8,8,8,8,8,8,8,8]⟩:ByteArray).size:Nat):Int)] ⟨c,trivial⟩ ?_
 obtain rfl:=Option.some.inj h
 refine Runs.sW hE ⟨[(2,(aI (w64 (n3+(w64 ((byteAt (⟨#[0,1,2,2,3,3,3,3,4,4,4,4,4,4,4,4,5,5,5,5,5,5,5,5,5,5,5,5,5,5,5,5,6,6,6,6,6,6,6,6,6,6,6,6,6,6,6,6,6,6,6,6,6,6,6,6,6,6,6,6,6,6,6,6,7,7,7,7,7,7,7,7,7,7,7,7,7,7,7,7,7,7,7,7,7,7,7,7,7,7,7,7,7,7,7,7,7,7,7,7,7,7,7,7,7,7,7,7,7,7,7,7,7,7,7,7,7,7,7,7,7,7,7,7,7,7,7,7,8,8,8,8,8,8,8,8,8,8,8,8,8,8,8,8,8,8,8,8,8,8,8,8,8,8,8,8,8,8,8,8,8,8,8,8,8,8,8,8,8,8,8,8,8,8,8,8,8,8,8,8,8,8,8,8,8,8,8,8,8,8,8,8,8,8,8,8,8,8,8,8,8,8,8,8,8,8,8,8,8,8,8,8,8,8,8,8,8,8,8,8,8,8,8,8,8,8,8,8,8,8,8,8,8,8,8,8,8,8,8,8,8,8,8,8,8,8,8,8,8,8,8,8,8,8,8,8]⟩:ByteArray) ((IntKind.u8.wrap (x4)).toNat))))))))],[],112⟩ [] (kp [2]) [] 112 [] trivial ?_
 exact Runs.sT Try.f94 [] [] trivial
theorem g_math_bits_Len64_J2_ok (N:Nat) (x3:Int) (n2:Int) (r:Int) (h:g_math_bits_Len64_J2 N x3 n2=some r):∀ E,EnvOk E 0→Runs Try.prog E 94 25 (SPost E [] (aI r)) [.code (C_16 60),.code (C_16 61),.code (C_16 31)] ⟨[(0,(.atom (.int .u64 x3))),(2,(aI n2))],[],0⟩:=by
 intro E hE
 unfold g_math_bits_Len64_J2 at h
 refine Runs.sR hE ⟨[(0,(.atom (.int .u64 x3))),(2,(aI n2)),(14,(aB (decide (x3≥256))))],[],32⟩ (C_16 60) [] [] (kp [0,2,14]) [] 32 [] trivial ?_
 refine Runs.sC 14 (C_16 122) (C_16 123) (decide (x3≥256)) (fun hq4=>?_) (fun hq4=>?_)
 ·have h:=condT h hq4
  refine Runs.sA 1 [.code (C_16 244),.code (C_16 245),.code (C_16 31)] ?_
  refine Runs.sR hE ⟨[(0,(.atom (.int .u64 (shrI .u64 x3 8)))),(2,(aI n2))],[],80⟩ (C_16 244) [] [] (kp [0,2]) [] 80 [(0:Int)≤8] ⟨(by decide),trivial⟩ ?_
  refine Runs.sR hE ⟨[(0,(.atom (.int .u64 (shrI .u64 x3 8)))),(2,(aI (w64 (n2+8))))],[],128⟩ (C_16 245) [] [] (kp [0,2]) [] 128 [] trivial ?_
  refine Runs.sA 1 [.code (C_16 62),.code (C_16 63)] ?_
  exact Runs.sW hE _ [] (kp [0,2]) [] 0 [] trivial (g_math_bits_Len64_J3_ok N (shrI .u64 x3 8) (w64 (n2+8)) _ h E hE)
 ·have h:=condF h hq4
  refine Runs.sA 2 [.code (C_16 62),.code (C_16 63)] ?_
  exact Runs.sW hE _ [] (kp [0,2]) [] 0 [] trivial (g_math_bits_Len64_J3_ok N x3 n2 _ h E hE)
theorem g_math_bits_Len64_J1_ok (N:Nat) (x2:Int) (n:Int) (r:Int) (h:g_math_bits_Len64_J1 N x2 n=some r):∀ E,EnvOk E 0→Runs Try.prog E 94 25 (SPost E [] (aI r)) [.code (C_16 28),.code (C_16 29),.code (C_16 15)] ⟨[(0,(.atom (.int .u64 x2))),(2,(aI n))],[],0⟩:=by
 intro E hE
 unfold g_math_bits_Len64_J1 at h
 refine Runs.sR hE ⟨[(0,(.atom (.int .u64 x2))),(2,(aI n)),(8,(aB (decide (x2≥65536))))],[],32⟩ (C_16 28) [] [] (kp [0,2,8]) [] 32 [] trivial ?_
 refine Runs.sC 8 (C_16 58) (C_16 59) (decide (x2≥65536)) (fun hq3=>?_) (fun hq3=>?_)
 ·have h:=condT h hq3
  refine Runs.sA 1 [.code (C_16 116),.code (C_16 117),.code (C_16 15)] ?_
  refine Runs.sR hE ⟨[(0,(.atom (.int .u64 (shrI .u64 x2 16)))),(2,(aI n))],[],80⟩ (C_16 116) [] [] (kp [0,2]) [] 80 [(0:Int)≤16] ⟨(by decide),trivial⟩ ?_
  refine Runs.sR hE ⟨[(0,(.atom (.int .u64 (shrI .u64 x2 16)))),(2,(aI (w64 (n+16))))],[],128⟩ (C_16 117) [] [] (kp [0,2]) [] 128 [] trivial ?_
  refine Runs.sA 2 [.code (C_16 60),.code (C_16 61),.code (C_16 31)] ?_
  exact Runs.sW hE _ [] (kp [0,2]) [] 0 [] trivial (g_math_bits_Len64_J2_ok N (shrI .u64 x2 16) (w64 (n+16)) _ h E hE)
 ·have h:=condF h hq3
  refine Runs.sA 3 [.code (C_16 60),.code (C_16 61),.code (C_16 31)] ?_
  exact Runs.sW hE _ [] (kp [0,2]) [] 0 [] trivial (g_math_bits_Len64_J2_ok N x2 n _ h E hE)
theorem g_math_bits_Len64_ok (N:Nat) (x:Int) (r:Int) (h:g_math_bits_Len64 N x=some r):Sound Try.prog 94 [(.atom (.int .u64 x))] [] 0 (aI r) []:=by
 unfold g_math_bits_Len64 at h
 refine Sound.of_runs (fu:=Try.f94) (c:=C_16 1) (nt:=25) (by kernel_rfl) (by kernel_rfl) (by kernel_rfl) (by kernel_rfl) (fun hm=>rfl) ?_
 intro E hE
 refine Runs.sA 1 [.code (C_16 2),.code (C_16 3)] ?_
 refine Runs.sR hE ⟨[(0,(.atom (.int .u64 x))),(2,(aI 0))],[],16⟩ (C_16 2) [] [] (kp [0,2]) [] 16 [] trivial ?_
 refine Runs.sA 2 [.code (C_16 12),.code (C_16 13),.code (C_16 7)] ?_
 refine Runs.sR hE ⟨[(0,(.atom (.int .u64 x))),(2,(aI 0)),(4,(aB (decide (x≥4294967296))))],[],48⟩ (C_16 12) [] [] (kp [0,2,4]) [] 48 [] trivial ?_
 refine Runs.sC 4 (C_16 26) (C_16 27) (decide (x≥4294967296)) (fun hq2=>?_) (fun hq2=>?_)
 ·have h:=condT h hq2
  refine Runs.sA 1 [.code (C_16 52),.code (C_16 53),.code (C_16 7)] ?_
  refine Runs.sR hE ⟨[(0,(.atom (.int .u64 (shrI .u64 x 32))))],[],96⟩ (C_16 52) [] [] (kp [0]) [] 96 [(0:Int)≤32] ⟨(by decide),trivial⟩ ?_
  refine Runs.sR hE ⟨[(0,(.atom (.int .u64 (shrI .u64 x 32)))),(2,(aI 32))],[],112⟩ (C_16 53) [] [] (kp [0,2]) [] 112 [] trivial ?_
  refine Runs.sA 2 [.code (C_16 28),.code (C_16 29),.code (C_16 15)] ?_
  exact Runs.sW hE _ [] (kp [0,2]) [] 0 [] trivial (g_math_bits_Len64_J1_ok N (shrI .u64 x 32) 32 _ h E hE)
 ·have h:=condF h hq2
  refine Runs.sA 3 [.code (C_16 28),.code (C_16 29),.code (C_16 15)] ?_
  exact Runs.sW hE _ [] (kp [0,2]) [] 0 [] trivial (g_math_bits_Len64_J1_ok N x 0 _ h E hE)
noncomputable def C_15 (n:Nat):Code:=cat (bodyOf Try.f67) (pth n)
theorem g_math_bits_Len_ok (N:Nat) (x:Int) (r:Int) (h:g_math_bits_Len N x=some r):Sound Try.prog 67 [(.atom (.int .u64 x))] [] 0 (aI r) []:=by
 unfold g_math_bits_Len at h
 refine Sound.of_runs (fu:=Try.f67) (c:=C_15 1) (nt:=8) (by kernel_rfl) (by kernel_rfl) (by kernel_rfl) (by kernel_rfl) (fun hm=>rfl) ?_
 intro E hE
 refine Runs.sA 1 [.code (C_15 2),.code (C_15 3)] ?_
 refine Runs.sR hE ⟨[(0,(.atom (.int .u64 x)))],[],16⟩ (C_15 2) [] [] (kp [0]) [] 16 [] trivial ?_
 refine Runs.sA 1 [.code (C_15 6),.code (C_15 7)] ?_
 refine Runs.sK0 (C_15 12) (C_15 13) ?_
 refine Runs.sA 2 [.code (C_15 14),.code (C_15 15)] ?_
 obtain ⟨rLen64,hr,h⟩:=bindSome h
 refine Runs.sR hE ⟨[(2,(aI rLen64))],[],64⟩ (C_15 14) [(1,⟨[],true,(aI rLen64),[],0,false,none⟩)] [] (kp [2]) [] 64 [Sound Try.prog 94 [(.atom (.int .u64 x))] [] 0 (aI rLen64) []] ⟨(g_math_bits_Len64_ok N x rLen64 hr),trivial⟩ ?_
 obtain rfl:=Option.some.inj h
 refine Runs.sW hE ⟨[(2,(aI rLen64))],[],64⟩ [] (kp [2]) [] 64 [] trivial ?_
 exact Runs.sT Try.f67 [] [] trivial
noncomputable def C_20 (n:Nat):Code:=cat (bodyOf Try.f107) (pth n)
theorem g_cmp_isNaN_int_ok (N:Nat) (x:Int) (r:Bool) (h:g_cmp_isNaN_int N x=some r):Sound Try.prog 107 [(aI x)] [] 0 (aB r) []:=by
 unfold g_cmp_isNaN_int at h
 refine Sound.of_runs (fu:=Try.f107) (c:=C_20 1) (nt:=6) (by kernel_rfl) (by kernel_rfl) (by kernel_rfl) (by kernel_rfl) (fun hm=>rfl) ?_
 intro E hE
 refine Runs.sA 1 [.code (C_20 2),.code (C_20 3)] ?_
 refine Runs.sR hE ⟨[(0,(aI x))],[],16⟩ (C_20 2) [] [] (kp [0]) [] 16 [] trivial ?_
 refine Runs.sA 1 [.code (C_20 6),.code (C_20 7)] ?_
 refine Runs.sR hE ⟨[(2,(aB (x != x)))],[],80⟩ (C_20 6) [] [] (kp [2]) [] 80 [] trivial ?_
 obtain rfl:=Option.some.inj h
 refine Runs.sW hE ⟨[(2,(aB (x != x)))],[],80⟩ [] (kp [2]) [] 80 [] trivial ?_
 exact Runs.sT Try.f107 [] [] trivial
noncomputable def C_19 (n:Nat):Code:=cat (bodyOf Try.f90) (pth n)
theorem g_cmp_Less_int_ok (N:Nat) (x:Int) (y:Int) (r:Bool) (h:g_cmp_Less_int N x y=some r):Sound Try.prog 90 [(aI x),(aI y)] [] 0 (aB r) []:=by
 unfold g_cmp_Less_int at h
 refine Sound.of_runs (fu:=Try.f90) (c:=C_19 1) (nt:=17) (by kernel_rfl) (by kernel_rfl) (by kernel_rfl) (by kernel_rfl) (fun hm=>rfl) ?_
 intro E hE
 refine Runs.sA 1 [.code (C_19 2),.code (C_19 3)] ?_
 refine Runs.sR hE ⟨[(0,(aI x)),(1,(aI y))],[],16⟩ (C_19 2) [] [] (kp [0,1]) [] 16 [] trivial ?_
 refine Runs.sA 1 [.code (C_19 6),.code (C_19 7)] ?_
 obtain ⟨risNaN,hr,h⟩:=bindSome h
 obtain ⟨risNaN2,hr2,h⟩:=bindSome h
 refine Runs.sR hE ⟨[(4,(aB (cond (cond risNaN (!risNaN2) false) true (decide (x < y)))))],[],224⟩ (C_19 6) [(1,⟨[],true,(aB risNaN),[],0,false,none⟩),(4,⟨[],true,(aB risNaN2),[],0,false,none⟩)] [] (kp [4]) [] 224 [Sound Try.prog 107 [(aI x)] [] 0 (aB risNaN) [],risNaN=true→AllP [Sound Try.prog 107 [(aI y)] [] 0 (aB risNaN2) [],risNaN=true],risNaN=true→AllP [risNaN=true],risNaN=true→AllP [risNaN=true],(!(cond risNaN (!risNaN2) false))=true→AllP [(!(cond risNaN (!risNaN2) false))=true,(!(cond risNaN (!risNaN2) false))=true],(!(cond risNaN (!risNaN2) false))=true→AllP [(!(cond risNaN (!risNaN2) false))=true]] ⟨(g_cmp_isNaN_int_ok N x risNaN hr),(fun hg=>⟨(g_cmp_isNaN_int_ok N y risNaN2 (condT hr2 hg)),hg,trivial⟩),(fun hg=>⟨hg,trivial⟩),(fun hq=>⟨hq,trivial⟩),(fun hg=>⟨hg,hg,trivial⟩),(fun hq=>⟨hq,trivial⟩),trivial⟩ ?_
 obtain rfl:=Option.some.inj h
 refine Runs.sW hE ⟨[(4,(aB (cond (cond risNaN (!risNaN2) false) true (decide (x < y)))))],[],224⟩ [] (kp [4]) [] 224 [] trivial ?_
 exact Runs.sT Try.f90 [] [] trivial
noncomputable def C_18 (n:Nat):Code:=cat (bodyOf Try.f84) (pth n)
theorem g_slices_insertionSortOrdered_int_L2_ok (N:Nat) (a:Int) (b:Int) (i:Int) (K_g_slices_insertionSortOrdered_int_L1:(List Int)→Int→Option ((List Int)))
  (hK_g_slices_insertionSortOrdered_int_L1:∀ (cap02:List Int) (i:Int) (r:(List Int)),K_g_slices_insertionSortOrdered_int_L1 cap02 i=some r→∀ E,EnvOk E 1→Runs Try.prog E 84 49 (SPost E [(0,aO 1 cI 0 r)] (.tup [])) [.code (C_18 12),.inLoop (C_18 12),.inBlock 0] ⟨[(0,(.os 0 0 cap02.length)),(1,(aI a)),(2,(aI b)),(6,(aI i))],[(0,aO 1 cI 0 cap02)],1⟩) (fuel:Nat):∀ (cap03:List Int) (j:Int) (r:(List Int)),g_slices_insertionSortOrdered_int_L2 N a b i K_g_slices_insertionSortOrdered_int_L1 fuel cap03 j=some r→∀ E,EnvOk E 1→Runs Try.prog E 84 49 (SPost E [(0,aO 1 cI 0 r)] (.tup [])) [.code (C_18 804),.inLoop (C_18 804),.inBlock 2,.inBlock 1,.code (C_18 51),.inLoop (C_18 12),.inBlock 0] ⟨[(0,(.os 0 0 cap03.length)),(1,(aI a)),(2,(aI b)),(6,(aI i)),(7,(aI j))],[(0,aO 1 cI 0 cap03)],1⟩:=by
 induction fuel with
 | zero=>intro _ _ r h;rw [g_slices_insertionSortOrdered_int_L2.eq_1] at h;cases h
 | succ fuel ih =>
  intro cap03 j r h E hE
  rw [g_slices_insertionSortOrdered_int_L2.eq_2] at h
  refine Runs.sA 2 [.code (C_18 3216),.code (C_18 3217),.code (C_18 1609),.inLoop (C_18 804),.inBlock 2,.inBlock 1,.code (C_18 51),.inLoop (C_18 12),.inBlock 0] ?_
  obtain ⟨c,h⟩:=ifSome h
  obtain ⟨c2,h⟩:=ifSome h
  obtain ⟨rLess,hr,h⟩:=bindSome h
  refine Runs.sR hE ⟨[(0,(.os 0 0 cap03.length)),(1,(aI a)),(2,(aI b)),(6,(aI i)),(7,(aI j)),(30,(aB (cond (decide (j > a)) rLess false)))],[(0,aO 1 cI 0 cap03)],241⟩ (C_18 3216) [(13,⟨[],true,(aB rLess),[],0,false,none⟩)] [] (kp [0,1,2,6,7,30]) (kq [0]) 241 [(decide (j > a))=true→AllP [(decide (j > a))=true,(decide (j > a))=true,0≤j∧j < ((cap03.length:Nat):Int)],(decide (j > a))=true→AllP [(decide (j > a))=true,(j).toNat < cap03.length],(decide (j > a))=true→AllP [(decide (j > a))=true],(decide (j > a))=true→AllP [(decide (j > a))=true,(decide (j > a))=true,0≤(w64 (j - 1))∧(w64 (j - 1)) < ((cap03.length:Nat):Int)],(decide (j > a))=true→AllP [(decide (j > a))=true,(w64 (j - 1)).toNat < cap03.length],(decide (j > a))=true→AllP [Sound Try.prog 90 [(aI (cap03.getD ((j).toNat) 0)),(aI (cap03.getD ((w64 (j - 1)).toNat) 0))] [] 0 (aB rLess) [],(decide (j > a))=true,(decide (j > a))=true],(decide (j > a))=true→AllP [(decide (j > a))=true]] ⟨(fun hg=>⟨hg,hg,(c hg),trivial⟩),(fun hg=>⟨hg,(ltOf (c hg)),trivial⟩),(fun hg=>⟨hg,trivial⟩),(fun hg=>⟨hg,hg,(c2 hg),trivial⟩),(fun hg=>⟨hg,(ltOf (c2 hg)),trivial⟩),(fun hg=>⟨(g_cmp_Less_int_ok N (cap03.getD ((j).toNat) 0) (cap03.getD ((w64 (j - 1)).toNat) 0) rLess (condT hr hg)),hg,hg,trivial⟩),(fun hq=>⟨hq,trivial⟩),trivial⟩ ?_
  refine Runs.sC 30 (C_18 6434) (C_18 6435) (cond (decide (j > a)) rLess false) (fun hq3=>?_) (fun hq3=>?_)
  ·have h:=condT h hq3
   refine Runs.sA 3 [.code (C_18 6436),.inBlock 3,.code (C_18 3219),.inLoop (C_18 804),.inBlock 2,.inBlock 1,.code (C_18 51),.inLoop (C_18 12),.inBlock 0] ?_
   obtain ⟨c3,h⟩:=ifSome h
   obtain ⟨c4,h⟩:=ifSome h
   refine Runs.sR hE ⟨[(0,(.os 0 0 (((cap03.set ((j).toNat) (cap03.getD ((w64 (j - 1)).toNat) 0)).set ((w64 (j - 1)).toNat) (cap03.getD ((j).toNat) 0)).length))),(1,(aI a)),(2,(aI b)),(6,(aI i)),(7,(aI j))],[(0,aO 1 cI 0 ((cap03.set ((j).toNat) (cap03.getD ((w64 (j - 1)).toNat) 0)).set ((w64 (j - 1)).toNat) (cap03.getD ((j).toNat) 0)))],529⟩ (C_18 6436) [] [] ([(0,.osl (((cap03.set ((j).toNat) (cap03.getD ((w64 (j - 1)).toNat) 0)).set ((w64 (j - 1)).toNat) (cap03.getD ((j).toNat) 0)).length))] ++ kp [1,2,6,7]) [(0,.arr 0 (((cap03.set ((j).toNat) (cap03.getD ((w64 (j - 1)).toNat) 0)).set ((w64 (j - 1)).toNat) (cap03.getD ((j).toNat) 0)).length) (fun zi=>cI (((cap03.set ((j).toNat) (cap03.getD ((w64 (j - 1)).toNat) 0)).set ((w64 (j - 1)).toNat) (cap03.getD ((j).toNat) 0)).getD zi 0)))] 529 [0≤(w64 (j - 1))∧(w64 (j - 1)) < ((cap03.length:Nat):Int),(w64 (j - 1)).toNat < cap03.length,0≤j∧j < ((cap03.length:Nat):Int),(j).toNat < cap03.length,0≤j∧j < ((cap03.length:Nat):Int),(j).toNat < cap03.length,0≤(w64 (j - 1))∧(w64 (j - 1)) < ((cap03.length:Nat):Int),(w64 (j - 1)).toNat < cap03.length,cap03.length=((cap03.set ((j).toNat) (cap03.getD ((w64 (j - 1)).toNat) 0)).set ((w64 (j - 1)).toNat) (cap03.getD ((j).toNat) 0)).length,cap03.length=((cap03.set ((j).toNat) (cap03.getD ((w64 (j - 1)).toNat) 0)).set ((w64 (j - 1)).toNat) (cap03.getD ((j).toNat) 0)).length,∀ zi,zi < ((cap03.set ((j).toNat) (cap03.getD ((w64 (j - 1)).toNat) 0)).set ((w64 (j - 1)).toNat) (cap03.getD ((j).toNat) 0)).length→(fun zi=>cI (((cap03.set ((j).toNat) (cap03.getD ((w64 (j - 1)).toNat) 0)).set ((w64 (j - 1)).toNat) (cap03.getD ((j).toNat) 0)).getD zi 0)) zi=((fun zm=>if zm=(w64 (j - 1)).toNat then [(aI (cap03.getD ((j).toNat) 0))] else ((fun zm=>if zm=(j).toNat then [(aI (cap03.getD ((w64 (j - 1)).toNat) 0))] else (fun zi=>cI (cap03.getD zi 0)) zm)) zm)) zi] ⟨c3,(ltOf c3),c4,(ltOf c4),c4,(ltOf c4),c3,(ltOf c3),(len_set_raw (len_set_raw rfl)),(len_set_raw (len_set_raw rfl)),(get_set_raw cI 0 (cap03.set ((j).toNat) (cap03.getD ((w64 (j - 1)).toNat) 0)) ((w64 (j - 1)).toNat) (cap03.getD ((j).toNat) 0) (get_set_raw cI 0 cap03 ((j).toNat) (cap03.getD ((w64 (j - 1)).toNat) 0) (fun _ _=>rfl))),trivial⟩ ?_
   refine Runs.sA 1 [.code (C_18 3219),.inLoop (C_18 804),.inBlock 2,.inBlock 1,.code (C_18 51),.inLoop (C_18 12),.inBlock 0] ?_
   refine Runs.sR hE ⟨[(0,(.os 0 0 (((cap03.set ((j).toNat) (cap03.getD ((w64 (j - 1)).toNat) 0)).set ((w64 (j - 1)).toNat) (cap03.getD ((j).toNat) 0)).length))),(1,(aI a)),(2,(aI b)),(6,(aI i)),(7,(aI (w64 (j - 1))))],[(0,aO 1 cI 0 ((cap03.set ((j).toNat) (cap03.getD ((w64 (j - 1)).toNat) 0)).set ((w64 (j - 1)).toNat) (cap03.getD ((j).toNat) 0)))],577⟩ (C_18 3219) [] [] (kp [0,1,2,6,7]) (kq [0]) 577 [] trivial ?_
   refine Runs.sA 1 [.code (C_18 804),.inLoop (C_18 804),.inBlock 2,.inBlock 1,.code (C_18 51),.inLoop (C_18 12),.inBlock 0] ?_
   exact Runs.sW hE _ [] (kp [0,1,2,6,7]) (kq [0]) 1 [] trivial (ih ((cap03.set ((j).toNat) (cap03.getD ((w64 (j - 1)).toNat) 0)).set ((w64 (j - 1)).toNat) (cap03.getD ((j).toNat) 0)) (w64 (j - 1)) _ h E hE)
  ·have h:=condF h hq3
   refine Runs.sA 2 [.code (C_18 51),.inLoop (C_18 12),.inBlock 0] ?_
   refine Runs.sR hE ⟨[(0,(.os 0 0 cap03.length)),(1,(aI a)),(2,(aI b)),(6,(aI (w64 (i+1))))],[(0,aO 1 cI 0 cap03)],289⟩ (C_18 51) [] [] (kp [0,1,2,6]) (kq [0]) 289 [] trivial ?_
   refine Runs.sA 1 [.code (C_18 12),.inLoop (C_18 12),.inBlock 0] ?_
   exact Runs.sW hE _ [] (kp [0,1,2,6]) (kq [0]) 1 [] trivial (hK_g_slices_insertionSortOrdered_int_L1 cap03 (w64 (i+1)) _ h E hE)
theorem g_slices_insertionSortOrdered_int_L1_ok (N:Nat) (a:Int) (b:Int) (fuel:Nat):∀ (cap02:List Int) (i:Int) (r:(List Int)),g_slices_insertionSortOrdered_int_L1 N a b fuel cap02 i=some r→∀ E,EnvOk E 1→Runs Try.prog E 84 49 (SPost E [(0,aO 1 cI 0 r)] (.tup [])) [.code (C_18 12),.inLoop (C_18 12),.inBlock 0] ⟨[(0,(.os 0 0 cap02.length)),(1,(aI a)),(2,(aI b)),(6,(aI i))],[(0,aO 1 cI 0 cap02)],1⟩:=by
 induction fuel with
 | zero=>intro _ _ r h;rw [g_slices_insertionSortOrdered_int_L1.eq_1] at h;cases h
 | succ fuel ih =>
  intro cap02 i r h E hE
  rw [g_slices_insertionSortOrdered_int_L1.eq_2] at h
  refine Runs.sA 2 [.code (C_18 48),.code (C_18 49),.code (C_18 25),.inLoop (C_18 12),.inBlock 0] ?_
  refine Runs.sR hE ⟨[(0,(.os 0 0 cap02.length)),(1,(aI a)),(2,(aI b)),(6,(aI i)),(12,(aB (decide (i < b))))],[(0,aO 1 cI 0 cap02)],49⟩ (C_18 48) [] [] (kp [0,1,2,6,12]) (kq [0]) 49 [] trivial ?_
  refine Runs.sC 12 (C_18 98) (C_18 99) (decide (i < b)) (fun hq2=>?_) (fun hq2=>?_)
  ·have h:=condT h hq2
   refine Runs.sA 4 [.code (C_18 200),.code (C_18 201),.inBlock 1,.code (C_18 51),.inLoop (C_18 12),.inBlock 0] ?_
   refine Runs.sR hE ⟨[(0,(.os 0 0 cap02.length)),(1,(aI a)),(2,(aI b)),(6,(aI i)),(7,(aI i))],[(0,aO 1 cI 0 cap02)],81⟩ (C_18 200) [] [] (kp [0,1,2,6,7]) (kq [0]) 81 [] trivial ?_
   refine Runs.sA 2 [.code (C_18 804),.inLoop (C_18 804),.inBlock 2,.inBlock 1,.code (C_18 51),.inLoop (C_18 12),.inBlock 0] ?_
   exact Runs.sW hE _ [] (kp [0,1,2,6,7]) (kq [0]) 1 [] trivial (g_slices_insertionSortOrdered_int_L2_ok N a b i (g_slices_insertionSortOrdered_int_L1 N a b fuel) ih N cap02 i _ h E hE)
  ·have h:=condF h hq2
   refine Runs.sA 1 [] ?_
   obtain rfl:=Option.some.inj h
   refine Runs.sW hE ⟨[],[(0,aO 1 cI 0 cap02)],49⟩ [] [] (kq [0]) 49 [] trivial ?_
   exact Runs.sF Try.f84 [] [] trivial
theorem g_slices_insertionSortOrdered_int_ok (N:Nat) (a:Int) (b:Int) (cap0:List Int) (r:(List Int)) (h:g_slices_insertionSortOrdered_int N a b cap0=some r):Sound Try.prog 84 [(.os 0 0 cap0.length),(aI a),(aI b)] [(0,aO 1 cI 0 cap0)] 1 (.tup []) [(0,aO 1 cI 0 r)]:=by
 unfold g_slices_insertionSortOrdered_int at h
 refine Sound.of_runs (fu:=Try.f84) (c:=C_18 1) (nt:=49) (by kernel_rfl) (by kernel_rfl) (by kernel_rfl) (by kernel_rfl) (fun hm=>absurd hm (by decide)) ?_
 intro E hE
 refine Runs.sA 1 [.code (C_18 2),.code (C_18 3)] ?_
 refine Runs.sR hE ⟨[(0,(.os 0 0 cap0.length)),(1,(aI a)),(2,(aI b)),(6,(aI (w64 (a+1))))],[(0,aO 1 cI 0 cap0)],49⟩ (C_18 2) [] [] (kp [0,1,2,6]) (kq [0]) 49 [] trivial ?_
 refine Runs.sA 2 [.code (C_18 12),.inLoop (C_18 12),.inBlock 0] ?_
 exact Runs.sW hE _ [] (kp [0,1,2,6]) (kq [0]) 1 [] trivial (g_slices_insertionSortOrdered_int_L1_ok N a b N cap0 (w64 (a+1)) _ h E hE)
noncomputable def C_22 (n:Nat):Code:=cat (bodyOf Try.f102) (pth n)
theorem g_slices_siftDownOrdered_int_J2_ok (N:Nat) (hi:Int) (first:Int) (cap02:List Int) (root:Int) (K_g_slices_siftDownOrdered_int_L1:(List Int)→Int→Option ((List Int)))
  (hK_g_slices_siftDownOrdered_int_L1:∀ (cap02:List Int) (root:Int) (r:(List Int)),K_g_slices_siftDownOrdered_int_L1 cap02 root=some r→∀ E,EnvOk E 1→Runs Try.prog E 102 76 (SPost E [(0,aO 1 cI 0 r)] (.tup [])) [.code (C_22 12),.inLoop (C_22 12),.inBlock 0] ⟨[(0,(.os 0 0 cap02.length)),(2,(aI hi)),(3,(aI first)),(8,(aI root))],[(0,aO 1 cI 0 cap02)],1⟩) (child:Int) (r:(List Int)) (h:g_slices_siftDownOrdered_int_J2 N hi first cap02 root K_g_slices_siftDownOrdered_int_L1 child=some r):∀ E,EnvOk E 1→Runs Try.prog E 102 76 (SPost E [(0,aO 1 cI 0 r)] (.tup [])) [.code (C_22 796),.code (C_22 797),.code (C_22 399),.inBlock 1,.inLoop (C_22 12),.inBlock 0] ⟨[(0,(.os 0 0 cap02.length)),(2,(aI hi)),(3,(aI first)),(8,(aI root)),(9,(aI child))],[(0,aO 1 cI 0 cap02)],1⟩:=by
 intro E hE
 unfold g_slices_siftDownOrdered_int_J2 at h
 obtain ⟨c3,h⟩:=ifSome h
 obtain ⟨c4,h⟩:=ifSome h
 obtain ⟨rLess2,hr2,h⟩:=bindSome h
 refine Runs.sR hE ⟨[(0,(.os 0 0 cap02.length)),(2,(aI hi)),(3,(aI first)),(8,(aI root)),(9,(aI child)),(52,(aB (!rLess2)))],[(0,aO 1 cI 0 cap02)],225⟩ (C_22 796) [(12,⟨[],true,(aB rLess2),[],0,false,none⟩)] [] (kp [0,2,3,8,9,52]) (kq [0]) 225 [0≤(w64 (first+root))∧(w64 (first+root)) < ((cap02.length:Nat):Int),(w64 (first+root)).toNat < cap02.length,0≤(w64 (first+child))∧(w64 (first+child)) < ((cap02.length:Nat):Int),(w64 (first+child)).toNat < cap02.length,Sound Try.prog 90 [(aI (cap02.getD ((w64 (first+root)).toNat) 0)),(aI (cap02.getD ((w64 (first+child)).toNat) 0))] [] 0 (aB rLess2) []] ⟨c3,(ltOf c3),c4,(ltOf c4),(g_cmp_Less_int_ok N (cap02.getD ((w64 (first+root)).toNat) 0) (cap02.getD ((w64 (first+child)).toNat) 0) rLess2 hr2),trivial⟩ ?_
 refine Runs.sC 52 (C_22 1594) (C_22 1595) (!rLess2) (fun hq4=>?_) (fun hq4=>?_)
 ·have h:=condT h hq4
  obtain rfl:=Option.some.inj h
  refine Runs.sW hE ⟨[],[(0,aO 1 cI 0 cap02)],225⟩ [] [] (kq [0]) 225 [] trivial ?_
  exact Runs.sT Try.f102 [] [] trivial
 ·have h:=condF h hq4
  refine Runs.sA 2 [.code (C_22 798),.code (C_22 799),.inBlock 1,.inLoop (C_22 12),.inBlock 0] ?_
  refine Runs.sR hE ⟨[(0,(.os 0 0 (((cap02.set ((w64 (first+root)).toNat) (cap02.getD ((w64 (first+child)).toNat) 0)).set ((w64 (first+child)).toNat) (cap02.getD ((w64 (first+root)).toNat) 0)).length))),(2,(aI hi)),(3,(aI first)),(9,(aI child))],[(0,aO 1 cI 0 ((cap02.set ((w64 (first+root)).toNat) (cap02.getD ((w64 (first+child)).toNat) 0)).set ((w64 (first+child)).toNat) (cap02.getD ((w64 (first+root)).toNat) 0)))],609⟩ (C_22 798) [] [] ([(0,.osl (((cap02.set ((w64 (first+root)).toNat) (cap02.getD ((w64 (first+child)).toNat) 0)).set ((w64 (first+child)).toNat) (cap02.getD ((w64 (first+root)).toNat) 0)).length))] ++ kp [2,3,9]) [(0,.arr 0 (((cap02.set ((w64 (first+root)).toNat) (cap02.getD ((w64 (first+child)).toNat) 0)).set ((w64 (first+child)).toNat) (cap02.getD ((w64 (first+root)).toNat) 0)).length) (fun zi=>cI (((cap02.set ((w64 (first+root)).toNat) (cap02.getD ((w64 (first+child)).toNat) 0)).set ((w64 (first+child)).toNat) (cap02.getD ((w64 (first+root)).toNat) 0)).getD zi 0)))] 609 [0≤(w64 (first+child))∧(w64 (first+child)) < ((cap02.length:Nat):Int),(w64 (first+child)).toNat < cap02.length,0≤(w64 (first+root))∧(w64 (first+root)) < ((cap02.length:Nat):Int),(w64 (first+root)).toNat < cap02.length,0≤(w64 (first+root))∧(w64 (first+root)) < ((cap02.length:Nat):Int),(w64 (first+root)).toNat < cap02.length,0≤(w64 (first+child))∧(w64 (first+child)) < ((cap02.length:Nat):Int),(w64 (first+child)).toNat < cap02.length,cap02.length=((cap02.set ((w64 (first+root)).toNat) (cap02.getD ((w64 (first+child)).toNat) 0)).set ((w64 (first+child)).toNat) (cap02.getD ((w64 (first+root)).toNat) 0)).length,cap02.length=((cap02.set ((w64 (first+root)).toNat) (cap02.getD ((w64 (first+child)).toNat) 0)).set ((w64 (first+child)).toNat) (cap02.getD ((w64 (first+root)).toNat) 0)).length,∀ zi,zi < ((cap02.set ((w64 (first+root)).toNat) (cap02.getD ((w64 (first+child)).toNat) 0)).set ((w64 (first+child)).toNat) (cap02.getD ((w64 (first+root)).toNat) 0)).length→(fun zi=>cI (((cap02.set ((w64 (first+root)).toNat) (cap02.getD ((w64 (first+child)).toNat) 0)).set ((w64 (first+child)).toNat) (cap02.getD ((w64 (first+root)).toNat) 0)).getD zi 0)) zi=((fun zm=>if zm=(w64 (first+child)).toNat then [(aI (cap02.getD ((w64 (first+root)).toNat) 0))] else ((fun zm=>if zm=(w64 (first+root)).toNat then [(aI (cap02.getD ((w64 (first+child)).toNat) 0))] else (fun zi=>cI (cap02.getD zi 0)) zm)) zm)) zi] ⟨c4,(ltOf c4),c3,(ltOf c3),c3,(ltOf c3),c4,(ltOf c4),(len_set_raw (len_set_raw rfl)),(len_set_raw (len_set_raw rfl)),(get_set_raw cI 0 (cap02.set ((w64 (first+root)).toNat) (cap02.getD ((w64 (first+child)).toNat) 0)) ((w64 (first+child)).toNat) (cap02.getD ((w64 (first+root)).toNat) 0) (get_set_raw cI 0 cap02 ((w64 (first+root)).toNat) (cap02.getD ((w64 (first+child)).toNat) 0) (fun _ _=>rfl))),trivial⟩ ?_
  refine Runs.sR hE ⟨[(0,(.os 0 0 (((cap02.set ((w64 (first+root)).toNat) (cap02.getD ((w64 (first+child)).toNat) 0)).set ((w64 (first+child)).toNat) (cap02.getD ((w64 (first+root)).toNat) 0)).length))),(2,(aI hi)),(3,(aI first)),(8,(aI child))],[(0,aO 1 cI 0 ((cap02.set ((w64 (first+root)).toNat) (cap02.getD ((w64 (first+child)).toNat) 0)).set ((w64 (first+child)).toNat) (cap02.getD ((w64 (first+root)).toNat) 0)))],641⟩ (C_22 799) [] [] (kp [0,2,3,8]) (kq [0]) 641 [] trivial ?_
  refine Runs.sA 2 [.code (C_22 12),.inLoop (C_22 12),.inBlock 0] ?_
  exact Runs.sW hE _ [] (kp [0,2,3,8]) (kq [0]) 1 [] trivial (hK_g_slices_siftDownOrdered_int_L1 ((cap02.set ((w64 (first+root)).toNat) (cap02.getD ((w64 (first+child)).toNat) 0)).set ((w64 (first+child)).toNat) (cap02.getD ((w64 (first+root)).toNat) 0)) child _ h E hE)
theorem g_slices_siftDownOrdered_int_L1_ok (N:Nat) (hi:Int) (first:Int) (fuel:Nat):∀ (cap02:List Int) (root:Int) (r:(List Int)),g_slices_siftDownOrdered_int_L1 N hi first fuel cap02 root=some r→∀ E,EnvOk E 1→Runs Try.prog E 102 76 (SPost E [(0,aO 1 cI 0 r)] (.tup [])) [.code (C_22 12),.inLoop (C_22 12),.inBlock 0] ⟨[(0,(.os 0 0 cap02.length)),(2,(aI hi)),(3,(aI first)),(8,(aI root))],[(0,aO 1 cI 0 cap02)],1⟩:=by
 induction fuel with
 | zero=>intro _ _ r h;rw [g_slices_siftDownOrdered_int_L1.eq_1] at h;cases h
 | succ fuel ih =>
  intro cap02 root r h E hE
  rw [g_slices_siftDownOrdered_int_L1.eq_2] at h
  refine Runs.sA 2 [.code (C_22 48),.code (C_22 49),.inBlock 1,.inLoop (C_22 12),.inBlock 0] ?_
  refine Runs.sR hE ⟨[(0,(.os 0 0 cap02.length)),(2,(aI hi)),(3,(aI first)),(8,(aI root)),(9,(aI (w64 ((w64 (2 * root))+1))))],[(0,aO 1 cI 0 cap02)],65⟩ (C_22 48) [] [] (kp [0,2,3,8,9]) (kq [0]) 65 [] trivial ?_
  refine Runs.sA 2 [.code (C_22 196),.code (C_22 197),.code (C_22 99),.inBlock 1,.inLoop (C_22 12),.inBlock 0] ?_
  refine Runs.sR hE ⟨[(0,(.os 0 0 cap02.length)),(2,(aI hi)),(3,(aI first)),(8,(aI root)),(9,(aI (w64 ((w64 (2 * root))+1)))),(16,(aB (decide ((w64 ((w64 (2 * root))+1))≥hi))))],[(0,aO 1 cI 0 cap02)],113⟩ (C_22 196) [] [] (kp [0,2,3,8,9,16]) (kq [0]) 113 [] trivial ?_
  refine Runs.sC 16 (C_22 394) (C_22 395) (decide ((w64 ((w64 (2 * root))+1))≥hi)) (fun hq2=>?_) (fun hq2=>?_)
  ·have h:=condT h hq2
   refine Runs.sA 1 [] ?_
   obtain rfl:=Option.some.inj h
   refine Runs.sW hE ⟨[],[(0,aO 1 cI 0 cap02)],113⟩ [] [] (kq [0]) 113 [] trivial ?_
   exact Runs.sF Try.f102 [] [] trivial
  ·have h:=condF h hq2
   refine Runs.sA 3 [.code (C_22 396),.code (C_22 397),.code (C_22 199),.inBlock 1,.inLoop (C_22 12),.inBlock 0] ?_
   obtain ⟨c,h⟩:=ifSome h
   obtain ⟨c2,h⟩:=ifSome h
   obtain ⟨rLess,hr,h⟩:=bindSome h
   refine Runs.sR hE ⟨[(0,(.os 0 0 cap02.length)),(2,(aI hi)),(3,(aI first)),(8,(aI root)),(9,(aI (w64 ((w64 (2 * root))+1)))),(36,(aB (cond (decide ((w64 ((w64 ((w64 (2 * root))+1))+1)) < hi)) rLess false)))],[(0,aO 1 cI 0 cap02)],433⟩ (C_22 396) [(18,⟨[],true,(aB rLess),[],0,false,none⟩)] [] (kp [0,2,3,8,9,36]) (kq [0]) 433 [(decide ((w64 ((w64 ((w64 (2 * root))+1))+1)) < hi))=true→AllP [(decide ((w64 ((w64 ((w64 (2 * root))+1))+1)) < hi))=true,(decide ((w64 ((w64 ((w64 (2 * root))+1))+1)) < hi))=true],(decide ((w64 ((w64 ((w64 (2 * root))+1))+1)) < hi))=true→AllP [(decide ((w64 ((w64 ((w64 (2 * root))+1))+1)) < hi))=true,(decide ((w64 ((w64 ((w64 (2 * root))+1))+1)) < hi))=true,0≤(w64 (first+(w64 ((w64 (2 * root))+1))))∧(w64 (first+(w64 ((w64 (2 * root))+1)))) < ((cap02.length:Nat):Int)],(decide ((w64 ((w64 ((w64 (2 * root))+1))+1)) < hi))=true→AllP [(decide ((w64 ((w64 ((w64 (2 * root))+1))+1)) < hi))=true,(w64 (first+(w64 ((w64 (2 * root))+1)))).toNat < cap02.length],(decide ((w64 ((w64 ((w64 (2 * root))+1))+1)) < hi))=true→AllP [(decide ((w64 ((w64 ((w64 (2 * root))+1))+1)) < hi))=true,(decide ((w64 ((w64 ((w64 (2 * root))+1))+1)) < hi))=true],(decide ((w64 ((w64 ((w64 (2 * root))+1))+1)) < hi))=true→AllP [(decide ((w64 ((w64 ((w64 (2 * root))+1))+1)) < hi))=true],(decide ((w64 ((w64 ((w64 (2 * root))+1))+1)) < hi))=true→AllP [(decide ((w64 ((w64 ((w64 (2 * root))+1))+1)) < hi))=true,(decide ((w64 ((w64 ((w64 (2 * root))+1))+1)) < hi))=true,0≤(w64 ((w64 (first+(w64 ((w64 (2 * root))+1))))+1))∧(w64 ((w64 (first+(w64 ((w64 (2 * root))+1))))+1)) < ((cap02.length:Nat):Int)],(decide ((w64 ((w64 ((w64 (2 * root))+1))+1)) < hi))=true→AllP [(decide ((w64 ((w64 ((w64 (2 * root))+1))+1)) < hi))=true,(w64 ((w64 (first+(w64 ((w64 (2 * root))+1))))+1)).toNat < cap02.length],(decide ((w64 ((w64 ((w64 (2 * root))+1))+1)) < hi))=true→AllP [Sound Try.prog 90 [(aI (cap02.getD ((w64 (first+(w64 ((w64 (2 * root))+1)))).toNat) 0)),(aI (cap02.getD ((w64 ((w64 (first+(w64 ((w64 (2 * root))+1))))+1)).toNat) 0))] [] 0 (aB rLess) [],(decide ((w64 ((w64 ((w64 (2 * root))+1))+1)) < hi))=true,(decide ((w64 ((w64 ((w64 (2 * root))+1))+1)) < hi))=true],(decide ((w64 ((w64 ((w64 (2 * root))+1))+1)) < hi))=true→AllP [(decide ((w64 ((w64 ((w64 (2 * root))+1))+1)) < hi))=true]] ⟨(fun hg=>⟨hg,hg,trivial⟩),(fun hg=>⟨hg,hg,(c hg),trivial⟩),(fun hg=>⟨hg,(ltOf (c hg)),trivial⟩),(fun hg=>⟨hg,hg,trivial⟩),(fun hg=>⟨hg,trivial⟩),(fun hg=>⟨hg,hg,(c2 hg),trivial⟩),(fun hg=>⟨hg,(ltOf (c2 hg)),trivial⟩),(fun hg=>⟨(g_cmp_Less_int_ok N (cap02.getD ((w64 (first+(w64 ((w64 (2 * root))+1)))).toNat) 0) (cap02.getD ((w64 ((w64 (first+(w64 ((w64 (2 * root))+1))))+1)).toNat) 0) rLess (condT hr hg)),hg,hg,trivial⟩),(fun hq=>⟨hq,trivial⟩),trivial⟩ ?_
   refine Runs.sC 36 (C_22 794) (C_22 795) (cond (decide ((w64 ((w64 ((w64 (2 * root))+1))+1)) < hi)) rLess false) (fun hq3=>?_) (fun hq3=>?_)
   ·have h:=condT h hq3
    refine Runs.sR hE ⟨[(0,(.os 0 0 cap02.length)),(2,(aI hi)),(3,(aI first)),(8,(aI root)),(9,(aI (w64 ((w64 ((w64 (2 * root))+1))+1))))],[(0,aO 1 cI 0 cap02)],481⟩ (C_22 794) [] [] (kp [0,2,3,8,9]) (kq [0]) 481 [] trivial ?_
    refine Runs.sA 2 [.code (C_22 796),.code (C_22 797),.code (C_22 399),.inBlock 1,.inLoop (C_22 12),.inBlock 0] ?_
    exact Runs.sW hE _ [] (kp [0,2,3,8,9]) (kq [0]) 1 [] trivial (g_slices_siftDownOrdered_int_J2_ok N hi first cap02 root (g_slices_siftDownOrdered_int_L1 N hi first fuel) ih (w64 ((w64 ((w64 (2 * root))+1))+1)) _ h E hE)
   ·have h:=condF h hq3
    refine Runs.sA 3 [.code (C_22 796),.code (C_22 797),.code (C_22 399),.inBlock 1,.inLoop (C_22 12),.inBlock 0] ?_
    exact Runs.sW hE _ [] (kp [0,2,3,8,9]) (kq [0]) 1 [] trivial (g_slices_siftDownOrdered_int_J2_ok N hi first cap02 root (g_slices_siftDownOrdered_int_L1 N hi first fuel) ih (w64 ((w64 (2 * root))+1)) _ h E hE)
theorem g_slices_siftDownOrdered_int_ok (N:Nat) (lo:Int) (hi:Int) (first:Int) (cap0:List Int) (r:(List Int)) (h:g_slices_siftDownOrdered_int N lo hi first cap0=some r):Sound Try.prog 102 [(.os 0 0 cap0.length),(aI lo),(aI hi),(aI first)] [(0,aO 1 cI 0 cap0)] 1 (.tup []) [(0,aO 1 cI 0 r)]:=by
 unfold g_slices_siftDownOrdered_int at h
 refine Sound.of_runs (fu:=Try.f102) (c:=C_22 1) (nt:=76) (by kernel_rfl) (by kernel_rfl) (by kernel_rfl) (by kernel_rfl) (fun hm=>absurd hm (by decide)) ?_
 intro E hE
 refine Runs.sA 1 [.code (C_22 2),.code (C_22 3)] ?_
 refine Runs.sR hE ⟨[(0,(.os 0 0 cap0.length)),(2,(aI hi)),(3,(aI first)),(8,(aI lo))],[(0,aO 1 cI 0 cap0)],33⟩ (C_22 2) [] [] (kp [0,2,3,8]) (kq [0]) 33 [] trivial ?_
 refine Runs.sA 2 [.code (C_22 12),.inLoop (C_22 12),.inBlock 0] ?_
 exact Runs.sW hE _ [] (kp [0,2,3,8]) (kq [0]) 1 [] trivial (g_slices_siftDownOrdered_int_L1_ok N hi first N cap0 lo _ h E hE)
noncomputable def C_21 (n:Nat):Code:=cat (bodyOf Try.f85) (pth n)
theorem g_slices_heapSortOrdered_int_L2_ok (N:Nat) (a:Int) (fuel:Nat):∀ (cap03:List Int) (i2:Int) (r:(List Int)),g_slices_heapSortOrdered_int_L2 N a fuel cap03 i2=some r→∀ E,EnvOk E 1→Runs Try.prog E 85 56 (SPost E [(0,aO 1 cI 0 r)] (.tup [])) [.code (C_21 252),.inLoop (C_21 252),.inBlock 2] ⟨[(0,(.os 0 0 cap03.length)),(6,(aI a)),(7,(aI 0)),(10,(aI i2))],[(0,aO 1 cI 0 cap03)],1⟩:=by
 induction fuel with
 | zero=>intro _ _ r h;rw [g_slices_heapSortOrdered_int_L2.eq_1] at h;cases h
 | succ fuel ih =>
  intro cap03 i2 r h E hE
  rw [g_slices_heapSortOrdered_int_L2.eq_2] at h
  refine Runs.sA 2 [.code (C_21 1008),.code (C_21 1009),.code (C_21 505),.inLoop (C_21 252),.inBlock 2] ?_
  refine Runs.sR hE ⟨[(0,(.os 0 0 cap03.length)),(6,(aI a)),(7,(aI 0)),(10,(aI i2)),(30,(aB (decide (i2≥0))))],[(0,aO 1 cI 0 cap03)],33⟩ (C_21 1008) [] [] (kp [0,6,7,10,30]) (kq [0]) 33 [] trivial ?_
  refine Runs.sC 30 (C_21 2018) (C_21 2019) (decide (i2≥0)) (fun hq3=>?_) (fun hq3=>?_)
  ·have h:=condT h hq3
   refine Runs.sA 4 [.code (C_21 4040),.code (C_21 4041),.inBlock 3,.code (C_21 1011),.inLoop (C_21 252),.inBlock 2] ?_
   obtain ⟨c2,h⟩:=ifSome h
   obtain ⟨c3,h⟩:=ifSome h
   refine Runs.sR hE ⟨[(0,(.os 0 0 (((cap03.set ((a).toNat) (cap03.getD ((w64 (a+i2)).toNat) 0)).set ((w64 (a+i2)).toNat) (cap03.getD ((a).toNat) 0)).length))),(6,(aI a)),(7,(aI 0)),(10,(aI i2))],[(0,aO 1 cI 0 ((cap03.set ((a).toNat) (cap03.getD ((w64 (a+i2)).toNat) 0)).set ((w64 (a+i2)).toNat) (cap03.getD ((a).toNat) 0)))],353⟩ (C_21 4040) [] [] ([(0,.osl (((cap03.set ((a).toNat) (cap03.getD ((w64 (a+i2)).toNat) 0)).set ((w64 (a+i2)).toNat) (cap03.getD ((a).toNat) 0)).length))] ++ kp [6,7,10]) [(0,.arr 0 (((cap03.set ((a).toNat) (cap03.getD ((w64 (a+i2)).toNat) 0)).set ((w64 (a+i2)).toNat) (cap03.getD ((a).toNat) 0)).length) (fun zi=>cI (((cap03.set ((a).toNat) (cap03.getD ((w64 (a+i2)).toNat) 0)).set ((w64 (a+i2)).toNat) (cap03.getD ((a).toNat) 0)).getD zi 0)))] 353 [0≤(w64 (a+i2))∧(w64 (a+i2)) < ((cap03.length:Nat):Int),(w64 (a+i2)).toNat < cap03.length,0≤a∧a < ((cap03.length:Nat):Int),(a).toNat < cap03.length,0≤a∧a < ((cap03.length:Nat):Int),(a).toNat < cap03.length,0≤(w64 (a+i2))∧(w64 (a+i2)) < ((cap03.length:Nat):Int),(w64 (a+i2)).toNat < cap03.length,cap03.length=((cap03.set ((a).toNat) (cap03.getD ((w64 (a+i2)).toNat) 0)).set ((w64 (a+i2)).toNat) (cap03.getD ((a).toNat) 0)).length,cap03.length=((cap03.set ((a).toNat) (cap03.getD ((w64 (a+i2)).toNat) 0)).set ((w64 (a+i2)).toNat) (cap03.getD ((a).toNat) 0)).length,∀ zi,zi < ((cap03.set ((a).toNat) (cap03.getD ((w64 (a+i2)).toNat) 0)).set ((w64 (a+i2)).toNat) (cap03.getD ((a).toNat) 0)).length→(fun zi=>cI (((cap03.set ((a).toNat) (cap03.getD ((w64 (a+i2)).toNat) 0)).set ((w64 (a+i2)).toNat) (cap03.getD ((a).toNat) 0)).getD zi 0)) zi=((fun zm=>if zm=(w64 (a+i2)).toNat then [(aI (cap03.getD ((a).toNat) 0))] else ((fun zm=>if zm=(a).toNat then [(aI (cap03.getD ((w64 (a+i2)).toNat) 0))] else (fun zi=>cI (cap03.getD zi 0)) zm)) zm)) zi] ⟨c2,(ltOf c2),c3,(ltOf c3),c3,(ltOf c3),c2,(ltOf c2),(len_set_raw (len_set_raw rfl)),(len_set_raw (len_set_raw rfl)),(get_set_raw cI 0 (cap03.set ((a).toNat) (cap03.getD ((w64 (a+i2)).toNat) 0)) ((w64 (a+i2)).toNat) (cap03.getD ((a).toNat) 0) (get_set_raw cI 0 cap03 ((a).toNat) (cap03.getD ((w64 (a+i2)).toNat) 0) (fun _ _=>rfl))),trivial⟩ ?_
   obtain ⟨rsiftDownOrde2,hr2,h⟩:=bindSome h
   obtain ⟨c4,h⟩:=ifSome h
   refine Runs.sR hE ⟨[(0,(.os 0 0 rsiftDownOrde2.length)),(6,(aI a)),(7,(aI 0)),(10,(aI i2))],[(0,aO 1 cI 0 rsiftDownOrde2)],433⟩ (C_21 4041) [(4,⟨[0],false,(.tup []),[(0,aO 1 cI 0 rsiftDownOrde2)],0,false,none⟩)] [] ([(0,.osl (rsiftDownOrde2.length))] ++ kp [6,7,10]) (kq [0]) 433 [Sound Try.prog 102 [(.os 0 0 (((cap03.set ((a).toNat) (cap03.getD ((w64 (a+i2)).toNat) 0)).set ((w64 (a+i2)).toNat) (cap03.getD ((a).toNat) 0)).length)),(aI 0),(aI i2),(aI a)] [(0,aO 1 cI 0 ((cap03.set ((a).toNat) (cap03.getD ((w64 (a+i2)).toNat) 0)).set ((w64 (a+i2)).toNat) (cap03.getD ((a).toNat) 0)))] 1 (.tup []) [(0,aO 1 cI 0 rsiftDownOrde2)],((cap03.set ((a).toNat) (cap03.getD ((w64 (a+i2)).toNat) 0)).set ((w64 (a+i2)).toNat) (cap03.getD ((a).toNat) 0)).length=rsiftDownOrde2.length] ⟨(g_slices_siftDownOrdered_int_ok N 0 i2 a ((cap03.set ((a).toNat) (cap03.getD ((w64 (a+i2)).toNat) 0)).set ((w64 (a+i2)).toNat) (cap03.getD ((a).toNat) 0)) rsiftDownOrde2 hr2),(Eq.symm c4),trivial⟩ ?_
   refine Runs.sA 1 [.code (C_21 1011),.inLoop (C_21 252),.inBlock 2] ?_
   refine Runs.sR hE ⟨[(0,(.os 0 0 rsiftDownOrde2.length)),(6,(aI a)),(7,(aI 0)),(10,(aI (w64 (i2 - 1))))],[(0,aO 1 cI 0 rsiftDownOrde2)],481⟩ (C_21 1011) [] [] (kp [0,6,7,10]) (kq [0]) 481 [] trivial ?_
   refine Runs.sA 1 [.code (C_21 252),.inLoop (C_21 252),.inBlock 2] ?_
   exact Runs.sW hE _ [] (kp [0,6,7,10]) (kq [0]) 1 [] trivial (ih rsiftDownOrde2 (w64 (i2 - 1)) _ h E hE)
  ·have h:=condF h hq3
   refine Runs.sA 1 [] ?_
   obtain rfl:=Option.some.inj h
   refine Runs.sW hE ⟨[],[(0,aO 1 cI 0 cap03)],49⟩ [] [] (kq [0]) 49 [] trivial ?_
   exact Runs.sF Try.f85 [] [] trivial
theorem g_slices_heapSortOrdered_int_L1_ok (N:Nat) (a:Int) (b:Int) (fuel:Nat):∀ (cap02:List Int) (i:Int) (r:(List Int)),g_slices_heapSortOrdered_int_L1 N a b fuel cap02 i=some r→∀ E,EnvOk E 1→Runs Try.prog E 85 56 (SPost E [(0,aO 1 cI 0 r)] (.tup [])) [.code (C_21 244),.inLoop (C_21 244),.inBlock 0,.code (C_21 31)] ⟨[(0,(.os 0 0 cap02.length)),(6,(aI a)),(7,(aI 0)),(8,(aI (w64 (b - a)))),(9,(aI i))],[(0,aO 1 cI 0 cap02)],1⟩:=by
 induction fuel with
 | zero=>intro _ _ r h;rw [g_slices_heapSortOrdered_int_L1.eq_1] at h;cases h
 | succ fuel ih =>
  intro cap02 i r h E hE
  rw [g_slices_heapSortOrdered_int_L1.eq_2] at h
  refine Runs.sA 2 [.code (C_21 976),.code (C_21 977),.code (C_21 489),.inLoop (C_21 244),.inBlock 0,.code (C_21 31)] ?_
  refine Runs.sR hE ⟨[(0,(.os 0 0 cap02.length)),(6,(aI a)),(7,(aI 0)),(8,(aI (w64 (b - a)))),(9,(aI i)),(19,(aB (decide (i≥0))))],[(0,aO 1 cI 0 cap02)],33⟩ (C_21 976) [] [] (kp [0,6,7,8,9,19]) (kq [0]) 33 [] trivial ?_
  refine Runs.sC 19 (C_21 1954) (C_21 1955) (decide (i≥0)) (fun hq2=>?_) (fun hq2=>?_)
  ·have h:=condT h hq2
   refine Runs.sA 3 [.code (C_21 1956),.inBlock 1,.code (C_21 979),.inLoop (C_21 244),.inBlock 0,.code (C_21 31)] ?_
   obtain ⟨rsiftDownOrde,hr,h⟩:=bindSome h
   obtain ⟨c,h⟩:=ifSome h
   refine Runs.sR hE ⟨[(0,(.os 0 0 rsiftDownOrde.length)),(6,(aI a)),(7,(aI 0)),(8,(aI (w64 (b - a)))),(9,(aI i))],[(0,aO 1 cI 0 rsiftDownOrde)],113⟩ (C_21 1956) [(4,⟨[0],false,(.tup []),[(0,aO 1 cI 0 rsiftDownOrde)],0,false,none⟩)] [] ([(0,.osl (rsiftDownOrde.length))] ++ kp [6,7,8,9]) (kq [0]) 113 [Sound Try.prog 102 [(.os 0 0 cap02.length),(aI i),(aI (w64 (b - a))),(aI a)] [(0,aO 1 cI 0 cap02)] 1 (.tup []) [(0,aO 1 cI 0 rsiftDownOrde)],cap02.length=rsiftDownOrde.length] ⟨(g_slices_siftDownOrdered_int_ok N i (w64 (b - a)) a cap02 rsiftDownOrde hr),(Eq.symm c),trivial⟩ ?_
   refine Runs.sA 1 [.code (C_21 979),.inLoop (C_21 244),.inBlock 0,.code (C_21 31)] ?_
   refine Runs.sR hE ⟨[(0,(.os 0 0 rsiftDownOrde.length)),(6,(aI a)),(7,(aI 0)),(8,(aI (w64 (b - a)))),(9,(aI (w64 (i - 1))))],[(0,aO 1 cI 0 rsiftDownOrde)],161⟩ (C_21 979) [] [] (kp [0,6,7,8,9]) (kq [0]) 161 [] trivial ?_
   refine Runs.sA 1 [.code (C_21 244),.inLoop (C_21 244),.inBlock 0,.code (C_21 31)] ?_
   exact Runs.sW hE _ [] (kp [0,6,7,8,9]) (kq [0]) 1 [] trivial (ih rsiftDownOrde (w64 (i - 1)) _ h E hE)
  ·have h:=condF h hq2
   refine Runs.sA 2 [.code (C_21 62),.code (C_21 63)] ?_
   refine Runs.sR hE ⟨[(0,(.os 0 0 cap02.length)),(6,(aI a)),(7,(aI 0)),(10,(aI (w64 ((w64 (b - a)) - 1))))],[(0,aO 1 cI 0 cap02)],81⟩ (C_21 62) [] [] (kp [0,6,7,10]) (kq [0]) 81 [] trivial ?_
   refine Runs.sA 2 [.code (C_21 252),.inLoop (C_21 252),.inBlock 2] ?_
   exact Runs.sW hE _ [] (kp [0,6,7,10]) (kq [0]) 1 [] trivial (g_slices_heapSortOrdered_int_L2_ok N a N cap02 (w64 ((w64 (b - a)) - 1)) _ h E hE)
theorem g_slices_heapSortOrdered_int_ok (N:Nat) (a:Int) (b:Int) (cap0:List Int) (r:(List Int)) (h:g_slices_heapSortOrdered_int N a b cap0=some r):Sound Try.prog 85 [(.os 0 0 cap0.length),(aI a),(aI b)] [(0,aO 1 cI 0 cap0)] 1 (.tup []) [(0,aO 1 cI 0 r)]:=by
 unfold g_slices_heapSortOrdered_int at h
 refine Sound.of_runs (fu:=Try.f85) (c:=C_21 1) (nt:=56) (by kernel_rfl) (by kernel_rfl) (by kernel_rfl) (by kernel_rfl) (fun hm=>absurd hm (by decide)) ?_
 intro E hE
 refine Runs.sA 1 [.code (C_21 2),.code (C_21 3)] ?_
 refine Runs.sR hE ⟨[(0,(.os 0 0 cap0.length)),(1,(aI a)),(2,(aI b)),(6,(aI a))],[(0,aO 1 cI 0 cap0)],33⟩ (C_21 2) [] [] (kp [0,1,2,6]) (kq [0]) 33 [] trivial ?_
 refine Runs.sA 1 [.code (C_21 6),.code (C_21 7)] ?_
 refine Runs.sR hE ⟨[(0,(.os 0 0 cap0.length)),(1,(aI a)),(2,(aI b)),(6,(aI a)),(7,(aI 0))],[(0,aO 1 cI 0 cap0)],49⟩ (C_21 6) [] [] (kp [0,1,2,6,7]) (kq [0]) 49 [] trivial ?_
 refine Runs.sA 1 [.code (C_21 14),.code (C_21 15)] ?_
 refine Runs.sR hE ⟨[(0,(.os 0 0 cap0.length)),(6,(aI a)),(7,(aI 0)),(8,(aI (w64 (b - a))))],[(0,aO 1 cI 0 cap0)],113⟩ (C_21 14) [] [] (kp [0,6,7,8]) (kq [0]) 113 [] trivial ?_
 refine Runs.sA 2 [.code (C_21 60),.code (C_21 61),.code (C_21 31)] ?_
 refine Runs.sR hE ⟨[(0,(.os 0 0 cap0.length)),(6,(aI a)),(7,(aI 0)),(8,(aI (w64 (b - a)))),(9,(aI (w64 ((w64 ((w64 (b - a)) - 1)).tdiv 2))))],[(0,aO 1 cI 0 cap0)],177⟩ (C_21 60) [] [] (kp [0,6,7,8,9]) (kq [0]) 177 [(2:Int)≠0] ⟨(by decide),trivial⟩ ?_
 refine Runs.sA 2 [.code (C_21 244),.inLoop (C_21 244),.inBlock 0,.code (C_21 31)] ?_
 exact Runs.sW hE _ [] (kp [0,6,7,8,9]) (kq [0]) 1 [] trivial (g_slices_heapSortOrdered_int_L1_ok N a b N cap0 (w64 ((w64 ((w64 (b - a)) - 1)).tdiv 2)) _ h E hE)
noncomputable def C_24 (n:Nat):Code:=cat (bodyOf Try.f103) (pth n)
theorem g_slices_nextPowerOfTwo_ok (N:Nat) (length:Int) (r:Int) (h:g_slices_nextPowerOfTwo N length=some r):Sound Try.prog 103 [(aI length)] [] 0 (.atom (.int .u64 r)) []:=by
 unfold g_slices_nextPowerOfTwo at h
 refine Sound.of_runs (fu:=Try.f103) (c:=C_24 1) (nt:=7) (by kernel_rfl) (by kernel_rfl) (by kernel_rfl) (by kernel_rfl) (fun hm=>rfl) ?_
 intro E hE
 refine Runs.sA 1 [.code (C_24 2),.code (C_24 3)] ?_
 refine Runs.sR hE ⟨[(0,(aI length))],[],16⟩ (C_24 2) [] [] (kp [0]) [] 16 [] trivial ?_
 refine Runs.sA 1 [.code (C_24 6),.code (C_24 7)] ?_
 obtain ⟨rLen,hr,h⟩:=bindSome h
 obtain ⟨c,h⟩:=ifSome h
 refine Runs.sR hE ⟨[(2,(.atom (.int .u64 (shlI .u64 1 rLen))))],[],96⟩ (C_24 6) [(2,⟨[],true,(aI rLen),[],0,false,none⟩)] [] (kp [2]) [] 96 [Sound Try.prog 67 [(.atom (.int .u64 (IntKind.u64.wrap (length))))] [] 0 (aI rLen) [],(0:Int)≤rLen] ⟨(g_math_bits_Len_ok N (IntKind.u64.wrap (length)) rLen hr),c,trivial⟩ ?_
 obtain rfl:=Option.some.inj h
 refine Runs.sW hE ⟨[(2,(.atom (.int .u64 (shlI .u64 1 rLen))))],[],96⟩ [] (kp [2]) [] 96 [] trivial ?_
 exact Runs.sT Try.f103 [] [] trivial
noncomputable def C_25 (n:Nat):Code:=cat (bodyOf Try.f104) (pth n)
theorem g_slices_xorshift_Next_ok (N:Nat) (cap0:Int) (r:Int×Int) (h:g_slices_xorshift_Next N cap0=some r):Sound Try.prog 104 [(.op 0 0 0)] [(0,vO 1 [(.atom (.int .u64 cap0))])] 1 (.atom (.int .u64 r.1)) [(0,vO 1 [(.atom (.int .u64 r.2))])]:=by
 unfold g_slices_xorshift_Next at h
 refine Sound.of_runs (fu:=Try.f104) (c:=C_25 1) (nt:=33) (by kernel_rfl) (by kernel_rfl) (by kernel_rfl) (by kernel_rfl) (fun hm=>absurd hm (by decide)) ?_
 intro E hE
 refine Runs.sA 1 [.code (C_25 2),.code (C_25 3)] ?_
 refine Runs.sR hE ⟨[(0,(.op 0 0 0))],[(0,vO 1 [(.atom (.int .u64 cap0))])],17⟩ (C_25 2) [] [] (kp [0]) (kq [0]) 17 [] trivial ?_
 refine Runs.sA 1 [.code (C_25 6),.code (C_25 7)] ?_
 refine Runs.sR hE ⟨[(0,(.op 0 0 0))],[(0,vO 1 [(.atom (.int .u64 (xorI .u64 cap0 (shlI .u64 cap0 13))))])],177⟩ (C_25 6) [] [] (kp [0]) (kq [0]) 177 [0 < 1,0 < 1,(0:Int)≤13,0 < 1] ⟨o1,o1,(by decide),o1,trivial⟩ ?_
 refine Runs.sA 1 [.code (C_25 14),.code (C_25 15)] ?_
 refine Runs.sR hE ⟨[(0,(.op 0 0 0))],[(0,vO 1 [(.atom (.int .u64 (xorI .u64 (xorI .u64 cap0 (shlI .u64 cap0 13)) (shrI .u64 (xorI .u64 cap0 (shlI .u64 cap0 13)) 7))))])],337⟩ (C_25 14) [] [] (kp [0]) (kq [0]) 337 [0 < 1,0 < 1,(0:Int)≤7,0 < 1] ⟨o1,o1,(by decide),o1,trivial⟩ ?_
 refine Runs.sA 1 [.code (C_25 30),.code (C_25 31)] ?_
 refine Runs.sR hE ⟨[(0,(.op 0 0 0))],[(0,vO 1 [(.atom (.int .u64 (xorI .u64 (xorI .u64 (xorI .u64 cap0 (shlI .u64 cap0 13)) (shrI .u64 (xorI .u64 cap0 (shlI .u64 cap0 13)) 7)) (shlI .u64 (xorI .u64 (xorI .u64 cap0 (shlI .u64 cap0 13)) (shrI .u64 (xorI .u64 cap0 (shlI .u64 cap0 13)) 7)) 17))))])],497⟩ (C_25 30) [] [] (kp [0]) (kq [0]) 497 [0 < 1,0 < 1,(0:Int)≤17,0 < 1] ⟨o1,o1,(by decide),o1,trivial⟩ ?_
 refine Runs.sA 1 [.code (C_25 62),.code (C_25 63)] ?_
 refine Runs.sR hE ⟨[(2,(.atom (.int .u64 (xorI .u64 (xorI .u64 (xorI .u64 cap0 (shlI .u64 cap0 13)) (shrI .u64 (xorI .u64 cap0 (shlI .u64 cap0 13)) 7)) (shlI .u64 (xorI .u64 (xorI .u64 cap0 (shlI .u64 cap0 13)) (shrI .u64 (xorI .u64 cap0 (shlI .u64 cap0 13)) 7)) 17)))))],[(0,vO 1 [(.atom (.int .u64 (xorI .u64 (xorI .u64 (xorI .u64 cap0 (shlI .u64 cap0 13)) (shrI .u64 (xorI .u64 cap0 (shlI .u64 cap0 13)) 7)) (shlI .u64 (xorI .u64 (xorI .u64 cap0 (shlI .u64 cap0 13)) (shrI .u64 (xorI .u64 cap0 (shlI .u64 cap0 13)) 7)) 17))))])],561⟩ (C_25 62) [] [] (kp [2]) (kq [0]) 561 [0 < 1] ⟨o1,trivial⟩ ?_
 obtain rfl:=Option.some.inj h
 refine Runs.sW hE ⟨[(2,(.atom (.int .u64 (xorI .u64 (xorI .u64 (xorI .u64 cap0 (shlI .u64 cap0 13)) (shrI .u64 (xorI .u64 cap0 (shlI .u64 cap0 13)) 7)) (shlI .u64 (xorI .u64 (xorI .u64 cap0 (shlI .u64 cap0 13)) (shrI .u64 (xorI .u64 cap0 (shlI .u64 cap0 13)) 7)) 17)))))],[(0,vO 1 [(.atom (.int .u64 (xorI .u64 (xorI .u64 (xorI .u64 cap0 (shlI .u64 cap0 13)) (shrI .u64 (xorI .u64 cap0 (shlI .u64 cap0 13)) 7)) (shlI .u64 (xorI .u64 (xorI .u64 cap0 (shlI .u64 cap0 13)) (shrI .u64 (xorI .u64 cap0 (shlI .u64 cap0 13)) 7)) 17))))])],561⟩ [] (kp [2]) (kq [0]) 561 [] trivial ?_
 exact Runs.sT Try.f104 [] [] trivial
noncomputable def C_23 (n:Nat):Code:=cat (bodyOf Try.f86) (pth n)
theorem g_slices_breakPatternsOrdered_int_J2_ok (N:Nat) (a:Int) (b:Int) (rnextPowerOfT:Int) (cap02:List Int) (idx:Int) (rNext:Int×Int) (K_g_slices_breakPatternsOrdered_int_L1:(List Int)→Int→Int→Option ((List Int)))
  (hK_g_slices_breakPatternsOrdered_int_L1:∀ (cap02:List Int) (random:Int) (idx:Int) (r:(List Int)),K_g_slices_breakPatternsOrdered_int_L1 cap02 random idx=some r→∀ E,EnvOk E 1→Runs Try.prog E 86 65 (SPost E [(0,aO 1 cI 0 r)] (.tup [])) [.code (C_23 476),.inLoop (C_23 476),.inBlock 0] ⟨[(0,(.os 0 0 cap02.length)),(1,(aI a)),(6,(aI (w64 (b - a)))),(7,(.op 1 0 0)),(8,(.atom (.int .u64 rnextPowerOfT))),(9,(aI idx))],[(0,aO 1 cI 0 cap02),(1,vO 1 [(.atom (.int .u64 random))])],2⟩) (other:Int) (r:(List Int)) (h:g_slices_breakPatternsOrdered_int_J2 N a b rnextPowerOfT cap02 idx rNext K_g_slices_breakPatternsOrdered_int_L1 other=some r):∀ E,EnvOk E 1→Runs Try.prog E 86 65 (SPost E [(0,aO 1 cI 0 r)] (.tup [])) [.code (C_23 15251),.inBlock 1,.code (C_23 1907),.inLoop (C_23 476),.inBlock 0] ⟨[(0,(.os 0 0 cap02.length)),(1,(aI a)),(6,(aI (w64 (b - a)))),(7,(.op 1 0 0)),(8,(.atom (.int .u64 rnextPowerOfT))),(9,(aI idx)),(10,(aI other))],[(0,aO 1 cI 0 cap02),(1,vO 1 [(.atom (.int .u64 rNext.2))])],2⟩:=by
 intro E hE
 unfold g_slices_breakPatternsOrdered_int_J2 at h
 obtain ⟨c,h⟩:=ifSome h
 obtain ⟨c2,h⟩:=ifSome h
 refine Runs.sR hE ⟨[(0,(.os 0 0 (((cap02.set ((idx).toNat) (cap02.getD ((w64 (a+other)).toNat) 0)).set ((w64 (a+other)).toNat) (cap02.getD ((idx).toNat) 0)).length))),(1,(aI a)),(6,(aI (w64 (b - a)))),(7,(.op 1 0 0)),(8,(.atom (.int .u64 rnextPowerOfT))),(9,(aI idx))],[(0,aO 1 cI 0 ((cap02.set ((idx).toNat) (cap02.getD ((w64 (a+other)).toNat) 0)).set ((w64 (a+other)).toNat) (cap02.getD ((idx).toNat) 0))),(1,vO 1 [(.atom (.int .u64 rNext.2))])],322⟩ (C_23 15251) [] [] ([(0,.osl (((cap02.set ((idx).toNat) (cap02.getD ((w64 (a+other)).toNat) 0)).set ((w64 (a+other)).toNat) (cap02.getD ((idx).toNat) 0)).length))] ++ kp [1,6,7,8,9]) ([(0,.arr 0 (((cap02.set ((idx).toNat) (cap02.getD ((w64 (a+other)).toNat) 0)).set ((w64 (a+other)).toNat) (cap02.getD ((idx).toNat) 0)).length) (fun zi=>cI (((cap02.set ((idx).toNat) (cap02.getD ((w64 (a+other)).toNat) 0)).set ((w64 (a+other)).toNat) (cap02.getD ((idx).toNat) 0)).getD zi 0)))] ++ kq [1]) 322 [0≤(w64 (a+other))∧(w64 (a+other)) < ((cap02.length:Nat):Int),(w64 (a+other)).toNat < cap02.length,0≤idx∧idx < ((cap02.length:Nat):Int),(idx).toNat < cap02.length,0≤idx∧idx < ((cap02.length:Nat):Int),(idx).toNat < cap02.length,0≤(w64 (a+other))∧(w64 (a+other)) < ((cap02.length:Nat):Int),(w64 (a+other)).toNat < cap02.length,cap02.length=((cap02.set ((idx).toNat) (cap02.getD ((w64 (a+other)).toNat) 0)).set ((w64 (a+other)).toNat) (cap02.getD ((idx).toNat) 0)).length,cap02.length=((cap02.set ((idx).toNat) (cap02.getD ((w64 (a+other)).toNat) 0)).set ((w64 (a+other)).toNat) (cap02.getD ((idx).toNat) 0)).length,∀ zi,zi < ((cap02.set ((idx).toNat) (cap02.getD ((w64 (a+other)).toNat) 0)).set ((w64 (a+other)).toNat) (cap02.getD ((idx).toNat) 0)).length→(fun zi=>cI (((cap02.set ((idx).toNat) (cap02.getD ((w64 (a+other)).toNat) 0)).set ((w64 (a+other)).toNat) (cap02.getD ((idx).toNat) 0)).getD zi 0)) zi=((fun zm=>if zm=(w64 (a+other)).toNat then [(aI (cap02.getD ((idx).toNat) 0))] else ((fun zm=>if zm=(idx).toNat then [(aI (cap02.getD ((w64 (a+other)).toNat) 0))] else (fun zi=>cI (cap02.getD zi 0)) zm)) zm)) zi] ⟨c,(ltOf c),c2,(ltOf c2),c2,(ltOf c2),c,(ltOf c),(len_set_raw (len_set_raw rfl)),(len_set_raw (len_set_raw rfl)),(get_set_raw cI 0 (cap02.set ((idx).toNat) (cap02.getD ((w64 (a+other)).toNat) 0)) ((w64 (a+other)).toNat) (cap02.getD ((idx).toNat) 0) (get_set_raw cI 0 cap02 ((idx).toNat) (cap02.getD ((w64 (a+other)).toNat) 0) (fun _ _=>rfl))),trivial⟩ ?_
 refine Runs.sA 1 [.code (C_23 1907),.inLoop (C_23 476),.inBlock 0] ?_
 refine Runs.sR hE ⟨[(0,(.os 0 0 (((cap02.set ((idx).toNat) (cap02.getD ((w64 (a+other)).toNat) 0)).set ((w64 (a+other)).toNat) (cap02.getD ((idx).toNat) 0)).length))),(1,(aI a)),(6,(aI (w64 (b - a)))),(7,(.op 1 0 0)),(8,(.atom (.int .u64 rnextPowerOfT))),(9,(aI (w64 (idx+1))))],[(0,aO 1 cI 0 ((cap02.set ((idx).toNat) (cap02.getD ((w64 (a+other)).toNat) 0)).set ((w64 (a+other)).toNat) (cap02.getD ((idx).toNat) 0))),(1,vO 1 [(.atom (.int .u64 rNext.2))])],370⟩ (C_23 1907) [] [] (kp [0,1,6,7,8,9]) (kq [0,1]) 370 [] trivial ?_
 refine Runs.sA 1 [.code (C_23 476),.inLoop (C_23 476),.inBlock 0] ?_
 exact Runs.sW hE _ [] (kp [0,1,6,7,8,9]) (kq [0,1]) 2 [] trivial (hK_g_slices_breakPatternsOrdered_int_L1 ((cap02.set ((idx).toNat) (cap02.getD ((w64 (a+other)).toNat) 0)).set ((w64 (a+other)).toNat) (cap02.getD ((idx).toNat) 0)) rNext.2 (w64 (idx+1)) _ h E hE)
theorem g_slices_breakPatternsOrdered_int_L1_ok (N:Nat) (a:Int) (b:Int) (rnextPowerOfT:Int) (fuel:Nat):∀ (cap02:List Int) (random:Int) (idx:Int) (r:(List Int)),g_slices_breakPatternsOrdered_int_L1 N a b rnextPowerOfT fuel cap02 random idx=some r→∀ E,EnvOk E 1→Runs Try.prog E 86 65 (SPost E [(0,aO 1 cI 0 r)] (.tup [])) [.code (C_23 476),.inLoop (C_23 476),.inBlock 0] ⟨[(0,(.os 0 0 cap02.length)),(1,(aI a)),(6,(aI (w64 (b - a)))),(7,(.op 1 0 0)),(8,(.atom (.int .u64 rnextPowerOfT))),(9,(aI idx))],[(0,aO 1 cI 0 cap02),(1,vO 1 [(.atom (.int .u64 random))])],2⟩:=by
 induction fuel with
 | zero=>intro _ _ _ r h;rw [g_slices_breakPatternsOrdered_int_L1.eq_1] at h;cases h
 | succ fuel ih =>
  intro cap02 random idx r h E hE
  rw [g_slices_breakPatternsOrdered_int_L1.eq_2] at h
  refine Runs.sA 2 [.code (C_23 1904),.code (C_23 1905),.code (C_23 953),.inLoop (C_23 476),.inBlock 0] ?_
  refine Runs.sR hE ⟨[(0,(.os 0 0 cap02.length)),(1,(aI a)),(6,(aI (w64 (b - a)))),(7,(.op 1 0 0)),(8,(.atom (.int .u64 rnextPowerOfT))),(9,(aI idx)),(33,(aB (decide (idx≤(w64 ((w64 (a+(w64 ((w64 ((w64 (b - a)).tdiv 4)) * 2))))+1))))))],[(0,aO 1 cI 0 cap02),(1,vO 1 [(.atom (.int .u64 random))])],130⟩ (C_23 1904) [] [] (kp [0,1,6,7,8,9,33]) (kq [0,1]) 130 [(4:Int)≠0] ⟨(by decide),trivial⟩ ?_
  refine Runs.sC 33 (C_23 3810) (C_23 3811) (decide (idx≤(w64 ((w64 (a+(w64 ((w64 ((w64 (b - a)).tdiv 4)) * 2))))+1)))) (fun hq3=>?_) (fun hq3=>?_)
  ·have h:=condT h hq3
   refine Runs.sA 4 [.code (C_23 7624),.code (C_23 7625),.inBlock 1,.code (C_23 1907),.inLoop (C_23 476),.inBlock 0] ?_
   obtain ⟨rNext,hr2,h⟩:=bindSome h
   refine Runs.sR hE ⟨[(0,(.os 0 0 cap02.length)),(1,(aI a)),(6,(aI (w64 (b - a)))),(7,(.op 1 0 0)),(8,(.atom (.int .u64 rnextPowerOfT))),(9,(aI idx)),(10,(aI (w64 ((andI .u64 rNext.1 (IntKind.u64.wrap (rnextPowerOfT - 1)))))))],[(0,aO 1 cI 0 cap02),(1,vO 1 [(.atom (.int .u64 rNext.2))])],226⟩ (C_23 7624) [(0,⟨[1],false,(.atom (.int .u64 rNext.1)),[(0,vO 1 [(.atom (.int .u64 rNext.2))])],0,false,none⟩)] [] (kp [0,1,6,7,8,9,10]) (kq [0,1]) 226 [Sound Try.prog 104 [(.op 0 0 0)] [(0,vO 1 [(.atom (.int .u64 random))])] 1 (.atom (.int .u64 rNext.1)) [(0,vO 1 [(.atom (.int .u64 rNext.2))])]] ⟨(g_slices_xorshift_Next_ok N random rNext hr2),trivial⟩ ?_
   refine Runs.sA 2 [.code (C_23 30500),.code (C_23 30501),.code (C_23 15251),.inBlock 1,.code (C_23 1907),.inLoop (C_23 476),.inBlock 0] ?_
   refine Runs.sR hE ⟨[(0,(.os 0 0 cap02.length)),(1,(aI a)),(6,(aI (w64 (b - a)))),(7,(.op 1 0 0)),(8,(.atom (.int .u64 rnextPowerOfT))),(9,(aI idx)),(10,(aI (w64 ((andI .u64 rNext.1 (IntKind.u64.wrap (rnextPowerOfT - 1))))))),(43,(aB (decide ((w64 ((andI .u64 rNext.1 (IntKind.u64.wrap (rnextPowerOfT - 1)))))≥(w64 (b - a))))))],[(0,aO 1 cI 0 cap02),(1,vO 1 [(.atom (.int .u64 rNext.2))])],274⟩ (C_23 30500) [] [] (kp [0,1,6,7,8,9,10,43]) (kq [0,1]) 274 [] trivial ?_
   refine Runs.sC 43 (C_23 61002) (C_23 61003) (decide ((w64 ((andI .u64 rNext.1 (IntKind.u64.wrap (rnextPowerOfT - 1)))))≥(w64 (b - a)))) (fun hq4=>?_) (fun hq4=>?_)
   ·have h:=condT h hq4
    refine Runs.sR hE ⟨[(0,(.os 0 0 cap02.length)),(1,(aI a)),(6,(aI (w64 (b - a)))),(7,(.op 1 0 0)),(8,(.atom (.int .u64 rnextPowerOfT))),(9,(aI idx)),(10,(aI (w64 ((w64 ((andI .u64 rNext.1 (IntKind.u64.wrap (rnextPowerOfT - 1))))) - (w64 (b - a))))))],[(0,aO 1 cI 0 cap02),(1,vO 1 [(.atom (.int .u64 rNext.2))])],338⟩ (C_23 61002) [] [] (kp [0,1,6,7,8,9,10]) (kq [0,1]) 338 [] trivial ?_
    exact Runs.sW hE _ [] (kp [0,1,6,7,8,9,10]) (kq [0,1]) 2 [] trivial (g_slices_breakPatternsOrdered_int_J2_ok N a b rnextPowerOfT cap02 idx rNext (g_slices_breakPatternsOrdered_int_L1 N a b rnextPowerOfT fuel) ih (w64 ((w64 ((andI .u64 rNext.1 (IntKind.u64.wrap (rnextPowerOfT - 1))))) - (w64 (b - a)))) _ h E hE)
   ·have h:=condF h hq4
    refine Runs.sA 1 [.code (C_23 15251),.inBlock 1,.code (C_23 1907),.inLoop (C_23 476),.inBlock 0] ?_
    exact Runs.sW hE _ [] (kp [0,1,6,7,8,9,10]) (kq [0,1]) 2 [] trivial (g_slices_breakPatternsOrdered_int_J2_ok N a b rnextPowerOfT cap02 idx rNext (g_slices_breakPatternsOrdered_int_L1 N a b rnextPowerOfT fuel) ih (w64 ((andI .u64 rNext.1 (IntKind.u64.wrap (rnextPowerOfT - 1))))) _ h E hE)
  ·have h:=condF h hq3
   refine Runs.sA 1 [] ?_
   obtain rfl:=Option.some.inj h
   refine Runs.sW hE ⟨[],[(0,aO 1 cI 0 cap02)],130⟩ [] [] (kq [0]) 130 [] trivial ?_
   exact Runs.sF Try.f86 [] [] trivial
theorem g_slices_breakPatternsOrdered_int_ok (N:Nat) (a:Int) (b:Int) (cap0:List Int) (r:(List Int)) (h:g_slices_breakPatternsOrdered_int N a b cap0=some r):Sound Try.prog 86 [(.os 0 0 cap0.length),(aI a),(aI b)] [(0,aO 1 cI 0 cap0)] 1 (.tup []) [(0,aO 1 cI 0 r)]:=by
 unfold g_slices_breakPatternsOrdered_int at h
 refine Sound.of_runs (fu:=Try.f86) (c:=C_23 1) (nt:=65) (by kernel_rfl) (by kernel_rfl) (by kernel_rfl) (by kernel_rfl) (fun hm=>absurd hm (by decide)) ?_
 intro E hE
 refine Runs.sA 1 [.code (C_23 2),.code (C_23 3)] ?_
 refine Runs.sR hE ⟨[(0,(.os 0 0 cap0.length)),(1,(aI a)),(6,(aI (w64 (b - a))))],[(0,aO 1 cI 0 cap0)],65⟩ (C_23 2) [] [] (kp [0,1,6]) (kq [0]) 65 [] trivial ?_
 refine Runs.sA 1 [.code (C_23 6),.code (C_23 7)] ?_
 refine Runs.sR hE ⟨[(0,(.os 0 0 cap0.length)),(1,(aI a)),(6,(aI (w64 (b - a)))),(15,(aB (decide ((w64 (b - a))≥8))))],[(0,aO 1 cI 0 cap0)],97⟩ (C_23 6) [] [] (kp [0,1,6,15]) (kq [0]) 97 [] trivial ?_
 refine Runs.sC 15 (C_23 14) (C_23 15) (decide ((w64 (b - a))≥8)) (fun hq2=>?_) (fun hq2=>?_)
 ·have h:=condT h hq2
  refine Runs.sA 1 [.code (C_23 28),.code (C_23 29)] ?_
  refine Runs.sR hE ⟨[(0,(.os 0 0 cap0.length)),(1,(aI a)),(6,(aI (w64 (b - a)))),(7,(.op 129 0 0))],[(0,aO 1 cI 0 cap0),(129,vO 1 [(.atom (.int .u64 (IntKind.u64.wrap ((w64 (b - a))))))])],161⟩ (C_23 28) [] [] (kp [0,1,6,7]) (kq [0,129]) 161 [0 < 1] ⟨o1,trivial⟩ ?_
  refine Runs.sA 1 [.code (C_23 58),.code (C_23 59)] ?_
  obtain ⟨rnextPowerOfT,hr,h⟩:=bindSome h
  refine Runs.sR hE ⟨[(0,(.os 0 0 cap0.length)),(1,(aI a)),(6,(aI (w64 (b - a)))),(7,(.op 129 0 0)),(8,(.atom (.int .u64 rnextPowerOfT)))],[(0,aO 1 cI 0 cap0),(129,vO 1 [(.atom (.int .u64 (IntKind.u64.wrap ((w64 (b - a))))))])],209⟩ (C_23 58) [(1,⟨[],true,(.atom (.int .u64 rnextPowerOfT)),[],0,false,none⟩)] [] (kp [0,1,6,7,8]) (kq [0,129]) 209 [Sound Try.prog 103 [(aI (w64 (b - a)))] [] 0 (.atom (.int .u64 rnextPowerOfT)) []] ⟨(g_slices_nextPowerOfTwo_ok N (w64 (b - a)) rnextPowerOfT hr),trivial⟩ ?_
  refine Runs.sA 1 [.code (C_23 118),.code (C_23 119)] ?_
  refine Runs.sR hE ⟨[(0,(.os 0 0 cap0.length)),(1,(aI a)),(6,(aI (w64 (b - a)))),(7,(.op 129 0 0)),(8,(.atom (.int .u64 rnextPowerOfT))),(9,(aI (w64 ((w64 (a+(w64 ((w64 ((w64 (b - a)).tdiv 4)) * 2)))) - 1))))],[(0,aO 1 cI 0 cap0),(129,vO 1 [(.atom (.int .u64 (IntKind.u64.wrap ((w64 (b - a))))))])],321⟩ (C_23 118) [] [] (kp [0,1,6,7,8,9]) (kq [0,129]) 321 [(4:Int)≠0] ⟨(by decide),trivial⟩ ?_
  refine Runs.sA 2 [.code (C_23 476),.inLoop (C_23 476),.inBlock 0] ?_
  exact Runs.sW hE _ [] (kp [0,1,6,7,8,9]) (kq [0] ++ [(1,.keep 129)]) 2 [] trivial (g_slices_breakPatternsOrdered_int_L1_ok N a b rnextPowerOfT N cap0 (IntKind.u64.wrap ((w64 (b - a)))) (w64 ((w64 (a+(w64 ((w64 ((w64 (b - a)).tdiv 4)) * 2)))) - 1)) _ h E hE)
 ·have h:=condF h hq2
  refine Runs.sA 1 [] ?_
  obtain rfl:=Option.some.inj h
  refine Runs.sW hE ⟨[],[(0,aO 1 cI 0 cap0)],97⟩ [] [] (kq [0]) 97 [] trivial ?_
  exact Runs.sF Try.f86 [] [] trivial
noncomputable def C_29 (n:Nat):Code:=cat (bodyOf Try.f113) (pth n)
theorem g_slices_order2Ordered_int_ok (N:Nat) (data:List Int) (a:Int) (b:Int) (cap0:Int) (r:Int×Int×Int) (h:g_slices_order2Ordered_int N data a b cap0=some r):Sound Try.prog 113 [(encL cI 0 data),(aI a),(aI b),(.op 0 0 0)] [(0,vO 1 [(aI cap0)])] 1 (.tup [(aI r.1),(aI r.2.1)]) [(0,vO 1 [(aI r.2.2)])]:=by
 unfold g_slices_order2Ordered_int at h
 refine Sound.of_runs (fu:=Try.f113) (c:=C_29 1) (nt:=28) (by kernel_rfl) (by kernel_rfl) (by kernel_rfl) (by kernel_rfl) (fun hm=>absurd hm (by decide)) ?_
 intro E hE
 refine Runs.sA 1 [.code (C_29 2),.code (C_29 3)] ?_
 refine Runs.sR hE ⟨[(0,(encL cI 0 data)),(1,(aI a)),(2,(aI b)),(3,(.op 0 0 0))],[(0,vO 1 [(aI cap0)])],33⟩ (C_29 2) [] [] (kp [0,1,2,3]) (kq [0]) 33 [] trivial ?_
 refine Runs.sA 2 [.code (C_29 12),.code (C_29 13),.code (C_29 7)] ?_
 obtain ⟨c,h⟩:=ifSome h
 obtain ⟨c2,h⟩:=ifSome h
 obtain ⟨rLess,hr,h⟩:=bindSome h
 refine Runs.sR hE ⟨[(1,(aI a)),(2,(aI b)),(3,(.op 0 0 0)),(18,(aB rLess))],[(0,vO 1 [(aI cap0)])],177⟩ (C_29 12) [(8,⟨[],true,(aB rLess),[],0,false,none⟩)] [] (kp [1,2,3,18]) (kq [0]) 177 [0≤b∧b < ((data.length:Nat):Int),0≤a∧a < ((data.length:Nat):Int),Sound Try.prog 90 [(aI (data.getD ((b).toNat) 0)),(aI (data.getD ((a).toNat) 0))] [] 0 (aB rLess) []] ⟨c,c2,(g_cmp_Less_int_ok N (data.getD ((b).toNat) 0) (data.getD ((a).toNat) 0) rLess hr),trivial⟩ ?_
 refine Runs.sC 18 (C_29 26) (C_29 27) rLess (fun hq2=>?_) (fun hq2=>?_)
 ·have h:=condT h hq2
  refine Runs.sA 1 [.code (C_29 52),.code (C_29 53),.code (C_29 7)] ?_
  refine Runs.sR hE ⟨[(1,(aI a)),(2,(aI b))],[(0,vO 1 [(aI (w64 (cap0+1)))])],273⟩ (C_29 52) [] [] (kp [1,2]) (kq [0]) 273 [0 < 1,0 < 1] ⟨o1,o1,trivial⟩ ?_
  refine Runs.sA 1 [.code (C_29 106),.code (C_29 107),.code (C_29 7)] ?_
  refine Runs.sR hE ⟨[(8,(aI b)),(9,(aI a))],[(0,vO 1 [(aI (w64 (cap0+1)))])],337⟩ (C_29 106) [] [] (kp [8,9]) (kq [0]) 337 [] trivial ?_
  obtain rfl:=Option.some.inj h
  refine Runs.sW hE ⟨[(8,(aI b)),(9,(aI a))],[(0,vO 1 [(aI (w64 (cap0+1)))])],337⟩ [] (kp [8,9]) (kq [0]) 337 [] trivial ?_
  exact Runs.sT Try.f113 [] [] trivial
 ·have h:=condF h hq2
  refine Runs.sA 2 [.code (C_29 14),.code (C_29 15)] ?_
  refine Runs.sR hE ⟨[(8,(aI a)),(9,(aI b))],[(0,vO 1 [(aI cap0)])],241⟩ (C_29 14) [] [] (kp [8,9]) (kq [0]) 241 [] trivial ?_
  obtain rfl:=Option.some.inj h
  refine Runs.sW hE ⟨[(8,(aI a)),(9,(aI b))],[(0,vO 1 [(aI cap0)])],241⟩ [] (kp [8,9]) (kq [0]) 241 [] trivial ?_
  exact Runs.sT Try.f113 [] [] trivial
noncomputable def C_28 (n:Nat):Code:=cat (bodyOf Try.f106) (pth n)
theorem g_slices_medianOrdered_int_ok (N:Nat) (data:List Int) (a:Int) (b:Int) (c:Int) (cap0:Int) (r:Int×Int) (h:g_slices_medianOrdered_int N data a b c cap0=some r):Sound Try.prog 106 [(encL cI 0 data),(aI a),(aI b),(aI c),(.op 0 0 0)] [(0,vO 1 [(aI cap0)])] 1 (aI r.1) [(0,vO 1 [(aI r.2)])]:=by
 unfold g_slices_medianOrdered_int at h
 refine Sound.of_runs (fu:=Try.f106) (c:=C_28 1) (nt:=36) (by kernel_rfl) (by kernel_rfl) (by kernel_rfl) (by kernel_rfl) (fun hm=>absurd hm (by decide)) ?_
 intro E hE
 refine Runs.sA 1 [.code (C_28 2),.code (C_28 3)] ?_
 refine Runs.sR hE ⟨[(0,(encL cI 0 data)),(1,(aI a)),(2,(aI b)),(3,(aI c)),(4,(.op 0 0 0))],[(0,vO 1 [(aI cap0)])],17⟩ (C_28 2) [] [] (kp [0,1,2,3,4]) (kq [0]) 17 [] trivial ?_
 refine Runs.sA 1 [.code (C_28 6),.code (C_28 7)] ?_
 obtain ⟨rorder2Ordere,hr,h⟩:=bindSome h
 refine Runs.sR hE ⟨[(0,(encL cI 0 data)),(1,(aI rorder2Ordere.1)),(2,(aI rorder2Ordere.2.1)),(3,(aI c)),(4,(.op 0 0 0))],[(0,vO 1 [(aI rorder2Ordere.2.2)])],177⟩ (C_28 6) [(4,⟨[0],false,(.tup [(aI rorder2Ordere.1),(aI rorder2Ordere.2.1)]),[(0,vO 1 [(aI rorder2Ordere.2.2)])],0,false,none⟩)] [] (kp [0,1,2,3,4]) (kq [0]) 177 [Sound Try.prog 113 [(encL cI 0 data),(aI a),(aI b),(.op 0 0 0)] [(0,vO 1 [(aI cap0)])] 1 (.tup [(aI rorder2Ordere.1),(aI rorder2Ordere.2.1)]) [(0,vO 1 [(aI rorder2Ordere.2.2)])]] ⟨(g_slices_order2Ordered_int_ok N data a b cap0 rorder2Ordere hr),trivial⟩ ?_
 refine Runs.sA 1 [.code (C_28 14),.code (C_28 15)] ?_
 obtain ⟨rorder2Ordere2,hr2,h⟩:=bindSome h
 refine Runs.sR hE ⟨[(0,(encL cI 0 data)),(1,(aI rorder2Ordere.1)),(2,(aI rorder2Ordere2.1)),(4,(.op 0 0 0))],[(0,vO 1 [(aI rorder2Ordere2.2.2)])],337⟩ (C_28 14) [(4,⟨[0],false,(.tup [(aI rorder2Ordere2.1),(aI rorder2Ordere2.2.1)]),[(0,vO 1 [(aI rorder2Ordere2.2.2)])],0,false,none⟩)] [] (kp [0,1,2,4]) (kq [0]) 337 [Sound Try.prog 113 [(encL cI 0 data),(aI rorder2Ordere.2.1),(aI c),(.op 0 0 0)] [(0,vO 1 [(aI rorder2Ordere.2.2)])] 1 (.tup [(aI rorder2Ordere2.1),(aI rorder2Ordere2.2.1)]) [(0,vO 1 [(aI rorder2Ordere2.2.2)])]] ⟨(g_slices_order2Ordered_int_ok N data rorder2Ordere.2.1 c rorder2Ordere.2.2 rorder2Ordere2 hr2),trivial⟩ ?_
 refine Runs.sA 1 [.code (C_28 30),.code (C_28 31)] ?_
 obtain ⟨rorder2Ordere3,hr3,h⟩:=bindSome h
 refine Runs.sR hE ⟨[(2,(aI rorder2Ordere3.2.1))],[(0,vO 1 [(aI rorder2Ordere3.2.2)])],497⟩ (C_28 30) [(4,⟨[0],false,(.tup [(aI rorder2Ordere3.1),(aI rorder2Ordere3.2.1)]),[(0,vO 1 [(aI rorder2Ordere3.2.2)])],0,false,none⟩)] [] (kp [2]) (kq [0]) 497 [Sound Try.prog 113 [(encL cI 0 data),(aI rorder2Ordere.1),(aI rorder2Ordere2.1),(.op 0 0 0)] [(0,vO 1 [(aI rorder2Ordere2.2.2)])] 1 (.tup [(aI rorder2Ordere3.1),(aI rorder2Ordere3.2.1)]) [(0,vO 1 [(aI rorder2Ordere3.2.2)])]] ⟨(g_slices_order2Ordered_int_ok N data rorder2Ordere.1 rorder2Ordere2.1 rorder2Ordere2.2.2 rorder2Ordere3 hr3),trivial⟩ ?_
 refine Runs.sA 1 [.code (C_28 62),.code (C_28 63)] ?_
 refine Runs.sR hE ⟨[(10,(aI rorder2Ordere3.2.1))],[(0,vO 1 [(aI rorder2Ordere3.2.2)])],529⟩ (C_28 62) [] [] (kp [10]) (kq [0]) 529 [] trivial ?_
 obtain rfl:=Option.some.inj h
 refine Runs.sW hE ⟨[(10,(aI rorder2Ordere3.2.1))],[(0,vO 1 [(aI rorder2Ordere3.2.2)])],529⟩ [] (kp [10]) (kq [0]) 529 [] trivial ?_
 exact Runs.sT Try.f106 [] [] trivial
noncomputable def C_27 (n:Nat):Code:=cat (bodyOf Try.f105) (pth n)
theorem g_slices_medianAdjacentOrdered_int_ok (N:Nat) (data:List Int) (a:Int) (cap0:Int) (r:Int×Int) (h:g_slices_medianAdjacentOrdered_int N data a cap0=some r):Sound Try.prog 105 [(encL cI 0 data),(aI a),(.op 0 0 0)] [(0,vO 1 [(aI cap0)])] 1 (aI r.1) [(0,vO 1 [(aI r.2)])]:=by
 unfold g_slices_medianAdjacentOrdered_int at h
 refine Sound.of_runs (fu:=Try.f105) (c:=C_27 1) (nt:=15) (by kernel_rfl) (by kernel_rfl) (by kernel_rfl) (by kernel_rfl) (fun hm=>absurd hm (by decide)) ?_
 intro E hE
 refine Runs.sA 1 [.code (C_27 2),.code (C_27 3)] ?_
 refine Runs.sR hE ⟨[(0,(encL cI 0 data)),(1,(aI a)),(2,(.op 0 0 0))],[(0,vO 1 [(aI cap0)])],17⟩ (C_27 2) [] [] (kp [0,1,2]) (kq [0]) 17 [] trivial ?_
 refine Runs.sA 1 [.code (C_27 6),.code (C_27 7)] ?_
 obtain ⟨rmedianOrdere,hr,h⟩:=bindSome h
 refine Runs.sR hE ⟨[(6,(aI rmedianOrdere.1))],[(0,vO 1 [(aI rmedianOrdere.2)])],161⟩ (C_27 6) [(7,⟨[0],false,(aI rmedianOrdere.1),[(0,vO 1 [(aI rmedianOrdere.2)])],0,false,none⟩)] [] (kp [6]) (kq [0]) 161 [Sound Try.prog 106 [(encL cI 0 data),(aI (w64 (a - 1))),(aI a),(aI (w64 (a+1))),(.op 0 0 0)] [(0,vO 1 [(aI cap0)])] 1 (aI rmedianOrdere.1) [(0,vO 1 [(aI rmedianOrdere.2)])]] ⟨(g_slices_medianOrdered_int_ok N data (w64 (a - 1)) a (w64 (a+1)) cap0 rmedianOrdere hr),trivial⟩ ?_
 obtain rfl:=Option.some.inj h
 refine Runs.sW hE ⟨[(6,(aI rmedianOrdere.1))],[(0,vO 1 [(aI rmedianOrdere.2)])],161⟩ [] (kp [6]) (kq [0]) 161 [] trivial ?_
 exact Runs.sT Try.f105 [] [] trivial
noncomputable def C_26 (n:Nat):Code:=cat (bodyOf Try.f87) (pth n)
theorem g_slices_choosePivotOrdered_int_J2_ok (N:Nat) (swaps2:Int) (j2:Int) (r:Int×Int) (h:g_slices_choosePivotOrdered_int_J2 N swaps2 j2=some r):∀ E,EnvOk E 0→Runs Try.prog E 87 57 (SPost E [] (.tup [(aI r.1),(aI r.2)])) [.code (C_26 510),.code (C_26 511)] ⟨[(9,(.op 0 0 0)),(11,(aI j2))],[(0,vO 1 [(aI swaps2)])],1⟩:=by
 intro E hE
 unfold g_slices_choosePivotOrdered_int_J2 at h
 refine Runs.sR hE ⟨[(11,(aI j2)),(49,(aI swaps2))],[],17⟩ (C_26 510) [] [] (kp [11,49]) [] 17 [0 < 1] ⟨o1,trivial⟩ ?_
 refine Runs.sA 2 [.code (C_26 2044),.code (C_26 2045),.inBlock 0] ?_
 refine Runs.sR hE ⟨[(11,(aI j2)),(49,(aI swaps2)),(51,(aB (swaps2 == 0)))],[],49⟩ (C_26 2044) [] [] (kp [11,49,51]) [] 49 [] trivial ?_
 refine Runs.sC 51 (C_26 4090) (C_26 4091) (swaps2 == 0) (fun hq4=>?_) (fun hq4=>?_)
 ·have h:=condT h hq4
  refine Runs.sA 1 [.code (C_26 8180),.code (C_26 8181),.inBlock 0] ?_
  refine Runs.sR hE ⟨[(6,(aI j2)),(7,(aI 1))],[],97⟩ (C_26 8180) [] [] (kp [6,7]) [] 97 [] trivial ?_
  obtain rfl:=Option.some.inj h
  refine Runs.sW hE ⟨[(6,(aI j2)),(7,(aI 1))],[],97⟩ [] (kp [6,7]) [] 97 [] trivial ?_
  exact Runs.sT Try.f87 [] [] trivial
 ·have h:=condF h hq4
  refine Runs.sA 1 [.code (C_26 8182),.code (C_26 8183),.inBlock 0] ?_
  refine Runs.sR hE ⟨[(11,(aI j2)),(54,(aB (swaps2 == 12)))],[],81⟩ (C_26 8182) [] [] (kp [11,54]) [] 81 [] trivial ?_
  refine Runs.sC 54 (C_26 16366) (C_26 16367) (swaps2 == 12) (fun hq5=>?_) (fun hq5=>?_)
  ·have h:=condT h hq5
   refine Runs.sA 1 [.code (C_26 32732),.code (C_26 32733),.inBlock 0] ?_
   refine Runs.sR hE ⟨[(6,(aI j2)),(7,(aI 2))],[],129⟩ (C_26 32732) [] [] (kp [6,7]) [] 129 [] trivial ?_
   obtain rfl:=Option.some.inj h
   refine Runs.sW hE ⟨[(6,(aI j2)),(7,(aI 2))],[],129⟩ [] (kp [6,7]) [] 129 [] trivial ?_
   exact Runs.sT Try.f87 [] [] trivial
  ·have h:=condF h hq5
   refine Runs.sA 1 [.code (C_26 32734),.code (C_26 32735),.inBlock 0] ?_
   refine Runs.sR hE ⟨[(6,(aI j2)),(7,(aI 0))],[],129⟩ (C_26 32734) [] [] (kp [6,7]) [] 129 [] trivial ?_
   obtain rfl:=Option.some.inj h
   refine Runs.sW hE ⟨[(6,(aI j2)),(7,(aI 0))],[],129⟩ [] (kp [6,7]) [] 129 [] trivial ?_
   exact Runs.sT Try.f87 [] [] trivial
theorem g_slices_choosePivotOrdered_int_J1_ok (N:Nat) (data:List Int) (swaps:Int) (i:Int) (j:Int) (k:Int) (r:Int×Int) (h:g_slices_choosePivotOrdered_int_J1 N data swaps i j k=some r):∀ E,EnvOk E 0→Runs Try.prog E 87 57 (SPost E [] (.tup [(aI r.1),(aI r.2)])) [.code (C_26 2037),.code (C_26 255)] ⟨[(0,(encL cI 0 data)),(9,(.op 0 0 0)),(10,(aI i)),(11,(aI j)),(12,(aI k))],[(0,vO 1 [(aI swaps)])],1⟩:=by
 intro E hE
 unfold g_slices_choosePivotOrdered_int_J1 at h
 obtain ⟨rmedianOrdere,hr4,h⟩:=bindSome h
 refine Runs.sR hE ⟨[(9,(.op 0 0 0)),(11,(aI rmedianOrdere.1))],[(0,vO 1 [(aI rmedianOrdere.2)])],97⟩ (C_26 2037) [(4,⟨[0],false,(aI rmedianOrdere.1),[(0,vO 1 [(aI rmedianOrdere.2)])],0,false,none⟩)] [] (kp [9,11]) (kq [0]) 97 [Sound Try.prog 106 [(encL cI 0 data),(aI i),(aI j),(aI k),(.op 0 0 0)] [(0,vO 1 [(aI swaps)])] 1 (aI rmedianOrdere.1) [(0,vO 1 [(aI rmedianOrdere.2)])]] ⟨(g_slices_medianOrdered_int_ok N data i j k swaps rmedianOrdere hr4),trivial⟩ ?_
 refine Runs.sA 1 [.code (C_26 510),.code (C_26 511)] ?_
 exact Runs.sW hE _ [] (kp [9,11]) (kq [0]) 1 [] trivial (g_slices_choosePivotOrdered_int_J2_ok N rmedianOrdere.2 rmedianOrdere.1 _ h E hE)
theorem g_slices_choosePivotOrdered_int_ok (N:Nat) (data:List Int) (a:Int) (b:Int) (r:Int×Int) (h:g_slices_choosePivotOrdered_int N data a b=some r):Sound Try.prog 87 [(encL cI 0 data),(aI a),(aI b)] [] 0 (.tup [(aI r.1),(aI r.2)]) []:=by
 unfold g_slices_choosePivotOrdered_int at h
 refine Sound.of_runs (fu:=Try.f87) (c:=C_26 1) (nt:=57) (by kernel_rfl) (by kernel_rfl) (by kernel_rfl) (by kernel_rfl) (fun hm=>rfl) ?_
 intro E hE
 refine Runs.sA 1 [.code (C_26 2),.code (C_26 3)] ?_
 refine Runs.sR hE ⟨[(0,(encL cI 0 data)),(1,(aI a)),(2,(aI b))],[],32⟩ (C_26 2) [] [] (kp [0,1,2]) [] 32 [] trivial ?_
 refine Runs.sA 1 [.code (C_26 6),.code (C_26 7)] ?_
 refine Runs.sR hE ⟨[(0,(encL cI 0 data)),(1,(aI a)),(8,(aI (w64 (b - a))))],[],96⟩ (C_26 6) [] [] (kp [0,1,8]) [] 96 [] trivial ?_
 refine Runs.sA 1 [.code (C_26 14),.code (C_26 15)] ?_
 refine Runs.sR hE ⟨[(0,(encL cI 0 data)),(1,(aI a)),(8,(aI (w64 (b - a)))),(9,(.op 96 0 0))],[(96,vO 1 [(aI 0)])],112⟩ (C_26 14) [] [] (kp [0,1,8,9]) (kq [96]) 112 [] trivial ?_
 refine Runs.sA 1 [.code (C_26 30),.code (C_26 31)] ?_
 refine Runs.sR hE ⟨[(0,(encL cI 0 data)),(1,(aI a)),(8,(aI (w64 (b - a)))),(9,(.op 96 0 0)),(10,(aI (w64 (a+(w64 ((w64 ((w64 (b - a)).tdiv 4)) * 1))))))],[(96,vO 1 [(aI 0)])],208⟩ (C_26 30) [] [] (kp [0,1,8,9,10]) (kq [96]) 208 [(4:Int)≠0] ⟨(by decide),trivial⟩ ?_
 refine Runs.sA 1 [.code (C_26 62),.code (C_26 63)] ?_
 refine Runs.sR hE ⟨[(0,(encL cI 0 data)),(1,(aI a)),(8,(aI (w64 (b - a)))),(9,(.op 96 0 0)),(10,(aI (w64 (a+(w64 ((w64 ((w64 (b - a)).tdiv 4)) * 1)))))),(11,(aI (w64 (a+(w64 ((w64 ((w64 (b - a)).tdiv 4)) * 2))))))],[(96,vO 1 [(aI 0)])],304⟩ (C_26 62) [] [] (kp [0,1,8,9,10,11]) (kq [96]) 304 [(4:Int)≠0] ⟨(by decide),trivial⟩ ?_
 refine Runs.sA 1 [.code (C_26 126),.code (C_26 127)] ?_
 refine Runs.sR hE ⟨[(0,(encL cI 0 data)),(8,(aI (w64 (b - a)))),(9,(.op 96 0 0)),(10,(aI (w64 (a+(w64 ((w64 ((w64 (b - a)).tdiv 4)) * 1)))))),(11,(aI (w64 (a+(w64 ((w64 ((w64 (b - a)).tdiv 4)) * 2)))))),(12,(aI (w64 (a+(w64 ((w64 ((w64 (b - a)).tdiv 4)) * 3))))))],[(96,vO 1 [(aI 0)])],400⟩ (C_26 126) [] [] (kp [0,8,9,10,11,12]) (kq [96]) 400 [(4:Int)≠0] ⟨(by decide),trivial⟩ ?_
 refine Runs.sA 2 [.code (C_26 508),.code (C_26 509),.code (C_26 255)] ?_
 refine Runs.sR hE ⟨[(0,(encL cI 0 data)),(8,(aI (w64 (b - a)))),(9,(.op 96 0 0)),(10,(aI (w64 (a+(w64 ((w64 ((w64 (b - a)).tdiv 4)) * 1)))))),(11,(aI (w64 (a+(w64 ((w64 ((w64 (b - a)).tdiv 4)) * 2)))))),(12,(aI (w64 (a+(w64 ((w64 ((w64 (b - a)).tdiv 4)) * 3)))))),(32,(aB (decide ((w64 (b - a))≥8))))],[(96,vO 1 [(aI 0)])],432⟩ (C_26 508) [] [] (kp [0,8,9,10,11,12,32]) (kq [96]) 432 [] trivial ?_
 refine Runs.sC 32 (C_26 1018) (C_26 1019) (decide ((w64 (b - a))≥8)) (fun hq2=>?_) (fun hq2=>?_)
 ·have h:=condT h hq2
  refine Runs.sA 2 [.code (C_26 4072),.code (C_26 4073),.code (C_26 2037),.code (C_26 255)] ?_
  refine Runs.sR hE ⟨[(0,(encL cI 0 data)),(9,(.op 96 0 0)),(10,(aI (w64 (a+(w64 ((w64 ((w64 (b - a)).tdiv 4)) * 1)))))),(11,(aI (w64 (a+(w64 ((w64 ((w64 (b - a)).tdiv 4)) * 2)))))),(12,(aI (w64 (a+(w64 ((w64 ((w64 (b - a)).tdiv 4)) * 3)))))),(34,(aB (decide ((w64 (b - a))≥50))))],[(96,vO 1 [(aI 0)])],464⟩ (C_26 4072) [] [] (kp [0,9,10,11,12,34]) (kq [96]) 464 [] trivial ?_
  refine Runs.sC 34 (C_26 8146) (C_26 8147) (decide ((w64 (b - a))≥50)) (fun hq3=>?_) (fun hq3=>?_)
  ·have h:=condT h hq3
   refine Runs.sA 1 [.code (C_26 16292),.code (C_26 16293),.code (C_26 2037),.code (C_26 255)] ?_
   obtain ⟨rmedianAdjace,hr,h⟩:=bindSome h
   refine Runs.sR hE ⟨[(0,(encL cI 0 data)),(9,(.op 96 0 0)),(10,(aI rmedianAdjace.1)),(11,(aI (w64 (a+(w64 ((w64 ((w64 (b - a)).tdiv 4)) * 2)))))),(12,(aI (w64 (a+(w64 ((w64 ((w64 (b - a)).tdiv 4)) * 3))))))],[(96,vO 1 [(aI rmedianAdjace.2)])],528⟩ (C_26 16292) [(2,⟨[96],false,(aI rmedianAdjace.1),[(0,vO 1 [(aI rmedianAdjace.2)])],0,false,none⟩)] [] (kp [0,9,10,11,12]) (kq [96]) 528 [Sound Try.prog 105 [(encL cI 0 data),(aI (w64 (a+(w64 ((w64 ((w64 (b - a)).tdiv 4)) * 1))))),(.op 0 0 0)] [(0,vO 1 [(aI 0)])] 1 (aI rmedianAdjace.1) [(0,vO 1 [(aI rmedianAdjace.2)])]] ⟨(g_slices_medianAdjacentOrdered_int_ok N data (w64 (a+(w64 ((w64 ((w64 (b - a)).tdiv 4)) * 1)))) 0 rmedianAdjace hr),trivial⟩ ?_
   refine Runs.sA 1 [.code (C_26 32586),.code (C_26 32587),.code (C_26 2037),.code (C_26 255)] ?_
   obtain ⟨rmedianAdjace2,hr2,h⟩:=bindSome h
   refine Runs.sR hE ⟨[(0,(encL cI 0 data)),(9,(.op 96 0 0)),(10,(aI rmedianAdjace.1)),(11,(aI rmedianAdjace2.1)),(12,(aI (w64 (a+(w64 ((w64 ((w64 (b - a)).tdiv 4)) * 3))))))],[(96,vO 1 [(aI rmedianAdjace2.2)])],592⟩ (C_26 32586) [(2,⟨[96],false,(aI rmedianAdjace2.1),[(0,vO 1 [(aI rmedianAdjace2.2)])],0,false,none⟩)] [] (kp [0,9,10,11,12]) (kq [96]) 592 [Sound Try.prog 105 [(encL cI 0 data),(aI (w64 (a+(w64 ((w64 ((w64 (b - a)).tdiv 4)) * 2))))),(.op 0 0 0)] [(0,vO 1 [(aI rmedianAdjace.2)])] 1 (aI rmedianAdjace2.1) [(0,vO 1 [(aI rmedianAdjace2.2)])]] ⟨(g_slices_medianAdjacentOrdered_int_ok N data (w64 (a+(w64 ((w64 ((w64 (b - a)).tdiv 4)) * 2)))) rmedianAdjace.2 rmedianAdjace2 hr2),trivial⟩ ?_
   obtain ⟨rmedianAdjace3,hr3,h⟩:=bindSome h
   refine Runs.sR hE ⟨[(0,(encL cI 0 data)),(9,(.op 96 0 0)),(10,(aI rmedianAdjace.1)),(11,(aI rmedianAdjace2.1)),(12,(aI rmedianAdjace3.1))],[(96,vO 1 [(aI rmedianAdjace3.2)])],656⟩ (C_26 32587) [(2,⟨[96],false,(aI rmedianAdjace3.1),[(0,vO 1 [(aI rmedianAdjace3.2)])],0,false,none⟩)] [] (kp [0,9,10,11,12]) (kq [96]) 656 [Sound Try.prog 105 [(encL cI 0 data),(aI (w64 (a+(w64 ((w64 ((w64 (b - a)).tdiv 4)) * 3))))),(.op 0 0 0)] [(0,vO 1 [(aI rmedianAdjace2.2)])] 1 (aI rmedianAdjace3.1) [(0,vO 1 [(aI rmedianAdjace3.2)])]] ⟨(g_slices_medianAdjacentOrdered_int_ok N data (w64 (a+(w64 ((w64 ((w64 (b - a)).tdiv 4)) * 3)))) rmedianAdjace2.2 rmedianAdjace3 hr3),trivial⟩ ?_
   exact Runs.sW hE _ [] (kp [0,9,10,11,12]) [(0,.keep 96)] 1 [] trivial (g_slices_choosePivotOrdered_int_J1_ok N data rmedianAdjace3.2 rmedianAdjace.1 rmedianAdjace2.1 rmedianAdjace3.1 _ h E hE)
  ·have h:=condF h hq3
   refine Runs.sA 1 [.code (C_26 2037),.code (C_26 255)] ?_
   exact Runs.sW hE _ [] (kp [0,9,10,11,12]) [(0,.keep 96)] 1 [] trivial (g_slices_choosePivotOrdered_int_J1_ok N data 0 (w64 (a+(w64 ((w64 ((w64 (b - a)).tdiv 4)) * 1)))) (w64 (a+(w64 ((w64 ((w64 (b - a)).tdiv 4)) * 2)))) (w64 (a+(w64 ((w64 ((w64 (b - a)).tdiv 4)) * 3)))) _ h E hE)
 ·have h:=condF h hq2
  refine Runs.sA 2 [.code (C_26 510),.code (C_26 511)] ?_
  exact Runs.sW hE _ [] (kp [9,11]) [(0,.keep 96)] 1 [] trivial (g_slices_choosePivotOrdered_int_J2_ok N 0 (w64 (a+(w64 ((w64 ((w64 (b - a)).tdiv 4)) * 2)))) _ h E hE)
noncomputable def C_30 (n:Nat):Code:=cat (bodyOf Try.f88) (pth n)
theorem g_slices_reverseRangeOrdered_int_L1_ok (N:Nat) (fuel:Nat):∀ (cap02:List Int) (i:Int) (j:Int) (r:(List Int)),g_slices_reverseRangeOrdered_int_L1 N fuel cap02 i j=some r→∀ E,EnvOk E 1→Runs Try.prog E 88 32 (SPost E [(0,aO 1 cI 0 r)] (.tup [])) [.code (C_30 28),.inLoop (C_30 28),.inBlock 0] ⟨[(0,(.os 0 0 cap02.length)),(6,(aI i)),(7,(aI j))],[(0,aO 1 cI 0 cap02)],1⟩:=by
 induction fuel with
 | zero=>intro _ _ _ r h;rw [g_slices_reverseRangeOrdered_int_L1.eq_1] at h;cases h
 | succ fuel ih =>
  intro cap02 i j r h E hE
  rw [g_slices_reverseRangeOrdered_int_L1.eq_2] at h
  refine Runs.sA 2 [.code (C_30 112),.code (C_30 113),.code (C_30 57),.inLoop (C_30 28),.inBlock 0] ?_
  refine Runs.sR hE ⟨[(0,(.os 0 0 cap02.length)),(6,(aI i)),(7,(aI j)),(13,(aB (decide (i < j))))],[(0,aO 1 cI 0 cap02)],49⟩ (C_30 112) [] [] (kp [0,6,7,13]) (kq [0]) 49 [] trivial ?_
  refine Runs.sC 13 (C_30 226) (C_30 227) (decide (i < j)) (fun hq2=>?_) (fun hq2=>?_)
  ·have h:=condT h hq2
   refine Runs.sA 3 [.code (C_30 228),.code (C_30 229),.inBlock 1,.inLoop (C_30 28),.inBlock 0] ?_
   obtain ⟨c,h⟩:=ifSome h
   obtain ⟨c2,h⟩:=ifSome h
   refine Runs.sR hE ⟨[(0,(.os 0 0 (((cap02.set ((i).toNat) (cap02.getD ((j).toNat) 0)).set ((j).toNat) (cap02.getD ((i).toNat) 0)).length))),(6,(aI i)),(7,(aI j))],[(0,aO 1 cI 0 ((cap02.set ((i).toNat) (cap02.getD ((j).toNat) 0)).set ((j).toNat) (cap02.getD ((i).toNat) 0)))],305⟩ (C_30 228) [] [] ([(0,.osl (((cap02.set ((i).toNat) (cap02.getD ((j).toNat) 0)).set ((j).toNat) (cap02.getD ((i).toNat) 0)).length))] ++ kp [6,7]) [(0,.arr 0 (((cap02.set ((i).toNat) (cap02.getD ((j).toNat) 0)).set ((j).toNat) (cap02.getD ((i).toNat) 0)).length) (fun zi=>cI (((cap02.set ((i).toNat) (cap02.getD ((j).toNat) 0)).set ((j).toNat) (cap02.getD ((i).toNat) 0)).getD zi 0)))] 305 [0≤j∧j < ((cap02.length:Nat):Int),(j).toNat < cap02.length,0≤i∧i < ((cap02.length:Nat):Int),(i).toNat < cap02.length,0≤i∧i < ((cap02.length:Nat):Int),(i).toNat < cap02.length,0≤j∧j < ((cap02.length:Nat):Int),(j).toNat < cap02.length,cap02.length=((cap02.set ((i).toNat) (cap02.getD ((j).toNat) 0)).set ((j).toNat) (cap02.getD ((i).toNat) 0)).length,cap02.length=((cap02.set ((i).toNat) (cap02.getD ((j).toNat) 0)).set ((j).toNat) (cap02.getD ((i).toNat) 0)).length,∀ zi,zi < ((cap02.set ((i).toNat) (cap02.getD ((j).toNat) 0)).set ((j).toNat) (cap02.getD ((i).toNat) 0)).length→(fun zi=>cI (((cap02.set ((i).toNat) (cap02.getD ((j).toNat) 0)).set ((j).toNat) (cap02.getD ((i).toNat) 0)).getD zi 0)) zi=((fun zm=>if zm=(j).toNat then [(aI (cap02.getD ((i).toNat) 0))] else ((fun zm=>if zm=(i).toNat then [(aI (cap02.getD ((j).toNat) 0))] else (fun zi=>cI (cap02.getD zi 0)) zm)) zm)) zi] ⟨c,(ltOf c),c2,(ltOf c2),c2,(ltOf c2),c,(ltOf c),(len_set_raw (len_set_raw rfl)),(len_set_raw (len_set_raw rfl)),(get_set_raw cI 0 (cap02.set ((i).toNat) (cap02.getD ((j).toNat) 0)) ((j).toNat) (cap02.getD ((i).toNat) 0) (get_set_raw cI 0 cap02 ((i).toNat) (cap02.getD ((j).toNat) 0) (fun _ _=>rfl))),trivial⟩ ?_
   refine Runs.sA 1 [.code (C_30 458),.code (C_30 459),.inBlock 1,.inLoop (C_30 28),.inBlock 0] ?_
   refine Runs.sR hE ⟨[(0,(.os 0 0 (((cap02.set ((i).toNat) (cap02.getD ((j).toNat) 0)).set ((j).toNat) (cap02.getD ((i).toNat) 0)).length))),(6,(aI (w64 (i+1)))),(7,(aI j))],[(0,aO 1 cI 0 ((cap02.set ((i).toNat) (cap02.getD ((j).toNat) 0)).set ((j).toNat) (cap02.getD ((i).toNat) 0)))],353⟩ (C_30 458) [] [] (kp [0,6,7]) (kq [0]) 353 [] trivial ?_
   refine Runs.sR hE ⟨[(0,(.os 0 0 (((cap02.set ((i).toNat) (cap02.getD ((j).toNat) 0)).set ((j).toNat) (cap02.getD ((i).toNat) 0)).length))),(6,(aI (w64 (i+1)))),(7,(aI (w64 (j - 1))))],[(0,aO 1 cI 0 ((cap02.set ((i).toNat) (cap02.getD ((j).toNat) 0)).set ((j).toNat) (cap02.getD ((i).toNat) 0)))],401⟩ (C_30 459) [] [] (kp [0,6,7]) (kq [0]) 401 [] trivial ?_
   refine Runs.sA 2 [.code (C_30 28),.inLoop (C_30 28),.inBlock 0] ?_
   exact Runs.sW hE _ [] (kp [0,6,7]) (kq [0]) 1 [] trivial (ih ((cap02.set ((i).toNat) (cap02.getD ((j).toNat) 0)).set ((j).toNat) (cap02.getD ((i).toNat) 0)) (w64 (i+1)) (w64 (j - 1)) _ h E hE)
  ·have h:=condF h hq2
   refine Runs.sA 1 [] ?_
   obtain rfl:=Option.some.inj h
   refine Runs.sW hE ⟨[],[(0,aO 1 cI 0 cap02)],49⟩ [] [] (kq [0]) 49 [] trivial ?_
   exact Runs.sF Try.f88 [] [] trivial
theorem g_slices_reverseRangeOrdered_int_ok (N:Nat) (a:Int) (b:Int) (cap0:List Int) (r:(List Int)) (h:g_slices_reverseRangeOrdered_int N a b cap0=some r):Sound Try.prog 88 [(.os 0 0 cap0.length),(aI a),(aI b)] [(0,aO 1 cI 0 cap0)] 1 (.tup []) [(0,aO 1 cI 0 r)]:=by
 unfold g_slices_reverseRangeOrdered_int at h
 refine Sound.of_runs (fu:=Try.f88) (c:=C_30 1) (nt:=32) (by kernel_rfl) (by kernel_rfl) (by kernel_rfl) (by kernel_rfl) (fun hm=>absurd hm (by decide)) ?_
 intro E hE
 refine Runs.sA 1 [.code (C_30 2),.code (C_30 3)] ?_
 refine Runs.sR hE ⟨[(0,(.os 0 0 cap0.length)),(2,(aI b)),(6,(aI a))],[(0,aO 1 cI 0 cap0)],33⟩ (C_30 2) [] [] (kp [0,2,6]) (kq [0]) 33 [] trivial ?_
 refine Runs.sA 1 [.code (C_30 6),.code (C_30 7)] ?_
 refine Runs.sR hE ⟨[(0,(.os 0 0 cap0.length)),(6,(aI a)),(7,(aI (w64 (b - 1))))],[(0,aO 1 cI 0 cap0)],81⟩ (C_30 6) [] [] (kp [0,6,7]) (kq [0]) 81 [] trivial ?_
 refine Runs.sA 2 [.code (C_30 28),.inLoop (C_30 28),.inBlock 0] ?_
 exact Runs.sW hE _ [] (kp [0,6,7]) (kq [0]) 1 [] trivial (g_slices_reverseRangeOrdered_int_L1_ok N N cap0 a (w64 (b - 1)) _ h E hE)
noncomputable def C_31 (n:Nat):Code:=cat (bodyOf Try.f89) (pth n)
theorem g_slices_partialInsertionSortOrdered_int_J6_ok (N:Nat) (a:Int) (b:Int) (j:Int) (i2:Int) (K_g_slices_partialInsertionSortOrdered_int_L1:(List Int)→Int→Int→Option (Bool×(List Int)))
  (hK_g_slices_partialInsertionSortOrdered_int_L1:∀ (cap02:List Int) (i:Int) (j:Int) (r:Bool×(List Int)),K_g_slices_partialInsertionSortOrdered_int_L1 cap02 i j=some r→∀ E,EnvOk E 1→Runs Try.prog E 89 133 (SPost E [(0,aO 1 cI 0 r.2)] (aB r.1)) [.code (C_31 116),.inLoop (C_31 116),.inBlock 0,.code (C_31 15)] ⟨[(0,(.os 0 0 cap02.length)),(1,(aI a)),(2,(aI b)),(7,(aI i)),(8,(aI j))],[(0,aO 1 cI 0 cap02)],1⟩) (cap06:List Int) (r:Bool×(List Int)) (h:g_slices_partialInsertionSortOrdered_int_J6 N a b j i2 K_g_slices_partialInsertionSortOrdered_int_L1 cap06=some r):∀ E,EnvOk E 1→Runs Try.prog E 89 133 (SPost E [(0,aO 1 cI 0 r.2)] (aB r.1)) [.code (C_31 467),.inLoop (C_31 116),.inBlock 0,.code (C_31 15)] ⟨[(0,(.os 0 0 cap06.length)),(1,(aI a)),(2,(aI b)),(7,(aI i2)),(8,(aI j))],[(0,aO 1 cI 0 cap06)],1⟩:=by
 intro E hE
 unfold g_slices_partialInsertionSortOrdered_int_J6 at h
 refine Runs.sR hE ⟨[(0,(.os 0 0 cap06.length)),(1,(aI a)),(2,(aI b)),(7,(aI i2)),(8,(aI (w64 (j+1))))],[(0,aO 1 cI 0 cap06)],49⟩ (C_31 467) [] [] (kp [0,1,2,7,8]) (kq [0]) 49 [] trivial ?_
 refine Runs.sA 1 [.code (C_31 116),.inLoop (C_31 116),.inBlock 0,.code (C_31 15)] ?_
 exact Runs.sW hE _ [] (kp [0,1,2,7,8]) (kq [0]) 1 [] trivial (hK_g_slices_partialInsertionSortOrdered_int_L1 cap06 i2 (w64 (j+1)) _ h E hE)
theorem g_slices_partialInsertionSortOrdered_int_L5_ok (N:Nat) (a:Int) (b:Int) (j:Int) (i2:Int) (K_g_slices_partialInsertionSortOrdered_int_L1:(List Int)→Int→Int→Option (Bool×(List Int)))
  (hK_g_slices_partialInsertionSortOrdered_int_L1:∀ (cap02:List Int) (i:Int) (j:Int) (r:Bool×(List Int)),K_g_slices_partialInsertionSortOrdered_int_L1 cap02 i j=some r→∀ E,EnvOk E 1→Runs Try.prog E 89 133 (SPost E [(0,aO 1 cI 0 r.2)] (aB r.1)) [.code (C_31 116),.inLoop (C_31 116),.inBlock 0,.code (C_31 15)] ⟨[(0,(.os 0 0 cap02.length)),(1,(aI a)),(2,(aI b)),(7,(aI i)),(8,(aI j))],[(0,aO 1 cI 0 cap02)],1⟩) (fuel:Nat):∀ (cap05:List Int) (j3:Int) (r:Bool×(List Int)),g_slices_partialInsertionSortOrdered_int_L5 N a b j i2 K_g_slices_partialInsertionSortOrdered_int_L1 fuel cap05 j3=some r→∀ E,EnvOk E 1→Runs Try.prog E 89 133 (SPost E [(0,aO 1 cI 0 r.2)] (aB r.1)) [.code (C_31 955380),.inLoop (C_31 955380),.inBlock 6,.inBlock 1,.code (C_31 467),.inLoop (C_31 116),.inBlock 0,.code (C_31 15)] ⟨[(0,(.os 0 0 cap05.length)),(1,(aI a)),(2,(aI b)),(7,(aI i2)),(8,(aI j)),(10,(aI j3))],[(0,aO 1 cI 0 cap05)],1⟩:=by
 induction fuel with
 | zero=>intro _ _ r h;rw [g_slices_partialInsertionSortOrdered_int_L5.eq_1] at h;cases h
 | succ fuel ih =>
  intro cap05 j3 r h E hE
  rw [g_slices_partialInsertionSortOrdered_int_L5.eq_2] at h
  refine Runs.sA 2 [.code (C_31 3821520),.code (C_31 3821521),.code (C_31 1910761),.inLoop (C_31 955380),.inBlock 6,.inBlock 1,.code (C_31 467),.inLoop (C_31 116),.inBlock 0,.code (C_31 15)] ?_
  refine Runs.sR hE ⟨[(0,(.os 0 0 cap05.length)),(1,(aI a)),(2,(aI b)),(7,(aI i2)),(8,(aI j)),(10,(aI j3)),(103,(aB (decide (j3 < b))))],[(0,aO 1 cI 0 cap05)],49⟩ (C_31 3821520) [] [] (kp [0,1,2,7,8,10,103]) (kq [0]) 49 [] trivial ?_
  refine Runs.sC 103 (C_31 7643042) (C_31 7643043) (decide (j3 < b)) (fun hq10=>?_) (fun hq10=>?_)
  ·have h:=condT h hq10
   refine Runs.sA 5 [.code (C_31 30572176),.code (C_31 30572177),.code (C_31 15286089),.inBlock 7,.code (C_31 3821523),.inLoop (C_31 955380),.inBlock 6,.inBlock 1,.code (C_31 467),.inLoop (C_31 116),.inBlock 0,.code (C_31 15)] ?_
   obtain ⟨c7,h⟩:=ifSome h
   obtain ⟨c8,h⟩:=ifSome h
   obtain ⟨rLess3,hr3,h⟩:=bindSome h
   refine Runs.sR hE ⟨[(0,(.os 0 0 cap05.length)),(1,(aI a)),(2,(aI b)),(7,(aI i2)),(8,(aI j)),(10,(aI j3)),(116,(aB (!rLess3)))],[(0,aO 1 cI 0 cap05)],225⟩ (C_31 30572176) [(9,⟨[],true,(aB rLess3),[],0,false,none⟩)] [] (kp [0,1,2,7,8,10,116]) (kq [0]) 225 [0≤j3∧j3 < ((cap05.length:Nat):Int),(j3).toNat < cap05.length,0≤(w64 (j3 - 1))∧(w64 (j3 - 1)) < ((cap05.length:Nat):Int),(w64 (j3 - 1)).toNat < cap05.length,Sound Try.prog 90 [(aI (cap05.getD ((j3).toNat) 0)),(aI (cap05.getD ((w64 (j3 - 1)).toNat) 0))] [] 0 (aB rLess3) []] ⟨c7,(ltOf c7),c8,(ltOf c8),(g_cmp_Less_int_ok N (cap05.getD ((j3).toNat) 0) (cap05.getD ((w64 (j3 - 1)).toNat) 0) rLess3 hr3),trivial⟩ ?_
   refine Runs.sC 116 (C_31 61144354) (C_31 61144355) (!rLess3) (fun hq11=>?_) (fun hq11=>?_)
   ·have h:=condT h hq11
    refine Runs.sA 2 [.code (C_31 467),.inLoop (C_31 116),.inBlock 0,.code (C_31 15)] ?_
    exact Runs.sW hE _ [] (kp [0,1,2,7,8]) (kq [0]) 1 [] trivial (g_slices_partialInsertionSortOrdered_int_J6_ok N a b j i2 K_g_slices_partialInsertionSortOrdered_int_L1 hK_g_slices_partialInsertionSortOrdered_int_L1 cap05 _ h E hE)
   ·have h:=condF h hq11
    refine Runs.sA 1 [.code (C_31 15286089),.inBlock 7,.code (C_31 3821523),.inLoop (C_31 955380),.inBlock 6,.inBlock 1,.code (C_31 467),.inLoop (C_31 116),.inBlock 0,.code (C_31 15)] ?_
    refine Runs.sR hE ⟨[(0,(.os 0 0 (((cap05.set ((j3).toNat) (cap05.getD ((w64 (j3 - 1)).toNat) 0)).set ((w64 (j3 - 1)).toNat) (cap05.getD ((j3).toNat) 0)).length))),(1,(aI a)),(2,(aI b)),(7,(aI i2)),(8,(aI j)),(10,(aI j3))],[(0,aO 1 cI 0 ((cap05.set ((j3).toNat) (cap05.getD ((w64 (j3 - 1)).toNat) 0)).set ((w64 (j3 - 1)).toNat) (cap05.getD ((j3).toNat) 0)))],513⟩ (C_31 15286089) [] [] ([(0,.osl (((cap05.set ((j3).toNat) (cap05.getD ((w64 (j3 - 1)).toNat) 0)).set ((w64 (j3 - 1)).toNat) (cap05.getD ((j3).toNat) 0)).length))] ++ kp [1,2,7,8,10]) [(0,.arr 0 (((cap05.set ((j3).toNat) (cap05.getD ((w64 (j3 - 1)).toNat) 0)).set ((w64 (j3 - 1)).toNat) (cap05.getD ((j3).toNat) 0)).length) (fun zi=>cI (((cap05.set ((j3).toNat) (cap05.getD ((w64 (j3 - 1)).toNat) 0)).set ((w64 (j3 - 1)).toNat) (cap05.getD ((j3).toNat) 0)).getD zi 0)))] 513 [0≤(w64 (j3 - 1))∧(w64 (j3 - 1)) < ((cap05.length:Nat):Int),(w64 (j3 - 1)).toNat < cap05.length,0≤j3∧j3 < ((cap05.length:Nat):Int),(j3).toNat < cap05.length,0≤j3∧j3 < ((cap05.length:Nat):Int),(j3).toNat < cap05.length,0≤(w64 (j3 - 1))∧(w64 (j3 - 1)) < ((cap05.length:Nat):Int),(w64 (j3 - 1)).toNat < cap05.length,cap05.length=((cap05.set ((j3).toNat) (cap05.getD ((w64 (j3 - 1)).toNat) 0)).set ((w64 (j3 - 1)).toNat) (cap05.getD ((j3).toNat) 0)).length,cap05.length=((cap05.set ((j3).toNat) (cap05.getD ((w64 (j3 - 1)).toNat) 0)).set ((w64 (j3 - 1)).toNat) (cap05.getD ((j3).toNat) 0)).length,∀ zi,zi < ((cap05.set ((j3).toNat) (cap05.getD ((w64 (j3 - 1)).toNat) 0)).set ((w64 (j3 - 1)).toNat) (cap05.getD ((j3).toNat) 0)).length→(fun zi=>cI (((cap05.set ((j3).toNat) (cap05.getD ((w64 (j3 - 1)).toNat) 0)).set ((w64 (j3 - 1)).toNat) (cap05.getD ((j3).toNat) 0)).getD zi 0)) zi=((fun zm=>if zm=(w64 (j3 - 1)).toNat then [(aI (cap05.getD ((j3).toNat) 0))] else ((fun zm=>if zm=(j3).toNat then [(aI (cap05.getD ((w64 (j3 - 1)).toNat) 0))] else (fun zi=>cI (cap05.getD zi 0)) zm)) zm)) zi] ⟨c8,(ltOf c8),c7,(ltOf c7),c7,(ltOf c7),c8,(ltOf c8),(len_set_raw (len_set_raw rfl)),(len_set_raw (len_set_raw rfl)),(get_set_raw cI 0 (cap05.set ((j3).toNat) (cap05.getD ((w64 (j3 - 1)).toNat) 0)) ((w64 (j3 - 1)).toNat) (cap05.getD ((j3).toNat) 0) (get_set_raw cI 0 cap05 ((j3).toNat) (cap05.getD ((w64 (j3 - 1)).toNat) 0) (fun _ _=>rfl))),trivial⟩ ?_
    refine Runs.sA 1 [.code (C_31 3821523),.inLoop (C_31 955380),.inBlock 6,.inBlock 1,.code (C_31 467),.inLoop (C_31 116),.inBlock 0,.code (C_31 15)] ?_
    refine Runs.sR hE ⟨[(0,(.os 0 0 (((cap05.set ((j3).toNat) (cap05.getD ((w64 (j3 - 1)).toNat) 0)).set ((w64 (j3 - 1)).toNat) (cap05.getD ((j3).toNat) 0)).length))),(1,(aI a)),(2,(aI b)),(7,(aI i2)),(8,(aI j)),(10,(aI (w64 (j3+1))))],[(0,aO 1 cI 0 ((cap05.set ((j3).toNat) (cap05.getD ((w64 (j3 - 1)).toNat) 0)).set ((w64 (j3 - 1)).toNat) (cap05.getD ((j3).toNat) 0)))],561⟩ (C_31 3821523) [] [] (kp [0,1,2,7,8,10]) (kq [0]) 561 [] trivial ?_
    refine Runs.sA 1 [.code (C_31 955380),.inLoop (C_31 955380),.inBlock 6,.inBlock 1,.code (C_31 467),.inLoop (C_31 116),.inBlock 0,.code (C_31 15)] ?_
    exact Runs.sW hE _ [] (kp [0,1,2,7,8,10]) (kq [0]) 1 [] trivial (ih ((cap05.set ((j3).toNat) (cap05.getD ((w64 (j3 - 1)).toNat) 0)).set ((w64 (j3 - 1)).toNat) (cap05.getD ((j3).toNat) 0)) (w64 (j3+1)) _ h E hE)
  ·have h:=condF h hq10
   refine Runs.sA 2 [.code (C_31 467),.inLoop (C_31 116),.inBlock 0,.code (C_31 15)] ?_
   exact Runs.sW hE _ [] (kp [0,1,2,7,8]) (kq [0]) 1 [] trivial (g_slices_partialInsertionSortOrdered_int_J6_ok N a b j i2 K_g_slices_partialInsertionSortOrdered_int_L1 hK_g_slices_partialInsertionSortOrdered_int_L1 cap05 _ h E hE)
theorem g_slices_partialInsertionSortOrdered_int_J4_ok (N:Nat) (a:Int) (b:Int) (j:Int) (i2:Int) (K_g_slices_partialInsertionSortOrdered_int_L1:(List Int)→Int→Int→Option (Bool×(List Int)))
  (hK_g_slices_partialInsertionSortOrdered_int_L1:∀ (cap02:List Int) (i:Int) (j:Int) (r:Bool×(List Int)),K_g_slices_partialInsertionSortOrdered_int_L1 cap02 i j=some r→∀ E,EnvOk E 1→Runs Try.prog E 89 133 (SPost E [(0,aO 1 cI 0 r.2)] (aB r.1)) [.code (C_31 116),.inLoop (C_31 116),.inBlock 0,.code (C_31 15)] ⟨[(0,(.os 0 0 cap02.length)),(1,(aI a)),(2,(aI b)),(7,(aI i)),(8,(aI j))],[(0,aO 1 cI 0 cap02)],1⟩) (cap04:List Int) (r:Bool×(List Int)) (h:g_slices_partialInsertionSortOrdered_int_J4 N a b j i2 K_g_slices_partialInsertionSortOrdered_int_L1 cap04=some r):∀ E,EnvOk E 1→Runs Try.prog E 89 133 (SPost E [(0,aO 1 cI 0 r.2)] (aB r.1)) [.code (C_31 59710),.code (C_31 59711),.inBlock 1,.code (C_31 467),.inLoop (C_31 116),.inBlock 0,.code (C_31 15)] ⟨[(0,(.os 0 0 cap04.length)),(1,(aI a)),(2,(aI b)),(7,(aI i2)),(8,(aI j))],[(0,aO 1 cI 0 cap04)],1⟩:=by
 intro E hE
 unfold g_slices_partialInsertionSortOrdered_int_J4 at h
 refine Runs.sR hE ⟨[(0,(.os 0 0 cap04.length)),(1,(aI a)),(2,(aI b)),(7,(aI i2)),(8,(aI j)),(98,(aB (decide ((w64 (b - i2))≥2))))],[(0,aO 1 cI 0 cap04)],65⟩ (C_31 59710) [] [] (kp [0,1,2,7,8,98]) (kq [0]) 65 [] trivial ?_
 refine Runs.sC 98 (C_31 119422) (C_31 119423) (decide ((w64 (b - i2))≥2)) (fun hq9=>?_) (fun hq9=>?_)
 ·have h:=condT h hq9
  refine Runs.sA 1 [.code (C_31 238844),.code (C_31 238845),.inBlock 1,.code (C_31 467),.inLoop (C_31 116),.inBlock 0,.code (C_31 15)] ?_
  refine Runs.sR hE ⟨[(0,(.os 0 0 cap04.length)),(1,(aI a)),(2,(aI b)),(7,(aI i2)),(8,(aI j)),(10,(aI (w64 (i2+1))))],[(0,aO 1 cI 0 cap04)],113⟩ (C_31 238844) [] [] (kp [0,1,2,7,8,10]) (kq [0]) 113 [] trivial ?_
  refine Runs.sA 2 [.code (C_31 955380),.inLoop (C_31 955380),.inBlock 6,.inBlock 1,.code (C_31 467),.inLoop (C_31 116),.inBlock 0,.code (C_31 15)] ?_
  exact Runs.sW hE _ [] (kp [0,1,2,7,8,10]) (kq [0]) 1 [] trivial (g_slices_partialInsertionSortOrdered_int_L5_ok N a b j i2 K_g_slices_partialInsertionSortOrdered_int_L1 hK_g_slices_partialInsertionSortOrdered_int_L1 N cap04 (w64 (i2+1)) _ h E hE)
 ·have h:=condF h hq9
  refine Runs.sA 2 [.code (C_31 467),.inLoop (C_31 116),.inBlock 0,.code (C_31 15)] ?_
  exact Runs.sW hE _ [] (kp [0,1,2,7,8]) (kq [0]) 1 [] trivial (g_slices_partialInsertionSortOrdered_int_J6_ok N a b j i2 K_g_slices_partialInsertionSortOrdered_int_L1 hK_g_slices_partialInsertionSortOrdered_int_L1 cap04 _ h E hE)
theorem g_slices_partialInsertionSortOrdered_int_L3_ok (N:Nat) (a:Int) (b:Int) (j:Int) (i2:Int) (K_g_slices_partialInsertionSortOrdered_int_L1:(List Int)→Int→Int→Option (Bool×(List Int)))
  (hK_g_slices_partialInsertionSortOrdered_int_L1:∀ (cap02:List Int) (i:Int) (j:Int) (r:Bool×(List Int)),K_g_slices_partialInsertionSortOrdered_int_L1 cap02 i j=some r→∀ E,EnvOk E 1→Runs Try.prog E 89 133 (SPost E [(0,aO 1 cI 0 r.2)] (aB r.1)) [.code (C_31 116),.inLoop (C_31 116),.inBlock 0,.code (C_31 15)] ⟨[(0,(.os 0 0 cap02.length)),(1,(aI a)),(2,(aI b)),(7,(aI i)),(8,(aI j))],[(0,aO 1 cI 0 cap02)],1⟩) (fuel:Nat):∀ (cap03:List Int) (j2:Int) (r:Bool×(List Int)),g_slices_partialInsertionSortOrdered_int_L3 N a b j i2 K_g_slices_partialInsertionSortOrdered_int_L1 fuel cap03 j2=some r→∀ E,EnvOk E 1→Runs Try.prog E 89 133 (SPost E [(0,aO 1 cI 0 r.2)] (aB r.1)) [.code (C_31 955348),.inLoop (C_31 955348),.inBlock 4,.code (C_31 29855),.inBlock 1,.code (C_31 467),.inLoop (C_31 116),.inBlock 0,.code (C_31 15)] ⟨[(0,(.os 0 0 cap03.length)),(1,(aI a)),(2,(aI b)),(7,(aI i2)),(8,(aI j)),(9,(aI j2))],[(0,aO 1 cI 0 cap03)],1⟩:=by
 induction fuel with
 | zero=>intro _ _ r h;rw [g_slices_partialInsertionSortOrdered_int_L3.eq_1] at h;cases h
 | succ fuel ih =>
  intro cap03 j2 r h E hE
  rw [g_slices_partialInsertionSortOrdered_int_L3.eq_2] at h
  refine Runs.sA 2 [.code (C_31 3821392),.code (C_31 3821393),.code (C_31 1910697),.inLoop (C_31 955348),.inBlock 4,.code (C_31 29855),.inBlock 1,.code (C_31 467),.inLoop (C_31 116),.inBlock 0,.code (C_31 15)] ?_
  refine Runs.sR hE ⟨[(0,(.os 0 0 cap03.length)),(1,(aI a)),(2,(aI b)),(7,(aI i2)),(8,(aI j)),(9,(aI j2)),(65,(aB (decide (j2≥1))))],[(0,aO 1 cI 0 cap03)],33⟩ (C_31 3821392) [] [] (kp [0,1,2,7,8,9,65]) (kq [0]) 33 [] trivial ?_
  refine Runs.sC 65 (C_31 7642786) (C_31 7642787) (decide (j2≥1)) (fun hq7=>?_) (fun hq7=>?_)
  ·have h:=condT h hq7
   refine Runs.sA 5 [.code (C_31 30571152),.code (C_31 30571153),.code (C_31 15285577),.inBlock 5,.code (C_31 3821395),.inLoop (C_31 955348),.inBlock 4,.code (C_31 29855),.inBlock 1,.code (C_31 467),.inLoop (C_31 116),.inBlock 0,.code (C_31 15)] ?_
   obtain ⟨c5,h⟩:=ifSome h
   obtain ⟨c6,h⟩:=ifSome h
   obtain ⟨rLess2,hr2,h⟩:=bindSome h
   refine Runs.sR hE ⟨[(0,(.os 0 0 cap03.length)),(1,(aI a)),(2,(aI b)),(7,(aI i2)),(8,(aI j)),(9,(aI j2)),(78,(aB (!rLess2)))],[(0,aO 1 cI 0 cap03)],209⟩ (C_31 30571152) [(9,⟨[],true,(aB rLess2),[],0,false,none⟩)] [] (kp [0,1,2,7,8,9,78]) (kq [0]) 209 [0≤j2∧j2 < ((cap03.length:Nat):Int),(j2).toNat < cap03.length,0≤(w64 (j2 - 1))∧(w64 (j2 - 1)) < ((cap03.length:Nat):Int),(w64 (j2 - 1)).toNat < cap03.length,Sound Try.prog 90 [(aI (cap03.getD ((j2).toNat) 0)),(aI (cap03.getD ((w64 (j2 - 1)).toNat) 0))] [] 0 (aB rLess2) []] ⟨c5,(ltOf c5),c6,(ltOf c6),(g_cmp_Less_int_ok N (cap03.getD ((j2).toNat) 0) (cap03.getD ((w64 (j2 - 1)).toNat) 0) rLess2 hr2),trivial⟩ ?_
   refine Runs.sC 78 (C_31 61142306) (C_31 61142307) (!rLess2) (fun hq8=>?_) (fun hq8=>?_)
   ·have h:=condT h hq8
    refine Runs.sA 2 [.code (C_31 59710),.code (C_31 59711),.inBlock 1,.code (C_31 467),.inLoop (C_31 116),.inBlock 0,.code (C_31 15)] ?_
    exact Runs.sW hE _ [] (kp [0,1,2,7,8]) (kq [0]) 1 [] trivial (g_slices_partialInsertionSortOrdered_int_J4_ok N a b j i2 K_g_slices_partialInsertionSortOrdered_int_L1 hK_g_slices_partialInsertionSortOrdered_int_L1 cap03 _ h E hE)
   ·have h:=condF h hq8
    refine Runs.sA 1 [.code (C_31 15285577),.inBlock 5,.code (C_31 3821395),.inLoop (C_31 955348),.inBlock 4,.code (C_31 29855),.inBlock 1,.code (C_31 467),.inLoop (C_31 116),.inBlock 0,.code (C_31 15)] ?_
    refine Runs.sR hE ⟨[(0,(.os 0 0 (((cap03.set ((j2).toNat) (cap03.getD ((w64 (j2 - 1)).toNat) 0)).set ((w64 (j2 - 1)).toNat) (cap03.getD ((j2).toNat) 0)).length))),(1,(aI a)),(2,(aI b)),(7,(aI i2)),(8,(aI j)),(9,(aI j2))],[(0,aO 1 cI 0 ((cap03.set ((j2).toNat) (cap03.getD ((w64 (j2 - 1)).toNat) 0)).set ((w64 (j2 - 1)).toNat) (cap03.getD ((j2).toNat) 0)))],497⟩ (C_31 15285577) [] [] ([(0,.osl (((cap03.set ((j2).toNat) (cap03.getD ((w64 (j2 - 1)).toNat) 0)).set ((w64 (j2 - 1)).toNat) (cap03.getD ((j2).toNat) 0)).length))] ++ kp [1,2,7,8,9]) [(0,.arr 0 (((cap03.set ((j2).toNat) (cap03.getD ((w64 (j2 - 1)).toNat) 0)).set ((w64 (j2 - 1)).toNat) (cap03.getD ((j2).toNat) 0)).length) (fun zi=>cI (((cap03.set ((j2).toNat) (cap03.getD ((w64 (j2 - 1)).toNat) 0)).set ((w64 (j2 - 1)).toNat) (cap03.getD ((j2).toNat) 0)).getD zi 0)))] 497 [0≤(w64 (j2 - 1))∧(w64 (j2 - 1)) < ((cap03.length:Nat):Int),(w64 (j2 - 1)).toNat < cap03.length,0≤j2∧j2 < ((cap03.length:Nat):Int),(j2).toNat < cap03.length,0≤j2∧j2 < ((cap03.length:Nat):Int),(j2).toNat < cap03.length,0≤(w64 (j2 - 1))∧(w64 (j2 - 1)) < ((cap03.length:Nat):Int),(w64 (j2 - 1)).toNat < cap03.length,cap03.length=((cap03.set ((j2).toNat) (cap03.getD ((w64 (j2 - 1)).toNat) 0)).set ((w64 (j2 - 1)).toNat) (cap03.getD ((j2).toNat) 0)).length,cap03.length=((cap03.set ((j2).toNat) (cap03.getD ((w64 (j2 - 1)).toNat) 0)).set ((w64 (j2 - 1)).toNat) (cap03.getD ((j2).toNat) 0)).length,∀ zi,zi < ((cap03.set ((j2).toNat) (cap03.getD ((w64 (j2 - 1)).toNat) 0)).set ((w64 (j2 - 1)).toNat) (cap03.getD ((j2).toNat) 0)).length→(fun zi=>cI (((cap03.set ((j2).toNat) (cap03.getD ((w64 (j2 - 1)).toNat) 0)).set ((w64 (j2 - 1)).toNat) (cap03.getD ((j2).toNat) 0)).getD zi 0)) zi=((fun zm=>if zm=(w64 (j2 - 1)).toNat then [(aI (cap03.getD ((j2).toNat) 0))] else ((fun zm=>if zm=(j2).toNat then [(aI (cap03.getD ((w64 (j2 - 1)).toNat) 0))] else (fun zi=>cI (cap03.getD zi 0)) zm)) zm)) zi] ⟨c6,(ltOf c6),c5,(ltOf c5),c5,(ltOf c5),c6,(ltOf c6),(len_set_raw (len_set_raw rfl)),(len_set_raw (len_set_raw rfl)),(get_set_raw cI 0 (cap03.set ((j2).toNat) (cap03.getD ((w64 (j2 - 1)).toNat) 0)) ((w64 (j2 - 1)).toNat) (cap03.getD ((j2).toNat) 0) (get_set_raw cI 0 cap03 ((j2).toNat) (cap03.getD ((w64 (j2 - 1)).toNat) 0) (fun _ _=>rfl))),trivial⟩ ?_
    refine Runs.sA 1 [.code (C_31 3821395),.inLoop (C_31 955348),.inBlock 4,.code (C_31 29855),.inBlock 1,.code (C_31 467),.inLoop (C_31 116),.inBlock 0,.code (C_31 15)] ?_
    refine Runs.sR hE ⟨[(0,(.os 0 0 (((cap03.set ((j2).toNat) (cap03.getD ((w64 (j2 - 1)).toNat) 0)).set ((w64 (j2 - 1)).toNat) (cap03.getD ((j2).toNat) 0)).length))),(1,(aI a)),(2,(aI b)),(7,(aI i2)),(8,(aI j)),(9,(aI (w64 (j2 - 1))))],[(0,aO 1 cI 0 ((cap03.set ((j2).toNat) (cap03.getD ((w64 (j2 - 1)).toNat) 0)).set ((w64 (j2 - 1)).toNat) (cap03.getD ((j2).toNat) 0)))],545⟩ (C_31 3821395) [] [] (kp [0,1,2,7,8,9]) (kq [0]) 545 [] trivial ?_
    refine Runs.sA 1 [.code (C_31 955348),.inLoop (C_31 955348),.inBlock 4,.code (C_31 29855),.inBlock 1,.code (C_31 467),.inLoop (C_31 116),.inBlock 0,.code (C_31 15)] ?_
    exact Runs.sW hE _ [] (kp [0,1,2,7,8,9]) (kq [0]) 1 [] trivial (ih ((cap03.set ((j2).toNat) (cap03.getD ((w64 (j2 - 1)).toNat) 0)).set ((w64 (j2 - 1)).toNat) (cap03.getD ((j2).toNat) 0)) (w64 (j2 - 1)) _ h E hE)
  ·have h:=condF h hq7
   refine Runs.sA 2 [.code (C_31 59710),.code (C_31 59711),.inBlock 1,.code (C_31 467),.inLoop (C_31 116),.inBlock 0,.code (C_31 15)] ?_
   exact Runs.sW hE _ [] (kp [0,1,2,7,8]) (kq [0]) 1 [] trivial (g_slices_partialInsertionSortOrdered_int_J4_ok N a b j i2 K_g_slices_partialInsertionSortOrdered_int_L1 hK_g_slices_partialInsertionSortOrdered_int_L1 cap03 _ h E hE)
theorem g_slices_partialInsertionSortOrdered_int_L2_ok (N:Nat) (a:Int) (b:Int) (cap02:List Int) (j:Int) (K_g_slices_partialInsertionSortOrdered_int_L1:(List Int)→Int→Int→Option (Bool×(List Int)))
  (hK_g_slices_partialInsertionSortOrdered_int_L1:∀ (cap02:List Int) (i:Int) (j:Int) (r:Bool×(List Int)),K_g_slices_partialInsertionSortOrdered_int_L1 cap02 i j=some r→∀ E,EnvOk E 1→Runs Try.prog E 89 133 (SPost E [(0,aO 1 cI 0 r.2)] (aB r.1)) [.code (C_31 116),.inLoop (C_31 116),.inBlock 0,.code (C_31 15)] ⟨[(0,(.os 0 0 cap02.length)),(1,(aI a)),(2,(aI b)),(7,(aI i)),(8,(aI j))],[(0,aO 1 cI 0 cap02)],1⟩) (fuel:Nat):∀ (i2:Int) (r:Bool×(List Int)),g_slices_partialInsertionSortOrdered_int_L2 N a b cap02 j K_g_slices_partialInsertionSortOrdered_int_L1 fuel i2=some r→∀ E,EnvOk E 1→Runs Try.prog E 89 133 (SPost E [(0,aO 1 cI 0 r.2)] (aB r.1)) [.code (C_31 7456),.inLoop (C_31 7456),.inBlock 2,.code (C_31 1865),.inBlock 1,.code (C_31 467),.inLoop (C_31 116),.inBlock 0,.code (C_31 15)] ⟨[(0,(.os 0 0 cap02.length)),(1,(aI a)),(2,(aI b)),(7,(aI i2)),(8,(aI j))],[(0,aO 1 cI 0 cap02)],1⟩:=by
 induction fuel with
 | zero=>intro _ r h;rw [g_slices_partialInsertionSortOrdered_int_L2.eq_1] at h;cases h
 | succ fuel ih =>
  intro i2 r h E hE
  rw [g_slices_partialInsertionSortOrdered_int_L2.eq_2] at h
  refine Runs.sA 2 [.code (C_31 29824),.code (C_31 29825),.code (C_31 14913),.inLoop (C_31 7456),.inBlock 2,.code (C_31 1865),.inBlock 1,.code (C_31 467),.inLoop (C_31 116),.inBlock 0,.code (C_31 15)] ?_
  obtain ⟨c,h⟩:=ifSome h
  obtain ⟨c2,h⟩:=ifSome h
  obtain ⟨rLess,hr,h⟩:=bindSome h
  refine Runs.sR hE ⟨[(0,(.os 0 0 cap02.length)),(1,(aI a)),(2,(aI b)),(7,(aI i2)),(8,(aI j)),(32,(aB (cond (decide (i2 < b)) (!rLess) false)))],[(0,aO 1 cI 0 cap02)],257⟩ (C_31 29824) [(13,⟨[],true,(aB rLess),[],0,false,none⟩)] [] (kp [0,1,2,7,8,32]) (kq [0]) 257 [(decide (i2 < b))=true→AllP [(decide (i2 < b))=true,(decide (i2 < b))=true,0≤i2∧i2 < ((cap02.length:Nat):Int)],(decide (i2 < b))=true→AllP [(decide (i2 < b))=true,(i2).toNat < cap02.length],(decide (i2 < b))=true→AllP [(decide (i2 < b))=true],(decide (i2 < b))=true→AllP [(decide (i2 < b))=true,(decide (i2 < b))=true,0≤(w64 (i2 - 1))∧(w64 (i2 - 1)) < ((cap02.length:Nat):Int)],(decide (i2 < b))=true→AllP [(decide (i2 < b))=true,(w64 (i2 - 1)).toNat < cap02.length],(decide (i2 < b))=true→AllP [Sound Try.prog 90 [(aI (cap02.getD ((i2).toNat) 0)),(aI (cap02.getD ((w64 (i2 - 1)).toNat) 0))] [] 0 (aB rLess) [],(decide (i2 < b))=true,(decide (i2 < b))=true],(decide (i2 < b))=true→AllP [(decide (i2 < b))=true],(decide (i2 < b))=true→AllP [(decide (i2 < b))=true]] ⟨(fun hg=>⟨hg,hg,(c hg),trivial⟩),(fun hg=>⟨hg,(ltOf (c hg)),trivial⟩),(fun hg=>⟨hg,trivial⟩),(fun hg=>⟨hg,hg,(c2 hg),trivial⟩),(fun hg=>⟨hg,(ltOf (c2 hg)),trivial⟩),(fun hg=>⟨(g_cmp_Less_int_ok N (cap02.getD ((i2).toNat) 0) (cap02.getD ((w64 (i2 - 1)).toNat) 0) rLess (condT hr hg)),hg,hg,trivial⟩),(fun hg=>⟨hg,trivial⟩),(fun hq=>⟨hq,trivial⟩),trivial⟩ ?_
  refine Runs.sC 32 (C_31 59650) (C_31 59651) (cond (decide (i2 < b)) (!rLess) false) (fun hq3=>?_) (fun hq3=>?_)
  ·have h:=condT h hq3
   refine Runs.sA 2 [.code (C_31 29826),.inBlock 3,.inLoop (C_31 7456),.inBlock 2,.code (C_31 1865),.inBlock 1,.code (C_31 467),.inLoop (C_31 116),.inBlock 0,.code (C_31 15)] ?_
   refine Runs.sR hE ⟨[(0,(.os 0 0 cap02.length)),(1,(aI a)),(2,(aI b)),(7,(aI (w64 (i2+1)))),(8,(aI j))],[(0,aO 1 cI 0 cap02)],305⟩ (C_31 29826) [] [] (kp [0,1,2,7,8]) (kq [0]) 305 [] trivial ?_
   refine Runs.sA 2 [.code (C_31 7456),.inLoop (C_31 7456),.inBlock 2,.code (C_31 1865),.inBlock 1,.code (C_31 467),.inLoop (C_31 116),.inBlock 0,.code (C_31 15)] ?_
   exact Runs.sW hE _ [] (kp [0,1,2,7,8]) (kq [0]) 1 [] trivial (ih (w64 (i2+1)) _ h E hE)
  ·have h:=condF h hq3
   refine Runs.sA 3 [.code (C_31 7460),.code (C_31 7461),.code (C_31 3731),.inBlock 1,.code (C_31 467),.inLoop (C_31 116),.inBlock 0,.code (C_31 15)] ?_
   refine Runs.sR hE ⟨[(0,(.os 0 0 cap02.length)),(1,(aI a)),(2,(aI b)),(7,(aI i2)),(8,(aI j)),(37,(aB (i2 == b)))],[(0,aO 1 cI 0 cap02)],305⟩ (C_31 7460) [] [] (kp [0,1,2,7,8,37]) (kq [0]) 305 [] trivial ?_
   refine Runs.sC 37 (C_31 14922) (C_31 14923) (i2 == b) (fun hq4=>?_) (fun hq4=>?_)
   ·have h:=condT h hq4
    refine Runs.sA 1 [.code (C_31 29844),.code (C_31 29845),.code (C_31 3731),.inBlock 1,.code (C_31 467),.inLoop (C_31 116),.inBlock 0,.code (C_31 15)] ?_
    refine Runs.sR hE ⟨[(6,(aB true))],[(0,aO 1 cI 0 cap02)],321⟩ (C_31 29844) [] [] (kp [6]) (kq [0]) 321 [] trivial ?_
    obtain rfl:=Option.some.inj h
    refine Runs.sW hE ⟨[(6,(aB true))],[(0,aO 1 cI 0 cap02)],321⟩ [] (kp [6]) (kq [0]) 321 [] trivial ?_
    exact Runs.sT Try.f89 [] [] trivial
   ·have h:=condF h hq4
    refine Runs.sA 3 [.code (C_31 14924),.code (C_31 14925),.code (C_31 7463),.inBlock 1,.code (C_31 467),.inLoop (C_31 116),.inBlock 0,.code (C_31 15)] ?_
    refine Runs.sR hE ⟨[(0,(.os 0 0 cap02.length)),(1,(aI a)),(2,(aI b)),(7,(aI i2)),(8,(aI j)),(41,(aB (decide ((w64 (b - a)) < 50))))],[(0,aO 1 cI 0 cap02)],369⟩ (C_31 14924) [] [] (kp [0,1,2,7,8,41]) (kq [0]) 369 [] trivial ?_
    refine Runs.sC 41 (C_31 29850) (C_31 29851) (decide ((w64 (b - a)) < 50)) (fun hq5=>?_) (fun hq5=>?_)
    ·have h:=condT h hq5
     refine Runs.sA 1 [.code (C_31 59700),.code (C_31 59701),.code (C_31 7463),.inBlock 1,.code (C_31 467),.inLoop (C_31 116),.inBlock 0,.code (C_31 15)] ?_
     refine Runs.sR hE ⟨[(6,(aB false))],[(0,aO 1 cI 0 cap02)],385⟩ (C_31 59700) [] [] (kp [6]) (kq [0]) 385 [] trivial ?_
     obtain rfl:=Option.some.inj h
     refine Runs.sW hE ⟨[(6,(aB false))],[(0,aO 1 cI 0 cap02)],385⟩ [] (kp [6]) (kq [0]) 385 [] trivial ?_
     exact Runs.sT Try.f89 [] [] trivial
    ·have h:=condF h hq5
     refine Runs.sA 2 [.code (C_31 14926),.code (C_31 14927),.inBlock 1,.code (C_31 467),.inLoop (C_31 116),.inBlock 0,.code (C_31 15)] ?_
     obtain ⟨c3,h⟩:=ifSome h
     obtain ⟨c4,h⟩:=ifSome h
     refine Runs.sR hE ⟨[(0,(.os 0 0 (((cap02.set ((i2).toNat) (cap02.getD ((w64 (i2 - 1)).toNat) 0)).set ((w64 (i2 - 1)).toNat) (cap02.getD ((i2).toNat) 0)).length))),(1,(aI a)),(2,(aI b)),(7,(aI i2)),(8,(aI j))],[(0,aO 1 cI 0 ((cap02.set ((i2).toNat) (cap02.getD ((w64 (i2 - 1)).toNat) 0)).set ((w64 (i2 - 1)).toNat) (cap02.getD ((i2).toNat) 0)))],657⟩ (C_31 14926) [] [] ([(0,.osl (((cap02.set ((i2).toNat) (cap02.getD ((w64 (i2 - 1)).toNat) 0)).set ((w64 (i2 - 1)).toNat) (cap02.getD ((i2).toNat) 0)).length))] ++ kp [1,2,7,8]) [(0,.arr 0 (((cap02.set ((i2).toNat) (cap02.getD ((w64 (i2 - 1)).toNat) 0)).set ((w64 (i2 - 1)).toNat) (cap02.getD ((i2).toNat) 0)).length) (fun zi=>cI (((cap02.set ((i2).toNat) (cap02.getD ((w64 (i2 - 1)).toNat) 0)).set ((w64 (i2 - 1)).toNat) (cap02.getD ((i2).toNat) 0)).getD zi 0)))] 657 [0≤(w64 (i2 - 1))∧(w64 (i2 - 1)) < ((cap02.length:Nat):Int),(w64 (i2 - 1)).toNat < cap02.length,0≤i2∧i2 < ((cap02.length:Nat):Int),(i2).toNat < cap02.length,0≤i2∧i2 < ((cap02.length:Nat):Int),(i2).toNat < cap02.length,0≤(w64 (i2 - 1))∧(w64 (i2 - 1)) < ((cap02.length:Nat):Int),(w64 (i2 - 1)).toNat < cap02.length,cap02.length=((cap02.set ((i2).toNat) (cap02.getD ((w64 (i2 - 1)).toNat) 0)).set ((w64 (i2 - 1)).toNat) (cap02.getD ((i2).toNat) 0)).length,cap02.length=((cap02.set ((i2).toNat) (cap02.getD ((w64 (i2 - 1)).toNat) 0)).set ((w64 (i2 - 1)).toNat) (cap02.getD ((i2).toNat) 0)).length,∀ zi,zi < ((cap02.set ((i2).toNat) (cap02.getD ((w64 (i2 - 1)).toNat) 0)).set ((w64 (i2 - 1)).toNat) (cap02.getD ((i2).toNat) 0)).length→(fun zi=>cI (((cap02.set ((i2).toNat) (cap02.getD ((w64 (i2 - 1)).toNat) 0)).set ((w64 (i2 - 1)).toNat) (cap02.getD ((i2).toNat) 0)).getD zi 0)) zi=((fun zm=>if zm=(w64 (i2 - 1)).toNat then [(aI (cap02.getD ((i2).toNat) 0))] else ((fun zm=>if zm=(i2).toNat then [(aI (cap02.getD ((w64 (i2 - 1)).toNat) 0))] else (fun zi=>cI (cap02.getD zi 0)) zm)) zm)) zi] ⟨c3,(ltOf c3),c4,(ltOf c4),c4,(ltOf c4),c3,(ltOf c3),(len_set_raw (len_set_raw rfl)),(len_set_raw (len_set_raw rfl)),(get_set_raw cI 0 (cap02.set ((i2).toNat) (cap02.getD ((w64 (i2 - 1)).toNat) 0)) ((w64 (i2 - 1)).toNat) (cap02.getD ((i2).toNat) 0) (get_set_raw cI 0 cap02 ((i2).toNat) (cap02.getD ((w64 (i2 - 1)).toNat) 0) (fun _ _=>rfl))),trivial⟩ ?_
     refine Runs.sA 2 [.code (C_31 59708),.code (C_31 59709),.code (C_31 29855),.inBlock 1,.code (C_31 467),.inLoop (C_31 116),.inBlock 0,.code (C_31 15)] ?_
     refine Runs.sR hE ⟨[(0,(.os 0 0 (((cap02.set ((i2).toNat) (cap02.getD ((w64 (i2 - 1)).toNat) 0)).set ((w64 (i2 - 1)).toNat) (cap02.getD ((i2).toNat) 0)).length))),(1,(aI a)),(2,(aI b)),(7,(aI i2)),(8,(aI j)),(61,(aB (decide ((w64 (i2 - a))≥2))))],[(0,aO 1 cI 0 ((cap02.set ((i2).toNat) (cap02.getD ((w64 (i2 - 1)).toNat) 0)).set ((w64 (i2 - 1)).toNat) (cap02.getD ((i2).toNat) 0)))],721⟩ (C_31 59708) [] [] (kp [0,1,2,7,8,61]) (kq [0]) 721 [] trivial ?_
     refine Runs.sC 61 (C_31 119418) (C_31 119419) (decide ((w64 (i2 - a))≥2)) (fun hq6=>?_) (fun hq6=>?_)
     ·have h:=condT h hq6
      refine Runs.sA 1 [.code (C_31 238836),.code (C_31 238837),.code (C_31 29855),.inBlock 1,.code (C_31 467),.inLoop (C_31 116),.inBlock 0,.code (C_31 15)] ?_
      refine Runs.sR hE ⟨[(0,(.os 0 0 (((cap02.set ((i2).toNat) (cap02.getD ((w64 (i2 - 1)).toNat) 0)).set ((w64 (i2 - 1)).toNat) (cap02.getD ((i2).toNat) 0)).length))),(1,(aI a)),(2,(aI b)),(7,(aI i2)),(8,(aI j)),(9,(aI (w64 (i2 - 1))))],[(0,aO 1 cI 0 ((cap02.set ((i2).toNat) (cap02.getD ((w64 (i2 - 1)).toNat) 0)).set ((w64 (i2 - 1)).toNat) (cap02.getD ((i2).toNat) 0)))],769⟩ (C_31 238836) [] [] (kp [0,1,2,7,8,9]) (kq [0]) 769 [] trivial ?_
      refine Runs.sA 2 [.code (C_31 955348),.inLoop (C_31 955348),.inBlock 4,.code (C_31 29855),.inBlock 1,.code (C_31 467),.inLoop (C_31 116),.inBlock 0,.code (C_31 15)] ?_
      exact Runs.sW hE _ [] (kp [0,1,2,7,8,9]) (kq [0]) 1 [] trivial (g_slices_partialInsertionSortOrdered_int_L3_ok N a b j i2 K_g_slices_partialInsertionSortOrdered_int_L1 hK_g_slices_partialInsertionSortOrdered_int_L1 N ((cap02.set ((i2).toNat) (cap02.getD ((w64 (i2 - 1)).toNat) 0)).set ((w64 (i2 - 1)).toNat) (cap02.getD ((i2).toNat) 0)) (w64 (i2 - 1)) _ h E hE)
     ·have h:=condF h hq6
      refine Runs.sA 2 [.code (C_31 59710),.code (C_31 59711),.inBlock 1,.code (C_31 467),.inLoop (C_31 116),.inBlock 0,.code (C_31 15)] ?_
      exact Runs.sW hE _ [] (kp [0,1,2,7,8]) (kq [0]) 1 [] trivial (g_slices_partialInsertionSortOrdered_int_J4_ok N a b j i2 K_g_slices_partialInsertionSortOrdered_int_L1 hK_g_slices_partialInsertionSortOrdered_int_L1 ((cap02.set ((i2).toNat) (cap02.getD ((w64 (i2 - 1)).toNat) 0)).set ((w64 (i2 - 1)).toNat) (cap02.getD ((i2).toNat) 0)) _ h E hE)
theorem g_slices_partialInsertionSortOrdered_int_L1_ok (N:Nat) (a:Int) (b:Int) (fuel:Nat):∀ (cap02:List Int) (i:Int) (j:Int) (r:Bool×(List Int)),g_slices_partialInsertionSortOrdered_int_L1 N a b fuel cap02 i j=some r→∀ E,EnvOk E 1→Runs Try.prog E 89 133 (SPost E [(0,aO 1 cI 0 r.2)] (aB r.1)) [.code (C_31 116),.inLoop (C_31 116),.inBlock 0,.code (C_31 15)] ⟨[(0,(.os 0 0 cap02.length)),(1,(aI a)),(2,(aI b)),(7,(aI i)),(8,(aI j))],[(0,aO 1 cI 0 cap02)],1⟩:=by
 induction fuel with
 | zero=>intro _ _ _ r h;rw [g_slices_partialInsertionSortOrdered_int_L1.eq_1] at h;cases h
 | succ fuel ih =>
  intro cap02 i j r h E hE
  rw [g_slices_partialInsertionSortOrdered_int_L1.eq_2] at h
  refine Runs.sA 2 [.code (C_31 464),.code (C_31 465),.code (C_31 233),.inLoop (C_31 116),.inBlock 0,.code (C_31 15)] ?_
  refine Runs.sR hE ⟨[(0,(.os 0 0 cap02.length)),(1,(aI a)),(2,(aI b)),(7,(aI i)),(8,(aI j)),(14,(aB (decide (j < 5))))],[(0,aO 1 cI 0 cap02)],33⟩ (C_31 464) [] [] (kp [0,1,2,7,8,14]) (kq [0]) 33 [] trivial ?_
  refine Runs.sC 14 (C_31 930) (C_31 931) (decide (j < 5)) (fun hq2=>?_) (fun hq2=>?_)
  ·have h:=condT h hq2
   refine Runs.sA 6 [.code (C_31 7456),.inLoop (C_31 7456),.inBlock 2,.code (C_31 1865),.inBlock 1,.code (C_31 467),.inLoop (C_31 116),.inBlock 0,.code (C_31 15)] ?_
   exact Runs.sW hE _ [] (kp [0,1,2,7,8]) (kq [0]) 1 [] trivial (g_slices_partialInsertionSortOrdered_int_L2_ok N a b cap02 j (g_slices_partialInsertionSortOrdered_int_L1 N a b fuel) ih N i _ h E hE)
  ·have h:=condF h hq2
   refine Runs.sA 2 [.code (C_31 30),.code (C_31 31)] ?_
   refine Runs.sR hE ⟨[(6,(aB false))],[(0,aO 1 cI 0 cap02)],49⟩ (C_31 30) [] [] (kp [6]) (kq [0]) 49 [] trivial ?_
   obtain rfl:=Option.some.inj h
   refine Runs.sW hE ⟨[(6,(aB false))],[(0,aO 1 cI 0 cap02)],49⟩ [] (kp [6]) (kq [0]) 49 [] trivial ?_
   exact Runs.sT Try.f89 [] [] trivial
theorem g_slices_partialInsertionSortOrdered_int_ok (N:Nat) (a:Int) (b:Int) (cap0:List Int) (r:Bool×(List Int)) (h:g_slices_partialInsertionSortOrdered_int N a b cap0=some r):Sound Try.prog 89 [(.os 0 0 cap0.length),(aI a),(aI b)] [(0,aO 1 cI 0 cap0)] 1 (aB r.1) [(0,aO 1 cI 0 r.2)]:=by
 unfold g_slices_partialInsertionSortOrdered_int at h
 refine Sound.of_runs (fu:=Try.f89) (c:=C_31 1) (nt:=133) (by kernel_rfl) (by kernel_rfl) (by kernel_rfl) (by kernel_rfl) (fun hm=>absurd hm (by decide)) ?_
 intro E hE
 refine Runs.sA 1 [.code (C_31 2),.code (C_31 3)] ?_
 refine Runs.sR hE ⟨[(0,(.os 0 0 cap0.length)),(1,(aI a)),(2,(aI b))],[(0,aO 1 cI 0 cap0)],17⟩ (C_31 2) [] [] (kp [0,1,2]) (kq [0]) 17 [] trivial ?_
 refine Runs.sA 1 [.code (C_31 6),.code (C_31 7)] ?_
 refine Runs.sR hE ⟨[(0,(.os 0 0 cap0.length)),(1,(aI a)),(2,(aI b)),(7,(aI (w64 (a+1))))],[(0,aO 1 cI 0 cap0)],65⟩ (C_31 6) [] [] (kp [0,1,2,7]) (kq [0]) 65 [] trivial ?_
 refine Runs.sA 2 [.code (C_31 28),.code (C_31 29),.code (C_31 15)] ?_
 refine Runs.sR hE ⟨[(0,(.os 0 0 cap0.length)),(1,(aI a)),(2,(aI b)),(7,(aI (w64 (a+1)))),(8,(aI 0))],[(0,aO 1 cI 0 cap0)],81⟩ (C_31 28) [] [] (kp [0,1,2,7,8]) (kq [0]) 81 [] trivial ?_
 refine Runs.sA 2 [.code (C_31 116),.inLoop (C_31 116),.inBlock 0,.code (C_31 15)] ?_
 exact Runs.sW hE _ [] (kp [0,1,2,7,8]) (kq [0]) 1 [] trivial (g_slices_partialInsertionSortOrdered_int_L1_ok N a b N cap0 (w64 (a+1)) 0 _ h E hE)
noncomputable def C_32 (n:Nat):Code:=cat (bodyOf Try.f91) (pth n)
theorem g_slices_partitionEqualOrdered_int_L3_ok (N:Nat) (a:Int) (cap02:List Int) (i2:Int) (K_g_slices_partitionEqualOrdered_int_L1:(List Int)→Int→Int→Option (Int×(List Int)))
  (hK_g_slices_partitionEqualOrdered_int_L1:∀ (cap02:List Int) (i:Int) (j:Int) (r:Int×(List Int)),K_g_slices_partitionEqualOrdered_int_L1 cap02 i j=some r→∀ E,EnvOk E 1→Runs Try.prog E 91 84 (SPost E [(0,aO 1 cI 0 r.2)] (aI r.1)) [.code (C_32 120),.inLoop (C_32 120),.inBlock 0,.code (C_32 31)] ⟨[(0,(.os 0 0 cap02.length)),(1,(aI a)),(9,(aI i)),(10,(aI j))],[(0,aO 1 cI 0 cap02)],1⟩) (fuel:Nat):∀ (j2:Int) (r:Int×(List Int)),g_slices_partitionEqualOrdered_int_L3 N a cap02 i2 K_g_slices_partitionEqualOrdered_int_L1 fuel j2=some r→∀ E,EnvOk E 1→Runs Try.prog E 91 84 (SPost E [(0,aO 1 cI 0 r.2)] (aI r.1)) [.code (C_32 3848),.inLoop (C_32 3848),.inBlock 4,.code (C_32 963),.inBlock 1,.inLoop (C_32 120),.inBlock 0,.code (C_32 31)] ⟨[(0,(.os 0 0 cap02.length)),(1,(aI a)),(9,(aI i2)),(10,(aI j2))],[(0,aO 1 cI 0 cap02)],1⟩:=by
 induction fuel with
 | zero=>intro _ r h;rw [g_slices_partitionEqualOrdered_int_L3.eq_1] at h;cases h
 | succ fuel ih =>
  intro j2 r h E hE
  rw [g_slices_partitionEqualOrdered_int_L3.eq_2] at h
  refine Runs.sA 2 [.code (C_32 15392),.code (C_32 15393),.code (C_32 7697),.inLoop (C_32 3848),.inBlock 4,.code (C_32 963),.inBlock 1,.inLoop (C_32 120),.inBlock 0,.code (C_32 31)] ?_
  obtain ⟨c5,h⟩:=ifSome h
  obtain ⟨c6,h⟩:=ifSome h
  obtain ⟨rLess2,hr2,h⟩:=bindSome h
  refine Runs.sR hE ⟨[(0,(.os 0 0 cap02.length)),(1,(aI a)),(9,(aI i2)),(10,(aI j2)),(59,(aB (cond (decide (i2≤j2)) rLess2 false)))],[(0,aO 1 cI 0 cap02)],225⟩ (C_32 15392) [(12,⟨[],true,(aB rLess2),[],0,false,none⟩)] [] (kp [0,1,9,10,59]) (kq [0]) 225 [(decide (i2≤j2))=true→AllP [(decide (i2≤j2))=true,(decide (i2≤j2))=true,0≤a∧a < ((cap02.length:Nat):Int)],(decide (i2≤j2))=true→AllP [(decide (i2≤j2))=true,(a).toNat < cap02.length],(decide (i2≤j2))=true→AllP [(decide (i2≤j2))=true,(decide (i2≤j2))=true,0≤j2∧j2 < ((cap02.length:Nat):Int)],(decide (i2≤j2))=true→AllP [(decide (i2≤j2))=true,(j2).toNat < cap02.length],(decide (i2≤j2))=true→AllP [Sound Try.prog 90 [(aI (cap02.getD ((a).toNat) 0)),(aI (cap02.getD ((j2).toNat) 0))] [] 0 (aB rLess2) [],(decide (i2≤j2))=true,(decide (i2≤j2))=true],(decide (i2≤j2))=true→AllP [(decide (i2≤j2))=true]] ⟨(fun hg=>⟨hg,hg,(c5 hg),trivial⟩),(fun hg=>⟨hg,(ltOf (c5 hg)),trivial⟩),(fun hg=>⟨hg,hg,(c6 hg),trivial⟩),(fun hg=>⟨hg,(ltOf (c6 hg)),trivial⟩),(fun hg=>⟨(g_cmp_Less_int_ok N (cap02.getD ((a).toNat) 0) (cap02.getD ((j2).toNat) 0) rLess2 (condT hr2 hg)),hg,hg,trivial⟩),(fun hq=>⟨hq,trivial⟩),trivial⟩ ?_
  refine Runs.sC 59 (C_32 30786) (C_32 30787) (cond (decide (i2≤j2)) rLess2 false) (fun hq3=>?_) (fun hq3=>?_)
  ·have h:=condT h hq3
   refine Runs.sA 2 [.code (C_32 15394),.inBlock 5,.inLoop (C_32 3848),.inBlock 4,.code (C_32 963),.inBlock 1,.inLoop (C_32 120),.inBlock 0,.code (C_32 31)] ?_
   refine Runs.sR hE ⟨[(0,(.os 0 0 cap02.length)),(1,(aI a)),(9,(aI i2)),(10,(aI (w64 (j2 - 1))))],[(0,aO 1 cI 0 cap02)],273⟩ (C_32 15394) [] [] (kp [0,1,9,10]) (kq [0]) 273 [] trivial ?_
   refine Runs.sA 2 [.code (C_32 3848),.inLoop (C_32 3848),.inBlock 4,.code (C_32 963),.inBlock 1,.inLoop (C_32 120),.inBlock 0,.code (C_32 31)] ?_
   exact Runs.sW hE _ [] (kp [0,1,9,10]) (kq [0]) 1 [] trivial (ih (w64 (j2 - 1)) _ h E hE)
  ·have h:=condF h hq3
   refine Runs.sA 3 [.code (C_32 3852),.code (C_32 3853),.code (C_32 1927),.inBlock 1,.inLoop (C_32 120),.inBlock 0,.code (C_32 31)] ?_
   refine Runs.sR hE ⟨[(0,(.os 0 0 cap02.length)),(1,(aI a)),(9,(aI i2)),(10,(aI j2)),(64,(aB (decide (i2 > j2))))],[(0,aO 1 cI 0 cap02)],273⟩ (C_32 3852) [] [] (kp [0,1,9,10,64]) (kq [0]) 273 [] trivial ?_
   refine Runs.sC 64 (C_32 7706) (C_32 7707) (decide (i2 > j2)) (fun hq4=>?_) (fun hq4=>?_)
   ·have h:=condT h hq4
    refine Runs.sA 2 [.code (C_32 62),.code (C_32 63)] ?_
    refine Runs.sR hE ⟨[(8,(aI i2))],[(0,aO 1 cI 0 cap02)],305⟩ (C_32 62) [] [] (kp [8]) (kq [0]) 305 [] trivial ?_
    obtain rfl:=Option.some.inj h
    refine Runs.sW hE ⟨[(8,(aI i2))],[(0,aO 1 cI 0 cap02)],305⟩ [] (kp [8]) (kq [0]) 305 [] trivial ?_
    exact Runs.sT Try.f91 [] [] trivial
   ·have h:=condF h hq4
    refine Runs.sA 2 [.code (C_32 3854),.code (C_32 3855),.inBlock 1,.inLoop (C_32 120),.inBlock 0,.code (C_32 31)] ?_
    obtain ⟨c7,h⟩:=ifSome h
    obtain ⟨c8,h⟩:=ifSome h
    refine Runs.sR hE ⟨[(0,(.os 0 0 (((cap02.set ((i2).toNat) (cap02.getD ((j2).toNat) 0)).set ((j2).toNat) (cap02.getD ((i2).toNat) 0)).length))),(1,(aI a)),(9,(aI i2)),(10,(aI j2))],[(0,aO 1 cI 0 ((cap02.set ((i2).toNat) (cap02.getD ((j2).toNat) 0)).set ((j2).toNat) (cap02.getD ((i2).toNat) 0)))],529⟩ (C_32 3854) [] [] ([(0,.osl (((cap02.set ((i2).toNat) (cap02.getD ((j2).toNat) 0)).set ((j2).toNat) (cap02.getD ((i2).toNat) 0)).length))] ++ kp [1,9,10]) [(0,.arr 0 (((cap02.set ((i2).toNat) (cap02.getD ((j2).toNat) 0)).set ((j2).toNat) (cap02.getD ((i2).toNat) 0)).length) (fun zi=>cI (((cap02.set ((i2).toNat) (cap02.getD ((j2).toNat) 0)).set ((j2).toNat) (cap02.getD ((i2).toNat) 0)).getD zi 0)))] 529 [0≤j2∧j2 < ((cap02.length:Nat):Int),(j2).toNat < cap02.length,0≤i2∧i2 < ((cap02.length:Nat):Int),(i2).toNat < cap02.length,0≤i2∧i2 < ((cap02.length:Nat):Int),(i2).toNat < cap02.length,0≤j2∧j2 < ((cap02.length:Nat):Int),(j2).toNat < cap02.length,cap02.length=((cap02.set ((i2).toNat) (cap02.getD ((j2).toNat) 0)).set ((j2).toNat) (cap02.getD ((i2).toNat) 0)).length,cap02.length=((cap02.set ((i2).toNat) (cap02.getD ((j2).toNat) 0)).set ((j2).toNat) (cap02.getD ((i2).toNat) 0)).length,∀ zi,zi < ((cap02.set ((i2).toNat) (cap02.getD ((j2).toNat) 0)).set ((j2).toNat) (cap02.getD ((i2).toNat) 0)).length→(fun zi=>cI (((cap02.set ((i2).toNat) (cap02.getD ((j2).toNat) 0)).set ((j2).toNat) (cap02.getD ((i2).toNat) 0)).getD zi 0)) zi=((fun zm=>if zm=(j2).toNat then [(aI (cap02.getD ((i2).toNat) 0))] else ((fun zm=>if zm=(i2).toNat then [(aI (cap02.getD ((j2).toNat) 0))] else (fun zi=>cI (cap02.getD zi 0)) zm)) zm)) zi] ⟨c7,(ltOf c7),c8,(ltOf c8),c8,(ltOf c8),c7,(ltOf c7),(len_set_raw (len_set_raw rfl)),(len_set_raw (len_set_raw rfl)),(get_set_raw cI 0 (cap02.set ((i2).toNat) (cap02.getD ((j2).toNat) 0)) ((j2).toNat) (cap02.getD ((i2).toNat) 0) (get_set_raw cI 0 cap02 ((i2).toNat) (cap02.getD ((j2).toNat) 0) (fun _ _=>rfl))),trivial⟩ ?_
    refine Runs.sA 1 [.code (C_32 7710),.code (C_32 7711),.inBlock 1,.inLoop (C_32 120),.inBlock 0,.code (C_32 31)] ?_
    refine Runs.sR hE ⟨[(0,(.os 0 0 (((cap02.set ((i2).toNat) (cap02.getD ((j2).toNat) 0)).set ((j2).toNat) (cap02.getD ((i2).toNat) 0)).length))),(1,(aI a)),(9,(aI (w64 (i2+1)))),(10,(aI j2))],[(0,aO 1 cI 0 ((cap02.set ((i2).toNat) (cap02.getD ((j2).toNat) 0)).set ((j2).toNat) (cap02.getD ((i2).toNat) 0)))],577⟩ (C_32 7710) [] [] (kp [0,1,9,10]) (kq [0]) 577 [] trivial ?_
    refine Runs.sR hE ⟨[(0,(.os 0 0 (((cap02.set ((i2).toNat) (cap02.getD ((j2).toNat) 0)).set ((j2).toNat) (cap02.getD ((i2).toNat) 0)).length))),(1,(aI a)),(9,(aI (w64 (i2+1)))),(10,(aI (w64 (j2 - 1))))],[(0,aO 1 cI 0 ((cap02.set ((i2).toNat) (cap02.getD ((j2).toNat) 0)).set ((j2).toNat) (cap02.getD ((i2).toNat) 0)))],625⟩ (C_32 7711) [] [] (kp [0,1,9,10]) (kq [0]) 625 [] trivial ?_
    refine Runs.sA 2 [.code (C_32 120),.inLoop (C_32 120),.inBlock 0,.code (C_32 31)] ?_
    exact Runs.sW hE _ [] (kp [0,1,9,10]) (kq [0]) 1 [] trivial (hK_g_slices_partitionEqualOrdered_int_L1 ((cap02.set ((i2).toNat) (cap02.getD ((j2).toNat) 0)).set ((j2).toNat) (cap02.getD ((i2).toNat) 0)) (w64 (i2+1)) (w64 (j2 - 1)) _ h E hE)
theorem g_slices_partitionEqualOrdered_int_L2_ok (N:Nat) (a:Int) (cap02:List Int) (j:Int) (K_g_slices_partitionEqualOrdered_int_L1:(List Int)→Int→Int→Option (Int×(List Int)))
  (hK_g_slices_partitionEqualOrdered_int_L1:∀ (cap02:List Int) (i:Int) (j:Int) (r:Int×(List Int)),K_g_slices_partitionEqualOrdered_int_L1 cap02 i j=some r→∀ E,EnvOk E 1→Runs Try.prog E 91 84 (SPost E [(0,aO 1 cI 0 r.2)] (aI r.1)) [.code (C_32 120),.inLoop (C_32 120),.inBlock 0,.code (C_32 31)] ⟨[(0,(.os 0 0 cap02.length)),(1,(aI a)),(9,(aI i)),(10,(aI j))],[(0,aO 1 cI 0 cap02)],1⟩) (fuel:Nat):∀ (i2:Int) (r:Int×(List Int)),g_slices_partitionEqualOrdered_int_L2 N a cap02 j K_g_slices_partitionEqualOrdered_int_L1 fuel i2=some r→∀ E,EnvOk E 1→Runs Try.prog E 91 84 (SPost E [(0,aO 1 cI 0 r.2)] (aI r.1)) [.code (C_32 1920),.inLoop (C_32 1920),.inBlock 2,.code (C_32 481),.inBlock 1,.inLoop (C_32 120),.inBlock 0,.code (C_32 31)] ⟨[(0,(.os 0 0 cap02.length)),(1,(aI a)),(9,(aI i2)),(10,(aI j))],[(0,aO 1 cI 0 cap02)],1⟩:=by
 induction fuel with
 | zero=>intro _ r h;rw [g_slices_partitionEqualOrdered_int_L2.eq_1] at h;cases h
 | succ fuel ih =>
  intro i2 r h E hE
  rw [g_slices_partitionEqualOrdered_int_L2.eq_2] at h
  refine Runs.sA 2 [.code (C_32 7680),.code (C_32 7681),.code (C_32 3841),.inLoop (C_32 1920),.inBlock 2,.code (C_32 481),.inBlock 1,.inLoop (C_32 120),.inBlock 0,.code (C_32 31)] ?_
  obtain ⟨c3,h⟩:=ifSome h
  obtain ⟨c4,h⟩:=ifSome h
  obtain ⟨rLess,hr,h⟩:=bindSome h
  refine Runs.sR hE ⟨[(0,(.os 0 0 cap02.length)),(1,(aI a)),(9,(aI i2)),(10,(aI j)),(43,(aB (cond (decide (i2≤j)) (!rLess) false)))],[(0,aO 1 cI 0 cap02)],241⟩ (C_32 7680) [(12,⟨[],true,(aB rLess),[],0,false,none⟩)] [] (kp [0,1,9,10,43]) (kq [0]) 241 [(decide (i2≤j))=true→AllP [(decide (i2≤j))=true,(decide (i2≤j))=true,0≤a∧a < ((cap02.length:Nat):Int)],(decide (i2≤j))=true→AllP [(decide (i2≤j))=true,(a).toNat < cap02.length],(decide (i2≤j))=true→AllP [(decide (i2≤j))=true,(decide (i2≤j))=true,0≤i2∧i2 < ((cap02.length:Nat):Int)],(decide (i2≤j))=true→AllP [(decide (i2≤j))=true,(i2).toNat < cap02.length],(decide (i2≤j))=true→AllP [Sound Try.prog 90 [(aI (cap02.getD ((a).toNat) 0)),(aI (cap02.getD ((i2).toNat) 0))] [] 0 (aB rLess) [],(decide (i2≤j))=true,(decide (i2≤j))=true],(decide (i2≤j))=true→AllP [(decide (i2≤j))=true],(decide (i2≤j))=true→AllP [(decide (i2≤j))=true]] ⟨(fun hg=>⟨hg,hg,(c3 hg),trivial⟩),(fun hg=>⟨hg,(ltOf (c3 hg)),trivial⟩),(fun hg=>⟨hg,hg,(c4 hg),trivial⟩),(fun hg=>⟨hg,(ltOf (c4 hg)),trivial⟩),(fun hg=>⟨(g_cmp_Less_int_ok N (cap02.getD ((a).toNat) 0) (cap02.getD ((i2).toNat) 0) rLess (condT hr hg)),hg,hg,trivial⟩),(fun hg=>⟨hg,trivial⟩),(fun hq=>⟨hq,trivial⟩),trivial⟩ ?_
  refine Runs.sC 43 (C_32 15362) (C_32 15363) (cond (decide (i2≤j)) (!rLess) false) (fun hq2=>?_) (fun hq2=>?_)
  ·have h:=condT h hq2
   refine Runs.sA 2 [.code (C_32 7682),.inBlock 3,.inLoop (C_32 1920),.inBlock 2,.code (C_32 481),.inBlock 1,.inLoop (C_32 120),.inBlock 0,.code (C_32 31)] ?_
   refine Runs.sR hE ⟨[(0,(.os 0 0 cap02.length)),(1,(aI a)),(9,(aI (w64 (i2+1)))),(10,(aI j))],[(0,aO 1 cI 0 cap02)],289⟩ (C_32 7682) [] [] (kp [0,1,9,10]) (kq [0]) 289 [] trivial ?_
   refine Runs.sA 2 [.code (C_32 1920),.inLoop (C_32 1920),.inBlock 2,.code (C_32 481),.inBlock 1,.inLoop (C_32 120),.inBlock 0,.code (C_32 31)] ?_
   exact Runs.sW hE _ [] (kp [0,1,9,10]) (kq [0]) 1 [] trivial (ih (w64 (i2+1)) _ h E hE)
  ·have h:=condF h hq2
   refine Runs.sA 4 [.code (C_32 3848),.inLoop (C_32 3848),.inBlock 4,.code (C_32 963),.inBlock 1,.inLoop (C_32 120),.inBlock 0,.code (C_32 31)] ?_
   exact Runs.sW hE _ [] (kp [0,1,9,10]) (kq [0]) 1 [] trivial (g_slices_partitionEqualOrdered_int_L3_ok N a cap02 i2 K_g_slices_partitionEqualOrdered_int_L1 hK_g_slices_partitionEqualOrdered_int_L1 N j _ h E hE)
theorem g_slices_partitionEqualOrdered_int_L1_ok (N:Nat) (a:Int) (fuel:Nat):∀ (cap02:List Int) (i:Int) (j:Int) (r:Int×(List Int)),g_slices_partitionEqualOrdered_int_L1 N a fuel cap02 i j=some r→∀ E,EnvOk E 1→Runs Try.prog E 91 84 (SPost E [(0,aO 1 cI 0 r.2)] (aI r.1)) [.code (C_32 120),.inLoop (C_32 120),.inBlock 0,.code (C_32 31)] ⟨[(0,(.os 0 0 cap02.length)),(1,(aI a)),(9,(aI i)),(10,(aI j))],[(0,aO 1 cI 0 cap02)],1⟩:=by
 induction fuel with
 | zero=>intro _ _ _ r h;rw [g_slices_partitionEqualOrdered_int_L1.eq_1] at h;cases h
 | succ fuel ih =>
  intro cap02 i j r h E hE
  rw [g_slices_partitionEqualOrdered_int_L1.eq_2] at h
  refine Runs.sA 4 [.code (C_32 1920),.inLoop (C_32 1920),.inBlock 2,.code (C_32 481),.inBlock 1,.inLoop (C_32 120),.inBlock 0,.code (C_32 31)] ?_
  exact Runs.sW hE _ [] (kp [0,1,9,10]) (kq [0]) 1 [] trivial (g_slices_partitionEqualOrdered_int_L2_ok N a cap02 j (g_slices_partitionEqualOrdered_int_L1 N a fuel) ih N i _ h E hE)
theorem g_slices_partitionEqualOrdered_int_ok (N:Nat) (a:Int) (b:Int) (pivot:Int) (cap0:List Int) (r:Int×(List Int)) (h:g_slices_partitionEqualOrdered_int N a b pivot cap0=some r):Sound Try.prog 91 [(.os 0 0 cap0.length),(aI a),(aI b),(aI pivot)] [(0,aO 1 cI 0 cap0)] 1 (aI r.1) [(0,aO 1 cI 0 r.2)]:=by
 unfold g_slices_partitionEqualOrdered_int at h
 refine Sound.of_runs (fu:=Try.f91) (c:=C_32 1) (nt:=84) (by kernel_rfl) (by kernel_rfl) (by kernel_rfl) (by kernel_rfl) (fun hm=>absurd hm (by decide)) ?_
 intro E hE
 refine Runs.sA 1 [.code (C_32 2),.code (C_32 3)] ?_
 refine Runs.sR hE ⟨[(0,(.os 0 0 cap0.length)),(1,(aI a)),(2,(aI b)),(3,(aI pivot))],[(0,aO 1 cI 0 cap0)],17⟩ (C_32 2) [] [] (kp [0,1,2,3]) (kq [0]) 17 [] trivial ?_
 refine Runs.sA 1 [.code (C_32 6),.code (C_32 7)] ?_
 obtain ⟨c,h⟩:=ifSome h
 obtain ⟨c2,h⟩:=ifSome h
 refine Runs.sR hE ⟨[(0,(.os 0 0 (((cap0.set ((a).toNat) (cap0.getD ((pivot).toNat) 0)).set ((pivot).toNat) (cap0.getD ((a).toNat) 0)).length))),(1,(aI a)),(2,(aI b))],[(0,aO 1 cI 0 ((cap0.set ((a).toNat) (cap0.getD ((pivot).toNat) 0)).set ((pivot).toNat) (cap0.getD ((a).toNat) 0)))],273⟩ (C_32 6) [] [] ([(0,.osl (((cap0.set ((a).toNat) (cap0.getD ((pivot).toNat) 0)).set ((pivot).toNat) (cap0.getD ((a).toNat) 0)).length))] ++ kp [1,2]) [(0,.arr 0 (((cap0.set ((a).toNat) (cap0.getD ((pivot).toNat) 0)).set ((pivot).toNat) (cap0.getD ((a).toNat) 0)).length) (fun zi=>cI (((cap0.set ((a).toNat) (cap0.getD ((pivot).toNat) 0)).set ((pivot).toNat) (cap0.getD ((a).toNat) 0)).getD zi 0)))] 273 [0≤pivot∧pivot < ((cap0.length:Nat):Int),(pivot).toNat < cap0.length,0≤a∧a < ((cap0.length:Nat):Int),(a).toNat < cap0.length,0≤a∧a < ((cap0.length:Nat):Int),(a).toNat < cap0.length,0≤pivot∧pivot < ((cap0.length:Nat):Int),(pivot).toNat < cap0.length,cap0.length=((cap0.set ((a).toNat) (cap0.getD ((pivot).toNat) 0)).set ((pivot).toNat) (cap0.getD ((a).toNat) 0)).length,cap0.length=((cap0.set ((a).toNat) (cap0.getD ((pivot).toNat) 0)).set ((pivot).toNat) (cap0.getD ((a).toNat) 0)).length,∀ zi,zi < ((cap0.set ((a).toNat) (cap0.getD ((pivot).toNat) 0)).set ((pivot).toNat) (cap0.getD ((a).toNat) 0)).length→(fun zi=>cI (((cap0.set ((a).toNat) (cap0.getD ((pivot).toNat) 0)).set ((pivot).toNat) (cap0.getD ((a).toNat) 0)).getD zi 0)) zi=((fun zm=>if zm=(pivot).toNat then [(aI (cap0.getD ((a).toNat) 0))] else ((fun zm=>if zm=(a).toNat then [(aI (cap0.getD ((pivot).toNat) 0))] else (fun zi=>cI (cap0.getD zi 0)) zm)) zm)) zi] ⟨c,(ltOf c),c2,(ltOf c2),c2,(ltOf c2),c,(ltOf c),(len_set_raw (len_set_raw rfl)),(len_set_raw (len_set_raw rfl)),(get_set_raw cI 0 (cap0.set ((a).toNat) (cap0.getD ((pivot).toNat) 0)) ((pivot).toNat) (cap0.getD ((a).toNat) 0) (get_set_raw cI 0 cap0 ((a).toNat) (cap0.getD ((pivot).toNat) 0) (fun _ _=>rfl))),trivial⟩ ?_
 refine Runs.sA 1 [.code (C_32 14),.code (C_32 15)] ?_
 refine Runs.sR hE ⟨[(0,(.os 0 0 (((cap0.set ((a).toNat) (cap0.getD ((pivot).toNat) 0)).set ((pivot).toNat) (cap0.getD ((a).toNat) 0)).length))),(1,(aI a)),(9,(aI (w64 (a+1)))),(10,(aI (w64 (b - 1))))],[(0,aO 1 cI 0 ((cap0.set ((a).toNat) (cap0.getD ((pivot).toNat) 0)).set ((pivot).toNat) (cap0.getD ((a).toNat) 0)))],369⟩ (C_32 14) [] [] (kp [0,1,9,10]) (kq [0]) 369 [] trivial ?_
 refine Runs.sA 3 [.code (C_32 120),.inLoop (C_32 120),.inBlock 0,.code (C_32 31)] ?_
 exact Runs.sW hE _ [] (kp [0,1,9,10]) (kq [0]) 1 [] trivial (g_slices_partitionEqualOrdered_int_L1_ok N a N ((cap0.set ((a).toNat) (cap0.getD ((pivot).toNat) 0)).set ((pivot).toNat) (cap0.getD ((a).toNat) 0)) (w64 (a+1)) (w64 (b - 1)) _ h E hE)
noncomputable def C_33 (n:Nat):Code:=cat (bodyOf Try.f92) (pth n)
theorem g_slices_partitionOrdered_int_L5_ok (N:Nat) (a:Int) (cap02:List Int) (i3:Int) (K_g_slices_partitionOrdered_int_L3:(List Int)→Int→Int→Option (Int×Bool×(List Int)))
  (hK_g_slices_partitionOrdered_int_L3:∀ (cap02:List Int) (i2:Int) (j2:Int) (r:Int×Bool×(List Int)),K_g_slices_partitionOrdered_int_L3 cap02 i2 j2=some r→∀ E,EnvOk E 1→Runs Try.prog E 92 168 (SPost E [(0,aO 1 cI 0 r.2.2)] (.tup [(aI r.1),(aB r.2.1)])) [.code (C_33 8184),.inLoop (C_33 8184),.inBlock 4,.code (C_33 2047)] ⟨[(0,(.os 0 0 cap02.length)),(1,(aI a)),(10,(aI i2)),(11,(aI j2))],[(0,aO 1 cI 0 cap02)],1⟩) (fuel:Nat):∀ (j3:Int) (r:Int×Bool×(List Int)),g_slices_partitionOrdered_int_L5 N a cap02 i3 K_g_slices_partitionOrdered_int_L3 fuel j3=some r→∀ E,EnvOk E 1→Runs Try.prog E 92 168 (SPost E [(0,aO 1 cI 0 r.2.2)] (.tup [(aI r.1),(aB r.2.1)])) [.code (C_33 261896),.inLoop (C_33 261896),.inBlock 8,.code (C_33 65475),.inBlock 5,.inLoop (C_33 8184),.inBlock 4,.code (C_33 2047)] ⟨[(0,(.os 0 0 cap02.length)),(1,(aI a)),(10,(aI i3)),(11,(aI j3))],[(0,aO 1 cI 0 cap02)],1⟩:=by
 induction fuel with
 | zero=>intro _ r h;rw [g_slices_partitionOrdered_int_L5.eq_1] at h;cases h
 | succ fuel ih =>
  intro j3 r h E hE
  rw [g_slices_partitionOrdered_int_L5.eq_2] at h
  refine Runs.sA 2 [.code (C_33 1047584),.code (C_33 1047585),.code (C_33 523793),.inLoop (C_33 261896),.inBlock 8,.code (C_33 65475),.inBlock 5,.inLoop (C_33 8184),.inBlock 4,.code (C_33 2047)] ?_
  obtain ⟨c13,h⟩:=ifSome h
  obtain ⟨c14,h⟩:=ifSome h
  obtain ⟨rLess4,hr4,h⟩:=bindSome h
  refine Runs.sR hE ⟨[(0,(.os 0 0 cap02.length)),(1,(aI a)),(10,(aI i3)),(11,(aI j3)),(129,(aB (cond (decide (i3≤j3)) (!rLess4) false)))],[(0,aO 1 cI 0 cap02)],241⟩ (C_33 1047584) [(12,⟨[],true,(aB rLess4),[],0,false,none⟩)] [] (kp [0,1,10,11,129]) (kq [0]) 241 [(decide (i3≤j3))=true→AllP [(decide (i3≤j3))=true,(decide (i3≤j3))=true,0≤j3∧j3 < ((cap02.length:Nat):Int)],(decide (i3≤j3))=true→AllP [(decide (i3≤j3))=true,(j3).toNat < cap02.length],(decide (i3≤j3))=true→AllP [(decide (i3≤j3))=true,(decide (i3≤j3))=true,0≤a∧a < ((cap02.length:Nat):Int)],(decide (i3≤j3))=true→AllP [(decide (i3≤j3))=true,(a).toNat < cap02.length],(decide (i3≤j3))=true→AllP [Sound Try.prog 90 [(aI (cap02.getD ((j3).toNat) 0)),(aI (cap02.getD ((a).toNat) 0))] [] 0 (aB rLess4) [],(decide (i3≤j3))=true,(decide (i3≤j3))=true],(decide (i3≤j3))=true→AllP [(decide (i3≤j3))=true],(decide (i3≤j3))=true→AllP [(decide (i3≤j3))=true]] ⟨(fun hg=>⟨hg,hg,(c13 hg),trivial⟩),(fun hg=>⟨hg,(ltOf (c13 hg)),trivial⟩),(fun hg=>⟨hg,hg,(c14 hg),trivial⟩),(fun hg=>⟨hg,(ltOf (c14 hg)),trivial⟩),(fun hg=>⟨(g_cmp_Less_int_ok N (cap02.getD ((j3).toNat) 0) (cap02.getD ((a).toNat) 0) rLess4 (condT hr4 hg)),hg,hg,trivial⟩),(fun hg=>⟨hg,trivial⟩),(fun hq=>⟨hq,trivial⟩),trivial⟩ ?_
  refine Runs.sC 129 (C_33 2095170) (C_33 2095171) (cond (decide (i3≤j3)) (!rLess4) false) (fun hq6=>?_) (fun hq6=>?_)
  ·have h:=condT h hq6
   refine Runs.sA 2 [.code (C_33 1047586),.inBlock 9,.inLoop (C_33 261896),.inBlock 8,.code (C_33 65475),.inBlock 5,.inLoop (C_33 8184),.inBlock 4,.code (C_33 2047)] ?_
   refine Runs.sR hE ⟨[(0,(.os 0 0 cap02.length)),(1,(aI a)),(10,(aI i3)),(11,(aI (w64 (j3 - 1))))],[(0,aO 1 cI 0 cap02)],289⟩ (C_33 1047586) [] [] (kp [0,1,10,11]) (kq [0]) 289 [] trivial ?_
   refine Runs.sA 2 [.code (C_33 261896),.inLoop (C_33 261896),.inBlock 8,.code (C_33 65475),.inBlock 5,.inLoop (C_33 8184),.inBlock 4,.code (C_33 2047)] ?_
   exact Runs.sW hE _ [] (kp [0,1,10,11]) (kq [0]) 1 [] trivial (ih (w64 (j3 - 1)) _ h E hE)
  ·have h:=condF h hq6
   refine Runs.sA 3 [.code (C_33 261900),.code (C_33 261901),.code (C_33 130951),.inBlock 5,.inLoop (C_33 8184),.inBlock 4,.code (C_33 2047)] ?_
   refine Runs.sR hE ⟨[(0,(.os 0 0 cap02.length)),(1,(aI a)),(10,(aI i3)),(11,(aI j3)),(134,(aB (decide (i3 > j3))))],[(0,aO 1 cI 0 cap02)],289⟩ (C_33 261900) [] [] (kp [0,1,10,11,134]) (kq [0]) 289 [] trivial ?_
   refine Runs.sC 134 (C_33 523802) (C_33 523803) (decide (i3 > j3)) (fun hq7=>?_) (fun hq7=>?_)
   ·have h:=condT h hq7
    refine Runs.sA 2 [.code (C_33 4094),.code (C_33 4095)] ?_
    obtain ⟨c15,h⟩:=ifSome h
    obtain ⟨c16,h⟩:=ifSome h
    refine Runs.sR hE ⟨[(11,(aI j3))],[(0,aO 1 cI 0 ((cap02.set ((j3).toNat) (cap02.getD ((a).toNat) 0)).set ((a).toNat) (cap02.getD ((j3).toNat) 0)))],545⟩ (C_33 4094) [] [] (kp [11]) [(0,.arr 0 (((cap02.set ((j3).toNat) (cap02.getD ((a).toNat) 0)).set ((a).toNat) (cap02.getD ((j3).toNat) 0)).length) (fun zi=>cI (((cap02.set ((j3).toNat) (cap02.getD ((a).toNat) 0)).set ((a).toNat) (cap02.getD ((j3).toNat) 0)).getD zi 0)))] 545 [0≤a∧a < ((cap02.length:Nat):Int),(a).toNat < cap02.length,0≤j3∧j3 < ((cap02.length:Nat):Int),(j3).toNat < cap02.length,0≤j3∧j3 < ((cap02.length:Nat):Int),(j3).toNat < cap02.length,0≤a∧a < ((cap02.length:Nat):Int),(a).toNat < cap02.length,cap02.length=((cap02.set ((j3).toNat) (cap02.getD ((a).toNat) 0)).set ((a).toNat) (cap02.getD ((j3).toNat) 0)).length,∀ zi,zi < ((cap02.set ((j3).toNat) (cap02.getD ((a).toNat) 0)).set ((a).toNat) (cap02.getD ((j3).toNat) 0)).length→(fun zi=>cI (((cap02.set ((j3).toNat) (cap02.getD ((a).toNat) 0)).set ((a).toNat) (cap02.getD ((j3).toNat) 0)).getD zi 0)) zi=((fun zm=>if zm=(a).toNat then [(aI (cap02.getD ((j3).toNat) 0))] else ((fun zm=>if zm=(j3).toNat then [(aI (cap02.getD ((a).toNat) 0))] else (fun zi=>cI (cap02.getD zi 0)) zm)) zm)) zi] ⟨c15,(ltOf c15),c16,(ltOf c16),c16,(ltOf c16),c15,(ltOf c15),(len_set_raw (len_set_raw rfl)),(get_set_raw cI 0 (cap02.set ((j3).toNat) (cap02.getD ((a).toNat) 0)) ((a).toNat) (cap02.getD ((j3).toNat) 0) (get_set_raw cI 0 cap02 ((j3).toNat) (cap02.getD ((a).toNat) 0) (fun _ _=>rfl))),trivial⟩ ?_
    refine Runs.sA 1 [.code (C_33 8190),.code (C_33 8191)] ?_
    refine Runs.sR hE ⟨[(8,(aI j3)),(9,(aB false))],[(0,aO 1 cI 0 ((cap02.set ((j3).toNat) (cap02.getD ((a).toNat) 0)).set ((a).toNat) (cap02.getD ((j3).toNat) 0)))],593⟩ (C_33 8190) [] [] (kp [8,9]) (kq [0]) 593 [] trivial ?_
    obtain rfl:=Option.some.inj h
    refine Runs.sW hE ⟨[(8,(aI j3)),(9,(aB false))],[(0,aO 1 cI 0 ((cap02.set ((j3).toNat) (cap02.getD ((a).toNat) 0)).set ((a).toNat) (cap02.getD ((j3).toNat) 0)))],593⟩ [] (kp [8,9]) (kq [0]) 593 [] trivial ?_
    exact Runs.sT Try.f92 [] [] trivial
   ·have h:=condF h hq7
    refine Runs.sA 2 [.code (C_33 261902),.code (C_33 261903),.inBlock 5,.inLoop (C_33 8184),.inBlock 4,.code (C_33 2047)] ?_
    obtain ⟨c17,h⟩:=ifSome h
    obtain ⟨c18,h⟩:=ifSome h
    refine Runs.sR hE ⟨[(0,(.os 0 0 (((cap02.set ((i3).toNat) (cap02.getD ((j3).toNat) 0)).set ((j3).toNat) (cap02.getD ((i3).toNat) 0)).length))),(1,(aI a)),(10,(aI i3)),(11,(aI j3))],[(0,aO 1 cI 0 ((cap02.set ((i3).toNat) (cap02.getD ((j3).toNat) 0)).set ((j3).toNat) (cap02.getD ((i3).toNat) 0)))],545⟩ (C_33 261902) [] [] ([(0,.osl (((cap02.set ((i3).toNat) (cap02.getD ((j3).toNat) 0)).set ((j3).toNat) (cap02.getD ((i3).toNat) 0)).length))] ++ kp [1,10,11]) [(0,.arr 0 (((cap02.set ((i3).toNat) (cap02.getD ((j3).toNat) 0)).set ((j3).toNat) (cap02.getD ((i3).toNat) 0)).length) (fun zi=>cI (((cap02.set ((i3).toNat) (cap02.getD ((j3).toNat) 0)).set ((j3).toNat) (cap02.getD ((i3).toNat) 0)).getD zi 0)))] 545 [0≤j3∧j3 < ((cap02.length:Nat):Int),(j3).toNat < cap02.length,0≤i3∧i3 < ((cap02.length:Nat):Int),(i3).toNat < cap02.length,0≤i3∧i3 < ((cap02.length:Nat):Int),(i3).toNat < cap02.length,0≤j3∧j3 < ((cap02.length:Nat):Int),(j3).toNat < cap02.length,cap02.length=((cap02.set ((i3).toNat) (cap02.getD ((j3).toNat) 0)).set ((j3).toNat) (cap02.getD ((i3).toNat) 0)).length,cap02.length=((cap02.set ((i3).toNat) (cap02.getD ((j3).toNat) 0)).set ((j3).toNat) (cap02.getD ((i3).toNat) 0)).length,∀ zi,zi < ((cap02.set ((i3).toNat) (cap02.getD ((j3).toNat) 0)).set ((j3).toNat) (cap02.getD ((i3).toNat) 0)).length→(fun zi=>cI (((cap02.set ((i3).toNat) (cap02.getD ((j3).toNat) 0)).set ((j3).toNat) (cap02.getD ((i3).toNat) 0)).getD zi 0)) zi=((fun zm=>if zm=(j3).toNat then [(aI (cap02.getD ((i3).toNat) 0))] else ((fun zm=>if zm=(i3).toNat then [(aI (cap02.getD ((j3).toNat) 0))] else (fun zi=>cI (cap02.getD zi 0)) zm)) zm)) zi] ⟨c17,(ltOf c17),c18,(ltOf c18),c18,(ltOf c18),c17,(ltOf c17),(len_set_raw (len_set_raw rfl)),(len_set_raw (len_set_raw rfl)),(get_set_raw cI 0 (cap02.set ((i3).toNat) (cap02.getD ((j3).toNat) 0)) ((j3).toNat) (cap02.getD ((i3).toNat) 0) (get_set_raw cI 0 cap02 ((i3).toNat) (cap02.getD ((j3).toNat) 0) (fun _ _=>rfl))),trivial⟩ ?_
    refine Runs.sA 1 [.code (C_33 523806),.code (C_33 523807),.inBlock 5,.inLoop (C_33 8184),.inBlock 4,.code (C_33 2047)] ?_
    refine Runs.sR hE ⟨[(0,(.os 0 0 (((cap02.set ((i3).toNat) (cap02.getD ((j3).toNat) 0)).set ((j3).toNat) (cap02.getD ((i3).toNat) 0)).length))),(1,(aI a)),(10,(aI (w64 (i3+1)))),(11,(aI j3))],[(0,aO 1 cI 0 ((cap02.set ((i3).toNat) (cap02.getD ((j3).toNat) 0)).set ((j3).toNat) (cap02.getD ((i3).toNat) 0)))],593⟩ (C_33 523806) [] [] (kp [0,1,10,11]) (kq [0]) 593 [] trivial ?_
    refine Runs.sR hE ⟨[(0,(.os 0 0 (((cap02.set ((i3).toNat) (cap02.getD ((j3).toNat) 0)).set ((j3).toNat) (cap02.getD ((i3).toNat) 0)).length))),(1,(aI a)),(10,(aI (w64 (i3+1)))),(11,(aI (w64 (j3 - 1))))],[(0,aO 1 cI 0 ((cap02.set ((i3).toNat) (cap02.getD ((j3).toNat) 0)).set ((j3).toNat) (cap02.getD ((i3).toNat) 0)))],641⟩ (C_33 523807) [] [] (kp [0,1,10,11]) (kq [0]) 641 [] trivial ?_
    refine Runs.sA 2 [.code (C_33 8184),.inLoop (C_33 8184),.inBlock 4,.code (C_33 2047)] ?_
    exact Runs.sW hE _ [] (kp [0,1,10,11]) (kq [0]) 1 [] trivial (hK_g_slices_partitionOrdered_int_L3 ((cap02.set ((i3).toNat) (cap02.getD ((j3).toNat) 0)).set ((j3).toNat) (cap02.getD ((i3).toNat) 0)) (w64 (i3+1)) (w64 (j3 - 1)) _ h E hE)
theorem g_slices_partitionOrdered_int_L4_ok (N:Nat) (a:Int) (cap02:List Int) (j2:Int) (K_g_slices_partitionOrdered_int_L3:(List Int)→Int→Int→Option (Int×Bool×(List Int)))
  (hK_g_slices_partitionOrdered_int_L3:∀ (cap02:List Int) (i2:Int) (j2:Int) (r:Int×Bool×(List Int)),K_g_slices_partitionOrdered_int_L3 cap02 i2 j2=some r→∀ E,EnvOk E 1→Runs Try.prog E 92 168 (SPost E [(0,aO 1 cI 0 r.2.2)] (.tup [(aI r.1),(aB r.2.1)])) [.code (C_33 8184),.inLoop (C_33 8184),.inBlock 4,.code (C_33 2047)] ⟨[(0,(.os 0 0 cap02.length)),(1,(aI a)),(10,(aI i2)),(11,(aI j2))],[(0,aO 1 cI 0 cap02)],1⟩) (fuel:Nat):∀ (i3:Int) (r:Int×Bool×(List Int)),g_slices_partitionOrdered_int_L4 N a cap02 j2 K_g_slices_partitionOrdered_int_L3 fuel i3=some r→∀ E,EnvOk E 1→Runs Try.prog E 92 168 (SPost E [(0,aO 1 cI 0 r.2.2)] (.tup [(aI r.1),(aB r.2.1)])) [.code (C_33 130944),.inLoop (C_33 130944),.inBlock 6,.code (C_33 32737),.inBlock 5,.inLoop (C_33 8184),.inBlock 4,.code (C_33 2047)] ⟨[(0,(.os 0 0 cap02.length)),(1,(aI a)),(10,(aI i3)),(11,(aI j2))],[(0,aO 1 cI 0 cap02)],1⟩:=by
 induction fuel with
 | zero=>intro _ r h;rw [g_slices_partitionOrdered_int_L4.eq_1] at h;cases h
 | succ fuel ih =>
  intro i3 r h E hE
  rw [g_slices_partitionOrdered_int_L4.eq_2] at h
  refine Runs.sA 2 [.code (C_33 523776),.code (C_33 523777),.code (C_33 261889),.inLoop (C_33 130944),.inBlock 6,.code (C_33 32737),.inBlock 5,.inLoop (C_33 8184),.inBlock 4,.code (C_33 2047)] ?_
  obtain ⟨c11,h⟩:=ifSome h
  obtain ⟨c12,h⟩:=ifSome h
  obtain ⟨rLess3,hr3,h⟩:=bindSome h
  refine Runs.sR hE ⟨[(0,(.os 0 0 cap02.length)),(1,(aI a)),(10,(aI i3)),(11,(aI j2)),(112,(aB (cond (decide (i3≤j2)) rLess3 false)))],[(0,aO 1 cI 0 cap02)],225⟩ (C_33 523776) [(12,⟨[],true,(aB rLess3),[],0,false,none⟩)] [] (kp [0,1,10,11,112]) (kq [0]) 225 [(decide (i3≤j2))=true→AllP [(decide (i3≤j2))=true,(decide (i3≤j2))=true,0≤i3∧i3 < ((cap02.length:Nat):Int)],(decide (i3≤j2))=true→AllP [(decide (i3≤j2))=true,(i3).toNat < cap02.length],(decide (i3≤j2))=true→AllP [(decide (i3≤j2))=true,(decide (i3≤j2))=true,0≤a∧a < ((cap02.length:Nat):Int)],(decide (i3≤j2))=true→AllP [(decide (i3≤j2))=true,(a).toNat < cap02.length],(decide (i3≤j2))=true→AllP [Sound Try.prog 90 [(aI (cap02.getD ((i3).toNat) 0)),(aI (cap02.getD ((a).toNat) 0))] [] 0 (aB rLess3) [],(decide (i3≤j2))=true,(decide (i3≤j2))=true],(decide (i3≤j2))=true→AllP [(decide (i3≤j2))=true]] ⟨(fun hg=>⟨hg,hg,(c11 hg),trivial⟩),(fun hg=>⟨hg,(ltOf (c11 hg)),trivial⟩),(fun hg=>⟨hg,hg,(c12 hg),trivial⟩),(fun hg=>⟨hg,(ltOf (c12 hg)),trivial⟩),(fun hg=>⟨(g_cmp_Less_int_ok N (cap02.getD ((i3).toNat) 0) (cap02.getD ((a).toNat) 0) rLess3 (condT hr3 hg)),hg,hg,trivial⟩),(fun hq=>⟨hq,trivial⟩),trivial⟩ ?_
  refine Runs.sC 112 (C_33 1047554) (C_33 1047555) (cond (decide (i3≤j2)) rLess3 false) (fun hq5=>?_) (fun hq5=>?_)
  ·have h:=condT h hq5
   refine Runs.sA 2 [.code (C_33 523778),.inBlock 7,.inLoop (C_33 130944),.inBlock 6,.code (C_33 32737),.inBlock 5,.inLoop (C_33 8184),.inBlock 4,.code (C_33 2047)] ?_
   refine Runs.sR hE ⟨[(0,(.os 0 0 cap02.length)),(1,(aI a)),(10,(aI (w64 (i3+1)))),(11,(aI j2))],[(0,aO 1 cI 0 cap02)],273⟩ (C_33 523778) [] [] (kp [0,1,10,11]) (kq [0]) 273 [] trivial ?_
   refine Runs.sA 2 [.code (C_33 130944),.inLoop (C_33 130944),.inBlock 6,.code (C_33 32737),.inBlock 5,.inLoop (C_33 8184),.inBlock 4,.code (C_33 2047)] ?_
   exact Runs.sW hE _ [] (kp [0,1,10,11]) (kq [0]) 1 [] trivial (ih (w64 (i3+1)) _ h E hE)
  ·have h:=condF h hq5
   refine Runs.sA 4 [.code (C_33 261896),.inLoop (C_33 261896),.inBlock 8,.code (C_33 65475),.inBlock 5,.inLoop (C_33 8184),.inBlock 4,.code (C_33 2047)] ?_
   exact Runs.sW hE _ [] (kp [0,1,10,11]) (kq [0]) 1 [] trivial (g_slices_partitionOrdered_int_L5_ok N a cap02 i3 K_g_slices_partitionOrdered_int_L3 hK_g_slices_partitionOrdered_int_L3 N j2 _ h E hE)
theorem g_slices_partitionOrdered_int_L3_ok (N:Nat) (a:Int) (fuel:Nat):∀ (cap02:List Int) (i2:Int) (j2:Int) (r:Int×Bool×(List Int)),g_slices_partitionOrdered_int_L3 N a fuel cap02 i2 j2=some r→∀ E,EnvOk E 1→Runs Try.prog E 92 168 (SPost E [(0,aO 1 cI 0 r.2.2)] (.tup [(aI r.1),(aB r.2.1)])) [.code (C_33 8184),.inLoop (C_33 8184),.inBlock 4,.code (C_33 2047)] ⟨[(0,(.os 0 0 cap02.length)),(1,(aI a)),(10,(aI i2)),(11,(aI j2))],[(0,aO 1 cI 0 cap02)],1⟩:=by
 induction fuel with
 | zero=>intro _ _ _ r h;rw [g_slices_partitionOrdered_int_L3.eq_1] at h;cases h
 | succ fuel ih =>
  intro cap02 i2 j2 r h E hE
  rw [g_slices_partitionOrdered_int_L3.eq_2] at h
  refine Runs.sA 4 [.code (C_33 130944),.inLoop (C_33 130944),.inBlock 6,.code (C_33 32737),.inBlock 5,.inLoop (C_33 8184),.inBlock 4,.code (C_33 2047)] ?_
  exact Runs.sW hE _ [] (kp [0,1,10,11]) (kq [0]) 1 [] trivial (g_slices_partitionOrdered_int_L4_ok N a cap02 j2 (g_slices_partitionOrdered_int_L3 N a fuel) ih N i2 _ h E hE)
theorem g_slices_partitionOrdered_int_L2_ok (N:Nat) (a:Int) (pivot:Int) (cap0:List Int) (i:Int) (fuel:Nat):∀ (j:Int) (r:Int×Bool×(List Int)),g_slices_partitionOrdered_int_L2 N a pivot cap0 i fuel j=some r→∀ E,EnvOk E 1→Runs Try.prog E 92 168 (SPost E [(0,aO 1 cI 0 r.2.2)] (.tup [(aI r.1),(aB r.2.1)])) [.code (C_33 248),.inLoop (C_33 248),.inBlock 2,.code (C_33 63)] ⟨[(0,(.os 0 0 (((cap0.set ((a).toNat) (cap0.getD ((pivot).toNat) 0)).set ((pivot).toNat) (cap0.getD ((a).toNat) 0)).length))),(1,(aI a)),(10,(aI i)),(11,(aI j))],[(0,aO 1 cI 0 ((cap0.set ((a).toNat) (cap0.getD ((pivot).toNat) 0)).set ((pivot).toNat) (cap0.getD ((a).toNat) 0)))],1⟩:=by
 induction fuel with
 | zero=>intro _ r h;rw [g_slices_partitionOrdered_int_L2.eq_1] at h;cases h
 | succ fuel ih =>
  intro j r h E hE
  rw [g_slices_partitionOrdered_int_L2.eq_2] at h
  refine Runs.sA 2 [.code (C_33 992),.code (C_33 993),.code (C_33 497),.inLoop (C_33 248),.inBlock 2,.code (C_33 63)] ?_
  obtain ⟨c5,h⟩:=ifSome h
  obtain ⟨c6,h⟩:=ifSome h
  obtain ⟨rLess2,hr2,h⟩:=bindSome h
  refine Runs.sR hE ⟨[(0,(.os 0 0 (((cap0.set ((a).toNat) (cap0.getD ((pivot).toNat) 0)).set ((pivot).toNat) (cap0.getD ((a).toNat) 0)).length))),(1,(aI a)),(10,(aI i)),(11,(aI j)),(60,(aB (cond (decide (i≤j)) (!rLess2) false)))],[(0,aO 1 cI 0 ((cap0.set ((a).toNat) (cap0.getD ((pivot).toNat) 0)).set ((pivot).toNat) (cap0.getD ((a).toNat) 0)))],241⟩ (C_33 992) [(12,⟨[],true,(aB rLess2),[],0,false,none⟩)] [] (kp [0,1,10,11,60]) (kq [0]) 241 [(decide (i≤j))=true→AllP [(decide (i≤j))=true,(decide (i≤j))=true,0≤j∧j < ((((cap0.set ((a).toNat) (cap0.getD ((pivot).toNat) 0)).set ((pivot).toNat) (cap0.getD ((a).toNat) 0)).length:Nat):Int)],(decide (i≤j))=true→AllP [(decide (i≤j))=true,(j).toNat < ((cap0.set ((a).toNat) (cap0.getD ((pivot).toNat) 0)).set ((pivot).toNat) (cap0.getD ((a).toNat) 0)).length],(decide (i≤j))=true→AllP [(decide (i≤j))=true,(decide (i≤j))=true,0≤a∧a < ((((cap0.set ((a).toNat) (cap0.getD ((pivot).toNat) 0)).set ((pivot).toNat) (cap0.getD ((a).toNat) 0)).length:Nat):Int)],(decide (i≤j))=true→AllP [(decide (i≤j))=true,(a).toNat < ((cap0.set ((a).toNat) (cap0.getD ((pivot).toNat) 0)).set ((pivot).toNat) (cap0.getD ((a).toNat) 0)).length],(decide (i≤j))=true→AllP [Sound Try.prog 90 [(aI (((cap0.set ((a).toNat) (cap0.getD ((pivot).toNat) 0)).set ((pivot).toNat) (cap0.getD ((a).toNat) 0)).getD ((j).toNat) 0)),(aI (((cap0.set ((a).toNat) (cap0.getD ((pivot).toNat) 0)).set ((pivot).toNat) (cap0.getD ((a).toNat) 0)).getD ((a).toNat) 0))] [] 0 (aB rLess2) [],(decide (i≤j))=true,(decide (i≤j))=true],(decide (i≤j))=true→AllP [(decide (i≤j))=true],(decide (i≤j))=true→AllP [(decide (i≤j))=true]] ⟨(fun hg=>⟨hg,hg,(c5 hg),trivial⟩),(fun hg=>⟨hg,(ltOf (c5 hg)),trivial⟩),(fun hg=>⟨hg,hg,(c6 hg),trivial⟩),(fun hg=>⟨hg,(ltOf (c6 hg)),trivial⟩),(fun hg=>⟨(g_cmp_Less_int_ok N (((cap0.set ((a).toNat) (cap0.getD ((pivot).toNat) 0)).set ((pivot).toNat) (cap0.getD ((a).toNat) 0)).getD ((j).toNat) 0) (((cap0.set ((a).toNat) (cap0.getD ((pivot).toNat) 0)).set ((pivot).toNat) (cap0.getD ((a).toNat) 0)).getD ((a).toNat) 0) rLess2 (condT hr2 hg)),hg,hg,trivial⟩),(fun hg=>⟨hg,trivial⟩),(fun hq=>⟨hq,trivial⟩),trivial⟩ ?_
  refine Runs.sC 60 (C_33 1986) (C_33 1987) (cond (decide (i≤j)) (!rLess2) false) (fun hq3=>?_) (fun hq3=>?_)
  ·have h:=condT h hq3
   refine Runs.sA 2 [.code (C_33 994),.inBlock 3,.inLoop (C_33 248),.inBlock 2,.code (C_33 63)] ?_
   refine Runs.sR hE ⟨[(0,(.os 0 0 (((cap0.set ((a).toNat) (cap0.getD ((pivot).toNat) 0)).set ((pivot).toNat) (cap0.getD ((a).toNat) 0)).length))),(1,(aI a)),(10,(aI i)),(11,(aI (w64 (j - 1))))],[(0,aO 1 cI 0 ((cap0.set ((a).toNat) (cap0.getD ((pivot).toNat) 0)).set ((pivot).toNat) (cap0.getD ((a).toNat) 0)))],289⟩ (C_33 994) [] [] (kp [0,1,10,11]) (kq [0]) 289 [] trivial ?_
   refine Runs.sA 2 [.code (C_33 248),.inLoop (C_33 248),.inBlock 2,.code (C_33 63)] ?_
   exact Runs.sW hE _ [] (kp [0,1,10,11]) (kq [0]) 1 [] trivial (ih (w64 (j - 1)) _ h E hE)
  ·have h:=condF h hq3
   refine Runs.sA 3 [.code (C_33 252),.code (C_33 253),.code (C_33 127)] ?_
   refine Runs.sR hE ⟨[(0,(.os 0 0 (((cap0.set ((a).toNat) (cap0.getD ((pivot).toNat) 0)).set ((pivot).toNat) (cap0.getD ((a).toNat) 0)).length))),(1,(aI a)),(10,(aI i)),(11,(aI j)),(65,(aB (decide (i > j))))],[(0,aO 1 cI 0 ((cap0.set ((a).toNat) (cap0.getD ((pivot).toNat) 0)).set ((pivot).toNat) (cap0.getD ((a).toNat) 0)))],289⟩ (C_33 252) [] [] (kp [0,1,10,11,65]) (kq [0]) 289 [] trivial ?_
   refine Runs.sC 65 (C_33 506) (C_33 507) (decide (i > j)) (fun hq4=>?_) (fun hq4=>?_)
   ·have h:=condT h hq4
    refine Runs.sA 1 [.code (C_33 1012),.code (C_33 1013),.code (C_33 127)] ?_
    obtain ⟨c7,h⟩:=ifSome h
    obtain ⟨c8,h⟩:=ifSome h
    refine Runs.sR hE ⟨[(11,(aI j))],[(0,aO 1 cI 0 ((((cap0.set ((a).toNat) (cap0.getD ((pivot).toNat) 0)).set ((pivot).toNat) (cap0.getD ((a).toNat) 0)).set ((j).toNat) (((cap0.set ((a).toNat) (cap0.getD ((pivot).toNat) 0)).set ((pivot).toNat) (cap0.getD ((a).toNat) 0)).getD ((a).toNat) 0)).set ((a).toNat) (((cap0.set ((a).toNat) (cap0.getD ((pivot).toNat) 0)).set ((pivot).toNat) (cap0.getD ((a).toNat) 0)).getD ((j).toNat) 0)))],545⟩ (C_33 1012) [] [] (kp [11]) [(0,.arr 0 (((((cap0.set ((a).toNat) (cap0.getD ((pivot).toNat) 0)).set ((pivot).toNat) (cap0.getD ((a).toNat) 0)).set ((j).toNat) (((cap0.set ((a).toNat) (cap0.getD ((pivot).toNat) 0)).set ((pivot).toNat) (cap0.getD ((a).toNat) 0)).getD ((a).toNat) 0)).set ((a).toNat) (((cap0.set ((a).toNat) (cap0.getD ((pivot).toNat) 0)).set ((pivot).toNat) (cap0.getD ((a).toNat) 0)).getD ((j).toNat) 0)).length) (fun zi=>cI (((((cap0.set ((a).toNat) (cap0.getD ((pivot).toNat) 0)).set ((pivot).toNat) (cap0.getD ((a).toNat) 0)).set ((j).toNat) (((cap0.set ((a).toNat) (cap0.getD ((pivot).toNat) 0)).set ((pivot).toNat) (cap0.getD ((a).toNat) 0)).getD ((a).toNat) 0)).set ((a).toNat) (((cap0.set ((a).toNat) (cap0.getD ((pivot).toNat) 0)).set ((pivot).toNat) (cap0.getD ((a).toNat) 0)).getD ((j).toNat) 0)).getD zi 0)))] 545 [0≤a∧a < ((((cap0.set ((a).toNat) (cap0.getD ((pivot).toNat) 0)).set ((pivot).toNat) (cap0.getD ((a).toNat) 0)).length:Nat):Int),(a).toNat < ((cap0.set ((a).toNat) (cap0.getD ((pivot).toNat) 0)).set ((pivot).toNat) (cap0.getD ((a).toNat) 0)).length,0≤j∧j < ((((cap0.set ((a).toNat) (cap0.getD ((pivot).toNat) 0)).set ((pivot).toNat) (cap0.getD ((a).toNat) 0)).length:Nat):Int),(j).toNat < ((cap0.set ((a).toNat) (cap0.getD ((pivot).toNat) 0)).set ((pivot).toNat) (cap0.getD ((a).toNat) 0)).length,0≤j∧j < ((((cap0.set ((a).toNat) (cap0.getD ((pivot).toNat) 0)).set ((pivot).toNat) (cap0.getD ((a).toNat) 0)).length:Nat):Int),(j).toNat < ((cap0.set ((a).toNat) (cap0.getD ((pivot).toNat) 0)).set ((pivot).toNat) (cap0.getD ((a).toNat) 0)).length,0≤a∧a < ((((cap0.set ((a).toNat) (cap0.getD ((pivot).toNat) 0)).set ((pivot).toNat) (cap0.getD ((a).toNat) 0)).length:Nat):Int),(a).toNat < ((cap0.set ((a).toNat) (cap0.getD ((pivot).toNat) 0)).set ((pivot).toNat) (cap0.getD ((a).toNat) 0)).length,((cap0.set ((a).toNat) (cap0.getD ((pivot).toNat) 0)).set ((pivot).toNat) (cap0.getD ((a).toNat) 0)).length=((((cap0.set ((a).toNat) (cap0.getD ((pivot).toNat) 0)).set ((pivot).toNat) (cap0.getD ((a).toNat) 0)).set ((j).toNat) (((cap0.set ((a).toNat) (cap0.getD ((pivot).toNat) 0)).set ((pivot).toNat) (cap0.getD ((a).toNat) 0)).getD ((a).toNat) 0)).set ((a).toNat) (((cap0.set ((a).toNat) (cap0.getD ((pivot).toNat) 0)).set ((pivot).toNat) (cap0.getD ((a).toNat) 0)).getD ((j).toNat) 0)).length,∀ zi,zi < ((((cap0.set ((a).toNat) (cap0.getD ((pivot).toNat) 0)).set ((pivot).toNat) (cap0.getD ((a).toNat) 0)).set ((j).toNat) (((cap0.set ((a).toNat) (cap0.getD ((pivot).toNat) 0)).set ((pivot).toNat) (cap0.getD ((a).toNat) 0)).getD ((a).toNat) 0)).set ((a).toNat) (((cap0.set ((a).toNat) (cap0.getD ((pivot).toNat) 0)).set ((pivot).toNat) (cap0.getD ((a).toNat) 0)).getD ((j).toNat) 0)).length→(fun zi=>cI (((((cap0.set ((a).toNat) (cap0.getD ((pivot).toNat) 0)).set ((pivot).toNat) (cap0.getD ((a).toNat) 0)).set ((j).toNat) (((cap0.set ((a).toNat) (cap0.getD ((pivot).toNat) 0)).set ((pivot).toNat) (cap0.getD ((a).toNat) 0)).getD ((a).toNat) 0)).set ((a).toNat) (((cap0.set ((a).toNat) (cap0.getD ((pivot).toNat) 0)).set ((pivot).toNat) (cap0.getD ((a).toNat) 0)).getD ((j).toNat) 0)).getD zi 0)) zi=((fun zm=>if zm=(a).toNat then [(aI (((cap0.set ((a).toNat) (cap0.getD ((pivot).toNat) 0)).set ((pivot).toNat) (cap0.getD ((a).toNat) 0)).getD ((j).toNat) 0))] else ((fun zm=>if zm=(j).toNat then [(aI (((cap0.set ((a).toNat) (cap0.getD ((pivot).toNat) 0)).set ((pivot).toNat) (cap0.getD ((a).toNat) 0)).getD ((a).toNat) 0))] else (fun zi=>cI (((cap0.set ((a).toNat) (cap0.getD ((pivot).toNat) 0)).set ((pivot).toNat) (cap0.getD ((a).toNat) 0)).getD zi 0)) zm)) zm)) zi] ⟨c7,(ltOf c7),c8,(ltOf c8),c8,(ltOf c8),c7,(ltOf c7),(len_set_raw (len_set_raw rfl)),(get_set_raw cI 0 (((cap0.set ((a).toNat) (cap0.getD ((pivot).toNat) 0)).set ((pivot).toNat) (cap0.getD ((a).toNat) 0)).set ((j).toNat) (((cap0.set ((a).toNat) (cap0.getD ((pivot).toNat) 0)).set ((pivot).toNat) (cap0.getD ((a).toNat) 0)).getD ((a).toNat) 0)) ((a).toNat) (((cap0.set ((a).toNat) (cap0.getD ((pivot).toNat) 0)).set ((pivot).toNat) (cap0.getD ((a).toNat) 0)).getD ((j).toNat) 0) (get_set_raw cI 0 ((cap0.set ((a).toNat) (cap0.getD ((pivot).toNat) 0)).set ((pivot).toNat) (cap0.getD ((a).toNat) 0)) ((j).toNat) (((cap0.set ((a).toNat) (cap0.getD ((pivot).toNat) 0)).set ((pivot).toNat) (cap0.getD ((a).toNat) 0)).getD ((a).toNat) 0) (fun _ _=>rfl))),trivial⟩ ?_
    refine Runs.sA 1 [.code (C_33 2026),.code (C_33 2027),.code (C_33 127)] ?_
    refine Runs.sR hE ⟨[(8,(aI j)),(9,(aB true))],[(0,aO 1 cI 0 ((((cap0.set ((a).toNat) (cap0.getD ((pivot).toNat) 0)).set ((pivot).toNat) (cap0.getD ((a).toNat) 0)).set ((j).toNat) (((cap0.set ((a).toNat) (cap0.getD ((pivot).toNat) 0)).set ((pivot).toNat) (cap0.getD ((a).toNat) 0)).getD ((a).toNat) 0)).set ((a).toNat) (((cap0.set ((a).toNat) (cap0.getD ((pivot).toNat) 0)).set ((pivot).toNat) (cap0.getD ((a).toNat) 0)).getD ((j).toNat) 0)))],593⟩ (C_33 2026) [] [] (kp [8,9]) (kq [0]) 593 [] trivial ?_
    obtain rfl:=Option.some.inj h
    refine Runs.sW hE ⟨[(8,(aI j)),(9,(aB true))],[(0,aO 1 cI 0 ((((cap0.set ((a).toNat) (cap0.getD ((pivot).toNat) 0)).set ((pivot).toNat) (cap0.getD ((a).toNat) 0)).set ((j).toNat) (((cap0.set ((a).toNat) (cap0.getD ((pivot).toNat) 0)).set ((pivot).toNat) (cap0.getD ((a).toNat) 0)).getD ((a).toNat) 0)).set ((a).toNat) (((cap0.set ((a).toNat) (cap0.getD ((pivot).toNat) 0)).set ((pivot).toNat) (cap0.getD ((a).toNat) 0)).getD ((j).toNat) 0)))],593⟩ [] (kp [8,9]) (kq [0]) 593 [] trivial ?_
    exact Runs.sT Try.f92 [] [] trivial
   ·have h:=condF h hq4
    refine Runs.sA 2 [.code (C_33 254),.code (C_33 255)] ?_
    obtain ⟨c9,h⟩:=ifSome h
    obtain ⟨c10,h⟩:=ifSome h
    refine Runs.sR hE ⟨[(0,(.os 0 0 (((((cap0.set ((a).toNat) (cap0.getD ((pivot).toNat) 0)).set ((pivot).toNat) (cap0.getD ((a).toNat) 0)).set ((i).toNat) (((cap0.set ((a).toNat) (cap0.getD ((pivot).toNat) 0)).set ((pivot).toNat) (cap0.getD ((a).toNat) 0)).getD ((j).toNat) 0)).set ((j).toNat) (((cap0.set ((a).toNat) (cap0.getD ((pivot).toNat) 0)).set ((pivot).toNat) (cap0.getD ((a).toNat) 0)).getD ((i).toNat) 0)).length))),(1,(aI a)),(10,(aI i)),(11,(aI j))],[(0,aO 1 cI 0 ((((cap0.set ((a).toNat) (cap0.getD ((pivot).toNat) 0)).set ((pivot).toNat) (cap0.getD ((a).toNat) 0)).set ((i).toNat) (((cap0.set ((a).toNat) (cap0.getD ((pivot).toNat) 0)).set ((pivot).toNat) (cap0.getD ((a).toNat) 0)).getD ((j).toNat) 0)).set ((j).toNat) (((cap0.set ((a).toNat) (cap0.getD ((pivot).toNat) 0)).set ((pivot).toNat) (cap0.getD ((a).toNat) 0)).getD ((i).toNat) 0)))],545⟩ (C_33 254) [] [] ([(0,.osl (((((cap0.set ((a).toNat) (cap0.getD ((pivot).toNat) 0)).set ((pivot).toNat) (cap0.getD ((a).toNat) 0)).set ((i).toNat) (((cap0.set ((a).toNat) (cap0.getD ((pivot).toNat) 0)).set ((pivot).toNat) (cap0.getD ((a).toNat) 0)).getD ((j).toNat) 0)).set ((j).toNat) (((cap0.set ((a).toNat) (cap0.getD ((pivot).toNat) 0)).set ((pivot).toNat) (cap0.getD ((a).toNat) 0)).getD ((i).toNat) 0)).length))] ++ kp [1,10,11]) [(0,.arr 0 (((((cap0.set ((a).toNat) (cap0.getD ((pivot).toNat) 0)).set ((pivot).toNat) (cap0.getD ((a).toNat) 0)).set ((i).toNat) (((cap0.set ((a).toNat) (cap0.getD ((pivot).toNat) 0)).set ((pivot).toNat) (cap0.getD ((a).toNat) 0)).getD ((j).toNat) 0)).set ((j).toNat) (((cap0.set ((a).toNat) (cap0.getD ((pivot).toNat) 0)).set ((pivot).toNat) (cap0.getD ((a).toNat) 0)).getD ((i).toNat) 0)).length) (fun zi=>cI (((((cap0.set ((a).toNat) (cap0.getD ((pivot).toNat) 0)).set ((pivot).toNat) (cap0.getD ((a).toNat) 0)).set ((i).toNat) (((cap0.set ((a).toNat) (cap0.getD ((pivot).toNat) 0)).set ((pivot).toNat) (cap0.getD ((a).toNat) 0)).getD ((j).toNat) 0)).set ((j).toNat) (((cap0.set ((a).toNat) (cap0.getD ((pivot).toNat) 0)).set ((pivot).toNat) (cap0.getD ((a).toNat) 0)).getD ((i).toNat) 0)).getD zi 0)))] 545 [0≤j∧j < ((((cap0.set ((a).toNat) (cap0.getD ((pivot).toNat) 0)).set ((pivot).toNat) (cap0.getD ((a).toNat) 0)).length:Nat):Int),(j).toNat < ((cap0.set ((a).toNat) (cap0.getD ((pivot).toNat) 0)).set ((pivot).toNat) (cap0.getD ((a).toNat) 0)).length,0≤i∧i < ((((cap0.set ((a).toNat) (cap0.getD ((pivot).toNat) 0)).set ((pivot).toNat) (cap0.getD ((a).toNat) 0)).length:Nat):Int),(i).toNat < ((cap0.set ((a).toNat) (cap0.getD ((pivot).toNat) 0)).set ((pivot).toNat) (cap0.getD ((a).toNat) 0)).length,0≤i∧i < ((((cap0.set ((a).toNat) (cap0.getD ((pivot).toNat) 0)).set ((pivot).toNat) (cap0.getD ((a).toNat) 0)).length:Nat):Int),(i).toNat < ((cap0.set ((a).toNat) (cap0.getD ((pivot).toNat) 0)).set ((pivot).toNat) (cap0.getD ((a).toNat) 0)).length,0≤j∧j < ((((cap0.set ((a).toNat) (cap0.getD ((pivot).toNat) 0)).set ((pivot).toNat) (cap0.getD ((a).toNat) 0)).length:Nat):Int),(j).toNat < ((cap0.set ((a).toNat) (cap0.getD ((pivot).toNat) 0)).set ((pivot).toNat) (cap0.getD ((a).toNat) 0)).length,((cap0.set ((a).toNat) (cap0.getD ((pivot).toNat) 0)).set ((pivot).toNat) (cap0.getD ((a).toNat) 0)).length=((((cap0.set ((a).toNat) (cap0.getD ((pivot).toNat) 0)).set ((pivot).toNat) (cap0.getD ((a).toNat) 0)).set ((i).toNat) (((cap0.set ((a).toNat) (cap0.getD ((pivot).toNat) 0)).set ((pivot).toNat) (cap0.getD ((a).toNat) 0)).getD ((j).toNat) 0)).set ((j).toNat) (((cap0.set ((a).toNat) (cap0.getD ((pivot).toNat) 0)).set ((pivot).toNat) (cap0.getD ((a).toNat) 0)).getD ((i).toNat) 0)).length,((cap0.set ((a).toNat) (cap0.getD ((pivot).toNat) 0)).set ((pivot).toNat) (cap0.getD ((a).toNat) 0)).length=((((cap0.set ((a).toNat) (cap0.getD ((pivot).toNat) 0)).set ((pivot).toNat) (cap0.getD ((a).toNat) 0)).set ((i).toNat) (((cap0.set ((a).toNat) (cap0.getD ((pivot).toNat) 0)).set ((pivot).toNat) (cap0.getD ((a).toNat) 0)).getD ((j).toNat) 0)).set ((j).toNat) (((cap0.set ((a).toNat) (cap0.getD ((pivot).toNat) 0)).set ((pivot).toNat) (cap0.getD ((a).toNat) 0)).getD ((i).toNat) 0)).length,∀ zi,zi < ((((cap0.set ((a).toNat) (cap0.getD ((pivot).toNat) 0)).set ((pivot).toNat) (cap0.getD ((a).toNat) 0)).set ((i).toNat) (((cap0.set ((a).toNat) (cap0.getD ((pivot).toNat) 0)).set ((pivot).toNat) (cap0.getD ((a).toNat) 0)).getD ((j).toNat) 0)).set ((j).toNat) (((cap0.set ((a).toNat) (cap0.getD ((pivot).toNat) 0)).set ((pivot).toNat) (cap0.getD ((a).toNat) 0)).getD ((i).toNat) 0)).length→(fun zi=>cI (((((cap0.set ((a).toNat) (cap0.getD ((pivot).toNat) 0)).set ((pivot).toNat) (cap0.getD ((a).toNat) 0)).set ((i).toNat) (((cap0.set ((a).toNat) (cap0.getD ((pivot).toNat) 0)).set ((pivot).toNat) (cap0.getD ((a).toNat) 0)).getD ((j).toNat) 0)).set ((j).toNat) (((cap0.set ((a).toNat) (cap0.getD ((pivot).toNat) 0)).set ((pivot).toNat) (cap0.getD ((a).toNat) 0)).getD ((i).toNat) 0)).getD zi 0)) zi=((fun zm=>if zm=(j).toNat then [(aI (((cap0.set ((a).toNat) (cap0.getD ((pivot).toNat) 0)).set ((pivot).toNat) (cap0.getD ((a).toNat) 0)).getD ((i).toNat) 0))] else ((fun zm=>if zm=(i).toNat then [(aI (((cap0.set ((a).toNat) (cap0.getD ((pivot).toNat) 0)).set ((pivot).toNat) (cap0.getD ((a).toNat) 0)).getD ((j).toNat) 0))] else (fun zi=>cI (((cap0.set ((a).toNat) (cap0.getD ((pivot).toNat) 0)).set ((pivot).toNat) (cap0.getD ((a).toNat) 0)).getD zi 0)) zm)) zm)) zi] ⟨c9,(ltOf c9),c10,(ltOf c10),c10,(ltOf c10),c9,(ltOf c9),(len_set_raw (len_set_raw rfl)),(len_set_raw (len_set_raw rfl)),(get_set_raw cI 0 (((cap0.set ((a).toNat) (cap0.getD ((pivot).toNat) 0)).set ((pivot).toNat) (cap0.getD ((a).toNat) 0)).set ((i).toNat) (((cap0.set ((a).toNat) (cap0.getD ((pivot).toNat) 0)).set ((pivot).toNat) (cap0.getD ((a).toNat) 0)).getD ((j).toNat) 0)) ((j).toNat) (((cap0.set ((a).toNat) (cap0.getD ((pivot).toNat) 0)).set ((pivot).toNat) (cap0.getD ((a).toNat) 0)).getD ((i).toNat) 0) (get_set_raw cI 0 ((cap0.set ((a).toNat) (cap0.getD ((pivot).toNat) 0)).set ((pivot).toNat) (cap0.getD ((a).toNat) 0)) ((i).toNat) (((cap0.set ((a).toNat) (cap0.getD ((pivot).toNat) 0)).set ((pivot).toNat) (cap0.getD ((a).toNat) 0)).getD ((j).toNat) 0) (fun _ _=>rfl))),trivial⟩ ?_
    refine Runs.sA 1 [.code (C_33 510),.code (C_33 511)] ?_
    refine Runs.sR hE ⟨[(0,(.os 0 0 (((((cap0.set ((a).toNat) (cap0.getD ((pivot).toNat) 0)).set ((pivot).toNat) (cap0.getD ((a).toNat) 0)).set ((i).toNat) (((cap0.set ((a).toNat) (cap0.getD ((pivot).toNat) 0)).set ((pivot).toNat) (cap0.getD ((a).toNat) 0)).getD ((j).toNat) 0)).set ((j).toNat) (((cap0.set ((a).toNat) (cap0.getD ((pivot).toNat) 0)).set ((pivot).toNat) (cap0.getD ((a).toNat) 0)).getD ((i).toNat) 0)).length))),(1,(aI a)),(10,(aI (w64 (i+1)))),(11,(aI j))],[(0,aO 1 cI 0 ((((cap0.set ((a).toNat) (cap0.getD ((pivot).toNat) 0)).set ((pivot).toNat) (cap0.getD ((a).toNat) 0)).set ((i).toNat) (((cap0.set ((a).toNat) (cap0.getD ((pivot).toNat) 0)).set ((pivot).toNat) (cap0.getD ((a).toNat) 0)).getD ((j).toNat) 0)).set ((j).toNat) (((cap0.set ((a).toNat) (cap0.getD ((pivot).toNat) 0)).set ((pivot).toNat) (cap0.getD ((a).toNat) 0)).getD ((i).toNat) 0)))],593⟩ (C_33 510) [] [] (kp [0,1,10,11]) (kq [0]) 593 [] trivial ?_
    refine Runs.sA 1 [.code (C_33 1022),.code (C_33 1023)] ?_
    refine Runs.sR hE ⟨[(0,(.os 0 0 (((((cap0.set ((a).toNat) (cap0.getD ((pivot).toNat) 0)).set ((pivot).toNat) (cap0.getD ((a).toNat) 0)).set ((i).toNat) (((cap0.set ((a).toNat) (cap0.getD ((pivot).toNat) 0)).set ((pivot).toNat) (cap0.getD ((a).toNat) 0)).getD ((j).toNat) 0)).set ((j).toNat) (((cap0.set ((a).toNat) (cap0.getD ((pivot).toNat) 0)).set ((pivot).toNat) (cap0.getD ((a).toNat) 0)).getD ((i).toNat) 0)).length))),(1,(aI a)),(10,(aI (w64 (i+1)))),(11,(aI (w64 (j - 1))))],[(0,aO 1 cI 0 ((((cap0.set ((a).toNat) (cap0.getD ((pivot).toNat) 0)).set ((pivot).toNat) (cap0.getD ((a).toNat) 0)).set ((i).toNat) (((cap0.set ((a).toNat) (cap0.getD ((pivot).toNat) 0)).set ((pivot).toNat) (cap0.getD ((a).toNat) 0)).getD ((j).toNat) 0)).set ((j).toNat) (((cap0.set ((a).toNat) (cap0.getD ((pivot).toNat) 0)).set ((pivot).toNat) (cap0.getD ((a).toNat) 0)).getD ((i).toNat) 0)))],641⟩ (C_33 1022) [] [] (kp [0,1,10,11]) (kq [0]) 641 [] trivial ?_
    refine Runs.sA 3 [.code (C_33 8184),.inLoop (C_33 8184),.inBlock 4,.code (C_33 2047)] ?_
    exact Runs.sW hE _ [] (kp [0,1,10,11]) (kq [0]) 1 [] trivial (g_slices_partitionOrdered_int_L3_ok N a N ((((cap0.set ((a).toNat) (cap0.getD ((pivot).toNat) 0)).set ((pivot).toNat) (cap0.getD ((a).toNat) 0)).set ((i).toNat) (((cap0.set ((a).toNat) (cap0.getD ((pivot).toNat) 0)).set ((pivot).toNat) (cap0.getD ((a).toNat) 0)).getD ((j).toNat) 0)).set ((j).toNat) (((cap0.set ((a).toNat) (cap0.getD ((pivot).toNat) 0)).set ((pivot).toNat) (cap0.getD ((a).toNat) 0)).getD ((i).toNat) 0)) (w64 (i+1)) (w64 (j - 1)) _ h E hE)
theorem g_slices_partitionOrdered_int_L1_ok (N:Nat) (a:Int) (b:Int) (pivot:Int) (cap0:List Int) (fuel:Nat):∀ (i:Int) (r:Int×Bool×(List Int)),g_slices_partitionOrdered_int_L1 N a b pivot cap0 fuel i=some r→∀ E,EnvOk E 1→Runs Try.prog E 92 168 (SPost E [(0,aO 1 cI 0 r.2.2)] (.tup [(aI r.1),(aB r.2.1)])) [.code (C_33 120),.inLoop (C_33 120),.inBlock 0,.code (C_33 31)] ⟨[(0,(.os 0 0 (((cap0.set ((a).toNat) (cap0.getD ((pivot).toNat) 0)).set ((pivot).toNat) (cap0.getD ((a).toNat) 0)).length))),(1,(aI a)),(10,(aI i)),(11,(aI (w64 (b - 1))))],[(0,aO 1 cI 0 ((cap0.set ((a).toNat) (cap0.getD ((pivot).toNat) 0)).set ((pivot).toNat) (cap0.getD ((a).toNat) 0)))],1⟩:=by
 induction fuel with
 | zero=>intro _ r h;rw [g_slices_partitionOrdered_int_L1.eq_1] at h;cases h
 | succ fuel ih =>
  intro i r h E hE
  rw [g_slices_partitionOrdered_int_L1.eq_2] at h
  refine Runs.sA 2 [.code (C_33 480),.code (C_33 481),.code (C_33 241),.inLoop (C_33 120),.inBlock 0,.code (C_33 31)] ?_
  obtain ⟨c3,h⟩:=ifSome h
  obtain ⟨c4,h⟩:=ifSome h
  obtain ⟨rLess,hr,h⟩:=bindSome h
  refine Runs.sR hE ⟨[(0,(.os 0 0 (((cap0.set ((a).toNat) (cap0.getD ((pivot).toNat) 0)).set ((pivot).toNat) (cap0.getD ((a).toNat) 0)).length))),(1,(aI a)),(10,(aI i)),(11,(aI (w64 (b - 1)))),(43,(aB (cond (decide (i≤(w64 (b - 1)))) rLess false)))],[(0,aO 1 cI 0 ((cap0.set ((a).toNat) (cap0.getD ((pivot).toNat) 0)).set ((pivot).toNat) (cap0.getD ((a).toNat) 0)))],225⟩ (C_33 480) [(12,⟨[],true,(aB rLess),[],0,false,none⟩)] [] (kp [0,1,10,11,43]) (kq [0]) 225 [(decide (i≤(w64 (b - 1))))=true→AllP [(decide (i≤(w64 (b - 1))))=true,(decide (i≤(w64 (b - 1))))=true,0≤i∧i < ((((cap0.set ((a).toNat) (cap0.getD ((pivot).toNat) 0)).set ((pivot).toNat) (cap0.getD ((a).toNat) 0)).length:Nat):Int)],(decide (i≤(w64 (b - 1))))=true→AllP [(decide (i≤(w64 (b - 1))))=true,(i).toNat < ((cap0.set ((a).toNat) (cap0.getD ((pivot).toNat) 0)).set ((pivot).toNat) (cap0.getD ((a).toNat) 0)).length],(decide (i≤(w64 (b - 1))))=true→AllP [(decide (i≤(w64 (b - 1))))=true,(decide (i≤(w64 (b - 1))))=true,0≤a∧a < ((((cap0.set ((a).toNat) (cap0.getD ((pivot).toNat) 0)).set ((pivot).toNat) (cap0.getD ((a).toNat) 0)).length:Nat):Int)],(decide (i≤(w64 (b - 1))))=true→AllP [(decide (i≤(w64 (b - 1))))=true,(a).toNat < ((cap0.set ((a).toNat) (cap0.getD ((pivot).toNat) 0)).set ((pivot).toNat) (cap0.getD ((a).toNat) 0)).length],(decide (i≤(w64 (b - 1))))=true→AllP [Sound Try.prog 90 [(aI (((cap0.set ((a).toNat) (cap0.getD ((pivot).toNat) 0)).set ((pivot).toNat) (cap0.getD ((a).toNat) 0)).getD ((i).toNat) 0)),(aI (((cap0.set ((a).toNat) (cap0.getD ((pivot).toNat) 0)).set ((pivot).toNat) (cap0.getD ((a).toNat) 0)).getD ((a).toNat) 0))] [] 0 (aB rLess) [],(decide (i≤(w64 (b - 1))))=true,(decide (i≤(w64 (b - 1))))=true],(decide (i≤(w64 (b - 1))))=true→AllP [(decide (i≤(w64 (b - 1))))=true]] ⟨(fun hg=>⟨hg,hg,(c3 hg),trivial⟩),(fun hg=>⟨hg,(ltOf (c3 hg)),trivial⟩),(fun hg=>⟨hg,hg,(c4 hg),trivial⟩),(fun hg=>⟨hg,(ltOf (c4 hg)),trivial⟩),(fun hg=>⟨(g_cmp_Less_int_ok N (((cap0.set ((a).toNat) (cap0.getD ((pivot).toNat) 0)).set ((pivot).toNat) (cap0.getD ((a).toNat) 0)).getD ((i).toNat) 0) (((cap0.set ((a).toNat) (cap0.getD ((pivot).toNat) 0)).set ((pivot).toNat) (cap0.getD ((a).toNat) 0)).getD ((a).toNat) 0) rLess (condT hr hg)),hg,hg,trivial⟩),(fun hq=>⟨hq,trivial⟩),trivial⟩ ?_
  refine Runs.sC 43 (C_33 962) (C_33 963) (cond (decide (i≤(w64 (b - 1)))) rLess false) (fun hq2=>?_) (fun hq2=>?_)
  ·have h:=condT h hq2
   refine Runs.sA 2 [.code (C_33 482),.inBlock 1,.inLoop (C_33 120),.inBlock 0,.code (C_33 31)] ?_
   refine Runs.sR hE ⟨[(0,(.os 0 0 (((cap0.set ((a).toNat) (cap0.getD ((pivot).toNat) 0)).set ((pivot).toNat) (cap0.getD ((a).toNat) 0)).length))),(1,(aI a)),(10,(aI (w64 (i+1)))),(11,(aI (w64 (b - 1))))],[(0,aO 1 cI 0 ((cap0.set ((a).toNat) (cap0.getD ((pivot).toNat) 0)).set ((pivot).toNat) (cap0.getD ((a).toNat) 0)))],273⟩ (C_33 482) [] [] (kp [0,1,10,11]) (kq [0]) 273 [] trivial ?_
   refine Runs.sA 2 [.code (C_33 120),.inLoop (C_33 120),.inBlock 0,.code (C_33 31)] ?_
   exact Runs.sW hE _ [] (kp [0,1,10,11]) (kq [0]) 1 [] trivial (ih (w64 (i+1)) _ h E hE)
  ·have h:=condF h hq2
   refine Runs.sA 4 [.code (C_33 248),.inLoop (C_33 248),.inBlock 2,.code (C_33 63)] ?_
   exact Runs.sW hE _ [] (kp [0,1,10,11]) (kq [0]) 1 [] trivial (g_slices_partitionOrdered_int_L2_ok N a pivot cap0 i N (w64 (b - 1)) _ h E hE)
theorem g_slices_partitionOrdered_int_ok (N:Nat) (a:Int) (b:Int) (pivot:Int) (cap0:List Int) (r:Int×Bool×(List Int)) (h:g_slices_partitionOrdered_int N a b pivot cap0=some r):Sound Try.prog 92 [(.os 0 0 cap0.length),(aI a),(aI b),(aI pivot)] [(0,aO 1 cI 0 cap0)] 1 (.tup [(aI r.1),(aB r.2.1)]) [(0,aO 1 cI 0 r.2.2)]:=by
 unfold g_slices_partitionOrdered_int at h
 refine Sound.of_runs (fu:=Try.f92) (c:=C_33 1) (nt:=168) (by kernel_rfl) (by kernel_rfl) (by kernel_rfl) (by kernel_rfl) (fun hm=>absurd hm (by decide)) ?_
 intro E hE
 refine Runs.sA 1 [.code (C_33 2),.code (C_33 3)] ?_
 refine Runs.sR hE ⟨[(0,(.os 0 0 cap0.length)),(1,(aI a)),(2,(aI b)),(3,(aI pivot))],[(0,aO 1 cI 0 cap0)],33⟩ (C_33 2) [] [] (kp [0,1,2,3]) (kq [0]) 33 [] trivial ?_
 refine Runs.sA 1 [.code (C_33 6),.code (C_33 7)] ?_
 obtain ⟨c,h⟩:=ifSome h
 obtain ⟨c2,h⟩:=ifSome h
 refine Runs.sR hE ⟨[(0,(.os 0 0 (((cap0.set ((a).toNat) (cap0.getD ((pivot).toNat) 0)).set ((pivot).toNat) (cap0.getD ((a).toNat) 0)).length))),(1,(aI a)),(2,(aI b))],[(0,aO 1 cI 0 ((cap0.set ((a).toNat) (cap0.getD ((pivot).toNat) 0)).set ((pivot).toNat) (cap0.getD ((a).toNat) 0)))],289⟩ (C_33 6) [] [] ([(0,.osl (((cap0.set ((a).toNat) (cap0.getD ((pivot).toNat) 0)).set ((pivot).toNat) (cap0.getD ((a).toNat) 0)).length))] ++ kp [1,2]) [(0,.arr 0 (((cap0.set ((a).toNat) (cap0.getD ((pivot).toNat) 0)).set ((pivot).toNat) (cap0.getD ((a).toNat) 0)).length) (fun zi=>cI (((cap0.set ((a).toNat) (cap0.getD ((pivot).toNat) 0)).set ((pivot).toNat) (cap0.getD ((a).toNat) 0)).getD zi 0)))] 289 [0≤pivot∧pivot < ((cap0.length:Nat):Int),(pivot).toNat < cap0.length,0≤a∧a < ((cap0.length:Nat):Int),(a).toNat < cap0.length,0≤a∧a < ((cap0.length:Nat):Int),(a).toNat < cap0.length,0≤pivot∧pivot < ((cap0.length:Nat):Int),(pivot).toNat < cap0.length,cap0.length=((cap0.set ((a).toNat) (cap0.getD ((pivot).toNat) 0)).set ((pivot).toNat) (cap0.getD ((a).toNat) 0)).length,cap0.length=((cap0.set ((a).toNat) (cap0.getD ((pivot).toNat) 0)).set ((pivot).toNat) (cap0.getD ((a).toNat) 0)).length,∀ zi,zi < ((cap0.set ((a).toNat) (cap0.getD ((pivot).toNat) 0)).set ((pivot).toNat) (cap0.getD ((a).toNat) 0)).length→(fun zi=>cI (((cap0.set ((a).toNat) (cap0.getD ((pivot).toNat) 0)).set ((pivot).toNat) (cap0.getD ((a).toNat) 0)).getD zi 0)) zi=((fun zm=>if zm=(pivot).toNat then [(aI (cap0.getD ((a).toNat) 0))] else ((fun zm=>if zm=(a).toNat then [(aI (cap0.getD ((pivot).toNat) 0))] else (fun zi=>cI (cap0.getD zi 0)) zm)) zm)) zi] ⟨c,(ltOf c),c2,(ltOf c2),c2,(ltOf c2),c,(ltOf c),(len_set_raw (len_set_raw rfl)),(len_set_raw (len_set_raw rfl)),(get_set_raw cI 0 (cap0.set ((a).toNat) (cap0.getD ((pivot).toNat) 0)) ((pivot).toNat) (cap0.getD ((a).toNat) 0) (get_set_raw cI 0 cap0 ((a).toNat) (cap0.getD ((pivot).toNat) 0) (fun _ _=>rfl))),trivial⟩ ?_
 refine Runs.sA 1 [.code (C_33 14),.code (C_33 15)] ?_
 refine Runs.sR hE ⟨[(0,(.os 0 0 (((cap0.set ((a).toNat) (cap0.getD ((pivot).toNat) 0)).set ((pivot).toNat) (cap0.getD ((a).toNat) 0)).length))),(1,(aI a)),(10,(aI (w64 (a+1)))),(11,(aI (w64 (b - 1))))],[(0,aO 1 cI 0 ((cap0.set ((a).toNat) (cap0.getD ((pivot).toNat) 0)).set ((pivot).toNat) (cap0.getD ((a).toNat) 0)))],385⟩ (C_33 14) [] [] (kp [0,1,10,11]) (kq [0]) 385 [] trivial ?_
 refine Runs.sA 3 [.code (C_33 120),.inLoop (C_33 120),.inBlock 0,.code (C_33 31)] ?_
 exact Runs.sW hE _ [] (kp [0,1,10,11]) (kq [0]) 1 [] trivial (g_slices_partitionOrdered_int_L1_ok N a b pivot cap0 N (w64 (a+1)) _ h E hE)
end Go.Den
