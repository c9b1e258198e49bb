/- Each function of the program does what its Lean function computes (part 2). No conditions. -/
import Derived.Test.YthiklnjjabfjlaaBerthStaysSa
import Derived.Test.YthiklnjjabfjlaaProg
set_option linter.unusedVariables false
set_option maxRecDepth 100000
namespace Go.Den
open Go.Ab Go.Proofs
noncomputable def C_12 (n:Nat):Code:=cat (bodyOf Try.f7) (pth n)
theorem g_water_Above_J2_ok (N:Nat) (m:List TMark) (level:Int) (vfrom:Int) (vto:Int) (x:Int) (K_g_water_Above_L1:(List Int)→Int→Option ((List TS__2_int)×Int))
  (hK_g_water_Above_L1:∀ (corners:List Int) (x:Int) (r:(List TS__2_int)×Int),K_g_water_Above_L1 corners x=some r→∀ E,EnvOk E 0→Runs Try.prog E 7 128 (SPost E [] (.tup [(encL TS__2_int.cells TS__2_int.d r.1),(aI r.2)])) [.code (C_12 1012),.inLoop (C_12 1012),.inBlock 1,.code (C_12 127)] ⟨[(2,(aI vfrom)),(3,(aI vto)),(11,(.op 0 0 0)),(12,(.os 3 0 corners.length)),(47,(encL TMark.cells TMark.d m)),(48,(aI ((m.length:Nat):Int))),(49,(aI x))],[(0,vN 1 [(.fn (.func 29) [] [(.op 1 0 0),(.op 2 0 0)])]),(1,vO 1 [(encL TMark.cells TMark.d m)]),(2,vO 1 [(aI level)]),(3,aO 1 cI 0 corners)],4⟩) (corners2:List Int) (r:(List TS__2_int)×Int) (h:g_water_Above_J2 N m level vfrom vto x K_g_water_Above_L1 corners2=some r):∀ E,EnvOk E 0→Runs Try.prog E 7 128 (SPost E [] (.tup [(encL TS__2_int.cells TS__2_int.d r.1),(aI r.2)])) [.code (C_12 8103),.inLoop (C_12 1012),.inBlock 1,.code (C_12 127)] ⟨[(2,(aI vfrom)),(3,(aI vto)),(11,(.op 0 0 0)),(12,(.os 3 0 corners2.length)),(47,(encL TMark.cells TMark.d m)),(48,(aI ((m.length:Nat):Int))),(49,(aI x))],[(0,vN 1 [(.fn (.func 29) [] [(.op 1 0 0),(.op 2 0 0)])]),(1,vO 1 [(encL TMark.cells TMark.d m)]),(2,vO 1 [(aI level)]),(3,aO 1 cI 0 corners2)],4⟩:=by
 intro E hE
 unfold g_water_Above_J2 at h
 refine Runs.sR hE ⟨[(2,(aI vfrom)),(3,(aI vto)),(11,(.op 0 0 0)),(12,(.os 3 0 corners2.length)),(47,(encL TMark.cells TMark.d m)),(48,(aI ((m.length:Nat):Int))),(49,(aI (w64 (x+1))))],[(0,vN 1 [(.fn (.func 29) [] [(.op 1 0 0),(.op 2 0 0)])]),(1,vO 1 [(encL TMark.cells TMark.d m)]),(2,vO 1 [(aI level)]),(3,aO 1 cI 0 corners2)],36⟩ (C_12 8103) [] [] (kp [2,3,11,12,47,48,49]) (kq [0,1,2,3]) 36 [] trivial ?_
 refine Runs.sA 1 [.code (C_12 1012),.inLoop (C_12 1012),.inBlock 1,.code (C_12 127)] ?_
 exact Runs.sW hE _ [] (kp [2,3,11,12,47,48,49]) (kq [0,1,2,3]) 4 [] trivial (hK_g_water_Above_L1 corners2 (w64 (x+1)) _ h E hE)
theorem g_water_Above_J4_ok (N:Nat) (m:List TMark) (level:Int) (rSort:(List Int)) (x2:Int) (K_g_water_Above_L3:(List TS__2_int)→Int→Option ((List TS__2_int)×Int))
  (hK_g_water_Above_L3:∀ (out:List TS__2_int) (x2:Int) (r:(List TS__2_int)×Int),K_g_water_Above_L3 out x2=some r→∀ E,EnvOk E 0→Runs Try.prog E 7 128 (SPost E [] (.tup [(encL TS__2_int.cells TS__2_int.d r.1),(aI r.2)])) [.code (C_12 16372),.inLoop (C_12 16372),.inBlock 3,.code (C_12 2047)] ⟨[(11,(.op 0 0 0)),(12,(.os 3 0 rSort.length)),(15,(.op 4 0 0)),(16,(.fn (.func 32) [] [(.op 4 0 0)])),(73,(.os 3 1 (rSort.length - 1))),(74,(aI (((rSort.length - 1):Nat):Int))),(75,(aI x2))],[(0,vN 1 [(.fn (.func 29) [] [(.op 1 0 0),(.op 2 0 0)])]),(1,vO 1 [(encL TMark.cells TMark.d m)]),(2,vO 1 [(aI level)]),(3,aO 1 cI 0 rSort),(4,vN 1 [(.os 5 0 out.length)]),(5,aO 2 TS__2_int.cells TS__2_int.d out)],6⟩) (out2:List TS__2_int) (r:(List TS__2_int)×Int) (h:g_water_Above_J4 N m level rSort x2 K_g_water_Above_L3 out2=some r):∀ E,EnvOk E 0→Runs Try.prog E 7 128 (SPost E [] (.tup [(encL TS__2_int.cells TS__2_int.d r.1),(aI r.2)])) [.code (C_12 130983),.inLoop (C_12 16372),.inBlock 3,.code (C_12 2047)] ⟨[(11,(.op 0 0 0)),(12,(.os 3 0 rSort.length)),(15,(.op 4 0 0)),(16,(.fn (.func 32) [] [(.op 4 0 0)])),(73,(.os 3 1 (rSort.length - 1))),(74,(aI (((rSort.length - 1):Nat):Int))),(75,(aI x2))],[(0,vN 1 [(.fn (.func 29) [] [(.op 1 0 0),(.op 2 0 0)])]),(1,vO 1 [(encL TMark.cells TMark.d m)]),(2,vO 1 [(aI level)]),(3,aO 1 cI 0 rSort),(4,vN 1 [(.os 5 0 out2.length)]),(5,aO 2 TS__2_int.cells TS__2_int.d out2)],6⟩:=by
 intro E hE
 unfold g_water_Above_J4 at h
 refine Runs.sR hE ⟨[(11,(.op 0 0 0)),(12,(.os 3 0 rSort.length)),(15,(.op 4 0 0)),(16,(.fn (.func 32) [] [(.op 4 0 0)])),(73,(.os 3 1 (rSort.length - 1))),(74,(aI (((rSort.length - 1):Nat):Int))),(75,(aI (w64 (x2+1))))],[(0,vN 1 [(.fn (.func 29) [] [(.op 1 0 0),(.op 2 0 0)])]),(1,vO 1 [(encL TMark.cells TMark.d m)]),(2,vO 1 [(aI level)]),(3,aO 1 cI 0 rSort),(4,vN 1 [(.os 5 0 out2.length)]),(5,aO 2 TS__2_int.cells TS__2_int.d out2)],38⟩ (C_12 130983) [] [] (kp [11,12,15,16,73,74,75]) (kq [0,1,2,3,4,5]) 38 [] trivial ?_
 refine Runs.sA 1 [.code (C_12 16372),.inLoop (C_12 16372),.inBlock 3,.code (C_12 2047)] ?_
 exact Runs.sW hE _ [] (kp [11,12,15,16,73,74,75]) (kq [0,1,2,3,4,5]) 6 [] trivial (hK_g_water_Above_L3 out2 (w64 (x2+1)) _ h E hE)
theorem g_water_Above_L3_ok (N:Nat) (m:List TMark) (level:Int) (rSort:(List Int)) (fuel:Nat):∀ (out:List TS__2_int) (x2:Int) (r:(List TS__2_int)×Int),g_water_Above_L3 N m level rSort fuel out x2=some r→∀ E,EnvOk E 0→Runs Try.prog E 7 128 (SPost E [] (.tup [(encL TS__2_int.cells TS__2_int.d r.1),(aI r.2)])) [.code (C_12 16372),.inLoop (C_12 16372),.inBlock 3,.code (C_12 2047)] ⟨[(11,(.op 0 0 0)),(12,(.os 3 0 rSort.length)),(15,(.op 4 0 0)),(16,(.fn (.func 32) [] [(.op 4 0 0)])),(73,(.os 3 1 (rSort.length - 1))),(74,(aI (((rSort.length - 1):Nat):Int))),(75,(aI x2))],[(0,vN 1 [(.fn (.func 29) [] [(.op 1 0 0),(.op 2 0 0)])]),(1,vO 1 [(encL TMark.cells TMark.d m)]),(2,vO 1 [(aI level)]),(3,aO 1 cI 0 rSort),(4,vN 1 [(.os 5 0 out.length)]),(5,aO 2 TS__2_int.cells TS__2_int.d out)],6⟩:=by
 induction fuel with
 | zero=>intro _ _ r h;rw [g_water_Above_L3.eq_1] at h;cases h
 | succ fuel ih =>
  intro out x2 r h E hE
  rw [g_water_Above_L3.eq_2] at h
  refine Runs.sA 1 [.code (C_12 32744),.code (C_12 32745),.inLoop (C_12 16372),.inBlock 3,.code (C_12 2047)] ?_
  refine Runs.sR hE ⟨[(11,(.op 0 0 0)),(12,(.os 3 0 rSort.length)),(15,(.op 4 0 0)),(16,(.fn (.func 32) [] [(.op 4 0 0)])),(73,(.os 3 1 (rSort.length - 1))),(74,(aI (((rSort.length - 1):Nat):Int))),(75,(aI x2)),(76,(aB (decide (x2 < (((rSort.length - 1):Nat):Int)))))],[(0,vN 1 [(.fn (.func 29) [] [(.op 1 0 0),(.op 2 0 0)])]),(1,vO 1 [(encL TMark.cells TMark.d m)]),(2,vO 1 [(aI level)]),(3,aO 1 cI 0 rSort),(4,vN 1 [(.os 5 0 out.length)]),(5,aO 2 TS__2_int.cells TS__2_int.d out)],22⟩ (C_12 32744) [] [] (kp [11,12,15,16,73,74,75,76]) (kq [0,1,2,3,4,5]) 22 [] trivial ?_
  refine Runs.sA 1 [.code (C_12 65490),.code (C_12 65491),.inLoop (C_12 16372),.inBlock 3,.code (C_12 2047)] ?_
  refine Runs.sC 76 (C_12 130980) (C_12 130981) (decide (x2 < (((rSort.length - 1):Nat):Int))) (fun hq7=>?_) (fun hq7=>?_)
  ·have h:=condT h hq7
   refine Runs.sA 4 [.code (C_12 523928),.code (C_12 523929),.inBlock 4,.code (C_12 130983),.inLoop (C_12 16372),.inBlock 3,.code (C_12 2047)] ?_
   obtain ⟨c5,h⟩:=ifSome h
   obtain ⟨c6,h⟩:=ifSome h
   refine Runs.sR hE ⟨[(11,(.op 0 0 0)),(12,(.os 3 0 rSort.length)),(15,(.op 4 0 0)),(16,(.fn (.func 32) [] [(.op 4 0 0)])),(17,(aI x2)),(18,(aI (rSort.getD (addz 1 (x2).toNat) 0))),(73,(.os 3 1 (rSort.length - 1))),(74,(aI (((rSort.length - 1):Nat):Int))),(75,(aI x2))],[(0,vN 1 [(.fn (.func 29) [] [(.op 1 0 0),(.op 2 0 0)])]),(1,vO 1 [(encL TMark.cells TMark.d m)]),(2,vO 1 [(aI level)]),(3,aO 1 cI 0 rSort),(4,vN 1 [(.os 5 0 out.length)]),(5,aO 2 TS__2_int.cells TS__2_int.d out)],102⟩ (C_12 523928) [] [] (kp [11,12,15,16,17,18,73,74,75]) (kq [0,1,2,3,4,5]) 102 [0≤x2∧x2 < (((rSort.length - 1):Nat):Int),(addz 1 (x2).toNat) < rSort.length] ⟨c5,(by have h1:=c5;have h2:=c6;simp only [addz_eq];omega),trivial⟩ ?_
   refine Runs.sA 1 [.code (C_12 1047858),.code (C_12 1047859),.inBlock 4,.code (C_12 130983),.inLoop (C_12 16372),.inBlock 3,.code (C_12 2047)] ?_
   obtain ⟨c7,h⟩:=ifSome h
   refine Runs.sR hE ⟨[(11,(.op 0 0 0)),(12,(.os 3 0 rSort.length)),(15,(.op 4 0 0)),(16,(.fn (.func 32) [] [(.op 4 0 0)])),(18,(aI (rSort.getD (addz 1 (x2).toNat) 0))),(19,(.op 166 0 0)),(73,(.os 3 1 (rSort.length - 1))),(74,(aI (((rSort.length - 1):Nat):Int))),(75,(aI x2))],[(0,vN 1 [(.fn (.func 29) [] [(.op 1 0 0),(.op 2 0 0)])]),(1,vO 1 [(encL TMark.cells TMark.d m)]),(2,vO 1 [(aI level)]),(3,aO 1 cI 0 rSort),(4,vN 1 [(.os 5 0 out.length)]),(5,aO 2 TS__2_int.cells TS__2_int.d out),(166,vO 1 [(aI (rSort.getD ((x2).toNat) 0))])],198⟩ (C_12 1047858) [] [] (kp [11,12,15,16,18,19,73,74,75]) (kq [0,1,2,3,4,5,166]) 198 [0≤x2∧x2 < ((rSort.length:Nat):Int),(x2).toNat < rSort.length,0 < 1] ⟨c7,(ltOf c7),o1,trivial⟩ ?_
   refine Runs.sA 2 [.code (C_12 4191436),.code (C_12 4191437),.inBlock 5,.inBlock 4,.code (C_12 130983),.inLoop (C_12 16372),.inBlock 3,.code (C_12 2047)] ?_
   obtain ⟨rAbove1,hr5,h⟩:=bindSome h
   obtain ⟨rAbove12,hr6,h⟩:=bindSome h
   refine Runs.sR hE ⟨[(11,(.op 0 0 0)),(12,(.os 3 0 rSort.length)),(15,(.op 4 0 0)),(16,(.fn (.func 32) [] [(.op 4 0 0)])),(18,(aI (rSort.getD (addz 1 (x2).toNat) 0))),(19,(.op 166 0 0)),(73,(.os 3 1 (rSort.length - 1))),(74,(aI (((rSort.length - 1):Nat):Int))),(75,(aI x2)),(84,(aB (cond rAbove1 rAbove12 false)))],[(0,vN 1 [(.fn (.func 29) [] [(.op 1 0 0),(.op 2 0 0)])]),(1,vO 1 [(encL TMark.cells TMark.d m)]),(2,vO 1 [(aI level)]),(3,aO 1 cI 0 rSort),(4,vN 1 [(.os 5 0 out.length)]),(5,aO 2 TS__2_int.cells TS__2_int.d out),(166,vO 1 [(aI (rSort.getD ((x2).toNat) 0))])],342⟩ (C_12 4191436) [(2,⟨[1,2],true,(aB rAbove1),[],0,false,none⟩),(6,⟨[1,2],true,(aB rAbove12),[],0,false,none⟩)] [] (kp [11,12,15,16,18,19,73,74,75,84]) (kq [0,1,2,3,4,5,166]) 342 [0 < 1,0 < 1,Sound Try.prog 29 [(aI (rSort.getD ((x2).toNat) 0)),(.op 0 0 0),(.op 1 0 0)] [(0,vO 1 [(encL TMark.cells TMark.d m)]),(1,vO 1 [(aI level)])] 2 (aB rAbove1) [(0,vO 1 [(encL TMark.cells TMark.d m)]),(1,vO 1 [(aI level)])],rAbove1=true→AllP [0 < 1],rAbove1=true→AllP [Sound Try.prog 29 [(aI (rSort.getD (addz 1 (x2).toNat) 0)),(.op 0 0 0),(.op 1 0 0)] [(0,vO 1 [(encL TMark.cells TMark.d m)]),(1,vO 1 [(aI level)])] 2 (aB rAbove12) [(0,vO 1 [(encL TMark.cells TMark.d m)]),(1,vO 1 [(aI level)])],rAbove1=true,rAbove1=true],rAbove1=true→AllP [rAbove1=true]] ⟨o1,o1,(g_water_Above_1_ok N (rSort.getD ((x2).toNat) 0) m level rAbove1 hr5),(fun hg=>⟨o1,trivial⟩),(fun hg=>⟨(g_water_Above_1_ok N (rSort.getD (addz 1 (x2).toNat) 0) m level rAbove12 (condT hr6 hg)),hg,hg,trivial⟩),(fun hq=>⟨hq,trivial⟩),trivial⟩ ?_
   refine Runs.sC 84 (C_12 8382874) (C_12 8382875) (cond rAbove1 rAbove12 false) (fun hq8=>?_) (fun hq8=>?_)
   ·have h:=condT h hq8
    obtain ⟨rAbove2,hr7,h⟩:=bindSome h
    refine Runs.sR hE ⟨[(11,(.op 0 0 0)),(12,(.os 3 0 rSort.length)),(15,(.op 4 0 0)),(16,(.fn (.func 32) [] [(.op 4 0 0)])),(73,(.os 3 1 (rSort.length - 1))),(74,(aI (((rSort.length - 1):Nat):Int))),(75,(aI x2))],[(0,vN 1 [(.fn (.func 29) [] [(.op 1 0 0),(.op 2 0 0)])]),(1,vO 1 [(encL TMark.cells TMark.d m)]),(2,vO 1 [(aI level)]),(3,aO 1 cI 0 rSort),(4,vN 1 [(.os 390 0 rAbove2.length)]),(390,aO 2 TS__2_int.cells TS__2_int.d rAbove2)],406⟩ (C_12 8382874) [(3,⟨[4,5],false,(.tup []),[(0,vN 1 [(.os 2 0 rAbove2.length)]),(2,aO 2 TS__2_int.cells TS__2_int.d rAbove2)],0,false,none⟩)] [] (kp [11,12,15,16,73,74,75]) (kq [0,1,2,3,4,390]) 406 [0 < 1,Sound Try.prog 32 [(aI (rSort.getD ((x2).toNat) 0)),(aI (rSort.getD (addz 1 (x2).toNat) 0)),(.op 0 0 0)] [(0,vN 1 [(.os 1 0 out.length)]),(1,aO 2 TS__2_int.cells TS__2_int.d out)] 2 (.tup []) [(0,vN 1 [(.os 2 0 rAbove2.length)]),(2,aO 2 TS__2_int.cells TS__2_int.d rAbove2)]] ⟨o1,(g_water_Above_2_ok N (rSort.getD ((x2).toNat) 0) (rSort.getD (addz 1 (x2).toNat) 0) out rAbove2 hr7),trivial⟩ ?_
    refine Runs.sA 2 [.code (C_12 130983),.inLoop (C_12 16372),.inBlock 3,.code (C_12 2047)] ?_
    exact Runs.sW hE _ [] (kp [11,12,15,16,73,74,75]) (kq [0,1,2,3,4] ++ [(5,.keep 390)]) 6 [] trivial (g_water_Above_J4_ok N m level rSort x2 (g_water_Above_L3 N m level rSort fuel) ih rAbove2 _ h E hE)
   ·have h:=condF h hq8
    refine Runs.sA 1 [.code (C_12 16765750),.code (C_12 16765751),.inBlock 5,.inBlock 4,.code (C_12 130983),.inLoop (C_12 16372),.inBlock 3,.code (C_12 2047)] ?_
    obtain ⟨rAbove13,hr8,h⟩:=bindSome h
    refine Runs.sR hE ⟨[(11,(.op 0 0 0)),(12,(.os 3 0 rSort.length)),(15,(.op 4 0 0)),(16,(.fn (.func 32) [] [(.op 4 0 0)])),(18,(aI (rSort.getD (addz 1 (x2).toNat) 0))),(19,(.op 166 0 0)),(73,(.os 3 1 (rSort.length - 1))),(74,(aI (((rSort.length - 1):Nat):Int))),(75,(aI x2)),(97,(aB rAbove13))],[(0,vN 1 [(.fn (.func 29) [] [(.op 1 0 0),(.op 2 0 0)])]),(1,vO 1 [(encL TMark.cells TMark.d m)]),(2,vO 1 [(aI level)]),(3,aO 1 cI 0 rSort),(4,vN 1 [(.os 5 0 out.length)]),(5,aO 2 TS__2_int.cells TS__2_int.d out),(166,vO 1 [(aI (rSort.getD ((x2).toNat) 0))])],406⟩ (C_12 16765750) [(2,⟨[1,2],true,(aB rAbove13),[],0,false,none⟩)] [] (kp [11,12,15,16,18,19,73,74,75,97]) (kq [0,1,2,3,4,5,166]) 406 [0 < 1,0 < 1,Sound Try.prog 29 [(aI (rSort.getD ((x2).toNat) 0)),(.op 0 0 0),(.op 1 0 0)] [(0,vO 1 [(encL TMark.cells TMark.d m)]),(1,vO 1 [(aI level)])] 2 (aB rAbove13) [(0,vO 1 [(encL TMark.cells TMark.d m)]),(1,vO 1 [(aI level)])]] ⟨o1,o1,(g_water_Above_1_ok N (rSort.getD ((x2).toNat) 0) m level rAbove13 hr8),trivial⟩ ?_
    refine Runs.sC 97 (C_12 33531502) (C_12 33531503) rAbove13 (fun hq9=>?_) (fun hq9=>?_)
    ·have h:=condT h hq9
     obtain ⟨rSearch,hr9,h⟩:=bindSome h
     obtain ⟨rAbove22,hr10,h⟩:=bindSome h
     refine Runs.sR hE ⟨[(11,(.op 0 0 0)),(12,(.os 3 0 rSort.length)),(15,(.op 4 0 0)),(16,(.fn (.func 32) [] [(.op 4 0 0)])),(73,(.os 3 1 (rSort.length - 1))),(74,(aI (((rSort.length - 1):Nat):Int))),(75,(aI x2))],[(0,vN 1 [(.fn (.func 29) [] [(.op 1 0 0),(.op 2 0 0)])]),(1,vO 1 [(encL TMark.cells TMark.d m)]),(2,vO 1 [(aI level)]),(3,aO 1 cI 0 rSort),(4,vN 1 [(.os 566 0 rAbove22.length)]),(566,aO 2 TS__2_int.cells TS__2_int.d rAbove22)],582⟩ (C_12 33531502) [(8,⟨[0,1,2,166],true,(aI rSearch),[],0,false,none⟩),(10,⟨[4,5],false,(.tup []),[(0,vN 1 [(.os 2 0 rAbove22.length)]),(2,aO 2 TS__2_int.cells TS__2_int.d rAbove22)],0,false,none⟩)] [] (kp [11,12,15,16,73,74,75]) (kq [0,1,2,3,4,566]) 582 [0 < 1,0 < 1,0 < 1,Sound Try.prog 33 [(aI (w64 ((rSort.getD (addz 1 (x2).toNat) 0) - (rSort.getD ((x2).toNat) 0)))),(.fn (.func 34) [] [(.op 0 0 0),(.op 3 0 0)])] [(0,vN 1 [(.fn (.func 29) [] [(.op 1 0 0),(.op 2 0 0)])]),(1,vO 1 [(encL TMark.cells TMark.d m)]),(2,vO 1 [(aI level)]),(3,vO 1 [(aI (rSort.getD ((x2).toNat) 0))])] 4 (aI rSearch) [(0,vN 1 [(.fn (.func 29) [] [(.op 1 0 0),(.op 2 0 0)])]),(1,vO 1 [(encL TMark.cells TMark.d m)]),(2,vO 1 [(aI level)]),(3,vO 1 [(aI (rSort.getD ((x2).toNat) 0))])],Sound Try.prog 32 [(aI (rSort.getD ((x2).toNat) 0)),(aI (w64 ((w64 ((rSort.getD ((x2).toNat) 0) - 1))+rSearch))),(.op 0 0 0)] [(0,vN 1 [(.os 1 0 out.length)]),(1,aO 2 TS__2_int.cells TS__2_int.d out)] 2 (.tup []) [(0,vN 1 [(.os 2 0 rAbove22.length)]),(2,aO 2 TS__2_int.cells TS__2_int.d rAbove22)]] ⟨o1,o1,o1,(g_sort_Search_v2_ok N (w64 ((rSort.getD (addz 1 (x2).toNat) 0) - (rSort.getD ((x2).toNat) 0))) m level (rSort.getD ((x2).toNat) 0) rSearch hr9),(g_water_Above_2_ok N (rSort.getD ((x2).toNat) 0) (w64 ((w64 ((rSort.getD ((x2).toNat) 0) - 1))+rSearch)) out rAbove22 hr10),trivial⟩ ?_
     refine Runs.sA 2 [.code (C_12 130983),.inLoop (C_12 16372),.inBlock 3,.code (C_12 2047)] ?_
     exact Runs.sW hE _ [] (kp [11,12,15,16,73,74,75]) (kq [0,1,2,3,4] ++ [(5,.keep 566)]) 6 [] trivial (g_water_Above_J4_ok N m level rSort x2 (g_water_Above_L3 N m level rSort fuel) ih rAbove22 _ h E hE)
    ·have h:=condF h hq9
     refine Runs.sA 1 [.code (C_12 67063006),.code (C_12 67063007),.inBlock 5,.inBlock 4,.code (C_12 130983),.inLoop (C_12 16372),.inBlock 3,.code (C_12 2047)] ?_
     obtain ⟨rAbove14,hr11,h⟩:=bindSome h
     refine Runs.sR hE ⟨[(11,(.op 0 0 0)),(12,(.os 3 0 rSort.length)),(15,(.op 4 0 0)),(16,(.fn (.func 32) [] [(.op 4 0 0)])),(18,(aI (rSort.getD (addz 1 (x2).toNat) 0))),(19,(.op 166 0 0)),(73,(.os 3 1 (rSort.length - 1))),(74,(aI (((rSort.length - 1):Nat):Int))),(75,(aI x2)),(112,(aB rAbove14))],[(0,vN 1 [(.fn (.func 29) [] [(.op 1 0 0),(.op 2 0 0)])]),(1,vO 1 [(encL TMark.cells TMark.d m)]),(2,vO 1 [(aI level)]),(3,aO 1 cI 0 rSort),(4,vN 1 [(.os 5 0 out.length)]),(5,aO 2 TS__2_int.cells TS__2_int.d out),(166,vO 1 [(aI (rSort.getD ((x2).toNat) 0))])],470⟩ (C_12 67063006) [(2,⟨[1,2],true,(aB rAbove14),[],0,false,none⟩)] [] (kp [11,12,15,16,18,19,73,74,75,112]) (kq [0,1,2,3,4,5,166]) 470 [0 < 1,Sound Try.prog 29 [(aI (rSort.getD (addz 1 (x2).toNat) 0)),(.op 0 0 0),(.op 1 0 0)] [(0,vO 1 [(encL TMark.cells TMark.d m)]),(1,vO 1 [(aI level)])] 2 (aB rAbove14) [(0,vO 1 [(encL TMark.cells TMark.d m)]),(1,vO 1 [(aI level)])]] ⟨o1,(g_water_Above_1_ok N (rSort.getD (addz 1 (x2).toNat) 0) m level rAbove14 hr11),trivial⟩ ?_
     refine Runs.sC 112 (C_12 134126014) (C_12 134126015) rAbove14 (fun hq10=>?_) (fun hq10=>?_)
     ·have h:=condT h hq10
      obtain ⟨rSearch2,hr12,h⟩:=bindSome h
      obtain ⟨rAbove23,hr13,h⟩:=bindSome h
      refine Runs.sR hE ⟨[(11,(.op 0 0 0)),(12,(.os 3 0 rSort.length)),(15,(.op 4 0 0)),(16,(.fn (.func 32) [] [(.op 4 0 0)])),(73,(.os 3 1 (rSort.length - 1))),(74,(aI (((rSort.length - 1):Nat):Int))),(75,(aI x2))],[(0,vN 1 [(.fn (.func 29) [] [(.op 1 0 0),(.op 2 0 0)])]),(1,vO 1 [(encL TMark.cells TMark.d m)]),(2,vO 1 [(aI level)]),(3,aO 1 cI 0 rSort),(4,vN 1 [(.os 614 0 rAbove23.length)]),(614,aO 2 TS__2_int.cells TS__2_int.d rAbove23)],630⟩ (C_12 134126014) [(6,⟨[0,1,2,166],true,(aI rSearch2),[],0,false,none⟩),(9,⟨[4,5],false,(.tup []),[(0,vN 1 [(.os 2 0 rAbove23.length)]),(2,aO 2 TS__2_int.cells TS__2_int.d rAbove23)],0,false,none⟩)] [] (kp [11,12,15,16,73,74,75]) (kq [0,1,2,3,4,614]) 630 [0 < 1,0 < 1,Sound Try.prog 33 [(aI (w64 ((rSort.getD (addz 1 (x2).toNat) 0) - (rSort.getD ((x2).toNat) 0)))),(.fn (.func 35) [] [(.op 0 0 0),(.op 3 0 0)])] [(0,vN 1 [(.fn (.func 29) [] [(.op 1 0 0),(.op 2 0 0)])]),(1,vO 1 [(encL TMark.cells TMark.d m)]),(2,vO 1 [(aI level)]),(3,vO 1 [(aI (rSort.getD ((x2).toNat) 0))])] 4 (aI rSearch2) [(0,vN 1 [(.fn (.func 29) [] [(.op 1 0 0),(.op 2 0 0)])]),(1,vO 1 [(encL TMark.cells TMark.d m)]),(2,vO 1 [(aI level)]),(3,vO 1 [(aI (rSort.getD ((x2).toNat) 0))])],Sound Try.prog 32 [(aI (w64 ((rSort.getD ((x2).toNat) 0)+rSearch2))),(aI (rSort.getD (addz 1 (x2).toNat) 0)),(.op 0 0 0)] [(0,vN 1 [(.os 1 0 out.length)]),(1,aO 2 TS__2_int.cells TS__2_int.d out)] 2 (.tup []) [(0,vN 1 [(.os 2 0 rAbove23.length)]),(2,aO 2 TS__2_int.cells TS__2_int.d rAbove23)]] ⟨o1,o1,(g_sort_Search_v3_ok N (w64 ((rSort.getD (addz 1 (x2).toNat) 0) - (rSort.getD ((x2).toNat) 0))) m level (rSort.getD ((x2).toNat) 0) rSearch2 hr12),(g_water_Above_2_ok N (w64 ((rSort.getD ((x2).toNat) 0)+rSearch2)) (rSort.getD (addz 1 (x2).toNat) 0) out rAbove23 hr13),trivial⟩ ?_
      refine Runs.sA 2 [.code (C_12 130983),.inLoop (C_12 16372),.inBlock 3,.code (C_12 2047)] ?_
      exact Runs.sW hE _ [] (kp [11,12,15,16,73,74,75]) (kq [0,1,2,3,4] ++ [(5,.keep 614)]) 6 [] trivial (g_water_Above_J4_ok N m level rSort x2 (g_water_Above_L3 N m level rSort fuel) ih rAbove23 _ h E hE)
     ·have h:=condF h hq10
      refine Runs.sA 3 [.code (C_12 130983),.inLoop (C_12 16372),.inBlock 3,.code (C_12 2047)] ?_
      exact Runs.sW hE _ [] (kp [11,12,15,16,73,74,75]) (kq [0,1,2,3,4,5]) 6 [] trivial (g_water_Above_J4_ok N m level rSort x2 (g_water_Above_L3 N m level rSort fuel) ih out _ h E hE)
  ·have h:=condF h hq7
   refine Runs.sA 2 [.code (C_12 4094),.code (C_12 4095)] ?_
   refine Runs.sR hE ⟨[(8,(.os 5 0 out.length)),(9,(aI 0))],[(5,aO 2 TS__2_int.cells TS__2_int.d out)],70⟩ (C_12 4094) [] [] (kp [8,9]) (kq [5]) 70 [0 < 1] ⟨o1,trivial⟩ ?_
   obtain rfl:=Option.some.inj h
   refine Runs.sW hE ⟨[(8,(encL TS__2_int.cells TS__2_int.d out)),(9,(aI 0))],[],70⟩ [5] ([(8,.sl (out.length) (fun zi=>TS__2_int.cells (out.getD zi TS__2_int.d)))] ++ kp [9]) [] 70 [out.length=out.length,0+out.length≤out.length,∀ zi,zi < out.length→(fun zi=>TS__2_int.cells (out.getD zi TS__2_int.d)) zi=(fun zi=>TS__2_int.cells (out.getD zi TS__2_int.d)) (addz 0 zi)] ⟨rfl,z0,(fun _ _=>rfl),trivial⟩ ?_
   exact Runs.sT Try.f7 [] [] trivial
theorem g_water_Above_L1_ok (N:Nat) (m:List TMark) (level:Int) (vfrom:Int) (vto:Int) (fuel:Nat):∀ (corners:List Int) (x:Int) (r:(List TS__2_int)×Int),g_water_Above_L1 N m level vfrom vto fuel corners x=some r→∀ E,EnvOk E 0→Runs Try.prog E 7 128 (SPost E [] (.tup [(encL TS__2_int.cells TS__2_int.d r.1),(aI r.2)])) [.code (C_12 1012),.inLoop (C_12 1012),.inBlock 1,.code (C_12 127)] ⟨[(2,(aI vfrom)),(3,(aI vto)),(11,(.op 0 0 0)),(12,(.os 3 0 corners.length)),(47,(encL TMark.cells TMark.d m)),(48,(aI ((m.length:Nat):Int))),(49,(aI x))],[(0,vN 1 [(.fn (.func 29) [] [(.op 1 0 0),(.op 2 0 0)])]),(1,vO 1 [(encL TMark.cells TMark.d m)]),(2,vO 1 [(aI level)]),(3,aO 1 cI 0 corners)],4⟩:=by
 induction fuel with
 | zero=>intro _ _ r h;rw [g_water_Above_L1.eq_1] at h;cases h
 | succ fuel ih =>
  intro corners x r h E hE
  rw [g_water_Above_L1.eq_2] at h
  refine Runs.sA 1 [.code (C_12 2024),.code (C_12 2025),.inLoop (C_12 1012),.inBlock 1,.code (C_12 127)] ?_
  refine Runs.sR hE ⟨[(2,(aI vfrom)),(3,(aI vto)),(11,(.op 0 0 0)),(12,(.os 3 0 corners.length)),(47,(encL TMark.cells TMark.d m)),(48,(aI ((m.length:Nat):Int))),(49,(aI x)),(50,(aB (decide (x < ((m.length:Nat):Int)))))],[(0,vN 1 [(.fn (.func 29) [] [(.op 1 0 0),(.op 2 0 0)])]),(1,vO 1 [(encL TMark.cells TMark.d m)]),(2,vO 1 [(aI level)]),(3,aO 1 cI 0 corners)],20⟩ (C_12 2024) [] [] (kp [2,3,11,12,47,48,49,50]) (kq [0,1,2,3]) 20 [] trivial ?_
  refine Runs.sA 1 [.code (C_12 4050),.code (C_12 4051),.inLoop (C_12 1012),.inBlock 1,.code (C_12 127)] ?_
  refine Runs.sC 50 (C_12 8100) (C_12 8101) (decide (x < ((m.length:Nat):Int))) (fun hq5=>?_) (fun hq5=>?_)
  ·have h:=condT h hq5
   refine Runs.sA 4 [.code (C_12 32408),.code (C_12 32409),.inBlock 2,.code (C_12 8103),.inLoop (C_12 1012),.inBlock 1,.code (C_12 127)] ?_
   obtain ⟨c,h⟩:=ifSome h
   refine Runs.sR hE ⟨[(2,(aI vfrom)),(3,(aI vto)),(11,(.op 0 0 0)),(12,(.os 3 0 corners.length)),(14,(.op 52 0 0)),(47,(encL TMark.cells TMark.d m)),(48,(aI ((m.length:Nat):Int))),(49,(aI x))],[(0,vN 1 [(.fn (.func 29) [] [(.op 1 0 0),(.op 2 0 0)])]),(1,vO 1 [(encL TMark.cells TMark.d m)]),(2,vO 1 [(aI level)]),(3,aO 1 cI 0 corners),(52,vO 2 (TMark.cells (m.getD ((x).toNat) TMark.d)))],84⟩ (C_12 32408) [] [] (kp [2,3,11,12,14,47,48,49]) (kq [0,1,2,3,52]) 84 [0≤x∧x < ((m.length:Nat):Int),0 < 1] ⟨c,o1,trivial⟩ ?_
   refine Runs.sA 1 [.code (C_12 64818),.code (C_12 64819),.inBlock 2,.code (C_12 8103),.inLoop (C_12 1012),.inBlock 1,.code (C_12 127)] ?_
   refine Runs.sR hE ⟨[(2,(aI vfrom)),(3,(aI vto)),(11,(.op 0 0 0)),(12,(.os 3 0 corners.length)),(14,(.op 52 0 0)),(47,(encL TMark.cells TMark.d m)),(48,(aI ((m.length:Nat):Int))),(49,(aI x)),(62,(aB (cond (decide ((m.getD ((x).toNat) TMark.d).f_Minute > vfrom)) (decide ((m.getD ((x).toNat) TMark.d).f_Minute < vto)) false)))],[(0,vN 1 [(.fn (.func 29) [] [(.op 1 0 0),(.op 2 0 0)])]),(1,vO 1 [(encL TMark.cells TMark.d m)]),(2,vO 1 [(aI level)]),(3,aO 1 cI 0 corners),(52,vO 2 (TMark.cells (m.getD ((x).toNat) TMark.d)))],244⟩ (C_12 64818) [] [] (kp [2,3,11,12,14,47,48,49,62]) (kq [0,1,2,3,52]) 244 [0 < 1,(decide ((m.getD ((x).toNat) TMark.d).f_Minute > vfrom))=true→AllP [(decide ((m.getD ((x).toNat) TMark.d).f_Minute > vfrom))=true,0 < 1],(decide ((m.getD ((x).toNat) TMark.d).f_Minute > vfrom))=true→AllP [(decide ((m.getD ((x).toNat) TMark.d).f_Minute > vfrom))=true,(decide ((m.getD ((x).toNat) TMark.d).f_Minute > vfrom))=true],(decide ((m.getD ((x).toNat) TMark.d).f_Minute > vfrom))=true→AllP [(decide ((m.getD ((x).toNat) TMark.d).f_Minute > vfrom))=true]] ⟨o1,(fun hg=>⟨hg,o1,trivial⟩),(fun hg=>⟨hg,hg,trivial⟩),(fun hq=>⟨hq,trivial⟩),trivial⟩ ?_
   refine Runs.sC 62 (C_12 129638) (C_12 129639) (cond (decide ((m.getD ((x).toNat) TMark.d).f_Minute > vfrom)) (decide ((m.getD ((x).toNat) TMark.d).f_Minute < vto)) false) (fun hq6=>?_) (fun hq6=>?_)
   ·have h:=condT h hq6
    obtain ⟨c2,h⟩:=ifSome h
    refine Runs.sR hE ⟨[(2,(aI vfrom)),(3,(aI vto)),(11,(.op 0 0 0)),(12,(.os 308 0 ((corners ++ ([(m.getD ((x).toNat) TMark.d).f_Minute]:List Int)).length))),(47,(encL TMark.cells TMark.d m)),(48,(aI ((m.length:Nat):Int))),(49,(aI x))],[(0,vN 1 [(.fn (.func 29) [] [(.op 1 0 0),(.op 2 0 0)])]),(1,vO 1 [(encL TMark.cells TMark.d m)]),(2,vO 1 [(aI level)]),(308,aO 1 cI 0 (corners ++ ([(m.getD ((x).toNat) TMark.d).f_Minute]:List Int)))],340⟩ (C_12 129638) [] [] (kp [2,3,11] ++ [(12,.osl ((corners ++ ([(m.getD ((x).toNat) TMark.d).f_Minute]:List Int)).length))] ++ kp [47,48,49]) (kq [0,1,2] ++ [(308,.arr 308 ((corners ++ ([(m.getD ((x).toNat) TMark.d).f_Minute]:List Int)).length) (fun zi=>cI ((corners ++ ([(m.getD ((x).toNat) TMark.d).f_Minute]:List Int)).getD zi 0)))]) 340 [0 < 1,corners.length=corners.length,(corners.length+1) * 8≤140737488355328,0+1≤1,∀ zi,zi < 1→AV.oneL ((fun zi=>([[(aI ((m.getD ((x).toNat) TMark.d).f_Minute))]]:List (List AV)).getD zi []) (addz 0 zi))=true,(corners.length+1)=(corners ++ ([(m.getD ((x).toNat) TMark.d).f_Minute]:List Int)).length,corners.length+1=(corners ++ ([(m.getD ((x).toNat) TMark.d).f_Minute]:List Int)).length,∀ zi,zi < (corners ++ ([(m.getD ((x).toNat) TMark.d).f_Minute]:List Int)).length→(fun zi=>cI ((corners ++ ([(m.getD ((x).toNat) TMark.d).f_Minute]:List Int)).getD zi 0)) zi=((fun zm=>if zm < corners.length then (fun zi=>cI (corners.getD zi 0)) zm else (fun zi=>([[(aI ((m.getD ((x).toNat) TMark.d).f_Minute))]]:List (List AV)).getD zi []) (zm - corners.length))) zi] ⟨o1,rfl,c2,z0,(oneN rfl),(len_app_raw rfl rfl),(len_app_raw rfl rfl),(get_app_raw cI 0 corners ([(m.getD ((x).toNat) TMark.d).f_Minute]:List Int) rfl (fun _ _=>rfl) (fun zq hzq=>get_chunk cI 0 ([(m.getD ((x).toNat) TMark.d).f_Minute]:List Int) zq hzq)),trivial⟩ ?_
    refine Runs.sA 1 [.code (C_12 8103),.inLoop (C_12 1012),.inBlock 1,.code (C_12 127)] ?_
    exact Runs.sW hE _ [] (kp [2,3,11,12,47,48,49]) (kq [0,1,2] ++ [(3,.keep 308)]) 4 [] trivial (g_water_Above_J2_ok N m level vfrom vto x (g_water_Above_L1 N m level vfrom vto fuel) ih (corners ++ ([(m.getD ((x).toNat) TMark.d).f_Minute]:List Int)) _ h E hE)
   ·have h:=condF h hq6
    refine Runs.sA 2 [.code (C_12 8103),.inLoop (C_12 1012),.inBlock 1,.code (C_12 127)] ?_
    exact Runs.sW hE _ [] (kp [2,3,11,12,47,48,49]) (kq [0,1,2,3]) 4 [] trivial (g_water_Above_J2_ok N m level vfrom vto x (g_water_Above_L1 N m level vfrom vto fuel) ih corners _ h E hE)
  ·have h:=condF h hq5
   refine Runs.sA 2 [.code (C_12 254),.code (C_12 255)] ?_
   obtain ⟨rSort,hr4,h⟩:=bindSome h
   obtain ⟨c3,h⟩:=ifSome h
   refine Runs.sR hE ⟨[(11,(.op 0 0 0)),(12,(.os 3 0 rSort.length))],[(0,vN 1 [(.fn (.func 29) [] [(.op 1 0 0),(.op 2 0 0)])]),(1,vO 1 [(encL TMark.cells TMark.d m)]),(2,vO 1 [(aI level)]),(3,aO 1 cI 0 rSort)],52⟩ (C_12 254) [(1,⟨[3],false,(.tup []),[(0,aO 1 cI 0 rSort)],0,false,none⟩)] [] (kp [11] ++ [(12,.osl (rSort.length))]) (kq [0,1,2,3]) 52 [Sound Try.prog 31 [(.os 0 0 corners.length)] [(0,aO 1 cI 0 corners)] 1 (.tup []) [(0,aO 1 cI 0 rSort)],corners.length=rSort.length] ⟨(g_slices_Sort_int_int_ok N corners rSort hr4),(Eq.symm c3),trivial⟩ ?_
   refine Runs.sA 1 [.code (C_12 510),.code (C_12 511)] ?_
   refine Runs.sR hE ⟨[(11,(.op 0 0 0)),(12,(.os 3 0 rSort.length)),(15,(.op 52 0 0))],[(0,vN 1 [(.fn (.func 29) [] [(.op 1 0 0),(.op 2 0 0)])]),(1,vO 1 [(encL TMark.cells TMark.d m)]),(2,vO 1 [(aI level)]),(3,aO 1 cI 0 rSort),(52,vO 1 [.nil])],68⟩ (C_12 510) [] [] (kp [11,12,15]) (kq [0,1,2,3,52]) 68 [] trivial ?_
   refine Runs.sA 1 [.code (C_12 1022),.code (C_12 1023)] ?_
   refine Runs.sR hE ⟨[(11,(.op 0 0 0)),(12,(.os 3 0 rSort.length)),(15,(.op 52 0 0)),(16,(.fn (.func 32) [] [(.op 52 0 0)]))],[(0,vN 1 [(.fn (.func 29) [] [(.op 1 0 0),(.op 2 0 0)])]),(1,vO 1 [(encL TMark.cells TMark.d m)]),(2,vO 1 [(aI level)]),(3,aO 1 cI 0 rSort),(52,vO 1 [.nil])],100⟩ (C_12 1022) [] [] (kp [11,12,15,16]) (kq [0,1,2,3,52]) 100 [] trivial ?_
   refine Runs.sA 2 [.code (C_12 4092),.code (C_12 4093),.code (C_12 2047)] ?_
   obtain ⟨c4,h⟩:=ifSome h
   refine Runs.sR hE ⟨[(11,(.op 0 0 0)),(12,(.os 3 0 rSort.length)),(15,(.op 52 0 0)),(16,(.fn (.func 32) [] [(.op 52 0 0)])),(73,(.os 3 1 (rSort.length - 1))),(74,(aI (((rSort.length - 1):Nat):Int))),(75,(aI 0))],[(0,vN 1 [(.fn (.func 29) [] [(.op 1 0 0),(.op 2 0 0)])]),(1,vO 1 [(encL TMark.cells TMark.d m)]),(2,vO 1 [(aI level)]),(3,aO 1 cI 0 rSort),(52,vO 1 [.nil])],164⟩ (C_12 4092) [] [] (kp [11,12,15,16,73,74,75]) (kq [0,1,2,3,52]) 164 [1≤rSort.length∧rSort.length≤rSort.length,0≤(1:Int)] ⟨c4,(by decide),trivial⟩ ?_
   refine Runs.sA 2 [.code (C_12 16372),.inLoop (C_12 16372),.inBlock 3,.code (C_12 2047)] ?_
   exact Runs.sW hE _ [] (kp [11,12,15,16,73,74,75]) (kq [0,1,2,3] ++ [(4,.var 52 [.nilos 5]),(5,.nil 2 (fun zi=>TS__2_int.cells (([]:List TS__2_int).getD zi TS__2_int.d)))]) 6 [] trivial (g_water_Above_L3_ok N m level rSort N ([]:List TS__2_int) 0 _ h E hE)
theorem g_water_Above_ok (N:Nat) (m:List TMark) (level:Int) (vfrom:Int) (vto:Int) (r:(List TS__2_int)×Int) (h:g_water_Above N m level vfrom vto=some r):Sound Try.prog 7 [(encL TMark.cells TMark.d m),(aI level),(aI vfrom),(aI vto)] [] 0 (.tup [(encL TS__2_int.cells TS__2_int.d r.1),(aI r.2)]) []:=by
 unfold g_water_Above at h
 refine Sound.of_runs (fu:=Try.f7) (c:=C_12 1) (nt:=128) (by kernel_rfl) (by kernel_rfl) (by kernel_rfl) (by kernel_rfl) (fun hm=>rfl) ?_
 intro E hE
 refine Runs.sA 1 [.code (C_12 2),.code (C_12 3)] ?_
 refine Runs.sR hE ⟨[(2,(aI vfrom)),(3,(aI vto)),(4,(.op 0 0 0)),(5,(.op 16 0 0))],[(0,vO 1 [(encL TMark.cells TMark.d m)]),(16,vO 1 [(aI level)])],64⟩ (C_12 2) [] [] (kp [2,3,4,5]) (kq [0,16]) 64 [] trivial ?_
 refine Runs.sA 2 [.code (C_12 12),.code (C_12 13),.code (C_12 7)] ?_
 obtain ⟨rCheckSea,hr,h⟩:=bindSome h
 refine Runs.sR hE ⟨[(2,(aI vfrom)),(3,(aI vto)),(4,(.op 0 0 0)),(5,(.op 16 0 0)),(10,(aI rCheckSea))],[(0,vO 1 [(encL TMark.cells TMark.d m)]),(16,vO 1 [(aI level)])],112⟩ (C_12 12) [(1,⟨[],true,(aI rCheckSea),[],0,false,none⟩)] [] (kp [2,3,4,5,10]) (kq [0,16]) 112 [0 < 1,Sound Try.prog 27 [(encL TMark.cells TMark.d m)] [] 0 (aI rCheckSea) []] ⟨o1,(g_water_CheckSea_ok N m rCheckSea hr),trivial⟩ ?_
 refine Runs.sA 1 [.code (C_12 26),.code (C_12 27),.code (C_12 7)] ?_
 refine Runs.sR hE ⟨[(2,(aI vfrom)),(3,(aI vto)),(4,(.op 0 0 0)),(5,(.op 16 0 0)),(10,(aI rCheckSea)),(23,(aB (rCheckSea != 0)))],[(0,vO 1 [(encL TMark.cells TMark.d m)]),(16,vO 1 [(aI level)])],144⟩ (C_12 26) [] [] (kp [2,3,4,5,10,23]) (kq [0,16]) 144 [] trivial ?_
 refine Runs.sC 23 (C_12 54) (C_12 55) (rCheckSea != 0) (fun hq2=>?_) (fun hq2=>?_)
 ·have h:=condT h hq2
  refine Runs.sA 1 [.code (C_12 108),.code (C_12 109),.code (C_12 7)] ?_
  refine Runs.sR hE ⟨[(8,.nil),(9,(aI rCheckSea))],[],192⟩ (C_12 108) [] [] (kp [8,9]) [] 192 [] trivial ?_
  obtain rfl:=Option.some.inj h
  refine Runs.sW hE ⟨[(8,(encL TS__2_int.cells TS__2_int.d ([]:List TS__2_int))),(9,(aI rCheckSea))],[],192⟩ [] ([(8,.sl (([]:List TS__2_int).length) (fun zi=>TS__2_int.cells (([]:List TS__2_int).getD zi TS__2_int.d)))] ++ kp [9]) [] 192 [([]:List TS__2_int).length=0] ⟨rfl,trivial⟩ ?_
  exact Runs.sT Try.f7 [] [] trivial
 ·have h:=condF h hq2
  refine Runs.sA 4 [.code (C_12 56),.code (C_12 57),.inBlock 0,.code (C_12 15)] ?_
  obtain ⟨rbetween,hr2,h⟩:=bindSome h
  obtain ⟨rbetween2,hr3,h⟩:=bindSome h
  refine Runs.sR hE ⟨[(2,(aI vfrom)),(3,(aI vto)),(4,(.op 0 0 0)),(5,(.op 16 0 0)),(25,(aB (cond (cond (!rbetween) true (!rbetween2)) true (decide (vto > 1000000)))))],[(0,vO 1 [(encL TMark.cells TMark.d m)]),(16,vO 1 [(aI level)])],368⟩ (C_12 56) [(1,⟨[],true,(aB rbetween),[],0,false,none⟩),(6,⟨[],true,(aB rbetween2),[],0,false,none⟩)] [] (kp [2,3,4,5,25]) (kq [0,16]) 368 [0 < 1,Sound Try.prog 28 [(aI level),(aI (-1000000)),(aI 1000000)] [] 0 (aB rbetween) [],(!(!rbetween))=true→AllP [Sound Try.prog 28 [(aI vfrom),(aI 0),(aI vto)] [] 0 (aB rbetween2) [],(!(!rbetween))=true,(!(!rbetween))=true],(!(!rbetween))=true→AllP [(!(!rbetween))=true],(!(!rbetween))=true→AllP [(!(!rbetween))=true],(!(cond (!rbetween) true (!rbetween2)))=true→AllP [(!(cond (!rbetween) true (!rbetween2)))=true],(!(cond (!rbetween) true (!rbetween2)))=true→AllP [(!(cond (!rbetween) true (!rbetween2)))=true]] ⟨o1,(g_water_between_ok N level (-1000000) 1000000 rbetween hr2),(fun hg=>⟨(g_water_between_ok N vfrom 0 vto rbetween2 (condT hr3 hg)),hg,hg,trivial⟩),(fun hg=>⟨hg,trivial⟩),(fun hq=>⟨hq,trivial⟩),(fun hg=>⟨hg,trivial⟩),(fun hq=>⟨hq,trivial⟩),trivial⟩ ?_
  refine Runs.sC 25 (C_12 114) (C_12 115) (cond (cond (!rbetween) true (!rbetween2)) true (decide (vto > 1000000))) (fun hq3=>?_) (fun hq3=>?_)
  ·have h:=condT h hq3
   refine Runs.sA 1 [.code (C_12 228),.code (C_12 229),.inBlock 0,.code (C_12 15)] ?_
   refine Runs.sR hE ⟨[(8,.nil),(9,(aI 2))],[],400⟩ (C_12 228) [] [] (kp [8,9]) [] 400 [] trivial ?_
   obtain rfl:=Option.some.inj h
   refine Runs.sW hE ⟨[(8,(encL TS__2_int.cells TS__2_int.d ([]:List TS__2_int))),(9,(aI 2))],[],400⟩ [] ([(8,.sl (([]:List TS__2_int).length) (fun zi=>TS__2_int.cells (([]:List TS__2_int).getD zi TS__2_int.d)))] ++ kp [9]) [] 400 [([]:List TS__2_int).length=0] ⟨rfl,trivial⟩ ?_
   exact Runs.sT Try.f7 [] [] trivial
  ·have h:=condF h hq3
   refine Runs.sA 1 [.code (C_12 230),.code (C_12 231),.inBlock 0,.code (C_12 15)] ?_
   refine Runs.sR hE ⟨[(2,(aI vfrom)),(3,(aI vto)),(4,(.op 0 0 0)),(5,(.op 16 0 0)),(39,(aB (((m.length:Nat):Int) == 0)))],[(0,vO 1 [(encL TMark.cells TMark.d m)]),(16,vO 1 [(aI level)])],432⟩ (C_12 230) [] [] (kp [2,3,4,5,39]) (kq [0,16]) 432 [0 < 1] ⟨o1,trivial⟩ ?_
   refine Runs.sC 39 (C_12 462) (C_12 463) (((m.length:Nat):Int) == 0) (fun hq4=>?_) (fun hq4=>?_)
   ·have h:=condT h hq4
    refine Runs.sA 1 [.code (C_12 924),.code (C_12 925),.inBlock 0,.code (C_12 15)] ?_
    refine Runs.sR hE ⟨[(8,.nil),(9,(aI 29))],[],464⟩ (C_12 924) [] [] (kp [8,9]) [] 464 [] trivial ?_
    obtain rfl:=Option.some.inj h
    refine Runs.sW hE ⟨[(8,(encL TS__2_int.cells TS__2_int.d ([]:List TS__2_int))),(9,(aI 29))],[],464⟩ [] ([(8,.sl (([]:List TS__2_int).length) (fun zi=>TS__2_int.cells (([]:List TS__2_int).getD zi TS__2_int.d)))] ++ kp [9]) [] 464 [([]:List TS__2_int).length=0] ⟨rfl,trivial⟩ ?_
    exact Runs.sT Try.f7 [] [] trivial
   ·have h:=condF h hq4
    refine Runs.sA 3 [.code (C_12 30),.code (C_12 31)] ?_
    refine Runs.sR hE ⟨[(2,(aI vfrom)),(3,(aI vto)),(4,(.op 0 0 0)),(11,(.op 448 0 0))],[(0,vO 1 [(encL TMark.cells TMark.d m)]),(16,vO 1 [(aI level)]),(448,vN 1 [(.fn (.func 29) [] [(.op 0 0 0),(.op 16 0 0)])])],480⟩ (C_12 30) [] [] (kp [2,3,4,11]) (kq [0,16,448]) 480 [0 < 1] ⟨o1,trivial⟩ ?_
    refine Runs.sA 1 [.code (C_12 62),.code (C_12 63)] ?_
    refine Runs.sR hE ⟨[(2,(aI vfrom)),(3,(aI vto)),(4,(.op 0 0 0)),(11,(.op 448 0 0)),(12,(.os 512 0 (([vfrom,vto]:List Int).length)))],[(0,vO 1 [(encL TMark.cells TMark.d m)]),(16,vO 1 [(aI level)]),(448,vN 1 [(.fn (.func 29) [] [(.op 0 0 0),(.op 16 0 0)])]),(512,aO 1 cI 0 ([vfrom,vto]:List Int))],544⟩ (C_12 62) [] [] (kp [2,3,4,11] ++ [(12,.osl (([vfrom,vto]:List Int).length))]) (kq [0,16,448] ++ [(512,.arr 512 (([vfrom,vto]:List Int).length) (fun zi=>cI (([vfrom,vto]:List Int).getD zi 0)))]) 544 [2=([vfrom,vto]:List Int).length,2=([vfrom,vto]:List Int).length,∀ zi,zi < ([vfrom,vto]:List Int).length→(fun zi=>cI (([vfrom,vto]:List Int).getD zi 0)) zi=(fun zi=>([[(aI vfrom)],[(aI vto)]]:List (List AV)).getD zi []) zi] ⟨rfl,rfl,(fun zq hzq=>get_chunk cI 0 ([vfrom,vto]:List Int) zq hzq),trivial⟩ ?_
    refine Runs.sA 2 [.code (C_12 252),.code (C_12 253),.code (C_12 127)] ?_
    refine Runs.sR hE ⟨[(2,(aI vfrom)),(3,(aI vto)),(11,(.op 448 0 0)),(12,(.os 512 0 (([vfrom,vto]:List Int).length))),(47,(encL TMark.cells TMark.d m)),(48,(aI ((m.length:Nat):Int))),(49,(aI 0))],[(0,vO 1 [(encL TMark.cells TMark.d m)]),(16,vO 1 [(aI level)]),(448,vN 1 [(.fn (.func 29) [] [(.op 0 0 0),(.op 16 0 0)])]),(512,aO 1 cI 0 ([vfrom,vto]:List Int))],592⟩ (C_12 252) [] [] (kp [2,3,11,12,47,48,49]) (kq [0,16,448,512]) 592 [0 < 1] ⟨o1,trivial⟩ ?_
    refine Runs.sA 2 [.code (C_12 1012),.inLoop (C_12 1012),.inBlock 1,.code (C_12 127)] ?_
    exact Runs.sW hE _ [] (kp [2,3,11,12,47,48,49]) [(0,.keep 448),(1,.keep 0),(2,.keep 16),(3,.keep 512)] 4 [] trivial (g_water_Above_L1_ok N m level vfrom vto N ([vfrom,vto]:List Int) 0 _ h E hE)
noncomputable def C_45 (n:Nat):Code:=cat (bodyOf Try.f37) (pth n)
theorem g_r05_inside_ok (N:Nat) (n:Int) (low:Int) (high:Int) (r:Bool) (h:g_r05_inside N n low high=some r):Sound Try.prog 37 [(aI n),(aI low),(aI high)] [] 0 (aB r) []:=by
 unfold g_r05_inside at h
 refine Sound.of_runs (fu:=Try.f37) (c:=C_45 1) (nt:=15) (by kernel_rfl) (by kernel_rfl) (by kernel_rfl) (by kernel_rfl) (fun hm=>rfl) ?_
 intro E hE
 refine Runs.sA 1 [.code (C_45 2),.code (C_45 3)] ?_
 refine Runs.sR hE ⟨[(0,(aI n)),(1,(aI low)),(2,(aI high))],[],16⟩ (C_45 2) [] [] (kp [0,1,2]) [] 16 [] trivial ?_
 refine Runs.sA 1 [.code (C_45 6),.code (C_45 7)] ?_
 refine Runs.sR hE ⟨[(6,(aB (cond (decide (n≥low)) (decide (n≤high)) false)))],[],160⟩ (C_45 6) [] [] (kp [6]) [] 160 [(decide (n≥low))=true→AllP [(decide (n≥low))=true,(decide (n≥low))=true],(decide (n≥low))=true→AllP [(decide (n≥low))=true]] ⟨(fun hg=>⟨hg,hg,trivial⟩),(fun hq=>⟨hq,trivial⟩),trivial⟩ ?_
 obtain rfl:=Option.some.inj h
 refine Runs.sW hE ⟨[(6,(aB (cond (decide (n≥low)) (decide (n≤high)) false)))],[],160⟩ [] (kp [6]) [] 160 [] trivial ?_
 exact Runs.sT Try.f37 [] [] trivial
noncomputable def C_44 (n:Nat):Code:=cat (bodyOf Try.f36) (pth n)
theorem g_r05_CheckSea_L1_ok (N:Nat) (m:List TMark) (fuel:Nat):∀ (i:Int) (r:Int),g_r05_CheckSea_L1 N m fuel i=some r→∀ E,EnvOk E 0→Runs Try.prog E 36 45 (SPost E [] (aI r)) [.code (C_44 116),.inLoop (C_44 116),.inBlock 0,.code (C_44 15)] ⟨[(0,(encL TMark.cells TMark.d m)),(3,(aI i))],[],0⟩:=by
 induction fuel with
 | zero=>intro _ r h;rw [g_r05_CheckSea_L1.eq_1] at h;cases h
 | succ fuel ih =>
  intro i r h E hE
  rw [g_r05_CheckSea_L1.eq_2] at h
  refine Runs.sA 2 [.code (C_44 464),.code (C_44 465),.code (C_44 233),.inLoop (C_44 116),.inBlock 0,.code (C_44 15)] ?_
  refine Runs.sR hE ⟨[(0,(encL TMark.cells TMark.d m)),(3,(aI i)),(10,(aB (decide (i < ((m.length:Nat):Int)))))],[],64⟩ (C_44 464) [] [] (kp [0,3,10]) [] 64 [] trivial ?_
  refine Runs.sC 10 (C_44 930) (C_44 931) (decide (i < ((m.length:Nat):Int))) (fun hq3=>?_) (fun hq3=>?_)
  ·have h:=condT h hq3
   refine Runs.sA 5 [.code (C_44 3728),.code (C_44 3729),.code (C_44 1865),.inBlock 1,.code (C_44 467),.inLoop (C_44 116),.inBlock 0,.code (C_44 15)] ?_
   obtain ⟨c,h⟩:=ifSome h
   obtain ⟨rinside,hr,h⟩:=bindSome h
   obtain ⟨c2,h⟩:=ifSome h
   obtain ⟨rinside2,hr2,h⟩:=bindSome h
   refine Runs.sR hE ⟨[(0,(encL TMark.cells TMark.d m)),(3,(aI i)),(28,(aB (cond (!rinside) true (!rinside2))))],[],320⟩ (C_44 3728) [(5,⟨[],true,(aB rinside),[],0,false,none⟩),(13,⟨[],true,(aB rinside2),[],0,false,none⟩)] [] (kp [0,3,28]) [] 320 [0≤i∧i < ((m.length:Nat):Int),Sound Try.prog 37 [(aI ((m.getD ((i).toNat) TMark.d).f_Minute)),(aI 0),(aI 1000000)] [] 0 (aB rinside) [],(!(!rinside))=true→AllP [(!(!rinside))=true,(!(!rinside))=true,0≤i∧i < ((m.length:Nat):Int)],(!(!rinside))=true→AllP [(!(!rinside))=true],(!(!rinside))=true→AllP [(!(!rinside))=true],(!(!rinside))=true→AllP [Sound Try.prog 37 [(aI ((m.getD ((i).toNat) TMark.d).f_Level)),(aI (-1000000)),(aI 1000000)] [] 0 (aB rinside2) [],(!(!rinside))=true],(!(!rinside))=true→AllP [(!(!rinside))=true],(!(!rinside))=true→AllP [(!(!rinside))=true]] ⟨c,(g_r05_inside_ok N ((m.getD ((i).toNat) TMark.d).f_Minute) 0 1000000 rinside hr),(fun hg=>⟨hg,hg,(c2 hg),trivial⟩),(fun hg=>⟨hg,trivial⟩),(fun hg=>⟨hg,trivial⟩),(fun hg=>⟨(g_r05_inside_ok N ((m.getD ((i).toNat) TMark.d).f_Level) (-1000000) 1000000 rinside2 (condT hr2 hg)),hg,trivial⟩),(fun hg=>⟨hg,trivial⟩),(fun hq=>⟨hq,trivial⟩),trivial⟩ ?_
   refine Runs.sC 28 (C_44 7458) (C_44 7459) (cond (!rinside) true (!rinside2)) (fun hq4=>?_) (fun hq4=>?_)
   ·have h:=condT h hq4
    refine Runs.sA 1 [.code (C_44 14916),.code (C_44 14917),.code (C_44 1865),.inBlock 1,.code (C_44 467),.inLoop (C_44 116),.inBlock 0,.code (C_44 15)] ?_
    refine Runs.sR hE ⟨[(2,(aI 2))],[],336⟩ (C_44 14916) [] [] (kp [2]) [] 336 [] trivial ?_
    obtain rfl:=Option.some.inj h
    refine Runs.sW hE ⟨[(2,(aI 2))],[],336⟩ [] (kp [2]) [] 336 [] trivial ?_
    exact Runs.sT Try.f36 [] [] trivial
   ·have h:=condF h hq4
    refine Runs.sA 2 [.code (C_44 3730),.code (C_44 3731),.inBlock 1,.code (C_44 467),.inLoop (C_44 116),.inBlock 0,.code (C_44 15)] ?_
    obtain ⟨c3,h⟩:=ifSome h
    obtain ⟨c4,h⟩:=ifSome h
    refine Runs.sR hE ⟨[(0,(encL TMark.cells TMark.d m)),(3,(aI i)),(44,(aB (cond (decide (i > 0)) (decide ((m.getD ((i).toNat) TMark.d).f_Minute≤(m.getD ((w64 (i - 1)).toNat) TMark.d).f_Minute)) false)))],[],576⟩ (C_44 3730) [] [] (kp [0,3,44]) [] 576 [(decide (i > 0))=true→AllP [(decide (i > 0))=true,(decide (i > 0))=true,0≤i∧i < ((m.length:Nat):Int)],(decide (i > 0))=true→AllP [(decide (i > 0))=true],(decide (i > 0))=true→AllP [(decide (i > 0))=true],(decide (i > 0))=true→AllP [(decide (i > 0))=true],(decide (i > 0))=true→AllP [(decide (i > 0))=true,(decide (i > 0))=true,0≤(w64 (i - 1))∧(w64 (i - 1)) < ((m.length:Nat):Int)],(decide (i > 0))=true→AllP [(decide (i > 0))=true],(decide (i > 0))=true→AllP [(decide (i > 0))=true],(decide (i > 0))=true→AllP [(decide (i > 0))=true,(decide (i > 0))=true],(decide (i > 0))=true→AllP [(decide (i > 0))=true]] ⟨(fun hg=>⟨hg,hg,(c3 hg),trivial⟩),(fun hg=>⟨hg,trivial⟩),(fun hg=>⟨hg,trivial⟩),(fun hg=>⟨hg,trivial⟩),(fun hg=>⟨hg,hg,(c4 hg),trivial⟩),(fun hg=>⟨hg,trivial⟩),(fun hg=>⟨hg,trivial⟩),(fun hg=>⟨hg,hg,trivial⟩),(fun hq=>⟨hq,trivial⟩),trivial⟩ ?_
    refine Runs.sC 44 (C_44 7462) (C_44 7463) (cond (decide (i > 0)) (decide ((m.getD ((i).toNat) TMark.d).f_Minute≤(m.getD ((w64 (i - 1)).toNat) TMark.d).f_Minute)) false) (fun hq5=>?_) (fun hq5=>?_)
    ·have h:=condT h hq5
     refine Runs.sA 1 [.code (C_44 14924),.code (C_44 14925),.inBlock 1,.code (C_44 467),.inLoop (C_44 116),.inBlock 0,.code (C_44 15)] ?_
     refine Runs.sR hE ⟨[(2,(aI 10))],[],592⟩ (C_44 14924) [] [] (kp [2]) [] 592 [] trivial ?_
     obtain rfl:=Option.some.inj h
     refine Runs.sW hE ⟨[(2,(aI 10))],[],592⟩ [] (kp [2]) [] 592 [] trivial ?_
     exact Runs.sT Try.f36 [] [] trivial
    ·have h:=condF h hq5
     refine Runs.sA 2 [.code (C_44 467),.inLoop (C_44 116),.inBlock 0,.code (C_44 15)] ?_
     refine Runs.sR hE ⟨[(0,(encL TMark.cells TMark.d m)),(3,(aI (w64 (i+1))))],[],624⟩ (C_44 467) [] [] (kp [0,3]) [] 624 [] trivial ?_
     refine Runs.sA 1 [.code (C_44 116),.inLoop (C_44 116),.inBlock 0,.code (C_44 15)] ?_
     exact Runs.sW hE _ [] (kp [0,3]) [] 0 [] trivial (ih (w64 (i+1)) _ h E hE)
  ·have h:=condF h hq3
   refine Runs.sA 2 [.code (C_44 30),.code (C_44 31)] ?_
   refine Runs.sR hE ⟨[(2,(aI 0))],[],80⟩ (C_44 30) [] [] (kp [2]) [] 80 [] trivial ?_
   obtain rfl:=Option.some.inj h
   refine Runs.sW hE ⟨[(2,(aI 0))],[],80⟩ [] (kp [2]) [] 80 [] trivial ?_
   exact Runs.sT Try.f36 [] [] trivial
theorem g_r05_CheckSea_ok (N:Nat) (m:List TMark) (r:Int) (h:g_r05_CheckSea N m=some r):Sound Try.prog 36 [(encL TMark.cells TMark.d m)] [] 0 (aI r) []:=by
 unfold g_r05_CheckSea at h
 refine Sound.of_runs (fu:=Try.f36) (c:=C_44 1) (nt:=45) (by kernel_rfl) (by kernel_rfl) (by kernel_rfl) (by kernel_rfl) (fun hm=>rfl) ?_
 intro E hE
 refine Runs.sA 1 [.code (C_44 2),.code (C_44 3)] ?_
 refine Runs.sR hE ⟨[(0,(encL TMark.cells TMark.d m))],[],16⟩ (C_44 2) [] [] (kp [0]) [] 16 [] trivial ?_
 refine Runs.sA 2 [.code (C_44 12),.code (C_44 13),.code (C_44 7)] ?_
 refine Runs.sR hE ⟨[(0,(encL TMark.cells TMark.d m)),(6,(aB (decide (((m.length:Nat):Int) > 400))))],[],64⟩ (C_44 12) [] [] (kp [0,6]) [] 64 [] trivial ?_
 refine Runs.sC 6 (C_44 26) (C_44 27) (decide (((m.length:Nat):Int) > 400)) (fun hq2=>?_) (fun hq2=>?_)
 ·have h:=condT h hq2
  refine Runs.sA 1 [.code (C_44 52),.code (C_44 53),.code (C_44 7)] ?_
  refine Runs.sR hE ⟨[(2,(aI 8))],[],80⟩ (C_44 52) [] [] (kp [2]) [] 80 [] trivial ?_
  obtain rfl:=Option.some.inj h
  refine Runs.sW hE ⟨[(2,(aI 8))],[],80⟩ [] (kp [2]) [] 80 [] trivial ?_
  exact Runs.sT Try.f36 [] [] trivial
 ·have h:=condF h hq2
  refine Runs.sA 3 [.code (C_44 28),.code (C_44 29),.code (C_44 15)] ?_
  refine Runs.sR hE ⟨[(0,(encL TMark.cells TMark.d m)),(3,(aI 0))],[],80⟩ (C_44 28) [] [] (kp [0,3]) [] 80 [] trivial ?_
  refine Runs.sA 2 [.code (C_44 116),.inLoop (C_44 116),.inBlock 0,.code (C_44 15)] ?_
  exact Runs.sW hE _ [] (kp [0,3]) [] 0 [] trivial (g_r05_CheckSea_L1_ok N m N 0 _ h E hE)
noncomputable def C_47 (n:Nat):Code:=cat (bodyOf Try.f68) (pth n)
theorem g_r05_floorDiv_J1_ok (N:Nat) (q:Int) (r:Int) (h:g_r05_floorDiv_J1 N q=some r):∀ E,EnvOk E 0→Runs Try.prog E 68 16 (SPost E [] (aI r)) [.code (C_47 30),.code (C_47 31)] ⟨[(5,(aI q))],[],0⟩:=by
 intro E hE
 unfold g_r05_floorDiv_J1 at h
 refine Runs.sR hE ⟨[(4,(aI q))],[],32⟩ (C_47 30) [] [] (kp [4]) [] 32 [] trivial ?_
 obtain rfl:=Option.some.inj h
 refine Runs.sW hE ⟨[(4,(aI q))],[],48⟩ [] (kp [4]) [] 48 [] trivial ?_
 exact Runs.sT Try.f68 [] [] trivial
theorem g_r05_floorDiv_ok (N:Nat) (a:Int) (b:Int) (r:Int) (h:g_r05_floorDiv N a b=some r):Sound Try.prog 68 [(aI a),(aI b)] [] 0 (aI r) []:=by
 unfold g_r05_floorDiv at h
 refine Sound.of_runs (fu:=Try.f68) (c:=C_47 1) (nt:=16) (by kernel_rfl) (by kernel_rfl) (by kernel_rfl) (by kernel_rfl) (fun hm=>rfl) ?_
 intro E hE
 refine Runs.sA 1 [.code (C_47 2),.code (C_47 3)] ?_
 refine Runs.sR hE ⟨[(0,(aI a)),(1,(aI b))],[],16⟩ (C_47 2) [] [] (kp [0,1]) [] 16 [] trivial ?_
 refine Runs.sA 1 [.code (C_47 6),.code (C_47 7)] ?_
 obtain ⟨c,h⟩:=ifSome h
 refine Runs.sR hE ⟨[(0,(aI a)),(1,(aI b)),(5,(aI (w64 (a.tdiv b))))],[],80⟩ (C_47 6) [] [] (kp [0,1,5]) [] 80 [(b:Int)≠0] ⟨c,trivial⟩ ?_
 refine Runs.sA 2 [.code (C_47 28),.code (C_47 29),.code (C_47 15)] ?_
 refine Runs.sR hE ⟨[(5,(aI (w64 (a.tdiv b)))),(12,(aB (decide ((a.tmod b) < 0))))],[],144⟩ (C_47 28) [] [] (kp [5,12]) [] 144 [(b:Int)≠0] ⟨c,trivial⟩ ?_
 refine Runs.sC 12 (C_47 58) (C_47 59) (decide ((a.tmod b) < 0)) (fun hq2=>?_) (fun hq2=>?_)
 ·have h:=condT h hq2
  refine Runs.sR hE ⟨[(5,(aI (w64 ((w64 (a.tdiv b)) - 1))))],[],192⟩ (C_47 58) [] [] (kp [5]) [] 192 [] trivial ?_
  refine Runs.sA 1 [.code (C_47 30),.code (C_47 31)] ?_
  exact Runs.sW hE _ [] (kp [5]) [] 0 [] trivial (g_r05_floorDiv_J1_ok N (w64 ((w64 (a.tdiv b)) - 1)) _ h E hE)
 ·have h:=condF h hq2
  refine Runs.sA 2 [.code (C_47 30),.code (C_47 31)] ?_
  exact Runs.sW hE _ [] (kp [5]) [] 0 [] trivial (g_r05_floorDiv_J1_ok N (w64 (a.tdiv b)) _ h E hE)
noncomputable def C_46 (n:Nat):Code:=cat (bodyOf Try.f38) (pth n)
theorem g_r05_At_L1_ok (N:Nat) (m:List TMark) (minute:Int) (fuel:Nat):∀ (i:Int) (r:Int),g_r05_At_L1 N m minute fuel i=some r→∀ E,EnvOk E 0→Runs Try.prog E 38 66 (SPost E [] (aI r)) [.code (C_46 116),.inLoop (C_46 116),.inBlock 0,.code (C_46 15)] ⟨[(0,(encL TMark.cells TMark.d m)),(1,(aI minute)),(5,(aI i))],[],0⟩:=by
 induction fuel with
 | zero=>intro _ r h;rw [g_r05_At_L1.eq_1] at h;cases h
 | succ fuel ih =>
  intro i r h E hE
  rw [g_r05_At_L1.eq_2] at h
  refine Runs.sA 2 [.code (C_46 464),.code (C_46 465),.code (C_46 233),.inLoop (C_46 116),.inBlock 0,.code (C_46 15)] ?_
  refine Runs.sR hE ⟨[(0,(encL TMark.cells TMark.d m)),(1,(aI minute)),(5,(aI i)),(21,(aB (decide (i < ((m.length:Nat):Int)))))],[],64⟩ (C_46 464) [] [] (kp [0,1,5,21]) [] 64 [] trivial ?_
  refine Runs.sC 21 (C_46 930) (C_46 931) (decide (i < ((m.length:Nat):Int))) (fun hq3=>?_) (fun hq3=>?_)
  ·have h:=condT h hq3
   refine Runs.sA 4 [.code (C_46 1864),.code (C_46 1865),.inBlock 1,.code (C_46 467),.inLoop (C_46 116),.inBlock 0,.code (C_46 15)] ?_
   obtain ⟨c2,h⟩:=ifSome h
   refine Runs.sR hE ⟨[(0,(encL TMark.cells TMark.d m)),(1,(aI minute)),(5,(aI i)),(30,(aB (decide (minute≤(m.getD ((i).toNat) TMark.d).f_Minute))))],[],176⟩ (C_46 1864) [] [] (kp [0,1,5,30]) [] 176 [0≤i∧i < ((m.length:Nat):Int)] ⟨c2,trivial⟩ ?_
   refine Runs.sC 30 (C_46 3730) (C_46 3731) (decide (minute≤(m.getD ((i).toNat) TMark.d).f_Minute)) (fun hq4=>?_) (fun hq4=>?_)
   ·have h:=condT h hq4
    refine Runs.sA 1 [.code (C_46 7460),.code (C_46 7461),.inBlock 1,.code (C_46 467),.inLoop (C_46 116),.inBlock 0,.code (C_46 15)] ?_
    obtain ⟨c3,h⟩:=ifSome h
    refine Runs.sR hE ⟨[(1,(aI minute)),(6,(.op 320 0 0)),(7,(.op 336 0 0))],[(320,vO 2 (TMark.cells (m.getD ((w64 (i - 1)).toNat) TMark.d))),(336,vO 2 (TMark.cells (m.getD ((i).toNat) TMark.d)))],384⟩ (C_46 7460) [] [] (kp [1,6,7]) (kq [320,336]) 384 [0≤(w64 (i - 1))∧(w64 (i - 1)) < ((m.length:Nat):Int),0≤i∧i < ((m.length:Nat):Int),0 < 1,0 < 1] ⟨c3,c2,o1,o1,trivial⟩ ?_
    refine Runs.sA 1 [.code (C_46 14922),.code (C_46 14923),.inBlock 1,.code (C_46 467),.inLoop (C_46 116),.inBlock 0,.code (C_46 15)] ?_
    obtain ⟨rfloorDiv,hr,h⟩:=bindSome h
    refine Runs.sR hE ⟨[(4,(aI (w64 ((m.getD ((w64 (i - 1)).toNat) TMark.d).f_Level+rfloorDiv))))],[],704⟩ (C_46 14922) [(17,⟨[],true,(aI rfloorDiv),[],0,false,none⟩)] [] (kp [4]) [] 704 [0 < 1,0 < 1,0 < 1,0 < 1,0 < 1,0 < 1,Sound Try.prog 68 [(aI (w64 ((w64 ((m.getD ((i).toNat) TMark.d).f_Level - (m.getD ((w64 (i - 1)).toNat) TMark.d).f_Level)) * (w64 (minute - (m.getD ((w64 (i - 1)).toNat) TMark.d).f_Minute))))),(aI (w64 ((m.getD ((i).toNat) TMark.d).f_Minute - (m.getD ((w64 (i - 1)).toNat) TMark.d).f_Minute)))] [] 0 (aI rfloorDiv) []] ⟨o1,o1,o1,o1,o1,o1,(g_r05_floorDiv_ok N (w64 ((w64 ((m.getD ((i).toNat) TMark.d).f_Level - (m.getD ((w64 (i - 1)).toNat) TMark.d).f_Level)) * (w64 (minute - (m.getD ((w64 (i - 1)).toNat) TMark.d).f_Minute)))) (w64 ((m.getD ((i).toNat) TMark.d).f_Minute - (m.getD ((w64 (i - 1)).toNat) TMark.d).f_Minute)) rfloorDiv hr),trivial⟩ ?_
    obtain rfl:=Option.some.inj h
    refine Runs.sW hE ⟨[(4,(aI (w64 ((m.getD ((w64 (i - 1)).toNat) TMark.d).f_Level+rfloorDiv))))],[],704⟩ [] (kp [4]) [] 704 [] trivial ?_
    exact Runs.sT Try.f38 [] [] trivial
   ·have h:=condF h hq4
    refine Runs.sA 2 [.code (C_46 467),.inLoop (C_46 116),.inBlock 0,.code (C_46 15)] ?_
    refine Runs.sR hE ⟨[(0,(encL TMark.cells TMark.d m)),(1,(aI minute)),(5,(aI (w64 (i+1))))],[],224⟩ (C_46 467) [] [] (kp [0,1,5]) [] 224 [] trivial ?_
    refine Runs.sA 1 [.code (C_46 116),.inLoop (C_46 116),.inBlock 0,.code (C_46 15)] ?_
    exact Runs.sW hE _ [] (kp [0,1,5]) [] 0 [] trivial (ih (w64 (i+1)) _ h E hE)
  ·have h:=condF h hq3
   refine Runs.sA 2 [.code (C_46 30),.code (C_46 31)] ?_
   obtain ⟨c4,h⟩:=ifSome h
   refine Runs.sR hE ⟨[(4,(aI ((m.getD ((w64 (((m.length:Nat):Int) - 1)).toNat) TMark.d).f_Level)))],[],192⟩ (C_46 30) [] [] (kp [4]) [] 192 [0≤(w64 (((m.length:Nat):Int) - 1))∧(w64 (((m.length:Nat):Int) - 1)) < ((m.length:Nat):Int)] ⟨c4,trivial⟩ ?_
   obtain rfl:=Option.some.inj h
   refine Runs.sW hE ⟨[(4,(aI ((m.getD ((w64 (((m.length:Nat):Int) - 1)).toNat) TMark.d).f_Level)))],[],192⟩ [] (kp [4]) [] 192 [] trivial ?_
   exact Runs.sT Try.f38 [] [] trivial
theorem g_r05_At_ok (N:Nat) (m:List TMark) (minute:Int) (r:Int) (h:g_r05_At N m minute=some r):Sound Try.prog 38 [(encL TMark.cells TMark.d m),(aI minute)] [] 0 (aI r) []:=by
 unfold g_r05_At at h
 refine Sound.of_runs (fu:=Try.f38) (c:=C_46 1) (nt:=66) (by kernel_rfl) (by kernel_rfl) (by kernel_rfl) (by kernel_rfl) (fun hm=>rfl) ?_
 intro E hE
 refine Runs.sA 1 [.code (C_46 2),.code (C_46 3)] ?_
 refine Runs.sR hE ⟨[(0,(encL TMark.cells TMark.d m)),(1,(aI minute))],[],16⟩ (C_46 2) [] [] (kp [0,1]) [] 16 [] trivial ?_
 refine Runs.sA 2 [.code (C_46 12),.code (C_46 13),.code (C_46 7)] ?_
 obtain ⟨c,h⟩:=ifSome h
 refine Runs.sR hE ⟨[(0,(encL TMark.cells TMark.d m)),(1,(aI minute)),(13,(aB (decide (minute≤(m.getD 0 TMark.d).f_Minute))))],[],112⟩ (C_46 12) [] [] (kp [0,1,13]) [] 112 [0≤(0:Int)∧0 < ((m.length:Nat):Int)] ⟨c,trivial⟩ ?_
 refine Runs.sC 13 (C_46 26) (C_46 27) (decide (minute≤(m.getD 0 TMark.d).f_Minute)) (fun hq2=>?_) (fun hq2=>?_)
 ·have h:=condT h hq2
  refine Runs.sA 1 [.code (C_46 52),.code (C_46 53),.code (C_46 7)] ?_
  refine Runs.sR hE ⟨[(4,(aI ((m.getD 0 TMark.d).f_Level)))],[],192⟩ (C_46 52) [] [] (kp [4]) [] 192 [0≤(0:Int)∧0 < ((m.length:Nat):Int)] ⟨c,trivial⟩ ?_
  obtain rfl:=Option.some.inj h
  refine Runs.sW hE ⟨[(4,(aI ((m.getD 0 TMark.d).f_Level)))],[],192⟩ [] (kp [4]) [] 192 [] trivial ?_
  exact Runs.sT Try.f38 [] [] trivial
 ·have h:=condF h hq2
  refine Runs.sA 3 [.code (C_46 28),.code (C_46 29),.code (C_46 15)] ?_
  refine Runs.sR hE ⟨[(0,(encL TMark.cells TMark.d m)),(1,(aI minute)),(5,(aI 1))],[],128⟩ (C_46 28) [] [] (kp [0,1,5]) [] 128 [] trivial ?_
  refine Runs.sA 2 [.code (C_46 116),.inLoop (C_46 116),.inBlock 0,.code (C_46 15)] ?_
  exact Runs.sW hE _ [] (kp [0,1,5]) [] 0 [] trivial (g_r05_At_L1_ok N m minute N 1 _ h E hE)
noncomputable def C_43 (n:Nat):Code:=cat (bodyOf Try.f8) (pth n)
theorem g_r05_Above_J2_ok (N:Nat) (m:List TMark) (level:Int) (vto:Int) (k:Int) (K_g_r05_Above_L1:(List TS__2_int)→Int→Option ((List TS__2_int)×Int))
  (hK_g_r05_Above_L1:∀ (out:List TS__2_int) (k:Int) (r:(List TS__2_int)×Int),K_g_r05_Above_L1 out k=some r→∀ E,EnvOk E 0→Runs Try.prog E 8 77 (SPost E [] (.tup [(encL TS__2_int.cells TS__2_int.d r.1),(aI r.2)])) [.code (C_43 1012),.inLoop (C_43 1012),.inBlock 0,.code (C_43 127)] ⟨[(0,(encL TMark.cells TMark.d m)),(1,(aI level)),(3,(aI vto)),(11,(.os 0 0 out.length)),(12,(aI k))],[(0,aO 2 TS__2_int.cells TS__2_int.d out)],1⟩) (out2:List TS__2_int) (r:(List TS__2_int)×Int) (h:g_r05_Above_J2 N m level vto k K_g_r05_Above_L1 out2=some r):∀ E,EnvOk E 0→Runs Try.prog E 8 77 (SPost E [] (.tup [(encL TS__2_int.cells TS__2_int.d r.1),(aI r.2)])) [.code (C_43 4051),.inLoop (C_43 1012),.inBlock 0,.code (C_43 127)] ⟨[(0,(encL TMark.cells TMark.d m)),(1,(aI level)),(3,(aI vto)),(11,(.os 0 0 out2.length)),(12,(aI k))],[(0,aO 2 TS__2_int.cells TS__2_int.d out2)],1⟩:=by
 intro E hE
 unfold g_r05_Above_J2 at h
 refine Runs.sR hE ⟨[(0,(encL TMark.cells TMark.d m)),(1,(aI level)),(3,(aI vto)),(11,(.os 0 0 out2.length)),(12,(aI (w64 (k+1))))],[(0,aO 2 TS__2_int.cells TS__2_int.d out2)],49⟩ (C_43 4051) [] [] (kp [0,1,3,11,12]) (kq [0]) 49 [] trivial ?_
 refine Runs.sA 1 [.code (C_43 1012),.inLoop (C_43 1012),.inBlock 0,.code (C_43 127)] ?_
 exact Runs.sW hE _ [] (kp [0,1,3,11,12]) (kq [0]) 1 [] trivial (hK_g_r05_Above_L1 out2 (w64 (k+1)) _ h E hE)
theorem g_r05_Above_L1_ok (N:Nat) (m:List TMark) (level:Int) (vto:Int) (fuel:Nat):∀ (out:List TS__2_int) (k:Int) (r:(List TS__2_int)×Int),g_r05_Above_L1 N m level vto fuel out k=some r→∀ E,EnvOk E 0→Runs Try.prog E 8 77 (SPost E [] (.tup [(encL TS__2_int.cells TS__2_int.d r.1),(aI r.2)])) [.code (C_43 1012),.inLoop (C_43 1012),.inBlock 0,.code (C_43 127)] ⟨[(0,(encL TMark.cells TMark.d m)),(1,(aI level)),(3,(aI vto)),(11,(.os 0 0 out.length)),(12,(aI k))],[(0,aO 2 TS__2_int.cells TS__2_int.d out)],1⟩:=by
 induction fuel with
 | zero=>intro _ _ r h;rw [g_r05_Above_L1.eq_1] at h;cases h
 | succ fuel ih =>
  intro out k r h E hE
  rw [g_r05_Above_L1.eq_2] at h
  refine Runs.sA 2 [.code (C_43 4048),.code (C_43 4049),.code (C_43 2025),.inLoop (C_43 1012),.inBlock 0,.code (C_43 127)] ?_
  refine Runs.sR hE ⟨[(0,(encL TMark.cells TMark.d m)),(1,(aI level)),(3,(aI vto)),(11,(.os 0 0 out.length)),(12,(aI k)),(41,(aB (decide (k≤vto))))],[(0,aO 2 TS__2_int.cells TS__2_int.d out)],49⟩ (C_43 4048) [] [] (kp [0,1,3,11,12,41]) (kq [0]) 49 [] trivial ?_
  refine Runs.sC 41 (C_43 8098) (C_43 8099) (decide (k≤vto)) (fun hq5=>?_) (fun hq5=>?_)
  ·have h:=condT h hq5
   refine Runs.sA 5 [.code (C_43 32400),.code (C_43 32401),.code (C_43 16201),.inBlock 1,.code (C_43 4051),.inLoop (C_43 1012),.inBlock 0,.code (C_43 127)] ?_
   obtain ⟨rAt,hr3,h⟩:=bindSome h
   refine Runs.sR hE ⟨[(0,(encL TMark.cells TMark.d m)),(1,(aI level)),(3,(aI vto)),(11,(.os 0 0 out.length)),(12,(aI k)),(48,(aB (decide (rAt < level))))],[(0,aO 2 TS__2_int.cells TS__2_int.d out)],129⟩ (C_43 32400) [(2,⟨[],true,(aI rAt),[],0,false,none⟩)] [] (kp [0,1,3,11,12,48]) (kq [0]) 129 [Sound Try.prog 38 [(encL TMark.cells TMark.d m),(aI k)] [] 0 (aI rAt) []] ⟨(g_r05_At_ok N m k rAt hr3),trivial⟩ ?_
   refine Runs.sC 48 (C_43 64802) (C_43 64803) (decide (rAt < level)) (fun hq6=>?_) (fun hq6=>?_)
   ·have h:=condT h hq6
    refine Runs.sA 1 [.code (C_43 4051),.inLoop (C_43 1012),.inBlock 0,.code (C_43 127)] ?_
    exact Runs.sW hE _ [] (kp [0,1,3,11,12]) (kq [0]) 1 [] trivial (g_r05_Above_J2_ok N m level vto k (g_r05_Above_L1 N m level vto fuel) ih out _ h E hE)
   ·have h:=condF h hq6
    refine Runs.sA 2 [.code (C_43 32402),.code (C_43 32403),.inBlock 1,.code (C_43 4051),.inLoop (C_43 1012),.inBlock 0,.code (C_43 127)] ?_
    refine Runs.sR hE ⟨[(0,(encL TMark.cells TMark.d m)),(1,(aI level)),(3,(aI vto)),(11,(.os 0 0 out.length)),(12,(aI k)),(13,(aI ((out.length:Nat):Int)))],[(0,aO 2 TS__2_int.cells TS__2_int.d out)],177⟩ (C_43 32402) [] [] (kp [0,1,3,11,12,13]) (kq [0]) 177 [] trivial ?_
    refine Runs.sA 1 [.code (C_43 64806),.code (C_43 64807),.inBlock 1,.code (C_43 4051),.inLoop (C_43 1012),.inBlock 0,.code (C_43 127)] ?_
    obtain ⟨c,h⟩:=ifSome h
    refine Runs.sR hE ⟨[(0,(encL TMark.cells TMark.d m)),(1,(aI level)),(3,(aI vto)),(11,(.os 0 0 out.length)),(12,(aI k)),(13,(aI ((out.length:Nat):Int))),(63,(aB (cond (decide (((out.length:Nat):Int) > 0)) ((out.getD ((w64 (((out.length:Nat):Int) - 1)).toNat) TS__2_int.d).e1 == (w64 (k - 1))) false)))],[(0,aO 2 TS__2_int.cells TS__2_int.d out)],385⟩ (C_43 64806) [] [] (kp [0,1,3,11,12,13,63]) (kq [0]) 385 [(decide (((out.length:Nat):Int) > 0))=true→AllP [(decide (((out.length:Nat):Int) > 0))=true],(decide (((out.length:Nat):Int) > 0))=true→AllP [(decide (((out.length:Nat):Int) > 0))=true,(decide (((out.length:Nat):Int) > 0))=true,0≤(w64 (((out.length:Nat):Int) - 1))∧(w64 (((out.length:Nat):Int) - 1)) < ((out.length:Nat):Int)],(decide (((out.length:Nat):Int) > 0))=true→AllP [(decide (((out.length:Nat):Int) > 0))=true,0≤(1:Int)∧(1:Int) < ((2:Nat):Int)],(decide (((out.length:Nat):Int) > 0))=true→AllP [(decide (((out.length:Nat):Int) > 0))=true,(w64 (((out.length:Nat):Int) - 1)).toNat < out.length],(decide (((out.length:Nat):Int) > 0))=true→AllP [(decide (((out.length:Nat):Int) > 0))=true],(decide (((out.length:Nat):Int) > 0))=true→AllP [(decide (((out.length:Nat):Int) > 0))=true,(decide (((out.length:Nat):Int) > 0))=true],(decide (((out.length:Nat):Int) > 0))=true→AllP [(decide (((out.length:Nat):Int) > 0))=true]] ⟨(fun hg=>⟨hg,trivial⟩),(fun hg=>⟨hg,hg,(c hg),trivial⟩),(fun hg=>⟨hg,(by decide),trivial⟩),(fun hg=>⟨hg,(ltOf (c hg)),trivial⟩),(fun hg=>⟨hg,trivial⟩),(fun hg=>⟨hg,hg,trivial⟩),(fun hq=>⟨hq,trivial⟩),trivial⟩ ?_
    refine Runs.sC 63 (C_43 129614) (C_43 129615) (cond (decide (((out.length:Nat):Int) > 0)) ((out.getD ((w64 (((out.length:Nat):Int) - 1)).toNat) TS__2_int.d).e1 == (w64 (k - 1))) false) (fun hq7=>?_) (fun hq7=>?_)
    ·have h:=condT h hq7
     obtain ⟨c2,h⟩:=ifSome h
     refine Runs.sR hE ⟨[(0,(encL TMark.cells TMark.d m)),(1,(aI level)),(3,(aI vto)),(11,(.os 0 0 ((out.set ((w64 (((out.length:Nat):Int) - 1)).toNat) (⟨(out.getD ((w64 (((out.length:Nat):Int) - 1)).toNat) TS__2_int.d).e0,k⟩:TS__2_int)).length))),(12,(aI k))],[(0,aO 2 TS__2_int.cells TS__2_int.d (out.set ((w64 (((out.length:Nat):Int) - 1)).toNat) (⟨(out.getD ((w64 (((out.length:Nat):Int) - 1)).toNat) TS__2_int.d).e0,k⟩:TS__2_int)))],497⟩ (C_43 129614) [] [] (kp [0,1,3] ++ [(11,.osl ((out.set ((w64 (((out.length:Nat):Int) - 1)).toNat) (⟨(out.getD ((w64 (((out.length:Nat):Int) - 1)).toNat) TS__2_int.d).e0,k⟩:TS__2_int)).length))] ++ kp [12]) [(0,.arr 0 ((out.set ((w64 (((out.length:Nat):Int) - 1)).toNat) (⟨(out.getD ((w64 (((out.length:Nat):Int) - 1)).toNat) TS__2_int.d).e0,k⟩:TS__2_int)).length) (fun zi=>TS__2_int.cells ((out.set ((w64 (((out.length:Nat):Int) - 1)).toNat) (⟨(out.getD ((w64 (((out.length:Nat):Int) - 1)).toNat) TS__2_int.d).e0,k⟩:TS__2_int)).getD zi TS__2_int.d)))] 497 [0≤(w64 (((out.length:Nat):Int) - 1))∧(w64 (((out.length:Nat):Int) - 1)) < ((out.length:Nat):Int),0≤(1:Int)∧(1:Int) < ((2:Nat):Int),(w64 (((out.length:Nat):Int) - 1)).toNat < out.length,out.length=(out.set ((w64 (((out.length:Nat):Int) - 1)).toNat) (⟨(out.getD ((w64 (((out.length:Nat):Int) - 1)).toNat) TS__2_int.d).e0,k⟩:TS__2_int)).length,out.length=(out.set ((w64 (((out.length:Nat):Int) - 1)).toNat) (⟨(out.getD ((w64 (((out.length:Nat):Int) - 1)).toNat) TS__2_int.d).e0,k⟩:TS__2_int)).length,∀ zi,zi < (out.set ((w64 (((out.length:Nat):Int) - 1)).toNat) (⟨(out.getD ((w64 (((out.length:Nat):Int) - 1)).toNat) TS__2_int.d).e0,k⟩:TS__2_int)).length→(fun zi=>TS__2_int.cells ((out.set ((w64 (((out.length:Nat):Int) - 1)).toNat) (⟨(out.getD ((w64 (((out.length:Nat):Int) - 1)).toNat) TS__2_int.d).e0,k⟩:TS__2_int)).getD zi TS__2_int.d)) zi=((fun zm=>if zm=(w64 (((out.length:Nat):Int) - 1)).toNat then [(aI ((out.getD ((w64 (((out.length:Nat):Int) - 1)).toNat) TS__2_int.d).e0)),(aI k)] else (fun zi=>TS__2_int.cells (out.getD zi TS__2_int.d)) zm)) zi] ⟨c2,(by decide),(ltOf c2),(len_set_raw rfl),(len_set_raw rfl),(get_set_raw TS__2_int.cells TS__2_int.d out ((w64 (((out.length:Nat):Int) - 1)).toNat) (⟨(out.getD ((w64 (((out.length:Nat):Int) - 1)).toNat) TS__2_int.d).e0,k⟩:TS__2_int) (fun _ _=>rfl)),trivial⟩ ?_
     refine Runs.sA 1 [.code (C_43 4051),.inLoop (C_43 1012),.inBlock 0,.code (C_43 127)] ?_
     exact Runs.sW hE _ [] (kp [0,1,3,11,12]) (kq [0]) 1 [] trivial (g_r05_Above_J2_ok N m level vto k (g_r05_Above_L1 N m level vto fuel) ih (out.set ((w64 (((out.length:Nat):Int) - 1)).toNat) (⟨(out.getD ((w64 (((out.length:Nat):Int) - 1)).toNat) TS__2_int.d).e0,k⟩:TS__2_int)) _ h E hE)
    ·have h:=condF h hq7
     obtain ⟨c3,h⟩:=ifSome h
     refine Runs.sR hE ⟨[(0,(encL TMark.cells TMark.d m)),(1,(aI level)),(3,(aI vto)),(11,(.os 465 0 ((out ++ ([(⟨k,k⟩:TS__2_int)]:List TS__2_int)).length))),(12,(aI k))],[(465,aO 2 TS__2_int.cells TS__2_int.d (out ++ ([(⟨k,k⟩:TS__2_int)]:List TS__2_int)))],497⟩ (C_43 129615) [] [] (kp [0,1,3] ++ [(11,.osl ((out ++ ([(⟨k,k⟩:TS__2_int)]:List TS__2_int)).length))] ++ kp [12]) [(465,.arr 465 ((out ++ ([(⟨k,k⟩:TS__2_int)]:List TS__2_int)).length) (fun zi=>TS__2_int.cells ((out ++ ([(⟨k,k⟩:TS__2_int)]:List TS__2_int)).getD zi TS__2_int.d)))] 497 [out.length=out.length,(out.length+1) * 16≤140737488355328,0+1≤1,∀ zi,zi < 1→AV.oneL ((fun zi=>([[(aI k),(aI k)]]:List (List AV)).getD zi []) (addz 0 zi))=true,(out.length+1)=(out ++ ([(⟨k,k⟩:TS__2_int)]:List TS__2_int)).length,out.length+1=(out ++ ([(⟨k,k⟩:TS__2_int)]:List TS__2_int)).length,∀ zi,zi < (out ++ ([(⟨k,k⟩:TS__2_int)]:List TS__2_int)).length→(fun zi=>TS__2_int.cells ((out ++ ([(⟨k,k⟩:TS__2_int)]:List TS__2_int)).getD zi TS__2_int.d)) zi=((fun zm=>if zm < out.length then (fun zi=>TS__2_int.cells (out.getD zi TS__2_int.d)) zm else (fun zi=>([[(aI k),(aI k)]]:List (List AV)).getD zi []) (zm - out.length))) zi] ⟨rfl,c3,z0,(oneN rfl),(len_app_raw rfl rfl),(len_app_raw rfl rfl),(get_app_raw TS__2_int.cells TS__2_int.d out ([(⟨k,k⟩:TS__2_int)]:List TS__2_int) rfl (fun _ _=>rfl) (fun zq hzq=>get_chunk TS__2_int.cells TS__2_int.d ([(⟨k,k⟩:TS__2_int)]:List TS__2_int) zq hzq)),trivial⟩ ?_
     refine Runs.sA 1 [.code (C_43 4051),.inLoop (C_43 1012),.inBlock 0,.code (C_43 127)] ?_
     exact Runs.sW hE _ [] (kp [0,1,3,11,12]) [(0,.keep 465)] 1 [] trivial (g_r05_Above_J2_ok N m level vto k (g_r05_Above_L1 N m level vto fuel) ih (out ++ ([(⟨k,k⟩:TS__2_int)]:List TS__2_int)) _ h E hE)
  ·have h:=condF h hq5
   refine Runs.sA 2 [.code (C_43 254),.code (C_43 255)] ?_
   refine Runs.sR hE ⟨[(8,(.os 0 0 out.length)),(9,(aI 0))],[(0,aO 2 TS__2_int.cells TS__2_int.d out)],97⟩ (C_43 254) [] [] (kp [8,9]) (kq [0]) 97 [] trivial ?_
   obtain rfl:=Option.some.inj h
   refine Runs.sW hE ⟨[(8,(encL TS__2_int.cells TS__2_int.d out)),(9,(aI 0))],[],97⟩ [0] ([(8,.sl (out.length) (fun zi=>TS__2_int.cells (out.getD zi TS__2_int.d)))] ++ kp [9]) [] 97 [out.length=out.length,0+out.length≤out.length,∀ zi,zi < out.length→(fun zi=>TS__2_int.cells (out.getD zi TS__2_int.d)) zi=(fun zi=>TS__2_int.cells (out.getD zi TS__2_int.d)) (addz 0 zi)] ⟨rfl,z0,(fun _ _=>rfl),trivial⟩ ?_
   exact Runs.sT Try.f8 [] [] trivial
theorem g_r05_Above_ok (N:Nat) (m:List TMark) (level:Int) (vfrom:Int) (vto:Int) (r:(List TS__2_int)×Int) (h:g_r05_Above N m level vfrom vto=some r):Sound Try.prog 8 [(encL TMark.cells TMark.d m),(aI level),(aI vfrom),(aI vto)] [] 0 (.tup [(encL TS__2_int.cells TS__2_int.d r.1),(aI r.2)]) []:=by
 unfold g_r05_Above at h
 refine Sound.of_runs (fu:=Try.f8) (c:=C_43 1) (nt:=77) (by kernel_rfl) (by kernel_rfl) (by kernel_rfl) (by kernel_rfl) (fun hm=>rfl) ?_
 intro E hE
 refine Runs.sA 1 [.code (C_43 2),.code (C_43 3)] ?_
 refine Runs.sR hE ⟨[(0,(encL TMark.cells TMark.d m)),(1,(aI level)),(2,(aI vfrom)),(3,(aI vto))],[],32⟩ (C_43 2) [] [] (kp [0,1,2,3]) [] 32 [] trivial ?_
 refine Runs.sA 2 [.code (C_43 12),.code (C_43 13),.code (C_43 7)] ?_
 obtain ⟨rCheckSea,hr,h⟩:=bindSome h
 refine Runs.sR hE ⟨[(0,(encL TMark.cells TMark.d m)),(1,(aI level)),(2,(aI vfrom)),(3,(aI vto)),(10,(aI rCheckSea))],[],80⟩ (C_43 12) [(1,⟨[],true,(aI rCheckSea),[],0,false,none⟩)] [] (kp [0,1,2,3,10]) [] 80 [Sound Try.prog 36 [(encL TMark.cells TMark.d m)] [] 0 (aI rCheckSea) []] ⟨(g_r05_CheckSea_ok N m rCheckSea hr),trivial⟩ ?_
 refine Runs.sA 1 [.code (C_43 26),.code (C_43 27),.code (C_43 7)] ?_
 refine Runs.sR hE ⟨[(0,(encL TMark.cells TMark.d m)),(1,(aI level)),(2,(aI vfrom)),(3,(aI vto)),(10,(aI rCheckSea)),(17,(aB (rCheckSea != 0)))],[],112⟩ (C_43 26) [] [] (kp [0,1,2,3,10,17]) [] 112 [] trivial ?_
 refine Runs.sC 17 (C_43 54) (C_43 55) (rCheckSea != 0) (fun hq2=>?_) (fun hq2=>?_)
 ·have h:=condT h hq2
  refine Runs.sA 1 [.code (C_43 108),.code (C_43 109),.code (C_43 7)] ?_
  refine Runs.sR hE ⟨[(8,.nil),(9,(aI rCheckSea))],[],160⟩ (C_43 108) [] [] (kp [8,9]) [] 160 [] trivial ?_
  obtain rfl:=Option.some.inj h
  refine Runs.sW hE ⟨[(8,(encL TS__2_int.cells TS__2_int.d ([]:List TS__2_int))),(9,(aI rCheckSea))],[],160⟩ [] ([(8,.sl (([]:List TS__2_int).length) (fun zi=>TS__2_int.cells (([]:List TS__2_int).getD zi TS__2_int.d)))] ++ kp [9]) [] 160 [([]:List TS__2_int).length=0] ⟨rfl,trivial⟩ ?_
  exact Runs.sT Try.f8 [] [] trivial
 ·have h:=condF h hq2
  refine Runs.sA 3 [.code (C_43 28),.code (C_43 29),.code (C_43 15)] ?_
  obtain ⟨rinside,hr2,h⟩:=bindSome h
  refine Runs.sR hE ⟨[(0,(encL TMark.cells TMark.d m)),(1,(aI level)),(2,(aI vfrom)),(3,(aI vto)),(34,(aB (cond (cond (cond (!rinside) true (decide (vfrom < 0))) true (decide (vto < vfrom))) true (decide (vto > 1000000)))))],[],368⟩ (C_43 28) [(1,⟨[],true,(aB rinside),[],0,false,none⟩)] [] (kp [0,1,2,3,34]) [] 368 [Sound Try.prog 37 [(aI level),(aI (-1000000)),(aI 1000000)] [] 0 (aB rinside) [],(!(!rinside))=true→AllP [(!(!rinside))=true],(!(!rinside))=true→AllP [(!(!rinside))=true],(!(cond (!rinside) true (decide (vfrom < 0))))=true→AllP [(!(cond (!rinside) true (decide (vfrom < 0))))=true,(!(cond (!rinside) true (decide (vfrom < 0))))=true],(!(cond (!rinside) true (decide (vfrom < 0))))=true→AllP [(!(cond (!rinside) true (decide (vfrom < 0))))=true],(!(cond (cond (!rinside) true (decide (vfrom < 0))) true (decide (vto < vfrom))))=true→AllP [(!(cond (cond (!rinside) true (decide (vfrom < 0))) true (decide (vto < vfrom))))=true],(!(cond (cond (!rinside) true (decide (vfrom < 0))) true (decide (vto < vfrom))))=true→AllP [(!(cond (cond (!rinside) true (decide (vfrom < 0))) true (decide (vto < vfrom))))=true]] ⟨(g_r05_inside_ok N level (-1000000) 1000000 rinside hr2),(fun hg=>⟨hg,trivial⟩),(fun hq=>⟨hq,trivial⟩),(fun hg=>⟨hg,hg,trivial⟩),(fun hq=>⟨hq,trivial⟩),(fun hg=>⟨hg,trivial⟩),(fun hq=>⟨hq,trivial⟩),trivial⟩ ?_
  refine Runs.sC 34 (C_43 58) (C_43 59) (cond (cond (cond (!rinside) true (decide (vfrom < 0))) true (decide (vto < vfrom))) true (decide (vto > 1000000))) (fun hq3=>?_) (fun hq3=>?_)
  ·have h:=condT h hq3
   refine Runs.sA 1 [.code (C_43 116),.code (C_43 117),.code (C_43 15)] ?_
   refine Runs.sR hE ⟨[(8,.nil),(9,(aI 2))],[],400⟩ (C_43 116) [] [] (kp [8,9]) [] 400 [] trivial ?_
   obtain rfl:=Option.some.inj h
   refine Runs.sW hE ⟨[(8,(encL TS__2_int.cells TS__2_int.d ([]:List TS__2_int))),(9,(aI 2))],[],400⟩ [] ([(8,.sl (([]:List TS__2_int).length) (fun zi=>TS__2_int.cells (([]:List TS__2_int).getD zi TS__2_int.d)))] ++ kp [9]) [] 400 [([]:List TS__2_int).length=0] ⟨rfl,trivial⟩ ?_
   exact Runs.sT Try.f8 [] [] trivial
  ·have h:=condF h hq3
   refine Runs.sA 3 [.code (C_43 60),.code (C_43 61),.code (C_43 31)] ?_
   refine Runs.sR hE ⟨[(0,(encL TMark.cells TMark.d m)),(1,(aI level)),(2,(aI vfrom)),(3,(aI vto)),(37,(aB (((m.length:Nat):Int) == 0)))],[],416⟩ (C_43 60) [] [] (kp [0,1,2,3,37]) [] 416 [] trivial ?_
   refine Runs.sC 37 (C_43 122) (C_43 123) (((m.length:Nat):Int) == 0) (fun hq4=>?_) (fun hq4=>?_)
   ·have h:=condT h hq4
    refine Runs.sA 1 [.code (C_43 244),.code (C_43 245),.code (C_43 31)] ?_
    refine Runs.sR hE ⟨[(8,.nil),(9,(aI 29))],[],448⟩ (C_43 244) [] [] (kp [8,9]) [] 448 [] trivial ?_
    obtain rfl:=Option.some.inj h
    refine Runs.sW hE ⟨[(8,(encL TS__2_int.cells TS__2_int.d ([]:List TS__2_int))),(9,(aI 29))],[],448⟩ [] ([(8,.sl (([]:List TS__2_int).length) (fun zi=>TS__2_int.cells (([]:List TS__2_int).getD zi TS__2_int.d)))] ++ kp [9]) [] 448 [([]:List TS__2_int).length=0] ⟨rfl,trivial⟩ ?_
    exact Runs.sT Try.f8 [] [] trivial
   ·have h:=condF h hq4
    refine Runs.sA 2 [.code (C_43 62),.code (C_43 63)] ?_
    refine Runs.sR hE ⟨[(0,(encL TMark.cells TMark.d m)),(1,(aI level)),(2,(aI vfrom)),(3,(aI vto)),(11,.nil)],[],432⟩ (C_43 62) [] [] (kp [0,1,2,3,11]) [] 432 [] trivial ?_
    refine Runs.sA 2 [.code (C_43 252),.code (C_43 253),.code (C_43 127)] ?_
    refine Runs.sR hE ⟨[(0,(encL TMark.cells TMark.d m)),(1,(aI level)),(3,(aI vto)),(11,.nil),(12,(aI vfrom))],[],464⟩ (C_43 252) [] [] (kp [0,1,3,11,12]) [] 464 [] trivial ?_
    refine Runs.sA 2 [.code (C_43 1012),.inLoop (C_43 1012),.inBlock 0,.code (C_43 127)] ?_
    exact Runs.sW hE _ [] (kp [0,1,3] ++ [(11,.nilos 0)] ++ kp [12]) [(0,.nil 2 (fun zi=>TS__2_int.cells (([]:List TS__2_int).getD zi TS__2_int.d)))] 1 [] trivial (g_r05_Above_L1_ok N m level vto N ([]:List TS__2_int) vfrom _ h E hE)
noncomputable def C_54 (n:Nat):Code:=cat (bodyOf Try.f96) (pth n)
theorem g_berth_CheckDocks_1_ok (N:Nat) (x:TDock) (r:ByteArray) (h:g_berth_CheckDocks_1 N x=some r):Sound Try.prog 96 [(.agg (TDock.cells x))] [] 0 (aS r) []:=by
 unfold g_berth_CheckDocks_1 at h
 refine Sound.of_runs (fu:=Try.f96) (c:=C_54 1) (nt:=5) (by kernel_rfl) (by kernel_rfl) (by kernel_rfl) (by kernel_rfl) (fun hm=>rfl) ?_
 intro E hE
 refine Runs.sA 1 [.code (C_54 2),.code (C_54 3)] ?_
 refine Runs.sR hE ⟨[(1,(.op 0 0 0))],[(0,vO 6 (TDock.cells x))],32⟩ (C_54 2) [] [] (kp [1]) (kq [0]) 32 [] trivial ?_
 refine Runs.sA 1 [.code (C_54 6),.code (C_54 7)] ?_
 refine Runs.sR hE ⟨[(2,(aS x.f_Name))],[],80⟩ (C_54 6) [] [] (kp [2]) [] 80 [0 < 1] ⟨o1,trivial⟩ ?_
 obtain rfl:=Option.some.inj h
 refine Runs.sW hE ⟨[(2,(aS x.f_Name))],[],80⟩ [] (kp [2]) [] 80 [] trivial ?_
 exact Runs.sT Try.f96 [] [] trivial
noncomputable def C_55 (n:Nat):Code:=cat (bodyOf Try.f108) (pth n)
theorem g_berth_named_L1_ok (N:Nat) (s:ByteArray) (fuel:Nat):∀ (x:Int) (r:Bool),g_berth_named_L1 N s fuel x=some r→∀ E,EnvOk E 0→Runs Try.prog E 108 57 (SPost E [] (aB r)) [.code (C_55 116),.inLoop (C_55 116),.inBlock 0,.code (C_55 15)] ⟨[(0,(aS s)),(15,(aI ((s.size:Nat):Int))),(16,(aI x))],[],0⟩:=by
 induction fuel with
 | zero=>intro _ r h;rw [g_berth_named_L1.eq_1] at h;cases h
 | succ fuel ih =>
  intro x r h E hE
  rw [g_berth_named_L1.eq_2] at h
  refine Runs.sA 1 [.code (C_55 232),.code (C_55 233),.inLoop (C_55 116),.inBlock 0,.code (C_55 15)] ?_
  refine Runs.sR hE ⟨[(0,(aS s)),(15,(aI ((s.size:Nat):Int))),(16,(aI x)),(17,(aB (decide (x < ((s.size:Nat):Int)))))],[],16⟩ (C_55 232) [] [] (kp [0,15,16,17]) [] 16 [] trivial ?_
  refine Runs.sA 1 [.code (C_55 466),.code (C_55 467),.inLoop (C_55 116),.inBlock 0,.code (C_55 15)] ?_
  refine Runs.sC 17 (C_55 932) (C_55 933) (decide (x < ((s.size:Nat):Int))) (fun hq3=>?_) (fun hq3=>?_)
  ·have h:=condT h hq3
   refine Runs.sA 4 [.code (C_55 3736),.code (C_55 3737),.inBlock 1,.code (C_55 935),.inLoop (C_55 116),.inBlock 0,.code (C_55 15)] ?_
   refine Runs.sR hE ⟨[(0,(aS s)),(3,(aI x)),(15,(aI ((s.size:Nat):Int))),(16,(aI x))],[],48⟩ (C_55 3736) [] [] (kp [0,3,15,16]) [] 48 [] trivial ?_
   refine Runs.sA 1 [.code (C_55 7474),.code (C_55 7475),.inBlock 1,.code (C_55 935),.inLoop (C_55 116),.inBlock 0,.code (C_55 15)] ?_
   obtain ⟨c,h⟩:=ifSome h
   refine Runs.sR hE ⟨[(0,(aS s)),(3,(aI x)),(4,(.atom (.int .u8 (byteAt s ((x).toNat))))),(15,(aI ((s.size:Nat):Int))),(16,(aI x))],[],112⟩ (C_55 7474) [] [] (kp [0,3,4,15,16]) [] 112 [0≤x∧x < ((s.size:Nat):Int)] ⟨c,trivial⟩ ?_
   refine Runs.sA 1 [.code (C_55 14950),.code (C_55 14951),.inBlock 1,.code (C_55 935),.inLoop (C_55 116),.inBlock 0,.code (C_55 15)] ?_
   refine Runs.sR hE ⟨[(0,(aS s)),(3,(aI x)),(4,(.atom (.int .u8 (byteAt s ((x).toNat))))),(5,(aB (cond (cond (decide ((byteAt s ((x).toNat))≥97)) (decide ((byteAt s ((x).toNat))≤122)) false) true (cond (decide ((byteAt s ((x).toNat))≥65)) (decide ((byteAt s ((x).toNat))≤90)) false)))),(15,(aI ((s.size:Nat):Int))),(16,(aI x))],[],352⟩ (C_55 14950) [] [] (kp [0,3,4,5,15,16]) [] 352 [(decide ((byteAt s ((x).toNat))≥97))=true→AllP [(decide ((byteAt s ((x).toNat))≥97))=true],(decide ((byteAt s ((x).toNat))≥97))=true→AllP [(decide ((byteAt s ((x).toNat))≥97))=true],(!(cond (decide ((byteAt s ((x).toNat))≥97)) (decide ((byteAt s ((x).toNat))≤122)) false))=true→AllP [(!(cond (decide ((byteAt s ((x).toNat))≥97)) (decide ((byteAt s ((x).toNat))≤122)) false))=true],((!(cond (decide ((byteAt s ((x).toNat))≥97)) (decide ((byteAt s ((x).toNat))≤122)) false)) && ((!(cond (decide ((byteAt s ((x).toNat))≥97)) (decide ((byteAt s ((x).toNat))≤122)) false)) && (decide ((byteAt s ((x).toNat))≥65))))=true→AllP [((!(cond (decide ((byteAt s ((x).toNat))≥97)) (decide ((byteAt s ((x).toNat))≤122)) false)) && ((!(cond (decide ((byteAt s ((x).toNat))≥97)) (decide ((byteAt s ((x).toNat))≤122)) false)) && (decide ((byteAt s ((x).toNat))≥65))))=true],(!(cond (decide ((byteAt s ((x).toNat))≥97)) (decide ((byteAt s ((x).toNat))≤122)) false))=true→AllP [(!(cond (decide ((byteAt s ((x).toNat))≥97)) (decide ((byteAt s ((x).toNat))≤122)) false))=true,(!(cond (decide ((byteAt s ((x).toNat))≥97)) (decide ((byteAt s ((x).toNat))≤122)) false))=true,(decide ((byteAt s ((x).toNat))≥65))=true→AllP [((!(cond (decide ((byteAt s ((x).toNat))≥97)) (decide ((byteAt s ((x).toNat))≤122)) false)) && ((!(cond (decide ((byteAt s ((x).toNat))≥97)) (decide ((byteAt s ((x).toNat))≤122)) false)) && (decide ((byteAt s ((x).toNat))≥65))))=true]],(!(cond (decide ((byteAt s ((x).toNat))≥97)) (decide ((byteAt s ((x).toNat))≤122)) false))=true→AllP [(!(cond (decide ((byteAt s ((x).toNat))≥97)) (decide ((byteAt s ((x).toNat))≤122)) false))=true]] ⟨(fun hg=>⟨hg,trivial⟩),(fun hq=>⟨hq,trivial⟩),(fun hg=>⟨hg,trivial⟩),(fun hg=>⟨hg,trivial⟩),(fun hg=>⟨hg,hg,(fun hq=>⟨(andI' hg (andI' hg hq)),trivial⟩),trivial⟩),(fun hq=>⟨hq,trivial⟩),trivial⟩ ?_
   refine Runs.sA 1 [.code (C_55 29902),.code (C_55 29903),.inBlock 1,.code (C_55 935),.inLoop (C_55 116),.inBlock 0,.code (C_55 15)] ?_
   refine Runs.sR hE ⟨[(0,(aS s)),(3,(aI x)),(5,(aB (cond (cond (decide ((byteAt s ((x).toNat))≥97)) (decide ((byteAt s ((x).toNat))≤122)) false) true (cond (decide ((byteAt s ((x).toNat))≥65)) (decide ((byteAt s ((x).toNat))≤90)) false)))),(6,(aB (cond (cond (decide ((byteAt s ((x).toNat))≥48)) (decide ((byteAt s ((x).toNat))≤57)) false) true ((byteAt s ((x).toNat)) == 45)))),(15,(aI ((s.size:Nat):Int))),(16,(aI x))],[],528⟩ (C_55 29902) [] [] (kp [0,3,5,6,15,16]) [] 528 [(decide ((byteAt s ((x).toNat))≥48))=true→AllP [(decide ((byteAt s ((x).toNat))≥48))=true],(decide ((byteAt s ((x).toNat))≥48))=true→AllP [(decide ((byteAt s ((x).toNat))≥48))=true],(!(cond (decide ((byteAt s ((x).toNat))≥48)) (decide ((byteAt s ((x).toNat))≤57)) false))=true→AllP [(!(cond (decide ((byteAt s ((x).toNat))≥48)) (decide ((byteAt s ((x).toNat))≤57)) false))=true],(!(cond (decide ((byteAt s ((x).toNat))≥48)) (decide ((byteAt s ((x).toNat))≤57)) false))=true→AllP [(!(cond (decide ((byteAt s ((x).toNat))≥48)) (decide ((byteAt s ((x).toNat))≤57)) false))=true]] ⟨(fun hg=>⟨hg,trivial⟩),(fun hq=>⟨hq,trivial⟩),(fun hg=>⟨hg,trivial⟩),(fun hq=>⟨hq,trivial⟩),trivial⟩ ?_
   refine Runs.sA 1 [.code (C_55 59806),.code (C_55 59807),.inBlock 1,.code (C_55 935),.inLoop (C_55 116),.inBlock 0,.code (C_55 15)] ?_
   refine Runs.sR hE ⟨[(0,(aS s)),(15,(aI ((s.size:Nat):Int))),(16,(aI x)),(55,(aB (cond (!(cond (cond (decide ((byteAt s ((x).toNat))≥97)) (decide ((byteAt s ((x).toNat))≤122)) false) true (cond (decide ((byteAt s ((x).toNat))≥65)) (decide ((byteAt s ((x).toNat))≤90)) false))) (cond (x == 0) true (!(cond (cond (decide ((byteAt s ((x).toNat))≥48)) (decide ((byteAt s ((x).toNat))≤57)) false) true ((byteAt s ((x).toNat)) == 45)))) false)))],[],688⟩ (C_55 59806) [] [] (kp [0,15,16,55]) [] 688 [(!(cond (cond (decide ((byteAt s ((x).toNat))≥97)) (decide ((byteAt s ((x).toNat))≤122)) false) true (cond (decide ((byteAt s ((x).toNat))≥65)) (decide ((byteAt s ((x).toNat))≤90)) false)))=true→AllP [(!(cond (cond (decide ((byteAt s ((x).toNat))≥97)) (decide ((byteAt s ((x).toNat))≤122)) false) true (cond (decide ((byteAt s ((x).toNat))≥65)) (decide ((byteAt s ((x).toNat))≤90)) false)))=true],((!(cond (cond (decide ((byteAt s ((x).toNat))≥97)) (decide ((byteAt s ((x).toNat))≤122)) false) true (cond (decide ((byteAt s ((x).toNat))≥65)) (decide ((byteAt s ((x).toNat))≤90)) false))) && ((!(cond (cond (decide ((byteAt s ((x).toNat))≥97)) (decide ((byteAt s ((x).toNat))≤122)) false) true (cond (decide ((byteAt s ((x).toNat))≥65)) (decide ((byteAt s ((x).toNat))≤90)) false))) && (!(x == 0))))=true→AllP [((!(cond (cond (decide ((byteAt s ((x).toNat))≥97)) (decide ((byteAt s ((x).toNat))≤122)) false) true (cond (decide ((byteAt s ((x).toNat))≥65)) (decide ((byteAt s ((x).toNat))≤90)) false))) && ((!(cond (cond (decide ((byteAt s ((x).toNat))≥97)) (decide ((byteAt s ((x).toNat))≤122)) false) true (cond (decide ((byteAt s ((x).toNat))≥65)) (decide ((byteAt s ((x).toNat))≤90)) false))) && (!(x == 0))))=true],(!(cond (cond (decide ((byteAt s ((x).toNat))≥97)) (decide ((byteAt s ((x).toNat))≤122)) false) true (cond (decide ((byteAt s ((x).toNat))≥65)) (decide ((byteAt s ((x).toNat))≤90)) false)))=true→AllP [(!(cond (cond (decide ((byteAt s ((x).toNat))≥97)) (decide ((byteAt s ((x).toNat))≤122)) false) true (cond (decide ((byteAt s ((x).toNat))≥65)) (decide ((byteAt s ((x).toNat))≤90)) false)))=true,(!(cond (cond (decide ((byteAt s ((x).toNat))≥97)) (decide ((byteAt s ((x).toNat))≤122)) false) true (cond (decide ((byteAt s ((x).toNat))≥65)) (decide ((byteAt s ((x).toNat))≤90)) false)))=true,(!(x == 0))=true→AllP [((!(cond (cond (decide ((byteAt s ((x).toNat))≥97)) (decide ((byteAt s ((x).toNat))≤122)) false) true (cond (decide ((byteAt s ((x).toNat))≥65)) (decide ((byteAt s ((x).toNat))≤90)) false))) && ((!(cond (cond (decide ((byteAt s ((x).toNat))≥97)) (decide ((byteAt s ((x).toNat))≤122)) false) true (cond (decide ((byteAt s ((x).toNat))≥65)) (decide ((byteAt s ((x).toNat))≤90)) false))) && (!(x == 0))))=true]],(!(cond (cond (decide ((byteAt s ((x).toNat))≥97)) (decide ((byteAt s ((x).toNat))≤122)) false) true (cond (decide ((byteAt s ((x).toNat))≥65)) (decide ((byteAt s ((x).toNat))≤90)) false)))=true→AllP [(!(cond (cond (decide ((byteAt s ((x).toNat))≥97)) (decide ((byteAt s ((x).toNat))≤122)) false) true (cond (decide ((byteAt s ((x).toNat))≥65)) (decide ((byteAt s ((x).toNat))≤90)) false)))=true]] ⟨(fun hg=>⟨hg,trivial⟩),(fun hg=>⟨hg,trivial⟩),(fun hg=>⟨hg,hg,(fun hq=>⟨(andI' hg (andI' hg hq)),trivial⟩),trivial⟩),(fun hq=>⟨hq,trivial⟩),trivial⟩ ?_
   refine Runs.sC 55 (C_55 119614) (C_55 119615) (cond (!(cond (cond (decide ((byteAt s ((x).toNat))≥97)) (decide ((byteAt s ((x).toNat))≤122)) false) true (cond (decide ((byteAt s ((x).toNat))≥65)) (decide ((byteAt s ((x).toNat))≤90)) false))) (cond (x == 0) true (!(cond (cond (decide ((byteAt s ((x).toNat))≥48)) (decide ((byteAt s ((x).toNat))≤57)) false) true ((byteAt s ((x).toNat)) == 45)))) false) (fun hq4=>?_) (fun hq4=>?_)
   ·have h:=condT h hq4
    refine Runs.sA 1 [.code (C_55 239228),.code (C_55 239229),.inBlock 1,.code (C_55 935),.inLoop (C_55 116),.inBlock 0,.code (C_55 15)] ?_
    refine Runs.sR hE ⟨[(2,(aB false))],[],704⟩ (C_55 239228) [] [] (kp [2]) [] 704 [] trivial ?_
    obtain rfl:=Option.some.inj h
    refine Runs.sW hE ⟨[(2,(aB false))],[],704⟩ [] (kp [2]) [] 704 [] trivial ?_
    exact Runs.sT Try.f108 [] [] trivial
   ·have h:=condF h hq4
    refine Runs.sA 2 [.code (C_55 935),.inLoop (C_55 116),.inBlock 0,.code (C_55 15)] ?_
    refine Runs.sR hE ⟨[(0,(aS s)),(15,(aI ((s.size:Nat):Int))),(16,(aI (w64 (x+1))))],[],720⟩ (C_55 935) [] [] (kp [0,15,16]) [] 720 [] trivial ?_
    refine Runs.sA 1 [.code (C_55 116),.inLoop (C_55 116),.inBlock 0,.code (C_55 15)] ?_
    exact Runs.sW hE _ [] (kp [0,15,16]) [] 0 [] trivial (ih (w64 (x+1)) _ h E hE)
  ·have h:=condF h hq3
   refine Runs.sA 2 [.code (C_55 30),.code (C_55 31)] ?_
   refine Runs.sR hE ⟨[(2,(aB true))],[],32⟩ (C_55 30) [] [] (kp [2]) [] 32 [] trivial ?_
   obtain rfl:=Option.some.inj h
   refine Runs.sW hE ⟨[(2,(aB true))],[],48⟩ [] (kp [2]) [] 48 [] trivial ?_
   exact Runs.sT Try.f108 [] [] trivial
theorem g_berth_named_ok (N:Nat) (s:ByteArray) (r:Bool) (h:g_berth_named N s=some r):Sound Try.prog 108 [(aS s)] [] 0 (aB r) []:=by
 unfold g_berth_named at h
 refine Sound.of_runs (fu:=Try.f108) (c:=C_55 1) (nt:=57) (by kernel_rfl) (by kernel_rfl) (by kernel_rfl) (by kernel_rfl) (fun hm=>rfl) ?_
 intro E hE
 refine Runs.sA 1 [.code (C_55 2),.code (C_55 3)] ?_
 refine Runs.sR hE ⟨[(0,(aS s))],[],16⟩ (C_55 2) [] [] (kp [0]) [] 16 [] trivial ?_
 refine Runs.sA 2 [.code (C_55 12),.code (C_55 13),.code (C_55 7)] ?_
 refine Runs.sR hE ⟨[(0,(aS s)),(13,(aB (cond (streq s ByteArray.empty) true (decide (((s.size:Nat):Int) > 12)))))],[],128⟩ (C_55 12) [] [] (kp [0,13]) [] 128 [(!(streq s ByteArray.empty))=true→AllP [(!(streq s ByteArray.empty))=true],(!(streq s ByteArray.empty))=true→AllP [(!(streq s ByteArray.empty))=true],(!(streq s ByteArray.empty))=true→AllP [(!(streq s ByteArray.empty))=true]] ⟨(fun hg=>⟨hg,trivial⟩),(fun hg=>⟨hg,trivial⟩),(fun hq=>⟨hq,trivial⟩),trivial⟩ ?_
 refine Runs.sC 13 (C_55 26) (C_55 27) (cond (streq s ByteArray.empty) true (decide (((s.size:Nat):Int) > 12))) (fun hq2=>?_) (fun hq2=>?_)
 ·have h:=condT h hq2
  refine Runs.sA 1 [.code (C_55 52),.code (C_55 53),.code (C_55 7)] ?_
  refine Runs.sR hE ⟨[(2,(aB false))],[],144⟩ (C_55 52) [] [] (kp [2]) [] 144 [] trivial ?_
  obtain rfl:=Option.some.inj h
  refine Runs.sW hE ⟨[(2,(aB false))],[],144⟩ [] (kp [2]) [] 144 [] trivial ?_
  exact Runs.sT Try.f108 [] [] trivial
 ·have h:=condF h hq2
  refine Runs.sA 3 [.code (C_55 28),.code (C_55 29),.code (C_55 15)] ?_
  refine Runs.sR hE ⟨[(0,(aS s)),(15,(aI ((s.size:Nat):Int))),(16,(aI 0))],[],176⟩ (C_55 28) [] [] (kp [0,15,16]) [] 176 [] trivial ?_
  refine Runs.sA 2 [.code (C_55 116),.inLoop (C_55 116),.inBlock 0,.code (C_55 15)] ?_
  exact Runs.sW hE _ [] (kp [0,15,16]) [] 0 [] trivial (g_berth_named_L1_ok N s N 0 _ h E hE)
noncomputable def C_58 (n:Nat):Code:=cat (bodyOf Try.f110) (pth n)
theorem g_berth_check_Dock_1_ok (N:Nat) (y:TDock) (cap1:TDock) (r:Bool) (h:g_berth_check_Dock_1 N y cap1=some r):Sound Try.prog 110 [(.agg (TDock.cells y)),(.op 0 0 0),(.op 1 0 0)] [(0,vO 1 [(.fn (.func 96) [] [])]),(1,vO 6 (TDock.cells cap1))] 2 (aB r) [(0,vO 1 [(.fn (.func 96) [] [])]),(1,vO 6 (TDock.cells cap1))]:=by
 unfold g_berth_check_Dock_1 at h
 refine Sound.of_runs (fu:=Try.f110) (c:=C_58 1) (nt:=12) (by kernel_rfl) (by kernel_rfl) (by kernel_rfl) (by kernel_rfl) (fun hm=>absurd hm (by decide)) ?_
 intro E hE
 refine Runs.sA 1 [.code (C_58 2),.code (C_58 3)] ?_
 refine Runs.sR hE ⟨[(1,(.op 0 0 0)),(2,(.op 1 0 0)),(3,(.op 2 0 0))],[(0,vO 1 [(.fn (.func 96) [] [])]),(1,vO 6 (TDock.cells cap1)),(2,vO 6 (TDock.cells y))],34⟩ (C_58 2) [] [] (kp [1,2,3]) (kq [0,1,2]) 34 [] trivial ?_
 refine Runs.sA 1 [.code (C_58 6),.code (C_58 7)] ?_
 obtain ⟨rCheckDocks1,hr,h⟩:=bindSome h
 obtain ⟨rCheckDocks12,hr2,h⟩:=bindSome h
 refine Runs.sR hE ⟨[(4,(aB (streq rCheckDocks1 rCheckDocks12)))],[(0,vO 1 [(.fn (.func 96) [] [])]),(1,vO 6 (TDock.cells cap1))],162⟩ (C_58 6) [(2,⟨[],true,(aS rCheckDocks1),[],0,false,none⟩),(5,⟨[],true,(aS rCheckDocks12),[],0,false,none⟩)] [] (kp [4]) (kq [0,1]) 162 [0 < 1,0 < 1,Sound Try.prog 96 [(.agg (TDock.cells y))] [] 0 (aS rCheckDocks1) [],0 < 1,0 < 1,Sound Try.prog 96 [(.agg (TDock.cells cap1))] [] 0 (aS rCheckDocks12) []] ⟨o1,o1,(g_berth_CheckDocks_1_ok N y rCheckDocks1 hr),o1,o1,(g_berth_CheckDocks_1_ok N cap1 rCheckDocks12 hr2),trivial⟩ ?_
 obtain rfl:=Option.some.inj h
 refine Runs.sW hE ⟨[(4,(aB (streq rCheckDocks1 rCheckDocks12)))],[(0,vO 1 [(.fn (.func 96) [] [])]),(1,vO 6 (TDock.cells cap1))],162⟩ [] (kp [4]) (kq [0,1]) 162 [] trivial ?_
 exact Runs.sT Try.f110 [] [] trivial
noncomputable def C_57 (n:Nat):Code:=cat (bodyOf Try.f53) (pth n)
theorem g_slices_IndexFunc_api_Dock_api_Dock_L1_ok (N:Nat) (s:List TDock) (cap1:TDock) (fuel:Nat):∀ (x:Int) (r:Int),g_slices_IndexFunc_api_Dock_api_Dock_L1 N s cap1 fuel x=some r→∀ E,EnvOk E 2→Runs Try.prog E 53 19 (SPost E [(0,vO 1 [(.fn (.func 96) [] [])]),(1,vO 6 (TDock.cells cap1))] (aI r)) [.code (C_57 52),.inLoop (C_57 52),.inBlock 0,.code (C_57 7)] ⟨[(0,(encL TDock.cells TDock.d s)),(1,(.fn (.func 110) [] [(.op 0 0 0),(.op 1 0 0)])),(7,(aI ((s.length:Nat):Int))),(8,(aI x))],[(0,vO 1 [(.fn (.func 96) [] [])]),(1,vO 6 (TDock.cells cap1))],2⟩:=by
 induction fuel with
 | zero=>intro _ r h;rw [g_slices_IndexFunc_api_Dock_api_Dock_L1.eq_1] at h;cases h
 | succ fuel ih =>
  intro x r h E hE
  rw [g_slices_IndexFunc_api_Dock_api_Dock_L1.eq_2] at h
  refine Runs.sA 1 [.code (C_57 104),.code (C_57 105),.inLoop (C_57 52),.inBlock 0,.code (C_57 7)] ?_
  refine Runs.sR hE ⟨[(0,(encL TDock.cells TDock.d s)),(1,(.fn (.func 110) [] [(.op 0 0 0),(.op 1 0 0)])),(7,(aI ((s.length:Nat):Int))),(8,(aI x)),(9,(aB (decide (x < ((s.length:Nat):Int)))))],[(0,vO 1 [(.fn (.func 96) [] [])]),(1,vO 6 (TDock.cells cap1))],18⟩ (C_57 104) [] [] (kp [0,1,7,8,9]) (kq [0,1]) 18 [] trivial ?_
  refine Runs.sA 1 [.code (C_57 210),.code (C_57 211),.inLoop (C_57 52),.inBlock 0,.code (C_57 7)] ?_
  refine Runs.sC 9 (C_57 420) (C_57 421) (decide (x < ((s.length:Nat):Int))) (fun hq2=>?_) (fun hq2=>?_)
  ·have h:=condT h hq2
   refine Runs.sA 4 [.code (C_57 1688),.code (C_57 1689),.inBlock 1,.code (C_57 423),.inLoop (C_57 52),.inBlock 0,.code (C_57 7)] ?_
   refine Runs.sR hE ⟨[(0,(encL TDock.cells TDock.d s)),(1,(.fn (.func 110) [] [(.op 0 0 0),(.op 1 0 0)])),(5,(aI x)),(7,(aI ((s.length:Nat):Int))),(8,(aI x))],[(0,vO 1 [(.fn (.func 96) [] [])]),(1,vO 6 (TDock.cells cap1))],50⟩ (C_57 1688) [] [] (kp [0,1,5,7,8]) (kq [0,1]) 50 [] trivial ?_
   refine Runs.sA 1 [.code (C_57 3378),.code (C_57 3379),.inBlock 1,.code (C_57 423),.inLoop (C_57 52),.inBlock 0,.code (C_57 7)] ?_
   obtain ⟨c,h⟩:=ifSome h
   obtain ⟨rDock1,hr,h⟩:=bindSome h
   refine Runs.sR hE ⟨[(0,(encL TDock.cells TDock.d s)),(1,(.fn (.func 110) [] [(.op 0 0 0),(.op 1 0 0)])),(5,(aI x)),(7,(aI ((s.length:Nat):Int))),(8,(aI x)),(16,(aB rDock1))],[(0,vO 1 [(.fn (.func 96) [] [])]),(1,vO 6 (TDock.cells cap1))],146⟩ (C_57 3378) [(5,⟨[0,1],true,(aB rDock1),[],0,false,none⟩)] [] (kp [0,1,5,7,8,16]) (kq [0,1]) 146 [0≤x∧x < ((s.length:Nat):Int),Sound Try.prog 110 [(.agg (TDock.cells (s.getD ((x).toNat) TDock.d))),(.op 0 0 0),(.op 1 0 0)] [(0,vO 1 [(.fn (.func 96) [] [])]),(1,vO 6 (TDock.cells cap1))] 2 (aB rDock1) [(0,vO 1 [(.fn (.func 96) [] [])]),(1,vO 6 (TDock.cells cap1))]] ⟨c,(g_berth_check_Dock_1_ok N (s.getD ((x).toNat) TDock.d) cap1 rDock1 hr),trivial⟩ ?_
   refine Runs.sC 16 (C_57 6758) (C_57 6759) rDock1 (fun hq3=>?_) (fun hq3=>?_)
   ·have h:=condT h hq3
    refine Runs.sA 1 [.code (C_57 13516),.code (C_57 13517),.inBlock 1,.code (C_57 423),.inLoop (C_57 52),.inBlock 0,.code (C_57 7)] ?_
    refine Runs.sR hE ⟨[(4,(aI x))],[(0,vO 1 [(.fn (.func 96) [] [])]),(1,vO 6 (TDock.cells cap1))],178⟩ (C_57 13516) [] [] (kp [4]) (kq [0,1]) 178 [] trivial ?_
    obtain rfl:=Option.some.inj h
    refine Runs.sW hE ⟨[(4,(aI x))],[(0,vO 1 [(.fn (.func 96) [] [])]),(1,vO 6 (TDock.cells cap1))],178⟩ [] (kp [4]) (kq [0,1]) 178 [] trivial ?_
    exact Runs.sT Try.f53 [] [] trivial
   ·have h:=condF h hq3
    refine Runs.sA 2 [.code (C_57 423),.inLoop (C_57 52),.inBlock 0,.code (C_57 7)] ?_
    refine Runs.sR hE ⟨[(0,(encL TDock.cells TDock.d s)),(1,(.fn (.func 110) [] [(.op 0 0 0),(.op 1 0 0)])),(7,(aI ((s.length:Nat):Int))),(8,(aI (w64 (x+1))))],[(0,vO 1 [(.fn (.func 96) [] [])]),(1,vO 6 (TDock.cells cap1))],178⟩ (C_57 423) [] [] (kp [0,1,7,8]) (kq [0,1]) 178 [] trivial ?_
    refine Runs.sA 1 [.code (C_57 52),.inLoop (C_57 52),.inBlock 0,.code (C_57 7)] ?_
    exact Runs.sW hE _ [] (kp [0,1,7,8]) (kq [0,1]) 2 [] trivial (ih (w64 (x+1)) _ h E hE)
  ·have h:=condF h hq2
   refine Runs.sA 2 [.code (C_57 14),.code (C_57 15)] ?_
   refine Runs.sR hE ⟨[(4,(aI (-1)))],[(0,vO 1 [(.fn (.func 96) [] [])]),(1,vO 6 (TDock.cells cap1))],34⟩ (C_57 14) [] [] (kp [4]) (kq [0,1]) 34 [] trivial ?_
   obtain rfl:=Option.some.inj h
   refine Runs.sW hE ⟨[(4,(aI (-1)))],[(0,vO 1 [(.fn (.func 96) [] [])]),(1,vO 6 (TDock.cells cap1))],50⟩ [] (kp [4]) (kq [0,1]) 50 [] trivial ?_
   exact Runs.sT Try.f53 [] [] trivial
theorem g_slices_IndexFunc_api_Dock_api_Dock_ok (N:Nat) (s:List TDock) (cap1:TDock) (r:Int) (h:g_slices_IndexFunc_api_Dock_api_Dock N s cap1=some r):Sound Try.prog 53 [(encL TDock.cells TDock.d s),(.fn (.func 110) [] [(.op 0 0 0),(.op 1 0 0)])] [(0,vO 1 [(.fn (.func 96) [] [])]),(1,vO 6 (TDock.cells cap1))] 2 (aI r) [(0,vO 1 [(.fn (.func 96) [] [])]),(1,vO 6 (TDock.cells cap1))]:=by
 unfold g_slices_IndexFunc_api_Dock_api_Dock at h
 refine Sound.of_runs (fu:=Try.f53) (c:=C_57 1) (nt:=19) (by kernel_rfl) (by kernel_rfl) (by kernel_rfl) (by kernel_rfl) (fun hm=>absurd hm (by decide)) ?_
 intro E hE
 refine Runs.sA 1 [.code (C_57 2),.code (C_57 3)] ?_
 refine Runs.sR hE ⟨[(0,(encL TDock.cells TDock.d s)),(1,(.fn (.func 110) [] [(.op 0 0 0),(.op 1 0 0)]))],[(0,vO 1 [(.fn (.func 96) [] [])]),(1,vO 6 (TDock.cells cap1))],18⟩ (C_57 2) [] [] (kp [0,1]) (kq [0,1]) 18 [] trivial ?_
 refine Runs.sA 2 [.code (C_57 12),.code (C_57 13),.code (C_57 7)] ?_
 refine Runs.sR hE ⟨[(0,(encL TDock.cells TDock.d s)),(1,(.fn (.func 110) [] [(.op 0 0 0),(.op 1 0 0)])),(7,(aI ((s.length:Nat):Int))),(8,(aI 0))],[(0,vO 1 [(.fn (.func 96) [] [])]),(1,vO 6 (TDock.cells cap1))],66⟩ (C_57 12) [] [] (kp [0,1,7,8]) (kq [0,1]) 66 [] trivial ?_
 refine Runs.sA 2 [.code (C_57 52),.inLoop (C_57 52),.inBlock 0,.code (C_57 7)] ?_
 exact Runs.sW hE _ [] (kp [0,1,7,8]) (kq [0,1]) 2 [] trivial (g_slices_IndexFunc_api_Dock_api_Dock_L1_ok N s cap1 N 0 _ h E hE)
noncomputable def C_56 (n:Nat):Code:=cat (bodyOf Try.f109) (pth n)
theorem g_slices_ContainsFunc_api_Dock_api_Dock_ok (N:Nat) (s:List TDock) (cap1:TDock) (r:Bool) (h:g_slices_ContainsFunc_api_Dock_api_Dock N s cap1=some r):Sound Try.prog 109 [(encL TDock.cells TDock.d s),(.fn (.func 110) [] [(.op 0 0 0),(.op 1 0 0)])] [(0,vO 1 [(.fn (.func 96) [] [])]),(1,vO 6 (TDock.cells cap1))] 2 (aB r) [(0,vO 1 [(.fn (.func 96) [] [])]),(1,vO 6 (TDock.cells cap1))]:=by
 unfold g_slices_ContainsFunc_api_Dock_api_Dock at h
 refine Sound.of_runs (fu:=Try.f109) (c:=C_56 1) (nt:=9) (by kernel_rfl) (by kernel_rfl) (by kernel_rfl) (by kernel_rfl) (fun hm=>absurd hm (by decide)) ?_
 intro E hE
 refine Runs.sA 1 [.code (C_56 2),.code (C_56 3)] ?_
 refine Runs.sR hE ⟨[(0,(encL TDock.cells TDock.d s)),(1,(.fn (.func 110) [] [(.op 0 0 0),(.op 1 0 0)]))],[(0,vO 1 [(.fn (.func 96) [] [])]),(1,vO 6 (TDock.cells cap1))],18⟩ (C_56 2) [] [] (kp [0,1]) (kq [0,1]) 18 [] trivial ?_
 refine Runs.sA 1 [.code (C_56 6),.code (C_56 7)] ?_
 obtain ⟨rDock,hr,h⟩:=bindSome h
 refine Runs.sR hE ⟨[(4,(aB (decide (rDock≥0))))],[(0,vO 1 [(.fn (.func 96) [] [])]),(1,vO 6 (TDock.cells cap1))],98⟩ (C_56 6) [(2,⟨[0,1],true,(aI rDock),[],0,false,none⟩)] [] (kp [4]) (kq [0,1]) 98 [Sound Try.prog 53 [(encL TDock.cells TDock.d s),(.fn (.func 110) [] [(.op 0 0 0),(.op 1 0 0)])] [(0,vO 1 [(.fn (.func 96) [] [])]),(1,vO 6 (TDock.cells cap1))] 2 (aI rDock) [(0,vO 1 [(.fn (.func 96) [] [])]),(1,vO 6 (TDock.cells cap1))]] ⟨(g_slices_IndexFunc_api_Dock_api_Dock_ok N s cap1 rDock hr),trivial⟩ ?_
 obtain rfl:=Option.some.inj h
 refine Runs.sW hE ⟨[(4,(aB (decide (rDock≥0))))],[(0,vO 1 [(.fn (.func 96) [] [])]),(1,vO 6 (TDock.cells cap1))],98⟩ [] (kp [4]) (kq [0,1]) 98 [] trivial ?_
 exact Runs.sT Try.f109 [] [] trivial
noncomputable def C_60 (n:Nat):Code:=cat (bodyOf Try.f79) (pth n)
theorem g_berth_outside_ok (N:Nat) (n:Int) (lo:Int) (hi:Int) (r:Bool) (h:g_berth_outside N n lo hi=some r):Sound Try.prog 79 [(aI n),(aI lo),(aI hi)] [] 0 (aB r) []:=by
 unfold g_berth_outside at h
 refine Sound.of_runs (fu:=Try.f79) (c:=C_60 1) (nt:=15) (by kernel_rfl) (by kernel_rfl) (by kernel_rfl) (by kernel_rfl) (fun hm=>rfl) ?_
 intro E hE
 refine Runs.sA 1 [.code (C_60 2),.code (C_60 3)] ?_
 refine Runs.sR hE ⟨[(0,(aI n)),(1,(aI lo)),(2,(aI hi))],[],16⟩ (C_60 2) [] [] (kp [0,1,2]) [] 16 [] trivial ?_
 refine Runs.sA 1 [.code (C_60 6),.code (C_60 7)] ?_
 refine Runs.sR hE ⟨[(6,(aB (cond (decide (n < lo)) true (decide (n > hi)))))],[],160⟩ (C_60 6) [] [] (kp [6]) [] 160 [(!(decide (n < lo)))=true→AllP [(!(decide (n < lo)))=true,(!(decide (n < lo)))=true],(!(decide (n < lo)))=true→AllP [(!(decide (n < lo)))=true]] ⟨(fun hg=>⟨hg,hg,trivial⟩),(fun hq=>⟨hq,trivial⟩),trivial⟩ ?_
 obtain rfl:=Option.some.inj h
 refine Runs.sW hE ⟨[(6,(aB (cond (decide (n < lo)) true (decide (n > hi)))))],[],160⟩ [] (kp [6]) [] 160 [] trivial ?_
 exact Runs.sT Try.f79 [] [] trivial
noncomputable def C_61 (n:Nat):Code:=cat (bodyOf Try.f78) (pth n)
theorem g_berth_ranged_ok (N:Nat) (wrong:Bool) (r:Int) (h:g_berth_ranged N wrong=some r):Sound Try.prog 78 [(aB wrong)] [] 0 (aI r) []:=by
 unfold g_berth_ranged at h
 refine Sound.of_runs (fu:=Try.f78) (c:=C_61 1) (nt:=4) (by kernel_rfl) (by kernel_rfl) (by kernel_rfl) (by kernel_rfl) (fun hm=>rfl) ?_
 intro E hE
 refine Runs.sA 1 [.code (C_61 2),.code (C_61 3)] ?_
 refine Runs.sR hE ⟨[(0,(aB wrong))],[],16⟩ (C_61 2) [] [] (kp [0]) [] 16 [] trivial ?_
 refine Runs.sA 2 [.code (C_61 12),.code (C_61 13),.code (C_61 7)] ?_
 refine Runs.sR hE ⟨[(3,(aB wrong))],[],32⟩ (C_61 12) [] [] (kp [3]) [] 32 [] trivial ?_
 refine Runs.sC 3 (C_61 26) (C_61 27) wrong (fun hq2=>?_) (fun hq2=>?_)
 ·have h:=condT h hq2
  refine Runs.sA 1 [.code (C_61 52),.code (C_61 53),.code (C_61 7)] ?_
  refine Runs.sR hE ⟨[(2,(aI 2))],[],48⟩ (C_61 52) [] [] (kp [2]) [] 48 [] trivial ?_
  obtain rfl:=Option.some.inj h
  refine Runs.sW hE ⟨[(2,(aI 2))],[],48⟩ [] (kp [2]) [] 48 [] trivial ?_
  exact Runs.sT Try.f78 [] [] trivial
 ·have h:=condF h hq2
  refine Runs.sA 2 [.code (C_61 14),.code (C_61 15)] ?_
  refine Runs.sR hE ⟨[(2,(aI 0))],[],48⟩ (C_61 14) [] [] (kp [2]) [] 48 [] trivial ?_
  obtain rfl:=Option.some.inj h
  refine Runs.sW hE ⟨[(2,(aI 0))],[],48⟩ [] (kp [2]) [] 48 [] trivial ?_
  exact Runs.sT Try.f78 [] [] trivial
noncomputable def C_59 (n:Nat):Code:=cat (bodyOf Try.f97) (pth n)
theorem g_berth_CheckDocks_2_ok (N:Nat) (x:TDock) (r:Int) (h:g_berth_CheckDocks_2 N x=some r):Sound Try.prog 97 [(.agg (TDock.cells x))] [] 0 (aI r) []:=by
 unfold g_berth_CheckDocks_2 at h
 refine Sound.of_runs (fu:=Try.f97) (c:=C_59 1) (nt:=27) (by kernel_rfl) (by kernel_rfl) (by kernel_rfl) (by kernel_rfl) (fun hm=>rfl) ?_
 intro E hE
 refine Runs.sA 1 [.code (C_59 2),.code (C_59 3)] ?_
 refine Runs.sR hE ⟨[(1,(.op 0 0 0))],[(0,vO 6 (TDock.cells x))],32⟩ (C_59 2) [] [] (kp [1]) (kq [0]) 32 [] trivial ?_
 refine Runs.sA 1 [.code (C_59 6),.code (C_59 7)] ?_
 obtain ⟨routside,hr,h⟩:=bindSome h
 obtain ⟨routside2,hr2,h⟩:=bindSome h
 obtain ⟨routside3,hr3,h⟩:=bindSome h
 obtain ⟨routside4,hr4,h⟩:=bindSome h
 obtain ⟨routside5,hr5,h⟩:=bindSome h
 obtain ⟨rranged,hr6,h⟩:=bindSome h
 refine Runs.sR hE ⟨[(2,(aI rranged))],[],432⟩ (C_59 6) [(2,⟨[],true,(aB routside),[],0,false,none⟩),(6,⟨[],true,(aB routside2),[],0,false,none⟩),(11,⟨[],true,(aB routside3),[],0,false,none⟩),(16,⟨[],true,(aB routside4),[],0,false,none⟩),(21,⟨[],true,(aB routside5),[],0,false,none⟩),(23,⟨[],true,(aI rranged),[],0,false,none⟩)] [] (kp [2]) [] 432 [0 < 1,Sound Try.prog 79 [(aI x.f_Length),(aI 1),(aI 1000000)] [] 0 (aB routside) [],(!routside)=true→AllP [(!routside)=true,0 < 1],(!routside)=true→AllP [Sound Try.prog 79 [(aI x.f_Width),(aI 1),(aI 1000000)] [] 0 (aB routside2) [],(!routside)=true],(!routside)=true→AllP [(!routside)=true],(!(cond routside true routside2))=true→AllP [(!(cond routside true routside2))=true,0 < 1],(!(cond routside true routside2))=true→AllP [Sound Try.prog 79 [(aI x.f_Sill),(aI (-1000000)),(aI 1000000)] [] 0 (aB routside3) [],(!(cond routside true routside2))=true],(!(cond routside true routside2))=true→AllP [(!(cond routside true routside2))=true],(!(cond (cond routside true routside2) true routside3))=true→AllP [(!(cond (cond routside true routside2) true routside3))=true,0 < 1],(!(cond (cond routside true routside2) true routside3))=true→AllP [Sound Try.prog 79 [(aI x.f_Floor),(aI (-1000000)),(aI 1000000)] [] 0 (aB routside4) [],(!(cond (cond routside true routside2) true routside3))=true],(!(cond (cond routside true routside2) true routside3))=true→AllP [(!(cond (cond routside true routside2) true routside3))=true],(!(cond (cond (cond routside true routside2) true routside3) true routside4))=true→AllP [(!(cond (cond (cond routside true routside2) true routside3) true routside4))=true,0 < 1],(!(cond (cond (cond routside true routside2) true routside3) true routside4))=true→AllP [Sound Try.prog 79 [(aI x.f_Gap),(aI 0),(aI 1000000)] [] 0 (aB routside5) [],(!(cond (cond (cond routside true routside2) true routside3) true routside4))=true],(!(cond (cond (cond routside true routside2) true routside3) true routside4))=true→AllP [(!(cond (cond (cond routside true routside2) true routside3) true routside4))=true],Sound Try.prog 78 [(aB (cond (cond (cond (cond routside true routside2) true routside3) true routside4) true routside5))] [] 0 (aI rranged) []] ⟨o1,(g_berth_outside_ok N x.f_Length 1 1000000 routside hr),(fun hg=>⟨hg,o1,trivial⟩),(fun hg=>⟨(g_berth_outside_ok N x.f_Width 1 1000000 routside2 (condT hr2 hg)),hg,trivial⟩),(fun hq=>⟨hq,trivial⟩),(fun hg=>⟨hg,o1,trivial⟩),(fun hg=>⟨(g_berth_outside_ok N x.f_Sill (-1000000) 1000000 routside3 (condT hr3 hg)),hg,trivial⟩),(fun hq=>⟨hq,trivial⟩),(fun hg=>⟨hg,o1,trivial⟩),(fun hg=>⟨(g_berth_outside_ok N x.f_Floor (-1000000) 1000000 routside4 (condT hr4 hg)),hg,trivial⟩),(fun hq=>⟨hq,trivial⟩),(fun hg=>⟨hg,o1,trivial⟩),(fun hg=>⟨(g_berth_outside_ok N x.f_Gap 0 1000000 routside5 (condT hr5 hg)),hg,trivial⟩),(fun hq=>⟨hq,trivial⟩),(g_berth_ranged_ok N (cond (cond (cond (cond routside true routside2) true routside3) true routside4) true routside5) rranged hr6),trivial⟩ ?_
 obtain rfl:=Option.some.inj h
 refine Runs.sW hE ⟨[(2,(aI rranged))],[],432⟩ [] (kp [2]) [] 432 [] trivial ?_
 exact Runs.sT Try.f97 [] [] trivial
noncomputable def C_53 (n:Nat):Code:=cat (bodyOf Try.f95) (pth n)
theorem g_berth_check_Dock_L1_ok (N:Nat) (l:List TDock) (fuel:Nat):∀ (x:Int) (r:Int),g_berth_check_Dock_L1 N l fuel x=some r→∀ E,EnvOk E 0→Runs Try.prog E 95 40 (SPost E [] (aI r)) [.code (C_53 116),.inLoop (C_53 116),.inBlock 0,.code (C_53 15)] ⟨[(0,(encL TDock.cells TDock.d l)),(3,(.fn (.func 97) [] [])),(6,(.op 0 0 0)),(16,(encL TDock.cells TDock.d l)),(17,(aI ((l.length:Nat):Int))),(18,(aI x))],[(0,vO 1 [(.fn (.func 96) [] [])])],1⟩:=by
 induction fuel with
 | zero=>intro _ r h;rw [g_berth_check_Dock_L1.eq_1] at h;cases h
 | succ fuel ih =>
  intro x r h E hE
  rw [g_berth_check_Dock_L1.eq_2] at h
  refine Runs.sA 1 [.code (C_53 232),.code (C_53 233),.inLoop (C_53 116),.inBlock 0,.code (C_53 15)] ?_
  refine Runs.sR hE ⟨[(0,(encL TDock.cells TDock.d l)),(3,(.fn (.func 97) [] [])),(6,(.op 0 0 0)),(16,(encL TDock.cells TDock.d l)),(17,(aI ((l.length:Nat):Int))),(18,(aI x)),(19,(aB (decide (x < ((l.length:Nat):Int)))))],[(0,vO 1 [(.fn (.func 96) [] [])])],17⟩ (C_53 232) [] [] (kp [0,3,6,16,17,18,19]) (kq [0]) 17 [] trivial ?_
  refine Runs.sA 1 [.code (C_53 466),.code (C_53 467),.inLoop (C_53 116),.inBlock 0,.code (C_53 15)] ?_
  refine Runs.sC 19 (C_53 932) (C_53 933) (decide (x < ((l.length:Nat):Int))) (fun hq3=>?_) (fun hq3=>?_)
  ·have h:=condT h hq3
   refine Runs.sA 4 [.code (C_53 3736),.code (C_53 3737),.inBlock 1,.code (C_53 935),.inLoop (C_53 116),.inBlock 0,.code (C_53 15)] ?_
   obtain ⟨c,h⟩:=ifSome h
   refine Runs.sR hE ⟨[(0,(encL TDock.cells TDock.d l)),(3,(.fn (.func 97) [] [])),(6,(.op 0 0 0)),(9,(aI x)),(10,(.op 65 0 0)),(16,(encL TDock.cells TDock.d l)),(17,(aI ((l.length:Nat):Int))),(18,(aI x))],[(0,vO 1 [(.fn (.func 96) [] [])]),(65,vO 6 (TDock.cells (l.getD ((x).toNat) TDock.d)))],113⟩ (C_53 3736) [] [] (kp [0,3,6,9,10,16,17,18]) (kq [0,65]) 113 [0≤x∧x < ((l.length:Nat):Int),0 < 1] ⟨c,o1,trivial⟩ ?_
   refine Runs.sA 2 [.code (C_53 14948),.code (C_53 14949),.code (C_53 7475),.inBlock 1,.code (C_53 935),.inLoop (C_53 116),.inBlock 0,.code (C_53 15)] ?_
   obtain ⟨rCheckDocks1,hr,h⟩:=bindSome h
   obtain ⟨rnamed,hr2,h⟩:=bindSome h
   refine Runs.sR hE ⟨[(0,(encL TDock.cells TDock.d l)),(3,(.fn (.func 97) [] [])),(6,(.op 0 0 0)),(9,(aI x)),(10,(.op 65 0 0)),(16,(encL TDock.cells TDock.d l)),(17,(aI ((l.length:Nat):Int))),(18,(aI x)),(27,(aB (!rnamed)))],[(0,vO 1 [(.fn (.func 96) [] [])]),(65,vO 6 (TDock.cells (l.getD ((x).toNat) TDock.d)))],193⟩ (C_53 14948) [(2,⟨[],true,(aS rCheckDocks1),[],0,false,none⟩),(3,⟨[],true,(aB rnamed),[],0,false,none⟩)] [] (kp [0,3,6,9,10,16,17,18,27]) (kq [0,65]) 193 [0 < 1,0 < 1,Sound Try.prog 96 [(.agg (TDock.cells (l.getD ((x).toNat) TDock.d)))] [] 0 (aS rCheckDocks1) [],Sound Try.prog 108 [(aS rCheckDocks1)] [] 0 (aB rnamed) []] ⟨o1,o1,(g_berth_CheckDocks_1_ok N (l.getD ((x).toNat) TDock.d) rCheckDocks1 hr),(g_berth_named_ok N rCheckDocks1 rnamed hr2),trivial⟩ ?_
   refine Runs.sC 27 (C_53 29898) (C_53 29899) (!rnamed) (fun hq4=>?_) (fun hq4=>?_)
   ·have h:=condT h hq4
    refine Runs.sA 1 [.code (C_53 59796),.code (C_53 59797),.code (C_53 7475),.inBlock 1,.code (C_53 935),.inLoop (C_53 116),.inBlock 0,.code (C_53 15)] ?_
    refine Runs.sR hE ⟨[(8,(aI 4))],[],209⟩ (C_53 59796) [] [] (kp [8]) [] 209 [] trivial ?_
    obtain rfl:=Option.some.inj h
    refine Runs.sW hE ⟨[(8,(aI 4))],[],209⟩ [] (kp [8]) [] 209 [] trivial ?_
    exact Runs.sT Try.f95 [] [] trivial
   ·have h:=condF h hq4
    refine Runs.sA 3 [.code (C_53 29900),.code (C_53 29901),.code (C_53 14951),.inBlock 1,.code (C_53 935),.inLoop (C_53 116),.inBlock 0,.code (C_53 15)] ?_
    obtain ⟨c2,h⟩:=ifSome h
    obtain ⟨c3,h⟩:=ifSome h
    obtain ⟨rDock,hr3,h⟩:=bindSome h
    refine Runs.sR hE ⟨[(0,(encL TDock.cells TDock.d l)),(3,(.fn (.func 97) [] [])),(6,(.op 0 0 0)),(10,(.op 65 0 0)),(16,(encL TDock.cells TDock.d l)),(17,(aI ((l.length:Nat):Int))),(18,(aI x)),(32,(aB rDock))],[(0,vO 1 [(.fn (.func 96) [] [])]),(65,vO 6 (TDock.cells (l.getD ((x).toNat) TDock.d)))],273⟩ (C_53 29900) [(4,⟨[0,65],true,(aB rDock),[],0,false,none⟩)] [] (kp [0,3,6,10,16,17,18,32]) (kq [0,65]) 273 [0≤(x).toNat∧(x).toNat≤l.length,0≤x,Sound Try.prog 109 [(.sl ((x).toNat - 0) (fun zi=>TDock.cells (l.getD (addz 0 zi) TDock.d))),(.fn (.func 110) [] [(.op 0 0 0),(.op 1 0 0)])] [(0,vO 1 [(.fn (.func 96) [] [])]),(1,vO 6 (TDock.cells (l.getD ((x).toNat) TDock.d)))] 2 (aB rDock) [(0,vO 1 [(.fn (.func 96) [] [])]),(1,vO 6 (TDock.cells (l.getD ((x).toNat) TDock.d)))]] ⟨c2,c3,(Sound.conv (g_slices_ContainsFunc_api_Dock_api_Dock_ok N ((l.take ((x).toNat)).drop 0) (l.getD ((x).toNat) TDock.d) rDock hr3) (.cons (Alike.sl (len_ext' l 0 ((x).toNat) c2) (fun zq hzq=>get_ext TDock.cells TDock.d l 0 ((x).toNat) zq hzq)) (.cons (Alike.refl _) .nil))),trivial⟩ ?_
    refine Runs.sC 32 (C_53 59802) (C_53 59803) rDock (fun hq5=>?_) (fun hq5=>?_)
    ·have h:=condT h hq5
     refine Runs.sA 1 [.code (C_53 119604),.code (C_53 119605),.code (C_53 14951),.inBlock 1,.code (C_53 935),.inLoop (C_53 116),.inBlock 0,.code (C_53 15)] ?_
     refine Runs.sR hE ⟨[(8,(aI 5))],[],289⟩ (C_53 119604) [] [] (kp [8]) [] 289 [] trivial ?_
     obtain rfl:=Option.some.inj h
     refine Runs.sW hE ⟨[(8,(aI 5))],[],289⟩ [] (kp [8]) [] 289 [] trivial ?_
     exact Runs.sT Try.f95 [] [] trivial
    ·have h:=condF h hq5
     refine Runs.sA 2 [.code (C_53 29902),.code (C_53 29903),.inBlock 1,.code (C_53 935),.inLoop (C_53 116),.inBlock 0,.code (C_53 15)] ?_
     obtain ⟨rCheckDocks2,hr4,h⟩:=bindSome h
     refine Runs.sR hE ⟨[(0,(encL TDock.cells TDock.d l)),(3,(.fn (.func 97) [] [])),(6,(.op 0 0 0)),(11,(aI rCheckDocks2)),(16,(encL TDock.cells TDock.d l)),(17,(aI ((l.length:Nat):Int))),(18,(aI x))],[(0,vO 1 [(.fn (.func 96) [] [])])],337⟩ (C_53 29902) [(2,⟨[],true,(aI rCheckDocks2),[],0,false,none⟩)] [] (kp [0,3,6,11,16,17,18]) (kq [0]) 337 [0 < 1,Sound Try.prog 97 [(.agg (TDock.cells (l.getD ((x).toNat) TDock.d)))] [] 0 (aI rCheckDocks2) []] ⟨o1,(g_berth_CheckDocks_2_ok N (l.getD ((x).toNat) TDock.d) rCheckDocks2 hr4),trivial⟩ ?_
     refine Runs.sA 1 [.code (C_53 59806),.code (C_53 59807),.inBlock 1,.code (C_53 935),.inLoop (C_53 116),.inBlock 0,.code (C_53 15)] ?_
     refine Runs.sR hE ⟨[(0,(encL TDock.cells TDock.d l)),(3,(.fn (.func 97) [] [])),(6,(.op 0 0 0)),(11,(aI rCheckDocks2)),(16,(encL TDock.cells TDock.d l)),(17,(aI ((l.length:Nat):Int))),(18,(aI x)),(37,(aB (rCheckDocks2 != 0)))],[(0,vO 1 [(.fn (.func 96) [] [])])],369⟩ (C_53 59806) [] [] (kp [0,3,6,11,16,17,18,37]) (kq [0]) 369 [] trivial ?_
     refine Runs.sC 37 (C_53 119614) (C_53 119615) (rCheckDocks2 != 0) (fun hq6=>?_) (fun hq6=>?_)
     ·have h:=condT h hq6
      refine Runs.sA 1 [.code (C_53 239228),.code (C_53 239229),.inBlock 1,.code (C_53 935),.inLoop (C_53 116),.inBlock 0,.code (C_53 15)] ?_
      refine Runs.sR hE ⟨[(8,(aI rCheckDocks2))],[],401⟩ (C_53 239228) [] [] (kp [8]) [] 401 [] trivial ?_
      obtain rfl:=Option.some.inj h
      refine Runs.sW hE ⟨[(8,(aI rCheckDocks2))],[],401⟩ [] (kp [8]) [] 401 [] trivial ?_
      exact Runs.sT Try.f95 [] [] trivial
     ·have h:=condF h hq6
      refine Runs.sA 2 [.code (C_53 935),.inLoop (C_53 116),.inBlock 0,.code (C_53 15)] ?_
      refine Runs.sR hE ⟨[(0,(encL TDock.cells TDock.d l)),(3,(.fn (.func 97) [] [])),(6,(.op 0 0 0)),(16,(encL TDock.cells TDock.d l)),(17,(aI ((l.length:Nat):Int))),(18,(aI (w64 (x+1))))],[(0,vO 1 [(.fn (.func 96) [] [])])],401⟩ (C_53 935) [] [] (kp [0,3,6,16,17,18]) (kq [0]) 401 [] trivial ?_
      refine Runs.sA 1 [.code (C_53 116),.inLoop (C_53 116),.inBlock 0,.code (C_53 15)] ?_
      exact Runs.sW hE _ [] (kp [0,3,6,16,17,18]) (kq [0]) 1 [] trivial (ih (w64 (x+1)) _ h E hE)
  ·have h:=condF h hq3
   refine Runs.sA 2 [.code (C_53 30),.code (C_53 31)] ?_
   refine Runs.sR hE ⟨[(8,(aI 0))],[],33⟩ (C_53 30) [] [] (kp [8]) [] 33 [] trivial ?_
   obtain rfl:=Option.some.inj h
   refine Runs.sW hE ⟨[(8,(aI 0))],[],48⟩ [] (kp [8]) [] 48 [] trivial ?_
   exact Runs.sT Try.f95 [] [] trivial
theorem g_berth_check_Dock_ok (N:Nat) (l:List TDock) (most:Int) (r:Int) (h:g_berth_check_Dock N l most=some r):Sound Try.prog 95 [(encL TDock.cells TDock.d l),(aI most),(.fn (.func 96) [] []),(.fn (.func 97) [] [])] [] 0 (aI r) []:=by
 unfold g_berth_check_Dock at h
 refine Sound.of_runs (fu:=Try.f95) (c:=C_53 1) (nt:=40) (by kernel_rfl) (by kernel_rfl) (by kernel_rfl) (by kernel_rfl) (fun hm=>rfl) ?_
 intro E hE
 refine Runs.sA 1 [.code (C_53 2),.code (C_53 3)] ?_
 refine Runs.sR hE ⟨[(0,(encL TDock.cells TDock.d l)),(1,(aI most)),(3,(.fn (.func 97) [] [])),(6,(.op 0 0 0))],[(0,vO 1 [(.fn (.func 96) [] [])])],32⟩ (C_53 2) [] [] (kp [0,1,3,6]) (kq [0]) 32 [] trivial ?_
 refine Runs.sA 2 [.code (C_53 12),.code (C_53 13),.code (C_53 7)] ?_
 refine Runs.sR hE ⟨[(0,(encL TDock.cells TDock.d l)),(3,(.fn (.func 97) [] [])),(6,(.op 0 0 0)),(15,(aB (decide (((l.length:Nat):Int) > most))))],[(0,vO 1 [(.fn (.func 96) [] [])])],96⟩ (C_53 12) [] [] (kp [0,3,6,15]) (kq [0]) 96 [] trivial ?_
 refine Runs.sC 15 (C_53 26) (C_53 27) (decide (((l.length:Nat):Int) > most)) (fun hq2=>?_) (fun hq2=>?_)
 ·have h:=condT h hq2
  refine Runs.sA 1 [.code (C_53 52),.code (C_53 53),.code (C_53 7)] ?_
  refine Runs.sR hE ⟨[(8,(aI 8))],[],112⟩ (C_53 52) [] [] (kp [8]) [] 112 [] trivial ?_
  obtain rfl:=Option.some.inj h
  refine Runs.sW hE ⟨[(8,(aI 8))],[],112⟩ [] (kp [8]) [] 112 [] trivial ?_
  exact Runs.sT Try.f95 [] [] trivial
 ·have h:=condF h hq2
  refine Runs.sA 3 [.code (C_53 28),.code (C_53 29),.code (C_53 15)] ?_
  refine Runs.sR hE ⟨[(0,(encL TDock.cells TDock.d l)),(3,(.fn (.func 97) [] [])),(6,(.op 0 0 0)),(16,(encL TDock.cells TDock.d l)),(17,(aI ((l.length:Nat):Int))),(18,(aI 0))],[(0,vO 1 [(.fn (.func 96) [] [])])],144⟩ (C_53 28) [] [] (kp [0,3,6,16,17,18]) (kq [0]) 144 [] trivial ?_
  refine Runs.sA 2 [.code (C_53 116),.inLoop (C_53 116),.inBlock 0,.code (C_53 15)] ?_
  exact Runs.sW hE _ [] (kp [0,3,6,16,17,18]) (kq [0]) 1 [] trivial (g_berth_check_Dock_L1_ok N l N 0 _ h E hE)
noncomputable def C_52 (n:Nat):Code:=cat (bodyOf Try.f69) (pth n)
theorem g_berth_CheckDocks_ok (N:Nat) (d:List TDock) (r:Int) (h:g_berth_CheckDocks N d=some r):Sound Try.prog 69 [(encL TDock.cells TDock.d d)] [] 0 (aI r) []:=by
 unfold g_berth_CheckDocks at h
 refine Sound.of_runs (fu:=Try.f69) (c:=C_52 1) (nt:=5) (by kernel_rfl) (by kernel_rfl) (by kernel_rfl) (by kernel_rfl) (fun hm=>rfl) ?_
 intro E hE
 refine Runs.sA 1 [.code (C_52 2),.code (C_52 3)] ?_
 refine Runs.sR hE ⟨[(0,(encL TDock.cells TDock.d d))],[],16⟩ (C_52 2) [] [] (kp [0]) [] 16 [] trivial ?_
 refine Runs.sA 1 [.code (C_52 6),.code (C_52 7)] ?_
 obtain ⟨rDock,hr,h⟩:=bindSome h
 refine Runs.sR hE ⟨[(2,(aI rDock))],[],64⟩ (C_52 6) [(1,⟨[],true,(aI rDock),[],0,false,none⟩)] [] (kp [2]) [] 64 [Sound Try.prog 95 [(encL TDock.cells TDock.d d),(aI 4),(.fn (.func 96) [] []),(.fn (.func 97) [] [])] [] 0 (aI rDock) []] ⟨(g_berth_check_Dock_ok N d 4 rDock hr),trivial⟩ ?_
 obtain rfl:=Option.some.inj h
 refine Runs.sW hE ⟨[(2,(aI rDock))],[],64⟩ [] (kp [2]) [] 64 [] trivial ?_
 exact Runs.sT Try.f69 [] [] trivial
noncomputable def C_64 (n:Nat):Code:=cat (bodyOf Try.f99) (pth n)
theorem g_berth_CheckCalls_1_ok (N:Nat) (x:TCall) (r:ByteArray) (h:g_berth_CheckCalls_1 N x=some r):Sound Try.prog 99 [(.agg (TCall.cells x))] [] 0 (aS r) []:=by
 unfold g_berth_CheckCalls_1 at h
 refine Sound.of_runs (fu:=Try.f99) (c:=C_64 1) (nt:=5) (by kernel_rfl) (by kernel_rfl) (by kernel_rfl) (by kernel_rfl) (fun hm=>rfl) ?_
 intro E hE
 refine Runs.sA 1 [.code (C_64 2),.code (C_64 3)] ?_
 refine Runs.sR hE ⟨[(1,(.op 0 0 0))],[(0,vO 9 (TCall.cells x))],32⟩ (C_64 2) [] [] (kp [1]) (kq [0]) 32 [] trivial ?_
 refine Runs.sA 1 [.code (C_64 6),.code (C_64 7)] ?_
 refine Runs.sR hE ⟨[(2,(aS x.f_Name))],[],80⟩ (C_64 6) [] [] (kp [2]) [] 80 [0 < 1] ⟨o1,trivial⟩ ?_
 obtain rfl:=Option.some.inj h
 refine Runs.sW hE ⟨[(2,(aS x.f_Name))],[],80⟩ [] (kp [2]) [] 80 [] trivial ?_
 exact Runs.sT Try.f99 [] [] trivial
noncomputable def C_67 (n:Nat):Code:=cat (bodyOf Try.f112) (pth n)
theorem g_berth_check_Call_1_ok (N:Nat) (y:TCall) (cap1:TCall) (r:Bool) (h:g_berth_check_Call_1 N y cap1=some r):Sound Try.prog 112 [(.agg (TCall.cells y)),(.op 0 0 0),(.op 1 0 0)] [(0,vO 1 [(.fn (.func 99) [] [])]),(1,vO 9 (TCall.cells cap1))] 2 (aB r) [(0,vO 1 [(.fn (.func 99) [] [])]),(1,vO 9 (TCall.cells cap1))]:=by
 unfold g_berth_check_Call_1 at h
 refine Sound.of_runs (fu:=Try.f112) (c:=C_67 1) (nt:=12) (by kernel_rfl) (by kernel_rfl) (by kernel_rfl) (by kernel_rfl) (fun hm=>absurd hm (by decide)) ?_
 intro E hE
 refine Runs.sA 1 [.code (C_67 2),.code (C_67 3)] ?_
 refine Runs.sR hE ⟨[(1,(.op 0 0 0)),(2,(.op 1 0 0)),(3,(.op 2 0 0))],[(0,vO 1 [(.fn (.func 99) [] [])]),(1,vO 9 (TCall.cells cap1)),(2,vO 9 (TCall.cells y))],34⟩ (C_67 2) [] [] (kp [1,2,3]) (kq [0,1,2]) 34 [] trivial ?_
 refine Runs.sA 1 [.code (C_67 6),.code (C_67 7)] ?_
 obtain ⟨rCheckCalls1,hr,h⟩:=bindSome h
 obtain ⟨rCheckCalls12,hr2,h⟩:=bindSome h
 refine Runs.sR hE ⟨[(4,(aB (streq rCheckCalls1 rCheckCalls12)))],[(0,vO 1 [(.fn (.func 99) [] [])]),(1,vO 9 (TCall.cells cap1))],162⟩ (C_67 6) [(2,⟨[],true,(aS rCheckCalls1),[],0,false,none⟩),(5,⟨[],true,(aS rCheckCalls12),[],0,false,none⟩)] [] (kp [4]) (kq [0,1]) 162 [0 < 1,0 < 1,Sound Try.prog 99 [(.agg (TCall.cells y))] [] 0 (aS rCheckCalls1) [],0 < 1,0 < 1,Sound Try.prog 99 [(.agg (TCall.cells cap1))] [] 0 (aS rCheckCalls12) []] ⟨o1,o1,(g_berth_CheckCalls_1_ok N y rCheckCalls1 hr),o1,o1,(g_berth_CheckCalls_1_ok N cap1 rCheckCalls12 hr2),trivial⟩ ?_
 obtain rfl:=Option.some.inj h
 refine Runs.sW hE ⟨[(4,(aB (streq rCheckCalls1 rCheckCalls12)))],[(0,vO 1 [(.fn (.func 99) [] [])]),(1,vO 9 (TCall.cells cap1))],162⟩ [] (kp [4]) (kq [0,1]) 162 [] trivial ?_
 exact Runs.sT Try.f112 [] [] trivial
noncomputable def C_66 (n:Nat):Code:=cat (bodyOf Try.f76) (pth n)
theorem g_slices_IndexFunc_api_Call_api_Call_L1_ok (N:Nat) (s:List TCall) (cap1:TCall) (fuel:Nat):∀ (x:Int) (r:Int),g_slices_IndexFunc_api_Call_api_Call_L1 N s cap1 fuel x=some r→∀ E,EnvOk E 2→Runs Try.prog E 76 19 (SPost E [(0,vO 1 [(.fn (.func 99) [] [])]),(1,vO 9 (TCall.cells cap1))] (aI r)) [.code (C_66 52),.inLoop (C_66 52),.inBlock 0,.code (C_66 7)] ⟨[(0,(encL TCall.cells TCall.d s)),(1,(.fn (.func 112) [] [(.op 0 0 0),(.op 1 0 0)])),(7,(aI ((s.length:Nat):Int))),(8,(aI x))],[(0,vO 1 [(.fn (.func 99) [] [])]),(1,vO 9 (TCall.cells cap1))],2⟩:=by
 induction fuel with
 | zero=>intro _ r h;rw [g_slices_IndexFunc_api_Call_api_Call_L1.eq_1] at h;cases h
 | succ fuel ih =>
  intro x r h E hE
  rw [g_slices_IndexFunc_api_Call_api_Call_L1.eq_2] at h
  refine Runs.sA 1 [.code (C_66 104),.code (C_66 105),.inLoop (C_66 52),.inBlock 0,.code (C_66 7)] ?_
  refine Runs.sR hE ⟨[(0,(encL TCall.cells TCall.d s)),(1,(.fn (.func 112) [] [(.op 0 0 0),(.op 1 0 0)])),(7,(aI ((s.length:Nat):Int))),(8,(aI x)),(9,(aB (decide (x < ((s.length:Nat):Int)))))],[(0,vO 1 [(.fn (.func 99) [] [])]),(1,vO 9 (TCall.cells cap1))],18⟩ (C_66 104) [] [] (kp [0,1,7,8,9]) (kq [0,1]) 18 [] trivial ?_
  refine Runs.sA 1 [.code (C_66 210),.code (C_66 211),.inLoop (C_66 52),.inBlock 0,.code (C_66 7)] ?_
  refine Runs.sC 9 (C_66 420) (C_66 421) (decide (x < ((s.length:Nat):Int))) (fun hq2=>?_) (fun hq2=>?_)
  ·have h:=condT h hq2
   refine Runs.sA 4 [.code (C_66 1688),.code (C_66 1689),.inBlock 1,.code (C_66 423),.inLoop (C_66 52),.inBlock 0,.code (C_66 7)] ?_
   refine Runs.sR hE ⟨[(0,(encL TCall.cells TCall.d s)),(1,(.fn (.func 112) [] [(.op 0 0 0),(.op 1 0 0)])),(5,(aI x)),(7,(aI ((s.length:Nat):Int))),(8,(aI x))],[(0,vO 1 [(.fn (.func 99) [] [])]),(1,vO 9 (TCall.cells cap1))],50⟩ (C_66 1688) [] [] (kp [0,1,5,7,8]) (kq [0,1]) 50 [] trivial ?_
   refine Runs.sA 1 [.code (C_66 3378),.code (C_66 3379),.inBlock 1,.code (C_66 423),.inLoop (C_66 52),.inBlock 0,.code (C_66 7)] ?_
   obtain ⟨c,h⟩:=ifSome h
   obtain ⟨rCall1,hr,h⟩:=bindSome h
   refine Runs.sR hE ⟨[(0,(encL TCall.cells TCall.d s)),(1,(.fn (.func 112) [] [(.op 0 0 0),(.op 1 0 0)])),(5,(aI x)),(7,(aI ((s.length:Nat):Int))),(8,(aI x)),(16,(aB rCall1))],[(0,vO 1 [(.fn (.func 99) [] [])]),(1,vO 9 (TCall.cells cap1))],146⟩ (C_66 3378) [(5,⟨[0,1],true,(aB rCall1),[],0,false,none⟩)] [] (kp [0,1,5,7,8,16]) (kq [0,1]) 146 [0≤x∧x < ((s.length:Nat):Int),Sound Try.prog 112 [(.agg (TCall.cells (s.getD ((x).toNat) TCall.d))),(.op 0 0 0),(.op 1 0 0)] [(0,vO 1 [(.fn (.func 99) [] [])]),(1,vO 9 (TCall.cells cap1))] 2 (aB rCall1) [(0,vO 1 [(.fn (.func 99) [] [])]),(1,vO 9 (TCall.cells cap1))]] ⟨c,(g_berth_check_Call_1_ok N (s.getD ((x).toNat) TCall.d) cap1 rCall1 hr),trivial⟩ ?_
   refine Runs.sC 16 (C_66 6758) (C_66 6759) rCall1 (fun hq3=>?_) (fun hq3=>?_)
   ·have h:=condT h hq3
    refine Runs.sA 1 [.code (C_66 13516),.code (C_66 13517),.inBlock 1,.code (C_66 423),.inLoop (C_66 52),.inBlock 0,.code (C_66 7)] ?_
    refine Runs.sR hE ⟨[(4,(aI x))],[(0,vO 1 [(.fn (.func 99) [] [])]),(1,vO 9 (TCall.cells cap1))],178⟩ (C_66 13516) [] [] (kp [4]) (kq [0,1]) 178 [] trivial ?_
    obtain rfl:=Option.some.inj h
    refine Runs.sW hE ⟨[(4,(aI x))],[(0,vO 1 [(.fn (.func 99) [] [])]),(1,vO 9 (TCall.cells cap1))],178⟩ [] (kp [4]) (kq [0,1]) 178 [] trivial ?_
    exact Runs.sT Try.f76 [] [] trivial
   ·have h:=condF h hq3
    refine Runs.sA 2 [.code (C_66 423),.inLoop (C_66 52),.inBlock 0,.code (C_66 7)] ?_
    refine Runs.sR hE ⟨[(0,(encL TCall.cells TCall.d s)),(1,(.fn (.func 112) [] [(.op 0 0 0),(.op 1 0 0)])),(7,(aI ((s.length:Nat):Int))),(8,(aI (w64 (x+1))))],[(0,vO 1 [(.fn (.func 99) [] [])]),(1,vO 9 (TCall.cells cap1))],178⟩ (C_66 423) [] [] (kp [0,1,7,8]) (kq [0,1]) 178 [] trivial ?_
    refine Runs.sA 1 [.code (C_66 52),.inLoop (C_66 52),.inBlock 0,.code (C_66 7)] ?_
    exact Runs.sW hE _ [] (kp [0,1,7,8]) (kq [0,1]) 2 [] trivial (ih (w64 (x+1)) _ h E hE)
  ·have h:=condF h hq2
   refine Runs.sA 2 [.code (C_66 14),.code (C_66 15)] ?_
   refine Runs.sR hE ⟨[(4,(aI (-1)))],[(0,vO 1 [(.fn (.func 99) [] [])]),(1,vO 9 (TCall.cells cap1))],34⟩ (C_66 14) [] [] (kp [4]) (kq [0,1]) 34 [] trivial ?_
   obtain rfl:=Option.some.inj h
   refine Runs.sW hE ⟨[(4,(aI (-1)))],[(0,vO 1 [(.fn (.func 99) [] [])]),(1,vO 9 (TCall.cells cap1))],50⟩ [] (kp [4]) (kq [0,1]) 50 [] trivial ?_
   exact Runs.sT Try.f76 [] [] trivial
theorem g_slices_IndexFunc_api_Call_api_Call_ok (N:Nat) (s:List TCall) (cap1:TCall) (r:Int) (h:g_slices_IndexFunc_api_Call_api_Call N s cap1=some r):Sound Try.prog 76 [(encL TCall.cells TCall.d s),(.fn (.func 112) [] [(.op 0 0 0),(.op 1 0 0)])] [(0,vO 1 [(.fn (.func 99) [] [])]),(1,vO 9 (TCall.cells cap1))] 2 (aI r) [(0,vO 1 [(.fn (.func 99) [] [])]),(1,vO 9 (TCall.cells cap1))]:=by
 unfold g_slices_IndexFunc_api_Call_api_Call at h
 refine Sound.of_runs (fu:=Try.f76) (c:=C_66 1) (nt:=19) (by kernel_rfl) (by kernel_rfl) (by kernel_rfl) (by kernel_rfl) (fun hm=>absurd hm (by decide)) ?_
 intro E hE
 refine Runs.sA 1 [.code (C_66 2),.code (C_66 3)] ?_
 refine Runs.sR hE ⟨[(0,(encL TCall.cells TCall.d s)),(1,(.fn (.func 112) [] [(.op 0 0 0),(.op 1 0 0)]))],[(0,vO 1 [(.fn (.func 99) [] [])]),(1,vO 9 (TCall.cells cap1))],18⟩ (C_66 2) [] [] (kp [0,1]) (kq [0,1]) 18 [] trivial ?_
 refine Runs.sA 2 [.code (C_66 12),.code (C_66 13),.code (C_66 7)] ?_
 refine Runs.sR hE ⟨[(0,(encL TCall.cells TCall.d s)),(1,(.fn (.func 112) [] [(.op 0 0 0),(.op 1 0 0)])),(7,(aI ((s.length:Nat):Int))),(8,(aI 0))],[(0,vO 1 [(.fn (.func 99) [] [])]),(1,vO 9 (TCall.cells cap1))],66⟩ (C_66 12) [] [] (kp [0,1,7,8]) (kq [0,1]) 66 [] trivial ?_
 refine Runs.sA 2 [.code (C_66 52),.inLoop (C_66 52),.inBlock 0,.code (C_66 7)] ?_
 exact Runs.sW hE _ [] (kp [0,1,7,8]) (kq [0,1]) 2 [] trivial (g_slices_IndexFunc_api_Call_api_Call_L1_ok N s cap1 N 0 _ h E hE)
noncomputable def C_65 (n:Nat):Code:=cat (bodyOf Try.f111) (pth n)
theorem g_slices_ContainsFunc_api_Call_api_Call_ok (N:Nat) (s:List TCall) (cap1:TCall) (r:Bool) (h:g_slices_ContainsFunc_api_Call_api_Call N s cap1=some r):Sound Try.prog 111 [(encL TCall.cells TCall.d s),(.fn (.func 112) [] [(.op 0 0 0),(.op 1 0 0)])] [(0,vO 1 [(.fn (.func 99) [] [])]),(1,vO 9 (TCall.cells cap1))] 2 (aB r) [(0,vO 1 [(.fn (.func 99) [] [])]),(1,vO 9 (TCall.cells cap1))]:=by
 unfold g_slices_ContainsFunc_api_Call_api_Call at h
 refine Sound.of_runs (fu:=Try.f111) (c:=C_65 1) (nt:=9) (by kernel_rfl) (by kernel_rfl) (by kernel_rfl) (by kernel_rfl) (fun hm=>absurd hm (by decide)) ?_
 intro E hE
 refine Runs.sA 1 [.code (C_65 2),.code (C_65 3)] ?_
 refine Runs.sR hE ⟨[(0,(encL TCall.cells TCall.d s)),(1,(.fn (.func 112) [] [(.op 0 0 0),(.op 1 0 0)]))],[(0,vO 1 [(.fn (.func 99) [] [])]),(1,vO 9 (TCall.cells cap1))],18⟩ (C_65 2) [] [] (kp [0,1]) (kq [0,1]) 18 [] trivial ?_
 refine Runs.sA 1 [.code (C_65 6),.code (C_65 7)] ?_
 obtain ⟨rCall,hr,h⟩:=bindSome h
 refine Runs.sR hE ⟨[(4,(aB (decide (rCall≥0))))],[(0,vO 1 [(.fn (.func 99) [] [])]),(1,vO 9 (TCall.cells cap1))],98⟩ (C_65 6) [(2,⟨[0,1],true,(aI rCall),[],0,false,none⟩)] [] (kp [4]) (kq [0,1]) 98 [Sound Try.prog 76 [(encL TCall.cells TCall.d s),(.fn (.func 112) [] [(.op 0 0 0),(.op 1 0 0)])] [(0,vO 1 [(.fn (.func 99) [] [])]),(1,vO 9 (TCall.cells cap1))] 2 (aI rCall) [(0,vO 1 [(.fn (.func 99) [] [])]),(1,vO 9 (TCall.cells cap1))]] ⟨(g_slices_IndexFunc_api_Call_api_Call_ok N s cap1 rCall hr),trivial⟩ ?_
 obtain rfl:=Option.some.inj h
 refine Runs.sW hE ⟨[(4,(aB (decide (rCall≥0))))],[(0,vO 1 [(.fn (.func 99) [] [])]),(1,vO 9 (TCall.cells cap1))],98⟩ [] (kp [4]) (kq [0,1]) 98 [] trivial ?_
 exact Runs.sT Try.f111 [] [] trivial
noncomputable def C_68 (n:Nat):Code:=cat (bodyOf Try.f100) (pth n)
theorem g_berth_CheckCalls_2_ok (N:Nat) (x:TCall) (r:Int) (h:g_berth_CheckCalls_2 N x=some r):Sound Try.prog 100 [(.agg (TCall.cells x))] [] 0 (aI r) []:=by
 unfold g_berth_CheckCalls_2 at h
 refine Sound.of_runs (fu:=Try.f100) (c:=C_68 1) (nt:=40) (by kernel_rfl) (by kernel_rfl) (by kernel_rfl) (by kernel_rfl) (fun hm=>rfl) ?_
 intro E hE
 refine Runs.sA 1 [.code (C_68 2),.code (C_68 3)] ?_
 refine Runs.sR hE ⟨[(1,(.op 0 0 0))],[(0,vO 9 (TCall.cells x))],32⟩ (C_68 2) [] [] (kp [1]) (kq [0]) 32 [] trivial ?_
 refine Runs.sA 2 [.code (C_68 12),.code (C_68 13),.code (C_68 7)] ?_
 obtain ⟨routside,hr,h⟩:=bindSome h
 obtain ⟨routside2,hr2,h⟩:=bindSome h
 obtain ⟨routside3,hr3,h⟩:=bindSome h
 obtain ⟨routside4,hr4,h⟩:=bindSome h
 refine Runs.sR hE ⟨[(1,(.op 0 0 0)),(20,(aB (cond (cond (cond routside true routside2) true routside3) true routside4)))],[(0,vO 9 (TCall.cells x))],320⟩ (C_68 12) [(2,⟨[],true,(aB routside),[],0,false,none⟩),(6,⟨[],true,(aB routside2),[],0,false,none⟩),(11,⟨[],true,(aB routside3),[],0,false,none⟩),(16,⟨[],true,(aB routside4),[],0,false,none⟩)] [] (kp [1,20]) (kq [0]) 320 [0 < 1,Sound Try.prog 79 [(aI x.f_Length),(aI 1),(aI 1000000)] [] 0 (aB routside) [],(!routside)=true→AllP [(!routside)=true,0 < 1],(!routside)=true→AllP [Sound Try.prog 79 [(aI x.f_Beam),(aI 1),(aI 1000000)] [] 0 (aB routside2) [],(!routside)=true],(!routside)=true→AllP [(!routside)=true],(!(cond routside true routside2))=true→AllP [(!(cond routside true routside2))=true,0 < 1],(!(cond routside true routside2))=true→AllP [Sound Try.prog 79 [(aI x.f_Draught),(aI 0),(aI 1000000)] [] 0 (aB routside3) [],(!(cond routside true routside2))=true],(!(cond routside true routside2))=true→AllP [(!(cond routside true routside2))=true],(!(cond (cond routside true routside2) true routside3))=true→AllP [(!(cond (cond routside true routside2) true routside3))=true,0 < 1],(!(cond (cond routside true routside2) true routside3))=true→AllP [Sound Try.prog 79 [(aI x.f_Under),(aI 0),(aI 1000000)] [] 0 (aB routside4) [],(!(cond (cond routside true routside2) true routside3))=true],(!(cond (cond routside true routside2) true routside3))=true→AllP [(!(cond (cond routside true routside2) true routside3))=true]] ⟨o1,(g_berth_outside_ok N x.f_Length 1 1000000 routside hr),(fun hg=>⟨hg,o1,trivial⟩),(fun hg=>⟨(g_berth_outside_ok N x.f_Beam 1 1000000 routside2 (condT hr2 hg)),hg,trivial⟩),(fun hq=>⟨hq,trivial⟩),(fun hg=>⟨hg,o1,trivial⟩),(fun hg=>⟨(g_berth_outside_ok N x.f_Draught 0 1000000 routside3 (condT hr3 hg)),hg,trivial⟩),(fun hq=>⟨hq,trivial⟩),(fun hg=>⟨hg,o1,trivial⟩),(fun hg=>⟨(g_berth_outside_ok N x.f_Under 0 1000000 routside4 (condT hr4 hg)),hg,trivial⟩),(fun hq=>⟨hq,trivial⟩),trivial⟩ ?_
 refine Runs.sC 20 (C_68 26) (C_68 27) (cond (cond (cond routside true routside2) true routside3) true routside4) (fun hq2=>?_) (fun hq2=>?_)
 ·have h:=condT h hq2
  refine Runs.sA 1 [.code (C_68 52),.code (C_68 53),.code (C_68 7)] ?_
  refine Runs.sR hE ⟨[(2,(aI 2))],[],336⟩ (C_68 52) [] [] (kp [2]) [] 336 [] trivial ?_
  obtain rfl:=Option.some.inj h
  refine Runs.sW hE ⟨[(2,(aI 2))],[],336⟩ [] (kp [2]) [] 336 [] trivial ?_
  exact Runs.sT Try.f100 [] [] trivial
 ·have h:=condF h hq2
  refine Runs.sA 2 [.code (C_68 14),.code (C_68 15)] ?_
  obtain ⟨routside5,hr5,h⟩:=bindSome h
  obtain ⟨routside6,hr6,h⟩:=bindSome h
  obtain ⟨routside7,hr7,h⟩:=bindSome h
  obtain ⟨routside8,hr8,h⟩:=bindSome h
  obtain ⟨rranged,hr9,h⟩:=bindSome h
  refine Runs.sR hE ⟨[(2,(aI rranged))],[],640⟩ (C_68 14) [(2,⟨[],true,(aB routside5),[],0,false,none⟩),(6,⟨[],true,(aB routside6),[],0,false,none⟩),(11,⟨[],true,(aB routside7),[],0,false,none⟩),(16,⟨[],true,(aB routside8),[],0,false,none⟩),(18,⟨[],true,(aI rranged),[],0,false,none⟩)] [] (kp [2]) [] 640 [0 < 1,Sound Try.prog 79 [(aI x.f_Arrive),(aI 0),(aI 400)] [] 0 (aB routside5) [],(!routside5)=true→AllP [(!routside5)=true,0 < 1],(!routside5)=true→AllP [Sound Try.prog 79 [(aI x.f_Due),(aI 0),(aI 400)] [] 0 (aB routside6) [],(!routside5)=true],(!routside5)=true→AllP [(!routside5)=true],(!(cond routside5 true routside6))=true→AllP [(!(cond routside5 true routside6))=true,0 < 1],(!(cond routside5 true routside6))=true→AllP [Sound Try.prog 79 [(aI x.f_Work),(aI 1),(aI 1000)] [] 0 (aB routside7) [],(!(cond routside5 true routside6))=true],(!(cond routside5 true routside6))=true→AllP [(!(cond routside5 true routside6))=true],(!(cond (cond routside5 true routside6) true routside7))=true→AllP [(!(cond (cond routside5 true routside6) true routside7))=true,0 < 1],(!(cond (cond routside5 true routside6) true routside7))=true→AllP [Sound Try.prog 79 [(aI x.f_Late),(aI 0),(aI 1000000000)] [] 0 (aB routside8) [],(!(cond (cond routside5 true routside6) true routside7))=true],(!(cond (cond routside5 true routside6) true routside7))=true→AllP [(!(cond (cond routside5 true routside6) true routside7))=true],Sound Try.prog 78 [(aB (cond (cond (cond routside5 true routside6) true routside7) true routside8))] [] 0 (aI rranged) []] ⟨o1,(g_berth_outside_ok N x.f_Arrive 0 400 routside5 hr5),(fun hg=>⟨hg,o1,trivial⟩),(fun hg=>⟨(g_berth_outside_ok N x.f_Due 0 400 routside6 (condT hr6 hg)),hg,trivial⟩),(fun hq=>⟨hq,trivial⟩),(fun hg=>⟨hg,o1,trivial⟩),(fun hg=>⟨(g_berth_outside_ok N x.f_Work 1 1000 routside7 (condT hr7 hg)),hg,trivial⟩),(fun hq=>⟨hq,trivial⟩),(fun hg=>⟨hg,o1,trivial⟩),(fun hg=>⟨(g_berth_outside_ok N x.f_Late 0 1000000000 routside8 (condT hr8 hg)),hg,trivial⟩),(fun hq=>⟨hq,trivial⟩),(g_berth_ranged_ok N (cond (cond (cond routside5 true routside6) true routside7) true routside8) rranged hr9),trivial⟩ ?_
  obtain rfl:=Option.some.inj h
  refine Runs.sW hE ⟨[(2,(aI rranged))],[],640⟩ [] (kp [2]) [] 640 [] trivial ?_
  exact Runs.sT Try.f100 [] [] trivial
noncomputable def C_63 (n:Nat):Code:=cat (bodyOf Try.f98) (pth n)
theorem g_berth_check_Call_L1_ok (N:Nat) (l:List TCall) (fuel:Nat):∀ (x:Int) (r:Int),g_berth_check_Call_L1 N l fuel x=some r→∀ E,EnvOk E 0→Runs Try.prog E 98 40 (SPost E [] (aI r)) [.code (C_63 116),.inLoop (C_63 116),.inBlock 0,.code (C_63 15)] ⟨[(0,(encL TCall.cells TCall.d l)),(3,(.fn (.func 100) [] [])),(6,(.op 0 0 0)),(16,(encL TCall.cells TCall.d l)),(17,(aI ((l.length:Nat):Int))),(18,(aI x))],[(0,vO 1 [(.fn (.func 99) [] [])])],1⟩:=by
 induction fuel with
 | zero=>intro _ r h;rw [g_berth_check_Call_L1.eq_1] at h;cases h
 | succ fuel ih =>
  intro x r h E hE
  rw [g_berth_check_Call_L1.eq_2] at h
  refine Runs.sA 1 [.code (C_63 232),.code (C_63 233),.inLoop (C_63 116),.inBlock 0,.code (C_63 15)] ?_
  refine Runs.sR hE ⟨[(0,(encL TCall.cells TCall.d l)),(3,(.fn (.func 100) [] [])),(6,(.op 0 0 0)),(16,(encL TCall.cells TCall.d l)),(17,(aI ((l.length:Nat):Int))),(18,(aI x)),(19,(aB (decide (x < ((l.length:Nat):Int)))))],[(0,vO 1 [(.fn (.func 99) [] [])])],17⟩ (C_63 232) [] [] (kp [0,3,6,16,17,18,19]) (kq [0]) 17 [] trivial ?_
  refine Runs.sA 1 [.code (C_63 466),.code (C_63 467),.inLoop (C_63 116),.inBlock 0,.code (C_63 15)] ?_
  refine Runs.sC 19 (C_63 932) (C_63 933) (decide (x < ((l.length:Nat):Int))) (fun hq3=>?_) (fun hq3=>?_)
  ·have h:=condT h hq3
   refine Runs.sA 4 [.code (C_63 3736),.code (C_63 3737),.inBlock 1,.code (C_63 935),.inLoop (C_63 116),.inBlock 0,.code (C_63 15)] ?_
   obtain ⟨c,h⟩:=ifSome h
   refine Runs.sR hE ⟨[(0,(encL TCall.cells TCall.d l)),(3,(.fn (.func 100) [] [])),(6,(.op 0 0 0)),(9,(aI x)),(10,(.op 65 0 0)),(16,(encL TCall.cells TCall.d l)),(17,(aI ((l.length:Nat):Int))),(18,(aI x))],[(0,vO 1 [(.fn (.func 99) [] [])]),(65,vO 9 (TCall.cells (l.getD ((x).toNat) TCall.d)))],113⟩ (C_63 3736) [] [] (kp [0,3,6,9,10,16,17,18]) (kq [0,65]) 113 [0≤x∧x < ((l.length:Nat):Int),0 < 1] ⟨c,o1,trivial⟩ ?_
   refine Runs.sA 2 [.code (C_63 14948),.code (C_63 14949),.code (C_63 7475),.inBlock 1,.code (C_63 935),.inLoop (C_63 116),.inBlock 0,.code (C_63 15)] ?_
   obtain ⟨rCheckCalls1,hr,h⟩:=bindSome h
   obtain ⟨rnamed,hr2,h⟩:=bindSome h
   refine Runs.sR hE ⟨[(0,(encL TCall.cells TCall.d l)),(3,(.fn (.func 100) [] [])),(6,(.op 0 0 0)),(9,(aI x)),(10,(.op 65 0 0)),(16,(encL TCall.cells TCall.d l)),(17,(aI ((l.length:Nat):Int))),(18,(aI x)),(27,(aB (!rnamed)))],[(0,vO 1 [(.fn (.func 99) [] [])]),(65,vO 9 (TCall.cells (l.getD ((x).toNat) TCall.d)))],193⟩ (C_63 14948) [(2,⟨[],true,(aS rCheckCalls1),[],0,false,none⟩),(3,⟨[],true,(aB rnamed),[],0,false,none⟩)] [] (kp [0,3,6,9,10,16,17,18,27]) (kq [0,65]) 193 [0 < 1,0 < 1,Sound Try.prog 99 [(.agg (TCall.cells (l.getD ((x).toNat) TCall.d)))] [] 0 (aS rCheckCalls1) [],Sound Try.prog 108 [(aS rCheckCalls1)] [] 0 (aB rnamed) []] ⟨o1,o1,(g_berth_CheckCalls_1_ok N (l.getD ((x).toNat) TCall.d) rCheckCalls1 hr),(g_berth_named_ok N rCheckCalls1 rnamed hr2),trivial⟩ ?_
   refine Runs.sC 27 (C_63 29898) (C_63 29899) (!rnamed) (fun hq4=>?_) (fun hq4=>?_)
   ·have h:=condT h hq4
    refine Runs.sA 1 [.code (C_63 59796),.code (C_63 59797),.code (C_63 7475),.inBlock 1,.code (C_63 935),.inLoop (C_63 116),.inBlock 0,.code (C_63 15)] ?_
    refine Runs.sR hE ⟨[(8,(aI 4))],[],209⟩ (C_63 59796) [] [] (kp [8]) [] 209 [] trivial ?_
    obtain rfl:=Option.some.inj h
    refine Runs.sW hE ⟨[(8,(aI 4))],[],209⟩ [] (kp [8]) [] 209 [] trivial ?_
    exact Runs.sT Try.f98 [] [] trivial
   ·have h:=condF h hq4
    refine Runs.sA 3 [.code (C_63 29900),.code (C_63 29901),.code (C_63 14951),.inBlock 1,.code (C_63 935),.inLoop (C_63 116),.inBlock 0,.code (C_63 15)] ?_
    obtain ⟨c2,h⟩:=ifSome h
    obtain ⟨c3,h⟩:=ifSome h
    obtain ⟨rCall,hr3,h⟩:=bindSome h
    refine Runs.sR hE ⟨[(0,(encL TCall.cells TCall.d l)),(3,(.fn (.func 100) [] [])),(6,(.op 0 0 0)),(10,(.op 65 0 0)),(16,(encL TCall.cells TCall.d l)),(17,(aI ((l.length:Nat):Int))),(18,(aI x)),(32,(aB rCall))],[(0,vO 1 [(.fn (.func 99) [] [])]),(65,vO 9 (TCall.cells (l.getD ((x).toNat) TCall.d)))],273⟩ (C_63 29900) [(4,⟨[0,65],true,(aB rCall),[],0,false,none⟩)] [] (kp [0,3,6,10,16,17,18,32]) (kq [0,65]) 273 [0≤(x).toNat∧(x).toNat≤l.length,0≤x,Sound Try.prog 111 [(.sl ((x).toNat - 0) (fun zi=>TCall.cells (l.getD (addz 0 zi) TCall.d))),(.fn (.func 112) [] [(.op 0 0 0),(.op 1 0 0)])] [(0,vO 1 [(.fn (.func 99) [] [])]),(1,vO 9 (TCall.cells (l.getD ((x).toNat) TCall.d)))] 2 (aB rCall) [(0,vO 1 [(.fn (.func 99) [] [])]),(1,vO 9 (TCall.cells (l.getD ((x).toNat) TCall.d)))]] ⟨c2,c3,(Sound.conv (g_slices_ContainsFunc_api_Call_api_Call_ok N ((l.take ((x).toNat)).drop 0) (l.getD ((x).toNat) TCall.d) rCall hr3) (.cons (Alike.sl (len_ext' l 0 ((x).toNat) c2) (fun zq hzq=>get_ext TCall.cells TCall.d l 0 ((x).toNat) zq hzq)) (.cons (Alike.refl _) .nil))),trivial⟩ ?_
    refine Runs.sC 32 (C_63 59802) (C_63 59803) rCall (fun hq5=>?_) (fun hq5=>?_)
    ·have h:=condT h hq5
     refine Runs.sA 1 [.code (C_63 119604),.code (C_63 119605),.code (C_63 14951),.inBlock 1,.code (C_63 935),.inLoop (C_63 116),.inBlock 0,.code (C_63 15)] ?_
     refine Runs.sR hE ⟨[(8,(aI 5))],[],289⟩ (C_63 119604) [] [] (kp [8]) [] 289 [] trivial ?_
     obtain rfl:=Option.some.inj h
     refine Runs.sW hE ⟨[(8,(aI 5))],[],289⟩ [] (kp [8]) [] 289 [] trivial ?_
     exact Runs.sT Try.f98 [] [] trivial
    ·have h:=condF h hq5
     refine Runs.sA 2 [.code (C_63 29902),.code (C_63 29903),.inBlock 1,.code (C_63 935),.inLoop (C_63 116),.inBlock 0,.code (C_63 15)] ?_
     obtain ⟨rCheckCalls2,hr4,h⟩:=bindSome h
     refine Runs.sR hE ⟨[(0,(encL TCall.cells TCall.d l)),(3,(.fn (.func 100) [] [])),(6,(.op 0 0 0)),(11,(aI rCheckCalls2)),(16,(encL TCall.cells TCall.d l)),(17,(aI ((l.length:Nat):Int))),(18,(aI x))],[(0,vO 1 [(.fn (.func 99) [] [])])],337⟩ (C_63 29902) [(2,⟨[],true,(aI rCheckCalls2),[],0,false,none⟩)] [] (kp [0,3,6,11,16,17,18]) (kq [0]) 337 [0 < 1,Sound Try.prog 100 [(.agg (TCall.cells (l.getD ((x).toNat) TCall.d)))] [] 0 (aI rCheckCalls2) []] ⟨o1,(g_berth_CheckCalls_2_ok N (l.getD ((x).toNat) TCall.d) rCheckCalls2 hr4),trivial⟩ ?_
     refine Runs.sA 1 [.code (C_63 59806),.code (C_63 59807),.inBlock 1,.code (C_63 935),.inLoop (C_63 116),.inBlock 0,.code (C_63 15)] ?_
     refine Runs.sR hE ⟨[(0,(encL TCall.cells TCall.d l)),(3,(.fn (.func 100) [] [])),(6,(.op 0 0 0)),(11,(aI rCheckCalls2)),(16,(encL TCall.cells TCall.d l)),(17,(aI ((l.length:Nat):Int))),(18,(aI x)),(37,(aB (rCheckCalls2 != 0)))],[(0,vO 1 [(.fn (.func 99) [] [])])],369⟩ (C_63 59806) [] [] (kp [0,3,6,11,16,17,18,37]) (kq [0]) 369 [] trivial ?_
     refine Runs.sC 37 (C_63 119614) (C_63 119615) (rCheckCalls2 != 0) (fun hq6=>?_) (fun hq6=>?_)
     ·have h:=condT h hq6
      refine Runs.sA 1 [.code (C_63 239228),.code (C_63 239229),.inBlock 1,.code (C_63 935),.inLoop (C_63 116),.inBlock 0,.code (C_63 15)] ?_
      refine Runs.sR hE ⟨[(8,(aI rCheckCalls2))],[],401⟩ (C_63 239228) [] [] (kp [8]) [] 401 [] trivial ?_
      obtain rfl:=Option.some.inj h
      refine Runs.sW hE ⟨[(8,(aI rCheckCalls2))],[],401⟩ [] (kp [8]) [] 401 [] trivial ?_
      exact Runs.sT Try.f98 [] [] trivial
     ·have h:=condF h hq6
      refine Runs.sA 2 [.code (C_63 935),.inLoop (C_63 116),.inBlock 0,.code (C_63 15)] ?_
      refine Runs.sR hE ⟨[(0,(encL TCall.cells TCall.d l)),(3,(.fn (.func 100) [] [])),(6,(.op 0 0 0)),(16,(encL TCall.cells TCall.d l)),(17,(aI ((l.length:Nat):Int))),(18,(aI (w64 (x+1))))],[(0,vO 1 [(.fn (.func 99) [] [])])],401⟩ (C_63 935) [] [] (kp [0,3,6,16,17,18]) (kq [0]) 401 [] trivial ?_
      refine Runs.sA 1 [.code (C_63 116),.inLoop (C_63 116),.inBlock 0,.code (C_63 15)] ?_
      exact Runs.sW hE _ [] (kp [0,3,6,16,17,18]) (kq [0]) 1 [] trivial (ih (w64 (x+1)) _ h E hE)
  ·have h:=condF h hq3
   refine Runs.sA 2 [.code (C_63 30),.code (C_63 31)] ?_
   refine Runs.sR hE ⟨[(8,(aI 0))],[],33⟩ (C_63 30) [] [] (kp [8]) [] 33 [] trivial ?_
   obtain rfl:=Option.some.inj h
   refine Runs.sW hE ⟨[(8,(aI 0))],[],48⟩ [] (kp [8]) [] 48 [] trivial ?_
   exact Runs.sT Try.f98 [] [] trivial
theorem g_berth_check_Call_ok (N:Nat) (l:List TCall) (most:Int) (r:Int) (h:g_berth_check_Call N l most=some r):Sound Try.prog 98 [(encL TCall.cells TCall.d l),(aI most),(.fn (.func 99) [] []),(.fn (.func 100) [] [])] [] 0 (aI r) []:=by
 unfold g_berth_check_Call at h
 refine Sound.of_runs (fu:=Try.f98) (c:=C_63 1) (nt:=40) (by kernel_rfl) (by kernel_rfl) (by kernel_rfl) (by kernel_rfl) (fun hm=>rfl) ?_
 intro E hE
 refine Runs.sA 1 [.code (C_63 2),.code (C_63 3)] ?_
 refine Runs.sR hE ⟨[(0,(encL TCall.cells TCall.d l)),(1,(aI most)),(3,(.fn (.func 100) [] [])),(6,(.op 0 0 0))],[(0,vO 1 [(.fn (.func 99) [] [])])],32⟩ (C_63 2) [] [] (kp [0,1,3,6]) (kq [0]) 32 [] trivial ?_
 refine Runs.sA 2 [.code (C_63 12),.code (C_63 13),.code (C_63 7)] ?_
 refine Runs.sR hE ⟨[(0,(encL TCall.cells TCall.d l)),(3,(.fn (.func 100) [] [])),(6,(.op 0 0 0)),(15,(aB (decide (((l.length:Nat):Int) > most))))],[(0,vO 1 [(.fn (.func 99) [] [])])],96⟩ (C_63 12) [] [] (kp [0,3,6,15]) (kq [0]) 96 [] trivial ?_
 refine Runs.sC 15 (C_63 26) (C_63 27) (decide (((l.length:Nat):Int) > most)) (fun hq2=>?_) (fun hq2=>?_)
 ·have h:=condT h hq2
  refine Runs.sA 1 [.code (C_63 52),.code (C_63 53),.code (C_63 7)] ?_
  refine Runs.sR hE ⟨[(8,(aI 8))],[],112⟩ (C_63 52) [] [] (kp [8]) [] 112 [] trivial ?_
  obtain rfl:=Option.some.inj h
  refine Runs.sW hE ⟨[(8,(aI 8))],[],112⟩ [] (kp [8]) [] 112 [] trivial ?_
  exact Runs.sT Try.f98 [] [] trivial
 ·have h:=condF h hq2
  refine Runs.sA 3 [.code (C_63 28),.code (C_63 29),.code (C_63 15)] ?_
  refine Runs.sR hE ⟨[(0,(encL TCall.cells TCall.d l)),(3,(.fn (.func 100) [] [])),(6,(.op 0 0 0)),(16,(encL TCall.cells TCall.d l)),(17,(aI ((l.length:Nat):Int))),(18,(aI 0))],[(0,vO 1 [(.fn (.func 99) [] [])])],144⟩ (C_63 28) [] [] (kp [0,3,6,16,17,18]) (kq [0]) 144 [] trivial ?_
  refine Runs.sA 2 [.code (C_63 116),.inLoop (C_63 116),.inBlock 0,.code (C_63 15)] ?_
  exact Runs.sW hE _ [] (kp [0,3,6,16,17,18]) (kq [0]) 1 [] trivial (g_berth_check_Call_L1_ok N l N 0 _ h E hE)
noncomputable def C_62 (n:Nat):Code:=cat (bodyOf Try.f70) (pth n)
theorem g_berth_CheckCalls_ok (N:Nat) (c:List TCall) (r:Int) (h:g_berth_CheckCalls N c=some r):Sound Try.prog 70 [(encL TCall.cells TCall.d c)] [] 0 (aI r) []:=by
 unfold g_berth_CheckCalls at h
 refine Sound.of_runs (fu:=Try.f70) (c:=C_62 1) (nt:=5) (by kernel_rfl) (by kernel_rfl) (by kernel_rfl) (by kernel_rfl) (fun hm=>rfl) ?_
 intro E hE
 refine Runs.sA 1 [.code (C_62 2),.code (C_62 3)] ?_
 refine Runs.sR hE ⟨[(0,(encL TCall.cells TCall.d c))],[],16⟩ (C_62 2) [] [] (kp [0]) [] 16 [] trivial ?_
 refine Runs.sA 1 [.code (C_62 6),.code (C_62 7)] ?_
 obtain ⟨rCall,hr,h⟩:=bindSome h
 refine Runs.sR hE ⟨[(2,(aI rCall))],[],64⟩ (C_62 6) [(1,⟨[],true,(aI rCall),[],0,false,none⟩)] [] (kp [2]) [] 64 [Sound Try.prog 98 [(encL TCall.cells TCall.d c),(aI 8),(.fn (.func 99) [] []),(.fn (.func 100) [] [])] [] 0 (aI rCall) []] ⟨(g_berth_check_Call_ok N c 8 rCall hr),trivial⟩ ?_
 obtain rfl:=Option.some.inj h
 refine Runs.sW hE ⟨[(2,(aI rCall))],[],64⟩ [] (kp [2]) [] 64 [] trivial ?_
 exact Runs.sT Try.f70 [] [] trivial
noncomputable def C_51 (n:Nat):Code:=cat (bodyOf Try.f40) (pth n)
theorem g_berth_both_ok (N:Nat) (d:TDock) (c:List TCall) (r:Int) (h:g_berth_both N d c=some r):Sound Try.prog 40 [(.agg (TDock.cells d)),(encL TCall.cells TCall.d c)] [] 0 (aI r) []:=by
 unfold g_berth_both at h
 refine Sound.of_runs (fu:=Try.f40) (c:=C_51 1) (nt:=14) (by kernel_rfl) (by kernel_rfl) (by kernel_rfl) (by kernel_rfl) (fun hm=>rfl) ?_
 intro E hE
 refine Runs.sA 1 [.code (C_51 2),.code (C_51 3)] ?_
 refine Runs.sR hE ⟨[(1,(encL TCall.cells TCall.d c)),(2,(.op 0 0 0))],[(0,vO 6 (TDock.cells d))],32⟩ (C_51 2) [] [] (kp [1,2]) (kq [0]) 32 [] trivial ?_
 refine Runs.sA 2 [.code (C_51 12),.code (C_51 13),.code (C_51 7)] ?_
 obtain ⟨rCheckDocks,hr,h⟩:=bindSome h
 refine Runs.sR hE ⟨[(1,(encL TCall.cells TCall.d c)),(5,(aI rCheckDocks))],[],96⟩ (C_51 12) [(2,⟨[],true,(aI rCheckDocks),[],0,false,none⟩)] [] (kp [1,5]) [] 96 [0 < 1,Sound Try.prog 69 [(.sl 1 (fun zi=>(fun zi=>([[(aS d.f_Name),(aI d.f_Length),(aI d.f_Width),(aI d.f_Sill),(aI d.f_Floor),(aI d.f_Gap)]]:List (List AV)).getD zi []) (addz 0 zi)))] [] 0 (aI rCheckDocks) [],0+1≤1] ⟨o1,(Sound.conv (g_berth_CheckDocks_ok N ([d]:List TDock) rCheckDocks hr) (.cons (Alike.sl rfl (fun zq hzq=>get_chunk TDock.cells TDock.d ([d]:List TDock) zq hzq)) .nil)),z0,trivial⟩ ?_
 refine Runs.sA 1 [.code (C_51 26),.code (C_51 27),.code (C_51 7)] ?_
 refine Runs.sR hE ⟨[(1,(encL TCall.cells TCall.d c)),(5,(aI rCheckDocks)),(10,(aB (rCheckDocks != 0)))],[],128⟩ (C_51 26) [] [] (kp [1,5,10]) [] 128 [] trivial ?_
 refine Runs.sC 10 (C_51 54) (C_51 55) (rCheckDocks != 0) (fun hq2=>?_) (fun hq2=>?_)
 ·have h:=condT h hq2
  refine Runs.sA 1 [.code (C_51 108),.code (C_51 109),.code (C_51 7)] ?_
  refine Runs.sR hE ⟨[(4,(aI rCheckDocks))],[],160⟩ (C_51 108) [] [] (kp [4]) [] 160 [] trivial ?_
  obtain rfl:=Option.some.inj h
  refine Runs.sW hE ⟨[(4,(aI rCheckDocks))],[],160⟩ [] (kp [4]) [] 160 [] trivial ?_
  exact Runs.sT Try.f40 [] [] trivial
 ·have h:=condF h hq2
  refine Runs.sA 2 [.code (C_51 14),.code (C_51 15)] ?_
  obtain ⟨rCheckCalls,hr2,h⟩:=bindSome h
  refine Runs.sR hE ⟨[(4,(aI rCheckCalls))],[],176⟩ (C_51 14) [(1,⟨[],true,(aI rCheckCalls),[],0,false,none⟩)] [] (kp [4]) [] 176 [Sound Try.prog 70 [(encL TCall.cells TCall.d c)] [] 0 (aI rCheckCalls) []] ⟨(g_berth_CheckCalls_ok N c rCheckCalls hr2),trivial⟩ ?_
  obtain rfl:=Option.some.inj h
  refine Runs.sW hE ⟨[(4,(aI rCheckCalls))],[],176⟩ [] (kp [4]) [] 176 [] trivial ?_
  exact Runs.sT Try.f40 [] [] trivial
noncomputable def C_69 (n:Nat):Code:=cat (bodyOf Try.f57) (pth n)
theorem g_berth_fits_ok (N:Nat) (d:TDock) (c:TCall) (r:Bool) (h:g_berth_fits N d c=some r):Sound Try.prog 57 [(.agg (TDock.cells d)),(.agg (TCall.cells c))] [] 0 (aB r) []:=by
 unfold g_berth_fits at h
 refine Sound.of_runs (fu:=Try.f57) (c:=C_69 1) (nt:=25) (by kernel_rfl) (by kernel_rfl) (by kernel_rfl) (by kernel_rfl) (fun hm=>rfl) ?_
 intro E hE
 refine Runs.sA 1 [.code (C_69 2),.code (C_69 3)] ?_
 refine Runs.sR hE ⟨[(2,(.op 0 0 0)),(3,(.op 16 0 0))],[(0,vO 6 (TDock.cells d)),(16,vO 9 (TCall.cells c))],48⟩ (C_69 2) [] [] (kp [2,3]) (kq [0,16]) 48 [] trivial ?_
 refine Runs.sA 1 [.code (C_69 6),.code (C_69 7)] ?_
 refine Runs.sR hE ⟨[(4,(aB (cond (decide ((w64 (c.f_Length+(w64 (2 * d.f_Gap))))≤d.f_Length)) (decide ((w64 (c.f_Beam+(w64 (2 * d.f_Gap))))≤d.f_Width)) false)))],[],384⟩ (C_69 6) [] [] (kp [4]) [] 384 [0 < 1,0 < 1,0 < 1,(decide ((w64 (c.f_Length+(w64 (2 * d.f_Gap))))≤d.f_Length))=true→AllP [(decide ((w64 (c.f_Length+(w64 (2 * d.f_Gap))))≤d.f_Length))=true,0 < 1],(decide ((w64 (c.f_Length+(w64 (2 * d.f_Gap))))≤d.f_Length))=true→AllP [(decide ((w64 (c.f_Length+(w64 (2 * d.f_Gap))))≤d.f_Length))=true,0 < 1],(decide ((w64 (c.f_Length+(w64 (2 * d.f_Gap))))≤d.f_Length))=true→AllP [(decide ((w64 (c.f_Length+(w64 (2 * d.f_Gap))))≤d.f_Length))=true],(decide ((w64 (c.f_Length+(w64 (2 * d.f_Gap))))≤d.f_Length))=true→AllP [(decide ((w64 (c.f_Length+(w64 (2 * d.f_Gap))))≤d.f_Length))=true,(decide ((w64 (c.f_Length+(w64 (2 * d.f_Gap))))≤d.f_Length))=true],(decide ((w64 (c.f_Length+(w64 (2 * d.f_Gap))))≤d.f_Length))=true→AllP [(decide ((w64 (c.f_Length+(w64 (2 * d.f_Gap))))≤d.f_Length))=true,0 < 1],(decide ((w64 (c.f_Length+(w64 (2 * d.f_Gap))))≤d.f_Length))=true→AllP [(decide ((w64 (c.f_Length+(w64 (2 * d.f_Gap))))≤d.f_Length))=true,(decide ((w64 (c.f_Length+(w64 (2 * d.f_Gap))))≤d.f_Length))=true],(decide ((w64 (c.f_Length+(w64 (2 * d.f_Gap))))≤d.f_Length))=true→AllP [(decide ((w64 (c.f_Length+(w64 (2 * d.f_Gap))))≤d.f_Length))=true]] ⟨o1,o1,o1,(fun hg=>⟨hg,o1,trivial⟩),(fun hg=>⟨hg,o1,trivial⟩),(fun hg=>⟨hg,trivial⟩),(fun hg=>⟨hg,hg,trivial⟩),(fun hg=>⟨hg,o1,trivial⟩),(fun hg=>⟨hg,hg,trivial⟩),(fun hq=>⟨hq,trivial⟩),trivial⟩ ?_
 obtain rfl:=Option.some.inj h
 refine Runs.sW hE ⟨[(4,(aB (cond (decide ((w64 (c.f_Length+(w64 (2 * d.f_Gap))))≤d.f_Length)) (decide ((w64 (c.f_Beam+(w64 (2 * d.f_Gap))))≤d.f_Width)) false)))],[],384⟩ [] (kp [4]) [] 384 [] trivial ?_
 exact Runs.sT Try.f57 [] [] trivial
noncomputable def C_50 (n:Nat):Code:=cat (bodyOf Try.f39) (pth n)
theorem g_berth_Fits_ok (N:Nat) (d:TDock) (c:TCall) (r:Bool×Int) (h:g_berth_Fits N d c=some r):Sound Try.prog 39 [(.agg (TDock.cells d)),(.agg (TCall.cells c))] [] 0 (.tup [(aB r.1),(aI r.2)]) []:=by
 unfold g_berth_Fits at h
 refine Sound.of_runs (fu:=Try.f39) (c:=C_50 1) (nt:=17) (by kernel_rfl) (by kernel_rfl) (by kernel_rfl) (by kernel_rfl) (fun hm=>rfl) ?_
 intro E hE
 refine Runs.sA 1 [.code (C_50 2),.code (C_50 3)] ?_
 refine Runs.sR hE ⟨[(2,(.op 0 0 0)),(3,(.op 16 0 0))],[(0,vO 6 (TDock.cells d)),(16,vO 9 (TCall.cells c))],64⟩ (C_50 2) [] [] (kp [2,3]) (kq [0,16]) 64 [] trivial ?_
 refine Runs.sA 2 [.code (C_50 12),.code (C_50 13),.code (C_50 7)] ?_
 obtain ⟨rboth,hr,h⟩:=bindSome h
 refine Runs.sR hE ⟨[(2,(.op 0 0 0)),(3,(.op 16 0 0)),(6,(aI rboth))],[(0,vO 6 (TDock.cells d)),(16,vO 9 (TCall.cells c))],144⟩ (C_50 12) [(3,⟨[],true,(aI rboth),[],0,false,none⟩)] [] (kp [2,3,6]) (kq [0,16]) 144 [0 < 1,0 < 1,Sound Try.prog 40 [(.agg (TDock.cells d)),(.sl 1 (fun zi=>(fun zi=>([[(aS c.f_Name),(aI c.f_Length),(aI c.f_Beam),(aI c.f_Draught),(aI c.f_Under),(aI c.f_Arrive),(aI c.f_Work),(aI c.f_Due),(aI c.f_Late)]]:List (List AV)).getD zi []) (addz 0 zi)))] [] 0 (aI rboth) [],0+1≤1] ⟨o1,o1,(Sound.conv (g_berth_both_ok N d ([c]:List TCall) rboth hr) (.cons (Alike.refl _) (.cons (Alike.sl rfl (fun zq hzq=>get_chunk TCall.cells TCall.d ([c]:List TCall) zq hzq)) .nil))),z0,trivial⟩ ?_
 refine Runs.sA 1 [.code (C_50 26),.code (C_50 27),.code (C_50 7)] ?_
 refine Runs.sR hE ⟨[(2,(.op 0 0 0)),(3,(.op 16 0 0)),(6,(aI rboth)),(12,(aB (rboth != 0)))],[(0,vO 6 (TDock.cells d)),(16,vO 9 (TCall.cells c))],176⟩ (C_50 26) [] [] (kp [2,3,6,12]) (kq [0,16]) 176 [] trivial ?_
 refine Runs.sC 12 (C_50 54) (C_50 55) (rboth != 0) (fun hq2=>?_) (fun hq2=>?_)
 ·have h:=condT h hq2
  refine Runs.sA 1 [.code (C_50 108),.code (C_50 109),.code (C_50 7)] ?_
  refine Runs.sR hE ⟨[(4,(aB false)),(5,(aI rboth))],[],224⟩ (C_50 108) [] [] (kp [4,5]) [] 224 [] trivial ?_
  obtain rfl:=Option.some.inj h
  refine Runs.sW hE ⟨[(4,(aB false)),(5,(aI rboth))],[],224⟩ [] (kp [4,5]) [] 224 [] trivial ?_
  exact Runs.sT Try.f39 [] [] trivial
 ·have h:=condF h hq2
  refine Runs.sA 2 [.code (C_50 14),.code (C_50 15)] ?_
  obtain ⟨rfits,hr2,h⟩:=bindSome h
  refine Runs.sR hE ⟨[(4,(aB rfits)),(5,(aI 0))],[],256⟩ (C_50 14) [(2,⟨[],true,(aB rfits),[],0,false,none⟩)] [] (kp [4,5]) [] 256 [0 < 1,0 < 1,Sound Try.prog 57 [(.agg (TDock.cells d)),(.agg (TCall.cells c))] [] 0 (aB rfits) []] ⟨o1,o1,(g_berth_fits_ok N d c rfits hr2),trivial⟩ ?_
  obtain rfl:=Option.some.inj h
  refine Runs.sW hE ⟨[(4,(aB rfits)),(5,(aI 0))],[],256⟩ [] (kp [4,5]) [] 256 [] trivial ?_
  exact Runs.sT Try.f39 [] [] trivial
noncomputable def C_49 (n:Nat):Code:=cat (bodyOf Try.f9) (pth n)
theorem g_w06_awake_ok (N:Nat) (r:Bool) (h:g_w06_awake N=some r):Sound Try.prog 9 [] [] 0 (aB r) []:=by
 unfold g_w06_awake at h
 refine Sound.of_runs (fu:=Try.f9) (c:=C_49 1) (nt:=36) (by kernel_rfl) (by kernel_rfl) (by kernel_rfl) (by kernel_rfl) (fun hm=>rfl) ?_
 intro E hE
 refine Runs.sA 1 [.code (C_49 2),.code (C_49 3)] ?_
 refine Runs.sR hE ⟨[],[],16⟩ (C_49 2) [] [] [] [] 16 [] trivial ?_
 refine Runs.sA 1 [.code (C_49 6),.code (C_49 7)] ?_
 refine Runs.sR hE ⟨[(1,(.op 32 0 0))],[(32,vO 6 [(aS (⟨#[100]⟩:ByteArray)),(aI 200),(aI 40),(aI 0),(aI 0),(aI 2)])],64⟩ (C_49 6) [] [] (kp [1]) (kq [32]) 64 [0 < 1] ⟨o1,trivial⟩ ?_
 refine Runs.sA 1 [.code (C_49 14),.code (C_49 15)] ?_
 refine Runs.sR hE ⟨[(1,(.op 32 0 0)),(2,(.op 80 0 0))],[(32,vO 6 [(aS (⟨#[100]⟩:ByteArray)),(aI 200),(aI 40),(aI 0),(aI 0),(aI 2)]),(80,vO 9 [(aS (⟨#[97]⟩:ByteArray)),(aI 100),(aI 30),(aI 0),(aI 0),(aI 0),(aI 1),(aI 0),(aI 0)])],112⟩ (C_49 14) [] [] (kp [1,2]) (kq [32,80]) 112 [0 < 1] ⟨o1,trivial⟩ ?_
 refine Runs.sA 1 [.code (C_49 30),.code (C_49 31)] ?_
 refine Runs.sR hE ⟨[(1,(.op 32 0 0)),(2,(.op 80 0 0)),(3,(.op 128 0 0))],[(32,vO 6 [(aS (⟨#[100]⟩:ByteArray)),(aI 200),(aI 40),(aI 0),(aI 0),(aI 2)]),(80,vO 9 [(aS (⟨#[97]⟩:ByteArray)),(aI 100),(aI 30),(aI 0),(aI 0),(aI 0),(aI 1),(aI 0),(aI 0)]),(128,vO 9 [(aS (⟨#[98]⟩:ByteArray)),(aI 197),(aI 30),(aI 0),(aI 0),(aI 0),(aI 1),(aI 0),(aI 0)])],160⟩ (C_49 30) [] [] (kp [1,2,3]) (kq [32,80,128]) 160 [0 < 1] ⟨o1,trivial⟩ ?_
 refine Runs.sA 1 [.code (C_49 62),.code (C_49 63)] ?_
 obtain ⟨rFits,hr,h⟩:=bindSome h
 refine Runs.sR hE ⟨[(1,(.op 32 0 0)),(3,(.op 128 0 0)),(4,(aB rFits.1)),(5,(aI rFits.2))],[(32,vO 6 [(aS (⟨#[100]⟩:ByteArray)),(aI 200),(aI 40),(aI 0),(aI 0),(aI 2)]),(128,vO 9 [(aS (⟨#[98]⟩:ByteArray)),(aI 197),(aI 30),(aI 0),(aI 0),(aI 0),(aI 1),(aI 0),(aI 0)])],288⟩ (C_49 62) [(2,⟨[],true,(.tup [(aB rFits.1),(aI rFits.2)]),[],0,false,none⟩)] [] (kp [1,3,4,5]) (kq [32,128]) 288 [0 < 1,0 < 1,Sound Try.prog 39 [(.agg [(aS (⟨#[100]⟩:ByteArray)),(aI 200),(aI 40),(aI 0),(aI 0),(aI 2)]),(.agg [(aS (⟨#[97]⟩:ByteArray)),(aI 100),(aI 30),(aI 0),(aI 0),(aI 0),(aI 1),(aI 0),(aI 0)])] [] 0 (.tup [(aB rFits.1),(aI rFits.2)]) []] ⟨o1,o1,(g_berth_Fits_ok N (⟨(⟨#[100]⟩:ByteArray),200,40,0,0,2⟩:TDock) (⟨(⟨#[97]⟩:ByteArray),100,30,0,0,0,1,0,0⟩:TCall) rFits hr),trivial⟩ ?_
 refine Runs.sA 1 [.code (C_49 126),.code (C_49 127)] ?_
 obtain ⟨rFits2,hr2,h⟩:=bindSome h
 refine Runs.sR hE ⟨[(4,(aB rFits.1)),(5,(aI rFits.2)),(6,(aB rFits2.1)),(7,(aI rFits2.2))],[],416⟩ (C_49 126) [(2,⟨[],true,(.tup [(aB rFits2.1),(aI rFits2.2)]),[],0,false,none⟩)] [] (kp [4,5,6,7]) [] 416 [0 < 1,0 < 1,Sound Try.prog 39 [(.agg [(aS (⟨#[100]⟩:ByteArray)),(aI 200),(aI 40),(aI 0),(aI 0),(aI 2)]),(.agg [(aS (⟨#[98]⟩:ByteArray)),(aI 197),(aI 30),(aI 0),(aI 0),(aI 0),(aI 1),(aI 0),(aI 0)])] [] 0 (.tup [(aB rFits2.1),(aI rFits2.2)]) []] ⟨o1,o1,(g_berth_Fits_ok N (⟨(⟨#[100]⟩:ByteArray),200,40,0,0,2⟩:TDock) (⟨(⟨#[98]⟩:ByteArray),197,30,0,0,0,1,0,0⟩:TCall) rFits2 hr2),trivial⟩ ?_
 refine Runs.sA 1 [.code (C_49 254),.code (C_49 255)] ?_
 refine Runs.sR hE ⟨[(0,(aB (cond (cond (cond (rFits.2 == 0) rFits.1 false) (rFits2.2 == 0) false) (!rFits2.1) false)))],[],640⟩ (C_49 254) [] [] (kp [0]) [] 640 [(rFits.2 == 0)=true→AllP [(rFits.2 == 0)=true],(cond (rFits.2 == 0) rFits.1 false)=true→AllP [(cond (rFits.2 == 0) rFits.1 false)=true],(cond (rFits.2 == 0) rFits.1 false)=true→AllP [(cond (rFits.2 == 0) rFits.1 false)=true],(cond (cond (rFits.2 == 0) rFits.1 false) (rFits2.2 == 0) false)=true→AllP [(cond (cond (rFits.2 == 0) rFits.1 false) (rFits2.2 == 0) false)=true],(cond (cond (rFits.2 == 0) rFits.1 false) (rFits2.2 == 0) false)=true→AllP [(cond (cond (rFits.2 == 0) rFits.1 false) (rFits2.2 == 0) false)=true]] ⟨(fun hq=>⟨hq,trivial⟩),(fun hg=>⟨hg,trivial⟩),(fun hq=>⟨hq,trivial⟩),(fun hg=>⟨hg,trivial⟩),(fun hq=>⟨hq,trivial⟩),trivial⟩ ?_
 obtain rfl:=Option.some.inj h
 refine Runs.sW hE ⟨[(0,(aB (cond (cond (cond (rFits.2 == 0) rFits.1 false) (rFits2.2 == 0) false) (!rFits2.1) false)))],[],640⟩ [] (kp [0]) [] 640 [] trivial ?_
 exact Runs.sT Try.f9 [] [] trivial
noncomputable def C_70 (n:Nat):Code:=cat (bodyOf Try.f10) (pth n)
theorem g_w06_Names_L2_ok (N:Nat) (c:List TCall) (fuel:Nat):∀ (i2:Int) (r:Bool),g_w06_Names_L2 N c fuel i2=some r→∀ E,EnvOk E 0→Runs Try.prog E 10 41 (SPost E [] (aB r)) [.code (C_70 244),.inLoop (C_70 244),.inBlock 2,.code (C_70 31)] ⟨[(1,(encL TCall.cells TCall.d c)),(6,(aI i2))],[],0⟩:=by
 induction fuel with
 | zero=>intro _ r h;rw [g_w06_Names_L2.eq_1] at h;cases h
 | succ fuel ih =>
  intro i2 r h E hE
  rw [g_w06_Names_L2.eq_2] at h
  refine Runs.sA 2 [.code (C_70 976),.code (C_70 977),.code (C_70 489),.inLoop (C_70 244),.inBlock 2,.code (C_70 31)] ?_
  refine Runs.sR hE ⟨[(1,(encL TCall.cells TCall.d c)),(6,(aI i2)),(31,(aB (decide (i2 < ((c.length:Nat):Int)))))],[],64⟩ (C_70 976) [] [] (kp [1,6,31]) [] 64 [] trivial ?_
  refine Runs.sC 31 (C_70 1954) (C_70 1955) (decide (i2 < ((c.length:Nat):Int))) (fun hq5=>?_) (fun hq5=>?_)
  ·have h:=condT h hq5
   refine Runs.sA 4 [.code (C_70 3912),.code (C_70 3913),.inBlock 3,.code (C_70 979),.inLoop (C_70 244),.inBlock 2,.code (C_70 31)] ?_
   obtain ⟨c3,h⟩:=ifSome h
   refine Runs.sR hE ⟨[(1,(encL TCall.cells TCall.d c)),(6,(aI i2)),(40,(aB (decide (((((c.getD ((i2).toNat) TCall.d).f_Name).size:Nat):Int) > 40))))],[],176⟩ (C_70 3912) [] [] (kp [1,6,40]) [] 176 [0≤i2∧i2 < ((c.length:Nat):Int)] ⟨c3,trivial⟩ ?_
   refine Runs.sC 40 (C_70 7826) (C_70 7827) (decide (((((c.getD ((i2).toNat) TCall.d).f_Name).size:Nat):Int) > 40)) (fun hq6=>?_) (fun hq6=>?_)
   ·have h:=condT h hq6
    refine Runs.sA 1 [.code (C_70 15652),.code (C_70 15653),.inBlock 3,.code (C_70 979),.inLoop (C_70 244),.inBlock 2,.code (C_70 31)] ?_
    refine Runs.sR hE ⟨[(4,(aB false))],[],192⟩ (C_70 15652) [] [] (kp [4]) [] 192 [] trivial ?_
    obtain rfl:=Option.some.inj h
    refine Runs.sW hE ⟨[(4,(aB false))],[],192⟩ [] (kp [4]) [] 192 [] trivial ?_
    exact Runs.sT Try.f10 [] [] trivial
   ·have h:=condF h hq6
    refine Runs.sA 2 [.code (C_70 979),.inLoop (C_70 244),.inBlock 2,.code (C_70 31)] ?_
    refine Runs.sR hE ⟨[(1,(encL TCall.cells TCall.d c)),(6,(aI (w64 (i2+1))))],[],224⟩ (C_70 979) [] [] (kp [1,6]) [] 224 [] trivial ?_
    refine Runs.sA 1 [.code (C_70 244),.inLoop (C_70 244),.inBlock 2,.code (C_70 31)] ?_
    exact Runs.sW hE _ [] (kp [1,6]) [] 0 [] trivial (ih (w64 (i2+1)) _ h E hE)
  ·have h:=condF h hq5
   refine Runs.sA 2 [.code (C_70 62),.code (C_70 63)] ?_
   refine Runs.sR hE ⟨[(4,(aB true))],[],80⟩ (C_70 62) [] [] (kp [4]) [] 80 [] trivial ?_
   obtain rfl:=Option.some.inj h
   refine Runs.sW hE ⟨[(4,(aB true))],[],80⟩ [] (kp [4]) [] 80 [] trivial ?_
   exact Runs.sT Try.f10 [] [] trivial
theorem g_w06_Names_L1_ok (N:Nat) (d:List TDock) (c:List TCall) (fuel:Nat):∀ (i:Int) (r:Bool),g_w06_Names_L1 N d c fuel i=some r→∀ E,EnvOk E 0→Runs Try.prog E 10 41 (SPost E [] (aB r)) [.code (C_70 116),.inLoop (C_70 116),.inBlock 0,.code (C_70 15)] ⟨[(0,(encL TDock.cells TDock.d d)),(1,(encL TCall.cells TCall.d c)),(5,(aI i))],[],0⟩:=by
 induction fuel with
 | zero=>intro _ r h;rw [g_w06_Names_L1.eq_1] at h;cases h
 | succ fuel ih =>
  intro i r h E hE
  rw [g_w06_Names_L1.eq_2] at h
  refine Runs.sA 2 [.code (C_70 464),.code (C_70 465),.code (C_70 233),.inLoop (C_70 116),.inBlock 0,.code (C_70 15)] ?_
  refine Runs.sR hE ⟨[(0,(encL TDock.cells TDock.d d)),(1,(encL TCall.cells TCall.d c)),(5,(aI i)),(18,(aB (decide (i < ((d.length:Nat):Int)))))],[],64⟩ (C_70 464) [] [] (kp [0,1,5,18]) [] 64 [] trivial ?_
  refine Runs.sC 18 (C_70 930) (C_70 931) (decide (i < ((d.length:Nat):Int))) (fun hq3=>?_) (fun hq3=>?_)
  ·have h:=condT h hq3
   refine Runs.sA 4 [.code (C_70 1864),.code (C_70 1865),.inBlock 1,.code (C_70 467),.inLoop (C_70 116),.inBlock 0,.code (C_70 15)] ?_
   obtain ⟨c2,h⟩:=ifSome h
   refine Runs.sR hE ⟨[(0,(encL TDock.cells TDock.d d)),(1,(encL TCall.cells TCall.d c)),(5,(aI i)),(27,(aB (decide (((((d.getD ((i).toNat) TDock.d).f_Name).size:Nat):Int) > 40))))],[],176⟩ (C_70 1864) [] [] (kp [0,1,5,27]) [] 176 [0≤i∧i < ((d.length:Nat):Int)] ⟨c2,trivial⟩ ?_
   refine Runs.sC 27 (C_70 3730) (C_70 3731) (decide (((((d.getD ((i).toNat) TDock.d).f_Name).size:Nat):Int) > 40)) (fun hq4=>?_) (fun hq4=>?_)
   ·have h:=condT h hq4
    refine Runs.sA 1 [.code (C_70 7460),.code (C_70 7461),.inBlock 1,.code (C_70 467),.inLoop (C_70 116),.inBlock 0,.code (C_70 15)] ?_
    refine Runs.sR hE ⟨[(4,(aB false))],[],192⟩ (C_70 7460) [] [] (kp [4]) [] 192 [] trivial ?_
    obtain rfl:=Option.some.inj h
    refine Runs.sW hE ⟨[(4,(aB false))],[],192⟩ [] (kp [4]) [] 192 [] trivial ?_
    exact Runs.sT Try.f10 [] [] trivial
   ·have h:=condF h hq4
    refine Runs.sA 2 [.code (C_70 467),.inLoop (C_70 116),.inBlock 0,.code (C_70 15)] ?_
    refine Runs.sR hE ⟨[(0,(encL TDock.cells TDock.d d)),(1,(encL TCall.cells TCall.d c)),(5,(aI (w64 (i+1))))],[],224⟩ (C_70 467) [] [] (kp [0,1,5]) [] 224 [] trivial ?_
    refine Runs.sA 1 [.code (C_70 116),.inLoop (C_70 116),.inBlock 0,.code (C_70 15)] ?_
    exact Runs.sW hE _ [] (kp [0,1,5]) [] 0 [] trivial (ih (w64 (i+1)) _ h E hE)
  ·have h:=condF h hq3
   refine Runs.sA 3 [.code (C_70 60),.code (C_70 61),.code (C_70 31)] ?_
   refine Runs.sR hE ⟨[(1,(encL TCall.cells TCall.d c)),(6,(aI 0))],[],80⟩ (C_70 60) [] [] (kp [1,6]) [] 80 [] trivial ?_
   refine Runs.sA 2 [.code (C_70 244),.inLoop (C_70 244),.inBlock 2,.code (C_70 31)] ?_
   exact Runs.sW hE _ [] (kp [1,6]) [] 0 [] trivial (g_w06_Names_L2_ok N c N 0 _ h E hE)
theorem g_w06_Names_ok (N:Nat) (d:List TDock) (c:List TCall) (r:Bool) (h:g_w06_Names N d c=some r):Sound Try.prog 10 [(encL TDock.cells TDock.d d),(encL TCall.cells TCall.d c)] [] 0 (aB r) []:=by
 unfold g_w06_Names at h
 refine Sound.of_runs (fu:=Try.f10) (c:=C_70 1) (nt:=41) (by kernel_rfl) (by kernel_rfl) (by kernel_rfl) (by kernel_rfl) (fun hm=>rfl) ?_
 intro E hE
 refine Runs.sA 1 [.code (C_70 2),.code (C_70 3)] ?_
 refine Runs.sR hE ⟨[(0,(encL TDock.cells TDock.d d)),(1,(encL TCall.cells TCall.d c))],[],16⟩ (C_70 2) [] [] (kp [0,1]) [] 16 [] trivial ?_
 refine Runs.sA 2 [.code (C_70 12),.code (C_70 13),.code (C_70 7)] ?_
 refine Runs.sR hE ⟨[(0,(encL TDock.cells TDock.d d)),(1,(encL TCall.cells TCall.d c)),(14,(aB (cond (decide (((d.length:Nat):Int) > 6)) true (decide (((c.length:Nat):Int) > 10)))))],[],144⟩ (C_70 12) [] [] (kp [0,1,14]) [] 144 [(!(decide (((d.length:Nat):Int) > 6)))=true→AllP [(!(decide (((d.length:Nat):Int) > 6)))=true],(!(decide (((d.length:Nat):Int) > 6)))=true→AllP [(!(decide (((d.length:Nat):Int) > 6)))=true],(!(decide (((d.length:Nat):Int) > 6)))=true→AllP [(!(decide (((d.length:Nat):Int) > 6)))=true]] ⟨(fun hg=>⟨hg,trivial⟩),(fun hg=>⟨hg,trivial⟩),(fun hq=>⟨hq,trivial⟩),trivial⟩ ?_
 refine Runs.sC 14 (C_70 26) (C_70 27) (cond (decide (((d.length:Nat):Int) > 6)) true (decide (((c.length:Nat):Int) > 10))) (fun hq2=>?_) (fun hq2=>?_)
 ·have h:=condT h hq2
  refine Runs.sA 1 [.code (C_70 52),.code (C_70 53),.code (C_70 7)] ?_
  refine Runs.sR hE ⟨[(4,(aB false))],[],160⟩ (C_70 52) [] [] (kp [4]) [] 160 [] trivial ?_
  obtain rfl:=Option.some.inj h
  refine Runs.sW hE ⟨[(4,(aB false))],[],160⟩ [] (kp [4]) [] 160 [] trivial ?_
  exact Runs.sT Try.f10 [] [] trivial
 ·have h:=condF h hq2
  refine Runs.sA 3 [.code (C_70 28),.code (C_70 29),.code (C_70 15)] ?_
  refine Runs.sR hE ⟨[(0,(encL TDock.cells TDock.d d)),(1,(encL TCall.cells TCall.d c)),(5,(aI 0))],[],160⟩ (C_70 28) [] [] (kp [0,1,5]) [] 160 [] trivial ?_
  refine Runs.sA 2 [.code (C_70 116),.inLoop (C_70 116),.inBlock 0,.code (C_70 15)] ?_
  exact Runs.sW hE _ [] (kp [0,1,5]) [] 0 [] trivial (g_w06_Names_L1_ok N d c N 0 _ h E hE)
noncomputable def C_71 (n:Nat):Code:=cat (bodyOf Try.f11) (pth n)
theorem g_w06_calm_ok (N:Nat) (sea:List TMark) (most:Int) (r:Bool) (h:g_w06_calm N sea most=some r):Sound Try.prog 11 [(encL TMark.cells TMark.d sea),(aI most)] [] 0 (aB r) []:=by
 unfold g_w06_calm at h
 refine Sound.of_runs (fu:=Try.f11) (c:=C_71 1) (nt:=35) (by kernel_rfl) (by kernel_rfl) (by kernel_rfl) (by kernel_rfl) (fun hm=>rfl) ?_
 intro E hE
 refine Runs.sA 1 [.code (C_71 2),.code (C_71 3)] ?_
 refine Runs.sR hE ⟨[(0,(encL TMark.cells TMark.d sea)),(1,(aI most))],[],16⟩ (C_71 2) [] [] (kp [0,1]) [] 16 [] trivial ?_
 refine Runs.sA 2 [.code (C_71 12),.code (C_71 13),.code (C_71 7)] ?_
 refine Runs.sR hE ⟨[(0,(encL TMark.cells TMark.d sea)),(1,(aI most)),(7,(aB (decide (((sea.length:Nat):Int) > 12))))],[],64⟩ (C_71 12) [] [] (kp [0,1,7]) [] 64 [] trivial ?_
 refine Runs.sC 7 (C_71 26) (C_71 27) (decide (((sea.length:Nat):Int) > 12)) (fun hq2=>?_) (fun hq2=>?_)
 ·have h:=condT h hq2
  refine Runs.sA 1 [.code (C_71 52),.code (C_71 53),.code (C_71 7)] ?_
  refine Runs.sR hE ⟨[(4,(aB (decide (((sea.length:Nat):Int) > 400))))],[],128⟩ (C_71 52) [] [] (kp [4]) [] 128 [] trivial ?_
  obtain rfl:=Option.some.inj h
  refine Runs.sW hE ⟨[(4,(aB (decide (((sea.length:Nat):Int) > 400))))],[],128⟩ [] (kp [4]) [] 128 [] trivial ?_
  exact Runs.sT Try.f11 [] [] trivial
 ·have h:=condF h hq2
  refine Runs.sA 2 [.code (C_71 14),.code (C_71 15)] ?_
  obtain ⟨c,h⟩:=ifSome h
  obtain ⟨c2,h⟩:=ifSome h
  refine Runs.sR hE ⟨[(4,(aB (cond (cond (((sea.length:Nat):Int) == 0) true (decide ((sea.getD ((w64 (((sea.length:Nat):Int) - 1)).toNat) TMark.d).f_Minute≤most))) true (decide ((sea.getD ((w64 (((sea.length:Nat):Int) - 1)).toNat) TMark.d).f_Minute > 1000000)))))],[],464⟩ (C_71 14) [] [] (kp [4]) [] 464 [(!(((sea.length:Nat):Int) == 0))=true→AllP [(!(((sea.length:Nat):Int) == 0))=true],(!(((sea.length:Nat):Int) == 0))=true→AllP [(!(((sea.length:Nat):Int) == 0))=true],(!(((sea.length:Nat):Int) == 0))=true→AllP [(!(((sea.length:Nat):Int) == 0))=true,(!(((sea.length:Nat):Int) == 0))=true,0≤(w64 (((sea.length:Nat):Int) - 1))∧(w64 (((sea.length:Nat):Int) - 1)) < ((sea.length:Nat):Int)],(!(((sea.length:Nat):Int) == 0))=true→AllP [(!(((sea.length:Nat):Int) == 0))=true],(!(((sea.length:Nat):Int) == 0))=true→AllP [(!(((sea.length:Nat):Int) == 0))=true],(!(((sea.length:Nat):Int) == 0))=true→AllP [(!(((sea.length:Nat):Int) == 0))=true,(!(((sea.length:Nat):Int) == 0))=true],(!(((sea.length:Nat):Int) == 0))=true→AllP [(!(((sea.length:Nat):Int) == 0))=true],(!(cond (((sea.length:Nat):Int) == 0) true (decide ((sea.getD ((w64 (((sea.length:Nat):Int) - 1)).toNat) TMark.d).f_Minute≤most))))=true→AllP [(!(cond (((sea.length:Nat):Int) == 0) true (decide ((sea.getD ((w64 (((sea.length:Nat):Int) - 1)).toNat) TMark.d).f_Minute≤most))))=true],(!(cond (((sea.length:Nat):Int) == 0) true (decide ((sea.getD ((w64 (((sea.length:Nat):Int) - 1)).toNat) TMark.d).f_Minute≤most))))=true→AllP [(!(cond (((sea.length:Nat):Int) == 0) true (decide ((sea.getD ((w64 (((sea.length:Nat):Int) - 1)).toNat) TMark.d).f_Minute≤most))))=true],(!(cond (((sea.length:Nat):Int) == 0) true (decide ((sea.getD ((w64 (((sea.length:Nat):Int) - 1)).toNat) TMark.d).f_Minute≤most))))=true→AllP [(!(cond (((sea.length:Nat):Int) == 0) true (decide ((sea.getD ((w64 (((sea.length:Nat):Int) - 1)).toNat) TMark.d).f_Minute≤most))))=true,(!(cond (((sea.length:Nat):Int) == 0) true (decide ((sea.getD ((w64 (((sea.length:Nat):Int) - 1)).toNat) TMark.d).f_Minute≤most))))=true,0≤(w64 (((sea.length:Nat):Int) - 1))∧(w64 (((sea.length:Nat):Int) - 1)) < ((sea.length:Nat):Int)],(!(cond (((sea.length:Nat):Int) == 0) true (decide ((sea.getD ((w64 (((sea.length:Nat):Int) - 1)).toNat) TMark.d).f_Minute≤most))))=true→AllP [(!(cond (((sea.length:Nat):Int) == 0) true (decide ((sea.getD ((w64 (((sea.length:Nat):Int) - 1)).toNat) TMark.d).f_Minute≤most))))=true],(!(cond (((sea.length:Nat):Int) == 0) true (decide ((sea.getD ((w64 (((sea.length:Nat):Int) - 1)).toNat) TMark.d).f_Minute≤most))))=true→AllP [(!(cond (((sea.length:Nat):Int) == 0) true (decide ((sea.getD ((w64 (((sea.length:Nat):Int) - 1)).toNat) TMark.d).f_Minute≤most))))=true],(!(cond (((sea.length:Nat):Int) == 0) true (decide ((sea.getD ((w64 (((sea.length:Nat):Int) - 1)).toNat) TMark.d).f_Minute≤most))))=true→AllP [(!(cond (((sea.length:Nat):Int) == 0) true (decide ((sea.getD ((w64 (((sea.length:Nat):Int) - 1)).toNat) TMark.d).f_Minute≤most))))=true],(!(cond (((sea.length:Nat):Int) == 0) true (decide ((sea.getD ((w64 (((sea.length:Nat):Int) - 1)).toNat) TMark.d).f_Minute≤most))))=true→AllP [(!(cond (((sea.length:Nat):Int) == 0) true (decide ((sea.getD ((w64 (((sea.length:Nat):Int) - 1)).toNat) TMark.d).f_Minute≤most))))=true]] ⟨(fun hg=>⟨hg,trivial⟩),(fun hg=>⟨hg,trivial⟩),(fun hg=>⟨hg,hg,(c hg),trivial⟩),(fun hg=>⟨hg,trivial⟩),(fun hg=>⟨hg,trivial⟩),(fun hg=>⟨hg,hg,trivial⟩),(fun hq=>⟨hq,trivial⟩),(fun hg=>⟨hg,trivial⟩),(fun hg=>⟨hg,trivial⟩),(fun hg=>⟨hg,hg,(c2 hg),trivial⟩),(fun hg=>⟨hg,trivial⟩),(fun hg=>⟨hg,trivial⟩),(fun hg=>⟨hg,trivial⟩),(fun hq=>⟨hq,trivial⟩),trivial⟩ ?_
  obtain rfl:=Option.some.inj h
  refine Runs.sW hE ⟨[(4,(aB (cond (cond (((sea.length:Nat):Int) == 0) true (decide ((sea.getD ((w64 (((sea.length:Nat):Int) - 1)).toNat) TMark.d).f_Minute≤most))) true (decide ((sea.getD ((w64 (((sea.length:Nat):Int) - 1)).toNat) TMark.d).f_Minute > 1000000)))))],[],464⟩ [] (kp [4]) [] 464 [] trivial ?_
  exact Runs.sT Try.f11 [] [] trivial
noncomputable def C_73 (n:Nat):Code:=cat (bodyOf Try.f41) (pth n)
theorem g_berth_tides_ok (N:Nat) (sea:List TMark) (r:Int) (h:g_berth_tides N sea=some r):Sound Try.prog 41 [(encL TMark.cells TMark.d sea)] [] 0 (aI r) []:=by
 unfold g_berth_tides at h
 refine Sound.of_runs (fu:=Try.f41) (c:=C_73 1) (nt:=12) (by kernel_rfl) (by kernel_rfl) (by kernel_rfl) (by kernel_rfl) (fun hm=>rfl) ?_
 intro E hE
 refine Runs.sA 1 [.code (C_73 2),.code (C_73 3)] ?_
 refine Runs.sR hE ⟨[(0,(encL TMark.cells TMark.d sea))],[],16⟩ (C_73 2) [] [] (kp [0]) [] 16 [] trivial ?_
 refine Runs.sA 2 [.code (C_73 12),.code (C_73 13),.code (C_73 7)] ?_
 obtain ⟨rCheckSea,hr,h⟩:=bindSome h
 refine Runs.sR hE ⟨[(0,(encL TMark.cells TMark.d sea)),(3,(aI rCheckSea))],[],64⟩ (C_73 12) [(1,⟨[],true,(aI rCheckSea),[],0,false,none⟩)] [] (kp [0,3]) [] 64 [Sound Try.prog 27 [(encL TMark.cells TMark.d sea)] [] 0 (aI rCheckSea) []] ⟨(g_water_CheckSea_ok N sea rCheckSea hr),trivial⟩ ?_
 refine Runs.sA 1 [.code (C_73 26),.code (C_73 27),.code (C_73 7)] ?_
 refine Runs.sR hE ⟨[(0,(encL TMark.cells TMark.d sea)),(3,(aI rCheckSea)),(7,(aB (rCheckSea != 0)))],[],96⟩ (C_73 26) [] [] (kp [0,3,7]) [] 96 [] trivial ?_
 refine Runs.sC 7 (C_73 54) (C_73 55) (rCheckSea != 0) (fun hq2=>?_) (fun hq2=>?_)
 ·have h:=condT h hq2
  refine Runs.sA 1 [.code (C_73 108),.code (C_73 109),.code (C_73 7)] ?_
  refine Runs.sR hE ⟨[(2,(aI rCheckSea))],[],128⟩ (C_73 108) [] [] (kp [2]) [] 128 [] trivial ?_
  obtain rfl:=Option.some.inj h
  refine Runs.sW hE ⟨[(2,(aI rCheckSea))],[],128⟩ [] (kp [2]) [] 128 [] trivial ?_
  exact Runs.sT Try.f41 [] [] trivial
 ·have h:=condF h hq2
  refine Runs.sA 3 [.code (C_73 28),.code (C_73 29),.code (C_73 15)] ?_
  refine Runs.sR hE ⟨[(11,(aB (((sea.length:Nat):Int) == 0)))],[],144⟩ (C_73 28) [] [] (kp [11]) [] 144 [] trivial ?_
  refine Runs.sC 11 (C_73 58) (C_73 59) (((sea.length:Nat):Int) == 0) (fun hq3=>?_) (fun hq3=>?_)
  ·have h:=condT h hq3
   refine Runs.sA 1 [.code (C_73 116),.code (C_73 117),.code (C_73 15)] ?_
   refine Runs.sR hE ⟨[(2,(aI 29))],[],160⟩ (C_73 116) [] [] (kp [2]) [] 160 [] trivial ?_
   obtain rfl:=Option.some.inj h
   refine Runs.sW hE ⟨[(2,(aI 29))],[],160⟩ [] (kp [2]) [] 160 [] trivial ?_
   exact Runs.sT Try.f41 [] [] trivial
  ·have h:=condF h hq3
   refine Runs.sA 2 [.code (C_73 30),.code (C_73 31)] ?_
   refine Runs.sR hE ⟨[(2,(aI 0))],[],160⟩ (C_73 30) [] [] (kp [2]) [] 160 [] trivial ?_
   obtain rfl:=Option.some.inj h
   refine Runs.sW hE ⟨[(2,(aI 0))],[],160⟩ [] (kp [2]) [] 160 [] trivial ?_
   exact Runs.sT Try.f41 [] [] trivial
noncomputable def C_74 (n:Nat):Code:=cat (bodyOf Try.f42) (pth n)
theorem g_berth_passages_ok (N:Nat) (d:TDock) (c:TCall) (sea:List TMark) (r:(List TS__2_int)) (h:g_berth_passages N d c sea=some r):Sound Try.prog 42 [(.agg (TDock.cells d)),(.agg (TCall.cells c)),(encL TMark.cells TMark.d sea)] [] 0 (encL TS__2_int.cells TS__2_int.d r) []:=by
 unfold g_berth_passages at h
 refine Sound.of_runs (fu:=Try.f42) (c:=C_74 1) (nt:=34) (by kernel_rfl) (by kernel_rfl) (by kernel_rfl) (by kernel_rfl) (fun hm=>rfl) ?_
 intro E hE
 refine Runs.sA 1 [.code (C_74 2),.code (C_74 3)] ?_
 refine Runs.sR hE ⟨[(2,(encL TMark.cells TMark.d sea)),(3,(.op 0 0 0)),(4,(.op 16 0 0))],[(0,vO 6 (TDock.cells d)),(16,vO 9 (TCall.cells c))],48⟩ (C_74 2) [] [] (kp [2,3,4]) (kq [0,16]) 48 [] trivial ?_
 refine Runs.sA 1 [.code (C_74 6),.code (C_74 7)] ?_
 refine Runs.sR hE ⟨[(2,(encL TMark.cells TMark.d sea)),(7,(aI (w64 ((w64 (d.f_Sill+c.f_Draught))+c.f_Under))))],[],192⟩ (C_74 6) [] [] (kp [2,7]) [] 192 [0 < 1,0 < 1,0 < 1] ⟨o1,o1,o1,trivial⟩ ?_
 refine Runs.sA 2 [.code (C_74 28),.code (C_74 29),.code (C_74 15)] ?_
 refine Runs.sR hE ⟨[(2,(encL TMark.cells TMark.d sea)),(7,(aI (w64 ((w64 (d.f_Sill+c.f_Draught))+c.f_Under)))),(19,(aB (decide ((w64 ((w64 (d.f_Sill+c.f_Draught))+c.f_Under)) > 1000000))))],[],224⟩ (C_74 28) [] [] (kp [2,7,19]) [] 224 [] trivial ?_
 refine Runs.sC 19 (C_74 58) (C_74 59) (decide ((w64 ((w64 (d.f_Sill+c.f_Draught))+c.f_Under)) > 1000000)) (fun hq2=>?_) (fun hq2=>?_)
 ·have h:=condT h hq2
  refine Runs.sA 1 [.code (C_74 116),.code (C_74 117),.code (C_74 15)] ?_
  refine Runs.sR hE ⟨[(6,.nil)],[],240⟩ (C_74 116) [] [] (kp [6]) [] 240 [] trivial ?_
  obtain rfl:=Option.some.inj h
  refine Runs.sW hE ⟨[(6,(encL TS__2_int.cells TS__2_int.d ([]:List TS__2_int)))],[],240⟩ [] [(6,.sl (([]:List TS__2_int).length) (fun zi=>TS__2_int.cells (([]:List TS__2_int).getD zi TS__2_int.d)))] [] 240 [([]:List TS__2_int).length=0] ⟨rfl,trivial⟩ ?_
  exact Runs.sT Try.f42 [] [] trivial
 ·have h:=condF h hq2
  refine Runs.sA 2 [.code (C_74 30),.code (C_74 31)] ?_
  obtain ⟨c2,h⟩:=ifSome h
  obtain ⟨rAbove,hr,h⟩:=bindSome h
  refine Runs.sR hE ⟨[(8,(encL TS__2_int.cells TS__2_int.d rAbove.1))],[],464⟩ (C_74 30) [(9,⟨[],true,(.tup [(encL TS__2_int.cells TS__2_int.d rAbove.1),(aI rAbove.2)]),[],0,false,none⟩)] [] (kp [8]) [] 464 [0≤(w64 (((sea.length:Nat):Int) - 1))∧(w64 (((sea.length:Nat):Int) - 1)) < ((sea.length:Nat):Int),Sound Try.prog 7 [(encL TMark.cells TMark.d sea),(aI (w64 ((w64 (d.f_Sill+c.f_Draught))+c.f_Under))),(aI 0),(aI ((sea.getD ((w64 (((sea.length:Nat):Int) - 1)).toNat) TMark.d).f_Minute))] [] 0 (.tup [(encL TS__2_int.cells TS__2_int.d rAbove.1),(aI rAbove.2)]) []] ⟨c2,(g_water_Above_ok N sea (w64 ((w64 (d.f_Sill+c.f_Draught))+c.f_Under)) 0 ((sea.getD ((w64 (((sea.length:Nat):Int) - 1)).toNat) TMark.d).f_Minute) rAbove hr),trivial⟩ ?_
  refine Runs.sA 1 [.code (C_74 62),.code (C_74 63)] ?_
  refine Runs.sR hE ⟨[(6,(encL TS__2_int.cells TS__2_int.d rAbove.1))],[],496⟩ (C_74 62) [] [] (kp [6]) [] 496 [] trivial ?_
  obtain rfl:=Option.some.inj h
  refine Runs.sW hE ⟨[(6,(encL TS__2_int.cells TS__2_int.d rAbove.1))],[],496⟩ [] (kp [6]) [] 496 [] trivial ?_
  exact Runs.sT Try.f42 [] [] trivial
noncomputable def C_76 (n:Nat):Code:=cat (bodyOf Try.f43) (pth n)
theorem g_berth_days_J3_ok (N:Nat) (rpassages:(List TS__2_int)) (x:Int) (k:Int) (K_g_berth_days_L2:(List Int)→Int→Option ((List Int))) (K_g_berth_days_L1:(List Int)→Int→Option ((List Int)))
  (hK_g_berth_days_L2:∀ (out2:List Int) (k:Int) (r:(List Int)),K_g_berth_days_L2 out2 k=some r→∀ E,EnvOk E 0→Runs Try.prog E 43 68 (SPost E [] (encL cI 0 r)) [.code (C_76 29900),.inLoop (C_76 29900),.inBlock 2,.inBlock 1,.code (C_76 935),.inLoop (C_76 116),.inBlock 0,.code (C_76 15)] ⟨[(7,(.os 0 0 out2.length)),(9,(.op 1 0 0)),(10,(aI k)),(15,(encL TS__2_int.cells TS__2_int.d rpassages)),(16,(aI ((rpassages.length:Nat):Int))),(17,(aI x))],[(0,aO 1 cI 0 out2),(1,vO 2 (TS__2_int.cells (rpassages.getD ((x).toNat) TS__2_int.d)))],2⟩)
  (hK_g_berth_days_L1:∀ (out:List Int) (x:Int) (r:(List Int)),K_g_berth_days_L1 out x=some r→∀ E,EnvOk E 0→Runs Try.prog E 43 68 (SPost E [] (encL cI 0 r)) [.code (C_76 116),.inLoop (C_76 116),.inBlock 0,.code (C_76 15)] ⟨[(7,(.os 0 0 out.length)),(15,(encL TS__2_int.cells TS__2_int.d rpassages)),(16,(aI ((rpassages.length:Nat):Int))),(17,(aI x))],[(0,aO 1 cI 0 out)],1⟩) (out3:List Int) (r:(List Int)) (h:g_berth_days_J3 N rpassages x k K_g_berth_days_L2 K_g_berth_days_L1 out3=some r):∀ E,EnvOk E 0→Runs Try.prog E 43 68 (SPost E [] (encL cI 0 r)) [.code (C_76 119603),.inLoop (C_76 29900),.inBlock 2,.inBlock 1,.code (C_76 935),.inLoop (C_76 116),.inBlock 0,.code (C_76 15)] ⟨[(7,(.os 0 0 out3.length)),(9,(.op 1 0 0)),(10,(aI k)),(15,(encL TS__2_int.cells TS__2_int.d rpassages)),(16,(aI ((rpassages.length:Nat):Int))),(17,(aI x))],[(0,aO 1 cI 0 out3),(1,vO 2 (TS__2_int.cells (rpassages.getD ((x).toNat) TS__2_int.d)))],2⟩:=by
 intro E hE
 unfold g_berth_days_J3 at h
 refine Runs.sR hE ⟨[(7,(.os 0 0 out3.length)),(9,(.op 1 0 0)),(10,(aI (w64 (k+1)))),(15,(encL TS__2_int.cells TS__2_int.d rpassages)),(16,(aI ((rpassages.length:Nat):Int))),(17,(aI x))],[(0,aO 1 cI 0 out3),(1,vO 2 (TS__2_int.cells (rpassages.getD ((x).toNat) TS__2_int.d)))],50⟩ (C_76 119603) [] [] (kp [7,9,10,15,16,17]) (kq [0,1]) 50 [] trivial ?_
 refine Runs.sA 1 [.code (C_76 29900),.inLoop (C_76 29900),.inBlock 2,.inBlock 1,.code (C_76 935),.inLoop (C_76 116),.inBlock 0,.code (C_76 15)] ?_
 exact Runs.sW hE _ [] (kp [7,9,10,15,16,17]) (kq [0,1]) 2 [] trivial (hK_g_berth_days_L2 out3 (w64 (k+1)) _ h E hE)
theorem g_berth_days_L2_ok (N:Nat) (rpassages:(List TS__2_int)) (x:Int) (K_g_berth_days_L1:(List Int)→Int→Option ((List Int)))
  (hK_g_berth_days_L1:∀ (out:List Int) (x:Int) (r:(List Int)),K_g_berth_days_L1 out x=some r→∀ E,EnvOk E 0→Runs Try.prog E 43 68 (SPost E [] (encL cI 0 r)) [.code (C_76 116),.inLoop (C_76 116),.inBlock 0,.code (C_76 15)] ⟨[(7,(.os 0 0 out.length)),(15,(encL TS__2_int.cells TS__2_int.d rpassages)),(16,(aI ((rpassages.length:Nat):Int))),(17,(aI x))],[(0,aO 1 cI 0 out)],1⟩) (fuel:Nat):∀ (out2:List Int) (k:Int) (r:(List Int)),g_berth_days_L2 N rpassages x K_g_berth_days_L1 fuel out2 k=some r→∀ E,EnvOk E 0→Runs Try.prog E 43 68 (SPost E [] (encL cI 0 r)) [.code (C_76 29900),.inLoop (C_76 29900),.inBlock 2,.inBlock 1,.code (C_76 935),.inLoop (C_76 116),.inBlock 0,.code (C_76 15)] ⟨[(7,(.os 0 0 out2.length)),(9,(.op 1 0 0)),(10,(aI k)),(15,(encL TS__2_int.cells TS__2_int.d rpassages)),(16,(aI ((rpassages.length:Nat):Int))),(17,(aI x))],[(0,aO 1 cI 0 out2),(1,vO 2 (TS__2_int.cells (rpassages.getD ((x).toNat) TS__2_int.d)))],2⟩:=by
 induction fuel with
 | zero=>intro _ _ r h;rw [g_berth_days_L2.eq_1] at h;cases h
 | succ fuel ih =>
  intro out2 k r h E hE
  rw [g_berth_days_L2.eq_2] at h
  refine Runs.sA 2 [.code (C_76 119600),.code (C_76 119601),.code (C_76 59801),.inLoop (C_76 29900),.inBlock 2,.inBlock 1,.code (C_76 935),.inLoop (C_76 116),.inBlock 0,.code (C_76 15)] ?_
  refine Runs.sR hE ⟨[(7,(.os 0 0 out2.length)),(9,(.op 1 0 0)),(10,(aI k)),(15,(encL TS__2_int.cells TS__2_int.d rpassages)),(16,(aI ((rpassages.length:Nat):Int))),(17,(aI x)),(28,(aB (decide ((w64 (k * 1440))≤(rpassages.getD ((x).toNat) TS__2_int.d).e1))))],[(0,aO 1 cI 0 out2),(1,vO 2 (TS__2_int.cells (rpassages.getD ((x).toNat) TS__2_int.d)))],82⟩ (C_76 119600) [] [] (kp [7,9,10,15,16,17,28]) (kq [0,1]) 82 [0≤(1:Int)∧(1:Int) < ((2:Nat):Int),0 < 1] ⟨(by decide),o1,trivial⟩ ?_
  refine Runs.sC 28 (C_76 239202) (C_76 239203) (decide ((w64 (k * 1440))≤(rpassages.getD ((x).toNat) TS__2_int.d).e1)) (fun hq3=>?_) (fun hq3=>?_)
  ·have h:=condT h hq3
   refine Runs.sA 4 [.code (C_76 478408),.code (C_76 478409),.inBlock 3,.code (C_76 119603),.inLoop (C_76 29900),.inBlock 2,.inBlock 1,.code (C_76 935),.inLoop (C_76 116),.inBlock 0,.code (C_76 15)] ?_
   refine Runs.sR hE ⟨[(7,(.os 0 0 out2.length)),(9,(.op 1 0 0)),(10,(aI k)),(11,(aI (w64 ((w64 ((if (w64 ((w64 ((w64 (k * 1440))+1440)) - 1)) < (rpassages.getD ((x).toNat) TS__2_int.d).e1 then (w64 ((w64 ((w64 (k * 1440))+1440)) - 1)) else (rpassages.getD ((x).toNat) TS__2_int.d).e1) - (if (w64 (k * 1440)) > (rpassages.getD ((x).toNat) TS__2_int.d).e0 then (w64 (k * 1440)) else (rpassages.getD ((x).toNat) TS__2_int.d).e0)))+1)))),(15,(encL TS__2_int.cells TS__2_int.d rpassages)),(16,(aI ((rpassages.length:Nat):Int))),(17,(aI x))],[(0,aO 1 cI 0 out2),(1,vO 2 (TS__2_int.cells (rpassages.getD ((x).toNat) TS__2_int.d)))],322⟩ (C_76 478408) [] [] (kp [7,9,10,11,15,16,17]) (kq [0,1]) 322 [0≤(1:Int)∧(1:Int) < ((2:Nat):Int),0 < 1,0≤(0:Int)∧(0:Int) < ((2:Nat):Int),0 < 1] ⟨(by decide),o1,(by decide),o1,trivial⟩ ?_
   refine Runs.sA 1 [.code (C_76 956818),.code (C_76 956819),.inBlock 3,.code (C_76 119603),.inLoop (C_76 29900),.inBlock 2,.inBlock 1,.code (C_76 935),.inLoop (C_76 116),.inBlock 0,.code (C_76 15)] ?_
   obtain ⟨c3,h⟩:=ifSome h
   refine Runs.sR hE ⟨[(7,(.os 0 0 out2.length)),(9,(.op 1 0 0)),(10,(aI k)),(15,(encL TS__2_int.cells TS__2_int.d rpassages)),(16,(aI ((rpassages.length:Nat):Int))),(17,(aI x)),(61,(aB (cond (decide ((w64 ((w64 ((if (w64 ((w64 ((w64 (k * 1440))+1440)) - 1)) < (rpassages.getD ((x).toNat) TS__2_int.d).e1 then (w64 ((w64 ((w64 (k * 1440))+1440)) - 1)) else (rpassages.getD ((x).toNat) TS__2_int.d).e1) - (if (w64 (k * 1440)) > (rpassages.getD ((x).toNat) TS__2_int.d).e0 then (w64 (k * 1440)) else (rpassages.getD ((x).toNat) TS__2_int.d).e0)))+1))≥30)) (cond (((out2.length:Nat):Int) == 0) true (decide ((out2.getD ((w64 (((out2.length:Nat):Int) - 1)).toNat) 0) < k))) false)))],[(0,aO 1 cI 0 out2),(1,vO 2 (TS__2_int.cells (rpassages.getD ((x).toNat) TS__2_int.d)))],594⟩ (C_76 956818) [] [] (kp [7,9,10,15,16,17,61]) (kq [0,1]) 594 [(decide ((w64 ((w64 ((if (w64 ((w64 ((w64 (k * 1440))+1440)) - 1)) < (rpassages.getD ((x).toNat) TS__2_int.d).e1 then (w64 ((w64 ((w64 (k * 1440))+1440)) - 1)) else (rpassages.getD ((x).toNat) TS__2_int.d).e1) - (if (w64 (k * 1440)) > (rpassages.getD ((x).toNat) TS__2_int.d).e0 then (w64 (k * 1440)) else (rpassages.getD ((x).toNat) TS__2_int.d).e0)))+1))≥30))=true→AllP [(decide ((w64 ((w64 ((if (w64 ((w64 ((w64 (k * 1440))+1440)) - 1)) < (rpassages.getD ((x).toNat) TS__2_int.d).e1 then (w64 ((w64 ((w64 (k * 1440))+1440)) - 1)) else (rpassages.getD ((x).toNat) TS__2_int.d).e1) - (if (w64 (k * 1440)) > (rpassages.getD ((x).toNat) TS__2_int.d).e0 then (w64 (k * 1440)) else (rpassages.getD ((x).toNat) TS__2_int.d).e0)))+1))≥30))=true],(decide ((w64 ((w64 ((if (w64 ((w64 ((w64 (k * 1440))+1440)) - 1)) < (rpassages.getD ((x).toNat) TS__2_int.d).e1 then (w64 ((w64 ((w64 (k * 1440))+1440)) - 1)) else (rpassages.getD ((x).toNat) TS__2_int.d).e1) - (if (w64 (k * 1440)) > (rpassages.getD ((x).toNat) TS__2_int.d).e0 then (w64 (k * 1440)) else (rpassages.getD ((x).toNat) TS__2_int.d).e0)))+1))≥30))=true→AllP [(decide ((w64 ((w64 ((if (w64 ((w64 ((w64 (k * 1440))+1440)) - 1)) < (rpassages.getD ((x).toNat) TS__2_int.d).e1 then (w64 ((w64 ((w64 (k * 1440))+1440)) - 1)) else (rpassages.getD ((x).toNat) TS__2_int.d).e1) - (if (w64 (k * 1440)) > (rpassages.getD ((x).toNat) TS__2_int.d).e0 then (w64 (k * 1440)) else (rpassages.getD ((x).toNat) TS__2_int.d).e0)))+1))≥30))=true],((decide ((w64 ((w64 ((if (w64 ((w64 ((w64 (k * 1440))+1440)) - 1)) < (rpassages.getD ((x).toNat) TS__2_int.d).e1 then (w64 ((w64 ((w64 (k * 1440))+1440)) - 1)) else (rpassages.getD ((x).toNat) TS__2_int.d).e1) - (if (w64 (k * 1440)) > (rpassages.getD ((x).toNat) TS__2_int.d).e0 then (w64 (k * 1440)) else (rpassages.getD ((x).toNat) TS__2_int.d).e0)))+1))≥30)) && ((decide ((w64 ((w64 ((if (w64 ((w64 ((w64 (k * 1440))+1440)) - 1)) < (rpassages.getD ((x).toNat) TS__2_int.d).e1 then (w64 ((w64 ((w64 (k * 1440))+1440)) - 1)) else (rpassages.getD ((x).toNat) TS__2_int.d).e1) - (if (w64 (k * 1440)) > (rpassages.getD ((x).toNat) TS__2_int.d).e0 then (w64 (k * 1440)) else (rpassages.getD ((x).toNat) TS__2_int.d).e0)))+1))≥30)) && (!(((out2.length:Nat):Int) == 0))))=true→AllP [((decide ((w64 ((w64 ((if (w64 ((w64 ((w64 (k * 1440))+1440)) - 1)) < (rpassages.getD ((x).toNat) TS__2_int.d).e1 then (w64 ((w64 ((w64 (k * 1440))+1440)) - 1)) else (rpassages.getD ((x).toNat) TS__2_int.d).e1) - (if (w64 (k * 1440)) > (rpassages.getD ((x).toNat) TS__2_int.d).e0 then (w64 (k * 1440)) else (rpassages.getD ((x).toNat) TS__2_int.d).e0)))+1))≥30)) && ((decide ((w64 ((w64 ((if (w64 ((w64 ((w64 (k * 1440))+1440)) - 1)) < (rpassages.getD ((x).toNat) TS__2_int.d).e1 then (w64 ((w64 ((w64 (k * 1440))+1440)) - 1)) else (rpassages.getD ((x).toNat) TS__2_int.d).e1) - (if (w64 (k * 1440)) > (rpassages.getD ((x).toNat) TS__2_int.d).e0 then (w64 (k * 1440)) else (rpassages.getD ((x).toNat) TS__2_int.d).e0)))+1))≥30)) && (!(((out2.length:Nat):Int) == 0))))=true],((decide ((w64 ((w64 ((if (w64 ((w64 ((w64 (k * 1440))+1440)) - 1)) < (rpassages.getD ((x).toNat) TS__2_int.d).e1 then (w64 ((w64 ((w64 (k * 1440))+1440)) - 1)) else (rpassages.getD ((x).toNat) TS__2_int.d).e1) - (if (w64 (k * 1440)) > (rpassages.getD ((x).toNat) TS__2_int.d).e0 then (w64 (k * 1440)) else (rpassages.getD ((x).toNat) TS__2_int.d).e0)))+1))≥30)) && ((decide ((w64 ((w64 ((if (w64 ((w64 ((w64 (k * 1440))+1440)) - 1)) < (rpassages.getD ((x).toNat) TS__2_int.d).e1 then (w64 ((w64 ((w64 (k * 1440))+1440)) - 1)) else (rpassages.getD ((x).toNat) TS__2_int.d).e1) - (if (w64 (k * 1440)) > (rpassages.getD ((x).toNat) TS__2_int.d).e0 then (w64 (k * 1440)) else (rpassages.getD ((x).toNat) TS__2_int.d).e0)))+1))≥30)) && (!(((out2.length:Nat):Int) == 0))))=true→AllP [((decide ((w64 ((w64 ((if (w64 ((w64 ((w64 (k * 1440))+1440)) - 1)) < (rpassages.getD ((x).toNat) TS__2_int.d).e1 then (w64 ((w64 ((w64 (k * 1440))+1440)) - 1)) else (rpassages.getD ((x).toNat) TS__2_int.d).e1) - (if (w64 (k * 1440)) > (rpassages.getD ((x).toNat) TS__2_int.d).e0 then (w64 (k * 1440)) else (rpassages.getD ((x).toNat) TS__2_int.d).e0)))+1))≥30)) && ((decide ((w64 ((w64 ((if (w64 ((w64 ((w64 (k * 1440))+1440)) - 1)) < (rpassages.getD ((x).toNat) TS__2_int.d).e1 then (w64 ((w64 ((w64 (k * 1440))+1440)) - 1)) else (rpassages.getD ((x).toNat) TS__2_int.d).e1) - (if (w64 (k * 1440)) > (rpassages.getD ((x).toNat) TS__2_int.d).e0 then (w64 (k * 1440)) else (rpassages.getD ((x).toNat) TS__2_int.d).e0)))+1))≥30)) && (!(((out2.length:Nat):Int) == 0))))=true],((decide ((w64 ((w64 ((if (w64 ((w64 ((w64 (k * 1440))+1440)) - 1)) < (rpassages.getD ((x).toNat) TS__2_int.d).e1 then (w64 ((w64 ((w64 (k * 1440))+1440)) - 1)) else (rpassages.getD ((x).toNat) TS__2_int.d).e1) - (if (w64 (k * 1440)) > (rpassages.getD ((x).toNat) TS__2_int.d).e0 then (w64 (k * 1440)) else (rpassages.getD ((x).toNat) TS__2_int.d).e0)))+1))≥30)) && ((decide ((w64 ((w64 ((if (w64 ((w64 ((w64 (k * 1440))+1440)) - 1)) < (rpassages.getD ((x).toNat) TS__2_int.d).e1 then (w64 ((w64 ((w64 (k * 1440))+1440)) - 1)) else (rpassages.getD ((x).toNat) TS__2_int.d).e1) - (if (w64 (k * 1440)) > (rpassages.getD ((x).toNat) TS__2_int.d).e0 then (w64 (k * 1440)) else (rpassages.getD ((x).toNat) TS__2_int.d).e0)))+1))≥30)) && (!(((out2.length:Nat):Int) == 0))))=true→AllP [((decide ((w64 ((w64 ((if (w64 ((w64 ((w64 (k * 1440))+1440)) - 1)) < (rpassages.getD ((x).toNat) TS__2_int.d).e1 then (w64 ((w64 ((w64 (k * 1440))+1440)) - 1)) else (rpassages.getD ((x).toNat) TS__2_int.d).e1) - (if (w64 (k * 1440)) > (rpassages.getD ((x).toNat) TS__2_int.d).e0 then (w64 (k * 1440)) else (rpassages.getD ((x).toNat) TS__2_int.d).e0)))+1))≥30)) && ((decide ((w64 ((w64 ((if (w64 ((w64 ((w64 (k * 1440))+1440)) - 1)) < (rpassages.getD ((x).toNat) TS__2_int.d).e1 then (w64 ((w64 ((w64 (k * 1440))+1440)) - 1)) else (rpassages.getD ((x).toNat) TS__2_int.d).e1) - (if (w64 (k * 1440)) > (rpassages.getD ((x).toNat) TS__2_int.d).e0 then (w64 (k * 1440)) else (rpassages.getD ((x).toNat) TS__2_int.d).e0)))+1))≥30)) && (!(((out2.length:Nat):Int) == 0))))=true,((decide ((w64 ((w64 ((if (w64 ((w64 ((w64 (k * 1440))+1440)) - 1)) < (rpassages.getD ((x).toNat) TS__2_int.d).e1 then (w64 ((w64 ((w64 (k * 1440))+1440)) - 1)) else (rpassages.getD ((x).toNat) TS__2_int.d).e1) - (if (w64 (k * 1440)) > (rpassages.getD ((x).toNat) TS__2_int.d).e0 then (w64 (k * 1440)) else (rpassages.getD ((x).toNat) TS__2_int.d).e0)))+1))≥30)) && ((decide ((w64 ((w64 ((if (w64 ((w64 ((w64 (k * 1440))+1440)) - 1)) < (rpassages.getD ((x).toNat) TS__2_int.d).e1 then (w64 ((w64 ((w64 (k * 1440))+1440)) - 1)) else (rpassages.getD ((x).toNat) TS__2_int.d).e1) - (if (w64 (k * 1440)) > (rpassages.getD ((x).toNat) TS__2_int.d).e0 then (w64 (k * 1440)) else (rpassages.getD ((x).toNat) TS__2_int.d).e0)))+1))≥30)) && (!(((out2.length:Nat):Int) == 0))))=true,0≤(w64 (((out2.length:Nat):Int) - 1))∧(w64 (((out2.length:Nat):Int) - 1)) < ((out2.length:Nat):Int)],((decide ((w64 ((w64 ((if (w64 ((w64 ((w64 (k * 1440))+1440)) - 1)) < (rpassages.getD ((x).toNat) TS__2_int.d).e1 then (w64 ((w64 ((w64 (k * 1440))+1440)) - 1)) else (rpassages.getD ((x).toNat) TS__2_int.d).e1) - (if (w64 (k * 1440)) > (rpassages.getD ((x).toNat) TS__2_int.d).e0 then (w64 (k * 1440)) else (rpassages.getD ((x).toNat) TS__2_int.d).e0)))+1))≥30)) && ((decide ((w64 ((w64 ((if (w64 ((w64 ((w64 (k * 1440))+1440)) - 1)) < (rpassages.getD ((x).toNat) TS__2_int.d).e1 then (w64 ((w64 ((w64 (k * 1440))+1440)) - 1)) else (rpassages.getD ((x).toNat) TS__2_int.d).e1) - (if (w64 (k * 1440)) > (rpassages.getD ((x).toNat) TS__2_int.d).e0 then (w64 (k * 1440)) else (rpassages.getD ((x).toNat) TS__2_int.d).e0)))+1))≥30)) && (!(((out2.length:Nat):Int) == 0))))=true→AllP [((decide ((w64 ((w64 ((if (w64 ((w64 ((w64 (k * 1440))+1440)) - 1)) < (rpassages.getD ((x).toNat) TS__2_int.d).e1 then (w64 ((w64 ((w64 (k * 1440))+1440)) - 1)) else (rpassages.getD ((x).toNat) TS__2_int.d).e1) - (if (w64 (k * 1440)) > (rpassages.getD ((x).toNat) TS__2_int.d).e0 then (w64 (k * 1440)) else (rpassages.getD ((x).toNat) TS__2_int.d).e0)))+1))≥30)) && ((decide ((w64 ((w64 ((if (w64 ((w64 ((w64 (k * 1440))+1440)) - 1)) < (rpassages.getD ((x).toNat) TS__2_int.d).e1 then (w64 ((w64 ((w64 (k * 1440))+1440)) - 1)) else (rpassages.getD ((x).toNat) TS__2_int.d).e1) - (if (w64 (k * 1440)) > (rpassages.getD ((x).toNat) TS__2_int.d).e0 then (w64 (k * 1440)) else (rpassages.getD ((x).toNat) TS__2_int.d).e0)))+1))≥30)) && (!(((out2.length:Nat):Int) == 0))))=true,(w64 (((out2.length:Nat):Int) - 1)).toNat < out2.length],((decide ((w64 ((w64 ((if (w64 ((w64 ((w64 (k * 1440))+1440)) - 1)) < (rpassages.getD ((x).toNat) TS__2_int.d).e1 then (w64 ((w64 ((w64 (k * 1440))+1440)) - 1)) else (rpassages.getD ((x).toNat) TS__2_int.d).e1) - (if (w64 (k * 1440)) > (rpassages.getD ((x).toNat) TS__2_int.d).e0 then (w64 (k * 1440)) else (rpassages.getD ((x).toNat) TS__2_int.d).e0)))+1))≥30)) && ((decide ((w64 ((w64 ((if (w64 ((w64 ((w64 (k * 1440))+1440)) - 1)) < (rpassages.getD ((x).toNat) TS__2_int.d).e1 then (w64 ((w64 ((w64 (k * 1440))+1440)) - 1)) else (rpassages.getD ((x).toNat) TS__2_int.d).e1) - (if (w64 (k * 1440)) > (rpassages.getD ((x).toNat) TS__2_int.d).e0 then (w64 (k * 1440)) else (rpassages.getD ((x).toNat) TS__2_int.d).e0)))+1))≥30)) && (!(((out2.length:Nat):Int) == 0))))=true→AllP [((decide ((w64 ((w64 ((if (w64 ((w64 ((w64 (k * 1440))+1440)) - 1)) < (rpassages.getD ((x).toNat) TS__2_int.d).e1 then (w64 ((w64 ((w64 (k * 1440))+1440)) - 1)) else (rpassages.getD ((x).toNat) TS__2_int.d).e1) - (if (w64 (k * 1440)) > (rpassages.getD ((x).toNat) TS__2_int.d).e0 then (w64 (k * 1440)) else (rpassages.getD ((x).toNat) TS__2_int.d).e0)))+1))≥30)) && ((decide ((w64 ((w64 ((if (w64 ((w64 ((w64 (k * 1440))+1440)) - 1)) < (rpassages.getD ((x).toNat) TS__2_int.d).e1 then (w64 ((w64 ((w64 (k * 1440))+1440)) - 1)) else (rpassages.getD ((x).toNat) TS__2_int.d).e1) - (if (w64 (k * 1440)) > (rpassages.getD ((x).toNat) TS__2_int.d).e0 then (w64 (k * 1440)) else (rpassages.getD ((x).toNat) TS__2_int.d).e0)))+1))≥30)) && (!(((out2.length:Nat):Int) == 0))))=true,((decide ((w64 ((w64 ((if (w64 ((w64 ((w64 (k * 1440))+1440)) - 1)) < (rpassages.getD ((x).toNat) TS__2_int.d).e1 then (w64 ((w64 ((w64 (k * 1440))+1440)) - 1)) else (rpassages.getD ((x).toNat) TS__2_int.d).e1) - (if (w64 (k * 1440)) > (rpassages.getD ((x).toNat) TS__2_int.d).e0 then (w64 (k * 1440)) else (rpassages.getD ((x).toNat) TS__2_int.d).e0)))+1))≥30)) && ((decide ((w64 ((w64 ((if (w64 ((w64 ((w64 (k * 1440))+1440)) - 1)) < (rpassages.getD ((x).toNat) TS__2_int.d).e1 then (w64 ((w64 ((w64 (k * 1440))+1440)) - 1)) else (rpassages.getD ((x).toNat) TS__2_int.d).e1) - (if (w64 (k * 1440)) > (rpassages.getD ((x).toNat) TS__2_int.d).e0 then (w64 (k * 1440)) else (rpassages.getD ((x).toNat) TS__2_int.d).e0)))+1))≥30)) && (!(((out2.length:Nat):Int) == 0))))=true],(decide ((w64 ((w64 ((if (w64 ((w64 ((w64 (k * 1440))+1440)) - 1)) < (rpassages.getD ((x).toNat) TS__2_int.d).e1 then (w64 ((w64 ((w64 (k * 1440))+1440)) - 1)) else (rpassages.getD ((x).toNat) TS__2_int.d).e1) - (if (w64 (k * 1440)) > (rpassages.getD ((x).toNat) TS__2_int.d).e0 then (w64 (k * 1440)) else (rpassages.getD ((x).toNat) TS__2_int.d).e0)))+1))≥30))=true→AllP [(decide ((w64 ((w64 ((if (w64 ((w64 ((w64 (k * 1440))+1440)) - 1)) < (rpassages.getD ((x).toNat) TS__2_int.d).e1 then (w64 ((w64 ((w64 (k * 1440))+1440)) - 1)) else (rpassages.getD ((x).toNat) TS__2_int.d).e1) - (if (w64 (k * 1440)) > (rpassages.getD ((x).toNat) TS__2_int.d).e0 then (w64 (k * 1440)) else (rpassages.getD ((x).toNat) TS__2_int.d).e0)))+1))≥30))=true,(decide ((w64 ((w64 ((if (w64 ((w64 ((w64 (k * 1440))+1440)) - 1)) < (rpassages.getD ((x).toNat) TS__2_int.d).e1 then (w64 ((w64 ((w64 (k * 1440))+1440)) - 1)) else (rpassages.getD ((x).toNat) TS__2_int.d).e1) - (if (w64 (k * 1440)) > (rpassages.getD ((x).toNat) TS__2_int.d).e0 then (w64 (k * 1440)) else (rpassages.getD ((x).toNat) TS__2_int.d).e0)))+1))≥30))=true,(!(((out2.length:Nat):Int) == 0))=true→AllP [((decide ((w64 ((w64 ((if (w64 ((w64 ((w64 (k * 1440))+1440)) - 1)) < (rpassages.getD ((x).toNat) TS__2_int.d).e1 then (w64 ((w64 ((w64 (k * 1440))+1440)) - 1)) else (rpassages.getD ((x).toNat) TS__2_int.d).e1) - (if (w64 (k * 1440)) > (rpassages.getD ((x).toNat) TS__2_int.d).e0 then (w64 (k * 1440)) else (rpassages.getD ((x).toNat) TS__2_int.d).e0)))+1))≥30)) && ((decide ((w64 ((w64 ((if (w64 ((w64 ((w64 (k * 1440))+1440)) - 1)) < (rpassages.getD ((x).toNat) TS__2_int.d).e1 then (w64 ((w64 ((w64 (k * 1440))+1440)) - 1)) else (rpassages.getD ((x).toNat) TS__2_int.d).e1) - (if (w64 (k * 1440)) > (rpassages.getD ((x).toNat) TS__2_int.d).e0 then (w64 (k * 1440)) else (rpassages.getD ((x).toNat) TS__2_int.d).e0)))+1))≥30)) && (!(((out2.length:Nat):Int) == 0))))=true]],(decide ((w64 ((w64 ((if (w64 ((w64 ((w64 (k * 1440))+1440)) - 1)) < (rpassages.getD ((x).toNat) TS__2_int.d).e1 then (w64 ((w64 ((w64 (k * 1440))+1440)) - 1)) else (rpassages.getD ((x).toNat) TS__2_int.d).e1) - (if (w64 (k * 1440)) > (rpassages.getD ((x).toNat) TS__2_int.d).e0 then (w64 (k * 1440)) else (rpassages.getD ((x).toNat) TS__2_int.d).e0)))+1))≥30))=true→AllP [(decide ((w64 ((w64 ((if (w64 ((w64 ((w64 (k * 1440))+1440)) - 1)) < (rpassages.getD ((x).toNat) TS__2_int.d).e1 then (w64 ((w64 ((w64 (k * 1440))+1440)) - 1)) else (rpassages.getD ((x).toNat) TS__2_int.d).e1) - (if (w64 (k * 1440)) > (rpassages.getD ((x).toNat) TS__2_int.d).e0 then (w64 (k * 1440)) else (rpassages.getD ((x).toNat) TS__2_int.d).e0)))+1))≥30))=true]] ⟨(fun hg=>⟨hg,trivial⟩),(fun hg=>⟨hg,trivial⟩),(fun hg=>⟨hg,trivial⟩),(fun hg=>⟨hg,trivial⟩),(fun hg=>⟨hg,hg,(c3 hg),trivial⟩),(fun hg=>⟨hg,(ltOf (c3 hg)),trivial⟩),(fun hg=>⟨hg,hg,trivial⟩),(fun hg=>⟨hg,hg,(fun hq=>⟨(andI' hg (andI' hg hq)),trivial⟩),trivial⟩),(fun hq=>⟨hq,trivial⟩),trivial⟩ ?_
   refine Runs.sC 61 (C_76 1913638) (C_76 1913639) (cond (decide ((w64 ((w64 ((if (w64 ((w64 ((w64 (k * 1440))+1440)) - 1)) < (rpassages.getD ((x).toNat) TS__2_int.d).e1 then (w64 ((w64 ((w64 (k * 1440))+1440)) - 1)) else (rpassages.getD ((x).toNat) TS__2_int.d).e1) - (if (w64 (k * 1440)) > (rpassages.getD ((x).toNat) TS__2_int.d).e0 then (w64 (k * 1440)) else (rpassages.getD ((x).toNat) TS__2_int.d).e0)))+1))≥30)) (cond (((out2.length:Nat):Int) == 0) true (decide ((out2.getD ((w64 (((out2.length:Nat):Int) - 1)).toNat) 0) < k))) false) (fun hq4=>?_) (fun hq4=>?_)
   ·have h:=condT h hq4
    obtain ⟨c4,h⟩:=ifSome h
    refine Runs.sR hE ⟨[(7,(.os 642 0 ((out2 ++ ([k]:List Int)).length))),(9,(.op 1 0 0)),(10,(aI k)),(15,(encL TS__2_int.cells TS__2_int.d rpassages)),(16,(aI ((rpassages.length:Nat):Int))),(17,(aI x))],[(1,vO 2 (TS__2_int.cells (rpassages.getD ((x).toNat) TS__2_int.d))),(642,aO 1 cI 0 (out2 ++ ([k]:List Int)))],674⟩ (C_76 1913638) [] [] ([(7,.osl ((out2 ++ ([k]:List Int)).length))] ++ kp [9,10,15,16,17]) (kq [1] ++ [(642,.arr 642 ((out2 ++ ([k]:List Int)).length) (fun zi=>cI ((out2 ++ ([k]:List Int)).getD zi 0)))]) 674 [out2.length=out2.length,(out2.length+1) * 8≤140737488355328,0+1≤1,∀ zi,zi < 1→AV.oneL ((fun zi=>([[(aI k)]]:List (List AV)).getD zi []) (addz 0 zi))=true,(out2.length+1)=(out2 ++ ([k]:List Int)).length,out2.length+1=(out2 ++ ([k]:List Int)).length,∀ zi,zi < (out2 ++ ([k]:List Int)).length→(fun zi=>cI ((out2 ++ ([k]:List Int)).getD zi 0)) zi=((fun zm=>if zm < out2.length then (fun zi=>cI (out2.getD zi 0)) zm else (fun zi=>([[(aI k)]]:List (List AV)).getD zi []) (zm - out2.length))) zi] ⟨rfl,c4,z0,(oneN rfl),(len_app_raw rfl rfl),(len_app_raw rfl rfl),(get_app_raw cI 0 out2 ([k]:List Int) rfl (fun _ _=>rfl) (fun zq hzq=>get_chunk cI 0 ([k]:List Int) zq hzq)),trivial⟩ ?_
    refine Runs.sA 1 [.code (C_76 119603),.inLoop (C_76 29900),.inBlock 2,.inBlock 1,.code (C_76 935),.inLoop (C_76 116),.inBlock 0,.code (C_76 15)] ?_
    exact Runs.sW hE _ [] (kp [7,9,10,15,16,17]) ([(0,.keep 642)] ++ kq [1]) 2 [] trivial (g_berth_days_J3_ok N rpassages x k (g_berth_days_L2 N rpassages x K_g_berth_days_L1 fuel) K_g_berth_days_L1 ih hK_g_berth_days_L1 (out2 ++ ([k]:List Int)) _ h E hE)
   ·have h:=condF h hq4
    refine Runs.sA 2 [.code (C_76 119603),.inLoop (C_76 29900),.inBlock 2,.inBlock 1,.code (C_76 935),.inLoop (C_76 116),.inBlock 0,.code (C_76 15)] ?_
    exact Runs.sW hE _ [] (kp [7,9,10,15,16,17]) (kq [0,1]) 2 [] trivial (g_berth_days_J3_ok N rpassages x k (g_berth_days_L2 N rpassages x K_g_berth_days_L1 fuel) K_g_berth_days_L1 ih hK_g_berth_days_L1 out2 _ h E hE)
  ·have h:=condF h hq3
   refine Runs.sA 2 [.code (C_76 935),.inLoop (C_76 116),.inBlock 0,.code (C_76 15)] ?_
   refine Runs.sR hE ⟨[(7,(.os 0 0 out2.length)),(15,(encL TS__2_int.cells TS__2_int.d rpassages)),(16,(aI ((rpassages.length:Nat):Int))),(17,(aI (w64 (x+1))))],[(0,aO 1 cI 0 out2)],114⟩ (C_76 935) [] [] (kp [7,15,16,17]) (kq [0]) 114 [] trivial ?_
   refine Runs.sA 1 [.code (C_76 116),.inLoop (C_76 116),.inBlock 0,.code (C_76 15)] ?_
   exact Runs.sW hE _ [] (kp [7,15,16,17]) (kq [0]) 1 [] trivial (hK_g_berth_days_L1 out2 (w64 (x+1)) _ h E hE)
theorem g_berth_days_L1_ok (N:Nat) (rpassages:(List TS__2_int)) (fuel:Nat):∀ (out:List Int) (x:Int) (r:(List Int)),g_berth_days_L1 N rpassages fuel out x=some r→∀ E,EnvOk E 0→Runs Try.prog E 43 68 (SPost E [] (encL cI 0 r)) [.code (C_76 116),.inLoop (C_76 116),.inBlock 0,.code (C_76 15)] ⟨[(7,(.os 0 0 out.length)),(15,(encL TS__2_int.cells TS__2_int.d rpassages)),(16,(aI ((rpassages.length:Nat):Int))),(17,(aI x))],[(0,aO 1 cI 0 out)],1⟩:=by
 induction fuel with
 | zero=>intro _ _ r h;rw [g_berth_days_L1.eq_1] at h;cases h
 | succ fuel ih =>
  intro out x r h E hE
  rw [g_berth_days_L1.eq_2] at h
  refine Runs.sA 1 [.code (C_76 232),.code (C_76 233),.inLoop (C_76 116),.inBlock 0,.code (C_76 15)] ?_
  refine Runs.sR hE ⟨[(7,(.os 0 0 out.length)),(15,(encL TS__2_int.cells TS__2_int.d rpassages)),(16,(aI ((rpassages.length:Nat):Int))),(17,(aI x)),(18,(aB (decide (x < ((rpassages.length:Nat):Int)))))],[(0,aO 1 cI 0 out)],17⟩ (C_76 232) [] [] (kp [7,15,16,17,18]) (kq [0]) 17 [] trivial ?_
  refine Runs.sA 1 [.code (C_76 466),.code (C_76 467),.inLoop (C_76 116),.inBlock 0,.code (C_76 15)] ?_
  refine Runs.sC 18 (C_76 932) (C_76 933) (decide (x < ((rpassages.length:Nat):Int))) (fun hq2=>?_) (fun hq2=>?_)
  ·have h:=condT h hq2
   refine Runs.sA 4 [.code (C_76 3736),.code (C_76 3737),.inBlock 1,.code (C_76 935),.inLoop (C_76 116),.inBlock 0,.code (C_76 15)] ?_
   obtain ⟨c2,h⟩:=ifSome h
   refine Runs.sR hE ⟨[(7,(.os 0 0 out.length)),(9,(.op 49 0 0)),(15,(encL TS__2_int.cells TS__2_int.d rpassages)),(16,(aI ((rpassages.length:Nat):Int))),(17,(aI x))],[(0,aO 1 cI 0 out),(49,vO 2 (TS__2_int.cells (rpassages.getD ((x).toNat) TS__2_int.d)))],81⟩ (C_76 3736) [] [] (kp [7,9,15,16,17]) (kq [0,49]) 81 [0≤x∧x < ((rpassages.length:Nat):Int),0 < 1] ⟨c2,o1,trivial⟩ ?_
   refine Runs.sA 1 [.code (C_76 7474),.code (C_76 7475),.inBlock 1,.code (C_76 935),.inLoop (C_76 116),.inBlock 0,.code (C_76 15)] ?_
   refine Runs.sR hE ⟨[(7,(.os 0 0 out.length)),(9,(.op 49 0 0)),(10,(aI (w64 (((rpassages.getD ((x).toNat) TS__2_int.d).e0).tdiv 1440)))),(15,(encL TS__2_int.cells TS__2_int.d rpassages)),(16,(aI ((rpassages.length:Nat):Int))),(17,(aI x))],[(0,aO 1 cI 0 out),(49,vO 2 (TS__2_int.cells (rpassages.getD ((x).toNat) TS__2_int.d)))],145⟩ (C_76 7474) [] [] (kp [7,9,10,15,16,17]) (kq [0,49]) 145 [0≤(0:Int)∧(0:Int) < ((2:Nat):Int),0 < 1,(1440:Int)≠0] ⟨(by decide),o1,(by decide),trivial⟩ ?_
   refine Runs.sA 2 [.code (C_76 29900),.inLoop (C_76 29900),.inBlock 2,.inBlock 1,.code (C_76 935),.inLoop (C_76 116),.inBlock 0,.code (C_76 15)] ?_
   exact Runs.sW hE _ [] (kp [7,9,10,15,16,17]) (kq [0] ++ [(1,.keep 49)]) 2 [] trivial (g_berth_days_L2_ok N rpassages x (g_berth_days_L1 N rpassages fuel) ih N out (w64 (((rpassages.getD ((x).toNat) TS__2_int.d).e0).tdiv 1440)) _ h E hE)
  ·have h:=condF h hq2
   refine Runs.sA 2 [.code (C_76 30),.code (C_76 31)] ?_
   refine Runs.sR hE ⟨[(6,(.os 0 0 out.length))],[(0,aO 1 cI 0 out)],49⟩ (C_76 30) [] [] (kp [6]) (kq [0]) 49 [] trivial ?_
   obtain rfl:=Option.some.inj h
   refine Runs.sW hE ⟨[(6,(encL cI 0 out))],[],49⟩ [0] [(6,.sl (out.length) (fun zi=>cI (out.getD zi 0)))] [] 49 [out.length=out.length,0+out.length≤out.length,∀ zi,zi < out.length→(fun zi=>cI (out.getD zi 0)) zi=(fun zi=>cI (out.getD zi 0)) (addz 0 zi)] ⟨rfl,z0,(fun _ _=>rfl),trivial⟩ ?_
   exact Runs.sT Try.f43 [] [] trivial
theorem g_berth_days_ok (N:Nat) (d:TDock) (c:TCall) (sea:List TMark) (r:(List Int)) (h:g_berth_days N d c sea=some r):Sound Try.prog 43 [(.agg (TDock.cells d)),(.agg (TCall.cells c)),(encL TMark.cells TMark.d sea)] [] 0 (encL cI 0 r) []:=by
 unfold g_berth_days at h
 refine Sound.of_runs (fu:=Try.f43) (c:=C_76 1) (nt:=68) (by kernel_rfl) (by kernel_rfl) (by kernel_rfl) (by kernel_rfl) (fun hm=>rfl) ?_
 intro E hE
 refine Runs.sA 1 [.code (C_76 2),.code (C_76 3)] ?_
 refine Runs.sR hE ⟨[(2,(encL TMark.cells TMark.d sea)),(3,(.op 0 0 0)),(4,(.op 16 0 0))],[(0,vO 6 (TDock.cells d)),(16,vO 9 (TCall.cells c))],48⟩ (C_76 2) [] [] (kp [2,3,4]) (kq [0,16]) 48 [] trivial ?_
 refine Runs.sA 1 [.code (C_76 6),.code (C_76 7)] ?_
 refine Runs.sR hE ⟨[(2,(encL TMark.cells TMark.d sea)),(3,(.op 0 0 0)),(4,(.op 16 0 0)),(7,.nil)],[(0,vO 6 (TDock.cells d)),(16,vO 9 (TCall.cells c))],64⟩ (C_76 6) [] [] (kp [2,3,4,7]) (kq [0,16]) 64 [] trivial ?_
 refine Runs.sA 2 [.code (C_76 28),.code (C_76 29),.code (C_76 15)] ?_
 obtain ⟨rpassages,hr,h⟩:=bindSome h
 refine Runs.sR hE ⟨[(7,.nil),(15,(encL TS__2_int.cells TS__2_int.d rpassages)),(16,(aI ((rpassages.length:Nat):Int))),(17,(aI 0))],[],160⟩ (C_76 28) [(3,⟨[],true,(encL TS__2_int.cells TS__2_int.d rpassages),[],0,false,none⟩)] [] (kp [7,15,16,17]) [] 160 [0 < 1,0 < 1,Sound Try.prog 42 [(.agg (TDock.cells d)),(.agg (TCall.cells c)),(encL TMark.cells TMark.d sea)] [] 0 (encL TS__2_int.cells TS__2_int.d rpassages) []] ⟨o1,o1,(g_berth_passages_ok N d c sea rpassages hr),trivial⟩ ?_
 refine Runs.sA 2 [.code (C_76 116),.inLoop (C_76 116),.inBlock 0,.code (C_76 15)] ?_
 exact Runs.sW hE _ [] ([(7,.nilos 0)] ++ kp [15,16,17]) [(0,.nil 1 (fun zi=>cI (([]:List Int).getD zi 0)))] 1 [] trivial (g_berth_days_L1_ok N rpassages N ([]:List Int) 0 _ h E hE)
noncomputable def C_80 (n:Nat):Code:=cat (bodyOf Try.f101) (pth n)
theorem g_b_IsName_L1_ok (N:Nat) (s:ByteArray) (fuel:Nat):∀ (i:Int) (r:Bool),g_b_IsName_L1 N s fuel i=some r→∀ E,EnvOk E 0→Runs Try.prog E 101 55 (SPost E [] (aB r)) [.code (C_80 116),.inLoop (C_80 116),.inBlock 0,.code (C_80 15)] ⟨[(0,(aS s)),(3,(aI i))],[],0⟩:=by
 induction fuel with
 | zero=>intro _ r h;rw [g_b_IsName_L1.eq_1] at h;cases h
 | succ fuel ih =>
  intro i r h E hE
  rw [g_b_IsName_L1.eq_2] at h
  refine Runs.sA 2 [.code (C_80 464),.code (C_80 465),.code (C_80 233),.inLoop (C_80 116),.inBlock 0,.code (C_80 15)] ?_
  refine Runs.sR hE ⟨[(0,(aS s)),(3,(aI i)),(17,(aB (decide (i < ((s.size:Nat):Int)))))],[],64⟩ (C_80 464) [] [] (kp [0,3,17]) [] 64 [] trivial ?_
  refine Runs.sC 17 (C_80 930) (C_80 931) (decide (i < ((s.size:Nat):Int))) (fun hq3=>?_) (fun hq3=>?_)
  ·have h:=condT h hq3
   refine Runs.sA 4 [.code (C_80 1864),.code (C_80 1865),.inBlock 1,.code (C_80 467),.inLoop (C_80 116),.inBlock 0,.code (C_80 15)] ?_
   obtain ⟨c,h⟩:=ifSome h
   refine Runs.sR hE ⟨[(0,(aS s)),(3,(aI i)),(4,(.atom (.int .u8 (byteAt s ((i).toNat)))))],[],128⟩ (C_80 1864) [] [] (kp [0,3,4]) [] 128 [0≤i∧i < ((s.size:Nat):Int)] ⟨c,trivial⟩ ?_
   refine Runs.sA 1 [.code (C_80 3730),.code (C_80 3731),.inBlock 1,.code (C_80 467),.inLoop (C_80 116),.inBlock 0,.code (C_80 15)] ?_
   refine Runs.sR hE ⟨[(0,(aS s)),(3,(aI i)),(4,(.atom (.int .u8 (byteAt s ((i).toNat))))),(5,(aB (cond (cond (decide ((byteAt s ((i).toNat))≥97)) (decide ((byteAt s ((i).toNat))≤122)) false) true (cond (decide ((byteAt s ((i).toNat))≥65)) (decide ((byteAt s ((i).toNat))≤90)) false))))],[],368⟩ (C_80 3730) [] [] (kp [0,3,4,5]) [] 368 [(decide ((byteAt s ((i).toNat))≥97))=true→AllP [(decide ((byteAt s ((i).toNat))≥97))=true],(decide ((byteAt s ((i).toNat))≥97))=true→AllP [(decide ((byteAt s ((i).toNat))≥97))=true],(!(cond (decide ((byteAt s ((i).toNat))≥97)) (decide ((byteAt s ((i).toNat))≤122)) false))=true→AllP [(!(cond (decide ((byteAt s ((i).toNat))≥97)) (decide ((byteAt s ((i).toNat))≤122)) false))=true],((!(cond (decide ((byteAt s ((i).toNat))≥97)) (decide ((byteAt s ((i).toNat))≤122)) false)) && ((!(cond (decide ((byteAt s ((i).toNat))≥97)) (decide ((byteAt s ((i).toNat))≤122)) false)) && (decide ((byteAt s ((i).toNat))≥65))))=true→AllP [((!(cond (decide ((byteAt s ((i).toNat))≥97)) (decide ((byteAt s ((i).toNat))≤122)) false)) && ((!(cond (decide ((byteAt s ((i).toNat))≥97)) (decide ((byteAt s ((i).toNat))≤122)) false)) && (decide ((byteAt s ((i).toNat))≥65))))=true],(!(cond (decide ((byteAt s ((i).toNat))≥97)) (decide ((byteAt s ((i).toNat))≤122)) false))=true→AllP [(!(cond (decide ((byteAt s ((i).toNat))≥97)) (decide ((byteAt s ((i).toNat))≤122)) false))=true,(!(cond (decide ((byteAt s ((i).toNat))≥97)) (decide ((byteAt s ((i).toNat))≤122)) false))=true,(decide ((byteAt s ((i).toNat))≥65))=true→AllP [((!(cond (decide ((byteAt s ((i).toNat))≥97)) (decide ((byteAt s ((i).toNat))≤122)) false)) && ((!(cond (decide ((byteAt s ((i).toNat))≥97)) (decide ((byteAt s ((i).toNat))≤122)) false)) && (decide ((byteAt s ((i).toNat))≥65))))=true]],(!(cond (decide ((byteAt s ((i).toNat))≥97)) (decide ((byteAt s ((i).toNat))≤122)) false))=true→AllP [(!(cond (decide ((byteAt s ((i).toNat))≥97)) (decide ((byteAt s ((i).toNat))≤122)) false))=true]] ⟨(fun hg=>⟨hg,trivial⟩),(fun hq=>⟨hq,trivial⟩),(fun hg=>⟨hg,trivial⟩),(fun hg=>⟨hg,trivial⟩),(fun hg=>⟨hg,hg,(fun hq=>⟨(andI' hg (andI' hg hq)),trivial⟩),trivial⟩),(fun hq=>⟨hq,trivial⟩),trivial⟩ ?_
   refine Runs.sA 1 [.code (C_80 7462),.code (C_80 7463),.inBlock 1,.code (C_80 467),.inLoop (C_80 116),.inBlock 0,.code (C_80 15)] ?_
   refine Runs.sR hE ⟨[(0,(aS s)),(3,(aI i)),(54,(aB (cond (!(cond (cond (decide ((byteAt s ((i).toNat))≥97)) (decide ((byteAt s ((i).toNat))≤122)) false) true (cond (decide ((byteAt s ((i).toNat))≥65)) (decide ((byteAt s ((i).toNat))≤90)) false))) (cond (i == 0) true (cond ((byteAt s ((i).toNat)) != 45) (cond (decide ((byteAt s ((i).toNat)) < 48)) true (decide ((byteAt s ((i).toNat)) > 57))) false)) false)))],[],656⟩ (C_80 7462) [] [] (kp [0,3,54]) [] 656 [(!(cond (cond (decide ((byteAt s ((i).toNat))≥97)) (decide ((byteAt s ((i).toNat))≤122)) false) true (cond (decide ((byteAt s ((i).toNat))≥65)) (decide ((byteAt s ((i).toNat))≤90)) false)))=true→AllP [(!(cond (cond (decide ((byteAt s ((i).toNat))≥97)) (decide ((byteAt s ((i).toNat))≤122)) false) true (cond (decide ((byteAt s ((i).toNat))≥65)) (decide ((byteAt s ((i).toNat))≤90)) false)))=true],((!(cond (cond (decide ((byteAt s ((i).toNat))≥97)) (decide ((byteAt s ((i).toNat))≤122)) false) true (cond (decide ((byteAt s ((i).toNat))≥65)) (decide ((byteAt s ((i).toNat))≤90)) false))) && ((!(cond (cond (decide ((byteAt s ((i).toNat))≥97)) (decide ((byteAt s ((i).toNat))≤122)) false) true (cond (decide ((byteAt s ((i).toNat))≥65)) (decide ((byteAt s ((i).toNat))≤90)) false))) && (!(i == 0))))=true→AllP [((!(cond (cond (decide ((byteAt s ((i).toNat))≥97)) (decide ((byteAt s ((i).toNat))≤122)) false) true (cond (decide ((byteAt s ((i).toNat))≥65)) (decide ((byteAt s ((i).toNat))≤90)) false))) && ((!(cond (cond (decide ((byteAt s ((i).toNat))≥97)) (decide ((byteAt s ((i).toNat))≤122)) false) true (cond (decide ((byteAt s ((i).toNat))≥65)) (decide ((byteAt s ((i).toNat))≤90)) false))) && (!(i == 0))))=true],(((!(cond (cond (decide ((byteAt s ((i).toNat))≥97)) (decide ((byteAt s ((i).toNat))≤122)) false) true (cond (decide ((byteAt s ((i).toNat))≥65)) (decide ((byteAt s ((i).toNat))≤90)) false))) && ((!(cond (cond (decide ((byteAt s ((i).toNat))≥97)) (decide ((byteAt s ((i).toNat))≤122)) false) true (cond (decide ((byteAt s ((i).toNat))≥65)) (decide ((byteAt s ((i).toNat))≤90)) false))) && (!(i == 0)))) && (((!(cond (cond (decide ((byteAt s ((i).toNat))≥97)) (decide ((byteAt s ((i).toNat))≤122)) false) true (cond (decide ((byteAt s ((i).toNat))≥65)) (decide ((byteAt s ((i).toNat))≤90)) false))) && ((!(cond (cond (decide ((byteAt s ((i).toNat))≥97)) (decide ((byteAt s ((i).toNat))≤122)) false) true (cond (decide ((byteAt s ((i).toNat))≥65)) (decide ((byteAt s ((i).toNat))≤90)) false))) && (!(i == 0)))) && ((byteAt s ((i).toNat)) != 45)))=true→AllP [(((!(cond (cond (decide ((byteAt s ((i).toNat))≥97)) (decide ((byteAt s ((i).toNat))≤122)) false) true (cond (decide ((byteAt s ((i).toNat))≥65)) (decide ((byteAt s ((i).toNat))≤90)) false))) && ((!(cond (cond (decide ((byteAt s ((i).toNat))≥97)) (decide ((byteAt s ((i).toNat))≤122)) false) true (cond (decide ((byteAt s ((i).toNat))≥65)) (decide ((byteAt s ((i).toNat))≤90)) false))) && (!(i == 0)))) && (((!(cond (cond (decide ((byteAt s ((i).toNat))≥97)) (decide ((byteAt s ((i).toNat))≤122)) false) true (cond (decide ((byteAt s ((i).toNat))≥65)) (decide ((byteAt s ((i).toNat))≤90)) false))) && ((!(cond (cond (decide ((byteAt s ((i).toNat))≥97)) (decide ((byteAt s ((i).toNat))≤122)) false) true (cond (decide ((byteAt s ((i).toNat))≥65)) (decide ((byteAt s ((i).toNat))≤90)) false))) && (!(i == 0)))) && ((byteAt s ((i).toNat)) != 45)))=true],((((!(cond (cond (decide ((byteAt s ((i).toNat))≥97)) (decide ((byteAt s ((i).toNat))≤122)) false) true (cond (decide ((byteAt s ((i).toNat))≥65)) (decide ((byteAt s ((i).toNat))≤90)) false))) && ((!(cond (cond (decide ((byteAt s ((i).toNat))≥97)) (decide ((byteAt s ((i).toNat))≤122)) false) true (cond (decide ((byteAt s ((i).toNat))≥65)) (decide ((byteAt s ((i).toNat))≤90)) false))) && (!(i == 0)))) && (((!(cond (cond (decide ((byteAt s ((i).toNat))≥97)) (decide ((byteAt s ((i).toNat))≤122)) false) true (cond (decide ((byteAt s ((i).toNat))≥65)) (decide ((byteAt s ((i).toNat))≤90)) false))) && ((!(cond (cond (decide ((byteAt s ((i).toNat))≥97)) (decide ((byteAt s ((i).toNat))≤122)) false) true (cond (decide ((byteAt s ((i).toNat))≥65)) (decide ((byteAt s ((i).toNat))≤90)) false))) && (!(i == 0)))) && ((byteAt s ((i).toNat)) != 45))) && ((((!(cond (cond (decide ((byteAt s ((i).toNat))≥97)) (decide ((byteAt s ((i).toNat))≤122)) false) true (cond (decide ((byteAt s ((i).toNat))≥65)) (decide ((byteAt s ((i).toNat))≤90)) false))) && ((!(cond (cond (decide ((byteAt s ((i).toNat))≥97)) (decide ((byteAt s ((i).toNat))≤122)) false) true (cond (decide ((byteAt s ((i).toNat))≥65)) (decide ((byteAt s ((i).toNat))≤90)) false))) && (!(i == 0)))) && (((!(cond (cond (decide ((byteAt s ((i).toNat))≥97)) (decide ((byteAt s ((i).toNat))≤122)) false) true (cond (decide ((byteAt s ((i).toNat))≥65)) (decide ((byteAt s ((i).toNat))≤90)) false))) && ((!(cond (cond (decide ((byteAt s ((i).toNat))≥97)) (decide ((byteAt s ((i).toNat))≤122)) false) true (cond (decide ((byteAt s ((i).toNat))≥65)) (decide ((byteAt s ((i).toNat))≤90)) false))) && (!(i == 0)))) && ((byteAt s ((i).toNat)) != 45))) && (!(decide ((byteAt s ((i).toNat)) < 48)))))=true→AllP [((((!(cond (cond (decide ((byteAt s ((i).toNat))≥97)) (decide ((byteAt s ((i).toNat))≤122)) false) true (cond (decide ((byteAt s ((i).toNat))≥65)) (decide ((byteAt s ((i).toNat))≤90)) false))) && ((!(cond (cond (decide ((byteAt s ((i).toNat))≥97)) (decide ((byteAt s ((i).toNat))≤122)) false) true (cond (decide ((byteAt s ((i).toNat))≥65)) (decide ((byteAt s ((i).toNat))≤90)) false))) && (!(i == 0)))) && (((!(cond (cond (decide ((byteAt s ((i).toNat))≥97)) (decide ((byteAt s ((i).toNat))≤122)) false) true (cond (decide ((byteAt s ((i).toNat))≥65)) (decide ((byteAt s ((i).toNat))≤90)) false))) && ((!(cond (cond (decide ((byteAt s ((i).toNat))≥97)) (decide ((byteAt s ((i).toNat))≤122)) false) true (cond (decide ((byteAt s ((i).toNat))≥65)) (decide ((byteAt s ((i).toNat))≤90)) false))) && (!(i == 0)))) && ((byteAt s ((i).toNat)) != 45))) && ((((!(cond (cond (decide ((byteAt s ((i).toNat))≥97)) (decide ((byteAt s ((i).toNat))≤122)) false) true (cond (decide ((byteAt s ((i).toNat))≥65)) (decide ((byteAt s ((i).toNat))≤90)) false))) && ((!(cond (cond (decide ((byteAt s ((i).toNat))≥97)) (decide ((byteAt s ((i).toNat))≤122)) false) true (cond (decide ((byteAt s ((i).toNat))≥65)) (decide ((byteAt s ((i).toNat))≤90)) false))) && (!(i == 0)))) && (((!(cond (cond (decide ((byteAt s ((i).toNat))≥97)) (decide ((byteAt s ((i).toNat))≤122)) false) true (cond (decide ((byteAt s ((i).toNat))≥65)) (decide ((byteAt s ((i).toNat))≤90)) false))) && ((!(cond (cond (decide ((byteAt s ((i).toNat))≥97)) (decide ((byteAt s ((i).toNat))≤122)) false) true (cond (decide ((byteAt s ((i).toNat))≥65)) (decide ((byteAt s ((i).toNat))≤90)) false))) && (!(i == 0)))) && ((byteAt s ((i).toNat)) != 45))) && (!(decide ((byteAt s ((i).toNat)) < 48)))))=true],(((!(cond (cond (decide ((byteAt s ((i).toNat))≥97)) (decide ((byteAt s ((i).toNat))≤122)) false) true (cond (decide ((byteAt s ((i).toNat))≥65)) (decide ((byteAt s ((i).toNat))≤90)) false))) && ((!(cond (cond (decide ((byteAt s ((i).toNat))≥97)) (decide ((byteAt s ((i).toNat))≤122)) false) true (cond (decide ((byteAt s ((i).toNat))≥65)) (decide ((byteAt s ((i).toNat))≤90)) false))) && (!(i == 0)))) && (((!(cond (cond (decide ((byteAt s ((i).toNat))≥97)) (decide ((byteAt s ((i).toNat))≤122)) false) true (cond (decide ((byteAt s ((i).toNat))≥65)) (decide ((byteAt s ((i).toNat))≤90)) false))) && ((!(cond (cond (decide ((byteAt s ((i).toNat))≥97)) (decide ((byteAt s ((i).toNat))≤122)) false) true (cond (decide ((byteAt s ((i).toNat))≥65)) (decide ((byteAt s ((i).toNat))≤90)) false))) && (!(i == 0)))) && ((byteAt s ((i).toNat)) != 45)))=true→AllP [(((!(cond (cond (decide ((byteAt s ((i).toNat))≥97)) (decide ((byteAt s ((i).toNat))≤122)) false) true (cond (decide ((byteAt s ((i).toNat))≥65)) (decide ((byteAt s ((i).toNat))≤90)) false))) && ((!(cond (cond (decide ((byteAt s ((i).toNat))≥97)) (decide ((byteAt s ((i).toNat))≤122)) false) true (cond (decide ((byteAt s ((i).toNat))≥65)) (decide ((byteAt s ((i).toNat))≤90)) false))) && (!(i == 0)))) && (((!(cond (cond (decide ((byteAt s ((i).toNat))≥97)) (decide ((byteAt s ((i).toNat))≤122)) false) true (cond (decide ((byteAt s ((i).toNat))≥65)) (decide ((byteAt s ((i).toNat))≤90)) false))) && ((!(cond (cond (decide ((byteAt s ((i).toNat))≥97)) (decide ((byteAt s ((i).toNat))≤122)) false) true (cond (decide ((byteAt s ((i).toNat))≥65)) (decide ((byteAt s ((i).toNat))≤90)) false))) && (!(i == 0)))) && ((byteAt s ((i).toNat)) != 45)))=true,(((!(cond (cond (decide ((byteAt s ((i).toNat))≥97)) (decide ((byteAt s ((i).toNat))≤122)) false) true (cond (decide ((byteAt s ((i).toNat))≥65)) (decide ((byteAt s ((i).toNat))≤90)) false))) && ((!(cond (cond (decide ((byteAt s ((i).toNat))≥97)) (decide ((byteAt s ((i).toNat))≤122)) false) true (cond (decide ((byteAt s ((i).toNat))≥65)) (decide ((byteAt s ((i).toNat))≤90)) false))) && (!(i == 0)))) && (((!(cond (cond (decide ((byteAt s ((i).toNat))≥97)) (decide ((byteAt s ((i).toNat))≤122)) false) true (cond (decide ((byteAt s ((i).toNat))≥65)) (decide ((byteAt s ((i).toNat))≤90)) false))) && ((!(cond (cond (decide ((byteAt s ((i).toNat))≥97)) (decide ((byteAt s ((i).toNat))≤122)) false) true (cond (decide ((byteAt s ((i).toNat))≥65)) (decide ((byteAt s ((i).toNat))≤90)) false))) && (!(i == 0)))) && ((byteAt s ((i).toNat)) != 45)))=true,(!(decide ((byteAt s ((i).toNat)) < 48)))=true→AllP [((((!(cond (cond (decide ((byteAt s ((i).toNat))≥97)) (decide ((byteAt s ((i).toNat))≤122)) false) true (cond (decide ((byteAt s ((i).toNat))≥65)) (decide ((byteAt s ((i).toNat))≤90)) false))) && ((!(cond (cond (decide ((byteAt s ((i).toNat))≥97)) (decide ((byteAt s ((i).toNat))≤122)) false) true (cond (decide ((byteAt s ((i).toNat))≥65)) (decide ((byteAt s ((i).toNat))≤90)) false))) && (!(i == 0)))) && (((!(cond (cond (decide ((byteAt s ((i).toNat))≥97)) (decide ((byteAt s ((i).toNat))≤122)) false) true (cond (decide ((byteAt s ((i).toNat))≥65)) (decide ((byteAt s ((i).toNat))≤90)) false))) && ((!(cond (cond (decide ((byteAt s ((i).toNat))≥97)) (decide ((byteAt s ((i).toNat))≤122)) false) true (cond (decide ((byteAt s ((i).toNat))≥65)) (decide ((byteAt s ((i).toNat))≤90)) false))) && (!(i == 0)))) && ((byteAt s ((i).toNat)) != 45))) && ((((!(cond (cond (decide ((byteAt s ((i).toNat))≥97)) (decide ((byteAt s ((i).toNat))≤122)) false) true (cond (decide ((byteAt s ((i).toNat))≥65)) (decide ((byteAt s ((i).toNat))≤90)) false))) && ((!(cond (cond (decide ((byteAt s ((i).toNat))≥97)) (decide ((byteAt s ((i).toNat))≤122)) false) true (cond (decide ((byteAt s ((i).toNat))≥65)) (decide ((byteAt s ((i).toNat))≤90)) false))) && (!(i == 0)))) && (((!(cond (cond (decide ((byteAt s ((i).toNat))≥97)) (decide ((byteAt s ((i).toNat))≤122)) false) true (cond (decide ((byteAt s ((i).toNat))≥65)) (decide ((byteAt s ((i).toNat))≤90)) false))) && ((!(cond (cond (decide ((byteAt s ((i).toNat))≥97)) (decide ((byteAt s ((i).toNat))≤122)) false) true (cond (decide ((byteAt s ((i).toNat))≥65)) (decide ((byteAt s ((i).toNat))≤90)) false))) && (!(i == 0)))) && ((byteAt s ((i).toNat)) != 45))) && (!(decide ((byteAt s ((i).toNat)) < 48)))))=true]],((!(cond (cond (decide ((byteAt s ((i).toNat))≥97)) (decide ((byteAt s ((i).toNat))≤122)) false) true (cond (decide ((byteAt s ((i).toNat))≥65)) (decide ((byteAt s ((i).toNat))≤90)) false))) && ((!(cond (cond (decide ((byteAt s ((i).toNat))≥97)) (decide ((byteAt s ((i).toNat))≤122)) false) true (cond (decide ((byteAt s ((i).toNat))≥65)) (decide ((byteAt s ((i).toNat))≤90)) false))) && (!(i == 0))))=true→AllP [((!(cond (cond (decide ((byteAt s ((i).toNat))≥97)) (decide ((byteAt s ((i).toNat))≤122)) false) true (cond (decide ((byteAt s ((i).toNat))≥65)) (decide ((byteAt s ((i).toNat))≤90)) false))) && ((!(cond (cond (decide ((byteAt s ((i).toNat))≥97)) (decide ((byteAt s ((i).toNat))≤122)) false) true (cond (decide ((byteAt s ((i).toNat))≥65)) (decide ((byteAt s ((i).toNat))≤90)) false))) && (!(i == 0))))=true,((!(cond (cond (decide ((byteAt s ((i).toNat))≥97)) (decide ((byteAt s ((i).toNat))≤122)) false) true (cond (decide ((byteAt s ((i).toNat))≥65)) (decide ((byteAt s ((i).toNat))≤90)) false))) && ((!(cond (cond (decide ((byteAt s ((i).toNat))≥97)) (decide ((byteAt s ((i).toNat))≤122)) false) true (cond (decide ((byteAt s ((i).toNat))≥65)) (decide ((byteAt s ((i).toNat))≤90)) false))) && (!(i == 0))))=true,((byteAt s ((i).toNat)) != 45)=true→AllP [(((!(cond (cond (decide ((byteAt s ((i).toNat))≥97)) (decide ((byteAt s ((i).toNat))≤122)) false) true (cond (decide ((byteAt s ((i).toNat))≥65)) (decide ((byteAt s ((i).toNat))≤90)) false))) && ((!(cond (cond (decide ((byteAt s ((i).toNat))≥97)) (decide ((byteAt s ((i).toNat))≤122)) false) true (cond (decide ((byteAt s ((i).toNat))≥65)) (decide ((byteAt s ((i).toNat))≤90)) false))) && (!(i == 0)))) && (((!(cond (cond (decide ((byteAt s ((i).toNat))≥97)) (decide ((byteAt s ((i).toNat))≤122)) false) true (cond (decide ((byteAt s ((i).toNat))≥65)) (decide ((byteAt s ((i).toNat))≤90)) false))) && ((!(cond (cond (decide ((byteAt s ((i).toNat))≥97)) (decide ((byteAt s ((i).toNat))≤122)) false) true (cond (decide ((byteAt s ((i).toNat))≥65)) (decide ((byteAt s ((i).toNat))≤90)) false))) && (!(i == 0)))) && ((byteAt s ((i).toNat)) != 45)))=true]],(!(cond (cond (decide ((byteAt s ((i).toNat))≥97)) (decide ((byteAt s ((i).toNat))≤122)) false) true (cond (decide ((byteAt s ((i).toNat))≥65)) (decide ((byteAt s ((i).toNat))≤90)) false)))=true→AllP [(!(cond (cond (decide ((byteAt s ((i).toNat))≥97)) (decide ((byteAt s ((i).toNat))≤122)) false) true (cond (decide ((byteAt s ((i).toNat))≥65)) (decide ((byteAt s ((i).toNat))≤90)) false)))=true,(!(cond (cond (decide ((byteAt s ((i).toNat))≥97)) (decide ((byteAt s ((i).toNat))≤122)) false) true (cond (decide ((byteAt s ((i).toNat))≥65)) (decide ((byteAt s ((i).toNat))≤90)) false)))=true,(!(i == 0))=true→AllP [((!(cond (cond (decide ((byteAt s ((i).toNat))≥97)) (decide ((byteAt s ((i).toNat))≤122)) false) true (cond (decide ((byteAt s ((i).toNat))≥65)) (decide ((byteAt s ((i).toNat))≤90)) false))) && ((!(cond (cond (decide ((byteAt s ((i).toNat))≥97)) (decide ((byteAt s ((i).toNat))≤122)) false) true (cond (decide ((byteAt s ((i).toNat))≥65)) (decide ((byteAt s ((i).toNat))≤90)) false))) && (!(i == 0))))=true]],(!(cond (cond (decide ((byteAt s ((i).toNat))≥97)) (decide ((byteAt s ((i).toNat))≤122)) false) true (cond (decide ((byteAt s ((i).toNat))≥65)) (decide ((byteAt s ((i).toNat))≤90)) false)))=true→AllP [(!(cond (cond (decide ((byteAt s ((i).toNat))≥97)) (decide ((byteAt s ((i).toNat))≤122)) false) true (cond (decide ((byteAt s ((i).toNat))≥65)) (decide ((byteAt s ((i).toNat))≤90)) false)))=true]] ⟨(fun hg=>⟨hg,trivial⟩),(fun hg=>⟨hg,trivial⟩),(fun hg=>⟨hg,trivial⟩),(fun hg=>⟨hg,trivial⟩),(fun hg=>⟨hg,hg,(fun hq=>⟨(andI' hg (andI' hg hq)),trivial⟩),trivial⟩),(fun hg=>⟨hg,hg,(fun hq=>⟨(andI' hg (andI' hg hq)),trivial⟩),trivial⟩),(fun hg=>⟨hg,hg,(fun hq=>⟨(andI' hg (andI' hg hq)),trivial⟩),trivial⟩),(fun hq=>⟨hq,trivial⟩),trivial⟩ ?_
   refine Runs.sC 54 (C_80 14926) (C_80 14927) (cond (!(cond (cond (decide ((byteAt s ((i).toNat))≥97)) (decide ((byteAt s ((i).toNat))≤122)) false) true (cond (decide ((byteAt s ((i).toNat))≥65)) (decide ((byteAt s ((i).toNat))≤90)) false))) (cond (i == 0) true (cond ((byteAt s ((i).toNat)) != 45) (cond (decide ((byteAt s ((i).toNat)) < 48)) true (decide ((byteAt s ((i).toNat)) > 57))) false)) false) (fun hq4=>?_) (fun hq4=>?_)
   ·have h:=condT h hq4
    refine Runs.sA 1 [.code (C_80 29852),.code (C_80 29853),.inBlock 1,.code (C_80 467),.inLoop (C_80 116),.inBlock 0,.code (C_80 15)] ?_
    refine Runs.sR hE ⟨[(2,(aB false))],[],672⟩ (C_80 29852) [] [] (kp [2]) [] 672 [] trivial ?_
    obtain rfl:=Option.some.inj h
    refine Runs.sW hE ⟨[(2,(aB false))],[],672⟩ [] (kp [2]) [] 672 [] trivial ?_
    exact Runs.sT Try.f101 [] [] trivial
   ·have h:=condF h hq4
    refine Runs.sA 2 [.code (C_80 467),.inLoop (C_80 116),.inBlock 0,.code (C_80 15)] ?_
    refine Runs.sR hE ⟨[(0,(aS s)),(3,(aI (w64 (i+1))))],[],704⟩ (C_80 467) [] [] (kp [0,3]) [] 704 [] trivial ?_
    refine Runs.sA 1 [.code (C_80 116),.inLoop (C_80 116),.inBlock 0,.code (C_80 15)] ?_
    exact Runs.sW hE _ [] (kp [0,3]) [] 0 [] trivial (ih (w64 (i+1)) _ h E hE)
  ·have h:=condF h hq3
   refine Runs.sA 2 [.code (C_80 30),.code (C_80 31)] ?_
   refine Runs.sR hE ⟨[(2,(aB true))],[],80⟩ (C_80 30) [] [] (kp [2]) [] 80 [] trivial ?_
   obtain rfl:=Option.some.inj h
   refine Runs.sW hE ⟨[(2,(aB true))],[],80⟩ [] (kp [2]) [] 80 [] trivial ?_
   exact Runs.sT Try.f101 [] [] trivial
theorem g_b_IsName_ok (N:Nat) (s:ByteArray) (r:Bool) (h:g_b_IsName N s=some r):Sound Try.prog 101 [(aS s)] [] 0 (aB r) []:=by
 unfold g_b_IsName at h
 refine Sound.of_runs (fu:=Try.f101) (c:=C_80 1) (nt:=55) (by kernel_rfl) (by kernel_rfl) (by kernel_rfl) (by kernel_rfl) (fun hm=>rfl) ?_
 intro E hE
 refine Runs.sA 1 [.code (C_80 2),.code (C_80 3)] ?_
 refine Runs.sR hE ⟨[(0,(aS s))],[],16⟩ (C_80 2) [] [] (kp [0]) [] 16 [] trivial ?_
 refine Runs.sA 2 [.code (C_80 12),.code (C_80 13),.code (C_80 7)] ?_
 refine Runs.sR hE ⟨[(0,(aS s)),(13,(aB (cond (decide (((s.size:Nat):Int) < 1)) true (decide (((s.size:Nat):Int) > 12)))))],[],144⟩ (C_80 12) [] [] (kp [0,13]) [] 144 [(!(decide (((s.size:Nat):Int) < 1)))=true→AllP [(!(decide (((s.size:Nat):Int) < 1)))=true],(!(decide (((s.size:Nat):Int) < 1)))=true→AllP [(!(decide (((s.size:Nat):Int) < 1)))=true],(!(decide (((s.size:Nat):Int) < 1)))=true→AllP [(!(decide (((s.size:Nat):Int) < 1)))=true]] ⟨(fun hg=>⟨hg,trivial⟩),(fun hg=>⟨hg,trivial⟩),(fun hq=>⟨hq,trivial⟩),trivial⟩ ?_
 refine Runs.sC 13 (C_80 26) (C_80 27) (cond (decide (((s.size:Nat):Int) < 1)) true (decide (((s.size:Nat):Int) > 12))) (fun hq2=>?_) (fun hq2=>?_)
 ·have h:=condT h hq2
  refine Runs.sA 1 [.code (C_80 52),.code (C_80 53),.code (C_80 7)] ?_
  refine Runs.sR hE ⟨[(2,(aB false))],[],160⟩ (C_80 52) [] [] (kp [2]) [] 160 [] trivial ?_
  obtain rfl:=Option.some.inj h
  refine Runs.sW hE ⟨[(2,(aB false))],[],160⟩ [] (kp [2]) [] 160 [] trivial ?_
  exact Runs.sT Try.f101 [] [] trivial
 ·have h:=condF h hq2
  refine Runs.sA 3 [.code (C_80 28),.code (C_80 29),.code (C_80 15)] ?_
  refine Runs.sR hE ⟨[(0,(aS s)),(3,(aI 0))],[],160⟩ (C_80 28) [] [] (kp [0,3]) [] 160 [] trivial ?_
  refine Runs.sA 2 [.code (C_80 116),.inLoop (C_80 116),.inBlock 0,.code (C_80 15)] ?_
  exact Runs.sW hE _ [] (kp [0,3]) [] 0 [] trivial (g_b_IsName_L1_ok N s N 0 _ h E hE)
noncomputable def C_81 (n:Nat):Code:=cat (bodyOf Try.f47) (pth n)
theorem g_r06_DockOf_L1_ok (N:Nat) (d:List TDock) (name:ByteArray) (fuel:Nat):∀ (i:Int) (r:Int),g_r06_DockOf_L1 N d name fuel i=some r→∀ E,EnvOk E 0→Runs Try.prog E 47 20 (SPost E [] (aI r)) [.code (C_81 52),.inLoop (C_81 52),.inBlock 0,.code (C_81 7)] ⟨[(0,(encL TDock.cells TDock.d d)),(1,(aS name)),(5,(aI i))],[],0⟩:=by
 induction fuel with
 | zero=>intro _ r h;rw [g_r06_DockOf_L1.eq_1] at h;cases h
 | succ fuel ih =>
  intro i r h E hE
  rw [g_r06_DockOf_L1.eq_2] at h
  refine Runs.sA 2 [.code (C_81 208),.code (C_81 209),.code (C_81 105),.inLoop (C_81 52),.inBlock 0,.code (C_81 7)] ?_
  refine Runs.sR hE ⟨[(0,(encL TDock.cells TDock.d d)),(1,(aS name)),(5,(aI i)),(9,(aB (decide (i < ((d.length:Nat):Int)))))],[],64⟩ (C_81 208) [] [] (kp [0,1,5,9]) [] 64 [] trivial ?_
  refine Runs.sC 9 (C_81 418) (C_81 419) (decide (i < ((d.length:Nat):Int))) (fun hq2=>?_) (fun hq2=>?_)
  ·have h:=condT h hq2
   refine Runs.sA 4 [.code (C_81 840),.code (C_81 841),.inBlock 1,.code (C_81 211),.inLoop (C_81 52),.inBlock 0,.code (C_81 7)] ?_
   obtain ⟨c,h⟩:=ifSome h
   refine Runs.sR hE ⟨[(0,(encL TDock.cells TDock.d d)),(1,(aS name)),(5,(aI i)),(18,(aB (streq ((d.getD ((i).toNat) TDock.d).f_Name) name)))],[],176⟩ (C_81 840) [] [] (kp [0,1,5,18]) [] 176 [0≤i∧i < ((d.length:Nat):Int)] ⟨c,trivial⟩ ?_
   refine Runs.sC 18 (C_81 1682) (C_81 1683) (streq ((d.getD ((i).toNat) TDock.d).f_Name) name) (fun hq3=>?_) (fun hq3=>?_)
   ·have h:=condT h hq3
    refine Runs.sA 1 [.code (C_81 3364),.code (C_81 3365),.inBlock 1,.code (C_81 211),.inLoop (C_81 52),.inBlock 0,.code (C_81 7)] ?_
    refine Runs.sR hE ⟨[(4,(aI i))],[],208⟩ (C_81 3364) [] [] (kp [4]) [] 208 [] trivial ?_
    obtain rfl:=Option.some.inj h
    refine Runs.sW hE ⟨[(4,(aI i))],[],208⟩ [] (kp [4]) [] 208 [] trivial ?_
    exact Runs.sT Try.f47 [] [] trivial
   ·have h:=condF h hq3
    refine Runs.sA 2 [.code (C_81 211),.inLoop (C_81 52),.inBlock 0,.code (C_81 7)] ?_
    refine Runs.sR hE ⟨[(0,(encL TDock.cells TDock.d d)),(1,(aS name)),(5,(aI (w64 (i+1))))],[],224⟩ (C_81 211) [] [] (kp [0,1,5]) [] 224 [] trivial ?_
    refine Runs.sA 1 [.code (C_81 52),.inLoop (C_81 52),.inBlock 0,.code (C_81 7)] ?_
    exact Runs.sW hE _ [] (kp [0,1,5]) [] 0 [] trivial (ih (w64 (i+1)) _ h E hE)
  ·have h:=condF h hq2
   refine Runs.sA 2 [.code (C_81 14),.code (C_81 15)] ?_
   refine Runs.sR hE ⟨[(4,(aI (-1)))],[],80⟩ (C_81 14) [] [] (kp [4]) [] 80 [] trivial ?_
   obtain rfl:=Option.some.inj h
   refine Runs.sW hE ⟨[(4,(aI (-1)))],[],80⟩ [] (kp [4]) [] 80 [] trivial ?_
   exact Runs.sT Try.f47 [] [] trivial
theorem g_r06_DockOf_ok (N:Nat) (d:List TDock) (name:ByteArray) (r:Int) (h:g_r06_DockOf N d name=some r):Sound Try.prog 47 [(encL TDock.cells TDock.d d),(aS name)] [] 0 (aI r) []:=by
 unfold g_r06_DockOf at h
 refine Sound.of_runs (fu:=Try.f47) (c:=C_81 1) (nt:=20) (by kernel_rfl) (by kernel_rfl) (by kernel_rfl) (by kernel_rfl) (fun hm=>rfl) ?_
 intro E hE
 refine Runs.sA 1 [.code (C_81 2),.code (C_81 3)] ?_
 refine Runs.sR hE ⟨[(0,(encL TDock.cells TDock.d d)),(1,(aS name))],[],16⟩ (C_81 2) [] [] (kp [0,1]) [] 16 [] trivial ?_
 refine Runs.sA 2 [.code (C_81 12),.code (C_81 13),.code (C_81 7)] ?_
 refine Runs.sR hE ⟨[(0,(encL TDock.cells TDock.d d)),(1,(aS name)),(5,(aI 0))],[],32⟩ (C_81 12) [] [] (kp [0,1,5]) [] 32 [] trivial ?_
 refine Runs.sA 2 [.code (C_81 52),.inLoop (C_81 52),.inBlock 0,.code (C_81 7)] ?_
 exact Runs.sW hE _ [] (kp [0,1,5]) [] 0 [] trivial (g_r06_DockOf_L1_ok N d name N 0 _ h E hE)
noncomputable def C_82 (n:Nat):Code:=cat (bodyOf Try.f73) (pth n)
theorem g_r06_inside_ok (N:Nat) (n:Int) (low:Int) (high:Int) (r:Bool) (h:g_r06_inside N n low high=some r):Sound Try.prog 73 [(aI n),(aI low),(aI high)] [] 0 (aB r) []:=by
 unfold g_r06_inside at h
 refine Sound.of_runs (fu:=Try.f73) (c:=C_82 1) (nt:=15) (by kernel_rfl) (by kernel_rfl) (by kernel_rfl) (by kernel_rfl) (fun hm=>rfl) ?_
 intro E hE
 refine Runs.sA 1 [.code (C_82 2),.code (C_82 3)] ?_
 refine Runs.sR hE ⟨[(0,(aI n)),(1,(aI low)),(2,(aI high))],[],16⟩ (C_82 2) [] [] (kp [0,1,2]) [] 16 [] trivial ?_
 refine Runs.sA 1 [.code (C_82 6),.code (C_82 7)] ?_
 refine Runs.sR hE ⟨[(6,(aB (cond (decide (n≥low)) (decide (n≤high)) false)))],[],160⟩ (C_82 6) [] [] (kp [6]) [] 160 [(decide (n≥low))=true→AllP [(decide (n≥low))=true,(decide (n≥low))=true],(decide (n≥low))=true→AllP [(decide (n≥low))=true]] ⟨(fun hg=>⟨hg,hg,trivial⟩),(fun hq=>⟨hq,trivial⟩),trivial⟩ ?_
 obtain rfl:=Option.some.inj h
 refine Runs.sW hE ⟨[(6,(aB (cond (decide (n≥low)) (decide (n≤high)) false)))],[],160⟩ [] (kp [6]) [] 160 [] trivial ?_
 exact Runs.sT Try.f73 [] [] trivial
noncomputable def C_79 (n:Nat):Code:=cat (bodyOf Try.f71) (pth n)
theorem g_r06_CheckDocks_L1_ok (N:Nat) (d:List TDock) (fuel:Nat):∀ (i:Int) (r:Int),g_r06_CheckDocks_L1 N d fuel i=some r→∀ E,EnvOk E 0→Runs Try.prog E 71 72 (SPost E [] (aI r)) [.code (C_79 116),.inLoop (C_79 116),.inBlock 0,.code (C_79 15)] ⟨[(0,(encL TDock.cells TDock.d d)),(3,(aI i))],[],0⟩:=by
 induction fuel with
 | zero=>intro _ r h;rw [g_r06_CheckDocks_L1.eq_1] at h;cases h
 | succ fuel ih =>
  intro i r h E hE
  rw [g_r06_CheckDocks_L1.eq_2] at h
  refine Runs.sA 2 [.code (C_79 464),.code (C_79 465),.code (C_79 233),.inLoop (C_79 116),.inBlock 0,.code (C_79 15)] ?_
  refine Runs.sR hE ⟨[(0,(encL TDock.cells TDock.d d)),(3,(aI i)),(10,(aB (decide (i < ((d.length:Nat):Int)))))],[],64⟩ (C_79 464) [] [] (kp [0,3,10]) [] 64 [] trivial ?_
  refine Runs.sC 10 (C_79 930) (C_79 931) (decide (i < ((d.length:Nat):Int))) (fun hq3=>?_) (fun hq3=>?_)
  ·have h:=condT h hq3
   refine Runs.sA 5 [.code (C_79 3728),.code (C_79 3729),.code (C_79 1865),.inBlock 1,.code (C_79 467),.inLoop (C_79 116),.inBlock 0,.code (C_79 15)] ?_
   obtain ⟨c,h⟩:=ifSome h
   obtain ⟨rIsName,hr,h⟩:=bindSome h
   refine Runs.sR hE ⟨[(0,(encL TDock.cells TDock.d d)),(3,(aI i)),(19,(aB (!rIsName)))],[],176⟩ (C_79 3728) [(5,⟨[],true,(aB rIsName),[],0,false,none⟩)] [] (kp [0,3,19]) [] 176 [0≤i∧i < ((d.length:Nat):Int),Sound Try.prog 101 [(aS ((d.getD ((i).toNat) TDock.d).f_Name))] [] 0 (aB rIsName) []] ⟨c,(g_b_IsName_ok N ((d.getD ((i).toNat) TDock.d).f_Name) rIsName hr),trivial⟩ ?_
   refine Runs.sC 19 (C_79 7458) (C_79 7459) (!rIsName) (fun hq4=>?_) (fun hq4=>?_)
   ·have h:=condT h hq4
    refine Runs.sA 1 [.code (C_79 14916),.code (C_79 14917),.code (C_79 1865),.inBlock 1,.code (C_79 467),.inLoop (C_79 116),.inBlock 0,.code (C_79 15)] ?_
    refine Runs.sR hE ⟨[(2,(aI 4))],[],192⟩ (C_79 14916) [] [] (kp [2]) [] 192 [] trivial ?_
    obtain rfl:=Option.some.inj h
    refine Runs.sW hE ⟨[(2,(aI 4))],[],192⟩ [] (kp [2]) [] 192 [] trivial ?_
    exact Runs.sT Try.f71 [] [] trivial
   ·have h:=condF h hq4
    refine Runs.sA 3 [.code (C_79 7460),.code (C_79 7461),.code (C_79 3731),.inBlock 1,.code (C_79 467),.inLoop (C_79 116),.inBlock 0,.code (C_79 15)] ?_
    obtain ⟨rDockOf,hr2,h⟩:=bindSome h
    refine Runs.sR hE ⟨[(0,(encL TDock.cells TDock.d d)),(3,(aI i)),(28,(aB (rDockOf != i)))],[],320⟩ (C_79 7460) [(6,⟨[],true,(aI rDockOf),[],0,false,none⟩)] [] (kp [0,3,28]) [] 320 [0≤i∧i < ((d.length:Nat):Int),Sound Try.prog 47 [(encL TDock.cells TDock.d d),(aS ((d.getD ((i).toNat) TDock.d).f_Name))] [] 0 (aI rDockOf) []] ⟨c,(g_r06_DockOf_ok N d ((d.getD ((i).toNat) TDock.d).f_Name) rDockOf hr2),trivial⟩ ?_
    refine Runs.sC 28 (C_79 14922) (C_79 14923) (rDockOf != i) (fun hq5=>?_) (fun hq5=>?_)
    ·have h:=condT h hq5
     refine Runs.sA 1 [.code (C_79 29844),.code (C_79 29845),.code (C_79 3731),.inBlock 1,.code (C_79 467),.inLoop (C_79 116),.inBlock 0,.code (C_79 15)] ?_
     refine Runs.sR hE ⟨[(2,(aI 5))],[],336⟩ (C_79 29844) [] [] (kp [2]) [] 336 [] trivial ?_
     obtain rfl:=Option.some.inj h
     refine Runs.sW hE ⟨[(2,(aI 5))],[],336⟩ [] (kp [2]) [] 336 [] trivial ?_
     exact Runs.sT Try.f71 [] [] trivial
    ·have h:=condF h hq5
     refine Runs.sA 2 [.code (C_79 7462),.code (C_79 7463),.inBlock 1,.code (C_79 467),.inLoop (C_79 116),.inBlock 0,.code (C_79 15)] ?_
     obtain ⟨rinside,hr3,h⟩:=bindSome h
     obtain ⟨c2,h⟩:=ifSome h
     obtain ⟨rinside2,hr4,h⟩:=bindSome h
     obtain ⟨c3,h⟩:=ifSome h
     obtain ⟨rinside3,hr5,h⟩:=bindSome h
     obtain ⟨c4,h⟩:=ifSome h
     obtain ⟨rinside4,hr6,h⟩:=bindSome h
     obtain ⟨c5,h⟩:=ifSome h
     obtain ⟨rinside5,hr7,h⟩:=bindSome h
     refine Runs.sR hE ⟨[(0,(encL TDock.cells TDock.d d)),(3,(aI i)),(71,(aB (cond (cond (cond (cond (!rinside) true (!rinside2)) true (!rinside3)) true (!rinside4)) true (!rinside5))))],[],1008⟩ (C_79 7462) [(5,⟨[],true,(aB rinside),[],0,false,none⟩),(13,⟨[],true,(aB rinside2),[],0,false,none⟩),(22,⟨[],true,(aB rinside3),[],0,false,none⟩),(31,⟨[],true,(aB rinside4),[],0,false,none⟩),(40,⟨[],true,(aB rinside5),[],0,false,none⟩)] [] (kp [0,3,71]) [] 1008 [0≤i∧i < ((d.length:Nat):Int),Sound Try.prog 73 [(aI ((d.getD ((i).toNat) TDock.d).f_Length)),(aI 1),(aI 1000000)] [] 0 (aB rinside) [],(!(!rinside))=true→AllP [(!(!rinside))=true,(!(!rinside))=true,0≤i∧i < ((d.length:Nat):Int)],(!(!rinside))=true→AllP [(!(!rinside))=true],(!(!rinside))=true→AllP [(!(!rinside))=true],(!(!rinside))=true→AllP [Sound Try.prog 73 [(aI ((d.getD ((i).toNat) TDock.d).f_Width)),(aI 1),(aI 1000000)] [] 0 (aB rinside2) [],(!(!rinside))=true],(!(!rinside))=true→AllP [(!(!rinside))=true],(!(!rinside))=true→AllP [(!(!rinside))=true],(!(cond (!rinside) true (!rinside2)))=true→AllP [(!(cond (!rinside) true (!rinside2)))=true,(!(cond (!rinside) true (!rinside2)))=true,0≤i∧i < ((d.length:Nat):Int)],(!(cond (!rinside) true (!rinside2)))=true→AllP [(!(cond (!rinside) true (!rinside2)))=true],(!(cond (!rinside) true (!rinside2)))=true→AllP [(!(cond (!rinside) true (!rinside2)))=true],(!(cond (!rinside) true (!rinside2)))=true→AllP [Sound Try.prog 73 [(aI ((d.getD ((i).toNat) TDock.d).f_Sill)),(aI (-1000000)),(aI 1000000)] [] 0 (aB rinside3) [],(!(cond (!rinside) true (!rinside2)))=true],(!(cond (!rinside) true (!rinside2)))=true→AllP [(!(cond (!rinside) true (!rinside2)))=true],(!(cond (!rinside) true (!rinside2)))=true→AllP [(!(cond (!rinside) true (!rinside2)))=true],(!(cond (cond (!rinside) true (!rinside2)) true (!rinside3)))=true→AllP [(!(cond (cond (!rinside) true (!rinside2)) true (!rinside3)))=true,(!(cond (cond (!rinside) true (!rinside2)) true (!rinside3)))=true,0≤i∧i < ((d.length:Nat):Int)],(!(cond (cond (!rinside) true (!rinside2)) true (!rinside3)))=true→AllP [(!(cond (cond (!rinside) true (!rinside2)) true (!rinside3)))=true],(!(cond (cond (!rinside) true (!rinside2)) true (!rinside3)))=true→AllP [(!(cond (cond (!rinside) true (!rinside2)) true (!rinside3)))=true],(!(cond (cond (!rinside) true (!rinside2)) true (!rinside3)))=true→AllP [Sound Try.prog 73 [(aI ((d.getD ((i).toNat) TDock.d).f_Floor)),(aI (-1000000)),(aI 1000000)] [] 0 (aB rinside4) [],(!(cond (cond (!rinside) true (!rinside2)) true (!rinside3)))=true],(!(cond (cond (!rinside) true (!rinside2)) true (!rinside3)))=true→AllP [(!(cond (cond (!rinside) true (!rinside2)) true (!rinside3)))=true],(!(cond (cond (!rinside) true (!rinside2)) true (!rinside3)))=true→AllP [(!(cond (cond (!rinside) true (!rinside2)) true (!rinside3)))=true],(!(cond (cond (cond (!rinside) true (!rinside2)) true (!rinside3)) true (!rinside4)))=true→AllP [(!(cond (cond (cond (!rinside) true (!rinside2)) true (!rinside3)) true (!rinside4)))=true,(!(cond (cond (cond (!rinside) true (!rinside2)) true (!rinside3)) true (!rinside4)))=true,0≤i∧i < ((d.length:Nat):Int)],(!(cond (cond (cond (!rinside) true (!rinside2)) true (!rinside3)) true (!rinside4)))=true→AllP [(!(cond (cond (cond (!rinside) true (!rinside2)) true (!rinside3)) true (!rinside4)))=true],(!(cond (cond (cond (!rinside) true (!rinside2)) true (!rinside3)) true (!rinside4)))=true→AllP [(!(cond (cond (cond (!rinside) true (!rinside2)) true (!rinside3)) true (!rinside4)))=true],(!(cond (cond (cond (!rinside) true (!rinside2)) true (!rinside3)) true (!rinside4)))=true→AllP [Sound Try.prog 73 [(aI ((d.getD ((i).toNat) TDock.d).f_Gap)),(aI 0),(aI 1000000)] [] 0 (aB rinside5) [],(!(cond (cond (cond (!rinside) true (!rinside2)) true (!rinside3)) true (!rinside4)))=true],(!(cond (cond (cond (!rinside) true (!rinside2)) true (!rinside3)) true (!rinside4)))=true→AllP [(!(cond (cond (cond (!rinside) true (!rinside2)) true (!rinside3)) true (!rinside4)))=true],(!(cond (cond (cond (!rinside) true (!rinside2)) true (!rinside3)) true (!rinside4)))=true→AllP [(!(cond (cond (cond (!rinside) true (!rinside2)) true (!rinside3)) true (!rinside4)))=true]] ⟨c,(g_r06_inside_ok N ((d.getD ((i).toNat) TDock.d).f_Length) 1 1000000 rinside hr3),(fun hg=>⟨hg,hg,(c2 hg),trivial⟩),(fun hg=>⟨hg,trivial⟩),(fun hg=>⟨hg,trivial⟩),(fun hg=>⟨(g_r06_inside_ok N ((d.getD ((i).toNat) TDock.d).f_Width) 1 1000000 rinside2 (condT hr4 hg)),hg,trivial⟩),(fun hg=>⟨hg,trivial⟩),(fun hq=>⟨hq,trivial⟩),(fun hg=>⟨hg,hg,(c3 hg),trivial⟩),(fun hg=>⟨hg,trivial⟩),(fun hg=>⟨hg,trivial⟩),(fun hg=>⟨(g_r06_inside_ok N ((d.getD ((i).toNat) TDock.d).f_Sill) (-1000000) 1000000 rinside3 (condT hr5 hg)),hg,trivial⟩),(fun hg=>⟨hg,trivial⟩),(fun hq=>⟨hq,trivial⟩),(fun hg=>⟨hg,hg,(c4 hg),trivial⟩),(fun hg=>⟨hg,trivial⟩),(fun hg=>⟨hg,trivial⟩),(fun hg=>⟨(g_r06_inside_ok N ((d.getD ((i).toNat) TDock.d).f_Floor) (-1000000) 1000000 rinside4 (condT hr6 hg)),hg,trivial⟩),(fun hg=>⟨hg,trivial⟩),(fun hq=>⟨hq,trivial⟩),(fun hg=>⟨hg,hg,(c5 hg),trivial⟩),(fun hg=>⟨hg,trivial⟩),(fun hg=>⟨hg,trivial⟩),(fun hg=>⟨(g_r06_inside_ok N ((d.getD ((i).toNat) TDock.d).f_Gap) 0 1000000 rinside5 (condT hr7 hg)),hg,trivial⟩),(fun hg=>⟨hg,trivial⟩),(fun hq=>⟨hq,trivial⟩),trivial⟩ ?_
     refine Runs.sC 71 (C_79 14926) (C_79 14927) (cond (cond (cond (cond (!rinside) true (!rinside2)) true (!rinside3)) true (!rinside4)) true (!rinside5)) (fun hq6=>?_) (fun hq6=>?_)
     ·have h:=condT h hq6
      refine Runs.sA 1 [.code (C_79 29852),.code (C_79 29853),.inBlock 1,.code (C_79 467),.inLoop (C_79 116),.inBlock 0,.code (C_79 15)] ?_
      refine Runs.sR hE ⟨[(2,(aI 2))],[],1024⟩ (C_79 29852) [] [] (kp [2]) [] 1024 [] trivial ?_
      obtain rfl:=Option.some.inj h
      refine Runs.sW hE ⟨[(2,(aI 2))],[],1024⟩ [] (kp [2]) [] 1024 [] trivial ?_
      exact Runs.sT Try.f71 [] [] trivial
     ·have h:=condF h hq6
      refine Runs.sA 2 [.code (C_79 467),.inLoop (C_79 116),.inBlock 0,.code (C_79 15)] ?_
      refine Runs.sR hE ⟨[(0,(encL TDock.cells TDock.d d)),(3,(aI (w64 (i+1))))],[],1056⟩ (C_79 467) [] [] (kp [0,3]) [] 1056 [] trivial ?_
      refine Runs.sA 1 [.code (C_79 116),.inLoop (C_79 116),.inBlock 0,.code (C_79 15)] ?_
      exact Runs.sW hE _ [] (kp [0,3]) [] 0 [] trivial (ih (w64 (i+1)) _ h E hE)
  ·have h:=condF h hq3
   refine Runs.sA 2 [.code (C_79 30),.code (C_79 31)] ?_
   refine Runs.sR hE ⟨[(2,(aI 0))],[],80⟩ (C_79 30) [] [] (kp [2]) [] 80 [] trivial ?_
   obtain rfl:=Option.some.inj h
   refine Runs.sW hE ⟨[(2,(aI 0))],[],80⟩ [] (kp [2]) [] 80 [] trivial ?_
   exact Runs.sT Try.f71 [] [] trivial
theorem g_r06_CheckDocks_ok (N:Nat) (d:List TDock) (r:Int) (h:g_r06_CheckDocks N d=some r):Sound Try.prog 71 [(encL TDock.cells TDock.d d)] [] 0 (aI r) []:=by
 unfold g_r06_CheckDocks at h
 refine Sound.of_runs (fu:=Try.f71) (c:=C_79 1) (nt:=72) (by kernel_rfl) (by kernel_rfl) (by kernel_rfl) (by kernel_rfl) (fun hm=>rfl) ?_
 intro E hE
 refine Runs.sA 1 [.code (C_79 2),.code (C_79 3)] ?_
 refine Runs.sR hE ⟨[(0,(encL TDock.cells TDock.d d))],[],16⟩ (C_79 2) [] [] (kp [0]) [] 16 [] trivial ?_
 refine Runs.sA 2 [.code (C_79 12),.code (C_79 13),.code (C_79 7)] ?_
 refine Runs.sR hE ⟨[(0,(encL TDock.cells TDock.d d)),(6,(aB (decide (((d.length:Nat):Int) > 4))))],[],64⟩ (C_79 12) [] [] (kp [0,6]) [] 64 [] trivial ?_
 refine Runs.sC 6 (C_79 26) (C_79 27) (decide (((d.length:Nat):Int) > 4)) (fun hq2=>?_) (fun hq2=>?_)
 ·have h:=condT h hq2
  refine Runs.sA 1 [.code (C_79 52),.code (C_79 53),.code (C_79 7)] ?_
  refine Runs.sR hE ⟨[(2,(aI 8))],[],80⟩ (C_79 52) [] [] (kp [2]) [] 80 [] trivial ?_
  obtain rfl:=Option.some.inj h
  refine Runs.sW hE ⟨[(2,(aI 8))],[],80⟩ [] (kp [2]) [] 80 [] trivial ?_
  exact Runs.sT Try.f71 [] [] trivial
 ·have h:=condF h hq2
  refine Runs.sA 3 [.code (C_79 28),.code (C_79 29),.code (C_79 15)] ?_
  refine Runs.sR hE ⟨[(0,(encL TDock.cells TDock.d d)),(3,(aI 0))],[],80⟩ (C_79 28) [] [] (kp [0,3]) [] 80 [] trivial ?_
  refine Runs.sA 2 [.code (C_79 116),.inLoop (C_79 116),.inBlock 0,.code (C_79 15)] ?_
  exact Runs.sW hE _ [] (kp [0,3]) [] 0 [] trivial (g_r06_CheckDocks_L1_ok N d N 0 _ h E hE)
noncomputable def C_84 (n:Nat):Code:=cat (bodyOf Try.f46) (pth n)
theorem g_r06_CallOf_L1_ok (N:Nat) (c:List TCall) (name:ByteArray) (fuel:Nat):∀ (i:Int) (r:Int),g_r06_CallOf_L1 N c name fuel i=some r→∀ E,EnvOk E 0→Runs Try.prog E 46 20 (SPost E [] (aI r)) [.code (C_84 52),.inLoop (C_84 52),.inBlock 0,.code (C_84 7)] ⟨[(0,(encL TCall.cells TCall.d c)),(1,(aS name)),(5,(aI i))],[],0⟩:=by
 induction fuel with
 | zero=>intro _ r h;rw [g_r06_CallOf_L1.eq_1] at h;cases h
 | succ fuel ih =>
  intro i r h E hE
  rw [g_r06_CallOf_L1.eq_2] at h
  refine Runs.sA 2 [.code (C_84 208),.code (C_84 209),.code (C_84 105),.inLoop (C_84 52),.inBlock 0,.code (C_84 7)] ?_
  refine Runs.sR hE ⟨[(0,(encL TCall.cells TCall.d c)),(1,(aS name)),(5,(aI i)),(9,(aB (decide (i < ((c.length:Nat):Int)))))],[],64⟩ (C_84 208) [] [] (kp [0,1,5,9]) [] 64 [] trivial ?_
  refine Runs.sC 9 (C_84 418) (C_84 419) (decide (i < ((c.length:Nat):Int))) (fun hq2=>?_) (fun hq2=>?_)
  ·have h:=condT h hq2
   refine Runs.sA 4 [.code (C_84 840),.code (C_84 841),.inBlock 1,.code (C_84 211),.inLoop (C_84 52),.inBlock 0,.code (C_84 7)] ?_
   obtain ⟨c2,h⟩:=ifSome h
   refine Runs.sR hE ⟨[(0,(encL TCall.cells TCall.d c)),(1,(aS name)),(5,(aI i)),(18,(aB (streq ((c.getD ((i).toNat) TCall.d).f_Name) name)))],[],176⟩ (C_84 840) [] [] (kp [0,1,5,18]) [] 176 [0≤i∧i < ((c.length:Nat):Int)] ⟨c2,trivial⟩ ?_
   refine Runs.sC 18 (C_84 1682) (C_84 1683) (streq ((c.getD ((i).toNat) TCall.d).f_Name) name) (fun hq3=>?_) (fun hq3=>?_)
   ·have h:=condT h hq3
    refine Runs.sA 1 [.code (C_84 3364),.code (C_84 3365),.inBlock 1,.code (C_84 211),.inLoop (C_84 52),.inBlock 0,.code (C_84 7)] ?_
    refine Runs.sR hE ⟨[(4,(aI i))],[],208⟩ (C_84 3364) [] [] (kp [4]) [] 208 [] trivial ?_
    obtain rfl:=Option.some.inj h
    refine Runs.sW hE ⟨[(4,(aI i))],[],208⟩ [] (kp [4]) [] 208 [] trivial ?_
    exact Runs.sT Try.f46 [] [] trivial
   ·have h:=condF h hq3
    refine Runs.sA 2 [.code (C_84 211),.inLoop (C_84 52),.inBlock 0,.code (C_84 7)] ?_
    refine Runs.sR hE ⟨[(0,(encL TCall.cells TCall.d c)),(1,(aS name)),(5,(aI (w64 (i+1))))],[],224⟩ (C_84 211) [] [] (kp [0,1,5]) [] 224 [] trivial ?_
    refine Runs.sA 1 [.code (C_84 52),.inLoop (C_84 52),.inBlock 0,.code (C_84 7)] ?_
    exact Runs.sW hE _ [] (kp [0,1,5]) [] 0 [] trivial (ih (w64 (i+1)) _ h E hE)
  ·have h:=condF h hq2
   refine Runs.sA 2 [.code (C_84 14),.code (C_84 15)] ?_
   refine Runs.sR hE ⟨[(4,(aI (-1)))],[],80⟩ (C_84 14) [] [] (kp [4]) [] 80 [] trivial ?_
   obtain rfl:=Option.some.inj h
   refine Runs.sW hE ⟨[(4,(aI (-1)))],[],80⟩ [] (kp [4]) [] 80 [] trivial ?_
   exact Runs.sT Try.f46 [] [] trivial
theorem g_r06_CallOf_ok (N:Nat) (c:List TCall) (name:ByteArray) (r:Int) (h:g_r06_CallOf N c name=some r):Sound Try.prog 46 [(encL TCall.cells TCall.d c),(aS name)] [] 0 (aI r) []:=by
 unfold g_r06_CallOf at h
 refine Sound.of_runs (fu:=Try.f46) (c:=C_84 1) (nt:=20) (by kernel_rfl) (by kernel_rfl) (by kernel_rfl) (by kernel_rfl) (fun hm=>rfl) ?_
 intro E hE
 refine Runs.sA 1 [.code (C_84 2),.code (C_84 3)] ?_
 refine Runs.sR hE ⟨[(0,(encL TCall.cells TCall.d c)),(1,(aS name))],[],16⟩ (C_84 2) [] [] (kp [0,1]) [] 16 [] trivial ?_
 refine Runs.sA 2 [.code (C_84 12),.code (C_84 13),.code (C_84 7)] ?_
 refine Runs.sR hE ⟨[(0,(encL TCall.cells TCall.d c)),(1,(aS name)),(5,(aI 0))],[],32⟩ (C_84 12) [] [] (kp [0,1,5]) [] 32 [] trivial ?_
 refine Runs.sA 2 [.code (C_84 52),.inLoop (C_84 52),.inBlock 0,.code (C_84 7)] ?_
 exact Runs.sW hE _ [] (kp [0,1,5]) [] 0 [] trivial (g_r06_CallOf_L1_ok N c name N 0 _ h E hE)
end Go.Den
