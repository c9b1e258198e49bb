/- Each function of the program does what its Lean function computes (part 1). No conditions. -/
import Derived.Test.YthnmoifahladaaaTopShortestBallastDen
import Derived.Test.YthnmoifahladaaaProg
set_option linter.unusedVariables false
set_option maxRecDepth 100000
namespace Go.Den
open Go.Ab Go.Proofs
noncomputable def C_4 (n:Nat):Code:=cat (bodyOf Try.f45) (pth n)
theorem g_water_between_ok (N:Nat) (n:Int) (low:Int) (high:Int) (r:Bool) (h:g_water_between N n low high=some r):Sound Try.prog 45 [(aI n),(aI low),(aI high)] [] 0 (aB r) []:=by
 unfold g_water_between at h
 refine Sound.of_runs (fu:=Try.f45) (c:=C_4 1) (nt:=15) (by kernel_rfl) (by kernel_rfl) (by kernel_rfl) (by kernel_rfl) (fun hm=>rfl) ?_
 intro E hE
 refine Runs.nR hE 1 [] [] (kp [0,1,2]) [] 16 pn ?_
 refine Runs.nR hE 1 [] [] (kp [6]) [] 160 (pc (fun hg:(decide (n≥low))=true=>(pc hg (pc hg pn))) (pc (fun hq:(decide (n≥low))=true=>(pc hq pn)) pn)) ?_
 obtain rfl:=Option.some.inj h
 exact Runs.nT hE 0 Try.f45 [] (kp [6]) [] 160 pn [] pn
noncomputable def C_5 (n:Nat):Code:=cat (bodyOf Try.f54) (pth n)
theorem g_water_CheckPontoon_1_ok (N:Nat) (x:Int) (y:Int) (r:Bool) (h:g_water_CheckPontoon_1 N x y=some r):Sound Try.prog 54 [(aI x),(aI y)] [] 0 (aB r) []:=by
 unfold g_water_CheckPontoon_1 at h
 refine Sound.of_runs (fu:=Try.f54) (c:=C_5 1) (nt:=11) (by kernel_rfl) (by kernel_rfl) (by kernel_rfl) (by kernel_rfl) (fun hm=>rfl) ?_
 intro E hE
 refine Runs.nR hE 1 [] [] (kp [0,1]) [] 16 pn ?_
 obtain ⟨rbetween,hr,h⟩:=bindSome h
 obtain ⟨rbetween2,hr2,h⟩:=bindSome h
 refine Runs.nR hE 1 [(1,⟨[],true,(aB rbetween),[],0,false,none⟩),(4,⟨[],true,(aB rbetween2),[],0,false,none⟩)] [] (kp [4]) [] 128 (pc (g_water_between_ok N x (-1000000) 1000000 rbetween hr) (pc (fun hg:rbetween=true=>(pc (g_water_between_ok N y (-1000000) 1000000 rbetween2 (condT hr2 hg)) (pc hg pn))) (pc (fun hq:rbetween=true=>(pc hq pn)) pn))) ?_
 obtain rfl:=Option.some.inj h
 exact Runs.nT hE 0 Try.f54 [] (kp [4]) [] 128 pn [] pn
noncomputable def C_7 (n:Nat):Code:=cat (bodyOf Try.f56) (pth n)
theorem g_water_CheckPontoon_2_ok (N:Nat) (i:Int) (cap0:TPontoon) (r:ByteArray) (h:g_water_CheckPontoon_2 N i cap0=some r):Sound Try.prog 56 [(aI i),(.op 0 0 0)] [(0,vO 5 (TPontoon.cells cap0))] 1 (aS r) [(0,vO 5 (TPontoon.cells cap0))]:=by
 unfold g_water_CheckPontoon_2 at h
 refine Sound.of_runs (fu:=Try.f56) (c:=C_7 1) (nt:=10) (by kernel_rfl) (by kernel_rfl) (by kernel_rfl) (by kernel_rfl) (fun hm=>absurd hm (by decide)) ?_
 intro E hE
 refine Runs.nR hE 1 [] [] (kp [0,1]) (kq [0]) 17 pn ?_
 obtain ⟨c,h⟩:=ifSome h
 refine Runs.nR hE 1 [] [] (kp [3]) (kq [0]) 129 (pc o1 (pc c pn)) ?_
 obtain rfl:=Option.some.inj h
 exact Runs.nT hE 0 Try.f56 [] (kp [3]) (kq [0]) 129 pn [] pn
noncomputable def C_8 (n:Nat):Code:=cat (bodyOf Try.f75) (pth n)
def g_water_isName_L1_H (N:Nat) (s:ByteArray) (K:Int→Option (Bool)):Prop:=∀ (x:Int) (r:Bool),K x=some r→∀ E,EnvOk E 0→Runs Try.prog E 75 51 (SPost E [] (aB r)) [.code (C_8 116),.inLoop (C_8 116),.inBlock 0,.code (C_8 15)] ⟨[(11,(encL (cU .u8) 0 (bytesL s))),(12,(aI ((s.size:Nat):Int))),(13,(aI x))],[],0⟩
theorem g_water_isName_L1_ok (N:Nat) (s:ByteArray) (fuel:Nat):g_water_isName_L1_H N s (g_water_isName_L1 N s fuel):=by
 induction fuel with
 | zero=>intro _ r h;rw [g_water_isName_L1.eq_1] at h;cases h
 | succ fuel ih =>
  intro x r h E hE
  rw [g_water_isName_L1.eq_2] at h
  refine Runs.nR hE 1 [] [] (kp [11,12,13,14]) [] 16 pn ?_
  refine Runs.nC 1 14 h (fun hq3 h=>?_) (fun hq3 h=>?_)
  ·obtain ⟨c,h⟩:=ifSome h
   refine Runs.nR hE 4 [] [] (kp [3,4,11,12,13]) [] 96 (pc c pn) ?_
   refine Runs.nR hE 1 [] [] (kp [3,4,5,11,12,13]) [] 336 (pc (fun hg:(decide (((bytesL s).getD ((x).toNat) 0)≥97))=true=>(pc hg pn)) (pc (fun hq:(decide (((bytesL s).getD ((x).toNat) 0)≥97))=true=>(pc hq pn)) (pc (fun hg:(!(cond (decide (((bytesL s).getD ((x).toNat) 0)≥97)) (decide (((bytesL s).getD ((x).toNat) 0)≤122)) false))=true=>(pc hg pn)) (pc (fun hg:((!(cond (decide (((bytesL s).getD ((x).toNat) 0)≥97)) (decide (((bytesL s).getD ((x).toNat) 0)≤122)) false)) && ((!(cond (decide (((bytesL s).getD ((x).toNat) 0)≥97)) (decide (((bytesL s).getD ((x).toNat) 0)≤122)) false)) && (decide (((bytesL s).getD ((x).toNat) 0)≥65))))=true=>(pc hg pn)) (pc (fun hg:(!(cond (decide (((bytesL s).getD ((x).toNat) 0)≥97)) (decide (((bytesL s).getD ((x).toNat) 0)≤122)) false))=true=>(pc hg (pc hg (pc (fun hq:(decide (((bytesL s).getD ((x).toNat) 0)≥65))=true=>(pc (show ((!(cond (decide (((bytesL s).getD ((x).toNat) 0)≥97)) (decide (((bytesL s).getD ((x).toNat) 0)≤122)) false)) && ((!(cond (decide (((bytesL s).getD ((x).toNat) 0)≥97)) (decide (((bytesL s).getD ((x).toNat) 0)≤122)) false)) && (decide (((bytesL s).getD ((x).toNat) 0)≥65))))=true from (andI' hg (andI' hg hq))) pn)) pn)))) (pc (fun hq:(!(cond (decide (((bytesL s).getD ((x).toNat) 0)≥97)) (decide (((bytesL s).getD ((x).toNat) 0)≤122)) false))=true=>(pc hq pn)) pn)))))) ?_
   refine Runs.nR hE 1 [] [] (kp [11,12,13,49]) [] 624 (pc (fun hg:(!(cond (cond (decide (((bytesL s).getD ((x).toNat) 0)≥97)) (decide (((bytesL s).getD ((x).toNat) 0)≤122)) false) true (cond (decide (((bytesL s).getD ((x).toNat) 0)≥65)) (decide (((bytesL s).getD ((x).toNat) 0)≤90)) false)))=true=>(pc hg pn)) (pc (fun hg:((!(cond (cond (decide (((bytesL s).getD ((x).toNat) 0)≥97)) (decide (((bytesL s).getD ((x).toNat) 0)≤122)) false) true (cond (decide (((bytesL s).getD ((x).toNat) 0)≥65)) (decide (((bytesL s).getD ((x).toNat) 0)≤90)) false))) && ((!(cond (cond (decide (((bytesL s).getD ((x).toNat) 0)≥97)) (decide (((bytesL s).getD ((x).toNat) 0)≤122)) false) true (cond (decide (((bytesL s).getD ((x).toNat) 0)≥65)) (decide (((bytesL s).getD ((x).toNat) 0)≤90)) false))) && (!(x == 0))))=true=>(pc hg pn)) (pc (fun hg:(((!(cond (cond (decide (((bytesL s).getD ((x).toNat) 0)≥97)) (decide (((bytesL s).getD ((x).toNat) 0)≤122)) false) true (cond (decide (((bytesL s).getD ((x).toNat) 0)≥65)) (decide (((bytesL s).getD ((x).toNat) 0)≤90)) false))) && ((!(cond (cond (decide (((bytesL s).getD ((x).toNat) 0)≥97)) (decide (((bytesL s).getD ((x).toNat) 0)≤122)) false) true (cond (decide (((bytesL s).getD ((x).toNat) 0)≥65)) (decide (((bytesL s).getD ((x).toNat) 0)≤90)) false))) && (!(x == 0)))) && (((!(cond (cond (decide (((bytesL s).getD ((x).toNat) 0)≥97)) (decide (((bytesL s).getD ((x).toNat) 0)≤122)) false) true (cond (decide (((bytesL s).getD ((x).toNat) 0)≥65)) (decide (((bytesL s).getD ((x).toNat) 0)≤90)) false))) && ((!(cond (cond (decide (((bytesL s).getD ((x).toNat) 0)≥97)) (decide (((bytesL s).getD ((x).toNat) 0)≤122)) false) true (cond (decide (((bytesL s).getD ((x).toNat) 0)≥65)) (decide (((bytesL s).getD ((x).toNat) 0)≤90)) false))) && (!(x == 0)))) && (((bytesL s).getD ((x).toNat) 0) != 45)))=true=>(pc hg pn)) (pc (fun hg:((((!(cond (cond (decide (((bytesL s).getD ((x).toNat) 0)≥97)) (decide (((bytesL s).getD ((x).toNat) 0)≤122)) false) true (cond (decide (((bytesL s).getD ((x).toNat) 0)≥65)) (decide (((bytesL s).getD ((x).toNat) 0)≤90)) false))) && ((!(cond (cond (decide (((bytesL s).getD ((x).toNat) 0)≥97)) (decide (((bytesL s).getD ((x).toNat) 0)≤122)) false) true (cond (decide (((bytesL s).getD ((x).toNat) 0)≥65)) (decide (((bytesL s).getD ((x).toNat) 0)≤90)) false))) && (!(x == 0)))) && (((!(cond (cond (decide (((bytesL s).getD ((x).toNat) 0)≥97)) (decide (((bytesL s).getD ((x).toNat) 0)≤122)) false) true (cond (decide (((bytesL s).getD ((x).toNat) 0)≥65)) (decide (((bytesL s).getD ((x).toNat) 0)≤90)) false))) && ((!(cond (cond (decide (((bytesL s).getD ((x).toNat) 0)≥97)) (decide (((bytesL s).getD ((x).toNat) 0)≤122)) false) true (cond (decide (((bytesL s).getD ((x).toNat) 0)≥65)) (decide (((bytesL s).getD ((x).toNat) 0)≤90)) false))) && (!(x == 0)))) && (((bytesL s).getD ((x).toNat) 0) != 45))) && ((((!(cond (cond (decide (((bytesL s).getD ((x).toNat) 0)≥97)) (decide (((bytesL s).getD ((x).toNat) 0)≤122)) false) true (cond (decide (((bytesL s).getD ((x).toNat) 0)≥65)) (decide (((bytesL s).getD ((x).toNat) 0)≤90)) false))) && ((!(cond (cond (decide (((bytesL s).getD ((x).toNat) 0)≥97)) (decide (((bytesL s).getD ((x).toNat) 0)≤122)) false) true (cond (decide (((bytesL s).getD ((x).toNat) 0)≥65)) (decide (((bytesL s).getD ((x).toNat) 0)≤90)) false))) && (!(x == 0)))) && (((!(cond (cond (decide (((bytesL s).getD ((x).toNat) 0)≥97)) (decide (((bytesL s).getD ((x).toNat) 0)≤122)) false) true (cond (decide (((bytesL s).getD ((x).toNat) 0)≥65)) (decide (((bytesL s).getD ((x).toNat) 0)≤90)) false))) && ((!(cond (cond (decide (((bytesL s).getD ((x).toNat) 0)≥97)) (decide (((bytesL s).getD ((x).toNat) 0)≤122)) false) true (cond (decide (((bytesL s).getD ((x).toNat) 0)≥65)) (decide (((bytesL s).getD ((x).toNat) 0)≤90)) false))) && (!(x == 0)))) && (((bytesL s).getD ((x).toNat) 0) != 45))) && (!(decide (((bytesL s).getD ((x).toNat) 0) < 48)))))=true=>(pc hg pn)) (pc (fun hg:(((!(cond (cond (decide (((bytesL s).getD ((x).toNat) 0)≥97)) (decide (((bytesL s).getD ((x).toNat) 0)≤122)) false) true (cond (decide (((bytesL s).getD ((x).toNat) 0)≥65)) (decide (((bytesL s).getD ((x).toNat) 0)≤90)) false))) && ((!(cond (cond (decide (((bytesL s).getD ((x).toNat) 0)≥97)) (decide (((bytesL s).getD ((x).toNat) 0)≤122)) false) true (cond (decide (((bytesL s).getD ((x).toNat) 0)≥65)) (decide (((bytesL s).getD ((x).toNat) 0)≤90)) false))) && (!(x == 0)))) && (((!(cond (cond (decide (((bytesL s).getD ((x).toNat) 0)≥97)) (decide (((bytesL s).getD ((x).toNat) 0)≤122)) false) true (cond (decide (((bytesL s).getD ((x).toNat) 0)≥65)) (decide (((bytesL s).getD ((x).toNat) 0)≤90)) false))) && ((!(cond (cond (decide (((bytesL s).getD ((x).toNat) 0)≥97)) (decide (((bytesL s).getD ((x).toNat) 0)≤122)) false) true (cond (decide (((bytesL s).getD ((x).toNat) 0)≥65)) (decide (((bytesL s).getD ((x).toNat) 0)≤90)) false))) && (!(x == 0)))) && (((bytesL s).getD ((x).toNat) 0) != 45)))=true=>(pc hg (pc hg (pc (fun hq:(!(decide (((bytesL s).getD ((x).toNat) 0) < 48)))=true=>(pc (show ((((!(cond (cond (decide (((bytesL s).getD ((x).toNat) 0)≥97)) (decide (((bytesL s).getD ((x).toNat) 0)≤122)) false) true (cond (decide (((bytesL s).getD ((x).toNat) 0)≥65)) (decide (((bytesL s).getD ((x).toNat) 0)≤90)) false))) && ((!(cond (cond (decide (((bytesL s).getD ((x).toNat) 0)≥97)) (decide (((bytesL s).getD ((x).toNat) 0)≤122)) false) true (cond (decide (((bytesL s).getD ((x).toNat) 0)≥65)) (decide (((bytesL s).getD ((x).toNat) 0)≤90)) false))) && (!(x == 0)))) && (((!(cond (cond (decide (((bytesL s).getD ((x).toNat) 0)≥97)) (decide (((bytesL s).getD ((x).toNat) 0)≤122)) false) true (cond (decide (((bytesL s).getD ((x).toNat) 0)≥65)) (decide (((bytesL s).getD ((x).toNat) 0)≤90)) false))) && ((!(cond (cond (decide (((bytesL s).getD ((x).toNat) 0)≥97)) (decide (((bytesL s).getD ((x).toNat) 0)≤122)) false) true (cond (decide (((bytesL s).getD ((x).toNat) 0)≥65)) (decide (((bytesL s).getD ((x).toNat) 0)≤90)) false))) && (!(x == 0)))) && (((bytesL s).getD ((x).toNat) 0) != 45))) && ((((!(cond (cond (decide (((bytesL s).getD ((x).toNat) 0)≥97)) (decide (((bytesL s).getD ((x).toNat) 0)≤122)) false) true (cond (decide (((bytesL s).getD ((x).toNat) 0)≥65)) (decide (((bytesL s).getD ((x).toNat) 0)≤90)) false))) && ((!(cond (cond (decide (((bytesL s).getD ((x).toNat) 0)≥97)) (decide (((bytesL s).getD ((x).toNat) 0)≤122)) false) true (cond (decide (((bytesL s).getD ((x).toNat) 0)≥65)) (decide (((bytesL s).getD ((x).toNat) 0)≤90)) false))) && (!(x == 0)))) && (((!(cond (cond (decide (((bytesL s).getD ((x).toNat) 0)≥97)) (decide (((bytesL s).getD ((x).toNat) 0)≤122)) false) true (cond (decide (((bytesL s).getD ((x).toNat) 0)≥65)) (decide (((bytesL s).getD ((x).toNat) 0)≤90)) false))) && ((!(cond (cond (decide (((bytesL s).getD ((x).toNat) 0)≥97)) (decide (((bytesL s).getD ((x).toNat) 0)≤122)) false) true (cond (decide (((bytesL s).getD ((x).toNat) 0)≥65)) (decide (((bytesL s).getD ((x).toNat) 0)≤90)) false))) && (!(x == 0)))) && (((bytesL s).getD ((x).toNat) 0) != 45))) && (!(decide (((bytesL s).getD ((x).toNat) 0) < 48)))))=true from (andI' hg (andI' hg hq))) pn)) pn)))) (pc (fun hg:((!(cond (cond (decide (((bytesL s).getD ((x).toNat) 0)≥97)) (decide (((bytesL s).getD ((x).toNat) 0)≤122)) false) true (cond (decide (((bytesL s).getD ((x).toNat) 0)≥65)) (decide (((bytesL s).getD ((x).toNat) 0)≤90)) false))) && ((!(cond (cond (decide (((bytesL s).getD ((x).toNat) 0)≥97)) (decide (((bytesL s).getD ((x).toNat) 0)≤122)) false) true (cond (decide (((bytesL s).getD ((x).toNat) 0)≥65)) (decide (((bytesL s).getD ((x).toNat) 0)≤90)) false))) && (!(x == 0))))=true=>(pc hg (pc hg (pc (fun hq:(((bytesL s).getD ((x).toNat) 0) != 45)=true=>(pc (show (((!(cond (cond (decide (((bytesL s).getD ((x).toNat) 0)≥97)) (decide (((bytesL s).getD ((x).toNat) 0)≤122)) false) true (cond (decide (((bytesL s).getD ((x).toNat) 0)≥65)) (decide (((bytesL s).getD ((x).toNat) 0)≤90)) false))) && ((!(cond (cond (decide (((bytesL s).getD ((x).toNat) 0)≥97)) (decide (((bytesL s).getD ((x).toNat) 0)≤122)) false) true (cond (decide (((bytesL s).getD ((x).toNat) 0)≥65)) (decide (((bytesL s).getD ((x).toNat) 0)≤90)) false))) && (!(x == 0)))) && (((!(cond (cond (decide (((bytesL s).getD ((x).toNat) 0)≥97)) (decide (((bytesL s).getD ((x).toNat) 0)≤122)) false) true (cond (decide (((bytesL s).getD ((x).toNat) 0)≥65)) (decide (((bytesL s).getD ((x).toNat) 0)≤90)) false))) && ((!(cond (cond (decide (((bytesL s).getD ((x).toNat) 0)≥97)) (decide (((bytesL s).getD ((x).toNat) 0)≤122)) false) true (cond (decide (((bytesL s).getD ((x).toNat) 0)≥65)) (decide (((bytesL s).getD ((x).toNat) 0)≤90)) false))) && (!(x == 0)))) && (((bytesL s).getD ((x).toNat) 0) != 45)))=true from (andI' hg (andI' hg hq))) pn)) pn)))) (pc (fun hg:(!(cond (cond (decide (((bytesL s).getD ((x).toNat) 0)≥97)) (decide (((bytesL s).getD ((x).toNat) 0)≤122)) false) true (cond (decide (((bytesL s).getD ((x).toNat) 0)≥65)) (decide (((bytesL s).getD ((x).toNat) 0)≤90)) false)))=true=>(pc hg (pc hg (pc (fun hq:(!(x == 0))=true=>(pc (show ((!(cond (cond (decide (((bytesL s).getD ((x).toNat) 0)≥97)) (decide (((bytesL s).getD ((x).toNat) 0)≤122)) false) true (cond (decide (((bytesL s).getD ((x).toNat) 0)≥65)) (decide (((bytesL s).getD ((x).toNat) 0)≤90)) false))) && ((!(cond (cond (decide (((bytesL s).getD ((x).toNat) 0)≥97)) (decide (((bytesL s).getD ((x).toNat) 0)≤122)) false) true (cond (decide (((bytesL s).getD ((x).toNat) 0)≥65)) (decide (((bytesL s).getD ((x).toNat) 0)≤90)) false))) && (!(x == 0))))=true from (andI' hg (andI' hg hq))) pn)) pn)))) (pc (fun hq:(!(cond (cond (decide (((bytesL s).getD ((x).toNat) 0)≥97)) (decide (((bytesL s).getD ((x).toNat) 0)≤122)) false) true (cond (decide (((bytesL s).getD ((x).toNat) 0)≥65)) (decide (((bytesL s).getD ((x).toNat) 0)≤90)) false)))=true=>(pc hq pn)) pn)))))))) ?_
   refine Runs.nC 0 49 h (fun hq4 h=>?_) (fun hq4 h=>?_)
   ·refine Runs.nR hE 1 [] [] (kp [2]) [] 640 pn ?_
    obtain rfl:=Option.some.inj h
    exact Runs.nT hE 0 Try.f75 [] (kp [2]) [] 640 pn [] pn
   ·refine Runs.nR hE 2 [] [] (kp [11,12,13]) [] 656 pn ?_
    exact Runs.nW hE 1 [] (kp [11,12,13]) [] 0 pn (ih _ _ h E hE)
  ·refine Runs.nR hE 2 [] [] (kp [2]) [] 32 pn ?_
   obtain rfl:=Option.some.inj h
   exact Runs.nT hE 0 Try.f75 [] (kp [2]) [] 48 pn [] pn
theorem g_water_isName_ok (N:Nat) (s:ByteArray) (r:Bool) (h:g_water_isName N s=some r):Sound Try.prog 75 [(aS s)] [] 0 (aB r) []:=by
 unfold g_water_isName at h
 refine Sound.of_runs (fu:=Try.f75) (c:=C_8 1) (nt:=51) (by kernel_rfl) (by kernel_rfl) (by kernel_rfl) (by kernel_rfl) (fun hm=>rfl) ?_
 intro E hE
 refine Runs.nR hE 1 [] [] (kp [0]) [] 16 pn ?_
 obtain ⟨rbetween,hr,h⟩:=bindSome h
 refine Runs.nR hE 2 [(2,⟨[],true,(aB rbetween),[],0,false,none⟩)] [] (kp [0,9]) [] 80 (pc (g_water_between_ok N ((s.size:Nat):Int) 1 12 rbetween hr) pn) ?_
 refine Runs.nC 0 9 h (fun hq2 h=>?_) (fun hq2 h=>?_)
 ·refine Runs.nR hE 1 [] [] (kp [2]) [] 96 pn ?_
  obtain rfl:=Option.some.inj h
  exact Runs.nT hE 0 Try.f75 [] (kp [2]) [] 96 pn [] pn
 ·refine Runs.nR hE 3 [] [] ([(11,.sl ((bytesL s).length) (fun zi=>(cU .u8) ((bytesL s).getD zi 0)))] ++ kp [12,13]) [] 144 (pc (show s.size=(bytesL s).length from (bytesL_len s)) (pc (show ∀ zi,zi < (bytesL s).length→(fun zi=>(cU .u8) ((bytesL s).getD zi 0)) zi=(fun zi=>[.atom (.int .u8 (byteAt s zi))]) zi from (bytesL_get s)) pn)) ?_
  exact Runs.nW hE 2 [] (kp [11,12,13]) [] 0 pn (g_water_isName_L1_ok N _ N _ _ h E hE)
noncomputable def C_9 (n:Nat):Code:=cat (bodyOf Try.f57) (pth n)
theorem g_water_CheckPontoon_3_ok (N:Nat) (i:Int) (cap0:TPontoon) (r:Int) (h:g_water_CheckPontoon_3 N i cap0=some r):Sound Try.prog 57 [(aI i),(.op 0 0 0),(.op 1 0 0)] [(0,vO 5 (TPontoon.cells cap0)),(1,vO 1 [(.fn (.func 54) [] [])])] 2 (aI r) [(0,vO 5 (TPontoon.cells cap0)),(1,vO 1 [(.fn (.func 54) [] [])])]:=by
 unfold g_water_CheckPontoon_3 at h
 refine Sound.of_runs (fu:=Try.f57) (c:=C_9 1) (nt:=30) (by kernel_rfl) (by kernel_rfl) (by kernel_rfl) (by kernel_rfl) (fun hm=>absurd hm (by decide)) ?_
 intro E hE
 refine Runs.nR hE 1 [] [] (kp [0,1,2]) (kq [0,1]) 18 pn ?_
 obtain ⟨c,h⟩:=ifSome h
 refine Runs.nR hE 1 [] [] (kp [2,5]) (kq [0,1,98]) 130 (pc o1 (pc c (pc o1 pn))) ?_
 obtain ⟨rCheckPontoon,hr,h⟩:=bindSome h
 obtain ⟨rbetween,hr2,h⟩:=bindSome h
 obtain ⟨rbetween2,hr3,h⟩:=bindSome h
 refine Runs.nR hE 2 [(5,⟨[],true,(aB rCheckPontoon),[],0,false,none⟩),(10,⟨[],true,(aB rbetween),[],0,false,none⟩),(16,⟨[],true,(aB rbetween2),[],0,false,none⟩)] [] (kp [29]) (kq [0,1]) 434 (pc o1 (pc o1 (pc o1 (pc (g_water_CheckPontoon_1_ok N ((cap0.f_Tanks.getD ((i).toNat) TTank.d).f_X) ((cap0.f_Tanks.getD ((i).toNat) TTank.d).f_Y) rCheckPontoon hr) (pc (fun hg:(!(!rCheckPontoon))=true=>(pc hg (pc o1 pn))) (pc (fun hg:(!(!rCheckPontoon))=true=>(pc (g_water_between_ok N ((cap0.f_Tanks.getD ((i).toNat) TTank.d).f_Steps) 0 12 rbetween (condT hr2 hg)) (pc hg pn))) (pc (fun hg:(!(!rCheckPontoon))=true=>(pc hg pn)) (pc (fun hq:(!(!rCheckPontoon))=true=>(pc hq pn)) (pc (fun hg:(!(cond (!rCheckPontoon) true (!rbetween)))=true=>(pc hg (pc o1 pn))) (pc (fun hg:(!(cond (!rCheckPontoon) true (!rbetween)))=true=>(pc (g_water_between_ok N ((cap0.f_Tanks.getD ((i).toNat) TTank.d).f_Mass) 0 1000000000 rbetween2 (condT hr3 hg)) (pc hg pn))) (pc (fun hg:(!(cond (!rCheckPontoon) true (!rbetween)))=true=>(pc hg pn)) (pc (fun hq:(!(cond (!rCheckPontoon) true (!rbetween)))=true=>(pc hq pn)) pn)))))))))))) ?_
 refine Runs.nC 0 29 h (fun hq2 h=>?_) (fun hq2 h=>?_)
 ·refine Runs.nR hE 1 [] [] (kp [4]) (kq [0,1]) 450 pn ?_
  obtain rfl:=Option.some.inj h
  exact Runs.nT hE 0 Try.f57 [] (kp [4]) (kq [0,1]) 450 pn [] pn
 ·refine Runs.nR hE 2 [] [] (kp [4]) (kq [0,1]) 450 pn ?_
  obtain rfl:=Option.some.inj h
  exact Runs.nT hE 0 Try.f57 [] (kp [4]) (kq [0,1]) 450 pn [] pn
noncomputable def C_6 (n:Nat):Code:=cat (bodyOf Try.f55) (pth n)
def g_water_checkNamed_L1_H (N:Nat) (n:Int) (cap0:TPontoon) (K:(List (ByteArray×Bool))→Int→Option (Int)):Prop:=∀ (names:List (ByteArray×Bool)) (x:Int) (r:Int),K names x=some r→∀ E,EnvOk E 2→Runs Try.prog E 55 41 (SPost E [(0,vO 5 (TPontoon.cells cap0)),(1,vO 1 [(.fn (.func 54) [] [])])] (aI r)) [.code (C_6 244),.inLoop (C_6 244),.inBlock 0,.code (C_6 31)] ⟨[(2,(.fn (.func 56) [] [(.op 0 0 0)])),(3,(.fn (.func 57) [] [(.op 0 0 0),(.op 1 0 0)])),(9,(.mp 2)),(17,(aI n)),(18,(aI x))],[(0,vO 5 (TPontoon.cells cap0)),(1,vO 1 [(.fn (.func 54) [] [])]),(2,⟨false,0,0,true,fun _=>encM aS aB names⟩)],3⟩
theorem g_water_checkNamed_L1_ok (N:Nat) (n:Int) (cap0:TPontoon) (fuel:Nat):g_water_checkNamed_L1_H N n cap0 (g_water_checkNamed_L1 N n cap0 fuel):=by
 induction fuel with
 | zero=>intro _ _ r h;rw [g_water_checkNamed_L1.eq_1] at h;cases h
 | succ fuel ih =>
  intro names x r h E hE
  rw [g_water_checkNamed_L1.eq_2] at h
  refine Runs.nR hE 1 [] [] (kp [2,3,9,17,18,19]) (kq [0,1,2]) 19 pn ?_
  refine Runs.nC 1 19 h (fun hq3 h=>?_) (fun hq3 h=>?_)
  ·refine Runs.nR hE 4 [] [] (kp [2,3,9,10,17,18]) (kq [0,1,2]) 51 pn ?_
   obtain ⟨rCheckPontoon,hr,h⟩:=bindSome h
   refine Runs.nR hE 2 [(2,⟨[0],true,(aS rCheckPontoon),[],0,false,none⟩)] [] (kp [2,3,9,10,11,17,18]) (kq [0,1,2]) 115 (pc (g_water_CheckPontoon_2_ok N x cap0 rCheckPontoon hr) pn) ?_
   obtain ⟨risName,hr2,h⟩:=bindSome h
   refine Runs.nR hE 2 [(1,⟨[],true,(aB risName),[],0,false,none⟩)] [] (kp [2,3,9,10,11,17,18,26]) (kq [0,1,2]) 179 (pc (g_water_isName_ok N rCheckPontoon risName hr2) pn) ?_
   refine Runs.nC 0 26 h (fun hq4 h=>?_) (fun hq4 h=>?_)
   ·refine Runs.nR hE 1 [] [] (kp [8]) (kq [0,1]) 195 pn ?_
    obtain rfl:=Option.some.inj h
    exact Runs.nT hE 0 Try.f55 [] (kp [8]) (kq [0,1]) 195 pn [] pn
   ·refine Runs.nR hE 1 [(2,⟨[],true,(aB ((mGet streq names rCheckPontoon).getD false)),[],0,false,none⟩)] [] (kp [2,3,9,10,11,17,18,30]) (kq [0,1,2]) 243 (pc (show (Go.Ab.look Try.prog 9 (encM aS aB names) (aS rCheckPontoon)).map (fun zr=>zr.getD (ofConst (.bool false)))=some (aB ((mGet streq names rCheckPontoon).getD false)) from (look_get aS aB (d:=false) keyS rfl _ _)) pn) ?_
    refine Runs.nC 0 30 h (fun hq5 h=>?_) (fun hq5 h=>?_)
    ·refine Runs.nR hE 1 [] [] (kp [8]) (kq [0,1]) 259 pn ?_
     obtain rfl:=Option.some.inj h
     exact Runs.nT hE 0 Try.f55 [] (kp [8]) (kq [0,1]) 259 pn [] pn
    ·refine Runs.nR hE 0 [(2,⟨[],true,(.tup (encM aS aB (mPut streq names rCheckPontoon true))),[],0,false,none⟩)] [] (kp [2,3,9,10,17,18]) (kq [0,1,2]) 291 (pc (show Go.Ab.insA Try.prog 9 (encM aS aB names) (aS rCheckPontoon) (aB true)=some (encM aS aB (mPut streq names rCheckPontoon true)) from (insA_enc aS aB keyS _ _ _)) pn) ?_
     obtain ⟨rCheckPontoon2,hr3,h⟩:=bindSome h
     refine Runs.nR hE 2 [(2,⟨[0,1],true,(aI rCheckPontoon2),[],0,false,none⟩)] [] (kp [2,3,9,12,17,18]) (kq [0,1,2]) 355 (pc (g_water_CheckPontoon_3_ok N x cap0 rCheckPontoon2 hr3) pn) ?_
     refine Runs.nR hE 1 [] [] (kp [2,3,9,12,17,18,38]) (kq [0,1,2]) 387 pn ?_
     refine Runs.nC 0 38 h (fun hq6 h=>?_) (fun hq6 h=>?_)
     ·refine Runs.nR hE 1 [] [] (kp [8]) (kq [0,1]) 419 pn ?_
      obtain rfl:=Option.some.inj h
      exact Runs.nT hE 0 Try.f55 [] (kp [8]) (kq [0,1]) 419 pn [] pn
     ·refine Runs.nR hE 2 [] [] (kp [2,3,9,17,18]) (kq [0,1,2]) 419 pn ?_
      exact Runs.nW hE 1 [] (kp [2,3,9,17,18]) (kq [0,1,2]) 3 pn (ih _ _ _ h E hE)
  ·refine Runs.nR hE 2 [] [] (kp [8]) (kq [0,1]) 35 pn ?_
   obtain rfl:=Option.some.inj h
   exact Runs.nT hE 0 Try.f55 [] (kp [8]) (kq [0,1]) 50 pn [] pn
theorem g_water_checkNamed_ok (N:Nat) (n:Int) (most:Int) (cap0:TPontoon) (r:Int) (h:g_water_checkNamed N n most cap0=some r):Sound Try.prog 55 [(aI n),(aI most),(.fn (.func 56) [] [(.op 0 0 0)]),(.fn (.func 57) [] [(.op 0 0 0),(.op 1 0 0)])] [(0,vO 5 (TPontoon.cells cap0)),(1,vO 1 [(.fn (.func 54) [] [])])] 2 (aI r) [(0,vO 5 (TPontoon.cells cap0)),(1,vO 1 [(.fn (.func 54) [] [])])]:=by
 unfold g_water_checkNamed at h
 refine Sound.of_runs (fu:=Try.f55) (c:=C_6 1) (nt:=41) (by kernel_rfl) (by kernel_rfl) (by kernel_rfl) (by kernel_rfl) (fun hm=>absurd hm (by decide)) ?_
 intro E hE
 refine Runs.nR hE 1 [] [] (kp [0,1,2,3]) (kq [0,1]) 18 pn ?_
 refine Runs.nR hE 2 [] [] (kp [0,2,3,15]) (kq [0,1]) 66 pn ?_
 refine Runs.nC 0 15 h (fun hq2 h=>?_) (fun hq2 h=>?_)
 ·refine Runs.nR hE 1 [] [] (kp [8]) (kq [0,1]) 82 pn ?_
  obtain rfl:=Option.some.inj h
  exact Runs.nT hE 0 Try.f55 [] (kp [8]) (kq [0,1]) 82 pn [] pn
 ·refine Runs.nR hE 2 [] [] (kp [0,2,3,9]) (kq [0,1,66]) 98 pn ?_
  refine Runs.nR hE 2 [] [] (kp [2,3,9,17,18]) (kq [0,1,66]) 130 pn ?_
  exact Runs.nW hE 2 [] (kp [2,3,9,17,18]) (kq [0,1] ++ [(2,.keep 66)]) 3 pn (g_water_checkNamed_L1_ok N _ _ N _ _ _ h E hE)
noncomputable def C_3 (n:Nat):Code:=cat (bodyOf Try.f32) (pth n)
def g_water_CheckPontoon_L1_H (N:Nat) (p:TPontoon) (K:Int→Option (Int)):Prop:=∀ (x:Int) (r:Int),K x=some r→∀ E,EnvOk E 0→Runs Try.prog E 32 55 (SPost E [] (aI r)) [.code (C_3 244),.inLoop (C_3 244),.inBlock 1,.code (C_3 31)] ⟨[(1,(.op 0 0 0)),(3,(.op 1 0 0)),(29,(encL TPointMass.cells TPointMass.d p.f_Masses)),(30,(aI ((p.f_Masses.length:Nat):Int))),(31,(aI x))],[(0,vO 5 (TPontoon.cells p)),(1,vO 1 [(.fn (.func 54) [] [])])],2⟩
theorem g_water_CheckPontoon_L1_ok (N:Nat) (p:TPontoon) (fuel:Nat):g_water_CheckPontoon_L1_H N p (g_water_CheckPontoon_L1 N p fuel):=by
 induction fuel with
 | zero=>intro _ r h;rw [g_water_CheckPontoon_L1.eq_1] at h;cases h
 | succ fuel ih =>
  intro x r h E hE
  rw [g_water_CheckPontoon_L1.eq_2] at h
  refine Runs.nR hE 1 [] [] (kp [1,3,29,30,31,32]) (kq [0,1]) 18 pn ?_
  refine Runs.nC 1 32 h (fun hq4 h=>?_) (fun hq4 h=>?_)
  ·obtain ⟨c,h⟩:=ifSome h
   refine Runs.nR hE 4 [] [] (kp [1,3,5,29,30,31]) (kq [0,1,50]) 82 (pc c (pc o1 pn)) ?_
   obtain ⟨rCheckPontoon,hr4,h⟩:=bindSome h
   obtain ⟨rbetween4,hr5,h⟩:=bindSome h
   refine Runs.nR hE 1 [(5,⟨[],true,(aB rCheckPontoon),[],0,false,none⟩),(10,⟨[],true,(aB rbetween4),[],0,false,none⟩)] [] (kp [1,3,29,30,31,47]) (kq [0,1]) 290 (pc o1 (pc o1 (pc o1 (pc (g_water_CheckPontoon_1_ok N ((p.f_Masses.getD ((x).toNat) TPointMass.d).f_X) ((p.f_Masses.getD ((x).toNat) TPointMass.d).f_Y) rCheckPontoon hr4) (pc (fun hg:(!(!rCheckPontoon))=true=>(pc hg (pc o1 pn))) (pc (fun hg:(!(!rCheckPontoon))=true=>(pc (g_water_between_ok N ((p.f_Masses.getD ((x).toNat) TPointMass.d).f_Mass) 0 1000000000 rbetween4 (condT hr5 hg)) (pc hg pn))) (pc (fun hg:(!(!rCheckPontoon))=true=>(pc hg pn)) (pc (fun hq:(!(!rCheckPontoon))=true=>(pc hq pn)) pn)))))))) ?_
   refine Runs.nC 0 47 h (fun hq5 h=>?_) (fun hq5 h=>?_)
   ·refine Runs.nR hE 1 [] [] (kp [2]) [] 306 pn ?_
    obtain rfl:=Option.some.inj h
    exact Runs.nT hE 0 Try.f32 [] (kp [2]) [] 306 pn [] pn
   ·refine Runs.nR hE 2 [] [] (kp [1,3,29,30,31]) (kq [0,1]) 322 pn ?_
    exact Runs.nW hE 1 [] (kp [1,3,29,30,31]) (kq [0,1]) 2 pn (ih _ _ h E hE)
  ·obtain ⟨rcheckNamed,hr6,h⟩:=bindSome h
   refine Runs.nR hE 2 [(5,⟨[0,1],true,(aI rcheckNamed),[],0,false,none⟩)] [] (kp [2]) [] 130 (pc o1 (pc (g_water_checkNamed_ok N ((p.f_Tanks.length:Nat):Int) 6 p rcheckNamed hr6) pn)) ?_
   obtain rfl:=Option.some.inj h
   exact Runs.nT hE 0 Try.f32 [] (kp [2]) [] 130 pn [] pn
theorem g_water_CheckPontoon_ok (N:Nat) (p:TPontoon) (r:Int) (h:g_water_CheckPontoon N p=some r):Sound Try.prog 32 [(.agg (TPontoon.cells p))] [] 0 (aI r) []:=by
 unfold g_water_CheckPontoon at h
 refine Sound.of_runs (fu:=Try.f32) (c:=C_3 1) (nt:=55) (by kernel_rfl) (by kernel_rfl) (by kernel_rfl) (by kernel_rfl) (fun hm=>rfl) ?_
 intro E hE
 refine Runs.nR hE 1 [] [] (kp [1]) (kq [0]) 32 pn ?_
 refine Runs.nR hE 1 [] [] (kp [1,3]) (kq [0,32]) 64 (pc o1 pn) ?_
 obtain ⟨rbetween,hr,h⟩:=bindSome h
 obtain ⟨rbetween2,hr2,h⟩:=bindSome h
 obtain ⟨rbetween3,hr3,h⟩:=bindSome h
 refine Runs.nR hE 3 [(2,⟨[],true,(aB rbetween),[],0,false,none⟩),(7,⟨[],true,(aB rbetween2),[],0,false,none⟩),(13,⟨[],true,(aB rbetween3),[],0,false,none⟩)] [] (kp [1,3,6]) (kq [0,32]) 336 (pc o1 (pc (g_water_between_ok N p.f_Length 1 1000000 rbetween hr) (pc (fun hg:(!(!rbetween))=true=>(pc hg (pc o1 pn))) (pc (fun hg:(!(!rbetween))=true=>(pc (g_water_between_ok N p.f_Breadth 1 1000000 rbetween2 (condT hr2 hg)) (pc hg pn))) (pc (fun hg:(!(!rbetween))=true=>(pc hg pn)) (pc (fun hq:(!(!rbetween))=true=>(pc hq pn)) (pc (fun hg:(!(cond (!rbetween) true (!rbetween2)))=true=>(pc hg (pc o1 pn))) (pc (fun hg:(!(cond (!rbetween) true (!rbetween2)))=true=>(pc (g_water_between_ok N p.f_Density 900 1100 rbetween3 (condT hr3 hg)) (pc hg pn))) (pc (fun hg:(!(cond (!rbetween) true (!rbetween2)))=true=>(pc hg pn)) (pc (fun hq:(!(cond (!rbetween) true (!rbetween2)))=true=>(pc hq pn)) pn)))))))))) ?_
 refine Runs.nC 0 6 h (fun hq2 h=>?_) (fun hq2 h=>?_)
 ·refine Runs.nR hE 1 [] [] (kp [2]) [] 352 pn ?_
  obtain rfl:=Option.some.inj h
  exact Runs.nT hE 0 Try.f32 [] (kp [2]) [] 352 pn [] pn
 ·refine Runs.nR hE 1 [] [] (kp [1,3,23]) (kq [0,32]) 416 (pc o1 pn) ?_
  refine Runs.nC 0 23 h (fun hq3 h=>?_) (fun hq3 h=>?_)
  ·refine Runs.nR hE 1 [] [] (kp [2]) [] 432 pn ?_
   obtain rfl:=Option.some.inj h
   exact Runs.nT hE 0 Try.f32 [] (kp [2]) [] 432 pn [] pn
  ·refine Runs.nR hE 4 [] [] (kp [1,3,29,30,31]) (kq [0,32]) 480 (pc o1 pn) ?_
   exact Runs.nW hE 2 [] (kp [1,3,29,30,31]) (kq [0] ++ [(1,.keep 32)]) 2 pn (g_water_CheckPontoon_L1_ok N _ N _ _ h E hE)
noncomputable def C_10 (n:Nat):Code:=cat (bodyOf Try.f33) (pth n)
def g_water_checkSteps_L1_H (N:Nat) (p:TPontoon) (steps:List Int) (K:Twater_state→Int→Option (Twater_state×Int)):Prop:=∀ (out:Twater_state) (x:Int) (r:Twater_state×Int),K out x=some r→∀ E,EnvOk E 0→Runs Try.prog E 33 38 (SPost E [] (.tup [(.agg (Twater_state.cells r.1)),(aI r.2)])) [.code (C_10 244),.inLoop (C_10 244),.inBlock 0,.code (C_10 31)] ⟨[(2,(.op 0 0 0)),(4,(.op 1 0 0)),(6,(.op 2 0 0)),(16,(encL cI 0 steps)),(17,(aI ((steps.length:Nat):Int))),(18,(aI x))],[(0,vO 5 (TPontoon.cells p)),(1,vO 6 [(aI 0),(aI 0),(aI 0),(aI 0),(aI 0),(aI 0)]),(2,vO 6 (Twater_state.cells out))],3⟩
theorem g_water_checkSteps_L1_ok (N:Nat) (p:TPontoon) (steps:List Int) (fuel:Nat):g_water_checkSteps_L1_H N p steps (g_water_checkSteps_L1 N p steps fuel):=by
 induction fuel with
 | zero=>intro _ _ r h;rw [g_water_checkSteps_L1.eq_1] at h;cases h
 | succ fuel ih =>
  intro out x r h E hE
  rw [g_water_checkSteps_L1.eq_2] at h
  refine Runs.nR hE 1 [] [] (kp [2,4,6,16,17,18,19]) (kq [0,1,2]) 19 pn ?_
  refine Runs.nC 1 19 h (fun hq3 h=>?_) (fun hq3 h=>?_)
  ·obtain ⟨c,h⟩:=ifSome h
   refine Runs.nR hE 4 [] [] (kp [2,4,6,7,8,16,17,18]) (kq [0,1,2]) 99 (pc c pn) ?_
   obtain ⟨c2,h⟩:=ifSome h
   obtain ⟨rbetween,hr,h⟩:=bindSome h
   refine Runs.nR hE 2 [(7,⟨[],true,(aB rbetween),[],0,false,none⟩)] [] (kp [2,4,6,7,8,16,17,18,31]) (kq [0,1,2]) 243 (pc o1 (pc c2 (pc (g_water_between_ok N (steps.getD ((x).toNat) 0) 0 ((p.f_Tanks.getD ((x).toNat) TTank.d).f_Steps) rbetween hr) pn))) ?_
   refine Runs.nC 0 31 h (fun hq4 h=>?_) (fun hq4 h=>?_)
   ·refine Runs.nR hE 1 [] [] (kp [4,5]) (kq [1]) 291 (pc o1 pn) ?_
    obtain rfl:=Option.some.inj h
    exact Runs.nT hE 0 Try.f33 [] (kp [4,5]) [(16,.keep 1)] 291 pn [16] (pc o1 pn)
   ·obtain ⟨c3,h⟩:=ifSome h
    refine Runs.nR hE 1 [] [] (kp [2,4,6,16,17,18]) (kq [0,1,2]) 307 (pc c3 (pc o1 pn)) ?_
    refine Runs.nR hE 1 [] [] (kp [2,4,6,16,17,18]) (kq [0,1,2]) 339 pn ?_
    exact Runs.nW hE 1 [] (kp [2,4,6,16,17,18]) (kq [0,1,2]) 3 pn (ih _ _ _ h E hE)
  ·refine Runs.nR hE 2 [] [] (kp [4,5]) (kq [1]) 67 (pc o1 (pc o1 pn)) ?_
   obtain rfl:=Option.some.inj h
   exact Runs.nT hE 0 Try.f33 [] (kp [4,5]) [(16,.keep 1)] 67 pn [16] (pc o1 pn)
theorem g_water_checkSteps_ok (N:Nat) (p:TPontoon) (steps:List Int) (r:Twater_state×Int) (h:g_water_checkSteps N p steps=some r):Sound Try.prog 33 [(.agg (TPontoon.cells p)),(encL cI 0 steps)] [] 0 (.tup [(.agg (Twater_state.cells r.1)),(aI r.2)]) []:=by
 unfold g_water_checkSteps at h
 refine Sound.of_runs (fu:=Try.f33) (c:=C_10 1) (nt:=38) (by kernel_rfl) (by kernel_rfl) (by kernel_rfl) (by kernel_rfl) (fun hm=>rfl) ?_
 intro E hE
 refine Runs.nR hE 1 [] [] (kp [1,2,4]) (kq [0,16]) 48 pn ?_
 refine Runs.nR hE 1 [] [] (kp [1,2,4,6]) (kq [0,16,48]) 64 pn ?_
 refine Runs.nR hE 2 [] [] (kp [1,2,4,6,14]) (kq [0,16,48]) 160 (pc o1 pn) ?_
 refine Runs.nC 0 14 h (fun hq2 h=>?_) (fun hq2 h=>?_)
 ·refine Runs.nR hE 1 [] [] (kp [4,5]) (kq [16]) 208 (pc o1 (pc o1 pn)) ?_
  obtain rfl:=Option.some.inj h
  exact Runs.nT hE 0 Try.f33 [] (kp [4,5]) (kq [16]) 208 pn [16] (pc o1 pn)
 ·refine Runs.nR hE 3 [] [] (kp [2,4,6,16,17,18]) (kq [0,16,48]) 208 pn ?_
  exact Runs.nW hE 2 [] (kp [2,4,6,16,17,18]) (kq [0] ++ [(1,.keep 16),(2,.keep 48)]) 3 pn (g_water_checkSteps_L1_ok N _ _ N _ _ _ h E hE)
noncomputable def C_12 (n:Nat):Code:=cat (bodyOf Try.f58) (pth n)
theorem g_water_sumOf_1_ok (N:Nat) (x:Int) (y:Int) (mass:Int) (cap0:Twater_sums) (r:Twater_sums) (h:g_water_sumOf_1 N x y mass cap0=some r):Sound Try.prog 58 [(aI x),(aI y),(aI mass),(.op 0 0 0)] [(0,vO 4 (Twater_sums.cells cap0))] 1 (.tup []) [(0,vO 4 (Twater_sums.cells r))]:=by
 unfold g_water_sumOf_1 at h
 refine Sound.of_runs (fu:=Try.f58) (c:=C_12 1) (nt:=36) (by kernel_rfl) (by kernel_rfl) (by kernel_rfl) (by kernel_rfl) (fun hm=>absurd hm (by decide)) ?_
 intro E hE
 refine Runs.nR hE 1 [] [] (kp [0,1,2,3]) (kq [0]) 97 (pc o1 (pc o1 pn)) ?_
 refine Runs.nR hE 1 [] [] (kp [0,1,2,3]) (kq [0]) 225 (pc o1 (pc o1 pn)) ?_
 refine Runs.nR hE 1 [] [] (kp [0,2,3]) (kq [0]) 353 (pc o1 (pc o1 pn)) ?_
 refine Runs.nR hE 0 [] [] [] (kq [0]) 529 (pc o1 (pc o1 pn)) ?_
 obtain rfl:=Option.some.inj h
 exact Runs.nF hE 0 Try.f58 [] [] (kq [0]) 529 pn [] pn
noncomputable def C_11 (n:Nat):Code:=cat (bodyOf Try.f34) (pth n)
def g_water_sumOf_L1_H (N:Nat) (p:TPontoon) (s:Twater_state) (K:Twater_sums→Int→Option (Twater_sums)):Prop:=∀ (out:Twater_sums) (x:Int) (r:Twater_sums),K out x=some r→∀ E,EnvOk E 0→Runs Try.prog E 34 50 (SPost E [] (.agg (Twater_sums.cells r))) [.code (C_11 244),.inLoop (C_11 244),.inBlock 0,.code (C_11 31)] ⟨[(2,(.op 0 0 0)),(3,(.op 1 0 0)),(4,(.op 2 0 0)),(5,(.op 3 0 0)),(6,(.fn (.func 58) [] [(.op 3 0 0)])),(13,(encL TPointMass.cells TPointMass.d p.f_Masses)),(14,(aI ((p.f_Masses.length:Nat):Int))),(15,(aI x))],[(0,vO 5 (TPontoon.cells p)),(1,vO 6 (Twater_state.cells s)),(2,vO 4 [(aI 0),(aI 0),(aI 0),(aI 0)]),(3,vO 4 (Twater_sums.cells out))],4⟩
def g_water_sumOf_L2_H (N:Nat) (p:TPontoon) (s:Twater_state) (K:Twater_sums→Int→Option (Twater_sums)):Prop:=∀ (out2:Twater_sums) (x2:Int) (r:Twater_sums),K out2 x2=some r→∀ E,EnvOk E 0→Runs Try.prog E 34 50 (SPost E [] (.agg (Twater_sums.cells r))) [.code (C_11 500),.inLoop (C_11 500),.inBlock 2,.code (C_11 63)] ⟨[(3,(.op 0 0 0)),(4,(.op 1 0 0)),(5,(.op 2 0 0)),(6,(.fn (.func 58) [] [(.op 2 0 0)])),(29,(encL TTank.cells TTank.d p.f_Tanks)),(30,(aI ((p.f_Tanks.length:Nat):Int))),(31,(aI x2))],[(0,vO 6 (Twater_state.cells s)),(1,vO 4 [(aI 0),(aI 0),(aI 0),(aI 0)]),(2,vO 4 (Twater_sums.cells out2))],3⟩
theorem g_water_sumOf_L2_ok (N:Nat) (p:TPontoon) (s:Twater_state) (fuel:Nat):g_water_sumOf_L2_H N p s (g_water_sumOf_L2 N p s fuel):=by
 induction fuel with
 | zero=>intro _ _ r h;rw [g_water_sumOf_L2.eq_1] at h;cases h
 | succ fuel ih =>
  intro out2 x2 r h E hE
  rw [g_water_sumOf_L2.eq_2] at h
  refine Runs.nR hE 1 [] [] (kp [3,4,5,6,29,30,31,32]) (kq [0,1,2]) 19 pn ?_
  refine Runs.nC 1 32 h (fun hq3 h=>?_) (fun hq3 h=>?_)
  ·obtain ⟨c2,h⟩:=ifSome h
   refine Runs.nR hE 4 [] [] (kp [3,4,5,6,9,10,29,30,31]) (kq [0,1,2,67]) 115 (pc c2 (pc o1 pn)) ?_
   obtain ⟨c3,h⟩:=ifSome h
   obtain ⟨rsumOf12,hr2,h⟩:=bindSome h
   refine Runs.nR hE 0 [(11,⟨[2],false,(.tup []),[(0,vO 4 (Twater_sums.cells rsumOf12))],0,false,none⟩)] [] (kp [3,4,5,6,29,30,31]) (kq [0,1,2]) 307 (pc o1 (pc o1 (pc c3 (pc o1 (pc o1 (pc (g_water_sumOf_1_ok N ((p.f_Tanks.getD ((x2).toNat) TTank.d).f_X) ((p.f_Tanks.getD ((x2).toNat) TTank.d).f_Y) (w64 ((pickI [s.e0,s.e1,s.e2,s.e3,s.e4,s.e5] ((x2).toNat)) * (p.f_Tanks.getD ((x2).toNat) TTank.d).f_Mass)) out2 rsumOf12 hr2) pn)))))) ?_
   refine Runs.nR hE 1 [] [] (kp [3,4,5,6,29,30,31]) (kq [0,1,2]) 339 pn ?_
   exact Runs.nW hE 1 [] (kp [3,4,5,6,29,30,31]) (kq [0,1,2]) 3 pn (ih _ _ _ h E hE)
  ·refine Runs.nR hE 2 [] [] (kp [4]) (kq [1]) 51 (pc o1 (pc o1 pn)) ?_
   obtain rfl:=Option.some.inj h
   exact Runs.nT hE 0 Try.f34 [] (kp [4]) [(16,.keep 1)] 51 pn [16] (pc o1 pn)
theorem g_water_sumOf_L1_ok (N:Nat) (p:TPontoon) (s:Twater_state) (fuel:Nat):g_water_sumOf_L1_H N p s (g_water_sumOf_L1 N p s fuel):=by
 induction fuel with
 | zero=>intro _ _ r h;rw [g_water_sumOf_L1.eq_1] at h;cases h
 | succ fuel ih =>
  intro out x r h E hE
  rw [g_water_sumOf_L1.eq_2] at h
  refine Runs.nR hE 1 [] [] (kp [2,3,4,5,6,13,14,15,16]) (kq [0,1,2,3]) 20 pn ?_
  refine Runs.nC 1 16 h (fun hq2 h=>?_) (fun hq2 h=>?_)
  ·obtain ⟨c,h⟩:=ifSome h
   refine Runs.nR hE 4 [] [] (kp [2,3,4,5,6,8,13,14,15]) (kq [0,1,2,3,52]) 84 (pc c (pc o1 pn)) ?_
   obtain ⟨rsumOf1,hr,h⟩:=bindSome h
   refine Runs.nR hE 0 [(7,⟨[3],false,(.tup []),[(0,vO 4 (Twater_sums.cells rsumOf1))],0,false,none⟩)] [] (kp [2,3,4,5,6,13,14,15]) (kq [0,1,2,3]) 212 (pc o1 (pc o1 (pc o1 (pc (g_water_sumOf_1_ok N ((p.f_Masses.getD ((x).toNat) TPointMass.d).f_X) ((p.f_Masses.getD ((x).toNat) TPointMass.d).f_Y) ((p.f_Masses.getD ((x).toNat) TPointMass.d).f_Mass) out rsumOf1 hr) pn)))) ?_
   refine Runs.nR hE 1 [] [] (kp [2,3,4,5,6,13,14,15]) (kq [0,1,2,3]) 244 pn ?_
   exact Runs.nW hE 1 [] (kp [2,3,4,5,6,13,14,15]) (kq [0,1,2,3]) 4 pn (ih _ _ _ h E hE)
  ·refine Runs.nR hE 3 [] [] (kp [3,4,5,6,29,30,31]) (kq [1,2,3]) 84 (pc o1 pn) ?_
   exact Runs.nW hE 2 [] (kp [3,4,5,6,29,30,31]) [(0,.keep 1),(1,.keep 2),(2,.keep 3)] 3 pn (g_water_sumOf_L2_ok N _ _ N _ _ _ h E hE)
theorem g_water_sumOf_ok (N:Nat) (p:TPontoon) (s:Twater_state) (r:Twater_sums) (h:g_water_sumOf N p s=some r):Sound Try.prog 34 [(.agg (TPontoon.cells p)),(.agg (Twater_state.cells s))] [] 0 (.agg (Twater_sums.cells r)) []:=by
 unfold g_water_sumOf at h
 refine Sound.of_runs (fu:=Try.f34) (c:=C_11 1) (nt:=50) (by kernel_rfl) (by kernel_rfl) (by kernel_rfl) (by kernel_rfl) (fun hm=>rfl) ?_
 intro E hE
 refine Runs.nR hE 1 [] [] (kp [2,3,4]) (kq [0,16,32]) 48 pn ?_
 refine Runs.nR hE 1 [] [] (kp [2,3,4,5]) (kq [0,16,32,48]) 64 pn ?_
 refine Runs.nR hE 1 [] [] (kp [2,3,4,5,6]) (kq [0,16,32,48]) 96 pn ?_
 refine Runs.nR hE 2 [] [] (kp [2,3,4,5,6,13,14,15]) (kq [0,16,32,48]) 160 (pc o1 pn) ?_
 exact Runs.nW hE 2 [] (kp [2,3,4,5,6,13,14,15]) (kq [0] ++ [(1,.keep 16),(2,.keep 32),(3,.keep 48)]) 4 pn (g_water_sumOf_L1_ok N _ _ N _ _ _ h E hE)
noncomputable def C_15 (n:Nat):Code:=cat (bodyOf Try.f79) (pth n)
def g_e_natural_L1_H (N:Nat) (K:Int→(List Int)→Option ((List Int))):Prop:=∀ (n2:Int) (out:List Int) (r:(List Int)),K n2 out=some r→∀ E,EnvOk E 0→Runs Try.prog E 79 14 (SPost E [] (encL (cU .u16) 0 r)) [.code (C_15 56),.inLoop (C_15 56),.inBlock 0,.code (C_15 15)] ⟨[(0,(.atom (.int .u64 n2))),(3,(.os 0 0 out.length))],[(0,aO 1 (cU .u16) 0 out)],1⟩
theorem g_e_natural_L1_ok (N:Nat) (fuel:Nat):g_e_natural_L1_H N (g_e_natural_L1 N fuel):=by
 induction fuel with
 | zero=>intro _ _ r h;rw [g_e_natural_L1.eq_1] at h;cases h
 | succ fuel ih =>
  intro n2 out r h E hE
  rw [g_e_natural_L1.eq_2] at h
  refine Runs.nR hE 2 [] [] (kp [0,3,5]) (kq [0]) 33 pn ?_
  refine Runs.nC 0 5 h (fun hq2 h=>?_) (fun hq2 h=>?_)
  ·obtain ⟨c,h⟩:=ifSome h
   refine Runs.nR hE 3 [] [] (kp [0] ++ [(3,.osl ((out ++ ([(IntKind.u16.wrap (n2))]:List Int)).length))]) [(97,.arr 97 ((out ++ ([(IntKind.u16.wrap (n2))]:List Int)).length) (fun zi=>(cU .u16) ((out ++ ([(IntKind.u16.wrap (n2))]:List Int)).getD zi 0)))] 129 (pc (Eq.refl out.length) (pc c (pc (z1 1) (pc (show ∀ zi,zi < 1→AV.oneL ((fun zi=>([[(.atom (.int .u16 (IntKind.u16.wrap (n2))))]]:List (List AV)).getD zi []) (addz 0 zi))=true from (oneN rfl)) (pc (show (out.length+1)=(out ++ ([(IntKind.u16.wrap (n2))]:List Int)).length from (len_app_raw rfl rfl)) (pc (show out.length+1=(out ++ ([(IntKind.u16.wrap (n2))]:List Int)).length from (len_app_raw rfl rfl)) (pc (show ∀ zi,zi < (out ++ ([(IntKind.u16.wrap (n2))]:List Int)).length→(fun zi=>(cU .u16) ((out ++ ([(IntKind.u16.wrap (n2))]:List Int)).getD zi 0)) zi=((fun zm=>if zm < out.length then (fun zi=>(cU .u16) (out.getD zi 0)) zm else (fun zi=>([[(.atom (.int .u16 (IntKind.u16.wrap (n2))))]]:List (List AV)).getD zi []) (zm - out.length))) zi from (get_app_raw (cU .u16) 0 out ([(IntKind.u16.wrap (n2))]:List Int) rfl (fun _ _=>rfl) (fun zq hzq=>get_chunk (cU .u16) 0 ([(IntKind.u16.wrap (n2))]:List Int) zq hzq))) pn))))))) ?_
   refine Runs.nR hE 1 [] [] (kp [0,3]) (kq [97]) 177 (pc (show (0:Int)≤16 by decide) pn) ?_
   exact Runs.nW hE 1 [] (kp [0,3]) [(0,.keep 97)] 1 pn (ih _ _ _ h E hE)
  ·refine Runs.nR hE 2 [] [] (kp [2]) (kq [0]) 65 pn ?_
   obtain rfl:=Option.some.inj h
   exact Runs.nT hE 0 Try.f79 [0] [(2,.sl (out.length) (fun zi=>(cU .u16) (out.getD zi 0)))] [] 65 (pc (Eq.refl out.length) (pc (z1 out.length) (pc (show ∀ zi,zi < out.length→(fun zi=>(cU .u16) (out.getD zi 0)) zi=(fun zi=>(cU .u16) (out.getD zi 0)) (addz 0 zi) from (fun _ _=>rfl)) pn))) [] pn
theorem g_e_natural_ok (N:Nat) (n:Int) (r:(List Int)) (h:g_e_natural N n=some r):Sound Try.prog 79 [(.atom (.int .u64 n))] [] 0 (encL (cU .u16) 0 r) []:=by
 unfold g_e_natural at h
 refine Sound.of_runs (fu:=Try.f79) (c:=C_15 1) (nt:=14) (by kernel_rfl) (by kernel_rfl) (by kernel_rfl) (by kernel_rfl) (fun hm=>rfl) ?_
 intro E hE
 refine Runs.nR hE 1 [] [] (kp [0]) [] 16 pn ?_
 refine Runs.nR hE 1 [] [] (kp [0,3]) [] 32 pn ?_
 exact Runs.nW hE 3 [] (kp [0] ++ [(3,.nilos 0)]) [(0,.nil 1 (fun zi=>(cU .u16) (([]:List Int).getD zi 0)))] 1 pn (g_e_natural_L1_ok N N _ _ _ h E hE)
noncomputable def C_17 (n:Nat):Code:=cat (bodyOf Try.f39) (pth n)
def g_e_trim_L1_H (N:Nat) (K:(List Int)→Option ((List Int))):Prop:=∀ (n2:List Int) (r:(List Int)),K n2=some r→∀ E,EnvOk E 0→Runs Try.prog E 39 21 (SPost E [] (encL (cU .u16) 0 r)) [.code (C_17 24),.inLoop (C_17 24),.inBlock 0,.code (C_17 7)] ⟨[(0,(encL (cU .u16) 0 n2))],[],0⟩
theorem g_e_trim_L1_ok (N:Nat) (fuel:Nat):g_e_trim_L1_H N (g_e_trim_L1 N fuel):=by
 induction fuel with
 | zero=>intro _ r h;rw [g_e_trim_L1.eq_1] at h;cases h
 | succ fuel ih =>
  intro n2 r h E hE
  rw [g_e_trim_L1.eq_2] at h
  obtain ⟨c,h⟩:=ifSome h
  refine Runs.nR hE 2 [] [] (kp [0,14]) [] 192 (pc (fun hg:(decide (((n2.length:Nat):Int) > 0))=true=>(pc hg pn)) (pc (fun hg:(decide (((n2.length:Nat):Int) > 0))=true=>(pc hg pn)) (pc (fun hg:(decide (((n2.length:Nat):Int) > 0))=true=>(pc hg (pc hg (pc (c hg) pn)))) (pc (fun hg:(decide (((n2.length:Nat):Int) > 0))=true=>(pc hg pn)) (pc (fun hg:(decide (((n2.length:Nat):Int) > 0))=true=>(pc hg pn)) (pc (fun hq:(decide (((n2.length:Nat):Int) > 0))=true=>(pc hq pn)) pn)))))) ?_
  refine Runs.nC 0 14 h (fun hq2 h=>?_) (fun hq2 h=>?_)
  ·obtain ⟨c2,h⟩:=ifSome h
   obtain ⟨c3,h⟩:=ifSome h
   refine Runs.nR hE 2 [] [] [(0,.sl (((n2.take ((w64 (((n2.length:Nat):Int) - 1)).toNat)).drop 0).length) (fun zi=>(cU .u16) (((n2.take ((w64 (((n2.length:Nat):Int) - 1)).toNat)).drop 0).getD zi 0)))] [] 288 (pc c2 (pc c3 (pc (show (w64 (((n2.length:Nat):Int) - 1)).toNat - 0=((n2.take ((w64 (((n2.length:Nat):Int) - 1)).toNat)).drop 0).length from (len_ext' n2 0 ((w64 (((n2.length:Nat):Int) - 1)).toNat) c2)) (pc (show ∀ zi,zi < ((n2.take ((w64 (((n2.length:Nat):Int) - 1)).toNat)).drop 0).length→(fun zi=>(cU .u16) (((n2.take ((w64 (((n2.length:Nat):Int) - 1)).toNat)).drop 0).getD zi 0)) zi=(fun zi=>(cU .u16) (n2.getD (addz 0 zi) 0)) zi from (fun zq hzq=>get_ext (cU .u16) 0 n2 0 ((w64 (((n2.length:Nat):Int) - 1)).toNat) zq hzq)) pn)))) ?_
   exact Runs.nW hE 2 [] (kp [0]) [] 0 pn (ih _ _ h E hE)
  ·refine Runs.nR hE 2 [] [] (kp [2]) [] 224 pn ?_
   obtain rfl:=Option.some.inj h
   exact Runs.nT hE 0 Try.f39 [] (kp [2]) [] 224 pn [] pn
theorem g_e_trim_ok (N:Nat) (n:List Int) (r:(List Int)) (h:g_e_trim N n=some r):Sound Try.prog 39 [(encL (cU .u16) 0 n)] [] 0 (encL (cU .u16) 0 r) []:=by
 unfold g_e_trim at h
 refine Sound.of_runs (fu:=Try.f39) (c:=C_17 1) (nt:=21) (by kernel_rfl) (by kernel_rfl) (by kernel_rfl) (by kernel_rfl) (fun hm=>rfl) ?_
 intro E hE
 refine Runs.nR hE 1 [] [] (kp [0]) [] 16 pn ?_
 exact Runs.nW hE 3 [] (kp [0]) [] 0 pn (g_e_trim_L1_ok N N _ _ h E hE)
noncomputable def C_18 (n:Nat):Code:=cat (bodyOf Try.f86) (pth n)
theorem g_slices_Clone_uint16_uint16_ok (N:Nat) (s:List Int) (r:(List Int)) (h:g_slices_Clone_uint16_uint16 N s=some r):Sound Try.prog 86 [(encL (cU .u16) 0 s)] [] 0 (.os 0 0 r.length) [(0,aO 1 (cU .u16) 0 r)]:=by
 unfold g_slices_Clone_uint16_uint16 at h
 refine Sound.of_runs (fu:=Try.f86) (c:=C_18 1) (nt:=8) (by kernel_rfl) (by kernel_rfl) (by kernel_rfl) (by kernel_rfl) (fun hm=>rfl) ?_
 intro E hE
 refine Runs.nR hE 1 [] [] (kp [0]) [] 16 pn ?_
 refine Runs.nR hE 2 [] [] (kp [0,4]) [] 48 pn ?_
 refine Runs.sA 0 [.code (C_18 13),.code (C_18 7)] ?_
 refine Runs.condBn (o:=.tmp 4) (x:=C_18 26) (y:=C_18 27) (n:=s.length) (by kernel_rfl) (by kernel_rfl) (fun hq2=>?_) ?_
 ·replace hq2:=List.length_eq_zero_iff.1 hq2
  replace h:(some ([]:List Int))=some r:=by rw [hq2] at h;simpa using h
  refine Runs.nR hE 1 [] [] (kp [2]) [] 64 pn ?_
  obtain rfl:=Option.some.inj h
  exact Runs.nT hE 0 Try.f86 [] [(2,.nilos 0)] [(0,.nil 1 (fun zi=>(cU .u16) (([]:List Int).getD zi 0)))] 64 pn [] pn
 ·obtain ⟨c,h⟩:=ifSome h
  refine Runs.nR hE 2 [] [] [(2,.osl ((([]:List Int) ++ s).length))] [(80,.arr 80 ((([]:List Int) ++ s).length) (fun zi=>(cU .u16) ((([]:List Int) ++ s).getD zi 0)))] 112 (pc (Eq.refl 0) (pc c (pc (show ∀ zi,zi < s.length→AV.oneL ((fun zi=>(cU .u16) (s.getD zi 0)) zi)=true from (fun _ _=>rfl)) (pc (show (0+s.length)=(([]:List Int) ++ s).length from (len_app_raw rfl rfl)) (pc (show 0+s.length=(([]:List Int) ++ s).length from (len_app_raw rfl rfl)) (pc (show ∀ zi,zi < (([]:List Int) ++ s).length→(fun zi=>(cU .u16) ((([]:List Int) ++ s).getD zi 0)) zi=((fun zm=>if zm < 0 then (fun _=>[]) zm else (fun zi=>(cU .u16) (s.getD zi 0)) (zm - 0))) zi from (get_app_raw (cU .u16) 0 ([]:List Int) s rfl (fun zq hzq=>absurd hzq (Nat.not_lt_zero _)) (fun _ _=>rfl))) pn)))))) ?_
  obtain rfl:=Option.some.inj h
  exact Runs.nT hE 0 Try.f86 [] (kp [2]) [(0,.keep 80)] 112 pn [] pn
noncomputable def C_16 (n:Nat):Code:=cat (bodyOf Try.f70) (pth n)
theorem g_e_signed_ok (N:Nat) (neg:Bool) (n:List Int) (r:TInt) (h:g_e_signed N neg n=some r):Sound Try.prog 70 [(aB neg),(encL (cU .u16) 0 n)] [] 0 (.agg [(aB r.f_Neg),(.os 0 0 r.f_Limbs.length)]) [(0,aO 1 (cU .u16) 0 r.f_Limbs)]:=by
 unfold g_e_signed at h
 refine Sound.of_runs (fu:=Try.f70) (c:=C_16 1) (nt:=15) (by kernel_rfl) (by kernel_rfl) (by kernel_rfl) (by kernel_rfl) (fun hm=>rfl) ?_
 intro E hE
 refine Runs.nR hE 1 [] [] (kp [0,1,4]) (kq [0]) 16 pn ?_
 obtain ⟨rtrim,hr,h⟩:=bindSome h
 refine Runs.nR hE 1 [(1,⟨[],true,(encL (cU .u16) 0 rtrim),[],0,false,none⟩)] [] (kp [0,1,4]) (kq [0]) 64 (pc (g_e_trim_ok N n rtrim hr) pn) ?_
 refine Runs.nR hE 2 [] [] (kp [0,1,4,9]) (kq [0]) 112 pn ?_
 refine Runs.nC 0 9 h (fun hq2 h=>?_) (fun hq2 h=>?_)
 ·refine Runs.nR hE 1 [] [] (kp [4]) (kq [0]) 144 (pc o1 pn) ?_
  obtain rfl:=Option.some.inj h
  exact Runs.nT hE 0 Try.f70 [] (kp [4]) [(0,.nil 1 (fun zi=>(cU .u16) (([]:List Int).getD zi 0))),(16,.var 0 [.keep,.nilos 0])] 144 pn [16] (pc o1 pn)
 ·obtain ⟨rClone,hr2,h⟩:=bindSome h
  refine Runs.nR hE 2 [(2,⟨[],false,(.os 0 0 rClone.length),[(0,aO 1 (cU .u16) 0 rClone)],0,false,none⟩)] [] (kp [4]) (kq [0,144]) 192 (pc (g_slices_Clone_uint16_uint16_ok N rtrim rClone hr2) (pc o1 pn)) ?_
  obtain rfl:=Option.some.inj h
  exact Runs.nT hE 0 Try.f70 [] (kp [4]) [(0,.keep 144),(16,.var 0 [.keep,.keep])] 192 pn [16] (pc o1 pn)
noncomputable def C_14 (n:Nat):Code:=cat (bodyOf Try.f61) (pth n)
theorem g_e_Of_ok (N:Nat) (n:Int) (r:TInt) (h:g_e_Of N n=some r):Sound Try.prog 61 [(aI n)] [] 0 (.agg (TInt.cells r)) []:=by
 unfold g_e_Of at h
 refine Sound.of_runs (fu:=Try.f61) (c:=C_14 1) (nt:=14) (by kernel_rfl) (by kernel_rfl) (by kernel_rfl) (by kernel_rfl) (fun hm=>rfl) ?_
 intro E hE
 refine Runs.nR hE 1 [] [] (kp [0,2]) (kq [0]) 16 pn ?_
 refine Runs.nR hE 2 [] [] (kp [0,2,4]) (kq [0]) 48 pn ?_
 refine Runs.nC 0 4 h (fun hq2 h=>?_) (fun hq2 h=>?_)
 ·obtain ⟨rnatural,hr,h⟩:=bindSome h
  obtain ⟨rsigned,hr2,h⟩:=bindSome h
  refine Runs.nR hE 1 [(3,⟨[],true,(encL (cU .u16) 0 rnatural),[],0,false,none⟩),(4,⟨[],false,(.agg [(aB rsigned.f_Neg),(.os 0 0 rsigned.f_Limbs.length)]),[(0,aO 1 (cU .u16) 0 rsigned.f_Limbs)],0,false,none⟩)] [] (kp [2]) (kq [0,112]) 144 (pc (g_e_natural_ok N (IntKind.u64.wrap (0 - (IntKind.u64.wrap (n)))) rnatural hr) (pc (g_e_signed_ok N true rnatural rsigned hr2) (pc o1 pn))) ?_
  obtain rfl:=Option.some.inj h
  exact Runs.nT hE 0 Try.f61 [112] (kp [2]) [(16,.var 0 [.keep,.sl (rsigned.f_Limbs.length) (fun zi=>(cU .u16) (rsigned.f_Limbs.getD zi 0))])] 144 (pc (Eq.refl rsigned.f_Limbs.length) (pc (z1 rsigned.f_Limbs.length) (pc (show ∀ zi,zi < rsigned.f_Limbs.length→(fun zi=>(cU .u16) (rsigned.f_Limbs.getD zi 0)) zi=(fun zi=>(cU .u16) (rsigned.f_Limbs.getD zi 0)) (addz 0 zi) from (fun _ _=>rfl)) pn))) [16] (pc o1 pn)
 ·obtain ⟨rnatural2,hr3,h⟩:=bindSome h
  obtain ⟨rsigned2,hr4,h⟩:=bindSome h
  refine Runs.nR hE 2 [(2,⟨[],true,(encL (cU .u16) 0 rnatural2),[],0,false,none⟩),(3,⟨[],false,(.agg [(aB rsigned2.f_Neg),(.os 0 0 rsigned2.f_Limbs.length)]),[(0,aO 1 (cU .u16) 0 rsigned2.f_Limbs)],0,false,none⟩)] [] (kp [2]) (kq [0,96]) 128 (pc (g_e_natural_ok N (IntKind.u64.wrap (n)) rnatural2 hr3) (pc (g_e_signed_ok N false rnatural2 rsigned2 hr4) (pc o1 pn))) ?_
  obtain rfl:=Option.some.inj h
  exact Runs.nT hE 0 Try.f61 [96] (kp [2]) [(16,.var 0 [.keep,.sl (rsigned2.f_Limbs.length) (fun zi=>(cU .u16) (rsigned2.f_Limbs.getD zi 0))])] 128 (pc (Eq.refl rsigned2.f_Limbs.length) (pc (z1 rsigned2.f_Limbs.length) (pc (show ∀ zi,zi < rsigned2.f_Limbs.length→(fun zi=>(cU .u16) (rsigned2.f_Limbs.getD zi 0)) zi=(fun zi=>(cU .u16) (rsigned2.f_Limbs.getD zi 0)) (addz 0 zi) from (fun _ _=>rfl)) pn))) [16] (pc o1 pn)
noncomputable def C_22 (n:Nat):Code:=cat (bodyOf Try.f38) (pth n)
def g_e_word_L1_H (N:Nat) (n:List Int) (K:Int→Int→Option (Int×Bool)):Prop:=∀ (out:Int) (i:Int) (r:Int×Bool),K out i=some r→∀ E,EnvOk E 0→Runs Try.prog E 38 25 (SPost E [] (.tup [(.atom (.int .u64 r.1)),(aB r.2)])) [.code (C_22 244),.inLoop (C_22 244),.inBlock 0,.code (C_22 31)] ⟨[(0,(encL (cU .u16) 0 n)),(4,(.atom (.int .u64 out))),(5,(aI i))],[],0⟩
theorem g_e_word_L1_ok (N:Nat) (n:List Int) (fuel:Nat):g_e_word_L1_H N n (g_e_word_L1 N n fuel):=by
 induction fuel with
 | zero=>intro _ _ r h;rw [g_e_word_L1.eq_1] at h;cases h
 | succ fuel ih =>
  intro out i r h E hE
  rw [g_e_word_L1.eq_2] at h
  refine Runs.nR hE 2 [] [] (kp [0,4,5,13]) [] 32 pn ?_
  refine Runs.nC 0 13 h (fun hq3 h=>?_) (fun hq3 h=>?_)
  ·obtain ⟨c,h⟩:=ifSome h
   refine Runs.nR hE 3 [] [] (kp [0,4,5]) [] 176 (pc (show (0:Int)≤16 by decide) (pc c pn)) ?_
   refine Runs.nR hE 1 [] [] (kp [0,4,5]) [] 224 pn ?_
   exact Runs.nW hE 1 [] (kp [0,4,5]) [] 0 pn (ih _ _ _ h E hE)
  ·refine Runs.nR hE 2 [] [] (kp [2,3]) [] 80 pn ?_
   obtain rfl:=Option.some.inj h
   exact Runs.nT hE 0 Try.f38 [] (kp [2,3]) [] 80 pn [] pn
theorem g_e_word_ok (N:Nat) (n:List Int) (r:Int×Bool) (h:g_e_word N n=some r):Sound Try.prog 38 [(encL (cU .u16) 0 n)] [] 0 (.tup [(.atom (.int .u64 r.1)),(aB r.2)]) []:=by
 unfold g_e_word at h
 refine Sound.of_runs (fu:=Try.f38) (c:=C_22 1) (nt:=25) (by kernel_rfl) (by kernel_rfl) (by kernel_rfl) (by kernel_rfl) (fun hm=>rfl) ?_
 intro E hE
 refine Runs.nR hE 1 [] [] (kp [0]) [] 32 pn ?_
 refine Runs.nR hE 2 [] [] (kp [0,8]) [] 80 pn ?_
 refine Runs.nC 0 8 h (fun hq2 h=>?_) (fun hq2 h=>?_)
 ·refine Runs.nR hE 1 [] [] (kp [2,3]) [] 112 pn ?_
  obtain rfl:=Option.some.inj h
  exact Runs.nT hE 0 Try.f38 [] (kp [2,3]) [] 112 pn [] pn
 ·refine Runs.nR hE 2 [] [] (kp [0,4]) [] 96 pn ?_
  refine Runs.nR hE 2 [] [] (kp [0,4,5]) [] 160 pn ?_
  exact Runs.nW hE 2 [] (kp [0,4,5]) [] 0 pn (g_e_word_L1_ok N _ N _ _ _ h E hE)
noncomputable def C_24 (n:Nat):Code:=cat (bodyOf Try.f85) (pth n)
def g_e_compare_L1_H (N:Nat) (a:List Int) (b:List Int) (K:Int→Option (Int)):Prop:=∀ (i:Int) (r:Int),K i=some r→∀ E,EnvOk E 0→Runs Try.prog E 85 43 (SPost E [] (aI r)) [.code (C_24 116),.inLoop (C_24 116),.inBlock 0,.code (C_24 15)] ⟨[(0,(encL (cU .u16) 0 a)),(1,(encL (cU .u16) 0 b)),(5,(aI i))],[],0⟩
theorem g_e_compare_L1_ok (N:Nat) (a:List Int) (b:List Int) (fuel:Nat):g_e_compare_L1_H N a b (g_e_compare_L1 N a b fuel):=by
 induction fuel with
 | zero=>intro _ r h;rw [g_e_compare_L1.eq_1] at h;cases h
 | succ fuel ih =>
  intro i r h E hE
  rw [g_e_compare_L1.eq_2] at h
  refine Runs.nR hE 2 [] [] (kp [0,1,5,20]) [] 32 pn ?_
  refine Runs.nC 0 20 h (fun hq3 h=>?_) (fun hq3 h=>?_)
  ·obtain ⟨c,h⟩:=ifSome h
   obtain ⟨c2,h⟩:=ifSome h
   refine Runs.nR hE 4 [] [] (kp [0,1,5,31]) [] 176 (pc c (pc c2 pn)) ?_
   refine Runs.nC 0 31 h (fun hq4 h=>?_) (fun hq4 h=>?_)
   ·refine Runs.nR hE 1 [] [] (kp [4]) [] 368 (pc c (pc c2 pn)) ?_
    obtain rfl:=Option.some.inj h
    exact Runs.nT hE 0 Try.f85 [] (kp [4]) [] 368 pn [] pn
   ·refine Runs.nR hE 2 [] [] (kp [0,1,5]) [] 224 pn ?_
    exact Runs.nW hE 1 [] (kp [0,1,5]) [] 0 pn (ih _ _ h E hE)
  ·refine Runs.nR hE 2 [] [] (kp [4]) [] 48 pn ?_
   obtain rfl:=Option.some.inj h
   exact Runs.nT hE 0 Try.f85 [] (kp [4]) [] 48 pn [] pn
theorem g_e_compare_ok (N:Nat) (a:List Int) (b:List Int) (r:Int) (h:g_e_compare N a b=some r):Sound Try.prog 85 [(encL (cU .u16) 0 a),(encL (cU .u16) 0 b)] [] 0 (aI r) []:=by
 unfold g_e_compare at h
 refine Sound.of_runs (fu:=Try.f85) (c:=C_24 1) (nt:=43) (by kernel_rfl) (by kernel_rfl) (by kernel_rfl) (by kernel_rfl) (fun hm=>rfl) ?_
 intro E hE
 refine Runs.nR hE 1 [] [] (kp [0,1]) [] 16 pn ?_
 refine Runs.nR hE 2 [] [] (kp [0,1,10]) [] 96 pn ?_
 refine Runs.nC 0 10 h (fun hq2 h=>?_) (fun hq2 h=>?_)
 ·refine Runs.nR hE 1 [] [] (kp [4]) [] 192 pn ?_
  obtain rfl:=Option.some.inj h
  exact Runs.nT hE 0 Try.f85 [] (kp [4]) [] 192 pn [] pn
 ·refine Runs.nR hE 3 [] [] (kp [0,1,5]) [] 160 pn ?_
  exact Runs.nW hE 2 [] (kp [0,1,5]) [] 0 pn (g_e_compare_L1_ok N _ _ N _ _ h E hE)
noncomputable def C_25 (n:Nat):Code:=cat (bodyOf Try.f87) (pth n)
def g_e_short_L1_H (N:Nat) (a:List Int) (b:Int) (K:(List Int)→Int→Int→Option ((List Int)×Int)):Prop:=∀ (q:List Int) (rest:Int) (i:Int) (r:(List Int)×Int),K q rest i=some r→∀ E,EnvOk E 0→Runs Try.prog E 87 43 (SPost E [] (.tup [(encL (cU .u16) 0 r.1),(.atom (.int .u16 r.2))])) [.code (C_25 244),.inLoop (C_25 244),.inBlock 0,.code (C_25 31)] ⟨[(0,(encL (cU .u16) 0 a)),(1,(.atom (.int .u16 b))),(6,(.os 0 0 q.length)),(7,(.atom (.int .u32 rest))),(8,(aI i))],[(0,aO 1 (cU .u16) 0 q)],1⟩
theorem g_e_short_L1_ok (N:Nat) (a:List Int) (b:Int) (fuel:Nat):g_e_short_L1_H N a b (g_e_short_L1 N a b fuel):=by
 induction fuel with
 | zero=>intro _ _ _ r h;rw [g_e_short_L1.eq_1] at h;cases h
 | succ fuel ih =>
  intro q rest i r h E hE
  rw [g_e_short_L1.eq_2] at h
  refine Runs.nR hE 2 [] [] (kp [0,1,6,7,8,16]) (kq [0]) 33 pn ?_
  refine Runs.nC 0 16 h (fun hq2 h=>?_) (fun hq2 h=>?_)
  ·obtain ⟨c2,h⟩:=ifSome h
   refine Runs.nR hE 4 [] [] (kp [0,1,6,7,8]) (kq [0]) 177 (pc (show (0:Int)≤16 by decide) (pc c2 pn)) ?_
   obtain ⟨c3,h⟩:=ifSome h
   obtain ⟨c4,h⟩:=ifSome h
   refine Runs.nR hE 1 [] [] (kp [0,1] ++ [(6,.osl ((q.set ((i).toNat) (IntKind.u16.wrap ((IntKind.u32.wrap ((orI .u32 (shlI .u32 rest 16) (IntKind.u32.wrap ((a.getD ((i).toNat) 0)))).tdiv (IntKind.u32.wrap (b))))))).length))] ++ kp [7,8]) [(0,.arr 0 ((q.set ((i).toNat) (IntKind.u16.wrap ((IntKind.u32.wrap ((orI .u32 (shlI .u32 rest 16) (IntKind.u32.wrap ((a.getD ((i).toNat) 0)))).tdiv (IntKind.u32.wrap (b))))))).length) (fun zi=>(cU .u16) ((q.set ((i).toNat) (IntKind.u16.wrap ((IntKind.u32.wrap ((orI .u32 (shlI .u32 rest 16) (IntKind.u32.wrap ((a.getD ((i).toNat) 0)))).tdiv (IntKind.u32.wrap (b))))))).getD zi 0)))] 321 (pc c3 (pc c4 (pc (ltOf c4) (pc (len_set0 q ((i).toNat) (IntKind.u16.wrap ((IntKind.u32.wrap ((orI .u32 (shlI .u32 rest 16) (IntKind.u32.wrap ((a.getD ((i).toNat) 0)))).tdiv (IntKind.u32.wrap (b))))))) (pc (len_set0 q ((i).toNat) (IntKind.u16.wrap ((IntKind.u32.wrap ((orI .u32 (shlI .u32 rest 16) (IntKind.u32.wrap ((a.getD ((i).toNat) 0)))).tdiv (IntKind.u32.wrap (b))))))) (pc (get_set0 (cU .u16) 0 q ((i).toNat) (IntKind.u16.wrap ((IntKind.u32.wrap ((orI .u32 (shlI .u32 rest 16) (IntKind.u32.wrap ((a.getD ((i).toNat) 0)))).tdiv (IntKind.u32.wrap (b))))))) pn)))))) ?_
   refine Runs.nR hE 0 [] [] (kp [0,1,6,7,8]) (kq [0]) 401 (pc c3 pn) ?_
   refine Runs.nR hE 1 [] [] (kp [0,1,6,7,8]) (kq [0]) 449 pn ?_
   exact Runs.nW hE 1 [] (kp [0,1,6,7,8]) (kq [0]) 1 pn (ih _ _ _ _ h E hE)
  ·obtain ⟨rtrim,hr,h⟩:=bindSome h
   refine Runs.nR hE 2 [(1,⟨[],true,(encL (cU .u16) 0 rtrim),[],0,true,none⟩)] [] (kp [4,5]) [] 129 (pc (g_e_trim_ok N q rtrim hr) (pc (z1 q.length) pn)) ?_
   obtain rfl:=Option.some.inj h
   exact Runs.nT hE 0 Try.f87 [] (kp [4,5]) [] 129 pn [] pn
theorem g_e_short_ok (N:Nat) (a:List Int) (b:Int) (r:(List Int)×Int) (h:g_e_short N a b=some r):Sound Try.prog 87 [(encL (cU .u16) 0 a),(.atom (.int .u16 b))] [] 0 (.tup [(encL (cU .u16) 0 r.1),(.atom (.int .u16 r.2))]) []:=by
 unfold g_e_short at h
 refine Sound.of_runs (fu:=Try.f87) (c:=C_25 1) (nt:=43) (by kernel_rfl) (by kernel_rfl) (by kernel_rfl) (by kernel_rfl) (fun hm=>rfl) ?_
 intro E hE
 refine Runs.nR hE 1 [] [] (kp [0,1]) [] 32 pn ?_
 obtain ⟨c,h⟩:=ifSome h
 refine Runs.nR hE 1 [] [] (kp [0,1] ++ [(6,.osl ((List.replicate a.length 0:List Int).length))]) [(64,.arr 64 ((List.replicate a.length 0:List Int).length) (fun zi=>(cU .u16) ((List.replicate a.length 0:List Int).getD zi 0)))] 96 (pc (show 0≤((a.length:Nat):Int) from c.1) (pc (show ((a.length:Nat):Int)≤((a.length:Nat):Int) from (Int.le_refl _)) (pc (show (2:Int) * ((a.length:Nat):Int)≤281474976710656 from c.2.1) (pc (show ((a.length:Nat):Int)≤9223372036854775807 from c.2.2) (pc (show a.length=(List.replicate a.length 0:List Int).length from (List.length_replicate).symm) (pc (show a.length=(List.replicate a.length 0:List Int).length from (List.length_replicate).symm) (pc (show ∀ zi,zi < (List.replicate a.length 0:List Int).length→(fun zi=>(cU .u16) ((List.replicate a.length 0:List Int).getD zi 0)) zi=(fun _=>[(.atom (.int .u16 0))]) zi from (fun zq hzq=>get_rep (cU .u16) 0 0 a.length zq hzq)) pn))))))) ?_
 refine Runs.nR hE 1 [] [] (kp [0,1,6,7]) (kq [64]) 112 pn ?_
 refine Runs.nR hE 2 [] [] (kp [0,1,6,7,8]) (kq [64]) 176 pn ?_
 exact Runs.nW hE 2 [] (kp [0,1,6,7,8]) [(0,.keep 64)] 1 pn (g_e_short_L1_ok N _ _ N _ _ _ _ h E hE)
noncomputable def C_27 (n:Nat):Code:=cat (bodyOf Try.f93) (pth n)
def g_math_bits_Len16_J1_H (N:Nat) (K:Int→Int→Option (Int)):Prop:=∀ (x2:Int) (n:Int) (r:Int),K x2 n=some r→∀ E,EnvOk E 0→Runs Try.prog E 93 13 (SPost E [] (aI r)) [.code (C_27 14),.code (C_27 15)] ⟨[(0,(.atom (.int .u16 x2))),(2,(aI n))],[],0⟩
theorem g_math_bits_Len16_J1_ok (N:Nat):g_math_bits_Len16_J1_H N (g_math_bits_Len16_J1 N):=by
 intro x2 n r h E hE
 unfold g_math_bits_Len16_J1 at h
 obtain ⟨c,h⟩:=ifSome h
 refine Runs.nR hE 0 [] [] (kp [2]) [] 112 (pc c pn) ?_
 obtain rfl:=Option.some.inj h
 exact Runs.nT hE 0 Try.f93 [] (kp [2]) [] 112 pn [] pn
theorem g_math_bits_Len16_ok (N:Nat) (x:Int) (r:Int) (h:g_math_bits_Len16 N x=some r):Sound Try.prog 93 [(.atom (.int .u16 x))] [] 0 (aI r) []:=by
 unfold g_math_bits_Len16 at h
 refine Sound.of_runs (fu:=Try.f93) (c:=C_27 1) (nt:=13) (by kernel_rfl) (by kernel_rfl) (by kernel_rfl) (by kernel_rfl) (fun hm=>rfl) ?_
 intro E hE
 refine Runs.nR hE 1 [] [] (kp [0,2]) [] 16 pn ?_
 refine Runs.nR hE 2 [] [] (kp [0,2,4]) [] 48 pn ?_
 refine Runs.nC 0 4 h (fun hq2 h=>?_) (fun hq2 h=>?_)
 ·refine Runs.nR hE 1 [] [] (kp [0]) [] 96 (pc (show (0:Int)≤8 by decide) pn) ?_
  refine Runs.nR hE 0 [] [] (kp [0,2]) [] 112 pn ?_
  exact Runs.nW hE 1 [] (kp [0,2]) [] 0 pn (g_math_bits_Len16_J1_ok N _ _ _ h E hE)
 ·exact Runs.nW hE 2 [] (kp [0,2]) [] 0 pn (g_math_bits_Len16_J1_ok N _ _ _ h E hE)
noncomputable def C_26 (n:Nat):Code:=cat (bodyOf Try.f88) (pth n)
theorem g_math_bits_LeadingZeros16_ok (N:Nat) (x:Int) (r:Int) (h:g_math_bits_LeadingZeros16 N x=some r):Sound Try.prog 88 [(.atom (.int .u16 x))] [] 0 (aI r) []:=by
 unfold g_math_bits_LeadingZeros16 at h
 refine Sound.of_runs (fu:=Try.f88) (c:=C_26 1) (nt:=6) (by kernel_rfl) (by kernel_rfl) (by kernel_rfl) (by kernel_rfl) (fun hm=>rfl) ?_
 intro E hE
 refine Runs.nR hE 1 [] [] (kp [0]) [] 16 pn ?_
 obtain ⟨rLen16,hr,h⟩:=bindSome h
 refine Runs.nR hE 1 [(1,⟨[],true,(aI rLen16),[],0,false,none⟩)] [] (kp [2]) [] 80 (pc (g_math_bits_Len16_ok N x rLen16 hr) pn) ?_
 obtain rfl:=Option.some.inj h
 exact Runs.nT hE 0 Try.f88 [] (kp [2]) [] 80 pn [] pn
noncomputable def C_28 (n:Nat):Code:=cat (bodyOf Try.f89) (pth n)
def g_e_shifted_L1_H (N:Nat) (a:List Int) (vby:Int) (K:(List Int)→Int→Option ((List Int))):Prop:=∀ (out:List Int) (x:Int) (r:(List Int)),K out x=some r→∀ E,EnvOk E 0→Runs Try.prog E 89 41 (SPost E [(0,aO 1 (cU .u16) 0 r)] (.os 0 0 r.length)) [.code (C_28 116),.inLoop (C_28 116),.inBlock 0,.code (C_28 15)] ⟨[(1,(aI vby)),(5,(.os 0 0 out.length)),(13,(encL (cU .u16) 0 a)),(14,(aI ((a.length:Nat):Int))),(15,(aI x))],[(0,aO 1 (cU .u16) 0 out)],1⟩
theorem g_e_shifted_L1_ok (N:Nat) (a:List Int) (vby:Int) (fuel:Nat):g_e_shifted_L1_H N a vby (g_e_shifted_L1 N a vby fuel):=by
 induction fuel with
 | zero=>intro _ _ r h;rw [g_e_shifted_L1.eq_1] at h;cases h
 | succ fuel ih =>
  intro out x r h E hE
  rw [g_e_shifted_L1.eq_2] at h
  refine Runs.nR hE 1 [] [] (kp [1,5,13,14,15,16]) (kq [0]) 17 pn ?_
  refine Runs.nC 1 16 h (fun hq2 h=>?_) (fun hq2 h=>?_)
  ·obtain ⟨c2,h⟩:=ifSome h
   refine Runs.nR hE 4 [] [] (kp [1,5,6,7,13,14,15]) (kq [0]) 97 (pc c2 pn) ?_
   obtain ⟨c3,h⟩:=ifSome h
   refine Runs.nR hE 1 [] [] (kp [1,5,6,8,13,14,15]) (kq [0]) 177 (pc c3 pn) ?_
   obtain ⟨c4,h⟩:=ifSome h
   refine Runs.nR hE 1 [] [] (kp [1] ++ [(5,.osl ((out.set ((x).toNat) (orI .u16 (out.getD ((x).toNat) 0) (IntKind.u16.wrap ((shlI .u32 (IntKind.u32.wrap ((a.getD ((x).toNat) 0))) vby))))).length))] ++ kp [6,8,13,14,15]) [(0,.arr 0 ((out.set ((x).toNat) (orI .u16 (out.getD ((x).toNat) 0) (IntKind.u16.wrap ((shlI .u32 (IntKind.u32.wrap ((a.getD ((x).toNat) 0))) vby))))).length) (fun zi=>(cU .u16) ((out.set ((x).toNat) (orI .u16 (out.getD ((x).toNat) 0) (IntKind.u16.wrap ((shlI .u32 (IntKind.u32.wrap ((a.getD ((x).toNat) 0))) vby))))).getD zi 0)))] 321 (pc c4 (pc (ltOf c4) (pc c4 (pc (ltOf c4) (pc (len_set0 out ((x).toNat) (orI .u16 (out.getD ((x).toNat) 0) (IntKind.u16.wrap ((shlI .u32 (IntKind.u32.wrap ((a.getD ((x).toNat) 0))) vby))))) (pc (len_set0 out ((x).toNat) (orI .u16 (out.getD ((x).toNat) 0) (IntKind.u16.wrap ((shlI .u32 (IntKind.u32.wrap ((a.getD ((x).toNat) 0))) vby))))) (pc (get_set0 (cU .u16) 0 out ((x).toNat) (orI .u16 (out.getD ((x).toNat) 0) (IntKind.u16.wrap ((shlI .u32 (IntKind.u32.wrap ((a.getD ((x).toNat) 0))) vby))))) pn))))))) ?_
   obtain ⟨c5,h⟩:=ifSome h
   refine Runs.nR hE 0 [] [] (kp [1] ++ [(5,.osl (((out.set ((x).toNat) (orI .u16 (out.getD ((x).toNat) 0) (IntKind.u16.wrap ((shlI .u32 (IntKind.u32.wrap ((a.getD ((x).toNat) 0))) vby))))).set ((w64 (x+1)).toNat) (IntKind.u16.wrap ((shrI .u32 (shlI .u32 (IntKind.u32.wrap ((a.getD ((x).toNat) 0))) vby) 16)))).length))] ++ kp [13,14,15]) [(0,.arr 0 (((out.set ((x).toNat) (orI .u16 (out.getD ((x).toNat) 0) (IntKind.u16.wrap ((shlI .u32 (IntKind.u32.wrap ((a.getD ((x).toNat) 0))) vby))))).set ((w64 (x+1)).toNat) (IntKind.u16.wrap ((shrI .u32 (shlI .u32 (IntKind.u32.wrap ((a.getD ((x).toNat) 0))) vby) 16)))).length) (fun zi=>(cU .u16) (((out.set ((x).toNat) (orI .u16 (out.getD ((x).toNat) 0) (IntKind.u16.wrap ((shlI .u32 (IntKind.u32.wrap ((a.getD ((x).toNat) 0))) vby))))).set ((w64 (x+1)).toNat) (IntKind.u16.wrap ((shrI .u32 (shlI .u32 (IntKind.u32.wrap ((a.getD ((x).toNat) 0))) vby) 16)))).getD zi 0)))] 449 (pc (show (0:Int)≤16 by decide) (pc c5 (pc (ltOf c5) (pc (len_set0 (out.set ((x).toNat) (orI .u16 (out.getD ((x).toNat) 0) (IntKind.u16.wrap ((shlI .u32 (IntKind.u32.wrap ((a.getD ((x).toNat) 0))) vby))))) ((w64 (x+1)).toNat) (IntKind.u16.wrap ((shrI .u32 (shlI .u32 (IntKind.u32.wrap ((a.getD ((x).toNat) 0))) vby) 16)))) (pc (len_set0 (out.set ((x).toNat) (orI .u16 (out.getD ((x).toNat) 0) (IntKind.u16.wrap ((shlI .u32 (IntKind.u32.wrap ((a.getD ((x).toNat) 0))) vby))))) ((w64 (x+1)).toNat) (IntKind.u16.wrap ((shrI .u32 (shlI .u32 (IntKind.u32.wrap ((a.getD ((x).toNat) 0))) vby) 16)))) (pc (get_set0 (cU .u16) 0 (out.set ((x).toNat) (orI .u16 (out.getD ((x).toNat) 0) (IntKind.u16.wrap ((shlI .u32 (IntKind.u32.wrap ((a.getD ((x).toNat) 0))) vby))))) ((w64 (x+1)).toNat) (IntKind.u16.wrap ((shrI .u32 (shlI .u32 (IntKind.u32.wrap ((a.getD ((x).toNat) 0))) vby) 16)))) pn)))))) ?_
   refine Runs.nR hE 1 [] [] (kp [1,5,13,14,15]) (kq [0]) 481 pn ?_
   exact Runs.nW hE 1 [] (kp [1,5,13,14,15]) (kq [0]) 1 pn (ih _ _ _ h E hE)
  ·refine Runs.nR hE 2 [] [] (kp [4]) (kq [0]) 49 pn ?_
   obtain rfl:=Option.some.inj h
   exact Runs.nT hE 0 Try.f89 [] (kp [4]) (kq [0]) 49 pn [] pn
theorem g_e_shifted_ok (N:Nat) (a:List Int) (vby:Int) (r:(List Int)) (h:g_e_shifted N a vby=some r):Sound Try.prog 89 [(encL (cU .u16) 0 a),(aI vby)] [] 0 (.os 0 0 r.length) [(0,aO 1 (cU .u16) 0 r)]:=by
 unfold g_e_shifted at h
 refine Sound.of_runs (fu:=Try.f89) (c:=C_28 1) (nt:=41) (by kernel_rfl) (by kernel_rfl) (by kernel_rfl) (by kernel_rfl) (fun hm=>rfl) ?_
 intro E hE
 refine Runs.nR hE 1 [] [] (kp [0,1]) [] 16 pn ?_
 obtain ⟨c,h⟩:=ifSome h
 refine Runs.nR hE 1 [] [] (kp [0,1] ++ [(5,.osl ((List.replicate ((w64 (((a.length:Nat):Int)+1)).toNat) 0:List Int).length))]) [(64,.arr 64 ((List.replicate ((w64 (((a.length:Nat):Int)+1)).toNat) 0:List Int).length) (fun zi=>(cU .u16) ((List.replicate ((w64 (((a.length:Nat):Int)+1)).toNat) 0:List Int).getD zi 0)))] 96 (pc (show 0≤(w64 (((a.length:Nat):Int)+1)) from c.1) (pc (show (w64 (((a.length:Nat):Int)+1))≤(w64 (((a.length:Nat):Int)+1)) from (Int.le_refl _)) (pc (show (2:Int) * (w64 (((a.length:Nat):Int)+1))≤281474976710656 from c.2.1) (pc (show (w64 (((a.length:Nat):Int)+1))≤9223372036854775807 from c.2.2) (pc (show (w64 (((a.length:Nat):Int)+1)).toNat=(List.replicate ((w64 (((a.length:Nat):Int)+1)).toNat) 0:List Int).length from (List.length_replicate).symm) (pc (show (w64 (((a.length:Nat):Int)+1)).toNat=(List.replicate ((w64 (((a.length:Nat):Int)+1)).toNat) 0:List Int).length from (List.length_replicate).symm) (pc (show ∀ zi,zi < (List.replicate ((w64 (((a.length:Nat):Int)+1)).toNat) 0:List Int).length→(fun zi=>(cU .u16) ((List.replicate ((w64 (((a.length:Nat):Int)+1)).toNat) 0:List Int).getD zi 0)) zi=(fun _=>[(.atom (.int .u16 0))]) zi from (fun zq hzq=>get_rep (cU .u16) 0 0 ((w64 (((a.length:Nat):Int)+1)).toNat) zq hzq)) pn))))))) ?_
 refine Runs.nR hE 2 [] [] (kp [1,5,13,14,15]) (kq [64]) 144 pn ?_
 exact Runs.nW hE 2 [] (kp [1,5,13,14,15]) [(0,.keep 64)] 1 pn (g_e_shifted_L1_ok N _ _ N _ _ _ h E hE)
noncomputable def C_29 (n:Nat):Code:=cat (bodyOf Try.f90) (pth n)
def g_e_digit_L1_H (N:Nat) (uo:Nat) (un:Nat) (v:List Int) (cap0:List Int) (K:Int→Int→Option (Int×(List Int))):Prop:=∀ (q:Int) (rest:Int) (r:Int×(List Int)),K q rest=some r→∀ E,EnvOk E 1→Runs Try.prog E 90 161 (SPost E [(0,aO 1 (cU .u16) 0 r.2)] (.atom (.int .u16 r.1))) [.code (C_29 248),.inLoop (C_29 248),.inBlock 0,.code (C_29 63)] ⟨[(0,(.os 0 uo un)),(1,(encL (cU .u16) 0 v)),(5,(aI ((v.length:Nat):Int))),(7,(.atom (.int .u64 q))),(8,(.atom (.int .u64 rest)))],[(0,aO 1 (cU .u16) 0 cap0)],1⟩
def g_e_digit_L2_H (N:Nat) (uo:Nat) (un:Nat) (v:List Int) (q:Int) (K:(List Int)→Int→Int→Int→Option (Int×(List Int))):Prop:=∀ (cap02:List Int) (carry:Int) (borrow:Int) (x:Int) (r:Int×(List Int)),K cap02 carry borrow x=some r→∀ E,EnvOk E 1→Runs Try.prog E 90 161 (SPost E [(0,aO 1 (cU .u16) 0 r.2)] (.atom (.int .u16 r.1))) [.code (C_29 2036),.inLoop (C_29 2036),.inBlock 2,.code (C_29 255)] ⟨[(0,(.os 0 uo un)),(1,(encL (cU .u16) 0 v)),(5,(aI ((v.length:Nat):Int))),(7,(.atom (.int .u64 q))),(9,(.atom (.int .u64 carry))),(10,(aI borrow)),(84,(aI (w64 (((v.length:Nat):Int)+1)))),(85,(aI x))],[(0,aO 1 (cU .u16) 0 cap02)],1⟩
def g_e_digit_J3_H (N:Nat) (uo:Nat) (un:Nat) (v:List Int) (q:Int) (cap02:List Int) (borrow:Int) (x:Int) (K:Int→Option (Int×(List Int))):Prop:=∀ (x2:Int) (r:Int×(List Int)),K x2=some r→∀ E,EnvOk E 1→Runs Try.prog E 90 161 (SPost E [(0,aO 1 (cU .u16) 0 r.2)] (.atom (.int .u16 r.1))) [.code (C_29 521422),.code (C_29 521423),.inBlock 3,.code (C_29 16295),.inLoop (C_29 2036),.inBlock 2,.code (C_29 255)] ⟨[(0,(.os 0 uo un)),(1,(encL (cU .u16) 0 v)),(5,(aI ((v.length:Nat):Int))),(7,(.atom (.int .u64 q))),(10,(aI borrow)),(11,(aI x)),(12,(.atom (.int .u64 x2))),(84,(aI (w64 (((v.length:Nat):Int)+1)))),(85,(aI x))],[(0,aO 1 (cU .u16) 0 cap02)],1⟩
theorem g_e_digit_J3_ok (N:Nat) (uo:Nat) (un:Nat) (v:List Int) (q:Int) (cap02:List Int) (borrow:Int) (x:Int) (K_g_e_digit_L2:(List Int)→Int→Int→Int→Option (Int×(List Int))) (hK_g_e_digit_L2:g_e_digit_L2_H N uo un v q K_g_e_digit_L2):g_e_digit_J3_H N uo un v q cap02 borrow x (g_e_digit_J3 N uo un v q cap02 borrow x K_g_e_digit_L2):=by
 intro x2 r h E hE
 unfold g_e_digit_J3 at h
 refine Runs.nR hE 0 [] [] (kp [0,1,5,7,9,10,11,12,84,85]) (kq [0]) 49 (pc (show (0:Int)≤16 by decide) pn) ?_
 obtain ⟨c11,h⟩:=ifSome h
 obtain ⟨c12,h⟩:=ifSome h
 refine Runs.nR hE 1 [] [] (kp [0,1,5,7,9,11,13,84,85]) (kq [0]) 241 (pc c11 (pc (show (addz uo (x).toNat) < cap02.length by have h1:=c11;have h2:=c12;simp only [addz_eq];omega) pn)) ?_
 refine Runs.nR hE 1 [] [] (kp [0,1,5,7,9,13,84,85]) [(0,.arr 0 ((cap02.set (addz uo (x).toNat) (IntKind.u16.wrap ((w64 ((w64 ((w64 ((cap02.getD (addz uo (x).toNat) 0))) - (w64 ((andI .u64 x2 65535)))))+borrow))))).length) (fun zi=>(cU .u16) ((cap02.set (addz uo (x).toNat) (IntKind.u16.wrap ((w64 ((w64 ((w64 ((cap02.getD (addz uo (x).toNat) 0))) - (w64 ((andI .u64 x2 65535)))))+borrow))))).getD zi 0)))] 337 (pc c11 (pc (show (addz uo (x).toNat) < cap02.length by have h1:=c11;have h2:=c12;simp only [addz_eq];omega) (pc (len_set0 cap02 (addz uo (x).toNat) (IntKind.u16.wrap ((w64 ((w64 ((w64 ((cap02.getD (addz uo (x).toNat) 0))) - (w64 ((andI .u64 x2 65535)))))+borrow))))) (pc (get_set0 (cU .u16) 0 cap02 (addz uo (x).toNat) (IntKind.u16.wrap ((w64 ((w64 ((w64 ((cap02.getD (addz uo (x).toNat) 0))) - (w64 ((andI .u64 x2 65535)))))+borrow))))) pn)))) ?_
 refine Runs.nR hE 0 [] [] (kp [0,1,5,7,9,10,84,85]) (kq [0]) 385 (pc (show (0:Int)≤16 by decide) pn) ?_
 refine Runs.nR hE 1 [] [] (kp [0,1,5,7,9,10,84,85]) (kq [0]) 417 pn ?_
 exact Runs.nW hE 1 [] (kp [0,1,5,7,9,10,84,85]) (kq [0]) 1 pn (hK_g_e_digit_L2 _ _ _ _ _ h E hE)
def g_e_digit_L4_H (N:Nat) (uo:Nat) (un:Nat) (v:List Int) (q:Int) (K:(List Int)→Int→Int→Option (Int×(List Int))):Prop:=∀ (cap03:List Int) (carry2:Int) (x3:Int) (r:Int×(List Int)),K cap03 carry2 x3=some r→∀ E,EnvOk E 1→Runs Try.prog E 90 161 (SPost E [(0,aO 1 (cU .u16) 0 r.2)] (.atom (.int .u16 r.1))) [.code (C_29 130740),.inLoop (C_29 130740),.inBlock 4,.code (C_29 16343),.code (C_29 511)] ⟨[(0,(.os 0 uo un)),(1,(encL (cU .u16) 0 v)),(5,(aI ((v.length:Nat):Int))),(7,(.atom (.int .u64 (IntKind.u64.wrap (q - 1))))),(14,(.atom (.int .u32 carry2))),(126,(aI ((v.length:Nat):Int))),(127,(aI x3))],[(0,aO 1 (cU .u16) 0 cap03)],1⟩
def g_e_digit_J5_H (N:Nat) (K:(List Int)→Int→Option (Int×(List Int))):Prop:=∀ (cap04:List Int) (q2:Int) (r:Int×(List Int)),K cap04 q2=some r→∀ E,EnvOk E 1→Runs Try.prog E 90 161 (SPost E [(0,aO 1 (cU .u16) 0 r.2)] (.atom (.int .u16 r.1))) [.code (C_29 1022),.code (C_29 1023)] ⟨[(7,(.atom (.int .u64 q2)))],[(0,aO 1 (cU .u16) 0 cap04)],1⟩
theorem g_e_digit_J5_ok (N:Nat):g_e_digit_J5_H N (g_e_digit_J5 N):=by
 intro cap04 q2 r h E hE
 unfold g_e_digit_J5 at h
 refine Runs.nR hE 0 [] [] (kp [4]) (kq [0]) 49 pn ?_
 obtain rfl:=Option.some.inj h
 exact Runs.nT hE 0 Try.f90 [] (kp [4]) (kq [0]) 49 pn [] pn
theorem g_e_digit_L4_ok (N:Nat) (uo:Nat) (un:Nat) (v:List Int) (q:Int) (fuel:Nat):g_e_digit_L4_H N uo un v q (g_e_digit_L4 N uo un v q fuel):=by
 induction fuel with
 | zero=>intro _ _ _ r h;rw [g_e_digit_L4.eq_1] at h;cases h
 | succ fuel ih =>
  intro cap03 carry2 x3 r h E hE
  rw [g_e_digit_L4.eq_2] at h
  refine Runs.nR hE 1 [] [] (kp [0,1,5,7,14,126,127,128]) (kq [0]) 17 pn ?_
  refine Runs.nC 1 128 h (fun hq6 h=>?_) (fun hq6 h=>?_)
  ·refine Runs.nR hE 4 [] [] (kp [0,1,5,7,14,15,126,127]) (kq [0]) 49 pn ?_
   obtain ⟨c13,h⟩:=ifSome h
   obtain ⟨c14,h⟩:=ifSome h
   obtain ⟨c15,h⟩:=ifSome h
   refine Runs.nR hE 1 [] [] (kp [0,1,5,7,14,15,126,127]) (kq [0]) 273 (pc c13 (pc (show (addz uo (x3).toNat) < cap03.length by have h1:=c13;have h2:=c14;simp only [addz_eq];omega) (pc c15 pn))) ?_
   refine Runs.nR hE 1 [] [] (kp [0,1,5,7,14,126,127]) [(0,.arr 0 ((cap03.set (addz uo (x3).toNat) (IntKind.u16.wrap ((IntKind.u32.wrap (carry2+(IntKind.u32.wrap ((IntKind.u32.wrap ((cap03.getD (addz uo (x3).toNat) 0)))+(IntKind.u32.wrap ((v.getD ((x3).toNat) 0)))))))))).length) (fun zi=>(cU .u16) ((cap03.set (addz uo (x3).toNat) (IntKind.u16.wrap ((IntKind.u32.wrap (carry2+(IntKind.u32.wrap ((IntKind.u32.wrap ((cap03.getD (addz uo (x3).toNat) 0)))+(IntKind.u32.wrap ((v.getD ((x3).toNat) 0)))))))))).getD zi 0)))] 369 (pc c13 (pc (show (addz uo (x3).toNat) < cap03.length by have h1:=c13;have h2:=c14;simp only [addz_eq];omega) (pc (len_set0 cap03 (addz uo (x3).toNat) (IntKind.u16.wrap ((IntKind.u32.wrap (carry2+(IntKind.u32.wrap ((IntKind.u32.wrap ((cap03.getD (addz uo (x3).toNat) 0)))+(IntKind.u32.wrap ((v.getD ((x3).toNat) 0)))))))))) (pc (get_set0 (cU .u16) 0 cap03 (addz uo (x3).toNat) (IntKind.u16.wrap ((IntKind.u32.wrap (carry2+(IntKind.u32.wrap ((IntKind.u32.wrap ((cap03.getD (addz uo (x3).toNat) 0)))+(IntKind.u32.wrap ((v.getD ((x3).toNat) 0)))))))))) pn)))) ?_
   refine Runs.nR hE 0 [] [] (kp [0,1,5,7,14,126,127]) (kq [0]) 417 (pc (show (0:Int)≤16 by decide) pn) ?_
   refine Runs.nR hE 1 [] [] (kp [0,1,5,7,14,126,127]) (kq [0]) 449 pn ?_
   exact Runs.nW hE 1 [] (kp [0,1,5,7,14,126,127]) (kq [0]) 1 pn (ih _ _ _ _ h E hE)
  ·obtain ⟨c16,h⟩:=ifSome h
   obtain ⟨c17,h⟩:=ifSome h
   refine Runs.nR hE 1 [] [] (kp [7]) [(0,.arr 0 ((cap03.set (addz uo v.length) (IntKind.u16.wrap ((cap03.getD (addz uo v.length) 0)+(IntKind.u16.wrap (carry2))))).length) (fun zi=>(cU .u16) ((cap03.set (addz uo v.length) (IntKind.u16.wrap ((cap03.getD (addz uo v.length) 0)+(IntKind.u16.wrap (carry2))))).getD zi 0)))] 161 (pc c16 (pc (show (addz uo v.length) < cap03.length by have h1:=c16;have h2:=c17;simp only [addz_eq];omega) (pc c16 (pc (show (addz uo v.length) < cap03.length by have h1:=c16;have h2:=c17;simp only [addz_eq];omega) (pc (len_set0 cap03 (addz uo v.length) (IntKind.u16.wrap ((cap03.getD (addz uo v.length) 0)+(IntKind.u16.wrap (carry2))))) (pc (get_set0 (cU .u16) 0 cap03 (addz uo v.length) (IntKind.u16.wrap ((cap03.getD (addz uo v.length) 0)+(IntKind.u16.wrap (carry2))))) pn)))))) ?_
   exact Runs.nW hE 1 [] (kp [7]) (kq [0]) 1 pn (g_e_digit_J5_ok N _ _ _ h E hE)
theorem g_e_digit_L2_ok (N:Nat) (uo:Nat) (un:Nat) (v:List Int) (q:Int) (fuel:Nat):g_e_digit_L2_H N uo un v q (g_e_digit_L2 N uo un v q fuel):=by
 induction fuel with
 | zero=>intro _ _ _ _ r h;rw [g_e_digit_L2.eq_1] at h;cases h
 | succ fuel ih =>
  intro cap02 carry borrow x r h E hE
  rw [g_e_digit_L2.eq_2] at h
  refine Runs.nR hE 1 [] [] (kp [0,1,5,7,9,10,84,85,86]) (kq [0]) 17 pn ?_
  refine Runs.nC 1 86 h (fun hq3 h=>?_) (fun hq3 h=>?_)
  ·refine Runs.nR hE 4 [] [] (kp [0,1,5,7,9,10,11,84,85]) (kq [0]) 49 pn ?_
   refine Runs.nR hE 1 [] [] (kp [0,1,5,7,10,11,12,84,85]) (kq [0]) 81 pn ?_
   refine Runs.nR hE 2 [] [] (kp [0,1,5,7,10,11,12,84,85,91]) (kq [0]) 129 pn ?_
   refine Runs.nC 0 91 h (fun hq4 h=>?_) (fun hq4 h=>?_)
   ·obtain ⟨c10,h⟩:=ifSome h
    refine Runs.nR hE 0 [] [] (kp [0,1,5,7,10,11,12,84,85]) (kq [0]) 289 (pc c10 pn) ?_
    exact Runs.nW hE 1 [] (kp [0,1,5,7,10,11,12,84,85]) (kq [0]) 1 pn (g_e_digit_J3_ok N _ _ _ _ _ _ _ _ ih _ _ h E hE)
   ·exact Runs.nW hE 2 [] (kp [0,1,5,7,10,11,12,84,85]) (kq [0]) 1 pn (g_e_digit_J3_ok N _ _ _ _ _ _ _ _ ih _ _ h E hE)
  ·refine Runs.nR hE 3 [] [] (kp [0,1,5,7,123]) (kq [0]) 49 pn ?_
   refine Runs.nC 0 123 h (fun hq5 h=>?_) (fun hq5 h=>?_)
   ·refine Runs.nR hE 1 [] [] (kp [0,1,5,7]) (kq [0]) 97 pn ?_
    refine Runs.nR hE 1 [] [] (kp [0,1,5,7,14]) (kq [0]) 113 pn ?_
    refine Runs.nR hE 2 [] [] (kp [0,1,5,7,14,126,127]) (kq [0]) 145 pn ?_
    exact Runs.nW hE 2 [] (kp [0,1,5,7,14,126,127]) (kq [0]) 1 pn (g_e_digit_L4_ok N _ _ _ _ N _ _ _ _ h E hE)
   ·exact Runs.nW hE 2 [] (kp [7]) (kq [0]) 1 pn (g_e_digit_J5_ok N _ _ _ h E hE)
theorem g_e_digit_L1_ok (N:Nat) (uo:Nat) (un:Nat) (v:List Int) (cap0:List Int) (fuel:Nat):g_e_digit_L1_H N uo un v cap0 (g_e_digit_L1 N uo un v cap0 fuel):=by
 induction fuel with
 | zero=>intro _ _ r h;rw [g_e_digit_L1.eq_1] at h;cases h
 | succ fuel ih =>
  intro q rest r h E hE
  rw [g_e_digit_L1.eq_2] at h
  obtain ⟨c6,h⟩:=ifSome h
  obtain ⟨c7,h⟩:=ifSome h
  obtain ⟨c8,h⟩:=ifSome h
  refine Runs.nR hE 2 [] [] (kp [0,1,5,7,8,72]) (kq [0]) 417 (pc (fun hg:(decide (rest < 65536))=true=>(pc hg pn)) (pc (fun hg:((decide (rest < 65536)) && ((decide (rest < 65536)) && (!(decide (q > 65535)))))=true=>(pc hg pn)) (pc (fun hg:((decide (rest < 65536)) && ((decide (rest < 65536)) && (!(decide (q > 65535)))))=true=>(pc hg (pc hg (pc (c6 hg) pn)))) (pc (fun hg:((decide (rest < 65536)) && ((decide (rest < 65536)) && (!(decide (q > 65535)))))=true=>(pc hg pn)) (pc (fun hg:((decide (rest < 65536)) && ((decide (rest < 65536)) && (!(decide (q > 65535)))))=true=>(pc hg pn)) (pc (fun hg:((decide (rest < 65536)) && ((decide (rest < 65536)) && (!(decide (q > 65535)))))=true=>(pc hg (pc hg pn))) (pc (fun hg:((decide (rest < 65536)) && ((decide (rest < 65536)) && (!(decide (q > 65535)))))=true=>(pc hg (pc (show (0:Int)≤16 by decide) pn))) (pc (fun hg:((decide (rest < 65536)) && ((decide (rest < 65536)) && (!(decide (q > 65535)))))=true=>(pc hg pn)) (pc (fun hg:((decide (rest < 65536)) && ((decide (rest < 65536)) && (!(decide (q > 65535)))))=true=>(pc hg (pc hg (pc (c7 hg) pn)))) (pc (fun hg:((decide (rest < 65536)) && ((decide (rest < 65536)) && (!(decide (q > 65535)))))=true=>(pc hg (pc (show (addz uo (w64 (((v.length:Nat):Int) - 2)).toNat) < cap0.length by have h1:=(c7 hg);have h2:=(c8 hg);simp only [addz_eq];omega) pn))) (pc (fun hg:((decide (rest < 65536)) && ((decide (rest < 65536)) && (!(decide (q > 65535)))))=true=>(pc hg pn)) (pc (fun hg:((decide (rest < 65536)) && ((decide (rest < 65536)) && (!(decide (q > 65535)))))=true=>(pc hg (pc hg pn))) (pc (fun hg:((decide (rest < 65536)) && ((decide (rest < 65536)) && (!(decide (q > 65535)))))=true=>(pc hg (pc hg pn))) (pc (fun hg:(decide (rest < 65536))=true=>(pc hg (pc hg (pc (fun hq:(!(decide (q > 65535)))=true=>(pc (show ((decide (rest < 65536)) && ((decide (rest < 65536)) && (!(decide (q > 65535)))))=true from (andI' hg (andI' hg hq))) pn)) pn)))) (pc (fun hq:(decide (rest < 65536))=true=>(pc hq pn)) pn))))))))))))))) ?_
  refine Runs.nC 0 72 h (fun hq2 h=>?_) (fun hq2 h=>?_)
  ·refine Runs.nR hE 3 [] [] (kp [0,1,5,7,8]) (kq [0]) 465 pn ?_
   obtain ⟨c9,h⟩:=ifSome h
   refine Runs.nR hE 0 [] [] (kp [0,1,5,7,8]) (kq [0]) 609 (pc c9 pn) ?_
   exact Runs.nW hE 2 [] (kp [0,1,5,7,8]) (kq [0]) 1 pn (ih _ _ _ h E hE)
  ·refine Runs.nR hE 2 [] [] (kp [0,1,5,7,9,10]) (kq [0]) 449 pn ?_
   refine Runs.nR hE 2 [] [] (kp [0,1,5,7,9,10,84,85]) (kq [0]) 497 pn ?_
   exact Runs.nW hE 2 [] (kp [0,1,5,7,9,10,84,85]) (kq [0]) 1 pn (g_e_digit_L2_ok N _ _ _ _ N _ _ _ _ _ h E hE)
theorem g_e_digit_ok (N:Nat) (uo:Nat) (un:Nat) (v:List Int) (cap0:List Int) (r:Int×(List Int)) (h:g_e_digit N uo un v cap0=some r):Sound Try.prog 90 [(.os 0 uo un),(encL (cU .u16) 0 v)] [(0,aO 1 (cU .u16) 0 cap0)] 1 (.atom (.int .u16 r.1)) [(0,aO 1 (cU .u16) 0 r.2)]:=by
 unfold g_e_digit at h
 refine Sound.of_runs (fu:=Try.f90) (c:=C_29 1) (nt:=161) (by kernel_rfl) (by kernel_rfl) (by kernel_rfl) (by kernel_rfl) (fun hm=>absurd hm (by decide)) ?_
 intro E hE
 refine Runs.nR hE 1 [] [] (kp [0,1]) (kq [0]) 17 pn ?_
 refine Runs.nR hE 1 [] [] (kp [0,1,5]) (kq [0]) 65 pn ?_
 obtain ⟨c,h⟩:=ifSome h
 obtain ⟨c2,h⟩:=ifSome h
 obtain ⟨c3,h⟩:=ifSome h
 refine Runs.nR hE 1 [] [] (kp [0,1,5,6]) (kq [0]) 289 (pc c (pc (show (addz uo v.length) < cap0.length by have h1:=c;have h2:=c2;simp only [addz_eq];omega) (pc (show (0:Int)≤16 by decide) (pc c3 (pc (show (addz uo (w64 (((v.length:Nat):Int) - 1)).toNat) < cap0.length by have h1:=c3;have h2:=c2;simp only [addz_eq];omega) pn))))) ?_
 obtain ⟨c4,h⟩:=ifSome h
 obtain ⟨c5,h⟩:=ifSome h
 refine Runs.nR hE 1 [] [] (kp [0,1,5,7,8]) (kq [0]) 577 (pc c4 (pc c5 (pc c4 (pc c5 pn)))) ?_
 exact Runs.nW hE 3 [] (kp [0,1,5,7,8]) (kq [0]) 1 pn (g_e_digit_L1_ok N _ _ _ _ N _ _ _ h E hE)
noncomputable def C_23 (n:Nat):Code:=cat (bodyOf Try.f67) (pth n)
def g_e_divide_L1_H (N:Nat) (b:List Int) (rLeadingZeros:Int) (rshifted2:(List Int)) (K:(List Int)→(List Int)→Int→Option ((List Int)×(List Int))):Prop:=∀ (q:List Int) (u:List Int) (j:Int) (r:(List Int)×(List Int)),K q u j=some r→∀ E,EnvOk E 0→Runs Try.prog E 67 109 (SPost E [] (.tup [(encL (cU .u16) 0 r.1),(encL (cU .u16) 0 r.2)])) [.code (C_23 4084),.inLoop (C_23 4084),.inBlock 0,.code (C_23 511)] ⟨[(4,(.os 0 0 q.length)),(8,(aI rLeadingZeros)),(9,(.os 1 0 u.length)),(10,(.os 2 0 (b.length - 0))),(11,(aI (((b.length - 0):Nat):Int))),(12,(aI j))],[(0,aO 1 (cU .u16) 0 q),(1,aO 1 (cU .u16) 0 u),(2,aO 1 (cU .u16) 0 rshifted2)],3⟩
def g_e_divide_L2_H (N:Nat) (b:List Int) (rLeadingZeros:Int) (q:List Int) (u:List Int) (K:(List Int)→Int→Option ((List Int)×(List Int))):Prop:=∀ (vr:List Int) (x:Int) (r:(List Int)×(List Int)),K vr x=some r→∀ E,EnvOk E 0→Runs Try.prog E 67 109 (SPost E [] (.tup [(encL (cU .u16) 0 r.1),(encL (cU .u16) 0 r.2)])) [.code (C_23 16372),.inLoop (C_23 16372),.inBlock 2,.code (C_23 2047)] ⟨[(4,(.os 0 0 q.length)),(5,(.os 1 0 vr.length)),(8,(aI rLeadingZeros)),(9,(.os 2 0 u.length)),(81,(aI (((b.length - 0):Nat):Int))),(82,(aI x))],[(0,aO 1 (cU .u16) 0 q),(1,aO 1 (cU .u16) 0 vr),(2,aO 1 (cU .u16) 0 u)],3⟩
theorem g_e_divide_L2_ok (N:Nat) (b:List Int) (rLeadingZeros:Int) (q:List Int) (u:List Int) (fuel:Nat):g_e_divide_L2_H N b rLeadingZeros q u (g_e_divide_L2 N b rLeadingZeros q u fuel):=by
 induction fuel with
 | zero=>intro _ _ r h;rw [g_e_divide_L2.eq_1] at h;cases h
 | succ fuel ih =>
  intro vr x r h E hE
  rw [g_e_divide_L2.eq_2] at h
  refine Runs.nR hE 1 [] [] (kp [4,5,8,9,81,82,83]) (kq [0,1,2]) 19 pn ?_
  refine Runs.nC 1 83 h (fun hq5 h=>?_) (fun hq5 h=>?_)
  ·refine Runs.nR hE 4 [] [] (kp [4,5,8,9,13,81,82]) (kq [0,1,2]) 51 pn ?_
   obtain ⟨c12,h⟩:=ifSome h
   obtain ⟨c13,h⟩:=ifSome h
   obtain ⟨c14,h⟩:=ifSome h
   obtain ⟨c15,h⟩:=ifSome h
   refine Runs.nR hE 0 [] [] (kp [4] ++ [(5,.osl ((vr.set ((x).toNat) (IntKind.u16.wrap ((shrI .u32 (orI .u32 (IntKind.u32.wrap ((u.getD ((x).toNat) 0))) (shlI .u32 (IntKind.u32.wrap ((u.getD ((w64 (x+1)).toNat) 0))) 16)) rLeadingZeros)))).length))] ++ kp [8,9,81,82]) (kq [0] ++ [(1,.arr 1 ((vr.set ((x).toNat) (IntKind.u16.wrap ((shrI .u32 (orI .u32 (IntKind.u32.wrap ((u.getD ((x).toNat) 0))) (shlI .u32 (IntKind.u32.wrap ((u.getD ((w64 (x+1)).toNat) 0))) 16)) rLeadingZeros)))).length) (fun zi=>(cU .u16) ((vr.set ((x).toNat) (IntKind.u16.wrap ((shrI .u32 (orI .u32 (IntKind.u32.wrap ((u.getD ((x).toNat) 0))) (shlI .u32 (IntKind.u32.wrap ((u.getD ((w64 (x+1)).toNat) 0))) 16)) rLeadingZeros)))).getD zi 0)))] ++ kq [2]) 371 (pc c12 (pc (ltOf c12) (pc c13 (pc (ltOf c13) (pc (show (0:Int)≤16 by decide) (pc c14 (pc c15 (pc (ltOf c15) (pc (len_set0 vr ((x).toNat) (IntKind.u16.wrap ((shrI .u32 (orI .u32 (IntKind.u32.wrap ((u.getD ((x).toNat) 0))) (shlI .u32 (IntKind.u32.wrap ((u.getD ((w64 (x+1)).toNat) 0))) 16)) rLeadingZeros)))) (pc (len_set0 vr ((x).toNat) (IntKind.u16.wrap ((shrI .u32 (orI .u32 (IntKind.u32.wrap ((u.getD ((x).toNat) 0))) (shlI .u32 (IntKind.u32.wrap ((u.getD ((w64 (x+1)).toNat) 0))) 16)) rLeadingZeros)))) (pc (get_set0 (cU .u16) 0 vr ((x).toNat) (IntKind.u16.wrap ((shrI .u32 (orI .u32 (IntKind.u32.wrap ((u.getD ((x).toNat) 0))) (shlI .u32 (IntKind.u32.wrap ((u.getD ((w64 (x+1)).toNat) 0))) 16)) rLeadingZeros)))) pn))))))))))) ?_
   refine Runs.nR hE 1 [] [] (kp [4,5,8,9,81,82]) (kq [0,1,2]) 403 pn ?_
   exact Runs.nW hE 1 [] (kp [4,5,8,9,81,82]) (kq [0,1,2]) 3 pn (ih _ _ _ h E hE)
  ·obtain ⟨rtrim2,hr9,h⟩:=bindSome h
   obtain ⟨rtrim3,hr10,h⟩:=bindSome h
   refine Runs.nR hE 2 [(1,⟨[],true,(encL (cU .u16) 0 rtrim2),[],0,true,none⟩),(3,⟨[],true,(encL (cU .u16) 0 rtrim3),[],0,true,none⟩)] [] (kp [4,5]) [] 115 (pc (g_e_trim_ok N q rtrim2 hr9) (pc (z1 q.length) (pc (g_e_trim_ok N vr rtrim3 hr10) (pc (z1 vr.length) pn)))) ?_
   obtain rfl:=Option.some.inj h
   exact Runs.nT hE 0 Try.f67 [] (kp [4,5]) [] 115 pn [] pn
theorem g_e_divide_L1_ok (N:Nat) (b:List Int) (rLeadingZeros:Int) (rshifted2:(List Int)) (fuel:Nat):g_e_divide_L1_H N b rLeadingZeros rshifted2 (g_e_divide_L1 N b rLeadingZeros rshifted2 fuel):=by
 induction fuel with
 | zero=>intro _ _ _ r h;rw [g_e_divide_L1.eq_1] at h;cases h
 | succ fuel ih =>
  intro q u j r h E hE
  rw [g_e_divide_L1.eq_2] at h
  refine Runs.nR hE 2 [] [] (kp [4,8,9,10,11,12,64]) (kq [0,1,2]) 35 pn ?_
  refine Runs.nC 0 64 h (fun hq4 h=>?_) (fun hq4 h=>?_)
  ·obtain ⟨c5,h⟩:=ifSome h
   obtain ⟨c6,h⟩:=ifSome h
   obtain ⟨c7,h⟩:=ifSome h
   obtain ⟨c8,h⟩:=ifSome h
   obtain ⟨rdigit,hr8,h⟩:=bindSome h
   obtain ⟨c9,h⟩:=ifSome h
   obtain ⟨c10,h⟩:=ifSome h
   refine Runs.nR hE 3 [(10,⟨[1],false,(.atom (.int .u16 rdigit.1)),[(0,aO 1 (cU .u16) 0 rdigit.2)],0,false,none⟩)] [] ([(4,.osl ((q.set ((j).toNat) rdigit.1).length))] ++ kp [8] ++ [(9,.osl (rdigit.2.length))] ++ kp [10,11,12]) ([(0,.arr 0 ((q.set ((j).toNat) rdigit.1).length) (fun zi=>(cU .u16) ((q.set ((j).toNat) rdigit.1).getD zi 0)))] ++ kq [1,2]) 243 (pc c5 (pc c6 (pc c7 (pc (show Sound Try.prog 90 [(.os 0 ((j).toNat) ((w64 ((w64 (j+(((b.length - 0):Nat):Int)))+1)).toNat - (j).toNat)),(.sl (b.length - 0) (fun zi=>(cU .u16) (rshifted2.getD (addz 0 zi) 0)))] [(0,aO 1 (cU .u16) 0 u)] 1 (.atom (.int .u16 rdigit.1)) [(0,aO 1 (cU .u16) 0 rdigit.2)] from (Sound.conv (g_e_digit_ok N ((j).toNat) ((w64 ((w64 (j+(((b.length - 0):Nat):Int)))+1)).toNat - (j).toNat) ((rshifted2.take b.length).drop 0) u rdigit hr8) (.cons (Alike.refl _) (.cons (Alike.sl (len_ext' rshifted2 0 b.length c8) (fun zq hzq=>get_ext (cU .u16) 0 rshifted2 0 b.length zq hzq)) .nil)))) (pc (show ∀ zi,zi < rdigit.2.length→AV.flatL ((cU .u16) (rdigit.2.getD zi 0))=true from (fun _ _=>rfl)) (pc (show 0+(b.length - 0)≤rshifted2.length by have:=c8;omega) (pc c10 (pc (ltOf c10) (pc (len_set0 q ((j).toNat) rdigit.1) (pc (show u.length=rdigit.2.length from (Eq.symm c9)) (pc (len_set0 q ((j).toNat) rdigit.1) (pc (get_set0 (cU .u16) 0 q ((j).toNat) rdigit.1) pn)))))))))))) ?_
   refine Runs.nR hE 1 [] [] (kp [4,8,9,10,11,12]) (kq [0,1,2]) 291 pn ?_
   exact Runs.nW hE 1 [] (kp [4,8,9,10,11,12]) (kq [0,1,2]) 3 pn (ih _ _ _ _ h E hE)
  ·obtain ⟨c11,h⟩:=ifSome h
   refine Runs.nR hE 2 [] [] (kp [4] ++ [(5,.osl ((List.replicate (b.length - 0) 0:List Int).length))] ++ kp [8,9,11]) (kq [0,1] ++ [(51,.arr 51 ((List.replicate (b.length - 0) 0:List Int).length) (fun zi=>(cU .u16) ((List.replicate (b.length - 0) 0:List Int).getD zi 0)))]) 83 (pc (show 0≤(((b.length - 0):Nat):Int) from c11.1) (pc (show (((b.length - 0):Nat):Int)≤(((b.length - 0):Nat):Int) from (Int.le_refl _)) (pc (show (2:Int) * (((b.length - 0):Nat):Int)≤281474976710656 from c11.2.1) (pc (show (((b.length - 0):Nat):Int)≤9223372036854775807 from c11.2.2) (pc (show (b.length - 0)=(List.replicate (b.length - 0) 0:List Int).length from (List.length_replicate).symm) (pc (show (b.length - 0)=(List.replicate (b.length - 0) 0:List Int).length from (List.length_replicate).symm) (pc (show ∀ zi,zi < (List.replicate (b.length - 0) 0:List Int).length→(fun zi=>(cU .u16) ((List.replicate (b.length - 0) 0:List Int).getD zi 0)) zi=(fun _=>[(.atom (.int .u16 0))]) zi from (fun zq hzq=>get_rep (cU .u16) 0 0 (b.length - 0) zq hzq)) pn))))))) ?_
   refine Runs.nR hE 2 [] [] (kp [4,5,8,9,81,82]) (kq [0,1,51]) 115 pn ?_
   exact Runs.nW hE 2 [] (kp [4,5,8,9,81,82]) (kq [0] ++ [(1,.keep 51),(2,.keep 1)]) 3 pn (g_e_divide_L2_ok N _ _ _ _ N _ _ _ h E hE)
theorem g_e_divide_ok (N:Nat) (a:List Int) (b:List Int) (r:(List Int)×(List Int)) (h:g_e_divide N a b=some r):Sound Try.prog 67 [(encL (cU .u16) 0 a),(encL (cU .u16) 0 b)] [] 0 (.tup [(encL (cU .u16) 0 r.1),(encL (cU .u16) 0 r.2)]) []:=by
 unfold g_e_divide at h
 refine Sound.of_runs (fu:=Try.f67) (c:=C_23 1) (nt:=109) (by kernel_rfl) (by kernel_rfl) (by kernel_rfl) (by kernel_rfl) (fun hm=>rfl) ?_
 intro E hE
 refine Runs.nR hE 1 [] [] (kp [0,1]) [] 32 pn ?_
 obtain ⟨rcompare,hr,h⟩:=bindSome h
 refine Runs.nR hE 2 [(2,⟨[],true,(aI rcompare),[],0,false,none⟩)] [] (kp [0,1,17]) [] 96 (pc (g_e_compare_ok N a b rcompare hr) pn) ?_
 refine Runs.nC 0 17 h (fun hq2 h=>?_) (fun hq2 h=>?_)
 ·obtain ⟨rClone,hr2,h⟩:=bindSome h
  refine Runs.nR hE 1 [(1,⟨[],false,(.os 0 0 rClone.length),[(0,aO 1 (cU .u16) 0 rClone)],0,false,none⟩)] [] (kp [4,5]) (kq [112]) 160 (pc (g_slices_Clone_uint16_uint16_ok N a rClone hr2) pn) ?_
  obtain rfl:=Option.some.inj h
  exact Runs.nT hE 0 Try.f67 [112] [(4,.sl (([]:List Int).length) (fun zi=>(cU .u16) (([]:List Int).getD zi 0))),(5,.sl (rClone.length) (fun zi=>(cU .u16) (rClone.getD zi 0)))] [] 160 (pc (Eq.refl 0) (pc (Eq.refl rClone.length) (pc (z1 rClone.length) (pc (show ∀ zi,zi < rClone.length→(fun zi=>(cU .u16) (rClone.getD zi 0)) zi=(fun zi=>(cU .u16) (rClone.getD zi 0)) (addz 0 zi) from (fun _ _=>rfl)) pn)))) [] pn
 ·refine Runs.nR hE 3 [] [] (kp [0,1,22]) [] 144 pn ?_
  refine Runs.nC 0 22 h (fun hq3 h=>?_) (fun hq3 h=>?_)
  ·obtain ⟨c,h⟩:=ifSome h
   obtain ⟨rshort,hr3,h⟩:=bindSome h
   refine Runs.nR hE 1 [(4,⟨[],true,(.tup [(encL (cU .u16) 0 rshort.1),(.atom (.int .u16 rshort.2))]),[],0,false,none⟩)] [] (kp [6,7]) [] 304 (pc c (pc (g_e_short_ok N a (b.getD 0 0) rshort hr3) pn)) ?_
   obtain ⟨rtrim,hr4,h⟩:=bindSome h
   refine Runs.nR hE 1 [(3,⟨[],true,(encL (cU .u16) 0 rtrim),[],0,true,none⟩)] [] (kp [4,5]) [] 400 (pc (show Sound Try.prog 39 [(.sl 1 (fun zi=>(fun zi=>([[(.atom (.int .u16 rshort.2))]]:List (List AV)).getD zi []) (addz 0 zi)))] [] 0 (encL (cU .u16) 0 rtrim) [] from (Sound.conv (g_e_trim_ok N ([rshort.2]:List Int) rtrim hr4) (.cons (Alike.sl rfl (fun zq hzq=>get_chunk (cU .u16) 0 ([rshort.2]:List Int) zq hzq)) .nil))) (pc (z1 1) pn)) ?_
   obtain rfl:=Option.some.inj h
   exact Runs.nT hE 0 Try.f67 [] (kp [4,5]) [] 400 pn [] pn
  ·obtain ⟨c2,h⟩:=ifSome h
   obtain ⟨rLeadingZeros,hr5,h⟩:=bindSome h
   refine Runs.nR hE 2 [(6,⟨[],true,(aI rLeadingZeros),[],0,false,none⟩)] [] (kp [0,1,8]) [] 272 (pc c2 (pc (g_math_bits_LeadingZeros16_ok N (b.getD ((w64 (((b.length:Nat):Int) - 1)).toNat) 0) rLeadingZeros hr5) pn)) ?_
   obtain ⟨rshifted,hr6,h⟩:=bindSome h
   obtain ⟨rshifted2,hr7,h⟩:=bindSome h
   obtain ⟨c3,h⟩:=ifSome h
   refine Runs.nR hE 1 [(2,⟨[],false,(.os 0 0 rshifted.length),[(0,aO 1 (cU .u16) 0 rshifted)],0,false,none⟩),(5,⟨[],false,(.os 0 0 rshifted2.length),[(0,aO 1 (cU .u16) 0 rshifted2)],0,false,none⟩)] [] (kp [8,9,10]) (kq [304,352]) 448 (pc (g_e_shifted_ok N a rLeadingZeros rshifted hr6) (pc (g_e_shifted_ok N b rLeadingZeros rshifted2 hr7) (pc c3 (pc (show 0≤((b.length:Nat):Int) from (Int.natCast_nonneg _)) pn)))) ?_
   refine Runs.nR hE 1 [] [] (kp [8,9,10,11]) (kq [304,352]) 496 pn ?_
   obtain ⟨c4,h⟩:=ifSome h
   refine Runs.nR hE 1 [] [] ([(4,.osl ((List.replicate ((w64 (((rshifted.length:Nat):Int) - (((b.length - 0):Nat):Int))).toNat) 0:List Int).length))] ++ kp [8,9,10,11]) (kq [304,352] ++ [(560,.arr 560 ((List.replicate ((w64 (((rshifted.length:Nat):Int) - (((b.length - 0):Nat):Int))).toNat) 0:List Int).length) (fun zi=>(cU .u16) ((List.replicate ((w64 (((rshifted.length:Nat):Int) - (((b.length - 0):Nat):Int))).toNat) 0:List Int).getD zi 0)))]) 592 (pc (show 0≤(w64 (((rshifted.length:Nat):Int) - (((b.length - 0):Nat):Int))) from c4.1) (pc (show (w64 (((rshifted.length:Nat):Int) - (((b.length - 0):Nat):Int)))≤(w64 (((rshifted.length:Nat):Int) - (((b.length - 0):Nat):Int))) from (Int.le_refl _)) (pc (show (2:Int) * (w64 (((rshifted.length:Nat):Int) - (((b.length - 0):Nat):Int)))≤281474976710656 from c4.2.1) (pc (show (w64 (((rshifted.length:Nat):Int) - (((b.length - 0):Nat):Int)))≤9223372036854775807 from c4.2.2) (pc (show (w64 (((rshifted.length:Nat):Int) - (((b.length - 0):Nat):Int))).toNat=(List.replicate ((w64 (((rshifted.length:Nat):Int) - (((b.length - 0):Nat):Int))).toNat) 0:List Int).length from (List.length_replicate).symm) (pc (show (w64 (((rshifted.length:Nat):Int) - (((b.length - 0):Nat):Int))).toNat=(List.replicate ((w64 (((rshifted.length:Nat):Int) - (((b.length - 0):Nat):Int))).toNat) 0:List Int).length from (List.length_replicate).symm) (pc (show ∀ zi,zi < (List.replicate ((w64 (((rshifted.length:Nat):Int) - (((b.length - 0):Nat):Int))).toNat) 0:List Int).length→(fun zi=>(cU .u16) ((List.replicate ((w64 (((rshifted.length:Nat):Int) - (((b.length - 0):Nat):Int))).toNat) 0:List Int).getD zi 0)) zi=(fun _=>[(.atom (.int .u16 0))]) zi from (fun zq hzq=>get_rep (cU .u16) 0 0 ((w64 (((rshifted.length:Nat):Int) - (((b.length - 0):Nat):Int))).toNat) zq hzq)) pn))))))) ?_
   refine Runs.nR hE 2 [] [] (kp [4,8,9,10,11,12]) (kq [304,352,560]) 688 pn ?_
   exact Runs.nW hE 2 [] (kp [4,8,9,10,11,12]) [(0,.keep 560),(1,.keep 304),(2,.keep 352)] 3 pn (g_e_divide_L1_ok N _ _ _ N _ _ _ _ h E hE)
noncomputable def C_21 (n:Nat):Code:=cat (bodyOf Try.f83) (pth n)
def g_e_common_L1_H (N:Nat) (K:(List Int)→(List Int)→Option ((List Int))):Prop:=∀ (a2:List Int) (b2:List Int) (r:(List Int)),K a2 b2=some r→∀ E,EnvOk E 0→Runs Try.prog E 83 45 (SPost E [] (encL (cU .u16) 0 r)) [.code (C_21 24),.inLoop (C_21 24),.inBlock 0,.code (C_21 7)] ⟨[(0,(encL (cU .u16) 0 a2)),(1,(encL (cU .u16) 0 b2))],[],0⟩
def g_e_common_L2_H (N:Nat) (K:Int→Int→Option ((List Int))):Prop:=∀ (x:Int) (y:Int) (r:(List Int)),K x y=some r→∀ E,EnvOk E 0→Runs Try.prog E 83 45 (SPost E [] (encL (cU .u16) 0 r)) [.code (C_21 25296),.inLoop (C_21 25296),.inBlock 2,.code (C_21 6325),.code (C_21 791),.inBlock 1,.inLoop (C_21 24),.inBlock 0,.code (C_21 7)] ⟨[(5,(.atom (.int .u64 x))),(7,(.atom (.int .u64 y)))],[],0⟩
theorem g_e_common_L2_ok (N:Nat) (K_g_e_common_L1:(List Int)→(List Int)→Option ((List Int))) (hK_g_e_common_L1:g_e_common_L1_H N K_g_e_common_L1) (fuel:Nat):g_e_common_L2_H N (g_e_common_L2 N K_g_e_common_L1 fuel):=by
 induction fuel with
 | zero=>intro _ _ r h;rw [g_e_common_L2.eq_1] at h;cases h
 | succ fuel ih =>
  intro x y r h E hE
  rw [g_e_common_L2.eq_2] at h
  refine Runs.nR hE 2 [] [] (kp [5,7,29]) [] 32 pn ?_
  refine Runs.nC 0 29 h (fun hq4 h=>?_) (fun hq4 h=>?_)
  ·obtain ⟨c,h⟩:=ifSome h
   refine Runs.nR hE 2 [] [] (kp [5,7]) [] 128 (pc c pn) ?_
   exact Runs.nW hE 2 [] (kp [5,7]) [] 0 pn (ih _ _ _ h E hE)
  ·obtain ⟨rnatural,hr3,h⟩:=bindSome h
   refine Runs.nR hE 2 [(1,⟨[],true,(encL (cU .u16) 0 rnatural),[],0,false,none⟩)] [] (kp [4]) [] 80 (pc (g_e_natural_ok N x rnatural hr3) pn) ?_
   obtain rfl:=Option.some.inj h
   exact Runs.nT hE 0 Try.f83 [] (kp [4]) [] 80 pn [] pn
theorem g_e_common_L1_ok (N:Nat) (fuel:Nat):g_e_common_L1_H N (g_e_common_L1 N fuel):=by
 induction fuel with
 | zero=>intro _ _ r h;rw [g_e_common_L1.eq_1] at h;cases h
 | succ fuel ih =>
  intro a2 b2 r h E hE
  rw [g_e_common_L1.eq_2] at h
  refine Runs.nR hE 2 [] [] (kp [0,1,13]) [] 48 pn ?_
  refine Runs.nC 0 13 h (fun hq2 h=>?_) (fun hq2 h=>?_)
  ·obtain ⟨rword,hr,h⟩:=bindSome h
   refine Runs.nR hE 3 [(1,⟨[],true,(.tup [(.atom (.int .u64 rword.1)),(aB rword.2)]),[],0,false,none⟩)] [] (kp [0,1,5,6]) [] 160 (pc (g_e_word_ok N a2 rword hr) pn) ?_
   obtain ⟨rword2,hr2,h⟩:=bindSome h
   refine Runs.nR hE 1 [(1,⟨[],true,(.tup [(.atom (.int .u64 rword2.1)),(aB rword2.2)]),[],0,false,none⟩)] [] (kp [0,1,5,6,7,8]) [] 272 (pc (g_e_word_ok N b2 rword2 hr2) pn) ?_
   refine Runs.nR hE 2 [] [] (kp [0,1,5,7,27]) [] 336 (pc (fun hq:rword.2=true=>(pc hq pn)) pn) ?_
   refine Runs.nC 0 27 h (fun hq3 h=>?_) (fun hq3 h=>?_)
   ·exact Runs.nW hE 3 [] (kp [5,7]) [] 0 pn (g_e_common_L2_ok N _ ih N _ _ _ h E hE)
   ·obtain ⟨rdivide,hr4,h⟩:=bindSome h
    refine Runs.nR hE 2 [(2,⟨[],true,(.tup [(encL (cU .u16) 0 rdivide.1),(encL (cU .u16) 0 rdivide.2)]),[],0,false,none⟩)] [] (kp [1,10]) [] 464 (pc (g_e_divide_ok N a2 b2 rdivide hr4) pn) ?_
    refine Runs.nR hE 0 [] [] (kp [0,1]) [] 528 pn ?_
    exact Runs.nW hE 2 [] (kp [0,1]) [] 0 pn (ih _ _ _ h E hE)
  ·refine Runs.nR hE 2 [] [] (kp [4]) [] 80 pn ?_
   obtain rfl:=Option.some.inj h
   exact Runs.nT hE 0 Try.f83 [] (kp [4]) [] 80 pn [] pn
theorem g_e_common_ok (N:Nat) (a:List Int) (b:List Int) (r:(List Int)) (h:g_e_common N a b=some r):Sound Try.prog 83 [(encL (cU .u16) 0 a),(encL (cU .u16) 0 b)] [] 0 (encL (cU .u16) 0 r) []:=by
 unfold g_e_common at h
 refine Sound.of_runs (fu:=Try.f83) (c:=C_21 1) (nt:=45) (by kernel_rfl) (by kernel_rfl) (by kernel_rfl) (by kernel_rfl) (fun hm=>rfl) ?_
 intro E hE
 refine Runs.nR hE 1 [] [] (kp [0,1]) [] 16 pn ?_
 exact Runs.nW hE 3 [] (kp [0,1]) [] 0 pn (g_e_common_L1_ok N N _ _ _ h E hE)
noncomputable def C_20 (n:Nat):Code:=cat (bodyOf Try.f65) (pth n)
def g_e_fraction_J1_H (N:Nat) (a:TInt) (b:TInt) (K:(List Int)→(List Int)→Option (TRat)):Prop:=∀ (x:List Int) (y:List Int) (r:TRat),K x y=some r→∀ E,EnvOk E 0→Runs Try.prog E 65 48 (SPost E [(0,aO 1 (cU .u16) 0 r.f_Num.f_Limbs),(1,aO 1 (cU .u16) 0 r.f_Den.f_Limbs)] (.agg [(aB r.f_Num.f_Neg),(.os 0 0 r.f_Num.f_Limbs.length),(aB r.f_Den.f_Neg),(.os 1 0 r.f_Den.f_Limbs.length)])) [.code (C_20 62),.code (C_20 63)] ⟨[(2,(.op 0 0 0)),(3,(.op 1 0 0)),(4,(.op 2 0 0)),(5,(encL (cU .u16) 0 x)),(6,(encL (cU .u16) 0 y))],[(0,vO 2 (TInt.cells a)),(1,vO 2 (TInt.cells b)),(2,vO 4 [(aB false),.nil,(aB false),.nil])],3⟩
theorem g_e_fraction_J1_ok (N:Nat) (a:TInt) (b:TInt):g_e_fraction_J1_H N a b (g_e_fraction_J1 N a b):=by
 intro x y r h E hE
 unfold g_e_fraction_J1 at h
 obtain ⟨rsigned,hr6,h⟩:=bindSome h
 obtain ⟨rsigned2,hr7,h⟩:=bindSome h
 refine Runs.nR hE 0 [(6,⟨[],false,(.agg [(aB rsigned.f_Neg),(.os 0 0 rsigned.f_Limbs.length)]),[(0,aO 1 (cU .u16) 0 rsigned.f_Limbs)],0,false,none⟩),(8,⟨[],false,(.agg [(aB rsigned2.f_Neg),(.os 0 0 rsigned2.f_Limbs.length)]),[(0,aO 1 (cU .u16) 0 rsigned2.f_Limbs)],0,false,none⟩)] [] (kp [4]) (kq [2,99,131]) 179 (pc o1 (pc o1 (pc (g_e_signed_ok N (!(a.f_Neg == b.f_Neg)) x rsigned hr6) (pc (g_e_signed_ok N false y rsigned2 hr7) (pc o1 pn))))) ?_
 obtain rfl:=Option.some.inj h
 exact Runs.nT hE 0 Try.f65 [] (kp [4]) [(0,.keep 99),(1,.keep 131),(16,.var 2 [.keep,.keep,.keep,.keep])] 179 pn [16] (pc o1 pn)
theorem g_e_fraction_ok (N:Nat) (a:TInt) (b:TInt) (r:TRat) (h:g_e_fraction N a b=some r):Sound Try.prog 65 [(.agg (TInt.cells a)),(.agg (TInt.cells b))] [] 0 (.agg [(aB r.f_Num.f_Neg),(.os 0 0 r.f_Num.f_Limbs.length),(aB r.f_Den.f_Neg),(.os 1 0 r.f_Den.f_Limbs.length)]) [(0,aO 1 (cU .u16) 0 r.f_Num.f_Limbs),(1,aO 1 (cU .u16) 0 r.f_Den.f_Limbs)]:=by
 unfold g_e_fraction at h
 refine Sound.of_runs (fu:=Try.f65) (c:=C_20 1) (nt:=48) (by kernel_rfl) (by kernel_rfl) (by kernel_rfl) (by kernel_rfl) (fun hm=>rfl) ?_
 intro E hE
 refine Runs.nR hE 1 [] [] (kp [2,3,4]) (kq [0,16,32]) 48 pn ?_
 obtain ⟨rtrim,hr,h⟩:=bindSome h
 obtain ⟨rtrim2,hr2,h⟩:=bindSome h
 refine Runs.nR hE 1 [(2,⟨[],true,(encL (cU .u16) 0 rtrim),[],0,false,none⟩),(5,⟨[],true,(encL (cU .u16) 0 rtrim2),[],0,false,none⟩)] [] (kp [2,3,4,5,6]) (kq [0,16,32]) 176 (pc o1 (pc (g_e_trim_ok N a.f_Limbs rtrim hr) (pc o1 (pc (g_e_trim_ok N b.f_Limbs rtrim2 hr2) pn)))) ?_
 obtain ⟨rcommon,hr3,h⟩:=bindSome h
 refine Runs.nR hE 1 [(2,⟨[],true,(encL (cU .u16) 0 rcommon),[],0,false,none⟩)] [] (kp [2,3,4,5,6,7]) (kq [0,16,32]) 240 (pc (g_e_common_ok N rtrim rtrim2 rcommon hr3) pn) ?_
 obtain ⟨c,h⟩:=ifSome h
 refine Runs.nR hE 2 [] [] (kp [2,3,4,5,6,7,25]) (kq [0,16,32]) 384 (pc (fun hg:(!(((rcommon.length:Nat):Int) != 1))=true=>(pc hg (pc (c hg) pn))) (pc (fun hg:(!(((rcommon.length:Nat):Int) != 1))=true=>(pc hg pn)) (pc (fun hg:(!(((rcommon.length:Nat):Int) != 1))=true=>(pc hg pn)) (pc (fun hq:(!(((rcommon.length:Nat):Int) != 1))=true=>(pc hq pn)) pn)))) ?_
 refine Runs.nC 0 25 h (fun hq2 h=>?_) (fun hq2 h=>?_)
 ·obtain ⟨rdivide,hr4,h⟩:=bindSome h
  refine Runs.nR hE 1 [(2,⟨[],true,(.tup [(encL (cU .u16) 0 rdivide.1),(encL (cU .u16) 0 rdivide.2)]),[],0,false,none⟩)] [] (kp [2,3,4,5,6,7]) (kq [0,16,32]) 496 (pc (g_e_divide_ok N rtrim rcommon rdivide hr4) pn) ?_
  obtain ⟨rdivide2,hr5,h⟩:=bindSome h
  refine Runs.nR hE 0 [(2,⟨[],true,(.tup [(encL (cU .u16) 0 rdivide2.1),(encL (cU .u16) 0 rdivide2.2)]),[],0,false,none⟩)] [] (kp [2,3,4,5,6]) (kq [0,16,32]) 608 (pc (g_e_divide_ok N rtrim2 rcommon rdivide2 hr5) pn) ?_
  exact Runs.nW hE 1 [] (kp [2,3,4,5,6]) (kq [0] ++ [(1,.keep 16),(2,.keep 32)]) 3 pn (g_e_fraction_J1_ok N _ _ _ _ _ h E hE)
 ·exact Runs.nW hE 2 [] (kp [2,3,4,5,6]) (kq [0] ++ [(1,.keep 16),(2,.keep 32)]) 3 pn (g_e_fraction_J1_ok N _ _ _ _ _ h E hE)
noncomputable def C_19 (n:Nat):Code:=cat (bodyOf Try.f60) (pth n)
theorem g_e_Whole_ok (N:Nat) (a:TInt) (r:TRat) (h:g_e_Whole N a=some r):Sound Try.prog 60 [(.agg (TInt.cells a))] [] 0 (.agg [(aB r.f_Num.f_Neg),(.os 0 0 r.f_Num.f_Limbs.length),(aB r.f_Den.f_Neg),(.os 1 0 r.f_Den.f_Limbs.length)]) [(0,aO 1 (cU .u16) 0 r.f_Num.f_Limbs),(1,aO 1 (cU .u16) 0 r.f_Den.f_Limbs)]:=by
 unfold g_e_Whole at h
 refine Sound.of_runs (fu:=Try.f60) (c:=C_19 1) (nt:=7) (by kernel_rfl) (by kernel_rfl) (by kernel_rfl) (by kernel_rfl) (fun hm=>rfl) ?_
 intro E hE
 refine Runs.nR hE 1 [] [] (kp [1,2]) (kq [0,16]) 32 pn ?_
 obtain ⟨rfraction,hr,h⟩:=bindSome h
 refine Runs.nR hE 1 [(3,⟨[],false,(.agg [(aB rfraction.f_Num.f_Neg),(.os 0 0 rfraction.f_Num.f_Limbs.length),(aB rfraction.f_Den.f_Neg),(.os 1 0 rfraction.f_Den.f_Limbs.length)]),[(0,aO 1 (cU .u16) 0 rfraction.f_Num.f_Limbs),(1,aO 1 (cU .u16) 0 rfraction.f_Den.f_Limbs)],0,false,none⟩)] [] (kp [2]) (kq [16,80,81]) 112 (pc o1 (pc (show Sound Try.prog 65 [(.agg (TInt.cells a)),(.agg [(aB false),(.sl 1 (fun zi=>(fun zi=>([[(.atom (.int .u16 1))]]:List (List AV)).getD zi []) (addz 0 zi)))])] [] 0 (.agg [(aB rfraction.f_Num.f_Neg),(.os 0 0 rfraction.f_Num.f_Limbs.length),(aB rfraction.f_Den.f_Neg),(.os 1 0 rfraction.f_Den.f_Limbs.length)]) [(0,aO 1 (cU .u16) 0 rfraction.f_Num.f_Limbs),(1,aO 1 (cU .u16) 0 rfraction.f_Den.f_Limbs)] from (Sound.conv (g_e_fraction_ok N a (⟨false,([1]:List Int)⟩:TInt) rfraction hr) (.cons (Alike.refl _) (.cons (Alike.agg (.cons (Alike.refl _) (.cons (Alike.sl rfl (fun zq hzq=>get_chunk (cU .u16) 0 ([1]:List Int) zq hzq)) .nil))) .nil)))) (pc (show ∀ zi,zi < rfraction.f_Num.f_Limbs.length→AV.flatL ((cU .u16) (rfraction.f_Num.f_Limbs.getD zi 0))=true from (fun _ _=>rfl)) (pc (show ∀ zi,zi < rfraction.f_Den.f_Limbs.length→AV.flatL ((cU .u16) (rfraction.f_Den.f_Limbs.getD zi 0))=true from (fun _ _=>rfl)) (pc (z1 1) (pc o1 pn)))))) ?_
 obtain rfl:=Option.some.inj h
 exact Runs.nT hE 0 Try.f60 [] (kp [2]) [(0,.keep 80),(1,.keep 81),(16,.var 16 [.keep,.keep,.keep,.keep])] 112 pn [16] (pc o1 pn)
noncomputable def C_32 (n:Nat):Code:=cat (bodyOf Try.f92) (pth n)
def g_e_times_L1_H (N:Nat) (a:List Int) (b:List Int) (K:(List Int)→Int→Option ((List Int))):Prop:=∀ (out:List Int) (x:Int) (r:(List Int)),K out x=some r→∀ E,EnvOk E 0→Runs Try.prog E 92 67 (SPost E [] (encL (cU .u16) 0 r)) [.code (C_32 116),.inLoop (C_32 116),.inBlock 0,.code (C_32 15)] ⟨[(1,(encL (cU .u16) 0 b)),(5,(.os 0 0 out.length)),(17,(encL (cU .u16) 0 a)),(18,(aI ((a.length:Nat):Int))),(19,(aI x))],[(0,aO 1 (cU .u16) 0 out)],1⟩
def g_e_times_L2_H (N:Nat) (a:List Int) (b:List Int) (x:Int) (K:(List Int)→Int→Int→Option ((List Int))):Prop:=∀ (out2:List Int) (carry:Int) (x2:Int) (r:(List Int)),K out2 carry x2=some r→∀ E,EnvOk E 0→Runs Try.prog E 92 67 (SPost E [] (encL (cU .u16) 0 r)) [.code (C_32 119604),.inLoop (C_32 119604),.inBlock 2,.code (C_32 14951),.inBlock 1,.code (C_32 935),.inLoop (C_32 116),.inBlock 0,.code (C_32 15)] ⟨[(1,(encL (cU .u16) 0 b)),(5,(.os 0 0 out2.length)),(6,(aI x)),(7,(.atom (.int .u16 (a.getD ((x).toNat) 0)))),(8,(.atom (.int .u32 carry))),(17,(encL (cU .u16) 0 a)),(18,(aI ((a.length:Nat):Int))),(19,(aI x)),(24,(encL (cU .u16) 0 b)),(25,(aI ((b.length:Nat):Int))),(26,(aI x2))],[(0,aO 1 (cU .u16) 0 out2)],1⟩
theorem g_e_times_L2_ok (N:Nat) (a:List Int) (b:List Int) (x:Int) (K_g_e_times_L1:(List Int)→Int→Option ((List Int))) (hK_g_e_times_L1:g_e_times_L1_H N a b K_g_e_times_L1) (fuel:Nat):g_e_times_L2_H N a b x (g_e_times_L2 N a b x K_g_e_times_L1 fuel):=by
 induction fuel with
 | zero=>intro _ _ _ r h;rw [g_e_times_L2.eq_1] at h;cases h
 | succ fuel ih =>
  intro out2 carry x2 r h E hE
  rw [g_e_times_L2.eq_2] at h
  refine Runs.nR hE 1 [] [] (kp [1,5,6,7,8,17,18,19,24,25,26,27]) (kq [0]) 17 pn ?_
  refine Runs.nC 1 27 h (fun hq3 h=>?_) (fun hq3 h=>?_)
  ·obtain ⟨c3,h⟩:=ifSome h
   refine Runs.nR hE 4 [] [] (kp [1,5,6,7,8,9,10,17,18,19,24,25,26]) (kq [0]) 97 (pc c3 pn) ?_
   obtain ⟨c4,h⟩:=ifSome h
   refine Runs.nR hE 1 [] [] (kp [1,5,6,7,8,9,17,18,19,24,25,26]) (kq [0]) 353 (pc c4 (pc (ltOf c4) pn)) ?_
   refine Runs.nR hE 1 [] [] (kp [1] ++ [(5,.osl ((out2.set ((w64 (x+x2)).toNat) (IntKind.u16.wrap ((IntKind.u32.wrap (carry+(IntKind.u32.wrap ((IntKind.u32.wrap ((IntKind.u32.wrap ((a.getD ((x).toNat) 0))) * (IntKind.u32.wrap ((b.getD ((x2).toNat) 0)))))+(IntKind.u32.wrap ((out2.getD ((w64 (x+x2)).toNat) 0)))))))))).length))] ++ kp [6,7,8,17,18,19,24,25,26]) [(0,.arr 0 ((out2.set ((w64 (x+x2)).toNat) (IntKind.u16.wrap ((IntKind.u32.wrap (carry+(IntKind.u32.wrap ((IntKind.u32.wrap ((IntKind.u32.wrap ((a.getD ((x).toNat) 0))) * (IntKind.u32.wrap ((b.getD ((x2).toNat) 0)))))+(IntKind.u32.wrap ((out2.getD ((w64 (x+x2)).toNat) 0)))))))))).length) (fun zi=>(cU .u16) ((out2.set ((w64 (x+x2)).toNat) (IntKind.u16.wrap ((IntKind.u32.wrap (carry+(IntKind.u32.wrap ((IntKind.u32.wrap ((IntKind.u32.wrap ((a.getD ((x).toNat) 0))) * (IntKind.u32.wrap ((b.getD ((x2).toNat) 0)))))+(IntKind.u32.wrap ((out2.getD ((w64 (x+x2)).toNat) 0)))))))))).getD zi 0)))] 481 (pc c4 (pc (ltOf c4) (pc (len_set0 out2 ((w64 (x+x2)).toNat) (IntKind.u16.wrap ((IntKind.u32.wrap (carry+(IntKind.u32.wrap ((IntKind.u32.wrap ((IntKind.u32.wrap ((a.getD ((x).toNat) 0))) * (IntKind.u32.wrap ((b.getD ((x2).toNat) 0)))))+(IntKind.u32.wrap ((out2.getD ((w64 (x+x2)).toNat) 0)))))))))) (pc (len_set0 out2 ((w64 (x+x2)).toNat) (IntKind.u16.wrap ((IntKind.u32.wrap (carry+(IntKind.u32.wrap ((IntKind.u32.wrap ((IntKind.u32.wrap ((a.getD ((x).toNat) 0))) * (IntKind.u32.wrap ((b.getD ((x2).toNat) 0)))))+(IntKind.u32.wrap ((out2.getD ((w64 (x+x2)).toNat) 0)))))))))) (pc (get_set0 (cU .u16) 0 out2 ((w64 (x+x2)).toNat) (IntKind.u16.wrap ((IntKind.u32.wrap (carry+(IntKind.u32.wrap ((IntKind.u32.wrap ((IntKind.u32.wrap ((a.getD ((x).toNat) 0))) * (IntKind.u32.wrap ((b.getD ((x2).toNat) 0)))))+(IntKind.u32.wrap ((out2.getD ((w64 (x+x2)).toNat) 0)))))))))) pn))))) ?_
   refine Runs.nR hE 0 [] [] (kp [1,5,6,7,8,17,18,19,24,25,26]) (kq [0]) 529 (pc (show (0:Int)≤16 by decide) pn) ?_
   refine Runs.nR hE 1 [] [] (kp [1,5,6,7,8,17,18,19,24,25,26]) (kq [0]) 561 pn ?_
   exact Runs.nW hE 1 [] (kp [1,5,6,7,8,17,18,19,24,25,26]) (kq [0]) 1 pn (ih _ _ _ _ h E hE)
  ·obtain ⟨c5,h⟩:=ifSome h
   refine Runs.nR hE 1 [] [] (kp [1] ++ [(5,.osl ((out2.set ((w64 (x+((b.length:Nat):Int))).toNat) (IntKind.u16.wrap (carry))).length))] ++ kp [17,18,19]) [(0,.arr 0 ((out2.set ((w64 (x+((b.length:Nat):Int))).toNat) (IntKind.u16.wrap (carry))).length) (fun zi=>(cU .u16) ((out2.set ((w64 (x+((b.length:Nat):Int))).toNat) (IntKind.u16.wrap (carry))).getD zi 0)))] 161 (pc c5 (pc (ltOf c5) (pc (len_set0 out2 ((w64 (x+((b.length:Nat):Int))).toNat) (IntKind.u16.wrap (carry))) (pc (len_set0 out2 ((w64 (x+((b.length:Nat):Int))).toNat) (IntKind.u16.wrap (carry))) (pc (get_set0 (cU .u16) 0 out2 ((w64 (x+((b.length:Nat):Int))).toNat) (IntKind.u16.wrap (carry))) pn))))) ?_
   refine Runs.nR hE 1 [] [] (kp [1,5,17,18,19]) (kq [0]) 193 pn ?_
   exact Runs.nW hE 1 [] (kp [1,5,17,18,19]) (kq [0]) 1 pn (hK_g_e_times_L1 _ _ _ h E hE)
theorem g_e_times_L1_ok (N:Nat) (a:List Int) (b:List Int) (fuel:Nat):g_e_times_L1_H N a b (g_e_times_L1 N a b fuel):=by
 induction fuel with
 | zero=>intro _ _ r h;rw [g_e_times_L1.eq_1] at h;cases h
 | succ fuel ih =>
  intro out x r h E hE
  rw [g_e_times_L1.eq_2] at h
  refine Runs.nR hE 1 [] [] (kp [1,5,17,18,19,20]) (kq [0]) 17 pn ?_
  refine Runs.nC 1 20 h (fun hq2 h=>?_) (fun hq2 h=>?_)
  ·obtain ⟨c2,h⟩:=ifSome h
   refine Runs.nR hE 4 [] [] (kp [1,5,6,7,17,18,19]) (kq [0]) 97 (pc c2 pn) ?_
   refine Runs.nR hE 1 [] [] (kp [1,5,6,7,8,17,18,19]) (kq [0]) 113 pn ?_
   refine Runs.nR hE 2 [] [] (kp [1,5,6,7,8,17,18,19,24,25,26]) (kq [0]) 161 pn ?_
   exact Runs.nW hE 2 [] (kp [1,5,6,7,8,17,18,19,24,25,26]) (kq [0]) 1 pn (g_e_times_L2_ok N _ _ _ _ ih N _ _ _ _ h E hE)
  ·obtain ⟨rtrim,hr,h⟩:=bindSome h
   refine Runs.nR hE 2 [(1,⟨[],true,(encL (cU .u16) 0 rtrim),[],0,true,none⟩)] [] (kp [4]) [] 65 (pc (g_e_trim_ok N out rtrim hr) (pc (z1 out.length) pn)) ?_
   obtain rfl:=Option.some.inj h
   exact Runs.nT hE 0 Try.f92 [] (kp [4]) [] 65 pn [] pn
theorem g_e_times_ok (N:Nat) (a:List Int) (b:List Int) (r:(List Int)) (h:g_e_times N a b=some r):Sound Try.prog 92 [(encL (cU .u16) 0 a),(encL (cU .u16) 0 b)] [] 0 (encL (cU .u16) 0 r) []:=by
 unfold g_e_times at h
 refine Sound.of_runs (fu:=Try.f92) (c:=C_32 1) (nt:=67) (by kernel_rfl) (by kernel_rfl) (by kernel_rfl) (by kernel_rfl) (fun hm=>rfl) ?_
 intro E hE
 refine Runs.nR hE 1 [] [] (kp [0,1]) [] 16 pn ?_
 obtain ⟨c,h⟩:=ifSome h
 refine Runs.nR hE 1 [] [] (kp [0,1] ++ [(5,.osl ((List.replicate ((w64 (((a.length:Nat):Int)+((b.length:Nat):Int))).toNat) 0:List Int).length))]) [(96,.arr 96 ((List.replicate ((w64 (((a.length:Nat):Int)+((b.length:Nat):Int))).toNat) 0:List Int).length) (fun zi=>(cU .u16) ((List.replicate ((w64 (((a.length:Nat):Int)+((b.length:Nat):Int))).toNat) 0:List Int).getD zi 0)))] 128 (pc (show 0≤(w64 (((a.length:Nat):Int)+((b.length:Nat):Int))) from c.1) (pc (show (w64 (((a.length:Nat):Int)+((b.length:Nat):Int)))≤(w64 (((a.length:Nat):Int)+((b.length:Nat):Int))) from (Int.le_refl _)) (pc (show (2:Int) * (w64 (((a.length:Nat):Int)+((b.length:Nat):Int)))≤281474976710656 from c.2.1) (pc (show (w64 (((a.length:Nat):Int)+((b.length:Nat):Int)))≤9223372036854775807 from c.2.2) (pc (show (w64 (((a.length:Nat):Int)+((b.length:Nat):Int))).toNat=(List.replicate ((w64 (((a.length:Nat):Int)+((b.length:Nat):Int))).toNat) 0:List Int).length from (List.length_replicate).symm) (pc (show (w64 (((a.length:Nat):Int)+((b.length:Nat):Int))).toNat=(List.replicate ((w64 (((a.length:Nat):Int)+((b.length:Nat):Int))).toNat) 0:List Int).length from (List.length_replicate).symm) (pc (show ∀ zi,zi < (List.replicate ((w64 (((a.length:Nat):Int)+((b.length:Nat):Int))).toNat) 0:List Int).length→(fun zi=>(cU .u16) ((List.replicate ((w64 (((a.length:Nat):Int)+((b.length:Nat):Int))).toNat) 0:List Int).getD zi 0)) zi=(fun _=>[(.atom (.int .u16 0))]) zi from (fun zq hzq=>get_rep (cU .u16) 0 0 ((w64 (((a.length:Nat):Int)+((b.length:Nat):Int))).toNat) zq hzq)) pn))))))) ?_
 refine Runs.nR hE 2 [] [] (kp [1,5,17,18,19]) (kq [96]) 176 pn ?_
 exact Runs.nW hE 2 [] (kp [1,5,17,18,19]) [(0,.keep 96)] 1 pn (g_e_times_L1_ok N _ _ N _ _ _ h E hE)
noncomputable def C_31 (n:Nat):Code:=cat (bodyOf Try.f80) (pth n)
theorem g_e_Mul_ok (N:Nat) (a:TInt) (b:TInt) (r:TInt) (h:g_e_Mul N a b=some r):Sound Try.prog 80 [(.agg (TInt.cells a)),(.agg (TInt.cells b))] [] 0 (.agg (TInt.cells r)) []:=by
 unfold g_e_Mul at h
 refine Sound.of_runs (fu:=Try.f80) (c:=C_31 1) (nt:=18) (by kernel_rfl) (by kernel_rfl) (by kernel_rfl) (by kernel_rfl) (fun hm=>rfl) ?_
 intro E hE
 refine Runs.nR hE 1 [] [] (kp [2,3,4]) (kq [0,16,32]) 48 pn ?_
 obtain ⟨rtrim,hr,h⟩:=bindSome h
 obtain ⟨rtrim2,hr2,h⟩:=bindSome h
 obtain ⟨rtimes,hr3,h⟩:=bindSome h
 obtain ⟨rsigned,hr4,h⟩:=bindSome h
 refine Runs.nR hE 1 [(7,⟨[],true,(encL (cU .u16) 0 rtrim),[],0,false,none⟩),(10,⟨[],true,(encL (cU .u16) 0 rtrim2),[],0,false,none⟩),(11,⟨[],true,(encL (cU .u16) 0 rtimes),[],0,false,none⟩),(12,⟨[],false,(.agg [(aB rsigned.f_Neg),(.os 0 0 rsigned.f_Limbs.length)]),[(0,aO 1 (cU .u16) 0 rsigned.f_Limbs)],0,false,none⟩)] [] (kp [4]) (kq [32,240]) 272 (pc o1 (pc o1 (pc o1 (pc (g_e_trim_ok N a.f_Limbs rtrim hr) (pc o1 (pc (g_e_trim_ok N b.f_Limbs rtrim2 hr2) (pc (g_e_times_ok N rtrim rtrim2 rtimes hr3) (pc (g_e_signed_ok N (!(a.f_Neg == b.f_Neg)) rtimes rsigned hr4) (pc o1 pn))))))))) ?_
 obtain rfl:=Option.some.inj h
 exact Runs.nT hE 0 Try.f80 [240] (kp [4]) [(16,.var 32 [.keep,.sl (rsigned.f_Limbs.length) (fun zi=>(cU .u16) (rsigned.f_Limbs.getD zi 0))])] 272 (pc (Eq.refl rsigned.f_Limbs.length) (pc (z1 rsigned.f_Limbs.length) (pc (show ∀ zi,zi < rsigned.f_Limbs.length→(fun zi=>(cU .u16) (rsigned.f_Limbs.getD zi 0)) zi=(fun zi=>(cU .u16) (rsigned.f_Limbs.getD zi 0)) (addz 0 zi) from (fun _ _=>rfl)) pn))) [16] (pc o1 pn)
noncomputable def C_34 (n:Nat):Code:=cat (bodyOf Try.f84) (pth n)
theorem g_e_sign_ok (N:Nat) (a:TInt) (r:Int) (h:g_e_sign N a=some r):Sound Try.prog 84 [(.agg (TInt.cells a))] [] 0 (aI r) []:=by
 unfold g_e_sign at h
 refine Sound.of_runs (fu:=Try.f84) (c:=C_34 1) (nt:=12) (by kernel_rfl) (by kernel_rfl) (by kernel_rfl) (by kernel_rfl) (fun hm=>rfl) ?_
 intro E hE
 refine Runs.nR hE 1 [] [] (kp [1]) (kq [0]) 32 pn ?_
 obtain ⟨rtrim,hr,h⟩:=bindSome h
 refine Runs.nR hE 3 [(2,⟨[],true,(encL (cU .u16) 0 rtrim),[],0,false,none⟩)] [] (kp [1,3]) (kq [0]) 128 (pc o1 (pc (g_e_trim_ok N a.f_Limbs rtrim hr) pn)) ?_
 refine Runs.nC 0 3 h (fun hq2 h=>?_) (fun hq2 h=>?_)
 ·refine Runs.nR hE 1 [] [] (kp [2]) [] 144 pn ?_
  obtain rfl:=Option.some.inj h
  exact Runs.nT hE 0 Try.f84 [] (kp [2]) [] 144 pn [] pn
 ·refine Runs.nR hE 1 [] [] (kp [9]) [] 176 (pc o1 pn) ?_
  refine Runs.nC 0 9 h (fun hq3 h=>?_) (fun hq3 h=>?_)
  ·refine Runs.nR hE 1 [] [] (kp [2]) [] 192 pn ?_
   obtain rfl:=Option.some.inj h
   exact Runs.nT hE 0 Try.f84 [] (kp [2]) [] 192 pn [] pn
  ·refine Runs.nR hE 3 [] [] (kp [2]) [] 192 pn ?_
   obtain rfl:=Option.some.inj h
   exact Runs.nT hE 0 Try.f84 [] (kp [2]) [] 192 pn [] pn
noncomputable def C_33 (n:Nat):Code:=cat (bodyOf Try.f66) (pth n)
theorem g_e_below_ok (N:Nat) (x:TRat) (r:TInt) (h:g_e_below N x=some r):Sound Try.prog 66 [(.agg (TRat.cells x))] [] 0 (.agg (TInt.cells r)) []:=by
 unfold g_e_below at h
 refine Sound.of_runs (fu:=Try.f66) (c:=C_33 1) (nt:=11) (by kernel_rfl) (by kernel_rfl) (by kernel_rfl) (by kernel_rfl) (fun hm=>rfl) ?_
 intro E hE
 refine Runs.nR hE 1 [] [] (kp [1,2]) (kq [0,16]) 32 pn ?_
 obtain ⟨rsign,hr,h⟩:=bindSome h
 refine Runs.nR hE 2 [(2,⟨[],true,(aI rsign),[],0,false,none⟩)] [] (kp [1,2,6]) (kq [0,16]) 96 (pc o1 (pc (g_e_sign_ok N x.f_Den rsign hr) pn)) ?_
 refine Runs.nC 0 6 h (fun hq2 h=>?_) (fun hq2 h=>?_)
 ·refine Runs.nR hE 1 [] [] (kp [2]) [(16,.var 16 [.keep,.osl (([1]:List Int).length)]),(96,.arr 96 (([1]:List Int).length) (fun zi=>(cU .u16) (([1]:List Int).getD zi 0)))] 144 (pc o1 (pc (Eq.refl 1) (pc (Eq.refl 1) (pc (show ∀ zi,zi < ([1]:List Int).length→(fun zi=>(cU .u16) (([1]:List Int).getD zi 0)) zi=(fun zi=>([[(.atom (.int .u16 1))]]:List (List AV)).getD zi []) zi from (fun zq hzq=>get_chunk (cU .u16) 0 ([1]:List Int) zq hzq)) pn)))) ?_
  obtain rfl:=Option.some.inj h
  exact Runs.nT hE 0 Try.f66 [96] (kp [2]) [(16,.var 16 [.keep,.sl (([1]:List Int).length) (fun zi=>(cU .u16) (([1]:List Int).getD zi 0))])] 144 (pc (Eq.refl (([1]:List Int).length)) (pc (z1 (([1]:List Int).length)) (pc (show ∀ zi,zi < ([1]:List Int).length→(fun zi=>(cU .u16) (([1]:List Int).getD zi 0)) zi=(fun zi=>(cU .u16) (([1]:List Int).getD zi 0)) (addz 0 zi) from (fun _ _=>rfl)) pn))) [16] (pc o1 pn)
 ·refine Runs.nR hE 2 [] [] (kp [2]) (kq [16]) 144 (pc o1 (pc o1 pn)) ?_
  obtain rfl:=Option.some.inj h
  exact Runs.nT hE 0 Try.f66 [] (kp [2]) (kq [16]) 144 pn [16] (pc o1 pn)
noncomputable def C_30 (n:Nat):Code:=cat (bodyOf Try.f62) (pth n)
theorem g_e_MulRat_ok (N:Nat) (x:TRat) (y:TRat) (r:TRat) (h:g_e_MulRat N x y=some r):Sound Try.prog 62 [(.agg (TRat.cells x)),(.agg (TRat.cells y))] [] 0 (.agg [(aB r.f_Num.f_Neg),(.os 0 0 r.f_Num.f_Limbs.length),(aB r.f_Den.f_Neg),(.os 1 0 r.f_Den.f_Limbs.length)]) [(0,aO 1 (cU .u16) 0 r.f_Num.f_Limbs),(1,aO 1 (cU .u16) 0 r.f_Den.f_Limbs)]:=by
 unfold g_e_MulRat at h
 refine Sound.of_runs (fu:=Try.f62) (c:=C_30 1) (nt:=16) (by kernel_rfl) (by kernel_rfl) (by kernel_rfl) (by kernel_rfl) (fun hm=>rfl) ?_
 intro E hE
 refine Runs.nR hE 1 [] [] (kp [2,3,4]) (kq [0,16,32]) 48 pn ?_
 obtain ⟨rMul,hr,h⟩:=bindSome h
 obtain ⟨rbelow,hr2,h⟩:=bindSome h
 obtain ⟨rbelow2,hr3,h⟩:=bindSome h
 obtain ⟨rMul2,hr4,h⟩:=bindSome h
 obtain ⟨rfraction,hr5,h⟩:=bindSome h
 refine Runs.nR hE 1 [(4,⟨[],true,(.agg (TInt.cells rMul)),[],0,false,none⟩),(6,⟨[],true,(.agg (TInt.cells rbelow)),[],0,false,none⟩),(8,⟨[],true,(.agg (TInt.cells rbelow2)),[],0,false,none⟩),(9,⟨[],true,(.agg (TInt.cells rMul2)),[],0,false,none⟩),(10,⟨[],false,(.agg [(aB rfraction.f_Num.f_Neg),(.os 0 0 rfraction.f_Num.f_Limbs.length),(aB rfraction.f_Den.f_Neg),(.os 1 0 rfraction.f_Den.f_Limbs.length)]),[(0,aO 1 (cU .u16) 0 rfraction.f_Num.f_Limbs),(1,aO 1 (cU .u16) 0 rfraction.f_Den.f_Limbs)],0,false,none⟩)] [] (kp [4]) (kq [32,208,209]) 240 (pc o1 (pc o1 (pc (g_e_Mul_ok N x.f_Num y.f_Num rMul hr) (pc o1 (pc (g_e_below_ok N x rbelow hr2) (pc o1 (pc (g_e_below_ok N y rbelow2 hr3) (pc (g_e_Mul_ok N rbelow rbelow2 rMul2 hr4) (pc (g_e_fraction_ok N rMul rMul2 rfraction hr5) (pc o1 pn)))))))))) ?_
 obtain rfl:=Option.some.inj h
 exact Runs.nT hE 0 Try.f62 [] (kp [4]) [(0,.keep 208),(1,.keep 209),(16,.var 32 [.keep,.keep,.keep,.keep])] 240 pn [16] (pc o1 pn)
noncomputable def C_13 (n:Nat):Code:=cat (bodyOf Try.f36) (pth n)
def g_water_product_L1_H (N:Nat) (l:List Int) (K:Bool→(List Int)→Bool→(List Int)→Int→Option (TRat)):Prop:=∀ (out:Bool) (out2:List Int) (out3:Bool) (out4:List Int) (x:Int) (r:TRat),K out out2 out3 out4 x=some r→∀ E,EnvOk E 0→Runs Try.prog E 36 21 (SPost E [(0,aO 1 (cU .u16) 0 r.f_Num.f_Limbs),(1,aO 1 (cU .u16) 0 r.f_Den.f_Limbs)] (.agg [(aB r.f_Num.f_Neg),(.os 0 0 r.f_Num.f_Limbs.length),(aB r.f_Den.f_Neg),(.os 1 0 r.f_Den.f_Limbs.length)])) [.code (C_13 116),.inLoop (C_13 116),.inBlock 0,.code (C_13 15)] ⟨[(2,(.op 0 0 0)),(3,(.op 1 0 0)),(8,(encL cI 0 l)),(9,(aI ((l.length:Nat):Int))),(10,(aI x))],[(0,vO 4 [(aB false),.nil,(aB false),.nil]),(1,vN 4 [(aB out),(.os 2 0 out2.length),(aB out3),(.os 3 0 out4.length)]),(2,aO 1 (cU .u16) 0 out2),(3,aO 1 (cU .u16) 0 out4)],4⟩
theorem g_water_product_L1_ok (N:Nat) (l:List Int) (fuel:Nat):g_water_product_L1_H N l (g_water_product_L1 N l fuel):=by
 induction fuel with
 | zero=>intro _ _ _ _ _ r h;rw [g_water_product_L1.eq_1] at h;cases h
 | succ fuel ih =>
  intro out out2 out3 out4 x r h E hE
  rw [g_water_product_L1.eq_2] at h
  refine Runs.nR hE 1 [] [] (kp [2,3,8,9,10,11]) (kq [0,1,2,3]) 20 pn ?_
  refine Runs.nC 1 11 h (fun hq2 h=>?_) (fun hq2 h=>?_)
  ·obtain ⟨c,h⟩:=ifSome h
   refine Runs.nR hE 4 [] [] (kp [2,3,5,8,9,10]) (kq [0,1,2,3]) 68 (pc c pn) ?_
   obtain ⟨rOf2,hr3,h⟩:=bindSome h
   obtain ⟨rWhole2,hr4,h⟩:=bindSome h
   obtain ⟨rMulRat,hr5,h⟩:=bindSome h
   refine Runs.nR hE 0 [(2,⟨[],true,(.agg (TInt.cells rOf2)),[],0,false,none⟩),(3,⟨[],false,(.agg [(aB rWhole2.f_Num.f_Neg),(.os 0 0 rWhole2.f_Num.f_Limbs.length),(aB rWhole2.f_Den.f_Neg),(.os 1 0 rWhole2.f_Den.f_Limbs.length)]),[(0,aO 1 (cU .u16) 0 rWhole2.f_Num.f_Limbs),(1,aO 1 (cU .u16) 0 rWhole2.f_Den.f_Limbs)],0,false,none⟩),(4,⟨[],false,(.agg [(aB rMulRat.f_Num.f_Neg),(.os 0 0 rMulRat.f_Num.f_Limbs.length),(aB rMulRat.f_Den.f_Neg),(.os 1 0 rMulRat.f_Den.f_Limbs.length)]),[(0,aO 1 (cU .u16) 0 rMulRat.f_Num.f_Limbs),(1,aO 1 (cU .u16) 0 rMulRat.f_Den.f_Limbs)],0,false,none⟩)] [] (kp [2,3,8,9,10]) (kq [0,1,132,133]) 164 (pc o1 (pc (g_e_Of_ok N (l.getD ((x).toNat) 0) rOf2 hr3) (pc (g_e_Whole_ok N rOf2 rWhole2 hr4) (pc (g_e_MulRat_ok N (⟨(⟨out,out2⟩:TInt),(⟨out3,out4⟩:TInt)⟩:TRat) (⟨rWhole2.f_Num,rWhole2.f_Den⟩:TRat) rMulRat hr5) (pc (show ∀ zi,zi < rMulRat.f_Num.f_Limbs.length→AV.flatL ((cU .u16) (rMulRat.f_Num.f_Limbs.getD zi 0))=true from (fun _ _=>rfl)) (pc (show ∀ zi,zi < rMulRat.f_Den.f_Limbs.length→AV.flatL ((cU .u16) (rMulRat.f_Den.f_Limbs.getD zi 0))=true from (fun _ _=>rfl)) (pc (z1 out2.length) (pc (z1 out4.length) (pc (z1 rWhole2.f_Num.f_Limbs.length) (pc (z1 rWhole2.f_Den.f_Limbs.length) (pc o1 pn))))))))))) ?_
   refine Runs.nR hE 1 [] [] (kp [2,3,8,9,10]) (kq [0,1,132,133]) 196 pn ?_
   exact Runs.nW hE 1 [] (kp [2,3,8,9,10]) (kq [0,1] ++ [(2,.keep 132),(3,.keep 133)]) 4 pn (ih _ _ _ _ _ _ h E hE)
  ·refine Runs.nR hE 2 [] [] (kp [2]) (kq [0,2,3]) 52 (pc o1 (pc o1 pn)) ?_
   obtain rfl:=Option.some.inj h
   exact Runs.nT hE 0 Try.f36 [] (kp [2]) [(0,.keep 2),(1,.keep 3),(16,.var 0 [.keep,.keep,.keep,.keep])] 52 pn [16] (pc o1 pn)
theorem g_water_product_ok (N:Nat) (l:List Int) (r:TRat) (h:g_water_product N l=some r):Sound Try.prog 36 [(encL cI 0 l)] [] 0 (.agg [(aB r.f_Num.f_Neg),(.os 0 0 r.f_Num.f_Limbs.length),(aB r.f_Den.f_Neg),(.os 1 0 r.f_Den.f_Limbs.length)]) [(0,aO 1 (cU .u16) 0 r.f_Num.f_Limbs),(1,aO 1 (cU .u16) 0 r.f_Den.f_Limbs)]:=by
 unfold g_water_product at h
 refine Sound.of_runs (fu:=Try.f36) (c:=C_13 1) (nt:=21) (by kernel_rfl) (by kernel_rfl) (by kernel_rfl) (by kernel_rfl) (fun hm=>rfl) ?_
 intro E hE
 refine Runs.nR hE 1 [] [] (kp [0,2]) (kq [0]) 16 pn ?_
 obtain ⟨rOf,hr,h⟩:=bindSome h
 obtain ⟨rWhole,hr2,h⟩:=bindSome h
 refine Runs.nR hE 1 [(0,⟨[],true,(.agg (TInt.cells rOf)),[],0,false,none⟩),(1,⟨[],false,(.agg [(aB rWhole.f_Num.f_Neg),(.os 0 0 rWhole.f_Num.f_Limbs.length),(aB rWhole.f_Den.f_Neg),(.os 1 0 rWhole.f_Den.f_Limbs.length)]),[(0,aO 1 (cU .u16) 0 rWhole.f_Num.f_Limbs),(1,aO 1 (cU .u16) 0 rWhole.f_Den.f_Limbs)],0,false,none⟩)] [] (kp [0,2,3]) (kq [0,32,33,48]) 80 (pc (g_e_Of_ok N 1 rOf hr) (pc (g_e_Whole_ok N rOf rWhole hr2) (pc o1 pn))) ?_
 refine Runs.nR hE 2 [] [] (kp [2,3,8,9,10]) (kq [0,32,33,48]) 128 pn ?_
 exact Runs.nW hE 2 [] (kp [2,3,8,9,10]) (kq [0] ++ [(1,.keep 48),(2,.keep 32),(3,.keep 33)]) 4 pn (g_water_product_L1_ok N _ N _ _ _ _ _ _ h E hE)
noncomputable def C_37 (n:Nat):Code:=cat (bodyOf Try.f77) (pth n)
theorem g_e_isZero_ok (N:Nat) (x:TRat) (r:Bool) (h:g_e_isZero N x=some r):Sound Try.prog 77 [(.agg (TRat.cells x))] [] 0 (aB r) []:=by
 unfold g_e_isZero at h
 refine Sound.of_runs (fu:=Try.f77) (c:=C_37 1) (nt:=7) (by kernel_rfl) (by kernel_rfl) (by kernel_rfl) (by kernel_rfl) (fun hm=>rfl) ?_
 intro E hE
 refine Runs.nR hE 1 [] [] (kp [1]) (kq [0]) 32 pn ?_
 obtain ⟨rsign,hr,h⟩:=bindSome h
 refine Runs.nR hE 1 [(2,⟨[],true,(aI rsign),[],0,false,none⟩)] [] (kp [2]) [] 112 (pc o1 (pc (g_e_sign_ok N x.f_Num rsign hr) pn)) ?_
 obtain rfl:=Option.some.inj h
 exact Runs.nT hE 0 Try.f77 [] (kp [2]) [] 112 pn [] pn
noncomputable def C_38 (n:Nat):Code:=cat (bodyOf Try.f78) (pth n)
theorem g_e_over_ok (N:Nat) (x:TRat) (y:TRat) (r:TRat) (h:g_e_over N x y=some r):Sound Try.prog 78 [(.agg (TRat.cells x)),(.agg (TRat.cells y))] [] 0 (.agg [(aB r.f_Num.f_Neg),(.os 0 0 r.f_Num.f_Limbs.length),(aB r.f_Den.f_Neg),(.os 1 0 r.f_Den.f_Limbs.length)]) [(0,aO 1 (cU .u16) 0 r.f_Num.f_Limbs),(1,aO 1 (cU .u16) 0 r.f_Den.f_Limbs)]:=by
 unfold g_e_over at h
 refine Sound.of_runs (fu:=Try.f78) (c:=C_38 1) (nt:=16) (by kernel_rfl) (by kernel_rfl) (by kernel_rfl) (by kernel_rfl) (fun hm=>rfl) ?_
 intro E hE
 refine Runs.nR hE 1 [] [] (kp [2,3,4]) (kq [0,16,32]) 48 pn ?_
 obtain ⟨rbelow,hr,h⟩:=bindSome h
 obtain ⟨rMul,hr2,h⟩:=bindSome h
 obtain ⟨rbelow2,hr3,h⟩:=bindSome h
 obtain ⟨rMul2,hr4,h⟩:=bindSome h
 obtain ⟨rfraction,hr5,h⟩:=bindSome h
 refine Runs.nR hE 1 [(3,⟨[],true,(.agg (TInt.cells rbelow)),[],0,false,none⟩),(4,⟨[],true,(.agg (TInt.cells rMul)),[],0,false,none⟩),(6,⟨[],true,(.agg (TInt.cells rbelow2)),[],0,false,none⟩),(9,⟨[],true,(.agg (TInt.cells rMul2)),[],0,false,none⟩),(10,⟨[],false,(.agg [(aB rfraction.f_Num.f_Neg),(.os 0 0 rfraction.f_Num.f_Limbs.length),(aB rfraction.f_Den.f_Neg),(.os 1 0 rfraction.f_Den.f_Limbs.length)]),[(0,aO 1 (cU .u16) 0 rfraction.f_Num.f_Limbs),(1,aO 1 (cU .u16) 0 rfraction.f_Den.f_Limbs)],0,false,none⟩)] [] (kp [4]) (kq [32,208,209]) 240 (pc o1 (pc o1 (pc (g_e_below_ok N y rbelow hr) (pc (g_e_Mul_ok N x.f_Num rbelow rMul hr2) (pc o1 (pc (g_e_below_ok N x rbelow2 hr3) (pc o1 (pc (g_e_Mul_ok N rbelow2 y.f_Num rMul2 hr4) (pc (g_e_fraction_ok N rMul rMul2 rfraction hr5) (pc o1 pn)))))))))) ?_
 obtain rfl:=Option.some.inj h
 exact Runs.nT hE 0 Try.f78 [] (kp [4]) [(0,.keep 208),(1,.keep 209),(16,.var 32 [.keep,.keep,.keep,.keep])] 240 pn [16] (pc o1 pn)
noncomputable def C_36 (n:Nat):Code:=cat (bodyOf Try.f59) (pth n)
theorem g_e_QuoRat_ok (N:Nat) (x:TRat) (y:TRat) (r:TRat×Int) (h:g_e_QuoRat N x y=some r):Sound Try.prog 59 [(.agg (TRat.cells x)),(.agg (TRat.cells y))] [] 0 (.tup [(.agg [(aB r.1.f_Num.f_Neg),(.os 0 0 r.1.f_Num.f_Limbs.length),(aB r.1.f_Den.f_Neg),(.os 1 0 r.1.f_Den.f_Limbs.length)]),(aI r.2)]) [(0,aO 1 (cU .u16) 0 r.1.f_Num.f_Limbs),(1,aO 1 (cU .u16) 0 r.1.f_Den.f_Limbs)]:=by
 unfold g_e_QuoRat at h
 refine Sound.of_runs (fu:=Try.f59) (c:=C_36 1) (nt:=12) (by kernel_rfl) (by kernel_rfl) (by kernel_rfl) (by kernel_rfl) (fun hm=>rfl) ?_
 intro E hE
 refine Runs.nR hE 1 [] [] (kp [2,3,4]) (kq [0,16,32]) 64 pn ?_
 obtain ⟨risZero,hr,h⟩:=bindSome h
 refine Runs.nR hE 2 [(1,⟨[],true,(aB risZero),[],0,false,none⟩)] [] (kp [2,3,4,7]) (kq [0,16,32]) 96 (pc o1 (pc (g_e_isZero_ok N y risZero hr) pn)) ?_
 refine Runs.nC 0 7 h (fun hq2 h=>?_) (fun hq2 h=>?_)
 ·refine Runs.nR hE 1 [] [] (kp [4,5]) (kq [32]) 144 (pc o1 pn) ?_
  obtain rfl:=Option.some.inj h
  exact Runs.nT hE 0 Try.f59 [] (kp [4,5]) [(0,.nil 1 (fun zi=>(cU .u16) (([]:List Int).getD zi 0))),(1,.nil 1 (fun zi=>(cU .u16) (([]:List Int).getD zi 0))),(16,.var 32 [.keep,.nilos 0,.keep,.nilos 1])] 144 pn [16] (pc o1 pn)
 ·obtain ⟨rover,hr2,h⟩:=bindSome h
  refine Runs.nR hE 2 [(2,⟨[],false,(.agg [(aB rover.f_Num.f_Neg),(.os 0 0 rover.f_Num.f_Limbs.length),(aB rover.f_Den.f_Neg),(.os 1 0 rover.f_Den.f_Limbs.length)]),[(0,aO 1 (cU .u16) 0 rover.f_Num.f_Limbs),(1,aO 1 (cU .u16) 0 rover.f_Den.f_Limbs)],0,false,none⟩)] [] (kp [4,5]) (kq [32,128,129]) 176 (pc o1 (pc o1 (pc (g_e_over_ok N x y rover hr2) (pc o1 pn)))) ?_
  obtain rfl:=Option.some.inj h
  exact Runs.nT hE 0 Try.f59 [] (kp [4,5]) [(0,.keep 128),(1,.keep 129),(16,.var 32 [.keep,.keep,.keep,.keep])] 176 pn [16] (pc o1 pn)
noncomputable def C_35 (n:Nat):Code:=cat (bodyOf Try.f35) (pth n)
theorem g_water_quotient_ok (N:Nat) (x:TRat) (y:TRat) (r:TRat) (h:g_water_quotient N x y=some r):Sound Try.prog 35 [(.agg (TRat.cells x)),(.agg (TRat.cells y))] [] 0 (.agg [(aB r.f_Num.f_Neg),(.os 0 0 r.f_Num.f_Limbs.length),(aB r.f_Den.f_Neg),(.os 1 0 r.f_Den.f_Limbs.length)]) [(0,aO 1 (cU .u16) 0 r.f_Num.f_Limbs),(1,aO 1 (cU .u16) 0 r.f_Den.f_Limbs)]:=by
 unfold g_water_quotient at h
 refine Sound.of_runs (fu:=Try.f35) (c:=C_35 1) (nt:=14) (by kernel_rfl) (by kernel_rfl) (by kernel_rfl) (by kernel_rfl) (fun hm=>rfl) ?_
 intro E hE
 refine Runs.nR hE 1 [] [] (kp [2,3,4]) (kq [0,16,32]) 48 pn ?_
 obtain ⟨rQuoRat,hr,h⟩:=bindSome h
 refine Runs.nR hE 1 [(2,⟨[],false,(.tup [(.agg [(aB rQuoRat.1.f_Num.f_Neg),(.os 0 0 rQuoRat.1.f_Num.f_Limbs.length),(aB rQuoRat.1.f_Den.f_Neg),(.os 1 0 rQuoRat.1.f_Den.f_Limbs.length)]),(aI rQuoRat.2)]),[(0,aO 1 (cU .u16) 0 rQuoRat.1.f_Num.f_Limbs),(1,aO 1 (cU .u16) 0 rQuoRat.1.f_Den.f_Limbs)],0,false,none⟩)] [] (kp [4,5]) (kq [32,80,81,144]) 192 (pc o1 (pc o1 (pc (g_e_QuoRat_ok N x y rQuoRat hr) (pc o1 pn)))) ?_
 refine Runs.nR hE 1 [] [] (kp [4]) (kq [32,80,81]) 224 (pc o1 (pc o1 pn)) ?_
 obtain rfl:=Option.some.inj h
 exact Runs.nT hE 0 Try.f35 [] (kp [4]) [(0,.keep 80),(1,.keep 81),(16,.var 32 [.keep,.keep,.keep,.keep])] 224 pn [16] (pc o1 pn)
noncomputable def C_41 (n:Nat):Code:=cat (bodyOf Try.f82) (pth n)
theorem g_e_opposite_ok (N:Nat) (a:TInt) (r:TInt) (h:g_e_opposite N a=some r):Sound Try.prog 82 [(.agg (TInt.cells a))] [] 0 (.agg (TInt.cells r)) []:=by
 unfold g_e_opposite at h
 refine Sound.of_runs (fu:=Try.f82) (c:=C_41 1) (nt:=9) (by kernel_rfl) (by kernel_rfl) (by kernel_rfl) (by kernel_rfl) (fun hm=>rfl) ?_
 intro E hE
 refine Runs.nR hE 1 [] [] (kp [1,2]) (kq [0,16]) 32 pn ?_
 refine Runs.nR hE 1 [] [] (kp [2]) (kq [16]) 144 (pc o1 (pc o1 (pc o1 pn))) ?_
 obtain rfl:=Option.some.inj h
 exact Runs.nT hE 0 Try.f82 [] (kp [2]) (kq [16]) 144 pn [16] (pc o1 pn)
noncomputable def C_40 (n:Nat):Code:=cat (bodyOf Try.f64) (pth n)
theorem g_e_negative_ok (N:Nat) (x:TRat) (r:TRat) (h:g_e_negative N x=some r):Sound Try.prog 64 [(.agg (TRat.cells x))] [] 0 (.agg (TRat.cells r)) []:=by
 unfold g_e_negative at h
 refine Sound.of_runs (fu:=Try.f64) (c:=C_40 1) (nt:=9) (by kernel_rfl) (by kernel_rfl) (by kernel_rfl) (by kernel_rfl) (fun hm=>rfl) ?_
 intro E hE
 refine Runs.nR hE 1 [] [] (kp [1,2]) (kq [0,16]) 32 pn ?_
 obtain ⟨ropposite,hr,h⟩:=bindSome h
 obtain ⟨rbelow,hr2,h⟩:=bindSome h
 obtain ⟨rfraction,hr3,h⟩:=bindSome h
 refine Runs.nR hE 1 [(2,⟨[],true,(.agg (TInt.cells ropposite)),[],0,false,none⟩),(4,⟨[],true,(.agg (TInt.cells rbelow)),[],0,false,none⟩),(5,⟨[],false,(.agg [(aB rfraction.f_Num.f_Neg),(.os 0 0 rfraction.f_Num.f_Limbs.length),(aB rfraction.f_Den.f_Neg),(.os 1 0 rfraction.f_Den.f_Limbs.length)]),[(0,aO 1 (cU .u16) 0 rfraction.f_Num.f_Limbs),(1,aO 1 (cU .u16) 0 rfraction.f_Den.f_Limbs)],0,false,none⟩)] [] (kp [2]) (kq [16,112,113]) 144 (pc o1 (pc (g_e_opposite_ok N x.f_Num ropposite hr) (pc o1 (pc (g_e_below_ok N x rbelow hr2) (pc (g_e_fraction_ok N ropposite rbelow rfraction hr3) (pc o1 pn)))))) ?_
 obtain rfl:=Option.some.inj h
 exact Runs.nT hE 0 Try.f64 [112,113] (kp [2]) [(16,.var 16 [.keep,.sl (rfraction.f_Num.f_Limbs.length) (fun zi=>(cU .u16) (rfraction.f_Num.f_Limbs.getD zi 0)),.keep,.sl (rfraction.f_Den.f_Limbs.length) (fun zi=>(cU .u16) (rfraction.f_Den.f_Limbs.getD zi 0))])] 144 (pc (Eq.refl rfraction.f_Num.f_Limbs.length) (pc (z1 rfraction.f_Num.f_Limbs.length) (pc (show ∀ zi,zi < rfraction.f_Num.f_Limbs.length→(fun zi=>(cU .u16) (rfraction.f_Num.f_Limbs.getD zi 0)) zi=(fun zi=>(cU .u16) (rfraction.f_Num.f_Limbs.getD zi 0)) (addz 0 zi) from (fun _ _=>rfl)) (pc (Eq.refl rfraction.f_Den.f_Limbs.length) (pc (z1 rfraction.f_Den.f_Limbs.length) (pc (show ∀ zi,zi < rfraction.f_Den.f_Limbs.length→(fun zi=>(cU .u16) (rfraction.f_Den.f_Limbs.getD zi 0)) zi=(fun zi=>(cU .u16) (rfraction.f_Den.f_Limbs.getD zi 0)) (addz 0 zi) from (fun _ _=>rfl)) pn)))))) [16] (pc o1 pn)
noncomputable def C_43 (n:Nat):Code:=cat (bodyOf Try.f40) (pth n)
theorem g_e_lowest_ok (N:Nat) (x:TRat) (r:TRat) (h:g_e_lowest N x=some r):Sound Try.prog 40 [(.agg (TRat.cells x))] [] 0 (.agg (TRat.cells r)) []:=by
 unfold g_e_lowest at h
 refine Sound.of_runs (fu:=Try.f40) (c:=C_43 1) (nt:=8) (by kernel_rfl) (by kernel_rfl) (by kernel_rfl) (by kernel_rfl) (fun hm=>rfl) ?_
 intro E hE
 refine Runs.nR hE 1 [] [] (kp [1,2]) (kq [0,16]) 32 pn ?_
 obtain ⟨rbelow,hr,h⟩:=bindSome h
 obtain ⟨rfraction,hr2,h⟩:=bindSome h
 refine Runs.nR hE 1 [(3,⟨[],true,(.agg (TInt.cells rbelow)),[],0,false,none⟩),(4,⟨[],false,(.agg [(aB rfraction.f_Num.f_Neg),(.os 0 0 rfraction.f_Num.f_Limbs.length),(aB rfraction.f_Den.f_Neg),(.os 1 0 rfraction.f_Den.f_Limbs.length)]),[(0,aO 1 (cU .u16) 0 rfraction.f_Num.f_Limbs),(1,aO 1 (cU .u16) 0 rfraction.f_Den.f_Limbs)],0,false,none⟩)] [] (kp [2]) (kq [16,96,97]) 128 (pc o1 (pc o1 (pc (g_e_below_ok N x rbelow hr) (pc (g_e_fraction_ok N x.f_Num rbelow rfraction hr2) (pc o1 pn))))) ?_
 obtain rfl:=Option.some.inj h
 exact Runs.nT hE 0 Try.f40 [96,97] (kp [2]) [(16,.var 16 [.keep,.sl (rfraction.f_Num.f_Limbs.length) (fun zi=>(cU .u16) (rfraction.f_Num.f_Limbs.getD zi 0)),.keep,.sl (rfraction.f_Den.f_Limbs.length) (fun zi=>(cU .u16) (rfraction.f_Den.f_Limbs.getD zi 0))])] 128 (pc (Eq.refl rfraction.f_Num.f_Limbs.length) (pc (z1 rfraction.f_Num.f_Limbs.length) (pc (show ∀ zi,zi < rfraction.f_Num.f_Limbs.length→(fun zi=>(cU .u16) (rfraction.f_Num.f_Limbs.getD zi 0)) zi=(fun zi=>(cU .u16) (rfraction.f_Num.f_Limbs.getD zi 0)) (addz 0 zi) from (fun _ _=>rfl)) (pc (Eq.refl rfraction.f_Den.f_Limbs.length) (pc (z1 rfraction.f_Den.f_Limbs.length) (pc (show ∀ zi,zi < rfraction.f_Den.f_Limbs.length→(fun zi=>(cU .u16) (rfraction.f_Den.f_Limbs.getD zi 0)) zi=(fun zi=>(cU .u16) (rfraction.f_Den.f_Limbs.getD zi 0)) (addz 0 zi) from (fun _ _=>rfl)) pn)))))) [16] (pc o1 pn)
noncomputable def C_45 (n:Nat):Code:=cat (bodyOf Try.f68) (pth n)
def g_e_plus_J1_H (N:Nat) (K:(List Int)→(List Int)→Option ((List Int))):Prop:=∀ (a2:List Int) (b2:List Int) (r:(List Int)),K a2 b2=some r→∀ E,EnvOk E 0→Runs Try.prog E 68 56 (SPost E [] (encL (cU .u16) 0 r)) [.code (C_45 14),.code (C_45 15)] ⟨[(0,(encL (cU .u16) 0 a2)),(1,(encL (cU .u16) 0 b2))],[],0⟩
def g_e_plus_L2_H (N:Nat) (a2:List Int) (b2:List Int) (K:(List Int)→Int→Int→Option ((List Int))):Prop:=∀ (out:List Int) (carry:Int) (x:Int) (r:(List Int)),K out carry x=some r→∀ E,EnvOk E 0→Runs Try.prog E 68 56 (SPost E [] (encL (cU .u16) 0 r)) [.code (C_45 500),.inLoop (C_45 500),.inBlock 0,.code (C_45 63)] ⟨[(1,(encL (cU .u16) 0 b2)),(5,(.os 0 0 out.length)),(6,(.atom (.int .u32 carry))),(20,(encL (cU .u16) 0 a2)),(21,(aI ((a2.length:Nat):Int))),(22,(aI x))],[(0,aO 1 (cU .u16) 0 out)],1⟩
def g_e_plus_J3_H (N:Nat) (a2:List Int) (b2:List Int) (out:List Int) (x:Int) (K:Int→Option ((List Int))):Prop:=∀ (carry2:Int) (r:(List Int)),K carry2=some r→∀ E,EnvOk E 0→Runs Try.prog E 68 56 (SPost E [] (encL (cU .u16) 0 r)) [.code (C_45 128206),.code (C_45 128207),.inBlock 1,.code (C_45 4007),.inLoop (C_45 500),.inBlock 0,.code (C_45 63)] ⟨[(1,(encL (cU .u16) 0 b2)),(5,(.os 0 0 out.length)),(6,(.atom (.int .u32 carry2))),(20,(encL (cU .u16) 0 a2)),(21,(aI ((a2.length:Nat):Int))),(22,(aI x))],[(0,aO 1 (cU .u16) 0 out)],1⟩
theorem g_e_plus_J3_ok (N:Nat) (a2:List Int) (b2:List Int) (out:List Int) (x:Int) (K_g_e_plus_L2:(List Int)→Int→Int→Option ((List Int))) (hK_g_e_plus_L2:g_e_plus_L2_H N a2 b2 K_g_e_plus_L2):g_e_plus_J3_H N a2 b2 out x (g_e_plus_J3 N a2 b2 out x K_g_e_plus_L2):=by
 intro carry2 r h E hE
 unfold g_e_plus_J3 at h
 obtain ⟨c4,h⟩:=ifSome h
 refine Runs.nR hE 0 [] [] (kp [1] ++ [(5,.osl ((out ++ ([(IntKind.u16.wrap (carry2))]:List Int)).length))] ++ kp [6,20,21,22]) [(65,.arr 65 ((out ++ ([(IntKind.u16.wrap (carry2))]:List Int)).length) (fun zi=>(cU .u16) ((out ++ ([(IntKind.u16.wrap (carry2))]:List Int)).getD zi 0)))] 97 (pc (Eq.refl out.length) (pc c4 (pc (z1 1) (pc (show ∀ zi,zi < 1→AV.oneL ((fun zi=>([[(.atom (.int .u16 (IntKind.u16.wrap (carry2))))]]:List (List AV)).getD zi []) (addz 0 zi))=true from (oneN rfl)) (pc (show (out.length+1)=(out ++ ([(IntKind.u16.wrap (carry2))]:List Int)).length from (len_app_raw rfl rfl)) (pc (show out.length+1=(out ++ ([(IntKind.u16.wrap (carry2))]:List Int)).length from (len_app_raw rfl rfl)) (pc (show ∀ zi,zi < (out ++ ([(IntKind.u16.wrap (carry2))]:List Int)).length→(fun zi=>(cU .u16) ((out ++ ([(IntKind.u16.wrap (carry2))]:List Int)).getD zi 0)) zi=((fun zm=>if zm < out.length then (fun zi=>(cU .u16) (out.getD zi 0)) zm else (fun zi=>([[(.atom (.int .u16 (IntKind.u16.wrap (carry2))))]]:List (List AV)).getD zi []) (zm - out.length))) zi from (get_app_raw (cU .u16) 0 out ([(IntKind.u16.wrap (carry2))]:List Int) rfl (fun _ _=>rfl) (fun zq hzq=>get_chunk (cU .u16) 0 ([(IntKind.u16.wrap (carry2))]:List Int) zq hzq))) pn))))))) ?_
 refine Runs.nR hE 0 [] [] (kp [1,5,6,20,21,22]) (kq [65]) 145 (pc (show (0:Int)≤16 by decide) pn) ?_
 refine Runs.nR hE 1 [] [] (kp [1,5,6,20,21,22]) (kq [65]) 177 pn ?_
 exact Runs.nW hE 1 [] (kp [1,5,6,20,21,22]) [(0,.keep 65)] 1 pn (hK_g_e_plus_L2 _ _ _ _ h E hE)
theorem g_e_plus_L2_ok (N:Nat) (a2:List Int) (b2:List Int) (fuel:Nat):g_e_plus_L2_H N a2 b2 (g_e_plus_L2 N a2 b2 fuel):=by
 induction fuel with
 | zero=>intro _ _ _ r h;rw [g_e_plus_L2.eq_1] at h;cases h
 | succ fuel ih =>
  intro out carry x r h E hE
  rw [g_e_plus_L2.eq_2] at h
  refine Runs.nR hE 1 [] [] (kp [1,5,6,20,21,22,23]) (kq [0]) 17 pn ?_
  refine Runs.nC 1 23 h (fun hq3 h=>?_) (fun hq3 h=>?_)
  ·obtain ⟨c2,h⟩:=ifSome h
   refine Runs.nR hE 4 [] [] (kp [1,5,6,7,8,20,21,22]) (kq [0]) 97 (pc c2 pn) ?_
   refine Runs.nR hE 1 [] [] (kp [1,5,6,7,20,21,22]) (kq [0]) 177 pn ?_
   refine Runs.nR hE 2 [] [] (kp [1,5,6,7,20,21,22,34]) (kq [0]) 241 pn ?_
   refine Runs.nC 0 34 h (fun hq4 h=>?_) (fun hq4 h=>?_)
   ·obtain ⟨c3,h⟩:=ifSome h
    refine Runs.nR hE 0 [] [] (kp [1,5,6,20,21,22]) (kq [0]) 369 (pc c3 pn) ?_
    exact Runs.nW hE 1 [] (kp [1,5,6,20,21,22]) (kq [0]) 1 pn (g_e_plus_J3_ok N _ _ _ _ _ ih _ _ h E hE)
   ·exact Runs.nW hE 2 [] (kp [1,5,6,20,21,22]) (kq [0]) 1 pn (g_e_plus_J3_ok N _ _ _ _ _ ih _ _ h E hE)
  ·obtain ⟨c5,h⟩:=ifSome h
   obtain ⟨rtrim,hr,h⟩:=bindSome h
   refine Runs.nR hE 2 [(5,⟨[],true,(encL (cU .u16) 0 rtrim),[],0,true,none⟩)] [] (kp [4]) [] 129 (pc (Eq.refl out.length) (pc c5 (pc (z1 1) (pc (show ∀ zi,zi < 1→AV.oneL ((fun zi=>([[(.atom (.int .u16 (IntKind.u16.wrap (carry))))]]:List (List AV)).getD zi []) (addz 0 zi))=true from (oneN rfl)) (pc (show Sound Try.prog 39 [(.sl (out.length+1) (fun zi=>((fun zm=>if zm < out.length then (fun zi=>(cU .u16) (out.getD zi 0)) zm else (fun zi=>([[(.atom (.int .u16 (IntKind.u16.wrap (carry))))]]:List (List AV)).getD zi []) (zm - out.length))) (addz 0 zi)))] [] 0 (encL (cU .u16) 0 rtrim) [] from (Sound.conv (g_e_trim_ok N (out ++ ([(IntKind.u16.wrap (carry))]:List Int)) rtrim hr) (.cons (Alike.sl (len_app_raw rfl rfl) (get_app_raw (cU .u16) 0 out ([(IntKind.u16.wrap (carry))]:List Int) rfl (fun _ _=>rfl) (fun zq hzq=>get_chunk (cU .u16) 0 ([(IntKind.u16.wrap (carry))]:List Int) zq hzq))) .nil))) (pc (z1 (out.length+1)) pn)))))) ?_
   obtain rfl:=Option.some.inj h
   exact Runs.nT hE 0 Try.f68 [] (kp [4]) [] 129 pn [] pn
theorem g_e_plus_J1_ok (N:Nat):g_e_plus_J1_H N (g_e_plus_J1 N):=by
 intro a2 b2 r h E hE
 unfold g_e_plus_J1 at h
 obtain ⟨c,h⟩:=ifSome h
 refine Runs.nR hE 0 [] [] (kp [0,1] ++ [(5,.osl ((List.replicate 0 0:List Int).length))]) [(48,.arr 48 ((List.replicate 0 0:List Int).length) (fun zi=>(cU .u16) ((List.replicate 0 0:List Int).getD zi 0)))] 80 (pc (show 0≤(0:Int) from c.1) (pc (show (0:Int)≤(w64 (((a2.length:Nat):Int)+1)) from c.2.2.2) (pc (show (2:Int) * (w64 (((a2.length:Nat):Int)+1))≤281474976710656 from c.2.1) (pc (show (w64 (((a2.length:Nat):Int)+1))≤9223372036854775807 from c.2.2.1) (pc (show 0=(List.replicate 0 0:List Int).length from (List.length_replicate).symm) (pc (show 0=(List.replicate 0 0:List Int).length from (List.length_replicate).symm) (pc (show ∀ zi,zi < (List.replicate 0 0:List Int).length→(fun zi=>(cU .u16) ((List.replicate 0 0:List Int).getD zi 0)) zi=(fun _=>[(.atom (.int .u16 0))]) zi from (fun zq hzq=>get_rep (cU .u16) 0 0 0 zq hzq)) pn))))))) ?_
 refine Runs.nR hE 1 [] [] (kp [0,1,5,6]) (kq [48]) 96 pn ?_
 refine Runs.nR hE 2 [] [] (kp [1,5,6,20,21,22]) (kq [48]) 144 pn ?_
 exact Runs.nW hE 2 [] (kp [1,5,6,20,21,22]) [(0,.keep 48)] 1 pn (g_e_plus_L2_ok N _ _ N _ _ _ _ h E hE)
theorem g_e_plus_ok (N:Nat) (a:List Int) (b:List Int) (r:(List Int)) (h:g_e_plus N a b=some r):Sound Try.prog 68 [(encL (cU .u16) 0 a),(encL (cU .u16) 0 b)] [] 0 (encL (cU .u16) 0 r) []:=by
 unfold g_e_plus at h
 refine Sound.of_runs (fu:=Try.f68) (c:=C_45 1) (nt:=56) (by kernel_rfl) (by kernel_rfl) (by kernel_rfl) (by kernel_rfl) (fun hm=>rfl) ?_
 intro E hE
 refine Runs.nR hE 1 [] [] (kp [0,1]) [] 16 pn ?_
 refine Runs.nR hE 2 [] [] (kp [0,1,13]) [] 96 pn ?_
 refine Runs.nC 0 13 h (fun hq2 h=>?_) (fun hq2 h=>?_)
 ·refine Runs.nR hE 0 [] [] (kp [0,1]) [] 160 pn ?_
  exact Runs.nW hE 1 [] (kp [0,1]) [] 0 pn (g_e_plus_J1_ok N _ _ _ h E hE)
 ·exact Runs.nW hE 2 [] (kp [0,1]) [] 0 pn (g_e_plus_J1_ok N _ _ _ h E hE)
noncomputable def C_46 (n:Nat):Code:=cat (bodyOf Try.f69) (pth n)
def g_e_minus_L1_H (N:Nat) (a:List Int) (b:List Int) (K:(List Int)→Int→Int→Option ((List Int))):Prop:=∀ (out:List Int) (borrow:Int) (x:Int) (r:(List Int)),K out borrow x=some r→∀ E,EnvOk E 0→Runs Try.prog E 69 50 (SPost E [] (encL (cU .u16) 0 r)) [.code (C_46 244),.inLoop (C_46 244),.inBlock 0,.code (C_46 31)] ⟨[(1,(encL (cU .u16) 0 b)),(5,(.os 0 0 out.length)),(6,(.atom (.int .u32 borrow))),(13,(encL (cU .u16) 0 a)),(14,(aI ((a.length:Nat):Int))),(15,(aI x))],[(0,aO 1 (cU .u16) 0 out)],1⟩
def g_e_minus_J2_H (N:Nat) (a:List Int) (b:List Int) (out:List Int) (x:Int) (K:Int→Option ((List Int))):Prop:=∀ (y:Int) (r:(List Int)),K y=some r→∀ E,EnvOk E 0→Runs Try.prog E 69 50 (SPost E [] (encL (cU .u16) 0 r)) [.code (C_46 62670),.code (C_46 62671),.inBlock 1,.code (C_46 1959),.inLoop (C_46 244),.inBlock 0,.code (C_46 31)] ⟨[(1,(encL (cU .u16) 0 b)),(5,(.os 0 0 out.length)),(7,(aI x)),(8,(.atom (.int .u16 (a.getD ((x).toNat) 0)))),(9,(.atom (.int .u32 y))),(13,(encL (cU .u16) 0 a)),(14,(aI ((a.length:Nat):Int))),(15,(aI x))],[(0,aO 1 (cU .u16) 0 out)],1⟩
def g_e_minus_J3_H (N:Nat) (a:List Int) (b:List Int) (out:List Int) (x:Int) (y:Int) (K:Int→Option ((List Int))):Prop:=∀ (borrow2:Int) (r:(List Int)),K borrow2=some r→∀ E,EnvOk E 0→Runs Try.prog E 69 50 (SPost E [] (encL (cU .u16) 0 r)) [.code (C_46 125343),.inBlock 1,.code (C_46 1959),.inLoop (C_46 244),.inBlock 0,.code (C_46 31)] ⟨[(1,(encL (cU .u16) 0 b)),(5,(.os 0 0 out.length)),(6,(.atom (.int .u32 borrow2))),(7,(aI x)),(8,(.atom (.int .u16 (a.getD ((x).toNat) 0)))),(9,(.atom (.int .u32 y))),(13,(encL (cU .u16) 0 a)),(14,(aI ((a.length:Nat):Int))),(15,(aI x))],[(0,aO 1 (cU .u16) 0 out)],1⟩
theorem g_e_minus_J3_ok (N:Nat) (a:List Int) (b:List Int) (out:List Int) (x:Int) (y:Int) (K_g_e_minus_L1:(List Int)→Int→Int→Option ((List Int))) (hK_g_e_minus_L1:g_e_minus_L1_H N a b K_g_e_minus_L1):g_e_minus_J3_H N a b out x y (g_e_minus_J3 N a b out x y K_g_e_minus_L1):=by
 intro borrow2 r h E hE
 unfold g_e_minus_J3 at h
 obtain ⟨c4,h⟩:=ifSome h
 refine Runs.nR hE 0 [] [] (kp [1] ++ [(5,.osl ((out.set ((x).toNat) (IntKind.u16.wrap ((IntKind.u32.wrap ((IntKind.u32.wrap ((IntKind.u32.wrap ((a.getD ((x).toNat) 0)))+(shlI .u32 borrow2 16))) - y))))).length))] ++ kp [6,13,14,15]) [(0,.arr 0 ((out.set ((x).toNat) (IntKind.u16.wrap ((IntKind.u32.wrap ((IntKind.u32.wrap ((IntKind.u32.wrap ((a.getD ((x).toNat) 0)))+(shlI .u32 borrow2 16))) - y))))).length) (fun zi=>(cU .u16) ((out.set ((x).toNat) (IntKind.u16.wrap ((IntKind.u32.wrap ((IntKind.u32.wrap ((IntKind.u32.wrap ((a.getD ((x).toNat) 0)))+(shlI .u32 borrow2 16))) - y))))).getD zi 0)))] 193 (pc (show (0:Int)≤16 by decide) (pc c4 (pc (ltOf c4) (pc (len_set0 out ((x).toNat) (IntKind.u16.wrap ((IntKind.u32.wrap ((IntKind.u32.wrap ((IntKind.u32.wrap ((a.getD ((x).toNat) 0)))+(shlI .u32 borrow2 16))) - y))))) (pc (len_set0 out ((x).toNat) (IntKind.u16.wrap ((IntKind.u32.wrap ((IntKind.u32.wrap ((IntKind.u32.wrap ((a.getD ((x).toNat) 0)))+(shlI .u32 borrow2 16))) - y))))) (pc (get_set0 (cU .u16) 0 out ((x).toNat) (IntKind.u16.wrap ((IntKind.u32.wrap ((IntKind.u32.wrap ((IntKind.u32.wrap ((a.getD ((x).toNat) 0)))+(shlI .u32 borrow2 16))) - y))))) pn)))))) ?_
 refine Runs.nR hE 1 [] [] (kp [1,5,6,13,14,15]) (kq [0]) 225 pn ?_
 exact Runs.nW hE 1 [] (kp [1,5,6,13,14,15]) (kq [0]) 1 pn (hK_g_e_minus_L1 _ _ _ _ h E hE)
theorem g_e_minus_J2_ok (N:Nat) (a:List Int) (b:List Int) (out:List Int) (x:Int) (K_g_e_minus_L1:(List Int)→Int→Int→Option ((List Int))) (hK_g_e_minus_L1:g_e_minus_L1_H N a b K_g_e_minus_L1):g_e_minus_J2_H N a b out x (g_e_minus_J2 N a b out x K_g_e_minus_L1):=by
 intro y r h E hE
 unfold g_e_minus_J2 at h
 refine Runs.nR hE 0 [] [] (kp [1,5,6,7,8,9,13,14,15]) (kq [0]) 17 pn ?_
 refine Runs.nR hE 2 [] [] (kp [1,5,6,7,8,9,13,14,15,35]) (kq [0]) 81 pn ?_
 refine Runs.nC 0 35 h (fun hq4 h=>?_) (fun hq4 h=>?_)
 ·refine Runs.nR hE 0 [] [] (kp [1,5,6,7,8,9,13,14,15]) (kq [0]) 97 pn ?_
  exact Runs.nW hE 0 [] (kp [1,5,6,7,8,9,13,14,15]) (kq [0]) 1 pn (g_e_minus_J3_ok N _ _ _ _ _ _ hK_g_e_minus_L1 _ _ h E hE)
 ·exact Runs.nW hE 1 [] (kp [1,5,6,7,8,9,13,14,15]) (kq [0]) 1 pn (g_e_minus_J3_ok N _ _ _ _ _ _ hK_g_e_minus_L1 _ _ h E hE)
theorem g_e_minus_L1_ok (N:Nat) (a:List Int) (b:List Int) (fuel:Nat):g_e_minus_L1_H N a b (g_e_minus_L1 N a b fuel):=by
 induction fuel with
 | zero=>intro _ _ _ r h;rw [g_e_minus_L1.eq_1] at h;cases h
 | succ fuel ih =>
  intro out borrow x r h E hE
  rw [g_e_minus_L1.eq_2] at h
  refine Runs.nR hE 1 [] [] (kp [1,5,6,13,14,15,16]) (kq [0]) 17 pn ?_
  refine Runs.nC 1 16 h (fun hq2 h=>?_) (fun hq2 h=>?_)
  ·obtain ⟨c2,h⟩:=ifSome h
   refine Runs.nR hE 4 [] [] (kp [1,5,6,7,8,13,14,15]) (kq [0]) 97 (pc c2 pn) ?_
   refine Runs.nR hE 1 [] [] (kp [1,5,7,8,9,13,14,15]) (kq [0]) 129 pn ?_
   refine Runs.nR hE 2 [] [] (kp [1,5,7,8,9,13,14,15,24]) (kq [0]) 193 pn ?_
   refine Runs.nC 0 24 h (fun hq3 h=>?_) (fun hq3 h=>?_)
   ·obtain ⟨c3,h⟩:=ifSome h
    refine Runs.nR hE 0 [] [] (kp [1,5,7,8,9,13,14,15]) (kq [0]) 321 (pc c3 pn) ?_
    exact Runs.nW hE 1 [] (kp [1,5,7,8,9,13,14,15]) (kq [0]) 1 pn (g_e_minus_J2_ok N _ _ _ _ _ ih _ _ h E hE)
   ·exact Runs.nW hE 2 [] (kp [1,5,7,8,9,13,14,15]) (kq [0]) 1 pn (g_e_minus_J2_ok N _ _ _ _ _ ih _ _ h E hE)
  ·obtain ⟨rtrim,hr,h⟩:=bindSome h
   refine Runs.nR hE 2 [(1,⟨[],true,(encL (cU .u16) 0 rtrim),[],0,true,none⟩)] [] (kp [4]) [] 65 (pc (g_e_trim_ok N out rtrim hr) (pc (z1 out.length) pn)) ?_
   obtain rfl:=Option.some.inj h
   exact Runs.nT hE 0 Try.f69 [] (kp [4]) [] 65 pn [] pn
theorem g_e_minus_ok (N:Nat) (a:List Int) (b:List Int) (r:(List Int)) (h:g_e_minus N a b=some r):Sound Try.prog 69 [(encL (cU .u16) 0 a),(encL (cU .u16) 0 b)] [] 0 (encL (cU .u16) 0 r) []:=by
 unfold g_e_minus at h
 refine Sound.of_runs (fu:=Try.f69) (c:=C_46 1) (nt:=50) (by kernel_rfl) (by kernel_rfl) (by kernel_rfl) (by kernel_rfl) (fun hm=>rfl) ?_
 intro E hE
 refine Runs.nR hE 1 [] [] (kp [0,1]) [] 16 pn ?_
 obtain ⟨c,h⟩:=ifSome h
 refine Runs.nR hE 1 [] [] (kp [0,1] ++ [(5,.osl ((List.replicate a.length 0:List Int).length))]) [(48,.arr 48 ((List.replicate a.length 0:List Int).length) (fun zi=>(cU .u16) ((List.replicate a.length 0:List Int).getD zi 0)))] 80 (pc (show 0≤((a.length:Nat):Int) from c.1) (pc (show ((a.length:Nat):Int)≤((a.length:Nat):Int) from (Int.le_refl _)) (pc (show (2:Int) * ((a.length:Nat):Int)≤281474976710656 from c.2.1) (pc (show ((a.length:Nat):Int)≤9223372036854775807 from c.2.2) (pc (show a.length=(List.replicate a.length 0:List Int).length from (List.length_replicate).symm) (pc (show a.length=(List.replicate a.length 0:List Int).length from (List.length_replicate).symm) (pc (show ∀ zi,zi < (List.replicate a.length 0:List Int).length→(fun zi=>(cU .u16) ((List.replicate a.length 0:List Int).getD zi 0)) zi=(fun _=>[(.atom (.int .u16 0))]) zi from (fun zq hzq=>get_rep (cU .u16) 0 0 a.length zq hzq)) pn))))))) ?_
 refine Runs.nR hE 1 [] [] (kp [0,1,5,6]) (kq [48]) 96 pn ?_
 refine Runs.nR hE 2 [] [] (kp [1,5,6,13,14,15]) (kq [48]) 144 pn ?_
 exact Runs.nW hE 2 [] (kp [1,5,6,13,14,15]) [(0,.keep 48)] 1 pn (g_e_minus_L1_ok N _ _ N _ _ _ _ h E hE)
noncomputable def C_44 (n:Nat):Code:=cat (bodyOf Try.f81) (pth n)
theorem g_e_Add_ok (N:Nat) (a:TInt) (b:TInt) (r:TInt) (h:g_e_Add N a b=some r):Sound Try.prog 81 [(.agg (TInt.cells a)),(.agg (TInt.cells b))] [] 0 (.agg (TInt.cells r)) []:=by
 unfold g_e_Add at h
 refine Sound.of_runs (fu:=Try.f81) (c:=C_44 1) (nt:=40) (by kernel_rfl) (by kernel_rfl) (by kernel_rfl) (by kernel_rfl) (fun hm=>rfl) ?_
 intro E hE
 refine Runs.nR hE 1 [] [] (kp [2,3,4]) (kq [0,16,32]) 48 pn ?_
 obtain ⟨rtrim,hr,h⟩:=bindSome h
 obtain ⟨rtrim2,hr2,h⟩:=bindSome h
 refine Runs.nR hE 1 [(2,⟨[],true,(encL (cU .u16) 0 rtrim),[],0,false,none⟩),(5,⟨[],true,(encL (cU .u16) 0 rtrim2),[],0,false,none⟩)] [] (kp [2,3,4,5,6]) (kq [0,16,32]) 176 (pc o1 (pc (g_e_trim_ok N a.f_Limbs rtrim hr) (pc o1 (pc (g_e_trim_ok N b.f_Limbs rtrim2 hr2) pn)))) ?_
 refine Runs.nR hE 2 [] [] (kp [2,3,4,5,6,17]) (kq [0,16,32]) 256 (pc o1 (pc o1 pn)) ?_
 refine Runs.nC 0 17 h (fun hq2 h=>?_) (fun hq2 h=>?_)
 ·obtain ⟨rplus,hr3,h⟩:=bindSome h
  obtain ⟨rsigned,hr4,h⟩:=bindSome h
  refine Runs.nR hE 1 [(4,⟨[],true,(encL (cU .u16) 0 rplus),[],0,false,none⟩),(5,⟨[],false,(.agg [(aB rsigned.f_Neg),(.os 0 0 rsigned.f_Limbs.length)]),[(0,aO 1 (cU .u16) 0 rsigned.f_Limbs)],0,false,none⟩)] [] (kp [4]) (kq [32,336]) 368 (pc o1 (pc (g_e_plus_ok N rtrim rtrim2 rplus hr3) (pc (g_e_signed_ok N a.f_Neg rplus rsigned hr4) (pc o1 pn)))) ?_
  obtain rfl:=Option.some.inj h
  exact Runs.nT hE 0 Try.f81 [336] (kp [4]) [(16,.var 32 [.keep,.sl (rsigned.f_Limbs.length) (fun zi=>(cU .u16) (rsigned.f_Limbs.getD zi 0))])] 368 (pc (Eq.refl rsigned.f_Limbs.length) (pc (z1 rsigned.f_Limbs.length) (pc (show ∀ zi,zi < rsigned.f_Limbs.length→(fun zi=>(cU .u16) (rsigned.f_Limbs.getD zi 0)) zi=(fun zi=>(cU .u16) (rsigned.f_Limbs.getD zi 0)) (addz 0 zi) from (fun _ _=>rfl)) pn))) [16] (pc o1 pn)
 ·obtain ⟨rcompare,hr5,h⟩:=bindSome h
  refine Runs.nR hE 3 [(2,⟨[],true,(aI rcompare),[],0,false,none⟩)] [] (kp [2,3,4,5,6,27]) (kq [0,16,32]) 320 (pc (g_e_compare_ok N rtrim rtrim2 rcompare hr5) pn) ?_
  refine Runs.nC 0 27 h (fun hq3 h=>?_) (fun hq3 h=>?_)
  ·obtain ⟨rminus,hr6,h⟩:=bindSome h
   obtain ⟨rsigned2,hr7,h⟩:=bindSome h
   refine Runs.nR hE 1 [(4,⟨[],true,(encL (cU .u16) 0 rminus),[],0,false,none⟩),(5,⟨[],false,(.agg [(aB rsigned2.f_Neg),(.os 0 0 rsigned2.f_Limbs.length)]),[(0,aO 1 (cU .u16) 0 rsigned2.f_Limbs)],0,false,none⟩)] [] (kp [4]) (kq [32,400]) 432 (pc o1 (pc (g_e_minus_ok N rtrim rtrim2 rminus hr6) (pc (g_e_signed_ok N a.f_Neg rminus rsigned2 hr7) (pc o1 pn)))) ?_
   obtain rfl:=Option.some.inj h
   exact Runs.nT hE 0 Try.f81 [400] (kp [4]) [(16,.var 32 [.keep,.sl (rsigned2.f_Limbs.length) (fun zi=>(cU .u16) (rsigned2.f_Limbs.getD zi 0))])] 432 (pc (Eq.refl rsigned2.f_Limbs.length) (pc (z1 rsigned2.f_Limbs.length) (pc (show ∀ zi,zi < rsigned2.f_Limbs.length→(fun zi=>(cU .u16) (rsigned2.f_Limbs.getD zi 0)) zi=(fun zi=>(cU .u16) (rsigned2.f_Limbs.getD zi 0)) (addz 0 zi) from (fun _ _=>rfl)) pn))) [16] (pc o1 pn)
  ·obtain ⟨rminus2,hr8,h⟩:=bindSome h
   obtain ⟨rsigned3,hr9,h⟩:=bindSome h
   refine Runs.nR hE 2 [(4,⟨[],true,(encL (cU .u16) 0 rminus2),[],0,false,none⟩),(5,⟨[],false,(.agg [(aB rsigned3.f_Neg),(.os 0 0 rsigned3.f_Limbs.length)]),[(0,aO 1 (cU .u16) 0 rsigned3.f_Limbs)],0,false,none⟩)] [] (kp [4]) (kq [32,400]) 432 (pc o1 (pc (g_e_minus_ok N rtrim2 rtrim rminus2 hr8) (pc (g_e_signed_ok N b.f_Neg rminus2 rsigned3 hr9) (pc o1 pn)))) ?_
   obtain rfl:=Option.some.inj h
   exact Runs.nT hE 0 Try.f81 [400] (kp [4]) [(16,.var 32 [.keep,.sl (rsigned3.f_Limbs.length) (fun zi=>(cU .u16) (rsigned3.f_Limbs.getD zi 0))])] 432 (pc (Eq.refl rsigned3.f_Limbs.length) (pc (z1 rsigned3.f_Limbs.length) (pc (show ∀ zi,zi < rsigned3.f_Limbs.length→(fun zi=>(cU .u16) (rsigned3.f_Limbs.getD zi 0)) zi=(fun zi=>(cU .u16) (rsigned3.f_Limbs.getD zi 0)) (addz 0 zi) from (fun _ _=>rfl)) pn))) [16] (pc o1 pn)
noncomputable def C_42 (n:Nat):Code:=cat (bodyOf Try.f63) (pth n)
theorem g_e_AddRat_ok (N:Nat) (x:TRat) (y:TRat) (r:TRat) (h:g_e_AddRat N x y=some r):Sound Try.prog 63 [(.agg (TRat.cells x)),(.agg (TRat.cells y))] [] 0 (.agg (TRat.cells r)) []:=by
 unfold g_e_AddRat at h
 refine Sound.of_runs (fu:=Try.f63) (c:=C_42 1) (nt:=32) (by kernel_rfl) (by kernel_rfl) (by kernel_rfl) (by kernel_rfl) (fun hm=>rfl) ?_
 intro E hE
 refine Runs.nR hE 1 [] [] (kp [2,3,4]) (kq [0,16,32]) 48 pn ?_
 obtain ⟨risZero,hr,h⟩:=bindSome h
 refine Runs.nR hE 2 [(1,⟨[],true,(aB risZero),[],0,false,none⟩)] [] (kp [2,3,4,8]) (kq [0,16,32]) 80 (pc o1 (pc (g_e_isZero_ok N x risZero hr) pn)) ?_
 refine Runs.nC 0 8 h (fun hq2 h=>?_) (fun hq2 h=>?_)
 ·obtain ⟨rlowest,hr2,h⟩:=bindSome h
  refine Runs.nR hE 1 [(1,⟨[],true,(.agg (TRat.cells rlowest)),[],0,false,none⟩)] [] (kp [4]) (kq [32]) 128 (pc o1 (pc (g_e_lowest_ok N y rlowest hr2) (pc o1 pn))) ?_
  obtain rfl:=Option.some.inj h
  exact Runs.nT hE 0 Try.f63 [] (kp [4]) [(16,.keep 32)] 128 pn [16] (pc o1 pn)
 ·obtain ⟨risZero2,hr3,h⟩:=bindSome h
  refine Runs.nR hE 3 [(1,⟨[],true,(aB risZero2),[],0,false,none⟩)] [] (kp [2,3,4,12]) (kq [0,16,32]) 112 (pc o1 (pc (g_e_isZero_ok N y risZero2 hr3) pn)) ?_
  refine Runs.nC 0 12 h (fun hq3 h=>?_) (fun hq3 h=>?_)
  ·obtain ⟨rlowest2,hr4,h⟩:=bindSome h
   refine Runs.nR hE 1 [(1,⟨[],true,(.agg (TRat.cells rlowest2)),[],0,false,none⟩)] [] (kp [4]) (kq [32]) 160 (pc o1 (pc (g_e_lowest_ok N x rlowest2 hr4) (pc o1 pn))) ?_
   obtain rfl:=Option.some.inj h
   exact Runs.nT hE 0 Try.f63 [] (kp [4]) [(16,.keep 32)] 160 pn [16] (pc o1 pn)
  ·obtain ⟨rbelow,hr5,h⟩:=bindSome h
   obtain ⟨rbelow2,hr6,h⟩:=bindSome h
   refine Runs.nR hE 2 [(1,⟨[],true,(.agg (TInt.cells rbelow)),[],0,false,none⟩),(3,⟨[],true,(.agg (TInt.cells rbelow2)),[],0,false,none⟩)] [] (kp [2,3,4,5,6]) (kq [0,16,32,176,192]) 240 (pc o1 (pc (g_e_below_ok N x rbelow hr5) (pc o1 (pc (g_e_below_ok N y rbelow2 hr6) (pc o1 (pc o1 pn)))))) ?_
   obtain ⟨rMul,hr7,h⟩:=bindSome h
   obtain ⟨rMul2,hr8,h⟩:=bindSome h
   obtain ⟨rAdd,hr9,h⟩:=bindSome h
   obtain ⟨rMul3,hr10,h⟩:=bindSome h
   obtain ⟨rfraction,hr11,h⟩:=bindSome h
   refine Runs.nR hE 1 [(3,⟨[],true,(.agg (TInt.cells rMul)),[],0,false,none⟩),(7,⟨[],true,(.agg (TInt.cells rMul2)),[],0,false,none⟩),(8,⟨[],true,(.agg (TInt.cells rAdd)),[],0,false,none⟩),(11,⟨[],true,(.agg (TInt.cells rMul3)),[],0,false,none⟩),(12,⟨[],false,(.agg [(aB rfraction.f_Num.f_Neg),(.os 0 0 rfraction.f_Num.f_Limbs.length),(aB rfraction.f_Den.f_Neg),(.os 1 0 rfraction.f_Den.f_Limbs.length)]),[(0,aO 1 (cU .u16) 0 rfraction.f_Num.f_Limbs),(1,aO 1 (cU .u16) 0 rfraction.f_Den.f_Limbs)],0,false,none⟩)] [] (kp [4]) (kq [32,432,433]) 464 (pc o1 (pc o1 (pc (g_e_Mul_ok N x.f_Num rbelow2 rMul hr7) (pc o1 (pc o1 (pc (g_e_Mul_ok N y.f_Num rbelow rMul2 hr8) (pc (g_e_Add_ok N rMul rMul2 rAdd hr9) (pc o1 (pc o1 (pc (g_e_Mul_ok N rbelow rbelow2 rMul3 hr10) (pc (g_e_fraction_ok N rAdd rMul3 rfraction hr11) (pc o1 pn)))))))))))) ?_
   obtain rfl:=Option.some.inj h
   exact Runs.nT hE 0 Try.f63 [432,433] (kp [4]) [(16,.var 32 [.keep,.sl (rfraction.f_Num.f_Limbs.length) (fun zi=>(cU .u16) (rfraction.f_Num.f_Limbs.getD zi 0)),.keep,.sl (rfraction.f_Den.f_Limbs.length) (fun zi=>(cU .u16) (rfraction.f_Den.f_Limbs.getD zi 0))])] 464 (pc (Eq.refl rfraction.f_Num.f_Limbs.length) (pc (z1 rfraction.f_Num.f_Limbs.length) (pc (show ∀ zi,zi < rfraction.f_Num.f_Limbs.length→(fun zi=>(cU .u16) (rfraction.f_Num.f_Limbs.getD zi 0)) zi=(fun zi=>(cU .u16) (rfraction.f_Num.f_Limbs.getD zi 0)) (addz 0 zi) from (fun _ _=>rfl)) (pc (Eq.refl rfraction.f_Den.f_Limbs.length) (pc (z1 rfraction.f_Den.f_Limbs.length) (pc (show ∀ zi,zi < rfraction.f_Den.f_Limbs.length→(fun zi=>(cU .u16) (rfraction.f_Den.f_Limbs.getD zi 0)) zi=(fun zi=>(cU .u16) (rfraction.f_Den.f_Limbs.getD zi 0)) (addz 0 zi) from (fun _ _=>rfl)) pn)))))) [16] (pc o1 pn)
noncomputable def C_39 (n:Nat):Code:=cat (bodyOf Try.f37) (pth n)
theorem g_e_SubRat_ok (N:Nat) (x:TRat) (y:TRat) (r:TRat) (h:g_e_SubRat N x y=some r):Sound Try.prog 37 [(.agg (TRat.cells x)),(.agg (TRat.cells y))] [] 0 (.agg (TRat.cells r)) []:=by
 unfold g_e_SubRat at h
 refine Sound.of_runs (fu:=Try.f37) (c:=C_39 1) (nt:=9) (by kernel_rfl) (by kernel_rfl) (by kernel_rfl) (by kernel_rfl) (fun hm=>rfl) ?_
 intro E hE
 refine Runs.nR hE 1 [] [] (kp [2,3,4]) (kq [0,16,32]) 48 pn ?_
 obtain ⟨rnegative,hr,h⟩:=bindSome h
 obtain ⟨rAddRat,hr2,h⟩:=bindSome h
 refine Runs.nR hE 1 [(2,⟨[],true,(.agg (TRat.cells rnegative)),[],0,false,none⟩),(3,⟨[],true,(.agg (TRat.cells rAddRat)),[],0,false,none⟩)] [] (kp [4]) (kq [32]) 128 (pc o1 (pc o1 (pc (g_e_negative_ok N y rnegative hr) (pc (g_e_AddRat_ok N x rnegative rAddRat hr2) (pc o1 pn))))) ?_
 obtain rfl:=Option.some.inj h
 exact Runs.nT hE 0 Try.f37 [] (kp [4]) [(16,.keep 32)] 128 pn [16] (pc o1 pn)
noncomputable def C_2 (n:Nat):Code:=cat (bodyOf Try.f15) (pth n)
theorem g_water_Float_ok (N:Nat) (p:TPontoon) (steps:List Int) (r:TPose×Int) (h:g_water_Float N p steps=some r):Sound Try.prog 15 [(.agg (TPontoon.cells p)),(encL cI 0 steps)] [] 0 (.tup [(.agg (TPose.cells r.1)),(aI r.2)]) []:=by
 unfold g_water_Float at h
 refine Sound.of_runs (fu:=Try.f15) (c:=C_2 1) (nt:=89) (by kernel_rfl) (by kernel_rfl) (by kernel_rfl) (by kernel_rfl) (fun hm=>rfl) ?_
 intro E hE
 refine Runs.nR hE 1 [] [] (kp [1,2,4]) (kq [0,16]) 48 pn ?_
 obtain ⟨rCheckPontoon,hr,h⟩:=bindSome h
 refine Runs.nR hE 2 [(1,⟨[],true,(aI rCheckPontoon),[],0,false,none⟩)] [] (kp [1,2,4,6]) (kq [0,16]) 96 (pc o1 (pc (g_water_CheckPontoon_ok N p rCheckPontoon hr) pn)) ?_
 refine Runs.nR hE 1 [] [] (kp [1,2,4,6,16]) (kq [0,16]) 128 pn ?_
 refine Runs.nC 0 16 h (fun hq2 h=>?_) (fun hq2 h=>?_)
 ·refine Runs.nR hE 1 [] [] (kp [4,5]) (kq [16]) 192 (pc o1 pn) ?_
  obtain rfl:=Option.some.inj h
  exact Runs.nT hE 0 Try.f15 [] (kp [4,5]) [(16,.var 16 [.keep,.sl (([]:List Int).length) (fun zi=>(cU .u16) (([]:List Int).getD zi 0)),.keep,.sl (([]:List Int).length) (fun zi=>(cU .u16) (([]:List Int).getD zi 0)),.keep,.sl (([]:List Int).length) (fun zi=>(cU .u16) (([]:List Int).getD zi 0)),.keep,.sl (([]:List Int).length) (fun zi=>(cU .u16) (([]:List Int).getD zi 0)),.keep,.sl (([]:List Int).length) (fun zi=>(cU .u16) (([]:List Int).getD zi 0)),.keep,.sl (([]:List Int).length) (fun zi=>(cU .u16) (([]:List Int).getD zi 0)),.keep,.sl (([]:List Int).length) (fun zi=>(cU .u16) (([]:List Int).getD zi 0)),.keep,.sl (([]:List Int).length) (fun zi=>(cU .u16) (([]:List Int).getD zi 0))])] 192 (pc (Eq.refl 0) (pc (Eq.refl 0) (pc (Eq.refl 0) (pc (Eq.refl 0) (pc (Eq.refl 0) (pc (Eq.refl 0) (pc (Eq.refl 0) (pc (Eq.refl 0) pn)))))))) [16] (pc o1 pn)
 ·obtain ⟨rcheckSteps,hr2,h⟩:=bindSome h
  refine Runs.nR hE 2 [(2,⟨[],true,(.tup [(.agg (Twater_state.cells rcheckSteps.1)),(aI rcheckSteps.2)]),[],0,false,none⟩)] [] (kp [2,4,7,8]) (kq [0,16,224]) 272 (pc o1 (pc (g_water_checkSteps_ok N p steps rcheckSteps hr2) (pc o1 pn))) ?_
  refine Runs.nR hE 2 [] [] (kp [2,4,7,8,26]) (kq [0,16,224]) 304 pn ?_
  refine Runs.nC 0 26 h (fun hq3 h=>?_) (fun hq3 h=>?_)
  ·refine Runs.nR hE 1 [] [] (kp [4,5]) (kq [16]) 368 (pc o1 pn) ?_
   obtain rfl:=Option.some.inj h
   exact Runs.nT hE 0 Try.f15 [] (kp [4,5]) [(16,.var 16 [.keep,.sl (([]:List Int).length) (fun zi=>(cU .u16) (([]:List Int).getD zi 0)),.keep,.sl (([]:List Int).length) (fun zi=>(cU .u16) (([]:List Int).getD zi 0)),.keep,.sl (([]:List Int).length) (fun zi=>(cU .u16) (([]:List Int).getD zi 0)),.keep,.sl (([]:List Int).length) (fun zi=>(cU .u16) (([]:List Int).getD zi 0)),.keep,.sl (([]:List Int).length) (fun zi=>(cU .u16) (([]:List Int).getD zi 0)),.keep,.sl (([]:List Int).length) (fun zi=>(cU .u16) (([]:List Int).getD zi 0)),.keep,.sl (([]:List Int).length) (fun zi=>(cU .u16) (([]:List Int).getD zi 0)),.keep,.sl (([]:List Int).length) (fun zi=>(cU .u16) (([]:List Int).getD zi 0))])] 368 (pc (Eq.refl 0) (pc (Eq.refl 0) (pc (Eq.refl 0) (pc (Eq.refl 0) (pc (Eq.refl 0) (pc (Eq.refl 0) (pc (Eq.refl 0) (pc (Eq.refl 0) pn)))))))) [16] (pc o1 pn)
  ·obtain ⟨rsumOf,hr3,h⟩:=bindSome h
   refine Runs.nR hE 2 [(2,⟨[],true,(.agg (Twater_sums.cells rsumOf)),[],0,false,none⟩)] [] (kp [2,4,9]) (kq [0,16,352]) 384 (pc o1 (pc o1 (pc (g_water_sumOf_ok N p rcheckSteps.1 rsumOf hr3) (pc o1 pn)))) ?_
   refine Runs.nR hE 1 [] [] (kp [4,9,10,11,12]) (kq [16,352]) 528 (pc o1 (pc o1 (pc o1 pn))) ?_
   obtain ⟨rproduct,hr4,h⟩:=bindSome h
   obtain ⟨rproduct2,hr5,h⟩:=bindSome h
   obtain ⟨rquotient,hr6,h⟩:=bindSome h
   obtain ⟨rproduct3,hr7,h⟩:=bindSome h
   obtain ⟨rproduct4,hr8,h⟩:=bindSome h
   obtain ⟨rquotient2,hr9,h⟩:=bindSome h
   obtain ⟨rproduct5,hr10,h⟩:=bindSome h
   obtain ⟨rproduct6,hr11,h⟩:=bindSome h
   obtain ⟨rquotient3,hr12,h⟩:=bindSome h
   obtain ⟨rproduct7,hr13,h⟩:=bindSome h
   obtain ⟨rproduct8,hr14,h⟩:=bindSome h
   obtain ⟨rquotient4,hr15,h⟩:=bindSome h
   obtain ⟨rproduct9,hr16,h⟩:=bindSome h
   obtain ⟨rproduct10,hr17,h⟩:=bindSome h
   obtain ⟨rquotient5,hr18,h⟩:=bindSome h
   obtain ⟨rSubRat,hr19,h⟩:=bindSome h
   refine Runs.nR hE 1 [(3,⟨[],false,(.agg [(aB rproduct.f_Num.f_Neg),(.os 0 0 rproduct.f_Num.f_Limbs.length),(aB rproduct.f_Den.f_Neg),(.os 1 0 rproduct.f_Den.f_Limbs.length)]),[(0,aO 1 (cU .u16) 0 rproduct.f_Num.f_Limbs),(1,aO 1 (cU .u16) 0 rproduct.f_Den.f_Limbs)],0,false,none⟩),(8,⟨[],false,(.agg [(aB rproduct2.f_Num.f_Neg),(.os 0 0 rproduct2.f_Num.f_Limbs.length),(aB rproduct2.f_Den.f_Neg),(.os 1 0 rproduct2.f_Den.f_Limbs.length)]),[(0,aO 1 (cU .u16) 0 rproduct2.f_Num.f_Limbs),(1,aO 1 (cU .u16) 0 rproduct2.f_Den.f_Limbs)],0,false,none⟩),(9,⟨[],false,(.agg [(aB rquotient.f_Num.f_Neg),(.os 0 0 rquotient.f_Num.f_Limbs.length),(aB rquotient.f_Den.f_Neg),(.os 1 0 rquotient.f_Den.f_Limbs.length)]),[(0,aO 1 (cU .u16) 0 rquotient.f_Num.f_Limbs),(1,aO 1 (cU .u16) 0 rquotient.f_Den.f_Limbs)],0,false,none⟩),(13,⟨[],false,(.agg [(aB rproduct3.f_Num.f_Neg),(.os 0 0 rproduct3.f_Num.f_Limbs.length),(aB rproduct3.f_Den.f_Neg),(.os 1 0 rproduct3.f_Den.f_Limbs.length)]),[(0,aO 1 (cU .u16) 0 rproduct3.f_Num.f_Limbs),(1,aO 1 (cU .u16) 0 rproduct3.f_Den.f_Limbs)],0,false,none⟩),(20,⟨[],false,(.agg [(aB rproduct4.f_Num.f_Neg),(.os 0 0 rproduct4.f_Num.f_Limbs.length),(aB rproduct4.f_Den.f_Neg),(.os 1 0 rproduct4.f_Den.f_Limbs.length)]),[(0,aO 1 (cU .u16) 0 rproduct4.f_Num.f_Limbs),(1,aO 1 (cU .u16) 0 rproduct4.f_Den.f_Limbs)],0,false,none⟩),(21,⟨[],false,(.agg [(aB rquotient2.f_Num.f_Neg),(.os 0 0 rquotient2.f_Num.f_Limbs.length),(aB rquotient2.f_Den.f_Neg),(.os 1 0 rquotient2.f_Den.f_Limbs.length)]),[(0,aO 1 (cU .u16) 0 rquotient2.f_Num.f_Limbs),(1,aO 1 (cU .u16) 0 rquotient2.f_Den.f_Limbs)],0,false,none⟩),(25,⟨[],false,(.agg [(aB rproduct5.f_Num.f_Neg),(.os 0 0 rproduct5.f_Num.f_Limbs.length),(aB rproduct5.f_Den.f_Neg),(.os 1 0 rproduct5.f_Den.f_Limbs.length)]),[(0,aO 1 (cU .u16) 0 rproduct5.f_Num.f_Limbs),(1,aO 1 (cU .u16) 0 rproduct5.f_Den.f_Limbs)],0,false,none⟩),(32,⟨[],false,(.agg [(aB rproduct6.f_Num.f_Neg),(.os 0 0 rproduct6.f_Num.f_Limbs.length),(aB rproduct6.f_Den.f_Neg),(.os 1 0 rproduct6.f_Den.f_Limbs.length)]),[(0,aO 1 (cU .u16) 0 rproduct6.f_Num.f_Limbs),(1,aO 1 (cU .u16) 0 rproduct6.f_Den.f_Limbs)],0,false,none⟩),(33,⟨[],false,(.agg [(aB rquotient3.f_Num.f_Neg),(.os 0 0 rquotient3.f_Num.f_Limbs.length),(aB rquotient3.f_Den.f_Neg),(.os 1 0 rquotient3.f_Den.f_Limbs.length)]),[(0,aO 1 (cU .u16) 0 rquotient3.f_Num.f_Limbs),(1,aO 1 (cU .u16) 0 rquotient3.f_Den.f_Limbs)],0,false,none⟩),(37,⟨[],false,(.agg [(aB rproduct7.f_Num.f_Neg),(.os 0 0 rproduct7.f_Num.f_Limbs.length),(aB rproduct7.f_Den.f_Neg),(.os 1 0 rproduct7.f_Den.f_Limbs.length)]),[(0,aO 1 (cU .u16) 0 rproduct7.f_Num.f_Limbs),(1,aO 1 (cU .u16) 0 rproduct7.f_Den.f_Limbs)],0,false,none⟩),(39,⟨[],false,(.agg [(aB rproduct8.f_Num.f_Neg),(.os 0 0 rproduct8.f_Num.f_Limbs.length),(aB rproduct8.f_Den.f_Neg),(.os 1 0 rproduct8.f_Den.f_Limbs.length)]),[(0,aO 1 (cU .u16) 0 rproduct8.f_Num.f_Limbs),(1,aO 1 (cU .u16) 0 rproduct8.f_Den.f_Limbs)],0,false,none⟩),(40,⟨[],false,(.agg [(aB rquotient4.f_Num.f_Neg),(.os 0 0 rquotient4.f_Num.f_Limbs.length),(aB rquotient4.f_Den.f_Neg),(.os 1 0 rquotient4.f_Den.f_Limbs.length)]),[(0,aO 1 (cU .u16) 0 rquotient4.f_Num.f_Limbs),(1,aO 1 (cU .u16) 0 rquotient4.f_Den.f_Limbs)],0,false,none⟩),(45,⟨[],false,(.agg [(aB rproduct9.f_Num.f_Neg),(.os 0 0 rproduct9.f_Num.f_Limbs.length),(aB rproduct9.f_Den.f_Neg),(.os 1 0 rproduct9.f_Den.f_Limbs.length)]),[(0,aO 1 (cU .u16) 0 rproduct9.f_Num.f_Limbs),(1,aO 1 (cU .u16) 0 rproduct9.f_Den.f_Limbs)],0,false,none⟩),(47,⟨[],false,(.agg [(aB rproduct10.f_Num.f_Neg),(.os 0 0 rproduct10.f_Num.f_Limbs.length),(aB rproduct10.f_Den.f_Neg),(.os 1 0 rproduct10.f_Den.f_Limbs.length)]),[(0,aO 1 (cU .u16) 0 rproduct10.f_Num.f_Limbs),(1,aO 1 (cU .u16) 0 rproduct10.f_Den.f_Limbs)],0,false,none⟩),(48,⟨[],false,(.agg [(aB rquotient5.f_Num.f_Neg),(.os 0 0 rquotient5.f_Num.f_Limbs.length),(aB rquotient5.f_Den.f_Neg),(.os 1 0 rquotient5.f_Den.f_Limbs.length)]),[(0,aO 1 (cU .u16) 0 rquotient5.f_Num.f_Limbs),(1,aO 1 (cU .u16) 0 rquotient5.f_Den.f_Limbs)],0,false,none⟩),(49,⟨[],true,(.agg (TRat.cells rSubRat)),[],0,true,none⟩)] [] (kp [4,5]) (kq [16,672,673,864,865,1056,1057]) 1376 (pc o1 (pc (show Sound Try.prog 36 [(.sl 2 (fun zi=>(fun zi=>([[(aI 1000000000)],[(aI rsumOf.f_mass)]]:List (List AV)).getD zi []) (addz 0 zi)))] [] 0 (.agg [(aB rproduct.f_Num.f_Neg),(.os 0 0 rproduct.f_Num.f_Limbs.length),(aB rproduct.f_Den.f_Neg),(.os 1 0 rproduct.f_Den.f_Limbs.length)]) [(0,aO 1 (cU .u16) 0 rproduct.f_Num.f_Limbs),(1,aO 1 (cU .u16) 0 rproduct.f_Den.f_Limbs)] from (Sound.conv (g_water_product_ok N ([1000000000,rsumOf.f_mass]:List Int) rproduct hr4) (.cons (Alike.sl rfl (fun zq hzq=>get_chunk cI 0 ([1000000000,rsumOf.f_mass]:List Int) zq hzq)) .nil))) (pc (show ∀ zi,zi < rproduct.f_Num.f_Limbs.length→AV.flatL ((cU .u16) (rproduct.f_Num.f_Limbs.getD zi 0))=true from (fun _ _=>rfl)) (pc (show ∀ zi,zi < rproduct.f_Den.f_Limbs.length→AV.flatL ((cU .u16) (rproduct.f_Den.f_Limbs.getD zi 0))=true from (fun _ _=>rfl)) (pc (z1 2) (pc (show Sound Try.prog 36 [(.sl 3 (fun zi=>(fun zi=>([[(aI p.f_Density)],[(aI p.f_Length)],[(aI p.f_Breadth)]]:List (List AV)).getD zi []) (addz 0 zi)))] [] 0 (.agg [(aB rproduct2.f_Num.f_Neg),(.os 0 0 rproduct2.f_Num.f_Limbs.length),(aB rproduct2.f_Den.f_Neg),(.os 1 0 rproduct2.f_Den.f_Limbs.length)]) [(0,aO 1 (cU .u16) 0 rproduct2.f_Num.f_Limbs),(1,aO 1 (cU .u16) 0 rproduct2.f_Den.f_Limbs)] from (Sound.conv (g_water_product_ok N ([p.f_Density,p.f_Length,p.f_Breadth]:List Int) rproduct2 hr5) (.cons (Alike.sl rfl (fun zq hzq=>get_chunk cI 0 ([p.f_Density,p.f_Length,p.f_Breadth]:List Int) zq hzq)) .nil))) (pc (show ∀ zi,zi < rproduct2.f_Num.f_Limbs.length→AV.flatL ((cU .u16) (rproduct2.f_Num.f_Limbs.getD zi 0))=true from (fun _ _=>rfl)) (pc (show ∀ zi,zi < rproduct2.f_Den.f_Limbs.length→AV.flatL ((cU .u16) (rproduct2.f_Den.f_Limbs.getD zi 0))=true from (fun _ _=>rfl)) (pc (z1 3) (pc (g_water_quotient_ok N (⟨rproduct.f_Num,rproduct.f_Den⟩:TRat) (⟨rproduct2.f_Num,rproduct2.f_Den⟩:TRat) rquotient hr6) (pc (show ∀ zi,zi < rquotient.f_Num.f_Limbs.length→AV.flatL ((cU .u16) (rquotient.f_Num.f_Limbs.getD zi 0))=true from (fun _ _=>rfl)) (pc (show ∀ zi,zi < rquotient.f_Den.f_Limbs.length→AV.flatL ((cU .u16) (rquotient.f_Den.f_Limbs.getD zi 0))=true from (fun _ _=>rfl)) (pc (z1 rproduct.f_Num.f_Limbs.length) (pc (z1 rproduct.f_Den.f_Limbs.length) (pc (z1 rproduct2.f_Num.f_Limbs.length) (pc (z1 rproduct2.f_Den.f_Limbs.length) (pc o1 (pc (show Sound Try.prog 36 [(.sl 2 (fun zi=>(fun zi=>([[(aI 12000000000)],[(aI rsumOf.f_x)]]:List (List AV)).getD zi []) (addz 0 zi)))] [] 0 (.agg [(aB rproduct3.f_Num.f_Neg),(.os 0 0 rproduct3.f_Num.f_Limbs.length),(aB rproduct3.f_Den.f_Neg),(.os 1 0 rproduct3.f_Den.f_Limbs.length)]) [(0,aO 1 (cU .u16) 0 rproduct3.f_Num.f_Limbs),(1,aO 1 (cU .u16) 0 rproduct3.f_Den.f_Limbs)] from (Sound.conv (g_water_product_ok N ([12000000000,rsumOf.f_x]:List Int) rproduct3 hr7) (.cons (Alike.sl rfl (fun zq hzq=>get_chunk cI 0 ([12000000000,rsumOf.f_x]:List Int) zq hzq)) .nil))) (pc (show ∀ zi,zi < rproduct3.f_Num.f_Limbs.length→AV.flatL ((cU .u16) (rproduct3.f_Num.f_Limbs.getD zi 0))=true from (fun _ _=>rfl)) (pc (show ∀ zi,zi < rproduct3.f_Den.f_Limbs.length→AV.flatL ((cU .u16) (rproduct3.f_Den.f_Limbs.getD zi 0))=true from (fun _ _=>rfl)) (pc (z1 2) (pc (show Sound Try.prog 36 [(.sl 5 (fun zi=>(fun zi=>([[(aI p.f_Density)],[(aI p.f_Breadth)],[(aI p.f_Length)],[(aI p.f_Length)],[(aI p.f_Length)]]:List (List AV)).getD zi []) (addz 0 zi)))] [] 0 (.agg [(aB rproduct4.f_Num.f_Neg),(.os 0 0 rproduct4.f_Num.f_Limbs.length),(aB rproduct4.f_Den.f_Neg),(.os 1 0 rproduct4.f_Den.f_Limbs.length)]) [(0,aO 1 (cU .u16) 0 rproduct4.f_Num.f_Limbs),(1,aO 1 (cU .u16) 0 rproduct4.f_Den.f_Limbs)] from (Sound.conv (g_water_product_ok N ([p.f_Density,p.f_Breadth,p.f_Length,p.f_Length,p.f_Length]:List Int) rproduct4 hr8) (.cons (Alike.sl rfl (fun zq hzq=>get_chunk cI 0 ([p.f_Density,p.f_Breadth,p.f_Length,p.f_Length,p.f_Length]:List Int) zq hzq)) .nil))) (pc (show ∀ zi,zi < rproduct4.f_Num.f_Limbs.length→AV.flatL ((cU .u16) (rproduct4.f_Num.f_Limbs.getD zi 0))=true from (fun _ _=>rfl)) (pc (show ∀ zi,zi < rproduct4.f_Den.f_Limbs.length→AV.flatL ((cU .u16) (rproduct4.f_Den.f_Limbs.getD zi 0))=true from (fun _ _=>rfl)) (pc (z1 5) (pc (g_water_quotient_ok N (⟨rproduct3.f_Num,rproduct3.f_Den⟩:TRat) (⟨rproduct4.f_Num,rproduct4.f_Den⟩:TRat) rquotient2 hr9) (pc (show ∀ zi,zi < rquotient2.f_Num.f_Limbs.length→AV.flatL ((cU .u16) (rquotient2.f_Num.f_Limbs.getD zi 0))=true from (fun _ _=>rfl)) (pc (show ∀ zi,zi < rquotient2.f_Den.f_Limbs.length→AV.flatL ((cU .u16) (rquotient2.f_Den.f_Limbs.getD zi 0))=true from (fun _ _=>rfl)) (pc (z1 rproduct3.f_Num.f_Limbs.length) (pc (z1 rproduct3.f_Den.f_Limbs.length) (pc (z1 rproduct4.f_Num.f_Limbs.length) (pc (z1 rproduct4.f_Den.f_Limbs.length) (pc o1 (pc (show Sound Try.prog 36 [(.sl 2 (fun zi=>(fun zi=>([[(aI 12000000000)],[(aI rsumOf.f_y)]]:List (List AV)).getD zi []) (addz 0 zi)))] [] 0 (.agg [(aB rproduct5.f_Num.f_Neg),(.os 0 0 rproduct5.f_Num.f_Limbs.length),(aB rproduct5.f_Den.f_Neg),(.os 1 0 rproduct5.f_Den.f_Limbs.length)]) [(0,aO 1 (cU .u16) 0 rproduct5.f_Num.f_Limbs),(1,aO 1 (cU .u16) 0 rproduct5.f_Den.f_Limbs)] from (Sound.conv (g_water_product_ok N ([12000000000,rsumOf.f_y]:List Int) rproduct5 hr10) (.cons (Alike.sl rfl (fun zq hzq=>get_chunk cI 0 ([12000000000,rsumOf.f_y]:List Int) zq hzq)) .nil))) (pc (show ∀ zi,zi < rproduct5.f_Num.f_Limbs.length→AV.flatL ((cU .u16) (rproduct5.f_Num.f_Limbs.getD zi 0))=true from (fun _ _=>rfl)) (pc (show ∀ zi,zi < rproduct5.f_Den.f_Limbs.length→AV.flatL ((cU .u16) (rproduct5.f_Den.f_Limbs.getD zi 0))=true from (fun _ _=>rfl)) (pc (z1 2) (pc (show Sound Try.prog 36 [(.sl 5 (fun zi=>(fun zi=>([[(aI p.f_Density)],[(aI p.f_Length)],[(aI p.f_Breadth)],[(aI p.f_Breadth)],[(aI p.f_Breadth)]]:List (List AV)).getD zi []) (addz 0 zi)))] [] 0 (.agg [(aB rproduct6.f_Num.f_Neg),(.os 0 0 rproduct6.f_Num.f_Limbs.length),(aB rproduct6.f_Den.f_Neg),(.os 1 0 rproduct6.f_Den.f_Limbs.length)]) [(0,aO 1 (cU .u16) 0 rproduct6.f_Num.f_Limbs),(1,aO 1 (cU .u16) 0 rproduct6.f_Den.f_Limbs)] from (Sound.conv (g_water_product_ok N ([p.f_Density,p.f_Length,p.f_Breadth,p.f_Breadth,p.f_Breadth]:List Int) rproduct6 hr11) (.cons (Alike.sl rfl (fun zq hzq=>get_chunk cI 0 ([p.f_Density,p.f_Length,p.f_Breadth,p.f_Breadth,p.f_Breadth]:List Int) zq hzq)) .nil))) (pc (show ∀ zi,zi < rproduct6.f_Num.f_Limbs.length→AV.flatL ((cU .u16) (rproduct6.f_Num.f_Limbs.getD zi 0))=true from (fun _ _=>rfl)) (pc (show ∀ zi,zi < rproduct6.f_Den.f_Limbs.length→AV.flatL ((cU .u16) (rproduct6.f_Den.f_Limbs.getD zi 0))=true from (fun _ _=>rfl)) (pc (z1 5) (pc (g_water_quotient_ok N (⟨rproduct5.f_Num,rproduct5.f_Den⟩:TRat) (⟨rproduct6.f_Num,rproduct6.f_Den⟩:TRat) rquotient3 hr12) (pc (show ∀ zi,zi < rquotient3.f_Num.f_Limbs.length→AV.flatL ((cU .u16) (rquotient3.f_Num.f_Limbs.getD zi 0))=true from (fun _ _=>rfl)) (pc (show ∀ zi,zi < rquotient3.f_Den.f_Limbs.length→AV.flatL ((cU .u16) (rquotient3.f_Den.f_Limbs.getD zi 0))=true from (fun _ _=>rfl)) (pc (z1 rproduct5.f_Num.f_Limbs.length) (pc (z1 rproduct5.f_Den.f_Limbs.length) (pc (z1 rproduct6.f_Num.f_Limbs.length) (pc (z1 rproduct6.f_Den.f_Limbs.length) (pc o1 (pc (show Sound Try.prog 36 [(.sl 1 (fun zi=>(fun zi=>([[(aI rsumOf.f_arm)]]:List (List AV)).getD zi []) (addz 0 zi)))] [] 0 (.agg [(aB rproduct7.f_Num.f_Neg),(.os 0 0 rproduct7.f_Num.f_Limbs.length),(aB rproduct7.f_Den.f_Neg),(.os 1 0 rproduct7.f_Den.f_Limbs.length)]) [(0,aO 1 (cU .u16) 0 rproduct7.f_Num.f_Limbs),(1,aO 1 (cU .u16) 0 rproduct7.f_Den.f_Limbs)] from (Sound.conv (g_water_product_ok N ([rsumOf.f_arm]:List Int) rproduct7 hr13) (.cons (Alike.sl rfl (fun zq hzq=>get_chunk cI 0 ([rsumOf.f_arm]:List Int) zq hzq)) .nil))) (pc (show ∀ zi,zi < rproduct7.f_Num.f_Limbs.length→AV.flatL ((cU .u16) (rproduct7.f_Num.f_Limbs.getD zi 0))=true from (fun _ _=>rfl)) (pc (show ∀ zi,zi < rproduct7.f_Den.f_Limbs.length→AV.flatL ((cU .u16) (rproduct7.f_Den.f_Limbs.getD zi 0))=true from (fun _ _=>rfl)) (pc (z1 1) (pc (show Sound Try.prog 36 [(.sl 1 (fun zi=>(fun zi=>([[(aI 2)]]:List (List AV)).getD zi []) (addz 0 zi)))] [] 0 (.agg [(aB rproduct8.f_Num.f_Neg),(.os 0 0 rproduct8.f_Num.f_Limbs.length),(aB rproduct8.f_Den.f_Neg),(.os 1 0 rproduct8.f_Den.f_Limbs.length)]) [(0,aO 1 (cU .u16) 0 rproduct8.f_Num.f_Limbs),(1,aO 1 (cU .u16) 0 rproduct8.f_Den.f_Limbs)] from (Sound.conv (g_water_product_ok N ([2]:List Int) rproduct8 hr14) (.cons (Alike.sl rfl (fun zq hzq=>get_chunk cI 0 ([2]:List Int) zq hzq)) .nil))) (pc (show ∀ zi,zi < rproduct8.f_Num.f_Limbs.length→AV.flatL ((cU .u16) (rproduct8.f_Num.f_Limbs.getD zi 0))=true from (fun _ _=>rfl)) (pc (show ∀ zi,zi < rproduct8.f_Den.f_Limbs.length→AV.flatL ((cU .u16) (rproduct8.f_Den.f_Limbs.getD zi 0))=true from (fun _ _=>rfl)) (pc (z1 1) (pc (g_water_quotient_ok N (⟨rproduct7.f_Num,rproduct7.f_Den⟩:TRat) (⟨rproduct8.f_Num,rproduct8.f_Den⟩:TRat) rquotient4 hr15) (pc (show ∀ zi,zi < rquotient4.f_Num.f_Limbs.length→AV.flatL ((cU .u16) (rquotient4.f_Num.f_Limbs.getD zi 0))=true from (fun _ _=>rfl)) (pc (show ∀ zi,zi < rquotient4.f_Den.f_Limbs.length→AV.flatL ((cU .u16) (rquotient4.f_Den.f_Limbs.getD zi 0))=true from (fun _ _=>rfl)) (pc (z1 rproduct7.f_Num.f_Limbs.length) (pc (z1 rproduct7.f_Den.f_Limbs.length) (pc (z1 rproduct8.f_Num.f_Limbs.length) (pc (z1 rproduct8.f_Den.f_Limbs.length) (pc o1 (pc (show Sound Try.prog 36 [(.sl 2 (fun zi=>(fun zi=>([[(aI rsumOf.f_mass)],[(aI p.f_Length)]]:List (List AV)).getD zi []) (addz 0 zi)))] [] 0 (.agg [(aB rproduct9.f_Num.f_Neg),(.os 0 0 rproduct9.f_Num.f_Limbs.length),(aB rproduct9.f_Den.f_Neg),(.os 1 0 rproduct9.f_Den.f_Limbs.length)]) [(0,aO 1 (cU .u16) 0 rproduct9.f_Num.f_Limbs),(1,aO 1 (cU .u16) 0 rproduct9.f_Den.f_Limbs)] from (Sound.conv (g_water_product_ok N ([rsumOf.f_mass,p.f_Length]:List Int) rproduct9 hr16) (.cons (Alike.sl rfl (fun zq hzq=>get_chunk cI 0 ([rsumOf.f_mass,p.f_Length]:List Int) zq hzq)) .nil))) (pc (show ∀ zi,zi < rproduct9.f_Num.f_Limbs.length→AV.flatL ((cU .u16) (rproduct9.f_Num.f_Limbs.getD zi 0))=true from (fun _ _=>rfl)) (pc (show ∀ zi,zi < rproduct9.f_Den.f_Limbs.length→AV.flatL ((cU .u16) (rproduct9.f_Den.f_Limbs.getD zi 0))=true from (fun _ _=>rfl)) (pc (z1 2) (pc (show Sound Try.prog 36 [(.sl 1 (fun zi=>(fun zi=>([[(aI 8)]]:List (List AV)).getD zi []) (addz 0 zi)))] [] 0 (.agg [(aB rproduct10.f_Num.f_Neg),(.os 0 0 rproduct10.f_Num.f_Limbs.length),(aB rproduct10.f_Den.f_Neg),(.os 1 0 rproduct10.f_Den.f_Limbs.length)]) [(0,aO 1 (cU .u16) 0 rproduct10.f_Num.f_Limbs),(1,aO 1 (cU .u16) 0 rproduct10.f_Den.f_Limbs)] from (Sound.conv (g_water_product_ok N ([8]:List Int) rproduct10 hr17) (.cons (Alike.sl rfl (fun zq hzq=>get_chunk cI 0 ([8]:List Int) zq hzq)) .nil))) (pc (show ∀ zi,zi < rproduct10.f_Num.f_Limbs.length→AV.flatL ((cU .u16) (rproduct10.f_Num.f_Limbs.getD zi 0))=true from (fun _ _=>rfl)) (pc (show ∀ zi,zi < rproduct10.f_Den.f_Limbs.length→AV.flatL ((cU .u16) (rproduct10.f_Den.f_Limbs.getD zi 0))=true from (fun _ _=>rfl)) (pc (z1 1) (pc (g_water_quotient_ok N (⟨rproduct9.f_Num,rproduct9.f_Den⟩:TRat) (⟨rproduct10.f_Num,rproduct10.f_Den⟩:TRat) rquotient5 hr18) (pc (show ∀ zi,zi < rquotient5.f_Num.f_Limbs.length→AV.flatL ((cU .u16) (rquotient5.f_Num.f_Limbs.getD zi 0))=true from (fun _ _=>rfl)) (pc (show ∀ zi,zi < rquotient5.f_Den.f_Limbs.length→AV.flatL ((cU .u16) (rquotient5.f_Den.f_Limbs.getD zi 0))=true from (fun _ _=>rfl)) (pc (z1 rproduct9.f_Num.f_Limbs.length) (pc (z1 rproduct9.f_Den.f_Limbs.length) (pc (z1 rproduct10.f_Num.f_Limbs.length) (pc (z1 rproduct10.f_Den.f_Limbs.length) (pc (g_e_SubRat_ok N (⟨rquotient4.f_Num,rquotient4.f_Den⟩:TRat) (⟨rquotient5.f_Num,rquotient5.f_Den⟩:TRat) rSubRat hr19) (pc (z1 rquotient4.f_Num.f_Limbs.length) (pc (z1 rquotient4.f_Den.f_Limbs.length) (pc (z1 rquotient5.f_Num.f_Limbs.length) (pc (z1 rquotient5.f_Den.f_Limbs.length) (pc o1 pn)))))))))))))))))))))))))))))))))))))))))))))))))))))))))))))))))))))))))))))))))))))) ?_
   obtain rfl:=Option.some.inj h
   exact Runs.nT hE 0 Try.f15 [672,673,864,865,1056,1057] (kp [4,5]) [(16,.var 16 [.keep,.sl (rquotient.f_Num.f_Limbs.length) (fun zi=>(cU .u16) (rquotient.f_Num.f_Limbs.getD zi 0)),.keep,.sl (rquotient.f_Den.f_Limbs.length) (fun zi=>(cU .u16) (rquotient.f_Den.f_Limbs.getD zi 0)),.keep,.sl (rquotient2.f_Num.f_Limbs.length) (fun zi=>(cU .u16) (rquotient2.f_Num.f_Limbs.getD zi 0)),.keep,.sl (rquotient2.f_Den.f_Limbs.length) (fun zi=>(cU .u16) (rquotient2.f_Den.f_Limbs.getD zi 0)),.keep,.sl (rquotient3.f_Num.f_Limbs.length) (fun zi=>(cU .u16) (rquotient3.f_Num.f_Limbs.getD zi 0)),.keep,.sl (rquotient3.f_Den.f_Limbs.length) (fun zi=>(cU .u16) (rquotient3.f_Den.f_Limbs.getD zi 0)),.keep,.keep,.keep,.keep])] 1376 (pc (Eq.refl rquotient.f_Num.f_Limbs.length) (pc (z1 rquotient.f_Num.f_Limbs.length) (pc (show ∀ zi,zi < rquotient.f_Num.f_Limbs.length→(fun zi=>(cU .u16) (rquotient.f_Num.f_Limbs.getD zi 0)) zi=(fun zi=>(cU .u16) (rquotient.f_Num.f_Limbs.getD zi 0)) (addz 0 zi) from (fun _ _=>rfl)) (pc (Eq.refl rquotient.f_Den.f_Limbs.length) (pc (z1 rquotient.f_Den.f_Limbs.length) (pc (show ∀ zi,zi < rquotient.f_Den.f_Limbs.length→(fun zi=>(cU .u16) (rquotient.f_Den.f_Limbs.getD zi 0)) zi=(fun zi=>(cU .u16) (rquotient.f_Den.f_Limbs.getD zi 0)) (addz 0 zi) from (fun _ _=>rfl)) (pc (Eq.refl rquotient2.f_Num.f_Limbs.length) (pc (z1 rquotient2.f_Num.f_Limbs.length) (pc (show ∀ zi,zi < rquotient2.f_Num.f_Limbs.length→(fun zi=>(cU .u16) (rquotient2.f_Num.f_Limbs.getD zi 0)) zi=(fun zi=>(cU .u16) (rquotient2.f_Num.f_Limbs.getD zi 0)) (addz 0 zi) from (fun _ _=>rfl)) (pc (Eq.refl rquotient2.f_Den.f_Limbs.length) (pc (z1 rquotient2.f_Den.f_Limbs.length) (pc (show ∀ zi,zi < rquotient2.f_Den.f_Limbs.length→(fun zi=>(cU .u16) (rquotient2.f_Den.f_Limbs.getD zi 0)) zi=(fun zi=>(cU .u16) (rquotient2.f_Den.f_Limbs.getD zi 0)) (addz 0 zi) from (fun _ _=>rfl)) (pc (Eq.refl rquotient3.f_Num.f_Limbs.length) (pc (z1 rquotient3.f_Num.f_Limbs.length) (pc (show ∀ zi,zi < rquotient3.f_Num.f_Limbs.length→(fun zi=>(cU .u16) (rquotient3.f_Num.f_Limbs.getD zi 0)) zi=(fun zi=>(cU .u16) (rquotient3.f_Num.f_Limbs.getD zi 0)) (addz 0 zi) from (fun _ _=>rfl)) (pc (Eq.refl rquotient3.f_Den.f_Limbs.length) (pc (z1 rquotient3.f_Den.f_Limbs.length) (pc (show ∀ zi,zi < rquotient3.f_Den.f_Limbs.length→(fun zi=>(cU .u16) (rquotient3.f_Den.f_Limbs.getD zi 0)) zi=(fun zi=>(cU .u16) (rquotient3.f_Den.f_Limbs.getD zi 0)) (addz 0 zi) from (fun _ _=>rfl)) pn)))))))))))))))))) [16] (pc o1 pn)
noncomputable def C_55 (n:Nat):Code:=cat (bodyOf Try.f21) (pth n)
theorem g_r05_inside_ok (N:Nat) (n:Int) (low:Int) (high:Int) (r:Bool) (h:g_r05_inside N n low high=some r):Sound Try.prog 21 [(aI n),(aI low),(aI high)] [] 0 (aB r) []:=by
 unfold g_r05_inside at h
 refine Sound.of_runs (fu:=Try.f21) (c:=C_55 1) (nt:=15) (by kernel_rfl) (by kernel_rfl) (by kernel_rfl) (by kernel_rfl) (fun hm=>rfl) ?_
 intro E hE
 refine Runs.nR hE 1 [] [] (kp [0,1,2]) [] 16 pn ?_
 refine Runs.nR hE 1 [] [] (kp [6]) [] 160 (pc (fun hg:(decide (n≥low))=true=>(pc hg (pc hg pn))) (pc (fun hq:(decide (n≥low))=true=>(pc hq pn)) pn)) ?_
 obtain rfl:=Option.some.inj h
 exact Runs.nT hE 0 Try.f21 [] (kp [6]) [] 160 pn [] pn
noncomputable def C_56 (n:Nat):Code:=cat (bodyOf Try.f22) (pth n)
def g_b_IsName_L1_H (N:Nat) (s:ByteArray) (K:Int→Option (Bool)):Prop:=∀ (i:Int) (r:Bool),K i=some r→∀ E,EnvOk E 0→Runs Try.prog E 22 55 (SPost E [] (aB r)) [.code (C_56 116),.inLoop (C_56 116),.inBlock 0,.code (C_56 15)] ⟨[(0,(aS s)),(3,(aI i))],[],0⟩
theorem g_b_IsName_L1_ok (N:Nat) (s:ByteArray) (fuel:Nat):g_b_IsName_L1_H N s (g_b_IsName_L1 N s fuel):=by
 induction fuel with
 | zero=>intro _ r h;rw [g_b_IsName_L1.eq_1] at h;cases h
 | succ fuel ih =>
  intro i r h E hE
  rw [g_b_IsName_L1.eq_2] at h
  refine Runs.nR hE 2 [] [] (kp [0,3,17]) [] 64 pn ?_
  refine Runs.nC 0 17 h (fun hq3 h=>?_) (fun hq3 h=>?_)
  ·obtain ⟨c,h⟩:=ifSome h
   refine Runs.nR hE 4 [] [] (kp [0,3,4]) [] 128 (pc c pn) ?_
   refine Runs.nR hE 1 [] [] (kp [0,3,4,5]) [] 368 (pc (fun hg:(decide ((byteAt s ((i).toNat))≥97))=true=>(pc hg pn)) (pc (fun hq:(decide ((byteAt s ((i).toNat))≥97))=true=>(pc hq pn)) (pc (fun hg:(!(cond (decide ((byteAt s ((i).toNat))≥97)) (decide ((byteAt s ((i).toNat))≤122)) false))=true=>(pc hg pn)) (pc (fun hg:((!(cond (decide ((byteAt s ((i).toNat))≥97)) (decide ((byteAt s ((i).toNat))≤122)) false)) && ((!(cond (decide ((byteAt s ((i).toNat))≥97)) (decide ((byteAt s ((i).toNat))≤122)) false)) && (decide ((byteAt s ((i).toNat))≥65))))=true=>(pc hg pn)) (pc (fun hg:(!(cond (decide ((byteAt s ((i).toNat))≥97)) (decide ((byteAt s ((i).toNat))≤122)) false))=true=>(pc hg (pc hg (pc (fun hq:(decide ((byteAt s ((i).toNat))≥65))=true=>(pc (show ((!(cond (decide ((byteAt s ((i).toNat))≥97)) (decide ((byteAt s ((i).toNat))≤122)) false)) && ((!(cond (decide ((byteAt s ((i).toNat))≥97)) (decide ((byteAt s ((i).toNat))≤122)) false)) && (decide ((byteAt s ((i).toNat))≥65))))=true from (andI' hg (andI' hg hq))) pn)) pn)))) (pc (fun hq:(!(cond (decide ((byteAt s ((i).toNat))≥97)) (decide ((byteAt s ((i).toNat))≤122)) false))=true=>(pc hq pn)) pn)))))) ?_
   refine Runs.nR hE 1 [] [] (kp [0,3,54]) [] 656 (pc (fun hg:(!(cond (cond (decide ((byteAt s ((i).toNat))≥97)) (decide ((byteAt s ((i).toNat))≤122)) false) true (cond (decide ((byteAt s ((i).toNat))≥65)) (decide ((byteAt s ((i).toNat))≤90)) false)))=true=>(pc hg pn)) (pc (fun hg:((!(cond (cond (decide ((byteAt s ((i).toNat))≥97)) (decide ((byteAt s ((i).toNat))≤122)) false) true (cond (decide ((byteAt s ((i).toNat))≥65)) (decide ((byteAt s ((i).toNat))≤90)) false))) && ((!(cond (cond (decide ((byteAt s ((i).toNat))≥97)) (decide ((byteAt s ((i).toNat))≤122)) false) true (cond (decide ((byteAt s ((i).toNat))≥65)) (decide ((byteAt s ((i).toNat))≤90)) false))) && (!(i == 0))))=true=>(pc hg pn)) (pc (fun hg:(((!(cond (cond (decide ((byteAt s ((i).toNat))≥97)) (decide ((byteAt s ((i).toNat))≤122)) false) true (cond (decide ((byteAt s ((i).toNat))≥65)) (decide ((byteAt s ((i).toNat))≤90)) false))) && ((!(cond (cond (decide ((byteAt s ((i).toNat))≥97)) (decide ((byteAt s ((i).toNat))≤122)) false) true (cond (decide ((byteAt s ((i).toNat))≥65)) (decide ((byteAt s ((i).toNat))≤90)) false))) && (!(i == 0)))) && (((!(cond (cond (decide ((byteAt s ((i).toNat))≥97)) (decide ((byteAt s ((i).toNat))≤122)) false) true (cond (decide ((byteAt s ((i).toNat))≥65)) (decide ((byteAt s ((i).toNat))≤90)) false))) && ((!(cond (cond (decide ((byteAt s ((i).toNat))≥97)) (decide ((byteAt s ((i).toNat))≤122)) false) true (cond (decide ((byteAt s ((i).toNat))≥65)) (decide ((byteAt s ((i).toNat))≤90)) false))) && (!(i == 0)))) && ((byteAt s ((i).toNat)) != 45)))=true=>(pc hg pn)) (pc (fun hg:((((!(cond (cond (decide ((byteAt s ((i).toNat))≥97)) (decide ((byteAt s ((i).toNat))≤122)) false) true (cond (decide ((byteAt s ((i).toNat))≥65)) (decide ((byteAt s ((i).toNat))≤90)) false))) && ((!(cond (cond (decide ((byteAt s ((i).toNat))≥97)) (decide ((byteAt s ((i).toNat))≤122)) false) true (cond (decide ((byteAt s ((i).toNat))≥65)) (decide ((byteAt s ((i).toNat))≤90)) false))) && (!(i == 0)))) && (((!(cond (cond (decide ((byteAt s ((i).toNat))≥97)) (decide ((byteAt s ((i).toNat))≤122)) false) true (cond (decide ((byteAt s ((i).toNat))≥65)) (decide ((byteAt s ((i).toNat))≤90)) false))) && ((!(cond (cond (decide ((byteAt s ((i).toNat))≥97)) (decide ((byteAt s ((i).toNat))≤122)) false) true (cond (decide ((byteAt s ((i).toNat))≥65)) (decide ((byteAt s ((i).toNat))≤90)) false))) && (!(i == 0)))) && ((byteAt s ((i).toNat)) != 45))) && ((((!(cond (cond (decide ((byteAt s ((i).toNat))≥97)) (decide ((byteAt s ((i).toNat))≤122)) false) true (cond (decide ((byteAt s ((i).toNat))≥65)) (decide ((byteAt s ((i).toNat))≤90)) false))) && ((!(cond (cond (decide ((byteAt s ((i).toNat))≥97)) (decide ((byteAt s ((i).toNat))≤122)) false) true (cond (decide ((byteAt s ((i).toNat))≥65)) (decide ((byteAt s ((i).toNat))≤90)) false))) && (!(i == 0)))) && (((!(cond (cond (decide ((byteAt s ((i).toNat))≥97)) (decide ((byteAt s ((i).toNat))≤122)) false) true (cond (decide ((byteAt s ((i).toNat))≥65)) (decide ((byteAt s ((i).toNat))≤90)) false))) && ((!(cond (cond (decide ((byteAt s ((i).toNat))≥97)) (decide ((byteAt s ((i).toNat))≤122)) false) true (cond (decide ((byteAt s ((i).toNat))≥65)) (decide ((byteAt s ((i).toNat))≤90)) false))) && (!(i == 0)))) && ((byteAt s ((i).toNat)) != 45))) && (!(decide ((byteAt s ((i).toNat)) < 48)))))=true=>(pc hg pn)) (pc (fun hg:(((!(cond (cond (decide ((byteAt s ((i).toNat))≥97)) (decide ((byteAt s ((i).toNat))≤122)) false) true (cond (decide ((byteAt s ((i).toNat))≥65)) (decide ((byteAt s ((i).toNat))≤90)) false))) && ((!(cond (cond (decide ((byteAt s ((i).toNat))≥97)) (decide ((byteAt s ((i).toNat))≤122)) false) true (cond (decide ((byteAt s ((i).toNat))≥65)) (decide ((byteAt s ((i).toNat))≤90)) false))) && (!(i == 0)))) && (((!(cond (cond (decide ((byteAt s ((i).toNat))≥97)) (decide ((byteAt s ((i).toNat))≤122)) false) true (cond (decide ((byteAt s ((i).toNat))≥65)) (decide ((byteAt s ((i).toNat))≤90)) false))) && ((!(cond (cond (decide ((byteAt s ((i).toNat))≥97)) (decide ((byteAt s ((i).toNat))≤122)) false) true (cond (decide ((byteAt s ((i).toNat))≥65)) (decide ((byteAt s ((i).toNat))≤90)) false))) && (!(i == 0)))) && ((byteAt s ((i).toNat)) != 45)))=true=>(pc hg (pc hg (pc (fun hq:(!(decide ((byteAt s ((i).toNat)) < 48)))=true=>(pc (show ((((!(cond (cond (decide ((byteAt s ((i).toNat))≥97)) (decide ((byteAt s ((i).toNat))≤122)) false) true (cond (decide ((byteAt s ((i).toNat))≥65)) (decide ((byteAt s ((i).toNat))≤90)) false))) && ((!(cond (cond (decide ((byteAt s ((i).toNat))≥97)) (decide ((byteAt s ((i).toNat))≤122)) false) true (cond (decide ((byteAt s ((i).toNat))≥65)) (decide ((byteAt s ((i).toNat))≤90)) false))) && (!(i == 0)))) && (((!(cond (cond (decide ((byteAt s ((i).toNat))≥97)) (decide ((byteAt s ((i).toNat))≤122)) false) true (cond (decide ((byteAt s ((i).toNat))≥65)) (decide ((byteAt s ((i).toNat))≤90)) false))) && ((!(cond (cond (decide ((byteAt s ((i).toNat))≥97)) (decide ((byteAt s ((i).toNat))≤122)) false) true (cond (decide ((byteAt s ((i).toNat))≥65)) (decide ((byteAt s ((i).toNat))≤90)) false))) && (!(i == 0)))) && ((byteAt s ((i).toNat)) != 45))) && ((((!(cond (cond (decide ((byteAt s ((i).toNat))≥97)) (decide ((byteAt s ((i).toNat))≤122)) false) true (cond (decide ((byteAt s ((i).toNat))≥65)) (decide ((byteAt s ((i).toNat))≤90)) false))) && ((!(cond (cond (decide ((byteAt s ((i).toNat))≥97)) (decide ((byteAt s ((i).toNat))≤122)) false) true (cond (decide ((byteAt s ((i).toNat))≥65)) (decide ((byteAt s ((i).toNat))≤90)) false))) && (!(i == 0)))) && (((!(cond (cond (decide ((byteAt s ((i).toNat))≥97)) (decide ((byteAt s ((i).toNat))≤122)) false) true (cond (decide ((byteAt s ((i).toNat))≥65)) (decide ((byteAt s ((i).toNat))≤90)) false))) && ((!(cond (cond (decide ((byteAt s ((i).toNat))≥97)) (decide ((byteAt s ((i).toNat))≤122)) false) true (cond (decide ((byteAt s ((i).toNat))≥65)) (decide ((byteAt s ((i).toNat))≤90)) false))) && (!(i == 0)))) && ((byteAt s ((i).toNat)) != 45))) && (!(decide ((byteAt s ((i).toNat)) < 48)))))=true from (andI' hg (andI' hg hq))) pn)) pn)))) (pc (fun hg:((!(cond (cond (decide ((byteAt s ((i).toNat))≥97)) (decide ((byteAt s ((i).toNat))≤122)) false) true (cond (decide ((byteAt s ((i).toNat))≥65)) (decide ((byteAt s ((i).toNat))≤90)) false))) && ((!(cond (cond (decide ((byteAt s ((i).toNat))≥97)) (decide ((byteAt s ((i).toNat))≤122)) false) true (cond (decide ((byteAt s ((i).toNat))≥65)) (decide ((byteAt s ((i).toNat))≤90)) false))) && (!(i == 0))))=true=>(pc hg (pc hg (pc (fun hq:((byteAt s ((i).toNat)) != 45)=true=>(pc (show (((!(cond (cond (decide ((byteAt s ((i).toNat))≥97)) (decide ((byteAt s ((i).toNat))≤122)) false) true (cond (decide ((byteAt s ((i).toNat))≥65)) (decide ((byteAt s ((i).toNat))≤90)) false))) && ((!(cond (cond (decide ((byteAt s ((i).toNat))≥97)) (decide ((byteAt s ((i).toNat))≤122)) false) true (cond (decide ((byteAt s ((i).toNat))≥65)) (decide ((byteAt s ((i).toNat))≤90)) false))) && (!(i == 0)))) && (((!(cond (cond (decide ((byteAt s ((i).toNat))≥97)) (decide ((byteAt s ((i).toNat))≤122)) false) true (cond (decide ((byteAt s ((i).toNat))≥65)) (decide ((byteAt s ((i).toNat))≤90)) false))) && ((!(cond (cond (decide ((byteAt s ((i).toNat))≥97)) (decide ((byteAt s ((i).toNat))≤122)) false) true (cond (decide ((byteAt s ((i).toNat))≥65)) (decide ((byteAt s ((i).toNat))≤90)) false))) && (!(i == 0)))) && ((byteAt s ((i).toNat)) != 45)))=true from (andI' hg (andI' hg hq))) pn)) pn)))) (pc (fun hg:(!(cond (cond (decide ((byteAt s ((i).toNat))≥97)) (decide ((byteAt s ((i).toNat))≤122)) false) true (cond (decide ((byteAt s ((i).toNat))≥65)) (decide ((byteAt s ((i).toNat))≤90)) false)))=true=>(pc hg (pc hg (pc (fun hq:(!(i == 0))=true=>(pc (show ((!(cond (cond (decide ((byteAt s ((i).toNat))≥97)) (decide ((byteAt s ((i).toNat))≤122)) false) true (cond (decide ((byteAt s ((i).toNat))≥65)) (decide ((byteAt s ((i).toNat))≤90)) false))) && ((!(cond (cond (decide ((byteAt s ((i).toNat))≥97)) (decide ((byteAt s ((i).toNat))≤122)) false) true (cond (decide ((byteAt s ((i).toNat))≥65)) (decide ((byteAt s ((i).toNat))≤90)) false))) && (!(i == 0))))=true from (andI' hg (andI' hg hq))) pn)) pn)))) (pc (fun hq:(!(cond (cond (decide ((byteAt s ((i).toNat))≥97)) (decide ((byteAt s ((i).toNat))≤122)) false) true (cond (decide ((byteAt s ((i).toNat))≥65)) (decide ((byteAt s ((i).toNat))≤90)) false)))=true=>(pc hq pn)) pn)))))))) ?_
   refine Runs.nC 0 54 h (fun hq4 h=>?_) (fun hq4 h=>?_)
   ·refine Runs.nR hE 1 [] [] (kp [2]) [] 672 pn ?_
    obtain rfl:=Option.some.inj h
    exact Runs.nT hE 0 Try.f22 [] (kp [2]) [] 672 pn [] pn
   ·refine Runs.nR hE 2 [] [] (kp [0,3]) [] 704 pn ?_
    exact Runs.nW hE 1 [] (kp [0,3]) [] 0 pn (ih _ _ h E hE)
  ·refine Runs.nR hE 2 [] [] (kp [2]) [] 80 pn ?_
   obtain rfl:=Option.some.inj h
   exact Runs.nT hE 0 Try.f22 [] (kp [2]) [] 80 pn [] pn
theorem g_b_IsName_ok (N:Nat) (s:ByteArray) (r:Bool) (h:g_b_IsName N s=some r):Sound Try.prog 22 [(aS s)] [] 0 (aB r) []:=by
 unfold g_b_IsName at h
 refine Sound.of_runs (fu:=Try.f22) (c:=C_56 1) (nt:=55) (by kernel_rfl) (by kernel_rfl) (by kernel_rfl) (by kernel_rfl) (fun hm=>rfl) ?_
 intro E hE
 refine Runs.nR hE 1 [] [] (kp [0]) [] 16 pn ?_
 refine Runs.nR hE 2 [] [] (kp [0,13]) [] 144 (pc (fun hg:(!(decide (((s.size:Nat):Int) < 1)))=true=>(pc hg pn)) (pc (fun hg:(!(decide (((s.size:Nat):Int) < 1)))=true=>(pc hg pn)) (pc (fun hq:(!(decide (((s.size:Nat):Int) < 1)))=true=>(pc hq pn)) pn))) ?_
 refine Runs.nC 0 13 h (fun hq2 h=>?_) (fun hq2 h=>?_)
 ·refine Runs.nR hE 1 [] [] (kp [2]) [] 160 pn ?_
  obtain rfl:=Option.some.inj h
  exact Runs.nT hE 0 Try.f22 [] (kp [2]) [] 160 pn [] pn
 ·refine Runs.nR hE 3 [] [] (kp [0,3]) [] 160 pn ?_
  exact Runs.nW hE 2 [] (kp [0,3]) [] 0 pn (g_b_IsName_L1_ok N _ N _ _ h E hE)
noncomputable def C_54 (n:Nat):Code:=cat (bodyOf Try.f7) (pth n)
def g_r05_CheckPontoon_L1_H (N:Nat) (p:TPontoon) (K:Int→Option (Int)):Prop:=∀ (i:Int) (r:Int),K i=some r→∀ E,EnvOk E 0→Runs Try.prog E 7 112 (SPost E [] (aI r)) [.code (C_54 244),.inLoop (C_54 244),.inBlock 0,.code (C_54 31)] ⟨[(1,(.op 0 0 0)),(3,(aI i))],[(0,vO 5 (TPontoon.cells p))],1⟩
def g_r05_CheckPontoon_L2_H (N:Nat) (p:TPontoon) (K:Int→Option (Int)):Prop:=∀ (i2:Int) (r:Int),K i2=some r→∀ E,EnvOk E 0→Runs Try.prog E 7 112 (SPost E [] (aI r)) [.code (C_54 1012),.inLoop (C_54 1012),.inBlock 2,.code (C_54 127)] ⟨[(1,(.op 0 0 0)),(5,(aI i2))],[(0,vO 5 (TPontoon.cells p))],1⟩
def g_r05_CheckPontoon_L3_H (N:Nat) (p:TPontoon) (i2:Int) (K:Int→Option (Int)):Prop:=∀ (k:Int) (r:Int),K k=some r→∀ E,EnvOk E 0→Runs Try.prog E 7 112 (SPost E [] (aI r)) [.code (C_54 518452),.inLoop (C_54 518452),.inBlock 4,.code (C_54 64807),.inBlock 3,.code (C_54 4051),.inLoop (C_54 1012),.inBlock 2,.code (C_54 127)] ⟨[(1,(.op 0 0 0)),(5,(aI i2)),(6,(.op 1 0 0)),(7,(aI k))],[(0,vO 5 (TPontoon.cells p)),(1,vO 5 (TTank.cells (p.f_Tanks.getD ((i2).toNat) TTank.d)))],2⟩
theorem g_r05_CheckPontoon_L3_ok (N:Nat) (p:TPontoon) (i2:Int) (K_g_r05_CheckPontoon_L2:Int→Option (Int)) (hK_g_r05_CheckPontoon_L2:g_r05_CheckPontoon_L2_H N p K_g_r05_CheckPontoon_L2) (fuel:Nat):g_r05_CheckPontoon_L3_H N p i2 (g_r05_CheckPontoon_L3 N p i2 K_g_r05_CheckPontoon_L2 fuel):=by
 induction fuel with
 | zero=>intro _ r h;rw [g_r05_CheckPontoon_L3.eq_1] at h;cases h
 | succ fuel ih =>
  intro k r h E hE
  rw [g_r05_CheckPontoon_L3.eq_2] at h
  refine Runs.nR hE 2 [] [] (kp [1,5,6,7,78]) (kq [0,1]) 50 pn ?_
  refine Runs.nC 0 78 h (fun hq9 h=>?_) (fun hq9 h=>?_)
  ·obtain ⟨c3,h⟩:=ifSome h
   refine Runs.nR hE 4 [] [] (kp [1,5,6,7,89]) (kq [0,1]) 194 (pc o1 (pc c3 (pc o1 pn))) ?_
   refine Runs.nC 0 89 h (fun hq10 h=>?_) (fun hq10 h=>?_)
   ·refine Runs.nR hE 1 [] [] (kp [2]) [] 210 pn ?_
    obtain rfl:=Option.some.inj h
    exact Runs.nT hE 0 Try.f7 [] (kp [2]) [] 210 pn [] pn
   ·refine Runs.nR hE 2 [] [] (kp [1,5,6,7]) (kq [0,1]) 242 pn ?_
    exact Runs.nW hE 1 [] (kp [1,5,6,7]) (kq [0,1]) 2 pn (ih _ _ h E hE)
  ·obtain ⟨rinside7,hr8,h⟩:=bindSome h
   obtain ⟨rinside8,hr9,h⟩:=bindSome h
   obtain ⟨rinside9,hr10,h⟩:=bindSome h
   obtain ⟨rinside10,hr11,h⟩:=bindSome h
   refine Runs.nR hE 2 [(2,⟨[],true,(aB rinside7),[],0,false,none⟩),(7,⟨[],true,(aB rinside8),[],0,false,none⟩),(13,⟨[],true,(aB rinside9),[],0,false,none⟩),(19,⟨[],true,(aB rinside10),[],0,false,none⟩)] [] (kp [1,5,111]) (kq [0]) 402 (pc o1 (pc (g_r05_inside_ok N ((p.f_Tanks.getD ((i2).toNat) TTank.d).f_X) (-1000000) 1000000 rinside7 hr8) (pc (fun hg:(!(!rinside7))=true=>(pc hg (pc o1 pn))) (pc (fun hg:(!(!rinside7))=true=>(pc (g_r05_inside_ok N ((p.f_Tanks.getD ((i2).toNat) TTank.d).f_Y) (-1000000) 1000000 rinside8 (condT hr9 hg)) (pc hg pn))) (pc (fun hg:(!(!rinside7))=true=>(pc hg pn)) (pc (fun hq:(!(!rinside7))=true=>(pc hq pn)) (pc (fun hg:(!(cond (!rinside7) true (!rinside8)))=true=>(pc hg (pc o1 pn))) (pc (fun hg:(!(cond (!rinside7) true (!rinside8)))=true=>(pc (g_r05_inside_ok N ((p.f_Tanks.getD ((i2).toNat) TTank.d).f_Steps) 0 12 rinside9 (condT hr10 hg)) (pc hg pn))) (pc (fun hg:(!(cond (!rinside7) true (!rinside8)))=true=>(pc hg pn)) (pc (fun hq:(!(cond (!rinside7) true (!rinside8)))=true=>(pc hq pn)) (pc (fun hg:(!(cond (cond (!rinside7) true (!rinside8)) true (!rinside9)))=true=>(pc hg (pc o1 pn))) (pc (fun hg:(!(cond (cond (!rinside7) true (!rinside8)) true (!rinside9)))=true=>(pc (g_r05_inside_ok N ((p.f_Tanks.getD ((i2).toNat) TTank.d).f_Mass) 0 1000000000 rinside10 (condT hr11 hg)) (pc hg pn))) (pc (fun hg:(!(cond (cond (!rinside7) true (!rinside8)) true (!rinside9)))=true=>(pc hg pn)) (pc (fun hq:(!(cond (cond (!rinside7) true (!rinside8)) true (!rinside9)))=true=>(pc hq pn)) pn)))))))))))))) ?_
   refine Runs.nC 0 111 h (fun hq11 h=>?_) (fun hq11 h=>?_)
   ·refine Runs.nR hE 1 [] [] (kp [2]) [] 418 pn ?_
    obtain rfl:=Option.some.inj h
    exact Runs.nT hE 0 Try.f7 [] (kp [2]) [] 418 pn [] pn
   ·refine Runs.nR hE 2 [] [] (kp [1,5]) (kq [0]) 450 pn ?_
    exact Runs.nW hE 1 [] (kp [1,5]) (kq [0]) 1 pn (hK_g_r05_CheckPontoon_L2 _ _ h E hE)
theorem g_r05_CheckPontoon_L2_ok (N:Nat) (p:TPontoon) (fuel:Nat):g_r05_CheckPontoon_L2_H N p (g_r05_CheckPontoon_L2 N p fuel):=by
 induction fuel with
 | zero=>intro _ r h;rw [g_r05_CheckPontoon_L2.eq_1] at h;cases h
 | succ fuel ih =>
  intro i2 r h E hE
  rw [g_r05_CheckPontoon_L2.eq_2] at h
  refine Runs.nR hE 2 [] [] (kp [1,5,64]) (kq [0]) 81 (pc o1 pn) ?_
  refine Runs.nC 0 64 h (fun hq7 h=>?_) (fun hq7 h=>?_)
  ·obtain ⟨c2,h⟩:=ifSome h
   refine Runs.nR hE 4 [] [] (kp [1,5,6]) (kq [0,161]) 193 (pc o1 (pc c2 (pc o1 pn))) ?_
   obtain ⟨rIsName,hr7,h⟩:=bindSome h
   refine Runs.nR hE 2 [(2,⟨[],true,(aB rIsName),[],0,false,none⟩)] [] (kp [1,5,6,75]) (kq [0,161]) 257 (pc o1 (pc (g_b_IsName_ok N ((p.f_Tanks.getD ((i2).toNat) TTank.d).f_Name) rIsName hr7) pn)) ?_
   refine Runs.nC 0 75 h (fun hq8 h=>?_) (fun hq8 h=>?_)
   ·refine Runs.nR hE 1 [] [] (kp [2]) [] 273 pn ?_
    obtain rfl:=Option.some.inj h
    exact Runs.nT hE 0 Try.f7 [] (kp [2]) [] 273 pn [] pn
   ·refine Runs.nR hE 3 [] [] (kp [1,5,6,7]) (kq [0,161]) 273 pn ?_
    exact Runs.nW hE 2 [] (kp [1,5,6,7]) (kq [0] ++ [(1,.keep 161)]) 2 pn (g_r05_CheckPontoon_L3_ok N _ _ _ ih N _ _ h E hE)
  ·refine Runs.nR hE 2 [] [] (kp [2]) [] 97 pn ?_
   obtain rfl:=Option.some.inj h
   exact Runs.nT hE 0 Try.f7 [] (kp [2]) [] 97 pn [] pn
theorem g_r05_CheckPontoon_L1_ok (N:Nat) (p:TPontoon) (fuel:Nat):g_r05_CheckPontoon_L1_H N p (g_r05_CheckPontoon_L1 N p fuel):=by
 induction fuel with
 | zero=>intro _ r h;rw [g_r05_CheckPontoon_L1.eq_1] at h;cases h
 | succ fuel ih =>
  intro i r h E hE
  rw [g_r05_CheckPontoon_L1.eq_2] at h
  refine Runs.nR hE 2 [] [] (kp [1,3,32]) (kq [0]) 81 (pc o1 pn) ?_
  refine Runs.nC 0 32 h (fun hq4 h=>?_) (fun hq4 h=>?_)
  ·obtain ⟨c,h⟩:=ifSome h
   refine Runs.nR hE 4 [] [] (kp [1,3,4]) (kq [0,161]) 193 (pc o1 (pc c (pc o1 pn))) ?_
   obtain ⟨rinside4,hr4,h⟩:=bindSome h
   obtain ⟨rinside5,hr5,h⟩:=bindSome h
   obtain ⟨rinside6,hr6,h⟩:=bindSome h
   refine Runs.nR hE 1 [(2,⟨[],true,(aB rinside4),[],0,false,none⟩),(7,⟨[],true,(aB rinside5),[],0,false,none⟩),(13,⟨[],true,(aB rinside6),[],0,false,none⟩)] [] (kp [1,3,55]) (kq [0]) 449 (pc o1 (pc (g_r05_inside_ok N ((p.f_Masses.getD ((i).toNat) TPointMass.d).f_X) (-1000000) 1000000 rinside4 hr4) (pc (fun hg:(!(!rinside4))=true=>(pc hg (pc o1 pn))) (pc (fun hg:(!(!rinside4))=true=>(pc (g_r05_inside_ok N ((p.f_Masses.getD ((i).toNat) TPointMass.d).f_Y) (-1000000) 1000000 rinside5 (condT hr5 hg)) (pc hg pn))) (pc (fun hg:(!(!rinside4))=true=>(pc hg pn)) (pc (fun hq:(!(!rinside4))=true=>(pc hq pn)) (pc (fun hg:(!(cond (!rinside4) true (!rinside5)))=true=>(pc hg (pc o1 pn))) (pc (fun hg:(!(cond (!rinside4) true (!rinside5)))=true=>(pc (g_r05_inside_ok N ((p.f_Masses.getD ((i).toNat) TPointMass.d).f_Mass) 0 1000000000 rinside6 (condT hr6 hg)) (pc hg pn))) (pc (fun hg:(!(cond (!rinside4) true (!rinside5)))=true=>(pc hg pn)) (pc (fun hq:(!(cond (!rinside4) true (!rinside5)))=true=>(pc hq pn)) pn)))))))))) ?_
   refine Runs.nC 0 55 h (fun hq5 h=>?_) (fun hq5 h=>?_)
   ·refine Runs.nR hE 1 [] [] (kp [2]) [] 465 pn ?_
    obtain rfl:=Option.some.inj h
    exact Runs.nT hE 0 Try.f7 [] (kp [2]) [] 465 pn [] pn
   ·refine Runs.nR hE 2 [] [] (kp [1,3]) (kq [0]) 497 pn ?_
    exact Runs.nW hE 1 [] (kp [1,3]) (kq [0]) 1 pn (ih _ _ h E hE)
  ·refine Runs.nR hE 3 [] [] (kp [1,59]) (kq [0]) 145 (pc o1 pn) ?_
   refine Runs.nC 0 59 h (fun hq6 h=>?_) (fun hq6 h=>?_)
   ·refine Runs.nR hE 1 [] [] (kp [2]) [] 161 pn ?_
    obtain rfl:=Option.some.inj h
    exact Runs.nT hE 0 Try.f7 [] (kp [2]) [] 161 pn [] pn
   ·refine Runs.nR hE 3 [] [] (kp [1,5]) (kq [0]) 161 pn ?_
    exact Runs.nW hE 2 [] (kp [1,5]) (kq [0]) 1 pn (g_r05_CheckPontoon_L2_ok N _ N _ _ h E hE)
theorem g_r05_CheckPontoon_ok (N:Nat) (p:TPontoon) (r:Int) (h:g_r05_CheckPontoon N p=some r):Sound Try.prog 7 [(.agg (TPontoon.cells p))] [] 0 (aI r) []:=by
 unfold g_r05_CheckPontoon at h
 refine Sound.of_runs (fu:=Try.f7) (c:=C_54 1) (nt:=112) (by kernel_rfl) (by kernel_rfl) (by kernel_rfl) (by kernel_rfl) (fun hm=>rfl) ?_
 intro E hE
 refine Runs.nR hE 1 [] [] (kp [1]) (kq [0]) 32 pn ?_
 obtain ⟨rinside,hr,h⟩:=bindSome h
 obtain ⟨rinside2,hr2,h⟩:=bindSome h
 obtain ⟨rinside3,hr3,h⟩:=bindSome h
 refine Runs.nR hE 2 [(2,⟨[],true,(aB rinside),[],0,false,none⟩),(7,⟨[],true,(aB rinside2),[],0,false,none⟩),(13,⟨[],true,(aB rinside3),[],0,false,none⟩)] [] (kp [1,23]) (kq [0]) 288 (pc o1 (pc (g_r05_inside_ok N p.f_Length 1 1000000 rinside hr) (pc (fun hg:(!(!rinside))=true=>(pc hg (pc o1 pn))) (pc (fun hg:(!(!rinside))=true=>(pc (g_r05_inside_ok N p.f_Breadth 1 1000000 rinside2 (condT hr2 hg)) (pc hg pn))) (pc (fun hg:(!(!rinside))=true=>(pc hg pn)) (pc (fun hq:(!(!rinside))=true=>(pc hq pn)) (pc (fun hg:(!(cond (!rinside) true (!rinside2)))=true=>(pc hg (pc o1 pn))) (pc (fun hg:(!(cond (!rinside) true (!rinside2)))=true=>(pc (g_r05_inside_ok N p.f_Density 900 1100 rinside3 (condT hr3 hg)) (pc hg pn))) (pc (fun hg:(!(cond (!rinside) true (!rinside2)))=true=>(pc hg pn)) (pc (fun hq:(!(cond (!rinside) true (!rinside2)))=true=>(pc hq pn)) pn)))))))))) ?_
 refine Runs.nC 0 23 h (fun hq2 h=>?_) (fun hq2 h=>?_)
 ·refine Runs.nR hE 1 [] [] (kp [2]) [] 304 pn ?_
  obtain rfl:=Option.some.inj h
  exact Runs.nT hE 0 Try.f7 [] (kp [2]) [] 304 pn [] pn
 ·refine Runs.nR hE 3 [] [] (kp [1,27]) (kq [0]) 352 (pc o1 pn) ?_
  refine Runs.nC 0 27 h (fun hq3 h=>?_) (fun hq3 h=>?_)
  ·refine Runs.nR hE 1 [] [] (kp [2]) [] 368 pn ?_
   obtain rfl:=Option.some.inj h
   exact Runs.nT hE 0 Try.f7 [] (kp [2]) [] 368 pn [] pn
  ·refine Runs.nR hE 3 [] [] (kp [1,3]) (kq [0]) 368 pn ?_
   exact Runs.nW hE 2 [] (kp [1,3]) (kq [0]) 1 pn (g_r05_CheckPontoon_L1_ok N _ N _ _ h E hE)
noncomputable def C_57 (n:Nat):Code:=cat (bodyOf Try.f8) (pth n)
def g_r05_States_L1_H (N:Nat) (p:TPontoon) (most:Int) (K:Int→Int→Option (Int)):Prop:=∀ (n:Int) (i:Int) (r:Int),K n i=some r→∀ E,EnvOk E 0→Runs Try.prog E 8 28 (SPost E [] (aI r)) [.code (C_57 116),.inLoop (C_57 116),.inBlock 0,.code (C_57 15)] ⟨[(1,(aI most)),(2,(.op 0 0 0)),(5,(aI n)),(6,(aI i))],[(0,vO 5 (TPontoon.cells p))],1⟩
theorem g_r05_States_L1_ok (N:Nat) (p:TPontoon) (most:Int) (fuel:Nat):g_r05_States_L1_H N p most (g_r05_States_L1 N p most fuel):=by
 induction fuel with
 | zero=>intro _ _ r h;rw [g_r05_States_L1.eq_1] at h;cases h
 | succ fuel ih =>
  intro n i r h E hE
  rw [g_r05_States_L1.eq_2] at h
  refine Runs.nR hE 2 [] [] (kp [1,2,5,6,11]) (kq [0]) 81 (pc o1 pn) ?_
  refine Runs.nC 0 11 h (fun hq2 h=>?_) (fun hq2 h=>?_)
  ·obtain ⟨c,h⟩:=ifSome h
   refine Runs.nR hE 4 [] [] (kp [1,2,5,6]) (kq [0]) 241 (pc o1 (pc c pn)) ?_
   refine Runs.nR hE 1 [] [] (kp [1,2,5,6,25]) (kq [0]) 289 pn ?_
   refine Runs.nC 0 25 h (fun hq3 h=>?_) (fun hq3 h=>?_)
   ·refine Runs.nR hE 1 [] [] (kp [4]) [] 321 pn ?_
    obtain rfl:=Option.some.inj h
    exact Runs.nT hE 0 Try.f8 [] (kp [4]) [] 321 pn [] pn
   ·refine Runs.nR hE 2 [] [] (kp [1,2,5,6]) (kq [0]) 337 pn ?_
    exact Runs.nW hE 1 [] (kp [1,2,5,6]) (kq [0]) 1 pn (ih _ _ _ h E hE)
  ·refine Runs.nR hE 2 [] [] (kp [4]) [] 113 pn ?_
   obtain rfl:=Option.some.inj h
   exact Runs.nT hE 0 Try.f8 [] (kp [4]) [] 113 pn [] pn
theorem g_r05_States_ok (N:Nat) (p:TPontoon) (most:Int) (r:Int) (h:g_r05_States N p most=some r):Sound Try.prog 8 [(.agg (TPontoon.cells p)),(aI most)] [] 0 (aI r) []:=by
 unfold g_r05_States at h
 refine Sound.of_runs (fu:=Try.f8) (c:=C_57 1) (nt:=28) (by kernel_rfl) (by kernel_rfl) (by kernel_rfl) (by kernel_rfl) (fun hm=>rfl) ?_
 intro E hE
 refine Runs.nR hE 1 [] [] (kp [1,2]) (kq [0]) 32 pn ?_
 refine Runs.nR hE 1 [] [] (kp [1,2,5]) (kq [0]) 48 pn ?_
 refine Runs.nR hE 2 [] [] (kp [1,2,5,6]) (kq [0]) 64 pn ?_
 exact Runs.nW hE 2 [] (kp [1,2,5,6]) (kq [0]) 1 pn (g_r05_States_L1_ok N _ _ N _ _ _ h E hE)
noncomputable def C_60 (n:Nat):Code:=cat (bodyOf Try.f44) (pth n)
theorem g_water_checkLimits_ok (N:Nat) (l:TLimits) (r:Int) (h:g_water_checkLimits N l=some r):Sound Try.prog 44 [(.agg (TLimits.cells l))] [] 0 (aI r) []:=by
 unfold g_water_checkLimits at h
 refine Sound.of_runs (fu:=Try.f44) (c:=C_60 1) (nt:=31) (by kernel_rfl) (by kernel_rfl) (by kernel_rfl) (by kernel_rfl) (fun hm=>rfl) ?_
 intro E hE
 refine Runs.nR hE 1 [] [] (kp [1]) (kq [0]) 32 pn ?_
 obtain ⟨rbetween,hr,h⟩:=bindSome h
 obtain ⟨rbetween2,hr2,h⟩:=bindSome h
 obtain ⟨rbetween3,hr3,h⟩:=bindSome h
 obtain ⟨rbetween4,hr4,h⟩:=bindSome h
 obtain ⟨rbetween5,hr5,h⟩:=bindSome h
 refine Runs.nR hE 2 [(2,⟨[],true,(aB rbetween),[],0,false,none⟩),(7,⟨[],true,(aB rbetween2),[],0,false,none⟩),(13,⟨[],true,(aB rbetween3),[],0,false,none⟩),(19,⟨[],true,(aB rbetween4),[],0,false,none⟩),(25,⟨[],true,(aB rbetween5),[],0,false,none⟩)] [] (kp [30]) [] 480 (pc o1 (pc (g_water_between_ok N l.f_DraughtLeast 0 1000000 rbetween hr) (pc (fun hg:(!(!rbetween))=true=>(pc hg (pc o1 pn))) (pc (fun hg:(!(!rbetween))=true=>(pc (g_water_between_ok N l.f_DraughtMost 0 1000000 rbetween2 (condT hr2 hg)) (pc hg pn))) (pc (fun hg:(!(!rbetween))=true=>(pc hg pn)) (pc (fun hq:(!(!rbetween))=true=>(pc hq pn)) (pc (fun hg:(!(cond (!rbetween) true (!rbetween2)))=true=>(pc hg (pc o1 pn))) (pc (fun hg:(!(cond (!rbetween) true (!rbetween2)))=true=>(pc (g_water_between_ok N l.f_TrimMost 0 1000 rbetween3 (condT hr3 hg)) (pc hg pn))) (pc (fun hg:(!(cond (!rbetween) true (!rbetween2)))=true=>(pc hg pn)) (pc (fun hq:(!(cond (!rbetween) true (!rbetween2)))=true=>(pc hq pn)) (pc (fun hg:(!(cond (cond (!rbetween) true (!rbetween2)) true (!rbetween3)))=true=>(pc hg (pc o1 pn))) (pc (fun hg:(!(cond (cond (!rbetween) true (!rbetween2)) true (!rbetween3)))=true=>(pc (g_water_between_ok N l.f_HeelMost 0 1000 rbetween4 (condT hr4 hg)) (pc hg pn))) (pc (fun hg:(!(cond (cond (!rbetween) true (!rbetween2)) true (!rbetween3)))=true=>(pc hg pn)) (pc (fun hq:(!(cond (cond (!rbetween) true (!rbetween2)) true (!rbetween3)))=true=>(pc hq pn)) (pc (fun hg:(!(cond (cond (cond (!rbetween) true (!rbetween2)) true (!rbetween3)) true (!rbetween4)))=true=>(pc hg (pc o1 pn))) (pc (fun hg:(!(cond (cond (cond (!rbetween) true (!rbetween2)) true (!rbetween3)) true (!rbetween4)))=true=>(pc (g_water_between_ok N l.f_HogMost 0 1000000000000000000 rbetween5 (condT hr5 hg)) (pc hg pn))) (pc (fun hg:(!(cond (cond (cond (!rbetween) true (!rbetween2)) true (!rbetween3)) true (!rbetween4)))=true=>(pc hg pn)) (pc (fun hq:(!(cond (cond (cond (!rbetween) true (!rbetween2)) true (!rbetween3)) true (!rbetween4)))=true=>(pc hq pn)) pn)))))))))))))))))) ?_
 refine Runs.nC 0 30 h (fun hq2 h=>?_) (fun hq2 h=>?_)
 ·refine Runs.nR hE 1 [] [] (kp [2]) [] 496 pn ?_
  obtain rfl:=Option.some.inj h
  exact Runs.nT hE 0 Try.f44 [] (kp [2]) [] 496 pn [] pn
 ·refine Runs.nR hE 2 [] [] (kp [2]) [] 496 pn ?_
  obtain rfl:=Option.some.inj h
  exact Runs.nT hE 0 Try.f44 [] (kp [2]) [] 496 pn [] pn
noncomputable def C_63 (n:Nat):Code:=cat (bodyOf Try.f73) (pth n)
theorem g_water_draughts_1_ok (N:Nat) (d:Int) (cap0:TPontoon) (r:TRat) (h:g_water_draughts_1 N d cap0=some r):Sound Try.prog 73 [(aI d),(.op 0 0 0)] [(0,vO 5 (TPontoon.cells cap0))] 1 (.agg [(aB r.f_Num.f_Neg),(.os 1 0 r.f_Num.f_Limbs.length),(aB r.f_Den.f_Neg),(.os 2 0 r.f_Den.f_Limbs.length)]) [(0,vO 5 (TPontoon.cells cap0)),(1,aO 1 (cU .u16) 0 r.f_Num.f_Limbs),(2,aO 1 (cU .u16) 0 r.f_Den.f_Limbs)]:=by
 unfold g_water_draughts_1 at h
 refine Sound.of_runs (fu:=Try.f73) (c:=C_63 1) (nt:=16) (by kernel_rfl) (by kernel_rfl) (by kernel_rfl) (by kernel_rfl) (fun hm=>absurd hm (by decide)) ?_
 intro E hE
 refine Runs.nR hE 1 [] [] (kp [0,1,3]) (kq [0,1]) 17 pn ?_
 obtain ⟨rproduct,hr,h⟩:=bindSome h
 obtain ⟨rproduct2,hr2,h⟩:=bindSome h
 obtain ⟨rquotient,hr3,h⟩:=bindSome h
 refine Runs.nR hE 1 [(8,⟨[],false,(.agg [(aB rproduct.f_Num.f_Neg),(.os 0 0 rproduct.f_Num.f_Limbs.length),(aB rproduct.f_Den.f_Neg),(.os 1 0 rproduct.f_Den.f_Limbs.length)]),[(0,aO 1 (cU .u16) 0 rproduct.f_Num.f_Limbs),(1,aO 1 (cU .u16) 0 rproduct.f_Den.f_Limbs)],0,false,none⟩),(10,⟨[],false,(.agg [(aB rproduct2.f_Num.f_Neg),(.os 0 0 rproduct2.f_Num.f_Limbs.length),(aB rproduct2.f_Den.f_Neg),(.os 1 0 rproduct2.f_Den.f_Limbs.length)]),[(0,aO 1 (cU .u16) 0 rproduct2.f_Num.f_Limbs),(1,aO 1 (cU .u16) 0 rproduct2.f_Den.f_Limbs)],0,false,none⟩),(11,⟨[],false,(.agg [(aB rquotient.f_Num.f_Neg),(.os 0 0 rquotient.f_Num.f_Limbs.length),(aB rquotient.f_Den.f_Neg),(.os 1 0 rquotient.f_Den.f_Limbs.length)]),[(0,aO 1 (cU .u16) 0 rquotient.f_Num.f_Limbs),(1,aO 1 (cU .u16) 0 rquotient.f_Den.f_Limbs)],0,false,none⟩)] [] (kp [3]) (kq [0,1,193,194]) 225 (pc o1 (pc o1 (pc o1 (pc (show Sound Try.prog 36 [(.sl 4 (fun zi=>(fun zi=>([[(aI d)],[(aI cap0.f_Density)],[(aI cap0.f_Length)],[(aI cap0.f_Breadth)]]:List (List AV)).getD zi []) (addz 0 zi)))] [] 0 (.agg [(aB rproduct.f_Num.f_Neg),(.os 0 0 rproduct.f_Num.f_Limbs.length),(aB rproduct.f_Den.f_Neg),(.os 1 0 rproduct.f_Den.f_Limbs.length)]) [(0,aO 1 (cU .u16) 0 rproduct.f_Num.f_Limbs),(1,aO 1 (cU .u16) 0 rproduct.f_Den.f_Limbs)] from (Sound.conv (g_water_product_ok N ([d,cap0.f_Density,cap0.f_Length,cap0.f_Breadth]:List Int) rproduct hr) (.cons (Alike.sl rfl (fun zq hzq=>get_chunk cI 0 ([d,cap0.f_Density,cap0.f_Length,cap0.f_Breadth]:List Int) zq hzq)) .nil))) (pc (show ∀ zi,zi < rproduct.f_Num.f_Limbs.length→AV.flatL ((cU .u16) (rproduct.f_Num.f_Limbs.getD zi 0))=true from (fun _ _=>rfl)) (pc (show ∀ zi,zi < rproduct.f_Den.f_Limbs.length→AV.flatL ((cU .u16) (rproduct.f_Den.f_Limbs.getD zi 0))=true from (fun _ _=>rfl)) (pc (z1 4) (pc (show Sound Try.prog 36 [(.sl 1 (fun zi=>(fun zi=>([[(aI 1000000000)]]:List (List AV)).getD zi []) (addz 0 zi)))] [] 0 (.agg [(aB rproduct2.f_Num.f_Neg),(.os 0 0 rproduct2.f_Num.f_Limbs.length),(aB rproduct2.f_Den.f_Neg),(.os 1 0 rproduct2.f_Den.f_Limbs.length)]) [(0,aO 1 (cU .u16) 0 rproduct2.f_Num.f_Limbs),(1,aO 1 (cU .u16) 0 rproduct2.f_Den.f_Limbs)] from (Sound.conv (g_water_product_ok N ([1000000000]:List Int) rproduct2 hr2) (.cons (Alike.sl rfl (fun zq hzq=>get_chunk cI 0 ([1000000000]:List Int) zq hzq)) .nil))) (pc (show ∀ zi,zi < rproduct2.f_Num.f_Limbs.length→AV.flatL ((cU .u16) (rproduct2.f_Num.f_Limbs.getD zi 0))=true from (fun _ _=>rfl)) (pc (show ∀ zi,zi < rproduct2.f_Den.f_Limbs.length→AV.flatL ((cU .u16) (rproduct2.f_Den.f_Limbs.getD zi 0))=true from (fun _ _=>rfl)) (pc (z1 1) (pc (g_water_quotient_ok N (⟨rproduct.f_Num,rproduct.f_Den⟩:TRat) (⟨rproduct2.f_Num,rproduct2.f_Den⟩:TRat) rquotient hr3) (pc (show ∀ zi,zi < rquotient.f_Num.f_Limbs.length→AV.flatL ((cU .u16) (rquotient.f_Num.f_Limbs.getD zi 0))=true from (fun _ _=>rfl)) (pc (show ∀ zi,zi < rquotient.f_Den.f_Limbs.length→AV.flatL ((cU .u16) (rquotient.f_Den.f_Limbs.getD zi 0))=true from (fun _ _=>rfl)) (pc (z1 rproduct.f_Num.f_Limbs.length) (pc (z1 rproduct.f_Den.f_Limbs.length) (pc (z1 rproduct2.f_Num.f_Limbs.length) (pc (z1 rproduct2.f_Den.f_Limbs.length) (pc o1 pn))))))))))))))))))) ?_
 obtain rfl:=Option.some.inj h
 exact Runs.nT hE 0 Try.f73 [] (kp [3]) (kq [0] ++ [(1,.keep 193),(2,.keep 194),(17,.var 1 [.keep,.keep,.keep,.keep])]) 225 pn [17] (pc o1 pn)
noncomputable def C_66 (n:Nat):Code:=cat (bodyOf Try.f41) (pth n)
def g_e_DivMod_J1_H (N:Nat) (a:TInt) (b:TInt) (K:(List Int)→(List Int)→Option (TInt×TInt×Int)):Prop:=∀ (n:List Int) (rest:List Int) (r:TInt×TInt×Int),K n rest=some r→∀ E,EnvOk E 0→Runs Try.prog E 41 50 (SPost E [] (.tup [(.agg (TInt.cells r.1)),(.agg (TInt.cells r.2.1)),(aI r.2.2)])) [.code (C_66 126),.code (C_66 127)] ⟨[(2,(.op 0 0 0)),(3,(.op 1 0 0)),(4,(.op 2 0 0)),(5,(.op 3 0 0)),(9,(encL (cU .u16) 0 n)),(10,(encL (cU .u16) 0 rest))],[(0,vO 2 (TInt.cells a)),(1,vO 2 (TInt.cells b)),(2,vO 2 [(aB false),.nil]),(3,vO 2 [(aB false),.nil])],4⟩
theorem g_e_DivMod_J1_ok (N:Nat) (a:TInt) (b:TInt):g_e_DivMod_J1_H N a b (g_e_DivMod_J1 N a b):=by
 intro n rest r h E hE
 unfold g_e_DivMod_J1 at h
 obtain ⟨rsigned,hr6,h⟩:=bindSome h
 obtain ⟨rsigned2,hr7,h⟩:=bindSome h
 refine Runs.nR hE 0 [(6,⟨[],false,(.agg [(aB rsigned.f_Neg),(.os 0 0 rsigned.f_Limbs.length)]),[(0,aO 1 (cU .u16) 0 rsigned.f_Limbs)],0,false,none⟩),(8,⟨[],false,(.agg [(aB rsigned2.f_Neg),(.os 0 0 rsigned2.f_Limbs.length)]),[(0,aO 1 (cU .u16) 0 rsigned2.f_Limbs)],0,false,none⟩)] [] (kp [4,5,6]) (kq [2,3,100,132]) 196 (pc o1 (pc o1 (pc (g_e_signed_ok N (!(a.f_Neg == b.f_Neg)) n rsigned hr6) (pc (g_e_signed_ok N false rest rsigned2 hr7) (pc o1 (pc o1 pn)))))) ?_
 obtain rfl:=Option.some.inj h
 exact Runs.nT hE 0 Try.f41 [100,132] (kp [4,5,6]) [(16,.var 2 [.keep,.sl (rsigned.f_Limbs.length) (fun zi=>(cU .u16) (rsigned.f_Limbs.getD zi 0))]),(17,.var 3 [.keep,.sl (rsigned2.f_Limbs.length) (fun zi=>(cU .u16) (rsigned2.f_Limbs.getD zi 0))])] 196 (pc (Eq.refl rsigned.f_Limbs.length) (pc (z1 rsigned.f_Limbs.length) (pc (show ∀ zi,zi < rsigned.f_Limbs.length→(fun zi=>(cU .u16) (rsigned.f_Limbs.getD zi 0)) zi=(fun zi=>(cU .u16) (rsigned.f_Limbs.getD zi 0)) (addz 0 zi) from (fun _ _=>rfl)) (pc (Eq.refl rsigned2.f_Limbs.length) (pc (z1 rsigned2.f_Limbs.length) (pc (show ∀ zi,zi < rsigned2.f_Limbs.length→(fun zi=>(cU .u16) (rsigned2.f_Limbs.getD zi 0)) zi=(fun zi=>(cU .u16) (rsigned2.f_Limbs.getD zi 0)) (addz 0 zi) from (fun _ _=>rfl)) pn)))))) [16,17] (pc o1 (pc o1 pn))
theorem g_e_DivMod_ok (N:Nat) (a:TInt) (b:TInt) (r:TInt×TInt×Int) (h:g_e_DivMod N a b=some r):Sound Try.prog 41 [(.agg (TInt.cells a)),(.agg (TInt.cells b))] [] 0 (.tup [(.agg (TInt.cells r.1)),(.agg (TInt.cells r.2.1)),(aI r.2.2)]) []:=by
 unfold g_e_DivMod at h
 refine Sound.of_runs (fu:=Try.f41) (c:=C_66 1) (nt:=50) (by kernel_rfl) (by kernel_rfl) (by kernel_rfl) (by kernel_rfl) (fun hm=>rfl) ?_
 intro E hE
 refine Runs.nR hE 1 [] [] (kp [2,3,4,5]) (kq [0,16,32,48]) 80 pn ?_
 obtain ⟨rtrim,hr,h⟩:=bindSome h
 obtain ⟨rtrim2,hr2,h⟩:=bindSome h
 refine Runs.nR hE 1 [(2,⟨[],true,(encL (cU .u16) 0 rtrim),[],0,false,none⟩),(5,⟨[],true,(encL (cU .u16) 0 rtrim2),[],0,false,none⟩)] [] (kp [2,3,4,5,7,8]) (kq [0,16,32,48]) 208 (pc o1 (pc (g_e_trim_ok N a.f_Limbs rtrim hr) (pc o1 (pc (g_e_trim_ok N b.f_Limbs rtrim2 hr2) pn)))) ?_
 refine Runs.nR hE 2 [] [] (kp [2,3,4,5,7,8,19]) (kq [0,16,32,48]) 256 pn ?_
 refine Runs.nC 0 19 h (fun hq2 h=>?_) (fun hq2 h=>?_)
 ·refine Runs.nR hE 1 [] [] (kp [4,5,6]) (kq [32,48]) 336 (pc o1 (pc o1 pn)) ?_
  obtain rfl:=Option.some.inj h
  exact Runs.nT hE 0 Try.f41 [] (kp [4,5,6]) [(16,.var 32 [.keep,.sl (([]:List Int).length) (fun zi=>(cU .u16) (([]:List Int).getD zi 0))]),(17,.var 48 [.keep,.sl (([]:List Int).length) (fun zi=>(cU .u16) (([]:List Int).getD zi 0))])] 336 (pc (Eq.refl 0) (pc (Eq.refl 0) pn)) [16,17] (pc o1 (pc o1 pn))
 ·obtain ⟨rdivide,hr3,h⟩:=bindSome h
  refine Runs.nR hE 2 [(2,⟨[],true,(.tup [(encL (cU .u16) 0 rdivide.1),(encL (cU .u16) 0 rdivide.2)]),[],0,false,none⟩)] [] (kp [2,3,4,5,8,9,10]) (kq [0,16,32,48]) 384 (pc (g_e_divide_ok N rtrim rtrim2 rdivide hr3) pn) ?_
  refine Runs.nR hE 2 [] [] (kp [2,3,4,5,8,9,10,34]) (kq [0,16,32,48]) 496 (pc o1 (pc (fun hg:a.f_Neg=true=>(pc hg pn)) (pc (fun hg:a.f_Neg=true=>(pc hg pn)) (pc (fun hq:a.f_Neg=true=>(pc hq pn)) pn)))) ?_
  refine Runs.nC 0 34 h (fun hq3 h=>?_) (fun hq3 h=>?_)
  ·obtain ⟨rplus,hr4,h⟩:=bindSome h
   obtain ⟨rminus,hr5,h⟩:=bindSome h
   refine Runs.nR hE 0 [(2,⟨[],true,(encL (cU .u16) 0 rplus),[],0,true,none⟩),(5,⟨[],true,(encL (cU .u16) 0 rminus),[],0,false,none⟩)] [] (kp [2,3,4,5,9,10]) (kq [0,16,32,48]) 624 (pc (show Sound Try.prog 68 [(encL (cU .u16) 0 rdivide.1),(.sl 1 (fun zi=>(fun zi=>([[(.atom (.int .u16 1))]]:List (List AV)).getD zi []) (addz 0 zi)))] [] 0 (encL (cU .u16) 0 rplus) [] from (Sound.conv (g_e_plus_ok N rdivide.1 ([1]:List Int) rplus hr4) (.cons (Alike.refl _) (.cons (Alike.sl rfl (fun zq hzq=>get_chunk (cU .u16) 0 ([1]:List Int) zq hzq)) .nil)))) (pc (z1 1) (pc (g_e_minus_ok N rtrim2 rdivide.2 rminus hr5) pn))) ?_
   exact Runs.nW hE 1 [] (kp [2,3,4,5,9,10]) (kq [0] ++ [(1,.keep 16),(2,.keep 32),(3,.keep 48)]) 4 pn (g_e_DivMod_J1_ok N _ _ _ _ _ h E hE)
  ·exact Runs.nW hE 2 [] (kp [2,3,4,5,9,10]) (kq [0] ++ [(1,.keep 16),(2,.keep 32),(3,.keep 48)]) 4 pn (g_e_DivMod_J1_ok N _ _ _ _ _ h E hE)
noncomputable def C_65 (n:Nat):Code:=cat (bodyOf Try.f17) (pth n)
theorem g_e_Floor_ok (N:Nat) (x:TRat) (r:TInt) (h:g_e_Floor N x=some r):Sound Try.prog 17 [(.agg (TRat.cells x))] [] 0 (.agg (TInt.cells r)) []:=by
 unfold g_e_Floor at h
 refine Sound.of_runs (fu:=Try.f17) (c:=C_65 1) (nt:=18) (by kernel_rfl) (by kernel_rfl) (by kernel_rfl) (by kernel_rfl) (fun hm=>rfl) ?_
 intro E hE
 refine Runs.nR hE 1 [] [] (kp [1,2]) (kq [0,16]) 32 pn ?_
 obtain ⟨rlowest,hr,h⟩:=bindSome h
 refine Runs.nR hE 1 [(1,⟨[],true,(.agg (TRat.cells rlowest)),[],0,false,none⟩)] [] (kp [1,2]) (kq [0,16]) 80 (pc o1 (pc (g_e_lowest_ok N x rlowest hr) (pc o1 pn))) ?_
 obtain ⟨rDivMod,hr2,h⟩:=bindSome h
 refine Runs.nR hE 1 [(4,⟨[],true,(.tup [(.agg (TInt.cells rDivMod.1)),(.agg (TInt.cells rDivMod.2.1)),(aI rDivMod.2.2)]),[],0,false,none⟩)] [] (kp [2,3]) (kq [16,224]) 304 (pc o1 (pc o1 (pc (g_e_DivMod_ok N rlowest.f_Num rlowest.f_Den rDivMod hr2) (pc o1 (pc o1 pn))))) ?_
 refine Runs.nR hE 1 [] [] (kp [2]) (kq [16]) 336 (pc o1 (pc o1 pn)) ?_
 obtain rfl:=Option.some.inj h
 exact Runs.nT hE 0 Try.f17 [] (kp [2]) (kq [16]) 336 pn [16] (pc o1 pn)
noncomputable def C_67 (n:Nat):Code:=cat (bodyOf Try.f16) (pth n)
theorem g_e_Small_ok (N:Nat) (a:TInt) (r:Int×Bool) (h:g_e_Small N a=some r):Sound Try.prog 16 [(.agg (TInt.cells a))] [] 0 (.tup [(aI r.1),(aB r.2)]) []:=by
 unfold g_e_Small at h
 refine Sound.of_runs (fu:=Try.f16) (c:=C_67 1) (nt:=36) (by kernel_rfl) (by kernel_rfl) (by kernel_rfl) (by kernel_rfl) (fun hm=>rfl) ?_
 intro E hE
 refine Runs.nR hE 1 [] [] (kp [1]) (kq [0]) 48 pn ?_
 obtain ⟨rtrim,hr,h⟩:=bindSome h
 obtain ⟨rword,hr2,h⟩:=bindSome h
 refine Runs.nR hE 1 [(2,⟨[],true,(encL (cU .u16) 0 rtrim),[],0,false,none⟩),(3,⟨[],true,(.tup [(.atom (.int .u64 rword.1)),(aB rword.2)]),[],0,false,none⟩)] [] (kp [1,4,5]) (kq [0]) 192 (pc o1 (pc (g_e_trim_ok N a.f_Limbs rtrim hr) (pc (g_e_word_ok N rtrim rword hr2) pn))) ?_
 refine Runs.nR hE 3 [] [] (kp [1,4,13]) (kq [0]) 240 pn ?_
 refine Runs.nC 0 13 h (fun hq2 h=>?_) (fun hq2 h=>?_)
 ·refine Runs.nR hE 1 [] [] (kp [2,3]) [] 272 pn ?_
  obtain rfl:=Option.some.inj h
  exact Runs.nT hE 0 Try.f16 [] (kp [2,3]) [] 272 pn [] pn
 ·refine Runs.nR hE 1 [] [] (kp [1,4,16]) (kq [0]) 352 (pc o1 (pc (fun hg:a.f_Neg=true=>(pc hg pn)) (pc (fun hq:a.f_Neg=true=>(pc hq pn)) pn))) ?_
  refine Runs.nC 0 16 h (fun hq3 h=>?_) (fun hq3 h=>?_)
  ·refine Runs.nR hE 1 [] [] (kp [2,3]) [] 432 pn ?_
   obtain rfl:=Option.some.inj h
   exact Runs.nT hE 0 Try.f16 [] (kp [2,3]) [] 432 pn [] pn
  ·refine Runs.nR hE 1 [] [] (kp [4,26]) [] 480 (pc o1 (pc (fun hg:(!a.f_Neg)=true=>(pc hg pn)) (pc (fun hq:(!a.f_Neg)=true=>(pc hq pn)) pn))) ?_
   refine Runs.nC 0 26 h (fun hq4 h=>?_) (fun hq4 h=>?_)
   ·refine Runs.nR hE 1 [] [] (kp [2,3]) [] 544 pn ?_
    obtain rfl:=Option.some.inj h
    exact Runs.nT hE 0 Try.f16 [] (kp [2,3]) [] 544 pn [] pn
   ·refine Runs.nR hE 3 [] [] (kp [2,3]) [] 512 pn ?_
    obtain rfl:=Option.some.inj h
    exact Runs.nT hE 0 Try.f16 [] (kp [2,3]) [] 512 pn [] pn
noncomputable def C_64 (n:Nat):Code:=cat (bodyOf Try.f72) (pth n)
theorem g_water_whole_ok (N:Nat) (x:TRat) (r:Int) (h:g_water_whole N x=some r):Sound Try.prog 72 [(.agg (TRat.cells x))] [] 0 (aI r) []:=by
 unfold g_water_whole at h
 refine Sound.of_runs (fu:=Try.f72) (c:=C_64 1) (nt:=12) (by kernel_rfl) (by kernel_rfl) (by kernel_rfl) (by kernel_rfl) (fun hm=>rfl) ?_
 intro E hE
 refine Runs.nR hE 1 [] [] (kp [1]) (kq [0]) 32 pn ?_
 obtain ⟨rFloor,hr,h⟩:=bindSome h
 obtain ⟨rSmall,hr2,h⟩:=bindSome h
 refine Runs.nR hE 1 [(1,⟨[],true,(.agg (TInt.cells rFloor)),[],0,false,none⟩),(2,⟨[],true,(.tup [(aI rSmall.1),(aB rSmall.2)]),[],0,false,none⟩)] [] (kp [3]) [] 160 (pc o1 (pc (g_e_Floor_ok N x rFloor hr) (pc (g_e_Small_ok N rFloor rSmall hr2) pn))) ?_
 refine Runs.nR hE 1 [] [] (kp [2]) [] 192 pn ?_
 obtain rfl:=Option.some.inj h
 exact Runs.nT hE 0 Try.f72 [] (kp [2]) [] 192 pn [] pn
noncomputable def C_69 (n:Nat):Code:=cat (bodyOf Try.f91) (pth n)
theorem g_e_signOf_ok (N:Nat) (x:TRat) (r:Int) (h:g_e_signOf N x=some r):Sound Try.prog 91 [(.agg (TRat.cells x))] [] 0 (aI r) []:=by
 unfold g_e_signOf at h
 refine Sound.of_runs (fu:=Try.f91) (c:=C_69 1) (nt:=10) (by kernel_rfl) (by kernel_rfl) (by kernel_rfl) (by kernel_rfl) (fun hm=>rfl) ?_
 intro E hE
 refine Runs.nR hE 1 [] [] (kp [1]) (kq [0]) 32 pn ?_
 obtain ⟨rsign,hr,h⟩:=bindSome h
 obtain ⟨rbelow,hr2,h⟩:=bindSome h
 obtain ⟨rsign2,hr3,h⟩:=bindSome h
 refine Runs.nR hE 1 [(2,⟨[],true,(aI rsign),[],0,false,none⟩),(4,⟨[],true,(.agg (TInt.cells rbelow)),[],0,false,none⟩),(5,⟨[],true,(aI rsign2),[],0,false,none⟩)] [] (kp [2]) [] 160 (pc o1 (pc (g_e_sign_ok N x.f_Num rsign hr) (pc o1 (pc (g_e_below_ok N x rbelow hr2) (pc (g_e_sign_ok N rbelow rsign2 hr3) pn))))) ?_
 obtain rfl:=Option.some.inj h
 exact Runs.nT hE 0 Try.f91 [] (kp [2]) [] 160 pn [] pn
noncomputable def C_68 (n:Nat):Code:=cat (bodyOf Try.f74) (pth n)
theorem g_e_CmpRat_ok (N:Nat) (x:TRat) (y:TRat) (r:Int) (h:g_e_CmpRat N x y=some r):Sound Try.prog 74 [(.agg (TRat.cells x)),(.agg (TRat.cells y))] [] 0 (aI r) []:=by
 unfold g_e_CmpRat at h
 refine Sound.of_runs (fu:=Try.f74) (c:=C_68 1) (nt:=9) (by kernel_rfl) (by kernel_rfl) (by kernel_rfl) (by kernel_rfl) (fun hm=>rfl) ?_
 intro E hE
 refine Runs.nR hE 1 [] [] (kp [2,3]) (kq [0,16]) 48 pn ?_
 obtain ⟨rSubRat,hr,h⟩:=bindSome h
 obtain ⟨rsignOf,hr2,h⟩:=bindSome h
 refine Runs.nR hE 1 [(2,⟨[],true,(.agg (TRat.cells rSubRat)),[],0,false,none⟩),(3,⟨[],true,(aI rsignOf),[],0,false,none⟩)] [] (kp [4]) [] 128 (pc o1 (pc o1 (pc (g_e_SubRat_ok N x y rSubRat hr) (pc (g_e_signOf_ok N rSubRat rsignOf hr2) pn)))) ?_
 obtain rfl:=Option.some.inj h
 exact Runs.nT hE 0 Try.f74 [] (kp [4]) [] 128 pn [] pn
noncomputable def C_62 (n:Nat):Code:=cat (bodyOf Try.f47) (pth n)
def g_water_draughts_J1_H (N:Nat) (p:TPontoon) (most:Int) (K:Int→Option (Int×Int)):Prop:=∀ (low:Int) (r:Int×Int),K low=some r→∀ E,EnvOk E 0→Runs Try.prog E 47 29 (SPost E [] (.tup [(aI r.1),(aI r.2)])) [.code (C_62 62),.code (C_62 63)] ⟨[(2,(aI most)),(6,(aI low)),(8,(.fn (.func 73) [] [(.op 0 0 0)]))],[(0,vO 5 (TPontoon.cells p))],1⟩
theorem g_water_draughts_J1_ok (N:Nat) (p:TPontoon) (most:Int):g_water_draughts_J1_H N p most (g_water_draughts_J1 N p most):=by
 intro low r h E hE
 unfold g_water_draughts_J1 at h
 obtain ⟨rdraughts13,hr6,h⟩:=bindSome h
 obtain ⟨rwhole2,hr7,h⟩:=bindSome h
 refine Runs.nR hE 0 [(3,⟨[0],false,(.agg [(aB rdraughts13.f_Num.f_Neg),(.os 1 0 rdraughts13.f_Num.f_Limbs.length),(aB rdraughts13.f_Den.f_Neg),(.os 2 0 rdraughts13.f_Den.f_Limbs.length)]),[(0,vO 5 (TPontoon.cells p)),(1,aO 1 (cU .u16) 0 rdraughts13.f_Num.f_Limbs),(2,aO 1 (cU .u16) 0 rdraughts13.f_Den.f_Limbs)],0,false,none⟩),(4,⟨[],true,(aI rwhole2),[],0,false,none⟩)] [] (kp [6,7]) [] 113 (pc (g_water_draughts_1_ok N most p rdraughts13 hr6) (pc (g_water_whole_ok N (⟨rdraughts13.f_Num,rdraughts13.f_Den⟩:TRat) rwhole2 hr7) (pc (z1 rdraughts13.f_Num.f_Limbs.length) (pc (z1 rdraughts13.f_Den.f_Limbs.length) pn)))) ?_
 obtain rfl:=Option.some.inj h
 exact Runs.nT hE 0 Try.f47 [] (kp [6,7]) [] 113 pn [] pn
theorem g_water_draughts_ok (N:Nat) (p:TPontoon) (least:Int) (most:Int) (r:Int×Int) (h:g_water_draughts N p least most=some r):Sound Try.prog 47 [(.agg (TPontoon.cells p)),(aI least),(aI most)] [] 0 (.tup [(aI r.1),(aI r.2)]) []:=by
 unfold g_water_draughts at h
 refine Sound.of_runs (fu:=Try.f47) (c:=C_62 1) (nt:=29) (by kernel_rfl) (by kernel_rfl) (by kernel_rfl) (by kernel_rfl) (fun hm=>rfl) ?_
 intro E hE
 refine Runs.nR hE 1 [] [] (kp [1,2,3]) (kq [0]) 48 pn ?_
 refine Runs.nR hE 1 [] [] (kp [1,2,8]) (kq [0]) 80 pn ?_
 obtain ⟨rdraughts1,hr,h⟩:=bindSome h
 obtain ⟨rwhole,hr2,h⟩:=bindSome h
 refine Runs.nR hE 1 [(2,⟨[0],false,(.agg [(aB rdraughts1.f_Num.f_Neg),(.os 1 0 rdraughts1.f_Num.f_Limbs.length),(aB rdraughts1.f_Den.f_Neg),(.os 2 0 rdraughts1.f_Den.f_Limbs.length)]),[(0,vO 5 (TPontoon.cells p)),(1,aO 1 (cU .u16) 0 rdraughts1.f_Num.f_Limbs),(2,aO 1 (cU .u16) 0 rdraughts1.f_Den.f_Limbs)],0,false,none⟩),(3,⟨[],true,(aI rwhole),[],0,false,none⟩)] [] (kp [1,2,6,8]) (kq [0]) 160 (pc (g_water_draughts_1_ok N least p rdraughts1 hr) (pc (g_water_whole_ok N (⟨rdraughts1.f_Num,rdraughts1.f_Den⟩:TRat) rwhole hr2) (pc (z1 rdraughts1.f_Num.f_Limbs.length) (pc (z1 rdraughts1.f_Den.f_Limbs.length) pn)))) ?_
 obtain ⟨rproduct,hr3,h⟩:=bindSome h
 obtain ⟨rdraughts12,hr4,h⟩:=bindSome h
 obtain ⟨rCmpRat,hr5,h⟩:=bindSome h
 refine Runs.nR hE 2 [(2,⟨[],false,(.agg [(aB rproduct.f_Num.f_Neg),(.os 0 0 rproduct.f_Num.f_Limbs.length),(aB rproduct.f_Den.f_Neg),(.os 1 0 rproduct.f_Den.f_Limbs.length)]),[(0,aO 1 (cU .u16) 0 rproduct.f_Num.f_Limbs),(1,aO 1 (cU .u16) 0 rproduct.f_Den.f_Limbs)],0,false,none⟩),(5,⟨[0],false,(.agg [(aB rdraughts12.f_Num.f_Neg),(.os 1 0 rdraughts12.f_Num.f_Limbs.length),(aB rdraughts12.f_Den.f_Neg),(.os 2 0 rdraughts12.f_Den.f_Limbs.length)]),[(0,vO 5 (TPontoon.cells p)),(1,aO 1 (cU .u16) 0 rdraughts12.f_Num.f_Limbs),(2,aO 1 (cU .u16) 0 rdraughts12.f_Den.f_Limbs)],0,false,none⟩),(6,⟨[],true,(aI rCmpRat),[],0,false,none⟩)] [] (kp [2,6,8,21]) (kq [0]) 288 (pc (show Sound Try.prog 36 [(.sl 1 (fun zi=>(fun zi=>([[(aI rwhole)]]:List (List AV)).getD zi []) (addz 0 zi)))] [] 0 (.agg [(aB rproduct.f_Num.f_Neg),(.os 0 0 rproduct.f_Num.f_Limbs.length),(aB rproduct.f_Den.f_Neg),(.os 1 0 rproduct.f_Den.f_Limbs.length)]) [(0,aO 1 (cU .u16) 0 rproduct.f_Num.f_Limbs),(1,aO 1 (cU .u16) 0 rproduct.f_Den.f_Limbs)] from (Sound.conv (g_water_product_ok N ([rwhole]:List Int) rproduct hr3) (.cons (Alike.sl rfl (fun zq hzq=>get_chunk cI 0 ([rwhole]:List Int) zq hzq)) .nil))) (pc (show ∀ zi,zi < rproduct.f_Num.f_Limbs.length→AV.flatL ((cU .u16) (rproduct.f_Num.f_Limbs.getD zi 0))=true from (fun _ _=>rfl)) (pc (show ∀ zi,zi < rproduct.f_Den.f_Limbs.length→AV.flatL ((cU .u16) (rproduct.f_Den.f_Limbs.getD zi 0))=true from (fun _ _=>rfl)) (pc (z1 1) (pc (g_water_draughts_1_ok N least p rdraughts12 hr4) (pc (g_e_CmpRat_ok N (⟨rproduct.f_Num,rproduct.f_Den⟩:TRat) (⟨rdraughts12.f_Num,rdraughts12.f_Den⟩:TRat) rCmpRat hr5) (pc (z1 rproduct.f_Num.f_Limbs.length) (pc (z1 rproduct.f_Den.f_Limbs.length) (pc (z1 rdraughts12.f_Num.f_Limbs.length) (pc (z1 rdraughts12.f_Den.f_Limbs.length) pn)))))))))) ?_
 refine Runs.nC 0 21 h (fun hq2 h=>?_) (fun hq2 h=>?_)
 ·refine Runs.nR hE 0 [] [] (kp [2,6,8]) (kq [0]) 336 pn ?_
  exact Runs.nW hE 1 [] (kp [2,6,8]) (kq [0]) 1 pn (g_water_draughts_J1_ok N _ _ _ _ h E hE)
 ·exact Runs.nW hE 2 [] (kp [2,6,8]) (kq [0]) 1 pn (g_water_draughts_J1_ok N _ _ _ _ h E hE)
noncomputable def C_61 (n:Nat):Code:=cat (bodyOf Try.f46) (pth n)
theorem g_water_boundsOf_ok (N:Nat) (p:TPontoon) (l:TLimits) (r:Twater_bounds) (h:g_water_boundsOf N p l=some r):Sound Try.prog 46 [(.agg (TPontoon.cells p)),(.agg (TLimits.cells l))] [] 0 (.agg (Twater_bounds.cells r)) []:=by
 unfold g_water_boundsOf at h
 refine Sound.of_runs (fu:=Try.f46) (c:=C_61 1) (nt:=59) (by kernel_rfl) (by kernel_rfl) (by kernel_rfl) (by kernel_rfl) (fun hm=>rfl) ?_
 intro E hE
 refine Runs.nR hE 1 [] [] (kp [2,3,4]) (kq [0,16,32]) 48 pn ?_
 refine Runs.nR hE 1 [] [] (kp [2,3,4,5,6,7]) (kq [0,16,32]) 192 (pc o1 (pc o1 (pc o1 pn))) ?_
 refine Runs.nR hE 1 [] [] (kp [2,3,4,5,6,7,8]) (kq [0,16,32,192]) 208 pn ?_
 obtain ⟨rdraughts,hr,h⟩:=bindSome h
 refine Runs.nR hE 1 [(5,⟨[],true,(.tup [(aI rdraughts.1),(aI rdraughts.2)]),[],0,false,none⟩)] [] (kp [3,4,5,6,7,8]) (kq [16,32,192]) 416 (pc o1 (pc o1 (pc o1 (pc (g_water_draughts_ok N p l.f_DraughtLeast l.f_DraughtMost rdraughts hr) (pc o1 (pc o1 pn)))))) ?_
 obtain ⟨rproduct,hr2,h⟩:=bindSome h
 obtain ⟨rproduct2,hr3,h⟩:=bindSome h
 obtain ⟨rquotient,hr4,h⟩:=bindSome h
 obtain ⟨rwhole,hr5,h⟩:=bindSome h
 refine Runs.nR hE 1 [(8,⟨[],false,(.agg [(aB rproduct.f_Num.f_Neg),(.os 0 0 rproduct.f_Num.f_Limbs.length),(aB rproduct.f_Den.f_Neg),(.os 1 0 rproduct.f_Den.f_Limbs.length)]),[(0,aO 1 (cU .u16) 0 rproduct.f_Num.f_Limbs),(1,aO 1 (cU .u16) 0 rproduct.f_Den.f_Limbs)],0,false,none⟩),(10,⟨[],false,(.agg [(aB rproduct2.f_Num.f_Neg),(.os 0 0 rproduct2.f_Num.f_Limbs.length),(aB rproduct2.f_Den.f_Neg),(.os 1 0 rproduct2.f_Den.f_Limbs.length)]),[(0,aO 1 (cU .u16) 0 rproduct2.f_Num.f_Limbs),(1,aO 1 (cU .u16) 0 rproduct2.f_Den.f_Limbs)],0,false,none⟩),(11,⟨[],false,(.agg [(aB rquotient.f_Num.f_Neg),(.os 0 0 rquotient.f_Num.f_Limbs.length),(aB rquotient.f_Den.f_Neg),(.os 1 0 rquotient.f_Den.f_Limbs.length)]),[(0,aO 1 (cU .u16) 0 rquotient.f_Num.f_Limbs),(1,aO 1 (cU .u16) 0 rquotient.f_Den.f_Limbs)],0,false,none⟩),(12,⟨[],true,(aI rwhole),[],0,false,none⟩)] [] (kp [3,4,5,6,7,8]) (kq [16,32,192]) 656 (pc o1 (pc (show Sound Try.prog 36 [(.sl 6 (fun zi=>(fun zi=>([[(aI l.f_TrimMost)],[(aI p.f_Density)],[(aI p.f_Breadth)],[(aI p.f_Length)],[(aI p.f_Length)],[(aI p.f_Length)]]:List (List AV)).getD zi []) (addz 0 zi)))] [] 0 (.agg [(aB rproduct.f_Num.f_Neg),(.os 0 0 rproduct.f_Num.f_Limbs.length),(aB rproduct.f_Den.f_Neg),(.os 1 0 rproduct.f_Den.f_Limbs.length)]) [(0,aO 1 (cU .u16) 0 rproduct.f_Num.f_Limbs),(1,aO 1 (cU .u16) 0 rproduct.f_Den.f_Limbs)] from (Sound.conv (g_water_product_ok N ([l.f_TrimMost,p.f_Density,p.f_Breadth,p.f_Length,p.f_Length,p.f_Length]:List Int) rproduct hr2) (.cons (Alike.sl rfl (fun zq hzq=>get_chunk cI 0 ([l.f_TrimMost,p.f_Density,p.f_Breadth,p.f_Length,p.f_Length,p.f_Length]:List Int) zq hzq)) .nil))) (pc (show ∀ zi,zi < rproduct.f_Num.f_Limbs.length→AV.flatL ((cU .u16) (rproduct.f_Num.f_Limbs.getD zi 0))=true from (fun _ _=>rfl)) (pc (show ∀ zi,zi < rproduct.f_Den.f_Limbs.length→AV.flatL ((cU .u16) (rproduct.f_Den.f_Limbs.getD zi 0))=true from (fun _ _=>rfl)) (pc (z1 6) (pc (show Sound Try.prog 36 [(.sl 2 (fun zi=>(fun zi=>([[(aI 12000000000)],[(aI 1000)]]:List (List AV)).getD zi []) (addz 0 zi)))] [] 0 (.agg [(aB rproduct2.f_Num.f_Neg),(.os 0 0 rproduct2.f_Num.f_Limbs.length),(aB rproduct2.f_Den.f_Neg),(.os 1 0 rproduct2.f_Den.f_Limbs.length)]) [(0,aO 1 (cU .u16) 0 rproduct2.f_Num.f_Limbs),(1,aO 1 (cU .u16) 0 rproduct2.f_Den.f_Limbs)] from (Sound.conv (g_water_product_ok N ([12000000000,1000]:List Int) rproduct2 hr3) (.cons (Alike.sl rfl (fun zq hzq=>get_chunk cI 0 ([12000000000,1000]:List Int) zq hzq)) .nil))) (pc (show ∀ zi,zi < rproduct2.f_Num.f_Limbs.length→AV.flatL ((cU .u16) (rproduct2.f_Num.f_Limbs.getD zi 0))=true from (fun _ _=>rfl)) (pc (show ∀ zi,zi < rproduct2.f_Den.f_Limbs.length→AV.flatL ((cU .u16) (rproduct2.f_Den.f_Limbs.getD zi 0))=true from (fun _ _=>rfl)) (pc (z1 2) (pc (g_water_quotient_ok N (⟨rproduct.f_Num,rproduct.f_Den⟩:TRat) (⟨rproduct2.f_Num,rproduct2.f_Den⟩:TRat) rquotient hr4) (pc (show ∀ zi,zi < rquotient.f_Num.f_Limbs.length→AV.flatL ((cU .u16) (rquotient.f_Num.f_Limbs.getD zi 0))=true from (fun _ _=>rfl)) (pc (show ∀ zi,zi < rquotient.f_Den.f_Limbs.length→AV.flatL ((cU .u16) (rquotient.f_Den.f_Limbs.getD zi 0))=true from (fun _ _=>rfl)) (pc (z1 rproduct.f_Num.f_Limbs.length) (pc (z1 rproduct.f_Den.f_Limbs.length) (pc (z1 rproduct2.f_Num.f_Limbs.length) (pc (z1 rproduct2.f_Den.f_Limbs.length) (pc (g_water_whole_ok N (⟨rquotient.f_Num,rquotient.f_Den⟩:TRat) rwhole hr5) (pc (z1 rquotient.f_Num.f_Limbs.length) (pc (z1 rquotient.f_Den.f_Limbs.length) (pc o1 pn)))))))))))))))))))) ?_
 obtain ⟨rproduct3,hr6,h⟩:=bindSome h
 obtain ⟨rproduct4,hr7,h⟩:=bindSome h
 obtain ⟨rquotient2,hr8,h⟩:=bindSome h
 obtain ⟨rwhole2,hr9,h⟩:=bindSome h
 refine Runs.nR hE 1 [(8,⟨[],false,(.agg [(aB rproduct3.f_Num.f_Neg),(.os 0 0 rproduct3.f_Num.f_Limbs.length),(aB rproduct3.f_Den.f_Neg),(.os 1 0 rproduct3.f_Den.f_Limbs.length)]),[(0,aO 1 (cU .u16) 0 rproduct3.f_Num.f_Limbs),(1,aO 1 (cU .u16) 0 rproduct3.f_Den.f_Limbs)],0,false,none⟩),(10,⟨[],false,(.agg [(aB rproduct4.f_Num.f_Neg),(.os 0 0 rproduct4.f_Num.f_Limbs.length),(aB rproduct4.f_Den.f_Neg),(.os 1 0 rproduct4.f_Den.f_Limbs.length)]),[(0,aO 1 (cU .u16) 0 rproduct4.f_Num.f_Limbs),(1,aO 1 (cU .u16) 0 rproduct4.f_Den.f_Limbs)],0,false,none⟩),(11,⟨[],false,(.agg [(aB rquotient2.f_Num.f_Neg),(.os 0 0 rquotient2.f_Num.f_Limbs.length),(aB rquotient2.f_Den.f_Neg),(.os 1 0 rquotient2.f_Den.f_Limbs.length)]),[(0,aO 1 (cU .u16) 0 rquotient2.f_Num.f_Limbs),(1,aO 1 (cU .u16) 0 rquotient2.f_Den.f_Limbs)],0,false,none⟩),(12,⟨[],true,(aI rwhole2),[],0,false,none⟩)] [] (kp [3,4,8]) (kq [16,32,192]) 896 (pc o1 (pc (show Sound Try.prog 36 [(.sl 6 (fun zi=>(fun zi=>([[(aI l.f_HeelMost)],[(aI p.f_Density)],[(aI p.f_Length)],[(aI p.f_Breadth)],[(aI p.f_Breadth)],[(aI p.f_Breadth)]]:List (List AV)).getD zi []) (addz 0 zi)))] [] 0 (.agg [(aB rproduct3.f_Num.f_Neg),(.os 0 0 rproduct3.f_Num.f_Limbs.length),(aB rproduct3.f_Den.f_Neg),(.os 1 0 rproduct3.f_Den.f_Limbs.length)]) [(0,aO 1 (cU .u16) 0 rproduct3.f_Num.f_Limbs),(1,aO 1 (cU .u16) 0 rproduct3.f_Den.f_Limbs)] from (Sound.conv (g_water_product_ok N ([l.f_HeelMost,p.f_Density,p.f_Length,p.f_Breadth,p.f_Breadth,p.f_Breadth]:List Int) rproduct3 hr6) (.cons (Alike.sl rfl (fun zq hzq=>get_chunk cI 0 ([l.f_HeelMost,p.f_Density,p.f_Length,p.f_Breadth,p.f_Breadth,p.f_Breadth]:List Int) zq hzq)) .nil))) (pc (show ∀ zi,zi < rproduct3.f_Num.f_Limbs.length→AV.flatL ((cU .u16) (rproduct3.f_Num.f_Limbs.getD zi 0))=true from (fun _ _=>rfl)) (pc (show ∀ zi,zi < rproduct3.f_Den.f_Limbs.length→AV.flatL ((cU .u16) (rproduct3.f_Den.f_Limbs.getD zi 0))=true from (fun _ _=>rfl)) (pc (z1 6) (pc (show Sound Try.prog 36 [(.sl 2 (fun zi=>(fun zi=>([[(aI 12000000000)],[(aI 1000)]]:List (List AV)).getD zi []) (addz 0 zi)))] [] 0 (.agg [(aB rproduct4.f_Num.f_Neg),(.os 0 0 rproduct4.f_Num.f_Limbs.length),(aB rproduct4.f_Den.f_Neg),(.os 1 0 rproduct4.f_Den.f_Limbs.length)]) [(0,aO 1 (cU .u16) 0 rproduct4.f_Num.f_Limbs),(1,aO 1 (cU .u16) 0 rproduct4.f_Den.f_Limbs)] from (Sound.conv (g_water_product_ok N ([12000000000,1000]:List Int) rproduct4 hr7) (.cons (Alike.sl rfl (fun zq hzq=>get_chunk cI 0 ([12000000000,1000]:List Int) zq hzq)) .nil))) (pc (show ∀ zi,zi < rproduct4.f_Num.f_Limbs.length→AV.flatL ((cU .u16) (rproduct4.f_Num.f_Limbs.getD zi 0))=true from (fun _ _=>rfl)) (pc (show ∀ zi,zi < rproduct4.f_Den.f_Limbs.length→AV.flatL ((cU .u16) (rproduct4.f_Den.f_Limbs.getD zi 0))=true from (fun _ _=>rfl)) (pc (z1 2) (pc (g_water_quotient_ok N (⟨rproduct3.f_Num,rproduct3.f_Den⟩:TRat) (⟨rproduct4.f_Num,rproduct4.f_Den⟩:TRat) rquotient2 hr8) (pc (show ∀ zi,zi < rquotient2.f_Num.f_Limbs.length→AV.flatL ((cU .u16) (rquotient2.f_Num.f_Limbs.getD zi 0))=true from (fun _ _=>rfl)) (pc (show ∀ zi,zi < rquotient2.f_Den.f_Limbs.length→AV.flatL ((cU .u16) (rquotient2.f_Den.f_Limbs.getD zi 0))=true from (fun _ _=>rfl)) (pc (z1 rproduct3.f_Num.f_Limbs.length) (pc (z1 rproduct3.f_Den.f_Limbs.length) (pc (z1 rproduct4.f_Num.f_Limbs.length) (pc (z1 rproduct4.f_Den.f_Limbs.length) (pc (g_water_whole_ok N (⟨rquotient2.f_Num,rquotient2.f_Den⟩:TRat) rwhole2 hr9) (pc (z1 rquotient2.f_Num.f_Limbs.length) (pc (z1 rquotient2.f_Den.f_Limbs.length) (pc o1 pn)))))))))))))))))))) ?_
 refine Runs.nR hE 1 [] [] (kp [4,8]) (kq [32,192]) 976 (pc o1 (pc o1 pn)) ?_
 refine Runs.nR hE 1 [] [] (kp [4]) (kq [32]) 1008 (pc o1 (pc o1 pn)) ?_
 obtain rfl:=Option.some.inj h
 exact Runs.nT hE 0 Try.f46 [] (kp [4]) [(16,.keep 32)] 1008 pn [16] (pc o1 pn)
noncomputable def C_59 (n:Nat):Code:=cat (bodyOf Try.f23) (pth n)
theorem g_water_open_ok (N:Nat) (p:TPontoon) (l:TLimits) (a:TAim) (r:Twater_plan×Int) (h:g_water_open N p l a=some r):Sound Try.prog 23 [(.agg (TPontoon.cells p)),(.agg (TLimits.cells l)),(.agg (TAim.cells a))] [] 0 (.tup [(.agg (Twater_plan.cells r.1)),(aI r.2)]) []:=by
 unfold g_water_open at h
 refine Sound.of_runs (fu:=Try.f23) (c:=C_59 1) (nt:=65) (by kernel_rfl) (by kernel_rfl) (by kernel_rfl) (by kernel_rfl) (fun hm=>rfl) ?_
 intro E hE
 refine Runs.nR hE 1 [] [] (kp [3,4,5,6]) (kq [0,16,32,48]) 80 pn ?_
 obtain ⟨rCheckPontoon,hr,h⟩:=bindSome h
 refine Runs.nR hE 2 [(1,⟨[],true,(aI rCheckPontoon),[],0,false,none⟩)] [] (kp [3,4,5,6,8]) (kq [0,16,32,48]) 128 (pc o1 (pc (g_water_CheckPontoon_ok N p rCheckPontoon hr) pn)) ?_
 refine Runs.nR hE 1 [] [] (kp [3,4,5,6,8,16]) (kq [0,16,32,48]) 160 pn ?_
 refine Runs.nC 0 16 h (fun hq2 h=>?_) (fun hq2 h=>?_)
 ·refine Runs.nR hE 1 [] [] (kp [6,7]) (kq [48]) 224 (pc o1 pn) ?_
  obtain rfl:=Option.some.inj h
  exact Runs.nT hE 0 Try.f23 [] (kp [6,7]) [(16,.var 48 [.keep,.keep,.keep,.sl (([]:List TPointMass).length) (fun zi=>TPointMass.cells (([]:List TPointMass).getD zi TPointMass.d)),.sl (([]:List TTank).length) (fun zi=>TTank.cells (([]:List TTank).getD zi TTank.d)),.keep,.keep,.keep,.keep,.keep,.keep,.keep,.keep,.keep,.keep,.keep,.keep,.keep])] 224 (pc (Eq.refl 0) (pc (Eq.refl 0) pn)) [16] (pc o1 pn)
 ·obtain ⟨rcheckLimits,hr2,h⟩:=bindSome h
  refine Runs.nR hE 3 [(1,⟨[],true,(aI rcheckLimits),[],0,false,none⟩)] [] (kp [3,4,5,6,9]) (kq [0,16,32,48]) 208 (pc o1 (pc (g_water_checkLimits_ok N l rcheckLimits hr2) pn)) ?_
  refine Runs.nR hE 1 [] [] (kp [3,4,5,6,9,22]) (kq [0,16,32,48]) 240 pn ?_
  refine Runs.nC 0 22 h (fun hq3 h=>?_) (fun hq3 h=>?_)
  ·refine Runs.nR hE 1 [] [] (kp [6,7]) (kq [48]) 304 (pc o1 pn) ?_
   obtain rfl:=Option.some.inj h
   exact Runs.nT hE 0 Try.f23 [] (kp [6,7]) [(16,.var 48 [.keep,.keep,.keep,.sl (([]:List TPointMass).length) (fun zi=>TPointMass.cells (([]:List TPointMass).getD zi TPointMass.d)),.sl (([]:List TTank).length) (fun zi=>TTank.cells (([]:List TTank).getD zi TTank.d)),.keep,.keep,.keep,.keep,.keep,.keep,.keep,.keep,.keep,.keep,.keep,.keep,.keep])] 304 (pc (Eq.refl 0) (pc (Eq.refl 0) pn)) [16] (pc o1 pn)
  ·obtain ⟨rcheckSteps,hr3,h⟩:=bindSome h
   refine Runs.nR hE 2 [(3,⟨[],true,(.tup [(.agg (Twater_state.cells rcheckSteps.1)),(aI rcheckSteps.2)]),[],0,false,none⟩)] [] (kp [3,4,5,6,10,11]) (kq [0,16,32,48,352]) 400 (pc o1 (pc o1 (pc (g_water_checkSteps_ok N p a.f_Start rcheckSteps hr3) (pc o1 pn)))) ?_
   refine Runs.nR hE 2 [] [] (kp [3,4,5,6,10,11,33]) (kq [0,16,32,48,352]) 432 pn ?_
   refine Runs.nC 0 33 h (fun hq4 h=>?_) (fun hq4 h=>?_)
   ·refine Runs.nR hE 1 [] [] (kp [6,7]) (kq [48]) 496 (pc o1 pn) ?_
    obtain rfl:=Option.some.inj h
    exact Runs.nT hE 0 Try.f23 [] (kp [6,7]) [(16,.var 48 [.keep,.keep,.keep,.sl (([]:List TPointMass).length) (fun zi=>TPointMass.cells (([]:List TPointMass).getD zi TPointMass.d)),.sl (([]:List TTank).length) (fun zi=>TTank.cells (([]:List TTank).getD zi TTank.d)),.keep,.keep,.keep,.keep,.keep,.keep,.keep,.keep,.keep,.keep,.keep,.keep,.keep])] 496 (pc (Eq.refl 0) (pc (Eq.refl 0) pn)) [16] (pc o1 pn)
   ·obtain ⟨rbetween,hr4,h⟩:=bindSome h
    obtain ⟨rbetween2,hr5,h⟩:=bindSome h
    refine Runs.nR hE 3 [(2,⟨[],true,(aB rbetween),[],0,false,none⟩),(7,⟨[],true,(aB rbetween2),[],0,false,none⟩)] [] (kp [3,4,5,6,10,45]) (kq [0,16,32,48,352]) 592 (pc o1 (pc (g_water_between_ok N a.f_DraughtLeast 0 1000000 rbetween hr4) (pc (fun hg:(!(!rbetween))=true=>(pc hg (pc o1 pn))) (pc (fun hg:(!(!rbetween))=true=>(pc (g_water_between_ok N a.f_DraughtMost 0 1000000 rbetween2 (condT hr5 hg)) (pc hg pn))) (pc (fun hg:(!(!rbetween))=true=>(pc hg pn)) (pc (fun hq:(!(!rbetween))=true=>(pc hq pn)) pn)))))) ?_
    refine Runs.nC 0 45 h (fun hq5 h=>?_) (fun hq5 h=>?_)
    ·refine Runs.nR hE 1 [] [] (kp [6,7]) (kq [48]) 640 (pc o1 pn) ?_
     obtain rfl:=Option.some.inj h
     exact Runs.nT hE 0 Try.f23 [] (kp [6,7]) [(16,.var 48 [.keep,.keep,.keep,.sl (([]:List TPointMass).length) (fun zi=>TPointMass.cells (([]:List TPointMass).getD zi TPointMass.d)),.sl (([]:List TTank).length) (fun zi=>TTank.cells (([]:List TTank).getD zi TTank.d)),.keep,.keep,.keep,.keep,.keep,.keep,.keep,.keep,.keep,.keep,.keep,.keep,.keep])] 640 (pc (Eq.refl 0) (pc (Eq.refl 0) pn)) [16] (pc o1 pn)
    ·obtain ⟨rboundsOf,hr6,h⟩:=bindSome h
     refine Runs.nR hE 2 [(3,⟨[],true,(.agg (Twater_bounds.cells rboundsOf)),[],0,false,none⟩)] [] (kp [3,5,6,12]) (kq [0,32,48,688]) 720 (pc o1 (pc o1 (pc o1 (pc (g_water_boundsOf_ok N p l rboundsOf hr6) (pc o1 (pc o1 pn)))))) ?_
     obtain ⟨rdraughts,hr7,h⟩:=bindSome h
     refine Runs.nR hE 1 [(5,⟨[],true,(.tup [(aI rdraughts.1),(aI rdraughts.2)]),[],0,false,none⟩)] [] (kp [6,12]) (kq [48,688]) 928 (pc o1 (pc o1 (pc o1 (pc (g_water_draughts_ok N p a.f_DraughtLeast a.f_DraughtMost rdraughts hr7) (pc o1 (pc o1 pn)))))) ?_
     refine Runs.nR hE 1 [] [] (kp [6,7]) (kq [48]) 976 (pc o1 (pc o1 pn)) ?_
     obtain rfl:=Option.some.inj h
     exact Runs.nT hE 0 Try.f23 [] (kp [6,7]) [(16,.keep 48)] 976 pn [16] (pc o1 pn)
noncomputable def C_70 (n:Nat):Code:=cat (bodyOf Try.f24) (pth n)
def g_water_many_L1_H (N:Nat) (p:TPontoon) (K:Int→Int→Option (Int)):Prop:=∀ (n:Int) (x:Int) (r:Int),K n x=some r→∀ E,EnvOk E 0→Runs Try.prog E 24 20 (SPost E [] (aI r)) [.code (C_70 116),.inLoop (C_70 116),.inBlock 0,.code (C_70 15)] ⟨[(3,(aI n)),(7,(encL TTank.cells TTank.d p.f_Tanks)),(8,(aI ((p.f_Tanks.length:Nat):Int))),(9,(aI x))],[],0⟩
theorem g_water_many_L1_ok (N:Nat) (p:TPontoon) (fuel:Nat):g_water_many_L1_H N p (g_water_many_L1 N p fuel):=by
 induction fuel with
 | zero=>intro _ _ r h;rw [g_water_many_L1.eq_1] at h;cases h
 | succ fuel ih =>
  intro n x r h E hE
  rw [g_water_many_L1.eq_2] at h
  refine Runs.nR hE 1 [] [] (kp [3,7,8,9,10]) [] 16 pn ?_
  refine Runs.nC 1 10 h (fun hq2 h=>?_) (fun hq2 h=>?_)
  ·obtain ⟨c,h⟩:=ifSome h
   refine Runs.nR hE 4 [] [] (kp [3,5,7,8,9]) (kq [48]) 80 (pc c (pc o1 pn)) ?_
   refine Runs.nR hE 0 [] [] (kp [3,7,8,9]) [] 176 (pc o1 pn) ?_
   refine Runs.nR hE 1 [] [] (kp [3,7,8,9]) [] 208 pn ?_
   exact Runs.nW hE 1 [] (kp [3,7,8,9]) [] 0 pn (ih _ _ _ h E hE)
  ·refine Runs.nR hE 2 [] [] (kp [2]) [] 48 pn ?_
   obtain rfl:=Option.some.inj h
   exact Runs.nT hE 0 Try.f24 [] (kp [2]) [] 48 pn [] pn
theorem g_water_many_ok (N:Nat) (p:TPontoon) (r:Int) (h:g_water_many N p=some r):Sound Try.prog 24 [(.agg (TPontoon.cells p))] [] 0 (aI r) []:=by
 unfold g_water_many at h
 refine Sound.of_runs (fu:=Try.f24) (c:=C_70 1) (nt:=20) (by kernel_rfl) (by kernel_rfl) (by kernel_rfl) (by kernel_rfl) (fun hm=>rfl) ?_
 intro E hE
 refine Runs.nR hE 1 [] [] (kp [1]) (kq [0]) 32 pn ?_
 refine Runs.nR hE 1 [] [] (kp [1,3]) (kq [0]) 48 pn ?_
 refine Runs.nR hE 2 [] [] (kp [3,7,8,9]) [] 112 (pc o1 pn) ?_
 exact Runs.nW hE 2 [] (kp [3,7,8,9]) [] 0 pn (g_water_many_L1_ok N _ N _ _ _ h E hE)
noncomputable def C_72 (n:Nat):Code:=cat (bodyOf Try.f48) (pth n)
def g_water_bounds_kept_J1_H (N:Nat) (b:Twater_bounds) (p:TPontoon) (rsumOf:Twater_sums) (K:Int→Option (Int)):Prop:=∀ (out:Int) (r:Int),K out=some r→∀ E,EnvOk E 0→Runs Try.prog E 48 59 (SPost E [] (aI r)) [.code (C_72 124),.code (C_72 125),.code (C_72 63)] ⟨[(3,(.op 0 0 0)),(4,(.op 1 0 0)),(7,(.op 2 0 0)),(8,(aI out))],[(0,vO 5 (Twater_bounds.cells b)),(1,vO 5 (TPontoon.cells p)),(2,vO 4 (Twater_sums.cells rsumOf))],3⟩
def g_water_bounds_kept_J2_H (N:Nat) (b:Twater_bounds) (p:TPontoon) (rsumOf:Twater_sums) (K:Int→Option (Int)):Prop:=∀ (out2:Int) (r:Int),K out2=some r→∀ E,EnvOk E 0→Runs Try.prog E 48 59 (SPost E [] (aI r)) [.code (C_72 252),.code (C_72 253),.code (C_72 127)] ⟨[(3,(.op 0 0 0)),(4,(.op 1 0 0)),(7,(.op 2 0 0)),(8,(aI out2))],[(0,vO 5 (Twater_bounds.cells b)),(1,vO 5 (TPontoon.cells p)),(2,vO 4 (Twater_sums.cells rsumOf))],3⟩
def g_water_bounds_kept_J3_H (N:Nat) (b:Twater_bounds) (p:TPontoon) (rsumOf:Twater_sums) (K:Int→Option (Int)):Prop:=∀ (out3:Int) (r:Int),K out3=some r→∀ E,EnvOk E 0→Runs Try.prog E 48 59 (SPost E [] (aI r)) [.code (C_72 508),.code (C_72 509),.code (C_72 255)] ⟨[(3,(.op 0 0 0)),(4,(.op 1 0 0)),(7,(.op 2 0 0)),(8,(aI out3))],[(0,vO 5 (Twater_bounds.cells b)),(1,vO 5 (TPontoon.cells p)),(2,vO 4 (Twater_sums.cells rsumOf))],3⟩
def g_water_bounds_kept_J4_H (N:Nat) (K:Int→Option (Int)):Prop:=∀ (out4:Int) (r:Int),K out4=some r→∀ E,EnvOk E 0→Runs Try.prog E 48 59 (SPost E [] (aI r)) [.code (C_72 510),.code (C_72 511)] ⟨[(8,(aI out4))],[],0⟩
theorem g_water_bounds_kept_J4_ok (N:Nat):g_water_bounds_kept_J4_H N (g_water_bounds_kept_J4 N):=by
 intro out4 r h E hE
 unfold g_water_bounds_kept_J4 at h
 refine Runs.nR hE 0 [] [] (kp [6]) [] 32 pn ?_
 obtain rfl:=Option.some.inj h
 exact Runs.nT hE 0 Try.f48 [] (kp [6]) [] 48 pn [] pn
theorem g_water_bounds_kept_J3_ok (N:Nat) (b:Twater_bounds) (p:TPontoon) (rsumOf:Twater_sums):g_water_bounds_kept_J3_H N b p rsumOf (g_water_bounds_kept_J3 N b p rsumOf):=by
 intro out3 r h E hE
 unfold g_water_bounds_kept_J3 at h
 obtain ⟨rbetween4,hr5,h⟩:=bindSome h
 refine Runs.nR hE 0 [(14,⟨[],true,(aB rbetween4),[],0,false,none⟩)] [] (kp [8,55]) [] 243 (pc o1 (pc o1 (pc o1 (pc o1 (pc o1 (pc (g_water_between_ok N (w64 ((w64 (4 * rsumOf.f_arm)) - (w64 (rsumOf.f_mass * p.f_Length)))) (w64 (0 - b.f_hog)) b.f_hog rbetween4 hr5) pn)))))) ?_
 refine Runs.nC 0 55 h (fun hq5 h=>?_) (fun hq5 h=>?_)
 ·refine Runs.nR hE 0 [] [] (kp [8]) [] 291 pn ?_
  exact Runs.nW hE 1 [] (kp [8]) [] 0 pn (g_water_bounds_kept_J4_ok N _ _ h E hE)
 ·exact Runs.nW hE 2 [] (kp [8]) [] 0 pn (g_water_bounds_kept_J4_ok N _ _ h E hE)
theorem g_water_bounds_kept_J2_ok (N:Nat) (b:Twater_bounds) (p:TPontoon) (rsumOf:Twater_sums):g_water_bounds_kept_J2_H N b p rsumOf (g_water_bounds_kept_J2 N b p rsumOf):=by
 intro out2 r h E hE
 unfold g_water_bounds_kept_J2 at h
 obtain ⟨rbetween3,hr4,h⟩:=bindSome h
 refine Runs.nR hE 0 [(7,⟨[],true,(aB rbetween3),[],0,false,none⟩)] [] (kp [3,4,7,8,38]) (kq [0,1,2]) 131 (pc o1 (pc o1 (pc o1 (pc (g_water_between_ok N rsumOf.f_y (w64 (0 - b.f_y)) b.f_y rbetween3 hr4) pn)))) ?_
 refine Runs.nC 0 38 h (fun hq4 h=>?_) (fun hq4 h=>?_)
 ·refine Runs.nR hE 0 [] [] (kp [3,4,7,8]) (kq [0,1,2]) 179 pn ?_
  exact Runs.nW hE 2 [] (kp [3,4,7,8]) (kq [0,1,2]) 3 pn (g_water_bounds_kept_J3_ok N _ _ _ _ _ h E hE)
 ·exact Runs.nW hE 3 [] (kp [3,4,7,8]) (kq [0,1,2]) 3 pn (g_water_bounds_kept_J3_ok N _ _ _ _ _ h E hE)
theorem g_water_bounds_kept_J1_ok (N:Nat) (b:Twater_bounds) (p:TPontoon) (rsumOf:Twater_sums):g_water_bounds_kept_J1_H N b p rsumOf (g_water_bounds_kept_J1 N b p rsumOf):=by
 intro out r h E hE
 unfold g_water_bounds_kept_J1 at h
 obtain ⟨rbetween2,hr3,h⟩:=bindSome h
 refine Runs.nR hE 0 [(7,⟨[],true,(aB rbetween2),[],0,false,none⟩)] [] (kp [3,4,7,8,28]) (kq [0,1,2]) 131 (pc o1 (pc o1 (pc o1 (pc (g_water_between_ok N rsumOf.f_x (w64 (0 - b.f_x)) b.f_x rbetween2 hr3) pn)))) ?_
 refine Runs.nC 0 28 h (fun hq3 h=>?_) (fun hq3 h=>?_)
 ·refine Runs.nR hE 0 [] [] (kp [3,4,7,8]) (kq [0,1,2]) 179 pn ?_
  exact Runs.nW hE 2 [] (kp [3,4,7,8]) (kq [0,1,2]) 3 pn (g_water_bounds_kept_J2_ok N _ _ _ _ _ h E hE)
 ·exact Runs.nW hE 3 [] (kp [3,4,7,8]) (kq [0,1,2]) 3 pn (g_water_bounds_kept_J2_ok N _ _ _ _ _ h E hE)
theorem g_water_bounds_kept_ok (N:Nat) (b:Twater_bounds) (p:TPontoon) (s:Twater_state) (r:Int) (h:g_water_bounds_kept N b p s=some r):Sound Try.prog 48 [(.agg (Twater_bounds.cells b)),(.agg (TPontoon.cells p)),(.agg (Twater_state.cells s))] [] 0 (aI r) []:=by
 unfold g_water_bounds_kept at h
 refine Sound.of_runs (fu:=Try.f48) (c:=C_72 1) (nt:=59) (by kernel_rfl) (by kernel_rfl) (by kernel_rfl) (by kernel_rfl) (fun hm=>rfl) ?_
 intro E hE
 refine Runs.nR hE 1 [] [] (kp [3,4,5]) (kq [0,16,32]) 64 pn ?_
 obtain ⟨rsumOf,hr,h⟩:=bindSome h
 refine Runs.nR hE 1 [(2,⟨[],true,(.agg (Twater_sums.cells rsumOf)),[],0,false,none⟩)] [] (kp [3,4,7]) (kq [0,16,112]) 144 (pc o1 (pc o1 (pc (g_water_sumOf_ok N p s rsumOf hr) (pc o1 pn)))) ?_
 refine Runs.nR hE 1 [] [] (kp [3,4,7,8]) (kq [0,16,112]) 160 pn ?_
 obtain ⟨rbetween,hr2,h⟩:=bindSome h
 refine Runs.nR hE 2 [(6,⟨[],true,(aB rbetween),[],0,false,none⟩)] [] (kp [3,4,7,8,18]) (kq [0,16,112]) 272 (pc o1 (pc o1 (pc o1 (pc (g_water_between_ok N rsumOf.f_mass b.f_low b.f_high rbetween hr2) pn)))) ?_
 refine Runs.nC 0 18 h (fun hq2 h=>?_) (fun hq2 h=>?_)
 ·refine Runs.nR hE 0 [] [] (kp [3,4,7,8]) (kq [0,16,112]) 320 pn ?_
  exact Runs.nW hE 2 [] (kp [3,4,7,8]) (kq [0] ++ [(1,.keep 16),(2,.keep 112)]) 3 pn (g_water_bounds_kept_J1_ok N _ _ _ _ _ h E hE)
 ·exact Runs.nW hE 3 [] (kp [3,4,7,8]) (kq [0] ++ [(1,.keep 16),(2,.keep 112)]) 3 pn (g_water_bounds_kept_J1_ok N _ _ _ _ _ h E hE)
noncomputable def C_71 (n:Nat):Code:=cat (bodyOf Try.f25) (pth n)
theorem g_water_plan_keeps_ok (N:Nat) (t:Twater_plan) (s:Twater_state) (r:Bool) (h:g_water_plan_keeps N t s=some r):Sound Try.prog 25 [(.agg (Twater_plan.cells t)),(.agg (Twater_state.cells s))] [] 0 (aB r) []:=by
 unfold g_water_plan_keeps at h
 refine Sound.of_runs (fu:=Try.f25) (c:=C_71 1) (nt:=12) (by kernel_rfl) (by kernel_rfl) (by kernel_rfl) (by kernel_rfl) (fun hm=>rfl) ?_
 intro E hE
 refine Runs.nR hE 1 [] [] (kp [2,3]) (kq [0,16]) 48 pn ?_
 obtain ⟨rkept,hr,h⟩:=bindSome h
 refine Runs.nR hE 1 [(5,⟨[],true,(aI rkept),[],0,false,none⟩)] [] (kp [4]) [] 176 (pc o1 (pc o1 (pc o1 (pc (g_water_bounds_kept_ok N t.f_b t.f_p s rkept hr) pn)))) ?_
 obtain rfl:=Option.some.inj h
 exact Runs.nT hE 0 Try.f25 [] (kp [4]) [] 176 pn [] pn
noncomputable def C_73 (n:Nat):Code:=cat (bodyOf Try.f26) (pth n)
theorem g_water_plan_done_ok (N:Nat) (t:Twater_plan) (s:Twater_state) (r:Bool) (h:g_water_plan_done N t s=some r):Sound Try.prog 26 [(.agg (Twater_plan.cells t)),(.agg (Twater_state.cells s))] [] 0 (aB r) []:=by
 unfold g_water_plan_done at h
 refine Sound.of_runs (fu:=Try.f26) (c:=C_73 1) (nt:=15) (by kernel_rfl) (by kernel_rfl) (by kernel_rfl) (by kernel_rfl) (fun hm=>rfl) ?_
 intro E hE
 refine Runs.nR hE 1 [] [] (kp [2,3]) (kq [0,16]) 48 pn ?_
 obtain ⟨rsumOf,hr,h⟩:=bindSome h
 obtain ⟨rbetween,hr2,h⟩:=bindSome h
 refine Runs.nR hE 1 [(3,⟨[],true,(.agg (Twater_sums.cells rsumOf)),[],0,false,none⟩),(9,⟨[],true,(aB rbetween),[],0,false,none⟩)] [] (kp [4]) [] 224 (pc o1 (pc o1 (pc (g_water_sumOf_ok N t.f_p s rsumOf hr) (pc o1 (pc o1 (pc (g_water_between_ok N rsumOf.f_mass t.f_low t.f_high rbetween hr2) pn)))))) ?_
 obtain rfl:=Option.some.inj h
 exact Runs.nT hE 0 Try.f26 [] (kp [4]) [] 224 pn [] pn
noncomputable def C_75 (n:Nat):Code:=cat (bodyOf Try.f49) (pth n)
def g_slices_Reverse_api_Move_api_Move_L1_H (N:Nat) (K:(List TMove)→Int→Int→Option ((List TMove))):Prop:=∀ (cap02:List TMove) (i:Int) (j:Int) (r:(List TMove)),K cap02 i j=some r→∀ E,EnvOk E 1→Runs Try.prog E 49 28 (SPost E [(0,aO 2 TMove.cells TMove.d r)] (.tup [])) [.code (C_75 12),.inLoop (C_75 12),.inBlock 0] ⟨[(0,(.os 0 0 cap02.length)),(2,(aI i)),(3,(aI j))],[(0,aO 2 TMove.cells TMove.d cap02)],1⟩
theorem g_slices_Reverse_api_Move_api_Move_L1_ok (N:Nat) (fuel:Nat):g_slices_Reverse_api_Move_api_Move_L1_H N (g_slices_Reverse_api_Move_api_Move_L1 N fuel):=by
 induction fuel with
 | zero=>intro _ _ _ r h;rw [g_slices_Reverse_api_Move_api_Move_L1.eq_1] at h;cases h
 | succ fuel ih =>
  intro cap02 i j r h E hE
  rw [g_slices_Reverse_api_Move_api_Move_L1.eq_2] at h
  refine Runs.nR hE 2 [] [] (kp [0,2,3,9]) (kq [0]) 49 pn ?_
  refine Runs.nC 0 9 h (fun hq2 h=>?_) (fun hq2 h=>?_)
  ·obtain ⟨c,h⟩:=ifSome h
   obtain ⟨c2,h⟩:=ifSome h
   refine Runs.nR hE 3 [] [] ([(0,.osl (((cap02.set ((i).toNat) (cap02.getD ((j).toNat) TMove.d)).set ((j).toNat) (cap02.getD ((i).toNat) TMove.d)).length))] ++ kp [2,3]) [(0,.arr 0 (((cap02.set ((i).toNat) (cap02.getD ((j).toNat) TMove.d)).set ((j).toNat) (cap02.getD ((i).toNat) TMove.d)).length) (fun zi=>TMove.cells (((cap02.set ((i).toNat) (cap02.getD ((j).toNat) TMove.d)).set ((j).toNat) (cap02.getD ((i).toNat) TMove.d)).getD zi TMove.d)))] 305 (pc c (pc (ltOf c) (pc c2 (pc (ltOf c2) (pc c2 (pc (ltOf c2) (pc c (pc (ltOf c) (pc (show cap02.length=((cap02.set ((i).toNat) (cap02.getD ((j).toNat) TMove.d)).set ((j).toNat) (cap02.getD ((i).toNat) TMove.d)).length from (len_set_raw (len_set_raw rfl))) (pc (show cap02.length=((cap02.set ((i).toNat) (cap02.getD ((j).toNat) TMove.d)).set ((j).toNat) (cap02.getD ((i).toNat) TMove.d)).length from (len_set_raw (len_set_raw rfl))) (pc (show ∀ zi,zi < ((cap02.set ((i).toNat) (cap02.getD ((j).toNat) TMove.d)).set ((j).toNat) (cap02.getD ((i).toNat) TMove.d)).length→(fun zi=>TMove.cells (((cap02.set ((i).toNat) (cap02.getD ((j).toNat) TMove.d)).set ((j).toNat) (cap02.getD ((i).toNat) TMove.d)).getD zi TMove.d)) zi=((fun zm=>if zm=(j).toNat then [(aI ((cap02.getD ((i).toNat) TMove.d).f_Tank)),(aB ((cap02.getD ((i).toNat) TMove.d).f_Up))] else ((fun zm=>if zm=(i).toNat then [(aI ((cap02.getD ((j).toNat) TMove.d).f_Tank)),(aB ((cap02.getD ((j).toNat) TMove.d).f_Up))] else (fun zi=>TMove.cells (cap02.getD zi TMove.d)) zm)) zm)) zi from (get_set_raw TMove.cells TMove.d (cap02.set ((i).toNat) (cap02.getD ((j).toNat) TMove.d)) ((j).toNat) (cap02.getD ((i).toNat) TMove.d) (get_set_raw TMove.cells TMove.d cap02 ((i).toNat) (cap02.getD ((j).toNat) TMove.d) (fun _ _=>rfl)))) pn))))))))))) ?_
   refine Runs.nR hE 1 [] [] (kp [0,2,3]) (kq [0]) 401 pn ?_
   exact Runs.nW hE 1 [] (kp [0,2,3]) (kq [0]) 1 pn (ih _ _ _ _ h E hE)
  ·obtain rfl:=Option.some.inj h
   exact Runs.nF hE 1 Try.f49 [] [] (kq [0]) 49 pn [] pn
theorem g_slices_Reverse_api_Move_api_Move_ok (N:Nat) (cap0:List TMove) (r:(List TMove)) (h:g_slices_Reverse_api_Move_api_Move N cap0=some r):Sound Try.prog 49 [(.os 0 0 cap0.length)] [(0,aO 2 TMove.cells TMove.d cap0)] 1 (.tup []) [(0,aO 2 TMove.cells TMove.d r)]:=by
 unfold g_slices_Reverse_api_Move_api_Move at h
 refine Sound.of_runs (fu:=Try.f49) (c:=C_75 1) (nt:=28) (by kernel_rfl) (by kernel_rfl) (by kernel_rfl) (by kernel_rfl) (fun hm=>absurd hm (by decide)) ?_
 intro E hE
 refine Runs.nR hE 1 [] [] (kp [0,2,3]) (kq [0]) 81 pn ?_
 exact Runs.nW hE 2 [] (kp [0,2,3]) (kq [0]) 1 pn (g_slices_Reverse_api_Move_api_Move_L1_ok N N _ _ _ _ h E hE)
end Go.Den
