/- Each function of the program does what its Lean function computes (part 1). No conditions. -/
import Derived.Test.YtkkolmlgedjmnaaGreatWaterConflictsDen
import Derived.Test.YtkkolmlgedjmnaaGreatProg
set_option linter.unusedVariables false
set_option maxRecDepth 100000
namespace Go.Den
open Go.Ab Go.Proofs Go.Ab.Runs
abbrev Sd:=Sound Tryz.prog
abbrev eU (a:List Int):AV:=encL (cU .u16) 0 a
abbrev aU (a:List Int):Ob:=aO 1 (cU .u16) 0 a
abbrev a64 (x:Int):AV:=.atom (.int .u64 x)
abbrev a32 (x:Int):AV:=.atom (.int .u32 x)
abbrev a16 (x:Int):AV:=.atom (.int .u16 x)
noncomputable def C_4 (n:Nat):Code:=cat (bodyOf Tryz.f52) (pth n)
theorem g_w_between_ok (N:Nat) (n:Int) (low:Int) (high:Int) (r:Bool) (h:g_w_between N n low high=some r):Sd 52 [(aI n),(aI low),(aI high)] [] 0 (aB r) []:=by
 unfold g_w_between at h
 refine Sound.of_runs (fu:=Tryz.f52) (c:=C_4 1) (nt:=15) (by kernel_rfl) (by kernel_rfl) (by kernel_rfl) (by kernel_rfl) (fun hm=>rfl) ?_
 intro E hE
 refine sA 1 [.code (C_4 2),.code (C_4 3)] ?_
 refine sR hE ⟨[(0,(aI n)),(1,(aI low)),(2,(aI high))],[],16⟩ (C_4 2) [] [] (kp [0,1,2]) [] 16 [] trivial ?_
 refine sA 1 [.code (C_4 6),.code (C_4 7)] ?_
 refine sR hE ⟨[(6,(aB (cond (decide (n≥low)) (decide (n≤high)) false)))],[],160⟩ (C_4 6) [] [] (kp [6]) [] 160 [(decide (n≥low))=true→AllP [(decide (n≥low))=true,(decide (n≥low))=true],(decide (n≥low))=true→AllP [(decide (n≥low))=true]] ⟨(fun hg=>⟨hg,hg,trivial⟩),(fun hq=>⟨hq,trivial⟩),trivial⟩ ?_
 obtain rfl:=Option.some.inj h
 refine sW hE ⟨[(6,(aB (cond (decide (n≥low)) (decide (n≤high)) false)))],[],160⟩ [] (kp [6]) [] 160 [] trivial ?_
 exact sT Tryz.f52 [] [] trivial
noncomputable def C_5 (n:Nat):Code:=cat (bodyOf Tryz.f51) (pth n)
theorem g_w_CheckPontoon_1_ok (N:Nat) (x:Int) (y:Int) (r:Bool) (h:g_w_CheckPontoon_1 N x y=some r):Sd 51 [(aI x),(aI y)] [] 0 (aB r) []:=by
 unfold g_w_CheckPontoon_1 at h
 refine Sound.of_runs (fu:=Tryz.f51) (c:=C_5 1) (nt:=11) (by kernel_rfl) (by kernel_rfl) (by kernel_rfl) (by kernel_rfl) (fun hm=>rfl) ?_
 intro E hE
 refine sA 1 [.code (C_5 2),.code (C_5 3)] ?_
 refine sR hE ⟨[(0,(aI x)),(1,(aI y))],[],16⟩ (C_5 2) [] [] (kp [0,1]) [] 16 [] trivial ?_
 refine sA 1 [.code (C_5 6),.code (C_5 7)] ?_
 obtain ⟨rBt,hr,h⟩:=bindSome h
 obtain ⟨rBt2,hr2,h⟩:=bindSome h
 refine sR hE ⟨[(4,(aB (cond rBt rBt2 false)))],[],128⟩ (C_5 6) [(1,⟨[],true,(aB rBt),[],0,false,none⟩),(4,⟨[],true,(aB rBt2),[],0,false,none⟩)] [] (kp [4]) [] 128 [Sd 52 [(aI x),(aI (-1000000)),(aI 1000000)] [] 0 (aB rBt) [],rBt=true→AllP [Sd 52 [(aI y),(aI (-1000000)),(aI 1000000)] [] 0 (aB rBt2) [],rBt=true],rBt=true→AllP [rBt=true]] ⟨(g_w_between_ok N x (-1000000) 1000000 rBt hr),(fun hg=>⟨(g_w_between_ok N y (-1000000) 1000000 rBt2 (condT hr2 hg)),hg,trivial⟩),(fun hq=>⟨hq,trivial⟩),trivial⟩ ?_
 obtain rfl:=Option.some.inj h
 refine sW hE ⟨[(4,(aB (cond rBt rBt2 false)))],[],128⟩ [] (kp [4]) [] 128 [] trivial ?_
 exact sT Tryz.f51 [] [] trivial
noncomputable def C_7 (n:Nat):Code:=cat (bodyOf Tryz.f54) (pth n)
theorem g_w_CheckPontoon_2_ok (N:Nat) (i:Int) (cap0:TPn) (r:ByteArray) (h:g_w_CheckPontoon_2 N i cap0=some r):Sd 54 [(aI i),(.op 0 0 0)] [(0,vO 5 (TPn.cells cap0))] 1 (aS r) [(0,vO 5 (TPn.cells cap0))]:=by
 unfold g_w_CheckPontoon_2 at h
 refine Sound.of_runs (fu:=Tryz.f54) (c:=C_7 1) (nt:=10) (by kernel_rfl) (by kernel_rfl) (by kernel_rfl) (by kernel_rfl) (fun hm=>absurd hm (by decide)) ?_
 intro E hE
 refine sA 1 [.code (C_7 2),.code (C_7 3)] ?_
 refine sR hE ⟨[(0,(aI i)),(1,(.op 0 0 0))],[(0,vO 5 (TPn.cells cap0))],17⟩ (C_7 2) [] [] (kp [0,1]) (kq [0]) 17 [] trivial ?_
 refine sA 1 [.code (C_7 6),.code (C_7 7)] ?_
 obtain ⟨c,h⟩:=ifSome h
 refine sR hE ⟨[(3,(aS ((cap0.fTk.getD ((i).toNat) TTank.d).f_Name)))],[(0,vO 5 (TPn.cells cap0))],129⟩ (C_7 6) [] [] (kp [3]) (kq [0]) 129 [0 < 1,0≤i∧i < ((cap0.fTk.length:Nat):Int)] ⟨o1,c,trivial⟩ ?_
 obtain rfl:=Option.some.inj h
 refine sW hE ⟨[(3,(aS ((cap0.fTk.getD ((i).toNat) TTank.d).f_Name)))],[(0,vO 5 (TPn.cells cap0))],129⟩ [] (kp [3]) (kq [0]) 129 [] trivial ?_
 exact sT Tryz.f54 [] [] trivial
noncomputable def C_8 (n:Nat):Code:=cat (bodyOf Tryz.f73) (pth n)
theorem g_w_isName_L1_ok (N:Nat) (s:ByteArray) (fuel:Nat):∀ (x:Int) (r:Bool),g_w_isName_L1 N s fuel x=some r→∀ E,EnvOk E 0→Runs Tryz.prog E 73 51 (SPost E [] (aB r)) [.code (C_8 116),.inLoop (C_8 116),.inBlock 0,.code (C_8 15)] ⟨[(11,(encL (cU .u8) 0 (bytesL s))),(12,(aI ((s.size:Nat):Int))),(13,(aI x))],[],0⟩:=by
 induction fuel with
 | zero=>intro _ r h;rw [g_w_isName_L1.eq_1] at h;cases h
 | succ fuel ih =>
  intro x r h E hE
  rw [g_w_isName_L1.eq_2] at h
  refine sA 1 [.code (C_8 232),.code (C_8 233),.inLoop (C_8 116),.inBlock 0,.code (C_8 15)] ?_
  refine sR hE ⟨[(11,(encL (cU .u8) 0 (bytesL s))),(12,(aI ((s.size:Nat):Int))),(13,(aI x)),(14,(aB (decide (x < ((s.size:Nat):Int)))))],[],16⟩ (C_8 232) [] [] (kp [11,12,13,14]) [] 16 [] trivial ?_
  refine sA 1 [.code (C_8 466),.code (C_8 467),.inLoop (C_8 116),.inBlock 0,.code (C_8 15)] ?_
  refine sC 14 (C_8 932) (C_8 933) (decide (x < ((s.size:Nat):Int))) (fun hq3=>?_) (fun hq3=>?_)
  ·have h:=condT h hq3
   refine sA 4 [.code (C_8 3736),.code (C_8 3737),.inBlock 1,.code (C_8 935),.inLoop (C_8 116),.inBlock 0,.code (C_8 15)] ?_
   obtain ⟨c,h⟩:=ifSome h
   refine sR hE ⟨[(3,(aI x)),(4,(.atom (.int .u8 (zB s x)))),(11,(encL (cU .u8) 0 (bytesL s))),(12,(aI ((s.size:Nat):Int))),(13,(aI x))],[],96⟩ (C_8 3736) [] [] (kp [3,4,11,12,13]) [] 96 [0≤x∧x < (((bytesL s).length:Nat):Int)] ⟨c,trivial⟩ ?_
   refine sA 1 [.code (C_8 7474),.code (C_8 7475),.inBlock 1,.code (C_8 935),.inLoop (C_8 116),.inBlock 0,.code (C_8 15)] ?_
   refine sR hE ⟨[(3,(aI x)),(4,(.atom (.int .u8 (zB s x)))),(5,(aB (cond (cond (decide ((zB s x)≥97)) (decide ((zB s x)≤122)) false) true (cond (decide ((zB s x)≥65)) (decide ((zB s x)≤90)) false)))),(11,(encL (cU .u8) 0 (bytesL s))),(12,(aI ((s.size:Nat):Int))),(13,(aI x))],[],336⟩ (C_8 7474) [] [] (kp [3,4,5,11,12,13]) [] 336 [(decide ((zB s x)≥97))=true→AllP [(decide ((zB s x)≥97))=true],(decide ((zB s x)≥97))=true→AllP [(decide ((zB s x)≥97))=true],(!(cond (decide ((zB s x)≥97)) (decide ((zB s x)≤122)) false))=true→AllP [(!(cond (decide ((zB s x)≥97)) (decide ((zB s x)≤122)) false))=true],((!(cond (decide ((zB s x)≥97)) (decide ((zB s x)≤122)) false)) && ((!(cond (decide ((zB s x)≥97)) (decide ((zB s x)≤122)) false)) && (decide ((zB s x)≥65))))=true→AllP [((!(cond (decide ((zB s x)≥97)) (decide ((zB s x)≤122)) false)) && ((!(cond (decide ((zB s x)≥97)) (decide ((zB s x)≤122)) false)) && (decide ((zB s x)≥65))))=true],(!(cond (decide ((zB s x)≥97)) (decide ((zB s x)≤122)) false))=true→AllP [(!(cond (decide ((zB s x)≥97)) (decide ((zB s x)≤122)) false))=true,(!(cond (decide ((zB s x)≥97)) (decide ((zB s x)≤122)) false))=true,(decide ((zB s x)≥65))=true→AllP [((!(cond (decide ((zB s x)≥97)) (decide ((zB s x)≤122)) false)) && ((!(cond (decide ((zB s x)≥97)) (decide ((zB s x)≤122)) false)) && (decide ((zB s x)≥65))))=true]],(!(cond (decide ((zB s x)≥97)) (decide ((zB s x)≤122)) false))=true→AllP [(!(cond (decide ((zB s x)≥97)) (decide ((zB s x)≤122)) false))=true]] ⟨(fun hg=>⟨hg,trivial⟩),(fun hq=>⟨hq,trivial⟩),(fun hg=>⟨hg,trivial⟩),(fun hg=>⟨hg,trivial⟩),(fun hg=>⟨hg,hg,(fun hq=>⟨(andI' hg (andI' hg hq)),trivial⟩),trivial⟩),(fun hq=>⟨hq,trivial⟩),trivial⟩ ?_
   refine sA 1 [.code (C_8 14950),.code (C_8 14951),.inBlock 1,.code (C_8 935),.inLoop (C_8 116),.inBlock 0,.code (C_8 15)] ?_
   refine sR hE ⟨[(11,(encL (cU .u8) 0 (bytesL s))),(12,(aI ((s.size:Nat):Int))),(13,(aI x)),(49,(aB (cond (!(cond (cond (decide ((zB s x)≥97)) (decide ((zB s x)≤122)) false) true (cond (decide ((zB s x)≥65)) (decide ((zB s x)≤90)) false))) (cond (x == 0) true (cond ((zB s x) != 45) (cond (decide ((zB s x) < 48)) true (decide ((zB s x) > 57))) false)) false)))],[],624⟩ (C_8 14950) [] [] (kp [11,12,13,49]) [] 624 [(!(cond (cond (decide ((zB s x)≥97)) (decide ((zB s x)≤122)) false) true (cond (decide ((zB s x)≥65)) (decide ((zB s x)≤90)) false)))=true→AllP [(!(cond (cond (decide ((zB s x)≥97)) (decide ((zB s x)≤122)) false) true (cond (decide ((zB s x)≥65)) (decide ((zB s x)≤90)) false)))=true],((!(cond (cond (decide ((zB s x)≥97)) (decide ((zB s x)≤122)) false) true (cond (decide ((zB s x)≥65)) (decide ((zB s x)≤90)) false))) && ((!(cond (cond (decide ((zB s x)≥97)) (decide ((zB s x)≤122)) false) true (cond (decide ((zB s x)≥65)) (decide ((zB s x)≤90)) false))) && (!(x == 0))))=true→AllP [((!(cond (cond (decide ((zB s x)≥97)) (decide ((zB s x)≤122)) false) true (cond (decide ((zB s x)≥65)) (decide ((zB s x)≤90)) false))) && ((!(cond (cond (decide ((zB s x)≥97)) (decide ((zB s x)≤122)) false) true (cond (decide ((zB s x)≥65)) (decide ((zB s x)≤90)) false))) && (!(x == 0))))=true],(((!(cond (cond (decide ((zB s x)≥97)) (decide ((zB s x)≤122)) false) true (cond (decide ((zB s x)≥65)) (decide ((zB s x)≤90)) false))) && ((!(cond (cond (decide ((zB s x)≥97)) (decide ((zB s x)≤122)) false) true (cond (decide ((zB s x)≥65)) (decide ((zB s x)≤90)) false))) && (!(x == 0)))) && (((!(cond (cond (decide ((zB s x)≥97)) (decide ((zB s x)≤122)) false) true (cond (decide ((zB s x)≥65)) (decide ((zB s x)≤90)) false))) && ((!(cond (cond (decide ((zB s x)≥97)) (decide ((zB s x)≤122)) false) true (cond (decide ((zB s x)≥65)) (decide ((zB s x)≤90)) false))) && (!(x == 0)))) && ((zB s x) != 45)))=true→AllP [(((!(cond (cond (decide ((zB s x)≥97)) (decide ((zB s x)≤122)) false) true (cond (decide ((zB s x)≥65)) (decide ((zB s x)≤90)) false))) && ((!(cond (cond (decide ((zB s x)≥97)) (decide ((zB s x)≤122)) false) true (cond (decide ((zB s x)≥65)) (decide ((zB s x)≤90)) false))) && (!(x == 0)))) && (((!(cond (cond (decide ((zB s x)≥97)) (decide ((zB s x)≤122)) false) true (cond (decide ((zB s x)≥65)) (decide ((zB s x)≤90)) false))) && ((!(cond (cond (decide ((zB s x)≥97)) (decide ((zB s x)≤122)) false) true (cond (decide ((zB s x)≥65)) (decide ((zB s x)≤90)) false))) && (!(x == 0)))) && ((zB s x) != 45)))=true],((((!(cond (cond (decide ((zB s x)≥97)) (decide ((zB s x)≤122)) false) true (cond (decide ((zB s x)≥65)) (decide ((zB s x)≤90)) false))) && ((!(cond (cond (decide ((zB s x)≥97)) (decide ((zB s x)≤122)) false) true (cond (decide ((zB s x)≥65)) (decide ((zB s x)≤90)) false))) && (!(x == 0)))) && (((!(cond (cond (decide ((zB s x)≥97)) (decide ((zB s x)≤122)) false) true (cond (decide ((zB s x)≥65)) (decide ((zB s x)≤90)) false))) && ((!(cond (cond (decide ((zB s x)≥97)) (decide ((zB s x)≤122)) false) true (cond (decide ((zB s x)≥65)) (decide ((zB s x)≤90)) false))) && (!(x == 0)))) && ((zB s x) != 45))) && ((((!(cond (cond (decide ((zB s x)≥97)) (decide ((zB s x)≤122)) false) true (cond (decide ((zB s x)≥65)) (decide ((zB s x)≤90)) false))) && ((!(cond (cond (decide ((zB s x)≥97)) (decide ((zB s x)≤122)) false) true (cond (decide ((zB s x)≥65)) (decide ((zB s x)≤90)) false))) && (!(x == 0)))) && (((!(cond (cond (decide ((zB s x)≥97)) (decide ((zB s x)≤122)) false) true (cond (decide ((zB s x)≥65)) (decide ((zB s x)≤90)) false))) && ((!(cond (cond (decide ((zB s x)≥97)) (decide ((zB s x)≤122)) false) true (cond (decide ((zB s x)≥65)) (decide ((zB s x)≤90)) false))) && (!(x == 0)))) && ((zB s x) != 45))) && (!(decide ((zB s x) < 48)))))=true→AllP [((((!(cond (cond (decide ((zB s x)≥97)) (decide ((zB s x)≤122)) false) true (cond (decide ((zB s x)≥65)) (decide ((zB s x)≤90)) false))) && ((!(cond (cond (decide ((zB s x)≥97)) (decide ((zB s x)≤122)) false) true (cond (decide ((zB s x)≥65)) (decide ((zB s x)≤90)) false))) && (!(x == 0)))) && (((!(cond (cond (decide ((zB s x)≥97)) (decide ((zB s x)≤122)) false) true (cond (decide ((zB s x)≥65)) (decide ((zB s x)≤90)) false))) && ((!(cond (cond (decide ((zB s x)≥97)) (decide ((zB s x)≤122)) false) true (cond (decide ((zB s x)≥65)) (decide ((zB s x)≤90)) false))) && (!(x == 0)))) && ((zB s x) != 45))) && ((((!(cond (cond (decide ((zB s x)≥97)) (decide ((zB s x)≤122)) false) true (cond (decide ((zB s x)≥65)) (decide ((zB s x)≤90)) false))) && ((!(cond (cond (decide ((zB s x)≥97)) (decide ((zB s x)≤122)) false) true (cond (decide ((zB s x)≥65)) (decide ((zB s x)≤90)) false))) && (!(x == 0)))) && (((!(cond (cond (decide ((zB s x)≥97)) (decide ((zB s x)≤122)) false) true (cond (decide ((zB s x)≥65)) (decide ((zB s x)≤90)) false))) && ((!(cond (cond (decide ((zB s x)≥97)) (decide ((zB s x)≤122)) false) true (cond (decide ((zB s x)≥65)) (decide ((zB s x)≤90)) false))) && (!(x == 0)))) && ((zB s x) != 45))) && (!(decide ((zB s x) < 48)))))=true],(((!(cond (cond (decide ((zB s x)≥97)) (decide ((zB s x)≤122)) false) true (cond (decide ((zB s x)≥65)) (decide ((zB s x)≤90)) false))) && ((!(cond (cond (decide ((zB s x)≥97)) (decide ((zB s x)≤122)) false) true (cond (decide ((zB s x)≥65)) (decide ((zB s x)≤90)) false))) && (!(x == 0)))) && (((!(cond (cond (decide ((zB s x)≥97)) (decide ((zB s x)≤122)) false) true (cond (decide ((zB s x)≥65)) (decide ((zB s x)≤90)) false))) && ((!(cond (cond (decide ((zB s x)≥97)) (decide ((zB s x)≤122)) false) true (cond (decide ((zB s x)≥65)) (decide ((zB s x)≤90)) false))) && (!(x == 0)))) && ((zB s x) != 45)))=true→AllP [(((!(cond (cond (decide ((zB s x)≥97)) (decide ((zB s x)≤122)) false) true (cond (decide ((zB s x)≥65)) (decide ((zB s x)≤90)) false))) && ((!(cond (cond (decide ((zB s x)≥97)) (decide ((zB s x)≤122)) false) true (cond (decide ((zB s x)≥65)) (decide ((zB s x)≤90)) false))) && (!(x == 0)))) && (((!(cond (cond (decide ((zB s x)≥97)) (decide ((zB s x)≤122)) false) true (cond (decide ((zB s x)≥65)) (decide ((zB s x)≤90)) false))) && ((!(cond (cond (decide ((zB s x)≥97)) (decide ((zB s x)≤122)) false) true (cond (decide ((zB s x)≥65)) (decide ((zB s x)≤90)) false))) && (!(x == 0)))) && ((zB s x) != 45)))=true,(((!(cond (cond (decide ((zB s x)≥97)) (decide ((zB s x)≤122)) false) true (cond (decide ((zB s x)≥65)) (decide ((zB s x)≤90)) false))) && ((!(cond (cond (decide ((zB s x)≥97)) (decide ((zB s x)≤122)) false) true (cond (decide ((zB s x)≥65)) (decide ((zB s x)≤90)) false))) && (!(x == 0)))) && (((!(cond (cond (decide ((zB s x)≥97)) (decide ((zB s x)≤122)) false) true (cond (decide ((zB s x)≥65)) (decide ((zB s x)≤90)) false))) && ((!(cond (cond (decide ((zB s x)≥97)) (decide ((zB s x)≤122)) false) true (cond (decide ((zB s x)≥65)) (decide ((zB s x)≤90)) false))) && (!(x == 0)))) && ((zB s x) != 45)))=true,(!(decide ((zB s x) < 48)))=true→AllP [((((!(cond (cond (decide ((zB s x)≥97)) (decide ((zB s x)≤122)) false) true (cond (decide ((zB s x)≥65)) (decide ((zB s x)≤90)) false))) && ((!(cond (cond (decide ((zB s x)≥97)) (decide ((zB s x)≤122)) false) true (cond (decide ((zB s x)≥65)) (decide ((zB s x)≤90)) false))) && (!(x == 0)))) && (((!(cond (cond (decide ((zB s x)≥97)) (decide ((zB s x)≤122)) false) true (cond (decide ((zB s x)≥65)) (decide ((zB s x)≤90)) false))) && ((!(cond (cond (decide ((zB s x)≥97)) (decide ((zB s x)≤122)) false) true (cond (decide ((zB s x)≥65)) (decide ((zB s x)≤90)) false))) && (!(x == 0)))) && ((zB s x) != 45))) && ((((!(cond (cond (decide ((zB s x)≥97)) (decide ((zB s x)≤122)) false) true (cond (decide ((zB s x)≥65)) (decide ((zB s x)≤90)) false))) && ((!(cond (cond (decide ((zB s x)≥97)) (decide ((zB s x)≤122)) false) true (cond (decide ((zB s x)≥65)) (decide ((zB s x)≤90)) false))) && (!(x == 0)))) && (((!(cond (cond (decide ((zB s x)≥97)) (decide ((zB s x)≤122)) false) true (cond (decide ((zB s x)≥65)) (decide ((zB s x)≤90)) false))) && ((!(cond (cond (decide ((zB s x)≥97)) (decide ((zB s x)≤122)) false) true (cond (decide ((zB s x)≥65)) (decide ((zB s x)≤90)) false))) && (!(x == 0)))) && ((zB s x) != 45))) && (!(decide ((zB s x) < 48)))))=true]],((!(cond (cond (decide ((zB s x)≥97)) (decide ((zB s x)≤122)) false) true (cond (decide ((zB s x)≥65)) (decide ((zB s x)≤90)) false))) && ((!(cond (cond (decide ((zB s x)≥97)) (decide ((zB s x)≤122)) false) true (cond (decide ((zB s x)≥65)) (decide ((zB s x)≤90)) false))) && (!(x == 0))))=true→AllP [((!(cond (cond (decide ((zB s x)≥97)) (decide ((zB s x)≤122)) false) true (cond (decide ((zB s x)≥65)) (decide ((zB s x)≤90)) false))) && ((!(cond (cond (decide ((zB s x)≥97)) (decide ((zB s x)≤122)) false) true (cond (decide ((zB s x)≥65)) (decide ((zB s x)≤90)) false))) && (!(x == 0))))=true,((!(cond (cond (decide ((zB s x)≥97)) (decide ((zB s x)≤122)) false) true (cond (decide ((zB s x)≥65)) (decide ((zB s x)≤90)) false))) && ((!(cond (cond (decide ((zB s x)≥97)) (decide ((zB s x)≤122)) false) true (cond (decide ((zB s x)≥65)) (decide ((zB s x)≤90)) false))) && (!(x == 0))))=true,((zB s x) != 45)=true→AllP [(((!(cond (cond (decide ((zB s x)≥97)) (decide ((zB s x)≤122)) false) true (cond (decide ((zB s x)≥65)) (decide ((zB s x)≤90)) false))) && ((!(cond (cond (decide ((zB s x)≥97)) (decide ((zB s x)≤122)) false) true (cond (decide ((zB s x)≥65)) (decide ((zB s x)≤90)) false))) && (!(x == 0)))) && (((!(cond (cond (decide ((zB s x)≥97)) (decide ((zB s x)≤122)) false) true (cond (decide ((zB s x)≥65)) (decide ((zB s x)≤90)) false))) && ((!(cond (cond (decide ((zB s x)≥97)) (decide ((zB s x)≤122)) false) true (cond (decide ((zB s x)≥65)) (decide ((zB s x)≤90)) false))) && (!(x == 0)))) && ((zB s x) != 45)))=true]],(!(cond (cond (decide ((zB s x)≥97)) (decide ((zB s x)≤122)) false) true (cond (decide ((zB s x)≥65)) (decide ((zB s x)≤90)) false)))=true→AllP [(!(cond (cond (decide ((zB s x)≥97)) (decide ((zB s x)≤122)) false) true (cond (decide ((zB s x)≥65)) (decide ((zB s x)≤90)) false)))=true,(!(cond (cond (decide ((zB s x)≥97)) (decide ((zB s x)≤122)) false) true (cond (decide ((zB s x)≥65)) (decide ((zB s x)≤90)) false)))=true,(!(x == 0))=true→AllP [((!(cond (cond (decide ((zB s x)≥97)) (decide ((zB s x)≤122)) false) true (cond (decide ((zB s x)≥65)) (decide ((zB s x)≤90)) false))) && ((!(cond (cond (decide ((zB s x)≥97)) (decide ((zB s x)≤122)) false) true (cond (decide ((zB s x)≥65)) (decide ((zB s x)≤90)) false))) && (!(x == 0))))=true]],(!(cond (cond (decide ((zB s x)≥97)) (decide ((zB s x)≤122)) false) true (cond (decide ((zB s x)≥65)) (decide ((zB s x)≤90)) false)))=true→AllP [(!(cond (cond (decide ((zB s x)≥97)) (decide ((zB s x)≤122)) false) true (cond (decide ((zB s x)≥65)) (decide ((zB s x)≤90)) false)))=true]] ⟨(fun hg=>⟨hg,trivial⟩),(fun hg=>⟨hg,trivial⟩),(fun hg=>⟨hg,trivial⟩),(fun hg=>⟨hg,trivial⟩),(fun hg=>⟨hg,hg,(fun hq=>⟨(andI' hg (andI' hg hq)),trivial⟩),trivial⟩),(fun hg=>⟨hg,hg,(fun hq=>⟨(andI' hg (andI' hg hq)),trivial⟩),trivial⟩),(fun hg=>⟨hg,hg,(fun hq=>⟨(andI' hg (andI' hg hq)),trivial⟩),trivial⟩),(fun hq=>⟨hq,trivial⟩),trivial⟩ ?_
   refine sC 49 (C_8 29902) (C_8 29903) (cond (!(cond (cond (decide ((zB s x)≥97)) (decide ((zB s x)≤122)) false) true (cond (decide ((zB s x)≥65)) (decide ((zB s x)≤90)) false))) (cond (x == 0) true (cond ((zB s x) != 45) (cond (decide ((zB s x) < 48)) true (decide ((zB s x) > 57))) false)) false) (fun hq4=>?_) (fun hq4=>?_)
   ·have h:=condT h hq4
    refine sA 1 [.code (C_8 59804),.code (C_8 59805),.inBlock 1,.code (C_8 935),.inLoop (C_8 116),.inBlock 0,.code (C_8 15)] ?_
    refine sR hE ⟨[(2,(aB false))],[],640⟩ (C_8 59804) [] [] (kp [2]) [] 640 [] trivial ?_
    obtain rfl:=Option.some.inj h
    refine sW hE ⟨[(2,(aB false))],[],640⟩ [] (kp [2]) [] 640 [] trivial ?_
    exact sT Tryz.f73 [] [] trivial
   ·have h:=condF h hq4
    refine sA 2 [.code (C_8 935),.inLoop (C_8 116),.inBlock 0,.code (C_8 15)] ?_
    refine sR hE ⟨[(11,(encL (cU .u8) 0 (bytesL s))),(12,(aI ((s.size:Nat):Int))),(13,(aI (w64 (x+1))))],[],656⟩ (C_8 935) [] [] (kp [11,12,13]) [] 656 [] trivial ?_
    refine sA 1 [.code (C_8 116),.inLoop (C_8 116),.inBlock 0,.code (C_8 15)] ?_
    exact sW hE _ [] (kp [11,12,13]) [] 0 [] trivial (ih (w64 (x+1)) _ h E hE)
  ·have h:=condF h hq3
   refine sA 2 [.code (C_8 30),.code (C_8 31)] ?_
   refine sR hE ⟨[(2,(aB true))],[],32⟩ (C_8 30) [] [] (kp [2]) [] 32 [] trivial ?_
   obtain rfl:=Option.some.inj h
   refine sW hE ⟨[(2,(aB true))],[],48⟩ [] (kp [2]) [] 48 [] trivial ?_
   exact sT Tryz.f73 [] [] trivial
theorem g_w_isName_ok (N:Nat) (s:ByteArray) (r:Bool) (h:g_w_isName N s=some r):Sd 73 [(aS s)] [] 0 (aB r) []:=by
 unfold g_w_isName at h
 refine Sound.of_runs (fu:=Tryz.f73) (c:=C_8 1) (nt:=51) (by kernel_rfl) (by kernel_rfl) (by kernel_rfl) (by kernel_rfl) (fun hm=>rfl) ?_
 intro E hE
 refine sA 1 [.code (C_8 2),.code (C_8 3)] ?_
 refine sR hE ⟨[(0,(aS s))],[],16⟩ (C_8 2) [] [] (kp [0]) [] 16 [] trivial ?_
 refine sA 2 [.code (C_8 12),.code (C_8 13),.code (C_8 7)] ?_
 obtain ⟨rBt,hr,h⟩:=bindSome h
 refine sR hE ⟨[(0,(aS s)),(9,(aB (!rBt)))],[],80⟩ (C_8 12) [(2,⟨[],true,(aB rBt),[],0,false,none⟩)] [] (kp [0,9]) [] 80 [Sd 52 [(aI ((s.size:Nat):Int)),(aI 1),(aI 12)] [] 0 (aB rBt) []] ⟨(g_w_between_ok N ((s.size:Nat):Int) 1 12 rBt hr),trivial⟩ ?_
 refine sC 9 (C_8 26) (C_8 27) (!rBt) (fun hq2=>?_) (fun hq2=>?_)
 ·have h:=condT h hq2
  refine sA 1 [.code (C_8 52),.code (C_8 53),.code (C_8 7)] ?_
  refine sR hE ⟨[(2,(aB false))],[],96⟩ (C_8 52) [] [] (kp [2]) [] 96 [] trivial ?_
  obtain rfl:=Option.some.inj h
  refine sW hE ⟨[(2,(aB false))],[],96⟩ [] (kp [2]) [] 96 [] trivial ?_
  exact sT Tryz.f73 [] [] trivial
 ·have h:=condF h hq2
  refine sA 3 [.code (C_8 28),.code (C_8 29),.code (C_8 15)] ?_
  refine sR hE ⟨[(11,(encL (cU .u8) 0 (bytesL s))),(12,(aI ((s.size:Nat):Int))),(13,(aI 0))],[],144⟩ (C_8 28) [] [] ([(11,.sl ((bytesL s).length) (fun zi=>(cU .u8) ((bytesL s).getD zi 0)))] ++ kp [12,13]) [] 144 [s.size=(bytesL s).length,∀ zi,zi < (bytesL s).length→(fun zi=>(cU .u8) ((bytesL s).getD zi 0)) zi=(fun zi=>[.atom (.int .u8 (byteAt s zi))]) zi] ⟨(bytesL_len s),(bytesL_get s),trivial⟩ ?_
  refine sA 2 [.code (C_8 116),.inLoop (C_8 116),.inBlock 0,.code (C_8 15)] ?_
  exact sW hE _ [] (kp [11,12,13]) [] 0 [] trivial (g_w_isName_L1_ok N s N 0 _ h E hE)
noncomputable def C_9 (n:Nat):Code:=cat (bodyOf Tryz.f55) (pth n)
theorem g_w_CheckPontoon_3_ok (N:Nat) (i:Int) (cap0:TPn) (r:Int) (h:g_w_CheckPontoon_3 N i cap0=some r):Sd 55 [(aI i),(.op 0 0 0),(.op 1 0 0)] [(0,vO 5 (TPn.cells cap0)),(1,vO 1 [(.fn (.func 51) [] [])])] 2 (aI r) [(0,vO 5 (TPn.cells cap0)),(1,vO 1 [(.fn (.func 51) [] [])])]:=by
 unfold g_w_CheckPontoon_3 at h
 refine Sound.of_runs (fu:=Tryz.f55) (c:=C_9 1) (nt:=30) (by kernel_rfl) (by kernel_rfl) (by kernel_rfl) (by kernel_rfl) (fun hm=>absurd hm (by decide)) ?_
 intro E hE
 refine sA 1 [.code (C_9 2),.code (C_9 3)] ?_
 refine sR hE ⟨[(0,(aI i)),(1,(.op 0 0 0)),(2,(.op 1 0 0))],[(0,vO 5 (TPn.cells cap0)),(1,vO 1 [(.fn (.func 51) [] [])])],18⟩ (C_9 2) [] [] (kp [0,1,2]) (kq [0,1]) 18 [] trivial ?_
 refine sA 1 [.code (C_9 6),.code (C_9 7)] ?_
 obtain ⟨c,h⟩:=ifSome h
 refine sR hE ⟨[(2,(.op 1 0 0)),(5,(.op 98 0 0))],[(0,vO 5 (TPn.cells cap0)),(1,vO 1 [(.fn (.func 51) [] [])]),(98,vO 5 (TTank.cells (cap0.fTk.getD ((i).toNat) TTank.d)))],130⟩ (C_9 6) [] [] (kp [2,5]) (kq [0,1,98]) 130 [0 < 1,0≤i∧i < ((cap0.fTk.length:Nat):Int),0 < 1] ⟨o1,c,o1,trivial⟩ ?_
 refine sA 2 [.code (C_9 28),.code (C_9 29),.code (C_9 15)] ?_
 obtain ⟨rCP,hr,h⟩:=bindSome h
 obtain ⟨rBt,hr2,h⟩:=bindSome h
 obtain ⟨rBt2,hr3,h⟩:=bindSome h
 refine sR hE ⟨[(29,(aB (cond (cond (!rCP) true (!rBt)) true (!rBt2))))],[(0,vO 5 (TPn.cells cap0)),(1,vO 1 [(.fn (.func 51) [] [])])],434⟩ (C_9 28) [(5,⟨[],true,(aB rCP),[],0,false,none⟩),(10,⟨[],true,(aB rBt),[],0,false,none⟩),(16,⟨[],true,(aB rBt2),[],0,false,none⟩)] [] (kp [29]) (kq [0,1]) 434 [0 < 1,0 < 1,0 < 1,Sd 51 [(aI ((cap0.fTk.getD ((i).toNat) TTank.d).f_X)),(aI ((cap0.fTk.getD ((i).toNat) TTank.d).f_Y))] [] 0 (aB rCP) [],(!(!rCP))=true→AllP [(!(!rCP))=true,0 < 1],(!(!rCP))=true→AllP [Sd 52 [(aI ((cap0.fTk.getD ((i).toNat) TTank.d).f_Steps)),(aI 0),(aI 12)] [] 0 (aB rBt) [],(!(!rCP))=true],(!(!rCP))=true→AllP [(!(!rCP))=true],(!(!rCP))=true→AllP [(!(!rCP))=true],(!(cond (!rCP) true (!rBt)))=true→AllP [(!(cond (!rCP) true (!rBt)))=true,0 < 1],(!(cond (!rCP) true (!rBt)))=true→AllP [Sd 52 [(aI ((cap0.fTk.getD ((i).toNat) TTank.d).fMa)),(aI 0),(aI 1000000000)] [] 0 (aB rBt2) [],(!(cond (!rCP) true (!rBt)))=true],(!(cond (!rCP) true (!rBt)))=true→AllP [(!(cond (!rCP) true (!rBt)))=true],(!(cond (!rCP) true (!rBt)))=true→AllP [(!(cond (!rCP) true (!rBt)))=true]] ⟨o1,o1,o1,(g_w_CheckPontoon_1_ok N ((cap0.fTk.getD ((i).toNat) TTank.d).f_X) ((cap0.fTk.getD ((i).toNat) TTank.d).f_Y) rCP hr),(fun hg=>⟨hg,o1,trivial⟩),(fun hg=>⟨(g_w_between_ok N ((cap0.fTk.getD ((i).toNat) TTank.d).f_Steps) 0 12 rBt (condT hr2 hg)),hg,trivial⟩),(fun hg=>⟨hg,trivial⟩),(fun hq=>⟨hq,trivial⟩),(fun hg=>⟨hg,o1,trivial⟩),(fun hg=>⟨(g_w_between_ok N ((cap0.fTk.getD ((i).toNat) TTank.d).fMa) 0 1000000000 rBt2 (condT hr3 hg)),hg,trivial⟩),(fun hg=>⟨hg,trivial⟩),(fun hq=>⟨hq,trivial⟩),trivial⟩ ?_
 refine sC 29 (C_9 58) (C_9 59) (cond (cond (!rCP) true (!rBt)) true (!rBt2)) (fun hq2=>?_) (fun hq2=>?_)
 ·have h:=condT h hq2
  refine sA 1 [.code (C_9 116),.code (C_9 117),.code (C_9 15)] ?_
  refine sR hE ⟨[(4,(aI 2))],[(0,vO 5 (TPn.cells cap0)),(1,vO 1 [(.fn (.func 51) [] [])])],450⟩ (C_9 116) [] [] (kp [4]) (kq [0,1]) 450 [] trivial ?_
  obtain rfl:=Option.some.inj h
  refine sW hE ⟨[(4,(aI 2))],[(0,vO 5 (TPn.cells cap0)),(1,vO 1 [(.fn (.func 51) [] [])])],450⟩ [] (kp [4]) (kq [0,1]) 450 [] trivial ?_
  exact sT Tryz.f55 [] [] trivial
 ·have h:=condF h hq2
  refine sA 2 [.code (C_9 30),.code (C_9 31)] ?_
  refine sR hE ⟨[(4,(aI 0))],[(0,vO 5 (TPn.cells cap0)),(1,vO 1 [(.fn (.func 51) [] [])])],450⟩ (C_9 30) [] [] (kp [4]) (kq [0,1]) 450 [] trivial ?_
  obtain rfl:=Option.some.inj h
  refine sW hE ⟨[(4,(aI 0))],[(0,vO 5 (TPn.cells cap0)),(1,vO 1 [(.fn (.func 51) [] [])])],450⟩ [] (kp [4]) (kq [0,1]) 450 [] trivial ?_
  exact sT Tryz.f55 [] [] trivial
noncomputable def C_6 (n:Nat):Code:=cat (bodyOf Tryz.f53) (pth n)
theorem g_w_checkNamed_L1_ok (N:Nat) (n:Int) (cap0:TPn) (fuel:Nat):∀ (names:List (ByteArray×Bool)) (x:Int) (r:Int),g_w_checkNamed_L1 N n cap0 fuel names x=some r→∀ E,EnvOk E 2→Runs Tryz.prog E 53 41 (SPost E [(0,vO 5 (TPn.cells cap0)),(1,vO 1 [(.fn (.func 51) [] [])])] (aI r)) [.code (C_6 244),.inLoop (C_6 244),.inBlock 0,.code (C_6 31)] ⟨[(2,(.fn (.func 54) [] [(.op 0 0 0)])),(3,(.fn (.func 55) [] [(.op 0 0 0),(.op 1 0 0)])),(9,(.mp 2)),(17,(aI n)),(18,(aI x))],[(0,vO 5 (TPn.cells cap0)),(1,vO 1 [(.fn (.func 51) [] [])]),(2,⟨false,0,0,true,fun _=>encM aS aB names⟩)],3⟩:=by
 induction fuel with
 | zero=>intro _ _ r h;rw [g_w_checkNamed_L1.eq_1] at h;cases h
 | succ fuel ih =>
  intro names x r h E hE
  rw [g_w_checkNamed_L1.eq_2] at h
  refine sA 1 [.code (C_6 488),.code (C_6 489),.inLoop (C_6 244),.inBlock 0,.code (C_6 31)] ?_
  refine sR hE ⟨[(2,(.fn (.func 54) [] [(.op 0 0 0)])),(3,(.fn (.func 55) [] [(.op 0 0 0),(.op 1 0 0)])),(9,(.mp 2)),(17,(aI n)),(18,(aI x)),(19,(aB (decide (x < n))))],[(0,vO 5 (TPn.cells cap0)),(1,vO 1 [(.fn (.func 51) [] [])]),(2,⟨false,0,0,true,fun _=>encM aS aB names⟩)],19⟩ (C_6 488) [] [] (kp [2,3,9,17,18,19]) (kq [0,1,2]) 19 [] trivial ?_
  refine sA 1 [.code (C_6 978),.code (C_6 979),.inLoop (C_6 244),.inBlock 0,.code (C_6 31)] ?_
  refine sC 19 (C_6 1956) (C_6 1957) (decide (x < n)) (fun hq3=>?_) (fun hq3=>?_)
  ·have h:=condT h hq3
   refine sA 4 [.code (C_6 7832),.code (C_6 7833),.inBlock 1,.code (C_6 1959),.inLoop (C_6 244),.inBlock 0,.code (C_6 31)] ?_
   refine sR hE ⟨[(2,(.fn (.func 54) [] [(.op 0 0 0)])),(3,(.fn (.func 55) [] [(.op 0 0 0),(.op 1 0 0)])),(9,(.mp 2)),(10,(aI x)),(17,(aI n)),(18,(aI x))],[(0,vO 5 (TPn.cells cap0)),(1,vO 1 [(.fn (.func 51) [] [])]),(2,⟨false,0,0,true,fun _=>encM aS aB names⟩)],51⟩ (C_6 7832) [] [] (kp [2,3,9,10,17,18]) (kq [0,1,2]) 51 [] trivial ?_
   refine sA 2 [.code (C_6 31332),.code (C_6 31333),.code (C_6 15667),.inBlock 1,.code (C_6 1959),.inLoop (C_6 244),.inBlock 0,.code (C_6 31)] ?_
   obtain ⟨rCP,hr,h⟩:=bindSome h
   refine sR hE ⟨[(2,(.fn (.func 54) [] [(.op 0 0 0)])),(3,(.fn (.func 55) [] [(.op 0 0 0),(.op 1 0 0)])),(9,(.mp 2)),(10,(aI x)),(11,(aS rCP)),(17,(aI n)),(18,(aI x))],[(0,vO 5 (TPn.cells cap0)),(1,vO 1 [(.fn (.func 51) [] [])]),(2,⟨false,0,0,true,fun _=>encM aS aB names⟩)],115⟩ (C_6 31332) [(2,⟨[0],true,(aS rCP),[],0,false,none⟩)] [] (kp [2,3,9,10,11,17,18]) (kq [0,1,2]) 115 [Sd 54 [(aI x),(.op 0 0 0)] [(0,vO 5 (TPn.cells cap0))] 1 (aS rCP) [(0,vO 5 (TPn.cells cap0))]] ⟨(g_w_CheckPontoon_2_ok N x cap0 rCP hr),trivial⟩ ?_
   refine sA 2 [.code (C_6 125332),.code (C_6 125333),.inBlock 2,.code (C_6 15667),.inBlock 1,.code (C_6 1959),.inLoop (C_6 244),.inBlock 0,.code (C_6 31)] ?_
   obtain ⟨risName,hr2,h⟩:=bindSome h
   refine sR hE ⟨[(2,(.fn (.func 54) [] [(.op 0 0 0)])),(3,(.fn (.func 55) [] [(.op 0 0 0),(.op 1 0 0)])),(9,(.mp 2)),(10,(aI x)),(11,(aS rCP)),(17,(aI n)),(18,(aI x)),(26,(aB (!risName)))],[(0,vO 5 (TPn.cells cap0)),(1,vO 1 [(.fn (.func 51) [] [])]),(2,⟨false,0,0,true,fun _=>encM aS aB names⟩)],179⟩ (C_6 125332) [(1,⟨[],true,(aB risName),[],0,false,none⟩)] [] (kp [2,3,9,10,11,17,18,26]) (kq [0,1,2]) 179 [Sd 73 [(aS rCP)] [] 0 (aB risName) []] ⟨(g_w_isName_ok N rCP risName hr2),trivial⟩ ?_
   refine sC 26 (C_6 250666) (C_6 250667) (!risName) (fun hq4=>?_) (fun hq4=>?_)
   ·have h:=condT h hq4
    refine sA 1 [.code (C_6 501332),.code (C_6 501333),.inBlock 2,.code (C_6 15667),.inBlock 1,.code (C_6 1959),.inLoop (C_6 244),.inBlock 0,.code (C_6 31)] ?_
    refine sR hE ⟨[(8,(aI 4))],[(0,vO 5 (TPn.cells cap0)),(1,vO 1 [(.fn (.func 51) [] [])])],195⟩ (C_6 501332) [] [] (kp [8]) (kq [0,1]) 195 [] trivial ?_
    obtain rfl:=Option.some.inj h
    refine sW hE ⟨[(8,(aI 4))],[(0,vO 5 (TPn.cells cap0)),(1,vO 1 [(.fn (.func 51) [] [])])],195⟩ [] (kp [8]) (kq [0,1]) 195 [] trivial ?_
    exact sT Tryz.f53 [] [] trivial
   ·have h:=condF h hq4
    refine sA 1 [.code (C_6 501334),.code (C_6 501335),.inBlock 2,.code (C_6 15667),.inBlock 1,.code (C_6 1959),.inLoop (C_6 244),.inBlock 0,.code (C_6 31)] ?_
    refine sR hE ⟨[(2,(.fn (.func 54) [] [(.op 0 0 0)])),(3,(.fn (.func 55) [] [(.op 0 0 0),(.op 1 0 0)])),(9,(.mp 2)),(10,(aI x)),(11,(aS rCP)),(17,(aI n)),(18,(aI x)),(30,(aB ((mGet streq names rCP).getD false)))],[(0,vO 5 (TPn.cells cap0)),(1,vO 1 [(.fn (.func 51) [] [])]),(2,⟨false,0,0,true,fun _=>encM aS aB names⟩)],243⟩ (C_6 501334) [(2,⟨[],true,(aB ((mGet streq names rCP).getD false)),[],0,false,none⟩)] [] (kp [2,3,9,10,11,17,18,30]) (kq [0,1,2]) 243 [(Go.Ab.look (encM aS aB names) (aS rCP)).map (fun zr=>zr.getD (ofConst (.bool false)))=some (aB ((mGet streq names rCP).getD false))] ⟨(look_get aS aB (d:=false) keyS rfl _ _),trivial⟩ ?_
    refine sC 30 (C_6 1002670) (C_6 1002671) ((mGet streq names rCP).getD false) (fun hq5=>?_) (fun hq5=>?_)
    ·have h:=condT h hq5
     refine sA 1 [.code (C_6 2005340),.code (C_6 2005341),.inBlock 2,.code (C_6 15667),.inBlock 1,.code (C_6 1959),.inLoop (C_6 244),.inBlock 0,.code (C_6 31)] ?_
     refine sR hE ⟨[(8,(aI 5))],[(0,vO 5 (TPn.cells cap0)),(1,vO 1 [(.fn (.func 51) [] [])])],259⟩ (C_6 2005340) [] [] (kp [8]) (kq [0,1]) 259 [] trivial ?_
     obtain rfl:=Option.some.inj h
     refine sW hE ⟨[(8,(aI 5))],[(0,vO 5 (TPn.cells cap0)),(1,vO 1 [(.fn (.func 51) [] [])])],259⟩ [] (kp [8]) (kq [0,1]) 259 [] trivial ?_
     exact sT Tryz.f53 [] [] trivial
    ·have h:=condF h hq5
     refine sR hE ⟨[(2,(.fn (.func 54) [] [(.op 0 0 0)])),(3,(.fn (.func 55) [] [(.op 0 0 0),(.op 1 0 0)])),(9,(.mp 2)),(10,(aI x)),(17,(aI n)),(18,(aI x))],[(0,vO 5 (TPn.cells cap0)),(1,vO 1 [(.fn (.func 51) [] [])]),(2,⟨false,0,0,true,fun _=>encM aS aB (mPut streq names rCP true)⟩)],291⟩ (C_6 1002671) [(2,⟨[],true,(.tup (encM aS aB (mPut streq names rCP true))),[],0,false,none⟩)] [] (kp [2,3,9,10,17,18]) (kq [0,1,2]) 291 [Go.Ab.insA (encM aS aB names) (aS rCP) (aB true)=some (encM aS aB (mPut streq names rCP true))] ⟨(insA_enc aS aB keyS _ _ _),trivial⟩ ?_
     refine sA 2 [.code (C_6 31334),.code (C_6 31335),.inBlock 1,.code (C_6 1959),.inLoop (C_6 244),.inBlock 0,.code (C_6 31)] ?_
     obtain ⟨rCP2,hr3,h⟩:=bindSome h
     refine sR hE ⟨[(2,(.fn (.func 54) [] [(.op 0 0 0)])),(3,(.fn (.func 55) [] [(.op 0 0 0),(.op 1 0 0)])),(9,(.mp 2)),(12,(aI rCP2)),(17,(aI n)),(18,(aI x))],[(0,vO 5 (TPn.cells cap0)),(1,vO 1 [(.fn (.func 51) [] [])]),(2,⟨false,0,0,true,fun _=>encM aS aB (mPut streq names rCP true)⟩)],355⟩ (C_6 31334) [(2,⟨[0,1],true,(aI rCP2),[],0,false,none⟩)] [] (kp [2,3,9,12,17,18]) (kq [0,1,2]) 355 [Sd 55 [(aI x),(.op 0 0 0),(.op 1 0 0)] [(0,vO 5 (TPn.cells cap0)),(1,vO 1 [(.fn (.func 51) [] [])])] 2 (aI rCP2) [(0,vO 5 (TPn.cells cap0)),(1,vO 1 [(.fn (.func 51) [] [])])]] ⟨(g_w_CheckPontoon_3_ok N x cap0 rCP2 hr3),trivial⟩ ?_
     refine sA 1 [.code (C_6 62670),.code (C_6 62671),.inBlock 1,.code (C_6 1959),.inLoop (C_6 244),.inBlock 0,.code (C_6 31)] ?_
     refine sR hE ⟨[(2,(.fn (.func 54) [] [(.op 0 0 0)])),(3,(.fn (.func 55) [] [(.op 0 0 0),(.op 1 0 0)])),(9,(.mp 2)),(12,(aI rCP2)),(17,(aI n)),(18,(aI x)),(38,(aB (rCP2 != 0)))],[(0,vO 5 (TPn.cells cap0)),(1,vO 1 [(.fn (.func 51) [] [])]),(2,⟨false,0,0,true,fun _=>encM aS aB (mPut streq names rCP true)⟩)],387⟩ (C_6 62670) [] [] (kp [2,3,9,12,17,18,38]) (kq [0,1,2]) 387 [] trivial ?_
     refine sC 38 (C_6 125342) (C_6 125343) (rCP2 != 0) (fun hq6=>?_) (fun hq6=>?_)
     ·have h:=condT h hq6
      refine sA 1 [.code (C_6 250684),.code (C_6 250685),.inBlock 1,.code (C_6 1959),.inLoop (C_6 244),.inBlock 0,.code (C_6 31)] ?_
      refine sR hE ⟨[(8,(aI rCP2))],[(0,vO 5 (TPn.cells cap0)),(1,vO 1 [(.fn (.func 51) [] [])])],419⟩ (C_6 250684) [] [] (kp [8]) (kq [0,1]) 419 [] trivial ?_
      obtain rfl:=Option.some.inj h
      refine sW hE ⟨[(8,(aI rCP2))],[(0,vO 5 (TPn.cells cap0)),(1,vO 1 [(.fn (.func 51) [] [])])],419⟩ [] (kp [8]) (kq [0,1]) 419 [] trivial ?_
      exact sT Tryz.f53 [] [] trivial
     ·have h:=condF h hq6
      refine sA 2 [.code (C_6 1959),.inLoop (C_6 244),.inBlock 0,.code (C_6 31)] ?_
      refine sR hE ⟨[(2,(.fn (.func 54) [] [(.op 0 0 0)])),(3,(.fn (.func 55) [] [(.op 0 0 0),(.op 1 0 0)])),(9,(.mp 2)),(17,(aI n)),(18,(aI (w64 (x+1))))],[(0,vO 5 (TPn.cells cap0)),(1,vO 1 [(.fn (.func 51) [] [])]),(2,⟨false,0,0,true,fun _=>encM aS aB (mPut streq names rCP true)⟩)],419⟩ (C_6 1959) [] [] (kp [2,3,9,17,18]) (kq [0,1,2]) 419 [] trivial ?_
      refine sA 1 [.code (C_6 244),.inLoop (C_6 244),.inBlock 0,.code (C_6 31)] ?_
      exact sW hE _ [] (kp [2,3,9,17,18]) (kq [0,1,2]) 3 [] trivial (ih (mPut streq names rCP true) (w64 (x+1)) _ h E hE)
  ·have h:=condF h hq3
   refine sA 2 [.code (C_6 62),.code (C_6 63)] ?_
   refine sR hE ⟨[(8,(aI 0))],[(0,vO 5 (TPn.cells cap0)),(1,vO 1 [(.fn (.func 51) [] [])])],35⟩ (C_6 62) [] [] (kp [8]) (kq [0,1]) 35 [] trivial ?_
   obtain rfl:=Option.some.inj h
   refine sW hE ⟨[(8,(aI 0))],[(0,vO 5 (TPn.cells cap0)),(1,vO 1 [(.fn (.func 51) [] [])])],50⟩ [] (kp [8]) (kq [0,1]) 50 [] trivial ?_
   exact sT Tryz.f53 [] [] trivial
theorem g_w_checkNamed_ok (N:Nat) (n:Int) (most:Int) (cap0:TPn) (r:Int) (h:g_w_checkNamed N n most cap0=some r):Sd 53 [(aI n),(aI most),(.fn (.func 54) [] [(.op 0 0 0)]),(.fn (.func 55) [] [(.op 0 0 0),(.op 1 0 0)])] [(0,vO 5 (TPn.cells cap0)),(1,vO 1 [(.fn (.func 51) [] [])])] 2 (aI r) [(0,vO 5 (TPn.cells cap0)),(1,vO 1 [(.fn (.func 51) [] [])])]:=by
 unfold g_w_checkNamed at h
 refine Sound.of_runs (fu:=Tryz.f53) (c:=C_6 1) (nt:=41) (by kernel_rfl) (by kernel_rfl) (by kernel_rfl) (by kernel_rfl) (fun hm=>absurd hm (by decide)) ?_
 intro E hE
 refine sA 1 [.code (C_6 2),.code (C_6 3)] ?_
 refine sR hE ⟨[(0,(aI n)),(1,(aI most)),(2,(.fn (.func 54) [] [(.op 0 0 0)])),(3,(.fn (.func 55) [] [(.op 0 0 0),(.op 1 0 0)]))],[(0,vO 5 (TPn.cells cap0)),(1,vO 1 [(.fn (.func 51) [] [])])],18⟩ (C_6 2) [] [] (kp [0,1,2,3]) (kq [0,1]) 18 [] trivial ?_
 refine sA 2 [.code (C_6 12),.code (C_6 13),.code (C_6 7)] ?_
 refine sR hE ⟨[(0,(aI n)),(2,(.fn (.func 54) [] [(.op 0 0 0)])),(3,(.fn (.func 55) [] [(.op 0 0 0),(.op 1 0 0)])),(15,(aB (decide (n > most))))],[(0,vO 5 (TPn.cells cap0)),(1,vO 1 [(.fn (.func 51) [] [])])],66⟩ (C_6 12) [] [] (kp [0,2,3,15]) (kq [0,1]) 66 [] trivial ?_
 refine sC 15 (C_6 26) (C_6 27) (decide (n > most)) (fun hq2=>?_) (fun hq2=>?_)
 ·have h:=condT h hq2
  refine sA 1 [.code (C_6 52),.code (C_6 53),.code (C_6 7)] ?_
  refine sR hE ⟨[(8,(aI 8))],[(0,vO 5 (TPn.cells cap0)),(1,vO 1 [(.fn (.func 51) [] [])])],82⟩ (C_6 52) [] [] (kp [8]) (kq [0,1]) 82 [] trivial ?_
  obtain rfl:=Option.some.inj h
  refine sW hE ⟨[(8,(aI 8))],[(0,vO 5 (TPn.cells cap0)),(1,vO 1 [(.fn (.func 51) [] [])])],82⟩ [] (kp [8]) (kq [0,1]) 82 [] trivial ?_
  exact sT Tryz.f53 [] [] trivial
 ·have h:=condF h hq2
  refine sA 2 [.code (C_6 14),.code (C_6 15)] ?_
  refine sR hE ⟨[(0,(aI n)),(2,(.fn (.func 54) [] [(.op 0 0 0)])),(3,(.fn (.func 55) [] [(.op 0 0 0),(.op 1 0 0)])),(9,(.mp 66))],[(0,vO 5 (TPn.cells cap0)),(1,vO 1 [(.fn (.func 51) [] [])]),(66,⟨false,0,0,true,fun _=>encM aS aB ([]:List (ByteArray×Bool))⟩)],98⟩ (C_6 14) [] [] (kp [0,2,3,9]) (kq [0,1,66]) 98 [] trivial ?_
  refine sA 2 [.code (C_6 60),.code (C_6 61),.code (C_6 31)] ?_
  refine sR hE ⟨[(2,(.fn (.func 54) [] [(.op 0 0 0)])),(3,(.fn (.func 55) [] [(.op 0 0 0),(.op 1 0 0)])),(9,(.mp 66)),(17,(aI n)),(18,(aI 0))],[(0,vO 5 (TPn.cells cap0)),(1,vO 1 [(.fn (.func 51) [] [])]),(66,⟨false,0,0,true,fun _=>encM aS aB ([]:List (ByteArray×Bool))⟩)],130⟩ (C_6 60) [] [] (kp [2,3,9,17,18]) (kq [0,1,66]) 130 [] trivial ?_
  refine sA 2 [.code (C_6 244),.inLoop (C_6 244),.inBlock 0,.code (C_6 31)] ?_
  exact sW hE _ [] (kp [2,3,9,17,18]) (kq [0,1] ++ [(2,.keep 66)]) 3 [] trivial (g_w_checkNamed_L1_ok N n cap0 N ([]:List (ByteArray×Bool)) 0 _ h E hE)
noncomputable def C_3 (n:Nat):Code:=cat (bodyOf Tryz.f21) (pth n)
theorem g_w_CheckPontoon_L1_ok (N:Nat) (p:TPn) (fuel:Nat):∀ (x:Int) (r:Int),g_w_CheckPontoon_L1 N p fuel x=some r→∀ E,EnvOk E 0→Runs Tryz.prog E 21 55 (SPost E [] (aI r)) [.code (C_3 244),.inLoop (C_3 244),.inBlock 1,.code (C_3 31)] ⟨[(1,(.op 0 0 0)),(3,(.op 1 0 0)),(29,(encL TPm.cells TPm.d p.fMs)),(30,(aI ((p.fMs.length:Nat):Int))),(31,(aI x))],[(0,vO 5 (TPn.cells p)),(1,vO 1 [(.fn (.func 51) [] [])])],2⟩:=by
 induction fuel with
 | zero=>intro _ r h;rw [g_w_CheckPontoon_L1.eq_1] at h;cases h
 | succ fuel ih =>
  intro x r h E hE
  rw [g_w_CheckPontoon_L1.eq_2] at h
  refine sA 1 [.code (C_3 488),.code (C_3 489),.inLoop (C_3 244),.inBlock 1,.code (C_3 31)] ?_
  refine sR hE ⟨[(1,(.op 0 0 0)),(3,(.op 1 0 0)),(29,(encL TPm.cells TPm.d p.fMs)),(30,(aI ((p.fMs.length:Nat):Int))),(31,(aI x)),(32,(aB (decide (x < ((p.fMs.length:Nat):Int)))))],[(0,vO 5 (TPn.cells p)),(1,vO 1 [(.fn (.func 51) [] [])])],18⟩ (C_3 488) [] [] (kp [1,3,29,30,31,32]) (kq [0,1]) 18 [] trivial ?_
  refine sA 1 [.code (C_3 978),.code (C_3 979),.inLoop (C_3 244),.inBlock 1,.code (C_3 31)] ?_
  refine sC 32 (C_3 1956) (C_3 1957) (decide (x < ((p.fMs.length:Nat):Int))) (fun hq4=>?_) (fun hq4=>?_)
  ·have h:=condT h hq4
   refine sA 4 [.code (C_3 7832),.code (C_3 7833),.inBlock 2,.code (C_3 1959),.inLoop (C_3 244),.inBlock 1,.code (C_3 31)] ?_
   obtain ⟨c,h⟩:=ifSome h
   refine sR hE ⟨[(1,(.op 0 0 0)),(3,(.op 1 0 0)),(5,(.op 50 0 0)),(29,(encL TPm.cells TPm.d p.fMs)),(30,(aI ((p.fMs.length:Nat):Int))),(31,(aI x))],[(0,vO 5 (TPn.cells p)),(1,vO 1 [(.fn (.func 51) [] [])]),(50,vO 3 (TPm.cells (p.fMs.getD ((x).toNat) TPm.d)))],82⟩ (C_3 7832) [] [] (kp [1,3,5,29,30,31]) (kq [0,1,50]) 82 [0≤x∧x < ((p.fMs.length:Nat):Int),0 < 1] ⟨c,o1,trivial⟩ ?_
   refine sA 1 [.code (C_3 15666),.code (C_3 15667),.inBlock 2,.code (C_3 1959),.inLoop (C_3 244),.inBlock 1,.code (C_3 31)] ?_
   obtain ⟨rCP,hr4,h⟩:=bindSome h
   obtain ⟨rBt4,hr5,h⟩:=bindSome h
   refine sR hE ⟨[(1,(.op 0 0 0)),(3,(.op 1 0 0)),(29,(encL TPm.cells TPm.d p.fMs)),(30,(aI ((p.fMs.length:Nat):Int))),(31,(aI x)),(47,(aB (cond (!rCP) true (!rBt4))))],[(0,vO 5 (TPn.cells p)),(1,vO 1 [(.fn (.func 51) [] [])])],290⟩ (C_3 15666) [(5,⟨[],true,(aB rCP),[],0,false,none⟩),(10,⟨[],true,(aB rBt4),[],0,false,none⟩)] [] (kp [1,3,29,30,31,47]) (kq [0,1]) 290 [0 < 1,0 < 1,0 < 1,Sd 51 [(aI ((p.fMs.getD ((x).toNat) TPm.d).f_X)),(aI ((p.fMs.getD ((x).toNat) TPm.d).f_Y))] [] 0 (aB rCP) [],(!(!rCP))=true→AllP [(!(!rCP))=true,0 < 1],(!(!rCP))=true→AllP [Sd 52 [(aI ((p.fMs.getD ((x).toNat) TPm.d).fMa)),(aI 0),(aI 1000000000)] [] 0 (aB rBt4) [],(!(!rCP))=true],(!(!rCP))=true→AllP [(!(!rCP))=true],(!(!rCP))=true→AllP [(!(!rCP))=true]] ⟨o1,o1,o1,(g_w_CheckPontoon_1_ok N ((p.fMs.getD ((x).toNat) TPm.d).f_X) ((p.fMs.getD ((x).toNat) TPm.d).f_Y) rCP hr4),(fun hg=>⟨hg,o1,trivial⟩),(fun hg=>⟨(g_w_between_ok N ((p.fMs.getD ((x).toNat) TPm.d).fMa) 0 1000000000 rBt4 (condT hr5 hg)),hg,trivial⟩),(fun hg=>⟨hg,trivial⟩),(fun hq=>⟨hq,trivial⟩),trivial⟩ ?_
   refine sC 47 (C_3 31334) (C_3 31335) (cond (!rCP) true (!rBt4)) (fun hq5=>?_) (fun hq5=>?_)
   ·have h:=condT h hq5
    refine sA 1 [.code (C_3 62668),.code (C_3 62669),.inBlock 2,.code (C_3 1959),.inLoop (C_3 244),.inBlock 1,.code (C_3 31)] ?_
    refine sR hE ⟨[(2,(aI 2))],[],306⟩ (C_3 62668) [] [] (kp [2]) [] 306 [] trivial ?_
    obtain rfl:=Option.some.inj h
    refine sW hE ⟨[(2,(aI 2))],[],306⟩ [] (kp [2]) [] 306 [] trivial ?_
    exact sT Tryz.f21 [] [] trivial
   ·have h:=condF h hq5
    refine sA 2 [.code (C_3 1959),.inLoop (C_3 244),.inBlock 1,.code (C_3 31)] ?_
    refine sR hE ⟨[(1,(.op 0 0 0)),(3,(.op 1 0 0)),(29,(encL TPm.cells TPm.d p.fMs)),(30,(aI ((p.fMs.length:Nat):Int))),(31,(aI (w64 (x+1))))],[(0,vO 5 (TPn.cells p)),(1,vO 1 [(.fn (.func 51) [] [])])],322⟩ (C_3 1959) [] [] (kp [1,3,29,30,31]) (kq [0,1]) 322 [] trivial ?_
    refine sA 1 [.code (C_3 244),.inLoop (C_3 244),.inBlock 1,.code (C_3 31)] ?_
    exact sW hE _ [] (kp [1,3,29,30,31]) (kq [0,1]) 2 [] trivial (ih (w64 (x+1)) _ h E hE)
  ·have h:=condF h hq4
   refine sA 2 [.code (C_3 62),.code (C_3 63)] ?_
   obtain ⟨rcheckNamed,hr6,h⟩:=bindSome h
   refine sR hE ⟨[(2,(aI rcheckNamed))],[],130⟩ (C_3 62) [(5,⟨[0,1],true,(aI rcheckNamed),[],0,false,none⟩)] [] (kp [2]) [] 130 [0 < 1,Sd 53 [(aI ((p.fTk.length:Nat):Int)),(aI 6),(.fn (.func 54) [] [(.op 0 0 0)]),(.fn (.func 55) [] [(.op 0 0 0),(.op 1 0 0)])] [(0,vO 5 (TPn.cells p)),(1,vO 1 [(.fn (.func 51) [] [])])] 2 (aI rcheckNamed) [(0,vO 5 (TPn.cells p)),(1,vO 1 [(.fn (.func 51) [] [])])]] ⟨o1,(g_w_checkNamed_ok N ((p.fTk.length:Nat):Int) 6 p rcheckNamed hr6),trivial⟩ ?_
   obtain rfl:=Option.some.inj h
   refine sW hE ⟨[(2,(aI rcheckNamed))],[],130⟩ [] (kp [2]) [] 130 [] trivial ?_
   exact sT Tryz.f21 [] [] trivial
theorem g_w_CheckPontoon_ok (N:Nat) (p:TPn) (r:Int) (h:g_w_CheckPontoon N p=some r):Sd 21 [(.agg (TPn.cells p))] [] 0 (aI r) []:=by
 unfold g_w_CheckPontoon at h
 refine Sound.of_runs (fu:=Tryz.f21) (c:=C_3 1) (nt:=55) (by kernel_rfl) (by kernel_rfl) (by kernel_rfl) (by kernel_rfl) (fun hm=>rfl) ?_
 intro E hE
 refine sA 1 [.code (C_3 2),.code (C_3 3)] ?_
 refine sR hE ⟨[(1,(.op 0 0 0))],[(0,vO 5 (TPn.cells p))],32⟩ (C_3 2) [] [] (kp [1]) (kq [0]) 32 [] trivial ?_
 refine sA 1 [.code (C_3 6),.code (C_3 7)] ?_
 refine sR hE ⟨[(1,(.op 0 0 0)),(3,(.op 32 0 0))],[(0,vO 5 (TPn.cells p)),(32,vO 1 [(.fn (.func 51) [] [])])],64⟩ (C_3 6) [] [] (kp [1,3]) (kq [0,32]) 64 [0 < 1] ⟨o1,trivial⟩ ?_
 refine sA 3 [.code (C_3 56),.code (C_3 57),.inBlock 0,.code (C_3 15)] ?_
 obtain ⟨rBt,hr,h⟩:=bindSome h
 obtain ⟨rBt2,hr2,h⟩:=bindSome h
 obtain ⟨rBt3,hr3,h⟩:=bindSome h
 refine sR hE ⟨[(1,(.op 0 0 0)),(3,(.op 32 0 0)),(6,(aB (cond (cond (!rBt) true (!rBt2)) true (!rBt3))))],[(0,vO 5 (TPn.cells p)),(32,vO 1 [(.fn (.func 51) [] [])])],336⟩ (C_3 56) [(2,⟨[],true,(aB rBt),[],0,false,none⟩),(7,⟨[],true,(aB rBt2),[],0,false,none⟩),(13,⟨[],true,(aB rBt3),[],0,false,none⟩)] [] (kp [1,3,6]) (kq [0,32]) 336 [0 < 1,Sd 52 [(aI p.fLn),(aI 1),(aI 1000000)] [] 0 (aB rBt) [],(!(!rBt))=true→AllP [(!(!rBt))=true,0 < 1],(!(!rBt))=true→AllP [Sd 52 [(aI p.fBr),(aI 1),(aI 1000000)] [] 0 (aB rBt2) [],(!(!rBt))=true],(!(!rBt))=true→AllP [(!(!rBt))=true],(!(!rBt))=true→AllP [(!(!rBt))=true],(!(cond (!rBt) true (!rBt2)))=true→AllP [(!(cond (!rBt) true (!rBt2)))=true,0 < 1],(!(cond (!rBt) true (!rBt2)))=true→AllP [Sd 52 [(aI p.fDsity),(aI 900),(aI 1100)] [] 0 (aB rBt3) [],(!(cond (!rBt) true (!rBt2)))=true],(!(cond (!rBt) true (!rBt2)))=true→AllP [(!(cond (!rBt) true (!rBt2)))=true],(!(cond (!rBt) true (!rBt2)))=true→AllP [(!(cond (!rBt) true (!rBt2)))=true]] ⟨o1,(g_w_between_ok N p.fLn 1 1000000 rBt hr),(fun hg=>⟨hg,o1,trivial⟩),(fun hg=>⟨(g_w_between_ok N p.fBr 1 1000000 rBt2 (condT hr2 hg)),hg,trivial⟩),(fun hg=>⟨hg,trivial⟩),(fun hq=>⟨hq,trivial⟩),(fun hg=>⟨hg,o1,trivial⟩),(fun hg=>⟨(g_w_between_ok N p.fDsity 900 1100 rBt3 (condT hr3 hg)),hg,trivial⟩),(fun hg=>⟨hg,trivial⟩),(fun hq=>⟨hq,trivial⟩),trivial⟩ ?_
 refine sC 6 (C_3 114) (C_3 115) (cond (cond (!rBt) true (!rBt2)) true (!rBt3)) (fun hq2=>?_) (fun hq2=>?_)
 ·have h:=condT h hq2
  refine sA 1 [.code (C_3 228),.code (C_3 229),.inBlock 0,.code (C_3 15)] ?_
  refine sR hE ⟨[(2,(aI 2))],[],352⟩ (C_3 228) [] [] (kp [2]) [] 352 [] trivial ?_
  obtain rfl:=Option.some.inj h
  refine sW hE ⟨[(2,(aI 2))],[],352⟩ [] (kp [2]) [] 352 [] trivial ?_
  exact sT Tryz.f21 [] [] trivial
 ·have h:=condF h hq2
  refine sA 1 [.code (C_3 230),.code (C_3 231),.inBlock 0,.code (C_3 15)] ?_
  refine sR hE ⟨[(1,(.op 0 0 0)),(3,(.op 32 0 0)),(23,(aB (decide (((p.fMs.length:Nat):Int) > 20))))],[(0,vO 5 (TPn.cells p)),(32,vO 1 [(.fn (.func 51) [] [])])],416⟩ (C_3 230) [] [] (kp [1,3,23]) (kq [0,32]) 416 [0 < 1] ⟨o1,trivial⟩ ?_
  refine sC 23 (C_3 462) (C_3 463) (decide (((p.fMs.length:Nat):Int) > 20)) (fun hq3=>?_) (fun hq3=>?_)
  ·have h:=condT h hq3
   refine sA 1 [.code (C_3 924),.code (C_3 925),.inBlock 0,.code (C_3 15)] ?_
   refine sR hE ⟨[(2,(aI 8))],[],432⟩ (C_3 924) [] [] (kp [2]) [] 432 [] trivial ?_
   obtain rfl:=Option.some.inj h
   refine sW hE ⟨[(2,(aI 8))],[],432⟩ [] (kp [2]) [] 432 [] trivial ?_
   exact sT Tryz.f21 [] [] trivial
  ·have h:=condF h hq3
   refine sA 4 [.code (C_3 60),.code (C_3 61),.code (C_3 31)] ?_
   refine sR hE ⟨[(1,(.op 0 0 0)),(3,(.op 32 0 0)),(29,(encL TPm.cells TPm.d p.fMs)),(30,(aI ((p.fMs.length:Nat):Int))),(31,(aI 0))],[(0,vO 5 (TPn.cells p)),(32,vO 1 [(.fn (.func 51) [] [])])],480⟩ (C_3 60) [] [] (kp [1,3,29,30,31]) (kq [0,32]) 480 [0 < 1] ⟨o1,trivial⟩ ?_
   refine sA 2 [.code (C_3 244),.inLoop (C_3 244),.inBlock 1,.code (C_3 31)] ?_
   exact sW hE _ [] (kp [1,3,29,30,31]) (kq [0] ++ [(1,.keep 32)]) 2 [] trivial (g_w_CheckPontoon_L1_ok N p N 0 _ h E hE)
noncomputable def C_10 (n:Nat):Code:=cat (bodyOf Tryz.f44) (pth n)
theorem g_w_checkSteps_L1_ok (N:Nat) (p:TPn) (steps:List Int) (fuel:Nat):∀ (out:Tw_state) (x:Int) (r:Tw_state×Int),g_w_checkSteps_L1 N p steps fuel out x=some r→∀ E,EnvOk E 0→Runs Tryz.prog E 44 38 (SPost E [] (.tup [(.agg (Tw_state.cells r.1)),(aI r.2)])) [.code (C_10 244),.inLoop (C_10 244),.inBlock 0,.code (C_10 31)] ⟨[(2,(.op 0 0 0)),(4,(.op 1 0 0)),(6,(.op 2 0 0)),(16,(encL cI 0 steps)),(17,(aI ((steps.length:Nat):Int))),(18,(aI x))],[(0,vO 5 (TPn.cells p)),(1,vO 6 [(aI 0),(aI 0),(aI 0),(aI 0),(aI 0),(aI 0)]),(2,vO 6 (Tw_state.cells out))],3⟩:=by
 induction fuel with
 | zero=>intro _ _ r h;rw [g_w_checkSteps_L1.eq_1] at h;cases h
 | succ fuel ih =>
  intro out x r h E hE
  rw [g_w_checkSteps_L1.eq_2] at h
  refine sA 1 [.code (C_10 488),.code (C_10 489),.inLoop (C_10 244),.inBlock 0,.code (C_10 31)] ?_
  refine sR hE ⟨[(2,(.op 0 0 0)),(4,(.op 1 0 0)),(6,(.op 2 0 0)),(16,(encL cI 0 steps)),(17,(aI ((steps.length:Nat):Int))),(18,(aI x)),(19,(aB (decide (x < ((steps.length:Nat):Int)))))],[(0,vO 5 (TPn.cells p)),(1,vO 6 [(aI 0),(aI 0),(aI 0),(aI 0),(aI 0),(aI 0)]),(2,vO 6 (Tw_state.cells out))],19⟩ (C_10 488) [] [] (kp [2,4,6,16,17,18,19]) (kq [0,1,2]) 19 [] trivial ?_
  refine sA 1 [.code (C_10 978),.code (C_10 979),.inLoop (C_10 244),.inBlock 0,.code (C_10 31)] ?_
  refine sC 19 (C_10 1956) (C_10 1957) (decide (x < ((steps.length:Nat):Int))) (fun hq3=>?_) (fun hq3=>?_)
  ·have h:=condT h hq3
   refine sA 4 [.code (C_10 7832),.code (C_10 7833),.inBlock 1,.code (C_10 1959),.inLoop (C_10 244),.inBlock 0,.code (C_10 31)] ?_
   obtain ⟨c,h⟩:=ifSome h
   refine sR hE ⟨[(2,(.op 0 0 0)),(4,(.op 1 0 0)),(6,(.op 2 0 0)),(7,(aI x)),(8,(aI (steps.getD ((x).toNat) 0))),(16,(encL cI 0 steps)),(17,(aI ((steps.length:Nat):Int))),(18,(aI x))],[(0,vO 5 (TPn.cells p)),(1,vO 6 [(aI 0),(aI 0),(aI 0),(aI 0),(aI 0),(aI 0)]),(2,vO 6 (Tw_state.cells out))],99⟩ (C_10 7832) [] [] (kp [2,4,6,7,8,16,17,18]) (kq [0,1,2]) 99 [0≤x∧x < ((steps.length:Nat):Int)] ⟨c,trivial⟩ ?_
   refine sA 2 [.code (C_10 31332),.code (C_10 31333),.code (C_10 15667),.inBlock 1,.code (C_10 1959),.inLoop (C_10 244),.inBlock 0,.code (C_10 31)] ?_
   obtain ⟨c2,h⟩:=ifSome h
   obtain ⟨rBt,hr,h⟩:=bindSome h
   refine sR hE ⟨[(2,(.op 0 0 0)),(4,(.op 1 0 0)),(6,(.op 2 0 0)),(7,(aI x)),(8,(aI (steps.getD ((x).toNat) 0))),(16,(encL cI 0 steps)),(17,(aI ((steps.length:Nat):Int))),(18,(aI x)),(31,(aB (!rBt)))],[(0,vO 5 (TPn.cells p)),(1,vO 6 [(aI 0),(aI 0),(aI 0),(aI 0),(aI 0),(aI 0)]),(2,vO 6 (Tw_state.cells out))],243⟩ (C_10 31332) [(7,⟨[],true,(aB rBt),[],0,false,none⟩)] [] (kp [2,4,6,7,8,16,17,18,31]) (kq [0,1,2]) 243 [0 < 1,0≤x∧x < ((p.fTk.length:Nat):Int),Sd 52 [(aI (steps.getD ((x).toNat) 0)),(aI 0),(aI ((p.fTk.getD ((x).toNat) TTank.d).f_Steps))] [] 0 (aB rBt) []] ⟨o1,c2,(g_w_between_ok N (steps.getD ((x).toNat) 0) 0 ((p.fTk.getD ((x).toNat) TTank.d).f_Steps) rBt hr),trivial⟩ ?_
   refine sC 31 (C_10 62666) (C_10 62667) (!rBt) (fun hq4=>?_) (fun hq4=>?_)
   ·have h:=condT h hq4
    refine sA 1 [.code (C_10 125332),.code (C_10 125333),.code (C_10 15667),.inBlock 1,.code (C_10 1959),.inLoop (C_10 244),.inBlock 0,.code (C_10 31)] ?_
    refine sR hE ⟨[(4,(.op 1 0 0)),(5,(aI 2))],[(1,vO 6 [(aI 0),(aI 0),(aI 0),(aI 0),(aI 0),(aI 0)])],291⟩ (C_10 125332) [] [] (kp [4,5]) (kq [1]) 291 [0 < 1] ⟨o1,trivial⟩ ?_
    obtain rfl:=Option.some.inj h
    refine sW hE ⟨[(4,(.op 16 0 0)),(5,(aI 2))],[(16,vO 6 [(aI 0),(aI 0),(aI 0),(aI 0),(aI 0),(aI 0)])],291⟩ [] (kp [4,5]) [(16,.keep 1)] 291 [] trivial ?_
    exact sT Tryz.f44 [16] [0 < 1] ⟨o1,trivial⟩
   ·have h:=condF h hq4
    refine sA 1 [.code (C_10 15667),.inBlock 1,.code (C_10 1959),.inLoop (C_10 244),.inBlock 0,.code (C_10 31)] ?_
    obtain ⟨c3,h⟩:=ifSome h
    refine sR hE ⟨[(2,(.op 0 0 0)),(4,(.op 1 0 0)),(6,(.op 2 0 0)),(16,(encL cI 0 steps)),(17,(aI ((steps.length:Nat):Int))),(18,(aI x))],[(0,vO 5 (TPn.cells p)),(1,vO 6 [(aI 0),(aI 0),(aI 0),(aI 0),(aI 0),(aI 0)]),(2,vO 6 [(aI (setI ((x).toNat) 0 (steps.getD ((x).toNat) 0) out.e0)),(aI (setI ((x).toNat) 1 (steps.getD ((x).toNat) 0) out.e1)),(aI (setI ((x).toNat) 2 (steps.getD ((x).toNat) 0) out.e2)),(aI (setI ((x).toNat) 3 (steps.getD ((x).toNat) 0) out.e3)),(aI (setI ((x).toNat) 4 (steps.getD ((x).toNat) 0) out.e4)),(aI (setI ((x).toNat) 5 (steps.getD ((x).toNat) 0) out.e5))])],307⟩ (C_10 15667) [] [] (kp [2,4,6,16,17,18]) (kq [0,1,2]) 307 [0≤x∧x < ((6:Nat):Int),0 < 1] ⟨c3,o1,trivial⟩ ?_
    refine sA 1 [.code (C_10 1959),.inLoop (C_10 244),.inBlock 0,.code (C_10 31)] ?_
    refine sR hE ⟨[(2,(.op 0 0 0)),(4,(.op 1 0 0)),(6,(.op 2 0 0)),(16,(encL cI 0 steps)),(17,(aI ((steps.length:Nat):Int))),(18,(aI (w64 (x+1))))],[(0,vO 5 (TPn.cells p)),(1,vO 6 [(aI 0),(aI 0),(aI 0),(aI 0),(aI 0),(aI 0)]),(2,vO 6 [(aI (setI ((x).toNat) 0 (steps.getD ((x).toNat) 0) out.e0)),(aI (setI ((x).toNat) 1 (steps.getD ((x).toNat) 0) out.e1)),(aI (setI ((x).toNat) 2 (steps.getD ((x).toNat) 0) out.e2)),(aI (setI ((x).toNat) 3 (steps.getD ((x).toNat) 0) out.e3)),(aI (setI ((x).toNat) 4 (steps.getD ((x).toNat) 0) out.e4)),(aI (setI ((x).toNat) 5 (steps.getD ((x).toNat) 0) out.e5))])],339⟩ (C_10 1959) [] [] (kp [2,4,6,16,17,18]) (kq [0,1,2]) 339 [] trivial ?_
    refine sA 1 [.code (C_10 244),.inLoop (C_10 244),.inBlock 0,.code (C_10 31)] ?_
    exact sW hE _ [] (kp [2,4,6,16,17,18]) (kq [0,1,2]) 3 [] trivial (ih (⟨(setI ((x).toNat) 0 (steps.getD ((x).toNat) 0) out.e0),(setI ((x).toNat) 1 (steps.getD ((x).toNat) 0) out.e1),(setI ((x).toNat) 2 (steps.getD ((x).toNat) 0) out.e2),(setI ((x).toNat) 3 (steps.getD ((x).toNat) 0) out.e3),(setI ((x).toNat) 4 (steps.getD ((x).toNat) 0) out.e4),(setI ((x).toNat) 5 (steps.getD ((x).toNat) 0) out.e5)⟩:Tw_state) (w64 (x+1)) _ h E hE)
  ·have h:=condF h hq3
   refine sA 2 [.code (C_10 62),.code (C_10 63)] ?_
   refine sR hE ⟨[(4,(.op 1 0 0)),(5,(aI 0))],[(1,vO 6 (Tw_state.cells out))],67⟩ (C_10 62) [] [] (kp [4,5]) (kq [1]) 67 [0 < 1,0 < 1] ⟨o1,o1,trivial⟩ ?_
   obtain rfl:=Option.some.inj h
   refine sW hE ⟨[(4,(.op 16 0 0)),(5,(aI 0))],[(16,vO 6 (Tw_state.cells out))],67⟩ [] (kp [4,5]) [(16,.keep 1)] 67 [] trivial ?_
   exact sT Tryz.f44 [16] [0 < 1] ⟨o1,trivial⟩
theorem g_w_checkSteps_ok (N:Nat) (p:TPn) (steps:List Int) (r:Tw_state×Int) (h:g_w_checkSteps N p steps=some r):Sd 44 [(.agg (TPn.cells p)),(encL cI 0 steps)] [] 0 (.tup [(.agg (Tw_state.cells r.1)),(aI r.2)]) []:=by
 unfold g_w_checkSteps at h
 refine Sound.of_runs (fu:=Tryz.f44) (c:=C_10 1) (nt:=38) (by kernel_rfl) (by kernel_rfl) (by kernel_rfl) (by kernel_rfl) (fun hm=>rfl) ?_
 intro E hE
 refine sA 1 [.code (C_10 2),.code (C_10 3)] ?_
 refine sR hE ⟨[(1,(encL cI 0 steps)),(2,(.op 0 0 0)),(4,(.op 16 0 0))],[(0,vO 5 (TPn.cells p)),(16,vO 6 [(aI 0),(aI 0),(aI 0),(aI 0),(aI 0),(aI 0)])],48⟩ (C_10 2) [] [] (kp [1,2,4]) (kq [0,16]) 48 [] trivial ?_
 refine sA 1 [.code (C_10 6),.code (C_10 7)] ?_
 refine sR hE ⟨[(1,(encL cI 0 steps)),(2,(.op 0 0 0)),(4,(.op 16 0 0)),(6,(.op 48 0 0))],[(0,vO 5 (TPn.cells p)),(16,vO 6 [(aI 0),(aI 0),(aI 0),(aI 0),(aI 0),(aI 0)]),(48,vO 6 [(aI 0),(aI 0),(aI 0),(aI 0),(aI 0),(aI 0)])],64⟩ (C_10 6) [] [] (kp [1,2,4,6]) (kq [0,16,48]) 64 [] trivial ?_
 refine sA 2 [.code (C_10 28),.code (C_10 29),.code (C_10 15)] ?_
 refine sR hE ⟨[(1,(encL cI 0 steps)),(2,(.op 0 0 0)),(4,(.op 16 0 0)),(6,(.op 48 0 0)),(14,(aB (((steps.length:Nat):Int) != ((p.fTk.length:Nat):Int))))],[(0,vO 5 (TPn.cells p)),(16,vO 6 [(aI 0),(aI 0),(aI 0),(aI 0),(aI 0),(aI 0)]),(48,vO 6 [(aI 0),(aI 0),(aI 0),(aI 0),(aI 0),(aI 0)])],160⟩ (C_10 28) [] [] (kp [1,2,4,6,14]) (kq [0,16,48]) 160 [0 < 1] ⟨o1,trivial⟩ ?_
 refine sC 14 (C_10 58) (C_10 59) (((steps.length:Nat):Int) != ((p.fTk.length:Nat):Int)) (fun hq2=>?_) (fun hq2=>?_)
 ·have h:=condT h hq2
  refine sA 1 [.code (C_10 116),.code (C_10 117),.code (C_10 15)] ?_
  refine sR hE ⟨[(4,(.op 16 0 0)),(5,(aI 11))],[(16,vO 6 [(aI 0),(aI 0),(aI 0),(aI 0),(aI 0),(aI 0)])],208⟩ (C_10 116) [] [] (kp [4,5]) (kq [16]) 208 [0 < 1,0 < 1] ⟨o1,o1,trivial⟩ ?_
  obtain rfl:=Option.some.inj h
  refine sW hE ⟨[(4,(.op 16 0 0)),(5,(aI 11))],[(16,vO 6 [(aI 0),(aI 0),(aI 0),(aI 0),(aI 0),(aI 0)])],208⟩ [] (kp [4,5]) (kq [16]) 208 [] trivial ?_
  exact sT Tryz.f44 [16] [0 < 1] ⟨o1,trivial⟩
 ·have h:=condF h hq2
  refine sA 3 [.code (C_10 60),.code (C_10 61),.code (C_10 31)] ?_
  refine sR hE ⟨[(2,(.op 0 0 0)),(4,(.op 16 0 0)),(6,(.op 48 0 0)),(16,(encL cI 0 steps)),(17,(aI ((steps.length:Nat):Int))),(18,(aI 0))],[(0,vO 5 (TPn.cells p)),(16,vO 6 [(aI 0),(aI 0),(aI 0),(aI 0),(aI 0),(aI 0)]),(48,vO 6 [(aI 0),(aI 0),(aI 0),(aI 0),(aI 0),(aI 0)])],208⟩ (C_10 60) [] [] (kp [2,4,6,16,17,18]) (kq [0,16,48]) 208 [] trivial ?_
  refine sA 2 [.code (C_10 244),.inLoop (C_10 244),.inBlock 0,.code (C_10 31)] ?_
  exact sW hE _ [] (kp [2,4,6,16,17,18]) (kq [0] ++ [(1,.keep 16),(2,.keep 48)]) 3 [] trivial (g_w_checkSteps_L1_ok N p steps N (⟨0,0,0,0,0,0⟩:Tw_state) 0 _ h E hE)
noncomputable def C_12 (n:Nat):Code:=cat (bodyOf Tryz.f65) (pth n)
theorem g_w_sumOf_1_ok (N:Nat) (x:Int) (y:Int) (mass:Int) (cap0:Tw_sums) (r:Tw_sums) (h:g_w_sumOf_1 N x y mass cap0=some r):Sd 65 [(aI x),(aI y),(aI mass),(.op 0 0 0)] [(0,vO 4 (Tw_sums.cells cap0))] 1 (.tup []) [(0,vO 4 (Tw_sums.cells r))]:=by
 unfold g_w_sumOf_1 at h
 refine Sound.of_runs (fu:=Tryz.f65) (c:=C_12 1) (nt:=36) (by kernel_rfl) (by kernel_rfl) (by kernel_rfl) (by kernel_rfl) (fun hm=>absurd hm (by decide)) ?_
 intro E hE
 refine sA 1 [.code (C_12 2),.code (C_12 3)] ?_
 refine sR hE ⟨[(0,(aI x)),(1,(aI y)),(2,(aI mass)),(3,(.op 0 0 0))],[(0,vO 4 [(aI (w64 (cap0.f_mass+mass))),(aI cap0.f_x),(aI cap0.f_y),(aI cap0.f_arm)])],97⟩ (C_12 2) [] [] (kp [0,1,2,3]) (kq [0]) 97 [0 < 1,0 < 1] ⟨o1,o1,trivial⟩ ?_
 refine sA 1 [.code (C_12 6),.code (C_12 7)] ?_
 refine sR hE ⟨[(0,(aI x)),(1,(aI y)),(2,(aI mass)),(3,(.op 0 0 0))],[(0,vO 4 [(aI (w64 (cap0.f_mass+mass))),(aI (w64 (cap0.f_x+(w64 (mass * x))))),(aI cap0.f_y),(aI cap0.f_arm)])],225⟩ (C_12 6) [] [] (kp [0,1,2,3]) (kq [0]) 225 [0 < 1,0 < 1] ⟨o1,o1,trivial⟩ ?_
 refine sA 1 [.code (C_12 14),.code (C_12 15)] ?_
 refine sR hE ⟨[(0,(aI x)),(2,(aI mass)),(3,(.op 0 0 0))],[(0,vO 4 [(aI (w64 (cap0.f_mass+mass))),(aI (w64 (cap0.f_x+(w64 (mass * x))))),(aI (w64 (cap0.f_y+(w64 (mass * y))))),(aI cap0.f_arm)])],353⟩ (C_12 14) [] [] (kp [0,2,3]) (kq [0]) 353 [0 < 1,0 < 1] ⟨o1,o1,trivial⟩ ?_
 refine sR hE ⟨[],[(0,vO 4 [(aI (w64 (cap0.f_mass+mass))),(aI (w64 (cap0.f_x+(w64 (mass * x))))),(aI (w64 (cap0.f_y+(w64 (mass * y))))),(aI (w64 (cap0.f_arm+(w64 (mass * (if (w64 (0 - x)) > x then (w64 (0 - x)) else x))))))])],529⟩ (C_12 15) [] [] [] (kq [0]) 529 [0 < 1,0 < 1] ⟨o1,o1,trivial⟩ ?_
 obtain rfl:=Option.some.inj h
 refine sW hE ⟨[],[(0,vO 4 [(aI (w64 (cap0.f_mass+mass))),(aI (w64 (cap0.f_x+(w64 (mass * x))))),(aI (w64 (cap0.f_y+(w64 (mass * y))))),(aI (w64 (cap0.f_arm+(w64 (mass * (if (w64 (0 - x)) > x then (w64 (0 - x)) else x))))))])],529⟩ [] [] (kq [0]) 529 [] trivial ?_
 exact sF Tryz.f65 [] [] trivial
noncomputable def C_11 (n:Nat):Code:=cat (bodyOf Tryz.f45) (pth n)
theorem g_w_sumOf_L2_ok (N:Nat) (p:TPn) (s:Tw_state) (fuel:Nat):∀ (out2:Tw_sums) (x2:Int) (r:Tw_sums),g_w_sumOf_L2 N p s fuel out2 x2=some r→∀ E,EnvOk E 0→Runs Tryz.prog E 45 50 (SPost E [] (.agg (Tw_sums.cells r))) [.code (C_11 500),.inLoop (C_11 500),.inBlock 2,.code (C_11 63)] ⟨[(3,(.op 0 0 0)),(4,(.op 1 0 0)),(5,(.op 2 0 0)),(6,(.fn (.func 65) [] [(.op 2 0 0)])),(29,(encL TTank.cells TTank.d p.fTk)),(30,(aI ((p.fTk.length:Nat):Int))),(31,(aI x2))],[(0,vO 6 (Tw_state.cells s)),(1,vO 4 [(aI 0),(aI 0),(aI 0),(aI 0)]),(2,vO 4 (Tw_sums.cells out2))],3⟩:=by
 induction fuel with
 | zero=>intro _ _ r h;rw [g_w_sumOf_L2.eq_1] at h;cases h
 | succ fuel ih =>
  intro out2 x2 r h E hE
  rw [g_w_sumOf_L2.eq_2] at h
  refine sA 1 [.code (C_11 1000),.code (C_11 1001),.inLoop (C_11 500),.inBlock 2,.code (C_11 63)] ?_
  refine sR hE ⟨[(3,(.op 0 0 0)),(4,(.op 1 0 0)),(5,(.op 2 0 0)),(6,(.fn (.func 65) [] [(.op 2 0 0)])),(29,(encL TTank.cells TTank.d p.fTk)),(30,(aI ((p.fTk.length:Nat):Int))),(31,(aI x2)),(32,(aB (decide (x2 < ((p.fTk.length:Nat):Int)))))],[(0,vO 6 (Tw_state.cells s)),(1,vO 4 [(aI 0),(aI 0),(aI 0),(aI 0)]),(2,vO 4 (Tw_sums.cells out2))],19⟩ (C_11 1000) [] [] (kp [3,4,5,6,29,30,31,32]) (kq [0,1,2]) 19 [] trivial ?_
  refine sA 1 [.code (C_11 2002),.code (C_11 2003),.inLoop (C_11 500),.inBlock 2,.code (C_11 63)] ?_
  refine sC 32 (C_11 4004) (C_11 4005) (decide (x2 < ((p.fTk.length:Nat):Int))) (fun hq3=>?_) (fun hq3=>?_)
  ·have h:=condT h hq3
   refine sA 4 [.code (C_11 16024),.code (C_11 16025),.inBlock 3,.code (C_11 4007),.inLoop (C_11 500),.inBlock 2,.code (C_11 63)] ?_
   obtain ⟨c2,h⟩:=ifSome h
   refine sR hE ⟨[(3,(.op 0 0 0)),(4,(.op 1 0 0)),(5,(.op 2 0 0)),(6,(.fn (.func 65) [] [(.op 2 0 0)])),(9,(aI x2)),(10,(.op 67 0 0)),(29,(encL TTank.cells TTank.d p.fTk)),(30,(aI ((p.fTk.length:Nat):Int))),(31,(aI x2))],[(0,vO 6 (Tw_state.cells s)),(1,vO 4 [(aI 0),(aI 0),(aI 0),(aI 0)]),(2,vO 4 (Tw_sums.cells out2)),(67,vO 5 (TTank.cells (p.fTk.getD ((x2).toNat) TTank.d)))],115⟩ (C_11 16024) [] [] (kp [3,4,5,6,9,10,29,30,31]) (kq [0,1,2,67]) 115 [0≤x2∧x2 < ((p.fTk.length:Nat):Int),0 < 1] ⟨c2,o1,trivial⟩ ?_
   obtain ⟨c3,h⟩:=ifSome h
   obtain ⟨rsumOf12,hr2,h⟩:=bindSome h
   refine sR hE ⟨[(3,(.op 0 0 0)),(4,(.op 1 0 0)),(5,(.op 2 0 0)),(6,(.fn (.func 65) [] [(.op 2 0 0)])),(29,(encL TTank.cells TTank.d p.fTk)),(30,(aI ((p.fTk.length:Nat):Int))),(31,(aI x2))],[(0,vO 6 (Tw_state.cells s)),(1,vO 4 [(aI 0),(aI 0),(aI 0),(aI 0)]),(2,vO 4 (Tw_sums.cells rsumOf12))],307⟩ (C_11 16025) [(11,⟨[2],false,(.tup []),[(0,vO 4 (Tw_sums.cells rsumOf12))],0,false,none⟩)] [] (kp [3,4,5,6,29,30,31]) (kq [0,1,2]) 307 [0 < 1,0 < 1,0≤x2∧x2 < ((6:Nat):Int),0 < 1,0 < 1,Sd 65 [(aI ((p.fTk.getD ((x2).toNat) TTank.d).f_X)),(aI ((p.fTk.getD ((x2).toNat) TTank.d).f_Y)),(aI (w64 ((pickI [s.e0,s.e1,s.e2,s.e3,s.e4,s.e5] ((x2).toNat)) * (p.fTk.getD ((x2).toNat) TTank.d).fMa))),(.op 0 0 0)] [(0,vO 4 (Tw_sums.cells out2))] 1 (.tup []) [(0,vO 4 (Tw_sums.cells rsumOf12))]] ⟨o1,o1,c3,o1,o1,(g_w_sumOf_1_ok N ((p.fTk.getD ((x2).toNat) TTank.d).f_X) ((p.fTk.getD ((x2).toNat) TTank.d).f_Y) (w64 ((pickI [s.e0,s.e1,s.e2,s.e3,s.e4,s.e5] ((x2).toNat)) * (p.fTk.getD ((x2).toNat) TTank.d).fMa)) out2 rsumOf12 hr2),trivial⟩ ?_
   refine sA 1 [.code (C_11 4007),.inLoop (C_11 500),.inBlock 2,.code (C_11 63)] ?_
   refine sR hE ⟨[(3,(.op 0 0 0)),(4,(.op 1 0 0)),(5,(.op 2 0 0)),(6,(.fn (.func 65) [] [(.op 2 0 0)])),(29,(encL TTank.cells TTank.d p.fTk)),(30,(aI ((p.fTk.length:Nat):Int))),(31,(aI (w64 (x2+1))))],[(0,vO 6 (Tw_state.cells s)),(1,vO 4 [(aI 0),(aI 0),(aI 0),(aI 0)]),(2,vO 4 (Tw_sums.cells rsumOf12))],339⟩ (C_11 4007) [] [] (kp [3,4,5,6,29,30,31]) (kq [0,1,2]) 339 [] trivial ?_
   refine sA 1 [.code (C_11 500),.inLoop (C_11 500),.inBlock 2,.code (C_11 63)] ?_
   exact sW hE _ [] (kp [3,4,5,6,29,30,31]) (kq [0,1,2]) 3 [] trivial (ih rsumOf12 (w64 (x2+1)) _ h E hE)
  ·have h:=condF h hq3
   refine sA 2 [.code (C_11 126),.code (C_11 127)] ?_
   refine sR hE ⟨[(4,(.op 1 0 0))],[(1,vO 4 (Tw_sums.cells out2))],51⟩ (C_11 126) [] [] (kp [4]) (kq [1]) 51 [0 < 1,0 < 1] ⟨o1,o1,trivial⟩ ?_
   obtain rfl:=Option.some.inj h
   refine sW hE ⟨[(4,(.op 16 0 0))],[(16,vO 4 (Tw_sums.cells out2))],51⟩ [] (kp [4]) [(16,.keep 1)] 51 [] trivial ?_
   exact sT Tryz.f45 [16] [0 < 1] ⟨o1,trivial⟩
theorem g_w_sumOf_L1_ok (N:Nat) (p:TPn) (s:Tw_state) (fuel:Nat):∀ (out:Tw_sums) (x:Int) (r:Tw_sums),g_w_sumOf_L1 N p s fuel out x=some r→∀ E,EnvOk E 0→Runs Tryz.prog E 45 50 (SPost E [] (.agg (Tw_sums.cells r))) [.code (C_11 244),.inLoop (C_11 244),.inBlock 0,.code (C_11 31)] ⟨[(2,(.op 0 0 0)),(3,(.op 1 0 0)),(4,(.op 2 0 0)),(5,(.op 3 0 0)),(6,(.fn (.func 65) [] [(.op 3 0 0)])),(13,(encL TPm.cells TPm.d p.fMs)),(14,(aI ((p.fMs.length:Nat):Int))),(15,(aI x))],[(0,vO 5 (TPn.cells p)),(1,vO 6 (Tw_state.cells s)),(2,vO 4 [(aI 0),(aI 0),(aI 0),(aI 0)]),(3,vO 4 (Tw_sums.cells out))],4⟩:=by
 induction fuel with
 | zero=>intro _ _ r h;rw [g_w_sumOf_L1.eq_1] at h;cases h
 | succ fuel ih =>
  intro out x r h E hE
  rw [g_w_sumOf_L1.eq_2] at h
  refine sA 1 [.code (C_11 488),.code (C_11 489),.inLoop (C_11 244),.inBlock 0,.code (C_11 31)] ?_
  refine sR hE ⟨[(2,(.op 0 0 0)),(3,(.op 1 0 0)),(4,(.op 2 0 0)),(5,(.op 3 0 0)),(6,(.fn (.func 65) [] [(.op 3 0 0)])),(13,(encL TPm.cells TPm.d p.fMs)),(14,(aI ((p.fMs.length:Nat):Int))),(15,(aI x)),(16,(aB (decide (x < ((p.fMs.length:Nat):Int)))))],[(0,vO 5 (TPn.cells p)),(1,vO 6 (Tw_state.cells s)),(2,vO 4 [(aI 0),(aI 0),(aI 0),(aI 0)]),(3,vO 4 (Tw_sums.cells out))],20⟩ (C_11 488) [] [] (kp [2,3,4,5,6,13,14,15,16]) (kq [0,1,2,3]) 20 [] trivial ?_
  refine sA 1 [.code (C_11 978),.code (C_11 979),.inLoop (C_11 244),.inBlock 0,.code (C_11 31)] ?_
  refine sC 16 (C_11 1956) (C_11 1957) (decide (x < ((p.fMs.length:Nat):Int))) (fun hq2=>?_) (fun hq2=>?_)
  ·have h:=condT h hq2
   refine sA 4 [.code (C_11 7832),.code (C_11 7833),.inBlock 1,.code (C_11 1959),.inLoop (C_11 244),.inBlock 0,.code (C_11 31)] ?_
   obtain ⟨c,h⟩:=ifSome h
   refine sR hE ⟨[(2,(.op 0 0 0)),(3,(.op 1 0 0)),(4,(.op 2 0 0)),(5,(.op 3 0 0)),(6,(.fn (.func 65) [] [(.op 3 0 0)])),(8,(.op 52 0 0)),(13,(encL TPm.cells TPm.d p.fMs)),(14,(aI ((p.fMs.length:Nat):Int))),(15,(aI x))],[(0,vO 5 (TPn.cells p)),(1,vO 6 (Tw_state.cells s)),(2,vO 4 [(aI 0),(aI 0),(aI 0),(aI 0)]),(3,vO 4 (Tw_sums.cells out)),(52,vO 3 (TPm.cells (p.fMs.getD ((x).toNat) TPm.d)))],84⟩ (C_11 7832) [] [] (kp [2,3,4,5,6,8,13,14,15]) (kq [0,1,2,3,52]) 84 [0≤x∧x < ((p.fMs.length:Nat):Int),0 < 1] ⟨c,o1,trivial⟩ ?_
   obtain ⟨rsumOf1,hr,h⟩:=bindSome h
   refine sR hE ⟨[(2,(.op 0 0 0)),(3,(.op 1 0 0)),(4,(.op 2 0 0)),(5,(.op 3 0 0)),(6,(.fn (.func 65) [] [(.op 3 0 0)])),(13,(encL TPm.cells TPm.d p.fMs)),(14,(aI ((p.fMs.length:Nat):Int))),(15,(aI x))],[(0,vO 5 (TPn.cells p)),(1,vO 6 (Tw_state.cells s)),(2,vO 4 [(aI 0),(aI 0),(aI 0),(aI 0)]),(3,vO 4 (Tw_sums.cells rsumOf1))],212⟩ (C_11 7833) [(7,⟨[3],false,(.tup []),[(0,vO 4 (Tw_sums.cells rsumOf1))],0,false,none⟩)] [] (kp [2,3,4,5,6,13,14,15]) (kq [0,1,2,3]) 212 [0 < 1,0 < 1,0 < 1,Sd 65 [(aI ((p.fMs.getD ((x).toNat) TPm.d).f_X)),(aI ((p.fMs.getD ((x).toNat) TPm.d).f_Y)),(aI ((p.fMs.getD ((x).toNat) TPm.d).fMa)),(.op 0 0 0)] [(0,vO 4 (Tw_sums.cells out))] 1 (.tup []) [(0,vO 4 (Tw_sums.cells rsumOf1))]] ⟨o1,o1,o1,(g_w_sumOf_1_ok N ((p.fMs.getD ((x).toNat) TPm.d).f_X) ((p.fMs.getD ((x).toNat) TPm.d).f_Y) ((p.fMs.getD ((x).toNat) TPm.d).fMa) out rsumOf1 hr),trivial⟩ ?_
   refine sA 1 [.code (C_11 1959),.inLoop (C_11 244),.inBlock 0,.code (C_11 31)] ?_
   refine sR hE ⟨[(2,(.op 0 0 0)),(3,(.op 1 0 0)),(4,(.op 2 0 0)),(5,(.op 3 0 0)),(6,(.fn (.func 65) [] [(.op 3 0 0)])),(13,(encL TPm.cells TPm.d p.fMs)),(14,(aI ((p.fMs.length:Nat):Int))),(15,(aI (w64 (x+1))))],[(0,vO 5 (TPn.cells p)),(1,vO 6 (Tw_state.cells s)),(2,vO 4 [(aI 0),(aI 0),(aI 0),(aI 0)]),(3,vO 4 (Tw_sums.cells rsumOf1))],244⟩ (C_11 1959) [] [] (kp [2,3,4,5,6,13,14,15]) (kq [0,1,2,3]) 244 [] trivial ?_
   refine sA 1 [.code (C_11 244),.inLoop (C_11 244),.inBlock 0,.code (C_11 31)] ?_
   exact sW hE _ [] (kp [2,3,4,5,6,13,14,15]) (kq [0,1,2,3]) 4 [] trivial (ih rsumOf1 (w64 (x+1)) _ h E hE)
  ·have h:=condF h hq2
   refine sA 3 [.code (C_11 124),.code (C_11 125),.code (C_11 63)] ?_
   refine sR hE ⟨[(3,(.op 1 0 0)),(4,(.op 2 0 0)),(5,(.op 3 0 0)),(6,(.fn (.func 65) [] [(.op 3 0 0)])),(29,(encL TTank.cells TTank.d p.fTk)),(30,(aI ((p.fTk.length:Nat):Int))),(31,(aI 0))],[(1,vO 6 (Tw_state.cells s)),(2,vO 4 [(aI 0),(aI 0),(aI 0),(aI 0)]),(3,vO 4 (Tw_sums.cells out))],84⟩ (C_11 124) [] [] (kp [3,4,5,6,29,30,31]) (kq [1,2,3]) 84 [0 < 1] ⟨o1,trivial⟩ ?_
   refine sA 2 [.code (C_11 500),.inLoop (C_11 500),.inBlock 2,.code (C_11 63)] ?_
   exact sW hE _ [] (kp [3,4,5,6,29,30,31]) [(0,.keep 1),(1,.keep 2),(2,.keep 3)] 3 [] trivial (g_w_sumOf_L2_ok N p s N out 0 _ h E hE)
theorem g_w_sumOf_ok (N:Nat) (p:TPn) (s:Tw_state) (r:Tw_sums) (h:g_w_sumOf N p s=some r):Sd 45 [(.agg (TPn.cells p)),(.agg (Tw_state.cells s))] [] 0 (.agg (Tw_sums.cells r)) []:=by
 unfold g_w_sumOf at h
 refine Sound.of_runs (fu:=Tryz.f45) (c:=C_11 1) (nt:=50) (by kernel_rfl) (by kernel_rfl) (by kernel_rfl) (by kernel_rfl) (fun hm=>rfl) ?_
 intro E hE
 refine sA 1 [.code (C_11 2),.code (C_11 3)] ?_
 refine sR hE ⟨[(2,(.op 0 0 0)),(3,(.op 16 0 0)),(4,(.op 32 0 0))],[(0,vO 5 (TPn.cells p)),(16,vO 6 (Tw_state.cells s)),(32,vO 4 [(aI 0),(aI 0),(aI 0),(aI 0)])],48⟩ (C_11 2) [] [] (kp [2,3,4]) (kq [0,16,32]) 48 [] trivial ?_
 refine sA 1 [.code (C_11 6),.code (C_11 7)] ?_
 refine sR hE ⟨[(2,(.op 0 0 0)),(3,(.op 16 0 0)),(4,(.op 32 0 0)),(5,(.op 48 0 0))],[(0,vO 5 (TPn.cells p)),(16,vO 6 (Tw_state.cells s)),(32,vO 4 [(aI 0),(aI 0),(aI 0),(aI 0)]),(48,vO 4 [(aI 0),(aI 0),(aI 0),(aI 0)])],64⟩ (C_11 6) [] [] (kp [2,3,4,5]) (kq [0,16,32,48]) 64 [] trivial ?_
 refine sA 1 [.code (C_11 14),.code (C_11 15)] ?_
 refine sR hE ⟨[(2,(.op 0 0 0)),(3,(.op 16 0 0)),(4,(.op 32 0 0)),(5,(.op 48 0 0)),(6,(.fn (.func 65) [] [(.op 48 0 0)]))],[(0,vO 5 (TPn.cells p)),(16,vO 6 (Tw_state.cells s)),(32,vO 4 [(aI 0),(aI 0),(aI 0),(aI 0)]),(48,vO 4 [(aI 0),(aI 0),(aI 0),(aI 0)])],96⟩ (C_11 14) [] [] (kp [2,3,4,5,6]) (kq [0,16,32,48]) 96 [] trivial ?_
 refine sA 2 [.code (C_11 60),.code (C_11 61),.code (C_11 31)] ?_
 refine sR hE ⟨[(2,(.op 0 0 0)),(3,(.op 16 0 0)),(4,(.op 32 0 0)),(5,(.op 48 0 0)),(6,(.fn (.func 65) [] [(.op 48 0 0)])),(13,(encL TPm.cells TPm.d p.fMs)),(14,(aI ((p.fMs.length:Nat):Int))),(15,(aI 0))],[(0,vO 5 (TPn.cells p)),(16,vO 6 (Tw_state.cells s)),(32,vO 4 [(aI 0),(aI 0),(aI 0),(aI 0)]),(48,vO 4 [(aI 0),(aI 0),(aI 0),(aI 0)])],160⟩ (C_11 60) [] [] (kp [2,3,4,5,6,13,14,15]) (kq [0,16,32,48]) 160 [0 < 1] ⟨o1,trivial⟩ ?_
 refine sA 2 [.code (C_11 244),.inLoop (C_11 244),.inBlock 0,.code (C_11 31)] ?_
 exact sW hE _ [] (kp [2,3,4,5,6,13,14,15]) (kq [0] ++ [(1,.keep 16),(2,.keep 32),(3,.keep 48)]) 4 [] trivial (g_w_sumOf_L1_ok N p s N (⟨0,0,0,0⟩:Tw_sums) 0 _ h E hE)
noncomputable def C_15 (n:Nat):Code:=cat (bodyOf Tryz.f93) (pth n)
theorem g_e_natural_L1_ok (N:Nat) (fuel:Nat):∀ (n2:Int) (out:List Int) (r:(List Int)),g_e_natural_L1 N fuel n2 out=some r→∀ E,EnvOk E 0→Runs Tryz.prog E 93 14 (SPost E [] (eU r)) [.code (C_15 56),.inLoop (C_15 56),.inBlock 0,.code (C_15 15)] ⟨[(0,(a64 n2)),(3,(.os 0 0 out.length))],[(0,aU out)],1⟩:=by
 induction fuel with
 | zero=>intro _ _ r h;rw [g_e_natural_L1.eq_1] at h;cases h
 | succ fuel ih =>
  intro n2 out r h E hE
  rw [g_e_natural_L1.eq_2] at h
  refine sA 2 [.code (C_15 224),.code (C_15 225),.code (C_15 113),.inLoop (C_15 56),.inBlock 0,.code (C_15 15)] ?_
  refine sR hE ⟨[(0,(a64 n2)),(3,(.os 0 0 out.length)),(5,(aB (decide (n2 > 0))))],[(0,aU out)],33⟩ (C_15 224) [] [] (kp [0,3,5]) (kq [0]) 33 [] trivial ?_
  refine sC 5 (C_15 450) (C_15 451) (decide (n2 > 0)) (fun hq2=>?_) (fun hq2=>?_)
  ·have h:=condT h hq2
   refine sA 3 [.code (C_15 452),.inBlock 1,.code (C_15 227),.inLoop (C_15 56),.inBlock 0,.code (C_15 15)] ?_
   obtain ⟨c,h⟩:=ifSome h
   refine sR hE ⟨[(0,(a64 n2)),(3,(.os 97 0 ((out ++ ([(IntKind.u16.wrap (n2))]:List Int)).length)))],[(97,aU (out ++ ([(IntKind.u16.wrap (n2))]:List Int)))],129⟩ (C_15 452) [] [] (kp [0] ++ [(3,.osl ((out ++ ([(IntKind.u16.wrap (n2))]:List Int)).length))]) [(97,.arr 97 ((out ++ ([(IntKind.u16.wrap (n2))]:List Int)).length) (fun zi=>(cU .u16) ((out ++ ([(IntKind.u16.wrap (n2))]:List Int)).getD zi 0)))] 129 [out.length=out.length,(out.length+1) * 2≤140737488355328,0+1≤1,∀ zi,zi < 1→AV.oneL ((fun zi=>([[(a16 (IntKind.u16.wrap (n2)))]]:List (List AV)).getD zi []) (addz 0 zi))=true,(out.length+1)=(out ++ ([(IntKind.u16.wrap (n2))]:List Int)).length,out.length+1=(out ++ ([(IntKind.u16.wrap (n2))]:List Int)).length,∀ zi,zi < (out ++ ([(IntKind.u16.wrap (n2))]:List Int)).length→(fun zi=>(cU .u16) ((out ++ ([(IntKind.u16.wrap (n2))]:List Int)).getD zi 0)) zi=((fun zm=>if zm < out.length then (fun zi=>(cU .u16) (out.getD zi 0)) zm else (fun zi=>([[(a16 (IntKind.u16.wrap (n2)))]]:List (List AV)).getD zi []) (zm - out.length))) zi] ⟨rfl,c,z0,(oneN rfl),(len_app_raw rfl rfl),(len_app_raw rfl rfl),(get_app_raw (cU .u16) 0 out ([(IntKind.u16.wrap (n2))]:List Int) rfl (fun _ _=>rfl) (fun zq hzq=>get_chunk (cU .u16) 0 ([(IntKind.u16.wrap (n2))]:List Int) zq hzq)),trivial⟩ ?_
   refine sA 1 [.code (C_15 227),.inLoop (C_15 56),.inBlock 0,.code (C_15 15)] ?_
   refine sR hE ⟨[(0,(a64 (shrI .u64 n2 16))),(3,(.os 97 0 ((out ++ ([(IntKind.u16.wrap (n2))]:List Int)).length)))],[(97,aU (out ++ ([(IntKind.u16.wrap (n2))]:List Int)))],177⟩ (C_15 227) [] [] (kp [0,3]) (kq [97]) 177 [(0:Int)≤16] ⟨(by decide),trivial⟩ ?_
   refine sA 1 [.code (C_15 56),.inLoop (C_15 56),.inBlock 0,.code (C_15 15)] ?_
   exact sW hE _ [] (kp [0,3]) [(0,.keep 97)] 1 [] trivial (ih (shrI .u64 n2 16) (out ++ ([(IntKind.u16.wrap (n2))]:List Int)) _ h E hE)
  ·have h:=condF h hq2
   refine sA 2 [.code (C_15 30),.code (C_15 31)] ?_
   refine sR hE ⟨[(2,(.os 0 0 out.length))],[(0,aU out)],65⟩ (C_15 30) [] [] (kp [2]) (kq [0]) 65 [] trivial ?_
   obtain rfl:=Option.some.inj h
   refine sW hE ⟨[(2,(eU out))],[],65⟩ [0] [(2,.sl (out.length) (fun zi=>(cU .u16) (out.getD zi 0)))] [] 65 [out.length=out.length,0+out.length≤out.length,∀ zi,zi < out.length→(fun zi=>(cU .u16) (out.getD zi 0)) zi=(fun zi=>(cU .u16) (out.getD zi 0)) (addz 0 zi)] ⟨rfl,z0,(fun _ _=>rfl),trivial⟩ ?_
   exact sT Tryz.f93 [] [] trivial
theorem g_e_natural_ok (N:Nat) (n:Int) (r:(List Int)) (h:g_e_natural N n=some r):Sd 93 [(a64 n)] [] 0 (eU r) []:=by
 unfold g_e_natural at h
 refine Sound.of_runs (fu:=Tryz.f93) (c:=C_15 1) (nt:=14) (by kernel_rfl) (by kernel_rfl) (by kernel_rfl) (by kernel_rfl) (fun hm=>rfl) ?_
 intro E hE
 refine sA 1 [.code (C_15 2),.code (C_15 3)] ?_
 refine sR hE ⟨[(0,(a64 n))],[],16⟩ (C_15 2) [] [] (kp [0]) [] 16 [] trivial ?_
 refine sA 1 [.code (C_15 6),.code (C_15 7)] ?_
 refine sR hE ⟨[(0,(a64 n)),(3,.nil)],[],32⟩ (C_15 6) [] [] (kp [0,3]) [] 32 [] trivial ?_
 refine sA 3 [.code (C_15 56),.inLoop (C_15 56),.inBlock 0,.code (C_15 15)] ?_
 exact sW hE _ [] (kp [0] ++ [(3,.nilos 0)]) [(0,.nil 1 (fun zi=>(cU .u16) (([]:List Int).getD zi 0)))] 1 [] trivial (g_e_natural_L1_ok N N n ([]:List Int) _ h E hE)
noncomputable def C_17 (n:Nat):Code:=cat (bodyOf Tryz.f101) (pth n)
theorem g_e_trim_L1_ok (N:Nat) (fuel:Nat):∀ (n2:List Int) (r:(List Int)),g_e_trim_L1 N fuel n2=some r→∀ E,EnvOk E 0→Runs Tryz.prog E 101 21 (SPost E [] (eU r)) [.code (C_17 24),.inLoop (C_17 24),.inBlock 0,.code (C_17 7)] ⟨[(0,(eU n2))],[],0⟩:=by
 induction fuel with
 | zero=>intro _ r h;rw [g_e_trim_L1.eq_1] at h;cases h
 | succ fuel ih =>
  intro n2 r h E hE
  rw [g_e_trim_L1.eq_2] at h
  refine sA 2 [.code (C_17 96),.code (C_17 97),.code (C_17 49),.inLoop (C_17 24),.inBlock 0,.code (C_17 7)] ?_
  obtain ⟨c,h⟩:=ifSome h
  refine sR hE ⟨[(0,(eU n2)),(14,(aB (cond (decide (((n2.length:Nat):Int) > 0)) ((n2.getD ((w64 (((n2.length:Nat):Int) - 1)).toNat) 0) == 0) false)))],[],192⟩ (C_17 96) [] [] (kp [0,14]) [] 192 [(decide (((n2.length:Nat):Int) > 0))=true→AllP [(decide (((n2.length:Nat):Int) > 0))=true],(decide (((n2.length:Nat):Int) > 0))=true→AllP [(decide (((n2.length:Nat):Int) > 0))=true],(decide (((n2.length:Nat):Int) > 0))=true→AllP [(decide (((n2.length:Nat):Int) > 0))=true,(decide (((n2.length:Nat):Int) > 0))=true,0≤(w64 (((n2.length:Nat):Int) - 1))∧(w64 (((n2.length:Nat):Int) - 1)) < ((n2.length:Nat):Int)],(decide (((n2.length:Nat):Int) > 0))=true→AllP [(decide (((n2.length:Nat):Int) > 0))=true],(decide (((n2.length:Nat):Int) > 0))=true→AllP [(decide (((n2.length:Nat):Int) > 0))=true],(decide (((n2.length:Nat):Int) > 0))=true→AllP [(decide (((n2.length:Nat):Int) > 0))=true]] ⟨(fun hg=>⟨hg,trivial⟩),(fun hg=>⟨hg,trivial⟩),(fun hg=>⟨hg,hg,(c hg),trivial⟩),(fun hg=>⟨hg,trivial⟩),(fun hg=>⟨hg,trivial⟩),(fun hq=>⟨hq,trivial⟩),trivial⟩ ?_
  refine sC 14 (C_17 194) (C_17 195) (cond (decide (((n2.length:Nat):Int) > 0)) ((n2.getD ((w64 (((n2.length:Nat):Int) - 1)).toNat) 0) == 0) false) (fun hq2=>?_) (fun hq2=>?_)
  ·have h:=condT h hq2
   refine sA 2 [.code (C_17 98),.inBlock 1,.inLoop (C_17 24),.inBlock 0,.code (C_17 7)] ?_
   obtain ⟨c2,h⟩:=ifSome h
   obtain ⟨c3,h⟩:=ifSome h
   refine sR hE ⟨[(0,(eU ((n2.take ((w64 (((n2.length:Nat):Int) - 1)).toNat)).drop 0)))],[],288⟩ (C_17 98) [] [] [(0,.sl (((n2.take ((w64 (((n2.length:Nat):Int) - 1)).toNat)).drop 0).length) (fun zi=>(cU .u16) (((n2.take ((w64 (((n2.length:Nat):Int) - 1)).toNat)).drop 0).getD zi 0)))] [] 288 [0≤(w64 (((n2.length:Nat):Int) - 1)).toNat∧(w64 (((n2.length:Nat):Int) - 1)).toNat≤n2.length,0≤(w64 (((n2.length:Nat):Int) - 1)),(w64 (((n2.length:Nat):Int) - 1)).toNat - 0=((n2.take ((w64 (((n2.length:Nat):Int) - 1)).toNat)).drop 0).length,∀ zi,zi < ((n2.take ((w64 (((n2.length:Nat):Int) - 1)).toNat)).drop 0).length→(fun zi=>(cU .u16) (((n2.take ((w64 (((n2.length:Nat):Int) - 1)).toNat)).drop 0).getD zi 0)) zi=(fun zi=>(cU .u16) (n2.getD (addz 0 zi) 0)) zi] ⟨c2,c3,(len_ext' n2 0 ((w64 (((n2.length:Nat):Int) - 1)).toNat) c2),(fun zq hzq=>get_ext (cU .u16) 0 n2 0 ((w64 (((n2.length:Nat):Int) - 1)).toNat) zq hzq),trivial⟩ ?_
   refine sA 2 [.code (C_17 24),.inLoop (C_17 24),.inBlock 0,.code (C_17 7)] ?_
   exact sW hE _ [] (kp [0]) [] 0 [] trivial (ih ((n2.take ((w64 (((n2.length:Nat):Int) - 1)).toNat)).drop 0) _ h E hE)
  ·have h:=condF h hq2
   refine sA 2 [.code (C_17 14),.code (C_17 15)] ?_
   refine sR hE ⟨[(2,(eU n2))],[],224⟩ (C_17 14) [] [] (kp [2]) [] 224 [] trivial ?_
   obtain rfl:=Option.some.inj h
   refine sW hE ⟨[(2,(eU n2))],[],224⟩ [] (kp [2]) [] 224 [] trivial ?_
   exact sT Tryz.f101 [] [] trivial
theorem g_e_trim_ok (N:Nat) (n:List Int) (r:(List Int)) (h:g_e_trim N n=some r):Sd 101 [(eU n)] [] 0 (eU r) []:=by
 unfold g_e_trim at h
 refine Sound.of_runs (fu:=Tryz.f101) (c:=C_17 1) (nt:=21) (by kernel_rfl) (by kernel_rfl) (by kernel_rfl) (by kernel_rfl) (fun hm=>rfl) ?_
 intro E hE
 refine sA 1 [.code (C_17 2),.code (C_17 3)] ?_
 refine sR hE ⟨[(0,(eU n))],[],16⟩ (C_17 2) [] [] (kp [0]) [] 16 [] trivial ?_
 refine sA 3 [.code (C_17 24),.inLoop (C_17 24),.inBlock 0,.code (C_17 7)] ?_
 exact sW hE _ [] (kp [0]) [] 0 [] trivial (g_e_trim_L1_ok N N n _ h E hE)
noncomputable def C_18 (n:Nat):Code:=cat (bodyOf Tryz.f113) (pth n)
theorem g_slices_Clone_uint16_uint16_ok (N:Nat) (s:List Int) (r:(List Int)) (h:g_slices_Clone_uint16_uint16 N s=some r):Sd 113 [(eU s)] [] 0 (.os 0 0 r.length) [(0,aU r)]:=by
 unfold g_slices_Clone_uint16_uint16 at h
 refine Sound.of_runs (fu:=Tryz.f113) (c:=C_18 1) (nt:=8) (by kernel_rfl) (by kernel_rfl) (by kernel_rfl) (by kernel_rfl) (fun hm=>rfl) ?_
 intro E hE
 refine sA 1 [.code (C_18 2),.code (C_18 3)] ?_
 refine sR hE ⟨[(0,(eU s))],[],16⟩ (C_18 2) [] [] (kp [0]) [] 16 [] trivial ?_
 refine sA 2 [.code (C_18 12),.code (C_18 13),.code (C_18 7)] ?_
 refine sR hE ⟨[(0,(eU s)),(4,(.bn s.length))],[],48⟩ (C_18 12) [] [] (kp [0,4]) [] 48 [] trivial ?_
 refine Runs.condBn (o:=.tmp 4) (x:=C_18 26) (y:=C_18 27) (n:=s.length) (by kernel_rfl) (by kernel_rfl) (fun hq2=>?_) ?_
 ·replace hq2:=List.length_eq_zero_iff.1 hq2
  replace h:(some ([]:List Int))=some r:=by rw [hq2] at h;simpa using h
  refine sA 1 [.code (C_18 52),.code (C_18 53),.code (C_18 7)] ?_
  refine sR hE ⟨[(2,.nil)],[],64⟩ (C_18 52) [] [] (kp [2]) [] 64 [] trivial ?_
  obtain rfl:=Option.some.inj h
  refine sW hE ⟨[(2,(.os 0 0 (([]:List Int).length)))],[(0,aU ([]:List Int))],64⟩ [] [(2,.nilos 0)] [(0,.nil 1 (fun zi=>(cU .u16) (([]:List Int).getD zi 0)))] 64 [] trivial ?_
  exact sT Tryz.f113 [] [] trivial
 ·refine sA 2 [.code (C_18 14),.code (C_18 15)] ?_
  obtain ⟨c,h⟩:=ifSome h
  refine sR hE ⟨[(2,(.os 80 0 ((([]:List Int) ++ s).length)))],[(80,aU (([]:List Int) ++ s))],112⟩ (C_18 14) [] [] [(2,.osl ((([]:List Int) ++ s).length))] [(80,.arr 80 ((([]:List Int) ++ s).length) (fun zi=>(cU .u16) ((([]:List Int) ++ s).getD zi 0)))] 112 [0=0,(0+s.length) * 2≤140737488355328,∀ zi,zi < s.length→AV.oneL ((fun zi=>(cU .u16) (s.getD zi 0)) zi)=true,(0+s.length)=(([]:List Int) ++ s).length,0+s.length=(([]:List Int) ++ s).length,∀ zi,zi < (([]:List Int) ++ s).length→(fun zi=>(cU .u16) ((([]:List Int) ++ s).getD zi 0)) zi=((fun zm=>if zm < 0 then (fun _=>[]) zm else (fun zi=>(cU .u16) (s.getD zi 0)) (zm - 0))) zi] ⟨rfl,c,(fun _ _=>rfl),(len_app_raw rfl rfl),(len_app_raw rfl rfl),(get_app_raw (cU .u16) 0 ([]:List Int) s rfl (fun zq hzq=>absurd hzq (Nat.not_lt_zero _)) (fun _ _=>rfl)),trivial⟩ ?_
  obtain rfl:=Option.some.inj h
  refine sW hE ⟨[(2,(.os 0 0 ((([]:List Int) ++ s).length)))],[(0,aU (([]:List Int) ++ s))],112⟩ [] (kp [2]) [(0,.keep 80)] 112 [] trivial ?_
  exact sT Tryz.f113 [] [] trivial
noncomputable def C_16 (n:Nat):Code:=cat (bodyOf Tryz.f92) (pth n)
theorem g_e_signed_ok (N:Nat) (neg:Bool) (n:List Int) (r:TInt) (h:g_e_signed N neg n=some r):Sd 92 [(aB neg),(eU n)] [] 0 (.agg [(aB r.fG),(.os 0 0 r.fL.length)]) [(0,aU r.fL)]:=by
 unfold g_e_signed at h
 refine Sound.of_runs (fu:=Tryz.f92) (c:=C_16 1) (nt:=15) (by kernel_rfl) (by kernel_rfl) (by kernel_rfl) (by kernel_rfl) (fun hm=>rfl) ?_
 intro E hE
 refine sA 1 [.code (C_16 2),.code (C_16 3)] ?_
 refine sR hE ⟨[(0,(aB neg)),(1,(eU n)),(4,(.op 0 0 0))],[(0,vO 2 [(aB false),.nil])],16⟩ (C_16 2) [] [] (kp [0,1,4]) (kq [0]) 16 [] trivial ?_
 refine sA 1 [.code (C_16 6),.code (C_16 7)] ?_
 obtain ⟨rtrim,hr,h⟩:=bindSome h
 refine sR hE ⟨[(0,(aB neg)),(1,(eU rtrim)),(4,(.op 0 0 0))],[(0,vO 2 [(aB false),.nil])],64⟩ (C_16 6) [(1,⟨[],true,(eU rtrim),[],0,false,none⟩)] [] (kp [0,1,4]) (kq [0]) 64 [Sd 101 [(eU n)] [] 0 (eU rtrim) []] ⟨(g_e_trim_ok N n rtrim hr),trivial⟩ ?_
 refine sA 2 [.code (C_16 28),.code (C_16 29),.code (C_16 15)] ?_
 refine sR hE ⟨[(0,(aB neg)),(1,(eU rtrim)),(4,(.op 0 0 0)),(9,(aB (((rtrim.length:Nat):Int) == 0)))],[(0,vO 2 [(aB false),.nil])],112⟩ (C_16 28) [] [] (kp [0,1,4,9]) (kq [0]) 112 [] trivial ?_
 refine sC 9 (C_16 58) (C_16 59) (((rtrim.length:Nat):Int) == 0) (fun hq2=>?_) (fun hq2=>?_)
 ·have h:=condT h hq2
  refine sA 1 [.code (C_16 116),.code (C_16 117),.code (C_16 15)] ?_
  refine sR hE ⟨[(4,(.op 0 0 0))],[(0,vO 2 [(aB false),.nil])],144⟩ (C_16 116) [] [] (kp [4]) (kq [0]) 144 [0 < 1] ⟨o1,trivial⟩ ?_
  obtain rfl:=Option.some.inj h
  refine sW hE ⟨[(4,(.op 16 0 0))],[(0,aU ([]:List Int)),(16,vN 2 [(aB false),(.os 0 0 (([]:List Int).length))])],144⟩ [] (kp [4]) [(0,.nil 1 (fun zi=>(cU .u16) (([]:List Int).getD zi 0))),(16,.var 0 [.keep,.nilos 0])] 144 [] trivial ?_
  exact sT Tryz.f92 [16] [0 < 1] ⟨o1,trivial⟩
 ·have h:=condF h hq2
  refine sA 2 [.code (C_16 30),.code (C_16 31)] ?_
  obtain ⟨rClone,hr2,h⟩:=bindSome h
  refine sR hE ⟨[(4,(.op 0 0 0))],[(0,vN 2 [(aB neg),(.os 144 0 rClone.length)]),(144,aU rClone)],192⟩ (C_16 30) [(2,⟨[],false,(.os 0 0 rClone.length),[(0,aU rClone)],0,false,none⟩)] [] (kp [4]) (kq [0,144]) 192 [Sd 113 [(eU rtrim)] [] 0 (.os 0 0 rClone.length) [(0,aU rClone)],0 < 1] ⟨(g_slices_Clone_uint16_uint16_ok N rtrim rClone hr2),o1,trivial⟩ ?_
  obtain rfl:=Option.some.inj h
  refine sW hE ⟨[(4,(.op 16 0 0))],[(0,aU rClone),(16,vN 2 [(aB neg),(.os 0 0 rClone.length)])],192⟩ [] (kp [4]) [(0,.keep 144),(16,.var 0 [.keep,.keep])] 192 [] trivial ?_
  exact sT Tryz.f92 [16] [0 < 1] ⟨o1,trivial⟩
noncomputable def C_14 (n:Nat):Code:=cat (bodyOf Tryz.f68) (pth n)
theorem g_e_Of_ok (N:Nat) (n:Int) (r:TInt) (h:g_e_Of N n=some r):Sd 68 [(aI n)] [] 0 (.agg (TInt.cells r)) []:=by
 unfold g_e_Of at h
 refine Sound.of_runs (fu:=Tryz.f68) (c:=C_14 1) (nt:=14) (by kernel_rfl) (by kernel_rfl) (by kernel_rfl) (by kernel_rfl) (fun hm=>rfl) ?_
 intro E hE
 refine sA 1 [.code (C_14 2),.code (C_14 3)] ?_
 refine sR hE ⟨[(0,(aI n)),(2,(.op 0 0 0))],[(0,vO 2 [(aB false),.nil])],16⟩ (C_14 2) [] [] (kp [0,2]) (kq [0]) 16 [] trivial ?_
 refine sA 2 [.code (C_14 12),.code (C_14 13),.code (C_14 7)] ?_
 refine sR hE ⟨[(0,(aI n)),(2,(.op 0 0 0)),(4,(aB (decide (n < 0))))],[(0,vO 2 [(aB false),.nil])],48⟩ (C_14 12) [] [] (kp [0,2,4]) (kq [0]) 48 [] trivial ?_
 refine sC 4 (C_14 26) (C_14 27) (decide (n < 0)) (fun hq2=>?_) (fun hq2=>?_)
 ·have h:=condT h hq2
  refine sA 1 [.code (C_14 52),.code (C_14 53),.code (C_14 7)] ?_
  obtain ⟨rnatural,hr,h⟩:=bindSome h
  obtain ⟨rSg,hr2,h⟩:=bindSome h
  refine sR hE ⟨[(2,(.op 0 0 0))],[(0,vN 2 [(aB rSg.fG),(.os 112 0 rSg.fL.length)]),(112,aU rSg.fL)],144⟩ (C_14 52) [(3,⟨[],true,(eU rnatural),[],0,false,none⟩),(4,⟨[],false,(.agg [(aB rSg.fG),(.os 0 0 rSg.fL.length)]),[(0,aU rSg.fL)],0,false,none⟩)] [] (kp [2]) (kq [0,112]) 144 [Sd 93 [(a64 (IntKind.u64.wrap (0 - (IntKind.u64.wrap (n)))))] [] 0 (eU rnatural) [],Sd 92 [(aB true),(eU rnatural)] [] 0 (.agg [(aB rSg.fG),(.os 0 0 rSg.fL.length)]) [(0,aU rSg.fL)],0 < 1] ⟨(g_e_natural_ok N (IntKind.u64.wrap (0 - (IntKind.u64.wrap (n)))) rnatural hr),(g_e_signed_ok N true rnatural rSg hr2),o1,trivial⟩ ?_
  obtain rfl:=Option.some.inj h
  refine sW hE ⟨[(2,(.op 16 0 0))],[(16,vO 2 (TInt.cells rSg))],144⟩ [112] (kp [2]) [(16,.var 0 [.keep,.sl (rSg.fL.length) (fun zi=>(cU .u16) (rSg.fL.getD zi 0))])] 144 [rSg.fL.length=rSg.fL.length,0+rSg.fL.length≤rSg.fL.length,∀ zi,zi < rSg.fL.length→(fun zi=>(cU .u16) (rSg.fL.getD zi 0)) zi=(fun zi=>(cU .u16) (rSg.fL.getD zi 0)) (addz 0 zi)] ⟨rfl,z0,(fun _ _=>rfl),trivial⟩ ?_
  exact sT Tryz.f68 [16] [0 < 1] ⟨o1,trivial⟩
 ·have h:=condF h hq2
  refine sA 2 [.code (C_14 14),.code (C_14 15)] ?_
  obtain ⟨rnatural2,hr3,h⟩:=bindSome h
  obtain ⟨rSg2,hr4,h⟩:=bindSome h
  refine sR hE ⟨[(2,(.op 0 0 0))],[(0,vN 2 [(aB rSg2.fG),(.os 96 0 rSg2.fL.length)]),(96,aU rSg2.fL)],128⟩ (C_14 14) [(2,⟨[],true,(eU rnatural2),[],0,false,none⟩),(3,⟨[],false,(.agg [(aB rSg2.fG),(.os 0 0 rSg2.fL.length)]),[(0,aU rSg2.fL)],0,false,none⟩)] [] (kp [2]) (kq [0,96]) 128 [Sd 93 [(a64 (IntKind.u64.wrap (n)))] [] 0 (eU rnatural2) [],Sd 92 [(aB false),(eU rnatural2)] [] 0 (.agg [(aB rSg2.fG),(.os 0 0 rSg2.fL.length)]) [(0,aU rSg2.fL)],0 < 1] ⟨(g_e_natural_ok N (IntKind.u64.wrap (n)) rnatural2 hr3),(g_e_signed_ok N false rnatural2 rSg2 hr4),o1,trivial⟩ ?_
  obtain rfl:=Option.some.inj h
  refine sW hE ⟨[(2,(.op 16 0 0))],[(16,vO 2 (TInt.cells rSg2))],128⟩ [96] (kp [2]) [(16,.var 0 [.keep,.sl (rSg2.fL.length) (fun zi=>(cU .u16) (rSg2.fL.getD zi 0))])] 128 [rSg2.fL.length=rSg2.fL.length,0+rSg2.fL.length≤rSg2.fL.length,∀ zi,zi < rSg2.fL.length→(fun zi=>(cU .u16) (rSg2.fL.getD zi 0)) zi=(fun zi=>(cU .u16) (rSg2.fL.getD zi 0)) (addz 0 zi)] ⟨rfl,z0,(fun _ _=>rfl),trivial⟩ ?_
  exact sT Tryz.f68 [16] [0 < 1] ⟨o1,trivial⟩
noncomputable def C_22 (n:Nat):Code:=cat (bodyOf Tryz.f100) (pth n)
theorem g_e_word_L1_ok (N:Nat) (n:List Int) (fuel:Nat):∀ (out:Int) (i:Int) (r:Int×Bool),g_e_word_L1 N n fuel out i=some r→∀ E,EnvOk E 0→Runs Tryz.prog E 100 25 (SPost E [] (.tup [(a64 r.1),(aB r.2)])) [.code (C_22 244),.inLoop (C_22 244),.inBlock 0,.code (C_22 31)] ⟨[(0,(eU n)),(4,(a64 out)),(5,(aI i))],[],0⟩:=by
 induction fuel with
 | zero=>intro _ _ r h;rw [g_e_word_L1.eq_1] at h;cases h
 | succ fuel ih =>
  intro out i r h E hE
  rw [g_e_word_L1.eq_2] at h
  refine sA 2 [.code (C_22 976),.code (C_22 977),.code (C_22 489),.inLoop (C_22 244),.inBlock 0,.code (C_22 31)] ?_
  refine sR hE ⟨[(0,(eU n)),(4,(a64 out)),(5,(aI i)),(13,(aB (decide (i≥0))))],[],32⟩ (C_22 976) [] [] (kp [0,4,5,13]) [] 32 [] trivial ?_
  refine sC 13 (C_22 1954) (C_22 1955) (decide (i≥0)) (fun hq3=>?_) (fun hq3=>?_)
  ·have h:=condT h hq3
   refine sA 3 [.code (C_22 1956),.inBlock 1,.code (C_22 979),.inLoop (C_22 244),.inBlock 0,.code (C_22 31)] ?_
   obtain ⟨c,h⟩:=ifSome h
   refine sR hE ⟨[(0,(eU n)),(4,(a64 (orI .u64 (shlI .u64 out 16) (IntKind.u64.wrap ((n.getD ((i).toNat) 0)))))),(5,(aI i))],[],176⟩ (C_22 1956) [] [] (kp [0,4,5]) [] 176 [(0:Int)≤16,0≤i∧i < ((n.length:Nat):Int)] ⟨(by decide),c,trivial⟩ ?_
   refine sA 1 [.code (C_22 979),.inLoop (C_22 244),.inBlock 0,.code (C_22 31)] ?_
   refine sR hE ⟨[(0,(eU n)),(4,(a64 (orI .u64 (shlI .u64 out 16) (IntKind.u64.wrap ((n.getD ((i).toNat) 0)))))),(5,(aI (w64 (i - 1))))],[],224⟩ (C_22 979) [] [] (kp [0,4,5]) [] 224 [] trivial ?_
   refine sA 1 [.code (C_22 244),.inLoop (C_22 244),.inBlock 0,.code (C_22 31)] ?_
   exact sW hE _ [] (kp [0,4,5]) [] 0 [] trivial (ih (orI .u64 (shlI .u64 out 16) (IntKind.u64.wrap ((n.getD ((i).toNat) 0)))) (w64 (i - 1)) _ h E hE)
  ·have h:=condF h hq3
   refine sA 2 [.code (C_22 62),.code (C_22 63)] ?_
   refine sR hE ⟨[(2,(a64 out)),(3,(aB true))],[],80⟩ (C_22 62) [] [] (kp [2,3]) [] 80 [] trivial ?_
   obtain rfl:=Option.some.inj h
   refine sW hE ⟨[(2,(a64 out)),(3,(aB true))],[],80⟩ [] (kp [2,3]) [] 80 [] trivial ?_
   exact sT Tryz.f100 [] [] trivial
theorem g_e_word_ok (N:Nat) (n:List Int) (r:Int×Bool) (h:g_e_word N n=some r):Sd 100 [(eU n)] [] 0 (.tup [(a64 r.1),(aB r.2)]) []:=by
 unfold g_e_word at h
 refine Sound.of_runs (fu:=Tryz.f100) (c:=C_22 1) (nt:=25) (by kernel_rfl) (by kernel_rfl) (by kernel_rfl) (by kernel_rfl) (fun hm=>rfl) ?_
 intro E hE
 refine sA 1 [.code (C_22 2),.code (C_22 3)] ?_
 refine sR hE ⟨[(0,(eU n))],[],32⟩ (C_22 2) [] [] (kp [0]) [] 32 [] trivial ?_
 refine sA 2 [.code (C_22 12),.code (C_22 13),.code (C_22 7)] ?_
 refine sR hE ⟨[(0,(eU n)),(8,(aB (decide (((n.length:Nat):Int) > 4))))],[],80⟩ (C_22 12) [] [] (kp [0,8]) [] 80 [] trivial ?_
 refine sC 8 (C_22 26) (C_22 27) (decide (((n.length:Nat):Int) > 4)) (fun hq2=>?_) (fun hq2=>?_)
 ·have h:=condT h hq2
  refine sA 1 [.code (C_22 52),.code (C_22 53),.code (C_22 7)] ?_
  refine sR hE ⟨[(2,(a64 0)),(3,(aB false))],[],112⟩ (C_22 52) [] [] (kp [2,3]) [] 112 [] trivial ?_
  obtain rfl:=Option.some.inj h
  refine sW hE ⟨[(2,(a64 0)),(3,(aB false))],[],112⟩ [] (kp [2,3]) [] 112 [] trivial ?_
  exact sT Tryz.f100 [] [] trivial
 ·have h:=condF h hq2
  refine sA 2 [.code (C_22 14),.code (C_22 15)] ?_
  refine sR hE ⟨[(0,(eU n)),(4,(a64 0))],[],96⟩ (C_22 14) [] [] (kp [0,4]) [] 96 [] trivial ?_
  refine sA 2 [.code (C_22 60),.code (C_22 61),.code (C_22 31)] ?_
  refine sR hE ⟨[(0,(eU n)),(4,(a64 0)),(5,(aI (w64 (((n.length:Nat):Int) - 1))))],[],160⟩ (C_22 60) [] [] (kp [0,4,5]) [] 160 [] trivial ?_
  refine sA 2 [.code (C_22 244),.inLoop (C_22 244),.inBlock 0,.code (C_22 31)] ?_
  exact sW hE _ [] (kp [0,4,5]) [] 0 [] trivial (g_e_word_L1_ok N n N 0 (w64 (((n.length:Nat):Int) - 1)) _ h E hE)
noncomputable def C_24 (n:Nat):Code:=cat (bodyOf Tryz.f116) (pth n)
theorem g_e_compare_L1_ok (N:Nat) (a:List Int) (b:List Int) (fuel:Nat):∀ (i:Int) (r:Int),g_e_compare_L1 N a b fuel i=some r→∀ E,EnvOk E 0→Runs Tryz.prog E 116 43 (SPost E [] (aI r)) [.code (C_24 116),.inLoop (C_24 116),.inBlock 0,.code (C_24 15)] ⟨[(0,(eU a)),(1,(eU b)),(5,(aI i))],[],0⟩:=by
 induction fuel with
 | zero=>intro _ r h;rw [g_e_compare_L1.eq_1] at h;cases h
 | succ fuel ih =>
  intro i r h E hE
  rw [g_e_compare_L1.eq_2] at h
  refine sA 2 [.code (C_24 464),.code (C_24 465),.code (C_24 233),.inLoop (C_24 116),.inBlock 0,.code (C_24 15)] ?_
  refine sR hE ⟨[(0,(eU a)),(1,(eU b)),(5,(aI i)),(20,(aB (decide (i≥0))))],[],32⟩ (C_24 464) [] [] (kp [0,1,5,20]) [] 32 [] trivial ?_
  refine sC 20 (C_24 930) (C_24 931) (decide (i≥0)) (fun hq3=>?_) (fun hq3=>?_)
  ·have h:=condT h hq3
   refine sA 4 [.code (C_24 1864),.code (C_24 1865),.inBlock 1,.code (C_24 467),.inLoop (C_24 116),.inBlock 0,.code (C_24 15)] ?_
   obtain ⟨c,h⟩:=ifSome h
   obtain ⟨c2,h⟩:=ifSome h
   refine sR hE ⟨[(0,(eU a)),(1,(eU b)),(5,(aI i)),(31,(aB ((a.getD ((i).toNat) 0) != (b.getD ((i).toNat) 0))))],[],176⟩ (C_24 1864) [] [] (kp [0,1,5,31]) [] 176 [0≤i∧i < ((a.length:Nat):Int),0≤i∧i < ((b.length:Nat):Int)] ⟨c,c2,trivial⟩ ?_
   refine sC 31 (C_24 3730) (C_24 3731) ((a.getD ((i).toNat) 0) != (b.getD ((i).toNat) 0)) (fun hq4=>?_) (fun hq4=>?_)
   ·have h:=condT h hq4
    refine sA 1 [.code (C_24 7460),.code (C_24 7461),.inBlock 1,.code (C_24 467),.inLoop (C_24 116),.inBlock 0,.code (C_24 15)] ?_
    refine sR hE ⟨[(4,(aI (w64 ((w64 ((a.getD ((i).toNat) 0))) - (w64 ((b.getD ((i).toNat) 0)))))))],[],368⟩ (C_24 7460) [] [] (kp [4]) [] 368 [0≤i∧i < ((a.length:Nat):Int),0≤i∧i < ((b.length:Nat):Int)] ⟨c,c2,trivial⟩ ?_
    obtain rfl:=Option.some.inj h
    refine sW hE ⟨[(4,(aI (w64 ((w64 ((a.getD ((i).toNat) 0))) - (w64 ((b.getD ((i).toNat) 0)))))))],[],368⟩ [] (kp [4]) [] 368 [] trivial ?_
    exact sT Tryz.f116 [] [] trivial
   ·have h:=condF h hq4
    refine sA 2 [.code (C_24 467),.inLoop (C_24 116),.inBlock 0,.code (C_24 15)] ?_
    refine sR hE ⟨[(0,(eU a)),(1,(eU b)),(5,(aI (w64 (i - 1))))],[],224⟩ (C_24 467) [] [] (kp [0,1,5]) [] 224 [] trivial ?_
    refine sA 1 [.code (C_24 116),.inLoop (C_24 116),.inBlock 0,.code (C_24 15)] ?_
    exact sW hE _ [] (kp [0,1,5]) [] 0 [] trivial (ih (w64 (i - 1)) _ h E hE)
  ·have h:=condF h hq3
   refine sA 2 [.code (C_24 30),.code (C_24 31)] ?_
   refine sR hE ⟨[(4,(aI 0))],[],48⟩ (C_24 30) [] [] (kp [4]) [] 48 [] trivial ?_
   obtain rfl:=Option.some.inj h
   refine sW hE ⟨[(4,(aI 0))],[],48⟩ [] (kp [4]) [] 48 [] trivial ?_
   exact sT Tryz.f116 [] [] trivial
theorem g_e_compare_ok (N:Nat) (a:List Int) (b:List Int) (r:Int) (h:g_e_compare N a b=some r):Sd 116 [(eU a),(eU b)] [] 0 (aI r) []:=by
 unfold g_e_compare at h
 refine Sound.of_runs (fu:=Tryz.f116) (c:=C_24 1) (nt:=43) (by kernel_rfl) (by kernel_rfl) (by kernel_rfl) (by kernel_rfl) (fun hm=>rfl) ?_
 intro E hE
 refine sA 1 [.code (C_24 2),.code (C_24 3)] ?_
 refine sR hE ⟨[(0,(eU a)),(1,(eU b))],[],16⟩ (C_24 2) [] [] (kp [0,1]) [] 16 [] trivial ?_
 refine sA 2 [.code (C_24 12),.code (C_24 13),.code (C_24 7)] ?_
 refine sR hE ⟨[(0,(eU a)),(1,(eU b)),(10,(aB (((a.length:Nat):Int) != ((b.length:Nat):Int))))],[],96⟩ (C_24 12) [] [] (kp [0,1,10]) [] 96 [] trivial ?_
 refine sC 10 (C_24 26) (C_24 27) (((a.length:Nat):Int) != ((b.length:Nat):Int)) (fun hq2=>?_) (fun hq2=>?_)
 ·have h:=condT h hq2
  refine sA 1 [.code (C_24 52),.code (C_24 53),.code (C_24 7)] ?_
  refine sR hE ⟨[(4,(aI (w64 (((a.length:Nat):Int) - ((b.length:Nat):Int)))))],[],192⟩ (C_24 52) [] [] (kp [4]) [] 192 [] trivial ?_
  obtain rfl:=Option.some.inj h
  refine sW hE ⟨[(4,(aI (w64 (((a.length:Nat):Int) - ((b.length:Nat):Int)))))],[],192⟩ [] (kp [4]) [] 192 [] trivial ?_
  exact sT Tryz.f116 [] [] trivial
 ·have h:=condF h hq2
  refine sA 3 [.code (C_24 28),.code (C_24 29),.code (C_24 15)] ?_
  refine sR hE ⟨[(0,(eU a)),(1,(eU b)),(5,(aI (w64 (((a.length:Nat):Int) - 1))))],[],160⟩ (C_24 28) [] [] (kp [0,1,5]) [] 160 [] trivial ?_
  refine sA 2 [.code (C_24 116),.inLoop (C_24 116),.inBlock 0,.code (C_24 15)] ?_
  exact sW hE _ [] (kp [0,1,5]) [] 0 [] trivial (g_e_compare_L1_ok N a b N (w64 (((a.length:Nat):Int) - 1)) _ h E hE)
noncomputable def C_25 (n:Nat):Code:=cat (bodyOf Tryz.f127) (pth n)
theorem g_e_short_L1_ok (N:Nat) (a:List Int) (b:Int) (fuel:Nat):∀ (q:List Int) (rest:Int) (i:Int) (r:(List Int)×Int),g_e_short_L1 N a b fuel q rest i=some r→∀ E,EnvOk E 0→Runs Tryz.prog E 127 43 (SPost E [] (.tup [(eU r.1),(a16 r.2)])) [.code (C_25 244),.inLoop (C_25 244),.inBlock 0,.code (C_25 31)] ⟨[(0,(eU a)),(1,(a16 b)),(6,(.os 0 0 q.length)),(7,(a32 rest)),(8,(aI i))],[(0,aU q)],1⟩:=by
 induction fuel with
 | zero=>intro _ _ _ r h;rw [g_e_short_L1.eq_1] at h;cases h
 | succ fuel ih =>
  intro q rest i r h E hE
  rw [g_e_short_L1.eq_2] at h
  refine sA 2 [.code (C_25 976),.code (C_25 977),.code (C_25 489),.inLoop (C_25 244),.inBlock 0,.code (C_25 31)] ?_
  refine sR hE ⟨[(0,(eU a)),(1,(a16 b)),(6,(.os 0 0 q.length)),(7,(a32 rest)),(8,(aI i)),(16,(aB (decide (i≥0))))],[(0,aU q)],33⟩ (C_25 976) [] [] (kp [0,1,6,7,8,16]) (kq [0]) 33 [] trivial ?_
  refine sC 16 (C_25 1954) (C_25 1955) (decide (i≥0)) (fun hq2=>?_) (fun hq2=>?_)
  ·have h:=condT h hq2
   refine sA 4 [.code (C_25 3912),.code (C_25 3913),.inBlock 1,.code (C_25 979),.inLoop (C_25 244),.inBlock 0,.code (C_25 31)] ?_
   obtain ⟨c2,h⟩:=ifSome h
   refine sR hE ⟨[(0,(eU a)),(1,(a16 b)),(6,(.os 0 0 q.length)),(7,(a32 (orI .u32 (shlI .u32 rest 16) (IntKind.u32.wrap ((a.getD ((i).toNat) 0)))))),(8,(aI i))],[(0,aU q)],177⟩ (C_25 3912) [] [] (kp [0,1,6,7,8]) (kq [0]) 177 [(0:Int)≤16,0≤i∧i < ((a.length:Nat):Int)] ⟨(by decide),c2,trivial⟩ ?_
   refine sA 1 [.code (C_25 7826),.code (C_25 7827),.inBlock 1,.code (C_25 979),.inLoop (C_25 244),.inBlock 0,.code (C_25 31)] ?_
   obtain ⟨c3,h⟩:=ifSome h
   obtain ⟨c4,h⟩:=ifSome h
   refine sR hE ⟨[(0,(eU a)),(1,(a16 b)),(6,(.os 0 0 ((q.set ((i).toNat) (IntKind.u16.wrap ((IntKind.u32.wrap ((orI .u32 (shlI .u32 rest 16) (IntKind.u32.wrap ((a.getD ((i).toNat) 0)))).tdiv (IntKind.u32.wrap (b))))))).length))),(7,(a32 (orI .u32 (shlI .u32 rest 16) (IntKind.u32.wrap ((a.getD ((i).toNat) 0)))))),(8,(aI i))],[(0,aU (q.set ((i).toNat) (IntKind.u16.wrap ((IntKind.u32.wrap ((orI .u32 (shlI .u32 rest 16) (IntKind.u32.wrap ((a.getD ((i).toNat) 0)))).tdiv (IntKind.u32.wrap (b))))))))],321⟩ (C_25 7826) [] [] (kp [0,1] ++ [(6,.osl ((q.set ((i).toNat) (IntKind.u16.wrap ((IntKind.u32.wrap ((orI .u32 (shlI .u32 rest 16) (IntKind.u32.wrap ((a.getD ((i).toNat) 0)))).tdiv (IntKind.u32.wrap (b))))))).length))] ++ kp [7,8]) [(0,.arr 0 ((q.set ((i).toNat) (IntKind.u16.wrap ((IntKind.u32.wrap ((orI .u32 (shlI .u32 rest 16) (IntKind.u32.wrap ((a.getD ((i).toNat) 0)))).tdiv (IntKind.u32.wrap (b))))))).length) (fun zi=>(cU .u16) ((q.set ((i).toNat) (IntKind.u16.wrap ((IntKind.u32.wrap ((orI .u32 (shlI .u32 rest 16) (IntKind.u32.wrap ((a.getD ((i).toNat) 0)))).tdiv (IntKind.u32.wrap (b))))))).getD zi 0)))] 321 [((IntKind.u32.wrap (b)):Int)≠0,0≤i∧i < ((q.length:Nat):Int),(i).toNat < q.length,q.length=(q.set ((i).toNat) (IntKind.u16.wrap ((IntKind.u32.wrap ((orI .u32 (shlI .u32 rest 16) (IntKind.u32.wrap ((a.getD ((i).toNat) 0)))).tdiv (IntKind.u32.wrap (b))))))).length,q.length=(q.set ((i).toNat) (IntKind.u16.wrap ((IntKind.u32.wrap ((orI .u32 (shlI .u32 rest 16) (IntKind.u32.wrap ((a.getD ((i).toNat) 0)))).tdiv (IntKind.u32.wrap (b))))))).length,∀ zi,zi < (q.set ((i).toNat) (IntKind.u16.wrap ((IntKind.u32.wrap ((orI .u32 (shlI .u32 rest 16) (IntKind.u32.wrap ((a.getD ((i).toNat) 0)))).tdiv (IntKind.u32.wrap (b))))))).length→(fun zi=>(cU .u16) ((q.set ((i).toNat) (IntKind.u16.wrap ((IntKind.u32.wrap ((orI .u32 (shlI .u32 rest 16) (IntKind.u32.wrap ((a.getD ((i).toNat) 0)))).tdiv (IntKind.u32.wrap (b))))))).getD zi 0)) zi=((fun zm=>if zm=(i).toNat then [(a16 (IntKind.u16.wrap ((IntKind.u32.wrap ((orI .u32 (shlI .u32 rest 16) (IntKind.u32.wrap ((a.getD ((i).toNat) 0)))).tdiv (IntKind.u32.wrap (b)))))))] else (fun zi=>(cU .u16) (q.getD zi 0)) zm)) zi] ⟨c3,c4,(ltOf c4),(len_set_raw rfl),(len_set_raw rfl),(get_set_raw (cU .u16) 0 q ((i).toNat) (IntKind.u16.wrap ((IntKind.u32.wrap ((orI .u32 (shlI .u32 rest 16) (IntKind.u32.wrap ((a.getD ((i).toNat) 0)))).tdiv (IntKind.u32.wrap (b)))))) (fun _ _=>rfl)),trivial⟩ ?_
   refine sR hE ⟨[(0,(eU a)),(1,(a16 b)),(6,(.os 0 0 ((q.set ((i).toNat) (IntKind.u16.wrap ((IntKind.u32.wrap ((orI .u32 (shlI .u32 rest 16) (IntKind.u32.wrap ((a.getD ((i).toNat) 0)))).tdiv (IntKind.u32.wrap (b))))))).length))),(7,(a32 ((orI .u32 (shlI .u32 rest 16) (IntKind.u32.wrap ((a.getD ((i).toNat) 0)))).tmod (IntKind.u32.wrap (b))))),(8,(aI i))],[(0,aU (q.set ((i).toNat) (IntKind.u16.wrap ((IntKind.u32.wrap ((orI .u32 (shlI .u32 rest 16) (IntKind.u32.wrap ((a.getD ((i).toNat) 0)))).tdiv (IntKind.u32.wrap (b))))))))],401⟩ (C_25 7827) [] [] (kp [0,1,6,7,8]) (kq [0]) 401 [((IntKind.u32.wrap (b)):Int)≠0] ⟨c3,trivial⟩ ?_
   refine sA 1 [.code (C_25 979),.inLoop (C_25 244),.inBlock 0,.code (C_25 31)] ?_
   refine sR hE ⟨[(0,(eU a)),(1,(a16 b)),(6,(.os 0 0 ((q.set ((i).toNat) (IntKind.u16.wrap ((IntKind.u32.wrap ((orI .u32 (shlI .u32 rest 16) (IntKind.u32.wrap ((a.getD ((i).toNat) 0)))).tdiv (IntKind.u32.wrap (b))))))).length))),(7,(a32 ((orI .u32 (shlI .u32 rest 16) (IntKind.u32.wrap ((a.getD ((i).toNat) 0)))).tmod (IntKind.u32.wrap (b))))),(8,(aI (w64 (i - 1))))],[(0,aU (q.set ((i).toNat) (IntKind.u16.wrap ((IntKind.u32.wrap ((orI .u32 (shlI .u32 rest 16) (IntKind.u32.wrap ((a.getD ((i).toNat) 0)))).tdiv (IntKind.u32.wrap (b))))))))],449⟩ (C_25 979) [] [] (kp [0,1,6,7,8]) (kq [0]) 449 [] trivial ?_
   refine sA 1 [.code (C_25 244),.inLoop (C_25 244),.inBlock 0,.code (C_25 31)] ?_
   exact sW hE _ [] (kp [0,1,6,7,8]) (kq [0]) 1 [] trivial (ih (q.set ((i).toNat) (IntKind.u16.wrap ((IntKind.u32.wrap ((orI .u32 (shlI .u32 rest 16) (IntKind.u32.wrap ((a.getD ((i).toNat) 0)))).tdiv (IntKind.u32.wrap (b))))))) ((orI .u32 (shlI .u32 rest 16) (IntKind.u32.wrap ((a.getD ((i).toNat) 0)))).tmod (IntKind.u32.wrap (b))) (w64 (i - 1)) _ h E hE)
  ·have h:=condF h hq2
   refine sA 2 [.code (C_25 62),.code (C_25 63)] ?_
   obtain ⟨rtrim,hr,h⟩:=bindSome h
   refine sR hE ⟨[(4,(eU rtrim)),(5,(a16 (IntKind.u16.wrap (rest))))],[],129⟩ (C_25 62) [(1,⟨[],true,(eU rtrim),[],0,true,none⟩)] [] (kp [4,5]) [] 129 [Sd 101 [(eU q)] [] 0 (eU rtrim) [],0+q.length≤q.length] ⟨(g_e_trim_ok N q rtrim hr),z0,trivial⟩ ?_
   obtain rfl:=Option.some.inj h
   refine sW hE ⟨[(4,(eU rtrim)),(5,(a16 (IntKind.u16.wrap (rest))))],[],129⟩ [] (kp [4,5]) [] 129 [] trivial ?_
   exact sT Tryz.f127 [] [] trivial
theorem g_e_short_ok (N:Nat) (a:List Int) (b:Int) (r:(List Int)×Int) (h:g_e_short N a b=some r):Sd 127 [(eU a),(a16 b)] [] 0 (.tup [(eU r.1),(a16 r.2)]) []:=by
 unfold g_e_short at h
 refine Sound.of_runs (fu:=Tryz.f127) (c:=C_25 1) (nt:=43) (by kernel_rfl) (by kernel_rfl) (by kernel_rfl) (by kernel_rfl) (fun hm=>rfl) ?_
 intro E hE
 refine sA 1 [.code (C_25 2),.code (C_25 3)] ?_
 refine sR hE ⟨[(0,(eU a)),(1,(a16 b))],[],32⟩ (C_25 2) [] [] (kp [0,1]) [] 32 [] trivial ?_
 refine sA 1 [.code (C_25 6),.code (C_25 7)] ?_
 obtain ⟨c,h⟩:=ifSome h
 refine sR hE ⟨[(0,(eU a)),(1,(a16 b)),(6,(.os 64 0 ((List.replicate a.length 0:List Int).length)))],[(64,aU (List.replicate a.length 0:List Int))],96⟩ (C_25 6) [] [] (kp [0,1] ++ [(6,.osl ((List.replicate a.length 0:List Int).length))]) [(64,.arr 64 ((List.replicate a.length 0:List Int).length) (fun zi=>(cU .u16) ((List.replicate a.length 0:List Int).getD zi 0)))] 96 [0≤((a.length:Nat):Int),((a.length:Nat):Int)≤((a.length:Nat):Int),(2:Int) * ((a.length:Nat):Int)≤281474976710656,((a.length:Nat):Int)≤9223372036854775807,a.length=(List.replicate a.length 0:List Int).length,a.length=(List.replicate a.length 0:List Int).length,∀ zi,zi < (List.replicate a.length 0:List Int).length→(fun zi=>(cU .u16) ((List.replicate a.length 0:List Int).getD zi 0)) zi=(fun _=>[(a16 0)]) zi] ⟨c.1,(Int.le_refl _),c.2.1,c.2.2,(List.length_replicate).symm,(List.length_replicate).symm,(fun zq hzq=>get_rep (cU .u16) 0 0 a.length zq hzq),trivial⟩ ?_
 refine sA 1 [.code (C_25 14),.code (C_25 15)] ?_
 refine sR hE ⟨[(0,(eU a)),(1,(a16 b)),(6,(.os 64 0 ((List.replicate a.length 0:List Int).length))),(7,(a32 0))],[(64,aU (List.replicate a.length 0:List Int))],112⟩ (C_25 14) [] [] (kp [0,1,6,7]) (kq [64]) 112 [] trivial ?_
 refine sA 2 [.code (C_25 60),.code (C_25 61),.code (C_25 31)] ?_
 refine sR hE ⟨[(0,(eU a)),(1,(a16 b)),(6,(.os 64 0 ((List.replicate a.length 0:List Int).length))),(7,(a32 0)),(8,(aI (w64 (((a.length:Nat):Int) - 1))))],[(64,aU (List.replicate a.length 0:List Int))],176⟩ (C_25 60) [] [] (kp [0,1,6,7,8]) (kq [64]) 176 [] trivial ?_
 refine sA 2 [.code (C_25 244),.inLoop (C_25 244),.inBlock 0,.code (C_25 31)] ?_
 exact sW hE _ [] (kp [0,1,6,7,8]) [(0,.keep 64)] 1 [] trivial (g_e_short_L1_ok N a b N (List.replicate a.length 0:List Int) 0 (w64 (((a.length:Nat):Int) - 1)) _ h E hE)
noncomputable def C_27 (n:Nat):Code:=cat (bodyOf Tryz.f133) (pth n)
theorem g_math_bits_Len16_J1_ok (N:Nat) (x2:Int) (n:Int) (r:Int) (h:g_math_bits_Len16_J1 N x2 n=some r):∀ E,EnvOk E 0→Runs Tryz.prog E 133 13 (SPost E [] (aI r)) [.code (C_27 14),.code (C_27 15)] ⟨[(0,(a16 x2)),(2,(aI n))],[],0⟩:=by
 intro E hE
 unfold g_math_bits_Len16_J1 at h
 obtain ⟨c,h⟩:=ifSome h
 refine sR hE ⟨[(2,(aI (w64 (n+(w64 ((byteAt (⟨#[0,1,2,2,3,3,3,3,4,4,4,4,4,4,4,4,5,5,5,5,5,5,5,5,5,5,5,5,5,5,5,5,6,6,6,6,6,6,6,6,6,6,6,6,6,6,6,6,6,6,6,6,6,6,6,6,6,6,6,6,6,6,6,6,7,7,7,7,7,7,7,7,7,7,7,7,7,7,7,7,7,7,7,7,7,7,7,7,7,7,7,7,7,7,7,7,7,7,7,7,7,7,7,7,7,7,7,7,7,7,7,7,7,7,7,7,7,7,7,7,7,7,7,7,7,7,7,7,8,8,8,8,8,8,8,8,8,8,8,8,8,8,8,8,8,8,8,8,8,8,8,8,8,8,8,8,8,8,8,8,8,8,8,8,8,8,8,8,8,8,8,8,8,8,8,8,8,8,8,8,8,8,8,8,8,8,8,8,8,8,8,8,8,8,8,8,8,8,8,8,8,8,8,8,8,8,8,8,8,8,8,8,8,8,8,8,8,8,8,8,8,8,8,8,8,8,8,8,8,8,8,8,8,8,8,8,8,8,8,8,8,8,8,8,8,8,8,8,8,8,8,8,8,8,8,8]⟩:ByteArray) ((IntKind.u8.wrap (x2)).toNat))))))))],[],112⟩ (C_27 14) [] [] (kp [2]) [] 112 [0≤(IntKind.u8.wrap (x2))∧(IntKind.u8.wrap (x2)) < (((⟨#[0,1,2,2,3,3,3,3,4,4,4,4,4,4,4,4,5,5,5,5,5,5,5,5,5,5,5,5,5,5,5,5,6,6,6,6,6,6,6,6,6,6,6,6,6,6,6,6,6,6,6,6,6,6,6,6,6,6,6,6,6,6,6,6,7,7,7,7,7,7,7,7,7,7,7,7,7,7,7,7,7,7,7,7,7,7,7,7,7,7,7,7,7,7,7,7,7,7,7,7,7,7,7,7,7,7,7,7,7,7,7,7,7,7,7,7,7,7,7,7,7,7,7,7,7,7,7,7,8,8,8,8,8,8,8,8,8,8,8,8,8,8,8,8,8,8,8,8,8,8,8,8,8,8,8,8,8,8,8,8,8,8,8,8,8,8,8,8,8,8,8,8,8,8,8,8,8,8,8,8,8,8,8,8,8,8,8,8,8,8,8,8,8,8,8,8,8,8,8,8,8,8,8,8,8,8,8,8,8,8,8,8,8,8,8,8,8,8,8,8,8,8,8,8,8,8,8,8,8,8,8,8,8,8,8,8,8,8,8,8,8,8,8,8,8,8,8,8,8,8,8,8,8,8,8,8]⟩:ByteArray).size:Nat):Int)] ⟨c,trivial⟩ ?_
 obtain rfl:=Option.some.inj h
 refine sW hE ⟨[(2,(aI (w64 (n+(w64 ((byteAt (⟨#[0,1,2,2,3,3,3,3,4,4,4,4,4,4,4,4,5,5,5,5,5,5,5,5,5,5,5,5,5,5,5,5,6,6,6,6,6,6,6,6,6,6,6,6,6,6,6,6,6,6,6,6,6,6,6,6,6,6,6,6,6,6,6,6,7,7,7,7,7,7,7,7,7,7,7,7,7,7,7,7,7,7,7,7,7,7,7,7,7,7,7,7,7,7,7,7,7,7,7,7,7,7,7,7,7,7,7,7,7,7,7,7,7,7,7,7,7,7,7,7,7,7,7,7,7,7,7,7,8,8,8,8,8,8,8,8,8,8,8,8,8,8,8,8,8,8,8,8,8,8,8,8,8,8,8,8,8,8,8,8,8,8,8,8,8,8,8,8,8,8,8,8,8,8,8,8,8,8,8,8,8,8,8,8,8,8,8,8,8,8,8,8,8,8,8,8,8,8,8,8,8,8,8,8,8,8,8,8,8,8,8,8,8,8,8,8,8,8,8,8,8,8,8,8,8,8,8,8,8,8,8,8,8,8,8,8,8,8,8,8,8,8,8,8,8,8,8,8,8,8,8,8,8,8,8,8]⟩:ByteArray) ((IntKind.u8.wrap (x2)).toNat))))))))],[],112⟩ [] (kp [2]) [] 112 [] trivial ?_
 exact sT Tryz.f133 [] [] trivial
theorem g_math_bits_Len16_ok (N:Nat) (x:Int) (r:Int) (h:g_math_bits_Len16 N x=some r):Sd 133 [(a16 x)] [] 0 (aI r) []:=by
 unfold g_math_bits_Len16 at h
 refine Sound.of_runs (fu:=Tryz.f133) (c:=C_27 1) (nt:=13) (by kernel_rfl) (by kernel_rfl) (by kernel_rfl) (by kernel_rfl) (fun hm=>rfl) ?_
 intro E hE
 refine sA 1 [.code (C_27 2),.code (C_27 3)] ?_
 refine sR hE ⟨[(0,(a16 x)),(2,(aI 0))],[],16⟩ (C_27 2) [] [] (kp [0,2]) [] 16 [] trivial ?_
 refine sA 2 [.code (C_27 12),.code (C_27 13),.code (C_27 7)] ?_
 refine sR hE ⟨[(0,(a16 x)),(2,(aI 0)),(4,(aB (decide (x≥256))))],[],48⟩ (C_27 12) [] [] (kp [0,2,4]) [] 48 [] trivial ?_
 refine sC 4 (C_27 26) (C_27 27) (decide (x≥256)) (fun hq2=>?_) (fun hq2=>?_)
 ·have h:=condT h hq2
  refine sA 1 [.code (C_27 52),.code (C_27 53),.code (C_27 7)] ?_
  refine sR hE ⟨[(0,(a16 (shrI .u16 x 8)))],[],96⟩ (C_27 52) [] [] (kp [0]) [] 96 [(0:Int)≤8] ⟨(by decide),trivial⟩ ?_
  refine sR hE ⟨[(0,(a16 (shrI .u16 x 8))),(2,(aI 8))],[],112⟩ (C_27 53) [] [] (kp [0,2]) [] 112 [] trivial ?_
  refine sA 1 [.code (C_27 14),.code (C_27 15)] ?_
  exact sW hE _ [] (kp [0,2]) [] 0 [] trivial (g_math_bits_Len16_J1_ok N (shrI .u16 x 8) 8 _ h E hE)
 ·have h:=condF h hq2
  refine sA 2 [.code (C_27 14),.code (C_27 15)] ?_
  exact sW hE _ [] (kp [0,2]) [] 0 [] trivial (g_math_bits_Len16_J1_ok N x 0 _ h E hE)
noncomputable def C_26 (n:Nat):Code:=cat (bodyOf Tryz.f128) (pth n)
theorem g_math_bits_LeadingZeros16_ok (N:Nat) (x:Int) (r:Int) (h:g_math_bits_LeadingZeros16 N x=some r):Sd 128 [(a16 x)] [] 0 (aI r) []:=by
 unfold g_math_bits_LeadingZeros16 at h
 refine Sound.of_runs (fu:=Tryz.f128) (c:=C_26 1) (nt:=6) (by kernel_rfl) (by kernel_rfl) (by kernel_rfl) (by kernel_rfl) (fun hm=>rfl) ?_
 intro E hE
 refine sA 1 [.code (C_26 2),.code (C_26 3)] ?_
 refine sR hE ⟨[(0,(a16 x))],[],16⟩ (C_26 2) [] [] (kp [0]) [] 16 [] trivial ?_
 refine sA 1 [.code (C_26 6),.code (C_26 7)] ?_
 obtain ⟨rLen16,hr,h⟩:=bindSome h
 refine sR hE ⟨[(2,(aI (w64 (16 - rLen16))))],[],80⟩ (C_26 6) [(1,⟨[],true,(aI rLen16),[],0,false,none⟩)] [] (kp [2]) [] 80 [Sd 133 [(a16 x)] [] 0 (aI rLen16) []] ⟨(g_math_bits_Len16_ok N x rLen16 hr),trivial⟩ ?_
 obtain rfl:=Option.some.inj h
 refine sW hE ⟨[(2,(aI (w64 (16 - rLen16))))],[],80⟩ [] (kp [2]) [] 80 [] trivial ?_
 exact sT Tryz.f128 [] [] trivial
noncomputable def C_28 (n:Nat):Code:=cat (bodyOf Tryz.f129) (pth n)
theorem g_e_shifted_L1_ok (N:Nat) (a:List Int) (vby:Int) (fuel:Nat):∀ (out:List Int) (x:Int) (r:(List Int)),g_e_shifted_L1 N a vby fuel out x=some r→∀ E,EnvOk E 0→Runs Tryz.prog E 129 41 (SPost E [(0,aU r)] (.os 0 0 r.length)) [.code (C_28 116),.inLoop (C_28 116),.inBlock 0,.code (C_28 15)] ⟨[(1,(aI vby)),(5,(.os 0 0 out.length)),(13,(eU a)),(14,(aI ((a.length:Nat):Int))),(15,(aI x))],[(0,aU out)],1⟩:=by
 induction fuel with
 | zero=>intro _ _ r h;rw [g_e_shifted_L1.eq_1] at h;cases h
 | succ fuel ih =>
  intro out x r h E hE
  rw [g_e_shifted_L1.eq_2] at h
  refine sA 1 [.code (C_28 232),.code (C_28 233),.inLoop (C_28 116),.inBlock 0,.code (C_28 15)] ?_
  refine sR hE ⟨[(1,(aI vby)),(5,(.os 0 0 out.length)),(13,(eU a)),(14,(aI ((a.length:Nat):Int))),(15,(aI x)),(16,(aB (decide (x < ((a.length:Nat):Int)))))],[(0,aU out)],17⟩ (C_28 232) [] [] (kp [1,5,13,14,15,16]) (kq [0]) 17 [] trivial ?_
  refine sA 1 [.code (C_28 466),.code (C_28 467),.inLoop (C_28 116),.inBlock 0,.code (C_28 15)] ?_
  refine sC 16 (C_28 932) (C_28 933) (decide (x < ((a.length:Nat):Int))) (fun hq2=>?_) (fun hq2=>?_)
  ·have h:=condT h hq2
   refine sA 4 [.code (C_28 3736),.code (C_28 3737),.inBlock 1,.code (C_28 935),.inLoop (C_28 116),.inBlock 0,.code (C_28 15)] ?_
   obtain ⟨c2,h⟩:=ifSome h
   refine sR hE ⟨[(1,(aI vby)),(5,(.os 0 0 out.length)),(6,(aI x)),(7,(a16 (a.getD ((x).toNat) 0))),(13,(eU a)),(14,(aI ((a.length:Nat):Int))),(15,(aI x))],[(0,aU out)],97⟩ (C_28 3736) [] [] (kp [1,5,6,7,13,14,15]) (kq [0]) 97 [0≤x∧x < ((a.length:Nat):Int)] ⟨c2,trivial⟩ ?_
   refine sA 1 [.code (C_28 7474),.code (C_28 7475),.inBlock 1,.code (C_28 935),.inLoop (C_28 116),.inBlock 0,.code (C_28 15)] ?_
   obtain ⟨c3,h⟩:=ifSome h
   refine sR hE ⟨[(1,(aI vby)),(5,(.os 0 0 out.length)),(6,(aI x)),(8,(a32 (shlI .u32 (IntKind.u32.wrap ((a.getD ((x).toNat) 0))) vby))),(13,(eU a)),(14,(aI ((a.length:Nat):Int))),(15,(aI x))],[(0,aU out)],177⟩ (C_28 7474) [] [] (kp [1,5,6,8,13,14,15]) (kq [0]) 177 [(0:Int)≤vby] ⟨c3,trivial⟩ ?_
   refine sA 1 [.code (C_28 14950),.code (C_28 14951),.inBlock 1,.code (C_28 935),.inLoop (C_28 116),.inBlock 0,.code (C_28 15)] ?_
   obtain ⟨c4,h⟩:=ifSome h
   refine sR hE ⟨[(1,(aI vby)),(5,(.os 0 0 ((out.set ((x).toNat) (orI .u16 (out.getD ((x).toNat) 0) (IntKind.u16.wrap ((shlI .u32 (IntKind.u32.wrap ((a.getD ((x).toNat) 0))) vby))))).length))),(6,(aI x)),(8,(a32 (shlI .u32 (IntKind.u32.wrap ((a.getD ((x).toNat) 0))) vby))),(13,(eU a)),(14,(aI ((a.length:Nat):Int))),(15,(aI x))],[(0,aU (out.set ((x).toNat) (orI .u16 (out.getD ((x).toNat) 0) (IntKind.u16.wrap ((shlI .u32 (IntKind.u32.wrap ((a.getD ((x).toNat) 0))) vby))))))],321⟩ (C_28 14950) [] [] (kp [1] ++ [(5,.osl ((out.set ((x).toNat) (orI .u16 (out.getD ((x).toNat) 0) (IntKind.u16.wrap ((shlI .u32 (IntKind.u32.wrap ((a.getD ((x).toNat) 0))) vby))))).length))] ++ kp [6,8,13,14,15]) [(0,.arr 0 ((out.set ((x).toNat) (orI .u16 (out.getD ((x).toNat) 0) (IntKind.u16.wrap ((shlI .u32 (IntKind.u32.wrap ((a.getD ((x).toNat) 0))) vby))))).length) (fun zi=>(cU .u16) ((out.set ((x).toNat) (orI .u16 (out.getD ((x).toNat) 0) (IntKind.u16.wrap ((shlI .u32 (IntKind.u32.wrap ((a.getD ((x).toNat) 0))) vby))))).getD zi 0)))] 321 [0≤x∧x < ((out.length:Nat):Int),(x).toNat < out.length,0≤x∧x < ((out.length:Nat):Int),(x).toNat < out.length,out.length=(out.set ((x).toNat) (orI .u16 (out.getD ((x).toNat) 0) (IntKind.u16.wrap ((shlI .u32 (IntKind.u32.wrap ((a.getD ((x).toNat) 0))) vby))))).length,out.length=(out.set ((x).toNat) (orI .u16 (out.getD ((x).toNat) 0) (IntKind.u16.wrap ((shlI .u32 (IntKind.u32.wrap ((a.getD ((x).toNat) 0))) vby))))).length,∀ zi,zi < (out.set ((x).toNat) (orI .u16 (out.getD ((x).toNat) 0) (IntKind.u16.wrap ((shlI .u32 (IntKind.u32.wrap ((a.getD ((x).toNat) 0))) vby))))).length→(fun zi=>(cU .u16) ((out.set ((x).toNat) (orI .u16 (out.getD ((x).toNat) 0) (IntKind.u16.wrap ((shlI .u32 (IntKind.u32.wrap ((a.getD ((x).toNat) 0))) vby))))).getD zi 0)) zi=((fun zm=>if zm=(x).toNat then [(a16 (orI .u16 (out.getD ((x).toNat) 0) (IntKind.u16.wrap ((shlI .u32 (IntKind.u32.wrap ((a.getD ((x).toNat) 0))) vby)))))] else (fun zi=>(cU .u16) (out.getD zi 0)) zm)) zi] ⟨c4,(ltOf c4),c4,(ltOf c4),(len_set_raw rfl),(len_set_raw rfl),(get_set_raw (cU .u16) 0 out ((x).toNat) (orI .u16 (out.getD ((x).toNat) 0) (IntKind.u16.wrap ((shlI .u32 (IntKind.u32.wrap ((a.getD ((x).toNat) 0))) vby)))) (fun _ _=>rfl)),trivial⟩ ?_
   obtain ⟨c5,h⟩:=ifSome h
   refine sR hE ⟨[(1,(aI vby)),(5,(.os 0 0 (((out.set ((x).toNat) (orI .u16 (out.getD ((x).toNat) 0) (IntKind.u16.wrap ((shlI .u32 (IntKind.u32.wrap ((a.getD ((x).toNat) 0))) vby))))).set ((w64 (x+1)).toNat) (IntKind.u16.wrap ((shrI .u32 (shlI .u32 (IntKind.u32.wrap ((a.getD ((x).toNat) 0))) vby) 16)))).length))),(13,(eU a)),(14,(aI ((a.length:Nat):Int))),(15,(aI x))],[(0,aU ((out.set ((x).toNat) (orI .u16 (out.getD ((x).toNat) 0) (IntKind.u16.wrap ((shlI .u32 (IntKind.u32.wrap ((a.getD ((x).toNat) 0))) vby))))).set ((w64 (x+1)).toNat) (IntKind.u16.wrap ((shrI .u32 (shlI .u32 (IntKind.u32.wrap ((a.getD ((x).toNat) 0))) vby) 16)))))],449⟩ (C_28 14951) [] [] (kp [1] ++ [(5,.osl (((out.set ((x).toNat) (orI .u16 (out.getD ((x).toNat) 0) (IntKind.u16.wrap ((shlI .u32 (IntKind.u32.wrap ((a.getD ((x).toNat) 0))) vby))))).set ((w64 (x+1)).toNat) (IntKind.u16.wrap ((shrI .u32 (shlI .u32 (IntKind.u32.wrap ((a.getD ((x).toNat) 0))) vby) 16)))).length))] ++ kp [13,14,15]) [(0,.arr 0 (((out.set ((x).toNat) (orI .u16 (out.getD ((x).toNat) 0) (IntKind.u16.wrap ((shlI .u32 (IntKind.u32.wrap ((a.getD ((x).toNat) 0))) vby))))).set ((w64 (x+1)).toNat) (IntKind.u16.wrap ((shrI .u32 (shlI .u32 (IntKind.u32.wrap ((a.getD ((x).toNat) 0))) vby) 16)))).length) (fun zi=>(cU .u16) (((out.set ((x).toNat) (orI .u16 (out.getD ((x).toNat) 0) (IntKind.u16.wrap ((shlI .u32 (IntKind.u32.wrap ((a.getD ((x).toNat) 0))) vby))))).set ((w64 (x+1)).toNat) (IntKind.u16.wrap ((shrI .u32 (shlI .u32 (IntKind.u32.wrap ((a.getD ((x).toNat) 0))) vby) 16)))).getD zi 0)))] 449 [(0:Int)≤16,0≤(w64 (x+1))∧(w64 (x+1)) < (((out.set ((x).toNat) (orI .u16 (out.getD ((x).toNat) 0) (IntKind.u16.wrap ((shlI .u32 (IntKind.u32.wrap ((a.getD ((x).toNat) 0))) vby))))).length:Nat):Int),(w64 (x+1)).toNat < (out.set ((x).toNat) (orI .u16 (out.getD ((x).toNat) 0) (IntKind.u16.wrap ((shlI .u32 (IntKind.u32.wrap ((a.getD ((x).toNat) 0))) vby))))).length,(out.set ((x).toNat) (orI .u16 (out.getD ((x).toNat) 0) (IntKind.u16.wrap ((shlI .u32 (IntKind.u32.wrap ((a.getD ((x).toNat) 0))) vby))))).length=((out.set ((x).toNat) (orI .u16 (out.getD ((x).toNat) 0) (IntKind.u16.wrap ((shlI .u32 (IntKind.u32.wrap ((a.getD ((x).toNat) 0))) vby))))).set ((w64 (x+1)).toNat) (IntKind.u16.wrap ((shrI .u32 (shlI .u32 (IntKind.u32.wrap ((a.getD ((x).toNat) 0))) vby) 16)))).length,(out.set ((x).toNat) (orI .u16 (out.getD ((x).toNat) 0) (IntKind.u16.wrap ((shlI .u32 (IntKind.u32.wrap ((a.getD ((x).toNat) 0))) vby))))).length=((out.set ((x).toNat) (orI .u16 (out.getD ((x).toNat) 0) (IntKind.u16.wrap ((shlI .u32 (IntKind.u32.wrap ((a.getD ((x).toNat) 0))) vby))))).set ((w64 (x+1)).toNat) (IntKind.u16.wrap ((shrI .u32 (shlI .u32 (IntKind.u32.wrap ((a.getD ((x).toNat) 0))) vby) 16)))).length,∀ zi,zi < ((out.set ((x).toNat) (orI .u16 (out.getD ((x).toNat) 0) (IntKind.u16.wrap ((shlI .u32 (IntKind.u32.wrap ((a.getD ((x).toNat) 0))) vby))))).set ((w64 (x+1)).toNat) (IntKind.u16.wrap ((shrI .u32 (shlI .u32 (IntKind.u32.wrap ((a.getD ((x).toNat) 0))) vby) 16)))).length→(fun zi=>(cU .u16) (((out.set ((x).toNat) (orI .u16 (out.getD ((x).toNat) 0) (IntKind.u16.wrap ((shlI .u32 (IntKind.u32.wrap ((a.getD ((x).toNat) 0))) vby))))).set ((w64 (x+1)).toNat) (IntKind.u16.wrap ((shrI .u32 (shlI .u32 (IntKind.u32.wrap ((a.getD ((x).toNat) 0))) vby) 16)))).getD zi 0)) zi=((fun zm=>if zm=(w64 (x+1)).toNat then [(a16 (IntKind.u16.wrap ((shrI .u32 (shlI .u32 (IntKind.u32.wrap ((a.getD ((x).toNat) 0))) vby) 16))))] else (fun zi=>(cU .u16) ((out.set ((x).toNat) (orI .u16 (out.getD ((x).toNat) 0) (IntKind.u16.wrap ((shlI .u32 (IntKind.u32.wrap ((a.getD ((x).toNat) 0))) vby))))).getD zi 0)) zm)) zi] ⟨(by decide),c5,(ltOf c5),(len_set_raw rfl),(len_set_raw rfl),(get_set_raw (cU .u16) 0 (out.set ((x).toNat) (orI .u16 (out.getD ((x).toNat) 0) (IntKind.u16.wrap ((shlI .u32 (IntKind.u32.wrap ((a.getD ((x).toNat) 0))) vby))))) ((w64 (x+1)).toNat) (IntKind.u16.wrap ((shrI .u32 (shlI .u32 (IntKind.u32.wrap ((a.getD ((x).toNat) 0))) vby) 16))) (fun _ _=>rfl)),trivial⟩ ?_
   refine sA 1 [.code (C_28 935),.inLoop (C_28 116),.inBlock 0,.code (C_28 15)] ?_
   refine sR hE ⟨[(1,(aI vby)),(5,(.os 0 0 (((out.set ((x).toNat) (orI .u16 (out.getD ((x).toNat) 0) (IntKind.u16.wrap ((shlI .u32 (IntKind.u32.wrap ((a.getD ((x).toNat) 0))) vby))))).set ((w64 (x+1)).toNat) (IntKind.u16.wrap ((shrI .u32 (shlI .u32 (IntKind.u32.wrap ((a.getD ((x).toNat) 0))) vby) 16)))).length))),(13,(eU a)),(14,(aI ((a.length:Nat):Int))),(15,(aI (w64 (x+1))))],[(0,aU ((out.set ((x).toNat) (orI .u16 (out.getD ((x).toNat) 0) (IntKind.u16.wrap ((shlI .u32 (IntKind.u32.wrap ((a.getD ((x).toNat) 0))) vby))))).set ((w64 (x+1)).toNat) (IntKind.u16.wrap ((shrI .u32 (shlI .u32 (IntKind.u32.wrap ((a.getD ((x).toNat) 0))) vby) 16)))))],481⟩ (C_28 935) [] [] (kp [1,5,13,14,15]) (kq [0]) 481 [] trivial ?_
   refine sA 1 [.code (C_28 116),.inLoop (C_28 116),.inBlock 0,.code (C_28 15)] ?_
   exact sW hE _ [] (kp [1,5,13,14,15]) (kq [0]) 1 [] trivial (ih ((out.set ((x).toNat) (orI .u16 (out.getD ((x).toNat) 0) (IntKind.u16.wrap ((shlI .u32 (IntKind.u32.wrap ((a.getD ((x).toNat) 0))) vby))))).set ((w64 (x+1)).toNat) (IntKind.u16.wrap ((shrI .u32 (shlI .u32 (IntKind.u32.wrap ((a.getD ((x).toNat) 0))) vby) 16)))) (w64 (x+1)) _ h E hE)
  ·have h:=condF h hq2
   refine sA 2 [.code (C_28 30),.code (C_28 31)] ?_
   refine sR hE ⟨[(4,(.os 0 0 out.length))],[(0,aU out)],49⟩ (C_28 30) [] [] (kp [4]) (kq [0]) 49 [] trivial ?_
   obtain rfl:=Option.some.inj h
   refine sW hE ⟨[(4,(.os 0 0 out.length))],[(0,aU out)],49⟩ [] (kp [4]) (kq [0]) 49 [] trivial ?_
   exact sT Tryz.f129 [] [] trivial
theorem g_e_shifted_ok (N:Nat) (a:List Int) (vby:Int) (r:(List Int)) (h:g_e_shifted N a vby=some r):Sd 129 [(eU a),(aI vby)] [] 0 (.os 0 0 r.length) [(0,aU r)]:=by
 unfold g_e_shifted at h
 refine Sound.of_runs (fu:=Tryz.f129) (c:=C_28 1) (nt:=41) (by kernel_rfl) (by kernel_rfl) (by kernel_rfl) (by kernel_rfl) (fun hm=>rfl) ?_
 intro E hE
 refine sA 1 [.code (C_28 2),.code (C_28 3)] ?_
 refine sR hE ⟨[(0,(eU a)),(1,(aI vby))],[],16⟩ (C_28 2) [] [] (kp [0,1]) [] 16 [] trivial ?_
 refine sA 1 [.code (C_28 6),.code (C_28 7)] ?_
 obtain ⟨c,h⟩:=ifSome h
 refine sR hE ⟨[(0,(eU a)),(1,(aI vby)),(5,(.os 64 0 ((List.replicate ((w64 (((a.length:Nat):Int)+1)).toNat) 0:List Int).length)))],[(64,aU (List.replicate ((w64 (((a.length:Nat):Int)+1)).toNat) 0:List Int))],96⟩ (C_28 6) [] [] (kp [0,1] ++ [(5,.osl ((List.replicate ((w64 (((a.length:Nat):Int)+1)).toNat) 0:List Int).length))]) [(64,.arr 64 ((List.replicate ((w64 (((a.length:Nat):Int)+1)).toNat) 0:List Int).length) (fun zi=>(cU .u16) ((List.replicate ((w64 (((a.length:Nat):Int)+1)).toNat) 0:List Int).getD zi 0)))] 96 [0≤(w64 (((a.length:Nat):Int)+1)),(w64 (((a.length:Nat):Int)+1))≤(w64 (((a.length:Nat):Int)+1)),(2:Int) * (w64 (((a.length:Nat):Int)+1))≤281474976710656,(w64 (((a.length:Nat):Int)+1))≤9223372036854775807,(w64 (((a.length:Nat):Int)+1)).toNat=(List.replicate ((w64 (((a.length:Nat):Int)+1)).toNat) 0:List Int).length,(w64 (((a.length:Nat):Int)+1)).toNat=(List.replicate ((w64 (((a.length:Nat):Int)+1)).toNat) 0:List Int).length,∀ zi,zi < (List.replicate ((w64 (((a.length:Nat):Int)+1)).toNat) 0:List Int).length→(fun zi=>(cU .u16) ((List.replicate ((w64 (((a.length:Nat):Int)+1)).toNat) 0:List Int).getD zi 0)) zi=(fun _=>[(a16 0)]) zi] ⟨c.1,(Int.le_refl _),c.2.1,c.2.2,(List.length_replicate).symm,(List.length_replicate).symm,(fun zq hzq=>get_rep (cU .u16) 0 0 ((w64 (((a.length:Nat):Int)+1)).toNat) zq hzq),trivial⟩ ?_
 refine sA 2 [.code (C_28 28),.code (C_28 29),.code (C_28 15)] ?_
 refine sR hE ⟨[(1,(aI vby)),(5,(.os 64 0 ((List.replicate ((w64 (((a.length:Nat):Int)+1)).toNat) 0:List Int).length))),(13,(eU a)),(14,(aI ((a.length:Nat):Int))),(15,(aI 0))],[(64,aU (List.replicate ((w64 (((a.length:Nat):Int)+1)).toNat) 0:List Int))],144⟩ (C_28 28) [] [] (kp [1,5,13,14,15]) (kq [64]) 144 [] trivial ?_
 refine sA 2 [.code (C_28 116),.inLoop (C_28 116),.inBlock 0,.code (C_28 15)] ?_
 exact sW hE _ [] (kp [1,5,13,14,15]) [(0,.keep 64)] 1 [] trivial (g_e_shifted_L1_ok N a vby N (List.replicate ((w64 (((a.length:Nat):Int)+1)).toNat) 0:List Int) 0 _ h E hE)
noncomputable def C_29 (n:Nat):Code:=cat (bodyOf Tryz.f130) (pth n)
theorem g_e_digit_J3_ok (N:Nat) (uo:Nat) (un:Nat) (v:List Int) (q:Int) (cap02:List Int) (borrow:Int) (x:Int) (K_g_e_digit_L2:(List Int)→Int→Int→Int→Option (Int×(List Int)))
  (hK_g_e_digit_L2:∀ (cap02:List Int) (carry:Int) (borrow:Int) (x:Int) (r:Int×(List Int)),K_g_e_digit_L2 cap02 carry borrow x=some r→∀ E,EnvOk E 1→Runs Tryz.prog E 130 161 (SPost E [(0,aU r.2)] (a16 r.1)) [.code (C_29 2036),.inLoop (C_29 2036),.inBlock 2,.code (C_29 255)] ⟨[(0,(.os 0 uo un)),(1,(eU v)),(5,(aI ((v.length:Nat):Int))),(7,(a64 q)),(9,(a64 carry)),(10,(aI borrow)),(84,(aI (w64 (((v.length:Nat):Int)+1)))),(85,(aI x))],[(0,aU cap02)],1⟩) (x2:Int) (r:Int×(List Int)) (h:g_e_digit_J3 N uo un v q cap02 borrow x K_g_e_digit_L2 x2=some r):∀ E,EnvOk E 1→Runs Tryz.prog E 130 161 (SPost E [(0,aU r.2)] (a16 r.1)) [.code (C_29 521422),.code (C_29 521423),.inBlock 3,.code (C_29 16295),.inLoop (C_29 2036),.inBlock 2,.code (C_29 255)] ⟨[(0,(.os 0 uo un)),(1,(eU v)),(5,(aI ((v.length:Nat):Int))),(7,(a64 q)),(10,(aI borrow)),(11,(aI x)),(12,(a64 x2)),(84,(aI (w64 (((v.length:Nat):Int)+1)))),(85,(aI x))],[(0,aU cap02)],1⟩:=by
 intro E hE
 unfold g_e_digit_J3 at h
 refine sR hE ⟨[(0,(.os 0 uo un)),(1,(eU v)),(5,(aI ((v.length:Nat):Int))),(7,(a64 q)),(9,(a64 (shrI .u64 x2 16))),(10,(aI borrow)),(11,(aI x)),(12,(a64 x2)),(84,(aI (w64 (((v.length:Nat):Int)+1)))),(85,(aI x))],[(0,aU cap02)],49⟩ (C_29 521422) [] [] (kp [0,1,5,7,9,10,11,12,84,85]) (kq [0]) 49 [(0:Int)≤16] ⟨(by decide),trivial⟩ ?_
 refine sA 1 [.code (C_29 1042846),.code (C_29 1042847),.inBlock 3,.code (C_29 16295),.inLoop (C_29 2036),.inBlock 2,.code (C_29 255)] ?_
 obtain ⟨c11,h⟩:=ifSome h
 obtain ⟨c12,h⟩:=ifSome h
 refine sR hE ⟨[(0,(.os 0 uo un)),(1,(eU v)),(5,(aI ((v.length:Nat):Int))),(7,(a64 q)),(9,(a64 (shrI .u64 x2 16))),(11,(aI x)),(13,(aI (w64 ((w64 ((w64 ((cap02.getD (addz uo (x).toNat) 0))) - (w64 ((andI .u64 x2 65535)))))+borrow)))),(84,(aI (w64 (((v.length:Nat):Int)+1)))),(85,(aI x))],[(0,aU cap02)],241⟩ (C_29 1042846) [] [] (kp [0,1,5,7,9,11,13,84,85]) (kq [0]) 241 [0≤x∧x < ((un:Nat):Int),(addz uo (x).toNat) < cap02.length] ⟨c11,(by have h1:=c11;have h2:=c12;simp only [addz_eq];omega),trivial⟩ ?_
 refine sA 1 [.code (C_29 2085694),.code (C_29 2085695),.inBlock 3,.code (C_29 16295),.inLoop (C_29 2036),.inBlock 2,.code (C_29 255)] ?_
 refine sR hE ⟨[(0,(.os 0 uo un)),(1,(eU v)),(5,(aI ((v.length:Nat):Int))),(7,(a64 q)),(9,(a64 (shrI .u64 x2 16))),(13,(aI (w64 ((w64 ((w64 ((cap02.getD (addz uo (x).toNat) 0))) - (w64 ((andI .u64 x2 65535)))))+borrow)))),(84,(aI (w64 (((v.length:Nat):Int)+1)))),(85,(aI x))],[(0,aU (cap02.set (addz uo (x).toNat) (IntKind.u16.wrap ((w64 ((w64 ((w64 ((cap02.getD (addz uo (x).toNat) 0))) - (w64 ((andI .u64 x2 65535)))))+borrow))))))],337⟩ (C_29 2085694) [] [] (kp [0,1,5,7,9,13,84,85]) [(0,.arr 0 ((cap02.set (addz uo (x).toNat) (IntKind.u16.wrap ((w64 ((w64 ((w64 ((cap02.getD (addz uo (x).toNat) 0))) - (w64 ((andI .u64 x2 65535)))))+borrow))))).length) (fun zi=>(cU .u16) ((cap02.set (addz uo (x).toNat) (IntKind.u16.wrap ((w64 ((w64 ((w64 ((cap02.getD (addz uo (x).toNat) 0))) - (w64 ((andI .u64 x2 65535)))))+borrow))))).getD zi 0)))] 337 [0≤x∧x < ((un:Nat):Int),(addz uo (x).toNat) < cap02.length,cap02.length=(cap02.set (addz uo (x).toNat) (IntKind.u16.wrap ((w64 ((w64 ((w64 ((cap02.getD (addz uo (x).toNat) 0))) - (w64 ((andI .u64 x2 65535)))))+borrow))))).length,∀ zi,zi < (cap02.set (addz uo (x).toNat) (IntKind.u16.wrap ((w64 ((w64 ((w64 ((cap02.getD (addz uo (x).toNat) 0))) - (w64 ((andI .u64 x2 65535)))))+borrow))))).length→(fun zi=>(cU .u16) ((cap02.set (addz uo (x).toNat) (IntKind.u16.wrap ((w64 ((w64 ((w64 ((cap02.getD (addz uo (x).toNat) 0))) - (w64 ((andI .u64 x2 65535)))))+borrow))))).getD zi 0)) zi=((fun zm=>if zm=(addz uo (x).toNat) then [(a16 (IntKind.u16.wrap ((w64 ((w64 ((w64 ((cap02.getD (addz uo (x).toNat) 0))) - (w64 ((andI .u64 x2 65535)))))+borrow)))))] else (fun zi=>(cU .u16) (cap02.getD zi 0)) zm)) zi] ⟨c11,(by have h1:=c11;have h2:=c12;simp only [addz_eq];omega),(len_set_raw rfl),(get_set_raw (cU .u16) 0 cap02 (addz uo (x).toNat) (IntKind.u16.wrap ((w64 ((w64 ((w64 ((cap02.getD (addz uo (x).toNat) 0))) - (w64 ((andI .u64 x2 65535)))))+borrow)))) (fun _ _=>rfl)),trivial⟩ ?_
 refine sR hE ⟨[(0,(.os 0 uo un)),(1,(eU v)),(5,(aI ((v.length:Nat):Int))),(7,(a64 q)),(9,(a64 (shrI .u64 x2 16))),(10,(aI (shrI .i64 (w64 ((w64 ((w64 ((cap02.getD (addz uo (x).toNat) 0))) - (w64 ((andI .u64 x2 65535)))))+borrow)) 16))),(84,(aI (w64 (((v.length:Nat):Int)+1)))),(85,(aI x))],[(0,aU (cap02.set (addz uo (x).toNat) (IntKind.u16.wrap ((w64 ((w64 ((w64 ((cap02.getD (addz uo (x).toNat) 0))) - (w64 ((andI .u64 x2 65535)))))+borrow))))))],385⟩ (C_29 2085695) [] [] (kp [0,1,5,7,9,10,84,85]) (kq [0]) 385 [(0:Int)≤16] ⟨(by decide),trivial⟩ ?_
 refine sA 1 [.code (C_29 16295),.inLoop (C_29 2036),.inBlock 2,.code (C_29 255)] ?_
 refine sR hE ⟨[(0,(.os 0 uo un)),(1,(eU v)),(5,(aI ((v.length:Nat):Int))),(7,(a64 q)),(9,(a64 (shrI .u64 x2 16))),(10,(aI (shrI .i64 (w64 ((w64 ((w64 ((cap02.getD (addz uo (x).toNat) 0))) - (w64 ((andI .u64 x2 65535)))))+borrow)) 16))),(84,(aI (w64 (((v.length:Nat):Int)+1)))),(85,(aI (w64 (x+1))))],[(0,aU (cap02.set (addz uo (x).toNat) (IntKind.u16.wrap ((w64 ((w64 ((w64 ((cap02.getD (addz uo (x).toNat) 0))) - (w64 ((andI .u64 x2 65535)))))+borrow))))))],417⟩ (C_29 16295) [] [] (kp [0,1,5,7,9,10,84,85]) (kq [0]) 417 [] trivial ?_
 refine sA 1 [.code (C_29 2036),.inLoop (C_29 2036),.inBlock 2,.code (C_29 255)] ?_
 exact sW hE _ [] (kp [0,1,5,7,9,10,84,85]) (kq [0]) 1 [] trivial (hK_g_e_digit_L2 (cap02.set (addz uo (x).toNat) (IntKind.u16.wrap ((w64 ((w64 ((w64 ((cap02.getD (addz uo (x).toNat) 0))) - (w64 ((andI .u64 x2 65535)))))+borrow))))) (shrI .u64 x2 16) (shrI .i64 (w64 ((w64 ((w64 ((cap02.getD (addz uo (x).toNat) 0))) - (w64 ((andI .u64 x2 65535)))))+borrow)) 16) (w64 (x+1)) _ h E hE)
theorem g_e_digit_J5_ok (N:Nat) (cap04:List Int) (q2:Int) (r:Int×(List Int)) (h:g_e_digit_J5 N cap04 q2=some r):∀ E,EnvOk E 1→Runs Tryz.prog E 130 161 (SPost E [(0,aU r.2)] (a16 r.1)) [.code (C_29 1022),.code (C_29 1023)] ⟨[(7,(a64 q2))],[(0,aU cap04)],1⟩:=by
 intro E hE
 unfold g_e_digit_J5 at h
 refine sR hE ⟨[(4,(a16 (IntKind.u16.wrap (q2))))],[(0,aU cap04)],49⟩ (C_29 1022) [] [] (kp [4]) (kq [0]) 49 [] trivial ?_
 obtain rfl:=Option.some.inj h
 refine sW hE ⟨[(4,(a16 (IntKind.u16.wrap (q2))))],[(0,aU cap04)],49⟩ [] (kp [4]) (kq [0]) 49 [] trivial ?_
 exact sT Tryz.f130 [] [] trivial
theorem g_e_digit_L4_ok (N:Nat) (uo:Nat) (un:Nat) (v:List Int) (q:Int) (fuel:Nat):∀ (cap03:List Int) (carry2:Int) (x3:Int) (r:Int×(List Int)),g_e_digit_L4 N uo un v q fuel cap03 carry2 x3=some r→∀ E,EnvOk E 1→Runs Tryz.prog E 130 161 (SPost E [(0,aU r.2)] (a16 r.1)) [.code (C_29 130740),.inLoop (C_29 130740),.inBlock 4,.code (C_29 16343),.code (C_29 511)] ⟨[(0,(.os 0 uo un)),(1,(eU v)),(5,(aI ((v.length:Nat):Int))),(7,(a64 (IntKind.u64.wrap (q - 1)))),(14,(a32 carry2)),(126,(aI ((v.length:Nat):Int))),(127,(aI x3))],[(0,aU cap03)],1⟩:=by
 induction fuel with
 | zero=>intro _ _ _ r h;rw [g_e_digit_L4.eq_1] at h;cases h
 | succ fuel ih =>
  intro cap03 carry2 x3 r h E hE
  rw [g_e_digit_L4.eq_2] at h
  refine sA 1 [.code (C_29 261480),.code (C_29 261481),.inLoop (C_29 130740),.inBlock 4,.code (C_29 16343),.code (C_29 511)] ?_
  refine sR hE ⟨[(0,(.os 0 uo un)),(1,(eU v)),(5,(aI ((v.length:Nat):Int))),(7,(a64 (IntKind.u64.wrap (q - 1)))),(14,(a32 carry2)),(126,(aI ((v.length:Nat):Int))),(127,(aI x3)),(128,(aB (decide (x3 < ((v.length:Nat):Int)))))],[(0,aU cap03)],17⟩ (C_29 261480) [] [] (kp [0,1,5,7,14,126,127,128]) (kq [0]) 17 [] trivial ?_
  refine sA 1 [.code (C_29 522962),.code (C_29 522963),.inLoop (C_29 130740),.inBlock 4,.code (C_29 16343),.code (C_29 511)] ?_
  refine sC 128 (C_29 1045924) (C_29 1045925) (decide (x3 < ((v.length:Nat):Int))) (fun hq6=>?_) (fun hq6=>?_)
  ·have h:=condT h hq6
   refine sA 4 [.code (C_29 4183704),.code (C_29 4183705),.inBlock 5,.code (C_29 1045927),.inLoop (C_29 130740),.inBlock 4,.code (C_29 16343),.code (C_29 511)] ?_
   refine sR hE ⟨[(0,(.os 0 uo un)),(1,(eU v)),(5,(aI ((v.length:Nat):Int))),(7,(a64 (IntKind.u64.wrap (q - 1)))),(14,(a32 carry2)),(15,(aI x3)),(126,(aI ((v.length:Nat):Int))),(127,(aI x3))],[(0,aU cap03)],49⟩ (C_29 4183704) [] [] (kp [0,1,5,7,14,15,126,127]) (kq [0]) 49 [] trivial ?_
   refine sA 1 [.code (C_29 8367410),.code (C_29 8367411),.inBlock 5,.code (C_29 1045927),.inLoop (C_29 130740),.inBlock 4,.code (C_29 16343),.code (C_29 511)] ?_
   obtain ⟨c13,h⟩:=ifSome h
   obtain ⟨c14,h⟩:=ifSome h
   obtain ⟨c15,h⟩:=ifSome h
   refine sR hE ⟨[(0,(.os 0 uo un)),(1,(eU v)),(5,(aI ((v.length:Nat):Int))),(7,(a64 (IntKind.u64.wrap (q - 1)))),(14,(a32 (IntKind.u32.wrap (carry2+(IntKind.u32.wrap ((IntKind.u32.wrap ((cap03.getD (addz uo (x3).toNat) 0)))+(IntKind.u32.wrap ((v.getD ((x3).toNat) 0))))))))),(15,(aI x3)),(126,(aI ((v.length:Nat):Int))),(127,(aI x3))],[(0,aU cap03)],273⟩ (C_29 8367410) [] [] (kp [0,1,5,7,14,15,126,127]) (kq [0]) 273 [0≤x3∧x3 < ((un:Nat):Int),(addz uo (x3).toNat) < cap03.length,0≤x3∧x3 < ((v.length:Nat):Int)] ⟨c13,(by have h1:=c13;have h2:=c14;simp only [addz_eq];omega),c15,trivial⟩ ?_
   refine sA 1 [.code (C_29 16734822),.code (C_29 16734823),.inBlock 5,.code (C_29 1045927),.inLoop (C_29 130740),.inBlock 4,.code (C_29 16343),.code (C_29 511)] ?_
   refine sR hE ⟨[(0,(.os 0 uo un)),(1,(eU v)),(5,(aI ((v.length:Nat):Int))),(7,(a64 (IntKind.u64.wrap (q - 1)))),(14,(a32 (IntKind.u32.wrap (carry2+(IntKind.u32.wrap ((IntKind.u32.wrap ((cap03.getD (addz uo (x3).toNat) 0)))+(IntKind.u32.wrap ((v.getD ((x3).toNat) 0))))))))),(126,(aI ((v.length:Nat):Int))),(127,(aI x3))],[(0,aU (cap03.set (addz uo (x3).toNat) (IntKind.u16.wrap ((IntKind.u32.wrap (carry2+(IntKind.u32.wrap ((IntKind.u32.wrap ((cap03.getD (addz uo (x3).toNat) 0)))+(IntKind.u32.wrap ((v.getD ((x3).toNat) 0)))))))))))],369⟩ (C_29 16734822) [] [] (kp [0,1,5,7,14,126,127]) [(0,.arr 0 ((cap03.set (addz uo (x3).toNat) (IntKind.u16.wrap ((IntKind.u32.wrap (carry2+(IntKind.u32.wrap ((IntKind.u32.wrap ((cap03.getD (addz uo (x3).toNat) 0)))+(IntKind.u32.wrap ((v.getD ((x3).toNat) 0)))))))))).length) (fun zi=>(cU .u16) ((cap03.set (addz uo (x3).toNat) (IntKind.u16.wrap ((IntKind.u32.wrap (carry2+(IntKind.u32.wrap ((IntKind.u32.wrap ((cap03.getD (addz uo (x3).toNat) 0)))+(IntKind.u32.wrap ((v.getD ((x3).toNat) 0)))))))))).getD zi 0)))] 369 [0≤x3∧x3 < ((un:Nat):Int),(addz uo (x3).toNat) < cap03.length,cap03.length=(cap03.set (addz uo (x3).toNat) (IntKind.u16.wrap ((IntKind.u32.wrap (carry2+(IntKind.u32.wrap ((IntKind.u32.wrap ((cap03.getD (addz uo (x3).toNat) 0)))+(IntKind.u32.wrap ((v.getD ((x3).toNat) 0)))))))))).length,∀ zi,zi < (cap03.set (addz uo (x3).toNat) (IntKind.u16.wrap ((IntKind.u32.wrap (carry2+(IntKind.u32.wrap ((IntKind.u32.wrap ((cap03.getD (addz uo (x3).toNat) 0)))+(IntKind.u32.wrap ((v.getD ((x3).toNat) 0)))))))))).length→(fun zi=>(cU .u16) ((cap03.set (addz uo (x3).toNat) (IntKind.u16.wrap ((IntKind.u32.wrap (carry2+(IntKind.u32.wrap ((IntKind.u32.wrap ((cap03.getD (addz uo (x3).toNat) 0)))+(IntKind.u32.wrap ((v.getD ((x3).toNat) 0)))))))))).getD zi 0)) zi=((fun zm=>if zm=(addz uo (x3).toNat) then [(a16 (IntKind.u16.wrap ((IntKind.u32.wrap (carry2+(IntKind.u32.wrap ((IntKind.u32.wrap ((cap03.getD (addz uo (x3).toNat) 0)))+(IntKind.u32.wrap ((v.getD ((x3).toNat) 0))))))))))] else (fun zi=>(cU .u16) (cap03.getD zi 0)) zm)) zi] ⟨c13,(by have h1:=c13;have h2:=c14;simp only [addz_eq];omega),(len_set_raw rfl),(get_set_raw (cU .u16) 0 cap03 (addz uo (x3).toNat) (IntKind.u16.wrap ((IntKind.u32.wrap (carry2+(IntKind.u32.wrap ((IntKind.u32.wrap ((cap03.getD (addz uo (x3).toNat) 0)))+(IntKind.u32.wrap ((v.getD ((x3).toNat) 0))))))))) (fun _ _=>rfl)),trivial⟩ ?_
   refine sR hE ⟨[(0,(.os 0 uo un)),(1,(eU v)),(5,(aI ((v.length:Nat):Int))),(7,(a64 (IntKind.u64.wrap (q - 1)))),(14,(a32 (shrI .u32 (IntKind.u32.wrap (carry2+(IntKind.u32.wrap ((IntKind.u32.wrap ((cap03.getD (addz uo (x3).toNat) 0)))+(IntKind.u32.wrap ((v.getD ((x3).toNat) 0))))))) 16))),(126,(aI ((v.length:Nat):Int))),(127,(aI x3))],[(0,aU (cap03.set (addz uo (x3).toNat) (IntKind.u16.wrap ((IntKind.u32.wrap (carry2+(IntKind.u32.wrap ((IntKind.u32.wrap ((cap03.getD (addz uo (x3).toNat) 0)))+(IntKind.u32.wrap ((v.getD ((x3).toNat) 0)))))))))))],417⟩ (C_29 16734823) [] [] (kp [0,1,5,7,14,126,127]) (kq [0]) 417 [(0:Int)≤16] ⟨(by decide),trivial⟩ ?_
   refine sA 1 [.code (C_29 1045927),.inLoop (C_29 130740),.inBlock 4,.code (C_29 16343),.code (C_29 511)] ?_
   refine sR hE ⟨[(0,(.os 0 uo un)),(1,(eU v)),(5,(aI ((v.length:Nat):Int))),(7,(a64 (IntKind.u64.wrap (q - 1)))),(14,(a32 (shrI .u32 (IntKind.u32.wrap (carry2+(IntKind.u32.wrap ((IntKind.u32.wrap ((cap03.getD (addz uo (x3).toNat) 0)))+(IntKind.u32.wrap ((v.getD ((x3).toNat) 0))))))) 16))),(126,(aI ((v.length:Nat):Int))),(127,(aI (w64 (x3+1))))],[(0,aU (cap03.set (addz uo (x3).toNat) (IntKind.u16.wrap ((IntKind.u32.wrap (carry2+(IntKind.u32.wrap ((IntKind.u32.wrap ((cap03.getD (addz uo (x3).toNat) 0)))+(IntKind.u32.wrap ((v.getD ((x3).toNat) 0)))))))))))],449⟩ (C_29 1045927) [] [] (kp [0,1,5,7,14,126,127]) (kq [0]) 449 [] trivial ?_
   refine sA 1 [.code (C_29 130740),.inLoop (C_29 130740),.inBlock 4,.code (C_29 16343),.code (C_29 511)] ?_
   exact sW hE _ [] (kp [0,1,5,7,14,126,127]) (kq [0]) 1 [] trivial (ih (cap03.set (addz uo (x3).toNat) (IntKind.u16.wrap ((IntKind.u32.wrap (carry2+(IntKind.u32.wrap ((IntKind.u32.wrap ((cap03.getD (addz uo (x3).toNat) 0)))+(IntKind.u32.wrap ((v.getD ((x3).toNat) 0)))))))))) (shrI .u32 (IntKind.u32.wrap (carry2+(IntKind.u32.wrap ((IntKind.u32.wrap ((cap03.getD (addz uo (x3).toNat) 0)))+(IntKind.u32.wrap ((v.getD ((x3).toNat) 0))))))) 16) (w64 (x3+1)) _ h E hE)
  ·have h:=condF h hq6
   refine sA 1 [.code (C_29 16343),.code (C_29 511)] ?_
   obtain ⟨c16,h⟩:=ifSome h
   obtain ⟨c17,h⟩:=ifSome h
   refine sR hE ⟨[(7,(a64 (IntKind.u64.wrap (q - 1))))],[(0,aU (cap03.set (addz uo v.length) (IntKind.u16.wrap ((cap03.getD (addz uo v.length) 0)+(IntKind.u16.wrap (carry2))))))],161⟩ (C_29 16343) [] [] (kp [7]) [(0,.arr 0 ((cap03.set (addz uo v.length) (IntKind.u16.wrap ((cap03.getD (addz uo v.length) 0)+(IntKind.u16.wrap (carry2))))).length) (fun zi=>(cU .u16) ((cap03.set (addz uo v.length) (IntKind.u16.wrap ((cap03.getD (addz uo v.length) 0)+(IntKind.u16.wrap (carry2))))).getD zi 0)))] 161 [0≤((v.length:Nat):Int)∧((v.length:Nat):Int) < ((un:Nat):Int),(addz uo v.length) < cap03.length,0≤((v.length:Nat):Int)∧((v.length:Nat):Int) < ((un:Nat):Int),(addz uo v.length) < cap03.length,cap03.length=(cap03.set (addz uo v.length) (IntKind.u16.wrap ((cap03.getD (addz uo v.length) 0)+(IntKind.u16.wrap (carry2))))).length,∀ zi,zi < (cap03.set (addz uo v.length) (IntKind.u16.wrap ((cap03.getD (addz uo v.length) 0)+(IntKind.u16.wrap (carry2))))).length→(fun zi=>(cU .u16) ((cap03.set (addz uo v.length) (IntKind.u16.wrap ((cap03.getD (addz uo v.length) 0)+(IntKind.u16.wrap (carry2))))).getD zi 0)) zi=((fun zm=>if zm=(addz uo v.length) then [(a16 (IntKind.u16.wrap ((cap03.getD (addz uo v.length) 0)+(IntKind.u16.wrap (carry2)))))] else (fun zi=>(cU .u16) (cap03.getD zi 0)) zm)) zi] ⟨c16,(by have h1:=c16;have h2:=c17;simp only [addz_eq];omega),c16,(by have h1:=c16;have h2:=c17;simp only [addz_eq];omega),(len_set_raw rfl),(get_set_raw (cU .u16) 0 cap03 (addz uo v.length) (IntKind.u16.wrap ((cap03.getD (addz uo v.length) 0)+(IntKind.u16.wrap (carry2)))) (fun _ _=>rfl)),trivial⟩ ?_
   refine sA 1 [.code (C_29 1022),.code (C_29 1023)] ?_
   exact sW hE _ [] (kp [7]) (kq [0]) 1 [] trivial (g_e_digit_J5_ok N (cap03.set (addz uo v.length) (IntKind.u16.wrap ((cap03.getD (addz uo v.length) 0)+(IntKind.u16.wrap (carry2))))) (IntKind.u64.wrap (q - 1)) _ h E hE)
theorem g_e_digit_L2_ok (N:Nat) (uo:Nat) (un:Nat) (v:List Int) (q:Int) (fuel:Nat):∀ (cap02:List Int) (carry:Int) (borrow:Int) (x:Int) (r:Int×(List Int)),g_e_digit_L2 N uo un v q fuel cap02 carry borrow x=some r→∀ E,EnvOk E 1→Runs Tryz.prog E 130 161 (SPost E [(0,aU r.2)] (a16 r.1)) [.code (C_29 2036),.inLoop (C_29 2036),.inBlock 2,.code (C_29 255)] ⟨[(0,(.os 0 uo un)),(1,(eU v)),(5,(aI ((v.length:Nat):Int))),(7,(a64 q)),(9,(a64 carry)),(10,(aI borrow)),(84,(aI (w64 (((v.length:Nat):Int)+1)))),(85,(aI x))],[(0,aU cap02)],1⟩:=by
 induction fuel with
 | zero=>intro _ _ _ _ r h;rw [g_e_digit_L2.eq_1] at h;cases h
 | succ fuel ih =>
  intro cap02 carry borrow x r h E hE
  rw [g_e_digit_L2.eq_2] at h
  refine sA 1 [.code (C_29 4072),.code (C_29 4073),.inLoop (C_29 2036),.inBlock 2,.code (C_29 255)] ?_
  refine sR hE ⟨[(0,(.os 0 uo un)),(1,(eU v)),(5,(aI ((v.length:Nat):Int))),(7,(a64 q)),(9,(a64 carry)),(10,(aI borrow)),(84,(aI (w64 (((v.length:Nat):Int)+1)))),(85,(aI x)),(86,(aB (decide (x < (w64 (((v.length:Nat):Int)+1))))))],[(0,aU cap02)],17⟩ (C_29 4072) [] [] (kp [0,1,5,7,9,10,84,85,86]) (kq [0]) 17 [] trivial ?_
  refine sA 1 [.code (C_29 8146),.code (C_29 8147),.inLoop (C_29 2036),.inBlock 2,.code (C_29 255)] ?_
  refine sC 86 (C_29 16292) (C_29 16293) (decide (x < (w64 (((v.length:Nat):Int)+1)))) (fun hq3=>?_) (fun hq3=>?_)
  ·have h:=condT h hq3
   refine sA 4 [.code (C_29 65176),.code (C_29 65177),.inBlock 3,.code (C_29 16295),.inLoop (C_29 2036),.inBlock 2,.code (C_29 255)] ?_
   refine sR hE ⟨[(0,(.os 0 uo un)),(1,(eU v)),(5,(aI ((v.length:Nat):Int))),(7,(a64 q)),(9,(a64 carry)),(10,(aI borrow)),(11,(aI x)),(84,(aI (w64 (((v.length:Nat):Int)+1)))),(85,(aI x))],[(0,aU cap02)],49⟩ (C_29 65176) [] [] (kp [0,1,5,7,9,10,11,84,85]) (kq [0]) 49 [] trivial ?_
   refine sA 1 [.code (C_29 130354),.code (C_29 130355),.inBlock 3,.code (C_29 16295),.inLoop (C_29 2036),.inBlock 2,.code (C_29 255)] ?_
   refine sR hE ⟨[(0,(.os 0 uo un)),(1,(eU v)),(5,(aI ((v.length:Nat):Int))),(7,(a64 q)),(10,(aI borrow)),(11,(aI x)),(12,(a64 carry)),(84,(aI (w64 (((v.length:Nat):Int)+1)))),(85,(aI x))],[(0,aU cap02)],81⟩ (C_29 130354) [] [] (kp [0,1,5,7,10,11,12,84,85]) (kq [0]) 81 [] trivial ?_
   refine sA 2 [.code (C_29 521420),.code (C_29 521421),.code (C_29 260711),.inBlock 3,.code (C_29 16295),.inLoop (C_29 2036),.inBlock 2,.code (C_29 255)] ?_
   refine sR hE ⟨[(0,(.os 0 uo un)),(1,(eU v)),(5,(aI ((v.length:Nat):Int))),(7,(a64 q)),(10,(aI borrow)),(11,(aI x)),(12,(a64 carry)),(84,(aI (w64 (((v.length:Nat):Int)+1)))),(85,(aI x)),(91,(aB (decide (x < ((v.length:Nat):Int)))))],[(0,aU cap02)],129⟩ (C_29 521420) [] [] (kp [0,1,5,7,10,11,12,84,85,91]) (kq [0]) 129 [] trivial ?_
   refine sC 91 (C_29 1042842) (C_29 1042843) (decide (x < ((v.length:Nat):Int))) (fun hq4=>?_) (fun hq4=>?_)
   ·have h:=condT h hq4
    obtain ⟨c10,h⟩:=ifSome h
    refine sR hE ⟨[(0,(.os 0 uo un)),(1,(eU v)),(5,(aI ((v.length:Nat):Int))),(7,(a64 q)),(10,(aI borrow)),(11,(aI x)),(12,(a64 (IntKind.u64.wrap (carry+(IntKind.u64.wrap (q * (IntKind.u64.wrap ((v.getD ((x).toNat) 0))))))))),(84,(aI (w64 (((v.length:Nat):Int)+1)))),(85,(aI x))],[(0,aU cap02)],289⟩ (C_29 1042842) [] [] (kp [0,1,5,7,10,11,12,84,85]) (kq [0]) 289 [0≤x∧x < ((v.length:Nat):Int)] ⟨c10,trivial⟩ ?_
    refine sA 1 [.code (C_29 521422),.code (C_29 521423),.inBlock 3,.code (C_29 16295),.inLoop (C_29 2036),.inBlock 2,.code (C_29 255)] ?_
    exact sW hE _ [] (kp [0,1,5,7,10,11,12,84,85]) (kq [0]) 1 [] trivial (g_e_digit_J3_ok N uo un v q cap02 borrow x (g_e_digit_L2 N uo un v q fuel) ih (IntKind.u64.wrap (carry+(IntKind.u64.wrap (q * (IntKind.u64.wrap ((v.getD ((x).toNat) 0))))))) _ h E hE)
   ·have h:=condF h hq4
    refine sA 2 [.code (C_29 521422),.code (C_29 521423),.inBlock 3,.code (C_29 16295),.inLoop (C_29 2036),.inBlock 2,.code (C_29 255)] ?_
    exact sW hE _ [] (kp [0,1,5,7,10,11,12,84,85]) (kq [0]) 1 [] trivial (g_e_digit_J3_ok N uo un v q cap02 borrow x (g_e_digit_L2 N uo un v q fuel) ih carry _ h E hE)
  ·have h:=condF h hq3
   refine sA 3 [.code (C_29 1020),.code (C_29 1021),.code (C_29 511)] ?_
   refine sR hE ⟨[(0,(.os 0 uo un)),(1,(eU v)),(5,(aI ((v.length:Nat):Int))),(7,(a64 q)),(123,(aB (decide (borrow < 0))))],[(0,aU cap02)],49⟩ (C_29 1020) [] [] (kp [0,1,5,7,123]) (kq [0]) 49 [] trivial ?_
   refine sC 123 (C_29 2042) (C_29 2043) (decide (borrow < 0)) (fun hq5=>?_) (fun hq5=>?_)
   ·have h:=condT h hq5
    refine sA 1 [.code (C_29 4084),.code (C_29 4085),.code (C_29 511)] ?_
    refine sR hE ⟨[(0,(.os 0 uo un)),(1,(eU v)),(5,(aI ((v.length:Nat):Int))),(7,(a64 (IntKind.u64.wrap (q - 1))))],[(0,aU cap02)],97⟩ (C_29 4084) [] [] (kp [0,1,5,7]) (kq [0]) 97 [] trivial ?_
    refine sA 1 [.code (C_29 8170),.code (C_29 8171),.code (C_29 511)] ?_
    refine sR hE ⟨[(0,(.os 0 uo un)),(1,(eU v)),(5,(aI ((v.length:Nat):Int))),(7,(a64 (IntKind.u64.wrap (q - 1)))),(14,(a32 0))],[(0,aU cap02)],113⟩ (C_29 8170) [] [] (kp [0,1,5,7,14]) (kq [0]) 113 [] trivial ?_
    refine sA 2 [.code (C_29 32684),.code (C_29 32685),.code (C_29 16343),.code (C_29 511)] ?_
    refine sR hE ⟨[(0,(.os 0 uo un)),(1,(eU v)),(5,(aI ((v.length:Nat):Int))),(7,(a64 (IntKind.u64.wrap (q - 1)))),(14,(a32 0)),(126,(aI ((v.length:Nat):Int))),(127,(aI 0))],[(0,aU cap02)],145⟩ (C_29 32684) [] [] (kp [0,1,5,7,14,126,127]) (kq [0]) 145 [] trivial ?_
    refine sA 2 [.code (C_29 130740),.inLoop (C_29 130740),.inBlock 4,.code (C_29 16343),.code (C_29 511)] ?_
    exact sW hE _ [] (kp [0,1,5,7,14,126,127]) (kq [0]) 1 [] trivial (g_e_digit_L4_ok N uo un v q N cap02 0 0 _ h E hE)
   ·have h:=condF h hq5
    refine sA 2 [.code (C_29 1022),.code (C_29 1023)] ?_
    exact sW hE _ [] (kp [7]) (kq [0]) 1 [] trivial (g_e_digit_J5_ok N cap02 q _ h E hE)
theorem g_e_digit_L1_ok (N:Nat) (uo:Nat) (un:Nat) (v:List Int) (cap0:List Int) (fuel:Nat):∀ (q:Int) (rest:Int) (r:Int×(List Int)),g_e_digit_L1 N uo un v cap0 fuel q rest=some r→∀ E,EnvOk E 1→Runs Tryz.prog E 130 161 (SPost E [(0,aU r.2)] (a16 r.1)) [.code (C_29 248),.inLoop (C_29 248),.inBlock 0,.code (C_29 63)] ⟨[(0,(.os 0 uo un)),(1,(eU v)),(5,(aI ((v.length:Nat):Int))),(7,(a64 q)),(8,(a64 rest))],[(0,aU cap0)],1⟩:=by
 induction fuel with
 | zero=>intro _ _ r h;rw [g_e_digit_L1.eq_1] at h;cases h
 | succ fuel ih =>
  intro q rest r h E hE
  rw [g_e_digit_L1.eq_2] at h
  refine sA 2 [.code (C_29 992),.code (C_29 993),.code (C_29 497),.inLoop (C_29 248),.inBlock 0,.code (C_29 63)] ?_
  obtain ⟨c6,h⟩:=ifSome h
  obtain ⟨c7,h⟩:=ifSome h
  obtain ⟨c8,h⟩:=ifSome h
  refine sR hE ⟨[(0,(.os 0 uo un)),(1,(eU v)),(5,(aI ((v.length:Nat):Int))),(7,(a64 q)),(8,(a64 rest)),(72,(aB (cond (decide (rest < 65536)) (cond (decide (q > 65535)) true (decide ((IntKind.u64.wrap (q * (IntKind.u64.wrap ((v.getD ((w64 (((v.length:Nat):Int) - 2)).toNat) 0))))) > (orI .u64 (shlI .u64 rest 16) (IntKind.u64.wrap ((cap0.getD (addz uo (w64 (((v.length:Nat):Int) - 2)).toNat) 0))))))) false)))],[(0,aU cap0)],417⟩ (C_29 992) [] [] (kp [0,1,5,7,8,72]) (kq [0]) 417 [(decide (rest < 65536))=true→AllP [(decide (rest < 65536))=true],((decide (rest < 65536)) && ((decide (rest < 65536)) && (!(decide (q > 65535)))))=true→AllP [((decide (rest < 65536)) && ((decide (rest < 65536)) && (!(decide (q > 65535)))))=true],((decide (rest < 65536)) && ((decide (rest < 65536)) && (!(decide (q > 65535)))))=true→AllP [((decide (rest < 65536)) && ((decide (rest < 65536)) && (!(decide (q > 65535)))))=true,((decide (rest < 65536)) && ((decide (rest < 65536)) && (!(decide (q > 65535)))))=true,0≤(w64 (((v.length:Nat):Int) - 2))∧(w64 (((v.length:Nat):Int) - 2)) < ((v.length:Nat):Int)],((decide (rest < 65536)) && ((decide (rest < 65536)) && (!(decide (q > 65535)))))=true→AllP [((decide (rest < 65536)) && ((decide (rest < 65536)) && (!(decide (q > 65535)))))=true],((decide (rest < 65536)) && ((decide (rest < 65536)) && (!(decide (q > 65535)))))=true→AllP [((decide (rest < 65536)) && ((decide (rest < 65536)) && (!(decide (q > 65535)))))=true],((decide (rest < 65536)) && ((decide (rest < 65536)) && (!(decide (q > 65535)))))=true→AllP [((decide (rest < 65536)) && ((decide (rest < 65536)) && (!(decide (q > 65535)))))=true,((decide (rest < 65536)) && ((decide (rest < 65536)) && (!(decide (q > 65535)))))=true],((decide (rest < 65536)) && ((decide (rest < 65536)) && (!(decide (q > 65535)))))=true→AllP [((decide (rest < 65536)) && ((decide (rest < 65536)) && (!(decide (q > 65535)))))=true,(0:Int)≤16],((decide (rest < 65536)) && ((decide (rest < 65536)) && (!(decide (q > 65535)))))=true→AllP [((decide (rest < 65536)) && ((decide (rest < 65536)) && (!(decide (q > 65535)))))=true],((decide (rest < 65536)) && ((decide (rest < 65536)) && (!(decide (q > 65535)))))=true→AllP [((decide (rest < 65536)) && ((decide (rest < 65536)) && (!(decide (q > 65535)))))=true,((decide (rest < 65536)) && ((decide (rest < 65536)) && (!(decide (q > 65535)))))=true,0≤(w64 (((v.length:Nat):Int) - 2))∧(w64 (((v.length:Nat):Int) - 2)) < ((un:Nat):Int)],((decide (rest < 65536)) && ((decide (rest < 65536)) && (!(decide (q > 65535)))))=true→AllP [((decide (rest < 65536)) && ((decide (rest < 65536)) && (!(decide (q > 65535)))))=true,(addz uo (w64 (((v.length:Nat):Int) - 2)).toNat) < cap0.length],((decide (rest < 65536)) && ((decide (rest < 65536)) && (!(decide (q > 65535)))))=true→AllP [((decide (rest < 65536)) && ((decide (rest < 65536)) && (!(decide (q > 65535)))))=true],((decide (rest < 65536)) && ((decide (rest < 65536)) && (!(decide (q > 65535)))))=true→AllP [((decide (rest < 65536)) && ((decide (rest < 65536)) && (!(decide (q > 65535)))))=true,((decide (rest < 65536)) && ((decide (rest < 65536)) && (!(decide (q > 65535)))))=true],((decide (rest < 65536)) && ((decide (rest < 65536)) && (!(decide (q > 65535)))))=true→AllP [((decide (rest < 65536)) && ((decide (rest < 65536)) && (!(decide (q > 65535)))))=true,((decide (rest < 65536)) && ((decide (rest < 65536)) && (!(decide (q > 65535)))))=true],(decide (rest < 65536))=true→AllP [(decide (rest < 65536))=true,(decide (rest < 65536))=true,(!(decide (q > 65535)))=true→AllP [((decide (rest < 65536)) && ((decide (rest < 65536)) && (!(decide (q > 65535)))))=true]],(decide (rest < 65536))=true→AllP [(decide (rest < 65536))=true]] ⟨(fun hg=>⟨hg,trivial⟩),(fun hg=>⟨hg,trivial⟩),(fun hg=>⟨hg,hg,(c6 hg),trivial⟩),(fun hg=>⟨hg,trivial⟩),(fun hg=>⟨hg,trivial⟩),(fun hg=>⟨hg,hg,trivial⟩),(fun hg=>⟨hg,(by decide),trivial⟩),(fun hg=>⟨hg,trivial⟩),(fun hg=>⟨hg,hg,(c7 hg),trivial⟩),(fun hg=>⟨hg,(by have h1:=(c7 hg);have h2:=(c8 hg);simp only [addz_eq];omega),trivial⟩),(fun hg=>⟨hg,trivial⟩),(fun hg=>⟨hg,hg,trivial⟩),(fun hg=>⟨hg,hg,trivial⟩),(fun hg=>⟨hg,hg,(fun hq=>⟨(andI' hg (andI' hg hq)),trivial⟩),trivial⟩),(fun hq=>⟨hq,trivial⟩),trivial⟩ ?_
  refine sC 72 (C_29 1986) (C_29 1987) (cond (decide (rest < 65536)) (cond (decide (q > 65535)) true (decide ((IntKind.u64.wrap (q * (IntKind.u64.wrap ((v.getD ((w64 (((v.length:Nat):Int) - 2)).toNat) 0))))) > (orI .u64 (shlI .u64 rest 16) (IntKind.u64.wrap ((cap0.getD (addz uo (w64 (((v.length:Nat):Int) - 2)).toNat) 0))))))) false) (fun hq2=>?_) (fun hq2=>?_)
  ·have h:=condT h hq2
   refine sA 3 [.code (C_29 1988),.code (C_29 1989),.inBlock 1,.inLoop (C_29 248),.inBlock 0,.code (C_29 63)] ?_
   refine sR hE ⟨[(0,(.os 0 uo un)),(1,(eU v)),(5,(aI ((v.length:Nat):Int))),(7,(a64 (IntKind.u64.wrap (q - 1)))),(8,(a64 rest))],[(0,aU cap0)],465⟩ (C_29 1988) [] [] (kp [0,1,5,7,8]) (kq [0]) 465 [] trivial ?_
   obtain ⟨c9,h⟩:=ifSome h
   refine sR hE ⟨[(0,(.os 0 uo un)),(1,(eU v)),(5,(aI ((v.length:Nat):Int))),(7,(a64 (IntKind.u64.wrap (q - 1)))),(8,(a64 (IntKind.u64.wrap (rest+(IntKind.u64.wrap ((v.getD ((w64 (((v.length:Nat):Int) - 1)).toNat) 0)))))))],[(0,aU cap0)],609⟩ (C_29 1989) [] [] (kp [0,1,5,7,8]) (kq [0]) 609 [0≤(w64 (((v.length:Nat):Int) - 1))∧(w64 (((v.length:Nat):Int) - 1)) < ((v.length:Nat):Int)] ⟨c9,trivial⟩ ?_
   refine sA 2 [.code (C_29 248),.inLoop (C_29 248),.inBlock 0,.code (C_29 63)] ?_
   exact sW hE _ [] (kp [0,1,5,7,8]) (kq [0]) 1 [] trivial (ih (IntKind.u64.wrap (q - 1)) (IntKind.u64.wrap (rest+(IntKind.u64.wrap ((v.getD ((w64 (((v.length:Nat):Int) - 1)).toNat) 0))))) _ h E hE)
  ·have h:=condF h hq2
   refine sA 2 [.code (C_29 126),.code (C_29 127)] ?_
   refine sR hE ⟨[(0,(.os 0 uo un)),(1,(eU v)),(5,(aI ((v.length:Nat):Int))),(7,(a64 q)),(9,(a64 0)),(10,(aI 0))],[(0,aU cap0)],449⟩ (C_29 126) [] [] (kp [0,1,5,7,9,10]) (kq [0]) 449 [] trivial ?_
   refine sA 2 [.code (C_29 508),.code (C_29 509),.code (C_29 255)] ?_
   refine sR hE ⟨[(0,(.os 0 uo un)),(1,(eU v)),(5,(aI ((v.length:Nat):Int))),(7,(a64 q)),(9,(a64 0)),(10,(aI 0)),(84,(aI (w64 (((v.length:Nat):Int)+1)))),(85,(aI 0))],[(0,aU cap0)],497⟩ (C_29 508) [] [] (kp [0,1,5,7,9,10,84,85]) (kq [0]) 497 [] trivial ?_
   refine sA 2 [.code (C_29 2036),.inLoop (C_29 2036),.inBlock 2,.code (C_29 255)] ?_
   exact sW hE _ [] (kp [0,1,5,7,9,10,84,85]) (kq [0]) 1 [] trivial (g_e_digit_L2_ok N uo un v q N cap0 0 0 0 _ h E hE)
theorem g_e_digit_ok (N:Nat) (uo:Nat) (un:Nat) (v:List Int) (cap0:List Int) (r:Int×(List Int)) (h:g_e_digit N uo un v cap0=some r):Sd 130 [(.os 0 uo un),(eU v)] [(0,aU cap0)] 1 (a16 r.1) [(0,aU r.2)]:=by
 unfold g_e_digit at h
 refine Sound.of_runs (fu:=Tryz.f130) (c:=C_29 1) (nt:=161) (by kernel_rfl) (by kernel_rfl) (by kernel_rfl) (by kernel_rfl) (fun hm=>absurd hm (by decide)) ?_
 intro E hE
 refine sA 1 [.code (C_29 2),.code (C_29 3)] ?_
 refine sR hE ⟨[(0,(.os 0 uo un)),(1,(eU v))],[(0,aU cap0)],17⟩ (C_29 2) [] [] (kp [0,1]) (kq [0]) 17 [] trivial ?_
 refine sA 1 [.code (C_29 6),.code (C_29 7)] ?_
 refine sR hE ⟨[(0,(.os 0 uo un)),(1,(eU v)),(5,(aI ((v.length:Nat):Int)))],[(0,aU cap0)],65⟩ (C_29 6) [] [] (kp [0,1,5]) (kq [0]) 65 [] trivial ?_
 refine sA 1 [.code (C_29 14),.code (C_29 15)] ?_
 obtain ⟨c,h⟩:=ifSome h
 obtain ⟨c2,h⟩:=ifSome h
 obtain ⟨c3,h⟩:=ifSome h
 refine sR hE ⟨[(0,(.os 0 uo un)),(1,(eU v)),(5,(aI ((v.length:Nat):Int))),(6,(a64 (orI .u64 (shlI .u64 (IntKind.u64.wrap ((cap0.getD (addz uo v.length) 0))) 16) (IntKind.u64.wrap ((cap0.getD (addz uo (w64 (((v.length:Nat):Int) - 1)).toNat) 0))))))],[(0,aU cap0)],289⟩ (C_29 14) [] [] (kp [0,1,5,6]) (kq [0]) 289 [0≤((v.length:Nat):Int)∧((v.length:Nat):Int) < ((un:Nat):Int),(addz uo v.length) < cap0.length,(0:Int)≤16,0≤(w64 (((v.length:Nat):Int) - 1))∧(w64 (((v.length:Nat):Int) - 1)) < ((un:Nat):Int),(addz uo (w64 (((v.length:Nat):Int) - 1)).toNat) < cap0.length] ⟨c,(by have h1:=c;have h2:=c2;simp only [addz_eq];omega),(by decide),c3,(by have h1:=c3;have h2:=c2;simp only [addz_eq];omega),trivial⟩ ?_
 refine sA 1 [.code (C_29 30),.code (C_29 31)] ?_
 obtain ⟨c4,h⟩:=ifSome h
 obtain ⟨c5,h⟩:=ifSome h
 refine sR hE ⟨[(0,(.os 0 uo un)),(1,(eU v)),(5,(aI ((v.length:Nat):Int))),(7,(a64 (IntKind.u64.wrap ((orI .u64 (shlI .u64 (IntKind.u64.wrap ((cap0.getD (addz uo v.length) 0))) 16) (IntKind.u64.wrap ((cap0.getD (addz uo (w64 (((v.length:Nat):Int) - 1)).toNat) 0)))).tdiv (IntKind.u64.wrap ((v.getD ((w64 (((v.length:Nat):Int) - 1)).toNat) 0))))))),(8,(a64 ((orI .u64 (shlI .u64 (IntKind.u64.wrap ((cap0.getD (addz uo v.length) 0))) 16) (IntKind.u64.wrap ((cap0.getD (addz uo (w64 (((v.length:Nat):Int) - 1)).toNat) 0)))).tmod (IntKind.u64.wrap ((v.getD ((w64 (((v.length:Nat):Int) - 1)).toNat) 0))))))],[(0,aU cap0)],577⟩ (C_29 30) [] [] (kp [0,1,5,7,8]) (kq [0]) 577 [0≤(w64 (((v.length:Nat):Int) - 1))∧(w64 (((v.length:Nat):Int) - 1)) < ((v.length:Nat):Int),((IntKind.u64.wrap ((v.getD ((w64 (((v.length:Nat):Int) - 1)).toNat) 0))):Int)≠0,0≤(w64 (((v.length:Nat):Int) - 1))∧(w64 (((v.length:Nat):Int) - 1)) < ((v.length:Nat):Int),((IntKind.u64.wrap ((v.getD ((w64 (((v.length:Nat):Int) - 1)).toNat) 0))):Int)≠0] ⟨c4,c5,c4,c5,trivial⟩ ?_
 refine sA 3 [.code (C_29 248),.inLoop (C_29 248),.inBlock 0,.code (C_29 63)] ?_
 exact sW hE _ [] (kp [0,1,5,7,8]) (kq [0]) 1 [] trivial (g_e_digit_L1_ok N uo un v cap0 N (IntKind.u64.wrap ((orI .u64 (shlI .u64 (IntKind.u64.wrap ((cap0.getD (addz uo v.length) 0))) 16) (IntKind.u64.wrap ((cap0.getD (addz uo (w64 (((v.length:Nat):Int) - 1)).toNat) 0)))).tdiv (IntKind.u64.wrap ((v.getD ((w64 (((v.length:Nat):Int) - 1)).toNat) 0))))) ((orI .u64 (shlI .u64 (IntKind.u64.wrap ((cap0.getD (addz uo v.length) 0))) 16) (IntKind.u64.wrap ((cap0.getD (addz uo (w64 (((v.length:Nat):Int) - 1)).toNat) 0)))).tmod (IntKind.u64.wrap ((v.getD ((w64 (((v.length:Nat):Int) - 1)).toNat) 0)))) _ h E hE)
noncomputable def C_23 (n:Nat):Code:=cat (bodyOf Tryz.f112) (pth n)
theorem g_e_divide_L2_ok (N:Nat) (b:List Int) (rLeadingZeros:Int) (q:List Int) (u:List Int) (fuel:Nat):∀ (vr:List Int) (x:Int) (r:(List Int)×(List Int)),g_e_divide_L2 N b rLeadingZeros q u fuel vr x=some r→∀ E,EnvOk E 0→Runs Tryz.prog E 112 109 (SPost E [] (.tup [(eU r.1),(eU r.2)])) [.code (C_23 16372),.inLoop (C_23 16372),.inBlock 2,.code (C_23 2047)] ⟨[(4,(.os 0 0 q.length)),(5,(.os 1 0 vr.length)),(8,(aI rLeadingZeros)),(9,(.os 2 0 u.length)),(81,(aI (((b.length - 0):Nat):Int))),(82,(aI x))],[(0,aU q),(1,aU vr),(2,aU u)],3⟩:=by
 induction fuel with
 | zero=>intro _ _ r h;rw [g_e_divide_L2.eq_1] at h;cases h
 | succ fuel ih =>
  intro vr x r h E hE
  rw [g_e_divide_L2.eq_2] at h
  refine sA 1 [.code (C_23 32744),.code (C_23 32745),.inLoop (C_23 16372),.inBlock 2,.code (C_23 2047)] ?_
  refine sR hE ⟨[(4,(.os 0 0 q.length)),(5,(.os 1 0 vr.length)),(8,(aI rLeadingZeros)),(9,(.os 2 0 u.length)),(81,(aI (((b.length - 0):Nat):Int))),(82,(aI x)),(83,(aB (decide (x < (((b.length - 0):Nat):Int)))))],[(0,aU q),(1,aU vr),(2,aU u)],19⟩ (C_23 32744) [] [] (kp [4,5,8,9,81,82,83]) (kq [0,1,2]) 19 [] trivial ?_
  refine sA 1 [.code (C_23 65490),.code (C_23 65491),.inLoop (C_23 16372),.inBlock 2,.code (C_23 2047)] ?_
  refine sC 83 (C_23 130980) (C_23 130981) (decide (x < (((b.length - 0):Nat):Int))) (fun hq5=>?_) (fun hq5=>?_)
  ·have h:=condT h hq5
   refine sA 4 [.code (C_23 523928),.code (C_23 523929),.inBlock 3,.code (C_23 130983),.inLoop (C_23 16372),.inBlock 2,.code (C_23 2047)] ?_
   refine sR hE ⟨[(4,(.os 0 0 q.length)),(5,(.os 1 0 vr.length)),(8,(aI rLeadingZeros)),(9,(.os 2 0 u.length)),(13,(aI x)),(81,(aI (((b.length - 0):Nat):Int))),(82,(aI x))],[(0,aU q),(1,aU vr),(2,aU u)],51⟩ (C_23 523928) [] [] (kp [4,5,8,9,13,81,82]) (kq [0,1,2]) 51 [] trivial ?_
   obtain ⟨c12,h⟩:=ifSome h
   obtain ⟨c13,h⟩:=ifSome h
   obtain ⟨c14,h⟩:=ifSome h
   obtain ⟨c15,h⟩:=ifSome h
   refine sR hE ⟨[(4,(.os 0 0 q.length)),(5,(.os 1 0 ((vr.set ((x).toNat) (IntKind.u16.wrap ((shrI .u32 (orI .u32 (IntKind.u32.wrap ((u.getD ((x).toNat) 0))) (shlI .u32 (IntKind.u32.wrap ((u.getD ((w64 (x+1)).toNat) 0))) 16)) rLeadingZeros)))).length))),(8,(aI rLeadingZeros)),(9,(.os 2 0 u.length)),(81,(aI (((b.length - 0):Nat):Int))),(82,(aI x))],[(0,aU q),(1,aU (vr.set ((x).toNat) (IntKind.u16.wrap ((shrI .u32 (orI .u32 (IntKind.u32.wrap ((u.getD ((x).toNat) 0))) (shlI .u32 (IntKind.u32.wrap ((u.getD ((w64 (x+1)).toNat) 0))) 16)) rLeadingZeros))))),(2,aU u)],371⟩ (C_23 523929) [] [] (kp [4] ++ [(5,.osl ((vr.set ((x).toNat) (IntKind.u16.wrap ((shrI .u32 (orI .u32 (IntKind.u32.wrap ((u.getD ((x).toNat) 0))) (shlI .u32 (IntKind.u32.wrap ((u.getD ((w64 (x+1)).toNat) 0))) 16)) rLeadingZeros)))).length))] ++ kp [8,9,81,82]) (kq [0] ++ [(1,.arr 1 ((vr.set ((x).toNat) (IntKind.u16.wrap ((shrI .u32 (orI .u32 (IntKind.u32.wrap ((u.getD ((x).toNat) 0))) (shlI .u32 (IntKind.u32.wrap ((u.getD ((w64 (x+1)).toNat) 0))) 16)) rLeadingZeros)))).length) (fun zi=>(cU .u16) ((vr.set ((x).toNat) (IntKind.u16.wrap ((shrI .u32 (orI .u32 (IntKind.u32.wrap ((u.getD ((x).toNat) 0))) (shlI .u32 (IntKind.u32.wrap ((u.getD ((w64 (x+1)).toNat) 0))) 16)) rLeadingZeros)))).getD zi 0)))] ++ kq [2]) 371 [0≤x∧x < ((u.length:Nat):Int),(x).toNat < u.length,0≤(w64 (x+1))∧(w64 (x+1)) < ((u.length:Nat):Int),(w64 (x+1)).toNat < u.length,(0:Int)≤16,(0:Int)≤rLeadingZeros,0≤x∧x < ((vr.length:Nat):Int),(x).toNat < vr.length,vr.length=(vr.set ((x).toNat) (IntKind.u16.wrap ((shrI .u32 (orI .u32 (IntKind.u32.wrap ((u.getD ((x).toNat) 0))) (shlI .u32 (IntKind.u32.wrap ((u.getD ((w64 (x+1)).toNat) 0))) 16)) rLeadingZeros)))).length,vr.length=(vr.set ((x).toNat) (IntKind.u16.wrap ((shrI .u32 (orI .u32 (IntKind.u32.wrap ((u.getD ((x).toNat) 0))) (shlI .u32 (IntKind.u32.wrap ((u.getD ((w64 (x+1)).toNat) 0))) 16)) rLeadingZeros)))).length,∀ zi,zi < (vr.set ((x).toNat) (IntKind.u16.wrap ((shrI .u32 (orI .u32 (IntKind.u32.wrap ((u.getD ((x).toNat) 0))) (shlI .u32 (IntKind.u32.wrap ((u.getD ((w64 (x+1)).toNat) 0))) 16)) rLeadingZeros)))).length→(fun zi=>(cU .u16) ((vr.set ((x).toNat) (IntKind.u16.wrap ((shrI .u32 (orI .u32 (IntKind.u32.wrap ((u.getD ((x).toNat) 0))) (shlI .u32 (IntKind.u32.wrap ((u.getD ((w64 (x+1)).toNat) 0))) 16)) rLeadingZeros)))).getD zi 0)) zi=((fun zm=>if zm=(x).toNat then [(a16 (IntKind.u16.wrap ((shrI .u32 (orI .u32 (IntKind.u32.wrap ((u.getD ((x).toNat) 0))) (shlI .u32 (IntKind.u32.wrap ((u.getD ((w64 (x+1)).toNat) 0))) 16)) rLeadingZeros))))] else (fun zi=>(cU .u16) (vr.getD zi 0)) zm)) zi] ⟨c12,(ltOf c12),c13,(ltOf c13),(by decide),c14,c15,(ltOf c15),(len_set_raw rfl),(len_set_raw rfl),(get_set_raw (cU .u16) 0 vr ((x).toNat) (IntKind.u16.wrap ((shrI .u32 (orI .u32 (IntKind.u32.wrap ((u.getD ((x).toNat) 0))) (shlI .u32 (IntKind.u32.wrap ((u.getD ((w64 (x+1)).toNat) 0))) 16)) rLeadingZeros))) (fun _ _=>rfl)),trivial⟩ ?_
   refine sA 1 [.code (C_23 130983),.inLoop (C_23 16372),.inBlock 2,.code (C_23 2047)] ?_
   refine sR hE ⟨[(4,(.os 0 0 q.length)),(5,(.os 1 0 ((vr.set ((x).toNat) (IntKind.u16.wrap ((shrI .u32 (orI .u32 (IntKind.u32.wrap ((u.getD ((x).toNat) 0))) (shlI .u32 (IntKind.u32.wrap ((u.getD ((w64 (x+1)).toNat) 0))) 16)) rLeadingZeros)))).length))),(8,(aI rLeadingZeros)),(9,(.os 2 0 u.length)),(81,(aI (((b.length - 0):Nat):Int))),(82,(aI (w64 (x+1))))],[(0,aU q),(1,aU (vr.set ((x).toNat) (IntKind.u16.wrap ((shrI .u32 (orI .u32 (IntKind.u32.wrap ((u.getD ((x).toNat) 0))) (shlI .u32 (IntKind.u32.wrap ((u.getD ((w64 (x+1)).toNat) 0))) 16)) rLeadingZeros))))),(2,aU u)],403⟩ (C_23 130983) [] [] (kp [4,5,8,9,81,82]) (kq [0,1,2]) 403 [] trivial ?_
   refine sA 1 [.code (C_23 16372),.inLoop (C_23 16372),.inBlock 2,.code (C_23 2047)] ?_
   exact sW hE _ [] (kp [4,5,8,9,81,82]) (kq [0,1,2]) 3 [] trivial (ih (vr.set ((x).toNat) (IntKind.u16.wrap ((shrI .u32 (orI .u32 (IntKind.u32.wrap ((u.getD ((x).toNat) 0))) (shlI .u32 (IntKind.u32.wrap ((u.getD ((w64 (x+1)).toNat) 0))) 16)) rLeadingZeros)))) (w64 (x+1)) _ h E hE)
  ·have h:=condF h hq5
   refine sA 2 [.code (C_23 4094),.code (C_23 4095)] ?_
   obtain ⟨rtrim2,hr9,h⟩:=bindSome h
   obtain ⟨rtrim3,hr10,h⟩:=bindSome h
   refine sR hE ⟨[(4,(eU rtrim2)),(5,(eU rtrim3))],[],115⟩ (C_23 4094) [(1,⟨[],true,(eU rtrim2),[],0,true,none⟩),(3,⟨[],true,(eU rtrim3),[],0,true,none⟩)] [] (kp [4,5]) [] 115 [Sd 101 [(eU q)] [] 0 (eU rtrim2) [],0+q.length≤q.length,Sd 101 [(eU vr)] [] 0 (eU rtrim3) [],0+vr.length≤vr.length] ⟨(g_e_trim_ok N q rtrim2 hr9),z0,(g_e_trim_ok N vr rtrim3 hr10),z0,trivial⟩ ?_
   obtain rfl:=Option.some.inj h
   refine sW hE ⟨[(4,(eU rtrim2)),(5,(eU rtrim3))],[],115⟩ [] (kp [4,5]) [] 115 [] trivial ?_
   exact sT Tryz.f112 [] [] trivial
theorem g_e_divide_L1_ok (N:Nat) (b:List Int) (rLeadingZeros:Int) (rshifted2:(List Int)) (fuel:Nat):∀ (q:List Int) (u:List Int) (j:Int) (r:(List Int)×(List Int)),g_e_divide_L1 N b rLeadingZeros rshifted2 fuel q u j=some r→∀ E,EnvOk E 0→Runs Tryz.prog E 112 109 (SPost E [] (.tup [(eU r.1),(eU r.2)])) [.code (C_23 4084),.inLoop (C_23 4084),.inBlock 0,.code (C_23 511)] ⟨[(4,(.os 0 0 q.length)),(8,(aI rLeadingZeros)),(9,(.os 1 0 u.length)),(10,(.os 2 0 (b.length - 0))),(11,(aI (((b.length - 0):Nat):Int))),(12,(aI j))],[(0,aU q),(1,aU u),(2,aU rshifted2)],3⟩:=by
 induction fuel with
 | zero=>intro _ _ _ r h;rw [g_e_divide_L1.eq_1] at h;cases h
 | succ fuel ih =>
  intro q u j r h E hE
  rw [g_e_divide_L1.eq_2] at h
  refine sA 2 [.code (C_23 16336),.code (C_23 16337),.code (C_23 8169),.inLoop (C_23 4084),.inBlock 0,.code (C_23 511)] ?_
  refine sR hE ⟨[(4,(.os 0 0 q.length)),(8,(aI rLeadingZeros)),(9,(.os 1 0 u.length)),(10,(.os 2 0 (b.length - 0))),(11,(aI (((b.length - 0):Nat):Int))),(12,(aI j)),(64,(aB (decide (j≥0))))],[(0,aU q),(1,aU u),(2,aU rshifted2)],35⟩ (C_23 16336) [] [] (kp [4,8,9,10,11,12,64]) (kq [0,1,2]) 35 [] trivial ?_
  refine sC 64 (C_23 32674) (C_23 32675) (decide (j≥0)) (fun hq4=>?_) (fun hq4=>?_)
  ·have h:=condT h hq4
   refine sA 3 [.code (C_23 32676),.inBlock 1,.code (C_23 16339),.inLoop (C_23 4084),.inBlock 0,.code (C_23 511)] ?_
   obtain ⟨c5,h⟩:=ifSome h
   obtain ⟨c6,h⟩:=ifSome h
   obtain ⟨c7,h⟩:=ifSome h
   obtain ⟨c8,h⟩:=ifSome h
   obtain ⟨rdigit,hr8,h⟩:=bindSome h
   obtain ⟨c9,h⟩:=ifSome h
   obtain ⟨c10,h⟩:=ifSome h
   refine sR hE ⟨[(4,(.os 0 0 ((q.set ((j).toNat) rdigit.1).length))),(8,(aI rLeadingZeros)),(9,(.os 1 0 rdigit.2.length)),(10,(.os 2 0 (b.length - 0))),(11,(aI (((b.length - 0):Nat):Int))),(12,(aI j))],[(0,aU (q.set ((j).toNat) rdigit.1)),(1,aU rdigit.2),(2,aU rshifted2)],243⟩ (C_23 32676) [(10,⟨[1],false,(a16 rdigit.1),[(0,aU rdigit.2)],0,false,none⟩)] [] ([(4,.osl ((q.set ((j).toNat) rdigit.1).length))] ++ kp [8] ++ [(9,.osl (rdigit.2.length))] ++ kp [10,11,12]) ([(0,.arr 0 ((q.set ((j).toNat) rdigit.1).length) (fun zi=>(cU .u16) ((q.set ((j).toNat) rdigit.1).getD zi 0)))] ++ kq [1,2]) 243 [(j).toNat≤(w64 ((w64 (j+(((b.length - 0):Nat):Int)))+1)).toNat∧(w64 ((w64 (j+(((b.length - 0):Nat):Int)))+1)).toNat≤u.length,0≤j,0≤(w64 ((w64 (j+(((b.length - 0):Nat):Int)))+1)),Sd 130 [(.os 0 ((j).toNat) ((w64 ((w64 (j+(((b.length - 0):Nat):Int)))+1)).toNat - (j).toNat)),(.sl (b.length - 0) (fun zi=>(cU .u16) (rshifted2.getD (addz 0 zi) 0)))] [(0,aU u)] 1 (a16 rdigit.1) [(0,aU rdigit.2)],∀ zi,zi < rdigit.2.length→AV.flatL ((cU .u16) (rdigit.2.getD zi 0))=true,0+(b.length - 0)≤rshifted2.length,0≤j∧j < ((q.length:Nat):Int),(j).toNat < q.length,q.length=(q.set ((j).toNat) rdigit.1).length,u.length=rdigit.2.length,q.length=(q.set ((j).toNat) rdigit.1).length,∀ zi,zi < (q.set ((j).toNat) rdigit.1).length→(fun zi=>(cU .u16) ((q.set ((j).toNat) rdigit.1).getD zi 0)) zi=((fun zm=>if zm=(j).toNat then [(a16 rdigit.1)] else (fun zi=>(cU .u16) (q.getD zi 0)) zm)) zi] ⟨c5,c6,c7,(Sound.conv (g_e_digit_ok N ((j).toNat) ((w64 ((w64 (j+(((b.length - 0):Nat):Int)))+1)).toNat - (j).toNat) ((rshifted2.take b.length).drop 0) u rdigit hr8) (.cons (Alike.refl _) (.cons (Alike.sl (len_ext' rshifted2 0 b.length c8) (fun zq hzq=>get_ext (cU .u16) 0 rshifted2 0 b.length zq hzq)) .nil))),(fun _ _=>rfl),(by have:=c8;omega),c10,(ltOf c10),(len_set_raw rfl),(Eq.symm c9),(len_set_raw rfl),(get_set_raw (cU .u16) 0 q ((j).toNat) rdigit.1 (fun _ _=>rfl)),trivial⟩ ?_
   refine sA 1 [.code (C_23 16339),.inLoop (C_23 4084),.inBlock 0,.code (C_23 511)] ?_
   refine sR hE ⟨[(4,(.os 0 0 ((q.set ((j).toNat) rdigit.1).length))),(8,(aI rLeadingZeros)),(9,(.os 1 0 rdigit.2.length)),(10,(.os 2 0 (b.length - 0))),(11,(aI (((b.length - 0):Nat):Int))),(12,(aI (w64 (j - 1))))],[(0,aU (q.set ((j).toNat) rdigit.1)),(1,aU rdigit.2),(2,aU rshifted2)],291⟩ (C_23 16339) [] [] (kp [4,8,9,10,11,12]) (kq [0,1,2]) 291 [] trivial ?_
   refine sA 1 [.code (C_23 4084),.inLoop (C_23 4084),.inBlock 0,.code (C_23 511)] ?_
   exact sW hE _ [] (kp [4,8,9,10,11,12]) (kq [0,1,2]) 3 [] trivial (ih (q.set ((j).toNat) rdigit.1) rdigit.2 (w64 (j - 1)) _ h E hE)
  ·have h:=condF h hq4
   refine sA 2 [.code (C_23 1022),.code (C_23 1023)] ?_
   obtain ⟨c11,h⟩:=ifSome h
   refine sR hE ⟨[(4,(.os 0 0 q.length)),(5,(.os 51 0 ((List.replicate (b.length - 0) 0:List Int).length))),(8,(aI rLeadingZeros)),(9,(.os 1 0 u.length)),(11,(aI (((b.length - 0):Nat):Int)))],[(0,aU q),(1,aU u),(51,aU (List.replicate (b.length - 0) 0:List Int))],83⟩ (C_23 1022) [] [] (kp [4] ++ [(5,.osl ((List.replicate (b.length - 0) 0:List Int).length))] ++ kp [8,9,11]) (kq [0,1] ++ [(51,.arr 51 ((List.replicate (b.length - 0) 0:List Int).length) (fun zi=>(cU .u16) ((List.replicate (b.length - 0) 0:List Int).getD zi 0)))]) 83 [0≤(((b.length - 0):Nat):Int),(((b.length - 0):Nat):Int)≤(((b.length - 0):Nat):Int),(2:Int) * (((b.length - 0):Nat):Int)≤281474976710656,(((b.length - 0):Nat):Int)≤9223372036854775807,(b.length - 0)=(List.replicate (b.length - 0) 0:List Int).length,(b.length - 0)=(List.replicate (b.length - 0) 0:List Int).length,∀ zi,zi < (List.replicate (b.length - 0) 0:List Int).length→(fun zi=>(cU .u16) ((List.replicate (b.length - 0) 0:List Int).getD zi 0)) zi=(fun _=>[(a16 0)]) zi] ⟨c11.1,(Int.le_refl _),c11.2.1,c11.2.2,(List.length_replicate).symm,(List.length_replicate).symm,(fun zq hzq=>get_rep (cU .u16) 0 0 (b.length - 0) zq hzq),trivial⟩ ?_
   refine sA 2 [.code (C_23 4092),.code (C_23 4093),.code (C_23 2047)] ?_
   refine sR hE ⟨[(4,(.os 0 0 q.length)),(5,(.os 51 0 ((List.replicate (b.length - 0) 0:List Int).length))),(8,(aI rLeadingZeros)),(9,(.os 1 0 u.length)),(81,(aI (((b.length - 0):Nat):Int))),(82,(aI 0))],[(0,aU q),(1,aU u),(51,aU (List.replicate (b.length - 0) 0:List Int))],115⟩ (C_23 4092) [] [] (kp [4,5,8,9,81,82]) (kq [0,1,51]) 115 [] trivial ?_
   refine sA 2 [.code (C_23 16372),.inLoop (C_23 16372),.inBlock 2,.code (C_23 2047)] ?_
   exact sW hE _ [] (kp [4,5,8,9,81,82]) (kq [0] ++ [(1,.keep 51),(2,.keep 1)]) 3 [] trivial (g_e_divide_L2_ok N b rLeadingZeros q u N (List.replicate (b.length - 0) 0:List Int) 0 _ h E hE)
theorem g_e_divide_ok (N:Nat) (a:List Int) (b:List Int) (r:(List Int)×(List Int)) (h:g_e_divide N a b=some r):Sd 112 [(eU a),(eU b)] [] 0 (.tup [(eU r.1),(eU r.2)]) []:=by
 unfold g_e_divide at h
 refine Sound.of_runs (fu:=Tryz.f112) (c:=C_23 1) (nt:=109) (by kernel_rfl) (by kernel_rfl) (by kernel_rfl) (by kernel_rfl) (fun hm=>rfl) ?_
 intro E hE
 refine sA 1 [.code (C_23 2),.code (C_23 3)] ?_
 refine sR hE ⟨[(0,(eU a)),(1,(eU b))],[],32⟩ (C_23 2) [] [] (kp [0,1]) [] 32 [] trivial ?_
 refine sA 2 [.code (C_23 12),.code (C_23 13),.code (C_23 7)] ?_
 obtain ⟨rcompare,hr,h⟩:=bindSome h
 refine sR hE ⟨[(0,(eU a)),(1,(eU b)),(17,(aB (decide (rcompare < 0))))],[],96⟩ (C_23 12) [(2,⟨[],true,(aI rcompare),[],0,false,none⟩)] [] (kp [0,1,17]) [] 96 [Sd 116 [(eU a),(eU b)] [] 0 (aI rcompare) []] ⟨(g_e_compare_ok N a b rcompare hr),trivial⟩ ?_
 refine sC 17 (C_23 26) (C_23 27) (decide (rcompare < 0)) (fun hq2=>?_) (fun hq2=>?_)
 ·have h:=condT h hq2
  refine sA 1 [.code (C_23 52),.code (C_23 53),.code (C_23 7)] ?_
  obtain ⟨rClone,hr2,h⟩:=bindSome h
  refine sR hE ⟨[(4,.nil),(5,(.os 112 0 rClone.length))],[(112,aU rClone)],160⟩ (C_23 52) [(1,⟨[],false,(.os 0 0 rClone.length),[(0,aU rClone)],0,false,none⟩)] [] (kp [4,5]) (kq [112]) 160 [Sd 113 [(eU a)] [] 0 (.os 0 0 rClone.length) [(0,aU rClone)]] ⟨(g_slices_Clone_uint16_uint16_ok N a rClone hr2),trivial⟩ ?_
  obtain rfl:=Option.some.inj h
  refine sW hE ⟨[(4,(eU ([]:List Int))),(5,(eU rClone))],[],160⟩ [112] [(4,.sl (([]:List Int).length) (fun zi=>(cU .u16) (([]:List Int).getD zi 0))),(5,.sl (rClone.length) (fun zi=>(cU .u16) (rClone.getD zi 0)))] [] 160 [([]:List Int).length=0,rClone.length=rClone.length,0+rClone.length≤rClone.length,∀ zi,zi < rClone.length→(fun zi=>(cU .u16) (rClone.getD zi 0)) zi=(fun zi=>(cU .u16) (rClone.getD zi 0)) (addz 0 zi)] ⟨rfl,rfl,z0,(fun _ _=>rfl),trivial⟩ ?_
  exact sT Tryz.f112 [] [] trivial
 ·have h:=condF h hq2
  refine sA 3 [.code (C_23 28),.code (C_23 29),.code (C_23 15)] ?_
  refine sR hE ⟨[(0,(eU a)),(1,(eU b)),(22,(aB (((b.length:Nat):Int) == 1)))],[],144⟩ (C_23 28) [] [] (kp [0,1,22]) [] 144 [] trivial ?_
  refine sC 22 (C_23 58) (C_23 59) (((b.length:Nat):Int) == 1) (fun hq3=>?_) (fun hq3=>?_)
  ·have h:=condT h hq3
   refine sA 1 [.code (C_23 116),.code (C_23 117),.code (C_23 15)] ?_
   obtain ⟨c,h⟩:=ifSome h
   obtain ⟨rshort,hr3,h⟩:=bindSome h
   refine sR hE ⟨[(6,(eU rshort.1)),(7,(a16 rshort.2))],[],304⟩ (C_23 116) [(4,⟨[],true,(.tup [(eU rshort.1),(a16 rshort.2)]),[],0,false,none⟩)] [] (kp [6,7]) [] 304 [0≤(0:Int)∧0 < ((b.length:Nat):Int),Sd 127 [(eU a),(a16 (b.getD 0 0))] [] 0 (.tup [(eU rshort.1),(a16 rshort.2)]) []] ⟨c,(g_e_short_ok N a (b.getD 0 0) rshort hr3),trivial⟩ ?_
   refine sA 1 [.code (C_23 234),.code (C_23 235),.code (C_23 15)] ?_
   obtain ⟨rtrim,hr4,h⟩:=bindSome h
   refine sR hE ⟨[(4,(eU rshort.1)),(5,(eU rtrim))],[],400⟩ (C_23 234) [(3,⟨[],true,(eU rtrim),[],0,true,none⟩)] [] (kp [4,5]) [] 400 [Sd 101 [(.sl 1 (fun zi=>(fun zi=>([[(a16 rshort.2)]]:List (List AV)).getD zi []) (addz 0 zi)))] [] 0 (eU rtrim) [],0+1≤1] ⟨(Sound.conv (g_e_trim_ok N ([rshort.2]:List Int) rtrim hr4) (.cons (Alike.sl rfl (fun zq hzq=>get_chunk (cU .u16) 0 ([rshort.2]:List Int) zq hzq)) .nil)),z0,trivial⟩ ?_
   obtain rfl:=Option.some.inj h
   refine sW hE ⟨[(4,(eU rshort.1)),(5,(eU rtrim))],[],400⟩ [] (kp [4,5]) [] 400 [] trivial ?_
   exact sT Tryz.f112 [] [] trivial
  ·have h:=condF h hq3
   refine sA 2 [.code (C_23 30),.code (C_23 31)] ?_
   obtain ⟨c2,h⟩:=ifSome h
   obtain ⟨rLeadingZeros,hr5,h⟩:=bindSome h
   refine sR hE ⟨[(0,(eU a)),(1,(eU b)),(8,(aI rLeadingZeros))],[],272⟩ (C_23 30) [(6,⟨[],true,(aI rLeadingZeros),[],0,false,none⟩)] [] (kp [0,1,8]) [] 272 [0≤(w64 (((b.length:Nat):Int) - 1))∧(w64 (((b.length:Nat):Int) - 1)) < ((b.length:Nat):Int),Sd 128 [(a16 (b.getD ((w64 (((b.length:Nat):Int) - 1)).toNat) 0))] [] 0 (aI rLeadingZeros) []] ⟨c2,(g_math_bits_LeadingZeros16_ok N (b.getD ((w64 (((b.length:Nat):Int) - 1)).toNat) 0) rLeadingZeros hr5),trivial⟩ ?_
   refine sA 1 [.code (C_23 62),.code (C_23 63)] ?_
   obtain ⟨rshifted,hr6,h⟩:=bindSome h
   obtain ⟨rshifted2,hr7,h⟩:=bindSome h
   obtain ⟨c3,h⟩:=ifSome h
   refine sR hE ⟨[(8,(aI rLeadingZeros)),(9,(.os 304 0 rshifted.length)),(10,(.os 352 0 (b.length - 0)))],[(304,aU rshifted),(352,aU rshifted2)],448⟩ (C_23 62) [(2,⟨[],false,(.os 0 0 rshifted.length),[(0,aU rshifted)],0,false,none⟩),(5,⟨[],false,(.os 0 0 rshifted2.length),[(0,aU rshifted2)],0,false,none⟩)] [] (kp [8,9,10]) (kq [304,352]) 448 [Sd 129 [(eU a),(aI rLeadingZeros)] [] 0 (.os 0 0 rshifted.length) [(0,aU rshifted)],Sd 129 [(eU b),(aI rLeadingZeros)] [] 0 (.os 0 0 rshifted2.length) [(0,aU rshifted2)],0≤b.length∧b.length≤rshifted2.length,0≤((b.length:Nat):Int)] ⟨(g_e_shifted_ok N a rLeadingZeros rshifted hr6),(g_e_shifted_ok N b rLeadingZeros rshifted2 hr7),c3,(Int.natCast_nonneg _),trivial⟩ ?_
   refine sA 1 [.code (C_23 126),.code (C_23 127)] ?_
   refine sR hE ⟨[(8,(aI rLeadingZeros)),(9,(.os 304 0 rshifted.length)),(10,(.os 352 0 (b.length - 0))),(11,(aI (((b.length - 0):Nat):Int)))],[(304,aU rshifted),(352,aU rshifted2)],496⟩ (C_23 126) [] [] (kp [8,9,10,11]) (kq [304,352]) 496 [] trivial ?_
   refine sA 1 [.code (C_23 254),.code (C_23 255)] ?_
   obtain ⟨c4,h⟩:=ifSome h
   refine sR hE ⟨[(4,(.os 560 0 ((List.replicate ((w64 (((rshifted.length:Nat):Int) - (((b.length - 0):Nat):Int))).toNat) 0:List Int).length))),(8,(aI rLeadingZeros)),(9,(.os 304 0 rshifted.length)),(10,(.os 352 0 (b.length - 0))),(11,(aI (((b.length - 0):Nat):Int)))],[(304,aU rshifted),(352,aU rshifted2),(560,aU (List.replicate ((w64 (((rshifted.length:Nat):Int) - (((b.length - 0):Nat):Int))).toNat) 0:List Int))],592⟩ (C_23 254) [] [] ([(4,.osl ((List.replicate ((w64 (((rshifted.length:Nat):Int) - (((b.length - 0):Nat):Int))).toNat) 0:List Int).length))] ++ kp [8,9,10,11]) (kq [304,352] ++ [(560,.arr 560 ((List.replicate ((w64 (((rshifted.length:Nat):Int) - (((b.length - 0):Nat):Int))).toNat) 0:List Int).length) (fun zi=>(cU .u16) ((List.replicate ((w64 (((rshifted.length:Nat):Int) - (((b.length - 0):Nat):Int))).toNat) 0:List Int).getD zi 0)))]) 592 [0≤(w64 (((rshifted.length:Nat):Int) - (((b.length - 0):Nat):Int))),(w64 (((rshifted.length:Nat):Int) - (((b.length - 0):Nat):Int)))≤(w64 (((rshifted.length:Nat):Int) - (((b.length - 0):Nat):Int))),(2:Int) * (w64 (((rshifted.length:Nat):Int) - (((b.length - 0):Nat):Int)))≤281474976710656,(w64 (((rshifted.length:Nat):Int) - (((b.length - 0):Nat):Int)))≤9223372036854775807,(w64 (((rshifted.length:Nat):Int) - (((b.length - 0):Nat):Int))).toNat=(List.replicate ((w64 (((rshifted.length:Nat):Int) - (((b.length - 0):Nat):Int))).toNat) 0:List Int).length,(w64 (((rshifted.length:Nat):Int) - (((b.length - 0):Nat):Int))).toNat=(List.replicate ((w64 (((rshifted.length:Nat):Int) - (((b.length - 0):Nat):Int))).toNat) 0:List Int).length,∀ zi,zi < (List.replicate ((w64 (((rshifted.length:Nat):Int) - (((b.length - 0):Nat):Int))).toNat) 0:List Int).length→(fun zi=>(cU .u16) ((List.replicate ((w64 (((rshifted.length:Nat):Int) - (((b.length - 0):Nat):Int))).toNat) 0:List Int).getD zi 0)) zi=(fun _=>[(a16 0)]) zi] ⟨c4.1,(Int.le_refl _),c4.2.1,c4.2.2,(List.length_replicate).symm,(List.length_replicate).symm,(fun zq hzq=>get_rep (cU .u16) 0 0 ((w64 (((rshifted.length:Nat):Int) - (((b.length - 0):Nat):Int))).toNat) zq hzq),trivial⟩ ?_
   refine sA 2 [.code (C_23 1020),.code (C_23 1021),.code (C_23 511)] ?_
   refine sR hE ⟨[(4,(.os 560 0 ((List.replicate ((w64 (((rshifted.length:Nat):Int) - (((b.length - 0):Nat):Int))).toNat) 0:List Int).length))),(8,(aI rLeadingZeros)),(9,(.os 304 0 rshifted.length)),(10,(.os 352 0 (b.length - 0))),(11,(aI (((b.length - 0):Nat):Int))),(12,(aI (w64 ((w64 (((rshifted.length:Nat):Int) - (((b.length - 0):Nat):Int))) - 1))))],[(304,aU rshifted),(352,aU rshifted2),(560,aU (List.replicate ((w64 (((rshifted.length:Nat):Int) - (((b.length - 0):Nat):Int))).toNat) 0:List Int))],688⟩ (C_23 1020) [] [] (kp [4,8,9,10,11,12]) (kq [304,352,560]) 688 [] trivial ?_
   refine sA 2 [.code (C_23 4084),.inLoop (C_23 4084),.inBlock 0,.code (C_23 511)] ?_
   exact sW hE _ [] (kp [4,8,9,10,11,12]) [(0,.keep 560),(1,.keep 304),(2,.keep 352)] 3 [] trivial (g_e_divide_L1_ok N b rLeadingZeros rshifted2 N (List.replicate ((w64 (((rshifted.length:Nat):Int) - (((b.length - 0):Nat):Int))).toNat) 0:List Int) rshifted (w64 ((w64 (((rshifted.length:Nat):Int) - (((b.length - 0):Nat):Int))) - 1)) _ h E hE)
noncomputable def C_21 (n:Nat):Code:=cat (bodyOf Tryz.f111) (pth n)
theorem g_e_common_L2_ok (N:Nat) (K_g_e_common_L1:(List Int)→(List Int)→Option ((List Int)))
  (hK_g_e_common_L1:∀ (a2:List Int) (b2:List Int) (r:(List Int)),K_g_e_common_L1 a2 b2=some r→∀ E,EnvOk E 0→Runs Tryz.prog E 111 45 (SPost E [] (eU r)) [.code (C_21 24),.inLoop (C_21 24),.inBlock 0,.code (C_21 7)] ⟨[(0,(eU a2)),(1,(eU b2))],[],0⟩) (fuel:Nat):∀ (x:Int) (y:Int) (r:(List Int)),g_e_common_L2 N K_g_e_common_L1 fuel x y=some r→∀ E,EnvOk E 0→Runs Tryz.prog E 111 45 (SPost E [] (eU r)) [.code (C_21 25296),.inLoop (C_21 25296),.inBlock 2,.code (C_21 6325),.code (C_21 791),.inBlock 1,.inLoop (C_21 24),.inBlock 0,.code (C_21 7)] ⟨[(5,(a64 x)),(7,(a64 y))],[],0⟩:=by
 induction fuel with
 | zero=>intro _ _ r h;rw [g_e_common_L2.eq_1] at h;cases h
 | succ fuel ih =>
  intro x y r h E hE
  rw [g_e_common_L2.eq_2] at h
  refine sA 2 [.code (C_21 101184),.code (C_21 101185),.code (C_21 50593),.inLoop (C_21 25296),.inBlock 2,.code (C_21 6325),.code (C_21 791),.inBlock 1,.inLoop (C_21 24),.inBlock 0,.code (C_21 7)] ?_
  refine sR hE ⟨[(5,(a64 x)),(7,(a64 y)),(29,(aB (decide (y > 0))))],[],32⟩ (C_21 101184) [] [] (kp [5,7,29]) [] 32 [] trivial ?_
  refine sC 29 (C_21 202370) (C_21 202371) (decide (y > 0)) (fun hq4=>?_) (fun hq4=>?_)
  ·have h:=condT h hq4
   refine sA 2 [.code (C_21 101186),.inBlock 3,.inLoop (C_21 25296),.inBlock 2,.code (C_21 6325),.code (C_21 791),.inBlock 1,.inLoop (C_21 24),.inBlock 0,.code (C_21 7)] ?_
   obtain ⟨c,h⟩:=ifSome h
   refine sR hE ⟨[(5,(a64 y)),(7,(a64 (x.tmod y)))],[],128⟩ (C_21 101186) [] [] (kp [5,7]) [] 128 [(y:Int)≠0] ⟨c,trivial⟩ ?_
   refine sA 2 [.code (C_21 25296),.inLoop (C_21 25296),.inBlock 2,.code (C_21 6325),.code (C_21 791),.inBlock 1,.inLoop (C_21 24),.inBlock 0,.code (C_21 7)] ?_
   exact sW hE _ [] (kp [5,7]) [] 0 [] trivial (ih y (x.tmod y) _ h E hE)
  ·have h:=condF h hq4
   refine sA 2 [.code (C_21 12650),.code (C_21 12651),.code (C_21 791),.inBlock 1,.inLoop (C_21 24),.inBlock 0,.code (C_21 7)] ?_
   obtain ⟨rnatural,hr3,h⟩:=bindSome h
   refine sR hE ⟨[(4,(eU rnatural))],[],80⟩ (C_21 12650) [(1,⟨[],true,(eU rnatural),[],0,false,none⟩)] [] (kp [4]) [] 80 [Sd 93 [(a64 x)] [] 0 (eU rnatural) []] ⟨(g_e_natural_ok N x rnatural hr3),trivial⟩ ?_
   obtain rfl:=Option.some.inj h
   refine sW hE ⟨[(4,(eU rnatural))],[],80⟩ [] (kp [4]) [] 80 [] trivial ?_
   exact sT Tryz.f111 [] [] trivial
theorem g_e_common_L1_ok (N:Nat) (fuel:Nat):∀ (a2:List Int) (b2:List Int) (r:(List Int)),g_e_common_L1 N fuel a2 b2=some r→∀ E,EnvOk E 0→Runs Tryz.prog E 111 45 (SPost E [] (eU r)) [.code (C_21 24),.inLoop (C_21 24),.inBlock 0,.code (C_21 7)] ⟨[(0,(eU a2)),(1,(eU b2))],[],0⟩:=by
 induction fuel with
 | zero=>intro _ _ r h;rw [g_e_common_L1.eq_1] at h;cases h
 | succ fuel ih =>
  intro a2 b2 r h E hE
  rw [g_e_common_L1.eq_2] at h
  refine sA 2 [.code (C_21 96),.code (C_21 97),.code (C_21 49),.inLoop (C_21 24),.inBlock 0,.code (C_21 7)] ?_
  refine sR hE ⟨[(0,(eU a2)),(1,(eU b2)),(13,(aB (decide (((b2.length:Nat):Int) > 0))))],[],48⟩ (C_21 96) [] [] (kp [0,1,13]) [] 48 [] trivial ?_
  refine sC 13 (C_21 194) (C_21 195) (decide (((b2.length:Nat):Int) > 0)) (fun hq2=>?_) (fun hq2=>?_)
  ·have h:=condT h hq2
   refine sA 3 [.code (C_21 196),.code (C_21 197),.inBlock 1,.inLoop (C_21 24),.inBlock 0,.code (C_21 7)] ?_
   obtain ⟨rword,hr,h⟩:=bindSome h
   refine sR hE ⟨[(0,(eU a2)),(1,(eU b2)),(5,(a64 rword.1)),(6,(aB rword.2))],[],160⟩ (C_21 196) [(1,⟨[],true,(.tup [(a64 rword.1),(aB rword.2)]),[],0,false,none⟩)] [] (kp [0,1,5,6]) [] 160 [Sd 100 [(eU a2)] [] 0 (.tup [(a64 rword.1),(aB rword.2)]) []] ⟨(g_e_word_ok N a2 rword hr),trivial⟩ ?_
   refine sA 1 [.code (C_21 394),.code (C_21 395),.inBlock 1,.inLoop (C_21 24),.inBlock 0,.code (C_21 7)] ?_
   obtain ⟨rword2,hr2,h⟩:=bindSome h
   refine sR hE ⟨[(0,(eU a2)),(1,(eU b2)),(5,(a64 rword.1)),(6,(aB rword.2)),(7,(a64 rword2.1)),(8,(aB rword2.2))],[],272⟩ (C_21 394) [(1,⟨[],true,(.tup [(a64 rword2.1),(aB rword2.2)]),[],0,false,none⟩)] [] (kp [0,1,5,6,7,8]) [] 272 [Sd 100 [(eU b2)] [] 0 (.tup [(a64 rword2.1),(aB rword2.2)]) []] ⟨(g_e_word_ok N b2 rword2 hr2),trivial⟩ ?_
   refine sA 2 [.code (C_21 1580),.code (C_21 1581),.code (C_21 791),.inBlock 1,.inLoop (C_21 24),.inBlock 0,.code (C_21 7)] ?_
   refine sR hE ⟨[(0,(eU a2)),(1,(eU b2)),(5,(a64 rword.1)),(7,(a64 rword2.1)),(27,(aB (cond rword.2 rword2.2 false)))],[],336⟩ (C_21 1580) [] [] (kp [0,1,5,7,27]) [] 336 [rword.2=true→AllP [rword.2=true]] ⟨(fun hq=>⟨hq,trivial⟩),trivial⟩ ?_
   refine sC 27 (C_21 3162) (C_21 3163) (cond rword.2 rword2.2 false) (fun hq3=>?_) (fun hq3=>?_)
   ·have h:=condT h hq3
    refine sA 3 [.code (C_21 25296),.inLoop (C_21 25296),.inBlock 2,.code (C_21 6325),.code (C_21 791),.inBlock 1,.inLoop (C_21 24),.inBlock 0,.code (C_21 7)] ?_
    exact sW hE _ [] (kp [5,7]) [] 0 [] trivial (g_e_common_L2_ok N (g_e_common_L1 N fuel) ih N rword.1 rword2.1 _ h E hE)
   ·have h:=condF h hq3
    refine sA 2 [.code (C_21 1582),.code (C_21 1583),.inBlock 1,.inLoop (C_21 24),.inBlock 0,.code (C_21 7)] ?_
    obtain ⟨rdivide,hr4,h⟩:=bindSome h
    refine sR hE ⟨[(1,(eU b2)),(10,(eU rdivide.2))],[],464⟩ (C_21 1582) [(2,⟨[],true,(.tup [(eU rdivide.1),(eU rdivide.2)]),[],0,false,none⟩)] [] (kp [1,10]) [] 464 [Sd 112 [(eU a2),(eU b2)] [] 0 (.tup [(eU rdivide.1),(eU rdivide.2)]) []] ⟨(g_e_divide_ok N a2 b2 rdivide hr4),trivial⟩ ?_
    refine sR hE ⟨[(0,(eU b2)),(1,(eU rdivide.2))],[],528⟩ (C_21 1583) [] [] (kp [0,1]) [] 528 [] trivial ?_
    refine sA 2 [.code (C_21 24),.inLoop (C_21 24),.inBlock 0,.code (C_21 7)] ?_
    exact sW hE _ [] (kp [0,1]) [] 0 [] trivial (ih b2 rdivide.2 _ h E hE)
  ·have h:=condF h hq2
   refine sA 2 [.code (C_21 14),.code (C_21 15)] ?_
   refine sR hE ⟨[(4,(eU a2))],[],80⟩ (C_21 14) [] [] (kp [4]) [] 80 [] trivial ?_
   obtain rfl:=Option.some.inj h
   refine sW hE ⟨[(4,(eU a2))],[],80⟩ [] (kp [4]) [] 80 [] trivial ?_
   exact sT Tryz.f111 [] [] trivial
theorem g_e_common_ok (N:Nat) (a:List Int) (b:List Int) (r:(List Int)) (h:g_e_common N a b=some r):Sd 111 [(eU a),(eU b)] [] 0 (eU r) []:=by
 unfold g_e_common at h
 refine Sound.of_runs (fu:=Tryz.f111) (c:=C_21 1) (nt:=45) (by kernel_rfl) (by kernel_rfl) (by kernel_rfl) (by kernel_rfl) (fun hm=>rfl) ?_
 intro E hE
 refine sA 1 [.code (C_21 2),.code (C_21 3)] ?_
 refine sR hE ⟨[(0,(eU a)),(1,(eU b))],[],16⟩ (C_21 2) [] [] (kp [0,1]) [] 16 [] trivial ?_
 refine sA 3 [.code (C_21 24),.inLoop (C_21 24),.inBlock 0,.code (C_21 7)] ?_
 exact sW hE _ [] (kp [0,1]) [] 0 [] trivial (g_e_common_L1_ok N N a b _ h E hE)
noncomputable def C_20 (n:Nat):Code:=cat (bodyOf Tryz.f91) (pth n)
theorem g_e_fraction_J1_ok (N:Nat) (a:TInt) (b:TInt) (x:List Int) (y:List Int) (r:TRat) (h:g_e_fraction_J1 N a b x y=some r):∀ E,EnvOk E 0→Runs Tryz.prog E 91 48 (SPost E [(0,aU r.fN.fL),(1,aU r.fD.fL)] (.agg [(aB r.fN.fG),(.os 0 0 r.fN.fL.length),(aB r.fD.fG),(.os 1 0 r.fD.fL.length)])) [.code (C_20 62),.code (C_20 63)] ⟨[(2,(.op 0 0 0)),(3,(.op 1 0 0)),(4,(.op 2 0 0)),(5,(eU x)),(6,(eU y))],[(0,vO 2 (TInt.cells a)),(1,vO 2 (TInt.cells b)),(2,vO 4 [(aB false),.nil,(aB false),.nil])],3⟩:=by
 intro E hE
 unfold g_e_fraction_J1 at h
 obtain ⟨rSg,hr6,h⟩:=bindSome h
 obtain ⟨rSg2,hr7,h⟩:=bindSome h
 refine sR hE ⟨[(4,(.op 2 0 0))],[(2,vN 4 [(aB rSg.fG),(.os 99 0 rSg.fL.length),(aB rSg2.fG),(.os 131 0 rSg2.fL.length)]),(99,aU rSg.fL),(131,aU rSg2.fL)],179⟩ (C_20 62) [(6,⟨[],false,(.agg [(aB rSg.fG),(.os 0 0 rSg.fL.length)]),[(0,aU rSg.fL)],0,false,none⟩),(8,⟨[],false,(.agg [(aB rSg2.fG),(.os 0 0 rSg2.fL.length)]),[(0,aU rSg2.fL)],0,false,none⟩)] [] (kp [4]) (kq [2,99,131]) 179 [0 < 1,0 < 1,Sd 92 [(aB (!(a.fG == b.fG))),(eU x)] [] 0 (.agg [(aB rSg.fG),(.os 0 0 rSg.fL.length)]) [(0,aU rSg.fL)],Sd 92 [(aB false),(eU y)] [] 0 (.agg [(aB rSg2.fG),(.os 0 0 rSg2.fL.length)]) [(0,aU rSg2.fL)],0 < 1] ⟨o1,o1,(g_e_signed_ok N (!(a.fG == b.fG)) x rSg hr6),(g_e_signed_ok N false y rSg2 hr7),o1,trivial⟩ ?_
 obtain rfl:=Option.some.inj h
 refine sW hE ⟨[(4,(.op 16 0 0))],[(0,aU rSg.fL),(1,aU rSg2.fL),(16,vN 4 [(aB rSg.fG),(.os 0 0 rSg.fL.length),(aB rSg2.fG),(.os 1 0 rSg2.fL.length)])],179⟩ [] (kp [4]) [(0,.keep 99),(1,.keep 131),(16,.var 2 [.keep,.keep,.keep,.keep])] 179 [] trivial ?_
 exact sT Tryz.f91 [16] [0 < 1] ⟨o1,trivial⟩
theorem g_e_fraction_ok (N:Nat) (a:TInt) (b:TInt) (r:TRat) (h:g_e_fraction N a b=some r):Sd 91 [(.agg (TInt.cells a)),(.agg (TInt.cells b))] [] 0 (.agg [(aB r.fN.fG),(.os 0 0 r.fN.fL.length),(aB r.fD.fG),(.os 1 0 r.fD.fL.length)]) [(0,aU r.fN.fL),(1,aU r.fD.fL)]:=by
 unfold g_e_fraction at h
 refine Sound.of_runs (fu:=Tryz.f91) (c:=C_20 1) (nt:=48) (by kernel_rfl) (by kernel_rfl) (by kernel_rfl) (by kernel_rfl) (fun hm=>rfl) ?_
 intro E hE
 refine sA 1 [.code (C_20 2),.code (C_20 3)] ?_
 refine sR hE ⟨[(2,(.op 0 0 0)),(3,(.op 16 0 0)),(4,(.op 32 0 0))],[(0,vO 2 (TInt.cells a)),(16,vO 2 (TInt.cells b)),(32,vO 4 [(aB false),.nil,(aB false),.nil])],48⟩ (C_20 2) [] [] (kp [2,3,4]) (kq [0,16,32]) 48 [] trivial ?_
 refine sA 1 [.code (C_20 6),.code (C_20 7)] ?_
 obtain ⟨rtrim,hr,h⟩:=bindSome h
 obtain ⟨rtrim2,hr2,h⟩:=bindSome h
 refine sR hE ⟨[(2,(.op 0 0 0)),(3,(.op 16 0 0)),(4,(.op 32 0 0)),(5,(eU rtrim)),(6,(eU rtrim2))],[(0,vO 2 (TInt.cells a)),(16,vO 2 (TInt.cells b)),(32,vO 4 [(aB false),.nil,(aB false),.nil])],176⟩ (C_20 6) [(2,⟨[],true,(eU rtrim),[],0,false,none⟩),(5,⟨[],true,(eU rtrim2),[],0,false,none⟩)] [] (kp [2,3,4,5,6]) (kq [0,16,32]) 176 [0 < 1,Sd 101 [(eU a.fL)] [] 0 (eU rtrim) [],0 < 1,Sd 101 [(eU b.fL)] [] 0 (eU rtrim2) []] ⟨o1,(g_e_trim_ok N a.fL rtrim hr),o1,(g_e_trim_ok N b.fL rtrim2 hr2),trivial⟩ ?_
 refine sA 1 [.code (C_20 14),.code (C_20 15)] ?_
 obtain ⟨rcommon,hr3,h⟩:=bindSome h
 refine sR hE ⟨[(2,(.op 0 0 0)),(3,(.op 16 0 0)),(4,(.op 32 0 0)),(5,(eU rtrim)),(6,(eU rtrim2)),(7,(eU rcommon))],[(0,vO 2 (TInt.cells a)),(16,vO 2 (TInt.cells b)),(32,vO 4 [(aB false),.nil,(aB false),.nil])],240⟩ (C_20 14) [(2,⟨[],true,(eU rcommon),[],0,false,none⟩)] [] (kp [2,3,4,5,6,7]) (kq [0,16,32]) 240 [Sd 111 [(eU rtrim),(eU rtrim2)] [] 0 (eU rcommon) []] ⟨(g_e_common_ok N rtrim rtrim2 rcommon hr3),trivial⟩ ?_
 refine sA 2 [.code (C_20 60),.code (C_20 61),.code (C_20 31)] ?_
 obtain ⟨c,h⟩:=ifSome h
 refine sR hE ⟨[(2,(.op 0 0 0)),(3,(.op 16 0 0)),(4,(.op 32 0 0)),(5,(eU rtrim)),(6,(eU rtrim2)),(7,(eU rcommon)),(25,(aB (cond (((rcommon.length:Nat):Int) != 1) true ((rcommon.getD 0 0) != 1))))],[(0,vO 2 (TInt.cells a)),(16,vO 2 (TInt.cells b)),(32,vO 4 [(aB false),.nil,(aB false),.nil])],384⟩ (C_20 60) [] [] (kp [2,3,4,5,6,7,25]) (kq [0,16,32]) 384 [(!(((rcommon.length:Nat):Int) != 1))=true→AllP [(!(((rcommon.length:Nat):Int) != 1))=true,0≤(0:Int)∧0 < ((rcommon.length:Nat):Int)],(!(((rcommon.length:Nat):Int) != 1))=true→AllP [(!(((rcommon.length:Nat):Int) != 1))=true],(!(((rcommon.length:Nat):Int) != 1))=true→AllP [(!(((rcommon.length:Nat):Int) != 1))=true],(!(((rcommon.length:Nat):Int) != 1))=true→AllP [(!(((rcommon.length:Nat):Int) != 1))=true]] ⟨(fun hg=>⟨hg,(c hg),trivial⟩),(fun hg=>⟨hg,trivial⟩),(fun hg=>⟨hg,trivial⟩),(fun hq=>⟨hq,trivial⟩),trivial⟩ ?_
 refine sC 25 (C_20 122) (C_20 123) (cond (((rcommon.length:Nat):Int) != 1) true ((rcommon.getD 0 0) != 1)) (fun hq2=>?_) (fun hq2=>?_)
 ·have h:=condT h hq2
  refine sA 1 [.code (C_20 244),.code (C_20 245),.code (C_20 31)] ?_
  obtain ⟨rdivide,hr4,h⟩:=bindSome h
  refine sR hE ⟨[(2,(.op 0 0 0)),(3,(.op 16 0 0)),(4,(.op 32 0 0)),(5,(eU rdivide.1)),(6,(eU rtrim2)),(7,(eU rcommon))],[(0,vO 2 (TInt.cells a)),(16,vO 2 (TInt.cells b)),(32,vO 4 [(aB false),.nil,(aB false),.nil])],496⟩ (C_20 244) [(2,⟨[],true,(.tup [(eU rdivide.1),(eU rdivide.2)]),[],0,false,none⟩)] [] (kp [2,3,4,5,6,7]) (kq [0,16,32]) 496 [Sd 112 [(eU rtrim),(eU rcommon)] [] 0 (.tup [(eU rdivide.1),(eU rdivide.2)]) []] ⟨(g_e_divide_ok N rtrim rcommon rdivide hr4),trivial⟩ ?_
  obtain ⟨rdivide2,hr5,h⟩:=bindSome h
  refine sR hE ⟨[(2,(.op 0 0 0)),(3,(.op 16 0 0)),(4,(.op 32 0 0)),(5,(eU rdivide.1)),(6,(eU rdivide2.1))],[(0,vO 2 (TInt.cells a)),(16,vO 2 (TInt.cells b)),(32,vO 4 [(aB false),.nil,(aB false),.nil])],608⟩ (C_20 245) [(2,⟨[],true,(.tup [(eU rdivide2.1),(eU rdivide2.2)]),[],0,false,none⟩)] [] (kp [2,3,4,5,6]) (kq [0,16,32]) 608 [Sd 112 [(eU rtrim2),(eU rcommon)] [] 0 (.tup [(eU rdivide2.1),(eU rdivide2.2)]) []] ⟨(g_e_divide_ok N rtrim2 rcommon rdivide2 hr5),trivial⟩ ?_
  refine sA 1 [.code (C_20 62),.code (C_20 63)] ?_
  exact sW hE _ [] (kp [2,3,4,5,6]) (kq [0] ++ [(1,.keep 16),(2,.keep 32)]) 3 [] trivial (g_e_fraction_J1_ok N a b rdivide.1 rdivide2.1 _ h E hE)
 ·have h:=condF h hq2
  refine sA 2 [.code (C_20 62),.code (C_20 63)] ?_
  exact sW hE _ [] (kp [2,3,4,5,6]) (kq [0] ++ [(1,.keep 16),(2,.keep 32)]) 3 [] trivial (g_e_fraction_J1_ok N a b rtrim rtrim2 _ h E hE)
noncomputable def C_19 (n:Nat):Code:=cat (bodyOf Tryz.f67) (pth n)
theorem g_e_Whole_ok (N:Nat) (a:TInt) (r:TRat) (h:g_e_Whole N a=some r):Sd 67 [(.agg (TInt.cells a))] [] 0 (.agg [(aB r.fN.fG),(.os 0 0 r.fN.fL.length),(aB r.fD.fG),(.os 1 0 r.fD.fL.length)]) [(0,aU r.fN.fL),(1,aU r.fD.fL)]:=by
 unfold g_e_Whole at h
 refine Sound.of_runs (fu:=Tryz.f67) (c:=C_19 1) (nt:=7) (by kernel_rfl) (by kernel_rfl) (by kernel_rfl) (by kernel_rfl) (fun hm=>rfl) ?_
 intro E hE
 refine sA 1 [.code (C_19 2),.code (C_19 3)] ?_
 refine sR hE ⟨[(1,(.op 0 0 0)),(2,(.op 16 0 0))],[(0,vO 2 (TInt.cells a)),(16,vO 4 [(aB false),.nil,(aB false),.nil])],32⟩ (C_19 2) [] [] (kp [1,2]) (kq [0,16]) 32 [] trivial ?_
 refine sA 1 [.code (C_19 6),.code (C_19 7)] ?_
 obtain ⟨rFr,hr,h⟩:=bindSome h
 refine sR hE ⟨[(2,(.op 16 0 0))],[(16,vN 4 [(aB rFr.fN.fG),(.os 80 0 rFr.fN.fL.length),(aB rFr.fD.fG),(.os 81 0 rFr.fD.fL.length)]),(80,aU rFr.fN.fL),(81,aU rFr.fD.fL)],112⟩ (C_19 6) [(3,⟨[],false,(.agg [(aB rFr.fN.fG),(.os 0 0 rFr.fN.fL.length),(aB rFr.fD.fG),(.os 1 0 rFr.fD.fL.length)]),[(0,aU rFr.fN.fL),(1,aU rFr.fD.fL)],0,false,none⟩)] [] (kp [2]) (kq [16,80,81]) 112 [0 < 1,Sd 91 [(.agg (TInt.cells a)),(.agg [(aB false),(.sl 1 (fun zi=>(fun zi=>([[(a16 1)]]:List (List AV)).getD zi []) (addz 0 zi)))])] [] 0 (.agg [(aB rFr.fN.fG),(.os 0 0 rFr.fN.fL.length),(aB rFr.fD.fG),(.os 1 0 rFr.fD.fL.length)]) [(0,aU rFr.fN.fL),(1,aU rFr.fD.fL)],∀ zi,zi < rFr.fN.fL.length→AV.flatL ((cU .u16) (rFr.fN.fL.getD zi 0))=true,∀ zi,zi < rFr.fD.fL.length→AV.flatL ((cU .u16) (rFr.fD.fL.getD zi 0))=true,0+1≤1,0 < 1] ⟨o1,(Sound.conv (g_e_fraction_ok N a (⟨false,([1]:List Int)⟩:TInt) rFr hr) (.cons (Alike.refl _) (.cons (Alike.agg (.cons (Alike.refl _) (.cons (Alike.sl rfl (fun zq hzq=>get_chunk (cU .u16) 0 ([1]:List Int) zq hzq)) .nil))) .nil))),(fun _ _=>rfl),(fun _ _=>rfl),z0,o1,trivial⟩ ?_
 obtain rfl:=Option.some.inj h
 refine sW hE ⟨[(2,(.op 16 0 0))],[(0,aU rFr.fN.fL),(1,aU rFr.fD.fL),(16,vN 4 [(aB rFr.fN.fG),(.os 0 0 rFr.fN.fL.length),(aB rFr.fD.fG),(.os 1 0 rFr.fD.fL.length)])],112⟩ [] (kp [2]) [(0,.keep 80),(1,.keep 81),(16,.var 16 [.keep,.keep,.keep,.keep])] 112 [] trivial ?_
 exact sT Tryz.f67 [16] [0 < 1] ⟨o1,trivial⟩
noncomputable def C_32 (n:Nat):Code:=cat (bodyOf Tryz.f114) (pth n)
theorem g_e_times_L2_ok (N:Nat) (a:List Int) (b:List Int) (x:Int) (K_g_e_times_L1:(List Int)→Int→Option ((List Int)))
  (hK_g_e_times_L1:∀ (out:List Int) (x:Int) (r:(List Int)),K_g_e_times_L1 out x=some r→∀ E,EnvOk E 0→Runs Tryz.prog E 114 67 (SPost E [] (eU r)) [.code (C_32 116),.inLoop (C_32 116),.inBlock 0,.code (C_32 15)] ⟨[(1,(eU b)),(5,(.os 0 0 out.length)),(17,(eU a)),(18,(aI ((a.length:Nat):Int))),(19,(aI x))],[(0,aU out)],1⟩) (fuel:Nat):∀ (out2:List Int) (carry:Int) (x2:Int) (r:(List Int)),g_e_times_L2 N a b x K_g_e_times_L1 fuel out2 carry x2=some r→∀ E,EnvOk E 0→Runs Tryz.prog E 114 67 (SPost E [] (eU r)) [.code (C_32 119604),.inLoop (C_32 119604),.inBlock 2,.code (C_32 14951),.inBlock 1,.code (C_32 935),.inLoop (C_32 116),.inBlock 0,.code (C_32 15)] ⟨[(1,(eU b)),(5,(.os 0 0 out2.length)),(6,(aI x)),(7,(a16 (a.getD ((x).toNat) 0))),(8,(a32 carry)),(17,(eU a)),(18,(aI ((a.length:Nat):Int))),(19,(aI x)),(24,(eU b)),(25,(aI ((b.length:Nat):Int))),(26,(aI x2))],[(0,aU out2)],1⟩:=by
 induction fuel with
 | zero=>intro _ _ _ r h;rw [g_e_times_L2.eq_1] at h;cases h
 | succ fuel ih =>
  intro out2 carry x2 r h E hE
  rw [g_e_times_L2.eq_2] at h
  refine sA 1 [.code (C_32 239208),.code (C_32 239209),.inLoop (C_32 119604),.inBlock 2,.code (C_32 14951),.inBlock 1,.code (C_32 935),.inLoop (C_32 116),.inBlock 0,.code (C_32 15)] ?_
  refine sR hE ⟨[(1,(eU b)),(5,(.os 0 0 out2.length)),(6,(aI x)),(7,(a16 (a.getD ((x).toNat) 0))),(8,(a32 carry)),(17,(eU a)),(18,(aI ((a.length:Nat):Int))),(19,(aI x)),(24,(eU b)),(25,(aI ((b.length:Nat):Int))),(26,(aI x2)),(27,(aB (decide (x2 < ((b.length:Nat):Int)))))],[(0,aU out2)],17⟩ (C_32 239208) [] [] (kp [1,5,6,7,8,17,18,19,24,25,26,27]) (kq [0]) 17 [] trivial ?_
  refine sA 1 [.code (C_32 478418),.code (C_32 478419),.inLoop (C_32 119604),.inBlock 2,.code (C_32 14951),.inBlock 1,.code (C_32 935),.inLoop (C_32 116),.inBlock 0,.code (C_32 15)] ?_
  refine sC 27 (C_32 956836) (C_32 956837) (decide (x2 < ((b.length:Nat):Int))) (fun hq3=>?_) (fun hq3=>?_)
  ·have h:=condT h hq3
   refine sA 4 [.code (C_32 3827352),.code (C_32 3827353),.inBlock 3,.code (C_32 956839),.inLoop (C_32 119604),.inBlock 2,.code (C_32 14951),.inBlock 1,.code (C_32 935),.inLoop (C_32 116),.inBlock 0,.code (C_32 15)] ?_
   obtain ⟨c3,h⟩:=ifSome h
   refine sR hE ⟨[(1,(eU b)),(5,(.os 0 0 out2.length)),(6,(aI x)),(7,(a16 (a.getD ((x).toNat) 0))),(8,(a32 carry)),(9,(aI x2)),(10,(a16 (b.getD ((x2).toNat) 0))),(17,(eU a)),(18,(aI ((a.length:Nat):Int))),(19,(aI x)),(24,(eU b)),(25,(aI ((b.length:Nat):Int))),(26,(aI x2))],[(0,aU out2)],97⟩ (C_32 3827352) [] [] (kp [1,5,6,7,8,9,10,17,18,19,24,25,26]) (kq [0]) 97 [0≤x2∧x2 < ((b.length:Nat):Int)] ⟨c3,trivial⟩ ?_
   refine sA 1 [.code (C_32 7654706),.code (C_32 7654707),.inBlock 3,.code (C_32 956839),.inLoop (C_32 119604),.inBlock 2,.code (C_32 14951),.inBlock 1,.code (C_32 935),.inLoop (C_32 116),.inBlock 0,.code (C_32 15)] ?_
   obtain ⟨c4,h⟩:=ifSome h
   refine sR hE ⟨[(1,(eU b)),(5,(.os 0 0 out2.length)),(6,(aI x)),(7,(a16 (a.getD ((x).toNat) 0))),(8,(a32 (IntKind.u32.wrap (carry+(IntKind.u32.wrap ((IntKind.u32.wrap ((IntKind.u32.wrap ((a.getD ((x).toNat) 0))) * (IntKind.u32.wrap ((b.getD ((x2).toNat) 0)))))+(IntKind.u32.wrap ((out2.getD ((w64 (x+x2)).toNat) 0))))))))),(9,(aI x2)),(17,(eU a)),(18,(aI ((a.length:Nat):Int))),(19,(aI x)),(24,(eU b)),(25,(aI ((b.length:Nat):Int))),(26,(aI x2))],[(0,aU out2)],353⟩ (C_32 7654706) [] [] (kp [1,5,6,7,8,9,17,18,19,24,25,26]) (kq [0]) 353 [0≤(w64 (x+x2))∧(w64 (x+x2)) < ((out2.length:Nat):Int),(w64 (x+x2)).toNat < out2.length] ⟨c4,(ltOf c4),trivial⟩ ?_
   refine sA 1 [.code (C_32 15309414),.code (C_32 15309415),.inBlock 3,.code (C_32 956839),.inLoop (C_32 119604),.inBlock 2,.code (C_32 14951),.inBlock 1,.code (C_32 935),.inLoop (C_32 116),.inBlock 0,.code (C_32 15)] ?_
   refine sR hE ⟨[(1,(eU b)),(5,(.os 0 0 ((out2.set ((w64 (x+x2)).toNat) (IntKind.u16.wrap ((IntKind.u32.wrap (carry+(IntKind.u32.wrap ((IntKind.u32.wrap ((IntKind.u32.wrap ((a.getD ((x).toNat) 0))) * (IntKind.u32.wrap ((b.getD ((x2).toNat) 0)))))+(IntKind.u32.wrap ((out2.getD ((w64 (x+x2)).toNat) 0)))))))))).length))),(6,(aI x)),(7,(a16 (a.getD ((x).toNat) 0))),(8,(a32 (IntKind.u32.wrap (carry+(IntKind.u32.wrap ((IntKind.u32.wrap ((IntKind.u32.wrap ((a.getD ((x).toNat) 0))) * (IntKind.u32.wrap ((b.getD ((x2).toNat) 0)))))+(IntKind.u32.wrap ((out2.getD ((w64 (x+x2)).toNat) 0))))))))),(17,(eU a)),(18,(aI ((a.length:Nat):Int))),(19,(aI x)),(24,(eU b)),(25,(aI ((b.length:Nat):Int))),(26,(aI x2))],[(0,aU (out2.set ((w64 (x+x2)).toNat) (IntKind.u16.wrap ((IntKind.u32.wrap (carry+(IntKind.u32.wrap ((IntKind.u32.wrap ((IntKind.u32.wrap ((a.getD ((x).toNat) 0))) * (IntKind.u32.wrap ((b.getD ((x2).toNat) 0)))))+(IntKind.u32.wrap ((out2.getD ((w64 (x+x2)).toNat) 0)))))))))))],481⟩ (C_32 15309414) [] [] (kp [1] ++ [(5,.osl ((out2.set ((w64 (x+x2)).toNat) (IntKind.u16.wrap ((IntKind.u32.wrap (carry+(IntKind.u32.wrap ((IntKind.u32.wrap ((IntKind.u32.wrap ((a.getD ((x).toNat) 0))) * (IntKind.u32.wrap ((b.getD ((x2).toNat) 0)))))+(IntKind.u32.wrap ((out2.getD ((w64 (x+x2)).toNat) 0)))))))))).length))] ++ kp [6,7,8,17,18,19,24,25,26]) [(0,.arr 0 ((out2.set ((w64 (x+x2)).toNat) (IntKind.u16.wrap ((IntKind.u32.wrap (carry+(IntKind.u32.wrap ((IntKind.u32.wrap ((IntKind.u32.wrap ((a.getD ((x).toNat) 0))) * (IntKind.u32.wrap ((b.getD ((x2).toNat) 0)))))+(IntKind.u32.wrap ((out2.getD ((w64 (x+x2)).toNat) 0)))))))))).length) (fun zi=>(cU .u16) ((out2.set ((w64 (x+x2)).toNat) (IntKind.u16.wrap ((IntKind.u32.wrap (carry+(IntKind.u32.wrap ((IntKind.u32.wrap ((IntKind.u32.wrap ((a.getD ((x).toNat) 0))) * (IntKind.u32.wrap ((b.getD ((x2).toNat) 0)))))+(IntKind.u32.wrap ((out2.getD ((w64 (x+x2)).toNat) 0)))))))))).getD zi 0)))] 481 [0≤(w64 (x+x2))∧(w64 (x+x2)) < ((out2.length:Nat):Int),(w64 (x+x2)).toNat < out2.length,out2.length=(out2.set ((w64 (x+x2)).toNat) (IntKind.u16.wrap ((IntKind.u32.wrap (carry+(IntKind.u32.wrap ((IntKind.u32.wrap ((IntKind.u32.wrap ((a.getD ((x).toNat) 0))) * (IntKind.u32.wrap ((b.getD ((x2).toNat) 0)))))+(IntKind.u32.wrap ((out2.getD ((w64 (x+x2)).toNat) 0)))))))))).length,out2.length=(out2.set ((w64 (x+x2)).toNat) (IntKind.u16.wrap ((IntKind.u32.wrap (carry+(IntKind.u32.wrap ((IntKind.u32.wrap ((IntKind.u32.wrap ((a.getD ((x).toNat) 0))) * (IntKind.u32.wrap ((b.getD ((x2).toNat) 0)))))+(IntKind.u32.wrap ((out2.getD ((w64 (x+x2)).toNat) 0)))))))))).length,∀ zi,zi < (out2.set ((w64 (x+x2)).toNat) (IntKind.u16.wrap ((IntKind.u32.wrap (carry+(IntKind.u32.wrap ((IntKind.u32.wrap ((IntKind.u32.wrap ((a.getD ((x).toNat) 0))) * (IntKind.u32.wrap ((b.getD ((x2).toNat) 0)))))+(IntKind.u32.wrap ((out2.getD ((w64 (x+x2)).toNat) 0)))))))))).length→(fun zi=>(cU .u16) ((out2.set ((w64 (x+x2)).toNat) (IntKind.u16.wrap ((IntKind.u32.wrap (carry+(IntKind.u32.wrap ((IntKind.u32.wrap ((IntKind.u32.wrap ((a.getD ((x).toNat) 0))) * (IntKind.u32.wrap ((b.getD ((x2).toNat) 0)))))+(IntKind.u32.wrap ((out2.getD ((w64 (x+x2)).toNat) 0)))))))))).getD zi 0)) zi=((fun zm=>if zm=(w64 (x+x2)).toNat then [(a16 (IntKind.u16.wrap ((IntKind.u32.wrap (carry+(IntKind.u32.wrap ((IntKind.u32.wrap ((IntKind.u32.wrap ((a.getD ((x).toNat) 0))) * (IntKind.u32.wrap ((b.getD ((x2).toNat) 0)))))+(IntKind.u32.wrap ((out2.getD ((w64 (x+x2)).toNat) 0))))))))))] else (fun zi=>(cU .u16) (out2.getD zi 0)) zm)) zi] ⟨c4,(ltOf c4),(len_set_raw rfl),(len_set_raw rfl),(get_set_raw (cU .u16) 0 out2 ((w64 (x+x2)).toNat) (IntKind.u16.wrap ((IntKind.u32.wrap (carry+(IntKind.u32.wrap ((IntKind.u32.wrap ((IntKind.u32.wrap ((a.getD ((x).toNat) 0))) * (IntKind.u32.wrap ((b.getD ((x2).toNat) 0)))))+(IntKind.u32.wrap ((out2.getD ((w64 (x+x2)).toNat) 0))))))))) (fun _ _=>rfl)),trivial⟩ ?_
   refine sR hE ⟨[(1,(eU b)),(5,(.os 0 0 ((out2.set ((w64 (x+x2)).toNat) (IntKind.u16.wrap ((IntKind.u32.wrap (carry+(IntKind.u32.wrap ((IntKind.u32.wrap ((IntKind.u32.wrap ((a.getD ((x).toNat) 0))) * (IntKind.u32.wrap ((b.getD ((x2).toNat) 0)))))+(IntKind.u32.wrap ((out2.getD ((w64 (x+x2)).toNat) 0)))))))))).length))),(6,(aI x)),(7,(a16 (a.getD ((x).toNat) 0))),(8,(a32 (shrI .u32 (IntKind.u32.wrap (carry+(IntKind.u32.wrap ((IntKind.u32.wrap ((IntKind.u32.wrap ((a.getD ((x).toNat) 0))) * (IntKind.u32.wrap ((b.getD ((x2).toNat) 0)))))+(IntKind.u32.wrap ((out2.getD ((w64 (x+x2)).toNat) 0))))))) 16))),(17,(eU a)),(18,(aI ((a.length:Nat):Int))),(19,(aI x)),(24,(eU b)),(25,(aI ((b.length:Nat):Int))),(26,(aI x2))],[(0,aU (out2.set ((w64 (x+x2)).toNat) (IntKind.u16.wrap ((IntKind.u32.wrap (carry+(IntKind.u32.wrap ((IntKind.u32.wrap ((IntKind.u32.wrap ((a.getD ((x).toNat) 0))) * (IntKind.u32.wrap ((b.getD ((x2).toNat) 0)))))+(IntKind.u32.wrap ((out2.getD ((w64 (x+x2)).toNat) 0)))))))))))],529⟩ (C_32 15309415) [] [] (kp [1,5,6,7,8,17,18,19,24,25,26]) (kq [0]) 529 [(0:Int)≤16] ⟨(by decide),trivial⟩ ?_
   refine sA 1 [.code (C_32 956839),.inLoop (C_32 119604),.inBlock 2,.code (C_32 14951),.inBlock 1,.code (C_32 935),.inLoop (C_32 116),.inBlock 0,.code (C_32 15)] ?_
   refine sR hE ⟨[(1,(eU b)),(5,(.os 0 0 ((out2.set ((w64 (x+x2)).toNat) (IntKind.u16.wrap ((IntKind.u32.wrap (carry+(IntKind.u32.wrap ((IntKind.u32.wrap ((IntKind.u32.wrap ((a.getD ((x).toNat) 0))) * (IntKind.u32.wrap ((b.getD ((x2).toNat) 0)))))+(IntKind.u32.wrap ((out2.getD ((w64 (x+x2)).toNat) 0)))))))))).length))),(6,(aI x)),(7,(a16 (a.getD ((x).toNat) 0))),(8,(a32 (shrI .u32 (IntKind.u32.wrap (carry+(IntKind.u32.wrap ((IntKind.u32.wrap ((IntKind.u32.wrap ((a.getD ((x).toNat) 0))) * (IntKind.u32.wrap ((b.getD ((x2).toNat) 0)))))+(IntKind.u32.wrap ((out2.getD ((w64 (x+x2)).toNat) 0))))))) 16))),(17,(eU a)),(18,(aI ((a.length:Nat):Int))),(19,(aI x)),(24,(eU b)),(25,(aI ((b.length:Nat):Int))),(26,(aI (w64 (x2+1))))],[(0,aU (out2.set ((w64 (x+x2)).toNat) (IntKind.u16.wrap ((IntKind.u32.wrap (carry+(IntKind.u32.wrap ((IntKind.u32.wrap ((IntKind.u32.wrap ((a.getD ((x).toNat) 0))) * (IntKind.u32.wrap ((b.getD ((x2).toNat) 0)))))+(IntKind.u32.wrap ((out2.getD ((w64 (x+x2)).toNat) 0)))))))))))],561⟩ (C_32 956839) [] [] (kp [1,5,6,7,8,17,18,19,24,25,26]) (kq [0]) 561 [] trivial ?_
   refine sA 1 [.code (C_32 119604),.inLoop (C_32 119604),.inBlock 2,.code (C_32 14951),.inBlock 1,.code (C_32 935),.inLoop (C_32 116),.inBlock 0,.code (C_32 15)] ?_
   exact sW hE _ [] (kp [1,5,6,7,8,17,18,19,24,25,26]) (kq [0]) 1 [] trivial (ih (out2.set ((w64 (x+x2)).toNat) (IntKind.u16.wrap ((IntKind.u32.wrap (carry+(IntKind.u32.wrap ((IntKind.u32.wrap ((IntKind.u32.wrap ((a.getD ((x).toNat) 0))) * (IntKind.u32.wrap ((b.getD ((x2).toNat) 0)))))+(IntKind.u32.wrap ((out2.getD ((w64 (x+x2)).toNat) 0)))))))))) (shrI .u32 (IntKind.u32.wrap (carry+(IntKind.u32.wrap ((IntKind.u32.wrap ((IntKind.u32.wrap ((a.getD ((x).toNat) 0))) * (IntKind.u32.wrap ((b.getD ((x2).toNat) 0)))))+(IntKind.u32.wrap ((out2.getD ((w64 (x+x2)).toNat) 0))))))) 16) (w64 (x2+1)) _ h E hE)
  ·have h:=condF h hq3
   refine sA 1 [.code (C_32 14951),.inBlock 1,.code (C_32 935),.inLoop (C_32 116),.inBlock 0,.code (C_32 15)] ?_
   obtain ⟨c5,h⟩:=ifSome h
   refine sR hE ⟨[(1,(eU b)),(5,(.os 0 0 ((out2.set ((w64 (x+((b.length:Nat):Int))).toNat) (IntKind.u16.wrap (carry))).length))),(17,(eU a)),(18,(aI ((a.length:Nat):Int))),(19,(aI x))],[(0,aU (out2.set ((w64 (x+((b.length:Nat):Int))).toNat) (IntKind.u16.wrap (carry))))],161⟩ (C_32 14951) [] [] (kp [1] ++ [(5,.osl ((out2.set ((w64 (x+((b.length:Nat):Int))).toNat) (IntKind.u16.wrap (carry))).length))] ++ kp [17,18,19]) [(0,.arr 0 ((out2.set ((w64 (x+((b.length:Nat):Int))).toNat) (IntKind.u16.wrap (carry))).length) (fun zi=>(cU .u16) ((out2.set ((w64 (x+((b.length:Nat):Int))).toNat) (IntKind.u16.wrap (carry))).getD zi 0)))] 161 [0≤(w64 (x+((b.length:Nat):Int)))∧(w64 (x+((b.length:Nat):Int))) < ((out2.length:Nat):Int),(w64 (x+((b.length:Nat):Int))).toNat < out2.length,out2.length=(out2.set ((w64 (x+((b.length:Nat):Int))).toNat) (IntKind.u16.wrap (carry))).length,out2.length=(out2.set ((w64 (x+((b.length:Nat):Int))).toNat) (IntKind.u16.wrap (carry))).length,∀ zi,zi < (out2.set ((w64 (x+((b.length:Nat):Int))).toNat) (IntKind.u16.wrap (carry))).length→(fun zi=>(cU .u16) ((out2.set ((w64 (x+((b.length:Nat):Int))).toNat) (IntKind.u16.wrap (carry))).getD zi 0)) zi=((fun zm=>if zm=(w64 (x+((b.length:Nat):Int))).toNat then [(a16 (IntKind.u16.wrap (carry)))] else (fun zi=>(cU .u16) (out2.getD zi 0)) zm)) zi] ⟨c5,(ltOf c5),(len_set_raw rfl),(len_set_raw rfl),(get_set_raw (cU .u16) 0 out2 ((w64 (x+((b.length:Nat):Int))).toNat) (IntKind.u16.wrap (carry)) (fun _ _=>rfl)),trivial⟩ ?_
   refine sA 1 [.code (C_32 935),.inLoop (C_32 116),.inBlock 0,.code (C_32 15)] ?_
   refine sR hE ⟨[(1,(eU b)),(5,(.os 0 0 ((out2.set ((w64 (x+((b.length:Nat):Int))).toNat) (IntKind.u16.wrap (carry))).length))),(17,(eU a)),(18,(aI ((a.length:Nat):Int))),(19,(aI (w64 (x+1))))],[(0,aU (out2.set ((w64 (x+((b.length:Nat):Int))).toNat) (IntKind.u16.wrap (carry))))],193⟩ (C_32 935) [] [] (kp [1,5,17,18,19]) (kq [0]) 193 [] trivial ?_
   refine sA 1 [.code (C_32 116),.inLoop (C_32 116),.inBlock 0,.code (C_32 15)] ?_
   exact sW hE _ [] (kp [1,5,17,18,19]) (kq [0]) 1 [] trivial (hK_g_e_times_L1 (out2.set ((w64 (x+((b.length:Nat):Int))).toNat) (IntKind.u16.wrap (carry))) (w64 (x+1)) _ h E hE)
theorem g_e_times_L1_ok (N:Nat) (a:List Int) (b:List Int) (fuel:Nat):∀ (out:List Int) (x:Int) (r:(List Int)),g_e_times_L1 N a b fuel out x=some r→∀ E,EnvOk E 0→Runs Tryz.prog E 114 67 (SPost E [] (eU r)) [.code (C_32 116),.inLoop (C_32 116),.inBlock 0,.code (C_32 15)] ⟨[(1,(eU b)),(5,(.os 0 0 out.length)),(17,(eU a)),(18,(aI ((a.length:Nat):Int))),(19,(aI x))],[(0,aU out)],1⟩:=by
 induction fuel with
 | zero=>intro _ _ r h;rw [g_e_times_L1.eq_1] at h;cases h
 | succ fuel ih =>
  intro out x r h E hE
  rw [g_e_times_L1.eq_2] at h
  refine sA 1 [.code (C_32 232),.code (C_32 233),.inLoop (C_32 116),.inBlock 0,.code (C_32 15)] ?_
  refine sR hE ⟨[(1,(eU b)),(5,(.os 0 0 out.length)),(17,(eU a)),(18,(aI ((a.length:Nat):Int))),(19,(aI x)),(20,(aB (decide (x < ((a.length:Nat):Int)))))],[(0,aU out)],17⟩ (C_32 232) [] [] (kp [1,5,17,18,19,20]) (kq [0]) 17 [] trivial ?_
  refine sA 1 [.code (C_32 466),.code (C_32 467),.inLoop (C_32 116),.inBlock 0,.code (C_32 15)] ?_
  refine sC 20 (C_32 932) (C_32 933) (decide (x < ((a.length:Nat):Int))) (fun hq2=>?_) (fun hq2=>?_)
  ·have h:=condT h hq2
   refine sA 4 [.code (C_32 3736),.code (C_32 3737),.inBlock 1,.code (C_32 935),.inLoop (C_32 116),.inBlock 0,.code (C_32 15)] ?_
   obtain ⟨c2,h⟩:=ifSome h
   refine sR hE ⟨[(1,(eU b)),(5,(.os 0 0 out.length)),(6,(aI x)),(7,(a16 (a.getD ((x).toNat) 0))),(17,(eU a)),(18,(aI ((a.length:Nat):Int))),(19,(aI x))],[(0,aU out)],97⟩ (C_32 3736) [] [] (kp [1,5,6,7,17,18,19]) (kq [0]) 97 [0≤x∧x < ((a.length:Nat):Int)] ⟨c2,trivial⟩ ?_
   refine sA 1 [.code (C_32 7474),.code (C_32 7475),.inBlock 1,.code (C_32 935),.inLoop (C_32 116),.inBlock 0,.code (C_32 15)] ?_
   refine sR hE ⟨[(1,(eU b)),(5,(.os 0 0 out.length)),(6,(aI x)),(7,(a16 (a.getD ((x).toNat) 0))),(8,(a32 0)),(17,(eU a)),(18,(aI ((a.length:Nat):Int))),(19,(aI x))],[(0,aU out)],113⟩ (C_32 7474) [] [] (kp [1,5,6,7,8,17,18,19]) (kq [0]) 113 [] trivial ?_
   refine sA 2 [.code (C_32 29900),.code (C_32 29901),.code (C_32 14951),.inBlock 1,.code (C_32 935),.inLoop (C_32 116),.inBlock 0,.code (C_32 15)] ?_
   refine sR hE ⟨[(1,(eU b)),(5,(.os 0 0 out.length)),(6,(aI x)),(7,(a16 (a.getD ((x).toNat) 0))),(8,(a32 0)),(17,(eU a)),(18,(aI ((a.length:Nat):Int))),(19,(aI x)),(24,(eU b)),(25,(aI ((b.length:Nat):Int))),(26,(aI 0))],[(0,aU out)],161⟩ (C_32 29900) [] [] (kp [1,5,6,7,8,17,18,19,24,25,26]) (kq [0]) 161 [] trivial ?_
   refine sA 2 [.code (C_32 119604),.inLoop (C_32 119604),.inBlock 2,.code (C_32 14951),.inBlock 1,.code (C_32 935),.inLoop (C_32 116),.inBlock 0,.code (C_32 15)] ?_
   exact sW hE _ [] (kp [1,5,6,7,8,17,18,19,24,25,26]) (kq [0]) 1 [] trivial (g_e_times_L2_ok N a b x (g_e_times_L1 N a b fuel) ih N out 0 0 _ h E hE)
  ·have h:=condF h hq2
   refine sA 2 [.code (C_32 30),.code (C_32 31)] ?_
   obtain ⟨rtrim,hr,h⟩:=bindSome h
   refine sR hE ⟨[(4,(eU rtrim))],[],65⟩ (C_32 30) [(1,⟨[],true,(eU rtrim),[],0,true,none⟩)] [] (kp [4]) [] 65 [Sd 101 [(eU out)] [] 0 (eU rtrim) [],0+out.length≤out.length] ⟨(g_e_trim_ok N out rtrim hr),z0,trivial⟩ ?_
   obtain rfl:=Option.some.inj h
   refine sW hE ⟨[(4,(eU rtrim))],[],65⟩ [] (kp [4]) [] 65 [] trivial ?_
   exact sT Tryz.f114 [] [] trivial
theorem g_e_times_ok (N:Nat) (a:List Int) (b:List Int) (r:(List Int)) (h:g_e_times N a b=some r):Sd 114 [(eU a),(eU b)] [] 0 (eU r) []:=by
 unfold g_e_times at h
 refine Sound.of_runs (fu:=Tryz.f114) (c:=C_32 1) (nt:=67) (by kernel_rfl) (by kernel_rfl) (by kernel_rfl) (by kernel_rfl) (fun hm=>rfl) ?_
 intro E hE
 refine sA 1 [.code (C_32 2),.code (C_32 3)] ?_
 refine sR hE ⟨[(0,(eU a)),(1,(eU b))],[],16⟩ (C_32 2) [] [] (kp [0,1]) [] 16 [] trivial ?_
 refine sA 1 [.code (C_32 6),.code (C_32 7)] ?_
 obtain ⟨c,h⟩:=ifSome h
 refine sR hE ⟨[(0,(eU a)),(1,(eU b)),(5,(.os 96 0 ((List.replicate ((w64 (((a.length:Nat):Int)+((b.length:Nat):Int))).toNat) 0:List Int).length)))],[(96,aU (List.replicate ((w64 (((a.length:Nat):Int)+((b.length:Nat):Int))).toNat) 0:List Int))],128⟩ (C_32 6) [] [] (kp [0,1] ++ [(5,.osl ((List.replicate ((w64 (((a.length:Nat):Int)+((b.length:Nat):Int))).toNat) 0:List Int).length))]) [(96,.arr 96 ((List.replicate ((w64 (((a.length:Nat):Int)+((b.length:Nat):Int))).toNat) 0:List Int).length) (fun zi=>(cU .u16) ((List.replicate ((w64 (((a.length:Nat):Int)+((b.length:Nat):Int))).toNat) 0:List Int).getD zi 0)))] 128 [0≤(w64 (((a.length:Nat):Int)+((b.length:Nat):Int))),(w64 (((a.length:Nat):Int)+((b.length:Nat):Int)))≤(w64 (((a.length:Nat):Int)+((b.length:Nat):Int))),(2:Int) * (w64 (((a.length:Nat):Int)+((b.length:Nat):Int)))≤281474976710656,(w64 (((a.length:Nat):Int)+((b.length:Nat):Int)))≤9223372036854775807,(w64 (((a.length:Nat):Int)+((b.length:Nat):Int))).toNat=(List.replicate ((w64 (((a.length:Nat):Int)+((b.length:Nat):Int))).toNat) 0:List Int).length,(w64 (((a.length:Nat):Int)+((b.length:Nat):Int))).toNat=(List.replicate ((w64 (((a.length:Nat):Int)+((b.length:Nat):Int))).toNat) 0:List Int).length,∀ zi,zi < (List.replicate ((w64 (((a.length:Nat):Int)+((b.length:Nat):Int))).toNat) 0:List Int).length→(fun zi=>(cU .u16) ((List.replicate ((w64 (((a.length:Nat):Int)+((b.length:Nat):Int))).toNat) 0:List Int).getD zi 0)) zi=(fun _=>[(a16 0)]) zi] ⟨c.1,(Int.le_refl _),c.2.1,c.2.2,(List.length_replicate).symm,(List.length_replicate).symm,(fun zq hzq=>get_rep (cU .u16) 0 0 ((w64 (((a.length:Nat):Int)+((b.length:Nat):Int))).toNat) zq hzq),trivial⟩ ?_
 refine sA 2 [.code (C_32 28),.code (C_32 29),.code (C_32 15)] ?_
 refine sR hE ⟨[(1,(eU b)),(5,(.os 96 0 ((List.replicate ((w64 (((a.length:Nat):Int)+((b.length:Nat):Int))).toNat) 0:List Int).length))),(17,(eU a)),(18,(aI ((a.length:Nat):Int))),(19,(aI 0))],[(96,aU (List.replicate ((w64 (((a.length:Nat):Int)+((b.length:Nat):Int))).toNat) 0:List Int))],176⟩ (C_32 28) [] [] (kp [1,5,17,18,19]) (kq [96]) 176 [] trivial ?_
 refine sA 2 [.code (C_32 116),.inLoop (C_32 116),.inBlock 0,.code (C_32 15)] ?_
 exact sW hE _ [] (kp [1,5,17,18,19]) [(0,.keep 96)] 1 [] trivial (g_e_times_L1_ok N a b N (List.replicate ((w64 (((a.length:Nat):Int)+((b.length:Nat):Int))).toNat) 0:List Int) 0 _ h E hE)
noncomputable def C_31 (n:Nat):Code:=cat (bodyOf Tryz.f94) (pth n)
theorem g_e_Mul_ok (N:Nat) (a:TInt) (b:TInt) (r:TInt) (h:g_e_Mul N a b=some r):Sd 94 [(.agg (TInt.cells a)),(.agg (TInt.cells b))] [] 0 (.agg (TInt.cells r)) []:=by
 unfold g_e_Mul at h
 refine Sound.of_runs (fu:=Tryz.f94) (c:=C_31 1) (nt:=18) (by kernel_rfl) (by kernel_rfl) (by kernel_rfl) (by kernel_rfl) (fun hm=>rfl) ?_
 intro E hE
 refine sA 1 [.code (C_31 2),.code (C_31 3)] ?_
 refine sR hE ⟨[(2,(.op 0 0 0)),(3,(.op 16 0 0)),(4,(.op 32 0 0))],[(0,vO 2 (TInt.cells a)),(16,vO 2 (TInt.cells b)),(32,vO 2 [(aB false),.nil])],48⟩ (C_31 2) [] [] (kp [2,3,4]) (kq [0,16,32]) 48 [] trivial ?_
 refine sA 1 [.code (C_31 6),.code (C_31 7)] ?_
 obtain ⟨rtrim,hr,h⟩:=bindSome h
 obtain ⟨rtrim2,hr2,h⟩:=bindSome h
 obtain ⟨rtimes,hr3,h⟩:=bindSome h
 obtain ⟨rSg,hr4,h⟩:=bindSome h
 refine sR hE ⟨[(4,(.op 32 0 0))],[(32,vN 2 [(aB rSg.fG),(.os 240 0 rSg.fL.length)]),(240,aU rSg.fL)],272⟩ (C_31 6) [(7,⟨[],true,(eU rtrim),[],0,false,none⟩),(10,⟨[],true,(eU rtrim2),[],0,false,none⟩),(11,⟨[],true,(eU rtimes),[],0,false,none⟩),(12,⟨[],false,(.agg [(aB rSg.fG),(.os 0 0 rSg.fL.length)]),[(0,aU rSg.fL)],0,false,none⟩)] [] (kp [4]) (kq [32,240]) 272 [0 < 1,0 < 1,0 < 1,Sd 101 [(eU a.fL)] [] 0 (eU rtrim) [],0 < 1,Sd 101 [(eU b.fL)] [] 0 (eU rtrim2) [],Sd 114 [(eU rtrim),(eU rtrim2)] [] 0 (eU rtimes) [],Sd 92 [(aB (!(a.fG == b.fG))),(eU rtimes)] [] 0 (.agg [(aB rSg.fG),(.os 0 0 rSg.fL.length)]) [(0,aU rSg.fL)],0 < 1] ⟨o1,o1,o1,(g_e_trim_ok N a.fL rtrim hr),o1,(g_e_trim_ok N b.fL rtrim2 hr2),(g_e_times_ok N rtrim rtrim2 rtimes hr3),(g_e_signed_ok N (!(a.fG == b.fG)) rtimes rSg hr4),o1,trivial⟩ ?_
 obtain rfl:=Option.some.inj h
 refine sW hE ⟨[(4,(.op 16 0 0))],[(16,vO 2 (TInt.cells rSg))],272⟩ [240] (kp [4]) [(16,.var 32 [.keep,.sl (rSg.fL.length) (fun zi=>(cU .u16) (rSg.fL.getD zi 0))])] 272 [rSg.fL.length=rSg.fL.length,0+rSg.fL.length≤rSg.fL.length,∀ zi,zi < rSg.fL.length→(fun zi=>(cU .u16) (rSg.fL.getD zi 0)) zi=(fun zi=>(cU .u16) (rSg.fL.getD zi 0)) (addz 0 zi)] ⟨rfl,z0,(fun _ _=>rfl),trivial⟩ ?_
 exact sT Tryz.f94 [16] [0 < 1] ⟨o1,trivial⟩
noncomputable def C_34 (n:Nat):Code:=cat (bodyOf Tryz.f110) (pth n)
theorem g_e_sign_ok (N:Nat) (a:TInt) (r:Int) (h:g_e_sign N a=some r):Sd 110 [(.agg (TInt.cells a))] [] 0 (aI r) []:=by
 unfold g_e_sign at h
 refine Sound.of_runs (fu:=Tryz.f110) (c:=C_34 1) (nt:=12) (by kernel_rfl) (by kernel_rfl) (by kernel_rfl) (by kernel_rfl) (fun hm=>rfl) ?_
 intro E hE
 refine sA 1 [.code (C_34 2),.code (C_34 3)] ?_
 refine sR hE ⟨[(1,(.op 0 0 0))],[(0,vO 2 (TInt.cells a))],32⟩ (C_34 2) [] [] (kp [1]) (kq [0]) 32 [] trivial ?_
 refine sA 3 [.code (C_34 24),.code (C_34 25),.inBlock 0,.code (C_34 7)] ?_
 obtain ⟨rtrim,hr,h⟩:=bindSome h
 refine sR hE ⟨[(1,(.op 0 0 0)),(3,(aB (((rtrim.length:Nat):Int) == 0)))],[(0,vO 2 (TInt.cells a))],128⟩ (C_34 24) [(2,⟨[],true,(eU rtrim),[],0,false,none⟩)] [] (kp [1,3]) (kq [0]) 128 [0 < 1,Sd 101 [(eU a.fL)] [] 0 (eU rtrim) []] ⟨o1,(g_e_trim_ok N a.fL rtrim hr),trivial⟩ ?_
 refine sC 3 (C_34 50) (C_34 51) (((rtrim.length:Nat):Int) == 0) (fun hq2=>?_) (fun hq2=>?_)
 ·have h:=condT h hq2
  refine sA 1 [.code (C_34 100),.code (C_34 101),.inBlock 0,.code (C_34 7)] ?_
  refine sR hE ⟨[(2,(aI 0))],[],144⟩ (C_34 100) [] [] (kp [2]) [] 144 [] trivial ?_
  obtain rfl:=Option.some.inj h
  refine sW hE ⟨[(2,(aI 0))],[],144⟩ [] (kp [2]) [] 144 [] trivial ?_
  exact sT Tryz.f110 [] [] trivial
 ·have h:=condF h hq2
  refine sA 1 [.code (C_34 102),.code (C_34 103),.inBlock 0,.code (C_34 7)] ?_
  refine sR hE ⟨[(9,(aB a.fG))],[],176⟩ (C_34 102) [] [] (kp [9]) [] 176 [0 < 1] ⟨o1,trivial⟩ ?_
  refine sC 9 (C_34 206) (C_34 207) a.fG (fun hq3=>?_) (fun hq3=>?_)
  ·have h:=condT h hq3
   refine sA 1 [.code (C_34 412),.code (C_34 413),.inBlock 0,.code (C_34 7)] ?_
   refine sR hE ⟨[(2,(aI (-1)))],[],192⟩ (C_34 412) [] [] (kp [2]) [] 192 [] trivial ?_
   obtain rfl:=Option.some.inj h
   refine sW hE ⟨[(2,(aI (-1)))],[],192⟩ [] (kp [2]) [] 192 [] trivial ?_
   exact sT Tryz.f110 [] [] trivial
  ·have h:=condF h hq3
   refine sA 3 [.code (C_34 14),.code (C_34 15)] ?_
   refine sR hE ⟨[(2,(aI 1))],[],192⟩ (C_34 14) [] [] (kp [2]) [] 192 [] trivial ?_
   obtain rfl:=Option.some.inj h
   refine sW hE ⟨[(2,(aI 1))],[],192⟩ [] (kp [2]) [] 192 [] trivial ?_
   exact sT Tryz.f110 [] [] trivial
noncomputable def C_33 (n:Nat):Code:=cat (bodyOf Tryz.f95) (pth n)
theorem g_e_below_ok (N:Nat) (x:TRat) (r:TInt) (h:g_e_below N x=some r):Sd 95 [(.agg (TRat.cells x))] [] 0 (.agg (TInt.cells r)) []:=by
 unfold g_e_below at h
 refine Sound.of_runs (fu:=Tryz.f95) (c:=C_33 1) (nt:=11) (by kernel_rfl) (by kernel_rfl) (by kernel_rfl) (by kernel_rfl) (fun hm=>rfl) ?_
 intro E hE
 refine sA 1 [.code (C_33 2),.code (C_33 3)] ?_
 refine sR hE ⟨[(1,(.op 0 0 0)),(2,(.op 16 0 0))],[(0,vO 4 (TRat.cells x)),(16,vO 2 [(aB false),.nil])],32⟩ (C_33 2) [] [] (kp [1,2]) (kq [0,16]) 32 [] trivial ?_
 refine sA 2 [.code (C_33 12),.code (C_33 13),.code (C_33 7)] ?_
 obtain ⟨rsign,hr,h⟩:=bindSome h
 refine sR hE ⟨[(1,(.op 0 0 0)),(2,(.op 16 0 0)),(6,(aB (rsign == 0)))],[(0,vO 4 (TRat.cells x)),(16,vO 2 [(aB false),.nil])],96⟩ (C_33 12) [(2,⟨[],true,(aI rsign),[],0,false,none⟩)] [] (kp [1,2,6]) (kq [0,16]) 96 [0 < 1,Sd 110 [(.agg (TInt.cells x.fD))] [] 0 (aI rsign) []] ⟨o1,(g_e_sign_ok N x.fD rsign hr),trivial⟩ ?_
 refine sC 6 (C_33 26) (C_33 27) (rsign == 0) (fun hq2=>?_) (fun hq2=>?_)
 ·have h:=condT h hq2
  refine sA 1 [.code (C_33 52),.code (C_33 53),.code (C_33 7)] ?_
  refine sR hE ⟨[(2,(.op 16 0 0))],[(16,vN 2 [(aB false),(.os 96 0 (([1]:List Int).length))]),(96,aU ([1]:List Int))],144⟩ (C_33 52) [] [] (kp [2]) [(16,.var 16 [.keep,.osl (([1]:List Int).length)]),(96,.arr 96 (([1]:List Int).length) (fun zi=>(cU .u16) (([1]:List Int).getD zi 0)))] 144 [0 < 1,1=([1]:List Int).length,1=([1]:List Int).length,∀ zi,zi < ([1]:List Int).length→(fun zi=>(cU .u16) (([1]:List Int).getD zi 0)) zi=(fun zi=>([[(a16 1)]]:List (List AV)).getD zi []) zi] ⟨o1,rfl,rfl,(fun zq hzq=>get_chunk (cU .u16) 0 ([1]:List Int) zq hzq),trivial⟩ ?_
  obtain rfl:=Option.some.inj h
  refine sW hE ⟨[(2,(.op 16 0 0))],[(16,vO 2 [(aB false),(eU ([1]:List Int))])],144⟩ [96] (kp [2]) [(16,.var 16 [.keep,.sl (([1]:List Int).length) (fun zi=>(cU .u16) (([1]:List Int).getD zi 0))])] 144 [([1]:List Int).length=([1]:List Int).length,0+([1]:List Int).length≤([1]:List Int).length,∀ zi,zi < ([1]:List Int).length→(fun zi=>(cU .u16) (([1]:List Int).getD zi 0)) zi=(fun zi=>(cU .u16) (([1]:List Int).getD zi 0)) (addz 0 zi)] ⟨rfl,z0,(fun _ _=>rfl),trivial⟩ ?_
  exact sT Tryz.f95 [16] [0 < 1] ⟨o1,trivial⟩
 ·have h:=condF h hq2
  refine sA 2 [.code (C_33 14),.code (C_33 15)] ?_
  refine sR hE ⟨[(2,(.op 16 0 0))],[(16,vO 2 (TInt.cells x.fD))],144⟩ (C_33 14) [] [] (kp [2]) (kq [16]) 144 [0 < 1,0 < 1] ⟨o1,o1,trivial⟩ ?_
  obtain rfl:=Option.some.inj h
  refine sW hE ⟨[(2,(.op 16 0 0))],[(16,vO 2 (TInt.cells x.fD))],144⟩ [] (kp [2]) (kq [16]) 144 [] trivial ?_
  exact sT Tryz.f95 [16] [0 < 1] ⟨o1,trivial⟩
noncomputable def C_30 (n:Nat):Code:=cat (bodyOf Tryz.f69) (pth n)
theorem g_e_MulRat_ok (N:Nat) (x:TRat) (y:TRat) (r:TRat) (h:g_e_MulRat N x y=some r):Sd 69 [(.agg (TRat.cells x)),(.agg (TRat.cells y))] [] 0 (.agg [(aB r.fN.fG),(.os 0 0 r.fN.fL.length),(aB r.fD.fG),(.os 1 0 r.fD.fL.length)]) [(0,aU r.fN.fL),(1,aU r.fD.fL)]:=by
 unfold g_e_MulRat at h
 refine Sound.of_runs (fu:=Tryz.f69) (c:=C_30 1) (nt:=16) (by kernel_rfl) (by kernel_rfl) (by kernel_rfl) (by kernel_rfl) (fun hm=>rfl) ?_
 intro E hE
 refine sA 1 [.code (C_30 2),.code (C_30 3)] ?_
 refine sR hE ⟨[(2,(.op 0 0 0)),(3,(.op 16 0 0)),(4,(.op 32 0 0))],[(0,vO 4 (TRat.cells x)),(16,vO 4 (TRat.cells y)),(32,vO 4 [(aB false),.nil,(aB false),.nil])],48⟩ (C_30 2) [] [] (kp [2,3,4]) (kq [0,16,32]) 48 [] trivial ?_
 refine sA 1 [.code (C_30 6),.code (C_30 7)] ?_
 obtain ⟨rMul,hr,h⟩:=bindSome h
 obtain ⟨rbelow,hr2,h⟩:=bindSome h
 obtain ⟨rbelow2,hr3,h⟩:=bindSome h
 obtain ⟨rMul2,hr4,h⟩:=bindSome h
 obtain ⟨rFr,hr5,h⟩:=bindSome h
 refine sR hE ⟨[(4,(.op 32 0 0))],[(32,vN 4 [(aB rFr.fN.fG),(.os 208 0 rFr.fN.fL.length),(aB rFr.fD.fG),(.os 209 0 rFr.fD.fL.length)]),(208,aU rFr.fN.fL),(209,aU rFr.fD.fL)],240⟩ (C_30 6) [(4,⟨[],true,(.agg (TInt.cells rMul)),[],0,false,none⟩),(6,⟨[],true,(.agg (TInt.cells rbelow)),[],0,false,none⟩),(8,⟨[],true,(.agg (TInt.cells rbelow2)),[],0,false,none⟩),(9,⟨[],true,(.agg (TInt.cells rMul2)),[],0,false,none⟩),(10,⟨[],false,(.agg [(aB rFr.fN.fG),(.os 0 0 rFr.fN.fL.length),(aB rFr.fD.fG),(.os 1 0 rFr.fD.fL.length)]),[(0,aU rFr.fN.fL),(1,aU rFr.fD.fL)],0,false,none⟩)] [] (kp [4]) (kq [32,208,209]) 240 [0 < 1,0 < 1,Sd 94 [(.agg (TInt.cells x.fN)),(.agg (TInt.cells y.fN))] [] 0 (.agg (TInt.cells rMul)) [],0 < 1,Sd 95 [(.agg (TRat.cells x))] [] 0 (.agg (TInt.cells rbelow)) [],0 < 1,Sd 95 [(.agg (TRat.cells y))] [] 0 (.agg (TInt.cells rbelow2)) [],Sd 94 [(.agg (TInt.cells rbelow)),(.agg (TInt.cells rbelow2))] [] 0 (.agg (TInt.cells rMul2)) [],Sd 91 [(.agg (TInt.cells rMul)),(.agg (TInt.cells rMul2))] [] 0 (.agg [(aB rFr.fN.fG),(.os 0 0 rFr.fN.fL.length),(aB rFr.fD.fG),(.os 1 0 rFr.fD.fL.length)]) [(0,aU rFr.fN.fL),(1,aU rFr.fD.fL)],0 < 1] ⟨o1,o1,(g_e_Mul_ok N x.fN y.fN rMul hr),o1,(g_e_below_ok N x rbelow hr2),o1,(g_e_below_ok N y rbelow2 hr3),(g_e_Mul_ok N rbelow rbelow2 rMul2 hr4),(g_e_fraction_ok N rMul rMul2 rFr hr5),o1,trivial⟩ ?_
 obtain rfl:=Option.some.inj h
 refine sW hE ⟨[(4,(.op 16 0 0))],[(0,aU rFr.fN.fL),(1,aU rFr.fD.fL),(16,vN 4 [(aB rFr.fN.fG),(.os 0 0 rFr.fN.fL.length),(aB rFr.fD.fG),(.os 1 0 rFr.fD.fL.length)])],240⟩ [] (kp [4]) [(0,.keep 208),(1,.keep 209),(16,.var 32 [.keep,.keep,.keep,.keep])] 240 [] trivial ?_
 exact sT Tryz.f69 [16] [0 < 1] ⟨o1,trivial⟩
noncomputable def C_13 (n:Nat):Code:=cat (bodyOf Tryz.f47) (pth n)
theorem g_w_product_L1_ok (N:Nat) (l:List Int) (fuel:Nat):∀ (out:Bool) (out2:List Int) (out3:Bool) (out4:List Int) (x:Int) (r:TRat),g_w_product_L1 N l fuel out out2 out3 out4 x=some r→∀ E,EnvOk E 0→Runs Tryz.prog E 47 21 (SPost E [(0,aU r.fN.fL),(1,aU r.fD.fL)] (.agg [(aB r.fN.fG),(.os 0 0 r.fN.fL.length),(aB r.fD.fG),(.os 1 0 r.fD.fL.length)])) [.code (C_13 116),.inLoop (C_13 116),.inBlock 0,.code (C_13 15)] ⟨[(2,(.op 0 0 0)),(3,(.op 1 0 0)),(8,(encL cI 0 l)),(9,(aI ((l.length:Nat):Int))),(10,(aI x))],[(0,vO 4 [(aB false),.nil,(aB false),.nil]),(1,vN 4 [(aB out),(.os 2 0 out2.length),(aB out3),(.os 3 0 out4.length)]),(2,aU out2),(3,aU out4)],4⟩:=by
 induction fuel with
 | zero=>intro _ _ _ _ _ r h;rw [g_w_product_L1.eq_1] at h;cases h
 | succ fuel ih =>
  intro out out2 out3 out4 x r h E hE
  rw [g_w_product_L1.eq_2] at h
  refine sA 1 [.code (C_13 232),.code (C_13 233),.inLoop (C_13 116),.inBlock 0,.code (C_13 15)] ?_
  refine sR hE ⟨[(2,(.op 0 0 0)),(3,(.op 1 0 0)),(8,(encL cI 0 l)),(9,(aI ((l.length:Nat):Int))),(10,(aI x)),(11,(aB (decide (x < ((l.length:Nat):Int)))))],[(0,vO 4 [(aB false),.nil,(aB false),.nil]),(1,vN 4 [(aB out),(.os 2 0 out2.length),(aB out3),(.os 3 0 out4.length)]),(2,aU out2),(3,aU out4)],20⟩ (C_13 232) [] [] (kp [2,3,8,9,10,11]) (kq [0,1,2,3]) 20 [] trivial ?_
  refine sA 1 [.code (C_13 466),.code (C_13 467),.inLoop (C_13 116),.inBlock 0,.code (C_13 15)] ?_
  refine sC 11 (C_13 932) (C_13 933) (decide (x < ((l.length:Nat):Int))) (fun hq2=>?_) (fun hq2=>?_)
  ·have h:=condT h hq2
   refine sA 4 [.code (C_13 3736),.code (C_13 3737),.inBlock 1,.code (C_13 935),.inLoop (C_13 116),.inBlock 0,.code (C_13 15)] ?_
   obtain ⟨c,h⟩:=ifSome h
   refine sR hE ⟨[(2,(.op 0 0 0)),(3,(.op 1 0 0)),(5,(aI (l.getD ((x).toNat) 0))),(8,(encL cI 0 l)),(9,(aI ((l.length:Nat):Int))),(10,(aI x))],[(0,vO 4 [(aB false),.nil,(aB false),.nil]),(1,vN 4 [(aB out),(.os 2 0 out2.length),(aB out3),(.os 3 0 out4.length)]),(2,aU out2),(3,aU out4)],68⟩ (C_13 3736) [] [] (kp [2,3,5,8,9,10]) (kq [0,1,2,3]) 68 [0≤x∧x < ((l.length:Nat):Int)] ⟨c,trivial⟩ ?_
   obtain ⟨rOf2,hr3,h⟩:=bindSome h
   obtain ⟨rWhole2,hr4,h⟩:=bindSome h
   obtain ⟨rMulRat,hr5,h⟩:=bindSome h
   refine sR hE ⟨[(2,(.op 0 0 0)),(3,(.op 1 0 0)),(8,(encL cI 0 l)),(9,(aI ((l.length:Nat):Int))),(10,(aI x))],[(0,vO 4 [(aB false),.nil,(aB false),.nil]),(1,vN 4 [(aB rMulRat.fN.fG),(.os 132 0 rMulRat.fN.fL.length),(aB rMulRat.fD.fG),(.os 133 0 rMulRat.fD.fL.length)]),(132,aU rMulRat.fN.fL),(133,aU rMulRat.fD.fL)],164⟩ (C_13 3737) [(2,⟨[],true,(.agg (TInt.cells rOf2)),[],0,false,none⟩),(3,⟨[],false,(.agg [(aB rWhole2.fN.fG),(.os 0 0 rWhole2.fN.fL.length),(aB rWhole2.fD.fG),(.os 1 0 rWhole2.fD.fL.length)]),[(0,aU rWhole2.fN.fL),(1,aU rWhole2.fD.fL)],0,false,none⟩),(4,⟨[],false,(.agg [(aB rMulRat.fN.fG),(.os 0 0 rMulRat.fN.fL.length),(aB rMulRat.fD.fG),(.os 1 0 rMulRat.fD.fL.length)]),[(0,aU rMulRat.fN.fL),(1,aU rMulRat.fD.fL)],0,false,none⟩)] [] (kp [2,3,8,9,10]) (kq [0,1,132,133]) 164 [0 < 1,Sd 68 [(aI (l.getD ((x).toNat) 0))] [] 0 (.agg (TInt.cells rOf2)) [],Sd 67 [(.agg (TInt.cells rOf2))] [] 0 (.agg [(aB rWhole2.fN.fG),(.os 0 0 rWhole2.fN.fL.length),(aB rWhole2.fD.fG),(.os 1 0 rWhole2.fD.fL.length)]) [(0,aU rWhole2.fN.fL),(1,aU rWhole2.fD.fL)],Sd 69 [(.agg [(aB out),(eU out2),(aB out3),(eU out4)]),(.agg [(aB rWhole2.fN.fG),(eU rWhole2.fN.fL),(aB rWhole2.fD.fG),(eU rWhole2.fD.fL)])] [] 0 (.agg [(aB rMulRat.fN.fG),(.os 0 0 rMulRat.fN.fL.length),(aB rMulRat.fD.fG),(.os 1 0 rMulRat.fD.fL.length)]) [(0,aU rMulRat.fN.fL),(1,aU rMulRat.fD.fL)],∀ zi,zi < rMulRat.fN.fL.length→AV.flatL ((cU .u16) (rMulRat.fN.fL.getD zi 0))=true,∀ zi,zi < rMulRat.fD.fL.length→AV.flatL ((cU .u16) (rMulRat.fD.fL.getD zi 0))=true,0+out2.length≤out2.length,0+out4.length≤out4.length,0+rWhole2.fN.fL.length≤rWhole2.fN.fL.length,0+rWhole2.fD.fL.length≤rWhole2.fD.fL.length,0 < 1] ⟨o1,(g_e_Of_ok N (l.getD ((x).toNat) 0) rOf2 hr3),(g_e_Whole_ok N rOf2 rWhole2 hr4),(g_e_MulRat_ok N (⟨(⟨out,out2⟩:TInt),(⟨out3,out4⟩:TInt)⟩:TRat) (⟨rWhole2.fN,rWhole2.fD⟩:TRat) rMulRat hr5),(fun _ _=>rfl),(fun _ _=>rfl),z0,z0,z0,z0,o1,trivial⟩ ?_
   refine sA 1 [.code (C_13 935),.inLoop (C_13 116),.inBlock 0,.code (C_13 15)] ?_
   refine sR hE ⟨[(2,(.op 0 0 0)),(3,(.op 1 0 0)),(8,(encL cI 0 l)),(9,(aI ((l.length:Nat):Int))),(10,(aI (w64 (x+1))))],[(0,vO 4 [(aB false),.nil,(aB false),.nil]),(1,vN 4 [(aB rMulRat.fN.fG),(.os 132 0 rMulRat.fN.fL.length),(aB rMulRat.fD.fG),(.os 133 0 rMulRat.fD.fL.length)]),(132,aU rMulRat.fN.fL),(133,aU rMulRat.fD.fL)],196⟩ (C_13 935) [] [] (kp [2,3,8,9,10]) (kq [0,1,132,133]) 196 [] trivial ?_
   refine sA 1 [.code (C_13 116),.inLoop (C_13 116),.inBlock 0,.code (C_13 15)] ?_
   exact sW hE _ [] (kp [2,3,8,9,10]) (kq [0,1] ++ [(2,.keep 132),(3,.keep 133)]) 4 [] trivial (ih rMulRat.fN.fG rMulRat.fN.fL rMulRat.fD.fG rMulRat.fD.fL (w64 (x+1)) _ h E hE)
  ·have h:=condF h hq2
   refine sA 2 [.code (C_13 30),.code (C_13 31)] ?_
   refine sR hE ⟨[(2,(.op 0 0 0))],[(0,vN 4 [(aB out),(.os 2 0 out2.length),(aB out3),(.os 3 0 out4.length)]),(2,aU out2),(3,aU out4)],52⟩ (C_13 30) [] [] (kp [2]) (kq [0,2,3]) 52 [0 < 1,0 < 1] ⟨o1,o1,trivial⟩ ?_
   obtain rfl:=Option.some.inj h
   refine sW hE ⟨[(2,(.op 16 0 0))],[(0,aU out2),(1,aU out4),(16,vN 4 [(aB out),(.os 0 0 out2.length),(aB out3),(.os 1 0 out4.length)])],52⟩ [] (kp [2]) [(0,.keep 2),(1,.keep 3),(16,.var 0 [.keep,.keep,.keep,.keep])] 52 [] trivial ?_
   exact sT Tryz.f47 [16] [0 < 1] ⟨o1,trivial⟩
theorem g_w_product_ok (N:Nat) (l:List Int) (r:TRat) (h:g_w_product N l=some r):Sd 47 [(encL cI 0 l)] [] 0 (.agg [(aB r.fN.fG),(.os 0 0 r.fN.fL.length),(aB r.fD.fG),(.os 1 0 r.fD.fL.length)]) [(0,aU r.fN.fL),(1,aU r.fD.fL)]:=by
 unfold g_w_product at h
 refine Sound.of_runs (fu:=Tryz.f47) (c:=C_13 1) (nt:=21) (by kernel_rfl) (by kernel_rfl) (by kernel_rfl) (by kernel_rfl) (fun hm=>rfl) ?_
 intro E hE
 refine sA 1 [.code (C_13 2),.code (C_13 3)] ?_
 refine sR hE ⟨[(0,(encL cI 0 l)),(2,(.op 0 0 0))],[(0,vO 4 [(aB false),.nil,(aB false),.nil])],16⟩ (C_13 2) [] [] (kp [0,2]) (kq [0]) 16 [] trivial ?_
 refine sA 1 [.code (C_13 6),.code (C_13 7)] ?_
 obtain ⟨rOf,hr,h⟩:=bindSome h
 obtain ⟨rWhole,hr2,h⟩:=bindSome h
 refine sR hE ⟨[(0,(encL cI 0 l)),(2,(.op 0 0 0)),(3,(.op 48 0 0))],[(0,vO 4 [(aB false),.nil,(aB false),.nil]),(32,aU rWhole.fN.fL),(33,aU rWhole.fD.fL),(48,vN 4 [(aB rWhole.fN.fG),(.os 32 0 rWhole.fN.fL.length),(aB rWhole.fD.fG),(.os 33 0 rWhole.fD.fL.length)])],80⟩ (C_13 6) [(0,⟨[],true,(.agg (TInt.cells rOf)),[],0,false,none⟩),(1,⟨[],false,(.agg [(aB rWhole.fN.fG),(.os 0 0 rWhole.fN.fL.length),(aB rWhole.fD.fG),(.os 1 0 rWhole.fD.fL.length)]),[(0,aU rWhole.fN.fL),(1,aU rWhole.fD.fL)],0,false,none⟩)] [] (kp [0,2,3]) (kq [0,32,33,48]) 80 [Sd 68 [(aI 1)] [] 0 (.agg (TInt.cells rOf)) [],Sd 67 [(.agg (TInt.cells rOf))] [] 0 (.agg [(aB rWhole.fN.fG),(.os 0 0 rWhole.fN.fL.length),(aB rWhole.fD.fG),(.os 1 0 rWhole.fD.fL.length)]) [(0,aU rWhole.fN.fL),(1,aU rWhole.fD.fL)],0 < 1] ⟨(g_e_Of_ok N 1 rOf hr),(g_e_Whole_ok N rOf rWhole hr2),o1,trivial⟩ ?_
 refine sA 2 [.code (C_13 28),.code (C_13 29),.code (C_13 15)] ?_
 refine sR hE ⟨[(2,(.op 0 0 0)),(3,(.op 48 0 0)),(8,(encL cI 0 l)),(9,(aI ((l.length:Nat):Int))),(10,(aI 0))],[(0,vO 4 [(aB false),.nil,(aB false),.nil]),(32,aU rWhole.fN.fL),(33,aU rWhole.fD.fL),(48,vN 4 [(aB rWhole.fN.fG),(.os 32 0 rWhole.fN.fL.length),(aB rWhole.fD.fG),(.os 33 0 rWhole.fD.fL.length)])],128⟩ (C_13 28) [] [] (kp [2,3,8,9,10]) (kq [0,32,33,48]) 128 [] trivial ?_
 refine sA 2 [.code (C_13 116),.inLoop (C_13 116),.inBlock 0,.code (C_13 15)] ?_
 exact sW hE _ [] (kp [2,3,8,9,10]) (kq [0] ++ [(1,.keep 48),(2,.keep 32),(3,.keep 33)]) 4 [] trivial (g_w_product_L1_ok N l N rWhole.fN.fG rWhole.fN.fL rWhole.fD.fG rWhole.fD.fL 0 _ h E hE)
noncomputable def C_37 (n:Nat):Code:=cat (bodyOf Tryz.f89) (pth n)
theorem g_e_isZero_ok (N:Nat) (x:TRat) (r:Bool) (h:g_e_isZero N x=some r):Sd 89 [(.agg (TRat.cells x))] [] 0 (aB r) []:=by
 unfold g_e_isZero at h
 refine Sound.of_runs (fu:=Tryz.f89) (c:=C_37 1) (nt:=7) (by kernel_rfl) (by kernel_rfl) (by kernel_rfl) (by kernel_rfl) (fun hm=>rfl) ?_
 intro E hE
 refine sA 1 [.code (C_37 2),.code (C_37 3)] ?_
 refine sR hE ⟨[(1,(.op 0 0 0))],[(0,vO 4 (TRat.cells x))],32⟩ (C_37 2) [] [] (kp [1]) (kq [0]) 32 [] trivial ?_
 refine sA 1 [.code (C_37 6),.code (C_37 7)] ?_
 obtain ⟨rsign,hr,h⟩:=bindSome h
 refine sR hE ⟨[(2,(aB (rsign == 0)))],[],112⟩ (C_37 6) [(2,⟨[],true,(aI rsign),[],0,false,none⟩)] [] (kp [2]) [] 112 [0 < 1,Sd 110 [(.agg (TInt.cells x.fN))] [] 0 (aI rsign) []] ⟨o1,(g_e_sign_ok N x.fN rsign hr),trivial⟩ ?_
 obtain rfl:=Option.some.inj h
 refine sW hE ⟨[(2,(aB (rsign == 0)))],[],112⟩ [] (kp [2]) [] 112 [] trivial ?_
 exact sT Tryz.f89 [] [] trivial
end Go.Den
