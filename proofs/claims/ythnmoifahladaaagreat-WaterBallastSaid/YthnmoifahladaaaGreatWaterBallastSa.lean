/- Each function of the program does what its Lean function computes (part 1). No conditions. -/
import Derived.Test.YthnmoifahladaaaGreatWaterBallastDen
import Derived.Test.YthnmoifahladaaaGreatProg
set_option linter.unusedVariables false
set_option maxRecDepth 100000
namespace Go.Den
open Go.Ab Go.Proofs Go.Ab.Runs
abbrev Sd:=Sound Tryz.prog
abbrev eU (a:List Int):AV:=encL (cU .u16) 0 a
abbrev aU (a:List Int):Ob:=aO 1 (cU .u16) 0 a
abbrev a64 (x:Int):AV:=.atom (.int .u64 x)
abbrev a32 (x:Int):AV:=.atom (.int .u32 x)
abbrev a16 (x:Int):AV:=.atom (.int .u16 x)
theorem osI {α:Type} {a b:α} (h:some a=some b):a=b:=Option.some.inj h
noncomputable def C_4 (n:Nat):Code:=cat (bodyOf Tryz.f68) (pth n)
theorem g_w_between_ok (N:Nat) (n:Int) (low:Int) (high:Int) (r:Bool) (h:g_w_between N n low high=some r):Sd 68 [(aI n),(aI low),(aI high)] [] 0 (aB r) []:=by
 unfold g_w_between at h
 refine sor (fu:=Tryz.f68) (c:=C_4 1) (nt:=15) (by kernel_rfl) (by kernel_rfl) (by kernel_rfl) (by kernel_rfl) (fun hm=>rfl) ?_
 intro E hE
 refine rnR hE 1 [] [] (kp [0,1,2]) [] 16 pn ?_
 refine rnR hE 1 [] [] (kp [6]) [] 160 (pc (fun hg:(decide (n≥low))=true=>(pc hg (pc hg pn))) (pc (fun hq:(decide (n≥low))=true=>(pc hq pn)) pn)) ?_
 obtain rfl:=osI h
 exact rnT hE 0 Tryz.f68 [] (kp [6]) [] 160 pn [] pn
noncomputable def C_5 (n:Nat):Code:=cat (bodyOf Tryz.f84) (pth n)
theorem g_w_CheckPontoon_1_ok (N:Nat) (x:Int) (y:Int) (r:Bool) (h:g_w_CheckPontoon_1 N x y=some r):Sd 84 [(aI x),(aI y)] [] 0 (aB r) []:=by
 unfold g_w_CheckPontoon_1 at h
 refine sor (fu:=Tryz.f84) (c:=C_5 1) (nt:=11) (by kernel_rfl) (by kernel_rfl) (by kernel_rfl) (by kernel_rfl) (fun hm=>rfl) ?_
 intro E hE
 refine rnR hE 1 [] [] (kp [0,1]) [] 16 pn ?_
 obtain ⟨rBt,hr,h⟩:=bsm h
 obtain ⟨rBt2,hr2,h⟩:=bsm h
 refine rnR hE 1 [(1,⟨[],true,(aB rBt),[],0,false,none⟩),(4,⟨[],true,(aB rBt2),[],0,false,none⟩)] [] (kp [4]) [] 128 (pc (g_w_between_ok N x (-1000000) 1000000 rBt hr) (pc (fun hg:rBt=true=>(pc (g_w_between_ok N y (-1000000) 1000000 rBt2 (condT hr2 hg)) (pc hg pn))) (pc (fun hq:rBt=true=>(pc hq pn)) pn))) ?_
 obtain rfl:=osI h
 exact rnT hE 0 Tryz.f84 [] (kp [4]) [] 128 pn [] pn
noncomputable def C_7 (n:Nat):Code:=cat (bodyOf Tryz.f86) (pth n)
theorem g_w_CheckPontoon_2_ok (N:Nat) (i:Int) (C0:TPn) (r:ByteArray) (h:g_w_CheckPontoon_2 N i C0=some r):Sd 86 [(aI i),(.op 0 0 0)] [(0,vO 5 (TPn.cells C0))] 1 (aS r) [(0,vO 5 (TPn.cells C0))]:=by
 unfold g_w_CheckPontoon_2 at h
 refine sor (fu:=Tryz.f86) (c:=C_7 1) (nt:=10) (by kernel_rfl) (by kernel_rfl) (by kernel_rfl) (by kernel_rfl) (fun hm=>absurd hm (by decide)) ?_
 intro E hE
 refine rnR hE 1 [] [] (kp [0,1]) (kq [0]) 17 pn ?_
 obtain ⟨c,h⟩:=ifSome h
 refine rnR hE 1 [] [] (kp [3]) (kq [0]) 129 (pc o1 (pc c pn)) ?_
 obtain rfl:=osI h
 exact rnT hE 0 Tryz.f86 [] (kp [3]) (kq [0]) 129 pn [] pn
noncomputable def C_8 (n:Nat):Code:=cat (bodyOf Tryz.f123) (pth n)
def g_w_isName_L1_H (N:Nat) (s:ByteArray) (K:Int→Option (Bool)):Prop:=∀ (x:Int) (r:Bool),K x=some r→∀ E,EnvOk E 0→Runs Tryz.prog E 123 51 (SPost E [] (aB r)) [.code (C_8 116),.inLoop (C_8 116),.inBlock 0,.code (C_8 15)] ⟨[(11,(encL (cU .u8) 0 (bytesL s))),(12,(aI ((s.size:Nat):Int))),(13,(aI x))],[],0⟩
theorem g_w_isName_L1_ok (N:Nat) (s:ByteArray) (fuel:Nat):g_w_isName_L1_H N s (g_w_isName_L1 N s fuel):=by
 induction fuel with
 | zero=>intro _ r h;rw [g_w_isName_L1.eq_1] at h;cases h
 | succ fuel ih =>
  intro x r h E hE
  rw [g_w_isName_L1.eq_2] at h
  refine rnR hE 1 [] [] (kp [11,12,13,14]) [] 16 pn ?_
  refine rnC 1 14 h (fun hq3 h=>?_) (fun hq3 h=>?_)
  ·obtain ⟨c,h⟩:=ifSome h
   refine rnR hE 4 [] [] (kp [3,4,11,12,13]) [] 96 (pc c pn) ?_
   refine rnR hE 1 [] [] (kp [3,4,5,11,12,13]) [] 336 (pc (fun hg:(decide ((zB s x)≥97))=true=>(pc hg pn)) (pc (fun hq:(decide ((zB s x)≥97))=true=>(pc hq pn)) (pc (fun hg:(!(cond (decide ((zB s x)≥97)) (decide ((zB s x)≤122)) false))=true=>(pc hg pn)) (pc (fun hg:((!(cond (decide ((zB s x)≥97)) (decide ((zB s x)≤122)) false)) && ((!(cond (decide ((zB s x)≥97)) (decide ((zB s x)≤122)) false)) && (decide ((zB s x)≥65))))=true=>(pc hg pn)) (pc (fun hg:(!(cond (decide ((zB s x)≥97)) (decide ((zB s x)≤122)) false))=true=>(pc hg (pc hg (pc (fun hq:(decide ((zB s x)≥65))=true=>(pc (show ((!(cond (decide ((zB s x)≥97)) (decide ((zB s x)≤122)) false)) && ((!(cond (decide ((zB s x)≥97)) (decide ((zB s x)≤122)) false)) && (decide ((zB s x)≥65))))=true from (andI' hg (andI' hg hq))) pn)) pn)))) (pc (fun hq:(!(cond (decide ((zB s x)≥97)) (decide ((zB s x)≤122)) false))=true=>(pc hq pn)) pn)))))) ?_
   refine rnR hE 1 [] [] (kp [11,12,13,49]) [] 624 (pc (fun hg:(!(cond (cond (decide ((zB s x)≥97)) (decide ((zB s x)≤122)) false) true (cond (decide ((zB s x)≥65)) (decide ((zB s x)≤90)) false)))=true=>(pc hg pn)) (pc (fun hg:((!(cond (cond (decide ((zB s x)≥97)) (decide ((zB s x)≤122)) false) true (cond (decide ((zB s x)≥65)) (decide ((zB s x)≤90)) false))) && ((!(cond (cond (decide ((zB s x)≥97)) (decide ((zB s x)≤122)) false) true (cond (decide ((zB s x)≥65)) (decide ((zB s x)≤90)) false))) && (!(x == 0))))=true=>(pc hg pn)) (pc (fun hg:(((!(cond (cond (decide ((zB s x)≥97)) (decide ((zB s x)≤122)) false) true (cond (decide ((zB s x)≥65)) (decide ((zB s x)≤90)) false))) && ((!(cond (cond (decide ((zB s x)≥97)) (decide ((zB s x)≤122)) false) true (cond (decide ((zB s x)≥65)) (decide ((zB s x)≤90)) false))) && (!(x == 0)))) && (((!(cond (cond (decide ((zB s x)≥97)) (decide ((zB s x)≤122)) false) true (cond (decide ((zB s x)≥65)) (decide ((zB s x)≤90)) false))) && ((!(cond (cond (decide ((zB s x)≥97)) (decide ((zB s x)≤122)) false) true (cond (decide ((zB s x)≥65)) (decide ((zB s x)≤90)) false))) && (!(x == 0)))) && ((zB s x) != 45)))=true=>(pc hg pn)) (pc (fun hg:((((!(cond (cond (decide ((zB s x)≥97)) (decide ((zB s x)≤122)) false) true (cond (decide ((zB s x)≥65)) (decide ((zB s x)≤90)) false))) && ((!(cond (cond (decide ((zB s x)≥97)) (decide ((zB s x)≤122)) false) true (cond (decide ((zB s x)≥65)) (decide ((zB s x)≤90)) false))) && (!(x == 0)))) && (((!(cond (cond (decide ((zB s x)≥97)) (decide ((zB s x)≤122)) false) true (cond (decide ((zB s x)≥65)) (decide ((zB s x)≤90)) false))) && ((!(cond (cond (decide ((zB s x)≥97)) (decide ((zB s x)≤122)) false) true (cond (decide ((zB s x)≥65)) (decide ((zB s x)≤90)) false))) && (!(x == 0)))) && ((zB s x) != 45))) && ((((!(cond (cond (decide ((zB s x)≥97)) (decide ((zB s x)≤122)) false) true (cond (decide ((zB s x)≥65)) (decide ((zB s x)≤90)) false))) && ((!(cond (cond (decide ((zB s x)≥97)) (decide ((zB s x)≤122)) false) true (cond (decide ((zB s x)≥65)) (decide ((zB s x)≤90)) false))) && (!(x == 0)))) && (((!(cond (cond (decide ((zB s x)≥97)) (decide ((zB s x)≤122)) false) true (cond (decide ((zB s x)≥65)) (decide ((zB s x)≤90)) false))) && ((!(cond (cond (decide ((zB s x)≥97)) (decide ((zB s x)≤122)) false) true (cond (decide ((zB s x)≥65)) (decide ((zB s x)≤90)) false))) && (!(x == 0)))) && ((zB s x) != 45))) && (!(decide ((zB s x) < 48)))))=true=>(pc hg pn)) (pc (fun hg:(((!(cond (cond (decide ((zB s x)≥97)) (decide ((zB s x)≤122)) false) true (cond (decide ((zB s x)≥65)) (decide ((zB s x)≤90)) false))) && ((!(cond (cond (decide ((zB s x)≥97)) (decide ((zB s x)≤122)) false) true (cond (decide ((zB s x)≥65)) (decide ((zB s x)≤90)) false))) && (!(x == 0)))) && (((!(cond (cond (decide ((zB s x)≥97)) (decide ((zB s x)≤122)) false) true (cond (decide ((zB s x)≥65)) (decide ((zB s x)≤90)) false))) && ((!(cond (cond (decide ((zB s x)≥97)) (decide ((zB s x)≤122)) false) true (cond (decide ((zB s x)≥65)) (decide ((zB s x)≤90)) false))) && (!(x == 0)))) && ((zB s x) != 45)))=true=>(pc hg (pc hg (pc (fun hq:(!(decide ((zB s x) < 48)))=true=>(pc (show ((((!(cond (cond (decide ((zB s x)≥97)) (decide ((zB s x)≤122)) false) true (cond (decide ((zB s x)≥65)) (decide ((zB s x)≤90)) false))) && ((!(cond (cond (decide ((zB s x)≥97)) (decide ((zB s x)≤122)) false) true (cond (decide ((zB s x)≥65)) (decide ((zB s x)≤90)) false))) && (!(x == 0)))) && (((!(cond (cond (decide ((zB s x)≥97)) (decide ((zB s x)≤122)) false) true (cond (decide ((zB s x)≥65)) (decide ((zB s x)≤90)) false))) && ((!(cond (cond (decide ((zB s x)≥97)) (decide ((zB s x)≤122)) false) true (cond (decide ((zB s x)≥65)) (decide ((zB s x)≤90)) false))) && (!(x == 0)))) && ((zB s x) != 45))) && ((((!(cond (cond (decide ((zB s x)≥97)) (decide ((zB s x)≤122)) false) true (cond (decide ((zB s x)≥65)) (decide ((zB s x)≤90)) false))) && ((!(cond (cond (decide ((zB s x)≥97)) (decide ((zB s x)≤122)) false) true (cond (decide ((zB s x)≥65)) (decide ((zB s x)≤90)) false))) && (!(x == 0)))) && (((!(cond (cond (decide ((zB s x)≥97)) (decide ((zB s x)≤122)) false) true (cond (decide ((zB s x)≥65)) (decide ((zB s x)≤90)) false))) && ((!(cond (cond (decide ((zB s x)≥97)) (decide ((zB s x)≤122)) false) true (cond (decide ((zB s x)≥65)) (decide ((zB s x)≤90)) false))) && (!(x == 0)))) && ((zB s x) != 45))) && (!(decide ((zB s x) < 48)))))=true from (andI' hg (andI' hg hq))) pn)) pn)))) (pc (fun hg:((!(cond (cond (decide ((zB s x)≥97)) (decide ((zB s x)≤122)) false) true (cond (decide ((zB s x)≥65)) (decide ((zB s x)≤90)) false))) && ((!(cond (cond (decide ((zB s x)≥97)) (decide ((zB s x)≤122)) false) true (cond (decide ((zB s x)≥65)) (decide ((zB s x)≤90)) false))) && (!(x == 0))))=true=>(pc hg (pc hg (pc (fun hq:((zB s x) != 45)=true=>(pc (show (((!(cond (cond (decide ((zB s x)≥97)) (decide ((zB s x)≤122)) false) true (cond (decide ((zB s x)≥65)) (decide ((zB s x)≤90)) false))) && ((!(cond (cond (decide ((zB s x)≥97)) (decide ((zB s x)≤122)) false) true (cond (decide ((zB s x)≥65)) (decide ((zB s x)≤90)) false))) && (!(x == 0)))) && (((!(cond (cond (decide ((zB s x)≥97)) (decide ((zB s x)≤122)) false) true (cond (decide ((zB s x)≥65)) (decide ((zB s x)≤90)) false))) && ((!(cond (cond (decide ((zB s x)≥97)) (decide ((zB s x)≤122)) false) true (cond (decide ((zB s x)≥65)) (decide ((zB s x)≤90)) false))) && (!(x == 0)))) && ((zB s x) != 45)))=true from (andI' hg (andI' hg hq))) pn)) pn)))) (pc (fun hg:(!(cond (cond (decide ((zB s x)≥97)) (decide ((zB s x)≤122)) false) true (cond (decide ((zB s x)≥65)) (decide ((zB s x)≤90)) false)))=true=>(pc hg (pc hg (pc (fun hq:(!(x == 0))=true=>(pc (show ((!(cond (cond (decide ((zB s x)≥97)) (decide ((zB s x)≤122)) false) true (cond (decide ((zB s x)≥65)) (decide ((zB s x)≤90)) false))) && ((!(cond (cond (decide ((zB s x)≥97)) (decide ((zB s x)≤122)) false) true (cond (decide ((zB s x)≥65)) (decide ((zB s x)≤90)) false))) && (!(x == 0))))=true from (andI' hg (andI' hg hq))) pn)) pn)))) (pc (fun hq:(!(cond (cond (decide ((zB s x)≥97)) (decide ((zB s x)≤122)) false) true (cond (decide ((zB s x)≥65)) (decide ((zB s x)≤90)) false)))=true=>(pc hq pn)) pn)))))))) ?_
   refine rnC 0 49 h (fun hq4 h=>?_) (fun hq4 h=>?_)
   ·refine rnR hE 1 [] [] (kp [2]) [] 640 pn ?_
    obtain rfl:=osI h
    exact rnT hE 0 Tryz.f123 [] (kp [2]) [] 640 pn [] pn
   ·refine rnR hE 2 [] [] (kp [11,12,13]) [] 656 pn ?_
    exact rnW hE 1 [] (kp [11,12,13]) [] 0 pn (ih _ _ h E hE)
  ·refine rnR hE 2 [] [] (kp [2]) [] 32 pn ?_
   obtain rfl:=osI h
   exact rnT hE 0 Tryz.f123 [] (kp [2]) [] 48 pn [] pn
theorem g_w_isName_ok (N:Nat) (s:ByteArray) (r:Bool) (h:g_w_isName N s=some r):Sd 123 [(aS s)] [] 0 (aB r) []:=by
 unfold g_w_isName at h
 refine sor (fu:=Tryz.f123) (c:=C_8 1) (nt:=51) (by kernel_rfl) (by kernel_rfl) (by kernel_rfl) (by kernel_rfl) (fun hm=>rfl) ?_
 intro E hE
 refine rnR hE 1 [] [] (kp [0]) [] 16 pn ?_
 obtain ⟨rBt,hr,h⟩:=bsm h
 refine rnR hE 2 [(2,⟨[],true,(aB rBt),[],0,false,none⟩)] [] (kp [0,9]) [] 80 (pc (g_w_between_ok N ((s.size:Nat):Int) 1 12 rBt hr) pn) ?_
 refine rnC 0 9 h (fun hq2 h=>?_) (fun hq2 h=>?_)
 ·refine rnR hE 1 [] [] (kp [2]) [] 96 pn ?_
  obtain rfl:=osI h
  exact rnT hE 0 Tryz.f123 [] (kp [2]) [] 96 pn [] pn
 ·refine rnR hE 3 [] [] ([(11,.sl ((bytesL s).length) (fun zi=>(cU .u8) ((bytesL s).getD zi 0)))] ++ kp [12,13]) [] 144 (pc (show s.size=(bytesL s).length from (bytesL_len s)) (pc (show ∀ zi,zi < (bytesL s).length→(fun zi=>(cU .u8) ((bytesL s).getD zi 0)) zi=(fun zi=>[.atom (.int .u8 (byteAt s zi))]) zi from (bytesL_get s)) pn)) ?_
  exact rnW hE 2 [] (kp [11,12,13]) [] 0 pn (g_w_isName_L1_ok N _ N _ _ h E hE)
noncomputable def C_9 (n:Nat):Code:=cat (bodyOf Tryz.f87) (pth n)
theorem g_w_CheckPontoon_3_ok (N:Nat) (i:Int) (C0:TPn) (r:Int) (h:g_w_CheckPontoon_3 N i C0=some r):Sd 87 [(aI i),(.op 0 0 0),(.op 1 0 0)] [(0,vO 5 (TPn.cells C0)),(1,vO 1 [(.fn (.func 84) [] [])])] 2 (aI r) [(0,vO 5 (TPn.cells C0)),(1,vO 1 [(.fn (.func 84) [] [])])]:=by
 unfold g_w_CheckPontoon_3 at h
 refine sor (fu:=Tryz.f87) (c:=C_9 1) (nt:=30) (by kernel_rfl) (by kernel_rfl) (by kernel_rfl) (by kernel_rfl) (fun hm=>absurd hm (by decide)) ?_
 intro E hE
 refine rnR hE 1 [] [] (kp [0,1,2]) (kq [0,1]) 18 pn ?_
 obtain ⟨c,h⟩:=ifSome h
 refine rnR hE 1 [] [] (kp [2,5]) (kq [0,1,98]) 130 (pc o1 (pc c (pc o1 pn))) ?_
 obtain ⟨rCP,hr,h⟩:=bsm h
 obtain ⟨rBt,hr2,h⟩:=bsm h
 obtain ⟨rBt2,hr3,h⟩:=bsm h
 refine rnR hE 2 [(5,⟨[],true,(aB rCP),[],0,false,none⟩),(10,⟨[],true,(aB rBt),[],0,false,none⟩),(16,⟨[],true,(aB rBt2),[],0,false,none⟩)] [] (kp [29]) (kq [0,1]) 434 (pc o1 (pc o1 (pc o1 (pc (g_w_CheckPontoon_1_ok N ((C0.fTk.getD ((i).toNat) TTank.d).f_X) ((C0.fTk.getD ((i).toNat) TTank.d).f_Y) rCP hr) (pc (fun hg:(!(!rCP))=true=>(pc hg (pc o1 pn))) (pc (fun hg:(!(!rCP))=true=>(pc (g_w_between_ok N ((C0.fTk.getD ((i).toNat) TTank.d).f_Steps) 0 12 rBt (condT hr2 hg)) (pc hg pn))) (pc (fun hg:(!(!rCP))=true=>(pc hg pn)) (pc (fun hq:(!(!rCP))=true=>(pc hq pn)) (pc (fun hg:(!(cond (!rCP) true (!rBt)))=true=>(pc hg (pc o1 pn))) (pc (fun hg:(!(cond (!rCP) true (!rBt)))=true=>(pc (g_w_between_ok N ((C0.fTk.getD ((i).toNat) TTank.d).fMa) 0 1000000000 rBt2 (condT hr3 hg)) (pc hg pn))) (pc (fun hg:(!(cond (!rCP) true (!rBt)))=true=>(pc hg pn)) (pc (fun hq:(!(cond (!rCP) true (!rBt)))=true=>(pc hq pn)) pn)))))))))))) ?_
 refine rnC 0 29 h (fun hq2 h=>?_) (fun hq2 h=>?_)
 ·refine rnR hE 1 [] [] (kp [4]) (kq [0,1]) 450 pn ?_
  obtain rfl:=osI h
  exact rnT hE 0 Tryz.f87 [] (kp [4]) (kq [0,1]) 450 pn [] pn
 ·refine rnR hE 2 [] [] (kp [4]) (kq [0,1]) 450 pn ?_
  obtain rfl:=osI h
  exact rnT hE 0 Tryz.f87 [] (kp [4]) (kq [0,1]) 450 pn [] pn
noncomputable def C_6 (n:Nat):Code:=cat (bodyOf Tryz.f85) (pth n)
def g_w_checkNamed_L1_H (N:Nat) (n:Int) (C0:TPn) (K:(List (ByteArray×Bool))→Int→Option (Int)):Prop:=∀ (names:List (ByteArray×Bool)) (x:Int) (r:Int),K names x=some r→∀ E,EnvOk E 2→Runs Tryz.prog E 85 41 (SPost E [(0,vO 5 (TPn.cells C0)),(1,vO 1 [(.fn (.func 84) [] [])])] (aI r)) [.code (C_6 244),.inLoop (C_6 244),.inBlock 0,.code (C_6 31)] ⟨[(2,(.fn (.func 86) [] [(.op 0 0 0)])),(3,(.fn (.func 87) [] [(.op 0 0 0),(.op 1 0 0)])),(9,(.mp 2)),(17,(aI n)),(18,(aI x))],[(0,vO 5 (TPn.cells C0)),(1,vO 1 [(.fn (.func 84) [] [])]),(2,⟨false,0,0,true,fun _=>encM aS aB names⟩)],3⟩
theorem g_w_checkNamed_L1_ok (N:Nat) (n:Int) (C0:TPn) (fuel:Nat):g_w_checkNamed_L1_H N n C0 (g_w_checkNamed_L1 N n C0 fuel):=by
 induction fuel with
 | zero=>intro _ _ r h;rw [g_w_checkNamed_L1.eq_1] at h;cases h
 | succ fuel ih =>
  intro names x r h E hE
  rw [g_w_checkNamed_L1.eq_2] at h
  refine rnR hE 1 [] [] (kp [2,3,9,17,18,19]) (kq [0,1,2]) 19 pn ?_
  refine rnC 1 19 h (fun hq3 h=>?_) (fun hq3 h=>?_)
  ·refine rnR hE 4 [] [] (kp [2,3,9,10,17,18]) (kq [0,1,2]) 51 pn ?_
   obtain ⟨rCP,hr,h⟩:=bsm h
   refine rnR hE 2 [(2,⟨[0],true,(aS rCP),[],0,false,none⟩)] [] (kp [2,3,9,10,11,17,18]) (kq [0,1,2]) 115 (pc (g_w_CheckPontoon_2_ok N x C0 rCP hr) pn) ?_
   obtain ⟨risName,hr2,h⟩:=bsm h
   refine rnR hE 2 [(1,⟨[],true,(aB risName),[],0,false,none⟩)] [] (kp [2,3,9,10,11,17,18,26]) (kq [0,1,2]) 179 (pc (g_w_isName_ok N rCP risName hr2) pn) ?_
   refine rnC 0 26 h (fun hq4 h=>?_) (fun hq4 h=>?_)
   ·refine rnR hE 1 [] [] (kp [8]) (kq [0,1]) 195 pn ?_
    obtain rfl:=osI h
    exact rnT hE 0 Tryz.f85 [] (kp [8]) (kq [0,1]) 195 pn [] pn
   ·refine rnR hE 1 [(2,⟨[],true,(aB ((mGet streq names rCP).getD false)),[],0,false,none⟩)] [] (kp [2,3,9,10,11,17,18,30]) (kq [0,1,2]) 243 (pc (show (Go.Ab.look Tryz.prog 9 (encM aS aB names) (aS rCP)).map (fun zr=>zr.getD (ofConst (.bool false)))=some (aB ((mGet streq names rCP).getD false)) from (look_get aS aB (d:=false) keyS rfl _ _)) pn) ?_
    refine rnC 0 30 h (fun hq5 h=>?_) (fun hq5 h=>?_)
    ·refine rnR hE 1 [] [] (kp [8]) (kq [0,1]) 259 pn ?_
     obtain rfl:=osI h
     exact rnT hE 0 Tryz.f85 [] (kp [8]) (kq [0,1]) 259 pn [] pn
    ·refine rnR hE 0 [(2,⟨[],true,(.tup (encM aS aB (mPut streq names rCP true))),[],0,false,none⟩)] [] (kp [2,3,9,10,17,18]) (kq [0,1,2]) 291 (pc (show Go.Ab.insA Tryz.prog 9 (encM aS aB names) (aS rCP) (aB true)=some (encM aS aB (mPut streq names rCP true)) from (insA_enc aS aB keyS _ _ _)) pn) ?_
     obtain ⟨rCP2,hr3,h⟩:=bsm h
     refine rnR hE 2 [(2,⟨[0,1],true,(aI rCP2),[],0,false,none⟩)] [] (kp [2,3,9,12,17,18]) (kq [0,1,2]) 355 (pc (g_w_CheckPontoon_3_ok N x C0 rCP2 hr3) pn) ?_
     refine rnR hE 1 [] [] (kp [2,3,9,12,17,18,38]) (kq [0,1,2]) 387 pn ?_
     refine rnC 0 38 h (fun hq6 h=>?_) (fun hq6 h=>?_)
     ·refine rnR hE 1 [] [] (kp [8]) (kq [0,1]) 419 pn ?_
      obtain rfl:=osI h
      exact rnT hE 0 Tryz.f85 [] (kp [8]) (kq [0,1]) 419 pn [] pn
     ·refine rnR hE 2 [] [] (kp [2,3,9,17,18]) (kq [0,1,2]) 419 pn ?_
      exact rnW hE 1 [] (kp [2,3,9,17,18]) (kq [0,1,2]) 3 pn (ih _ _ _ h E hE)
  ·refine rnR hE 2 [] [] (kp [8]) (kq [0,1]) 35 pn ?_
   obtain rfl:=osI h
   exact rnT hE 0 Tryz.f85 [] (kp [8]) (kq [0,1]) 50 pn [] pn
theorem g_w_checkNamed_ok (N:Nat) (n:Int) (most:Int) (C0:TPn) (r:Int) (h:g_w_checkNamed N n most C0=some r):Sd 85 [(aI n),(aI most),(.fn (.func 86) [] [(.op 0 0 0)]),(.fn (.func 87) [] [(.op 0 0 0),(.op 1 0 0)])] [(0,vO 5 (TPn.cells C0)),(1,vO 1 [(.fn (.func 84) [] [])])] 2 (aI r) [(0,vO 5 (TPn.cells C0)),(1,vO 1 [(.fn (.func 84) [] [])])]:=by
 unfold g_w_checkNamed at h
 refine sor (fu:=Tryz.f85) (c:=C_6 1) (nt:=41) (by kernel_rfl) (by kernel_rfl) (by kernel_rfl) (by kernel_rfl) (fun hm=>absurd hm (by decide)) ?_
 intro E hE
 refine rnR hE 1 [] [] (kp [0,1,2,3]) (kq [0,1]) 18 pn ?_
 refine rnR hE 2 [] [] (kp [0,2,3,15]) (kq [0,1]) 66 pn ?_
 refine rnC 0 15 h (fun hq2 h=>?_) (fun hq2 h=>?_)
 ·refine rnR hE 1 [] [] (kp [8]) (kq [0,1]) 82 pn ?_
  obtain rfl:=osI h
  exact rnT hE 0 Tryz.f85 [] (kp [8]) (kq [0,1]) 82 pn [] pn
 ·refine rnR hE 2 [] [] (kp [0,2,3,9]) (kq [0,1,66]) 98 pn ?_
  refine rnR hE 2 [] [] (kp [2,3,9,17,18]) (kq [0,1,66]) 130 pn ?_
  exact rnW hE 2 [] (kp [2,3,9,17,18]) (kq [0,1] ++ [(2,.keep 66)]) 3 pn (g_w_checkNamed_L1_ok N _ _ N _ _ _ h E hE)
noncomputable def C_3 (n:Nat):Code:=cat (bodyOf Tryz.f40) (pth n)
def g_w_CheckPontoon_L1_H (N:Nat) (p:TPn) (K:Int→Option (Int)):Prop:=∀ (x:Int) (r:Int),K x=some r→∀ E,EnvOk E 0→Runs Tryz.prog E 40 55 (SPost E [] (aI r)) [.code (C_3 244),.inLoop (C_3 244),.inBlock 1,.code (C_3 31)] ⟨[(1,(.op 0 0 0)),(3,(.op 1 0 0)),(29,(encL TPm.cells TPm.d p.fMs)),(30,(aI ((p.fMs.length:Nat):Int))),(31,(aI x))],[(0,vO 5 (TPn.cells p)),(1,vO 1 [(.fn (.func 84) [] [])])],2⟩
theorem g_w_CheckPontoon_L1_ok (N:Nat) (p:TPn) (fuel:Nat):g_w_CheckPontoon_L1_H N p (g_w_CheckPontoon_L1 N p fuel):=by
 induction fuel with
 | zero=>intro _ r h;rw [g_w_CheckPontoon_L1.eq_1] at h;cases h
 | succ fuel ih =>
  intro x r h E hE
  rw [g_w_CheckPontoon_L1.eq_2] at h
  refine rnR hE 1 [] [] (kp [1,3,29,30,31,32]) (kq [0,1]) 18 pn ?_
  refine rnC 1 32 h (fun hq4 h=>?_) (fun hq4 h=>?_)
  ·obtain ⟨c,h⟩:=ifSome h
   refine rnR hE 4 [] [] (kp [1,3,5,29,30,31]) (kq [0,1,50]) 82 (pc c (pc o1 pn)) ?_
   obtain ⟨rCP,hr4,h⟩:=bsm h
   obtain ⟨rBt4,hr5,h⟩:=bsm h
   refine rnR hE 1 [(5,⟨[],true,(aB rCP),[],0,false,none⟩),(10,⟨[],true,(aB rBt4),[],0,false,none⟩)] [] (kp [1,3,29,30,31,47]) (kq [0,1]) 290 (pc o1 (pc o1 (pc o1 (pc (g_w_CheckPontoon_1_ok N ((p.fMs.getD ((x).toNat) TPm.d).f_X) ((p.fMs.getD ((x).toNat) TPm.d).f_Y) rCP hr4) (pc (fun hg:(!(!rCP))=true=>(pc hg (pc o1 pn))) (pc (fun hg:(!(!rCP))=true=>(pc (g_w_between_ok N ((p.fMs.getD ((x).toNat) TPm.d).fMa) 0 1000000000 rBt4 (condT hr5 hg)) (pc hg pn))) (pc (fun hg:(!(!rCP))=true=>(pc hg pn)) (pc (fun hq:(!(!rCP))=true=>(pc hq pn)) pn)))))))) ?_
   refine rnC 0 47 h (fun hq5 h=>?_) (fun hq5 h=>?_)
   ·refine rnR hE 1 [] [] (kp [2]) [] 306 pn ?_
    obtain rfl:=osI h
    exact rnT hE 0 Tryz.f40 [] (kp [2]) [] 306 pn [] pn
   ·refine rnR hE 2 [] [] (kp [1,3,29,30,31]) (kq [0,1]) 322 pn ?_
    exact rnW hE 1 [] (kp [1,3,29,30,31]) (kq [0,1]) 2 pn (ih _ _ h E hE)
  ·obtain ⟨rcheckNamed,hr6,h⟩:=bsm h
   refine rnR hE 2 [(5,⟨[0,1],true,(aI rcheckNamed),[],0,false,none⟩)] [] (kp [2]) [] 130 (pc o1 (pc (g_w_checkNamed_ok N ((p.fTk.length:Nat):Int) 6 p rcheckNamed hr6) pn)) ?_
   obtain rfl:=osI h
   exact rnT hE 0 Tryz.f40 [] (kp [2]) [] 130 pn [] pn
theorem g_w_CheckPontoon_ok (N:Nat) (p:TPn) (r:Int) (h:g_w_CheckPontoon N p=some r):Sd 40 [(.agg (TPn.cells p))] [] 0 (aI r) []:=by
 unfold g_w_CheckPontoon at h
 refine sor (fu:=Tryz.f40) (c:=C_3 1) (nt:=55) (by kernel_rfl) (by kernel_rfl) (by kernel_rfl) (by kernel_rfl) (fun hm=>rfl) ?_
 intro E hE
 refine rnR hE 1 [] [] (kp [1]) (kq [0]) 32 pn ?_
 refine rnR hE 1 [] [] (kp [1,3]) (kq [0,32]) 64 (pc o1 pn) ?_
 obtain ⟨rBt,hr,h⟩:=bsm h
 obtain ⟨rBt2,hr2,h⟩:=bsm h
 obtain ⟨rBt3,hr3,h⟩:=bsm h
 refine rnR hE 3 [(2,⟨[],true,(aB rBt),[],0,false,none⟩),(7,⟨[],true,(aB rBt2),[],0,false,none⟩),(13,⟨[],true,(aB rBt3),[],0,false,none⟩)] [] (kp [1,3,6]) (kq [0,32]) 336 (pc o1 (pc (g_w_between_ok N p.fLn 1 1000000 rBt hr) (pc (fun hg:(!(!rBt))=true=>(pc hg (pc o1 pn))) (pc (fun hg:(!(!rBt))=true=>(pc (g_w_between_ok N p.fBr 1 1000000 rBt2 (condT hr2 hg)) (pc hg pn))) (pc (fun hg:(!(!rBt))=true=>(pc hg pn)) (pc (fun hq:(!(!rBt))=true=>(pc hq pn)) (pc (fun hg:(!(cond (!rBt) true (!rBt2)))=true=>(pc hg (pc o1 pn))) (pc (fun hg:(!(cond (!rBt) true (!rBt2)))=true=>(pc (g_w_between_ok N p.fDsity 900 1100 rBt3 (condT hr3 hg)) (pc hg pn))) (pc (fun hg:(!(cond (!rBt) true (!rBt2)))=true=>(pc hg pn)) (pc (fun hq:(!(cond (!rBt) true (!rBt2)))=true=>(pc hq pn)) pn)))))))))) ?_
 refine rnC 0 6 h (fun hq2 h=>?_) (fun hq2 h=>?_)
 ·refine rnR hE 1 [] [] (kp [2]) [] 352 pn ?_
  obtain rfl:=osI h
  exact rnT hE 0 Tryz.f40 [] (kp [2]) [] 352 pn [] pn
 ·refine rnR hE 1 [] [] (kp [1,3,23]) (kq [0,32]) 416 (pc o1 pn) ?_
  refine rnC 0 23 h (fun hq3 h=>?_) (fun hq3 h=>?_)
  ·refine rnR hE 1 [] [] (kp [2]) [] 432 pn ?_
   obtain rfl:=osI h
   exact rnT hE 0 Tryz.f40 [] (kp [2]) [] 432 pn [] pn
  ·refine rnR hE 4 [] [] (kp [1,3,29,30,31]) (kq [0,32]) 480 (pc o1 pn) ?_
   exact rnW hE 2 [] (kp [1,3,29,30,31]) (kq [0] ++ [(1,.keep 32)]) 2 pn (g_w_CheckPontoon_L1_ok N _ N _ _ h E hE)
noncomputable def C_10 (n:Nat):Code:=cat (bodyOf Tryz.f42) (pth n)
def g_w_checkSteps_L1_H (N:Nat) (p:TPn) (steps:List Int) (K:Tw_state→Int→Option (Tw_state×Int)):Prop:=∀ (out:Tw_state) (x:Int) (r:Tw_state×Int),K out x=some r→∀ E,EnvOk E 0→Runs Tryz.prog E 42 38 (SPost E [] (.tup [(.agg (Tw_state.cells r.1)),(aI r.2)])) [.code (C_10 244),.inLoop (C_10 244),.inBlock 0,.code (C_10 31)] ⟨[(2,(.op 0 0 0)),(4,(.op 1 0 0)),(6,(.op 2 0 0)),(16,(encL cI 0 steps)),(17,(aI ((steps.length:Nat):Int))),(18,(aI x))],[(0,vO 5 (TPn.cells p)),(1,vO 6 [(aI 0),(aI 0),(aI 0),(aI 0),(aI 0),(aI 0)]),(2,vO 6 (Tw_state.cells out))],3⟩
theorem g_w_checkSteps_L1_ok (N:Nat) (p:TPn) (steps:List Int) (fuel:Nat):g_w_checkSteps_L1_H N p steps (g_w_checkSteps_L1 N p steps fuel):=by
 induction fuel with
 | zero=>intro _ _ r h;rw [g_w_checkSteps_L1.eq_1] at h;cases h
 | succ fuel ih =>
  intro out x r h E hE
  rw [g_w_checkSteps_L1.eq_2] at h
  refine rnR hE 1 [] [] (kp [2,4,6,16,17,18,19]) (kq [0,1,2]) 19 pn ?_
  refine rnC 1 19 h (fun hq3 h=>?_) (fun hq3 h=>?_)
  ·obtain ⟨c,h⟩:=ifSome h
   refine rnR hE 4 [] [] (kp [2,4,6,7,8,16,17,18]) (kq [0,1,2]) 99 (pc c pn) ?_
   obtain ⟨c2,h⟩:=ifSome h
   obtain ⟨rBt,hr,h⟩:=bsm h
   refine rnR hE 2 [(7,⟨[],true,(aB rBt),[],0,false,none⟩)] [] (kp [2,4,6,7,8,16,17,18,31]) (kq [0,1,2]) 243 (pc o1 (pc c2 (pc (g_w_between_ok N (steps.getD ((x).toNat) 0) 0 ((p.fTk.getD ((x).toNat) TTank.d).f_Steps) rBt hr) pn))) ?_
   refine rnC 0 31 h (fun hq4 h=>?_) (fun hq4 h=>?_)
   ·refine rnR hE 1 [] [] (kp [4,5]) (kq [1]) 291 (pc o1 pn) ?_
    obtain rfl:=osI h
    exact rnT hE 0 Tryz.f42 [] (kp [4,5]) [(16,.keep 1)] 291 pn [16] (pc o1 pn)
   ·obtain ⟨c3,h⟩:=ifSome h
    refine rnR hE 1 [] [] (kp [2,4,6,16,17,18]) (kq [0,1,2]) 307 (pc c3 (pc o1 pn)) ?_
    refine rnR hE 1 [] [] (kp [2,4,6,16,17,18]) (kq [0,1,2]) 339 pn ?_
    exact rnW hE 1 [] (kp [2,4,6,16,17,18]) (kq [0,1,2]) 3 pn (ih _ _ _ h E hE)
  ·refine rnR hE 2 [] [] (kp [4,5]) (kq [1]) 67 (pc o1 (pc o1 pn)) ?_
   obtain rfl:=osI h
   exact rnT hE 0 Tryz.f42 [] (kp [4,5]) [(16,.keep 1)] 67 pn [16] (pc o1 pn)
theorem g_w_checkSteps_ok (N:Nat) (p:TPn) (steps:List Int) (r:Tw_state×Int) (h:g_w_checkSteps N p steps=some r):Sd 42 [(.agg (TPn.cells p)),(encL cI 0 steps)] [] 0 (.tup [(.agg (Tw_state.cells r.1)),(aI r.2)]) []:=by
 unfold g_w_checkSteps at h
 refine sor (fu:=Tryz.f42) (c:=C_10 1) (nt:=38) (by kernel_rfl) (by kernel_rfl) (by kernel_rfl) (by kernel_rfl) (fun hm=>rfl) ?_
 intro E hE
 refine rnR hE 1 [] [] (kp [1,2,4]) (kq [0,16]) 48 pn ?_
 refine rnR hE 1 [] [] (kp [1,2,4,6]) (kq [0,16,48]) 64 pn ?_
 refine rnR hE 2 [] [] (kp [1,2,4,6,14]) (kq [0,16,48]) 160 (pc o1 pn) ?_
 refine rnC 0 14 h (fun hq2 h=>?_) (fun hq2 h=>?_)
 ·refine rnR hE 1 [] [] (kp [4,5]) (kq [16]) 208 (pc o1 (pc o1 pn)) ?_
  obtain rfl:=osI h
  exact rnT hE 0 Tryz.f42 [] (kp [4,5]) (kq [16]) 208 pn [16] (pc o1 pn)
 ·refine rnR hE 3 [] [] (kp [2,4,6,16,17,18]) (kq [0,16,48]) 208 pn ?_
  exact rnW hE 2 [] (kp [2,4,6,16,17,18]) (kq [0] ++ [(1,.keep 16),(2,.keep 48)]) 3 pn (g_w_checkSteps_L1_ok N _ _ N _ _ _ h E hE)
noncomputable def C_12 (n:Nat):Code:=cat (bodyOf Tryz.f110) (pth n)
theorem g_w_sumOf_1_ok (N:Nat) (x:Int) (y:Int) (mass:Int) (C0:Tw_sums) (r:Tw_sums) (h:g_w_sumOf_1 N x y mass C0=some r):Sd 110 [(aI x),(aI y),(aI mass),(.op 0 0 0)] [(0,vO 4 (Tw_sums.cells C0))] 1 (.tup []) [(0,vO 4 (Tw_sums.cells r))]:=by
 unfold g_w_sumOf_1 at h
 refine sor (fu:=Tryz.f110) (c:=C_12 1) (nt:=36) (by kernel_rfl) (by kernel_rfl) (by kernel_rfl) (by kernel_rfl) (fun hm=>absurd hm (by decide)) ?_
 intro E hE
 refine rnR hE 1 [] [] (kp [0,1,2,3]) (kq [0]) 97 (pc o1 (pc o1 pn)) ?_
 refine rnR hE 1 [] [] (kp [0,1,2,3]) (kq [0]) 225 (pc o1 (pc o1 pn)) ?_
 refine rnR hE 1 [] [] (kp [0,2,3]) (kq [0]) 353 (pc o1 (pc o1 pn)) ?_
 refine rnR hE 0 [] [] [] (kq [0]) 529 (pc o1 (pc o1 pn)) ?_
 obtain rfl:=osI h
 exact rnF hE 0 Tryz.f110 [] [] (kq [0]) 529 pn [] pn
noncomputable def C_11 (n:Nat):Code:=cat (bodyOf Tryz.f61) (pth n)
def g_w_sumOf_L1_H (N:Nat) (p:TPn) (s:Tw_state) (K:Tw_sums→Int→Option (Tw_sums)):Prop:=∀ (out:Tw_sums) (x:Int) (r:Tw_sums),K out x=some r→∀ E,EnvOk E 0→Runs Tryz.prog E 61 50 (SPost E [] (.agg (Tw_sums.cells r))) [.code (C_11 244),.inLoop (C_11 244),.inBlock 0,.code (C_11 31)] ⟨[(2,(.op 0 0 0)),(3,(.op 1 0 0)),(4,(.op 2 0 0)),(5,(.op 3 0 0)),(6,(.fn (.func 110) [] [(.op 3 0 0)])),(13,(encL TPm.cells TPm.d p.fMs)),(14,(aI ((p.fMs.length:Nat):Int))),(15,(aI x))],[(0,vO 5 (TPn.cells p)),(1,vO 6 (Tw_state.cells s)),(2,vO 4 [(aI 0),(aI 0),(aI 0),(aI 0)]),(3,vO 4 (Tw_sums.cells out))],4⟩
def g_w_sumOf_L2_H (N:Nat) (p:TPn) (s:Tw_state) (K:Tw_sums→Int→Option (Tw_sums)):Prop:=∀ (out2:Tw_sums) (x2:Int) (r:Tw_sums),K out2 x2=some r→∀ E,EnvOk E 0→Runs Tryz.prog E 61 50 (SPost E [] (.agg (Tw_sums.cells r))) [.code (C_11 500),.inLoop (C_11 500),.inBlock 2,.code (C_11 63)] ⟨[(3,(.op 0 0 0)),(4,(.op 1 0 0)),(5,(.op 2 0 0)),(6,(.fn (.func 110) [] [(.op 2 0 0)])),(29,(encL TTank.cells TTank.d p.fTk)),(30,(aI ((p.fTk.length:Nat):Int))),(31,(aI x2))],[(0,vO 6 (Tw_state.cells s)),(1,vO 4 [(aI 0),(aI 0),(aI 0),(aI 0)]),(2,vO 4 (Tw_sums.cells out2))],3⟩
theorem g_w_sumOf_L2_ok (N:Nat) (p:TPn) (s:Tw_state) (fuel:Nat):g_w_sumOf_L2_H N p s (g_w_sumOf_L2 N p s fuel):=by
 induction fuel with
 | zero=>intro _ _ r h;rw [g_w_sumOf_L2.eq_1] at h;cases h
 | succ fuel ih =>
  intro out2 x2 r h E hE
  rw [g_w_sumOf_L2.eq_2] at h
  refine rnR hE 1 [] [] (kp [3,4,5,6,29,30,31,32]) (kq [0,1,2]) 19 pn ?_
  refine rnC 1 32 h (fun hq3 h=>?_) (fun hq3 h=>?_)
  ·obtain ⟨c2,h⟩:=ifSome h
   refine rnR hE 4 [] [] (kp [3,4,5,6,9,10,29,30,31]) (kq [0,1,2,67]) 115 (pc c2 (pc o1 pn)) ?_
   obtain ⟨c3,h⟩:=ifSome h
   obtain ⟨rsumOf12,hr2,h⟩:=bsm h
   refine rnR hE 0 [(11,⟨[2],false,(.tup []),[(0,vO 4 (Tw_sums.cells rsumOf12))],0,false,none⟩)] [] (kp [3,4,5,6,29,30,31]) (kq [0,1,2]) 307 (pc o1 (pc o1 (pc c3 (pc o1 (pc o1 (pc (g_w_sumOf_1_ok N ((p.fTk.getD ((x2).toNat) TTank.d).f_X) ((p.fTk.getD ((x2).toNat) TTank.d).f_Y) (w64 ((pickI [s.e0,s.e1,s.e2,s.e3,s.e4,s.e5] ((x2).toNat)) * (p.fTk.getD ((x2).toNat) TTank.d).fMa)) out2 rsumOf12 hr2) pn)))))) ?_
   refine rnR hE 1 [] [] (kp [3,4,5,6,29,30,31]) (kq [0,1,2]) 339 pn ?_
   exact rnW hE 1 [] (kp [3,4,5,6,29,30,31]) (kq [0,1,2]) 3 pn (ih _ _ _ h E hE)
  ·refine rnR hE 2 [] [] (kp [4]) (kq [1]) 51 (pc o1 (pc o1 pn)) ?_
   obtain rfl:=osI h
   exact rnT hE 0 Tryz.f61 [] (kp [4]) [(16,.keep 1)] 51 pn [16] (pc o1 pn)
theorem g_w_sumOf_L1_ok (N:Nat) (p:TPn) (s:Tw_state) (fuel:Nat):g_w_sumOf_L1_H N p s (g_w_sumOf_L1 N p s fuel):=by
 induction fuel with
 | zero=>intro _ _ r h;rw [g_w_sumOf_L1.eq_1] at h;cases h
 | succ fuel ih =>
  intro out x r h E hE
  rw [g_w_sumOf_L1.eq_2] at h
  refine rnR hE 1 [] [] (kp [2,3,4,5,6,13,14,15,16]) (kq [0,1,2,3]) 20 pn ?_
  refine rnC 1 16 h (fun hq2 h=>?_) (fun hq2 h=>?_)
  ·obtain ⟨c,h⟩:=ifSome h
   refine rnR hE 4 [] [] (kp [2,3,4,5,6,8,13,14,15]) (kq [0,1,2,3,52]) 84 (pc c (pc o1 pn)) ?_
   obtain ⟨rsumOf1,hr,h⟩:=bsm h
   refine rnR hE 0 [(7,⟨[3],false,(.tup []),[(0,vO 4 (Tw_sums.cells rsumOf1))],0,false,none⟩)] [] (kp [2,3,4,5,6,13,14,15]) (kq [0,1,2,3]) 212 (pc o1 (pc o1 (pc o1 (pc (g_w_sumOf_1_ok N ((p.fMs.getD ((x).toNat) TPm.d).f_X) ((p.fMs.getD ((x).toNat) TPm.d).f_Y) ((p.fMs.getD ((x).toNat) TPm.d).fMa) out rsumOf1 hr) pn)))) ?_
   refine rnR hE 1 [] [] (kp [2,3,4,5,6,13,14,15]) (kq [0,1,2,3]) 244 pn ?_
   exact rnW hE 1 [] (kp [2,3,4,5,6,13,14,15]) (kq [0,1,2,3]) 4 pn (ih _ _ _ h E hE)
  ·refine rnR hE 3 [] [] (kp [3,4,5,6,29,30,31]) (kq [1,2,3]) 84 (pc o1 pn) ?_
   exact rnW hE 2 [] (kp [3,4,5,6,29,30,31]) [(0,.keep 1),(1,.keep 2),(2,.keep 3)] 3 pn (g_w_sumOf_L2_ok N _ _ N _ _ _ h E hE)
theorem g_w_sumOf_ok (N:Nat) (p:TPn) (s:Tw_state) (r:Tw_sums) (h:g_w_sumOf N p s=some r):Sd 61 [(.agg (TPn.cells p)),(.agg (Tw_state.cells s))] [] 0 (.agg (Tw_sums.cells r)) []:=by
 unfold g_w_sumOf at h
 refine sor (fu:=Tryz.f61) (c:=C_11 1) (nt:=50) (by kernel_rfl) (by kernel_rfl) (by kernel_rfl) (by kernel_rfl) (fun hm=>rfl) ?_
 intro E hE
 refine rnR hE 1 [] [] (kp [2,3,4]) (kq [0,16,32]) 48 pn ?_
 refine rnR hE 1 [] [] (kp [2,3,4,5]) (kq [0,16,32,48]) 64 pn ?_
 refine rnR hE 1 [] [] (kp [2,3,4,5,6]) (kq [0,16,32,48]) 96 pn ?_
 refine rnR hE 2 [] [] (kp [2,3,4,5,6,13,14,15]) (kq [0,16,32,48]) 160 (pc o1 pn) ?_
 exact rnW hE 2 [] (kp [2,3,4,5,6,13,14,15]) (kq [0] ++ [(1,.keep 16),(2,.keep 32),(3,.keep 48)]) 4 pn (g_w_sumOf_L1_ok N _ _ N _ _ _ h E hE)
noncomputable def C_15 (n:Nat):Code:=cat (bodyOf Tryz.f141) (pth n)
def g_e_natural_L1_H (N:Nat) (K:Int→(List Int)→Option ((List Int))):Prop:=∀ (n2:Int) (out:List Int) (r:(List Int)),K n2 out=some r→∀ E,EnvOk E 0→Runs Tryz.prog E 141 14 (SPost E [] (eU r)) [.code (C_15 56),.inLoop (C_15 56),.inBlock 0,.code (C_15 15)] ⟨[(0,(a64 n2)),(3,(.os 0 0 out.length))],[(0,aU out)],1⟩
theorem g_e_natural_L1_ok (N:Nat) (fuel:Nat):g_e_natural_L1_H N (g_e_natural_L1 N fuel):=by
 induction fuel with
 | zero=>intro _ _ r h;rw [g_e_natural_L1.eq_1] at h;cases h
 | succ fuel ih =>
  intro n2 out r h E hE
  rw [g_e_natural_L1.eq_2] at h
  refine rnR hE 2 [] [] (kp [0,3,5]) (kq [0]) 33 pn ?_
  refine rnC 0 5 h (fun hq2 h=>?_) (fun hq2 h=>?_)
  ·obtain ⟨c,h⟩:=ifSome h
   refine rnR hE 3 [] [] (kp [0] ++ [(3,.osl ((out ++ ([(IntKind.u16.wrap (n2))]:List Int)).length))]) [(97,.arr 97 ((out ++ ([(IntKind.u16.wrap (n2))]:List Int)).length) (fun zi=>(cU .u16) ((out ++ ([(IntKind.u16.wrap (n2))]:List Int)).getD zi 0)))] 129 (pc (Eq.refl out.length) (pc c (pc (z1 1) (pc (show ∀ zi,zi < 1→AV.oneL ((fun zi=>([[(a16 (IntKind.u16.wrap (n2)))]]:List (List AV)).getD zi []) (addz 0 zi))=true from (oneN rfl)) (pc (show (out.length+1)=(out ++ ([(IntKind.u16.wrap (n2))]:List Int)).length from (len_app_raw rfl rfl)) (pc (show out.length+1=(out ++ ([(IntKind.u16.wrap (n2))]:List Int)).length from (len_app_raw rfl rfl)) (pc (show ∀ zi,zi < (out ++ ([(IntKind.u16.wrap (n2))]:List Int)).length→(fun zi=>(cU .u16) ((out ++ ([(IntKind.u16.wrap (n2))]:List Int)).getD zi 0)) zi=((fun zm=>if zm < out.length then (fun zi=>(cU .u16) (out.getD zi 0)) zm else (fun zi=>([[(a16 (IntKind.u16.wrap (n2)))]]:List (List AV)).getD zi []) (zm - out.length))) zi from (get_app_raw (cU .u16) 0 out ([(IntKind.u16.wrap (n2))]:List Int) rfl (fun _ _=>rfl) (fun zq hzq=>get_chunk (cU .u16) 0 ([(IntKind.u16.wrap (n2))]:List Int) zq hzq))) pn))))))) ?_
   refine rnR hE 1 [] [] (kp [0,3]) (kq [97]) 177 (pc (show (0:Int)≤16 by decide) pn) ?_
   exact rnW hE 1 [] (kp [0,3]) [(0,.keep 97)] 1 pn (ih _ _ _ h E hE)
  ·refine rnR hE 2 [] [] (kp [2]) (kq [0]) 65 pn ?_
   obtain rfl:=osI h
   exact rnT hE 0 Tryz.f141 [0] [(2,.sl (out.length) (fun zi=>(cU .u16) (out.getD zi 0)))] [] 65 (pc (Eq.refl out.length) (pc (z1 out.length) (pc (show ∀ zi,zi < out.length→(fun zi=>(cU .u16) (out.getD zi 0)) zi=(fun zi=>(cU .u16) (out.getD zi 0)) (addz 0 zi) from (fun _ _=>rfl)) pn))) [] pn
theorem g_e_natural_ok (N:Nat) (n:Int) (r:(List Int)) (h:g_e_natural N n=some r):Sd 141 [(a64 n)] [] 0 (eU r) []:=by
 unfold g_e_natural at h
 refine sor (fu:=Tryz.f141) (c:=C_15 1) (nt:=14) (by kernel_rfl) (by kernel_rfl) (by kernel_rfl) (by kernel_rfl) (fun hm=>rfl) ?_
 intro E hE
 refine rnR hE 1 [] [] (kp [0]) [] 16 pn ?_
 refine rnR hE 1 [] [] (kp [0,3]) [] 32 pn ?_
 exact rnW hE 3 [] (kp [0] ++ [(3,.nilos 0)]) [(0,.nil 1 (fun zi=>(cU .u16) (([]:List Int).getD zi 0)))] 1 pn (g_e_natural_L1_ok N N _ _ _ h E hE)
noncomputable def C_17 (n:Nat):Code:=cat (bodyOf Tryz.f139) (pth n)
def g_e_trim_L1_H (N:Nat) (K:(List Int)→Option ((List Int))):Prop:=∀ (n2:List Int) (r:(List Int)),K n2=some r→∀ E,EnvOk E 0→Runs Tryz.prog E 139 21 (SPost E [] (eU r)) [.code (C_17 24),.inLoop (C_17 24),.inBlock 0,.code (C_17 7)] ⟨[(0,(eU n2))],[],0⟩
theorem g_e_trim_L1_ok (N:Nat) (fuel:Nat):g_e_trim_L1_H N (g_e_trim_L1 N fuel):=by
 induction fuel with
 | zero=>intro _ r h;rw [g_e_trim_L1.eq_1] at h;cases h
 | succ fuel ih =>
  intro n2 r h E hE
  rw [g_e_trim_L1.eq_2] at h
  obtain ⟨c,h⟩:=ifSome h
  refine rnR hE 2 [] [] (kp [0,14]) [] 192 (pc (fun hg:(decide (((n2.length:Nat):Int) > 0))=true=>(pc hg pn)) (pc (fun hg:(decide (((n2.length:Nat):Int) > 0))=true=>(pc hg pn)) (pc (fun hg:(decide (((n2.length:Nat):Int) > 0))=true=>(pc hg (pc hg (pc (c hg) pn)))) (pc (fun hg:(decide (((n2.length:Nat):Int) > 0))=true=>(pc hg pn)) (pc (fun hg:(decide (((n2.length:Nat):Int) > 0))=true=>(pc hg pn)) (pc (fun hq:(decide (((n2.length:Nat):Int) > 0))=true=>(pc hq pn)) pn)))))) ?_
  refine rnC 0 14 h (fun hq2 h=>?_) (fun hq2 h=>?_)
  ·obtain ⟨c2,h⟩:=ifSome h
   obtain ⟨c3,h⟩:=ifSome h
   refine rnR hE 2 [] [] [(0,.sl (((n2.take ((w64 (((n2.length:Nat):Int) - 1)).toNat)).drop 0).length) (fun zi=>(cU .u16) (((n2.take ((w64 (((n2.length:Nat):Int) - 1)).toNat)).drop 0).getD zi 0)))] [] 288 (pc c2 (pc c3 (pc (show (w64 (((n2.length:Nat):Int) - 1)).toNat - 0=((n2.take ((w64 (((n2.length:Nat):Int) - 1)).toNat)).drop 0).length from (len_ext' n2 0 ((w64 (((n2.length:Nat):Int) - 1)).toNat) c2)) (pc (show ∀ zi,zi < ((n2.take ((w64 (((n2.length:Nat):Int) - 1)).toNat)).drop 0).length→(fun zi=>(cU .u16) (((n2.take ((w64 (((n2.length:Nat):Int) - 1)).toNat)).drop 0).getD zi 0)) zi=(fun zi=>(cU .u16) (n2.getD (addz 0 zi) 0)) zi from (fun zq hzq=>get_ext (cU .u16) 0 n2 0 ((w64 (((n2.length:Nat):Int) - 1)).toNat) zq hzq)) pn)))) ?_
   exact rnW hE 2 [] (kp [0]) [] 0 pn (ih _ _ h E hE)
  ·refine rnR hE 2 [] [] (kp [2]) [] 224 pn ?_
   obtain rfl:=osI h
   exact rnT hE 0 Tryz.f139 [] (kp [2]) [] 224 pn [] pn
theorem g_e_trim_ok (N:Nat) (n:List Int) (r:(List Int)) (h:g_e_trim N n=some r):Sd 139 [(eU n)] [] 0 (eU r) []:=by
 unfold g_e_trim at h
 refine sor (fu:=Tryz.f139) (c:=C_17 1) (nt:=21) (by kernel_rfl) (by kernel_rfl) (by kernel_rfl) (by kernel_rfl) (fun hm=>rfl) ?_
 intro E hE
 refine rnR hE 1 [] [] (kp [0]) [] 16 pn ?_
 exact rnW hE 3 [] (kp [0]) [] 0 pn (g_e_trim_L1_ok N N _ _ h E hE)
noncomputable def C_18 (n:Nat):Code:=cat (bodyOf Tryz.f159) (pth n)
theorem g_slices_Clone_uint16_uint16_ok (N:Nat) (s:List Int) (r:(List Int)) (h:g_slices_Clone_uint16_uint16 N s=some r):Sd 159 [(eU s)] [] 0 (.os 0 0 r.length) [(0,aU r)]:=by
 unfold g_slices_Clone_uint16_uint16 at h
 refine sor (fu:=Tryz.f159) (c:=C_18 1) (nt:=8) (by kernel_rfl) (by kernel_rfl) (by kernel_rfl) (by kernel_rfl) (fun hm=>rfl) ?_
 intro E hE
 refine rnR hE 1 [] [] (kp [0]) [] 16 pn ?_
 refine rnR hE 2 [] [] (kp [0,4]) [] 48 pn ?_
 refine sA 0 [.code (C_18 13),.code (C_18 7)] ?_
 refine Runs.condBn (o:=.tmp 4) (x:=C_18 26) (y:=C_18 27) (n:=s.length) (by kernel_rfl) (by kernel_rfl) (fun hq2=>?_) ?_
 ·replace hq2:=List.length_eq_zero_iff.1 hq2
  replace h:(some ([]:List Int))=some r:=by rw [hq2] at h;simpa using h
  refine rnR hE 1 [] [] (kp [2]) [] 64 pn ?_
  obtain rfl:=osI h
  exact rnT hE 0 Tryz.f159 [] [(2,.nilos 0)] [(0,.nil 1 (fun zi=>(cU .u16) (([]:List Int).getD zi 0)))] 64 pn [] pn
 ·obtain ⟨c,h⟩:=ifSome h
  refine rnR hE 2 [] [] [(2,.osl ((([]:List Int) ++ s).length))] [(80,.arr 80 ((([]:List Int) ++ s).length) (fun zi=>(cU .u16) ((([]:List Int) ++ s).getD zi 0)))] 112 (pc (Eq.refl 0) (pc c (pc (show ∀ zi,zi < s.length→AV.oneL ((fun zi=>(cU .u16) (s.getD zi 0)) zi)=true from (fun _ _=>rfl)) (pc (show (0+s.length)=(([]:List Int) ++ s).length from (len_app_raw rfl rfl)) (pc (show 0+s.length=(([]:List Int) ++ s).length from (len_app_raw rfl rfl)) (pc (show ∀ zi,zi < (([]:List Int) ++ s).length→(fun zi=>(cU .u16) ((([]:List Int) ++ s).getD zi 0)) zi=((fun zm=>if zm < 0 then (fun _=>[]) zm else (fun zi=>(cU .u16) (s.getD zi 0)) (zm - 0))) zi from (get_app_raw (cU .u16) 0 ([]:List Int) s rfl (fun zq hzq=>absurd hzq (Nat.not_lt_zero _)) (fun _ _=>rfl))) pn)))))) ?_
  obtain rfl:=osI h
  exact rnT hE 0 Tryz.f159 [] (kp [2]) [(0,.keep 80)] 112 pn [] pn
noncomputable def C_16 (n:Nat):Code:=cat (bodyOf Tryz.f140) (pth n)
theorem g_e_signed_ok (N:Nat) (neg:Bool) (n:List Int) (r:TInt) (h:g_e_signed N neg n=some r):Sd 140 [(aB neg),(eU n)] [] 0 (.agg [(aB r.fG),(.os 0 0 r.fL.length)]) [(0,aU r.fL)]:=by
 unfold g_e_signed at h
 refine sor (fu:=Tryz.f140) (c:=C_16 1) (nt:=15) (by kernel_rfl) (by kernel_rfl) (by kernel_rfl) (by kernel_rfl) (fun hm=>rfl) ?_
 intro E hE
 refine rnR hE 1 [] [] (kp [0,1,4]) (kq [0]) 16 pn ?_
 obtain ⟨rtrim,hr,h⟩:=bsm h
 refine rnR hE 1 [(1,⟨[],true,(eU rtrim),[],0,false,none⟩)] [] (kp [0,1,4]) (kq [0]) 64 (pc (g_e_trim_ok N n rtrim hr) pn) ?_
 refine rnR hE 2 [] [] (kp [0,1,4,9]) (kq [0]) 112 pn ?_
 refine rnC 0 9 h (fun hq2 h=>?_) (fun hq2 h=>?_)
 ·refine rnR hE 1 [] [] (kp [4]) (kq [0]) 144 (pc o1 pn) ?_
  obtain rfl:=osI h
  exact rnT hE 0 Tryz.f140 [] (kp [4]) [(0,.nil 1 (fun zi=>(cU .u16) (([]:List Int).getD zi 0))),(16,.var 0 [.keep,.nilos 0])] 144 pn [16] (pc o1 pn)
 ·obtain ⟨rClone,hr2,h⟩:=bsm h
  refine rnR hE 2 [(2,⟨[],false,(.os 0 0 rClone.length),[(0,aU rClone)],0,false,none⟩)] [] (kp [4]) (kq [0,144]) 192 (pc (g_slices_Clone_uint16_uint16_ok N rtrim rClone hr2) (pc o1 pn)) ?_
  obtain rfl:=osI h
  exact rnT hE 0 Tryz.f140 [] (kp [4]) [(0,.keep 144),(16,.var 0 [.keep,.keep])] 192 pn [16] (pc o1 pn)
noncomputable def C_14 (n:Nat):Code:=cat (bodyOf Tryz.f113) (pth n)
theorem g_e_Of_ok (N:Nat) (n:Int) (r:TInt) (h:g_e_Of N n=some r):Sd 113 [(aI n)] [] 0 (.agg (TIc r)) []:=by
 unfold g_e_Of at h
 refine sor (fu:=Tryz.f113) (c:=C_14 1) (nt:=14) (by kernel_rfl) (by kernel_rfl) (by kernel_rfl) (by kernel_rfl) (fun hm=>rfl) ?_
 intro E hE
 refine rnR hE 1 [] [] (kp [0,2]) (kq [0]) 16 pn ?_
 refine rnR hE 2 [] [] (kp [0,2,4]) (kq [0]) 48 pn ?_
 refine rnC 0 4 h (fun hq2 h=>?_) (fun hq2 h=>?_)
 ·obtain ⟨rnatural,hr,h⟩:=bsm h
  obtain ⟨rSg,hr2,h⟩:=bsm h
  refine rnR hE 1 [(3,⟨[],true,(eU rnatural),[],0,false,none⟩),(4,⟨[],false,(.agg [(aB rSg.fG),(.os 0 0 rSg.fL.length)]),[(0,aU rSg.fL)],0,false,none⟩)] [] (kp [2]) (kq [0,112]) 144 (pc (g_e_natural_ok N (IntKind.u64.wrap (0 - (IntKind.u64.wrap (n)))) rnatural hr) (pc (g_e_signed_ok N true rnatural rSg hr2) (pc o1 pn))) ?_
  obtain rfl:=osI h
  exact rnT hE 0 Tryz.f113 [112] (kp [2]) [(16,.var 0 [.keep,.sl (rSg.fL.length) (fun zi=>(cU .u16) (rSg.fL.getD zi 0))])] 144 (pc (Eq.refl rSg.fL.length) (pc (z1 rSg.fL.length) (pc (show ∀ zi,zi < rSg.fL.length→(fun zi=>(cU .u16) (rSg.fL.getD zi 0)) zi=(fun zi=>(cU .u16) (rSg.fL.getD zi 0)) (addz 0 zi) from (fun _ _=>rfl)) pn))) [16] (pc o1 pn)
 ·obtain ⟨rnatural2,hr3,h⟩:=bsm h
  obtain ⟨rSg2,hr4,h⟩:=bsm h
  refine rnR hE 2 [(2,⟨[],true,(eU rnatural2),[],0,false,none⟩),(3,⟨[],false,(.agg [(aB rSg2.fG),(.os 0 0 rSg2.fL.length)]),[(0,aU rSg2.fL)],0,false,none⟩)] [] (kp [2]) (kq [0,96]) 128 (pc (g_e_natural_ok N (IntKind.u64.wrap (n)) rnatural2 hr3) (pc (g_e_signed_ok N false rnatural2 rSg2 hr4) (pc o1 pn))) ?_
  obtain rfl:=osI h
  exact rnT hE 0 Tryz.f113 [96] (kp [2]) [(16,.var 0 [.keep,.sl (rSg2.fL.length) (fun zi=>(cU .u16) (rSg2.fL.getD zi 0))])] 128 (pc (Eq.refl rSg2.fL.length) (pc (z1 rSg2.fL.length) (pc (show ∀ zi,zi < rSg2.fL.length→(fun zi=>(cU .u16) (rSg2.fL.getD zi 0)) zi=(fun zi=>(cU .u16) (rSg2.fL.getD zi 0)) (addz 0 zi) from (fun _ _=>rfl)) pn))) [16] (pc o1 pn)
noncomputable def C_22 (n:Nat):Code:=cat (bodyOf Tryz.f151) (pth n)
def g_e_word_L1_H (N:Nat) (n:List Int) (K:Int→Int→Option (Int×Bool)):Prop:=∀ (out:Int) (i:Int) (r:Int×Bool),K out i=some r→∀ E,EnvOk E 0→Runs Tryz.prog E 151 25 (SPost E [] (.tup [(a64 r.1),(aB r.2)])) [.code (C_22 244),.inLoop (C_22 244),.inBlock 0,.code (C_22 31)] ⟨[(0,(eU n)),(4,(a64 out)),(5,(aI i))],[],0⟩
theorem g_e_word_L1_ok (N:Nat) (n:List Int) (fuel:Nat):g_e_word_L1_H N n (g_e_word_L1 N n fuel):=by
 induction fuel with
 | zero=>intro _ _ r h;rw [g_e_word_L1.eq_1] at h;cases h
 | succ fuel ih =>
  intro out i r h E hE
  rw [g_e_word_L1.eq_2] at h
  refine rnR hE 2 [] [] (kp [0,4,5,13]) [] 32 pn ?_
  refine rnC 0 13 h (fun hq3 h=>?_) (fun hq3 h=>?_)
  ·obtain ⟨c,h⟩:=ifSome h
   refine rnR hE 3 [] [] (kp [0,4,5]) [] 176 (pc (show (0:Int)≤16 by decide) (pc c pn)) ?_
   refine rnR hE 1 [] [] (kp [0,4,5]) [] 224 pn ?_
   exact rnW hE 1 [] (kp [0,4,5]) [] 0 pn (ih _ _ _ h E hE)
  ·refine rnR hE 2 [] [] (kp [2,3]) [] 80 pn ?_
   obtain rfl:=osI h
   exact rnT hE 0 Tryz.f151 [] (kp [2,3]) [] 80 pn [] pn
theorem g_e_word_ok (N:Nat) (n:List Int) (r:Int×Bool) (h:g_e_word N n=some r):Sd 151 [(eU n)] [] 0 (.tup [(a64 r.1),(aB r.2)]) []:=by
 unfold g_e_word at h
 refine sor (fu:=Tryz.f151) (c:=C_22 1) (nt:=25) (by kernel_rfl) (by kernel_rfl) (by kernel_rfl) (by kernel_rfl) (fun hm=>rfl) ?_
 intro E hE
 refine rnR hE 1 [] [] (kp [0]) [] 32 pn ?_
 refine rnR hE 2 [] [] (kp [0,8]) [] 80 pn ?_
 refine rnC 0 8 h (fun hq2 h=>?_) (fun hq2 h=>?_)
 ·refine rnR hE 1 [] [] (kp [2,3]) [] 112 pn ?_
  obtain rfl:=osI h
  exact rnT hE 0 Tryz.f151 [] (kp [2,3]) [] 112 pn [] pn
 ·refine rnR hE 2 [] [] (kp [0,4]) [] 96 pn ?_
  refine rnR hE 2 [] [] (kp [0,4,5]) [] 160 pn ?_
  exact rnW hE 2 [] (kp [0,4,5]) [] 0 pn (g_e_word_L1_ok N _ N _ _ _ h E hE)
noncomputable def C_24 (n:Nat):Code:=cat (bodyOf Tryz.f156) (pth n)
def g_e_compare_L1_H (N:Nat) (a:List Int) (b:List Int) (K:Int→Option (Int)):Prop:=∀ (i:Int) (r:Int),K i=some r→∀ E,EnvOk E 0→Runs Tryz.prog E 156 43 (SPost E [] (aI r)) [.code (C_24 116),.inLoop (C_24 116),.inBlock 0,.code (C_24 15)] ⟨[(0,(eU a)),(1,(eU b)),(5,(aI i))],[],0⟩
theorem g_e_compare_L1_ok (N:Nat) (a:List Int) (b:List Int) (fuel:Nat):g_e_compare_L1_H N a b (g_e_compare_L1 N a b fuel):=by
 induction fuel with
 | zero=>intro _ r h;rw [g_e_compare_L1.eq_1] at h;cases h
 | succ fuel ih =>
  intro i r h E hE
  rw [g_e_compare_L1.eq_2] at h
  refine rnR hE 2 [] [] (kp [0,1,5,20]) [] 32 pn ?_
  refine rnC 0 20 h (fun hq3 h=>?_) (fun hq3 h=>?_)
  ·obtain ⟨c,h⟩:=ifSome h
   obtain ⟨c2,h⟩:=ifSome h
   refine rnR hE 4 [] [] (kp [0,1,5,31]) [] 176 (pc c (pc c2 pn)) ?_
   refine rnC 0 31 h (fun hq4 h=>?_) (fun hq4 h=>?_)
   ·refine rnR hE 1 [] [] (kp [4]) [] 368 (pc c (pc c2 pn)) ?_
    obtain rfl:=osI h
    exact rnT hE 0 Tryz.f156 [] (kp [4]) [] 368 pn [] pn
   ·refine rnR hE 2 [] [] (kp [0,1,5]) [] 224 pn ?_
    exact rnW hE 1 [] (kp [0,1,5]) [] 0 pn (ih _ _ h E hE)
  ·refine rnR hE 2 [] [] (kp [4]) [] 48 pn ?_
   obtain rfl:=osI h
   exact rnT hE 0 Tryz.f156 [] (kp [4]) [] 48 pn [] pn
theorem g_e_compare_ok (N:Nat) (a:List Int) (b:List Int) (r:Int) (h:g_e_compare N a b=some r):Sd 156 [(eU a),(eU b)] [] 0 (aI r) []:=by
 unfold g_e_compare at h
 refine sor (fu:=Tryz.f156) (c:=C_24 1) (nt:=43) (by kernel_rfl) (by kernel_rfl) (by kernel_rfl) (by kernel_rfl) (fun hm=>rfl) ?_
 intro E hE
 refine rnR hE 1 [] [] (kp [0,1]) [] 16 pn ?_
 refine rnR hE 2 [] [] (kp [0,1,10]) [] 96 pn ?_
 refine rnC 0 10 h (fun hq2 h=>?_) (fun hq2 h=>?_)
 ·refine rnR hE 1 [] [] (kp [4]) [] 192 pn ?_
  obtain rfl:=osI h
  exact rnT hE 0 Tryz.f156 [] (kp [4]) [] 192 pn [] pn
 ·refine rnR hE 3 [] [] (kp [0,1,5]) [] 160 pn ?_
  exact rnW hE 2 [] (kp [0,1,5]) [] 0 pn (g_e_compare_L1_ok N _ _ N _ _ h E hE)
noncomputable def C_25 (n:Nat):Code:=cat (bodyOf Tryz.f166) (pth n)
def g_e_short_L1_H (N:Nat) (a:List Int) (b:Int) (K:(List Int)→Int→Int→Option ((List Int)×Int)):Prop:=∀ (q:List Int) (rest:Int) (i:Int) (r:(List Int)×Int),K q rest i=some r→∀ E,EnvOk E 0→Runs Tryz.prog E 166 43 (SPost E [] (.tup [(eU r.1),(a16 r.2)])) [.code (C_25 244),.inLoop (C_25 244),.inBlock 0,.code (C_25 31)] ⟨[(0,(eU a)),(1,(a16 b)),(6,(.os 0 0 q.length)),(7,(a32 rest)),(8,(aI i))],[(0,aU q)],1⟩
theorem g_e_short_L1_ok (N:Nat) (a:List Int) (b:Int) (fuel:Nat):g_e_short_L1_H N a b (g_e_short_L1 N a b fuel):=by
 induction fuel with
 | zero=>intro _ _ _ r h;rw [g_e_short_L1.eq_1] at h;cases h
 | succ fuel ih =>
  intro q rest i r h E hE
  rw [g_e_short_L1.eq_2] at h
  refine rnR hE 2 [] [] (kp [0,1,6,7,8,16]) (kq [0]) 33 pn ?_
  refine rnC 0 16 h (fun hq2 h=>?_) (fun hq2 h=>?_)
  ·obtain ⟨c2,h⟩:=ifSome h
   refine rnR hE 4 [] [] (kp [0,1,6,7,8]) (kq [0]) 177 (pc (show (0:Int)≤16 by decide) (pc c2 pn)) ?_
   obtain ⟨c3,h⟩:=ifSome h
   obtain ⟨c4,h⟩:=ifSome h
   refine rnR hE 1 [] [] (kp [0,1] ++ [(6,.osl ((q.set ((i).toNat) (IntKind.u16.wrap ((IntKind.u32.wrap ((orI .u32 (shlI .u32 rest 16) (IntKind.u32.wrap ((a.getD ((i).toNat) 0)))).tdiv (IntKind.u32.wrap (b))))))).length))] ++ kp [7,8]) [(0,.arr 0 ((q.set ((i).toNat) (IntKind.u16.wrap ((IntKind.u32.wrap ((orI .u32 (shlI .u32 rest 16) (IntKind.u32.wrap ((a.getD ((i).toNat) 0)))).tdiv (IntKind.u32.wrap (b))))))).length) (fun zi=>(cU .u16) ((q.set ((i).toNat) (IntKind.u16.wrap ((IntKind.u32.wrap ((orI .u32 (shlI .u32 rest 16) (IntKind.u32.wrap ((a.getD ((i).toNat) 0)))).tdiv (IntKind.u32.wrap (b))))))).getD zi 0)))] 321 (pc c3 (pc c4 (pc (ltOf c4) (pc (len_set0 q ((i).toNat) (IntKind.u16.wrap ((IntKind.u32.wrap ((orI .u32 (shlI .u32 rest 16) (IntKind.u32.wrap ((a.getD ((i).toNat) 0)))).tdiv (IntKind.u32.wrap (b))))))) (pc (len_set0 q ((i).toNat) (IntKind.u16.wrap ((IntKind.u32.wrap ((orI .u32 (shlI .u32 rest 16) (IntKind.u32.wrap ((a.getD ((i).toNat) 0)))).tdiv (IntKind.u32.wrap (b))))))) (pc (get_set0 (cU .u16) 0 q ((i).toNat) (IntKind.u16.wrap ((IntKind.u32.wrap ((orI .u32 (shlI .u32 rest 16) (IntKind.u32.wrap ((a.getD ((i).toNat) 0)))).tdiv (IntKind.u32.wrap (b))))))) pn)))))) ?_
   refine rnR hE 0 [] [] (kp [0,1,6,7,8]) (kq [0]) 401 (pc c3 pn) ?_
   refine rnR hE 1 [] [] (kp [0,1,6,7,8]) (kq [0]) 449 pn ?_
   exact rnW hE 1 [] (kp [0,1,6,7,8]) (kq [0]) 1 pn (ih _ _ _ _ h E hE)
  ·obtain ⟨rtrim,hr,h⟩:=bsm h
   refine rnR hE 2 [(1,⟨[],true,(eU rtrim),[],0,true,none⟩)] [] (kp [4,5]) [] 129 (pc (g_e_trim_ok N q rtrim hr) (pc (z1 q.length) pn)) ?_
   obtain rfl:=osI h
   exact rnT hE 0 Tryz.f166 [] (kp [4,5]) [] 129 pn [] pn
theorem g_e_short_ok (N:Nat) (a:List Int) (b:Int) (r:(List Int)×Int) (h:g_e_short N a b=some r):Sd 166 [(eU a),(a16 b)] [] 0 (.tup [(eU r.1),(a16 r.2)]) []:=by
 unfold g_e_short at h
 refine sor (fu:=Tryz.f166) (c:=C_25 1) (nt:=43) (by kernel_rfl) (by kernel_rfl) (by kernel_rfl) (by kernel_rfl) (fun hm=>rfl) ?_
 intro E hE
 refine rnR hE 1 [] [] (kp [0,1]) [] 32 pn ?_
 obtain ⟨c,h⟩:=ifSome h
 refine rnR hE 1 [] [] (kp [0,1] ++ [(6,.osl ((List.replicate a.length 0:List Int).length))]) [(64,.arr 64 ((List.replicate a.length 0:List Int).length) (fun zi=>(cU .u16) ((List.replicate a.length 0:List Int).getD zi 0)))] 96 (pc (show 0≤((a.length:Nat):Int) from c.1) (pc (show ((a.length:Nat):Int)≤((a.length:Nat):Int) from (Int.le_refl _)) (pc (show (2:Int) * ((a.length:Nat):Int)≤281474976710656 from c.2.1) (pc (show ((a.length:Nat):Int)≤9223372036854775807 from c.2.2) (pc (show a.length=(List.replicate a.length 0:List Int).length from (List.length_replicate).symm) (pc (show a.length=(List.replicate a.length 0:List Int).length from (List.length_replicate).symm) (pc (show ∀ zi,zi < (List.replicate a.length 0:List Int).length→(fun zi=>(cU .u16) ((List.replicate a.length 0:List Int).getD zi 0)) zi=(fun _=>[(a16 0)]) zi from (fun zq hzq=>get_rep (cU .u16) 0 0 a.length zq hzq)) pn))))))) ?_
 refine rnR hE 1 [] [] (kp [0,1,6,7]) (kq [64]) 112 pn ?_
 refine rnR hE 2 [] [] (kp [0,1,6,7,8]) (kq [64]) 176 pn ?_
 exact rnW hE 2 [] (kp [0,1,6,7,8]) [(0,.keep 64)] 1 pn (g_e_short_L1_ok N _ _ N _ _ _ _ h E hE)
noncomputable def C_27 (n:Nat):Code:=cat (bodyOf Tryz.f170) (pth n)
def g_math_bits_Len16_J1_H (N:Nat) (K:Int→Int→Option (Int)):Prop:=∀ (x2:Int) (n:Int) (r:Int),K x2 n=some r→∀ E,EnvOk E 0→Runs Tryz.prog E 170 13 (SPost E [] (aI r)) [.code (C_27 14),.code (C_27 15)] ⟨[(0,(a16 x2)),(2,(aI n))],[],0⟩
theorem g_math_bits_Len16_J1_ok (N:Nat):g_math_bits_Len16_J1_H N (g_math_bits_Len16_J1 N):=by
 intro x2 n r h E hE
 unfold g_math_bits_Len16_J1 at h
 obtain ⟨c,h⟩:=ifSome h
 refine rnR hE 0 [] [] (kp [2]) [] 112 (pc c pn) ?_
 obtain rfl:=osI h
 exact rnT hE 0 Tryz.f170 [] (kp [2]) [] 112 pn [] pn
theorem g_math_bits_Len16_ok (N:Nat) (x:Int) (r:Int) (h:g_math_bits_Len16 N x=some r):Sd 170 [(a16 x)] [] 0 (aI r) []:=by
 unfold g_math_bits_Len16 at h
 refine sor (fu:=Tryz.f170) (c:=C_27 1) (nt:=13) (by kernel_rfl) (by kernel_rfl) (by kernel_rfl) (by kernel_rfl) (fun hm=>rfl) ?_
 intro E hE
 refine rnR hE 1 [] [] (kp [0,2]) [] 16 pn ?_
 refine rnR hE 2 [] [] (kp [0,2,4]) [] 48 pn ?_
 refine rnC 0 4 h (fun hq2 h=>?_) (fun hq2 h=>?_)
 ·refine rnR hE 1 [] [] (kp [0]) [] 96 (pc (show (0:Int)≤8 by decide) pn) ?_
  refine rnR hE 0 [] [] (kp [0,2]) [] 112 pn ?_
  exact rnW hE 1 [] (kp [0,2]) [] 0 pn (g_math_bits_Len16_J1_ok N _ _ _ h E hE)
 ·exact rnW hE 2 [] (kp [0,2]) [] 0 pn (g_math_bits_Len16_J1_ok N _ _ _ h E hE)
noncomputable def C_26 (n:Nat):Code:=cat (bodyOf Tryz.f167) (pth n)
theorem g_math_bits_LeadingZeros16_ok (N:Nat) (x:Int) (r:Int) (h:g_math_bits_LeadingZeros16 N x=some r):Sd 167 [(a16 x)] [] 0 (aI r) []:=by
 unfold g_math_bits_LeadingZeros16 at h
 refine sor (fu:=Tryz.f167) (c:=C_26 1) (nt:=6) (by kernel_rfl) (by kernel_rfl) (by kernel_rfl) (by kernel_rfl) (fun hm=>rfl) ?_
 intro E hE
 refine rnR hE 1 [] [] (kp [0]) [] 16 pn ?_
 obtain ⟨rLen16,hr,h⟩:=bsm h
 refine rnR hE 1 [(1,⟨[],true,(aI rLen16),[],0,false,none⟩)] [] (kp [2]) [] 80 (pc (g_math_bits_Len16_ok N x rLen16 hr) pn) ?_
 obtain rfl:=osI h
 exact rnT hE 0 Tryz.f167 [] (kp [2]) [] 80 pn [] pn
noncomputable def C_28 (n:Nat):Code:=cat (bodyOf Tryz.f168) (pth n)
def g_e_shifted_L1_H (N:Nat) (a:List Int) (vby:Int) (K:(List Int)→Int→Option ((List Int))):Prop:=∀ (out:List Int) (x:Int) (r:(List Int)),K out x=some r→∀ E,EnvOk E 0→Runs Tryz.prog E 168 41 (SPost E [(0,aU r)] (.os 0 0 r.length)) [.code (C_28 116),.inLoop (C_28 116),.inBlock 0,.code (C_28 15)] ⟨[(1,(aI vby)),(5,(.os 0 0 out.length)),(13,(eU a)),(14,(aI ((a.length:Nat):Int))),(15,(aI x))],[(0,aU out)],1⟩
theorem g_e_shifted_L1_ok (N:Nat) (a:List Int) (vby:Int) (fuel:Nat):g_e_shifted_L1_H N a vby (g_e_shifted_L1 N a vby fuel):=by
 induction fuel with
 | zero=>intro _ _ r h;rw [g_e_shifted_L1.eq_1] at h;cases h
 | succ fuel ih =>
  intro out x r h E hE
  rw [g_e_shifted_L1.eq_2] at h
  refine rnR hE 1 [] [] (kp [1,5,13,14,15,16]) (kq [0]) 17 pn ?_
  refine rnC 1 16 h (fun hq2 h=>?_) (fun hq2 h=>?_)
  ·obtain ⟨c2,h⟩:=ifSome h
   refine rnR hE 4 [] [] (kp [1,5,6,7,13,14,15]) (kq [0]) 97 (pc c2 pn) ?_
   obtain ⟨c3,h⟩:=ifSome h
   refine rnR hE 1 [] [] (kp [1,5,6,8,13,14,15]) (kq [0]) 177 (pc c3 pn) ?_
   obtain ⟨c4,h⟩:=ifSome h
   refine rnR hE 1 [] [] (kp [1] ++ [(5,.osl ((out.set ((x).toNat) (orI .u16 (out.getD ((x).toNat) 0) (IntKind.u16.wrap ((shlI .u32 (IntKind.u32.wrap ((a.getD ((x).toNat) 0))) vby))))).length))] ++ kp [6,8,13,14,15]) [(0,.arr 0 ((out.set ((x).toNat) (orI .u16 (out.getD ((x).toNat) 0) (IntKind.u16.wrap ((shlI .u32 (IntKind.u32.wrap ((a.getD ((x).toNat) 0))) vby))))).length) (fun zi=>(cU .u16) ((out.set ((x).toNat) (orI .u16 (out.getD ((x).toNat) 0) (IntKind.u16.wrap ((shlI .u32 (IntKind.u32.wrap ((a.getD ((x).toNat) 0))) vby))))).getD zi 0)))] 321 (pc c4 (pc (ltOf c4) (pc c4 (pc (ltOf c4) (pc (len_set0 out ((x).toNat) (orI .u16 (out.getD ((x).toNat) 0) (IntKind.u16.wrap ((shlI .u32 (IntKind.u32.wrap ((a.getD ((x).toNat) 0))) vby))))) (pc (len_set0 out ((x).toNat) (orI .u16 (out.getD ((x).toNat) 0) (IntKind.u16.wrap ((shlI .u32 (IntKind.u32.wrap ((a.getD ((x).toNat) 0))) vby))))) (pc (get_set0 (cU .u16) 0 out ((x).toNat) (orI .u16 (out.getD ((x).toNat) 0) (IntKind.u16.wrap ((shlI .u32 (IntKind.u32.wrap ((a.getD ((x).toNat) 0))) vby))))) pn))))))) ?_
   obtain ⟨c5,h⟩:=ifSome h
   refine rnR hE 0 [] [] (kp [1] ++ [(5,.osl (((out.set ((x).toNat) (orI .u16 (out.getD ((x).toNat) 0) (IntKind.u16.wrap ((shlI .u32 (IntKind.u32.wrap ((a.getD ((x).toNat) 0))) vby))))).set ((w64 (x+1)).toNat) (IntKind.u16.wrap ((shrI .u32 (shlI .u32 (IntKind.u32.wrap ((a.getD ((x).toNat) 0))) vby) 16)))).length))] ++ kp [13,14,15]) [(0,.arr 0 (((out.set ((x).toNat) (orI .u16 (out.getD ((x).toNat) 0) (IntKind.u16.wrap ((shlI .u32 (IntKind.u32.wrap ((a.getD ((x).toNat) 0))) vby))))).set ((w64 (x+1)).toNat) (IntKind.u16.wrap ((shrI .u32 (shlI .u32 (IntKind.u32.wrap ((a.getD ((x).toNat) 0))) vby) 16)))).length) (fun zi=>(cU .u16) (((out.set ((x).toNat) (orI .u16 (out.getD ((x).toNat) 0) (IntKind.u16.wrap ((shlI .u32 (IntKind.u32.wrap ((a.getD ((x).toNat) 0))) vby))))).set ((w64 (x+1)).toNat) (IntKind.u16.wrap ((shrI .u32 (shlI .u32 (IntKind.u32.wrap ((a.getD ((x).toNat) 0))) vby) 16)))).getD zi 0)))] 449 (pc (show (0:Int)≤16 by decide) (pc c5 (pc (ltOf c5) (pc (len_set0 (out.set ((x).toNat) (orI .u16 (out.getD ((x).toNat) 0) (IntKind.u16.wrap ((shlI .u32 (IntKind.u32.wrap ((a.getD ((x).toNat) 0))) vby))))) ((w64 (x+1)).toNat) (IntKind.u16.wrap ((shrI .u32 (shlI .u32 (IntKind.u32.wrap ((a.getD ((x).toNat) 0))) vby) 16)))) (pc (len_set0 (out.set ((x).toNat) (orI .u16 (out.getD ((x).toNat) 0) (IntKind.u16.wrap ((shlI .u32 (IntKind.u32.wrap ((a.getD ((x).toNat) 0))) vby))))) ((w64 (x+1)).toNat) (IntKind.u16.wrap ((shrI .u32 (shlI .u32 (IntKind.u32.wrap ((a.getD ((x).toNat) 0))) vby) 16)))) (pc (get_set0 (cU .u16) 0 (out.set ((x).toNat) (orI .u16 (out.getD ((x).toNat) 0) (IntKind.u16.wrap ((shlI .u32 (IntKind.u32.wrap ((a.getD ((x).toNat) 0))) vby))))) ((w64 (x+1)).toNat) (IntKind.u16.wrap ((shrI .u32 (shlI .u32 (IntKind.u32.wrap ((a.getD ((x).toNat) 0))) vby) 16)))) pn)))))) ?_
   refine rnR hE 1 [] [] (kp [1,5,13,14,15]) (kq [0]) 481 pn ?_
   exact rnW hE 1 [] (kp [1,5,13,14,15]) (kq [0]) 1 pn (ih _ _ _ h E hE)
  ·refine rnR hE 2 [] [] (kp [4]) (kq [0]) 49 pn ?_
   obtain rfl:=osI h
   exact rnT hE 0 Tryz.f168 [] (kp [4]) (kq [0]) 49 pn [] pn
theorem g_e_shifted_ok (N:Nat) (a:List Int) (vby:Int) (r:(List Int)) (h:g_e_shifted N a vby=some r):Sd 168 [(eU a),(aI vby)] [] 0 (.os 0 0 r.length) [(0,aU r)]:=by
 unfold g_e_shifted at h
 refine sor (fu:=Tryz.f168) (c:=C_28 1) (nt:=41) (by kernel_rfl) (by kernel_rfl) (by kernel_rfl) (by kernel_rfl) (fun hm=>rfl) ?_
 intro E hE
 refine rnR hE 1 [] [] (kp [0,1]) [] 16 pn ?_
 obtain ⟨c,h⟩:=ifSome h
 refine rnR hE 1 [] [] (kp [0,1] ++ [(5,.osl ((List.replicate ((w64 (((a.length:Nat):Int)+1)).toNat) 0:List Int).length))]) [(64,.arr 64 ((List.replicate ((w64 (((a.length:Nat):Int)+1)).toNat) 0:List Int).length) (fun zi=>(cU .u16) ((List.replicate ((w64 (((a.length:Nat):Int)+1)).toNat) 0:List Int).getD zi 0)))] 96 (pc (show 0≤(w64 (((a.length:Nat):Int)+1)) from c.1) (pc (show (w64 (((a.length:Nat):Int)+1))≤(w64 (((a.length:Nat):Int)+1)) from (Int.le_refl _)) (pc (show (2:Int) * (w64 (((a.length:Nat):Int)+1))≤281474976710656 from c.2.1) (pc (show (w64 (((a.length:Nat):Int)+1))≤9223372036854775807 from c.2.2) (pc (show (w64 (((a.length:Nat):Int)+1)).toNat=(List.replicate ((w64 (((a.length:Nat):Int)+1)).toNat) 0:List Int).length from (List.length_replicate).symm) (pc (show (w64 (((a.length:Nat):Int)+1)).toNat=(List.replicate ((w64 (((a.length:Nat):Int)+1)).toNat) 0:List Int).length from (List.length_replicate).symm) (pc (show ∀ zi,zi < (List.replicate ((w64 (((a.length:Nat):Int)+1)).toNat) 0:List Int).length→(fun zi=>(cU .u16) ((List.replicate ((w64 (((a.length:Nat):Int)+1)).toNat) 0:List Int).getD zi 0)) zi=(fun _=>[(a16 0)]) zi from (fun zq hzq=>get_rep (cU .u16) 0 0 ((w64 (((a.length:Nat):Int)+1)).toNat) zq hzq)) pn))))))) ?_
 refine rnR hE 2 [] [] (kp [1,5,13,14,15]) (kq [64]) 144 pn ?_
 exact rnW hE 2 [] (kp [1,5,13,14,15]) [(0,.keep 64)] 1 pn (g_e_shifted_L1_ok N _ _ N _ _ _ h E hE)
noncomputable def C_29 (n:Nat):Code:=cat (bodyOf Tryz.f169) (pth n)
def g_e_digit_L1_H (N:Nat) (uo:Nat) (un:Nat) (v:List Int) (C0:List Int) (K:Int→Int→Option (Int×(List Int))):Prop:=∀ (q:Int) (rest:Int) (r:Int×(List Int)),K q rest=some r→∀ E,EnvOk E 1→Runs Tryz.prog E 169 161 (SPost E [(0,aU r.2)] (a16 r.1)) [.code (C_29 248),.inLoop (C_29 248),.inBlock 0,.code (C_29 63)] ⟨[(0,(.os 0 uo un)),(1,(eU v)),(5,(aI ((v.length:Nat):Int))),(7,(a64 q)),(8,(a64 rest))],[(0,aU C0)],1⟩
def g_e_digit_L2_H (N:Nat) (uo:Nat) (un:Nat) (v:List Int) (q:Int) (K:(List Int)→Int→Int→Int→Option (Int×(List Int))):Prop:=∀ (C02:List Int) (carry:Int) (borrow:Int) (x:Int) (r:Int×(List Int)),K C02 carry borrow x=some r→∀ E,EnvOk E 1→Runs Tryz.prog E 169 161 (SPost E [(0,aU r.2)] (a16 r.1)) [.code (C_29 2036),.inLoop (C_29 2036),.inBlock 2,.code (C_29 255)] ⟨[(0,(.os 0 uo un)),(1,(eU v)),(5,(aI ((v.length:Nat):Int))),(7,(a64 q)),(9,(a64 carry)),(10,(aI borrow)),(84,(aI (w64 (((v.length:Nat):Int)+1)))),(85,(aI x))],[(0,aU C02)],1⟩
def g_e_digit_J3_H (N:Nat) (uo:Nat) (un:Nat) (v:List Int) (q:Int) (C02:List Int) (borrow:Int) (x:Int) (K:Int→Option (Int×(List Int))):Prop:=∀ (x2:Int) (r:Int×(List Int)),K x2=some r→∀ E,EnvOk E 1→Runs Tryz.prog E 169 161 (SPost E [(0,aU r.2)] (a16 r.1)) [.code (C_29 521422),.code (C_29 521423),.inBlock 3,.code (C_29 16295),.inLoop (C_29 2036),.inBlock 2,.code (C_29 255)] ⟨[(0,(.os 0 uo un)),(1,(eU v)),(5,(aI ((v.length:Nat):Int))),(7,(a64 q)),(10,(aI borrow)),(11,(aI x)),(12,(a64 x2)),(84,(aI (w64 (((v.length:Nat):Int)+1)))),(85,(aI x))],[(0,aU C02)],1⟩
theorem g_e_digit_J3_ok (N:Nat) (uo:Nat) (un:Nat) (v:List Int) (q:Int) (C02:List Int) (borrow:Int) (x:Int) (K_g_e_digit_L2:(List Int)→Int→Int→Int→Option (Int×(List Int))) (hK_g_e_digit_L2:g_e_digit_L2_H N uo un v q K_g_e_digit_L2):g_e_digit_J3_H N uo un v q C02 borrow x (g_e_digit_J3 N uo un v q C02 borrow x K_g_e_digit_L2):=by
 intro x2 r h E hE
 unfold g_e_digit_J3 at h
 refine rnR hE 0 [] [] (kp [0,1,5,7,9,10,11,12,84,85]) (kq [0]) 49 (pc (show (0:Int)≤16 by decide) pn) ?_
 obtain ⟨c11,h⟩:=ifSome h
 obtain ⟨c12,h⟩:=ifSome h
 refine rnR hE 1 [] [] (kp [0,1,5,7,9,11,13,84,85]) (kq [0]) 241 (pc c11 (pc (show (addz uo (x).toNat) < C02.length by have h1:=c11;have h2:=c12;simp only [addz_eq];omega) pn)) ?_
 refine rnR hE 1 [] [] (kp [0,1,5,7,9,13,84,85]) [(0,.arr 0 ((C02.set (addz uo (x).toNat) (IntKind.u16.wrap ((w64 ((w64 ((w64 ((C02.getD (addz uo (x).toNat) 0))) - (w64 ((andI .u64 x2 65535)))))+borrow))))).length) (fun zi=>(cU .u16) ((C02.set (addz uo (x).toNat) (IntKind.u16.wrap ((w64 ((w64 ((w64 ((C02.getD (addz uo (x).toNat) 0))) - (w64 ((andI .u64 x2 65535)))))+borrow))))).getD zi 0)))] 337 (pc c11 (pc (show (addz uo (x).toNat) < C02.length by have h1:=c11;have h2:=c12;simp only [addz_eq];omega) (pc (len_set0 C02 (addz uo (x).toNat) (IntKind.u16.wrap ((w64 ((w64 ((w64 ((C02.getD (addz uo (x).toNat) 0))) - (w64 ((andI .u64 x2 65535)))))+borrow))))) (pc (get_set0 (cU .u16) 0 C02 (addz uo (x).toNat) (IntKind.u16.wrap ((w64 ((w64 ((w64 ((C02.getD (addz uo (x).toNat) 0))) - (w64 ((andI .u64 x2 65535)))))+borrow))))) pn)))) ?_
 refine rnR hE 0 [] [] (kp [0,1,5,7,9,10,84,85]) (kq [0]) 385 (pc (show (0:Int)≤16 by decide) pn) ?_
 refine rnR hE 1 [] [] (kp [0,1,5,7,9,10,84,85]) (kq [0]) 417 pn ?_
 exact rnW hE 1 [] (kp [0,1,5,7,9,10,84,85]) (kq [0]) 1 pn (hK_g_e_digit_L2 _ _ _ _ _ h E hE)
def g_e_digit_L4_H (N:Nat) (uo:Nat) (un:Nat) (v:List Int) (q:Int) (K:(List Int)→Int→Int→Option (Int×(List Int))):Prop:=∀ (C03:List Int) (carry2:Int) (x3:Int) (r:Int×(List Int)),K C03 carry2 x3=some r→∀ E,EnvOk E 1→Runs Tryz.prog E 169 161 (SPost E [(0,aU r.2)] (a16 r.1)) [.code (C_29 130740),.inLoop (C_29 130740),.inBlock 4,.code (C_29 16343),.code (C_29 511)] ⟨[(0,(.os 0 uo un)),(1,(eU v)),(5,(aI ((v.length:Nat):Int))),(7,(a64 (IntKind.u64.wrap (q - 1)))),(14,(a32 carry2)),(126,(aI ((v.length:Nat):Int))),(127,(aI x3))],[(0,aU C03)],1⟩
def g_e_digit_J5_H (N:Nat) (K:(List Int)→Int→Option (Int×(List Int))):Prop:=∀ (C04:List Int) (q2:Int) (r:Int×(List Int)),K C04 q2=some r→∀ E,EnvOk E 1→Runs Tryz.prog E 169 161 (SPost E [(0,aU r.2)] (a16 r.1)) [.code (C_29 1022),.code (C_29 1023)] ⟨[(7,(a64 q2))],[(0,aU C04)],1⟩
theorem g_e_digit_J5_ok (N:Nat):g_e_digit_J5_H N (g_e_digit_J5 N):=by
 intro C04 q2 r h E hE
 unfold g_e_digit_J5 at h
 refine rnR hE 0 [] [] (kp [4]) (kq [0]) 49 pn ?_
 obtain rfl:=osI h
 exact rnT hE 0 Tryz.f169 [] (kp [4]) (kq [0]) 49 pn [] pn
theorem g_e_digit_L4_ok (N:Nat) (uo:Nat) (un:Nat) (v:List Int) (q:Int) (fuel:Nat):g_e_digit_L4_H N uo un v q (g_e_digit_L4 N uo un v q fuel):=by
 induction fuel with
 | zero=>intro _ _ _ r h;rw [g_e_digit_L4.eq_1] at h;cases h
 | succ fuel ih =>
  intro C03 carry2 x3 r h E hE
  rw [g_e_digit_L4.eq_2] at h
  refine rnR hE 1 [] [] (kp [0,1,5,7,14,126,127,128]) (kq [0]) 17 pn ?_
  refine rnC 1 128 h (fun hq6 h=>?_) (fun hq6 h=>?_)
  ·refine rnR hE 4 [] [] (kp [0,1,5,7,14,15,126,127]) (kq [0]) 49 pn ?_
   obtain ⟨c13,h⟩:=ifSome h
   obtain ⟨c14,h⟩:=ifSome h
   obtain ⟨c15,h⟩:=ifSome h
   refine rnR hE 1 [] [] (kp [0,1,5,7,14,15,126,127]) (kq [0]) 273 (pc c13 (pc (show (addz uo (x3).toNat) < C03.length by have h1:=c13;have h2:=c14;simp only [addz_eq];omega) (pc c15 pn))) ?_
   refine rnR hE 1 [] [] (kp [0,1,5,7,14,126,127]) [(0,.arr 0 ((C03.set (addz uo (x3).toNat) (IntKind.u16.wrap ((IntKind.u32.wrap (carry2+(IntKind.u32.wrap ((IntKind.u32.wrap ((C03.getD (addz uo (x3).toNat) 0)))+(IntKind.u32.wrap ((v.getD ((x3).toNat) 0)))))))))).length) (fun zi=>(cU .u16) ((C03.set (addz uo (x3).toNat) (IntKind.u16.wrap ((IntKind.u32.wrap (carry2+(IntKind.u32.wrap ((IntKind.u32.wrap ((C03.getD (addz uo (x3).toNat) 0)))+(IntKind.u32.wrap ((v.getD ((x3).toNat) 0)))))))))).getD zi 0)))] 369 (pc c13 (pc (show (addz uo (x3).toNat) < C03.length by have h1:=c13;have h2:=c14;simp only [addz_eq];omega) (pc (len_set0 C03 (addz uo (x3).toNat) (IntKind.u16.wrap ((IntKind.u32.wrap (carry2+(IntKind.u32.wrap ((IntKind.u32.wrap ((C03.getD (addz uo (x3).toNat) 0)))+(IntKind.u32.wrap ((v.getD ((x3).toNat) 0)))))))))) (pc (get_set0 (cU .u16) 0 C03 (addz uo (x3).toNat) (IntKind.u16.wrap ((IntKind.u32.wrap (carry2+(IntKind.u32.wrap ((IntKind.u32.wrap ((C03.getD (addz uo (x3).toNat) 0)))+(IntKind.u32.wrap ((v.getD ((x3).toNat) 0)))))))))) pn)))) ?_
   refine rnR hE 0 [] [] (kp [0,1,5,7,14,126,127]) (kq [0]) 417 (pc (show (0:Int)≤16 by decide) pn) ?_
   refine rnR hE 1 [] [] (kp [0,1,5,7,14,126,127]) (kq [0]) 449 pn ?_
   exact rnW hE 1 [] (kp [0,1,5,7,14,126,127]) (kq [0]) 1 pn (ih _ _ _ _ h E hE)
  ·obtain ⟨c16,h⟩:=ifSome h
   obtain ⟨c17,h⟩:=ifSome h
   refine rnR hE 1 [] [] (kp [7]) [(0,.arr 0 ((C03.set (addz uo v.length) (IntKind.u16.wrap ((C03.getD (addz uo v.length) 0)+(IntKind.u16.wrap (carry2))))).length) (fun zi=>(cU .u16) ((C03.set (addz uo v.length) (IntKind.u16.wrap ((C03.getD (addz uo v.length) 0)+(IntKind.u16.wrap (carry2))))).getD zi 0)))] 161 (pc c16 (pc (show (addz uo v.length) < C03.length by have h1:=c16;have h2:=c17;simp only [addz_eq];omega) (pc c16 (pc (show (addz uo v.length) < C03.length by have h1:=c16;have h2:=c17;simp only [addz_eq];omega) (pc (len_set0 C03 (addz uo v.length) (IntKind.u16.wrap ((C03.getD (addz uo v.length) 0)+(IntKind.u16.wrap (carry2))))) (pc (get_set0 (cU .u16) 0 C03 (addz uo v.length) (IntKind.u16.wrap ((C03.getD (addz uo v.length) 0)+(IntKind.u16.wrap (carry2))))) pn)))))) ?_
   exact rnW hE 1 [] (kp [7]) (kq [0]) 1 pn (g_e_digit_J5_ok N _ _ _ h E hE)
theorem g_e_digit_L2_ok (N:Nat) (uo:Nat) (un:Nat) (v:List Int) (q:Int) (fuel:Nat):g_e_digit_L2_H N uo un v q (g_e_digit_L2 N uo un v q fuel):=by
 induction fuel with
 | zero=>intro _ _ _ _ r h;rw [g_e_digit_L2.eq_1] at h;cases h
 | succ fuel ih =>
  intro C02 carry borrow x r h E hE
  rw [g_e_digit_L2.eq_2] at h
  refine rnR hE 1 [] [] (kp [0,1,5,7,9,10,84,85,86]) (kq [0]) 17 pn ?_
  refine rnC 1 86 h (fun hq3 h=>?_) (fun hq3 h=>?_)
  ·refine rnR hE 4 [] [] (kp [0,1,5,7,9,10,11,84,85]) (kq [0]) 49 pn ?_
   refine rnR hE 1 [] [] (kp [0,1,5,7,10,11,12,84,85]) (kq [0]) 81 pn ?_
   refine rnR hE 2 [] [] (kp [0,1,5,7,10,11,12,84,85,91]) (kq [0]) 129 pn ?_
   refine rnC 0 91 h (fun hq4 h=>?_) (fun hq4 h=>?_)
   ·obtain ⟨c10,h⟩:=ifSome h
    refine rnR hE 0 [] [] (kp [0,1,5,7,10,11,12,84,85]) (kq [0]) 289 (pc c10 pn) ?_
    exact rnW hE 1 [] (kp [0,1,5,7,10,11,12,84,85]) (kq [0]) 1 pn (g_e_digit_J3_ok N _ _ _ _ _ _ _ _ ih _ _ h E hE)
   ·exact rnW hE 2 [] (kp [0,1,5,7,10,11,12,84,85]) (kq [0]) 1 pn (g_e_digit_J3_ok N _ _ _ _ _ _ _ _ ih _ _ h E hE)
  ·refine rnR hE 3 [] [] (kp [0,1,5,7,123]) (kq [0]) 49 pn ?_
   refine rnC 0 123 h (fun hq5 h=>?_) (fun hq5 h=>?_)
   ·refine rnR hE 1 [] [] (kp [0,1,5,7]) (kq [0]) 97 pn ?_
    refine rnR hE 1 [] [] (kp [0,1,5,7,14]) (kq [0]) 113 pn ?_
    refine rnR hE 2 [] [] (kp [0,1,5,7,14,126,127]) (kq [0]) 145 pn ?_
    exact rnW hE 2 [] (kp [0,1,5,7,14,126,127]) (kq [0]) 1 pn (g_e_digit_L4_ok N _ _ _ _ N _ _ _ _ h E hE)
   ·exact rnW hE 2 [] (kp [7]) (kq [0]) 1 pn (g_e_digit_J5_ok N _ _ _ h E hE)
theorem g_e_digit_L1_ok (N:Nat) (uo:Nat) (un:Nat) (v:List Int) (C0:List Int) (fuel:Nat):g_e_digit_L1_H N uo un v C0 (g_e_digit_L1 N uo un v C0 fuel):=by
 induction fuel with
 | zero=>intro _ _ r h;rw [g_e_digit_L1.eq_1] at h;cases h
 | succ fuel ih =>
  intro q rest r h E hE
  rw [g_e_digit_L1.eq_2] at h
  obtain ⟨c6,h⟩:=ifSome h
  obtain ⟨c7,h⟩:=ifSome h
  obtain ⟨c8,h⟩:=ifSome h
  refine rnR hE 2 [] [] (kp [0,1,5,7,8,72]) (kq [0]) 417 (pc (fun hg:(decide (rest < 65536))=true=>(pc hg pn)) (pc (fun hg:((decide (rest < 65536)) && ((decide (rest < 65536)) && (!(decide (q > 65535)))))=true=>(pc hg pn)) (pc (fun hg:((decide (rest < 65536)) && ((decide (rest < 65536)) && (!(decide (q > 65535)))))=true=>(pc hg (pc hg (pc (c6 hg) pn)))) (pc (fun hg:((decide (rest < 65536)) && ((decide (rest < 65536)) && (!(decide (q > 65535)))))=true=>(pc hg pn)) (pc (fun hg:((decide (rest < 65536)) && ((decide (rest < 65536)) && (!(decide (q > 65535)))))=true=>(pc hg pn)) (pc (fun hg:((decide (rest < 65536)) && ((decide (rest < 65536)) && (!(decide (q > 65535)))))=true=>(pc hg (pc hg pn))) (pc (fun hg:((decide (rest < 65536)) && ((decide (rest < 65536)) && (!(decide (q > 65535)))))=true=>(pc hg (pc (show (0:Int)≤16 by decide) pn))) (pc (fun hg:((decide (rest < 65536)) && ((decide (rest < 65536)) && (!(decide (q > 65535)))))=true=>(pc hg pn)) (pc (fun hg:((decide (rest < 65536)) && ((decide (rest < 65536)) && (!(decide (q > 65535)))))=true=>(pc hg (pc hg (pc (c7 hg) pn)))) (pc (fun hg:((decide (rest < 65536)) && ((decide (rest < 65536)) && (!(decide (q > 65535)))))=true=>(pc hg (pc (show (addz uo (w64 (((v.length:Nat):Int) - 2)).toNat) < C0.length by have h1:=(c7 hg);have h2:=(c8 hg);simp only [addz_eq];omega) pn))) (pc (fun hg:((decide (rest < 65536)) && ((decide (rest < 65536)) && (!(decide (q > 65535)))))=true=>(pc hg pn)) (pc (fun hg:((decide (rest < 65536)) && ((decide (rest < 65536)) && (!(decide (q > 65535)))))=true=>(pc hg (pc hg pn))) (pc (fun hg:((decide (rest < 65536)) && ((decide (rest < 65536)) && (!(decide (q > 65535)))))=true=>(pc hg (pc hg pn))) (pc (fun hg:(decide (rest < 65536))=true=>(pc hg (pc hg (pc (fun hq:(!(decide (q > 65535)))=true=>(pc (show ((decide (rest < 65536)) && ((decide (rest < 65536)) && (!(decide (q > 65535)))))=true from (andI' hg (andI' hg hq))) pn)) pn)))) (pc (fun hq:(decide (rest < 65536))=true=>(pc hq pn)) pn))))))))))))))) ?_
  refine rnC 0 72 h (fun hq2 h=>?_) (fun hq2 h=>?_)
  ·refine rnR hE 3 [] [] (kp [0,1,5,7,8]) (kq [0]) 465 pn ?_
   obtain ⟨c9,h⟩:=ifSome h
   refine rnR hE 0 [] [] (kp [0,1,5,7,8]) (kq [0]) 609 (pc c9 pn) ?_
   exact rnW hE 2 [] (kp [0,1,5,7,8]) (kq [0]) 1 pn (ih _ _ _ h E hE)
  ·refine rnR hE 2 [] [] (kp [0,1,5,7,9,10]) (kq [0]) 449 pn ?_
   refine rnR hE 2 [] [] (kp [0,1,5,7,9,10,84,85]) (kq [0]) 497 pn ?_
   exact rnW hE 2 [] (kp [0,1,5,7,9,10,84,85]) (kq [0]) 1 pn (g_e_digit_L2_ok N _ _ _ _ N _ _ _ _ _ h E hE)
theorem g_e_digit_ok (N:Nat) (uo:Nat) (un:Nat) (v:List Int) (C0:List Int) (r:Int×(List Int)) (h:g_e_digit N uo un v C0=some r):Sd 169 [(.os 0 uo un),(eU v)] [(0,aU C0)] 1 (a16 r.1) [(0,aU r.2)]:=by
 unfold g_e_digit at h
 refine sor (fu:=Tryz.f169) (c:=C_29 1) (nt:=161) (by kernel_rfl) (by kernel_rfl) (by kernel_rfl) (by kernel_rfl) (fun hm=>absurd hm (by decide)) ?_
 intro E hE
 refine rnR hE 1 [] [] (kp [0,1]) (kq [0]) 17 pn ?_
 refine rnR hE 1 [] [] (kp [0,1,5]) (kq [0]) 65 pn ?_
 obtain ⟨c,h⟩:=ifSome h
 obtain ⟨c2,h⟩:=ifSome h
 obtain ⟨c3,h⟩:=ifSome h
 refine rnR hE 1 [] [] (kp [0,1,5,6]) (kq [0]) 289 (pc c (pc (show (addz uo v.length) < C0.length by have h1:=c;have h2:=c2;simp only [addz_eq];omega) (pc (show (0:Int)≤16 by decide) (pc c3 (pc (show (addz uo (w64 (((v.length:Nat):Int) - 1)).toNat) < C0.length by have h1:=c3;have h2:=c2;simp only [addz_eq];omega) pn))))) ?_
 obtain ⟨c4,h⟩:=ifSome h
 obtain ⟨c5,h⟩:=ifSome h
 refine rnR hE 1 [] [] (kp [0,1,5,7,8]) (kq [0]) 577 (pc c4 (pc c5 (pc c4 (pc c5 pn)))) ?_
 exact rnW hE 3 [] (kp [0,1,5,7,8]) (kq [0]) 1 pn (g_e_digit_L1_ok N _ _ _ _ N _ _ _ h E hE)
noncomputable def C_23 (n:Nat):Code:=cat (bodyOf Tryz.f154) (pth n)
def g_e_divide_L1_H (N:Nat) (b:List Int) (rLeadingZeros:Int) (rshifted2:(List Int)) (K:(List Int)→(List Int)→Int→Option ((List Int)×(List Int))):Prop:=∀ (q:List Int) (u:List Int) (j:Int) (r:(List Int)×(List Int)),K q u j=some r→∀ E,EnvOk E 0→Runs Tryz.prog E 154 109 (SPost E [] (.tup [(eU r.1),(eU r.2)])) [.code (C_23 4084),.inLoop (C_23 4084),.inBlock 0,.code (C_23 511)] ⟨[(4,(.os 0 0 q.length)),(8,(aI rLeadingZeros)),(9,(.os 1 0 u.length)),(10,(.os 2 0 (b.length - 0))),(11,(aI (((b.length - 0):Nat):Int))),(12,(aI j))],[(0,aU q),(1,aU u),(2,aU rshifted2)],3⟩
def g_e_divide_L2_H (N:Nat) (b:List Int) (rLeadingZeros:Int) (q:List Int) (u:List Int) (K:(List Int)→Int→Option ((List Int)×(List Int))):Prop:=∀ (vr:List Int) (x:Int) (r:(List Int)×(List Int)),K vr x=some r→∀ E,EnvOk E 0→Runs Tryz.prog E 154 109 (SPost E [] (.tup [(eU r.1),(eU r.2)])) [.code (C_23 16372),.inLoop (C_23 16372),.inBlock 2,.code (C_23 2047)] ⟨[(4,(.os 0 0 q.length)),(5,(.os 1 0 vr.length)),(8,(aI rLeadingZeros)),(9,(.os 2 0 u.length)),(81,(aI (((b.length - 0):Nat):Int))),(82,(aI x))],[(0,aU q),(1,aU vr),(2,aU u)],3⟩
theorem g_e_divide_L2_ok (N:Nat) (b:List Int) (rLeadingZeros:Int) (q:List Int) (u:List Int) (fuel:Nat):g_e_divide_L2_H N b rLeadingZeros q u (g_e_divide_L2 N b rLeadingZeros q u fuel):=by
 induction fuel with
 | zero=>intro _ _ r h;rw [g_e_divide_L2.eq_1] at h;cases h
 | succ fuel ih =>
  intro vr x r h E hE
  rw [g_e_divide_L2.eq_2] at h
  refine rnR hE 1 [] [] (kp [4,5,8,9,81,82,83]) (kq [0,1,2]) 19 pn ?_
  refine rnC 1 83 h (fun hq5 h=>?_) (fun hq5 h=>?_)
  ·refine rnR hE 4 [] [] (kp [4,5,8,9,13,81,82]) (kq [0,1,2]) 51 pn ?_
   obtain ⟨c12,h⟩:=ifSome h
   obtain ⟨c13,h⟩:=ifSome h
   obtain ⟨c14,h⟩:=ifSome h
   obtain ⟨c15,h⟩:=ifSome h
   refine rnR hE 0 [] [] (kp [4] ++ [(5,.osl ((vr.set ((x).toNat) (IntKind.u16.wrap ((shrI .u32 (orI .u32 (IntKind.u32.wrap ((u.getD ((x).toNat) 0))) (shlI .u32 (IntKind.u32.wrap ((u.getD ((w64 (x+1)).toNat) 0))) 16)) rLeadingZeros)))).length))] ++ kp [8,9,81,82]) (kq [0] ++ [(1,.arr 1 ((vr.set ((x).toNat) (IntKind.u16.wrap ((shrI .u32 (orI .u32 (IntKind.u32.wrap ((u.getD ((x).toNat) 0))) (shlI .u32 (IntKind.u32.wrap ((u.getD ((w64 (x+1)).toNat) 0))) 16)) rLeadingZeros)))).length) (fun zi=>(cU .u16) ((vr.set ((x).toNat) (IntKind.u16.wrap ((shrI .u32 (orI .u32 (IntKind.u32.wrap ((u.getD ((x).toNat) 0))) (shlI .u32 (IntKind.u32.wrap ((u.getD ((w64 (x+1)).toNat) 0))) 16)) rLeadingZeros)))).getD zi 0)))] ++ kq [2]) 371 (pc c12 (pc (ltOf c12) (pc c13 (pc (ltOf c13) (pc (show (0:Int)≤16 by decide) (pc c14 (pc c15 (pc (ltOf c15) (pc (len_set0 vr ((x).toNat) (IntKind.u16.wrap ((shrI .u32 (orI .u32 (IntKind.u32.wrap ((u.getD ((x).toNat) 0))) (shlI .u32 (IntKind.u32.wrap ((u.getD ((w64 (x+1)).toNat) 0))) 16)) rLeadingZeros)))) (pc (len_set0 vr ((x).toNat) (IntKind.u16.wrap ((shrI .u32 (orI .u32 (IntKind.u32.wrap ((u.getD ((x).toNat) 0))) (shlI .u32 (IntKind.u32.wrap ((u.getD ((w64 (x+1)).toNat) 0))) 16)) rLeadingZeros)))) (pc (get_set0 (cU .u16) 0 vr ((x).toNat) (IntKind.u16.wrap ((shrI .u32 (orI .u32 (IntKind.u32.wrap ((u.getD ((x).toNat) 0))) (shlI .u32 (IntKind.u32.wrap ((u.getD ((w64 (x+1)).toNat) 0))) 16)) rLeadingZeros)))) pn))))))))))) ?_
   refine rnR hE 1 [] [] (kp [4,5,8,9,81,82]) (kq [0,1,2]) 403 pn ?_
   exact rnW hE 1 [] (kp [4,5,8,9,81,82]) (kq [0,1,2]) 3 pn (ih _ _ _ h E hE)
  ·obtain ⟨rtrim2,hr9,h⟩:=bsm h
   obtain ⟨rtrim3,hr10,h⟩:=bsm h
   refine rnR hE 2 [(1,⟨[],true,(eU rtrim2),[],0,true,none⟩),(3,⟨[],true,(eU rtrim3),[],0,true,none⟩)] [] (kp [4,5]) [] 115 (pc (g_e_trim_ok N q rtrim2 hr9) (pc (z1 q.length) (pc (g_e_trim_ok N vr rtrim3 hr10) (pc (z1 vr.length) pn)))) ?_
   obtain rfl:=osI h
   exact rnT hE 0 Tryz.f154 [] (kp [4,5]) [] 115 pn [] pn
theorem g_e_divide_L1_ok (N:Nat) (b:List Int) (rLeadingZeros:Int) (rshifted2:(List Int)) (fuel:Nat):g_e_divide_L1_H N b rLeadingZeros rshifted2 (g_e_divide_L1 N b rLeadingZeros rshifted2 fuel):=by
 induction fuel with
 | zero=>intro _ _ _ r h;rw [g_e_divide_L1.eq_1] at h;cases h
 | succ fuel ih =>
  intro q u j r h E hE
  rw [g_e_divide_L1.eq_2] at h
  refine rnR hE 2 [] [] (kp [4,8,9,10,11,12,64]) (kq [0,1,2]) 35 pn ?_
  refine rnC 0 64 h (fun hq4 h=>?_) (fun hq4 h=>?_)
  ·obtain ⟨c5,h⟩:=ifSome h
   obtain ⟨c6,h⟩:=ifSome h
   obtain ⟨c7,h⟩:=ifSome h
   obtain ⟨c8,h⟩:=ifSome h
   obtain ⟨rdigit,hr8,h⟩:=bsm h
   obtain ⟨c9,h⟩:=ifSome h
   obtain ⟨c10,h⟩:=ifSome h
   refine rnR hE 3 [(10,⟨[1],false,(a16 rdigit.1),[(0,aU rdigit.2)],0,false,none⟩)] [] ([(4,.osl ((q.set ((j).toNat) rdigit.1).length))] ++ kp [8] ++ [(9,.osl (rdigit.2.length))] ++ kp [10,11,12]) ([(0,.arr 0 ((q.set ((j).toNat) rdigit.1).length) (fun zi=>(cU .u16) ((q.set ((j).toNat) rdigit.1).getD zi 0)))] ++ kq [1,2]) 243 (pc c5 (pc c6 (pc c7 (pc (show Sd 169 [(.os 0 ((j).toNat) ((w64 ((w64 (j+(((b.length - 0):Nat):Int)))+1)).toNat - (j).toNat)),(.sl (b.length - 0) (fun zi=>(cU .u16) (rshifted2.getD (addz 0 zi) 0)))] [(0,aU u)] 1 (a16 rdigit.1) [(0,aU rdigit.2)] from (Sound.conv (g_e_digit_ok N ((j).toNat) ((w64 ((w64 (j+(((b.length - 0):Nat):Int)))+1)).toNat - (j).toNat) ((rshifted2.take b.length).drop 0) u rdigit hr8) (.cons (Alike.refl _) (.cons (Alike.sl (len_ext' rshifted2 0 b.length c8) (fun zq hzq=>get_ext (cU .u16) 0 rshifted2 0 b.length zq hzq)) .nil)))) (pc (show ∀ zi,zi < rdigit.2.length→AV.flatL ((cU .u16) (rdigit.2.getD zi 0))=true from (fun _ _=>rfl)) (pc (show 0+(b.length - 0)≤rshifted2.length by have:=c8;omega) (pc c10 (pc (ltOf c10) (pc (len_set0 q ((j).toNat) rdigit.1) (pc (show u.length=rdigit.2.length from (Eq.symm c9)) (pc (len_set0 q ((j).toNat) rdigit.1) (pc (get_set0 (cU .u16) 0 q ((j).toNat) rdigit.1) pn)))))))))))) ?_
   refine rnR hE 1 [] [] (kp [4,8,9,10,11,12]) (kq [0,1,2]) 291 pn ?_
   exact rnW hE 1 [] (kp [4,8,9,10,11,12]) (kq [0,1,2]) 3 pn (ih _ _ _ _ h E hE)
  ·obtain ⟨c11,h⟩:=ifSome h
   refine rnR hE 2 [] [] (kp [4] ++ [(5,.osl ((List.replicate (b.length - 0) 0:List Int).length))] ++ kp [8,9,11]) (kq [0,1] ++ [(51,.arr 51 ((List.replicate (b.length - 0) 0:List Int).length) (fun zi=>(cU .u16) ((List.replicate (b.length - 0) 0:List Int).getD zi 0)))]) 83 (pc (show 0≤(((b.length - 0):Nat):Int) from c11.1) (pc (show (((b.length - 0):Nat):Int)≤(((b.length - 0):Nat):Int) from (Int.le_refl _)) (pc (show (2:Int) * (((b.length - 0):Nat):Int)≤281474976710656 from c11.2.1) (pc (show (((b.length - 0):Nat):Int)≤9223372036854775807 from c11.2.2) (pc (show (b.length - 0)=(List.replicate (b.length - 0) 0:List Int).length from (List.length_replicate).symm) (pc (show (b.length - 0)=(List.replicate (b.length - 0) 0:List Int).length from (List.length_replicate).symm) (pc (show ∀ zi,zi < (List.replicate (b.length - 0) 0:List Int).length→(fun zi=>(cU .u16) ((List.replicate (b.length - 0) 0:List Int).getD zi 0)) zi=(fun _=>[(a16 0)]) zi from (fun zq hzq=>get_rep (cU .u16) 0 0 (b.length - 0) zq hzq)) pn))))))) ?_
   refine rnR hE 2 [] [] (kp [4,5,8,9,81,82]) (kq [0,1,51]) 115 pn ?_
   exact rnW hE 2 [] (kp [4,5,8,9,81,82]) (kq [0] ++ [(1,.keep 51),(2,.keep 1)]) 3 pn (g_e_divide_L2_ok N _ _ _ _ N _ _ _ h E hE)
theorem g_e_divide_ok (N:Nat) (a:List Int) (b:List Int) (r:(List Int)×(List Int)) (h:g_e_divide N a b=some r):Sd 154 [(eU a),(eU b)] [] 0 (.tup [(eU r.1),(eU r.2)]) []:=by
 unfold g_e_divide at h
 refine sor (fu:=Tryz.f154) (c:=C_23 1) (nt:=109) (by kernel_rfl) (by kernel_rfl) (by kernel_rfl) (by kernel_rfl) (fun hm=>rfl) ?_
 intro E hE
 refine rnR hE 1 [] [] (kp [0,1]) [] 32 pn ?_
 obtain ⟨rcompare,hr,h⟩:=bsm h
 refine rnR hE 2 [(2,⟨[],true,(aI rcompare),[],0,false,none⟩)] [] (kp [0,1,17]) [] 96 (pc (g_e_compare_ok N a b rcompare hr) pn) ?_
 refine rnC 0 17 h (fun hq2 h=>?_) (fun hq2 h=>?_)
 ·obtain ⟨rClone,hr2,h⟩:=bsm h
  refine rnR hE 1 [(1,⟨[],false,(.os 0 0 rClone.length),[(0,aU rClone)],0,false,none⟩)] [] (kp [4,5]) (kq [112]) 160 (pc (g_slices_Clone_uint16_uint16_ok N a rClone hr2) pn) ?_
  obtain rfl:=osI h
  exact rnT hE 0 Tryz.f154 [112] [(4,.sl (([]:List Int).length) (fun zi=>(cU .u16) (([]:List Int).getD zi 0))),(5,.sl (rClone.length) (fun zi=>(cU .u16) (rClone.getD zi 0)))] [] 160 (pc (Eq.refl 0) (pc (Eq.refl rClone.length) (pc (z1 rClone.length) (pc (show ∀ zi,zi < rClone.length→(fun zi=>(cU .u16) (rClone.getD zi 0)) zi=(fun zi=>(cU .u16) (rClone.getD zi 0)) (addz 0 zi) from (fun _ _=>rfl)) pn)))) [] pn
 ·refine rnR hE 3 [] [] (kp [0,1,22]) [] 144 pn ?_
  refine rnC 0 22 h (fun hq3 h=>?_) (fun hq3 h=>?_)
  ·obtain ⟨c,h⟩:=ifSome h
   obtain ⟨rshort,hr3,h⟩:=bsm h
   refine rnR hE 1 [(4,⟨[],true,(.tup [(eU rshort.1),(a16 rshort.2)]),[],0,false,none⟩)] [] (kp [6,7]) [] 304 (pc c (pc (g_e_short_ok N a (b.getD 0 0) rshort hr3) pn)) ?_
   obtain ⟨rtrim,hr4,h⟩:=bsm h
   refine rnR hE 1 [(3,⟨[],true,(eU rtrim),[],0,true,none⟩)] [] (kp [4,5]) [] 400 (pc (show Sd 139 [(.sl 1 (fun zi=>(fun zi=>([[(a16 rshort.2)]]:List (List AV)).getD zi []) (addz 0 zi)))] [] 0 (eU rtrim) [] from (Sound.conv (g_e_trim_ok N ([rshort.2]:List Int) rtrim hr4) (.cons (Alike.sl rfl (fun zq hzq=>get_chunk (cU .u16) 0 ([rshort.2]:List Int) zq hzq)) .nil))) (pc (z1 1) pn)) ?_
   obtain rfl:=osI h
   exact rnT hE 0 Tryz.f154 [] (kp [4,5]) [] 400 pn [] pn
  ·obtain ⟨c2,h⟩:=ifSome h
   obtain ⟨rLeadingZeros,hr5,h⟩:=bsm h
   refine rnR hE 2 [(6,⟨[],true,(aI rLeadingZeros),[],0,false,none⟩)] [] (kp [0,1,8]) [] 272 (pc c2 (pc (g_math_bits_LeadingZeros16_ok N (b.getD ((w64 (((b.length:Nat):Int) - 1)).toNat) 0) rLeadingZeros hr5) pn)) ?_
   obtain ⟨rshifted,hr6,h⟩:=bsm h
   obtain ⟨rshifted2,hr7,h⟩:=bsm h
   obtain ⟨c3,h⟩:=ifSome h
   refine rnR hE 1 [(2,⟨[],false,(.os 0 0 rshifted.length),[(0,aU rshifted)],0,false,none⟩),(5,⟨[],false,(.os 0 0 rshifted2.length),[(0,aU rshifted2)],0,false,none⟩)] [] (kp [8,9,10]) (kq [304,352]) 448 (pc (g_e_shifted_ok N a rLeadingZeros rshifted hr6) (pc (g_e_shifted_ok N b rLeadingZeros rshifted2 hr7) (pc c3 (pc (show 0≤((b.length:Nat):Int) from (Int.natCast_nonneg _)) pn)))) ?_
   refine rnR hE 1 [] [] (kp [8,9,10,11]) (kq [304,352]) 496 pn ?_
   obtain ⟨c4,h⟩:=ifSome h
   refine rnR hE 1 [] [] ([(4,.osl ((List.replicate ((w64 (((rshifted.length:Nat):Int) - (((b.length - 0):Nat):Int))).toNat) 0:List Int).length))] ++ kp [8,9,10,11]) (kq [304,352] ++ [(560,.arr 560 ((List.replicate ((w64 (((rshifted.length:Nat):Int) - (((b.length - 0):Nat):Int))).toNat) 0:List Int).length) (fun zi=>(cU .u16) ((List.replicate ((w64 (((rshifted.length:Nat):Int) - (((b.length - 0):Nat):Int))).toNat) 0:List Int).getD zi 0)))]) 592 (pc (show 0≤(w64 (((rshifted.length:Nat):Int) - (((b.length - 0):Nat):Int))) from c4.1) (pc (show (w64 (((rshifted.length:Nat):Int) - (((b.length - 0):Nat):Int)))≤(w64 (((rshifted.length:Nat):Int) - (((b.length - 0):Nat):Int))) from (Int.le_refl _)) (pc (show (2:Int) * (w64 (((rshifted.length:Nat):Int) - (((b.length - 0):Nat):Int)))≤281474976710656 from c4.2.1) (pc (show (w64 (((rshifted.length:Nat):Int) - (((b.length - 0):Nat):Int)))≤9223372036854775807 from c4.2.2) (pc (show (w64 (((rshifted.length:Nat):Int) - (((b.length - 0):Nat):Int))).toNat=(List.replicate ((w64 (((rshifted.length:Nat):Int) - (((b.length - 0):Nat):Int))).toNat) 0:List Int).length from (List.length_replicate).symm) (pc (show (w64 (((rshifted.length:Nat):Int) - (((b.length - 0):Nat):Int))).toNat=(List.replicate ((w64 (((rshifted.length:Nat):Int) - (((b.length - 0):Nat):Int))).toNat) 0:List Int).length from (List.length_replicate).symm) (pc (show ∀ zi,zi < (List.replicate ((w64 (((rshifted.length:Nat):Int) - (((b.length - 0):Nat):Int))).toNat) 0:List Int).length→(fun zi=>(cU .u16) ((List.replicate ((w64 (((rshifted.length:Nat):Int) - (((b.length - 0):Nat):Int))).toNat) 0:List Int).getD zi 0)) zi=(fun _=>[(a16 0)]) zi from (fun zq hzq=>get_rep (cU .u16) 0 0 ((w64 (((rshifted.length:Nat):Int) - (((b.length - 0):Nat):Int))).toNat) zq hzq)) pn))))))) ?_
   refine rnR hE 2 [] [] (kp [4,8,9,10,11,12]) (kq [304,352,560]) 688 pn ?_
   exact rnW hE 2 [] (kp [4,8,9,10,11,12]) [(0,.keep 560),(1,.keep 304),(2,.keep 352)] 3 pn (g_e_divide_L1_ok N _ _ _ N _ _ _ _ h E hE)
noncomputable def C_21 (n:Nat):Code:=cat (bodyOf Tryz.f153) (pth n)
def g_e_common_L1_H (N:Nat) (K:(List Int)→(List Int)→Option ((List Int))):Prop:=∀ (a2:List Int) (b2:List Int) (r:(List Int)),K a2 b2=some r→∀ E,EnvOk E 0→Runs Tryz.prog E 153 45 (SPost E [] (eU r)) [.code (C_21 24),.inLoop (C_21 24),.inBlock 0,.code (C_21 7)] ⟨[(0,(eU a2)),(1,(eU b2))],[],0⟩
def g_e_common_L2_H (N:Nat) (K:Int→Int→Option ((List Int))):Prop:=∀ (x:Int) (y:Int) (r:(List Int)),K x y=some r→∀ E,EnvOk E 0→Runs Tryz.prog E 153 45 (SPost E [] (eU r)) [.code (C_21 25296),.inLoop (C_21 25296),.inBlock 2,.code (C_21 6325),.code (C_21 791),.inBlock 1,.inLoop (C_21 24),.inBlock 0,.code (C_21 7)] ⟨[(5,(a64 x)),(7,(a64 y))],[],0⟩
theorem g_e_common_L2_ok (N:Nat) (K_g_e_common_L1:(List Int)→(List Int)→Option ((List Int))) (hK_g_e_common_L1:g_e_common_L1_H N K_g_e_common_L1) (fuel:Nat):g_e_common_L2_H N (g_e_common_L2 N K_g_e_common_L1 fuel):=by
 induction fuel with
 | zero=>intro _ _ r h;rw [g_e_common_L2.eq_1] at h;cases h
 | succ fuel ih =>
  intro x y r h E hE
  rw [g_e_common_L2.eq_2] at h
  refine rnR hE 2 [] [] (kp [5,7,29]) [] 32 pn ?_
  refine rnC 0 29 h (fun hq4 h=>?_) (fun hq4 h=>?_)
  ·obtain ⟨c,h⟩:=ifSome h
   refine rnR hE 2 [] [] (kp [5,7]) [] 128 (pc c pn) ?_
   exact rnW hE 2 [] (kp [5,7]) [] 0 pn (ih _ _ _ h E hE)
  ·obtain ⟨rnatural,hr3,h⟩:=bsm h
   refine rnR hE 2 [(1,⟨[],true,(eU rnatural),[],0,false,none⟩)] [] (kp [4]) [] 80 (pc (g_e_natural_ok N x rnatural hr3) pn) ?_
   obtain rfl:=osI h
   exact rnT hE 0 Tryz.f153 [] (kp [4]) [] 80 pn [] pn
theorem g_e_common_L1_ok (N:Nat) (fuel:Nat):g_e_common_L1_H N (g_e_common_L1 N fuel):=by
 induction fuel with
 | zero=>intro _ _ r h;rw [g_e_common_L1.eq_1] at h;cases h
 | succ fuel ih =>
  intro a2 b2 r h E hE
  rw [g_e_common_L1.eq_2] at h
  refine rnR hE 2 [] [] (kp [0,1,13]) [] 48 pn ?_
  refine rnC 0 13 h (fun hq2 h=>?_) (fun hq2 h=>?_)
  ·obtain ⟨rword,hr,h⟩:=bsm h
   refine rnR hE 3 [(1,⟨[],true,(.tup [(a64 rword.1),(aB rword.2)]),[],0,false,none⟩)] [] (kp [0,1,5,6]) [] 160 (pc (g_e_word_ok N a2 rword hr) pn) ?_
   obtain ⟨rword2,hr2,h⟩:=bsm h
   refine rnR hE 1 [(1,⟨[],true,(.tup [(a64 rword2.1),(aB rword2.2)]),[],0,false,none⟩)] [] (kp [0,1,5,6,7,8]) [] 272 (pc (g_e_word_ok N b2 rword2 hr2) pn) ?_
   refine rnR hE 2 [] [] (kp [0,1,5,7,27]) [] 336 (pc (fun hq:rword.2=true=>(pc hq pn)) pn) ?_
   refine rnC 0 27 h (fun hq3 h=>?_) (fun hq3 h=>?_)
   ·exact rnW hE 3 [] (kp [5,7]) [] 0 pn (g_e_common_L2_ok N _ ih N _ _ _ h E hE)
   ·obtain ⟨rdivide,hr4,h⟩:=bsm h
    refine rnR hE 2 [(2,⟨[],true,(.tup [(eU rdivide.1),(eU rdivide.2)]),[],0,false,none⟩)] [] (kp [1,10]) [] 464 (pc (g_e_divide_ok N a2 b2 rdivide hr4) pn) ?_
    refine rnR hE 0 [] [] (kp [0,1]) [] 528 pn ?_
    exact rnW hE 2 [] (kp [0,1]) [] 0 pn (ih _ _ _ h E hE)
  ·refine rnR hE 2 [] [] (kp [4]) [] 80 pn ?_
   obtain rfl:=osI h
   exact rnT hE 0 Tryz.f153 [] (kp [4]) [] 80 pn [] pn
theorem g_e_common_ok (N:Nat) (a:List Int) (b:List Int) (r:(List Int)) (h:g_e_common N a b=some r):Sd 153 [(eU a),(eU b)] [] 0 (eU r) []:=by
 unfold g_e_common at h
 refine sor (fu:=Tryz.f153) (c:=C_21 1) (nt:=45) (by kernel_rfl) (by kernel_rfl) (by kernel_rfl) (by kernel_rfl) (fun hm=>rfl) ?_
 intro E hE
 refine rnR hE 1 [] [] (kp [0,1]) [] 16 pn ?_
 exact rnW hE 3 [] (kp [0,1]) [] 0 pn (g_e_common_L1_ok N N _ _ _ h E hE)
noncomputable def C_20 (n:Nat):Code:=cat (bodyOf Tryz.f131) (pth n)
def g_e_fraction_J1_H (N:Nat) (a:TInt) (b:TInt) (K:(List Int)→(List Int)→Option (TRat)):Prop:=∀ (x:List Int) (y:List Int) (r:TRat),K x y=some r→∀ E,EnvOk E 0→Runs Tryz.prog E 131 48 (SPost E [(0,aU r.fN.fL),(1,aU r.fD.fL)] (.agg [(aB r.fN.fG),(.os 0 0 r.fN.fL.length),(aB r.fD.fG),(.os 1 0 r.fD.fL.length)])) [.code (C_20 62),.code (C_20 63)] ⟨[(2,(.op 0 0 0)),(3,(.op 1 0 0)),(4,(.op 2 0 0)),(5,(eU x)),(6,(eU y))],[(0,vO 2 (TIc a)),(1,vO 2 (TIc b)),(2,vO 4 [(aB false),.nil,(aB false),.nil])],3⟩
theorem g_e_fraction_J1_ok (N:Nat) (a:TInt) (b:TInt):g_e_fraction_J1_H N a b (g_e_fraction_J1 N a b):=by
 intro x y r h E hE
 unfold g_e_fraction_J1 at h
 obtain ⟨rSg,hr6,h⟩:=bsm h
 obtain ⟨rSg2,hr7,h⟩:=bsm h
 refine rnR hE 0 [(6,⟨[],false,(.agg [(aB rSg.fG),(.os 0 0 rSg.fL.length)]),[(0,aU rSg.fL)],0,false,none⟩),(8,⟨[],false,(.agg [(aB rSg2.fG),(.os 0 0 rSg2.fL.length)]),[(0,aU rSg2.fL)],0,false,none⟩)] [] (kp [4]) (kq [2,99,131]) 179 (pc o1 (pc o1 (pc (g_e_signed_ok N (!(a.fG == b.fG)) x rSg hr6) (pc (g_e_signed_ok N false y rSg2 hr7) (pc o1 pn))))) ?_
 obtain rfl:=osI h
 exact rnT hE 0 Tryz.f131 [] (kp [4]) [(0,.keep 99),(1,.keep 131),(16,.var 2 [.keep,.keep,.keep,.keep])] 179 pn [16] (pc o1 pn)
theorem g_e_fraction_ok (N:Nat) (a:TInt) (b:TInt) (r:TRat) (h:g_e_fraction N a b=some r):Sd 131 [(.agg (TIc a)),(.agg (TIc b))] [] 0 (.agg [(aB r.fN.fG),(.os 0 0 r.fN.fL.length),(aB r.fD.fG),(.os 1 0 r.fD.fL.length)]) [(0,aU r.fN.fL),(1,aU r.fD.fL)]:=by
 unfold g_e_fraction at h
 refine sor (fu:=Tryz.f131) (c:=C_20 1) (nt:=48) (by kernel_rfl) (by kernel_rfl) (by kernel_rfl) (by kernel_rfl) (fun hm=>rfl) ?_
 intro E hE
 refine rnR hE 1 [] [] (kp [2,3,4]) (kq [0,16,32]) 48 pn ?_
 obtain ⟨rtrim,hr,h⟩:=bsm h
 obtain ⟨rtrim2,hr2,h⟩:=bsm h
 refine rnR hE 1 [(2,⟨[],true,(eU rtrim),[],0,false,none⟩),(5,⟨[],true,(eU rtrim2),[],0,false,none⟩)] [] (kp [2,3,4,5,6]) (kq [0,16,32]) 176 (pc o1 (pc (g_e_trim_ok N a.fL rtrim hr) (pc o1 (pc (g_e_trim_ok N b.fL rtrim2 hr2) pn)))) ?_
 obtain ⟨rcommon,hr3,h⟩:=bsm h
 refine rnR hE 1 [(2,⟨[],true,(eU rcommon),[],0,false,none⟩)] [] (kp [2,3,4,5,6,7]) (kq [0,16,32]) 240 (pc (g_e_common_ok N rtrim rtrim2 rcommon hr3) pn) ?_
 obtain ⟨c,h⟩:=ifSome h
 refine rnR hE 2 [] [] (kp [2,3,4,5,6,7,25]) (kq [0,16,32]) 384 (pc (fun hg:(!(((rcommon.length:Nat):Int) != 1))=true=>(pc hg (pc (c hg) pn))) (pc (fun hg:(!(((rcommon.length:Nat):Int) != 1))=true=>(pc hg pn)) (pc (fun hg:(!(((rcommon.length:Nat):Int) != 1))=true=>(pc hg pn)) (pc (fun hq:(!(((rcommon.length:Nat):Int) != 1))=true=>(pc hq pn)) pn)))) ?_
 refine rnC 0 25 h (fun hq2 h=>?_) (fun hq2 h=>?_)
 ·obtain ⟨rdivide,hr4,h⟩:=bsm h
  refine rnR hE 1 [(2,⟨[],true,(.tup [(eU rdivide.1),(eU rdivide.2)]),[],0,false,none⟩)] [] (kp [2,3,4,5,6,7]) (kq [0,16,32]) 496 (pc (g_e_divide_ok N rtrim rcommon rdivide hr4) pn) ?_
  obtain ⟨rdivide2,hr5,h⟩:=bsm h
  refine rnR hE 0 [(2,⟨[],true,(.tup [(eU rdivide2.1),(eU rdivide2.2)]),[],0,false,none⟩)] [] (kp [2,3,4,5,6]) (kq [0,16,32]) 608 (pc (g_e_divide_ok N rtrim2 rcommon rdivide2 hr5) pn) ?_
  exact rnW hE 1 [] (kp [2,3,4,5,6]) (kq [0] ++ [(1,.keep 16),(2,.keep 32)]) 3 pn (g_e_fraction_J1_ok N _ _ _ _ _ h E hE)
 ·exact rnW hE 2 [] (kp [2,3,4,5,6]) (kq [0] ++ [(1,.keep 16),(2,.keep 32)]) 3 pn (g_e_fraction_J1_ok N _ _ _ _ _ h E hE)
noncomputable def C_19 (n:Nat):Code:=cat (bodyOf Tryz.f112) (pth n)
theorem g_e_Whole_ok (N:Nat) (a:TInt) (r:TRat) (h:g_e_Whole N a=some r):Sd 112 [(.agg (TIc a))] [] 0 (.agg [(aB r.fN.fG),(.os 0 0 r.fN.fL.length),(aB r.fD.fG),(.os 1 0 r.fD.fL.length)]) [(0,aU r.fN.fL),(1,aU r.fD.fL)]:=by
 unfold g_e_Whole at h
 refine sor (fu:=Tryz.f112) (c:=C_19 1) (nt:=7) (by kernel_rfl) (by kernel_rfl) (by kernel_rfl) (by kernel_rfl) (fun hm=>rfl) ?_
 intro E hE
 refine rnR hE 1 [] [] (kp [1,2]) (kq [0,16]) 32 pn ?_
 obtain ⟨rFr,hr,h⟩:=bsm h
 refine rnR hE 1 [(3,⟨[],false,(.agg [(aB rFr.fN.fG),(.os 0 0 rFr.fN.fL.length),(aB rFr.fD.fG),(.os 1 0 rFr.fD.fL.length)]),[(0,aU rFr.fN.fL),(1,aU rFr.fD.fL)],0,false,none⟩)] [] (kp [2]) (kq [16,80,81]) 112 (pc o1 (pc (show Sd 131 [(.agg (TIc a)),(.agg [(aB false),(.sl 1 (fun zi=>(fun zi=>([[(a16 1)]]:List (List AV)).getD zi []) (addz 0 zi)))])] [] 0 (.agg [(aB rFr.fN.fG),(.os 0 0 rFr.fN.fL.length),(aB rFr.fD.fG),(.os 1 0 rFr.fD.fL.length)]) [(0,aU rFr.fN.fL),(1,aU rFr.fD.fL)] from (Sound.conv (g_e_fraction_ok N a (⟨false,([1]:List Int)⟩:TInt) rFr hr) (.cons (Alike.refl _) (.cons (Alike.agg (.cons (Alike.refl _) (.cons (Alike.sl rfl (fun zq hzq=>get_chunk (cU .u16) 0 ([1]:List Int) zq hzq)) .nil))) .nil)))) (pc (show ∀ zi,zi < rFr.fN.fL.length→AV.flatL ((cU .u16) (rFr.fN.fL.getD zi 0))=true from (fun _ _=>rfl)) (pc (show ∀ zi,zi < rFr.fD.fL.length→AV.flatL ((cU .u16) (rFr.fD.fL.getD zi 0))=true from (fun _ _=>rfl)) (pc (z1 1) (pc o1 pn)))))) ?_
 obtain rfl:=osI h
 exact rnT hE 0 Tryz.f112 [] (kp [2]) [(0,.keep 80),(1,.keep 81),(16,.var 16 [.keep,.keep,.keep,.keep])] 112 pn [16] (pc o1 pn)
noncomputable def C_32 (n:Nat):Code:=cat (bodyOf Tryz.f158) (pth n)
def g_e_times_L1_H (N:Nat) (a:List Int) (b:List Int) (K:(List Int)→Int→Option ((List Int))):Prop:=∀ (out:List Int) (x:Int) (r:(List Int)),K out x=some r→∀ E,EnvOk E 0→Runs Tryz.prog E 158 67 (SPost E [] (eU r)) [.code (C_32 116),.inLoop (C_32 116),.inBlock 0,.code (C_32 15)] ⟨[(1,(eU b)),(5,(.os 0 0 out.length)),(17,(eU a)),(18,(aI ((a.length:Nat):Int))),(19,(aI x))],[(0,aU out)],1⟩
def g_e_times_L2_H (N:Nat) (a:List Int) (b:List Int) (x:Int) (K:(List Int)→Int→Int→Option ((List Int))):Prop:=∀ (out2:List Int) (carry:Int) (x2:Int) (r:(List Int)),K out2 carry x2=some r→∀ E,EnvOk E 0→Runs Tryz.prog E 158 67 (SPost E [] (eU r)) [.code (C_32 119604),.inLoop (C_32 119604),.inBlock 2,.code (C_32 14951),.inBlock 1,.code (C_32 935),.inLoop (C_32 116),.inBlock 0,.code (C_32 15)] ⟨[(1,(eU b)),(5,(.os 0 0 out2.length)),(6,(aI x)),(7,(a16 (a.getD ((x).toNat) 0))),(8,(a32 carry)),(17,(eU a)),(18,(aI ((a.length:Nat):Int))),(19,(aI x)),(24,(eU b)),(25,(aI ((b.length:Nat):Int))),(26,(aI x2))],[(0,aU out2)],1⟩
theorem g_e_times_L2_ok (N:Nat) (a:List Int) (b:List Int) (x:Int) (K_g_e_times_L1:(List Int)→Int→Option ((List Int))) (hK_g_e_times_L1:g_e_times_L1_H N a b K_g_e_times_L1) (fuel:Nat):g_e_times_L2_H N a b x (g_e_times_L2 N a b x K_g_e_times_L1 fuel):=by
 induction fuel with
 | zero=>intro _ _ _ r h;rw [g_e_times_L2.eq_1] at h;cases h
 | succ fuel ih =>
  intro out2 carry x2 r h E hE
  rw [g_e_times_L2.eq_2] at h
  refine rnR hE 1 [] [] (kp [1,5,6,7,8,17,18,19,24,25,26,27]) (kq [0]) 17 pn ?_
  refine rnC 1 27 h (fun hq3 h=>?_) (fun hq3 h=>?_)
  ·obtain ⟨c3,h⟩:=ifSome h
   refine rnR hE 4 [] [] (kp [1,5,6,7,8,9,10,17,18,19,24,25,26]) (kq [0]) 97 (pc c3 pn) ?_
   obtain ⟨c4,h⟩:=ifSome h
   refine rnR hE 1 [] [] (kp [1,5,6,7,8,9,17,18,19,24,25,26]) (kq [0]) 353 (pc c4 (pc (ltOf c4) pn)) ?_
   refine rnR hE 1 [] [] (kp [1] ++ [(5,.osl ((out2.set ((w64 (x+x2)).toNat) (IntKind.u16.wrap ((IntKind.u32.wrap (carry+(IntKind.u32.wrap ((IntKind.u32.wrap ((IntKind.u32.wrap ((a.getD ((x).toNat) 0))) * (IntKind.u32.wrap ((b.getD ((x2).toNat) 0)))))+(IntKind.u32.wrap ((out2.getD ((w64 (x+x2)).toNat) 0)))))))))).length))] ++ kp [6,7,8,17,18,19,24,25,26]) [(0,.arr 0 ((out2.set ((w64 (x+x2)).toNat) (IntKind.u16.wrap ((IntKind.u32.wrap (carry+(IntKind.u32.wrap ((IntKind.u32.wrap ((IntKind.u32.wrap ((a.getD ((x).toNat) 0))) * (IntKind.u32.wrap ((b.getD ((x2).toNat) 0)))))+(IntKind.u32.wrap ((out2.getD ((w64 (x+x2)).toNat) 0)))))))))).length) (fun zi=>(cU .u16) ((out2.set ((w64 (x+x2)).toNat) (IntKind.u16.wrap ((IntKind.u32.wrap (carry+(IntKind.u32.wrap ((IntKind.u32.wrap ((IntKind.u32.wrap ((a.getD ((x).toNat) 0))) * (IntKind.u32.wrap ((b.getD ((x2).toNat) 0)))))+(IntKind.u32.wrap ((out2.getD ((w64 (x+x2)).toNat) 0)))))))))).getD zi 0)))] 481 (pc c4 (pc (ltOf c4) (pc (len_set0 out2 ((w64 (x+x2)).toNat) (IntKind.u16.wrap ((IntKind.u32.wrap (carry+(IntKind.u32.wrap ((IntKind.u32.wrap ((IntKind.u32.wrap ((a.getD ((x).toNat) 0))) * (IntKind.u32.wrap ((b.getD ((x2).toNat) 0)))))+(IntKind.u32.wrap ((out2.getD ((w64 (x+x2)).toNat) 0)))))))))) (pc (len_set0 out2 ((w64 (x+x2)).toNat) (IntKind.u16.wrap ((IntKind.u32.wrap (carry+(IntKind.u32.wrap ((IntKind.u32.wrap ((IntKind.u32.wrap ((a.getD ((x).toNat) 0))) * (IntKind.u32.wrap ((b.getD ((x2).toNat) 0)))))+(IntKind.u32.wrap ((out2.getD ((w64 (x+x2)).toNat) 0)))))))))) (pc (get_set0 (cU .u16) 0 out2 ((w64 (x+x2)).toNat) (IntKind.u16.wrap ((IntKind.u32.wrap (carry+(IntKind.u32.wrap ((IntKind.u32.wrap ((IntKind.u32.wrap ((a.getD ((x).toNat) 0))) * (IntKind.u32.wrap ((b.getD ((x2).toNat) 0)))))+(IntKind.u32.wrap ((out2.getD ((w64 (x+x2)).toNat) 0)))))))))) pn))))) ?_
   refine rnR hE 0 [] [] (kp [1,5,6,7,8,17,18,19,24,25,26]) (kq [0]) 529 (pc (show (0:Int)≤16 by decide) pn) ?_
   refine rnR hE 1 [] [] (kp [1,5,6,7,8,17,18,19,24,25,26]) (kq [0]) 561 pn ?_
   exact rnW hE 1 [] (kp [1,5,6,7,8,17,18,19,24,25,26]) (kq [0]) 1 pn (ih _ _ _ _ h E hE)
  ·obtain ⟨c5,h⟩:=ifSome h
   refine rnR hE 1 [] [] (kp [1] ++ [(5,.osl ((out2.set ((w64 (x+((b.length:Nat):Int))).toNat) (IntKind.u16.wrap (carry))).length))] ++ kp [17,18,19]) [(0,.arr 0 ((out2.set ((w64 (x+((b.length:Nat):Int))).toNat) (IntKind.u16.wrap (carry))).length) (fun zi=>(cU .u16) ((out2.set ((w64 (x+((b.length:Nat):Int))).toNat) (IntKind.u16.wrap (carry))).getD zi 0)))] 161 (pc c5 (pc (ltOf c5) (pc (len_set0 out2 ((w64 (x+((b.length:Nat):Int))).toNat) (IntKind.u16.wrap (carry))) (pc (len_set0 out2 ((w64 (x+((b.length:Nat):Int))).toNat) (IntKind.u16.wrap (carry))) (pc (get_set0 (cU .u16) 0 out2 ((w64 (x+((b.length:Nat):Int))).toNat) (IntKind.u16.wrap (carry))) pn))))) ?_
   refine rnR hE 1 [] [] (kp [1,5,17,18,19]) (kq [0]) 193 pn ?_
   exact rnW hE 1 [] (kp [1,5,17,18,19]) (kq [0]) 1 pn (hK_g_e_times_L1 _ _ _ h E hE)
theorem g_e_times_L1_ok (N:Nat) (a:List Int) (b:List Int) (fuel:Nat):g_e_times_L1_H N a b (g_e_times_L1 N a b fuel):=by
 induction fuel with
 | zero=>intro _ _ r h;rw [g_e_times_L1.eq_1] at h;cases h
 | succ fuel ih =>
  intro out x r h E hE
  rw [g_e_times_L1.eq_2] at h
  refine rnR hE 1 [] [] (kp [1,5,17,18,19,20]) (kq [0]) 17 pn ?_
  refine rnC 1 20 h (fun hq2 h=>?_) (fun hq2 h=>?_)
  ·obtain ⟨c2,h⟩:=ifSome h
   refine rnR hE 4 [] [] (kp [1,5,6,7,17,18,19]) (kq [0]) 97 (pc c2 pn) ?_
   refine rnR hE 1 [] [] (kp [1,5,6,7,8,17,18,19]) (kq [0]) 113 pn ?_
   refine rnR hE 2 [] [] (kp [1,5,6,7,8,17,18,19,24,25,26]) (kq [0]) 161 pn ?_
   exact rnW hE 2 [] (kp [1,5,6,7,8,17,18,19,24,25,26]) (kq [0]) 1 pn (g_e_times_L2_ok N _ _ _ _ ih N _ _ _ _ h E hE)
  ·obtain ⟨rtrim,hr,h⟩:=bsm h
   refine rnR hE 2 [(1,⟨[],true,(eU rtrim),[],0,true,none⟩)] [] (kp [4]) [] 65 (pc (g_e_trim_ok N out rtrim hr) (pc (z1 out.length) pn)) ?_
   obtain rfl:=osI h
   exact rnT hE 0 Tryz.f158 [] (kp [4]) [] 65 pn [] pn
theorem g_e_times_ok (N:Nat) (a:List Int) (b:List Int) (r:(List Int)) (h:g_e_times N a b=some r):Sd 158 [(eU a),(eU b)] [] 0 (eU r) []:=by
 unfold g_e_times at h
 refine sor (fu:=Tryz.f158) (c:=C_32 1) (nt:=67) (by kernel_rfl) (by kernel_rfl) (by kernel_rfl) (by kernel_rfl) (fun hm=>rfl) ?_
 intro E hE
 refine rnR hE 1 [] [] (kp [0,1]) [] 16 pn ?_
 obtain ⟨c,h⟩:=ifSome h
 refine rnR hE 1 [] [] (kp [0,1] ++ [(5,.osl ((List.replicate ((w64 (((a.length:Nat):Int)+((b.length:Nat):Int))).toNat) 0:List Int).length))]) [(96,.arr 96 ((List.replicate ((w64 (((a.length:Nat):Int)+((b.length:Nat):Int))).toNat) 0:List Int).length) (fun zi=>(cU .u16) ((List.replicate ((w64 (((a.length:Nat):Int)+((b.length:Nat):Int))).toNat) 0:List Int).getD zi 0)))] 128 (pc (show 0≤(w64 (((a.length:Nat):Int)+((b.length:Nat):Int))) from c.1) (pc (show (w64 (((a.length:Nat):Int)+((b.length:Nat):Int)))≤(w64 (((a.length:Nat):Int)+((b.length:Nat):Int))) from (Int.le_refl _)) (pc (show (2:Int) * (w64 (((a.length:Nat):Int)+((b.length:Nat):Int)))≤281474976710656 from c.2.1) (pc (show (w64 (((a.length:Nat):Int)+((b.length:Nat):Int)))≤9223372036854775807 from c.2.2) (pc (show (w64 (((a.length:Nat):Int)+((b.length:Nat):Int))).toNat=(List.replicate ((w64 (((a.length:Nat):Int)+((b.length:Nat):Int))).toNat) 0:List Int).length from (List.length_replicate).symm) (pc (show (w64 (((a.length:Nat):Int)+((b.length:Nat):Int))).toNat=(List.replicate ((w64 (((a.length:Nat):Int)+((b.length:Nat):Int))).toNat) 0:List Int).length from (List.length_replicate).symm) (pc (show ∀ zi,zi < (List.replicate ((w64 (((a.length:Nat):Int)+((b.length:Nat):Int))).toNat) 0:List Int).length→(fun zi=>(cU .u16) ((List.replicate ((w64 (((a.length:Nat):Int)+((b.length:Nat):Int))).toNat) 0:List Int).getD zi 0)) zi=(fun _=>[(a16 0)]) zi from (fun zq hzq=>get_rep (cU .u16) 0 0 ((w64 (((a.length:Nat):Int)+((b.length:Nat):Int))).toNat) zq hzq)) pn))))))) ?_
 refine rnR hE 2 [] [] (kp [1,5,17,18,19]) (kq [96]) 176 pn ?_
 exact rnW hE 2 [] (kp [1,5,17,18,19]) [(0,.keep 96)] 1 pn (g_e_times_L1_ok N _ _ N _ _ _ h E hE)
noncomputable def C_31 (n:Nat):Code:=cat (bodyOf Tryz.f138) (pth n)
theorem g_e_Mul_ok (N:Nat) (a:TInt) (b:TInt) (r:TInt) (h:g_e_Mul N a b=some r):Sd 138 [(.agg (TIc a)),(.agg (TIc b))] [] 0 (.agg (TIc r)) []:=by
 unfold g_e_Mul at h
 refine sor (fu:=Tryz.f138) (c:=C_31 1) (nt:=18) (by kernel_rfl) (by kernel_rfl) (by kernel_rfl) (by kernel_rfl) (fun hm=>rfl) ?_
 intro E hE
 refine rnR hE 1 [] [] (kp [2,3,4]) (kq [0,16,32]) 48 pn ?_
 obtain ⟨rtrim,hr,h⟩:=bsm h
 obtain ⟨rtrim2,hr2,h⟩:=bsm h
 obtain ⟨rtimes,hr3,h⟩:=bsm h
 obtain ⟨rSg,hr4,h⟩:=bsm h
 refine rnR hE 1 [(7,⟨[],true,(eU rtrim),[],0,false,none⟩),(10,⟨[],true,(eU rtrim2),[],0,false,none⟩),(11,⟨[],true,(eU rtimes),[],0,false,none⟩),(12,⟨[],false,(.agg [(aB rSg.fG),(.os 0 0 rSg.fL.length)]),[(0,aU rSg.fL)],0,false,none⟩)] [] (kp [4]) (kq [32,240]) 272 (pc o1 (pc o1 (pc o1 (pc (g_e_trim_ok N a.fL rtrim hr) (pc o1 (pc (g_e_trim_ok N b.fL rtrim2 hr2) (pc (g_e_times_ok N rtrim rtrim2 rtimes hr3) (pc (g_e_signed_ok N (!(a.fG == b.fG)) rtimes rSg hr4) (pc o1 pn))))))))) ?_
 obtain rfl:=osI h
 exact rnT hE 0 Tryz.f138 [240] (kp [4]) [(16,.var 32 [.keep,.sl (rSg.fL.length) (fun zi=>(cU .u16) (rSg.fL.getD zi 0))])] 272 (pc (Eq.refl rSg.fL.length) (pc (z1 rSg.fL.length) (pc (show ∀ zi,zi < rSg.fL.length→(fun zi=>(cU .u16) (rSg.fL.getD zi 0)) zi=(fun zi=>(cU .u16) (rSg.fL.getD zi 0)) (addz 0 zi) from (fun _ _=>rfl)) pn))) [16] (pc o1 pn)
noncomputable def C_34 (n:Nat):Code:=cat (bodyOf Tryz.f108) (pth n)
theorem g_e_sign_ok (N:Nat) (a:TInt) (r:Int) (h:g_e_sign N a=some r):Sd 108 [(.agg (TIc a))] [] 0 (aI r) []:=by
 unfold g_e_sign at h
 refine sor (fu:=Tryz.f108) (c:=C_34 1) (nt:=12) (by kernel_rfl) (by kernel_rfl) (by kernel_rfl) (by kernel_rfl) (fun hm=>rfl) ?_
 intro E hE
 refine rnR hE 1 [] [] (kp [1]) (kq [0]) 32 pn ?_
 obtain ⟨rtrim,hr,h⟩:=bsm h
 refine rnR hE 3 [(2,⟨[],true,(eU rtrim),[],0,false,none⟩)] [] (kp [1,3]) (kq [0]) 128 (pc o1 (pc (g_e_trim_ok N a.fL rtrim hr) pn)) ?_
 refine rnC 0 3 h (fun hq2 h=>?_) (fun hq2 h=>?_)
 ·refine rnR hE 1 [] [] (kp [2]) [] 144 pn ?_
  obtain rfl:=osI h
  exact rnT hE 0 Tryz.f108 [] (kp [2]) [] 144 pn [] pn
 ·refine rnR hE 1 [] [] (kp [9]) [] 176 (pc o1 pn) ?_
  refine rnC 0 9 h (fun hq3 h=>?_) (fun hq3 h=>?_)
  ·refine rnR hE 1 [] [] (kp [2]) [] 192 pn ?_
   obtain rfl:=osI h
   exact rnT hE 0 Tryz.f108 [] (kp [2]) [] 192 pn [] pn
  ·refine rnR hE 3 [] [] (kp [2]) [] 192 pn ?_
   obtain rfl:=osI h
   exact rnT hE 0 Tryz.f108 [] (kp [2]) [] 192 pn [] pn
noncomputable def C_33 (n:Nat):Code:=cat (bodyOf Tryz.f109) (pth n)
theorem g_e_below_ok (N:Nat) (x:TRat) (r:TInt) (h:g_e_below N x=some r):Sd 109 [(.agg (TRc x))] [] 0 (.agg (TIc r)) []:=by
 unfold g_e_below at h
 refine sor (fu:=Tryz.f109) (c:=C_33 1) (nt:=11) (by kernel_rfl) (by kernel_rfl) (by kernel_rfl) (by kernel_rfl) (fun hm=>rfl) ?_
 intro E hE
 refine rnR hE 1 [] [] (kp [1,2]) (kq [0,16]) 32 pn ?_
 obtain ⟨rsign,hr,h⟩:=bsm h
 refine rnR hE 2 [(2,⟨[],true,(aI rsign),[],0,false,none⟩)] [] (kp [1,2,6]) (kq [0,16]) 96 (pc o1 (pc (g_e_sign_ok N x.fD rsign hr) pn)) ?_
 refine rnC 0 6 h (fun hq2 h=>?_) (fun hq2 h=>?_)
 ·refine rnR hE 1 [] [] (kp [2]) [(16,.var 16 [.keep,.osl (([1]:List Int).length)]),(96,.arr 96 (([1]:List Int).length) (fun zi=>(cU .u16) (([1]:List Int).getD zi 0)))] 144 (pc o1 (pc (Eq.refl 1) (pc (Eq.refl 1) (pc (show ∀ zi,zi < ([1]:List Int).length→(fun zi=>(cU .u16) (([1]:List Int).getD zi 0)) zi=(fun zi=>([[(a16 1)]]:List (List AV)).getD zi []) zi from (fun zq hzq=>get_chunk (cU .u16) 0 ([1]:List Int) zq hzq)) pn)))) ?_
  obtain rfl:=osI h
  exact rnT hE 0 Tryz.f109 [96] (kp [2]) [(16,.var 16 [.keep,.sl (([1]:List Int).length) (fun zi=>(cU .u16) (([1]:List Int).getD zi 0))])] 144 (pc (Eq.refl (([1]:List Int).length)) (pc (z1 (([1]:List Int).length)) (pc (show ∀ zi,zi < ([1]:List Int).length→(fun zi=>(cU .u16) (([1]:List Int).getD zi 0)) zi=(fun zi=>(cU .u16) (([1]:List Int).getD zi 0)) (addz 0 zi) from (fun _ _=>rfl)) pn))) [16] (pc o1 pn)
 ·refine rnR hE 2 [] [] (kp [2]) (kq [16]) 144 (pc o1 (pc o1 pn)) ?_
  obtain rfl:=osI h
  exact rnT hE 0 Tryz.f109 [] (kp [2]) (kq [16]) 144 pn [16] (pc o1 pn)
noncomputable def C_30 (n:Nat):Code:=cat (bodyOf Tryz.f107) (pth n)
theorem g_e_MulRat_ok (N:Nat) (x:TRat) (y:TRat) (r:TRat) (h:g_e_MulRat N x y=some r):Sd 107 [(.agg (TRc x)),(.agg (TRc y))] [] 0 (.agg [(aB r.fN.fG),(.os 0 0 r.fN.fL.length),(aB r.fD.fG),(.os 1 0 r.fD.fL.length)]) [(0,aU r.fN.fL),(1,aU r.fD.fL)]:=by
 unfold g_e_MulRat at h
 refine sor (fu:=Tryz.f107) (c:=C_30 1) (nt:=16) (by kernel_rfl) (by kernel_rfl) (by kernel_rfl) (by kernel_rfl) (fun hm=>rfl) ?_
 intro E hE
 refine rnR hE 1 [] [] (kp [2,3,4]) (kq [0,16,32]) 48 pn ?_
 obtain ⟨rMul,hr,h⟩:=bsm h
 obtain ⟨rbelow,hr2,h⟩:=bsm h
 obtain ⟨rbelow2,hr3,h⟩:=bsm h
 obtain ⟨rMul2,hr4,h⟩:=bsm h
 obtain ⟨rFr,hr5,h⟩:=bsm h
 refine rnR hE 1 [(4,⟨[],true,(.agg (TIc rMul)),[],0,false,none⟩),(6,⟨[],true,(.agg (TIc rbelow)),[],0,false,none⟩),(8,⟨[],true,(.agg (TIc rbelow2)),[],0,false,none⟩),(9,⟨[],true,(.agg (TIc rMul2)),[],0,false,none⟩),(10,⟨[],false,(.agg [(aB rFr.fN.fG),(.os 0 0 rFr.fN.fL.length),(aB rFr.fD.fG),(.os 1 0 rFr.fD.fL.length)]),[(0,aU rFr.fN.fL),(1,aU rFr.fD.fL)],0,false,none⟩)] [] (kp [4]) (kq [32,208,209]) 240 (pc o1 (pc o1 (pc (g_e_Mul_ok N x.fN y.fN rMul hr) (pc o1 (pc (g_e_below_ok N x rbelow hr2) (pc o1 (pc (g_e_below_ok N y rbelow2 hr3) (pc (g_e_Mul_ok N rbelow rbelow2 rMul2 hr4) (pc (g_e_fraction_ok N rMul rMul2 rFr hr5) (pc o1 pn)))))))))) ?_
 obtain rfl:=osI h
 exact rnT hE 0 Tryz.f107 [] (kp [4]) [(0,.keep 208),(1,.keep 209),(16,.var 32 [.keep,.keep,.keep,.keep])] 240 pn [16] (pc o1 pn)
noncomputable def C_13 (n:Nat):Code:=cat (bodyOf Tryz.f63) (pth n)
def g_w_product_L1_H (N:Nat) (l:List Int) (K:Bool→(List Int)→Bool→(List Int)→Int→Option (TRat)):Prop:=∀ (out:Bool) (out2:List Int) (out3:Bool) (out4:List Int) (x:Int) (r:TRat),K out out2 out3 out4 x=some r→∀ E,EnvOk E 0→Runs Tryz.prog E 63 21 (SPost E [(0,aU r.fN.fL),(1,aU r.fD.fL)] (.agg [(aB r.fN.fG),(.os 0 0 r.fN.fL.length),(aB r.fD.fG),(.os 1 0 r.fD.fL.length)])) [.code (C_13 116),.inLoop (C_13 116),.inBlock 0,.code (C_13 15)] ⟨[(2,(.op 0 0 0)),(3,(.op 1 0 0)),(8,(encL cI 0 l)),(9,(aI ((l.length:Nat):Int))),(10,(aI x))],[(0,vO 4 [(aB false),.nil,(aB false),.nil]),(1,vN 4 [(aB out),(.os 2 0 out2.length),(aB out3),(.os 3 0 out4.length)]),(2,aU out2),(3,aU out4)],4⟩
theorem g_w_product_L1_ok (N:Nat) (l:List Int) (fuel:Nat):g_w_product_L1_H N l (g_w_product_L1 N l fuel):=by
 induction fuel with
 | zero=>intro _ _ _ _ _ r h;rw [g_w_product_L1.eq_1] at h;cases h
 | succ fuel ih =>
  intro out out2 out3 out4 x r h E hE
  rw [g_w_product_L1.eq_2] at h
  refine rnR hE 1 [] [] (kp [2,3,8,9,10,11]) (kq [0,1,2,3]) 20 pn ?_
  refine rnC 1 11 h (fun hq2 h=>?_) (fun hq2 h=>?_)
  ·obtain ⟨c,h⟩:=ifSome h
   refine rnR hE 4 [] [] (kp [2,3,5,8,9,10]) (kq [0,1,2,3]) 68 (pc c pn) ?_
   obtain ⟨rOf2,hr3,h⟩:=bsm h
   obtain ⟨rWhole2,hr4,h⟩:=bsm h
   obtain ⟨rMulRat,hr5,h⟩:=bsm h
   refine rnR hE 0 [(2,⟨[],true,(.agg (TIc rOf2)),[],0,false,none⟩),(3,⟨[],false,(.agg [(aB rWhole2.fN.fG),(.os 0 0 rWhole2.fN.fL.length),(aB rWhole2.fD.fG),(.os 1 0 rWhole2.fD.fL.length)]),[(0,aU rWhole2.fN.fL),(1,aU rWhole2.fD.fL)],0,false,none⟩),(4,⟨[],false,(.agg [(aB rMulRat.fN.fG),(.os 0 0 rMulRat.fN.fL.length),(aB rMulRat.fD.fG),(.os 1 0 rMulRat.fD.fL.length)]),[(0,aU rMulRat.fN.fL),(1,aU rMulRat.fD.fL)],0,false,none⟩)] [] (kp [2,3,8,9,10]) (kq [0,1,132,133]) 164 (pc o1 (pc (g_e_Of_ok N (l.getD ((x).toNat) 0) rOf2 hr3) (pc (g_e_Whole_ok N rOf2 rWhole2 hr4) (pc (g_e_MulRat_ok N (⟨(⟨out,out2⟩:TInt),(⟨out3,out4⟩:TInt)⟩:TRat) (⟨rWhole2.fN,rWhole2.fD⟩:TRat) rMulRat hr5) (pc (show ∀ zi,zi < rMulRat.fN.fL.length→AV.flatL ((cU .u16) (rMulRat.fN.fL.getD zi 0))=true from (fun _ _=>rfl)) (pc (show ∀ zi,zi < rMulRat.fD.fL.length→AV.flatL ((cU .u16) (rMulRat.fD.fL.getD zi 0))=true from (fun _ _=>rfl)) (pc (z1 out2.length) (pc (z1 out4.length) (pc (z1 rWhole2.fN.fL.length) (pc (z1 rWhole2.fD.fL.length) (pc o1 pn))))))))))) ?_
   refine rnR hE 1 [] [] (kp [2,3,8,9,10]) (kq [0,1,132,133]) 196 pn ?_
   exact rnW hE 1 [] (kp [2,3,8,9,10]) (kq [0,1] ++ [(2,.keep 132),(3,.keep 133)]) 4 pn (ih _ _ _ _ _ _ h E hE)
  ·refine rnR hE 2 [] [] (kp [2]) (kq [0,2,3]) 52 (pc o1 (pc o1 pn)) ?_
   obtain rfl:=osI h
   exact rnT hE 0 Tryz.f63 [] (kp [2]) [(0,.keep 2),(1,.keep 3),(16,.var 0 [.keep,.keep,.keep,.keep])] 52 pn [16] (pc o1 pn)
theorem g_w_product_ok (N:Nat) (l:List Int) (r:TRat) (h:g_w_product N l=some r):Sd 63 [(encL cI 0 l)] [] 0 (.agg [(aB r.fN.fG),(.os 0 0 r.fN.fL.length),(aB r.fD.fG),(.os 1 0 r.fD.fL.length)]) [(0,aU r.fN.fL),(1,aU r.fD.fL)]:=by
 unfold g_w_product at h
 refine sor (fu:=Tryz.f63) (c:=C_13 1) (nt:=21) (by kernel_rfl) (by kernel_rfl) (by kernel_rfl) (by kernel_rfl) (fun hm=>rfl) ?_
 intro E hE
 refine rnR hE 1 [] [] (kp [0,2]) (kq [0]) 16 pn ?_
 obtain ⟨rOf,hr,h⟩:=bsm h
 obtain ⟨rWhole,hr2,h⟩:=bsm h
 refine rnR hE 1 [(0,⟨[],true,(.agg (TIc rOf)),[],0,false,none⟩),(1,⟨[],false,(.agg [(aB rWhole.fN.fG),(.os 0 0 rWhole.fN.fL.length),(aB rWhole.fD.fG),(.os 1 0 rWhole.fD.fL.length)]),[(0,aU rWhole.fN.fL),(1,aU rWhole.fD.fL)],0,false,none⟩)] [] (kp [0,2,3]) (kq [0,32,33,48]) 80 (pc (g_e_Of_ok N 1 rOf hr) (pc (g_e_Whole_ok N rOf rWhole hr2) (pc o1 pn))) ?_
 refine rnR hE 2 [] [] (kp [2,3,8,9,10]) (kq [0,32,33,48]) 128 pn ?_
 exact rnW hE 2 [] (kp [2,3,8,9,10]) (kq [0] ++ [(1,.keep 48),(2,.keep 32),(3,.keep 33)]) 4 pn (g_w_product_L1_ok N _ N _ _ _ _ _ _ h E hE)
noncomputable def C_37 (n:Nat):Code:=cat (bodyOf Tryz.f60) (pth n)
theorem g_e_isZero_ok (N:Nat) (x:TRat) (r:Bool) (h:g_e_isZero N x=some r):Sd 60 [(.agg (TRc x))] [] 0 (aB r) []:=by
 unfold g_e_isZero at h
 refine sor (fu:=Tryz.f60) (c:=C_37 1) (nt:=7) (by kernel_rfl) (by kernel_rfl) (by kernel_rfl) (by kernel_rfl) (fun hm=>rfl) ?_
 intro E hE
 refine rnR hE 1 [] [] (kp [1]) (kq [0]) 32 pn ?_
 obtain ⟨rsign,hr,h⟩:=bsm h
 refine rnR hE 1 [(2,⟨[],true,(aI rsign),[],0,false,none⟩)] [] (kp [2]) [] 112 (pc o1 (pc (g_e_sign_ok N x.fN rsign hr) pn)) ?_
 obtain rfl:=osI h
 exact rnT hE 0 Tryz.f60 [] (kp [2]) [] 112 pn [] pn
noncomputable def C_38 (n:Nat):Code:=cat (bodyOf Tryz.f133) (pth n)
theorem g_e_over_ok (N:Nat) (x:TRat) (y:TRat) (r:TRat) (h:g_e_over N x y=some r):Sd 133 [(.agg (TRc x)),(.agg (TRc y))] [] 0 (.agg [(aB r.fN.fG),(.os 0 0 r.fN.fL.length),(aB r.fD.fG),(.os 1 0 r.fD.fL.length)]) [(0,aU r.fN.fL),(1,aU r.fD.fL)]:=by
 unfold g_e_over at h
 refine sor (fu:=Tryz.f133) (c:=C_38 1) (nt:=16) (by kernel_rfl) (by kernel_rfl) (by kernel_rfl) (by kernel_rfl) (fun hm=>rfl) ?_
 intro E hE
 refine rnR hE 1 [] [] (kp [2,3,4]) (kq [0,16,32]) 48 pn ?_
 obtain ⟨rbelow,hr,h⟩:=bsm h
 obtain ⟨rMul,hr2,h⟩:=bsm h
 obtain ⟨rbelow2,hr3,h⟩:=bsm h
 obtain ⟨rMul2,hr4,h⟩:=bsm h
 obtain ⟨rFr,hr5,h⟩:=bsm h
 refine rnR hE 1 [(3,⟨[],true,(.agg (TIc rbelow)),[],0,false,none⟩),(4,⟨[],true,(.agg (TIc rMul)),[],0,false,none⟩),(6,⟨[],true,(.agg (TIc rbelow2)),[],0,false,none⟩),(9,⟨[],true,(.agg (TIc rMul2)),[],0,false,none⟩),(10,⟨[],false,(.agg [(aB rFr.fN.fG),(.os 0 0 rFr.fN.fL.length),(aB rFr.fD.fG),(.os 1 0 rFr.fD.fL.length)]),[(0,aU rFr.fN.fL),(1,aU rFr.fD.fL)],0,false,none⟩)] [] (kp [4]) (kq [32,208,209]) 240 (pc o1 (pc o1 (pc (g_e_below_ok N y rbelow hr) (pc (g_e_Mul_ok N x.fN rbelow rMul hr2) (pc o1 (pc (g_e_below_ok N x rbelow2 hr3) (pc o1 (pc (g_e_Mul_ok N rbelow2 y.fN rMul2 hr4) (pc (g_e_fraction_ok N rMul rMul2 rFr hr5) (pc o1 pn)))))))))) ?_
 obtain rfl:=osI h
 exact rnT hE 0 Tryz.f133 [] (kp [4]) [(0,.keep 208),(1,.keep 209),(16,.var 32 [.keep,.keep,.keep,.keep])] 240 pn [16] (pc o1 pn)
noncomputable def C_36 (n:Nat):Code:=cat (bodyOf Tryz.f111) (pth n)
theorem g_e_QuoRat_ok (N:Nat) (x:TRat) (y:TRat) (r:TRat×Int) (h:g_e_QuoRat N x y=some r):Sd 111 [(.agg (TRc x)),(.agg (TRc y))] [] 0 (.tup [(.agg [(aB r.1.fN.fG),(.os 0 0 r.1.fN.fL.length),(aB r.1.fD.fG),(.os 1 0 r.1.fD.fL.length)]),(aI r.2)]) [(0,aU r.1.fN.fL),(1,aU r.1.fD.fL)]:=by
 unfold g_e_QuoRat at h
 refine sor (fu:=Tryz.f111) (c:=C_36 1) (nt:=12) (by kernel_rfl) (by kernel_rfl) (by kernel_rfl) (by kernel_rfl) (fun hm=>rfl) ?_
 intro E hE
 refine rnR hE 1 [] [] (kp [2,3,4]) (kq [0,16,32]) 64 pn ?_
 obtain ⟨risZero,hr,h⟩:=bsm h
 refine rnR hE 2 [(1,⟨[],true,(aB risZero),[],0,false,none⟩)] [] (kp [2,3,4,7]) (kq [0,16,32]) 96 (pc o1 (pc (g_e_isZero_ok N y risZero hr) pn)) ?_
 refine rnC 0 7 h (fun hq2 h=>?_) (fun hq2 h=>?_)
 ·refine rnR hE 1 [] [] (kp [4,5]) (kq [32]) 144 (pc o1 pn) ?_
  obtain rfl:=osI h
  exact rnT hE 0 Tryz.f111 [] (kp [4,5]) [(0,.nil 1 (fun zi=>(cU .u16) (([]:List Int).getD zi 0))),(1,.nil 1 (fun zi=>(cU .u16) (([]:List Int).getD zi 0))),(16,.var 32 [.keep,.nilos 0,.keep,.nilos 1])] 144 pn [16] (pc o1 pn)
 ·obtain ⟨rover,hr2,h⟩:=bsm h
  refine rnR hE 2 [(2,⟨[],false,(.agg [(aB rover.fN.fG),(.os 0 0 rover.fN.fL.length),(aB rover.fD.fG),(.os 1 0 rover.fD.fL.length)]),[(0,aU rover.fN.fL),(1,aU rover.fD.fL)],0,false,none⟩)] [] (kp [4,5]) (kq [32,128,129]) 176 (pc o1 (pc o1 (pc (g_e_over_ok N x y rover hr2) (pc o1 pn)))) ?_
  obtain rfl:=osI h
  exact rnT hE 0 Tryz.f111 [] (kp [4,5]) [(0,.keep 128),(1,.keep 129),(16,.var 32 [.keep,.keep,.keep,.keep])] 176 pn [16] (pc o1 pn)
noncomputable def C_35 (n:Nat):Code:=cat (bodyOf Tryz.f62) (pth n)
theorem g_w_quotient_ok (N:Nat) (x:TRat) (y:TRat) (r:TRat) (h:g_w_quotient N x y=some r):Sd 62 [(.agg (TRc x)),(.agg (TRc y))] [] 0 (.agg [(aB r.fN.fG),(.os 0 0 r.fN.fL.length),(aB r.fD.fG),(.os 1 0 r.fD.fL.length)]) [(0,aU r.fN.fL),(1,aU r.fD.fL)]:=by
 unfold g_w_quotient at h
 refine sor (fu:=Tryz.f62) (c:=C_35 1) (nt:=14) (by kernel_rfl) (by kernel_rfl) (by kernel_rfl) (by kernel_rfl) (fun hm=>rfl) ?_
 intro E hE
 refine rnR hE 1 [] [] (kp [2,3,4]) (kq [0,16,32]) 48 pn ?_
 obtain ⟨rQuoRat,hr,h⟩:=bsm h
 refine rnR hE 1 [(2,⟨[],false,(.tup [(.agg [(aB rQuoRat.1.fN.fG),(.os 0 0 rQuoRat.1.fN.fL.length),(aB rQuoRat.1.fD.fG),(.os 1 0 rQuoRat.1.fD.fL.length)]),(aI rQuoRat.2)]),[(0,aU rQuoRat.1.fN.fL),(1,aU rQuoRat.1.fD.fL)],0,false,none⟩)] [] (kp [4,5]) (kq [32,80,81,144]) 192 (pc o1 (pc o1 (pc (g_e_QuoRat_ok N x y rQuoRat hr) (pc o1 pn)))) ?_
 refine rnR hE 1 [] [] (kp [4]) (kq [32,80,81]) 224 (pc o1 (pc o1 pn)) ?_
 obtain rfl:=osI h
 exact rnT hE 0 Tryz.f62 [] (kp [4]) [(0,.keep 80),(1,.keep 81),(16,.var 32 [.keep,.keep,.keep,.keep])] 224 pn [16] (pc o1 pn)
noncomputable def C_41 (n:Nat):Code:=cat (bodyOf Tryz.f132) (pth n)
theorem g_e_opposite_ok (N:Nat) (a:TInt) (r:TInt) (h:g_e_opposite N a=some r):Sd 132 [(.agg (TIc a))] [] 0 (.agg (TIc r)) []:=by
 unfold g_e_opposite at h
 refine sor (fu:=Tryz.f132) (c:=C_41 1) (nt:=9) (by kernel_rfl) (by kernel_rfl) (by kernel_rfl) (by kernel_rfl) (fun hm=>rfl) ?_
 intro E hE
 refine rnR hE 1 [] [] (kp [1,2]) (kq [0,16]) 32 pn ?_
 refine rnR hE 1 [] [] (kp [2]) (kq [16]) 144 (pc o1 (pc o1 (pc o1 pn))) ?_
 obtain rfl:=osI h
 exact rnT hE 0 Tryz.f132 [] (kp [2]) (kq [16]) 144 pn [16] (pc o1 pn)
noncomputable def C_40 (n:Nat):Code:=cat (bodyOf Tryz.f98) (pth n)
theorem g_e_negative_ok (N:Nat) (x:TRat) (r:TRat) (h:g_e_negative N x=some r):Sd 98 [(.agg (TRc x))] [] 0 (.agg (TRc r)) []:=by
 unfold g_e_negative at h
 refine sor (fu:=Tryz.f98) (c:=C_40 1) (nt:=9) (by kernel_rfl) (by kernel_rfl) (by kernel_rfl) (by kernel_rfl) (fun hm=>rfl) ?_
 intro E hE
 refine rnR hE 1 [] [] (kp [1,2]) (kq [0,16]) 32 pn ?_
 obtain ⟨ropposite,hr,h⟩:=bsm h
 obtain ⟨rbelow,hr2,h⟩:=bsm h
 obtain ⟨rFr,hr3,h⟩:=bsm h
 refine rnR hE 1 [(2,⟨[],true,(.agg (TIc ropposite)),[],0,false,none⟩),(4,⟨[],true,(.agg (TIc rbelow)),[],0,false,none⟩),(5,⟨[],false,(.agg [(aB rFr.fN.fG),(.os 0 0 rFr.fN.fL.length),(aB rFr.fD.fG),(.os 1 0 rFr.fD.fL.length)]),[(0,aU rFr.fN.fL),(1,aU rFr.fD.fL)],0,false,none⟩)] [] (kp [2]) (kq [16,112,113]) 144 (pc o1 (pc (g_e_opposite_ok N x.fN ropposite hr) (pc o1 (pc (g_e_below_ok N x rbelow hr2) (pc (g_e_fraction_ok N ropposite rbelow rFr hr3) (pc o1 pn)))))) ?_
 obtain rfl:=osI h
 exact rnT hE 0 Tryz.f98 [112,113] (kp [2]) [(16,.var 16 [.keep,.sl (rFr.fN.fL.length) (fun zi=>(cU .u16) (rFr.fN.fL.getD zi 0)),.keep,.sl (rFr.fD.fL.length) (fun zi=>(cU .u16) (rFr.fD.fL.getD zi 0))])] 144 (pc (Eq.refl rFr.fN.fL.length) (pc (z1 rFr.fN.fL.length) (pc (show ∀ zi,zi < rFr.fN.fL.length→(fun zi=>(cU .u16) (rFr.fN.fL.getD zi 0)) zi=(fun zi=>(cU .u16) (rFr.fN.fL.getD zi 0)) (addz 0 zi) from (fun _ _=>rfl)) (pc (Eq.refl rFr.fD.fL.length) (pc (z1 rFr.fD.fL.length) (pc (show ∀ zi,zi < rFr.fD.fL.length→(fun zi=>(cU .u16) (rFr.fD.fL.getD zi 0)) zi=(fun zi=>(cU .u16) (rFr.fD.fL.getD zi 0)) (addz 0 zi) from (fun _ _=>rfl)) pn)))))) [16] (pc o1 pn)
noncomputable def C_43 (n:Nat):Code:=cat (bodyOf Tryz.f97) (pth n)
theorem g_e_lowest_ok (N:Nat) (x:TRat) (r:TRat) (h:g_e_lowest N x=some r):Sd 97 [(.agg (TRc x))] [] 0 (.agg (TRc r)) []:=by
 unfold g_e_lowest at h
 refine sor (fu:=Tryz.f97) (c:=C_43 1) (nt:=8) (by kernel_rfl) (by kernel_rfl) (by kernel_rfl) (by kernel_rfl) (fun hm=>rfl) ?_
 intro E hE
 refine rnR hE 1 [] [] (kp [1,2]) (kq [0,16]) 32 pn ?_
 obtain ⟨rbelow,hr,h⟩:=bsm h
 obtain ⟨rFr,hr2,h⟩:=bsm h
 refine rnR hE 1 [(3,⟨[],true,(.agg (TIc rbelow)),[],0,false,none⟩),(4,⟨[],false,(.agg [(aB rFr.fN.fG),(.os 0 0 rFr.fN.fL.length),(aB rFr.fD.fG),(.os 1 0 rFr.fD.fL.length)]),[(0,aU rFr.fN.fL),(1,aU rFr.fD.fL)],0,false,none⟩)] [] (kp [2]) (kq [16,96,97]) 128 (pc o1 (pc o1 (pc (g_e_below_ok N x rbelow hr) (pc (g_e_fraction_ok N x.fN rbelow rFr hr2) (pc o1 pn))))) ?_
 obtain rfl:=osI h
 exact rnT hE 0 Tryz.f97 [96,97] (kp [2]) [(16,.var 16 [.keep,.sl (rFr.fN.fL.length) (fun zi=>(cU .u16) (rFr.fN.fL.getD zi 0)),.keep,.sl (rFr.fD.fL.length) (fun zi=>(cU .u16) (rFr.fD.fL.getD zi 0))])] 128 (pc (Eq.refl rFr.fN.fL.length) (pc (z1 rFr.fN.fL.length) (pc (show ∀ zi,zi < rFr.fN.fL.length→(fun zi=>(cU .u16) (rFr.fN.fL.getD zi 0)) zi=(fun zi=>(cU .u16) (rFr.fN.fL.getD zi 0)) (addz 0 zi) from (fun _ _=>rfl)) (pc (Eq.refl rFr.fD.fL.length) (pc (z1 rFr.fD.fL.length) (pc (show ∀ zi,zi < rFr.fD.fL.length→(fun zi=>(cU .u16) (rFr.fD.fL.getD zi 0)) zi=(fun zi=>(cU .u16) (rFr.fD.fL.getD zi 0)) (addz 0 zi) from (fun _ _=>rfl)) pn)))))) [16] (pc o1 pn)
noncomputable def C_45 (n:Nat):Code:=cat (bodyOf Tryz.f155) (pth n)
def g_e_plus_J1_H (N:Nat) (K:(List Int)→(List Int)→Option ((List Int))):Prop:=∀ (a2:List Int) (b2:List Int) (r:(List Int)),K a2 b2=some r→∀ E,EnvOk E 0→Runs Tryz.prog E 155 56 (SPost E [] (eU r)) [.code (C_45 14),.code (C_45 15)] ⟨[(0,(eU a2)),(1,(eU b2))],[],0⟩
def g_e_plus_L2_H (N:Nat) (a2:List Int) (b2:List Int) (K:(List Int)→Int→Int→Option ((List Int))):Prop:=∀ (out:List Int) (carry:Int) (x:Int) (r:(List Int)),K out carry x=some r→∀ E,EnvOk E 0→Runs Tryz.prog E 155 56 (SPost E [] (eU r)) [.code (C_45 500),.inLoop (C_45 500),.inBlock 0,.code (C_45 63)] ⟨[(1,(eU b2)),(5,(.os 0 0 out.length)),(6,(a32 carry)),(20,(eU a2)),(21,(aI ((a2.length:Nat):Int))),(22,(aI x))],[(0,aU out)],1⟩
def g_e_plus_J3_H (N:Nat) (a2:List Int) (b2:List Int) (out:List Int) (x:Int) (K:Int→Option ((List Int))):Prop:=∀ (carry2:Int) (r:(List Int)),K carry2=some r→∀ E,EnvOk E 0→Runs Tryz.prog E 155 56 (SPost E [] (eU r)) [.code (C_45 128206),.code (C_45 128207),.inBlock 1,.code (C_45 4007),.inLoop (C_45 500),.inBlock 0,.code (C_45 63)] ⟨[(1,(eU b2)),(5,(.os 0 0 out.length)),(6,(a32 carry2)),(20,(eU a2)),(21,(aI ((a2.length:Nat):Int))),(22,(aI x))],[(0,aU out)],1⟩
theorem g_e_plus_J3_ok (N:Nat) (a2:List Int) (b2:List Int) (out:List Int) (x:Int) (K_g_e_plus_L2:(List Int)→Int→Int→Option ((List Int))) (hK_g_e_plus_L2:g_e_plus_L2_H N a2 b2 K_g_e_plus_L2):g_e_plus_J3_H N a2 b2 out x (g_e_plus_J3 N a2 b2 out x K_g_e_plus_L2):=by
 intro carry2 r h E hE
 unfold g_e_plus_J3 at h
 obtain ⟨c4,h⟩:=ifSome h
 refine rnR hE 0 [] [] (kp [1] ++ [(5,.osl ((out ++ ([(IntKind.u16.wrap (carry2))]:List Int)).length))] ++ kp [6,20,21,22]) [(65,.arr 65 ((out ++ ([(IntKind.u16.wrap (carry2))]:List Int)).length) (fun zi=>(cU .u16) ((out ++ ([(IntKind.u16.wrap (carry2))]:List Int)).getD zi 0)))] 97 (pc (Eq.refl out.length) (pc c4 (pc (z1 1) (pc (show ∀ zi,zi < 1→AV.oneL ((fun zi=>([[(a16 (IntKind.u16.wrap (carry2)))]]:List (List AV)).getD zi []) (addz 0 zi))=true from (oneN rfl)) (pc (show (out.length+1)=(out ++ ([(IntKind.u16.wrap (carry2))]:List Int)).length from (len_app_raw rfl rfl)) (pc (show out.length+1=(out ++ ([(IntKind.u16.wrap (carry2))]:List Int)).length from (len_app_raw rfl rfl)) (pc (show ∀ zi,zi < (out ++ ([(IntKind.u16.wrap (carry2))]:List Int)).length→(fun zi=>(cU .u16) ((out ++ ([(IntKind.u16.wrap (carry2))]:List Int)).getD zi 0)) zi=((fun zm=>if zm < out.length then (fun zi=>(cU .u16) (out.getD zi 0)) zm else (fun zi=>([[(a16 (IntKind.u16.wrap (carry2)))]]:List (List AV)).getD zi []) (zm - out.length))) zi from (get_app_raw (cU .u16) 0 out ([(IntKind.u16.wrap (carry2))]:List Int) rfl (fun _ _=>rfl) (fun zq hzq=>get_chunk (cU .u16) 0 ([(IntKind.u16.wrap (carry2))]:List Int) zq hzq))) pn))))))) ?_
 refine rnR hE 0 [] [] (kp [1,5,6,20,21,22]) (kq [65]) 145 (pc (show (0:Int)≤16 by decide) pn) ?_
 refine rnR hE 1 [] [] (kp [1,5,6,20,21,22]) (kq [65]) 177 pn ?_
 exact rnW hE 1 [] (kp [1,5,6,20,21,22]) [(0,.keep 65)] 1 pn (hK_g_e_plus_L2 _ _ _ _ h E hE)
theorem g_e_plus_L2_ok (N:Nat) (a2:List Int) (b2:List Int) (fuel:Nat):g_e_plus_L2_H N a2 b2 (g_e_plus_L2 N a2 b2 fuel):=by
 induction fuel with
 | zero=>intro _ _ _ r h;rw [g_e_plus_L2.eq_1] at h;cases h
 | succ fuel ih =>
  intro out carry x r h E hE
  rw [g_e_plus_L2.eq_2] at h
  refine rnR hE 1 [] [] (kp [1,5,6,20,21,22,23]) (kq [0]) 17 pn ?_
  refine rnC 1 23 h (fun hq3 h=>?_) (fun hq3 h=>?_)
  ·obtain ⟨c2,h⟩:=ifSome h
   refine rnR hE 4 [] [] (kp [1,5,6,7,8,20,21,22]) (kq [0]) 97 (pc c2 pn) ?_
   refine rnR hE 1 [] [] (kp [1,5,6,7,20,21,22]) (kq [0]) 177 pn ?_
   refine rnR hE 2 [] [] (kp [1,5,6,7,20,21,22,34]) (kq [0]) 241 pn ?_
   refine rnC 0 34 h (fun hq4 h=>?_) (fun hq4 h=>?_)
   ·obtain ⟨c3,h⟩:=ifSome h
    refine rnR hE 0 [] [] (kp [1,5,6,20,21,22]) (kq [0]) 369 (pc c3 pn) ?_
    exact rnW hE 1 [] (kp [1,5,6,20,21,22]) (kq [0]) 1 pn (g_e_plus_J3_ok N _ _ _ _ _ ih _ _ h E hE)
   ·exact rnW hE 2 [] (kp [1,5,6,20,21,22]) (kq [0]) 1 pn (g_e_plus_J3_ok N _ _ _ _ _ ih _ _ h E hE)
  ·obtain ⟨c5,h⟩:=ifSome h
   obtain ⟨rtrim,hr,h⟩:=bsm h
   refine rnR hE 2 [(5,⟨[],true,(eU rtrim),[],0,true,none⟩)] [] (kp [4]) [] 129 (pc (Eq.refl out.length) (pc c5 (pc (z1 1) (pc (show ∀ zi,zi < 1→AV.oneL ((fun zi=>([[(a16 (IntKind.u16.wrap (carry)))]]:List (List AV)).getD zi []) (addz 0 zi))=true from (oneN rfl)) (pc (show Sd 139 [(.sl (out.length+1) (fun zi=>((fun zm=>if zm < out.length then (fun zi=>(cU .u16) (out.getD zi 0)) zm else (fun zi=>([[(a16 (IntKind.u16.wrap (carry)))]]:List (List AV)).getD zi []) (zm - out.length))) (addz 0 zi)))] [] 0 (eU rtrim) [] from (Sound.conv (g_e_trim_ok N (out ++ ([(IntKind.u16.wrap (carry))]:List Int)) rtrim hr) (.cons (Alike.sl (len_app_raw rfl rfl) (get_app_raw (cU .u16) 0 out ([(IntKind.u16.wrap (carry))]:List Int) rfl (fun _ _=>rfl) (fun zq hzq=>get_chunk (cU .u16) 0 ([(IntKind.u16.wrap (carry))]:List Int) zq hzq))) .nil))) (pc (z1 (out.length+1)) pn)))))) ?_
   obtain rfl:=osI h
   exact rnT hE 0 Tryz.f155 [] (kp [4]) [] 129 pn [] pn
theorem g_e_plus_J1_ok (N:Nat):g_e_plus_J1_H N (g_e_plus_J1 N):=by
 intro a2 b2 r h E hE
 unfold g_e_plus_J1 at h
 obtain ⟨c,h⟩:=ifSome h
 refine rnR hE 0 [] [] (kp [0,1] ++ [(5,.osl ((List.replicate 0 0:List Int).length))]) [(48,.arr 48 ((List.replicate 0 0:List Int).length) (fun zi=>(cU .u16) ((List.replicate 0 0:List Int).getD zi 0)))] 80 (pc (show 0≤(0:Int) from c.1) (pc (show (0:Int)≤(w64 (((a2.length:Nat):Int)+1)) from c.2.2.2) (pc (show (2:Int) * (w64 (((a2.length:Nat):Int)+1))≤281474976710656 from c.2.1) (pc (show (w64 (((a2.length:Nat):Int)+1))≤9223372036854775807 from c.2.2.1) (pc (show 0=(List.replicate 0 0:List Int).length from (List.length_replicate).symm) (pc (show 0=(List.replicate 0 0:List Int).length from (List.length_replicate).symm) (pc (show ∀ zi,zi < (List.replicate 0 0:List Int).length→(fun zi=>(cU .u16) ((List.replicate 0 0:List Int).getD zi 0)) zi=(fun _=>[(a16 0)]) zi from (fun zq hzq=>get_rep (cU .u16) 0 0 0 zq hzq)) pn))))))) ?_
 refine rnR hE 1 [] [] (kp [0,1,5,6]) (kq [48]) 96 pn ?_
 refine rnR hE 2 [] [] (kp [1,5,6,20,21,22]) (kq [48]) 144 pn ?_
 exact rnW hE 2 [] (kp [1,5,6,20,21,22]) [(0,.keep 48)] 1 pn (g_e_plus_L2_ok N _ _ N _ _ _ _ h E hE)
theorem g_e_plus_ok (N:Nat) (a:List Int) (b:List Int) (r:(List Int)) (h:g_e_plus N a b=some r):Sd 155 [(eU a),(eU b)] [] 0 (eU r) []:=by
 unfold g_e_plus at h
 refine sor (fu:=Tryz.f155) (c:=C_45 1) (nt:=56) (by kernel_rfl) (by kernel_rfl) (by kernel_rfl) (by kernel_rfl) (fun hm=>rfl) ?_
 intro E hE
 refine rnR hE 1 [] [] (kp [0,1]) [] 16 pn ?_
 refine rnR hE 2 [] [] (kp [0,1,13]) [] 96 pn ?_
 refine rnC 0 13 h (fun hq2 h=>?_) (fun hq2 h=>?_)
 ·refine rnR hE 0 [] [] (kp [0,1]) [] 160 pn ?_
  exact rnW hE 1 [] (kp [0,1]) [] 0 pn (g_e_plus_J1_ok N _ _ _ h E hE)
 ·exact rnW hE 2 [] (kp [0,1]) [] 0 pn (g_e_plus_J1_ok N _ _ _ h E hE)
noncomputable def C_46 (n:Nat):Code:=cat (bodyOf Tryz.f157) (pth n)
def g_e_minus_L1_H (N:Nat) (a:List Int) (b:List Int) (K:(List Int)→Int→Int→Option ((List Int))):Prop:=∀ (out:List Int) (borrow:Int) (x:Int) (r:(List Int)),K out borrow x=some r→∀ E,EnvOk E 0→Runs Tryz.prog E 157 50 (SPost E [] (eU r)) [.code (C_46 244),.inLoop (C_46 244),.inBlock 0,.code (C_46 31)] ⟨[(1,(eU b)),(5,(.os 0 0 out.length)),(6,(a32 borrow)),(13,(eU a)),(14,(aI ((a.length:Nat):Int))),(15,(aI x))],[(0,aU out)],1⟩
def g_e_minus_J2_H (N:Nat) (a:List Int) (b:List Int) (out:List Int) (x:Int) (K:Int→Option ((List Int))):Prop:=∀ (y:Int) (r:(List Int)),K y=some r→∀ E,EnvOk E 0→Runs Tryz.prog E 157 50 (SPost E [] (eU r)) [.code (C_46 62670),.code (C_46 62671),.inBlock 1,.code (C_46 1959),.inLoop (C_46 244),.inBlock 0,.code (C_46 31)] ⟨[(1,(eU b)),(5,(.os 0 0 out.length)),(7,(aI x)),(8,(a16 (a.getD ((x).toNat) 0))),(9,(a32 y)),(13,(eU a)),(14,(aI ((a.length:Nat):Int))),(15,(aI x))],[(0,aU out)],1⟩
def g_e_minus_J3_H (N:Nat) (a:List Int) (b:List Int) (out:List Int) (x:Int) (y:Int) (K:Int→Option ((List Int))):Prop:=∀ (borrow2:Int) (r:(List Int)),K borrow2=some r→∀ E,EnvOk E 0→Runs Tryz.prog E 157 50 (SPost E [] (eU r)) [.code (C_46 125343),.inBlock 1,.code (C_46 1959),.inLoop (C_46 244),.inBlock 0,.code (C_46 31)] ⟨[(1,(eU b)),(5,(.os 0 0 out.length)),(6,(a32 borrow2)),(7,(aI x)),(8,(a16 (a.getD ((x).toNat) 0))),(9,(a32 y)),(13,(eU a)),(14,(aI ((a.length:Nat):Int))),(15,(aI x))],[(0,aU out)],1⟩
theorem g_e_minus_J3_ok (N:Nat) (a:List Int) (b:List Int) (out:List Int) (x:Int) (y:Int) (K_g_e_minus_L1:(List Int)→Int→Int→Option ((List Int))) (hK_g_e_minus_L1:g_e_minus_L1_H N a b K_g_e_minus_L1):g_e_minus_J3_H N a b out x y (g_e_minus_J3 N a b out x y K_g_e_minus_L1):=by
 intro borrow2 r h E hE
 unfold g_e_minus_J3 at h
 obtain ⟨c4,h⟩:=ifSome h
 refine rnR hE 0 [] [] (kp [1] ++ [(5,.osl ((out.set ((x).toNat) (IntKind.u16.wrap ((IntKind.u32.wrap ((IntKind.u32.wrap ((IntKind.u32.wrap ((a.getD ((x).toNat) 0)))+(shlI .u32 borrow2 16))) - y))))).length))] ++ kp [6,13,14,15]) [(0,.arr 0 ((out.set ((x).toNat) (IntKind.u16.wrap ((IntKind.u32.wrap ((IntKind.u32.wrap ((IntKind.u32.wrap ((a.getD ((x).toNat) 0)))+(shlI .u32 borrow2 16))) - y))))).length) (fun zi=>(cU .u16) ((out.set ((x).toNat) (IntKind.u16.wrap ((IntKind.u32.wrap ((IntKind.u32.wrap ((IntKind.u32.wrap ((a.getD ((x).toNat) 0)))+(shlI .u32 borrow2 16))) - y))))).getD zi 0)))] 193 (pc (show (0:Int)≤16 by decide) (pc c4 (pc (ltOf c4) (pc (len_set0 out ((x).toNat) (IntKind.u16.wrap ((IntKind.u32.wrap ((IntKind.u32.wrap ((IntKind.u32.wrap ((a.getD ((x).toNat) 0)))+(shlI .u32 borrow2 16))) - y))))) (pc (len_set0 out ((x).toNat) (IntKind.u16.wrap ((IntKind.u32.wrap ((IntKind.u32.wrap ((IntKind.u32.wrap ((a.getD ((x).toNat) 0)))+(shlI .u32 borrow2 16))) - y))))) (pc (get_set0 (cU .u16) 0 out ((x).toNat) (IntKind.u16.wrap ((IntKind.u32.wrap ((IntKind.u32.wrap ((IntKind.u32.wrap ((a.getD ((x).toNat) 0)))+(shlI .u32 borrow2 16))) - y))))) pn)))))) ?_
 refine rnR hE 1 [] [] (kp [1,5,6,13,14,15]) (kq [0]) 225 pn ?_
 exact rnW hE 1 [] (kp [1,5,6,13,14,15]) (kq [0]) 1 pn (hK_g_e_minus_L1 _ _ _ _ h E hE)
theorem g_e_minus_J2_ok (N:Nat) (a:List Int) (b:List Int) (out:List Int) (x:Int) (K_g_e_minus_L1:(List Int)→Int→Int→Option ((List Int))) (hK_g_e_minus_L1:g_e_minus_L1_H N a b K_g_e_minus_L1):g_e_minus_J2_H N a b out x (g_e_minus_J2 N a b out x K_g_e_minus_L1):=by
 intro y r h E hE
 unfold g_e_minus_J2 at h
 refine rnR hE 0 [] [] (kp [1,5,6,7,8,9,13,14,15]) (kq [0]) 17 pn ?_
 refine rnR hE 2 [] [] (kp [1,5,6,7,8,9,13,14,15,35]) (kq [0]) 81 pn ?_
 refine rnC 0 35 h (fun hq4 h=>?_) (fun hq4 h=>?_)
 ·refine rnR hE 0 [] [] (kp [1,5,6,7,8,9,13,14,15]) (kq [0]) 97 pn ?_
  exact rnW hE 0 [] (kp [1,5,6,7,8,9,13,14,15]) (kq [0]) 1 pn (g_e_minus_J3_ok N _ _ _ _ _ _ hK_g_e_minus_L1 _ _ h E hE)
 ·exact rnW hE 1 [] (kp [1,5,6,7,8,9,13,14,15]) (kq [0]) 1 pn (g_e_minus_J3_ok N _ _ _ _ _ _ hK_g_e_minus_L1 _ _ h E hE)
theorem g_e_minus_L1_ok (N:Nat) (a:List Int) (b:List Int) (fuel:Nat):g_e_minus_L1_H N a b (g_e_minus_L1 N a b fuel):=by
 induction fuel with
 | zero=>intro _ _ _ r h;rw [g_e_minus_L1.eq_1] at h;cases h
 | succ fuel ih =>
  intro out borrow x r h E hE
  rw [g_e_minus_L1.eq_2] at h
  refine rnR hE 1 [] [] (kp [1,5,6,13,14,15,16]) (kq [0]) 17 pn ?_
  refine rnC 1 16 h (fun hq2 h=>?_) (fun hq2 h=>?_)
  ·obtain ⟨c2,h⟩:=ifSome h
   refine rnR hE 4 [] [] (kp [1,5,6,7,8,13,14,15]) (kq [0]) 97 (pc c2 pn) ?_
   refine rnR hE 1 [] [] (kp [1,5,7,8,9,13,14,15]) (kq [0]) 129 pn ?_
   refine rnR hE 2 [] [] (kp [1,5,7,8,9,13,14,15,24]) (kq [0]) 193 pn ?_
   refine rnC 0 24 h (fun hq3 h=>?_) (fun hq3 h=>?_)
   ·obtain ⟨c3,h⟩:=ifSome h
    refine rnR hE 0 [] [] (kp [1,5,7,8,9,13,14,15]) (kq [0]) 321 (pc c3 pn) ?_
    exact rnW hE 1 [] (kp [1,5,7,8,9,13,14,15]) (kq [0]) 1 pn (g_e_minus_J2_ok N _ _ _ _ _ ih _ _ h E hE)
   ·exact rnW hE 2 [] (kp [1,5,7,8,9,13,14,15]) (kq [0]) 1 pn (g_e_minus_J2_ok N _ _ _ _ _ ih _ _ h E hE)
  ·obtain ⟨rtrim,hr,h⟩:=bsm h
   refine rnR hE 2 [(1,⟨[],true,(eU rtrim),[],0,true,none⟩)] [] (kp [4]) [] 65 (pc (g_e_trim_ok N out rtrim hr) (pc (z1 out.length) pn)) ?_
   obtain rfl:=osI h
   exact rnT hE 0 Tryz.f157 [] (kp [4]) [] 65 pn [] pn
theorem g_e_minus_ok (N:Nat) (a:List Int) (b:List Int) (r:(List Int)) (h:g_e_minus N a b=some r):Sd 157 [(eU a),(eU b)] [] 0 (eU r) []:=by
 unfold g_e_minus at h
 refine sor (fu:=Tryz.f157) (c:=C_46 1) (nt:=50) (by kernel_rfl) (by kernel_rfl) (by kernel_rfl) (by kernel_rfl) (fun hm=>rfl) ?_
 intro E hE
 refine rnR hE 1 [] [] (kp [0,1]) [] 16 pn ?_
 obtain ⟨c,h⟩:=ifSome h
 refine rnR hE 1 [] [] (kp [0,1] ++ [(5,.osl ((List.replicate a.length 0:List Int).length))]) [(48,.arr 48 ((List.replicate a.length 0:List Int).length) (fun zi=>(cU .u16) ((List.replicate a.length 0:List Int).getD zi 0)))] 80 (pc (show 0≤((a.length:Nat):Int) from c.1) (pc (show ((a.length:Nat):Int)≤((a.length:Nat):Int) from (Int.le_refl _)) (pc (show (2:Int) * ((a.length:Nat):Int)≤281474976710656 from c.2.1) (pc (show ((a.length:Nat):Int)≤9223372036854775807 from c.2.2) (pc (show a.length=(List.replicate a.length 0:List Int).length from (List.length_replicate).symm) (pc (show a.length=(List.replicate a.length 0:List Int).length from (List.length_replicate).symm) (pc (show ∀ zi,zi < (List.replicate a.length 0:List Int).length→(fun zi=>(cU .u16) ((List.replicate a.length 0:List Int).getD zi 0)) zi=(fun _=>[(a16 0)]) zi from (fun zq hzq=>get_rep (cU .u16) 0 0 a.length zq hzq)) pn))))))) ?_
 refine rnR hE 1 [] [] (kp [0,1,5,6]) (kq [48]) 96 pn ?_
 refine rnR hE 2 [] [] (kp [1,5,6,13,14,15]) (kq [48]) 144 pn ?_
 exact rnW hE 2 [] (kp [1,5,6,13,14,15]) [(0,.keep 48)] 1 pn (g_e_minus_L1_ok N _ _ N _ _ _ _ h E hE)
noncomputable def C_44 (n:Nat):Code:=cat (bodyOf Tryz.f137) (pth n)
theorem g_e_Add_ok (N:Nat) (a:TInt) (b:TInt) (r:TInt) (h:g_e_Add N a b=some r):Sd 137 [(.agg (TIc a)),(.agg (TIc b))] [] 0 (.agg (TIc r)) []:=by
 unfold g_e_Add at h
 refine sor (fu:=Tryz.f137) (c:=C_44 1) (nt:=40) (by kernel_rfl) (by kernel_rfl) (by kernel_rfl) (by kernel_rfl) (fun hm=>rfl) ?_
 intro E hE
 refine rnR hE 1 [] [] (kp [2,3,4]) (kq [0,16,32]) 48 pn ?_
 obtain ⟨rtrim,hr,h⟩:=bsm h
 obtain ⟨rtrim2,hr2,h⟩:=bsm h
 refine rnR hE 1 [(2,⟨[],true,(eU rtrim),[],0,false,none⟩),(5,⟨[],true,(eU rtrim2),[],0,false,none⟩)] [] (kp [2,3,4,5,6]) (kq [0,16,32]) 176 (pc o1 (pc (g_e_trim_ok N a.fL rtrim hr) (pc o1 (pc (g_e_trim_ok N b.fL rtrim2 hr2) pn)))) ?_
 refine rnR hE 2 [] [] (kp [2,3,4,5,6,17]) (kq [0,16,32]) 256 (pc o1 (pc o1 pn)) ?_
 refine rnC 0 17 h (fun hq2 h=>?_) (fun hq2 h=>?_)
 ·obtain ⟨rplus,hr3,h⟩:=bsm h
  obtain ⟨rSg,hr4,h⟩:=bsm h
  refine rnR hE 1 [(4,⟨[],true,(eU rplus),[],0,false,none⟩),(5,⟨[],false,(.agg [(aB rSg.fG),(.os 0 0 rSg.fL.length)]),[(0,aU rSg.fL)],0,false,none⟩)] [] (kp [4]) (kq [32,336]) 368 (pc o1 (pc (g_e_plus_ok N rtrim rtrim2 rplus hr3) (pc (g_e_signed_ok N a.fG rplus rSg hr4) (pc o1 pn)))) ?_
  obtain rfl:=osI h
  exact rnT hE 0 Tryz.f137 [336] (kp [4]) [(16,.var 32 [.keep,.sl (rSg.fL.length) (fun zi=>(cU .u16) (rSg.fL.getD zi 0))])] 368 (pc (Eq.refl rSg.fL.length) (pc (z1 rSg.fL.length) (pc (show ∀ zi,zi < rSg.fL.length→(fun zi=>(cU .u16) (rSg.fL.getD zi 0)) zi=(fun zi=>(cU .u16) (rSg.fL.getD zi 0)) (addz 0 zi) from (fun _ _=>rfl)) pn))) [16] (pc o1 pn)
 ·obtain ⟨rcompare,hr5,h⟩:=bsm h
  refine rnR hE 3 [(2,⟨[],true,(aI rcompare),[],0,false,none⟩)] [] (kp [2,3,4,5,6,27]) (kq [0,16,32]) 320 (pc (g_e_compare_ok N rtrim rtrim2 rcompare hr5) pn) ?_
  refine rnC 0 27 h (fun hq3 h=>?_) (fun hq3 h=>?_)
  ·obtain ⟨rminus,hr6,h⟩:=bsm h
   obtain ⟨rSg2,hr7,h⟩:=bsm h
   refine rnR hE 1 [(4,⟨[],true,(eU rminus),[],0,false,none⟩),(5,⟨[],false,(.agg [(aB rSg2.fG),(.os 0 0 rSg2.fL.length)]),[(0,aU rSg2.fL)],0,false,none⟩)] [] (kp [4]) (kq [32,400]) 432 (pc o1 (pc (g_e_minus_ok N rtrim rtrim2 rminus hr6) (pc (g_e_signed_ok N a.fG rminus rSg2 hr7) (pc o1 pn)))) ?_
   obtain rfl:=osI h
   exact rnT hE 0 Tryz.f137 [400] (kp [4]) [(16,.var 32 [.keep,.sl (rSg2.fL.length) (fun zi=>(cU .u16) (rSg2.fL.getD zi 0))])] 432 (pc (Eq.refl rSg2.fL.length) (pc (z1 rSg2.fL.length) (pc (show ∀ zi,zi < rSg2.fL.length→(fun zi=>(cU .u16) (rSg2.fL.getD zi 0)) zi=(fun zi=>(cU .u16) (rSg2.fL.getD zi 0)) (addz 0 zi) from (fun _ _=>rfl)) pn))) [16] (pc o1 pn)
  ·obtain ⟨rminus2,hr8,h⟩:=bsm h
   obtain ⟨rSg3,hr9,h⟩:=bsm h
   refine rnR hE 2 [(4,⟨[],true,(eU rminus2),[],0,false,none⟩),(5,⟨[],false,(.agg [(aB rSg3.fG),(.os 0 0 rSg3.fL.length)]),[(0,aU rSg3.fL)],0,false,none⟩)] [] (kp [4]) (kq [32,400]) 432 (pc o1 (pc (g_e_minus_ok N rtrim2 rtrim rminus2 hr8) (pc (g_e_signed_ok N b.fG rminus2 rSg3 hr9) (pc o1 pn)))) ?_
   obtain rfl:=osI h
   exact rnT hE 0 Tryz.f137 [400] (kp [4]) [(16,.var 32 [.keep,.sl (rSg3.fL.length) (fun zi=>(cU .u16) (rSg3.fL.getD zi 0))])] 432 (pc (Eq.refl rSg3.fL.length) (pc (z1 rSg3.fL.length) (pc (show ∀ zi,zi < rSg3.fL.length→(fun zi=>(cU .u16) (rSg3.fL.getD zi 0)) zi=(fun zi=>(cU .u16) (rSg3.fL.getD zi 0)) (addz 0 zi) from (fun _ _=>rfl)) pn))) [16] (pc o1 pn)
noncomputable def C_42 (n:Nat):Code:=cat (bodyOf Tryz.f106) (pth n)
theorem g_e_AddRat_ok (N:Nat) (x:TRat) (y:TRat) (r:TRat) (h:g_e_AddRat N x y=some r):Sd 106 [(.agg (TRc x)),(.agg (TRc y))] [] 0 (.agg (TRc r)) []:=by
 unfold g_e_AddRat at h
 refine sor (fu:=Tryz.f106) (c:=C_42 1) (nt:=32) (by kernel_rfl) (by kernel_rfl) (by kernel_rfl) (by kernel_rfl) (fun hm=>rfl) ?_
 intro E hE
 refine rnR hE 1 [] [] (kp [2,3,4]) (kq [0,16,32]) 48 pn ?_
 obtain ⟨risZero,hr,h⟩:=bsm h
 refine rnR hE 2 [(1,⟨[],true,(aB risZero),[],0,false,none⟩)] [] (kp [2,3,4,8]) (kq [0,16,32]) 80 (pc o1 (pc (g_e_isZero_ok N x risZero hr) pn)) ?_
 refine rnC 0 8 h (fun hq2 h=>?_) (fun hq2 h=>?_)
 ·obtain ⟨rlowest,hr2,h⟩:=bsm h
  refine rnR hE 1 [(1,⟨[],true,(.agg (TRc rlowest)),[],0,false,none⟩)] [] (kp [4]) (kq [32]) 128 (pc o1 (pc (g_e_lowest_ok N y rlowest hr2) (pc o1 pn))) ?_
  obtain rfl:=osI h
  exact rnT hE 0 Tryz.f106 [] (kp [4]) [(16,.keep 32)] 128 pn [16] (pc o1 pn)
 ·obtain ⟨risZero2,hr3,h⟩:=bsm h
  refine rnR hE 3 [(1,⟨[],true,(aB risZero2),[],0,false,none⟩)] [] (kp [2,3,4,12]) (kq [0,16,32]) 112 (pc o1 (pc (g_e_isZero_ok N y risZero2 hr3) pn)) ?_
  refine rnC 0 12 h (fun hq3 h=>?_) (fun hq3 h=>?_)
  ·obtain ⟨rlowest2,hr4,h⟩:=bsm h
   refine rnR hE 1 [(1,⟨[],true,(.agg (TRc rlowest2)),[],0,false,none⟩)] [] (kp [4]) (kq [32]) 160 (pc o1 (pc (g_e_lowest_ok N x rlowest2 hr4) (pc o1 pn))) ?_
   obtain rfl:=osI h
   exact rnT hE 0 Tryz.f106 [] (kp [4]) [(16,.keep 32)] 160 pn [16] (pc o1 pn)
  ·obtain ⟨rbelow,hr5,h⟩:=bsm h
   obtain ⟨rbelow2,hr6,h⟩:=bsm h
   refine rnR hE 2 [(1,⟨[],true,(.agg (TIc rbelow)),[],0,false,none⟩),(3,⟨[],true,(.agg (TIc rbelow2)),[],0,false,none⟩)] [] (kp [2,3,4,5,6]) (kq [0,16,32,176,192]) 240 (pc o1 (pc (g_e_below_ok N x rbelow hr5) (pc o1 (pc (g_e_below_ok N y rbelow2 hr6) (pc o1 (pc o1 pn)))))) ?_
   obtain ⟨rMul,hr7,h⟩:=bsm h
   obtain ⟨rMul2,hr8,h⟩:=bsm h
   obtain ⟨rAdd,hr9,h⟩:=bsm h
   obtain ⟨rMul3,hr10,h⟩:=bsm h
   obtain ⟨rFr,hr11,h⟩:=bsm h
   refine rnR hE 1 [(3,⟨[],true,(.agg (TIc rMul)),[],0,false,none⟩),(7,⟨[],true,(.agg (TIc rMul2)),[],0,false,none⟩),(8,⟨[],true,(.agg (TIc rAdd)),[],0,false,none⟩),(11,⟨[],true,(.agg (TIc rMul3)),[],0,false,none⟩),(12,⟨[],false,(.agg [(aB rFr.fN.fG),(.os 0 0 rFr.fN.fL.length),(aB rFr.fD.fG),(.os 1 0 rFr.fD.fL.length)]),[(0,aU rFr.fN.fL),(1,aU rFr.fD.fL)],0,false,none⟩)] [] (kp [4]) (kq [32,432,433]) 464 (pc o1 (pc o1 (pc (g_e_Mul_ok N x.fN rbelow2 rMul hr7) (pc o1 (pc o1 (pc (g_e_Mul_ok N y.fN rbelow rMul2 hr8) (pc (g_e_Add_ok N rMul rMul2 rAdd hr9) (pc o1 (pc o1 (pc (g_e_Mul_ok N rbelow rbelow2 rMul3 hr10) (pc (g_e_fraction_ok N rAdd rMul3 rFr hr11) (pc o1 pn)))))))))))) ?_
   obtain rfl:=osI h
   exact rnT hE 0 Tryz.f106 [432,433] (kp [4]) [(16,.var 32 [.keep,.sl (rFr.fN.fL.length) (fun zi=>(cU .u16) (rFr.fN.fL.getD zi 0)),.keep,.sl (rFr.fD.fL.length) (fun zi=>(cU .u16) (rFr.fD.fL.getD zi 0))])] 464 (pc (Eq.refl rFr.fN.fL.length) (pc (z1 rFr.fN.fL.length) (pc (show ∀ zi,zi < rFr.fN.fL.length→(fun zi=>(cU .u16) (rFr.fN.fL.getD zi 0)) zi=(fun zi=>(cU .u16) (rFr.fN.fL.getD zi 0)) (addz 0 zi) from (fun _ _=>rfl)) (pc (Eq.refl rFr.fD.fL.length) (pc (z1 rFr.fD.fL.length) (pc (show ∀ zi,zi < rFr.fD.fL.length→(fun zi=>(cU .u16) (rFr.fD.fL.getD zi 0)) zi=(fun zi=>(cU .u16) (rFr.fD.fL.getD zi 0)) (addz 0 zi) from (fun _ _=>rfl)) pn)))))) [16] (pc o1 pn)
noncomputable def C_39 (n:Nat):Code:=cat (bodyOf Tryz.f64) (pth n)
theorem g_e_SubRat_ok (N:Nat) (x:TRat) (y:TRat) (r:TRat) (h:g_e_SubRat N x y=some r):Sd 64 [(.agg (TRc x)),(.agg (TRc y))] [] 0 (.agg (TRc r)) []:=by
 unfold g_e_SubRat at h
 refine sor (fu:=Tryz.f64) (c:=C_39 1) (nt:=9) (by kernel_rfl) (by kernel_rfl) (by kernel_rfl) (by kernel_rfl) (fun hm=>rfl) ?_
 intro E hE
 refine rnR hE 1 [] [] (kp [2,3,4]) (kq [0,16,32]) 48 pn ?_
 obtain ⟨rnegative,hr,h⟩:=bsm h
 obtain ⟨rAddRat,hr2,h⟩:=bsm h
 refine rnR hE 1 [(2,⟨[],true,(.agg (TRc rnegative)),[],0,false,none⟩),(3,⟨[],true,(.agg (TRc rAddRat)),[],0,false,none⟩)] [] (kp [4]) (kq [32]) 128 (pc o1 (pc o1 (pc (g_e_negative_ok N y rnegative hr) (pc (g_e_AddRat_ok N x rnegative rAddRat hr2) (pc o1 pn))))) ?_
 obtain rfl:=osI h
 exact rnT hE 0 Tryz.f64 [] (kp [4]) [(16,.keep 32)] 128 pn [16] (pc o1 pn)
noncomputable def C_2 (n:Nat):Code:=cat (bodyOf Tryz.f20) (pth n)
theorem g_w_Float_ok (N:Nat) (p:TPn) (steps:List Int) (r:TPose×Int) (h:g_w_Float N p steps=some r):Sd 20 [(.agg (TPn.cells p)),(encL cI 0 steps)] [] 0 (.tup [(.agg (TPose.cells r.1)),(aI r.2)]) []:=by
 unfold g_w_Float at h
 refine sor (fu:=Tryz.f20) (c:=C_2 1) (nt:=89) (by kernel_rfl) (by kernel_rfl) (by kernel_rfl) (by kernel_rfl) (fun hm=>rfl) ?_
 intro E hE
 refine rnR hE 1 [] [] (kp [1,2,4]) (kq [0,16]) 48 pn ?_
 obtain ⟨rCP,hr,h⟩:=bsm h
 refine rnR hE 2 [(1,⟨[],true,(aI rCP),[],0,false,none⟩)] [] (kp [1,2,4,6]) (kq [0,16]) 96 (pc o1 (pc (g_w_CheckPontoon_ok N p rCP hr) pn)) ?_
 refine rnR hE 1 [] [] (kp [1,2,4,6,16]) (kq [0,16]) 128 pn ?_
 refine rnC 0 16 h (fun hq2 h=>?_) (fun hq2 h=>?_)
 ·refine rnR hE 1 [] [] (kp [4,5]) (kq [16]) 192 (pc o1 pn) ?_
  obtain rfl:=osI h
  exact rnT hE 0 Tryz.f20 [] (kp [4,5]) [(16,.var 16 [.keep,.sl (([]:List Int).length) (fun zi=>(cU .u16) (([]:List Int).getD zi 0)),.keep,.sl (([]:List Int).length) (fun zi=>(cU .u16) (([]:List Int).getD zi 0)),.keep,.sl (([]:List Int).length) (fun zi=>(cU .u16) (([]:List Int).getD zi 0)),.keep,.sl (([]:List Int).length) (fun zi=>(cU .u16) (([]:List Int).getD zi 0)),.keep,.sl (([]:List Int).length) (fun zi=>(cU .u16) (([]:List Int).getD zi 0)),.keep,.sl (([]:List Int).length) (fun zi=>(cU .u16) (([]:List Int).getD zi 0)),.keep,.sl (([]:List Int).length) (fun zi=>(cU .u16) (([]:List Int).getD zi 0)),.keep,.sl (([]:List Int).length) (fun zi=>(cU .u16) (([]:List Int).getD zi 0))])] 192 (pc (Eq.refl 0) (pc (Eq.refl 0) (pc (Eq.refl 0) (pc (Eq.refl 0) (pc (Eq.refl 0) (pc (Eq.refl 0) (pc (Eq.refl 0) (pc (Eq.refl 0) pn)))))))) [16] (pc o1 pn)
 ·obtain ⟨rcheckSteps,hr2,h⟩:=bsm h
  refine rnR hE 2 [(2,⟨[],true,(.tup [(.agg (Tw_state.cells rcheckSteps.1)),(aI rcheckSteps.2)]),[],0,false,none⟩)] [] (kp [2,4,7,8]) (kq [0,16,224]) 272 (pc o1 (pc (g_w_checkSteps_ok N p steps rcheckSteps hr2) (pc o1 pn))) ?_
  refine rnR hE 2 [] [] (kp [2,4,7,8,26]) (kq [0,16,224]) 304 pn ?_
  refine rnC 0 26 h (fun hq3 h=>?_) (fun hq3 h=>?_)
  ·refine rnR hE 1 [] [] (kp [4,5]) (kq [16]) 368 (pc o1 pn) ?_
   obtain rfl:=osI h
   exact rnT hE 0 Tryz.f20 [] (kp [4,5]) [(16,.var 16 [.keep,.sl (([]:List Int).length) (fun zi=>(cU .u16) (([]:List Int).getD zi 0)),.keep,.sl (([]:List Int).length) (fun zi=>(cU .u16) (([]:List Int).getD zi 0)),.keep,.sl (([]:List Int).length) (fun zi=>(cU .u16) (([]:List Int).getD zi 0)),.keep,.sl (([]:List Int).length) (fun zi=>(cU .u16) (([]:List Int).getD zi 0)),.keep,.sl (([]:List Int).length) (fun zi=>(cU .u16) (([]:List Int).getD zi 0)),.keep,.sl (([]:List Int).length) (fun zi=>(cU .u16) (([]:List Int).getD zi 0)),.keep,.sl (([]:List Int).length) (fun zi=>(cU .u16) (([]:List Int).getD zi 0)),.keep,.sl (([]:List Int).length) (fun zi=>(cU .u16) (([]:List Int).getD zi 0))])] 368 (pc (Eq.refl 0) (pc (Eq.refl 0) (pc (Eq.refl 0) (pc (Eq.refl 0) (pc (Eq.refl 0) (pc (Eq.refl 0) (pc (Eq.refl 0) (pc (Eq.refl 0) pn)))))))) [16] (pc o1 pn)
  ·obtain ⟨rsumOf,hr3,h⟩:=bsm h
   refine rnR hE 2 [(2,⟨[],true,(.agg (Tw_sums.cells rsumOf)),[],0,false,none⟩)] [] (kp [2,4,9]) (kq [0,16,352]) 384 (pc o1 (pc o1 (pc (g_w_sumOf_ok N p rcheckSteps.1 rsumOf hr3) (pc o1 pn)))) ?_
   refine rnR hE 1 [] [] (kp [4,9,10,11,12]) (kq [16,352]) 528 (pc o1 (pc o1 (pc o1 pn))) ?_
   obtain ⟨rproduct,hr4,h⟩:=bsm h
   obtain ⟨rproduct2,hr5,h⟩:=bsm h
   obtain ⟨rquotient,hr6,h⟩:=bsm h
   obtain ⟨rproduct3,hr7,h⟩:=bsm h
   obtain ⟨rproduct4,hr8,h⟩:=bsm h
   obtain ⟨rquotient2,hr9,h⟩:=bsm h
   obtain ⟨rproduct5,hr10,h⟩:=bsm h
   obtain ⟨rproduct6,hr11,h⟩:=bsm h
   obtain ⟨rquotient3,hr12,h⟩:=bsm h
   obtain ⟨rproduct7,hr13,h⟩:=bsm h
   obtain ⟨rproduct8,hr14,h⟩:=bsm h
   obtain ⟨rquotient4,hr15,h⟩:=bsm h
   obtain ⟨rproduct9,hr16,h⟩:=bsm h
   obtain ⟨rproduct10,hr17,h⟩:=bsm h
   obtain ⟨rquotient5,hr18,h⟩:=bsm h
   obtain ⟨rSubRat,hr19,h⟩:=bsm h
   refine rnR hE 1 [(3,⟨[],false,(.agg [(aB rproduct.fN.fG),(.os 0 0 rproduct.fN.fL.length),(aB rproduct.fD.fG),(.os 1 0 rproduct.fD.fL.length)]),[(0,aU rproduct.fN.fL),(1,aU rproduct.fD.fL)],0,false,none⟩),(8,⟨[],false,(.agg [(aB rproduct2.fN.fG),(.os 0 0 rproduct2.fN.fL.length),(aB rproduct2.fD.fG),(.os 1 0 rproduct2.fD.fL.length)]),[(0,aU rproduct2.fN.fL),(1,aU rproduct2.fD.fL)],0,false,none⟩),(9,⟨[],false,(.agg [(aB rquotient.fN.fG),(.os 0 0 rquotient.fN.fL.length),(aB rquotient.fD.fG),(.os 1 0 rquotient.fD.fL.length)]),[(0,aU rquotient.fN.fL),(1,aU rquotient.fD.fL)],0,false,none⟩),(13,⟨[],false,(.agg [(aB rproduct3.fN.fG),(.os 0 0 rproduct3.fN.fL.length),(aB rproduct3.fD.fG),(.os 1 0 rproduct3.fD.fL.length)]),[(0,aU rproduct3.fN.fL),(1,aU rproduct3.fD.fL)],0,false,none⟩),(20,⟨[],false,(.agg [(aB rproduct4.fN.fG),(.os 0 0 rproduct4.fN.fL.length),(aB rproduct4.fD.fG),(.os 1 0 rproduct4.fD.fL.length)]),[(0,aU rproduct4.fN.fL),(1,aU rproduct4.fD.fL)],0,false,none⟩),(21,⟨[],false,(.agg [(aB rquotient2.fN.fG),(.os 0 0 rquotient2.fN.fL.length),(aB rquotient2.fD.fG),(.os 1 0 rquotient2.fD.fL.length)]),[(0,aU rquotient2.fN.fL),(1,aU rquotient2.fD.fL)],0,false,none⟩),(25,⟨[],false,(.agg [(aB rproduct5.fN.fG),(.os 0 0 rproduct5.fN.fL.length),(aB rproduct5.fD.fG),(.os 1 0 rproduct5.fD.fL.length)]),[(0,aU rproduct5.fN.fL),(1,aU rproduct5.fD.fL)],0,false,none⟩),(32,⟨[],false,(.agg [(aB rproduct6.fN.fG),(.os 0 0 rproduct6.fN.fL.length),(aB rproduct6.fD.fG),(.os 1 0 rproduct6.fD.fL.length)]),[(0,aU rproduct6.fN.fL),(1,aU rproduct6.fD.fL)],0,false,none⟩),(33,⟨[],false,(.agg [(aB rquotient3.fN.fG),(.os 0 0 rquotient3.fN.fL.length),(aB rquotient3.fD.fG),(.os 1 0 rquotient3.fD.fL.length)]),[(0,aU rquotient3.fN.fL),(1,aU rquotient3.fD.fL)],0,false,none⟩),(37,⟨[],false,(.agg [(aB rproduct7.fN.fG),(.os 0 0 rproduct7.fN.fL.length),(aB rproduct7.fD.fG),(.os 1 0 rproduct7.fD.fL.length)]),[(0,aU rproduct7.fN.fL),(1,aU rproduct7.fD.fL)],0,false,none⟩),(39,⟨[],false,(.agg [(aB rproduct8.fN.fG),(.os 0 0 rproduct8.fN.fL.length),(aB rproduct8.fD.fG),(.os 1 0 rproduct8.fD.fL.length)]),[(0,aU rproduct8.fN.fL),(1,aU rproduct8.fD.fL)],0,false,none⟩),(40,⟨[],false,(.agg [(aB rquotient4.fN.fG),(.os 0 0 rquotient4.fN.fL.length),(aB rquotient4.fD.fG),(.os 1 0 rquotient4.fD.fL.length)]),[(0,aU rquotient4.fN.fL),(1,aU rquotient4.fD.fL)],0,false,none⟩),(45,⟨[],false,(.agg [(aB rproduct9.fN.fG),(.os 0 0 rproduct9.fN.fL.length),(aB rproduct9.fD.fG),(.os 1 0 rproduct9.fD.fL.length)]),[(0,aU rproduct9.fN.fL),(1,aU rproduct9.fD.fL)],0,false,none⟩),(47,⟨[],false,(.agg [(aB rproduct10.fN.fG),(.os 0 0 rproduct10.fN.fL.length),(aB rproduct10.fD.fG),(.os 1 0 rproduct10.fD.fL.length)]),[(0,aU rproduct10.fN.fL),(1,aU rproduct10.fD.fL)],0,false,none⟩),(48,⟨[],false,(.agg [(aB rquotient5.fN.fG),(.os 0 0 rquotient5.fN.fL.length),(aB rquotient5.fD.fG),(.os 1 0 rquotient5.fD.fL.length)]),[(0,aU rquotient5.fN.fL),(1,aU rquotient5.fD.fL)],0,false,none⟩),(49,⟨[],true,(.agg (TRc rSubRat)),[],0,true,none⟩)] [] (kp [4,5]) (kq [16,672,673,864,865,1056,1057]) 1376 (pc o1 (pc (show Sd 63 [(.sl 2 (fun zi=>(fun zi=>([[(aI 1000000000)],[(aI rsumOf.f_mass)]]:List (List AV)).getD zi []) (addz 0 zi)))] [] 0 (.agg [(aB rproduct.fN.fG),(.os 0 0 rproduct.fN.fL.length),(aB rproduct.fD.fG),(.os 1 0 rproduct.fD.fL.length)]) [(0,aU rproduct.fN.fL),(1,aU rproduct.fD.fL)] from (Sound.conv (g_w_product_ok N ([1000000000,rsumOf.f_mass]:List Int) rproduct hr4) (.cons (Alike.sl rfl (fun zq hzq=>get_chunk cI 0 ([1000000000,rsumOf.f_mass]:List Int) zq hzq)) .nil))) (pc (show ∀ zi,zi < rproduct.fN.fL.length→AV.flatL ((cU .u16) (rproduct.fN.fL.getD zi 0))=true from (fun _ _=>rfl)) (pc (show ∀ zi,zi < rproduct.fD.fL.length→AV.flatL ((cU .u16) (rproduct.fD.fL.getD zi 0))=true from (fun _ _=>rfl)) (pc (z1 2) (pc (show Sd 63 [(.sl 3 (fun zi=>(fun zi=>([[(aI p.fDsity)],[(aI p.fLn)],[(aI p.fBr)]]:List (List AV)).getD zi []) (addz 0 zi)))] [] 0 (.agg [(aB rproduct2.fN.fG),(.os 0 0 rproduct2.fN.fL.length),(aB rproduct2.fD.fG),(.os 1 0 rproduct2.fD.fL.length)]) [(0,aU rproduct2.fN.fL),(1,aU rproduct2.fD.fL)] from (Sound.conv (g_w_product_ok N ([p.fDsity,p.fLn,p.fBr]:List Int) rproduct2 hr5) (.cons (Alike.sl rfl (fun zq hzq=>get_chunk cI 0 ([p.fDsity,p.fLn,p.fBr]:List Int) zq hzq)) .nil))) (pc (show ∀ zi,zi < rproduct2.fN.fL.length→AV.flatL ((cU .u16) (rproduct2.fN.fL.getD zi 0))=true from (fun _ _=>rfl)) (pc (show ∀ zi,zi < rproduct2.fD.fL.length→AV.flatL ((cU .u16) (rproduct2.fD.fL.getD zi 0))=true from (fun _ _=>rfl)) (pc (z1 3) (pc (g_w_quotient_ok N (⟨rproduct.fN,rproduct.fD⟩:TRat) (⟨rproduct2.fN,rproduct2.fD⟩:TRat) rquotient hr6) (pc (show ∀ zi,zi < rquotient.fN.fL.length→AV.flatL ((cU .u16) (rquotient.fN.fL.getD zi 0))=true from (fun _ _=>rfl)) (pc (show ∀ zi,zi < rquotient.fD.fL.length→AV.flatL ((cU .u16) (rquotient.fD.fL.getD zi 0))=true from (fun _ _=>rfl)) (pc (z1 rproduct.fN.fL.length) (pc (z1 rproduct.fD.fL.length) (pc (z1 rproduct2.fN.fL.length) (pc (z1 rproduct2.fD.fL.length) (pc o1 (pc (show Sd 63 [(.sl 2 (fun zi=>(fun zi=>([[(aI 12000000000)],[(aI rsumOf.f_x)]]:List (List AV)).getD zi []) (addz 0 zi)))] [] 0 (.agg [(aB rproduct3.fN.fG),(.os 0 0 rproduct3.fN.fL.length),(aB rproduct3.fD.fG),(.os 1 0 rproduct3.fD.fL.length)]) [(0,aU rproduct3.fN.fL),(1,aU rproduct3.fD.fL)] from (Sound.conv (g_w_product_ok N ([12000000000,rsumOf.f_x]:List Int) rproduct3 hr7) (.cons (Alike.sl rfl (fun zq hzq=>get_chunk cI 0 ([12000000000,rsumOf.f_x]:List Int) zq hzq)) .nil))) (pc (show ∀ zi,zi < rproduct3.fN.fL.length→AV.flatL ((cU .u16) (rproduct3.fN.fL.getD zi 0))=true from (fun _ _=>rfl)) (pc (show ∀ zi,zi < rproduct3.fD.fL.length→AV.flatL ((cU .u16) (rproduct3.fD.fL.getD zi 0))=true from (fun _ _=>rfl)) (pc (z1 2) (pc (show Sd 63 [(.sl 5 (fun zi=>(fun zi=>([[(aI p.fDsity)],[(aI p.fBr)],[(aI p.fLn)],[(aI p.fLn)],[(aI p.fLn)]]:List (List AV)).getD zi []) (addz 0 zi)))] [] 0 (.agg [(aB rproduct4.fN.fG),(.os 0 0 rproduct4.fN.fL.length),(aB rproduct4.fD.fG),(.os 1 0 rproduct4.fD.fL.length)]) [(0,aU rproduct4.fN.fL),(1,aU rproduct4.fD.fL)] from (Sound.conv (g_w_product_ok N ([p.fDsity,p.fBr,p.fLn,p.fLn,p.fLn]:List Int) rproduct4 hr8) (.cons (Alike.sl rfl (fun zq hzq=>get_chunk cI 0 ([p.fDsity,p.fBr,p.fLn,p.fLn,p.fLn]:List Int) zq hzq)) .nil))) (pc (show ∀ zi,zi < rproduct4.fN.fL.length→AV.flatL ((cU .u16) (rproduct4.fN.fL.getD zi 0))=true from (fun _ _=>rfl)) (pc (show ∀ zi,zi < rproduct4.fD.fL.length→AV.flatL ((cU .u16) (rproduct4.fD.fL.getD zi 0))=true from (fun _ _=>rfl)) (pc (z1 5) (pc (g_w_quotient_ok N (⟨rproduct3.fN,rproduct3.fD⟩:TRat) (⟨rproduct4.fN,rproduct4.fD⟩:TRat) rquotient2 hr9) (pc (show ∀ zi,zi < rquotient2.fN.fL.length→AV.flatL ((cU .u16) (rquotient2.fN.fL.getD zi 0))=true from (fun _ _=>rfl)) (pc (show ∀ zi,zi < rquotient2.fD.fL.length→AV.flatL ((cU .u16) (rquotient2.fD.fL.getD zi 0))=true from (fun _ _=>rfl)) (pc (z1 rproduct3.fN.fL.length) (pc (z1 rproduct3.fD.fL.length) (pc (z1 rproduct4.fN.fL.length) (pc (z1 rproduct4.fD.fL.length) (pc o1 (pc (show Sd 63 [(.sl 2 (fun zi=>(fun zi=>([[(aI 12000000000)],[(aI rsumOf.f_y)]]:List (List AV)).getD zi []) (addz 0 zi)))] [] 0 (.agg [(aB rproduct5.fN.fG),(.os 0 0 rproduct5.fN.fL.length),(aB rproduct5.fD.fG),(.os 1 0 rproduct5.fD.fL.length)]) [(0,aU rproduct5.fN.fL),(1,aU rproduct5.fD.fL)] from (Sound.conv (g_w_product_ok N ([12000000000,rsumOf.f_y]:List Int) rproduct5 hr10) (.cons (Alike.sl rfl (fun zq hzq=>get_chunk cI 0 ([12000000000,rsumOf.f_y]:List Int) zq hzq)) .nil))) (pc (show ∀ zi,zi < rproduct5.fN.fL.length→AV.flatL ((cU .u16) (rproduct5.fN.fL.getD zi 0))=true from (fun _ _=>rfl)) (pc (show ∀ zi,zi < rproduct5.fD.fL.length→AV.flatL ((cU .u16) (rproduct5.fD.fL.getD zi 0))=true from (fun _ _=>rfl)) (pc (z1 2) (pc (show Sd 63 [(.sl 5 (fun zi=>(fun zi=>([[(aI p.fDsity)],[(aI p.fLn)],[(aI p.fBr)],[(aI p.fBr)],[(aI p.fBr)]]:List (List AV)).getD zi []) (addz 0 zi)))] [] 0 (.agg [(aB rproduct6.fN.fG),(.os 0 0 rproduct6.fN.fL.length),(aB rproduct6.fD.fG),(.os 1 0 rproduct6.fD.fL.length)]) [(0,aU rproduct6.fN.fL),(1,aU rproduct6.fD.fL)] from (Sound.conv (g_w_product_ok N ([p.fDsity,p.fLn,p.fBr,p.fBr,p.fBr]:List Int) rproduct6 hr11) (.cons (Alike.sl rfl (fun zq hzq=>get_chunk cI 0 ([p.fDsity,p.fLn,p.fBr,p.fBr,p.fBr]:List Int) zq hzq)) .nil))) (pc (show ∀ zi,zi < rproduct6.fN.fL.length→AV.flatL ((cU .u16) (rproduct6.fN.fL.getD zi 0))=true from (fun _ _=>rfl)) (pc (show ∀ zi,zi < rproduct6.fD.fL.length→AV.flatL ((cU .u16) (rproduct6.fD.fL.getD zi 0))=true from (fun _ _=>rfl)) (pc (z1 5) (pc (g_w_quotient_ok N (⟨rproduct5.fN,rproduct5.fD⟩:TRat) (⟨rproduct6.fN,rproduct6.fD⟩:TRat) rquotient3 hr12) (pc (show ∀ zi,zi < rquotient3.fN.fL.length→AV.flatL ((cU .u16) (rquotient3.fN.fL.getD zi 0))=true from (fun _ _=>rfl)) (pc (show ∀ zi,zi < rquotient3.fD.fL.length→AV.flatL ((cU .u16) (rquotient3.fD.fL.getD zi 0))=true from (fun _ _=>rfl)) (pc (z1 rproduct5.fN.fL.length) (pc (z1 rproduct5.fD.fL.length) (pc (z1 rproduct6.fN.fL.length) (pc (z1 rproduct6.fD.fL.length) (pc o1 (pc (show Sd 63 [(.sl 1 (fun zi=>(fun zi=>([[(aI rsumOf.f_arm)]]:List (List AV)).getD zi []) (addz 0 zi)))] [] 0 (.agg [(aB rproduct7.fN.fG),(.os 0 0 rproduct7.fN.fL.length),(aB rproduct7.fD.fG),(.os 1 0 rproduct7.fD.fL.length)]) [(0,aU rproduct7.fN.fL),(1,aU rproduct7.fD.fL)] from (Sound.conv (g_w_product_ok N ([rsumOf.f_arm]:List Int) rproduct7 hr13) (.cons (Alike.sl rfl (fun zq hzq=>get_chunk cI 0 ([rsumOf.f_arm]:List Int) zq hzq)) .nil))) (pc (show ∀ zi,zi < rproduct7.fN.fL.length→AV.flatL ((cU .u16) (rproduct7.fN.fL.getD zi 0))=true from (fun _ _=>rfl)) (pc (show ∀ zi,zi < rproduct7.fD.fL.length→AV.flatL ((cU .u16) (rproduct7.fD.fL.getD zi 0))=true from (fun _ _=>rfl)) (pc (z1 1) (pc (show Sd 63 [(.sl 1 (fun zi=>(fun zi=>([[(aI 2)]]:List (List AV)).getD zi []) (addz 0 zi)))] [] 0 (.agg [(aB rproduct8.fN.fG),(.os 0 0 rproduct8.fN.fL.length),(aB rproduct8.fD.fG),(.os 1 0 rproduct8.fD.fL.length)]) [(0,aU rproduct8.fN.fL),(1,aU rproduct8.fD.fL)] from (Sound.conv (g_w_product_ok N ([2]:List Int) rproduct8 hr14) (.cons (Alike.sl rfl (fun zq hzq=>get_chunk cI 0 ([2]:List Int) zq hzq)) .nil))) (pc (show ∀ zi,zi < rproduct8.fN.fL.length→AV.flatL ((cU .u16) (rproduct8.fN.fL.getD zi 0))=true from (fun _ _=>rfl)) (pc (show ∀ zi,zi < rproduct8.fD.fL.length→AV.flatL ((cU .u16) (rproduct8.fD.fL.getD zi 0))=true from (fun _ _=>rfl)) (pc (z1 1) (pc (g_w_quotient_ok N (⟨rproduct7.fN,rproduct7.fD⟩:TRat) (⟨rproduct8.fN,rproduct8.fD⟩:TRat) rquotient4 hr15) (pc (show ∀ zi,zi < rquotient4.fN.fL.length→AV.flatL ((cU .u16) (rquotient4.fN.fL.getD zi 0))=true from (fun _ _=>rfl)) (pc (show ∀ zi,zi < rquotient4.fD.fL.length→AV.flatL ((cU .u16) (rquotient4.fD.fL.getD zi 0))=true from (fun _ _=>rfl)) (pc (z1 rproduct7.fN.fL.length) (pc (z1 rproduct7.fD.fL.length) (pc (z1 rproduct8.fN.fL.length) (pc (z1 rproduct8.fD.fL.length) (pc o1 (pc (show Sd 63 [(.sl 2 (fun zi=>(fun zi=>([[(aI rsumOf.f_mass)],[(aI p.fLn)]]:List (List AV)).getD zi []) (addz 0 zi)))] [] 0 (.agg [(aB rproduct9.fN.fG),(.os 0 0 rproduct9.fN.fL.length),(aB rproduct9.fD.fG),(.os 1 0 rproduct9.fD.fL.length)]) [(0,aU rproduct9.fN.fL),(1,aU rproduct9.fD.fL)] from (Sound.conv (g_w_product_ok N ([rsumOf.f_mass,p.fLn]:List Int) rproduct9 hr16) (.cons (Alike.sl rfl (fun zq hzq=>get_chunk cI 0 ([rsumOf.f_mass,p.fLn]:List Int) zq hzq)) .nil))) (pc (show ∀ zi,zi < rproduct9.fN.fL.length→AV.flatL ((cU .u16) (rproduct9.fN.fL.getD zi 0))=true from (fun _ _=>rfl)) (pc (show ∀ zi,zi < rproduct9.fD.fL.length→AV.flatL ((cU .u16) (rproduct9.fD.fL.getD zi 0))=true from (fun _ _=>rfl)) (pc (z1 2) (pc (show Sd 63 [(.sl 1 (fun zi=>(fun zi=>([[(aI 8)]]:List (List AV)).getD zi []) (addz 0 zi)))] [] 0 (.agg [(aB rproduct10.fN.fG),(.os 0 0 rproduct10.fN.fL.length),(aB rproduct10.fD.fG),(.os 1 0 rproduct10.fD.fL.length)]) [(0,aU rproduct10.fN.fL),(1,aU rproduct10.fD.fL)] from (Sound.conv (g_w_product_ok N ([8]:List Int) rproduct10 hr17) (.cons (Alike.sl rfl (fun zq hzq=>get_chunk cI 0 ([8]:List Int) zq hzq)) .nil))) (pc (show ∀ zi,zi < rproduct10.fN.fL.length→AV.flatL ((cU .u16) (rproduct10.fN.fL.getD zi 0))=true from (fun _ _=>rfl)) (pc (show ∀ zi,zi < rproduct10.fD.fL.length→AV.flatL ((cU .u16) (rproduct10.fD.fL.getD zi 0))=true from (fun _ _=>rfl)) (pc (z1 1) (pc (g_w_quotient_ok N (⟨rproduct9.fN,rproduct9.fD⟩:TRat) (⟨rproduct10.fN,rproduct10.fD⟩:TRat) rquotient5 hr18) (pc (show ∀ zi,zi < rquotient5.fN.fL.length→AV.flatL ((cU .u16) (rquotient5.fN.fL.getD zi 0))=true from (fun _ _=>rfl)) (pc (show ∀ zi,zi < rquotient5.fD.fL.length→AV.flatL ((cU .u16) (rquotient5.fD.fL.getD zi 0))=true from (fun _ _=>rfl)) (pc (z1 rproduct9.fN.fL.length) (pc (z1 rproduct9.fD.fL.length) (pc (z1 rproduct10.fN.fL.length) (pc (z1 rproduct10.fD.fL.length) (pc (g_e_SubRat_ok N (⟨rquotient4.fN,rquotient4.fD⟩:TRat) (⟨rquotient5.fN,rquotient5.fD⟩:TRat) rSubRat hr19) (pc (z1 rquotient4.fN.fL.length) (pc (z1 rquotient4.fD.fL.length) (pc (z1 rquotient5.fN.fL.length) (pc (z1 rquotient5.fD.fL.length) (pc o1 pn)))))))))))))))))))))))))))))))))))))))))))))))))))))))))))))))))))))))))))))))))))))) ?_
   obtain rfl:=osI h
   exact rnT hE 0 Tryz.f20 [672,673,864,865,1056,1057] (kp [4,5]) [(16,.var 16 [.keep,.sl (rquotient.fN.fL.length) (fun zi=>(cU .u16) (rquotient.fN.fL.getD zi 0)),.keep,.sl (rquotient.fD.fL.length) (fun zi=>(cU .u16) (rquotient.fD.fL.getD zi 0)),.keep,.sl (rquotient2.fN.fL.length) (fun zi=>(cU .u16) (rquotient2.fN.fL.getD zi 0)),.keep,.sl (rquotient2.fD.fL.length) (fun zi=>(cU .u16) (rquotient2.fD.fL.getD zi 0)),.keep,.sl (rquotient3.fN.fL.length) (fun zi=>(cU .u16) (rquotient3.fN.fL.getD zi 0)),.keep,.sl (rquotient3.fD.fL.length) (fun zi=>(cU .u16) (rquotient3.fD.fL.getD zi 0)),.keep,.keep,.keep,.keep])] 1376 (pc (Eq.refl rquotient.fN.fL.length) (pc (z1 rquotient.fN.fL.length) (pc (show ∀ zi,zi < rquotient.fN.fL.length→(fun zi=>(cU .u16) (rquotient.fN.fL.getD zi 0)) zi=(fun zi=>(cU .u16) (rquotient.fN.fL.getD zi 0)) (addz 0 zi) from (fun _ _=>rfl)) (pc (Eq.refl rquotient.fD.fL.length) (pc (z1 rquotient.fD.fL.length) (pc (show ∀ zi,zi < rquotient.fD.fL.length→(fun zi=>(cU .u16) (rquotient.fD.fL.getD zi 0)) zi=(fun zi=>(cU .u16) (rquotient.fD.fL.getD zi 0)) (addz 0 zi) from (fun _ _=>rfl)) (pc (Eq.refl rquotient2.fN.fL.length) (pc (z1 rquotient2.fN.fL.length) (pc (show ∀ zi,zi < rquotient2.fN.fL.length→(fun zi=>(cU .u16) (rquotient2.fN.fL.getD zi 0)) zi=(fun zi=>(cU .u16) (rquotient2.fN.fL.getD zi 0)) (addz 0 zi) from (fun _ _=>rfl)) (pc (Eq.refl rquotient2.fD.fL.length) (pc (z1 rquotient2.fD.fL.length) (pc (show ∀ zi,zi < rquotient2.fD.fL.length→(fun zi=>(cU .u16) (rquotient2.fD.fL.getD zi 0)) zi=(fun zi=>(cU .u16) (rquotient2.fD.fL.getD zi 0)) (addz 0 zi) from (fun _ _=>rfl)) (pc (Eq.refl rquotient3.fN.fL.length) (pc (z1 rquotient3.fN.fL.length) (pc (show ∀ zi,zi < rquotient3.fN.fL.length→(fun zi=>(cU .u16) (rquotient3.fN.fL.getD zi 0)) zi=(fun zi=>(cU .u16) (rquotient3.fN.fL.getD zi 0)) (addz 0 zi) from (fun _ _=>rfl)) (pc (Eq.refl rquotient3.fD.fL.length) (pc (z1 rquotient3.fD.fL.length) (pc (show ∀ zi,zi < rquotient3.fD.fL.length→(fun zi=>(cU .u16) (rquotient3.fD.fL.getD zi 0)) zi=(fun zi=>(cU .u16) (rquotient3.fD.fL.getD zi 0)) (addz 0 zi) from (fun _ _=>rfl)) pn)))))))))))))))))) [16] (pc o1 pn)
noncomputable def C_49 (n:Nat):Code:=cat (bodyOf Tryz.f90) (pth n)
def g_b_limbs_L1_H (N:Nat) (K:Int→(List Int)→Option ((List Int))):Prop:=∀ (n2:Int) (out:List Int) (r:(List Int)),K n2 out=some r→∀ E,EnvOk E 0→Runs Tryz.prog E 90 15 (SPost E [] (eU r)) [.code (C_49 56),.inLoop (C_49 56),.inBlock 0,.code (C_49 15)] ⟨[(0,(a64 n2)),(3,(.os 0 0 out.length))],[(0,aU out)],1⟩
theorem g_b_limbs_L1_ok (N:Nat) (fuel:Nat):g_b_limbs_L1_H N (g_b_limbs_L1 N fuel):=by
 induction fuel with
 | zero=>intro _ _ r h;rw [g_b_limbs_L1.eq_1] at h;cases h
 | succ fuel ih =>
  intro n2 out r h E hE
  rw [g_b_limbs_L1.eq_2] at h
  refine rnR hE 2 [] [] (kp [0,3,5]) (kq [0]) 33 pn ?_
  refine rnC 0 5 h (fun hq2 h=>?_) (fun hq2 h=>?_)
  ·obtain ⟨c,h⟩:=ifSome h
   refine rnR hE 3 [] [] (kp [0] ++ [(3,.osl ((out ++ ([(IntKind.u16.wrap ((andI .u64 n2 65535)))]:List Int)).length))]) [(113,.arr 113 ((out ++ ([(IntKind.u16.wrap ((andI .u64 n2 65535)))]:List Int)).length) (fun zi=>(cU .u16) ((out ++ ([(IntKind.u16.wrap ((andI .u64 n2 65535)))]:List Int)).getD zi 0)))] 145 (pc (Eq.refl out.length) (pc c (pc (z1 1) (pc (show ∀ zi,zi < 1→AV.oneL ((fun zi=>([[(a16 (IntKind.u16.wrap ((andI .u64 n2 65535))))]]:List (List AV)).getD zi []) (addz 0 zi))=true from (oneN rfl)) (pc (show (out.length+1)=(out ++ ([(IntKind.u16.wrap ((andI .u64 n2 65535)))]:List Int)).length from (len_app_raw rfl rfl)) (pc (show out.length+1=(out ++ ([(IntKind.u16.wrap ((andI .u64 n2 65535)))]:List Int)).length from (len_app_raw rfl rfl)) (pc (show ∀ zi,zi < (out ++ ([(IntKind.u16.wrap ((andI .u64 n2 65535)))]:List Int)).length→(fun zi=>(cU .u16) ((out ++ ([(IntKind.u16.wrap ((andI .u64 n2 65535)))]:List Int)).getD zi 0)) zi=((fun zm=>if zm < out.length then (fun zi=>(cU .u16) (out.getD zi 0)) zm else (fun zi=>([[(a16 (IntKind.u16.wrap ((andI .u64 n2 65535))))]]:List (List AV)).getD zi []) (zm - out.length))) zi from (get_app_raw (cU .u16) 0 out ([(IntKind.u16.wrap ((andI .u64 n2 65535)))]:List Int) rfl (fun _ _=>rfl) (fun zq hzq=>get_chunk (cU .u16) 0 ([(IntKind.u16.wrap ((andI .u64 n2 65535)))]:List Int) zq hzq))) pn))))))) ?_
   refine rnR hE 1 [] [] (kp [0,3]) (kq [113]) 193 (pc (show (0:Int)≤16 by decide) pn) ?_
   exact rnW hE 1 [] (kp [0,3]) [(0,.keep 113)] 1 pn (ih _ _ _ h E hE)
  ·refine rnR hE 2 [] [] (kp [2]) (kq [0]) 65 pn ?_
   obtain rfl:=osI h
   exact rnT hE 0 Tryz.f90 [0] [(2,.sl (out.length) (fun zi=>(cU .u16) (out.getD zi 0)))] [] 65 (pc (Eq.refl out.length) (pc (z1 out.length) (pc (show ∀ zi,zi < out.length→(fun zi=>(cU .u16) (out.getD zi 0)) zi=(fun zi=>(cU .u16) (out.getD zi 0)) (addz 0 zi) from (fun _ _=>rfl)) pn))) [] pn
theorem g_b_limbs_ok (N:Nat) (n:Int) (r:(List Int)) (h:g_b_limbs N n=some r):Sd 90 [(a64 n)] [] 0 (eU r) []:=by
 unfold g_b_limbs at h
 refine sor (fu:=Tryz.f90) (c:=C_49 1) (nt:=15) (by kernel_rfl) (by kernel_rfl) (by kernel_rfl) (by kernel_rfl) (fun hm=>rfl) ?_
 intro E hE
 refine rnR hE 1 [] [] (kp [0]) [] 16 pn ?_
 refine rnR hE 1 [] [] (kp [0,3]) [] 32 pn ?_
 exact rnW hE 3 [] (kp [0] ++ [(3,.nilos 0)]) [(0,.nil 1 (fun zi=>(cU .u16) (([]:List Int).getD zi 0)))] 1 pn (g_b_limbs_L1_ok N N _ _ _ h E hE)
noncomputable def C_48 (n:Nat):Code:=cat (bodyOf Tryz.f46) (pth n)
theorem g_b_Z_ok (N:Nat) (n:Int) (r:TInt) (h:g_b_Z N n=some r):Sd 46 [(aI n)] [] 0 (.agg (TIc r)) []:=by
 unfold g_b_Z at h
 refine sor (fu:=Tryz.f46) (c:=C_48 1) (nt:=16) (by kernel_rfl) (by kernel_rfl) (by kernel_rfl) (by kernel_rfl) (fun hm=>rfl) ?_
 intro E hE
 refine rnR hE 1 [] [] (kp [0,2]) (kq [0]) 16 pn ?_
 refine rnR hE 2 [] [] (kp [0,2,4]) (kq [0]) 48 pn ?_
 refine rnC 0 4 h (fun hq2 h=>?_) (fun hq2 h=>?_)
 ·obtain ⟨rlimbs,hr,h⟩:=bsm h
  refine rnR hE 1 [(5,⟨[],true,(eU rlimbs),[],0,false,none⟩)] [] (kp [2]) (kq [0]) 176 (pc (g_b_limbs_ok N (IntKind.u64.wrap ((IntKind.u64.wrap ((w64 (0 - (w64 (n+1))))))+1)) rlimbs hr) (pc o1 pn)) ?_
  obtain rfl:=osI h
  exact rnT hE 0 Tryz.f46 [] (kp [2]) [(16,.keep 0)] 176 pn [16] (pc o1 pn)
 ·obtain ⟨rlimbs2,hr2,h⟩:=bsm h
  refine rnR hE 2 [(2,⟨[],true,(eU rlimbs2),[],0,false,none⟩)] [] (kp [2]) (kq [0]) 128 (pc (g_b_limbs_ok N (IntKind.u64.wrap (n)) rlimbs2 hr2) (pc o1 pn)) ?_
  obtain rfl:=osI h
  exact rnT hE 0 Tryz.f46 [] (kp [2]) [(16,.keep 0)] 128 pn [16] (pc o1 pn)
noncomputable def C_47 (n:Nat):Code:=cat (bodyOf Tryz.f15) (pth n)
theorem g_b_W_ok (N:Nat) (n:Int) (r:TRat) (h:g_b_W N n=some r):Sd 15 [(aI n)] [] 0 (.agg (TRc r)) []:=by
 unfold g_b_W at h
 refine sor (fu:=Tryz.f15) (c:=C_47 1) (nt:=7) (by kernel_rfl) (by kernel_rfl) (by kernel_rfl) (by kernel_rfl) (fun hm=>rfl) ?_
 intro E hE
 refine rnR hE 1 [] [] (kp [0,2]) (kq [0]) 16 pn ?_
 obtain ⟨rZ,hr,h⟩:=bsm h
 obtain ⟨rZ2,hr2,h⟩:=bsm h
 refine rnR hE 1 [(1,⟨[],true,(.agg (TIc rZ)),[],0,false,none⟩),(2,⟨[],true,(.agg (TIc rZ2)),[],0,false,none⟩)] [] (kp [2]) (kq [0]) 96 (pc (g_b_Z_ok N n rZ hr) (pc (g_b_Z_ok N 1 rZ2 hr2) (pc o1 pn))) ?_
 obtain rfl:=osI h
 exact rnT hE 0 Tryz.f15 [] (kp [2]) [(16,.keep 0)] 96 pn [16] (pc o1 pn)
noncomputable def C_51 (n:Nat):Code:=cat (bodyOf Tryz.f65) (pth n)
def g_b_SameInt_L1_H (N:Nat) (a:TInt) (b:TInt) (K:Int→Option (Bool)):Prop:=∀ (i:Int) (r:Bool),K i=some r→∀ E,EnvOk E 0→Runs Tryz.prog E 65 38 (SPost E [] (aB r)) [.code (C_51 116),.inLoop (C_51 116),.inBlock 0,.code (C_51 15)] ⟨[(2,(.op 0 0 0)),(3,(.op 1 0 0)),(5,(aI i))],[(0,vO 2 (TIc a)),(1,vO 2 (TIc b))],2⟩
theorem g_b_SameInt_L1_ok (N:Nat) (a:TInt) (b:TInt) (fuel:Nat):g_b_SameInt_L1_H N a b (g_b_SameInt_L1 N a b fuel):=by
 induction fuel with
 | zero=>intro _ r h;rw [g_b_SameInt_L1.eq_1] at h;cases h
 | succ fuel ih =>
  intro i r h E hE
  rw [g_b_SameInt_L1.eq_2] at h
  refine rnR hE 2 [] [] (kp [2,3,5,24]) (kq [0,1]) 82 (pc o1 pn) ?_
  refine rnC 0 24 h (fun hq3 h=>?_) (fun hq3 h=>?_)
  ·obtain ⟨c,h⟩:=ifSome h
   obtain ⟨c2,h⟩:=ifSome h
   refine rnR hE 4 [] [] (kp [2,3,5,37]) (kq [0,1]) 258 (pc o1 (pc c (pc o1 (pc c2 pn)))) ?_
   refine rnC 0 37 h (fun hq4 h=>?_) (fun hq4 h=>?_)
   ·refine rnR hE 1 [] [] (kp [4]) [] 274 pn ?_
    obtain rfl:=osI h
    exact rnT hE 0 Tryz.f65 [] (kp [4]) [] 274 pn [] pn
   ·refine rnR hE 2 [] [] (kp [2,3,5]) (kq [0,1]) 306 pn ?_
    exact rnW hE 1 [] (kp [2,3,5]) (kq [0,1]) 2 pn (ih _ _ h E hE)
  ·refine rnR hE 2 [] [] (kp [4]) [] 98 pn ?_
   obtain rfl:=osI h
   exact rnT hE 0 Tryz.f65 [] (kp [4]) [] 98 pn [] pn
theorem g_b_SameInt_ok (N:Nat) (a:TInt) (b:TInt) (r:Bool) (h:g_b_SameInt N a b=some r):Sd 65 [(.agg (TIc a)),(.agg (TIc b))] [] 0 (aB r) []:=by
 unfold g_b_SameInt at h
 refine sor (fu:=Tryz.f65) (c:=C_51 1) (nt:=38) (by kernel_rfl) (by kernel_rfl) (by kernel_rfl) (by kernel_rfl) (fun hm=>rfl) ?_
 intro E hE
 refine rnR hE 1 [] [] (kp [2,3]) (kq [0,16]) 48 pn ?_
 refine rnR hE 2 [] [] (kp [2,3,19]) (kq [0,16]) 272 (pc o1 (pc o1 (pc (fun hg:(!(!(a.fG == b.fG)))=true=>(pc hg (pc o1 pn))) (pc (fun hg:(!(!(a.fG == b.fG)))=true=>(pc hg pn)) (pc (fun hg:(!(!(a.fG == b.fG)))=true=>(pc hg (pc o1 pn))) (pc (fun hg:(!(!(a.fG == b.fG)))=true=>(pc hg pn)) (pc (fun hg:(!(!(a.fG == b.fG)))=true=>(pc hg (pc hg pn))) (pc (fun hq:(!(!(a.fG == b.fG)))=true=>(pc hq pn)) pn)))))))) ?_
 refine rnC 0 19 h (fun hq2 h=>?_) (fun hq2 h=>?_)
 ·refine rnR hE 1 [] [] (kp [4]) [] 288 pn ?_
  obtain rfl:=osI h
  exact rnT hE 0 Tryz.f65 [] (kp [4]) [] 288 pn [] pn
 ·refine rnR hE 3 [] [] (kp [2,3,5]) (kq [0,16]) 288 pn ?_
  exact rnW hE 2 [] (kp [2,3,5]) (kq [0] ++ [(1,.keep 16)]) 2 pn (g_b_SameInt_L1_ok N _ _ N _ _ h E hE)
noncomputable def C_50 (n:Nat):Code:=cat (bodyOf Tryz.f21) (pth n)
theorem g_b_SameRat_ok (N:Nat) (a:TRat) (b:TRat) (r:Bool) (h:g_b_SameRat N a b=some r):Sd 21 [(.agg (TRc a)),(.agg (TRc b))] [] 0 (aB r) []:=by
 unfold g_b_SameRat at h
 refine sor (fu:=Tryz.f21) (c:=C_50 1) (nt:=17) (by kernel_rfl) (by kernel_rfl) (by kernel_rfl) (by kernel_rfl) (fun hm=>rfl) ?_
 intro E hE
 refine rnR hE 1 [] [] (kp [2,3]) (kq [0,16]) 48 pn ?_
 obtain ⟨rSameInt,hr,h⟩:=bsm h
 obtain ⟨rSameInt2,hr2,h⟩:=bsm h
 refine rnR hE 1 [(4,⟨[],true,(aB rSameInt),[],0,false,none⟩),(10,⟨[],true,(aB rSameInt2),[],0,false,none⟩)] [] (kp [4]) [] 256 (pc o1 (pc o1 (pc (g_b_SameInt_ok N a.fN b.fN rSameInt hr) (pc (fun hg:rSameInt=true=>(pc hg (pc o1 pn))) (pc (fun hg:rSameInt=true=>(pc hg (pc o1 pn))) (pc (fun hg:rSameInt=true=>(pc (g_b_SameInt_ok N a.fD b.fD rSameInt2 (condT hr2 hg)) (pc hg (pc hg pn)))) (pc (fun hq:rSameInt=true=>(pc hq pn)) pn))))))) ?_
 obtain rfl:=osI h
 exact rnT hE 0 Tryz.f21 [] (kp [4]) [] 256 pn [] pn
noncomputable def C_1 (n:Nat):Code:=cat (bodyOf Tryz.f5) (pth n)
theorem g_w05_afloat_ok (N:Nat) (r:Bool) (h:g_w05_afloat N=some r):Sd 5 [] [] 0 (aB r) []:=by
 unfold g_w05_afloat at h
 refine sor (fu:=Tryz.f5) (c:=C_1 1) (nt:=26) (by kernel_rfl) (by kernel_rfl) (by kernel_rfl) (by kernel_rfl) (fun hm=>rfl) ?_
 intro E hE
 refine rnR hE 1 [] [] [] [] 16 pn ?_
 refine rnR hE 1 [] [] (kp [1]) [(32,.arr 32 (([(⟨0,0,2000000⟩:TPm)]:List TPm).length) (fun zi=>TPm.cells (([(⟨0,0,2000000⟩:TPm)]:List TPm).getD zi TPm.d))),(64,.var 64 [.keep,.keep,.keep,.osl (([(⟨0,0,2000000⟩:TPm)]:List TPm).length),.keep])] 96 (pc o1 (pc (Eq.refl 1) (pc (show ∀ zi,zi < ([(⟨0,0,2000000⟩:TPm)]:List TPm).length→(fun zi=>TPm.cells (([(⟨0,0,2000000⟩:TPm)]:List TPm).getD zi TPm.d)) zi=(fun zi=>([[(aI 0),(aI 0),(aI 2000000)]]:List (List AV)).getD zi []) zi from (fun zq hzq=>get_chunk TPm.cells TPm.d ([(⟨0,0,2000000⟩:TPm)]:List TPm) zq hzq)) (pc (Eq.refl 1) pn)))) ?_
 obtain ⟨rFloat,hr,h⟩:=bsm h
 refine rnR hE 1 [(1,⟨[],true,(.tup [(.agg (TPose.cells rFloat.1)),(aI rFloat.2)]),[],0,true,none⟩)] [] (kp [2,3]) (kq [176]) 224 (pc o1 (pc (show Sd 20 [(.agg [(aI 100000),(aI 20000),(aI 1000),(encL TPm.cells TPm.d ([(⟨0,0,2000000⟩:TPm)]:List TPm)),.nil]),.nil] [] 0 (.tup [(.agg (TPose.cells rFloat.1)),(aI rFloat.2)]) [] from (Sound.conv (g_w_Float_ok N (⟨100000,20000,1000,([(⟨0,0,2000000⟩:TPm)]:List TPm),([]:List TTank)⟩:TPn) ([]:List Int) rFloat hr) (.cons (Alike.agg (.cons (Alike.refl _) (.cons (Alike.refl _) (.cons (Alike.refl _) (.cons (Alike.refl _) (.cons Alike.nil .nil)))))) (.cons Alike.nil .nil)))) (pc (z1 (([(⟨0,0,2000000⟩:TPm)]:List TPm).length)) (pc o1 pn)))) ?_
 obtain ⟨rW,hr2,h⟩:=bsm h
 obtain ⟨rSameRat,hr3,h⟩:=bsm h
 obtain ⟨rW2,hr4,h⟩:=bsm h
 obtain ⟨rSameRat2,hr5,h⟩:=bsm h
 refine rnR hE 1 [(5,⟨[],true,(.agg (TRc rW)),[],0,false,none⟩),(6,⟨[],true,(aB rSameRat),[],0,false,none⟩),(11,⟨[],true,(.agg (TRc rW2)),[],0,false,none⟩),(12,⟨[],true,(aB rSameRat2),[],0,false,none⟩)] [] (kp [0]) [] 464 (pc (fun hg:(rFloat.2 == 0)=true=>(pc hg (pc o1 pn))) (pc (fun hg:(rFloat.2 == 0)=true=>(pc (g_b_W_ok N 1000 rW (condT hr2 hg)) pn)) (pc (fun hg:(rFloat.2 == 0)=true=>(pc (g_b_SameRat_ok N rFloat.1.f_Draught rW rSameRat (condT hr3 hg)) (pc hg (pc hg pn)))) (pc (fun hq:(rFloat.2 == 0)=true=>(pc hq pn)) (pc (fun hg:(cond (rFloat.2 == 0) rSameRat false)=true=>(pc hg (pc o1 pn))) (pc (fun hg:(cond (rFloat.2 == 0) rSameRat false)=true=>(pc (g_b_W_ok N (-25000000000) rW2 (condT hr4 hg)) pn)) (pc (fun hg:(cond (rFloat.2 == 0) rSameRat false)=true=>(pc (g_b_SameRat_ok N rFloat.1.f_Hog rW2 rSameRat2 (condT hr5 hg)) (pc hg (pc hg pn)))) (pc (fun hq:(cond (rFloat.2 == 0) rSameRat false)=true=>(pc hq pn)) pn)))))))) ?_
 obtain rfl:=osI h
 exact rnT hE 0 Tryz.f5 [] (kp [0]) [] 464 pn [] pn
noncomputable def C_53 (n:Nat):Code:=cat (bodyOf Tryz.f22) (pth n)
def g_w05_fewMasses_L1_H (N:Nat) (p:TPn) (K:Int→Option (Bool)):Prop:=∀ (i:Int) (r:Bool),K i=some r→∀ E,EnvOk E 0→Runs Tryz.prog E 22 29 (SPost E [] (aB r)) [.code (C_53 116),.inLoop (C_53 116),.inBlock 0,.code (C_53 15)] ⟨[(1,(.op 0 0 0)),(3,(aI i))],[(0,vO 5 (TPn.cells p))],1⟩
theorem g_w05_fewMasses_L1_ok (N:Nat) (p:TPn) (fuel:Nat):g_w05_fewMasses_L1_H N p (g_w05_fewMasses_L1 N p fuel):=by
 induction fuel with
 | zero=>intro _ r h;rw [g_w05_fewMasses_L1.eq_1] at h;cases h
 | succ fuel ih =>
  intro i r h E hE
  rw [g_w05_fewMasses_L1.eq_2] at h
  refine rnR hE 2 [] [] (kp [1,3,18]) (kq [0]) 81 (pc o1 pn) ?_
  refine rnC 0 18 h (fun hq3 h=>?_) (fun hq3 h=>?_)
  ·obtain ⟨c,h⟩:=ifSome h
   refine rnR hE 4 [] [] (kp [1,3,28]) (kq [0]) 209 (pc o1 (pc c pn)) ?_
   refine rnC 0 28 h (fun hq4 h=>?_) (fun hq4 h=>?_)
   ·refine rnR hE 1 [] [] (kp [2]) [] 225 pn ?_
    obtain rfl:=osI h
    exact rnT hE 0 Tryz.f22 [] (kp [2]) [] 225 pn [] pn
   ·refine rnR hE 2 [] [] (kp [1,3]) (kq [0]) 257 pn ?_
    exact rnW hE 1 [] (kp [1,3]) (kq [0]) 1 pn (ih _ _ h E hE)
  ·refine rnR hE 2 [] [] (kp [2]) [] 97 pn ?_
   obtain rfl:=osI h
   exact rnT hE 0 Tryz.f22 [] (kp [2]) [] 97 pn [] pn
theorem g_w05_fewMasses_ok (N:Nat) (p:TPn) (r:Bool) (h:g_w05_fewMasses N p=some r):Sd 22 [(.agg (TPn.cells p))] [] 0 (aB r) []:=by
 unfold g_w05_fewMasses at h
 refine sor (fu:=Tryz.f22) (c:=C_53 1) (nt:=29) (by kernel_rfl) (by kernel_rfl) (by kernel_rfl) (by kernel_rfl) (fun hm=>rfl) ?_
 intro E hE
 refine rnR hE 1 [] [] (kp [1]) (kq [0]) 32 pn ?_
 refine rnR hE 2 [] [] (kp [1,13]) (kq [0]) 192 (pc o1 (pc (fun hg:(!(decide (((p.fMs.length:Nat):Int) > 25)))=true=>(pc hg (pc o1 pn))) (pc (fun hg:(!(decide (((p.fMs.length:Nat):Int) > 25)))=true=>(pc hg pn)) (pc (fun hg:(!(decide (((p.fMs.length:Nat):Int) > 25)))=true=>(pc hg pn)) (pc (fun hq:(!(decide (((p.fMs.length:Nat):Int) > 25)))=true=>(pc hq pn)) pn))))) ?_
 refine rnC 0 13 h (fun hq2 h=>?_) (fun hq2 h=>?_)
 ·refine rnR hE 1 [] [] (kp [2]) [] 208 pn ?_
  obtain rfl:=osI h
  exact rnT hE 0 Tryz.f22 [] (kp [2]) [] 208 pn [] pn
 ·refine rnR hE 3 [] [] (kp [1,3]) (kq [0]) 208 pn ?_
  exact rnW hE 2 [] (kp [1,3]) (kq [0]) 1 pn (g_w05_fewMasses_L1_ok N _ N _ _ h E hE)
noncomputable def C_55 (n:Nat):Code:=cat (bodyOf Tryz.f66) (pth n)
theorem g_r05_inside_ok (N:Nat) (n:Int) (low:Int) (high:Int) (r:Bool) (h:g_r05_inside N n low high=some r):Sd 66 [(aI n),(aI low),(aI high)] [] 0 (aB r) []:=by
 unfold g_r05_inside at h
 refine sor (fu:=Tryz.f66) (c:=C_55 1) (nt:=15) (by kernel_rfl) (by kernel_rfl) (by kernel_rfl) (by kernel_rfl) (fun hm=>rfl) ?_
 intro E hE
 refine rnR hE 1 [] [] (kp [0,1,2]) [] 16 pn ?_
 refine rnR hE 1 [] [] (kp [6]) [] 160 (pc (fun hg:(decide (n≥low))=true=>(pc hg (pc hg pn))) (pc (fun hq:(decide (n≥low))=true=>(pc hq pn)) pn)) ?_
 obtain rfl:=osI h
 exact rnT hE 0 Tryz.f66 [] (kp [6]) [] 160 pn [] pn
noncomputable def C_56 (n:Nat):Code:=cat (bodyOf Tryz.f67) (pth n)
def g_b_IsName_L1_H (N:Nat) (s:ByteArray) (K:Int→Option (Bool)):Prop:=∀ (i:Int) (r:Bool),K i=some r→∀ E,EnvOk E 0→Runs Tryz.prog E 67 55 (SPost E [] (aB r)) [.code (C_56 116),.inLoop (C_56 116),.inBlock 0,.code (C_56 15)] ⟨[(0,(aS s)),(3,(aI i))],[],0⟩
theorem g_b_IsName_L1_ok (N:Nat) (s:ByteArray) (fuel:Nat):g_b_IsName_L1_H N s (g_b_IsName_L1 N s fuel):=by
 induction fuel with
 | zero=>intro _ r h;rw [g_b_IsName_L1.eq_1] at h;cases h
 | succ fuel ih =>
  intro i r h E hE
  rw [g_b_IsName_L1.eq_2] at h
  refine rnR hE 2 [] [] (kp [0,3,17]) [] 64 pn ?_
  refine rnC 0 17 h (fun hq3 h=>?_) (fun hq3 h=>?_)
  ·obtain ⟨c,h⟩:=ifSome h
   refine rnR hE 4 [] [] (kp [0,3,4]) [] 128 (pc c pn) ?_
   refine rnR hE 1 [] [] (kp [0,3,4,5]) [] 368 (pc (fun hg:(decide ((zA s i)≥97))=true=>(pc hg pn)) (pc (fun hq:(decide ((zA s i)≥97))=true=>(pc hq pn)) (pc (fun hg:(!(cond (decide ((zA s i)≥97)) (decide ((zA s i)≤122)) false))=true=>(pc hg pn)) (pc (fun hg:((!(cond (decide ((zA s i)≥97)) (decide ((zA s i)≤122)) false)) && ((!(cond (decide ((zA s i)≥97)) (decide ((zA s i)≤122)) false)) && (decide ((zA s i)≥65))))=true=>(pc hg pn)) (pc (fun hg:(!(cond (decide ((zA s i)≥97)) (decide ((zA s i)≤122)) false))=true=>(pc hg (pc hg (pc (fun hq:(decide ((zA s i)≥65))=true=>(pc (show ((!(cond (decide ((zA s i)≥97)) (decide ((zA s i)≤122)) false)) && ((!(cond (decide ((zA s i)≥97)) (decide ((zA s i)≤122)) false)) && (decide ((zA s i)≥65))))=true from (andI' hg (andI' hg hq))) pn)) pn)))) (pc (fun hq:(!(cond (decide ((zA s i)≥97)) (decide ((zA s i)≤122)) false))=true=>(pc hq pn)) pn)))))) ?_
   refine rnR hE 1 [] [] (kp [0,3,54]) [] 656 (pc (fun hg:(!(cond (cond (decide ((zA s i)≥97)) (decide ((zA s i)≤122)) false) true (cond (decide ((zA s i)≥65)) (decide ((zA s i)≤90)) false)))=true=>(pc hg pn)) (pc (fun hg:((!(cond (cond (decide ((zA s i)≥97)) (decide ((zA s i)≤122)) false) true (cond (decide ((zA s i)≥65)) (decide ((zA s i)≤90)) false))) && ((!(cond (cond (decide ((zA s i)≥97)) (decide ((zA s i)≤122)) false) true (cond (decide ((zA s i)≥65)) (decide ((zA s i)≤90)) false))) && (!(i == 0))))=true=>(pc hg pn)) (pc (fun hg:(((!(cond (cond (decide ((zA s i)≥97)) (decide ((zA s i)≤122)) false) true (cond (decide ((zA s i)≥65)) (decide ((zA s i)≤90)) false))) && ((!(cond (cond (decide ((zA s i)≥97)) (decide ((zA s i)≤122)) false) true (cond (decide ((zA s i)≥65)) (decide ((zA s i)≤90)) false))) && (!(i == 0)))) && (((!(cond (cond (decide ((zA s i)≥97)) (decide ((zA s i)≤122)) false) true (cond (decide ((zA s i)≥65)) (decide ((zA s i)≤90)) false))) && ((!(cond (cond (decide ((zA s i)≥97)) (decide ((zA s i)≤122)) false) true (cond (decide ((zA s i)≥65)) (decide ((zA s i)≤90)) false))) && (!(i == 0)))) && ((zA s i) != 45)))=true=>(pc hg pn)) (pc (fun hg:((((!(cond (cond (decide ((zA s i)≥97)) (decide ((zA s i)≤122)) false) true (cond (decide ((zA s i)≥65)) (decide ((zA s i)≤90)) false))) && ((!(cond (cond (decide ((zA s i)≥97)) (decide ((zA s i)≤122)) false) true (cond (decide ((zA s i)≥65)) (decide ((zA s i)≤90)) false))) && (!(i == 0)))) && (((!(cond (cond (decide ((zA s i)≥97)) (decide ((zA s i)≤122)) false) true (cond (decide ((zA s i)≥65)) (decide ((zA s i)≤90)) false))) && ((!(cond (cond (decide ((zA s i)≥97)) (decide ((zA s i)≤122)) false) true (cond (decide ((zA s i)≥65)) (decide ((zA s i)≤90)) false))) && (!(i == 0)))) && ((zA s i) != 45))) && ((((!(cond (cond (decide ((zA s i)≥97)) (decide ((zA s i)≤122)) false) true (cond (decide ((zA s i)≥65)) (decide ((zA s i)≤90)) false))) && ((!(cond (cond (decide ((zA s i)≥97)) (decide ((zA s i)≤122)) false) true (cond (decide ((zA s i)≥65)) (decide ((zA s i)≤90)) false))) && (!(i == 0)))) && (((!(cond (cond (decide ((zA s i)≥97)) (decide ((zA s i)≤122)) false) true (cond (decide ((zA s i)≥65)) (decide ((zA s i)≤90)) false))) && ((!(cond (cond (decide ((zA s i)≥97)) (decide ((zA s i)≤122)) false) true (cond (decide ((zA s i)≥65)) (decide ((zA s i)≤90)) false))) && (!(i == 0)))) && ((zA s i) != 45))) && (!(decide ((zA s i) < 48)))))=true=>(pc hg pn)) (pc (fun hg:(((!(cond (cond (decide ((zA s i)≥97)) (decide ((zA s i)≤122)) false) true (cond (decide ((zA s i)≥65)) (decide ((zA s i)≤90)) false))) && ((!(cond (cond (decide ((zA s i)≥97)) (decide ((zA s i)≤122)) false) true (cond (decide ((zA s i)≥65)) (decide ((zA s i)≤90)) false))) && (!(i == 0)))) && (((!(cond (cond (decide ((zA s i)≥97)) (decide ((zA s i)≤122)) false) true (cond (decide ((zA s i)≥65)) (decide ((zA s i)≤90)) false))) && ((!(cond (cond (decide ((zA s i)≥97)) (decide ((zA s i)≤122)) false) true (cond (decide ((zA s i)≥65)) (decide ((zA s i)≤90)) false))) && (!(i == 0)))) && ((zA s i) != 45)))=true=>(pc hg (pc hg (pc (fun hq:(!(decide ((zA s i) < 48)))=true=>(pc (show ((((!(cond (cond (decide ((zA s i)≥97)) (decide ((zA s i)≤122)) false) true (cond (decide ((zA s i)≥65)) (decide ((zA s i)≤90)) false))) && ((!(cond (cond (decide ((zA s i)≥97)) (decide ((zA s i)≤122)) false) true (cond (decide ((zA s i)≥65)) (decide ((zA s i)≤90)) false))) && (!(i == 0)))) && (((!(cond (cond (decide ((zA s i)≥97)) (decide ((zA s i)≤122)) false) true (cond (decide ((zA s i)≥65)) (decide ((zA s i)≤90)) false))) && ((!(cond (cond (decide ((zA s i)≥97)) (decide ((zA s i)≤122)) false) true (cond (decide ((zA s i)≥65)) (decide ((zA s i)≤90)) false))) && (!(i == 0)))) && ((zA s i) != 45))) && ((((!(cond (cond (decide ((zA s i)≥97)) (decide ((zA s i)≤122)) false) true (cond (decide ((zA s i)≥65)) (decide ((zA s i)≤90)) false))) && ((!(cond (cond (decide ((zA s i)≥97)) (decide ((zA s i)≤122)) false) true (cond (decide ((zA s i)≥65)) (decide ((zA s i)≤90)) false))) && (!(i == 0)))) && (((!(cond (cond (decide ((zA s i)≥97)) (decide ((zA s i)≤122)) false) true (cond (decide ((zA s i)≥65)) (decide ((zA s i)≤90)) false))) && ((!(cond (cond (decide ((zA s i)≥97)) (decide ((zA s i)≤122)) false) true (cond (decide ((zA s i)≥65)) (decide ((zA s i)≤90)) false))) && (!(i == 0)))) && ((zA s i) != 45))) && (!(decide ((zA s i) < 48)))))=true from (andI' hg (andI' hg hq))) pn)) pn)))) (pc (fun hg:((!(cond (cond (decide ((zA s i)≥97)) (decide ((zA s i)≤122)) false) true (cond (decide ((zA s i)≥65)) (decide ((zA s i)≤90)) false))) && ((!(cond (cond (decide ((zA s i)≥97)) (decide ((zA s i)≤122)) false) true (cond (decide ((zA s i)≥65)) (decide ((zA s i)≤90)) false))) && (!(i == 0))))=true=>(pc hg (pc hg (pc (fun hq:((zA s i) != 45)=true=>(pc (show (((!(cond (cond (decide ((zA s i)≥97)) (decide ((zA s i)≤122)) false) true (cond (decide ((zA s i)≥65)) (decide ((zA s i)≤90)) false))) && ((!(cond (cond (decide ((zA s i)≥97)) (decide ((zA s i)≤122)) false) true (cond (decide ((zA s i)≥65)) (decide ((zA s i)≤90)) false))) && (!(i == 0)))) && (((!(cond (cond (decide ((zA s i)≥97)) (decide ((zA s i)≤122)) false) true (cond (decide ((zA s i)≥65)) (decide ((zA s i)≤90)) false))) && ((!(cond (cond (decide ((zA s i)≥97)) (decide ((zA s i)≤122)) false) true (cond (decide ((zA s i)≥65)) (decide ((zA s i)≤90)) false))) && (!(i == 0)))) && ((zA s i) != 45)))=true from (andI' hg (andI' hg hq))) pn)) pn)))) (pc (fun hg:(!(cond (cond (decide ((zA s i)≥97)) (decide ((zA s i)≤122)) false) true (cond (decide ((zA s i)≥65)) (decide ((zA s i)≤90)) false)))=true=>(pc hg (pc hg (pc (fun hq:(!(i == 0))=true=>(pc (show ((!(cond (cond (decide ((zA s i)≥97)) (decide ((zA s i)≤122)) false) true (cond (decide ((zA s i)≥65)) (decide ((zA s i)≤90)) false))) && ((!(cond (cond (decide ((zA s i)≥97)) (decide ((zA s i)≤122)) false) true (cond (decide ((zA s i)≥65)) (decide ((zA s i)≤90)) false))) && (!(i == 0))))=true from (andI' hg (andI' hg hq))) pn)) pn)))) (pc (fun hq:(!(cond (cond (decide ((zA s i)≥97)) (decide ((zA s i)≤122)) false) true (cond (decide ((zA s i)≥65)) (decide ((zA s i)≤90)) false)))=true=>(pc hq pn)) pn)))))))) ?_
   refine rnC 0 54 h (fun hq4 h=>?_) (fun hq4 h=>?_)
   ·refine rnR hE 1 [] [] (kp [2]) [] 672 pn ?_
    obtain rfl:=osI h
    exact rnT hE 0 Tryz.f67 [] (kp [2]) [] 672 pn [] pn
   ·refine rnR hE 2 [] [] (kp [0,3]) [] 704 pn ?_
    exact rnW hE 1 [] (kp [0,3]) [] 0 pn (ih _ _ h E hE)
  ·refine rnR hE 2 [] [] (kp [2]) [] 80 pn ?_
   obtain rfl:=osI h
   exact rnT hE 0 Tryz.f67 [] (kp [2]) [] 80 pn [] pn
theorem g_b_IsName_ok (N:Nat) (s:ByteArray) (r:Bool) (h:g_b_IsName N s=some r):Sd 67 [(aS s)] [] 0 (aB r) []:=by
 unfold g_b_IsName at h
 refine sor (fu:=Tryz.f67) (c:=C_56 1) (nt:=55) (by kernel_rfl) (by kernel_rfl) (by kernel_rfl) (by kernel_rfl) (fun hm=>rfl) ?_
 intro E hE
 refine rnR hE 1 [] [] (kp [0]) [] 16 pn ?_
 refine rnR hE 2 [] [] (kp [0,13]) [] 144 (pc (fun hg:(!(decide (((s.size:Nat):Int) < 1)))=true=>(pc hg pn)) (pc (fun hg:(!(decide (((s.size:Nat):Int) < 1)))=true=>(pc hg pn)) (pc (fun hq:(!(decide (((s.size:Nat):Int) < 1)))=true=>(pc hq pn)) pn))) ?_
 refine rnC 0 13 h (fun hq2 h=>?_) (fun hq2 h=>?_)
 ·refine rnR hE 1 [] [] (kp [2]) [] 160 pn ?_
  obtain rfl:=osI h
  exact rnT hE 0 Tryz.f67 [] (kp [2]) [] 160 pn [] pn
 ·refine rnR hE 3 [] [] (kp [0,3]) [] 160 pn ?_
  exact rnW hE 2 [] (kp [0,3]) [] 0 pn (g_b_IsName_L1_ok N _ N _ _ h E hE)
noncomputable def C_54 (n:Nat):Code:=cat (bodyOf Tryz.f23) (pth n)
def g_r05_CheckPontoon_L1_H (N:Nat) (p:TPn) (K:Int→Option (Int)):Prop:=∀ (i:Int) (r:Int),K i=some r→∀ E,EnvOk E 0→Runs Tryz.prog E 23 112 (SPost E [] (aI r)) [.code (C_54 244),.inLoop (C_54 244),.inBlock 0,.code (C_54 31)] ⟨[(1,(.op 0 0 0)),(3,(aI i))],[(0,vO 5 (TPn.cells p))],1⟩
def g_r05_CheckPontoon_L2_H (N:Nat) (p:TPn) (K:Int→Option (Int)):Prop:=∀ (i2:Int) (r:Int),K i2=some r→∀ E,EnvOk E 0→Runs Tryz.prog E 23 112 (SPost E [] (aI r)) [.code (C_54 1012),.inLoop (C_54 1012),.inBlock 2,.code (C_54 127)] ⟨[(1,(.op 0 0 0)),(5,(aI i2))],[(0,vO 5 (TPn.cells p))],1⟩
def g_r05_CheckPontoon_L3_H (N:Nat) (p:TPn) (i2:Int) (K:Int→Option (Int)):Prop:=∀ (k:Int) (r:Int),K k=some r→∀ E,EnvOk E 0→Runs Tryz.prog E 23 112 (SPost E [] (aI r)) [.code (C_54 518452),.inLoop (C_54 518452),.inBlock 4,.code (C_54 64807),.inBlock 3,.code (C_54 4051),.inLoop (C_54 1012),.inBlock 2,.code (C_54 127)] ⟨[(1,(.op 0 0 0)),(5,(aI i2)),(6,(.op 1 0 0)),(7,(aI k))],[(0,vO 5 (TPn.cells p)),(1,vO 5 (TTank.cells (p.fTk.getD ((i2).toNat) TTank.d)))],2⟩
theorem g_r05_CheckPontoon_L3_ok (N:Nat) (p:TPn) (i2:Int) (K_g_r05_CheckPontoon_L2:Int→Option (Int)) (hK_g_r05_CheckPontoon_L2:g_r05_CheckPontoon_L2_H N p K_g_r05_CheckPontoon_L2) (fuel:Nat):g_r05_CheckPontoon_L3_H N p i2 (g_r05_CheckPontoon_L3 N p i2 K_g_r05_CheckPontoon_L2 fuel):=by
 induction fuel with
 | zero=>intro _ r h;rw [g_r05_CheckPontoon_L3.eq_1] at h;cases h
 | succ fuel ih =>
  intro k r h E hE
  rw [g_r05_CheckPontoon_L3.eq_2] at h
  refine rnR hE 2 [] [] (kp [1,5,6,7,78]) (kq [0,1]) 50 pn ?_
  refine rnC 0 78 h (fun hq9 h=>?_) (fun hq9 h=>?_)
  ·obtain ⟨c3,h⟩:=ifSome h
   refine rnR hE 4 [] [] (kp [1,5,6,7,89]) (kq [0,1]) 194 (pc o1 (pc c3 (pc o1 pn))) ?_
   refine rnC 0 89 h (fun hq10 h=>?_) (fun hq10 h=>?_)
   ·refine rnR hE 1 [] [] (kp [2]) [] 210 pn ?_
    obtain rfl:=osI h
    exact rnT hE 0 Tryz.f23 [] (kp [2]) [] 210 pn [] pn
   ·refine rnR hE 2 [] [] (kp [1,5,6,7]) (kq [0,1]) 242 pn ?_
    exact rnW hE 1 [] (kp [1,5,6,7]) (kq [0,1]) 2 pn (ih _ _ h E hE)
  ·obtain ⟨rIn7,hr8,h⟩:=bsm h
   obtain ⟨rIn8,hr9,h⟩:=bsm h
   obtain ⟨rIn9,hr10,h⟩:=bsm h
   obtain ⟨rIn10,hr11,h⟩:=bsm h
   refine rnR hE 2 [(2,⟨[],true,(aB rIn7),[],0,false,none⟩),(7,⟨[],true,(aB rIn8),[],0,false,none⟩),(13,⟨[],true,(aB rIn9),[],0,false,none⟩),(19,⟨[],true,(aB rIn10),[],0,false,none⟩)] [] (kp [1,5,111]) (kq [0]) 402 (pc o1 (pc (g_r05_inside_ok N ((p.fTk.getD ((i2).toNat) TTank.d).f_X) (-1000000) 1000000 rIn7 hr8) (pc (fun hg:(!(!rIn7))=true=>(pc hg (pc o1 pn))) (pc (fun hg:(!(!rIn7))=true=>(pc (g_r05_inside_ok N ((p.fTk.getD ((i2).toNat) TTank.d).f_Y) (-1000000) 1000000 rIn8 (condT hr9 hg)) (pc hg pn))) (pc (fun hg:(!(!rIn7))=true=>(pc hg pn)) (pc (fun hq:(!(!rIn7))=true=>(pc hq pn)) (pc (fun hg:(!(cond (!rIn7) true (!rIn8)))=true=>(pc hg (pc o1 pn))) (pc (fun hg:(!(cond (!rIn7) true (!rIn8)))=true=>(pc (g_r05_inside_ok N ((p.fTk.getD ((i2).toNat) TTank.d).f_Steps) 0 12 rIn9 (condT hr10 hg)) (pc hg pn))) (pc (fun hg:(!(cond (!rIn7) true (!rIn8)))=true=>(pc hg pn)) (pc (fun hq:(!(cond (!rIn7) true (!rIn8)))=true=>(pc hq pn)) (pc (fun hg:(!(cond (cond (!rIn7) true (!rIn8)) true (!rIn9)))=true=>(pc hg (pc o1 pn))) (pc (fun hg:(!(cond (cond (!rIn7) true (!rIn8)) true (!rIn9)))=true=>(pc (g_r05_inside_ok N ((p.fTk.getD ((i2).toNat) TTank.d).fMa) 0 1000000000 rIn10 (condT hr11 hg)) (pc hg pn))) (pc (fun hg:(!(cond (cond (!rIn7) true (!rIn8)) true (!rIn9)))=true=>(pc hg pn)) (pc (fun hq:(!(cond (cond (!rIn7) true (!rIn8)) true (!rIn9)))=true=>(pc hq pn)) pn)))))))))))))) ?_
   refine rnC 0 111 h (fun hq11 h=>?_) (fun hq11 h=>?_)
   ·refine rnR hE 1 [] [] (kp [2]) [] 418 pn ?_
    obtain rfl:=osI h
    exact rnT hE 0 Tryz.f23 [] (kp [2]) [] 418 pn [] pn
   ·refine rnR hE 2 [] [] (kp [1,5]) (kq [0]) 450 pn ?_
    exact rnW hE 1 [] (kp [1,5]) (kq [0]) 1 pn (hK_g_r05_CheckPontoon_L2 _ _ h E hE)
theorem g_r05_CheckPontoon_L2_ok (N:Nat) (p:TPn) (fuel:Nat):g_r05_CheckPontoon_L2_H N p (g_r05_CheckPontoon_L2 N p fuel):=by
 induction fuel with
 | zero=>intro _ r h;rw [g_r05_CheckPontoon_L2.eq_1] at h;cases h
 | succ fuel ih =>
  intro i2 r h E hE
  rw [g_r05_CheckPontoon_L2.eq_2] at h
  refine rnR hE 2 [] [] (kp [1,5,64]) (kq [0]) 81 (pc o1 pn) ?_
  refine rnC 0 64 h (fun hq7 h=>?_) (fun hq7 h=>?_)
  ·obtain ⟨c2,h⟩:=ifSome h
   refine rnR hE 4 [] [] (kp [1,5,6]) (kq [0,161]) 193 (pc o1 (pc c2 (pc o1 pn))) ?_
   obtain ⟨rIsName,hr7,h⟩:=bsm h
   refine rnR hE 2 [(2,⟨[],true,(aB rIsName),[],0,false,none⟩)] [] (kp [1,5,6,75]) (kq [0,161]) 257 (pc o1 (pc (g_b_IsName_ok N ((p.fTk.getD ((i2).toNat) TTank.d).f_Name) rIsName hr7) pn)) ?_
   refine rnC 0 75 h (fun hq8 h=>?_) (fun hq8 h=>?_)
   ·refine rnR hE 1 [] [] (kp [2]) [] 273 pn ?_
    obtain rfl:=osI h
    exact rnT hE 0 Tryz.f23 [] (kp [2]) [] 273 pn [] pn
   ·refine rnR hE 3 [] [] (kp [1,5,6,7]) (kq [0,161]) 273 pn ?_
    exact rnW hE 2 [] (kp [1,5,6,7]) (kq [0] ++ [(1,.keep 161)]) 2 pn (g_r05_CheckPontoon_L3_ok N _ _ _ ih N _ _ h E hE)
  ·refine rnR hE 2 [] [] (kp [2]) [] 97 pn ?_
   obtain rfl:=osI h
   exact rnT hE 0 Tryz.f23 [] (kp [2]) [] 97 pn [] pn
theorem g_r05_CheckPontoon_L1_ok (N:Nat) (p:TPn) (fuel:Nat):g_r05_CheckPontoon_L1_H N p (g_r05_CheckPontoon_L1 N p fuel):=by
 induction fuel with
 | zero=>intro _ r h;rw [g_r05_CheckPontoon_L1.eq_1] at h;cases h
 | succ fuel ih =>
  intro i r h E hE
  rw [g_r05_CheckPontoon_L1.eq_2] at h
  refine rnR hE 2 [] [] (kp [1,3,32]) (kq [0]) 81 (pc o1 pn) ?_
  refine rnC 0 32 h (fun hq4 h=>?_) (fun hq4 h=>?_)
  ·obtain ⟨c,h⟩:=ifSome h
   refine rnR hE 4 [] [] (kp [1,3,4]) (kq [0,161]) 193 (pc o1 (pc c (pc o1 pn))) ?_
   obtain ⟨rIn4,hr4,h⟩:=bsm h
   obtain ⟨rIn5,hr5,h⟩:=bsm h
   obtain ⟨rIn6,hr6,h⟩:=bsm h
   refine rnR hE 1 [(2,⟨[],true,(aB rIn4),[],0,false,none⟩),(7,⟨[],true,(aB rIn5),[],0,false,none⟩),(13,⟨[],true,(aB rIn6),[],0,false,none⟩)] [] (kp [1,3,55]) (kq [0]) 449 (pc o1 (pc (g_r05_inside_ok N ((p.fMs.getD ((i).toNat) TPm.d).f_X) (-1000000) 1000000 rIn4 hr4) (pc (fun hg:(!(!rIn4))=true=>(pc hg (pc o1 pn))) (pc (fun hg:(!(!rIn4))=true=>(pc (g_r05_inside_ok N ((p.fMs.getD ((i).toNat) TPm.d).f_Y) (-1000000) 1000000 rIn5 (condT hr5 hg)) (pc hg pn))) (pc (fun hg:(!(!rIn4))=true=>(pc hg pn)) (pc (fun hq:(!(!rIn4))=true=>(pc hq pn)) (pc (fun hg:(!(cond (!rIn4) true (!rIn5)))=true=>(pc hg (pc o1 pn))) (pc (fun hg:(!(cond (!rIn4) true (!rIn5)))=true=>(pc (g_r05_inside_ok N ((p.fMs.getD ((i).toNat) TPm.d).fMa) 0 1000000000 rIn6 (condT hr6 hg)) (pc hg pn))) (pc (fun hg:(!(cond (!rIn4) true (!rIn5)))=true=>(pc hg pn)) (pc (fun hq:(!(cond (!rIn4) true (!rIn5)))=true=>(pc hq pn)) pn)))))))))) ?_
   refine rnC 0 55 h (fun hq5 h=>?_) (fun hq5 h=>?_)
   ·refine rnR hE 1 [] [] (kp [2]) [] 465 pn ?_
    obtain rfl:=osI h
    exact rnT hE 0 Tryz.f23 [] (kp [2]) [] 465 pn [] pn
   ·refine rnR hE 2 [] [] (kp [1,3]) (kq [0]) 497 pn ?_
    exact rnW hE 1 [] (kp [1,3]) (kq [0]) 1 pn (ih _ _ h E hE)
  ·refine rnR hE 3 [] [] (kp [1,59]) (kq [0]) 145 (pc o1 pn) ?_
   refine rnC 0 59 h (fun hq6 h=>?_) (fun hq6 h=>?_)
   ·refine rnR hE 1 [] [] (kp [2]) [] 161 pn ?_
    obtain rfl:=osI h
    exact rnT hE 0 Tryz.f23 [] (kp [2]) [] 161 pn [] pn
   ·refine rnR hE 3 [] [] (kp [1,5]) (kq [0]) 161 pn ?_
    exact rnW hE 2 [] (kp [1,5]) (kq [0]) 1 pn (g_r05_CheckPontoon_L2_ok N _ N _ _ h E hE)
theorem g_r05_CheckPontoon_ok (N:Nat) (p:TPn) (r:Int) (h:g_r05_CheckPontoon N p=some r):Sd 23 [(.agg (TPn.cells p))] [] 0 (aI r) []:=by
 unfold g_r05_CheckPontoon at h
 refine sor (fu:=Tryz.f23) (c:=C_54 1) (nt:=112) (by kernel_rfl) (by kernel_rfl) (by kernel_rfl) (by kernel_rfl) (fun hm=>rfl) ?_
 intro E hE
 refine rnR hE 1 [] [] (kp [1]) (kq [0]) 32 pn ?_
 obtain ⟨rIn,hr,h⟩:=bsm h
 obtain ⟨rIn2,hr2,h⟩:=bsm h
 obtain ⟨rIn3,hr3,h⟩:=bsm h
 refine rnR hE 2 [(2,⟨[],true,(aB rIn),[],0,false,none⟩),(7,⟨[],true,(aB rIn2),[],0,false,none⟩),(13,⟨[],true,(aB rIn3),[],0,false,none⟩)] [] (kp [1,23]) (kq [0]) 288 (pc o1 (pc (g_r05_inside_ok N p.fLn 1 1000000 rIn hr) (pc (fun hg:(!(!rIn))=true=>(pc hg (pc o1 pn))) (pc (fun hg:(!(!rIn))=true=>(pc (g_r05_inside_ok N p.fBr 1 1000000 rIn2 (condT hr2 hg)) (pc hg pn))) (pc (fun hg:(!(!rIn))=true=>(pc hg pn)) (pc (fun hq:(!(!rIn))=true=>(pc hq pn)) (pc (fun hg:(!(cond (!rIn) true (!rIn2)))=true=>(pc hg (pc o1 pn))) (pc (fun hg:(!(cond (!rIn) true (!rIn2)))=true=>(pc (g_r05_inside_ok N p.fDsity 900 1100 rIn3 (condT hr3 hg)) (pc hg pn))) (pc (fun hg:(!(cond (!rIn) true (!rIn2)))=true=>(pc hg pn)) (pc (fun hq:(!(cond (!rIn) true (!rIn2)))=true=>(pc hq pn)) pn)))))))))) ?_
 refine rnC 0 23 h (fun hq2 h=>?_) (fun hq2 h=>?_)
 ·refine rnR hE 1 [] [] (kp [2]) [] 304 pn ?_
  obtain rfl:=osI h
  exact rnT hE 0 Tryz.f23 [] (kp [2]) [] 304 pn [] pn
 ·refine rnR hE 3 [] [] (kp [1,27]) (kq [0]) 352 (pc o1 pn) ?_
  refine rnC 0 27 h (fun hq3 h=>?_) (fun hq3 h=>?_)
  ·refine rnR hE 1 [] [] (kp [2]) [] 368 pn ?_
   obtain rfl:=osI h
   exact rnT hE 0 Tryz.f23 [] (kp [2]) [] 368 pn [] pn
  ·refine rnR hE 3 [] [] (kp [1,3]) (kq [0]) 368 pn ?_
   exact rnW hE 2 [] (kp [1,3]) (kq [0]) 1 pn (g_r05_CheckPontoon_L1_ok N _ N _ _ h E hE)
noncomputable def C_57 (n:Nat):Code:=cat (bodyOf Tryz.f11) (pth n)
def g_r05_States_L1_H (N:Nat) (p:TPn) (most:Int) (K:Int→Int→Option (Int)):Prop:=∀ (n:Int) (i:Int) (r:Int),K n i=some r→∀ E,EnvOk E 0→Runs Tryz.prog E 11 28 (SPost E [] (aI r)) [.code (C_57 116),.inLoop (C_57 116),.inBlock 0,.code (C_57 15)] ⟨[(1,(aI most)),(2,(.op 0 0 0)),(5,(aI n)),(6,(aI i))],[(0,vO 5 (TPn.cells p))],1⟩
theorem g_r05_States_L1_ok (N:Nat) (p:TPn) (most:Int) (fuel:Nat):g_r05_States_L1_H N p most (g_r05_States_L1 N p most fuel):=by
 induction fuel with
 | zero=>intro _ _ r h;rw [g_r05_States_L1.eq_1] at h;cases h
 | succ fuel ih =>
  intro n i r h E hE
  rw [g_r05_States_L1.eq_2] at h
  refine rnR hE 2 [] [] (kp [1,2,5,6,11]) (kq [0]) 81 (pc o1 pn) ?_
  refine rnC 0 11 h (fun hq2 h=>?_) (fun hq2 h=>?_)
  ·obtain ⟨c,h⟩:=ifSome h
   refine rnR hE 4 [] [] (kp [1,2,5,6]) (kq [0]) 241 (pc o1 (pc c pn)) ?_
   refine rnR hE 1 [] [] (kp [1,2,5,6,25]) (kq [0]) 289 pn ?_
   refine rnC 0 25 h (fun hq3 h=>?_) (fun hq3 h=>?_)
   ·refine rnR hE 1 [] [] (kp [4]) [] 321 pn ?_
    obtain rfl:=osI h
    exact rnT hE 0 Tryz.f11 [] (kp [4]) [] 321 pn [] pn
   ·refine rnR hE 2 [] [] (kp [1,2,5,6]) (kq [0]) 337 pn ?_
    exact rnW hE 1 [] (kp [1,2,5,6]) (kq [0]) 1 pn (ih _ _ _ h E hE)
  ·refine rnR hE 2 [] [] (kp [4]) [] 113 pn ?_
   obtain rfl:=osI h
   exact rnT hE 0 Tryz.f11 [] (kp [4]) [] 113 pn [] pn
theorem g_r05_States_ok (N:Nat) (p:TPn) (most:Int) (r:Int) (h:g_r05_States N p most=some r):Sd 11 [(.agg (TPn.cells p)),(aI most)] [] 0 (aI r) []:=by
 unfold g_r05_States at h
 refine sor (fu:=Tryz.f11) (c:=C_57 1) (nt:=28) (by kernel_rfl) (by kernel_rfl) (by kernel_rfl) (by kernel_rfl) (fun hm=>rfl) ?_
 intro E hE
 refine rnR hE 1 [] [] (kp [1,2]) (kq [0]) 32 pn ?_
 refine rnR hE 1 [] [] (kp [1,2,5]) (kq [0]) 48 pn ?_
 refine rnR hE 2 [] [] (kp [1,2,5,6]) (kq [0]) 64 pn ?_
 exact rnW hE 2 [] (kp [1,2,5,6]) (kq [0]) 1 pn (g_r05_States_L1_ok N _ _ N _ _ _ h E hE)
noncomputable def C_52 (n:Nat):Code:=cat (bodyOf Tryz.f6) (pth n)
def g_w05_light_J1_H (N:Nat) (K:Int→Option (Bool)):Prop:=∀ (n:Int) (r:Bool),K n=some r→∀ E,EnvOk E 0→Runs Tryz.prog E 6 18 (SPost E [] (aB r)) [.code (C_52 62),.code (C_52 63)] ⟨[(3,(aI n))],[],0⟩
theorem g_w05_light_J1_ok (N:Nat):g_w05_light_J1_H N (g_w05_light_J1 N):=by
 intro n r h E hE
 unfold g_w05_light_J1 at h
 refine rnR hE 0 [] [] (kp [2]) [] 112 (pc (fun hg:(!(decide (n≤60)))=true=>(pc hg pn)) (pc (fun hq:(!(decide (n≤60)))=true=>(pc hq pn)) pn)) ?_
 obtain rfl:=osI h
 exact rnT hE 0 Tryz.f6 [] (kp [2]) [] 112 pn [] pn
theorem g_w05_light_ok (N:Nat) (p:TPn) (r:Bool) (h:g_w05_light N p=some r):Sd 6 [(.agg (TPn.cells p))] [] 0 (aB r) []:=by
 unfold g_w05_light at h
 refine sor (fu:=Tryz.f6) (c:=C_52 1) (nt:=18) (by kernel_rfl) (by kernel_rfl) (by kernel_rfl) (by kernel_rfl) (fun hm=>rfl) ?_
 intro E hE
 refine rnR hE 1 [] [] (kp [1]) (kq [0]) 32 pn ?_
 obtain ⟨rfewMasses,hr,h⟩:=bsm h
 refine rnR hE 2 [(1,⟨[],true,(aB rfewMasses),[],0,false,none⟩)] [] (kp [1,6]) (kq [0]) 80 (pc o1 (pc (g_w05_fewMasses_ok N p rfewMasses hr) pn)) ?_
 refine rnC 0 6 h (fun hq2 h=>?_) (fun hq2 h=>?_)
 ·refine rnR hE 1 [] [] (kp [2]) [] 96 pn ?_
  obtain rfl:=osI h
  exact rnT hE 0 Tryz.f6 [] (kp [2]) [] 96 pn [] pn
 ·refine rnR hE 2 [] [] (kp [1,3]) (kq [0]) 96 pn ?_
  obtain ⟨rCP,hr2,h⟩:=bsm h
  refine rnR hE 2 [(1,⟨[],true,(aI rCP),[],0,false,none⟩)] [] (kp [1,3,9]) (kq [0]) 144 (pc o1 (pc (g_r05_CheckPontoon_ok N p rCP hr2) pn)) ?_
  refine rnC 0 9 h (fun hq3 h=>?_) (fun hq3 h=>?_)
  ·obtain ⟨rStates,hr3,h⟩:=bsm h
   refine rnR hE 0 [(1,⟨[],true,(aI rStates),[],0,false,none⟩)] [] (kp [3]) [] 192 (pc o1 (pc (g_r05_States_ok N p 20000 rStates hr3) pn)) ?_
   exact rnW hE 1 [] (kp [3]) [] 0 pn (g_w05_light_J1_ok N _ _ h E hE)
  ·exact rnW hE 2 [] (kp [3]) [] 0 pn (g_w05_light_J1_ok N _ _ h E hE)
noncomputable def C_60 (n:Nat):Code:=cat (bodyOf Tryz.f41) (pth n)
theorem g_w_checkLimits_ok (N:Nat) (l:TLimits) (r:Int) (h:g_w_checkLimits N l=some r):Sd 41 [(.agg (TLimits.cells l))] [] 0 (aI r) []:=by
 unfold g_w_checkLimits at h
 refine sor (fu:=Tryz.f41) (c:=C_60 1) (nt:=31) (by kernel_rfl) (by kernel_rfl) (by kernel_rfl) (by kernel_rfl) (fun hm=>rfl) ?_
 intro E hE
 refine rnR hE 1 [] [] (kp [1]) (kq [0]) 32 pn ?_
 obtain ⟨rBt,hr,h⟩:=bsm h
 obtain ⟨rBt2,hr2,h⟩:=bsm h
 obtain ⟨rBt3,hr3,h⟩:=bsm h
 obtain ⟨rBt4,hr4,h⟩:=bsm h
 obtain ⟨rBt5,hr5,h⟩:=bsm h
 refine rnR hE 2 [(2,⟨[],true,(aB rBt),[],0,false,none⟩),(7,⟨[],true,(aB rBt2),[],0,false,none⟩),(13,⟨[],true,(aB rBt3),[],0,false,none⟩),(19,⟨[],true,(aB rBt4),[],0,false,none⟩),(25,⟨[],true,(aB rBt5),[],0,false,none⟩)] [] (kp [30]) [] 480 (pc o1 (pc (g_w_between_ok N l.f_DraughtLeast 0 1000000 rBt hr) (pc (fun hg:(!(!rBt))=true=>(pc hg (pc o1 pn))) (pc (fun hg:(!(!rBt))=true=>(pc (g_w_between_ok N l.f_DraughtMost 0 1000000 rBt2 (condT hr2 hg)) (pc hg pn))) (pc (fun hg:(!(!rBt))=true=>(pc hg pn)) (pc (fun hq:(!(!rBt))=true=>(pc hq pn)) (pc (fun hg:(!(cond (!rBt) true (!rBt2)))=true=>(pc hg (pc o1 pn))) (pc (fun hg:(!(cond (!rBt) true (!rBt2)))=true=>(pc (g_w_between_ok N l.f_TrimMost 0 1000 rBt3 (condT hr3 hg)) (pc hg pn))) (pc (fun hg:(!(cond (!rBt) true (!rBt2)))=true=>(pc hg pn)) (pc (fun hq:(!(cond (!rBt) true (!rBt2)))=true=>(pc hq pn)) (pc (fun hg:(!(cond (cond (!rBt) true (!rBt2)) true (!rBt3)))=true=>(pc hg (pc o1 pn))) (pc (fun hg:(!(cond (cond (!rBt) true (!rBt2)) true (!rBt3)))=true=>(pc (g_w_between_ok N l.f_HeelMost 0 1000 rBt4 (condT hr4 hg)) (pc hg pn))) (pc (fun hg:(!(cond (cond (!rBt) true (!rBt2)) true (!rBt3)))=true=>(pc hg pn)) (pc (fun hq:(!(cond (cond (!rBt) true (!rBt2)) true (!rBt3)))=true=>(pc hq pn)) (pc (fun hg:(!(cond (cond (cond (!rBt) true (!rBt2)) true (!rBt3)) true (!rBt4)))=true=>(pc hg (pc o1 pn))) (pc (fun hg:(!(cond (cond (cond (!rBt) true (!rBt2)) true (!rBt3)) true (!rBt4)))=true=>(pc (g_w_between_ok N l.f_HogMost 0 1000000000000000000 rBt5 (condT hr5 hg)) (pc hg pn))) (pc (fun hg:(!(cond (cond (cond (!rBt) true (!rBt2)) true (!rBt3)) true (!rBt4)))=true=>(pc hg pn)) (pc (fun hq:(!(cond (cond (cond (!rBt) true (!rBt2)) true (!rBt3)) true (!rBt4)))=true=>(pc hq pn)) pn)))))))))))))))))) ?_
 refine rnC 0 30 h (fun hq2 h=>?_) (fun hq2 h=>?_)
 ·refine rnR hE 1 [] [] (kp [2]) [] 496 pn ?_
  obtain rfl:=osI h
  exact rnT hE 0 Tryz.f41 [] (kp [2]) [] 496 pn [] pn
 ·refine rnR hE 2 [] [] (kp [2]) [] 496 pn ?_
  obtain rfl:=osI h
  exact rnT hE 0 Tryz.f41 [] (kp [2]) [] 496 pn [] pn
noncomputable def C_63 (n:Nat):Code:=cat (bodyOf Tryz.f114) (pth n)
theorem g_w_draughts_1_ok (N:Nat) (d:Int) (C0:TPn) (r:TRat) (h:g_w_draughts_1 N d C0=some r):Sd 114 [(aI d),(.op 0 0 0)] [(0,vO 5 (TPn.cells C0))] 1 (.agg [(aB r.fN.fG),(.os 1 0 r.fN.fL.length),(aB r.fD.fG),(.os 2 0 r.fD.fL.length)]) [(0,vO 5 (TPn.cells C0)),(1,aU r.fN.fL),(2,aU r.fD.fL)]:=by
 unfold g_w_draughts_1 at h
 refine sor (fu:=Tryz.f114) (c:=C_63 1) (nt:=16) (by kernel_rfl) (by kernel_rfl) (by kernel_rfl) (by kernel_rfl) (fun hm=>absurd hm (by decide)) ?_
 intro E hE
 refine rnR hE 1 [] [] (kp [0,1,3]) (kq [0,1]) 17 pn ?_
 obtain ⟨rproduct,hr,h⟩:=bsm h
 obtain ⟨rproduct2,hr2,h⟩:=bsm h
 obtain ⟨rquotient,hr3,h⟩:=bsm h
 refine rnR hE 1 [(8,⟨[],false,(.agg [(aB rproduct.fN.fG),(.os 0 0 rproduct.fN.fL.length),(aB rproduct.fD.fG),(.os 1 0 rproduct.fD.fL.length)]),[(0,aU rproduct.fN.fL),(1,aU rproduct.fD.fL)],0,false,none⟩),(10,⟨[],false,(.agg [(aB rproduct2.fN.fG),(.os 0 0 rproduct2.fN.fL.length),(aB rproduct2.fD.fG),(.os 1 0 rproduct2.fD.fL.length)]),[(0,aU rproduct2.fN.fL),(1,aU rproduct2.fD.fL)],0,false,none⟩),(11,⟨[],false,(.agg [(aB rquotient.fN.fG),(.os 0 0 rquotient.fN.fL.length),(aB rquotient.fD.fG),(.os 1 0 rquotient.fD.fL.length)]),[(0,aU rquotient.fN.fL),(1,aU rquotient.fD.fL)],0,false,none⟩)] [] (kp [3]) (kq [0,1,193,194]) 225 (pc o1 (pc o1 (pc o1 (pc (show Sd 63 [(.sl 4 (fun zi=>(fun zi=>([[(aI d)],[(aI C0.fDsity)],[(aI C0.fLn)],[(aI C0.fBr)]]:List (List AV)).getD zi []) (addz 0 zi)))] [] 0 (.agg [(aB rproduct.fN.fG),(.os 0 0 rproduct.fN.fL.length),(aB rproduct.fD.fG),(.os 1 0 rproduct.fD.fL.length)]) [(0,aU rproduct.fN.fL),(1,aU rproduct.fD.fL)] from (Sound.conv (g_w_product_ok N ([d,C0.fDsity,C0.fLn,C0.fBr]:List Int) rproduct hr) (.cons (Alike.sl rfl (fun zq hzq=>get_chunk cI 0 ([d,C0.fDsity,C0.fLn,C0.fBr]:List Int) zq hzq)) .nil))) (pc (show ∀ zi,zi < rproduct.fN.fL.length→AV.flatL ((cU .u16) (rproduct.fN.fL.getD zi 0))=true from (fun _ _=>rfl)) (pc (show ∀ zi,zi < rproduct.fD.fL.length→AV.flatL ((cU .u16) (rproduct.fD.fL.getD zi 0))=true from (fun _ _=>rfl)) (pc (z1 4) (pc (show Sd 63 [(.sl 1 (fun zi=>(fun zi=>([[(aI 1000000000)]]:List (List AV)).getD zi []) (addz 0 zi)))] [] 0 (.agg [(aB rproduct2.fN.fG),(.os 0 0 rproduct2.fN.fL.length),(aB rproduct2.fD.fG),(.os 1 0 rproduct2.fD.fL.length)]) [(0,aU rproduct2.fN.fL),(1,aU rproduct2.fD.fL)] from (Sound.conv (g_w_product_ok N ([1000000000]:List Int) rproduct2 hr2) (.cons (Alike.sl rfl (fun zq hzq=>get_chunk cI 0 ([1000000000]:List Int) zq hzq)) .nil))) (pc (show ∀ zi,zi < rproduct2.fN.fL.length→AV.flatL ((cU .u16) (rproduct2.fN.fL.getD zi 0))=true from (fun _ _=>rfl)) (pc (show ∀ zi,zi < rproduct2.fD.fL.length→AV.flatL ((cU .u16) (rproduct2.fD.fL.getD zi 0))=true from (fun _ _=>rfl)) (pc (z1 1) (pc (g_w_quotient_ok N (⟨rproduct.fN,rproduct.fD⟩:TRat) (⟨rproduct2.fN,rproduct2.fD⟩:TRat) rquotient hr3) (pc (show ∀ zi,zi < rquotient.fN.fL.length→AV.flatL ((cU .u16) (rquotient.fN.fL.getD zi 0))=true from (fun _ _=>rfl)) (pc (show ∀ zi,zi < rquotient.fD.fL.length→AV.flatL ((cU .u16) (rquotient.fD.fL.getD zi 0))=true from (fun _ _=>rfl)) (pc (z1 rproduct.fN.fL.length) (pc (z1 rproduct.fD.fL.length) (pc (z1 rproduct2.fN.fL.length) (pc (z1 rproduct2.fD.fL.length) (pc o1 pn))))))))))))))))))) ?_
 obtain rfl:=osI h
 exact rnT hE 0 Tryz.f114 [] (kp [3]) (kq [0] ++ [(1,.keep 193),(2,.keep 194),(17,.var 1 [.keep,.keep,.keep,.keep])]) 225 pn [17] (pc o1 pn)
noncomputable def C_66 (n:Nat):Code:=cat (bodyOf Tryz.f152) (pth n)
def g_e_DivMod_J1_H (N:Nat) (a:TInt) (b:TInt) (K:(List Int)→(List Int)→Option (TInt×TInt×Int)):Prop:=∀ (n:List Int) (rest:List Int) (r:TInt×TInt×Int),K n rest=some r→∀ E,EnvOk E 0→Runs Tryz.prog E 152 50 (SPost E [] (.tup [(.agg (TIc r.1)),(.agg (TIc r.2.1)),(aI r.2.2)])) [.code (C_66 126),.code (C_66 127)] ⟨[(2,(.op 0 0 0)),(3,(.op 1 0 0)),(4,(.op 2 0 0)),(5,(.op 3 0 0)),(9,(eU n)),(10,(eU rest))],[(0,vO 2 (TIc a)),(1,vO 2 (TIc b)),(2,vO 2 [(aB false),.nil]),(3,vO 2 [(aB false),.nil])],4⟩
theorem g_e_DivMod_J1_ok (N:Nat) (a:TInt) (b:TInt):g_e_DivMod_J1_H N a b (g_e_DivMod_J1 N a b):=by
 intro n rest r h E hE
 unfold g_e_DivMod_J1 at h
 obtain ⟨rSg,hr6,h⟩:=bsm h
 obtain ⟨rSg2,hr7,h⟩:=bsm h
 refine rnR hE 0 [(6,⟨[],false,(.agg [(aB rSg.fG),(.os 0 0 rSg.fL.length)]),[(0,aU rSg.fL)],0,false,none⟩),(8,⟨[],false,(.agg [(aB rSg2.fG),(.os 0 0 rSg2.fL.length)]),[(0,aU rSg2.fL)],0,false,none⟩)] [] (kp [4,5,6]) (kq [2,3,100,132]) 196 (pc o1 (pc o1 (pc (g_e_signed_ok N (!(a.fG == b.fG)) n rSg hr6) (pc (g_e_signed_ok N false rest rSg2 hr7) (pc o1 (pc o1 pn)))))) ?_
 obtain rfl:=osI h
 exact rnT hE 0 Tryz.f152 [100,132] (kp [4,5,6]) [(16,.var 2 [.keep,.sl (rSg.fL.length) (fun zi=>(cU .u16) (rSg.fL.getD zi 0))]),(17,.var 3 [.keep,.sl (rSg2.fL.length) (fun zi=>(cU .u16) (rSg2.fL.getD zi 0))])] 196 (pc (Eq.refl rSg.fL.length) (pc (z1 rSg.fL.length) (pc (show ∀ zi,zi < rSg.fL.length→(fun zi=>(cU .u16) (rSg.fL.getD zi 0)) zi=(fun zi=>(cU .u16) (rSg.fL.getD zi 0)) (addz 0 zi) from (fun _ _=>rfl)) (pc (Eq.refl rSg2.fL.length) (pc (z1 rSg2.fL.length) (pc (show ∀ zi,zi < rSg2.fL.length→(fun zi=>(cU .u16) (rSg2.fL.getD zi 0)) zi=(fun zi=>(cU .u16) (rSg2.fL.getD zi 0)) (addz 0 zi) from (fun _ _=>rfl)) pn)))))) [16,17] (pc o1 (pc o1 pn))
theorem g_e_DivMod_ok (N:Nat) (a:TInt) (b:TInt) (r:TInt×TInt×Int) (h:g_e_DivMod N a b=some r):Sd 152 [(.agg (TIc a)),(.agg (TIc b))] [] 0 (.tup [(.agg (TIc r.1)),(.agg (TIc r.2.1)),(aI r.2.2)]) []:=by
 unfold g_e_DivMod at h
 refine sor (fu:=Tryz.f152) (c:=C_66 1) (nt:=50) (by kernel_rfl) (by kernel_rfl) (by kernel_rfl) (by kernel_rfl) (fun hm=>rfl) ?_
 intro E hE
 refine rnR hE 1 [] [] (kp [2,3,4,5]) (kq [0,16,32,48]) 80 pn ?_
 obtain ⟨rtrim,hr,h⟩:=bsm h
 obtain ⟨rtrim2,hr2,h⟩:=bsm h
 refine rnR hE 1 [(2,⟨[],true,(eU rtrim),[],0,false,none⟩),(5,⟨[],true,(eU rtrim2),[],0,false,none⟩)] [] (kp [2,3,4,5,7,8]) (kq [0,16,32,48]) 208 (pc o1 (pc (g_e_trim_ok N a.fL rtrim hr) (pc o1 (pc (g_e_trim_ok N b.fL rtrim2 hr2) pn)))) ?_
 refine rnR hE 2 [] [] (kp [2,3,4,5,7,8,19]) (kq [0,16,32,48]) 256 pn ?_
 refine rnC 0 19 h (fun hq2 h=>?_) (fun hq2 h=>?_)
 ·refine rnR hE 1 [] [] (kp [4,5,6]) (kq [32,48]) 336 (pc o1 (pc o1 pn)) ?_
  obtain rfl:=osI h
  exact rnT hE 0 Tryz.f152 [] (kp [4,5,6]) [(16,.var 32 [.keep,.sl (([]:List Int).length) (fun zi=>(cU .u16) (([]:List Int).getD zi 0))]),(17,.var 48 [.keep,.sl (([]:List Int).length) (fun zi=>(cU .u16) (([]:List Int).getD zi 0))])] 336 (pc (Eq.refl 0) (pc (Eq.refl 0) pn)) [16,17] (pc o1 (pc o1 pn))
 ·obtain ⟨rdivide,hr3,h⟩:=bsm h
  refine rnR hE 2 [(2,⟨[],true,(.tup [(eU rdivide.1),(eU rdivide.2)]),[],0,false,none⟩)] [] (kp [2,3,4,5,8,9,10]) (kq [0,16,32,48]) 384 (pc (g_e_divide_ok N rtrim rtrim2 rdivide hr3) pn) ?_
  refine rnR hE 2 [] [] (kp [2,3,4,5,8,9,10,34]) (kq [0,16,32,48]) 496 (pc o1 (pc (fun hg:a.fG=true=>(pc hg pn)) (pc (fun hg:a.fG=true=>(pc hg pn)) (pc (fun hq:a.fG=true=>(pc hq pn)) pn)))) ?_
  refine rnC 0 34 h (fun hq3 h=>?_) (fun hq3 h=>?_)
  ·obtain ⟨rplus,hr4,h⟩:=bsm h
   obtain ⟨rminus,hr5,h⟩:=bsm h
   refine rnR hE 0 [(2,⟨[],true,(eU rplus),[],0,true,none⟩),(5,⟨[],true,(eU rminus),[],0,false,none⟩)] [] (kp [2,3,4,5,9,10]) (kq [0,16,32,48]) 624 (pc (show Sd 155 [(eU rdivide.1),(.sl 1 (fun zi=>(fun zi=>([[(a16 1)]]:List (List AV)).getD zi []) (addz 0 zi)))] [] 0 (eU rplus) [] from (Sound.conv (g_e_plus_ok N rdivide.1 ([1]:List Int) rplus hr4) (.cons (Alike.refl _) (.cons (Alike.sl rfl (fun zq hzq=>get_chunk (cU .u16) 0 ([1]:List Int) zq hzq)) .nil)))) (pc (z1 1) (pc (g_e_minus_ok N rtrim2 rdivide.2 rminus hr5) pn))) ?_
   exact rnW hE 1 [] (kp [2,3,4,5,9,10]) (kq [0] ++ [(1,.keep 16),(2,.keep 32),(3,.keep 48)]) 4 pn (g_e_DivMod_J1_ok N _ _ _ _ _ h E hE)
  ·exact rnW hE 2 [] (kp [2,3,4,5,9,10]) (kq [0] ++ [(1,.keep 16),(2,.keep 32),(3,.keep 48)]) 4 pn (g_e_DivMod_J1_ok N _ _ _ _ _ h E hE)
noncomputable def C_65 (n:Nat):Code:=cat (bodyOf Tryz.f129) (pth n)
theorem g_e_Floor_ok (N:Nat) (x:TRat) (r:TInt) (h:g_e_Floor N x=some r):Sd 129 [(.agg (TRc x))] [] 0 (.agg (TIc r)) []:=by
 unfold g_e_Floor at h
 refine sor (fu:=Tryz.f129) (c:=C_65 1) (nt:=18) (by kernel_rfl) (by kernel_rfl) (by kernel_rfl) (by kernel_rfl) (fun hm=>rfl) ?_
 intro E hE
 refine rnR hE 1 [] [] (kp [1,2]) (kq [0,16]) 32 pn ?_
 obtain ⟨rlowest,hr,h⟩:=bsm h
 refine rnR hE 1 [(1,⟨[],true,(.agg (TRc rlowest)),[],0,false,none⟩)] [] (kp [1,2]) (kq [0,16]) 80 (pc o1 (pc (g_e_lowest_ok N x rlowest hr) (pc o1 pn))) ?_
 obtain ⟨rDivMod,hr2,h⟩:=bsm h
 refine rnR hE 1 [(4,⟨[],true,(.tup [(.agg (TIc rDivMod.1)),(.agg (TIc rDivMod.2.1)),(aI rDivMod.2.2)]),[],0,false,none⟩)] [] (kp [2,3]) (kq [16,224]) 304 (pc o1 (pc o1 (pc (g_e_DivMod_ok N rlowest.fN rlowest.fD rDivMod hr2) (pc o1 (pc o1 pn))))) ?_
 refine rnR hE 1 [] [] (kp [2]) (kq [16]) 336 (pc o1 (pc o1 pn)) ?_
 obtain rfl:=osI h
 exact rnT hE 0 Tryz.f129 [] (kp [2]) (kq [16]) 336 pn [16] (pc o1 pn)
noncomputable def C_67 (n:Nat):Code:=cat (bodyOf Tryz.f128) (pth n)
theorem g_e_Small_ok (N:Nat) (a:TInt) (r:Int×Bool) (h:g_e_Small N a=some r):Sd 128 [(.agg (TIc a))] [] 0 (.tup [(aI r.1),(aB r.2)]) []:=by
 unfold g_e_Small at h
 refine sor (fu:=Tryz.f128) (c:=C_67 1) (nt:=36) (by kernel_rfl) (by kernel_rfl) (by kernel_rfl) (by kernel_rfl) (fun hm=>rfl) ?_
 intro E hE
 refine rnR hE 1 [] [] (kp [1]) (kq [0]) 48 pn ?_
 obtain ⟨rtrim,hr,h⟩:=bsm h
 obtain ⟨rword,hr2,h⟩:=bsm h
 refine rnR hE 1 [(2,⟨[],true,(eU rtrim),[],0,false,none⟩),(3,⟨[],true,(.tup [(a64 rword.1),(aB rword.2)]),[],0,false,none⟩)] [] (kp [1,4,5]) (kq [0]) 192 (pc o1 (pc (g_e_trim_ok N a.fL rtrim hr) (pc (g_e_word_ok N rtrim rword hr2) pn))) ?_
 refine rnR hE 3 [] [] (kp [1,4,13]) (kq [0]) 240 pn ?_
 refine rnC 0 13 h (fun hq2 h=>?_) (fun hq2 h=>?_)
 ·refine rnR hE 1 [] [] (kp [2,3]) [] 272 pn ?_
  obtain rfl:=osI h
  exact rnT hE 0 Tryz.f128 [] (kp [2,3]) [] 272 pn [] pn
 ·refine rnR hE 1 [] [] (kp [1,4,16]) (kq [0]) 352 (pc o1 (pc (fun hg:a.fG=true=>(pc hg pn)) (pc (fun hq:a.fG=true=>(pc hq pn)) pn))) ?_
  refine rnC 0 16 h (fun hq3 h=>?_) (fun hq3 h=>?_)
  ·refine rnR hE 1 [] [] (kp [2,3]) [] 432 pn ?_
   obtain rfl:=osI h
   exact rnT hE 0 Tryz.f128 [] (kp [2,3]) [] 432 pn [] pn
  ·refine rnR hE 1 [] [] (kp [4,26]) [] 480 (pc o1 (pc (fun hg:(!a.fG)=true=>(pc hg pn)) (pc (fun hq:(!a.fG)=true=>(pc hq pn)) pn))) ?_
   refine rnC 0 26 h (fun hq4 h=>?_) (fun hq4 h=>?_)
   ·refine rnR hE 1 [] [] (kp [2,3]) [] 544 pn ?_
    obtain rfl:=osI h
    exact rnT hE 0 Tryz.f128 [] (kp [2,3]) [] 544 pn [] pn
   ·refine rnR hE 3 [] [] (kp [2,3]) [] 512 pn ?_
    obtain rfl:=osI h
    exact rnT hE 0 Tryz.f128 [] (kp [2,3]) [] 512 pn [] pn
noncomputable def C_64 (n:Nat):Code:=cat (bodyOf Tryz.f89) (pth n)
theorem g_w_whole_ok (N:Nat) (x:TRat) (r:Int) (h:g_w_whole N x=some r):Sd 89 [(.agg (TRc x))] [] 0 (aI r) []:=by
 unfold g_w_whole at h
 refine sor (fu:=Tryz.f89) (c:=C_64 1) (nt:=12) (by kernel_rfl) (by kernel_rfl) (by kernel_rfl) (by kernel_rfl) (fun hm=>rfl) ?_
 intro E hE
 refine rnR hE 1 [] [] (kp [1]) (kq [0]) 32 pn ?_
 obtain ⟨rFloor,hr,h⟩:=bsm h
 obtain ⟨rSmall,hr2,h⟩:=bsm h
 refine rnR hE 1 [(1,⟨[],true,(.agg (TIc rFloor)),[],0,false,none⟩),(2,⟨[],true,(.tup [(aI rSmall.1),(aB rSmall.2)]),[],0,false,none⟩)] [] (kp [3]) [] 160 (pc o1 (pc (g_e_Floor_ok N x rFloor hr) (pc (g_e_Small_ok N rFloor rSmall hr2) pn))) ?_
 refine rnR hE 1 [] [] (kp [2]) [] 192 pn ?_
 obtain rfl:=osI h
 exact rnT hE 0 Tryz.f89 [] (kp [2]) [] 192 pn [] pn
noncomputable def C_69 (n:Nat):Code:=cat (bodyOf Tryz.f57) (pth n)
theorem g_e_signOf_ok (N:Nat) (x:TRat) (r:Int) (h:g_e_signOf N x=some r):Sd 57 [(.agg (TRc x))] [] 0 (aI r) []:=by
 unfold g_e_signOf at h
 refine sor (fu:=Tryz.f57) (c:=C_69 1) (nt:=10) (by kernel_rfl) (by kernel_rfl) (by kernel_rfl) (by kernel_rfl) (fun hm=>rfl) ?_
 intro E hE
 refine rnR hE 1 [] [] (kp [1]) (kq [0]) 32 pn ?_
 obtain ⟨rsign,hr,h⟩:=bsm h
 obtain ⟨rbelow,hr2,h⟩:=bsm h
 obtain ⟨rsign2,hr3,h⟩:=bsm h
 refine rnR hE 1 [(2,⟨[],true,(aI rsign),[],0,false,none⟩),(4,⟨[],true,(.agg (TIc rbelow)),[],0,false,none⟩),(5,⟨[],true,(aI rsign2),[],0,false,none⟩)] [] (kp [2]) [] 160 (pc o1 (pc (g_e_sign_ok N x.fN rsign hr) (pc o1 (pc (g_e_below_ok N x rbelow hr2) (pc (g_e_sign_ok N rbelow rsign2 hr3) pn))))) ?_
 obtain rfl:=osI h
 exact rnT hE 0 Tryz.f57 [] (kp [2]) [] 160 pn [] pn
noncomputable def C_68 (n:Nat):Code:=cat (bodyOf Tryz.f94) (pth n)
theorem g_e_CmpRat_ok (N:Nat) (x:TRat) (y:TRat) (r:Int) (h:g_e_CmpRat N x y=some r):Sd 94 [(.agg (TRc x)),(.agg (TRc y))] [] 0 (aI r) []:=by
 unfold g_e_CmpRat at h
 refine sor (fu:=Tryz.f94) (c:=C_68 1) (nt:=9) (by kernel_rfl) (by kernel_rfl) (by kernel_rfl) (by kernel_rfl) (fun hm=>rfl) ?_
 intro E hE
 refine rnR hE 1 [] [] (kp [2,3]) (kq [0,16]) 48 pn ?_
 obtain ⟨rSubRat,hr,h⟩:=bsm h
 obtain ⟨rsignOf,hr2,h⟩:=bsm h
 refine rnR hE 1 [(2,⟨[],true,(.agg (TRc rSubRat)),[],0,false,none⟩),(3,⟨[],true,(aI rsignOf),[],0,false,none⟩)] [] (kp [4]) [] 128 (pc o1 (pc o1 (pc (g_e_SubRat_ok N x y rSubRat hr) (pc (g_e_signOf_ok N rSubRat rsignOf hr2) pn)))) ?_
 obtain rfl:=osI h
 exact rnT hE 0 Tryz.f94 [] (kp [4]) [] 128 pn [] pn
noncomputable def C_62 (n:Nat):Code:=cat (bodyOf Tryz.f69) (pth n)
def g_w_draughts_J1_H (N:Nat) (p:TPn) (most:Int) (K:Int→Option (Int×Int)):Prop:=∀ (low:Int) (r:Int×Int),K low=some r→∀ E,EnvOk E 0→Runs Tryz.prog E 69 29 (SPost E [] (.tup [(aI r.1),(aI r.2)])) [.code (C_62 62),.code (C_62 63)] ⟨[(2,(aI most)),(6,(aI low)),(8,(.fn (.func 114) [] [(.op 0 0 0)]))],[(0,vO 5 (TPn.cells p))],1⟩
theorem g_w_draughts_J1_ok (N:Nat) (p:TPn) (most:Int):g_w_draughts_J1_H N p most (g_w_draughts_J1 N p most):=by
 intro low r h E hE
 unfold g_w_draughts_J1 at h
 obtain ⟨rdraughts13,hr6,h⟩:=bsm h
 obtain ⟨rwhole2,hr7,h⟩:=bsm h
 refine rnR hE 0 [(3,⟨[0],false,(.agg [(aB rdraughts13.fN.fG),(.os 1 0 rdraughts13.fN.fL.length),(aB rdraughts13.fD.fG),(.os 2 0 rdraughts13.fD.fL.length)]),[(0,vO 5 (TPn.cells p)),(1,aU rdraughts13.fN.fL),(2,aU rdraughts13.fD.fL)],0,false,none⟩),(4,⟨[],true,(aI rwhole2),[],0,false,none⟩)] [] (kp [6,7]) [] 113 (pc (g_w_draughts_1_ok N most p rdraughts13 hr6) (pc (g_w_whole_ok N (⟨rdraughts13.fN,rdraughts13.fD⟩:TRat) rwhole2 hr7) (pc (z1 rdraughts13.fN.fL.length) (pc (z1 rdraughts13.fD.fL.length) pn)))) ?_
 obtain rfl:=osI h
 exact rnT hE 0 Tryz.f69 [] (kp [6,7]) [] 113 pn [] pn
theorem g_w_draughts_ok (N:Nat) (p:TPn) (least:Int) (most:Int) (r:Int×Int) (h:g_w_draughts N p least most=some r):Sd 69 [(.agg (TPn.cells p)),(aI least),(aI most)] [] 0 (.tup [(aI r.1),(aI r.2)]) []:=by
 unfold g_w_draughts at h
 refine sor (fu:=Tryz.f69) (c:=C_62 1) (nt:=29) (by kernel_rfl) (by kernel_rfl) (by kernel_rfl) (by kernel_rfl) (fun hm=>rfl) ?_
 intro E hE
 refine rnR hE 1 [] [] (kp [1,2,3]) (kq [0]) 48 pn ?_
 refine rnR hE 1 [] [] (kp [1,2,8]) (kq [0]) 80 pn ?_
 obtain ⟨rdraughts1,hr,h⟩:=bsm h
 obtain ⟨rwhole,hr2,h⟩:=bsm h
 refine rnR hE 1 [(2,⟨[0],false,(.agg [(aB rdraughts1.fN.fG),(.os 1 0 rdraughts1.fN.fL.length),(aB rdraughts1.fD.fG),(.os 2 0 rdraughts1.fD.fL.length)]),[(0,vO 5 (TPn.cells p)),(1,aU rdraughts1.fN.fL),(2,aU rdraughts1.fD.fL)],0,false,none⟩),(3,⟨[],true,(aI rwhole),[],0,false,none⟩)] [] (kp [1,2,6,8]) (kq [0]) 160 (pc (g_w_draughts_1_ok N least p rdraughts1 hr) (pc (g_w_whole_ok N (⟨rdraughts1.fN,rdraughts1.fD⟩:TRat) rwhole hr2) (pc (z1 rdraughts1.fN.fL.length) (pc (z1 rdraughts1.fD.fL.length) pn)))) ?_
 obtain ⟨rproduct,hr3,h⟩:=bsm h
 obtain ⟨rdraughts12,hr4,h⟩:=bsm h
 obtain ⟨rCmpRat,hr5,h⟩:=bsm h
 refine rnR hE 2 [(2,⟨[],false,(.agg [(aB rproduct.fN.fG),(.os 0 0 rproduct.fN.fL.length),(aB rproduct.fD.fG),(.os 1 0 rproduct.fD.fL.length)]),[(0,aU rproduct.fN.fL),(1,aU rproduct.fD.fL)],0,false,none⟩),(5,⟨[0],false,(.agg [(aB rdraughts12.fN.fG),(.os 1 0 rdraughts12.fN.fL.length),(aB rdraughts12.fD.fG),(.os 2 0 rdraughts12.fD.fL.length)]),[(0,vO 5 (TPn.cells p)),(1,aU rdraughts12.fN.fL),(2,aU rdraughts12.fD.fL)],0,false,none⟩),(6,⟨[],true,(aI rCmpRat),[],0,false,none⟩)] [] (kp [2,6,8,21]) (kq [0]) 288 (pc (show Sd 63 [(.sl 1 (fun zi=>(fun zi=>([[(aI rwhole)]]:List (List AV)).getD zi []) (addz 0 zi)))] [] 0 (.agg [(aB rproduct.fN.fG),(.os 0 0 rproduct.fN.fL.length),(aB rproduct.fD.fG),(.os 1 0 rproduct.fD.fL.length)]) [(0,aU rproduct.fN.fL),(1,aU rproduct.fD.fL)] from (Sound.conv (g_w_product_ok N ([rwhole]:List Int) rproduct hr3) (.cons (Alike.sl rfl (fun zq hzq=>get_chunk cI 0 ([rwhole]:List Int) zq hzq)) .nil))) (pc (show ∀ zi,zi < rproduct.fN.fL.length→AV.flatL ((cU .u16) (rproduct.fN.fL.getD zi 0))=true from (fun _ _=>rfl)) (pc (show ∀ zi,zi < rproduct.fD.fL.length→AV.flatL ((cU .u16) (rproduct.fD.fL.getD zi 0))=true from (fun _ _=>rfl)) (pc (z1 1) (pc (g_w_draughts_1_ok N least p rdraughts12 hr4) (pc (g_e_CmpRat_ok N (⟨rproduct.fN,rproduct.fD⟩:TRat) (⟨rdraughts12.fN,rdraughts12.fD⟩:TRat) rCmpRat hr5) (pc (z1 rproduct.fN.fL.length) (pc (z1 rproduct.fD.fL.length) (pc (z1 rdraughts12.fN.fL.length) (pc (z1 rdraughts12.fD.fL.length) pn)))))))))) ?_
 refine rnC 0 21 h (fun hq2 h=>?_) (fun hq2 h=>?_)
 ·refine rnR hE 0 [] [] (kp [2,6,8]) (kq [0]) 336 pn ?_
  exact rnW hE 1 [] (kp [2,6,8]) (kq [0]) 1 pn (g_w_draughts_J1_ok N _ _ _ _ h E hE)
 ·exact rnW hE 2 [] (kp [2,6,8]) (kq [0]) 1 pn (g_w_draughts_J1_ok N _ _ _ _ h E hE)
noncomputable def C_61 (n:Nat):Code:=cat (bodyOf Tryz.f44) (pth n)
theorem g_w_boundsOf_ok (N:Nat) (p:TPn) (l:TLimits) (r:Tw_bounds) (h:g_w_boundsOf N p l=some r):Sd 44 [(.agg (TPn.cells p)),(.agg (TLimits.cells l))] [] 0 (.agg (Tw_bounds.cells r)) []:=by
 unfold g_w_boundsOf at h
 refine sor (fu:=Tryz.f44) (c:=C_61 1) (nt:=59) (by kernel_rfl) (by kernel_rfl) (by kernel_rfl) (by kernel_rfl) (fun hm=>rfl) ?_
 intro E hE
 refine rnR hE 1 [] [] (kp [2,3,4]) (kq [0,16,32]) 48 pn ?_
 refine rnR hE 1 [] [] (kp [2,3,4,5,6,7]) (kq [0,16,32]) 192 (pc o1 (pc o1 (pc o1 pn))) ?_
 refine rnR hE 1 [] [] (kp [2,3,4,5,6,7,8]) (kq [0,16,32,192]) 208 pn ?_
 obtain ⟨rdraughts,hr,h⟩:=bsm h
 refine rnR hE 1 [(5,⟨[],true,(.tup [(aI rdraughts.1),(aI rdraughts.2)]),[],0,false,none⟩)] [] (kp [3,4,5,6,7,8]) (kq [16,32,192]) 416 (pc o1 (pc o1 (pc o1 (pc (g_w_draughts_ok N p l.f_DraughtLeast l.f_DraughtMost rdraughts hr) (pc o1 (pc o1 pn)))))) ?_
 obtain ⟨rproduct,hr2,h⟩:=bsm h
 obtain ⟨rproduct2,hr3,h⟩:=bsm h
 obtain ⟨rquotient,hr4,h⟩:=bsm h
 obtain ⟨rwhole,hr5,h⟩:=bsm h
 refine rnR hE 1 [(8,⟨[],false,(.agg [(aB rproduct.fN.fG),(.os 0 0 rproduct.fN.fL.length),(aB rproduct.fD.fG),(.os 1 0 rproduct.fD.fL.length)]),[(0,aU rproduct.fN.fL),(1,aU rproduct.fD.fL)],0,false,none⟩),(10,⟨[],false,(.agg [(aB rproduct2.fN.fG),(.os 0 0 rproduct2.fN.fL.length),(aB rproduct2.fD.fG),(.os 1 0 rproduct2.fD.fL.length)]),[(0,aU rproduct2.fN.fL),(1,aU rproduct2.fD.fL)],0,false,none⟩),(11,⟨[],false,(.agg [(aB rquotient.fN.fG),(.os 0 0 rquotient.fN.fL.length),(aB rquotient.fD.fG),(.os 1 0 rquotient.fD.fL.length)]),[(0,aU rquotient.fN.fL),(1,aU rquotient.fD.fL)],0,false,none⟩),(12,⟨[],true,(aI rwhole),[],0,false,none⟩)] [] (kp [3,4,5,6,7,8]) (kq [16,32,192]) 656 (pc o1 (pc (show Sd 63 [(.sl 6 (fun zi=>(fun zi=>([[(aI l.f_TrimMost)],[(aI p.fDsity)],[(aI p.fBr)],[(aI p.fLn)],[(aI p.fLn)],[(aI p.fLn)]]:List (List AV)).getD zi []) (addz 0 zi)))] [] 0 (.agg [(aB rproduct.fN.fG),(.os 0 0 rproduct.fN.fL.length),(aB rproduct.fD.fG),(.os 1 0 rproduct.fD.fL.length)]) [(0,aU rproduct.fN.fL),(1,aU rproduct.fD.fL)] from (Sound.conv (g_w_product_ok N ([l.f_TrimMost,p.fDsity,p.fBr,p.fLn,p.fLn,p.fLn]:List Int) rproduct hr2) (.cons (Alike.sl rfl (fun zq hzq=>get_chunk cI 0 ([l.f_TrimMost,p.fDsity,p.fBr,p.fLn,p.fLn,p.fLn]:List Int) zq hzq)) .nil))) (pc (show ∀ zi,zi < rproduct.fN.fL.length→AV.flatL ((cU .u16) (rproduct.fN.fL.getD zi 0))=true from (fun _ _=>rfl)) (pc (show ∀ zi,zi < rproduct.fD.fL.length→AV.flatL ((cU .u16) (rproduct.fD.fL.getD zi 0))=true from (fun _ _=>rfl)) (pc (z1 6) (pc (show Sd 63 [(.sl 2 (fun zi=>(fun zi=>([[(aI 12000000000)],[(aI 1000)]]:List (List AV)).getD zi []) (addz 0 zi)))] [] 0 (.agg [(aB rproduct2.fN.fG),(.os 0 0 rproduct2.fN.fL.length),(aB rproduct2.fD.fG),(.os 1 0 rproduct2.fD.fL.length)]) [(0,aU rproduct2.fN.fL),(1,aU rproduct2.fD.fL)] from (Sound.conv (g_w_product_ok N ([12000000000,1000]:List Int) rproduct2 hr3) (.cons (Alike.sl rfl (fun zq hzq=>get_chunk cI 0 ([12000000000,1000]:List Int) zq hzq)) .nil))) (pc (show ∀ zi,zi < rproduct2.fN.fL.length→AV.flatL ((cU .u16) (rproduct2.fN.fL.getD zi 0))=true from (fun _ _=>rfl)) (pc (show ∀ zi,zi < rproduct2.fD.fL.length→AV.flatL ((cU .u16) (rproduct2.fD.fL.getD zi 0))=true from (fun _ _=>rfl)) (pc (z1 2) (pc (g_w_quotient_ok N (⟨rproduct.fN,rproduct.fD⟩:TRat) (⟨rproduct2.fN,rproduct2.fD⟩:TRat) rquotient hr4) (pc (show ∀ zi,zi < rquotient.fN.fL.length→AV.flatL ((cU .u16) (rquotient.fN.fL.getD zi 0))=true from (fun _ _=>rfl)) (pc (show ∀ zi,zi < rquotient.fD.fL.length→AV.flatL ((cU .u16) (rquotient.fD.fL.getD zi 0))=true from (fun _ _=>rfl)) (pc (z1 rproduct.fN.fL.length) (pc (z1 rproduct.fD.fL.length) (pc (z1 rproduct2.fN.fL.length) (pc (z1 rproduct2.fD.fL.length) (pc (g_w_whole_ok N (⟨rquotient.fN,rquotient.fD⟩:TRat) rwhole hr5) (pc (z1 rquotient.fN.fL.length) (pc (z1 rquotient.fD.fL.length) (pc o1 pn)))))))))))))))))))) ?_
 obtain ⟨rproduct3,hr6,h⟩:=bsm h
 obtain ⟨rproduct4,hr7,h⟩:=bsm h
 obtain ⟨rquotient2,hr8,h⟩:=bsm h
 obtain ⟨rwhole2,hr9,h⟩:=bsm h
 refine rnR hE 1 [(8,⟨[],false,(.agg [(aB rproduct3.fN.fG),(.os 0 0 rproduct3.fN.fL.length),(aB rproduct3.fD.fG),(.os 1 0 rproduct3.fD.fL.length)]),[(0,aU rproduct3.fN.fL),(1,aU rproduct3.fD.fL)],0,false,none⟩),(10,⟨[],false,(.agg [(aB rproduct4.fN.fG),(.os 0 0 rproduct4.fN.fL.length),(aB rproduct4.fD.fG),(.os 1 0 rproduct4.fD.fL.length)]),[(0,aU rproduct4.fN.fL),(1,aU rproduct4.fD.fL)],0,false,none⟩),(11,⟨[],false,(.agg [(aB rquotient2.fN.fG),(.os 0 0 rquotient2.fN.fL.length),(aB rquotient2.fD.fG),(.os 1 0 rquotient2.fD.fL.length)]),[(0,aU rquotient2.fN.fL),(1,aU rquotient2.fD.fL)],0,false,none⟩),(12,⟨[],true,(aI rwhole2),[],0,false,none⟩)] [] (kp [3,4,8]) (kq [16,32,192]) 896 (pc o1 (pc (show Sd 63 [(.sl 6 (fun zi=>(fun zi=>([[(aI l.f_HeelMost)],[(aI p.fDsity)],[(aI p.fLn)],[(aI p.fBr)],[(aI p.fBr)],[(aI p.fBr)]]:List (List AV)).getD zi []) (addz 0 zi)))] [] 0 (.agg [(aB rproduct3.fN.fG),(.os 0 0 rproduct3.fN.fL.length),(aB rproduct3.fD.fG),(.os 1 0 rproduct3.fD.fL.length)]) [(0,aU rproduct3.fN.fL),(1,aU rproduct3.fD.fL)] from (Sound.conv (g_w_product_ok N ([l.f_HeelMost,p.fDsity,p.fLn,p.fBr,p.fBr,p.fBr]:List Int) rproduct3 hr6) (.cons (Alike.sl rfl (fun zq hzq=>get_chunk cI 0 ([l.f_HeelMost,p.fDsity,p.fLn,p.fBr,p.fBr,p.fBr]:List Int) zq hzq)) .nil))) (pc (show ∀ zi,zi < rproduct3.fN.fL.length→AV.flatL ((cU .u16) (rproduct3.fN.fL.getD zi 0))=true from (fun _ _=>rfl)) (pc (show ∀ zi,zi < rproduct3.fD.fL.length→AV.flatL ((cU .u16) (rproduct3.fD.fL.getD zi 0))=true from (fun _ _=>rfl)) (pc (z1 6) (pc (show Sd 63 [(.sl 2 (fun zi=>(fun zi=>([[(aI 12000000000)],[(aI 1000)]]:List (List AV)).getD zi []) (addz 0 zi)))] [] 0 (.agg [(aB rproduct4.fN.fG),(.os 0 0 rproduct4.fN.fL.length),(aB rproduct4.fD.fG),(.os 1 0 rproduct4.fD.fL.length)]) [(0,aU rproduct4.fN.fL),(1,aU rproduct4.fD.fL)] from (Sound.conv (g_w_product_ok N ([12000000000,1000]:List Int) rproduct4 hr7) (.cons (Alike.sl rfl (fun zq hzq=>get_chunk cI 0 ([12000000000,1000]:List Int) zq hzq)) .nil))) (pc (show ∀ zi,zi < rproduct4.fN.fL.length→AV.flatL ((cU .u16) (rproduct4.fN.fL.getD zi 0))=true from (fun _ _=>rfl)) (pc (show ∀ zi,zi < rproduct4.fD.fL.length→AV.flatL ((cU .u16) (rproduct4.fD.fL.getD zi 0))=true from (fun _ _=>rfl)) (pc (z1 2) (pc (g_w_quotient_ok N (⟨rproduct3.fN,rproduct3.fD⟩:TRat) (⟨rproduct4.fN,rproduct4.fD⟩:TRat) rquotient2 hr8) (pc (show ∀ zi,zi < rquotient2.fN.fL.length→AV.flatL ((cU .u16) (rquotient2.fN.fL.getD zi 0))=true from (fun _ _=>rfl)) (pc (show ∀ zi,zi < rquotient2.fD.fL.length→AV.flatL ((cU .u16) (rquotient2.fD.fL.getD zi 0))=true from (fun _ _=>rfl)) (pc (z1 rproduct3.fN.fL.length) (pc (z1 rproduct3.fD.fL.length) (pc (z1 rproduct4.fN.fL.length) (pc (z1 rproduct4.fD.fL.length) (pc (g_w_whole_ok N (⟨rquotient2.fN,rquotient2.fD⟩:TRat) rwhole2 hr9) (pc (z1 rquotient2.fN.fL.length) (pc (z1 rquotient2.fD.fL.length) (pc o1 pn)))))))))))))))))))) ?_
 refine rnR hE 1 [] [] (kp [4,8]) (kq [32,192]) 976 (pc o1 (pc o1 pn)) ?_
 refine rnR hE 1 [] [] (kp [4]) (kq [32]) 1008 (pc o1 (pc o1 pn)) ?_
 obtain rfl:=osI h
 exact rnT hE 0 Tryz.f44 [] (kp [4]) [(16,.keep 32)] 1008 pn [16] (pc o1 pn)
end Go.Den
