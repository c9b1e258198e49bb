/- Each function of the program does what its Lean function computes (part 1). No conditions. -/
import Derived.Test.YtnhkjlebcdakkaaTopBestDockingDen
import Derived.Test.YtnhkjlebcdakkaaProg
set_option linter.unusedVariables false
set_option maxRecDepth 100000
namespace Go.Den
open Go.Ab Go.Proofs
noncomputable def C_6 (n:Nat):Code:=cat (bodyOf Try.f93) (pth n)
theorem g_berth_CheckDocks_1_ok (N:Nat) (x:TDock) (r:ByteArray) (h:g_berth_CheckDocks_1 N x=some r):Sound Try.prog 93 [(.agg (TDock.cells x))] [] 0 (aS r) []:=by
 unfold g_berth_CheckDocks_1 at h
 refine Sound.of_runs (fu:=Try.f93) (c:=C_6 1) (nt:=5) (by kernel_rfl) (by kernel_rfl) (by kernel_rfl) (by kernel_rfl) (fun hm=>rfl) ?_
 intro E hE
 refine Runs.nR hE 1 [] [] (kp [1]) (kq [0]) 32 pn ?_
 refine Runs.nR hE 1 [] [] (kp [2]) [] 80 (pc o1 pn) ?_
 obtain rfl:=Option.some.inj h
 exact Runs.nT hE 0 Try.f93 [] (kp [2]) [] 80 pn [] pn
noncomputable def C_7 (n:Nat):Code:=cat (bodyOf Try.f109) (pth n)
def g_berth_named_L1_H (N:Nat) (s:ByteArray) (K:Int→Option (Bool)):Prop:=∀ (x:Int) (r:Bool),K x=some r→∀ E,EnvOk E 0→Runs Try.prog E 109 57 (SPost E [] (aB r)) [.code (C_7 116),.inLoop (C_7 116),.inBlock 0,.code (C_7 15)] ⟨[(0,(aS s)),(15,(aI ((s.size:Nat):Int))),(16,(aI x))],[],0⟩
theorem g_berth_named_L1_ok (N:Nat) (s:ByteArray) (fuel:Nat):g_berth_named_L1_H N s (g_berth_named_L1 N s fuel):=by
 induction fuel with
 | zero=>intro _ r h;rw [g_berth_named_L1.eq_1] at h;cases h
 | succ fuel ih =>
  intro x r h E hE
  rw [g_berth_named_L1.eq_2] at h
  refine Runs.nR hE 1 [] [] (kp [0,15,16,17]) [] 16 pn ?_
  refine Runs.nC 1 17 h (fun hq3 h=>?_) (fun hq3 h=>?_)
  ·refine Runs.nR hE 4 [] [] (kp [0,3,15,16]) [] 48 pn ?_
   obtain ⟨c,h⟩:=ifSome h
   refine Runs.nR hE 1 [] [] (kp [0,3,4,15,16]) [] 112 (pc c pn) ?_
   refine Runs.nR hE 1 [] [] (kp [0,3,4,5,15,16]) [] 352 (pc (fun hg:(decide ((byteAt s ((x).toNat))≥97))=true=>(pc hg pn)) (pc (fun hq:(decide ((byteAt s ((x).toNat))≥97))=true=>(pc hq pn)) (pc (fun hg:(!(cond (decide ((byteAt s ((x).toNat))≥97)) (decide ((byteAt s ((x).toNat))≤122)) false))=true=>(pc hg pn)) (pc (fun hg:((!(cond (decide ((byteAt s ((x).toNat))≥97)) (decide ((byteAt s ((x).toNat))≤122)) false)) && ((!(cond (decide ((byteAt s ((x).toNat))≥97)) (decide ((byteAt s ((x).toNat))≤122)) false)) && (decide ((byteAt s ((x).toNat))≥65))))=true=>(pc hg pn)) (pc (fun hg:(!(cond (decide ((byteAt s ((x).toNat))≥97)) (decide ((byteAt s ((x).toNat))≤122)) false))=true=>(pc hg (pc hg (pc (fun hq:(decide ((byteAt s ((x).toNat))≥65))=true=>(pc (show ((!(cond (decide ((byteAt s ((x).toNat))≥97)) (decide ((byteAt s ((x).toNat))≤122)) false)) && ((!(cond (decide ((byteAt s ((x).toNat))≥97)) (decide ((byteAt s ((x).toNat))≤122)) false)) && (decide ((byteAt s ((x).toNat))≥65))))=true from (andI' hg (andI' hg hq))) pn)) pn)))) (pc (fun hq:(!(cond (decide ((byteAt s ((x).toNat))≥97)) (decide ((byteAt s ((x).toNat))≤122)) false))=true=>(pc hq pn)) pn)))))) ?_
   refine Runs.nR hE 1 [] [] (kp [0,3,5,6,15,16]) [] 528 (pc (fun hg:(decide ((byteAt s ((x).toNat))≥48))=true=>(pc hg pn)) (pc (fun hq:(decide ((byteAt s ((x).toNat))≥48))=true=>(pc hq pn)) (pc (fun hg:(!(cond (decide ((byteAt s ((x).toNat))≥48)) (decide ((byteAt s ((x).toNat))≤57)) false))=true=>(pc hg pn)) (pc (fun hq:(!(cond (decide ((byteAt s ((x).toNat))≥48)) (decide ((byteAt s ((x).toNat))≤57)) false))=true=>(pc hq pn)) pn)))) ?_
   refine Runs.nR hE 1 [] [] (kp [0,15,16,55]) [] 688 (pc (fun hg:(!(cond (cond (decide ((byteAt s ((x).toNat))≥97)) (decide ((byteAt s ((x).toNat))≤122)) false) true (cond (decide ((byteAt s ((x).toNat))≥65)) (decide ((byteAt s ((x).toNat))≤90)) false)))=true=>(pc hg pn)) (pc (fun hg:((!(cond (cond (decide ((byteAt s ((x).toNat))≥97)) (decide ((byteAt s ((x).toNat))≤122)) false) true (cond (decide ((byteAt s ((x).toNat))≥65)) (decide ((byteAt s ((x).toNat))≤90)) false))) && ((!(cond (cond (decide ((byteAt s ((x).toNat))≥97)) (decide ((byteAt s ((x).toNat))≤122)) false) true (cond (decide ((byteAt s ((x).toNat))≥65)) (decide ((byteAt s ((x).toNat))≤90)) false))) && (!(x == 0))))=true=>(pc hg pn)) (pc (fun hg:(!(cond (cond (decide ((byteAt s ((x).toNat))≥97)) (decide ((byteAt s ((x).toNat))≤122)) false) true (cond (decide ((byteAt s ((x).toNat))≥65)) (decide ((byteAt s ((x).toNat))≤90)) false)))=true=>(pc hg (pc hg (pc (fun hq:(!(x == 0))=true=>(pc (show ((!(cond (cond (decide ((byteAt s ((x).toNat))≥97)) (decide ((byteAt s ((x).toNat))≤122)) false) true (cond (decide ((byteAt s ((x).toNat))≥65)) (decide ((byteAt s ((x).toNat))≤90)) false))) && ((!(cond (cond (decide ((byteAt s ((x).toNat))≥97)) (decide ((byteAt s ((x).toNat))≤122)) false) true (cond (decide ((byteAt s ((x).toNat))≥65)) (decide ((byteAt s ((x).toNat))≤90)) false))) && (!(x == 0))))=true from (andI' hg (andI' hg hq))) pn)) pn)))) (pc (fun hq:(!(cond (cond (decide ((byteAt s ((x).toNat))≥97)) (decide ((byteAt s ((x).toNat))≤122)) false) true (cond (decide ((byteAt s ((x).toNat))≥65)) (decide ((byteAt s ((x).toNat))≤90)) false)))=true=>(pc hq pn)) pn)))) ?_
   refine Runs.nC 0 55 h (fun hq4 h=>?_) (fun hq4 h=>?_)
   ·refine Runs.nR hE 1 [] [] (kp [2]) [] 704 pn ?_
    obtain rfl:=Option.some.inj h
    exact Runs.nT hE 0 Try.f109 [] (kp [2]) [] 704 pn [] pn
   ·refine Runs.nR hE 2 [] [] (kp [0,15,16]) [] 720 pn ?_
    exact Runs.nW hE 1 [] (kp [0,15,16]) [] 0 pn (ih _ _ h E hE)
  ·refine Runs.nR hE 2 [] [] (kp [2]) [] 32 pn ?_
   obtain rfl:=Option.some.inj h
   exact Runs.nT hE 0 Try.f109 [] (kp [2]) [] 48 pn [] pn
theorem g_berth_named_ok (N:Nat) (s:ByteArray) (r:Bool) (h:g_berth_named N s=some r):Sound Try.prog 109 [(aS s)] [] 0 (aB r) []:=by
 unfold g_berth_named at h
 refine Sound.of_runs (fu:=Try.f109) (c:=C_7 1) (nt:=57) (by kernel_rfl) (by kernel_rfl) (by kernel_rfl) (by kernel_rfl) (fun hm=>rfl) ?_
 intro E hE
 refine Runs.nR hE 1 [] [] (kp [0]) [] 16 pn ?_
 refine Runs.nR hE 2 [] [] (kp [0,13]) [] 128 (pc (fun hg:(!(streq s ByteArray.empty))=true=>(pc hg pn)) (pc (fun hg:(!(streq s ByteArray.empty))=true=>(pc hg pn)) (pc (fun hq:(!(streq s ByteArray.empty))=true=>(pc hq pn)) pn))) ?_
 refine Runs.nC 0 13 h (fun hq2 h=>?_) (fun hq2 h=>?_)
 ·refine Runs.nR hE 1 [] [] (kp [2]) [] 144 pn ?_
  obtain rfl:=Option.some.inj h
  exact Runs.nT hE 0 Try.f109 [] (kp [2]) [] 144 pn [] pn
 ·refine Runs.nR hE 3 [] [] (kp [0,15,16]) [] 176 pn ?_
  exact Runs.nW hE 2 [] (kp [0,15,16]) [] 0 pn (g_berth_named_L1_ok N _ N _ _ h E hE)
noncomputable def C_10 (n:Nat):Code:=cat (bodyOf Try.f111) (pth n)
theorem g_berth_check_Dock_1_ok (N:Nat) (y:TDock) (cap1:TDock) (r:Bool) (h:g_berth_check_Dock_1 N y cap1=some r):Sound Try.prog 111 [(.agg (TDock.cells y)),(.op 0 0 0),(.op 1 0 0)] [(0,vO 1 [(.fn (.func 93) [] [])]),(1,vO 6 (TDock.cells cap1))] 2 (aB r) [(0,vO 1 [(.fn (.func 93) [] [])]),(1,vO 6 (TDock.cells cap1))]:=by
 unfold g_berth_check_Dock_1 at h
 refine Sound.of_runs (fu:=Try.f111) (c:=C_10 1) (nt:=12) (by kernel_rfl) (by kernel_rfl) (by kernel_rfl) (by kernel_rfl) (fun hm=>absurd hm (by decide)) ?_
 intro E hE
 refine Runs.nR hE 1 [] [] (kp [1,2,3]) (kq [0,1,2]) 34 pn ?_
 obtain ⟨rCheckDocks1,hr,h⟩:=bindSome h
 obtain ⟨rCheckDocks12,hr2,h⟩:=bindSome h
 refine Runs.nR hE 1 [(2,⟨[],true,(aS rCheckDocks1),[],0,false,none⟩),(5,⟨[],true,(aS rCheckDocks12),[],0,false,none⟩)] [] (kp [4]) (kq [0,1]) 162 (pc o1 (pc o1 (pc (g_berth_CheckDocks_1_ok N y rCheckDocks1 hr) (pc o1 (pc o1 (pc (g_berth_CheckDocks_1_ok N cap1 rCheckDocks12 hr2) pn)))))) ?_
 obtain rfl:=Option.some.inj h
 exact Runs.nT hE 0 Try.f111 [] (kp [4]) (kq [0,1]) 162 pn [] pn
noncomputable def C_9 (n:Nat):Code:=cat (bodyOf Try.f49) (pth n)
def g_slices_IndexFunc_api_Dock_api_Dock_L1_H (N:Nat) (s:List TDock) (cap1:TDock) (K:Int→Option (Int)):Prop:=∀ (x:Int) (r:Int),K x=some r→∀ E,EnvOk E 2→Runs Try.prog E 49 19 (SPost E [(0,vO 1 [(.fn (.func 93) [] [])]),(1,vO 6 (TDock.cells cap1))] (aI r)) [.code (C_9 52),.inLoop (C_9 52),.inBlock 0,.code (C_9 7)] ⟨[(0,(encL TDock.cells TDock.d s)),(1,(.fn (.func 111) [] [(.op 0 0 0),(.op 1 0 0)])),(7,(aI ((s.length:Nat):Int))),(8,(aI x))],[(0,vO 1 [(.fn (.func 93) [] [])]),(1,vO 6 (TDock.cells cap1))],2⟩
theorem g_slices_IndexFunc_api_Dock_api_Dock_L1_ok (N:Nat) (s:List TDock) (cap1:TDock) (fuel:Nat):g_slices_IndexFunc_api_Dock_api_Dock_L1_H N s cap1 (g_slices_IndexFunc_api_Dock_api_Dock_L1 N s cap1 fuel):=by
 induction fuel with
 | zero=>intro _ r h;rw [g_slices_IndexFunc_api_Dock_api_Dock_L1.eq_1] at h;cases h
 | succ fuel ih =>
  intro x r h E hE
  rw [g_slices_IndexFunc_api_Dock_api_Dock_L1.eq_2] at h
  refine Runs.nR hE 1 [] [] (kp [0,1,7,8,9]) (kq [0,1]) 18 pn ?_
  refine Runs.nC 1 9 h (fun hq2 h=>?_) (fun hq2 h=>?_)
  ·refine Runs.nR hE 4 [] [] (kp [0,1,5,7,8]) (kq [0,1]) 50 pn ?_
   obtain ⟨c,h⟩:=ifSome h
   obtain ⟨rDock1,hr,h⟩:=bindSome h
   refine Runs.nR hE 1 [(5,⟨[0,1],true,(aB rDock1),[],0,false,none⟩)] [] (kp [0,1,5,7,8,16]) (kq [0,1]) 146 (pc c (pc (g_berth_check_Dock_1_ok N (s.getD ((x).toNat) TDock.d) cap1 rDock1 hr) pn)) ?_
   refine Runs.nC 0 16 h (fun hq3 h=>?_) (fun hq3 h=>?_)
   ·refine Runs.nR hE 1 [] [] (kp [4]) (kq [0,1]) 178 pn ?_
    obtain rfl:=Option.some.inj h
    exact Runs.nT hE 0 Try.f49 [] (kp [4]) (kq [0,1]) 178 pn [] pn
   ·refine Runs.nR hE 2 [] [] (kp [0,1,7,8]) (kq [0,1]) 178 pn ?_
    exact Runs.nW hE 1 [] (kp [0,1,7,8]) (kq [0,1]) 2 pn (ih _ _ h E hE)
  ·refine Runs.nR hE 2 [] [] (kp [4]) (kq [0,1]) 34 pn ?_
   obtain rfl:=Option.some.inj h
   exact Runs.nT hE 0 Try.f49 [] (kp [4]) (kq [0,1]) 50 pn [] pn
theorem g_slices_IndexFunc_api_Dock_api_Dock_ok (N:Nat) (s:List TDock) (cap1:TDock) (r:Int) (h:g_slices_IndexFunc_api_Dock_api_Dock N s cap1=some r):Sound Try.prog 49 [(encL TDock.cells TDock.d s),(.fn (.func 111) [] [(.op 0 0 0),(.op 1 0 0)])] [(0,vO 1 [(.fn (.func 93) [] [])]),(1,vO 6 (TDock.cells cap1))] 2 (aI r) [(0,vO 1 [(.fn (.func 93) [] [])]),(1,vO 6 (TDock.cells cap1))]:=by
 unfold g_slices_IndexFunc_api_Dock_api_Dock at h
 refine Sound.of_runs (fu:=Try.f49) (c:=C_9 1) (nt:=19) (by kernel_rfl) (by kernel_rfl) (by kernel_rfl) (by kernel_rfl) (fun hm=>absurd hm (by decide)) ?_
 intro E hE
 refine Runs.nR hE 1 [] [] (kp [0,1]) (kq [0,1]) 18 pn ?_
 refine Runs.nR hE 2 [] [] (kp [0,1,7,8]) (kq [0,1]) 66 pn ?_
 exact Runs.nW hE 2 [] (kp [0,1,7,8]) (kq [0,1]) 2 pn (g_slices_IndexFunc_api_Dock_api_Dock_L1_ok N _ _ N _ _ h E hE)
noncomputable def C_8 (n:Nat):Code:=cat (bodyOf Try.f110) (pth n)
theorem g_slices_ContainsFunc_api_Dock_api_Dock_ok (N:Nat) (s:List TDock) (cap1:TDock) (r:Bool) (h:g_slices_ContainsFunc_api_Dock_api_Dock N s cap1=some r):Sound Try.prog 110 [(encL TDock.cells TDock.d s),(.fn (.func 111) [] [(.op 0 0 0),(.op 1 0 0)])] [(0,vO 1 [(.fn (.func 93) [] [])]),(1,vO 6 (TDock.cells cap1))] 2 (aB r) [(0,vO 1 [(.fn (.func 93) [] [])]),(1,vO 6 (TDock.cells cap1))]:=by
 unfold g_slices_ContainsFunc_api_Dock_api_Dock at h
 refine Sound.of_runs (fu:=Try.f110) (c:=C_8 1) (nt:=9) (by kernel_rfl) (by kernel_rfl) (by kernel_rfl) (by kernel_rfl) (fun hm=>absurd hm (by decide)) ?_
 intro E hE
 refine Runs.nR hE 1 [] [] (kp [0,1]) (kq [0,1]) 18 pn ?_
 obtain ⟨rDock,hr,h⟩:=bindSome h
 refine Runs.nR hE 1 [(2,⟨[0,1],true,(aI rDock),[],0,false,none⟩)] [] (kp [4]) (kq [0,1]) 98 (pc (g_slices_IndexFunc_api_Dock_api_Dock_ok N s cap1 rDock hr) pn) ?_
 obtain rfl:=Option.some.inj h
 exact Runs.nT hE 0 Try.f110 [] (kp [4]) (kq [0,1]) 98 pn [] pn
noncomputable def C_12 (n:Nat):Code:=cat (bodyOf Try.f70) (pth n)
theorem g_berth_outside_ok (N:Nat) (n:Int) (lo:Int) (hi:Int) (r:Bool) (h:g_berth_outside N n lo hi=some r):Sound Try.prog 70 [(aI n),(aI lo),(aI hi)] [] 0 (aB r) []:=by
 unfold g_berth_outside at h
 refine Sound.of_runs (fu:=Try.f70) (c:=C_12 1) (nt:=15) (by kernel_rfl) (by kernel_rfl) (by kernel_rfl) (by kernel_rfl) (fun hm=>rfl) ?_
 intro E hE
 refine Runs.nR hE 1 [] [] (kp [0,1,2]) [] 16 pn ?_
 refine Runs.nR hE 1 [] [] (kp [6]) [] 160 (pc (fun hg:(!(decide (n < lo)))=true=>(pc hg (pc hg pn))) (pc (fun hq:(!(decide (n < lo)))=true=>(pc hq pn)) pn)) ?_
 obtain rfl:=Option.some.inj h
 exact Runs.nT hE 0 Try.f70 [] (kp [6]) [] 160 pn [] pn
noncomputable def C_13 (n:Nat):Code:=cat (bodyOf Try.f76) (pth n)
theorem g_berth_ranged_ok (N:Nat) (wrong:Bool) (r:Int) (h:g_berth_ranged N wrong=some r):Sound Try.prog 76 [(aB wrong)] [] 0 (aI r) []:=by
 unfold g_berth_ranged at h
 refine Sound.of_runs (fu:=Try.f76) (c:=C_13 1) (nt:=4) (by kernel_rfl) (by kernel_rfl) (by kernel_rfl) (by kernel_rfl) (fun hm=>rfl) ?_
 intro E hE
 refine Runs.nR hE 1 [] [] (kp [0]) [] 16 pn ?_
 refine Runs.nR hE 2 [] [] (kp [3]) [] 32 pn ?_
 refine Runs.nC 0 3 h (fun hq2 h=>?_) (fun hq2 h=>?_)
 ·refine Runs.nR hE 1 [] [] (kp [2]) [] 48 pn ?_
  obtain rfl:=Option.some.inj h
  exact Runs.nT hE 0 Try.f76 [] (kp [2]) [] 48 pn [] pn
 ·refine Runs.nR hE 2 [] [] (kp [2]) [] 48 pn ?_
  obtain rfl:=Option.some.inj h
  exact Runs.nT hE 0 Try.f76 [] (kp [2]) [] 48 pn [] pn
noncomputable def C_11 (n:Nat):Code:=cat (bodyOf Try.f94) (pth n)
theorem g_berth_CheckDocks_2_ok (N:Nat) (x:TDock) (r:Int) (h:g_berth_CheckDocks_2 N x=some r):Sound Try.prog 94 [(.agg (TDock.cells x))] [] 0 (aI r) []:=by
 unfold g_berth_CheckDocks_2 at h
 refine Sound.of_runs (fu:=Try.f94) (c:=C_11 1) (nt:=27) (by kernel_rfl) (by kernel_rfl) (by kernel_rfl) (by kernel_rfl) (fun hm=>rfl) ?_
 intro E hE
 refine Runs.nR hE 1 [] [] (kp [1]) (kq [0]) 32 pn ?_
 obtain ⟨routside,hr,h⟩:=bindSome h
 obtain ⟨routside2,hr2,h⟩:=bindSome h
 obtain ⟨routside3,hr3,h⟩:=bindSome h
 obtain ⟨routside4,hr4,h⟩:=bindSome h
 obtain ⟨routside5,hr5,h⟩:=bindSome h
 obtain ⟨rranged,hr6,h⟩:=bindSome h
 refine Runs.nR hE 1 [(2,⟨[],true,(aB routside),[],0,false,none⟩),(6,⟨[],true,(aB routside2),[],0,false,none⟩),(11,⟨[],true,(aB routside3),[],0,false,none⟩),(16,⟨[],true,(aB routside4),[],0,false,none⟩),(21,⟨[],true,(aB routside5),[],0,false,none⟩),(23,⟨[],true,(aI rranged),[],0,false,none⟩)] [] (kp [2]) [] 432 (pc o1 (pc (g_berth_outside_ok N x.fLn 1 1000000 routside hr) (pc (fun hg:(!routside)=true=>(pc hg (pc o1 pn))) (pc (fun hg:(!routside)=true=>(pc (g_berth_outside_ok N x.f_Width 1 1000000 routside2 (condT hr2 hg)) (pc hg pn))) (pc (fun hq:(!routside)=true=>(pc hq pn)) (pc (fun hg:(!(cond routside true routside2))=true=>(pc hg (pc o1 pn))) (pc (fun hg:(!(cond routside true routside2))=true=>(pc (g_berth_outside_ok N x.f_Sill (-1000000) 1000000 routside3 (condT hr3 hg)) (pc hg pn))) (pc (fun hq:(!(cond routside true routside2))=true=>(pc hq pn)) (pc (fun hg:(!(cond (cond routside true routside2) true routside3))=true=>(pc hg (pc o1 pn))) (pc (fun hg:(!(cond (cond routside true routside2) true routside3))=true=>(pc (g_berth_outside_ok N x.f_Floor (-1000000) 1000000 routside4 (condT hr4 hg)) (pc hg pn))) (pc (fun hq:(!(cond (cond routside true routside2) true routside3))=true=>(pc hq pn)) (pc (fun hg:(!(cond (cond (cond routside true routside2) true routside3) true routside4))=true=>(pc hg (pc o1 pn))) (pc (fun hg:(!(cond (cond (cond routside true routside2) true routside3) true routside4))=true=>(pc (g_berth_outside_ok N x.f_Gap 0 1000000 routside5 (condT hr5 hg)) (pc hg pn))) (pc (fun hq:(!(cond (cond (cond routside true routside2) true routside3) true routside4))=true=>(pc hq pn)) (pc (g_berth_ranged_ok N (cond (cond (cond (cond routside true routside2) true routside3) true routside4) true routside5) rranged hr6) pn))))))))))))))) ?_
 obtain rfl:=Option.some.inj h
 exact Runs.nT hE 0 Try.f94 [] (kp [2]) [] 432 pn [] pn
noncomputable def C_5 (n:Nat):Code:=cat (bodyOf Try.f92) (pth n)
def g_berth_check_Dock_L1_H (N:Nat) (l:List TDock) (K:Int→Option (Int)):Prop:=∀ (x:Int) (r:Int),K x=some r→∀ E,EnvOk E 0→Runs Try.prog E 92 40 (SPost E [] (aI r)) [.code (C_5 116),.inLoop (C_5 116),.inBlock 0,.code (C_5 15)] ⟨[(0,(encL TDock.cells TDock.d l)),(3,(.fn (.func 94) [] [])),(6,(.op 0 0 0)),(16,(encL TDock.cells TDock.d l)),(17,(aI ((l.length:Nat):Int))),(18,(aI x))],[(0,vO 1 [(.fn (.func 93) [] [])])],1⟩
theorem g_berth_check_Dock_L1_ok (N:Nat) (l:List TDock) (fuel:Nat):g_berth_check_Dock_L1_H N l (g_berth_check_Dock_L1 N l fuel):=by
 induction fuel with
 | zero=>intro _ r h;rw [g_berth_check_Dock_L1.eq_1] at h;cases h
 | succ fuel ih =>
  intro x r h E hE
  rw [g_berth_check_Dock_L1.eq_2] at h
  refine Runs.nR hE 1 [] [] (kp [0,3,6,16,17,18,19]) (kq [0]) 17 pn ?_
  refine Runs.nC 1 19 h (fun hq3 h=>?_) (fun hq3 h=>?_)
  ·obtain ⟨c,h⟩:=ifSome h
   refine Runs.nR hE 4 [] [] (kp [0,3,6,9,10,16,17,18]) (kq [0,65]) 113 (pc c (pc o1 pn)) ?_
   obtain ⟨rCheckDocks1,hr,h⟩:=bindSome h
   obtain ⟨rnamed,hr2,h⟩:=bindSome h
   refine Runs.nR hE 2 [(2,⟨[],true,(aS rCheckDocks1),[],0,false,none⟩),(3,⟨[],true,(aB rnamed),[],0,false,none⟩)] [] (kp [0,3,6,9,10,16,17,18,27]) (kq [0,65]) 193 (pc o1 (pc o1 (pc (g_berth_CheckDocks_1_ok N (l.getD ((x).toNat) TDock.d) rCheckDocks1 hr) (pc (g_berth_named_ok N rCheckDocks1 rnamed hr2) pn)))) ?_
   refine Runs.nC 0 27 h (fun hq4 h=>?_) (fun hq4 h=>?_)
   ·refine Runs.nR hE 1 [] [] (kp [8]) [] 209 pn ?_
    obtain rfl:=Option.some.inj h
    exact Runs.nT hE 0 Try.f92 [] (kp [8]) [] 209 pn [] pn
   ·obtain ⟨c2,h⟩:=ifSome h
    obtain ⟨c3,h⟩:=ifSome h
    obtain ⟨rDock,hr3,h⟩:=bindSome h
    refine Runs.nR hE 3 [(4,⟨[0,65],true,(aB rDock),[],0,false,none⟩)] [] (kp [0,3,6,10,16,17,18,32]) (kq [0,65]) 273 (pc c2 (pc c3 (pc (show Sound Try.prog 110 [(.sl ((x).toNat - 0) (fun zi=>TDock.cells (l.getD (addz 0 zi) TDock.d))),(.fn (.func 111) [] [(.op 0 0 0),(.op 1 0 0)])] [(0,vO 1 [(.fn (.func 93) [] [])]),(1,vO 6 (TDock.cells (l.getD ((x).toNat) TDock.d)))] 2 (aB rDock) [(0,vO 1 [(.fn (.func 93) [] [])]),(1,vO 6 (TDock.cells (l.getD ((x).toNat) TDock.d)))] from (Sound.conv (g_slices_ContainsFunc_api_Dock_api_Dock_ok N ((l.take ((x).toNat)).drop 0) (l.getD ((x).toNat) TDock.d) rDock hr3) (.cons (Alike.sl (len_ext' l 0 ((x).toNat) c2) (fun zq hzq=>get_ext TDock.cells TDock.d l 0 ((x).toNat) zq hzq)) (.cons (Alike.refl _) .nil)))) pn))) ?_
    refine Runs.nC 0 32 h (fun hq5 h=>?_) (fun hq5 h=>?_)
    ·refine Runs.nR hE 1 [] [] (kp [8]) [] 289 pn ?_
     obtain rfl:=Option.some.inj h
     exact Runs.nT hE 0 Try.f92 [] (kp [8]) [] 289 pn [] pn
    ·obtain ⟨rCheckDocks2,hr4,h⟩:=bindSome h
     refine Runs.nR hE 2 [(2,⟨[],true,(aI rCheckDocks2),[],0,false,none⟩)] [] (kp [0,3,6,11,16,17,18]) (kq [0]) 337 (pc o1 (pc (g_berth_CheckDocks_2_ok N (l.getD ((x).toNat) TDock.d) rCheckDocks2 hr4) pn)) ?_
     refine Runs.nR hE 1 [] [] (kp [0,3,6,11,16,17,18,37]) (kq [0]) 369 pn ?_
     refine Runs.nC 0 37 h (fun hq6 h=>?_) (fun hq6 h=>?_)
     ·refine Runs.nR hE 1 [] [] (kp [8]) [] 401 pn ?_
      obtain rfl:=Option.some.inj h
      exact Runs.nT hE 0 Try.f92 [] (kp [8]) [] 401 pn [] pn
     ·refine Runs.nR hE 2 [] [] (kp [0,3,6,16,17,18]) (kq [0]) 401 pn ?_
      exact Runs.nW hE 1 [] (kp [0,3,6,16,17,18]) (kq [0]) 1 pn (ih _ _ h E hE)
  ·refine Runs.nR hE 2 [] [] (kp [8]) [] 33 pn ?_
   obtain rfl:=Option.some.inj h
   exact Runs.nT hE 0 Try.f92 [] (kp [8]) [] 48 pn [] pn
theorem g_berth_check_Dock_ok (N:Nat) (l:List TDock) (most:Int) (r:Int) (h:g_berth_check_Dock N l most=some r):Sound Try.prog 92 [(encL TDock.cells TDock.d l),(aI most),(.fn (.func 93) [] []),(.fn (.func 94) [] [])] [] 0 (aI r) []:=by
 unfold g_berth_check_Dock at h
 refine Sound.of_runs (fu:=Try.f92) (c:=C_5 1) (nt:=40) (by kernel_rfl) (by kernel_rfl) (by kernel_rfl) (by kernel_rfl) (fun hm=>rfl) ?_
 intro E hE
 refine Runs.nR hE 1 [] [] (kp [0,1,3,6]) (kq [0]) 32 pn ?_
 refine Runs.nR hE 2 [] [] (kp [0,3,6,15]) (kq [0]) 96 pn ?_
 refine Runs.nC 0 15 h (fun hq2 h=>?_) (fun hq2 h=>?_)
 ·refine Runs.nR hE 1 [] [] (kp [8]) [] 112 pn ?_
  obtain rfl:=Option.some.inj h
  exact Runs.nT hE 0 Try.f92 [] (kp [8]) [] 112 pn [] pn
 ·refine Runs.nR hE 3 [] [] (kp [0,3,6,16,17,18]) (kq [0]) 144 pn ?_
  exact Runs.nW hE 2 [] (kp [0,3,6,16,17,18]) (kq [0]) 1 pn (g_berth_check_Dock_L1_ok N _ N _ _ h E hE)
noncomputable def C_4 (n:Nat):Code:=cat (bodyOf Try.f61) (pth n)
theorem g_berth_CheckDocks_ok (N:Nat) (d:List TDock) (r:Int) (h:g_berth_CheckDocks N d=some r):Sound Try.prog 61 [(encL TDock.cells TDock.d d)] [] 0 (aI r) []:=by
 unfold g_berth_CheckDocks at h
 refine Sound.of_runs (fu:=Try.f61) (c:=C_4 1) (nt:=5) (by kernel_rfl) (by kernel_rfl) (by kernel_rfl) (by kernel_rfl) (fun hm=>rfl) ?_
 intro E hE
 refine Runs.nR hE 1 [] [] (kp [0]) [] 16 pn ?_
 obtain ⟨rDock,hr,h⟩:=bindSome h
 refine Runs.nR hE 1 [(1,⟨[],true,(aI rDock),[],0,false,none⟩)] [] (kp [2]) [] 64 (pc (g_berth_check_Dock_ok N d 4 rDock hr) pn) ?_
 obtain rfl:=Option.some.inj h
 exact Runs.nT hE 0 Try.f61 [] (kp [2]) [] 64 pn [] pn
noncomputable def C_16 (n:Nat):Code:=cat (bodyOf Try.f96) (pth n)
theorem g_berth_CheckCalls_1_ok (N:Nat) (x:TCall) (r:ByteArray) (h:g_berth_CheckCalls_1 N x=some r):Sound Try.prog 96 [(.agg (TCall.cells x))] [] 0 (aS r) []:=by
 unfold g_berth_CheckCalls_1 at h
 refine Sound.of_runs (fu:=Try.f96) (c:=C_16 1) (nt:=5) (by kernel_rfl) (by kernel_rfl) (by kernel_rfl) (by kernel_rfl) (fun hm=>rfl) ?_
 intro E hE
 refine Runs.nR hE 1 [] [] (kp [1]) (kq [0]) 32 pn ?_
 refine Runs.nR hE 1 [] [] (kp [2]) [] 80 (pc o1 pn) ?_
 obtain rfl:=Option.some.inj h
 exact Runs.nT hE 0 Try.f96 [] (kp [2]) [] 80 pn [] pn
noncomputable def C_19 (n:Nat):Code:=cat (bodyOf Try.f113) (pth n)
theorem g_berth_check_Call_1_ok (N:Nat) (y:TCall) (cap1:TCall) (r:Bool) (h:g_berth_check_Call_1 N y cap1=some r):Sound Try.prog 113 [(.agg (TCall.cells y)),(.op 0 0 0),(.op 1 0 0)] [(0,vO 1 [(.fn (.func 96) [] [])]),(1,vO 9 (TCall.cells cap1))] 2 (aB r) [(0,vO 1 [(.fn (.func 96) [] [])]),(1,vO 9 (TCall.cells cap1))]:=by
 unfold g_berth_check_Call_1 at h
 refine Sound.of_runs (fu:=Try.f113) (c:=C_19 1) (nt:=12) (by kernel_rfl) (by kernel_rfl) (by kernel_rfl) (by kernel_rfl) (fun hm=>absurd hm (by decide)) ?_
 intro E hE
 refine Runs.nR hE 1 [] [] (kp [1,2,3]) (kq [0,1,2]) 34 pn ?_
 obtain ⟨rCheckCalls1,hr,h⟩:=bindSome h
 obtain ⟨rCheckCalls12,hr2,h⟩:=bindSome h
 refine Runs.nR hE 1 [(2,⟨[],true,(aS rCheckCalls1),[],0,false,none⟩),(5,⟨[],true,(aS rCheckCalls12),[],0,false,none⟩)] [] (kp [4]) (kq [0,1]) 162 (pc o1 (pc o1 (pc (g_berth_CheckCalls_1_ok N y rCheckCalls1 hr) (pc o1 (pc o1 (pc (g_berth_CheckCalls_1_ok N cap1 rCheckCalls12 hr2) pn)))))) ?_
 obtain rfl:=Option.some.inj h
 exact Runs.nT hE 0 Try.f113 [] (kp [4]) (kq [0,1]) 162 pn [] pn
noncomputable def C_18 (n:Nat):Code:=cat (bodyOf Try.f81) (pth n)
def g_slices_IndexFunc_api_Call_api_Call_L1_H (N:Nat) (s:List TCall) (cap1:TCall) (K:Int→Option (Int)):Prop:=∀ (x:Int) (r:Int),K x=some r→∀ E,EnvOk E 2→Runs Try.prog E 81 19 (SPost E [(0,vO 1 [(.fn (.func 96) [] [])]),(1,vO 9 (TCall.cells cap1))] (aI r)) [.code (C_18 52),.inLoop (C_18 52),.inBlock 0,.code (C_18 7)] ⟨[(0,(encL TCall.cells TCall.d s)),(1,(.fn (.func 113) [] [(.op 0 0 0),(.op 1 0 0)])),(7,(aI ((s.length:Nat):Int))),(8,(aI x))],[(0,vO 1 [(.fn (.func 96) [] [])]),(1,vO 9 (TCall.cells cap1))],2⟩
theorem g_slices_IndexFunc_api_Call_api_Call_L1_ok (N:Nat) (s:List TCall) (cap1:TCall) (fuel:Nat):g_slices_IndexFunc_api_Call_api_Call_L1_H N s cap1 (g_slices_IndexFunc_api_Call_api_Call_L1 N s cap1 fuel):=by
 induction fuel with
 | zero=>intro _ r h;rw [g_slices_IndexFunc_api_Call_api_Call_L1.eq_1] at h;cases h
 | succ fuel ih =>
  intro x r h E hE
  rw [g_slices_IndexFunc_api_Call_api_Call_L1.eq_2] at h
  refine Runs.nR hE 1 [] [] (kp [0,1,7,8,9]) (kq [0,1]) 18 pn ?_
  refine Runs.nC 1 9 h (fun hq2 h=>?_) (fun hq2 h=>?_)
  ·refine Runs.nR hE 4 [] [] (kp [0,1,5,7,8]) (kq [0,1]) 50 pn ?_
   obtain ⟨c,h⟩:=ifSome h
   obtain ⟨rCall1,hr,h⟩:=bindSome h
   refine Runs.nR hE 1 [(5,⟨[0,1],true,(aB rCall1),[],0,false,none⟩)] [] (kp [0,1,5,7,8,16]) (kq [0,1]) 146 (pc c (pc (g_berth_check_Call_1_ok N (s.getD ((x).toNat) TCall.d) cap1 rCall1 hr) pn)) ?_
   refine Runs.nC 0 16 h (fun hq3 h=>?_) (fun hq3 h=>?_)
   ·refine Runs.nR hE 1 [] [] (kp [4]) (kq [0,1]) 178 pn ?_
    obtain rfl:=Option.some.inj h
    exact Runs.nT hE 0 Try.f81 [] (kp [4]) (kq [0,1]) 178 pn [] pn
   ·refine Runs.nR hE 2 [] [] (kp [0,1,7,8]) (kq [0,1]) 178 pn ?_
    exact Runs.nW hE 1 [] (kp [0,1,7,8]) (kq [0,1]) 2 pn (ih _ _ h E hE)
  ·refine Runs.nR hE 2 [] [] (kp [4]) (kq [0,1]) 34 pn ?_
   obtain rfl:=Option.some.inj h
   exact Runs.nT hE 0 Try.f81 [] (kp [4]) (kq [0,1]) 50 pn [] pn
theorem g_slices_IndexFunc_api_Call_api_Call_ok (N:Nat) (s:List TCall) (cap1:TCall) (r:Int) (h:g_slices_IndexFunc_api_Call_api_Call N s cap1=some r):Sound Try.prog 81 [(encL TCall.cells TCall.d s),(.fn (.func 113) [] [(.op 0 0 0),(.op 1 0 0)])] [(0,vO 1 [(.fn (.func 96) [] [])]),(1,vO 9 (TCall.cells cap1))] 2 (aI r) [(0,vO 1 [(.fn (.func 96) [] [])]),(1,vO 9 (TCall.cells cap1))]:=by
 unfold g_slices_IndexFunc_api_Call_api_Call at h
 refine Sound.of_runs (fu:=Try.f81) (c:=C_18 1) (nt:=19) (by kernel_rfl) (by kernel_rfl) (by kernel_rfl) (by kernel_rfl) (fun hm=>absurd hm (by decide)) ?_
 intro E hE
 refine Runs.nR hE 1 [] [] (kp [0,1]) (kq [0,1]) 18 pn ?_
 refine Runs.nR hE 2 [] [] (kp [0,1,7,8]) (kq [0,1]) 66 pn ?_
 exact Runs.nW hE 2 [] (kp [0,1,7,8]) (kq [0,1]) 2 pn (g_slices_IndexFunc_api_Call_api_Call_L1_ok N _ _ N _ _ h E hE)
noncomputable def C_17 (n:Nat):Code:=cat (bodyOf Try.f112) (pth n)
theorem g_slices_ContainsFunc_api_Call_api_Call_ok (N:Nat) (s:List TCall) (cap1:TCall) (r:Bool) (h:g_slices_ContainsFunc_api_Call_api_Call N s cap1=some r):Sound Try.prog 112 [(encL TCall.cells TCall.d s),(.fn (.func 113) [] [(.op 0 0 0),(.op 1 0 0)])] [(0,vO 1 [(.fn (.func 96) [] [])]),(1,vO 9 (TCall.cells cap1))] 2 (aB r) [(0,vO 1 [(.fn (.func 96) [] [])]),(1,vO 9 (TCall.cells cap1))]:=by
 unfold g_slices_ContainsFunc_api_Call_api_Call at h
 refine Sound.of_runs (fu:=Try.f112) (c:=C_17 1) (nt:=9) (by kernel_rfl) (by kernel_rfl) (by kernel_rfl) (by kernel_rfl) (fun hm=>absurd hm (by decide)) ?_
 intro E hE
 refine Runs.nR hE 1 [] [] (kp [0,1]) (kq [0,1]) 18 pn ?_
 obtain ⟨rCall,hr,h⟩:=bindSome h
 refine Runs.nR hE 1 [(2,⟨[0,1],true,(aI rCall),[],0,false,none⟩)] [] (kp [4]) (kq [0,1]) 98 (pc (g_slices_IndexFunc_api_Call_api_Call_ok N s cap1 rCall hr) pn) ?_
 obtain rfl:=Option.some.inj h
 exact Runs.nT hE 0 Try.f112 [] (kp [4]) (kq [0,1]) 98 pn [] pn
noncomputable def C_20 (n:Nat):Code:=cat (bodyOf Try.f97) (pth n)
theorem g_berth_CheckCalls_2_ok (N:Nat) (x:TCall) (r:Int) (h:g_berth_CheckCalls_2 N x=some r):Sound Try.prog 97 [(.agg (TCall.cells x))] [] 0 (aI r) []:=by
 unfold g_berth_CheckCalls_2 at h
 refine Sound.of_runs (fu:=Try.f97) (c:=C_20 1) (nt:=40) (by kernel_rfl) (by kernel_rfl) (by kernel_rfl) (by kernel_rfl) (fun hm=>rfl) ?_
 intro E hE
 refine Runs.nR hE 1 [] [] (kp [1]) (kq [0]) 32 pn ?_
 obtain ⟨routside,hr,h⟩:=bindSome h
 obtain ⟨routside2,hr2,h⟩:=bindSome h
 obtain ⟨routside3,hr3,h⟩:=bindSome h
 obtain ⟨routside4,hr4,h⟩:=bindSome h
 refine Runs.nR hE 2 [(2,⟨[],true,(aB routside),[],0,false,none⟩),(6,⟨[],true,(aB routside2),[],0,false,none⟩),(11,⟨[],true,(aB routside3),[],0,false,none⟩),(16,⟨[],true,(aB routside4),[],0,false,none⟩)] [] (kp [1,20]) (kq [0]) 320 (pc o1 (pc (g_berth_outside_ok N x.fLn 1 1000000 routside hr) (pc (fun hg:(!routside)=true=>(pc hg (pc o1 pn))) (pc (fun hg:(!routside)=true=>(pc (g_berth_outside_ok N x.f_Beam 1 1000000 routside2 (condT hr2 hg)) (pc hg pn))) (pc (fun hq:(!routside)=true=>(pc hq pn)) (pc (fun hg:(!(cond routside true routside2))=true=>(pc hg (pc o1 pn))) (pc (fun hg:(!(cond routside true routside2))=true=>(pc (g_berth_outside_ok N x.f_Draught 0 1000000 routside3 (condT hr3 hg)) (pc hg pn))) (pc (fun hq:(!(cond routside true routside2))=true=>(pc hq pn)) (pc (fun hg:(!(cond (cond routside true routside2) true routside3))=true=>(pc hg (pc o1 pn))) (pc (fun hg:(!(cond (cond routside true routside2) true routside3))=true=>(pc (g_berth_outside_ok N x.f_Under 0 1000000 routside4 (condT hr4 hg)) (pc hg pn))) (pc (fun hq:(!(cond (cond routside true routside2) true routside3))=true=>(pc hq pn)) pn))))))))))) ?_
 refine Runs.nC 0 20 h (fun hq2 h=>?_) (fun hq2 h=>?_)
 ·refine Runs.nR hE 1 [] [] (kp [2]) [] 336 pn ?_
  obtain rfl:=Option.some.inj h
  exact Runs.nT hE 0 Try.f97 [] (kp [2]) [] 336 pn [] pn
 ·obtain ⟨routside5,hr5,h⟩:=bindSome h
  obtain ⟨routside6,hr6,h⟩:=bindSome h
  obtain ⟨routside7,hr7,h⟩:=bindSome h
  obtain ⟨routside8,hr8,h⟩:=bindSome h
  obtain ⟨rranged,hr9,h⟩:=bindSome h
  refine Runs.nR hE 2 [(2,⟨[],true,(aB routside5),[],0,false,none⟩),(6,⟨[],true,(aB routside6),[],0,false,none⟩),(11,⟨[],true,(aB routside7),[],0,false,none⟩),(16,⟨[],true,(aB routside8),[],0,false,none⟩),(18,⟨[],true,(aI rranged),[],0,false,none⟩)] [] (kp [2]) [] 640 (pc o1 (pc (g_berth_outside_ok N x.f_Arrive 0 400 routside5 hr5) (pc (fun hg:(!routside5)=true=>(pc hg (pc o1 pn))) (pc (fun hg:(!routside5)=true=>(pc (g_berth_outside_ok N x.f_Due 0 400 routside6 (condT hr6 hg)) (pc hg pn))) (pc (fun hq:(!routside5)=true=>(pc hq pn)) (pc (fun hg:(!(cond routside5 true routside6))=true=>(pc hg (pc o1 pn))) (pc (fun hg:(!(cond routside5 true routside6))=true=>(pc (g_berth_outside_ok N x.f_Work 1 1000 routside7 (condT hr7 hg)) (pc hg pn))) (pc (fun hq:(!(cond routside5 true routside6))=true=>(pc hq pn)) (pc (fun hg:(!(cond (cond routside5 true routside6) true routside7))=true=>(pc hg (pc o1 pn))) (pc (fun hg:(!(cond (cond routside5 true routside6) true routside7))=true=>(pc (g_berth_outside_ok N x.f_Late 0 1000000000 routside8 (condT hr8 hg)) (pc hg pn))) (pc (fun hq:(!(cond (cond routside5 true routside6) true routside7))=true=>(pc hq pn)) (pc (g_berth_ranged_ok N (cond (cond (cond routside5 true routside6) true routside7) true routside8) rranged hr9) pn)))))))))))) ?_
  obtain rfl:=Option.some.inj h
  exact Runs.nT hE 0 Try.f97 [] (kp [2]) [] 640 pn [] pn
noncomputable def C_15 (n:Nat):Code:=cat (bodyOf Try.f95) (pth n)
def g_berth_check_Call_L1_H (N:Nat) (l:List TCall) (K:Int→Option (Int)):Prop:=∀ (x:Int) (r:Int),K x=some r→∀ E,EnvOk E 0→Runs Try.prog E 95 40 (SPost E [] (aI r)) [.code (C_15 116),.inLoop (C_15 116),.inBlock 0,.code (C_15 15)] ⟨[(0,(encL TCall.cells TCall.d l)),(3,(.fn (.func 97) [] [])),(6,(.op 0 0 0)),(16,(encL TCall.cells TCall.d l)),(17,(aI ((l.length:Nat):Int))),(18,(aI x))],[(0,vO 1 [(.fn (.func 96) [] [])])],1⟩
theorem g_berth_check_Call_L1_ok (N:Nat) (l:List TCall) (fuel:Nat):g_berth_check_Call_L1_H N l (g_berth_check_Call_L1 N l fuel):=by
 induction fuel with
 | zero=>intro _ r h;rw [g_berth_check_Call_L1.eq_1] at h;cases h
 | succ fuel ih =>
  intro x r h E hE
  rw [g_berth_check_Call_L1.eq_2] at h
  refine Runs.nR hE 1 [] [] (kp [0,3,6,16,17,18,19]) (kq [0]) 17 pn ?_
  refine Runs.nC 1 19 h (fun hq3 h=>?_) (fun hq3 h=>?_)
  ·obtain ⟨c,h⟩:=ifSome h
   refine Runs.nR hE 4 [] [] (kp [0,3,6,9,10,16,17,18]) (kq [0,65]) 113 (pc c (pc o1 pn)) ?_
   obtain ⟨rCheckCalls1,hr,h⟩:=bindSome h
   obtain ⟨rnamed,hr2,h⟩:=bindSome h
   refine Runs.nR hE 2 [(2,⟨[],true,(aS rCheckCalls1),[],0,false,none⟩),(3,⟨[],true,(aB rnamed),[],0,false,none⟩)] [] (kp [0,3,6,9,10,16,17,18,27]) (kq [0,65]) 193 (pc o1 (pc o1 (pc (g_berth_CheckCalls_1_ok N (l.getD ((x).toNat) TCall.d) rCheckCalls1 hr) (pc (g_berth_named_ok N rCheckCalls1 rnamed hr2) pn)))) ?_
   refine Runs.nC 0 27 h (fun hq4 h=>?_) (fun hq4 h=>?_)
   ·refine Runs.nR hE 1 [] [] (kp [8]) [] 209 pn ?_
    obtain rfl:=Option.some.inj h
    exact Runs.nT hE 0 Try.f95 [] (kp [8]) [] 209 pn [] pn
   ·obtain ⟨c2,h⟩:=ifSome h
    obtain ⟨c3,h⟩:=ifSome h
    obtain ⟨rCall,hr3,h⟩:=bindSome h
    refine Runs.nR hE 3 [(4,⟨[0,65],true,(aB rCall),[],0,false,none⟩)] [] (kp [0,3,6,10,16,17,18,32]) (kq [0,65]) 273 (pc c2 (pc c3 (pc (show Sound Try.prog 112 [(.sl ((x).toNat - 0) (fun zi=>TCall.cells (l.getD (addz 0 zi) TCall.d))),(.fn (.func 113) [] [(.op 0 0 0),(.op 1 0 0)])] [(0,vO 1 [(.fn (.func 96) [] [])]),(1,vO 9 (TCall.cells (l.getD ((x).toNat) TCall.d)))] 2 (aB rCall) [(0,vO 1 [(.fn (.func 96) [] [])]),(1,vO 9 (TCall.cells (l.getD ((x).toNat) TCall.d)))] from (Sound.conv (g_slices_ContainsFunc_api_Call_api_Call_ok N ((l.take ((x).toNat)).drop 0) (l.getD ((x).toNat) TCall.d) rCall hr3) (.cons (Alike.sl (len_ext' l 0 ((x).toNat) c2) (fun zq hzq=>get_ext TCall.cells TCall.d l 0 ((x).toNat) zq hzq)) (.cons (Alike.refl _) .nil)))) pn))) ?_
    refine Runs.nC 0 32 h (fun hq5 h=>?_) (fun hq5 h=>?_)
    ·refine Runs.nR hE 1 [] [] (kp [8]) [] 289 pn ?_
     obtain rfl:=Option.some.inj h
     exact Runs.nT hE 0 Try.f95 [] (kp [8]) [] 289 pn [] pn
    ·obtain ⟨rCheckCalls2,hr4,h⟩:=bindSome h
     refine Runs.nR hE 2 [(2,⟨[],true,(aI rCheckCalls2),[],0,false,none⟩)] [] (kp [0,3,6,11,16,17,18]) (kq [0]) 337 (pc o1 (pc (g_berth_CheckCalls_2_ok N (l.getD ((x).toNat) TCall.d) rCheckCalls2 hr4) pn)) ?_
     refine Runs.nR hE 1 [] [] (kp [0,3,6,11,16,17,18,37]) (kq [0]) 369 pn ?_
     refine Runs.nC 0 37 h (fun hq6 h=>?_) (fun hq6 h=>?_)
     ·refine Runs.nR hE 1 [] [] (kp [8]) [] 401 pn ?_
      obtain rfl:=Option.some.inj h
      exact Runs.nT hE 0 Try.f95 [] (kp [8]) [] 401 pn [] pn
     ·refine Runs.nR hE 2 [] [] (kp [0,3,6,16,17,18]) (kq [0]) 401 pn ?_
      exact Runs.nW hE 1 [] (kp [0,3,6,16,17,18]) (kq [0]) 1 pn (ih _ _ h E hE)
  ·refine Runs.nR hE 2 [] [] (kp [8]) [] 33 pn ?_
   obtain rfl:=Option.some.inj h
   exact Runs.nT hE 0 Try.f95 [] (kp [8]) [] 48 pn [] pn
theorem g_berth_check_Call_ok (N:Nat) (l:List TCall) (most:Int) (r:Int) (h:g_berth_check_Call N l most=some r):Sound Try.prog 95 [(encL TCall.cells TCall.d l),(aI most),(.fn (.func 96) [] []),(.fn (.func 97) [] [])] [] 0 (aI r) []:=by
 unfold g_berth_check_Call at h
 refine Sound.of_runs (fu:=Try.f95) (c:=C_15 1) (nt:=40) (by kernel_rfl) (by kernel_rfl) (by kernel_rfl) (by kernel_rfl) (fun hm=>rfl) ?_
 intro E hE
 refine Runs.nR hE 1 [] [] (kp [0,1,3,6]) (kq [0]) 32 pn ?_
 refine Runs.nR hE 2 [] [] (kp [0,3,6,15]) (kq [0]) 96 pn ?_
 refine Runs.nC 0 15 h (fun hq2 h=>?_) (fun hq2 h=>?_)
 ·refine Runs.nR hE 1 [] [] (kp [8]) [] 112 pn ?_
  obtain rfl:=Option.some.inj h
  exact Runs.nT hE 0 Try.f95 [] (kp [8]) [] 112 pn [] pn
 ·refine Runs.nR hE 3 [] [] (kp [0,3,6,16,17,18]) (kq [0]) 144 pn ?_
  exact Runs.nW hE 2 [] (kp [0,3,6,16,17,18]) (kq [0]) 1 pn (g_berth_check_Call_L1_ok N _ N _ _ h E hE)
noncomputable def C_14 (n:Nat):Code:=cat (bodyOf Try.f62) (pth n)
theorem g_berth_CheckCalls_ok (N:Nat) (c:List TCall) (r:Int) (h:g_berth_CheckCalls N c=some r):Sound Try.prog 62 [(encL TCall.cells TCall.d c)] [] 0 (aI r) []:=by
 unfold g_berth_CheckCalls at h
 refine Sound.of_runs (fu:=Try.f62) (c:=C_14 1) (nt:=5) (by kernel_rfl) (by kernel_rfl) (by kernel_rfl) (by kernel_rfl) (fun hm=>rfl) ?_
 intro E hE
 refine Runs.nR hE 1 [] [] (kp [0]) [] 16 pn ?_
 obtain ⟨rCall,hr,h⟩:=bindSome h
 refine Runs.nR hE 1 [(1,⟨[],true,(aI rCall),[],0,false,none⟩)] [] (kp [2]) [] 64 (pc (g_berth_check_Call_ok N c 8 rCall hr) pn) ?_
 obtain rfl:=Option.some.inj h
 exact Runs.nT hE 0 Try.f62 [] (kp [2]) [] 64 pn [] pn
noncomputable def C_3 (n:Nat):Code:=cat (bodyOf Try.f30) (pth n)
theorem g_berth_both_ok (N:Nat) (d:TDock) (c:List TCall) (r:Int) (h:g_berth_both N d c=some r):Sound Try.prog 30 [(.agg (TDock.cells d)),(encL TCall.cells TCall.d c)] [] 0 (aI r) []:=by
 unfold g_berth_both at h
 refine Sound.of_runs (fu:=Try.f30) (c:=C_3 1) (nt:=14) (by kernel_rfl) (by kernel_rfl) (by kernel_rfl) (by kernel_rfl) (fun hm=>rfl) ?_
 intro E hE
 refine Runs.nR hE 1 [] [] (kp [1,2]) (kq [0]) 32 pn ?_
 obtain ⟨rCheckDocks,hr,h⟩:=bindSome h
 refine Runs.nR hE 2 [(2,⟨[],true,(aI rCheckDocks),[],0,false,none⟩)] [] (kp [1,5]) [] 96 (pc o1 (pc (show Sound Try.prog 61 [(.sl 1 (fun zi=>(fun zi=>([[(aS d.f_Name),(aI d.fLn),(aI d.f_Width),(aI d.f_Sill),(aI d.f_Floor),(aI d.f_Gap)]]:List (List AV)).getD zi []) (addz 0 zi)))] [] 0 (aI rCheckDocks) [] from (Sound.conv (g_berth_CheckDocks_ok N ([d]:List TDock) rCheckDocks hr) (.cons (Alike.sl rfl (fun zq hzq=>get_chunk TDock.cells TDock.d ([d]:List TDock) zq hzq)) .nil))) (pc (z1 1) pn))) ?_
 refine Runs.nR hE 1 [] [] (kp [1,5,10]) [] 128 pn ?_
 refine Runs.nC 0 10 h (fun hq2 h=>?_) (fun hq2 h=>?_)
 ·refine Runs.nR hE 1 [] [] (kp [4]) [] 160 pn ?_
  obtain rfl:=Option.some.inj h
  exact Runs.nT hE 0 Try.f30 [] (kp [4]) [] 160 pn [] pn
 ·obtain ⟨rCheckCalls,hr2,h⟩:=bindSome h
  refine Runs.nR hE 2 [(1,⟨[],true,(aI rCheckCalls),[],0,false,none⟩)] [] (kp [4]) [] 176 (pc (g_berth_CheckCalls_ok N c rCheckCalls hr2) pn) ?_
  obtain rfl:=Option.some.inj h
  exact Runs.nT hE 0 Try.f30 [] (kp [4]) [] 176 pn [] pn
noncomputable def C_21 (n:Nat):Code:=cat (bodyOf Try.f53) (pth n)
theorem g_berth_fits_ok (N:Nat) (d:TDock) (c:TCall) (r:Bool) (h:g_berth_fits N d c=some r):Sound Try.prog 53 [(.agg (TDock.cells d)),(.agg (TCall.cells c))] [] 0 (aB r) []:=by
 unfold g_berth_fits at h
 refine Sound.of_runs (fu:=Try.f53) (c:=C_21 1) (nt:=25) (by kernel_rfl) (by kernel_rfl) (by kernel_rfl) (by kernel_rfl) (fun hm=>rfl) ?_
 intro E hE
 refine Runs.nR hE 1 [] [] (kp [2,3]) (kq [0,16]) 48 pn ?_
 refine Runs.nR hE 1 [] [] (kp [4]) [] 384 (pc o1 (pc o1 (pc o1 (pc (fun hg:(decide ((w64 (c.fLn+(w64 (2 * d.f_Gap))))≤d.fLn))=true=>(pc hg (pc o1 pn))) (pc (fun hg:(decide ((w64 (c.fLn+(w64 (2 * d.f_Gap))))≤d.fLn))=true=>(pc hg (pc o1 pn))) (pc (fun hg:(decide ((w64 (c.fLn+(w64 (2 * d.f_Gap))))≤d.fLn))=true=>(pc hg pn)) (pc (fun hg:(decide ((w64 (c.fLn+(w64 (2 * d.f_Gap))))≤d.fLn))=true=>(pc hg (pc hg pn))) (pc (fun hg:(decide ((w64 (c.fLn+(w64 (2 * d.f_Gap))))≤d.fLn))=true=>(pc hg (pc o1 pn))) (pc (fun hg:(decide ((w64 (c.fLn+(w64 (2 * d.f_Gap))))≤d.fLn))=true=>(pc hg (pc hg pn))) (pc (fun hq:(decide ((w64 (c.fLn+(w64 (2 * d.f_Gap))))≤d.fLn))=true=>(pc hq pn)) pn)))))))))) ?_
 obtain rfl:=Option.some.inj h
 exact Runs.nT hE 0 Try.f53 [] (kp [4]) [] 384 pn [] pn
noncomputable def C_23 (n:Nat):Code:=cat (bodyOf Try.f9) (pth n)
def g_w06_Names_L1_H (N:Nat) (d:List TDock) (c:List TCall) (K:Int→Option (Bool)):Prop:=∀ (i:Int) (r:Bool),K i=some r→∀ E,EnvOk E 0→Runs Try.prog E 9 41 (SPost E [] (aB r)) [.code (C_23 116),.inLoop (C_23 116),.inBlock 0,.code (C_23 15)] ⟨[(0,(encL TDock.cells TDock.d d)),(1,(encL TCall.cells TCall.d c)),(5,(aI i))],[],0⟩
def g_w06_Names_L2_H (N:Nat) (c:List TCall) (K:Int→Option (Bool)):Prop:=∀ (i2:Int) (r:Bool),K i2=some r→∀ E,EnvOk E 0→Runs Try.prog E 9 41 (SPost E [] (aB r)) [.code (C_23 244),.inLoop (C_23 244),.inBlock 2,.code (C_23 31)] ⟨[(1,(encL TCall.cells TCall.d c)),(6,(aI i2))],[],0⟩
theorem g_w06_Names_L2_ok (N:Nat) (c:List TCall) (fuel:Nat):g_w06_Names_L2_H N c (g_w06_Names_L2 N c fuel):=by
 induction fuel with
 | zero=>intro _ r h;rw [g_w06_Names_L2.eq_1] at h;cases h
 | succ fuel ih =>
  intro i2 r h E hE
  rw [g_w06_Names_L2.eq_2] at h
  refine Runs.nR hE 2 [] [] (kp [1,6,31]) [] 64 pn ?_
  refine Runs.nC 0 31 h (fun hq5 h=>?_) (fun hq5 h=>?_)
  ·obtain ⟨c3,h⟩:=ifSome h
   refine Runs.nR hE 4 [] [] (kp [1,6,40]) [] 176 (pc c3 pn) ?_
   refine Runs.nC 0 40 h (fun hq6 h=>?_) (fun hq6 h=>?_)
   ·refine Runs.nR hE 1 [] [] (kp [4]) [] 192 pn ?_
    obtain rfl:=Option.some.inj h
    exact Runs.nT hE 0 Try.f9 [] (kp [4]) [] 192 pn [] pn
   ·refine Runs.nR hE 2 [] [] (kp [1,6]) [] 224 pn ?_
    exact Runs.nW hE 1 [] (kp [1,6]) [] 0 pn (ih _ _ h E hE)
  ·refine Runs.nR hE 2 [] [] (kp [4]) [] 80 pn ?_
   obtain rfl:=Option.some.inj h
   exact Runs.nT hE 0 Try.f9 [] (kp [4]) [] 80 pn [] pn
theorem g_w06_Names_L1_ok (N:Nat) (d:List TDock) (c:List TCall) (fuel:Nat):g_w06_Names_L1_H N d c (g_w06_Names_L1 N d c fuel):=by
 induction fuel with
 | zero=>intro _ r h;rw [g_w06_Names_L1.eq_1] at h;cases h
 | succ fuel ih =>
  intro i r h E hE
  rw [g_w06_Names_L1.eq_2] at h
  refine Runs.nR hE 2 [] [] (kp [0,1,5,18]) [] 64 pn ?_
  refine Runs.nC 0 18 h (fun hq3 h=>?_) (fun hq3 h=>?_)
  ·obtain ⟨c2,h⟩:=ifSome h
   refine Runs.nR hE 4 [] [] (kp [0,1,5,27]) [] 176 (pc c2 pn) ?_
   refine Runs.nC 0 27 h (fun hq4 h=>?_) (fun hq4 h=>?_)
   ·refine Runs.nR hE 1 [] [] (kp [4]) [] 192 pn ?_
    obtain rfl:=Option.some.inj h
    exact Runs.nT hE 0 Try.f9 [] (kp [4]) [] 192 pn [] pn
   ·refine Runs.nR hE 2 [] [] (kp [0,1,5]) [] 224 pn ?_
    exact Runs.nW hE 1 [] (kp [0,1,5]) [] 0 pn (ih _ _ h E hE)
  ·refine Runs.nR hE 3 [] [] (kp [1,6]) [] 80 pn ?_
   exact Runs.nW hE 2 [] (kp [1,6]) [] 0 pn (g_w06_Names_L2_ok N _ N _ _ h E hE)
theorem g_w06_Names_ok (N:Nat) (d:List TDock) (c:List TCall) (r:Bool) (h:g_w06_Names N d c=some r):Sound Try.prog 9 [(encL TDock.cells TDock.d d),(encL TCall.cells TCall.d c)] [] 0 (aB r) []:=by
 unfold g_w06_Names at h
 refine Sound.of_runs (fu:=Try.f9) (c:=C_23 1) (nt:=41) (by kernel_rfl) (by kernel_rfl) (by kernel_rfl) (by kernel_rfl) (fun hm=>rfl) ?_
 intro E hE
 refine Runs.nR hE 1 [] [] (kp [0,1]) [] 16 pn ?_
 refine Runs.nR hE 2 [] [] (kp [0,1,14]) [] 144 (pc (fun hg:(!(decide (((d.length:Nat):Int) > 6)))=true=>(pc hg pn)) (pc (fun hg:(!(decide (((d.length:Nat):Int) > 6)))=true=>(pc hg pn)) (pc (fun hq:(!(decide (((d.length:Nat):Int) > 6)))=true=>(pc hq pn)) pn))) ?_
 refine Runs.nC 0 14 h (fun hq2 h=>?_) (fun hq2 h=>?_)
 ·refine Runs.nR hE 1 [] [] (kp [4]) [] 160 pn ?_
  obtain rfl:=Option.some.inj h
  exact Runs.nT hE 0 Try.f9 [] (kp [4]) [] 160 pn [] pn
 ·refine Runs.nR hE 3 [] [] (kp [0,1,5]) [] 160 pn ?_
  exact Runs.nW hE 2 [] (kp [0,1,5]) [] 0 pn (g_w06_Names_L1_ok N _ _ N _ _ h E hE)
noncomputable def C_28 (n:Nat):Code:=cat (bodyOf Try.f59) (pth n)
def g_b_IsName_L1_H (N:Nat) (s:ByteArray) (K:Int→Option (Bool)):Prop:=∀ (i:Int) (r:Bool),K i=some r→∀ E,EnvOk E 0→Runs Try.prog E 59 55 (SPost E [] (aB r)) [.code (C_28 116),.inLoop (C_28 116),.inBlock 0,.code (C_28 15)] ⟨[(0,(aS s)),(3,(aI i))],[],0⟩
theorem g_b_IsName_L1_ok (N:Nat) (s:ByteArray) (fuel:Nat):g_b_IsName_L1_H N s (g_b_IsName_L1 N s fuel):=by
 induction fuel with
 | zero=>intro _ r h;rw [g_b_IsName_L1.eq_1] at h;cases h
 | succ fuel ih =>
  intro i r h E hE
  rw [g_b_IsName_L1.eq_2] at h
  refine Runs.nR hE 2 [] [] (kp [0,3,17]) [] 64 pn ?_
  refine Runs.nC 0 17 h (fun hq3 h=>?_) (fun hq3 h=>?_)
  ·obtain ⟨c,h⟩:=ifSome h
   refine Runs.nR hE 4 [] [] (kp [0,3,4]) [] 128 (pc c pn) ?_
   refine Runs.nR hE 1 [] [] (kp [0,3,4,5]) [] 368 (pc (fun hg:(decide ((byteAt s ((i).toNat))≥97))=true=>(pc hg pn)) (pc (fun hq:(decide ((byteAt s ((i).toNat))≥97))=true=>(pc hq pn)) (pc (fun hg:(!(cond (decide ((byteAt s ((i).toNat))≥97)) (decide ((byteAt s ((i).toNat))≤122)) false))=true=>(pc hg pn)) (pc (fun hg:((!(cond (decide ((byteAt s ((i).toNat))≥97)) (decide ((byteAt s ((i).toNat))≤122)) false)) && ((!(cond (decide ((byteAt s ((i).toNat))≥97)) (decide ((byteAt s ((i).toNat))≤122)) false)) && (decide ((byteAt s ((i).toNat))≥65))))=true=>(pc hg pn)) (pc (fun hg:(!(cond (decide ((byteAt s ((i).toNat))≥97)) (decide ((byteAt s ((i).toNat))≤122)) false))=true=>(pc hg (pc hg (pc (fun hq:(decide ((byteAt s ((i).toNat))≥65))=true=>(pc (show ((!(cond (decide ((byteAt s ((i).toNat))≥97)) (decide ((byteAt s ((i).toNat))≤122)) false)) && ((!(cond (decide ((byteAt s ((i).toNat))≥97)) (decide ((byteAt s ((i).toNat))≤122)) false)) && (decide ((byteAt s ((i).toNat))≥65))))=true from (andI' hg (andI' hg hq))) pn)) pn)))) (pc (fun hq:(!(cond (decide ((byteAt s ((i).toNat))≥97)) (decide ((byteAt s ((i).toNat))≤122)) false))=true=>(pc hq pn)) pn)))))) ?_
   refine Runs.nR hE 1 [] [] (kp [0,3,54]) [] 656 (pc (fun hg:(!(cond (cond (decide ((byteAt s ((i).toNat))≥97)) (decide ((byteAt s ((i).toNat))≤122)) false) true (cond (decide ((byteAt s ((i).toNat))≥65)) (decide ((byteAt s ((i).toNat))≤90)) false)))=true=>(pc hg pn)) (pc (fun hg:((!(cond (cond (decide ((byteAt s ((i).toNat))≥97)) (decide ((byteAt s ((i).toNat))≤122)) false) true (cond (decide ((byteAt s ((i).toNat))≥65)) (decide ((byteAt s ((i).toNat))≤90)) false))) && ((!(cond (cond (decide ((byteAt s ((i).toNat))≥97)) (decide ((byteAt s ((i).toNat))≤122)) false) true (cond (decide ((byteAt s ((i).toNat))≥65)) (decide ((byteAt s ((i).toNat))≤90)) false))) && (!(i == 0))))=true=>(pc hg pn)) (pc (fun hg:(((!(cond (cond (decide ((byteAt s ((i).toNat))≥97)) (decide ((byteAt s ((i).toNat))≤122)) false) true (cond (decide ((byteAt s ((i).toNat))≥65)) (decide ((byteAt s ((i).toNat))≤90)) false))) && ((!(cond (cond (decide ((byteAt s ((i).toNat))≥97)) (decide ((byteAt s ((i).toNat))≤122)) false) true (cond (decide ((byteAt s ((i).toNat))≥65)) (decide ((byteAt s ((i).toNat))≤90)) false))) && (!(i == 0)))) && (((!(cond (cond (decide ((byteAt s ((i).toNat))≥97)) (decide ((byteAt s ((i).toNat))≤122)) false) true (cond (decide ((byteAt s ((i).toNat))≥65)) (decide ((byteAt s ((i).toNat))≤90)) false))) && ((!(cond (cond (decide ((byteAt s ((i).toNat))≥97)) (decide ((byteAt s ((i).toNat))≤122)) false) true (cond (decide ((byteAt s ((i).toNat))≥65)) (decide ((byteAt s ((i).toNat))≤90)) false))) && (!(i == 0)))) && ((byteAt s ((i).toNat)) != 45)))=true=>(pc hg pn)) (pc (fun hg:((((!(cond (cond (decide ((byteAt s ((i).toNat))≥97)) (decide ((byteAt s ((i).toNat))≤122)) false) true (cond (decide ((byteAt s ((i).toNat))≥65)) (decide ((byteAt s ((i).toNat))≤90)) false))) && ((!(cond (cond (decide ((byteAt s ((i).toNat))≥97)) (decide ((byteAt s ((i).toNat))≤122)) false) true (cond (decide ((byteAt s ((i).toNat))≥65)) (decide ((byteAt s ((i).toNat))≤90)) false))) && (!(i == 0)))) && (((!(cond (cond (decide ((byteAt s ((i).toNat))≥97)) (decide ((byteAt s ((i).toNat))≤122)) false) true (cond (decide ((byteAt s ((i).toNat))≥65)) (decide ((byteAt s ((i).toNat))≤90)) false))) && ((!(cond (cond (decide ((byteAt s ((i).toNat))≥97)) (decide ((byteAt s ((i).toNat))≤122)) false) true (cond (decide ((byteAt s ((i).toNat))≥65)) (decide ((byteAt s ((i).toNat))≤90)) false))) && (!(i == 0)))) && ((byteAt s ((i).toNat)) != 45))) && ((((!(cond (cond (decide ((byteAt s ((i).toNat))≥97)) (decide ((byteAt s ((i).toNat))≤122)) false) true (cond (decide ((byteAt s ((i).toNat))≥65)) (decide ((byteAt s ((i).toNat))≤90)) false))) && ((!(cond (cond (decide ((byteAt s ((i).toNat))≥97)) (decide ((byteAt s ((i).toNat))≤122)) false) true (cond (decide ((byteAt s ((i).toNat))≥65)) (decide ((byteAt s ((i).toNat))≤90)) false))) && (!(i == 0)))) && (((!(cond (cond (decide ((byteAt s ((i).toNat))≥97)) (decide ((byteAt s ((i).toNat))≤122)) false) true (cond (decide ((byteAt s ((i).toNat))≥65)) (decide ((byteAt s ((i).toNat))≤90)) false))) && ((!(cond (cond (decide ((byteAt s ((i).toNat))≥97)) (decide ((byteAt s ((i).toNat))≤122)) false) true (cond (decide ((byteAt s ((i).toNat))≥65)) (decide ((byteAt s ((i).toNat))≤90)) false))) && (!(i == 0)))) && ((byteAt s ((i).toNat)) != 45))) && (!(decide ((byteAt s ((i).toNat)) < 48)))))=true=>(pc hg pn)) (pc (fun hg:(((!(cond (cond (decide ((byteAt s ((i).toNat))≥97)) (decide ((byteAt s ((i).toNat))≤122)) false) true (cond (decide ((byteAt s ((i).toNat))≥65)) (decide ((byteAt s ((i).toNat))≤90)) false))) && ((!(cond (cond (decide ((byteAt s ((i).toNat))≥97)) (decide ((byteAt s ((i).toNat))≤122)) false) true (cond (decide ((byteAt s ((i).toNat))≥65)) (decide ((byteAt s ((i).toNat))≤90)) false))) && (!(i == 0)))) && (((!(cond (cond (decide ((byteAt s ((i).toNat))≥97)) (decide ((byteAt s ((i).toNat))≤122)) false) true (cond (decide ((byteAt s ((i).toNat))≥65)) (decide ((byteAt s ((i).toNat))≤90)) false))) && ((!(cond (cond (decide ((byteAt s ((i).toNat))≥97)) (decide ((byteAt s ((i).toNat))≤122)) false) true (cond (decide ((byteAt s ((i).toNat))≥65)) (decide ((byteAt s ((i).toNat))≤90)) false))) && (!(i == 0)))) && ((byteAt s ((i).toNat)) != 45)))=true=>(pc hg (pc hg (pc (fun hq:(!(decide ((byteAt s ((i).toNat)) < 48)))=true=>(pc (show ((((!(cond (cond (decide ((byteAt s ((i).toNat))≥97)) (decide ((byteAt s ((i).toNat))≤122)) false) true (cond (decide ((byteAt s ((i).toNat))≥65)) (decide ((byteAt s ((i).toNat))≤90)) false))) && ((!(cond (cond (decide ((byteAt s ((i).toNat))≥97)) (decide ((byteAt s ((i).toNat))≤122)) false) true (cond (decide ((byteAt s ((i).toNat))≥65)) (decide ((byteAt s ((i).toNat))≤90)) false))) && (!(i == 0)))) && (((!(cond (cond (decide ((byteAt s ((i).toNat))≥97)) (decide ((byteAt s ((i).toNat))≤122)) false) true (cond (decide ((byteAt s ((i).toNat))≥65)) (decide ((byteAt s ((i).toNat))≤90)) false))) && ((!(cond (cond (decide ((byteAt s ((i).toNat))≥97)) (decide ((byteAt s ((i).toNat))≤122)) false) true (cond (decide ((byteAt s ((i).toNat))≥65)) (decide ((byteAt s ((i).toNat))≤90)) false))) && (!(i == 0)))) && ((byteAt s ((i).toNat)) != 45))) && ((((!(cond (cond (decide ((byteAt s ((i).toNat))≥97)) (decide ((byteAt s ((i).toNat))≤122)) false) true (cond (decide ((byteAt s ((i).toNat))≥65)) (decide ((byteAt s ((i).toNat))≤90)) false))) && ((!(cond (cond (decide ((byteAt s ((i).toNat))≥97)) (decide ((byteAt s ((i).toNat))≤122)) false) true (cond (decide ((byteAt s ((i).toNat))≥65)) (decide ((byteAt s ((i).toNat))≤90)) false))) && (!(i == 0)))) && (((!(cond (cond (decide ((byteAt s ((i).toNat))≥97)) (decide ((byteAt s ((i).toNat))≤122)) false) true (cond (decide ((byteAt s ((i).toNat))≥65)) (decide ((byteAt s ((i).toNat))≤90)) false))) && ((!(cond (cond (decide ((byteAt s ((i).toNat))≥97)) (decide ((byteAt s ((i).toNat))≤122)) false) true (cond (decide ((byteAt s ((i).toNat))≥65)) (decide ((byteAt s ((i).toNat))≤90)) false))) && (!(i == 0)))) && ((byteAt s ((i).toNat)) != 45))) && (!(decide ((byteAt s ((i).toNat)) < 48)))))=true from (andI' hg (andI' hg hq))) pn)) pn)))) (pc (fun hg:((!(cond (cond (decide ((byteAt s ((i).toNat))≥97)) (decide ((byteAt s ((i).toNat))≤122)) false) true (cond (decide ((byteAt s ((i).toNat))≥65)) (decide ((byteAt s ((i).toNat))≤90)) false))) && ((!(cond (cond (decide ((byteAt s ((i).toNat))≥97)) (decide ((byteAt s ((i).toNat))≤122)) false) true (cond (decide ((byteAt s ((i).toNat))≥65)) (decide ((byteAt s ((i).toNat))≤90)) false))) && (!(i == 0))))=true=>(pc hg (pc hg (pc (fun hq:((byteAt s ((i).toNat)) != 45)=true=>(pc (show (((!(cond (cond (decide ((byteAt s ((i).toNat))≥97)) (decide ((byteAt s ((i).toNat))≤122)) false) true (cond (decide ((byteAt s ((i).toNat))≥65)) (decide ((byteAt s ((i).toNat))≤90)) false))) && ((!(cond (cond (decide ((byteAt s ((i).toNat))≥97)) (decide ((byteAt s ((i).toNat))≤122)) false) true (cond (decide ((byteAt s ((i).toNat))≥65)) (decide ((byteAt s ((i).toNat))≤90)) false))) && (!(i == 0)))) && (((!(cond (cond (decide ((byteAt s ((i).toNat))≥97)) (decide ((byteAt s ((i).toNat))≤122)) false) true (cond (decide ((byteAt s ((i).toNat))≥65)) (decide ((byteAt s ((i).toNat))≤90)) false))) && ((!(cond (cond (decide ((byteAt s ((i).toNat))≥97)) (decide ((byteAt s ((i).toNat))≤122)) false) true (cond (decide ((byteAt s ((i).toNat))≥65)) (decide ((byteAt s ((i).toNat))≤90)) false))) && (!(i == 0)))) && ((byteAt s ((i).toNat)) != 45)))=true from (andI' hg (andI' hg hq))) pn)) pn)))) (pc (fun hg:(!(cond (cond (decide ((byteAt s ((i).toNat))≥97)) (decide ((byteAt s ((i).toNat))≤122)) false) true (cond (decide ((byteAt s ((i).toNat))≥65)) (decide ((byteAt s ((i).toNat))≤90)) false)))=true=>(pc hg (pc hg (pc (fun hq:(!(i == 0))=true=>(pc (show ((!(cond (cond (decide ((byteAt s ((i).toNat))≥97)) (decide ((byteAt s ((i).toNat))≤122)) false) true (cond (decide ((byteAt s ((i).toNat))≥65)) (decide ((byteAt s ((i).toNat))≤90)) false))) && ((!(cond (cond (decide ((byteAt s ((i).toNat))≥97)) (decide ((byteAt s ((i).toNat))≤122)) false) true (cond (decide ((byteAt s ((i).toNat))≥65)) (decide ((byteAt s ((i).toNat))≤90)) false))) && (!(i == 0))))=true from (andI' hg (andI' hg hq))) pn)) pn)))) (pc (fun hq:(!(cond (cond (decide ((byteAt s ((i).toNat))≥97)) (decide ((byteAt s ((i).toNat))≤122)) false) true (cond (decide ((byteAt s ((i).toNat))≥65)) (decide ((byteAt s ((i).toNat))≤90)) false)))=true=>(pc hq pn)) pn)))))))) ?_
   refine Runs.nC 0 54 h (fun hq4 h=>?_) (fun hq4 h=>?_)
   ·refine Runs.nR hE 1 [] [] (kp [2]) [] 672 pn ?_
    obtain rfl:=Option.some.inj h
    exact Runs.nT hE 0 Try.f59 [] (kp [2]) [] 672 pn [] pn
   ·refine Runs.nR hE 2 [] [] (kp [0,3]) [] 704 pn ?_
    exact Runs.nW hE 1 [] (kp [0,3]) [] 0 pn (ih _ _ h E hE)
  ·refine Runs.nR hE 2 [] [] (kp [2]) [] 80 pn ?_
   obtain rfl:=Option.some.inj h
   exact Runs.nT hE 0 Try.f59 [] (kp [2]) [] 80 pn [] pn
theorem g_b_IsName_ok (N:Nat) (s:ByteArray) (r:Bool) (h:g_b_IsName N s=some r):Sound Try.prog 59 [(aS s)] [] 0 (aB r) []:=by
 unfold g_b_IsName at h
 refine Sound.of_runs (fu:=Try.f59) (c:=C_28 1) (nt:=55) (by kernel_rfl) (by kernel_rfl) (by kernel_rfl) (by kernel_rfl) (fun hm=>rfl) ?_
 intro E hE
 refine Runs.nR hE 1 [] [] (kp [0]) [] 16 pn ?_
 refine Runs.nR hE 2 [] [] (kp [0,13]) [] 144 (pc (fun hg:(!(decide (((s.size:Nat):Int) < 1)))=true=>(pc hg pn)) (pc (fun hg:(!(decide (((s.size:Nat):Int) < 1)))=true=>(pc hg pn)) (pc (fun hq:(!(decide (((s.size:Nat):Int) < 1)))=true=>(pc hq pn)) pn))) ?_
 refine Runs.nC 0 13 h (fun hq2 h=>?_) (fun hq2 h=>?_)
 ·refine Runs.nR hE 1 [] [] (kp [2]) [] 160 pn ?_
  obtain rfl:=Option.some.inj h
  exact Runs.nT hE 0 Try.f59 [] (kp [2]) [] 160 pn [] pn
 ·refine Runs.nR hE 3 [] [] (kp [0,3]) [] 160 pn ?_
  exact Runs.nW hE 2 [] (kp [0,3]) [] 0 pn (g_b_IsName_L1_ok N _ N _ _ h E hE)
noncomputable def C_29 (n:Nat):Code:=cat (bodyOf Try.f26) (pth n)
def g_r06_DockOf_L1_H (N:Nat) (d:List TDock) (name:ByteArray) (K:Int→Option (Int)):Prop:=∀ (i:Int) (r:Int),K i=some r→∀ E,EnvOk E 0→Runs Try.prog E 26 20 (SPost E [] (aI r)) [.code (C_29 52),.inLoop (C_29 52),.inBlock 0,.code (C_29 7)] ⟨[(0,(encL TDock.cells TDock.d d)),(1,(aS name)),(5,(aI i))],[],0⟩
theorem g_r06_DockOf_L1_ok (N:Nat) (d:List TDock) (name:ByteArray) (fuel:Nat):g_r06_DockOf_L1_H N d name (g_r06_DockOf_L1 N d name fuel):=by
 induction fuel with
 | zero=>intro _ r h;rw [g_r06_DockOf_L1.eq_1] at h;cases h
 | succ fuel ih =>
  intro i r h E hE
  rw [g_r06_DockOf_L1.eq_2] at h
  refine Runs.nR hE 2 [] [] (kp [0,1,5,9]) [] 64 pn ?_
  refine Runs.nC 0 9 h (fun hq2 h=>?_) (fun hq2 h=>?_)
  ·obtain ⟨c,h⟩:=ifSome h
   refine Runs.nR hE 4 [] [] (kp [0,1,5,18]) [] 176 (pc c pn) ?_
   refine Runs.nC 0 18 h (fun hq3 h=>?_) (fun hq3 h=>?_)
   ·refine Runs.nR hE 1 [] [] (kp [4]) [] 208 pn ?_
    obtain rfl:=Option.some.inj h
    exact Runs.nT hE 0 Try.f26 [] (kp [4]) [] 208 pn [] pn
   ·refine Runs.nR hE 2 [] [] (kp [0,1,5]) [] 224 pn ?_
    exact Runs.nW hE 1 [] (kp [0,1,5]) [] 0 pn (ih _ _ h E hE)
  ·refine Runs.nR hE 2 [] [] (kp [4]) [] 80 pn ?_
   obtain rfl:=Option.some.inj h
   exact Runs.nT hE 0 Try.f26 [] (kp [4]) [] 80 pn [] pn
theorem g_r06_DockOf_ok (N:Nat) (d:List TDock) (name:ByteArray) (r:Int) (h:g_r06_DockOf N d name=some r):Sound Try.prog 26 [(encL TDock.cells TDock.d d),(aS name)] [] 0 (aI r) []:=by
 unfold g_r06_DockOf at h
 refine Sound.of_runs (fu:=Try.f26) (c:=C_29 1) (nt:=20) (by kernel_rfl) (by kernel_rfl) (by kernel_rfl) (by kernel_rfl) (fun hm=>rfl) ?_
 intro E hE
 refine Runs.nR hE 1 [] [] (kp [0,1]) [] 16 pn ?_
 refine Runs.nR hE 2 [] [] (kp [0,1,5]) [] 32 pn ?_
 exact Runs.nW hE 2 [] (kp [0,1,5]) [] 0 pn (g_r06_DockOf_L1_ok N _ _ N _ _ h E hE)
noncomputable def C_30 (n:Nat):Code:=cat (bodyOf Try.f60) (pth n)
theorem g_r06_inside_ok (N:Nat) (n:Int) (low:Int) (high:Int) (r:Bool) (h:g_r06_inside N n low high=some r):Sound Try.prog 60 [(aI n),(aI low),(aI high)] [] 0 (aB r) []:=by
 unfold g_r06_inside at h
 refine Sound.of_runs (fu:=Try.f60) (c:=C_30 1) (nt:=15) (by kernel_rfl) (by kernel_rfl) (by kernel_rfl) (by kernel_rfl) (fun hm=>rfl) ?_
 intro E hE
 refine Runs.nR hE 1 [] [] (kp [0,1,2]) [] 16 pn ?_
 refine Runs.nR hE 1 [] [] (kp [6]) [] 160 (pc (fun hg:(decide (n≥low))=true=>(pc hg (pc hg pn))) (pc (fun hq:(decide (n≥low))=true=>(pc hq pn)) pn)) ?_
 obtain rfl:=Option.some.inj h
 exact Runs.nT hE 0 Try.f60 [] (kp [6]) [] 160 pn [] pn
noncomputable def C_27 (n:Nat):Code:=cat (bodyOf Try.f28) (pth n)
def g_r06_CheckDocks_L1_H (N:Nat) (d:List TDock) (K:Int→Option (Int)):Prop:=∀ (i:Int) (r:Int),K i=some r→∀ E,EnvOk E 0→Runs Try.prog E 28 72 (SPost E [] (aI r)) [.code (C_27 116),.inLoop (C_27 116),.inBlock 0,.code (C_27 15)] ⟨[(0,(encL TDock.cells TDock.d d)),(3,(aI i))],[],0⟩
theorem g_r06_CheckDocks_L1_ok (N:Nat) (d:List TDock) (fuel:Nat):g_r06_CheckDocks_L1_H N d (g_r06_CheckDocks_L1 N d fuel):=by
 induction fuel with
 | zero=>intro _ r h;rw [g_r06_CheckDocks_L1.eq_1] at h;cases h
 | succ fuel ih =>
  intro i r h E hE
  rw [g_r06_CheckDocks_L1.eq_2] at h
  refine Runs.nR hE 2 [] [] (kp [0,3,10]) [] 64 pn ?_
  refine Runs.nC 0 10 h (fun hq3 h=>?_) (fun hq3 h=>?_)
  ·obtain ⟨c,h⟩:=ifSome h
   obtain ⟨rIsName,hr,h⟩:=bindSome h
   refine Runs.nR hE 5 [(5,⟨[],true,(aB rIsName),[],0,false,none⟩)] [] (kp [0,3,19]) [] 176 (pc c (pc (g_b_IsName_ok N ((d.getD ((i).toNat) TDock.d).f_Name) rIsName hr) pn)) ?_
   refine Runs.nC 0 19 h (fun hq4 h=>?_) (fun hq4 h=>?_)
   ·refine Runs.nR hE 1 [] [] (kp [2]) [] 192 pn ?_
    obtain rfl:=Option.some.inj h
    exact Runs.nT hE 0 Try.f28 [] (kp [2]) [] 192 pn [] pn
   ·obtain ⟨rDockOf,hr2,h⟩:=bindSome h
    refine Runs.nR hE 3 [(6,⟨[],true,(aI rDockOf),[],0,false,none⟩)] [] (kp [0,3,28]) [] 320 (pc c (pc (g_r06_DockOf_ok N d ((d.getD ((i).toNat) TDock.d).f_Name) rDockOf hr2) pn)) ?_
    refine Runs.nC 0 28 h (fun hq5 h=>?_) (fun hq5 h=>?_)
    ·refine Runs.nR hE 1 [] [] (kp [2]) [] 336 pn ?_
     obtain rfl:=Option.some.inj h
     exact Runs.nT hE 0 Try.f28 [] (kp [2]) [] 336 pn [] pn
    ·obtain ⟨rIn,hr3,h⟩:=bindSome h
     obtain ⟨c2,h⟩:=ifSome h
     obtain ⟨rIn2,hr4,h⟩:=bindSome h
     obtain ⟨c3,h⟩:=ifSome h
     obtain ⟨rIn3,hr5,h⟩:=bindSome h
     obtain ⟨c4,h⟩:=ifSome h
     obtain ⟨rIn4,hr6,h⟩:=bindSome h
     obtain ⟨c5,h⟩:=ifSome h
     obtain ⟨rIn5,hr7,h⟩:=bindSome h
     refine Runs.nR hE 2 [(5,⟨[],true,(aB rIn),[],0,false,none⟩),(13,⟨[],true,(aB rIn2),[],0,false,none⟩),(22,⟨[],true,(aB rIn3),[],0,false,none⟩),(31,⟨[],true,(aB rIn4),[],0,false,none⟩),(40,⟨[],true,(aB rIn5),[],0,false,none⟩)] [] (kp [0,3,71]) [] 1008 (pc c (pc (g_r06_inside_ok N ((d.getD ((i).toNat) TDock.d).fLn) 1 1000000 rIn hr3) (pc (fun hg:(!(!rIn))=true=>(pc hg (pc hg (pc (c2 hg) pn)))) (pc (fun hg:(!(!rIn))=true=>(pc hg pn)) (pc (fun hg:(!(!rIn))=true=>(pc hg pn)) (pc (fun hg:(!(!rIn))=true=>(pc (g_r06_inside_ok N ((d.getD ((i).toNat) TDock.d).f_Width) 1 1000000 rIn2 (condT hr4 hg)) (pc hg pn))) (pc (fun hg:(!(!rIn))=true=>(pc hg pn)) (pc (fun hq:(!(!rIn))=true=>(pc hq pn)) (pc (fun hg:(!(cond (!rIn) true (!rIn2)))=true=>(pc hg (pc hg (pc (c3 hg) pn)))) (pc (fun hg:(!(cond (!rIn) true (!rIn2)))=true=>(pc hg pn)) (pc (fun hg:(!(cond (!rIn) true (!rIn2)))=true=>(pc hg pn)) (pc (fun hg:(!(cond (!rIn) true (!rIn2)))=true=>(pc (g_r06_inside_ok N ((d.getD ((i).toNat) TDock.d).f_Sill) (-1000000) 1000000 rIn3 (condT hr5 hg)) (pc hg pn))) (pc (fun hg:(!(cond (!rIn) true (!rIn2)))=true=>(pc hg pn)) (pc (fun hq:(!(cond (!rIn) true (!rIn2)))=true=>(pc hq pn)) (pc (fun hg:(!(cond (cond (!rIn) true (!rIn2)) true (!rIn3)))=true=>(pc hg (pc hg (pc (c4 hg) pn)))) (pc (fun hg:(!(cond (cond (!rIn) true (!rIn2)) true (!rIn3)))=true=>(pc hg pn)) (pc (fun hg:(!(cond (cond (!rIn) true (!rIn2)) true (!rIn3)))=true=>(pc hg pn)) (pc (fun hg:(!(cond (cond (!rIn) true (!rIn2)) true (!rIn3)))=true=>(pc (g_r06_inside_ok N ((d.getD ((i).toNat) TDock.d).f_Floor) (-1000000) 1000000 rIn4 (condT hr6 hg)) (pc hg pn))) (pc (fun hg:(!(cond (cond (!rIn) true (!rIn2)) true (!rIn3)))=true=>(pc hg pn)) (pc (fun hq:(!(cond (cond (!rIn) true (!rIn2)) true (!rIn3)))=true=>(pc hq pn)) (pc (fun hg:(!(cond (cond (cond (!rIn) true (!rIn2)) true (!rIn3)) true (!rIn4)))=true=>(pc hg (pc hg (pc (c5 hg) pn)))) (pc (fun hg:(!(cond (cond (cond (!rIn) true (!rIn2)) true (!rIn3)) true (!rIn4)))=true=>(pc hg pn)) (pc (fun hg:(!(cond (cond (cond (!rIn) true (!rIn2)) true (!rIn3)) true (!rIn4)))=true=>(pc hg pn)) (pc (fun hg:(!(cond (cond (cond (!rIn) true (!rIn2)) true (!rIn3)) true (!rIn4)))=true=>(pc (g_r06_inside_ok N ((d.getD ((i).toNat) TDock.d).f_Gap) 0 1000000 rIn5 (condT hr7 hg)) (pc hg pn))) (pc (fun hg:(!(cond (cond (cond (!rIn) true (!rIn2)) true (!rIn3)) true (!rIn4)))=true=>(pc hg pn)) (pc (fun hq:(!(cond (cond (cond (!rIn) true (!rIn2)) true (!rIn3)) true (!rIn4)))=true=>(pc hq pn)) pn)))))))))))))))))))))))))) ?_
     refine Runs.nC 0 71 h (fun hq6 h=>?_) (fun hq6 h=>?_)
     ·refine Runs.nR hE 1 [] [] (kp [2]) [] 1024 pn ?_
      obtain rfl:=Option.some.inj h
      exact Runs.nT hE 0 Try.f28 [] (kp [2]) [] 1024 pn [] pn
     ·refine Runs.nR hE 2 [] [] (kp [0,3]) [] 1056 pn ?_
      exact Runs.nW hE 1 [] (kp [0,3]) [] 0 pn (ih _ _ h E hE)
  ·refine Runs.nR hE 2 [] [] (kp [2]) [] 80 pn ?_
   obtain rfl:=Option.some.inj h
   exact Runs.nT hE 0 Try.f28 [] (kp [2]) [] 80 pn [] pn
theorem g_r06_CheckDocks_ok (N:Nat) (d:List TDock) (r:Int) (h:g_r06_CheckDocks N d=some r):Sound Try.prog 28 [(encL TDock.cells TDock.d d)] [] 0 (aI r) []:=by
 unfold g_r06_CheckDocks at h
 refine Sound.of_runs (fu:=Try.f28) (c:=C_27 1) (nt:=72) (by kernel_rfl) (by kernel_rfl) (by kernel_rfl) (by kernel_rfl) (fun hm=>rfl) ?_
 intro E hE
 refine Runs.nR hE 1 [] [] (kp [0]) [] 16 pn ?_
 refine Runs.nR hE 2 [] [] (kp [0,6]) [] 64 pn ?_
 refine Runs.nC 0 6 h (fun hq2 h=>?_) (fun hq2 h=>?_)
 ·refine Runs.nR hE 1 [] [] (kp [2]) [] 80 pn ?_
  obtain rfl:=Option.some.inj h
  exact Runs.nT hE 0 Try.f28 [] (kp [2]) [] 80 pn [] pn
 ·refine Runs.nR hE 3 [] [] (kp [0,3]) [] 80 pn ?_
  exact Runs.nW hE 2 [] (kp [0,3]) [] 0 pn (g_r06_CheckDocks_L1_ok N _ N _ _ h E hE)
noncomputable def C_32 (n:Nat):Code:=cat (bodyOf Try.f25) (pth n)
def g_r06_CallOf_L1_H (N:Nat) (c:List TCall) (name:ByteArray) (K:Int→Option (Int)):Prop:=∀ (i:Int) (r:Int),K i=some r→∀ E,EnvOk E 0→Runs Try.prog E 25 20 (SPost E [] (aI r)) [.code (C_32 52),.inLoop (C_32 52),.inBlock 0,.code (C_32 7)] ⟨[(0,(encL TCall.cells TCall.d c)),(1,(aS name)),(5,(aI i))],[],0⟩
theorem g_r06_CallOf_L1_ok (N:Nat) (c:List TCall) (name:ByteArray) (fuel:Nat):g_r06_CallOf_L1_H N c name (g_r06_CallOf_L1 N c name fuel):=by
 induction fuel with
 | zero=>intro _ r h;rw [g_r06_CallOf_L1.eq_1] at h;cases h
 | succ fuel ih =>
  intro i r h E hE
  rw [g_r06_CallOf_L1.eq_2] at h
  refine Runs.nR hE 2 [] [] (kp [0,1,5,9]) [] 64 pn ?_
  refine Runs.nC 0 9 h (fun hq2 h=>?_) (fun hq2 h=>?_)
  ·obtain ⟨c2,h⟩:=ifSome h
   refine Runs.nR hE 4 [] [] (kp [0,1,5,18]) [] 176 (pc c2 pn) ?_
   refine Runs.nC 0 18 h (fun hq3 h=>?_) (fun hq3 h=>?_)
   ·refine Runs.nR hE 1 [] [] (kp [4]) [] 208 pn ?_
    obtain rfl:=Option.some.inj h
    exact Runs.nT hE 0 Try.f25 [] (kp [4]) [] 208 pn [] pn
   ·refine Runs.nR hE 2 [] [] (kp [0,1,5]) [] 224 pn ?_
    exact Runs.nW hE 1 [] (kp [0,1,5]) [] 0 pn (ih _ _ h E hE)
  ·refine Runs.nR hE 2 [] [] (kp [4]) [] 80 pn ?_
   obtain rfl:=Option.some.inj h
   exact Runs.nT hE 0 Try.f25 [] (kp [4]) [] 80 pn [] pn
theorem g_r06_CallOf_ok (N:Nat) (c:List TCall) (name:ByteArray) (r:Int) (h:g_r06_CallOf N c name=some r):Sound Try.prog 25 [(encL TCall.cells TCall.d c),(aS name)] [] 0 (aI r) []:=by
 unfold g_r06_CallOf at h
 refine Sound.of_runs (fu:=Try.f25) (c:=C_32 1) (nt:=20) (by kernel_rfl) (by kernel_rfl) (by kernel_rfl) (by kernel_rfl) (fun hm=>rfl) ?_
 intro E hE
 refine Runs.nR hE 1 [] [] (kp [0,1]) [] 16 pn ?_
 refine Runs.nR hE 2 [] [] (kp [0,1,5]) [] 32 pn ?_
 exact Runs.nW hE 2 [] (kp [0,1,5]) [] 0 pn (g_r06_CallOf_L1_ok N _ _ N _ _ h E hE)
noncomputable def C_31 (n:Nat):Code:=cat (bodyOf Try.f66) (pth n)
def g_r06_CheckCalls_L1_H (N:Nat) (c:List TCall) (K:Int→Option (Int)):Prop:=∀ (i:Int) (r:Int),K i=some r→∀ E,EnvOk E 0→Runs Try.prog E 66 72 (SPost E [] (aI r)) [.code (C_31 116),.inLoop (C_31 116),.inBlock 0,.code (C_31 15)] ⟨[(0,(encL TCall.cells TCall.d c)),(3,(aI i))],[],0⟩
theorem g_r06_CheckCalls_L1_ok (N:Nat) (c:List TCall) (fuel:Nat):g_r06_CheckCalls_L1_H N c (g_r06_CheckCalls_L1 N c fuel):=by
 induction fuel with
 | zero=>intro _ r h;rw [g_r06_CheckCalls_L1.eq_1] at h;cases h
 | succ fuel ih =>
  intro i r h E hE
  rw [g_r06_CheckCalls_L1.eq_2] at h
  refine Runs.nR hE 2 [] [] (kp [0,3,11]) [] 64 pn ?_
  refine Runs.nC 0 11 h (fun hq3 h=>?_) (fun hq3 h=>?_)
  ·obtain ⟨c2,h⟩:=ifSome h
   refine Runs.nR hE 4 [] [] (kp [0,3,4]) (kq [128]) 160 (pc c2 (pc o1 pn)) ?_
   obtain ⟨rIsName,hr,h⟩:=bindSome h
   refine Runs.nR hE 2 [(2,⟨[],true,(aB rIsName),[],0,false,none⟩)] [] (kp [0,3,4,21]) (kq [128]) 224 (pc o1 (pc (g_b_IsName_ok N ((c.getD ((i).toNat) TCall.d).f_Name) rIsName hr) pn)) ?_
   refine Runs.nC 0 21 h (fun hq4 h=>?_) (fun hq4 h=>?_)
   ·refine Runs.nR hE 1 [] [] (kp [2]) [] 240 pn ?_
    obtain rfl:=Option.some.inj h
    exact Runs.nT hE 0 Try.f66 [] (kp [2]) [] 240 pn [] pn
   ·obtain ⟨rCallOf,hr2,h⟩:=bindSome h
    refine Runs.nR hE 3 [(3,⟨[],true,(aI rCallOf),[],0,false,none⟩)] [] (kp [0,3,4,27]) (kq [128]) 320 (pc o1 (pc (g_r06_CallOf_ok N c ((c.getD ((i).toNat) TCall.d).f_Name) rCallOf hr2) pn)) ?_
    refine Runs.nC 0 27 h (fun hq5 h=>?_) (fun hq5 h=>?_)
    ·refine Runs.nR hE 1 [] [] (kp [2]) [] 336 pn ?_
     obtain rfl:=Option.some.inj h
     exact Runs.nT hE 0 Try.f66 [] (kp [2]) [] 336 pn [] pn
    ·obtain ⟨rIn,hr3,h⟩:=bindSome h
     obtain ⟨rIn2,hr4,h⟩:=bindSome h
     obtain ⟨rIn3,hr5,h⟩:=bindSome h
     obtain ⟨rIn4,hr6,h⟩:=bindSome h
     refine Runs.nR hE 3 [(2,⟨[],true,(aB rIn),[],0,false,none⟩),(7,⟨[],true,(aB rIn2),[],0,false,none⟩),(13,⟨[],true,(aB rIn3),[],0,false,none⟩),(19,⟨[],true,(aB rIn4),[],0,false,none⟩)] [] (kp [0,3,4,49]) (kq [128]) 672 (pc o1 (pc (g_r06_inside_ok N ((c.getD ((i).toNat) TCall.d).fLn) 1 1000000 rIn hr3) (pc (fun hg:(!(!rIn))=true=>(pc hg (pc o1 pn))) (pc (fun hg:(!(!rIn))=true=>(pc (g_r06_inside_ok N ((c.getD ((i).toNat) TCall.d).f_Beam) 1 1000000 rIn2 (condT hr4 hg)) (pc hg pn))) (pc (fun hg:(!(!rIn))=true=>(pc hg pn)) (pc (fun hq:(!(!rIn))=true=>(pc hq pn)) (pc (fun hg:(!(cond (!rIn) true (!rIn2)))=true=>(pc hg (pc o1 pn))) (pc (fun hg:(!(cond (!rIn) true (!rIn2)))=true=>(pc (g_r06_inside_ok N ((c.getD ((i).toNat) TCall.d).f_Draught) 0 1000000 rIn3 (condT hr5 hg)) (pc hg pn))) (pc (fun hg:(!(cond (!rIn) true (!rIn2)))=true=>(pc hg pn)) (pc (fun hq:(!(cond (!rIn) true (!rIn2)))=true=>(pc hq pn)) (pc (fun hg:(!(cond (cond (!rIn) true (!rIn2)) true (!rIn3)))=true=>(pc hg (pc o1 pn))) (pc (fun hg:(!(cond (cond (!rIn) true (!rIn2)) true (!rIn3)))=true=>(pc (g_r06_inside_ok N ((c.getD ((i).toNat) TCall.d).f_Under) 0 1000000 rIn4 (condT hr6 hg)) (pc hg pn))) (pc (fun hg:(!(cond (cond (!rIn) true (!rIn2)) true (!rIn3)))=true=>(pc hg pn)) (pc (fun hq:(!(cond (cond (!rIn) true (!rIn2)) true (!rIn3)))=true=>(pc hq pn)) pn)))))))))))))) ?_
     refine Runs.nC 0 49 h (fun hq6 h=>?_) (fun hq6 h=>?_)
     ·refine Runs.nR hE 1 [] [] (kp [2]) [] 688 pn ?_
      obtain rfl:=Option.some.inj h
      exact Runs.nT hE 0 Try.f66 [] (kp [2]) [] 688 pn [] pn
     ·obtain ⟨rIn5,hr7,h⟩:=bindSome h
      obtain ⟨rIn6,hr8,h⟩:=bindSome h
      obtain ⟨rIn7,hr9,h⟩:=bindSome h
      obtain ⟨rIn8,hr10,h⟩:=bindSome h
      refine Runs.nR hE 2 [(2,⟨[],true,(aB rIn5),[],0,false,none⟩),(7,⟨[],true,(aB rIn6),[],0,false,none⟩),(13,⟨[],true,(aB rIn7),[],0,false,none⟩),(19,⟨[],true,(aB rIn8),[],0,false,none⟩)] [] (kp [0,3,71]) [] 1024 (pc o1 (pc (g_r06_inside_ok N ((c.getD ((i).toNat) TCall.d).f_Arrive) 0 400 rIn5 hr7) (pc (fun hg:(!(!rIn5))=true=>(pc hg (pc o1 pn))) (pc (fun hg:(!(!rIn5))=true=>(pc (g_r06_inside_ok N ((c.getD ((i).toNat) TCall.d).f_Due) 0 400 rIn6 (condT hr8 hg)) (pc hg pn))) (pc (fun hg:(!(!rIn5))=true=>(pc hg pn)) (pc (fun hq:(!(!rIn5))=true=>(pc hq pn)) (pc (fun hg:(!(cond (!rIn5) true (!rIn6)))=true=>(pc hg (pc o1 pn))) (pc (fun hg:(!(cond (!rIn5) true (!rIn6)))=true=>(pc (g_r06_inside_ok N ((c.getD ((i).toNat) TCall.d).f_Work) 1 1000 rIn7 (condT hr9 hg)) (pc hg pn))) (pc (fun hg:(!(cond (!rIn5) true (!rIn6)))=true=>(pc hg pn)) (pc (fun hq:(!(cond (!rIn5) true (!rIn6)))=true=>(pc hq pn)) (pc (fun hg:(!(cond (cond (!rIn5) true (!rIn6)) true (!rIn7)))=true=>(pc hg (pc o1 pn))) (pc (fun hg:(!(cond (cond (!rIn5) true (!rIn6)) true (!rIn7)))=true=>(pc (g_r06_inside_ok N ((c.getD ((i).toNat) TCall.d).f_Late) 0 1000000000 rIn8 (condT hr10 hg)) (pc hg pn))) (pc (fun hg:(!(cond (cond (!rIn5) true (!rIn6)) true (!rIn7)))=true=>(pc hg pn)) (pc (fun hq:(!(cond (cond (!rIn5) true (!rIn6)) true (!rIn7)))=true=>(pc hq pn)) pn)))))))))))))) ?_
      refine Runs.nC 0 71 h (fun hq7 h=>?_) (fun hq7 h=>?_)
      ·refine Runs.nR hE 1 [] [] (kp [2]) [] 1040 pn ?_
       obtain rfl:=Option.some.inj h
       exact Runs.nT hE 0 Try.f66 [] (kp [2]) [] 1040 pn [] pn
      ·refine Runs.nR hE 2 [] [] (kp [0,3]) [] 1072 pn ?_
       exact Runs.nW hE 1 [] (kp [0,3]) [] 0 pn (ih _ _ h E hE)
  ·refine Runs.nR hE 2 [] [] (kp [2]) [] 80 pn ?_
   obtain rfl:=Option.some.inj h
   exact Runs.nT hE 0 Try.f66 [] (kp [2]) [] 80 pn [] pn
theorem g_r06_CheckCalls_ok (N:Nat) (c:List TCall) (r:Int) (h:g_r06_CheckCalls N c=some r):Sound Try.prog 66 [(encL TCall.cells TCall.d c)] [] 0 (aI r) []:=by
 unfold g_r06_CheckCalls at h
 refine Sound.of_runs (fu:=Try.f66) (c:=C_31 1) (nt:=72) (by kernel_rfl) (by kernel_rfl) (by kernel_rfl) (by kernel_rfl) (fun hm=>rfl) ?_
 intro E hE
 refine Runs.nR hE 1 [] [] (kp [0]) [] 16 pn ?_
 refine Runs.nR hE 2 [] [] (kp [0,7]) [] 64 pn ?_
 refine Runs.nC 0 7 h (fun hq2 h=>?_) (fun hq2 h=>?_)
 ·refine Runs.nR hE 1 [] [] (kp [2]) [] 80 pn ?_
  obtain rfl:=Option.some.inj h
  exact Runs.nT hE 0 Try.f66 [] (kp [2]) [] 80 pn [] pn
 ·refine Runs.nR hE 3 [] [] (kp [0,3]) [] 80 pn ?_
  exact Runs.nW hE 2 [] (kp [0,3]) [] 0 pn (g_r06_CheckCalls_L1_ok N _ N _ _ h E hE)
noncomputable def C_34 (n:Nat):Code:=cat (bodyOf Try.f101) (pth n)
theorem g_r05_inside_ok (N:Nat) (n:Int) (low:Int) (high:Int) (r:Bool) (h:g_r05_inside N n low high=some r):Sound Try.prog 101 [(aI n),(aI low),(aI high)] [] 0 (aB r) []:=by
 unfold g_r05_inside at h
 refine Sound.of_runs (fu:=Try.f101) (c:=C_34 1) (nt:=15) (by kernel_rfl) (by kernel_rfl) (by kernel_rfl) (by kernel_rfl) (fun hm=>rfl) ?_
 intro E hE
 refine Runs.nR hE 1 [] [] (kp [0,1,2]) [] 16 pn ?_
 refine Runs.nR hE 1 [] [] (kp [6]) [] 160 (pc (fun hg:(decide (n≥low))=true=>(pc hg (pc hg pn))) (pc (fun hq:(decide (n≥low))=true=>(pc hq pn)) pn)) ?_
 obtain rfl:=Option.some.inj h
 exact Runs.nT hE 0 Try.f101 [] (kp [6]) [] 160 pn [] pn
noncomputable def C_33 (n:Nat):Code:=cat (bodyOf Try.f71) (pth n)
def g_r05_CheckSea_L1_H (N:Nat) (m:List TMark) (K:Int→Option (Int)):Prop:=∀ (i:Int) (r:Int),K i=some r→∀ E,EnvOk E 0→Runs Try.prog E 71 45 (SPost E [] (aI r)) [.code (C_33 116),.inLoop (C_33 116),.inBlock 0,.code (C_33 15)] ⟨[(0,(encL TMark.cells TMark.d m)),(3,(aI i))],[],0⟩
theorem g_r05_CheckSea_L1_ok (N:Nat) (m:List TMark) (fuel:Nat):g_r05_CheckSea_L1_H N m (g_r05_CheckSea_L1 N m fuel):=by
 induction fuel with
 | zero=>intro _ r h;rw [g_r05_CheckSea_L1.eq_1] at h;cases h
 | succ fuel ih =>
  intro i r h E hE
  rw [g_r05_CheckSea_L1.eq_2] at h
  refine Runs.nR hE 2 [] [] (kp [0,3,10]) [] 64 pn ?_
  refine Runs.nC 0 10 h (fun hq3 h=>?_) (fun hq3 h=>?_)
  ·obtain ⟨c,h⟩:=ifSome h
   obtain ⟨rIn,hr,h⟩:=bindSome h
   obtain ⟨c2,h⟩:=ifSome h
   obtain ⟨rIn2,hr2,h⟩:=bindSome h
   refine Runs.nR hE 5 [(5,⟨[],true,(aB rIn),[],0,false,none⟩),(13,⟨[],true,(aB rIn2),[],0,false,none⟩)] [] (kp [0,3,28]) [] 320 (pc c (pc (g_r05_inside_ok N ((m.getD ((i).toNat) TMark.d).f_Minute) 0 1000000 rIn hr) (pc (fun hg:(!(!rIn))=true=>(pc hg (pc hg (pc (c2 hg) pn)))) (pc (fun hg:(!(!rIn))=true=>(pc hg pn)) (pc (fun hg:(!(!rIn))=true=>(pc hg pn)) (pc (fun hg:(!(!rIn))=true=>(pc (g_r05_inside_ok N ((m.getD ((i).toNat) TMark.d).f_Level) (-1000000) 1000000 rIn2 (condT hr2 hg)) (pc hg pn))) (pc (fun hg:(!(!rIn))=true=>(pc hg pn)) (pc (fun hq:(!(!rIn))=true=>(pc hq pn)) pn)))))))) ?_
   refine Runs.nC 0 28 h (fun hq4 h=>?_) (fun hq4 h=>?_)
   ·refine Runs.nR hE 1 [] [] (kp [2]) [] 336 pn ?_
    obtain rfl:=Option.some.inj h
    exact Runs.nT hE 0 Try.f71 [] (kp [2]) [] 336 pn [] pn
   ·obtain ⟨c3,h⟩:=ifSome h
    obtain ⟨c4,h⟩:=ifSome h
    refine Runs.nR hE 2 [] [] (kp [0,3,44]) [] 576 (pc (fun hg:(decide (i > 0))=true=>(pc hg (pc hg (pc (c3 hg) pn)))) (pc (fun hg:(decide (i > 0))=true=>(pc hg pn)) (pc (fun hg:(decide (i > 0))=true=>(pc hg pn)) (pc (fun hg:(decide (i > 0))=true=>(pc hg pn)) (pc (fun hg:(decide (i > 0))=true=>(pc hg (pc hg (pc (c4 hg) pn)))) (pc (fun hg:(decide (i > 0))=true=>(pc hg pn)) (pc (fun hg:(decide (i > 0))=true=>(pc hg pn)) (pc (fun hg:(decide (i > 0))=true=>(pc hg (pc hg pn))) (pc (fun hq:(decide (i > 0))=true=>(pc hq pn)) pn))))))))) ?_
    refine Runs.nC 0 44 h (fun hq5 h=>?_) (fun hq5 h=>?_)
    ·refine Runs.nR hE 1 [] [] (kp [2]) [] 592 pn ?_
     obtain rfl:=Option.some.inj h
     exact Runs.nT hE 0 Try.f71 [] (kp [2]) [] 592 pn [] pn
    ·refine Runs.nR hE 2 [] [] (kp [0,3]) [] 624 pn ?_
     exact Runs.nW hE 1 [] (kp [0,3]) [] 0 pn (ih _ _ h E hE)
  ·refine Runs.nR hE 2 [] [] (kp [2]) [] 80 pn ?_
   obtain rfl:=Option.some.inj h
   exact Runs.nT hE 0 Try.f71 [] (kp [2]) [] 80 pn [] pn
theorem g_r05_CheckSea_ok (N:Nat) (m:List TMark) (r:Int) (h:g_r05_CheckSea N m=some r):Sound Try.prog 71 [(encL TMark.cells TMark.d m)] [] 0 (aI r) []:=by
 unfold g_r05_CheckSea at h
 refine Sound.of_runs (fu:=Try.f71) (c:=C_33 1) (nt:=45) (by kernel_rfl) (by kernel_rfl) (by kernel_rfl) (by kernel_rfl) (fun hm=>rfl) ?_
 intro E hE
 refine Runs.nR hE 1 [] [] (kp [0]) [] 16 pn ?_
 refine Runs.nR hE 2 [] [] (kp [0,6]) [] 64 pn ?_
 refine Runs.nC 0 6 h (fun hq2 h=>?_) (fun hq2 h=>?_)
 ·refine Runs.nR hE 1 [] [] (kp [2]) [] 80 pn ?_
  obtain rfl:=Option.some.inj h
  exact Runs.nT hE 0 Try.f71 [] (kp [2]) [] 80 pn [] pn
 ·refine Runs.nR hE 3 [] [] (kp [0,3]) [] 80 pn ?_
  exact Runs.nW hE 2 [] (kp [0,3]) [] 0 pn (g_r05_CheckSea_L1_ok N _ N _ _ h E hE)
noncomputable def C_26 (n:Nat):Code:=cat (bodyOf Try.f41) (pth n)
theorem g_r06_CheckYard_ok (N:Nat) (y:TYard) (r:Int) (h:g_r06_CheckYard N y=some r):Sound Try.prog 41 [(.agg (TYard.cells y))] [] 0 (aI r) []:=by
 unfold g_r06_CheckYard at h
 refine Sound.of_runs (fu:=Try.f41) (c:=C_26 1) (nt:=32) (by kernel_rfl) (by kernel_rfl) (by kernel_rfl) (by kernel_rfl) (fun hm=>rfl) ?_
 intro E hE
 refine Runs.nR hE 1 [] [] (kp [1]) (kq [0]) 32 pn ?_
 obtain ⟨rCheckDocks,hr,h⟩:=bindSome h
 refine Runs.nR hE 2 [(2,⟨[],true,(aI rCheckDocks),[],0,false,none⟩)] [] (kp [1,3]) (kq [0]) 96 (pc o1 (pc (g_r06_CheckDocks_ok N y.f_Docks rCheckDocks hr) pn)) ?_
 refine Runs.nR hE 1 [] [] (kp [1,3,10]) (kq [0]) 128 pn ?_
 refine Runs.nC 0 10 h (fun hq2 h=>?_) (fun hq2 h=>?_)
 ·refine Runs.nR hE 1 [] [] (kp [2]) [] 160 pn ?_
  obtain rfl:=Option.some.inj h
  exact Runs.nT hE 0 Try.f41 [] (kp [2]) [] 160 pn [] pn
 ·obtain ⟨rCheckCalls,hr2,h⟩:=bindSome h
  refine Runs.nR hE 3 [(2,⟨[],true,(aI rCheckCalls),[],0,false,none⟩)] [] (kp [1,4]) (kq [0]) 192 (pc o1 (pc (g_r06_CheckCalls_ok N y.f_Calls rCheckCalls hr2) pn)) ?_
  refine Runs.nR hE 1 [] [] (kp [1,4,16]) (kq [0]) 224 pn ?_
  refine Runs.nC 0 16 h (fun hq3 h=>?_) (fun hq3 h=>?_)
  ·refine Runs.nR hE 1 [] [] (kp [2]) [] 256 pn ?_
   obtain rfl:=Option.some.inj h
   exact Runs.nT hE 0 Try.f41 [] (kp [2]) [] 256 pn [] pn
  ·obtain ⟨rCheckSea,hr3,h⟩:=bindSome h
   refine Runs.nR hE 3 [(2,⟨[],true,(aI rCheckSea),[],0,false,none⟩)] [] (kp [1,5]) (kq [0]) 288 (pc o1 (pc (g_r05_CheckSea_ok N y.f_Sea rCheckSea hr3) pn)) ?_
   refine Runs.nR hE 1 [] [] (kp [1,5,22]) (kq [0]) 320 pn ?_
   refine Runs.nC 0 22 h (fun hq4 h=>?_) (fun hq4 h=>?_)
   ·refine Runs.nR hE 1 [] [] (kp [2]) [] 352 pn ?_
    obtain rfl:=Option.some.inj h
    exact Runs.nT hE 0 Try.f41 [] (kp [2]) [] 352 pn [] pn
   ·refine Runs.nR hE 3 [] [] (kp [1,27]) (kq [0]) 384 (pc o1 pn) ?_
    refine Runs.nC 0 27 h (fun hq5 h=>?_) (fun hq5 h=>?_)
    ·refine Runs.nR hE 1 [] [] (kp [2]) [] 400 pn ?_
     obtain rfl:=Option.some.inj h
     exact Runs.nT hE 0 Try.f41 [] (kp [2]) [] 400 pn [] pn
    ·obtain ⟨rIn,hr4,h⟩:=bindSome h
     refine Runs.nR hE 3 [(2,⟨[],true,(aB rIn),[],0,false,none⟩)] [] (kp [31]) [] 448 (pc o1 (pc (g_r06_inside_ok N y.f_Last 0 400 rIn hr4) pn)) ?_
     refine Runs.nC 0 31 h (fun hq6 h=>?_) (fun hq6 h=>?_)
     ·refine Runs.nR hE 1 [] [] (kp [2]) [] 464 pn ?_
      obtain rfl:=Option.some.inj h
      exact Runs.nT hE 0 Try.f41 [] (kp [2]) [] 464 pn [] pn
     ·refine Runs.nR hE 2 [] [] (kp [2]) [] 464 pn ?_
      obtain rfl:=Option.some.inj h
      exact Runs.nT hE 0 Try.f41 [] (kp [2]) [] 464 pn [] pn
noncomputable def C_47 (n:Nat):Code:=cat (bodyOf Try.f87) (pth n)
theorem g_w_between_ok (N:Nat) (n:Int) (low:Int) (high:Int) (r:Bool) (h:g_w_between N n low high=some r):Sound Try.prog 87 [(aI n),(aI low),(aI high)] [] 0 (aB r) []:=by
 unfold g_w_between at h
 refine Sound.of_runs (fu:=Try.f87) (c:=C_47 1) (nt:=15) (by kernel_rfl) (by kernel_rfl) (by kernel_rfl) (by kernel_rfl) (fun hm=>rfl) ?_
 intro E hE
 refine Runs.nR hE 1 [] [] (kp [0,1,2]) [] 16 pn ?_
 refine Runs.nR hE 1 [] [] (kp [6]) [] 160 (pc (fun hg:(decide (n≥low))=true=>(pc hg (pc hg pn))) (pc (fun hq:(decide (n≥low))=true=>(pc hq pn)) pn)) ?_
 obtain rfl:=Option.some.inj h
 exact Runs.nT hE 0 Try.f87 [] (kp [6]) [] 160 pn [] pn
noncomputable def C_46 (n:Nat):Code:=cat (bodyOf Try.f90) (pth n)
def g_w_CheckSea_L1_H (N:Nat) (m:List TMark) (K:Int→Option (Int)):Prop:=∀ (x:Int) (r:Int),K x=some r→∀ E,EnvOk E 0→Runs Try.prog E 90 39 (SPost E [] (aI r)) [.code (C_46 116),.inLoop (C_46 116),.inBlock 0,.code (C_46 15)] ⟨[(0,(encL TMark.cells TMark.d m)),(8,(encL TMark.cells TMark.d m)),(9,(aI ((m.length:Nat):Int))),(10,(aI x))],[],0⟩
theorem g_w_CheckSea_L1_ok (N:Nat) (m:List TMark) (fuel:Nat):g_w_CheckSea_L1_H N m (g_w_CheckSea_L1 N m fuel):=by
 induction fuel with
 | zero=>intro _ r h;rw [g_w_CheckSea_L1.eq_1] at h;cases h
 | succ fuel ih =>
  intro x r h E hE
  rw [g_w_CheckSea_L1.eq_2] at h
  refine Runs.nR hE 1 [] [] (kp [0,8,9,10,11]) [] 16 pn ?_
  refine Runs.nC 1 11 h (fun hq3 h=>?_) (fun hq3 h=>?_)
  ·obtain ⟨c,h⟩:=ifSome h
   refine Runs.nR hE 4 [] [] (kp [0,3,4,8,9,10]) (kq [64]) 112 (pc c (pc o1 pn)) ?_
   obtain ⟨rBt,hr,h⟩:=bindSome h
   obtain ⟨rBt2,hr2,h⟩:=bindSome h
   refine Runs.nR hE 2 [(2,⟨[],true,(aB rBt),[],0,false,none⟩),(7,⟨[],true,(aB rBt2),[],0,false,none⟩)] [] (kp [0,3,4,8,9,10,24]) (kq [64]) 272 (pc o1 (pc (g_w_between_ok N ((m.getD ((x).toNat) TMark.d).f_Minute) 0 1000000 rBt hr) (pc (fun hg:(!(!rBt))=true=>(pc hg (pc o1 pn))) (pc (fun hg:(!(!rBt))=true=>(pc (g_w_between_ok N ((m.getD ((x).toNat) TMark.d).f_Level) (-1000000) 1000000 rBt2 (condT hr2 hg)) (pc hg pn))) (pc (fun hg:(!(!rBt))=true=>(pc hg pn)) (pc (fun hq:(!(!rBt))=true=>(pc hq pn)) pn)))))) ?_
   refine Runs.nC 0 24 h (fun hq4 h=>?_) (fun hq4 h=>?_)
   ·refine Runs.nR hE 1 [] [] (kp [2]) [] 288 pn ?_
    obtain rfl:=Option.some.inj h
    exact Runs.nT hE 0 Try.f90 [] (kp [2]) [] 288 pn [] pn
   ·obtain ⟨c2,h⟩:=ifSome h
    refine Runs.nR hE 2 [] [] (kp [0,8,9,10,37]) [] 480 (pc (fun hg:(decide (x > 0))=true=>(pc hg (pc o1 pn))) (pc (fun hg:(decide (x > 0))=true=>(pc hg pn)) (pc (fun hg:(decide (x > 0))=true=>(pc hg (pc hg (pc (c2 hg) pn)))) (pc (fun hg:(decide (x > 0))=true=>(pc hg pn)) (pc (fun hg:(decide (x > 0))=true=>(pc hg pn)) (pc (fun hg:(decide (x > 0))=true=>(pc hg (pc hg pn))) (pc (fun hq:(decide (x > 0))=true=>(pc hq pn)) pn))))))) ?_
    refine Runs.nC 0 37 h (fun hq5 h=>?_) (fun hq5 h=>?_)
    ·refine Runs.nR hE 1 [] [] (kp [2]) [] 496 pn ?_
     obtain rfl:=Option.some.inj h
     exact Runs.nT hE 0 Try.f90 [] (kp [2]) [] 496 pn [] pn
    ·refine Runs.nR hE 2 [] [] (kp [0,8,9,10]) [] 512 pn ?_
     exact Runs.nW hE 1 [] (kp [0,8,9,10]) [] 0 pn (ih _ _ h E hE)
  ·refine Runs.nR hE 2 [] [] (kp [2]) [] 32 pn ?_
   obtain rfl:=Option.some.inj h
   exact Runs.nT hE 0 Try.f90 [] (kp [2]) [] 48 pn [] pn
theorem g_w_CheckSea_ok (N:Nat) (m:List TMark) (r:Int) (h:g_w_CheckSea N m=some r):Sound Try.prog 90 [(encL TMark.cells TMark.d m)] [] 0 (aI r) []:=by
 unfold g_w_CheckSea at h
 refine Sound.of_runs (fu:=Try.f90) (c:=C_46 1) (nt:=39) (by kernel_rfl) (by kernel_rfl) (by kernel_rfl) (by kernel_rfl) (fun hm=>rfl) ?_
 intro E hE
 refine Runs.nR hE 1 [] [] (kp [0]) [] 16 pn ?_
 refine Runs.nR hE 2 [] [] (kp [0,7]) [] 64 pn ?_
 refine Runs.nC 0 7 h (fun hq2 h=>?_) (fun hq2 h=>?_)
 ·refine Runs.nR hE 1 [] [] (kp [2]) [] 80 pn ?_
  obtain rfl:=Option.some.inj h
  exact Runs.nT hE 0 Try.f90 [] (kp [2]) [] 80 pn [] pn
 ·refine Runs.nR hE 3 [] [] (kp [0,8,9,10]) [] 112 pn ?_
  exact Runs.nW hE 2 [] (kp [0,8,9,10]) [] 0 pn (g_w_CheckSea_L1_ok N _ N _ _ h E hE)
noncomputable def C_45 (n:Nat):Code:=cat (bodyOf Try.f75) (pth n)
theorem g_berth_tides_ok (N:Nat) (sea:List TMark) (r:Int) (h:g_berth_tides N sea=some r):Sound Try.prog 75 [(encL TMark.cells TMark.d sea)] [] 0 (aI r) []:=by
 unfold g_berth_tides at h
 refine Sound.of_runs (fu:=Try.f75) (c:=C_45 1) (nt:=12) (by kernel_rfl) (by kernel_rfl) (by kernel_rfl) (by kernel_rfl) (fun hm=>rfl) ?_
 intro E hE
 refine Runs.nR hE 1 [] [] (kp [0]) [] 16 pn ?_
 obtain ⟨rCheckSea,hr,h⟩:=bindSome h
 refine Runs.nR hE 2 [(1,⟨[],true,(aI rCheckSea),[],0,false,none⟩)] [] (kp [0,3]) [] 64 (pc (g_w_CheckSea_ok N sea rCheckSea hr) pn) ?_
 refine Runs.nR hE 1 [] [] (kp [0,3,7]) [] 96 pn ?_
 refine Runs.nC 0 7 h (fun hq2 h=>?_) (fun hq2 h=>?_)
 ·refine Runs.nR hE 1 [] [] (kp [2]) [] 128 pn ?_
  obtain rfl:=Option.some.inj h
  exact Runs.nT hE 0 Try.f75 [] (kp [2]) [] 128 pn [] pn
 ·refine Runs.nR hE 3 [] [] (kp [11]) [] 144 pn ?_
  refine Runs.nC 0 11 h (fun hq3 h=>?_) (fun hq3 h=>?_)
  ·refine Runs.nR hE 1 [] [] (kp [2]) [] 160 pn ?_
   obtain rfl:=Option.some.inj h
   exact Runs.nT hE 0 Try.f75 [] (kp [2]) [] 160 pn [] pn
  ·refine Runs.nR hE 2 [] [] (kp [2]) [] 160 pn ?_
   obtain rfl:=Option.some.inj h
   exact Runs.nT hE 0 Try.f75 [] (kp [2]) [] 160 pn [] pn
noncomputable def C_44 (n:Nat):Code:=cat (bodyOf Try.f43) (pth n)
theorem g_berth_checkYard_ok (N:Nat) (y:TYard) (r:Int) (h:g_berth_checkYard N y=some r):Sound Try.prog 43 [(.agg (TYard.cells y))] [] 0 (aI r) []:=by
 unfold g_berth_checkYard at h
 refine Sound.of_runs (fu:=Try.f43) (c:=C_44 1) (nt:=28) (by kernel_rfl) (by kernel_rfl) (by kernel_rfl) (by kernel_rfl) (fun hm=>rfl) ?_
 intro E hE
 refine Runs.nR hE 1 [] [] (kp [1]) (kq [0]) 32 pn ?_
 obtain ⟨rCheckDocks,hr,h⟩:=bindSome h
 refine Runs.nR hE 2 [(2,⟨[],true,(aI rCheckDocks),[],0,false,none⟩)] [] (kp [1,3]) (kq [0]) 96 (pc o1 (pc (g_berth_CheckDocks_ok N y.f_Docks rCheckDocks hr) pn)) ?_
 refine Runs.nR hE 1 [] [] (kp [1,3,10]) (kq [0]) 128 pn ?_
 refine Runs.nC 0 10 h (fun hq2 h=>?_) (fun hq2 h=>?_)
 ·refine Runs.nR hE 1 [] [] (kp [2]) [] 160 pn ?_
  obtain rfl:=Option.some.inj h
  exact Runs.nT hE 0 Try.f43 [] (kp [2]) [] 160 pn [] pn
 ·obtain ⟨rCheckCalls,hr2,h⟩:=bindSome h
  refine Runs.nR hE 3 [(2,⟨[],true,(aI rCheckCalls),[],0,false,none⟩)] [] (kp [1,4]) (kq [0]) 192 (pc o1 (pc (g_berth_CheckCalls_ok N y.f_Calls rCheckCalls hr2) pn)) ?_
  refine Runs.nR hE 1 [] [] (kp [1,4,16]) (kq [0]) 224 pn ?_
  refine Runs.nC 0 16 h (fun hq3 h=>?_) (fun hq3 h=>?_)
  ·refine Runs.nR hE 1 [] [] (kp [2]) [] 256 pn ?_
   obtain rfl:=Option.some.inj h
   exact Runs.nT hE 0 Try.f43 [] (kp [2]) [] 256 pn [] pn
  ·obtain ⟨rtides,hr3,h⟩:=bindSome h
   refine Runs.nR hE 3 [(2,⟨[],true,(aI rtides),[],0,false,none⟩)] [] (kp [1,5]) (kq [0]) 288 (pc o1 (pc (g_berth_tides_ok N y.f_Sea rtides hr3) pn)) ?_
   refine Runs.nR hE 1 [] [] (kp [1,5,22]) (kq [0]) 320 pn ?_
   refine Runs.nC 0 22 h (fun hq4 h=>?_) (fun hq4 h=>?_)
   ·refine Runs.nR hE 1 [] [] (kp [2]) [] 352 pn ?_
    obtain rfl:=Option.some.inj h
    exact Runs.nT hE 0 Try.f43 [] (kp [2]) [] 352 pn [] pn
   ·obtain ⟨routside,hr4,h⟩:=bindSome h
    obtain ⟨rranged,hr5,h⟩:=bindSome h
    refine Runs.nR hE 2 [(2,⟨[],true,(aB routside),[],0,false,none⟩),(3,⟨[],true,(aI rranged),[],0,false,none⟩)] [] (kp [2]) [] 400 (pc o1 (pc (g_berth_outside_ok N y.f_Last 0 400 routside hr4) (pc (g_berth_ranged_ok N routside rranged hr5) pn))) ?_
    obtain rfl:=Option.some.inj h
    exact Runs.nT hE 0 Try.f43 [] (kp [2]) [] 400 pn [] pn
noncomputable def C_54 (n:Nat):Code:=cat (bodyOf Try.f124) (pth n)
def g_math_bits_Len64_J1_H (N:Nat) (K:Int→Int→Option (Int)):Prop:=∀ (x2:Int) (n:Int) (r:Int),K x2 n=some r→∀ E,EnvOk E 0→Runs Try.prog E 124 25 (SPost E [] (aI r)) [.code (C_54 28),.code (C_54 29),.code (C_54 15)] ⟨[(0,(.atom (.int .u64 x2))),(2,(aI n))],[],0⟩
def g_math_bits_Len64_J2_H (N:Nat) (K:Int→Int→Option (Int)):Prop:=∀ (x3:Int) (n2:Int) (r:Int),K x3 n2=some r→∀ E,EnvOk E 0→Runs Try.prog E 124 25 (SPost E [] (aI r)) [.code (C_54 60),.code (C_54 61),.code (C_54 31)] ⟨[(0,(.atom (.int .u64 x3))),(2,(aI n2))],[],0⟩
def g_math_bits_Len64_J3_H (N:Nat) (K:Int→Int→Option (Int)):Prop:=∀ (x4:Int) (n3:Int) (r:Int),K x4 n3=some r→∀ E,EnvOk E 0→Runs Try.prog E 124 25 (SPost E [] (aI r)) [.code (C_54 62),.code (C_54 63)] ⟨[(0,(.atom (.int .u64 x4))),(2,(aI n3))],[],0⟩
theorem g_math_bits_Len64_J3_ok (N:Nat):g_math_bits_Len64_J3_H N (g_math_bits_Len64_J3 N):=by
 intro x4 n3 r h E hE
 unfold g_math_bits_Len64_J3 at h
 obtain ⟨c,h⟩:=ifSome h
 refine Runs.nR hE 0 [] [] (kp [2]) [] 112 (pc c pn) ?_
 obtain rfl:=Option.some.inj h
 exact Runs.nT hE 0 Try.f124 [] (kp [2]) [] 112 pn [] pn
theorem g_math_bits_Len64_J2_ok (N:Nat):g_math_bits_Len64_J2_H N (g_math_bits_Len64_J2 N):=by
 intro x3 n2 r h E hE
 unfold g_math_bits_Len64_J2 at h
 refine Runs.nR hE 0 [] [] (kp [0,2,14]) [] 32 pn ?_
 refine Runs.nC 0 14 h (fun hq4 h=>?_) (fun hq4 h=>?_)
 ·refine Runs.nR hE 1 [] [] (kp [0,2]) [] 80 (pc (show (0:Int)≤8 by decide) pn) ?_
  refine Runs.nR hE 0 [] [] (kp [0,2]) [] 128 pn ?_
  exact Runs.nW hE 1 [] (kp [0,2]) [] 0 pn (g_math_bits_Len64_J3_ok N _ _ _ h E hE)
 ·exact Runs.nW hE 2 [] (kp [0,2]) [] 0 pn (g_math_bits_Len64_J3_ok N _ _ _ h E hE)
theorem g_math_bits_Len64_J1_ok (N:Nat):g_math_bits_Len64_J1_H N (g_math_bits_Len64_J1 N):=by
 intro x2 n r h E hE
 unfold g_math_bits_Len64_J1 at h
 refine Runs.nR hE 0 [] [] (kp [0,2,8]) [] 32 pn ?_
 refine Runs.nC 0 8 h (fun hq3 h=>?_) (fun hq3 h=>?_)
 ·refine Runs.nR hE 1 [] [] (kp [0,2]) [] 80 (pc (show (0:Int)≤16 by decide) pn) ?_
  refine Runs.nR hE 0 [] [] (kp [0,2]) [] 128 pn ?_
  exact Runs.nW hE 2 [] (kp [0,2]) [] 0 pn (g_math_bits_Len64_J2_ok N _ _ _ h E hE)
 ·exact Runs.nW hE 3 [] (kp [0,2]) [] 0 pn (g_math_bits_Len64_J2_ok N _ _ _ h E hE)
theorem g_math_bits_Len64_ok (N:Nat) (x:Int) (r:Int) (h:g_math_bits_Len64 N x=some r):Sound Try.prog 124 [(.atom (.int .u64 x))] [] 0 (aI r) []:=by
 unfold g_math_bits_Len64 at h
 refine Sound.of_runs (fu:=Try.f124) (c:=C_54 1) (nt:=25) (by kernel_rfl) (by kernel_rfl) (by kernel_rfl) (by kernel_rfl) (fun hm=>rfl) ?_
 intro E hE
 refine Runs.nR hE 1 [] [] (kp [0,2]) [] 16 pn ?_
 refine Runs.nR hE 2 [] [] (kp [0,2,4]) [] 48 pn ?_
 refine Runs.nC 0 4 h (fun hq2 h=>?_) (fun hq2 h=>?_)
 ·refine Runs.nR hE 1 [] [] (kp [0]) [] 96 (pc (show (0:Int)≤32 by decide) pn) ?_
  refine Runs.nR hE 0 [] [] (kp [0,2]) [] 112 pn ?_
  exact Runs.nW hE 2 [] (kp [0,2]) [] 0 pn (g_math_bits_Len64_J1_ok N _ _ _ h E hE)
 ·exact Runs.nW hE 3 [] (kp [0,2]) [] 0 pn (g_math_bits_Len64_J1_ok N _ _ _ h E hE)
noncomputable def C_53 (n:Nat):Code:=cat (bodyOf Try.f99) (pth n)
theorem g_math_bits_Len_ok (N:Nat) (x:Int) (r:Int) (h:g_math_bits_Len N x=some r):Sound Try.prog 99 [(.atom (.int .u64 x))] [] 0 (aI r) []:=by
 unfold g_math_bits_Len at h
 refine Sound.of_runs (fu:=Try.f99) (c:=C_53 1) (nt:=8) (by kernel_rfl) (by kernel_rfl) (by kernel_rfl) (by kernel_rfl) (fun hm=>rfl) ?_
 intro E hE
 refine Runs.nR hE 1 [] [] (kp [0]) [] 16 pn ?_
 refine Runs.nQ0 1 ?_
 obtain ⟨rLen64,hr,h⟩:=bindSome h
 refine Runs.nR hE 2 [(1,⟨[],true,(aI rLen64),[],0,false,none⟩)] [] (kp [2]) [] 64 (pc (g_math_bits_Len64_ok N x rLen64 hr) pn) ?_
 obtain rfl:=Option.some.inj h
 exact Runs.nT hE 0 Try.f99 [] (kp [2]) [] 64 pn [] pn
noncomputable def C_58 (n:Nat):Code:=cat (bodyOf Try.f135) (pth n)
theorem g_cmp_isNaN_int_ok (N:Nat) (x:Int) (r:Bool) (h:g_cmp_isNaN_int N x=some r):Sound Try.prog 135 [(aI x)] [] 0 (aB r) []:=by
 unfold g_cmp_isNaN_int at h
 refine Sound.of_runs (fu:=Try.f135) (c:=C_58 1) (nt:=6) (by kernel_rfl) (by kernel_rfl) (by kernel_rfl) (by kernel_rfl) (fun hm=>rfl) ?_
 intro E hE
 refine Runs.nR hE 1 [] [] (kp [0]) [] 16 pn ?_
 refine Runs.nR hE 1 [] [] (kp [2]) [] 80 pn ?_
 obtain rfl:=Option.some.inj h
 exact Runs.nT hE 0 Try.f135 [] (kp [2]) [] 80 pn [] pn
noncomputable def C_57 (n:Nat):Code:=cat (bodyOf Try.f120) (pth n)
theorem g_cmp_Less_int_ok (N:Nat) (x:Int) (y:Int) (r:Bool) (h:g_cmp_Less_int N x y=some r):Sound Try.prog 120 [(aI x),(aI y)] [] 0 (aB r) []:=by
 unfold g_cmp_Less_int at h
 refine Sound.of_runs (fu:=Try.f120) (c:=C_57 1) (nt:=17) (by kernel_rfl) (by kernel_rfl) (by kernel_rfl) (by kernel_rfl) (fun hm=>rfl) ?_
 intro E hE
 refine Runs.nR hE 1 [] [] (kp [0,1]) [] 16 pn ?_
 obtain ⟨risNaN,hr,h⟩:=bindSome h
 obtain ⟨risNaN2,hr2,h⟩:=bindSome h
 refine Runs.nR hE 1 [(1,⟨[],true,(aB risNaN),[],0,false,none⟩),(4,⟨[],true,(aB risNaN2),[],0,false,none⟩)] [] (kp [4]) [] 224 (pc (g_cmp_isNaN_int_ok N x risNaN hr) (pc (fun hg:risNaN=true=>(pc (g_cmp_isNaN_int_ok N y risNaN2 (condT hr2 hg)) (pc hg pn))) (pc (fun hg:risNaN=true=>(pc hg pn)) (pc (fun hq:risNaN=true=>(pc hq pn)) (pc (fun hg:(!(cond risNaN (!risNaN2) false))=true=>(pc hg (pc hg pn))) (pc (fun hq:(!(cond risNaN (!risNaN2) false))=true=>(pc hq pn)) pn)))))) ?_
 obtain rfl:=Option.some.inj h
 exact Runs.nT hE 0 Try.f120 [] (kp [4]) [] 224 pn [] pn
noncomputable def C_56 (n:Nat):Code:=cat (bodyOf Try.f114) (pth n)
def g_slices_insertionSortOrdered_int_L1_H (N:Nat) (a:Int) (b:Int) (K:(List Int)→Int→Option ((List Int))):Prop:=∀ (cap02:List Int) (i:Int) (r:(List Int)),K cap02 i=some r→∀ E,EnvOk E 1→Runs Try.prog E 114 49 (SPost E [(0,aO 1 cI 0 r)] (.tup [])) [.code (C_56 12),.inLoop (C_56 12),.inBlock 0] ⟨[(0,(.os 0 0 cap02.length)),(1,(aI a)),(2,(aI b)),(6,(aI i))],[(0,aO 1 cI 0 cap02)],1⟩
def g_slices_insertionSortOrdered_int_L2_H (N:Nat) (a:Int) (b:Int) (i:Int) (K:(List Int)→Int→Option ((List Int))):Prop:=∀ (cap03:List Int) (j:Int) (r:(List Int)),K cap03 j=some r→∀ E,EnvOk E 1→Runs Try.prog E 114 49 (SPost E [(0,aO 1 cI 0 r)] (.tup [])) [.code (C_56 804),.inLoop (C_56 804),.inBlock 2,.inBlock 1,.code (C_56 51),.inLoop (C_56 12),.inBlock 0] ⟨[(0,(.os 0 0 cap03.length)),(1,(aI a)),(2,(aI b)),(6,(aI i)),(7,(aI j))],[(0,aO 1 cI 0 cap03)],1⟩
theorem g_slices_insertionSortOrdered_int_L2_ok (N:Nat) (a:Int) (b:Int) (i:Int) (K_g_slices_insertionSortOrdered_int_L1:(List Int)→Int→Option ((List Int))) (hK_g_slices_insertionSortOrdered_int_L1:g_slices_insertionSortOrdered_int_L1_H N a b K_g_slices_insertionSortOrdered_int_L1) (fuel:Nat):g_slices_insertionSortOrdered_int_L2_H N a b i (g_slices_insertionSortOrdered_int_L2 N a b i K_g_slices_insertionSortOrdered_int_L1 fuel):=by
 induction fuel with
 | zero=>intro _ _ r h;rw [g_slices_insertionSortOrdered_int_L2.eq_1] at h;cases h
 | succ fuel ih =>
  intro cap03 j r h E hE
  rw [g_slices_insertionSortOrdered_int_L2.eq_2] at h
  obtain ⟨c,h⟩:=ifSome h
  obtain ⟨c2,h⟩:=ifSome h
  obtain ⟨rLess,hr,h⟩:=bindSome h
  refine Runs.nR hE 2 [(13,⟨[],true,(aB rLess),[],0,false,none⟩)] [] (kp [0,1,2,6,7,30]) (kq [0]) 241 (pc (fun hg:(decide (j > a))=true=>(pc hg (pc hg (pc (c hg) pn)))) (pc (fun hg:(decide (j > a))=true=>(pc hg (pc (ltOf (c hg)) pn))) (pc (fun hg:(decide (j > a))=true=>(pc hg pn)) (pc (fun hg:(decide (j > a))=true=>(pc hg (pc hg (pc (c2 hg) pn)))) (pc (fun hg:(decide (j > a))=true=>(pc hg (pc (ltOf (c2 hg)) pn))) (pc (fun hg:(decide (j > a))=true=>(pc (g_cmp_Less_int_ok N (cap03.getD ((j).toNat) 0) (cap03.getD ((w64 (j - 1)).toNat) 0) rLess (condT hr hg)) (pc hg (pc hg pn)))) (pc (fun hq:(decide (j > a))=true=>(pc hq pn)) pn))))))) ?_
  refine Runs.nC 0 30 h (fun hq3 h=>?_) (fun hq3 h=>?_)
  ·obtain ⟨c3,h⟩:=ifSome h
   obtain ⟨c4,h⟩:=ifSome h
   refine Runs.nR hE 3 [] [] ([(0,.osl (((cap03.set ((j).toNat) (cap03.getD ((w64 (j - 1)).toNat) 0)).set ((w64 (j - 1)).toNat) (cap03.getD ((j).toNat) 0)).length))] ++ kp [1,2,6,7]) [(0,.arr 0 (((cap03.set ((j).toNat) (cap03.getD ((w64 (j - 1)).toNat) 0)).set ((w64 (j - 1)).toNat) (cap03.getD ((j).toNat) 0)).length) (fun zi=>cI (((cap03.set ((j).toNat) (cap03.getD ((w64 (j - 1)).toNat) 0)).set ((w64 (j - 1)).toNat) (cap03.getD ((j).toNat) 0)).getD zi 0)))] 529 (pc c3 (pc (ltOf c3) (pc c4 (pc (ltOf c4) (pc c4 (pc (ltOf c4) (pc c3 (pc (ltOf c3) (pc (show cap03.length=((cap03.set ((j).toNat) (cap03.getD ((w64 (j - 1)).toNat) 0)).set ((w64 (j - 1)).toNat) (cap03.getD ((j).toNat) 0)).length from (len_set_raw (len_set_raw rfl))) (pc (show cap03.length=((cap03.set ((j).toNat) (cap03.getD ((w64 (j - 1)).toNat) 0)).set ((w64 (j - 1)).toNat) (cap03.getD ((j).toNat) 0)).length from (len_set_raw (len_set_raw rfl))) (pc (show ∀ zi,zi < ((cap03.set ((j).toNat) (cap03.getD ((w64 (j - 1)).toNat) 0)).set ((w64 (j - 1)).toNat) (cap03.getD ((j).toNat) 0)).length→(fun zi=>cI (((cap03.set ((j).toNat) (cap03.getD ((w64 (j - 1)).toNat) 0)).set ((w64 (j - 1)).toNat) (cap03.getD ((j).toNat) 0)).getD zi 0)) zi=((fun zm=>if zm=(w64 (j - 1)).toNat then [(aI (cap03.getD ((j).toNat) 0))] else ((fun zm=>if zm=(j).toNat then [(aI (cap03.getD ((w64 (j - 1)).toNat) 0))] else (fun zi=>cI (cap03.getD zi 0)) zm)) zm)) zi from (get_set_raw cI 0 (cap03.set ((j).toNat) (cap03.getD ((w64 (j - 1)).toNat) 0)) ((w64 (j - 1)).toNat) (cap03.getD ((j).toNat) 0) (get_set_raw cI 0 cap03 ((j).toNat) (cap03.getD ((w64 (j - 1)).toNat) 0) (fun _ _=>rfl)))) pn))))))))))) ?_
   refine Runs.nR hE 1 [] [] (kp [0,1,2,6,7]) (kq [0]) 577 pn ?_
   exact Runs.nW hE 1 [] (kp [0,1,2,6,7]) (kq [0]) 1 pn (ih _ _ _ h E hE)
  ·refine Runs.nR hE 2 [] [] (kp [0,1,2,6]) (kq [0]) 289 pn ?_
   exact Runs.nW hE 1 [] (kp [0,1,2,6]) (kq [0]) 1 pn (hK_g_slices_insertionSortOrdered_int_L1 _ _ _ h E hE)
theorem g_slices_insertionSortOrdered_int_L1_ok (N:Nat) (a:Int) (b:Int) (fuel:Nat):g_slices_insertionSortOrdered_int_L1_H N a b (g_slices_insertionSortOrdered_int_L1 N a b fuel):=by
 induction fuel with
 | zero=>intro _ _ r h;rw [g_slices_insertionSortOrdered_int_L1.eq_1] at h;cases h
 | succ fuel ih =>
  intro cap02 i r h E hE
  rw [g_slices_insertionSortOrdered_int_L1.eq_2] at h
  refine Runs.nR hE 2 [] [] (kp [0,1,2,6,12]) (kq [0]) 49 pn ?_
  refine Runs.nC 0 12 h (fun hq2 h=>?_) (fun hq2 h=>?_)
  ·refine Runs.nR hE 4 [] [] (kp [0,1,2,6,7]) (kq [0]) 81 pn ?_
   exact Runs.nW hE 2 [] (kp [0,1,2,6,7]) (kq [0]) 1 pn (g_slices_insertionSortOrdered_int_L2_ok N _ _ _ _ ih N _ _ _ h E hE)
  ·obtain rfl:=Option.some.inj h
   exact Runs.nF hE 1 Try.f114 [] [] (kq [0]) 49 pn [] pn
theorem g_slices_insertionSortOrdered_int_ok (N:Nat) (a:Int) (b:Int) (cap0:List Int) (r:(List Int)) (h:g_slices_insertionSortOrdered_int N a b cap0=some r):Sound Try.prog 114 [(.os 0 0 cap0.length),(aI a),(aI b)] [(0,aO 1 cI 0 cap0)] 1 (.tup []) [(0,aO 1 cI 0 r)]:=by
 unfold g_slices_insertionSortOrdered_int at h
 refine Sound.of_runs (fu:=Try.f114) (c:=C_56 1) (nt:=49) (by kernel_rfl) (by kernel_rfl) (by kernel_rfl) (by kernel_rfl) (fun hm=>absurd hm (by decide)) ?_
 intro E hE
 refine Runs.nR hE 1 [] [] (kp [0,1,2,6]) (kq [0]) 49 pn ?_
 exact Runs.nW hE 2 [] (kp [0,1,2,6]) (kq [0]) 1 pn (g_slices_insertionSortOrdered_int_L1_ok N _ _ N _ _ _ h E hE)
noncomputable def C_60 (n:Nat):Code:=cat (bodyOf Try.f130) (pth n)
def g_slices_siftDownOrdered_int_L1_H (N:Nat) (hi:Int) (first:Int) (K:(List Int)→Int→Option ((List Int))):Prop:=∀ (cap02:List Int) (root:Int) (r:(List Int)),K cap02 root=some r→∀ E,EnvOk E 1→Runs Try.prog E 130 76 (SPost E [(0,aO 1 cI 0 r)] (.tup [])) [.code (C_60 12),.inLoop (C_60 12),.inBlock 0] ⟨[(0,(.os 0 0 cap02.length)),(2,(aI hi)),(3,(aI first)),(8,(aI root))],[(0,aO 1 cI 0 cap02)],1⟩
def g_slices_siftDownOrdered_int_J2_H (N:Nat) (hi:Int) (first:Int) (cap02:List Int) (root:Int) (K:Int→Option ((List Int))):Prop:=∀ (child:Int) (r:(List Int)),K child=some r→∀ E,EnvOk E 1→Runs Try.prog E 130 76 (SPost E [(0,aO 1 cI 0 r)] (.tup [])) [.code (C_60 796),.code (C_60 797),.code (C_60 399),.inBlock 1,.inLoop (C_60 12),.inBlock 0] ⟨[(0,(.os 0 0 cap02.length)),(2,(aI hi)),(3,(aI first)),(8,(aI root)),(9,(aI child))],[(0,aO 1 cI 0 cap02)],1⟩
theorem g_slices_siftDownOrdered_int_J2_ok (N:Nat) (hi:Int) (first:Int) (cap02:List Int) (root:Int) (K_g_slices_siftDownOrdered_int_L1:(List Int)→Int→Option ((List Int))) (hK_g_slices_siftDownOrdered_int_L1:g_slices_siftDownOrdered_int_L1_H N hi first K_g_slices_siftDownOrdered_int_L1):g_slices_siftDownOrdered_int_J2_H N hi first cap02 root (g_slices_siftDownOrdered_int_J2 N hi first cap02 root K_g_slices_siftDownOrdered_int_L1):=by
 intro child r h E hE
 unfold g_slices_siftDownOrdered_int_J2 at h
 obtain ⟨c3,h⟩:=ifSome h
 obtain ⟨c4,h⟩:=ifSome h
 obtain ⟨rLess2,hr2,h⟩:=bindSome h
 refine Runs.nR hE 0 [(12,⟨[],true,(aB rLess2),[],0,false,none⟩)] [] (kp [0,2,3,8,9,52]) (kq [0]) 225 (pc c3 (pc (ltOf c3) (pc c4 (pc (ltOf c4) (pc (g_cmp_Less_int_ok N (cap02.getD ((w64 (first+root)).toNat) 0) (cap02.getD ((w64 (first+child)).toNat) 0) rLess2 hr2) pn))))) ?_
 refine Runs.nC 0 52 h (fun hq4 h=>?_) (fun hq4 h=>?_)
 ·obtain rfl:=Option.some.inj h
  exact Runs.nT hE 0 Try.f130 [] [] (kq [0]) 225 pn [] pn
 ·refine Runs.nR hE 2 [] [] ([(0,.osl (((cap02.set ((w64 (first+root)).toNat) (cap02.getD ((w64 (first+child)).toNat) 0)).set ((w64 (first+child)).toNat) (cap02.getD ((w64 (first+root)).toNat) 0)).length))] ++ kp [2,3,9]) [(0,.arr 0 (((cap02.set ((w64 (first+root)).toNat) (cap02.getD ((w64 (first+child)).toNat) 0)).set ((w64 (first+child)).toNat) (cap02.getD ((w64 (first+root)).toNat) 0)).length) (fun zi=>cI (((cap02.set ((w64 (first+root)).toNat) (cap02.getD ((w64 (first+child)).toNat) 0)).set ((w64 (first+child)).toNat) (cap02.getD ((w64 (first+root)).toNat) 0)).getD zi 0)))] 609 (pc c4 (pc (ltOf c4) (pc c3 (pc (ltOf c3) (pc c3 (pc (ltOf c3) (pc c4 (pc (ltOf c4) (pc (show cap02.length=((cap02.set ((w64 (first+root)).toNat) (cap02.getD ((w64 (first+child)).toNat) 0)).set ((w64 (first+child)).toNat) (cap02.getD ((w64 (first+root)).toNat) 0)).length from (len_set_raw (len_set_raw rfl))) (pc (show cap02.length=((cap02.set ((w64 (first+root)).toNat) (cap02.getD ((w64 (first+child)).toNat) 0)).set ((w64 (first+child)).toNat) (cap02.getD ((w64 (first+root)).toNat) 0)).length from (len_set_raw (len_set_raw rfl))) (pc (show ∀ zi,zi < ((cap02.set ((w64 (first+root)).toNat) (cap02.getD ((w64 (first+child)).toNat) 0)).set ((w64 (first+child)).toNat) (cap02.getD ((w64 (first+root)).toNat) 0)).length→(fun zi=>cI (((cap02.set ((w64 (first+root)).toNat) (cap02.getD ((w64 (first+child)).toNat) 0)).set ((w64 (first+child)).toNat) (cap02.getD ((w64 (first+root)).toNat) 0)).getD zi 0)) zi=((fun zm=>if zm=(w64 (first+child)).toNat then [(aI (cap02.getD ((w64 (first+root)).toNat) 0))] else ((fun zm=>if zm=(w64 (first+root)).toNat then [(aI (cap02.getD ((w64 (first+child)).toNat) 0))] else (fun zi=>cI (cap02.getD zi 0)) zm)) zm)) zi from (get_set_raw cI 0 (cap02.set ((w64 (first+root)).toNat) (cap02.getD ((w64 (first+child)).toNat) 0)) ((w64 (first+child)).toNat) (cap02.getD ((w64 (first+root)).toNat) 0) (get_set_raw cI 0 cap02 ((w64 (first+root)).toNat) (cap02.getD ((w64 (first+child)).toNat) 0) (fun _ _=>rfl)))) pn))))))))))) ?_
  refine Runs.nR hE 0 [] [] (kp [0,2,3,8]) (kq [0]) 641 pn ?_
  exact Runs.nW hE 2 [] (kp [0,2,3,8]) (kq [0]) 1 pn (hK_g_slices_siftDownOrdered_int_L1 _ _ _ h E hE)
theorem g_slices_siftDownOrdered_int_L1_ok (N:Nat) (hi:Int) (first:Int) (fuel:Nat):g_slices_siftDownOrdered_int_L1_H N hi first (g_slices_siftDownOrdered_int_L1 N hi first fuel):=by
 induction fuel with
 | zero=>intro _ _ r h;rw [g_slices_siftDownOrdered_int_L1.eq_1] at h;cases h
 | succ fuel ih =>
  intro cap02 root r h E hE
  rw [g_slices_siftDownOrdered_int_L1.eq_2] at h
  refine Runs.nR hE 2 [] [] (kp [0,2,3,8,9]) (kq [0]) 65 pn ?_
  refine Runs.nR hE 2 [] [] (kp [0,2,3,8,9,16]) (kq [0]) 113 pn ?_
  refine Runs.nC 0 16 h (fun hq2 h=>?_) (fun hq2 h=>?_)
  ·obtain rfl:=Option.some.inj h
   exact Runs.nF hE 1 Try.f130 [] [] (kq [0]) 113 pn [] pn
  ·obtain ⟨c,h⟩:=ifSome h
   obtain ⟨c2,h⟩:=ifSome h
   obtain ⟨rLess,hr,h⟩:=bindSome h
   refine Runs.nR hE 3 [(18,⟨[],true,(aB rLess),[],0,false,none⟩)] [] (kp [0,2,3,8,9,36]) (kq [0]) 433 (pc (fun hg:(decide ((w64 ((w64 ((w64 (2 * root))+1))+1)) < hi))=true=>(pc hg (pc hg pn))) (pc (fun hg:(decide ((w64 ((w64 ((w64 (2 * root))+1))+1)) < hi))=true=>(pc hg (pc hg (pc (c hg) pn)))) (pc (fun hg:(decide ((w64 ((w64 ((w64 (2 * root))+1))+1)) < hi))=true=>(pc hg (pc (ltOf (c hg)) pn))) (pc (fun hg:(decide ((w64 ((w64 ((w64 (2 * root))+1))+1)) < hi))=true=>(pc hg (pc hg pn))) (pc (fun hg:(decide ((w64 ((w64 ((w64 (2 * root))+1))+1)) < hi))=true=>(pc hg pn)) (pc (fun hg:(decide ((w64 ((w64 ((w64 (2 * root))+1))+1)) < hi))=true=>(pc hg (pc hg (pc (c2 hg) pn)))) (pc (fun hg:(decide ((w64 ((w64 ((w64 (2 * root))+1))+1)) < hi))=true=>(pc hg (pc (ltOf (c2 hg)) pn))) (pc (fun hg:(decide ((w64 ((w64 ((w64 (2 * root))+1))+1)) < hi))=true=>(pc (g_cmp_Less_int_ok N (cap02.getD ((w64 (first+(w64 ((w64 (2 * root))+1)))).toNat) 0) (cap02.getD ((w64 ((w64 (first+(w64 ((w64 (2 * root))+1))))+1)).toNat) 0) rLess (condT hr hg)) (pc hg (pc hg pn)))) (pc (fun hq:(decide ((w64 ((w64 ((w64 (2 * root))+1))+1)) < hi))=true=>(pc hq pn)) pn))))))))) ?_
   refine Runs.nC 0 36 h (fun hq3 h=>?_) (fun hq3 h=>?_)
   ·refine Runs.nR hE 0 [] [] (kp [0,2,3,8,9]) (kq [0]) 481 pn ?_
    exact Runs.nW hE 2 [] (kp [0,2,3,8,9]) (kq [0]) 1 pn (g_slices_siftDownOrdered_int_J2_ok N _ _ _ _ _ ih _ _ h E hE)
   ·exact Runs.nW hE 3 [] (kp [0,2,3,8,9]) (kq [0]) 1 pn (g_slices_siftDownOrdered_int_J2_ok N _ _ _ _ _ ih _ _ h E hE)
theorem g_slices_siftDownOrdered_int_ok (N:Nat) (lo:Int) (hi:Int) (first:Int) (cap0:List Int) (r:(List Int)) (h:g_slices_siftDownOrdered_int N lo hi first cap0=some r):Sound Try.prog 130 [(.os 0 0 cap0.length),(aI lo),(aI hi),(aI first)] [(0,aO 1 cI 0 cap0)] 1 (.tup []) [(0,aO 1 cI 0 r)]:=by
 unfold g_slices_siftDownOrdered_int at h
 refine Sound.of_runs (fu:=Try.f130) (c:=C_60 1) (nt:=76) (by kernel_rfl) (by kernel_rfl) (by kernel_rfl) (by kernel_rfl) (fun hm=>absurd hm (by decide)) ?_
 intro E hE
 refine Runs.nR hE 1 [] [] (kp [0,2,3,8]) (kq [0]) 33 pn ?_
 exact Runs.nW hE 2 [] (kp [0,2,3,8]) (kq [0]) 1 pn (g_slices_siftDownOrdered_int_L1_ok N _ _ N _ _ _ h E hE)
noncomputable def C_59 (n:Nat):Code:=cat (bodyOf Try.f115) (pth n)
def g_slices_heapSortOrdered_int_L1_H (N:Nat) (a:Int) (b:Int) (K:(List Int)→Int→Option ((List Int))):Prop:=∀ (cap02:List Int) (i:Int) (r:(List Int)),K cap02 i=some r→∀ E,EnvOk E 1→Runs Try.prog E 115 56 (SPost E [(0,aO 1 cI 0 r)] (.tup [])) [.code (C_59 244),.inLoop (C_59 244),.inBlock 0,.code (C_59 31)] ⟨[(0,(.os 0 0 cap02.length)),(6,(aI a)),(7,(aI 0)),(8,(aI (w64 (b - a)))),(9,(aI i))],[(0,aO 1 cI 0 cap02)],1⟩
def g_slices_heapSortOrdered_int_L2_H (N:Nat) (a:Int) (K:(List Int)→Int→Option ((List Int))):Prop:=∀ (cap03:List Int) (i2:Int) (r:(List Int)),K cap03 i2=some r→∀ E,EnvOk E 1→Runs Try.prog E 115 56 (SPost E [(0,aO 1 cI 0 r)] (.tup [])) [.code (C_59 252),.inLoop (C_59 252),.inBlock 2] ⟨[(0,(.os 0 0 cap03.length)),(6,(aI a)),(7,(aI 0)),(10,(aI i2))],[(0,aO 1 cI 0 cap03)],1⟩
theorem g_slices_heapSortOrdered_int_L2_ok (N:Nat) (a:Int) (fuel:Nat):g_slices_heapSortOrdered_int_L2_H N a (g_slices_heapSortOrdered_int_L2 N a fuel):=by
 induction fuel with
 | zero=>intro _ _ r h;rw [g_slices_heapSortOrdered_int_L2.eq_1] at h;cases h
 | succ fuel ih =>
  intro cap03 i2 r h E hE
  rw [g_slices_heapSortOrdered_int_L2.eq_2] at h
  refine Runs.nR hE 2 [] [] (kp [0,6,7,10,30]) (kq [0]) 33 pn ?_
  refine Runs.nC 0 30 h (fun hq3 h=>?_) (fun hq3 h=>?_)
  ·obtain ⟨c2,h⟩:=ifSome h
   obtain ⟨c3,h⟩:=ifSome h
   refine Runs.nR hE 4 [] [] ([(0,.osl (((cap03.set ((a).toNat) (cap03.getD ((w64 (a+i2)).toNat) 0)).set ((w64 (a+i2)).toNat) (cap03.getD ((a).toNat) 0)).length))] ++ kp [6,7,10]) [(0,.arr 0 (((cap03.set ((a).toNat) (cap03.getD ((w64 (a+i2)).toNat) 0)).set ((w64 (a+i2)).toNat) (cap03.getD ((a).toNat) 0)).length) (fun zi=>cI (((cap03.set ((a).toNat) (cap03.getD ((w64 (a+i2)).toNat) 0)).set ((w64 (a+i2)).toNat) (cap03.getD ((a).toNat) 0)).getD zi 0)))] 353 (pc c2 (pc (ltOf c2) (pc c3 (pc (ltOf c3) (pc c3 (pc (ltOf c3) (pc c2 (pc (ltOf c2) (pc (show cap03.length=((cap03.set ((a).toNat) (cap03.getD ((w64 (a+i2)).toNat) 0)).set ((w64 (a+i2)).toNat) (cap03.getD ((a).toNat) 0)).length from (len_set_raw (len_set_raw rfl))) (pc (show cap03.length=((cap03.set ((a).toNat) (cap03.getD ((w64 (a+i2)).toNat) 0)).set ((w64 (a+i2)).toNat) (cap03.getD ((a).toNat) 0)).length from (len_set_raw (len_set_raw rfl))) (pc (show ∀ zi,zi < ((cap03.set ((a).toNat) (cap03.getD ((w64 (a+i2)).toNat) 0)).set ((w64 (a+i2)).toNat) (cap03.getD ((a).toNat) 0)).length→(fun zi=>cI (((cap03.set ((a).toNat) (cap03.getD ((w64 (a+i2)).toNat) 0)).set ((w64 (a+i2)).toNat) (cap03.getD ((a).toNat) 0)).getD zi 0)) zi=((fun zm=>if zm=(w64 (a+i2)).toNat then [(aI (cap03.getD ((a).toNat) 0))] else ((fun zm=>if zm=(a).toNat then [(aI (cap03.getD ((w64 (a+i2)).toNat) 0))] else (fun zi=>cI (cap03.getD zi 0)) zm)) zm)) zi from (get_set_raw cI 0 (cap03.set ((a).toNat) (cap03.getD ((w64 (a+i2)).toNat) 0)) ((w64 (a+i2)).toNat) (cap03.getD ((a).toNat) 0) (get_set_raw cI 0 cap03 ((a).toNat) (cap03.getD ((w64 (a+i2)).toNat) 0) (fun _ _=>rfl)))) pn))))))))))) ?_
   obtain ⟨rsiftDownOrde2,hr2,h⟩:=bindSome h
   obtain ⟨c4,h⟩:=ifSome h
   refine Runs.nR hE 0 [(4,⟨[0],false,(.tup []),[(0,aO 1 cI 0 rsiftDownOrde2)],0,false,none⟩)] [] ([(0,.osl (rsiftDownOrde2.length))] ++ kp [6,7,10]) (kq [0]) 433 (pc (g_slices_siftDownOrdered_int_ok N 0 i2 a ((cap03.set ((a).toNat) (cap03.getD ((w64 (a+i2)).toNat) 0)).set ((w64 (a+i2)).toNat) (cap03.getD ((a).toNat) 0)) rsiftDownOrde2 hr2) (pc (show ((cap03.set ((a).toNat) (cap03.getD ((w64 (a+i2)).toNat) 0)).set ((w64 (a+i2)).toNat) (cap03.getD ((a).toNat) 0)).length=rsiftDownOrde2.length from (Eq.symm c4)) pn)) ?_
   refine Runs.nR hE 1 [] [] (kp [0,6,7,10]) (kq [0]) 481 pn ?_
   exact Runs.nW hE 1 [] (kp [0,6,7,10]) (kq [0]) 1 pn (ih _ _ _ h E hE)
  ·obtain rfl:=Option.some.inj h
   exact Runs.nF hE 1 Try.f115 [] [] (kq [0]) 49 pn [] pn
theorem g_slices_heapSortOrdered_int_L1_ok (N:Nat) (a:Int) (b:Int) (fuel:Nat):g_slices_heapSortOrdered_int_L1_H N a b (g_slices_heapSortOrdered_int_L1 N a b fuel):=by
 induction fuel with
 | zero=>intro _ _ r h;rw [g_slices_heapSortOrdered_int_L1.eq_1] at h;cases h
 | succ fuel ih =>
  intro cap02 i r h E hE
  rw [g_slices_heapSortOrdered_int_L1.eq_2] at h
  refine Runs.nR hE 2 [] [] (kp [0,6,7,8,9,19]) (kq [0]) 33 pn ?_
  refine Runs.nC 0 19 h (fun hq2 h=>?_) (fun hq2 h=>?_)
  ·obtain ⟨rsiftDownOrde,hr,h⟩:=bindSome h
   obtain ⟨c,h⟩:=ifSome h
   refine Runs.nR hE 3 [(4,⟨[0],false,(.tup []),[(0,aO 1 cI 0 rsiftDownOrde)],0,false,none⟩)] [] ([(0,.osl (rsiftDownOrde.length))] ++ kp [6,7,8,9]) (kq [0]) 113 (pc (g_slices_siftDownOrdered_int_ok N i (w64 (b - a)) a cap02 rsiftDownOrde hr) (pc (show cap02.length=rsiftDownOrde.length from (Eq.symm c)) pn)) ?_
   refine Runs.nR hE 1 [] [] (kp [0,6,7,8,9]) (kq [0]) 161 pn ?_
   exact Runs.nW hE 1 [] (kp [0,6,7,8,9]) (kq [0]) 1 pn (ih _ _ _ h E hE)
  ·refine Runs.nR hE 2 [] [] (kp [0,6,7,10]) (kq [0]) 81 pn ?_
   exact Runs.nW hE 2 [] (kp [0,6,7,10]) (kq [0]) 1 pn (g_slices_heapSortOrdered_int_L2_ok N _ N _ _ _ h E hE)
theorem g_slices_heapSortOrdered_int_ok (N:Nat) (a:Int) (b:Int) (cap0:List Int) (r:(List Int)) (h:g_slices_heapSortOrdered_int N a b cap0=some r):Sound Try.prog 115 [(.os 0 0 cap0.length),(aI a),(aI b)] [(0,aO 1 cI 0 cap0)] 1 (.tup []) [(0,aO 1 cI 0 r)]:=by
 unfold g_slices_heapSortOrdered_int at h
 refine Sound.of_runs (fu:=Try.f115) (c:=C_59 1) (nt:=56) (by kernel_rfl) (by kernel_rfl) (by kernel_rfl) (by kernel_rfl) (fun hm=>absurd hm (by decide)) ?_
 intro E hE
 refine Runs.nR hE 1 [] [] (kp [0,1,2,6]) (kq [0]) 33 pn ?_
 refine Runs.nR hE 1 [] [] (kp [0,1,2,6,7]) (kq [0]) 49 pn ?_
 refine Runs.nR hE 1 [] [] (kp [0,6,7,8]) (kq [0]) 113 pn ?_
 refine Runs.nR hE 2 [] [] (kp [0,6,7,8,9]) (kq [0]) 177 (pc (show (2:Int)≠0 by decide) pn) ?_
 exact Runs.nW hE 2 [] (kp [0,6,7,8,9]) (kq [0]) 1 pn (g_slices_heapSortOrdered_int_L1_ok N _ _ N _ _ _ h E hE)
noncomputable def C_62 (n:Nat):Code:=cat (bodyOf Try.f131) (pth n)
theorem g_slices_nextPowerOfTwo_ok (N:Nat) (length:Int) (r:Int) (h:g_slices_nextPowerOfTwo N length=some r):Sound Try.prog 131 [(aI length)] [] 0 (.atom (.int .u64 r)) []:=by
 unfold g_slices_nextPowerOfTwo at h
 refine Sound.of_runs (fu:=Try.f131) (c:=C_62 1) (nt:=7) (by kernel_rfl) (by kernel_rfl) (by kernel_rfl) (by kernel_rfl) (fun hm=>rfl) ?_
 intro E hE
 refine Runs.nR hE 1 [] [] (kp [0]) [] 16 pn ?_
 obtain ⟨rLen,hr,h⟩:=bindSome h
 obtain ⟨c,h⟩:=ifSome h
 refine Runs.nR hE 1 [(2,⟨[],true,(aI rLen),[],0,false,none⟩)] [] (kp [2]) [] 96 (pc (g_math_bits_Len_ok N (IntKind.u64.wrap (length)) rLen hr) (pc c pn)) ?_
 obtain rfl:=Option.some.inj h
 exact Runs.nT hE 0 Try.f131 [] (kp [2]) [] 96 pn [] pn
noncomputable def C_63 (n:Nat):Code:=cat (bodyOf Try.f132) (pth n)
theorem g_slices_xorshift_Next_ok (N:Nat) (cap0:Int) (r:Int×Int) (h:g_slices_xorshift_Next N cap0=some r):Sound Try.prog 132 [(.op 0 0 0)] [(0,vO 1 [(.atom (.int .u64 cap0))])] 1 (.atom (.int .u64 r.1)) [(0,vO 1 [(.atom (.int .u64 r.2))])]:=by
 unfold g_slices_xorshift_Next at h
 refine Sound.of_runs (fu:=Try.f132) (c:=C_63 1) (nt:=33) (by kernel_rfl) (by kernel_rfl) (by kernel_rfl) (by kernel_rfl) (fun hm=>absurd hm (by decide)) ?_
 intro E hE
 refine Runs.nR hE 1 [] [] (kp [0]) (kq [0]) 17 pn ?_
 refine Runs.nR hE 1 [] [] (kp [0]) (kq [0]) 177 (pc o1 (pc o1 (pc (show (0:Int)≤13 by decide) (pc o1 pn)))) ?_
 refine Runs.nR hE 1 [] [] (kp [0]) (kq [0]) 337 (pc o1 (pc o1 (pc (show (0:Int)≤7 by decide) (pc o1 pn)))) ?_
 refine Runs.nR hE 1 [] [] (kp [0]) (kq [0]) 497 (pc o1 (pc o1 (pc (show (0:Int)≤17 by decide) (pc o1 pn)))) ?_
 refine Runs.nR hE 1 [] [] (kp [2]) (kq [0]) 561 (pc o1 pn) ?_
 obtain rfl:=Option.some.inj h
 exact Runs.nT hE 0 Try.f132 [] (kp [2]) (kq [0]) 561 pn [] pn
noncomputable def C_61 (n:Nat):Code:=cat (bodyOf Try.f116) (pth n)
def g_slices_breakPatternsOrdered_int_L1_H (N:Nat) (a:Int) (b:Int) (rnextPowerOfT:Int) (K:(List Int)→Int→Int→Option ((List Int))):Prop:=∀ (cap02:List Int) (random:Int) (idx:Int) (r:(List Int)),K cap02 random idx=some r→∀ E,EnvOk E 1→Runs Try.prog E 116 65 (SPost E [(0,aO 1 cI 0 r)] (.tup [])) [.code (C_61 476),.inLoop (C_61 476),.inBlock 0] ⟨[(0,(.os 0 0 cap02.length)),(1,(aI a)),(6,(aI (w64 (b - a)))),(7,(.op 1 0 0)),(8,(.atom (.int .u64 rnextPowerOfT))),(9,(aI idx))],[(0,aO 1 cI 0 cap02),(1,vO 1 [(.atom (.int .u64 random))])],2⟩
def g_slices_breakPatternsOrdered_int_J2_H (N:Nat) (a:Int) (b:Int) (rnextPowerOfT:Int) (cap02:List Int) (idx:Int) (rNext:Int×Int) (K:Int→Option ((List Int))):Prop:=∀ (other:Int) (r:(List Int)),K other=some r→∀ E,EnvOk E 1→Runs Try.prog E 116 65 (SPost E [(0,aO 1 cI 0 r)] (.tup [])) [.code (C_61 15251),.inBlock 1,.code (C_61 1907),.inLoop (C_61 476),.inBlock 0] ⟨[(0,(.os 0 0 cap02.length)),(1,(aI a)),(6,(aI (w64 (b - a)))),(7,(.op 1 0 0)),(8,(.atom (.int .u64 rnextPowerOfT))),(9,(aI idx)),(10,(aI other))],[(0,aO 1 cI 0 cap02),(1,vO 1 [(.atom (.int .u64 rNext.2))])],2⟩
theorem g_slices_breakPatternsOrdered_int_J2_ok (N:Nat) (a:Int) (b:Int) (rnextPowerOfT:Int) (cap02:List Int) (idx:Int) (rNext:Int×Int) (K_g_slices_breakPatternsOrdered_int_L1:(List Int)→Int→Int→Option ((List Int))) (hK_g_slices_breakPatternsOrdered_int_L1:g_slices_breakPatternsOrdered_int_L1_H N a b rnextPowerOfT K_g_slices_breakPatternsOrdered_int_L1):g_slices_breakPatternsOrdered_int_J2_H N a b rnextPowerOfT cap02 idx rNext (g_slices_breakPatternsOrdered_int_J2 N a b rnextPowerOfT cap02 idx rNext K_g_slices_breakPatternsOrdered_int_L1):=by
 intro other r h E hE
 unfold g_slices_breakPatternsOrdered_int_J2 at h
 obtain ⟨c,h⟩:=ifSome h
 obtain ⟨c2,h⟩:=ifSome h
 refine Runs.nR hE 0 [] [] ([(0,.osl (((cap02.set ((idx).toNat) (cap02.getD ((w64 (a+other)).toNat) 0)).set ((w64 (a+other)).toNat) (cap02.getD ((idx).toNat) 0)).length))] ++ kp [1,6,7,8,9]) ([(0,.arr 0 (((cap02.set ((idx).toNat) (cap02.getD ((w64 (a+other)).toNat) 0)).set ((w64 (a+other)).toNat) (cap02.getD ((idx).toNat) 0)).length) (fun zi=>cI (((cap02.set ((idx).toNat) (cap02.getD ((w64 (a+other)).toNat) 0)).set ((w64 (a+other)).toNat) (cap02.getD ((idx).toNat) 0)).getD zi 0)))] ++ kq [1]) 322 (pc c (pc (ltOf c) (pc c2 (pc (ltOf c2) (pc c2 (pc (ltOf c2) (pc c (pc (ltOf c) (pc (show cap02.length=((cap02.set ((idx).toNat) (cap02.getD ((w64 (a+other)).toNat) 0)).set ((w64 (a+other)).toNat) (cap02.getD ((idx).toNat) 0)).length from (len_set_raw (len_set_raw rfl))) (pc (show cap02.length=((cap02.set ((idx).toNat) (cap02.getD ((w64 (a+other)).toNat) 0)).set ((w64 (a+other)).toNat) (cap02.getD ((idx).toNat) 0)).length from (len_set_raw (len_set_raw rfl))) (pc (show ∀ zi,zi < ((cap02.set ((idx).toNat) (cap02.getD ((w64 (a+other)).toNat) 0)).set ((w64 (a+other)).toNat) (cap02.getD ((idx).toNat) 0)).length→(fun zi=>cI (((cap02.set ((idx).toNat) (cap02.getD ((w64 (a+other)).toNat) 0)).set ((w64 (a+other)).toNat) (cap02.getD ((idx).toNat) 0)).getD zi 0)) zi=((fun zm=>if zm=(w64 (a+other)).toNat then [(aI (cap02.getD ((idx).toNat) 0))] else ((fun zm=>if zm=(idx).toNat then [(aI (cap02.getD ((w64 (a+other)).toNat) 0))] else (fun zi=>cI (cap02.getD zi 0)) zm)) zm)) zi from (get_set_raw cI 0 (cap02.set ((idx).toNat) (cap02.getD ((w64 (a+other)).toNat) 0)) ((w64 (a+other)).toNat) (cap02.getD ((idx).toNat) 0) (get_set_raw cI 0 cap02 ((idx).toNat) (cap02.getD ((w64 (a+other)).toNat) 0) (fun _ _=>rfl)))) pn))))))))))) ?_
 refine Runs.nR hE 1 [] [] (kp [0,1,6,7,8,9]) (kq [0,1]) 370 pn ?_
 exact Runs.nW hE 1 [] (kp [0,1,6,7,8,9]) (kq [0,1]) 2 pn (hK_g_slices_breakPatternsOrdered_int_L1 _ _ _ _ h E hE)
theorem g_slices_breakPatternsOrdered_int_L1_ok (N:Nat) (a:Int) (b:Int) (rnextPowerOfT:Int) (fuel:Nat):g_slices_breakPatternsOrdered_int_L1_H N a b rnextPowerOfT (g_slices_breakPatternsOrdered_int_L1 N a b rnextPowerOfT fuel):=by
 induction fuel with
 | zero=>intro _ _ _ r h;rw [g_slices_breakPatternsOrdered_int_L1.eq_1] at h;cases h
 | succ fuel ih =>
  intro cap02 random idx r h E hE
  rw [g_slices_breakPatternsOrdered_int_L1.eq_2] at h
  refine Runs.nR hE 2 [] [] (kp [0,1,6,7,8,9,33]) (kq [0,1]) 130 (pc (show (4:Int)≠0 by decide) pn) ?_
  refine Runs.nC 0 33 h (fun hq3 h=>?_) (fun hq3 h=>?_)
  ·obtain ⟨rNext,hr2,h⟩:=bindSome h
   refine Runs.nR hE 4 [(0,⟨[1],false,(.atom (.int .u64 rNext.1)),[(0,vO 1 [(.atom (.int .u64 rNext.2))])],0,false,none⟩)] [] (kp [0,1,6,7,8,9,10]) (kq [0,1]) 226 (pc (g_slices_xorshift_Next_ok N random rNext hr2) pn) ?_
   refine Runs.nR hE 2 [] [] (kp [0,1,6,7,8,9,10,43]) (kq [0,1]) 274 pn ?_
   refine Runs.nC 0 43 h (fun hq4 h=>?_) (fun hq4 h=>?_)
   ·refine Runs.nR hE 0 [] [] (kp [0,1,6,7,8,9,10]) (kq [0,1]) 338 pn ?_
    exact Runs.nW hE 0 [] (kp [0,1,6,7,8,9,10]) (kq [0,1]) 2 pn (g_slices_breakPatternsOrdered_int_J2_ok N _ _ _ _ _ _ _ ih _ _ h E hE)
   ·exact Runs.nW hE 1 [] (kp [0,1,6,7,8,9,10]) (kq [0,1]) 2 pn (g_slices_breakPatternsOrdered_int_J2_ok N _ _ _ _ _ _ _ ih _ _ h E hE)
  ·obtain rfl:=Option.some.inj h
   exact Runs.nF hE 1 Try.f116 [] [] (kq [0]) 130 pn [] pn
theorem g_slices_breakPatternsOrdered_int_ok (N:Nat) (a:Int) (b:Int) (cap0:List Int) (r:(List Int)) (h:g_slices_breakPatternsOrdered_int N a b cap0=some r):Sound Try.prog 116 [(.os 0 0 cap0.length),(aI a),(aI b)] [(0,aO 1 cI 0 cap0)] 1 (.tup []) [(0,aO 1 cI 0 r)]:=by
 unfold g_slices_breakPatternsOrdered_int at h
 refine Sound.of_runs (fu:=Try.f116) (c:=C_61 1) (nt:=65) (by kernel_rfl) (by kernel_rfl) (by kernel_rfl) (by kernel_rfl) (fun hm=>absurd hm (by decide)) ?_
 intro E hE
 refine Runs.nR hE 1 [] [] (kp [0,1,6]) (kq [0]) 65 pn ?_
 refine Runs.nR hE 1 [] [] (kp [0,1,6,15]) (kq [0]) 97 pn ?_
 refine Runs.nC 0 15 h (fun hq2 h=>?_) (fun hq2 h=>?_)
 ·refine Runs.nR hE 1 [] [] (kp [0,1,6,7]) (kq [0,129]) 161 (pc o1 pn) ?_
  obtain ⟨rnextPowerOfT,hr,h⟩:=bindSome h
  refine Runs.nR hE 1 [(1,⟨[],true,(.atom (.int .u64 rnextPowerOfT)),[],0,false,none⟩)] [] (kp [0,1,6,7,8]) (kq [0,129]) 209 (pc (g_slices_nextPowerOfTwo_ok N (w64 (b - a)) rnextPowerOfT hr) pn) ?_
  refine Runs.nR hE 1 [] [] (kp [0,1,6,7,8,9]) (kq [0,129]) 321 (pc (show (4:Int)≠0 by decide) pn) ?_
  exact Runs.nW hE 2 [] (kp [0,1,6,7,8,9]) (kq [0] ++ [(1,.keep 129)]) 2 pn (g_slices_breakPatternsOrdered_int_L1_ok N _ _ _ N _ _ _ _ h E hE)
 ·obtain rfl:=Option.some.inj h
  exact Runs.nF hE 1 Try.f116 [] [] (kq [0]) 97 pn [] pn
noncomputable def C_67 (n:Nat):Code:=cat (bodyOf Try.f137) (pth n)
theorem g_slices_order2Ordered_int_ok (N:Nat) (data:List Int) (a:Int) (b:Int) (cap0:Int) (r:Int×Int×Int) (h:g_slices_order2Ordered_int N data a b cap0=some r):Sound Try.prog 137 [(encL cI 0 data),(aI a),(aI b),(.op 0 0 0)] [(0,vO 1 [(aI cap0)])] 1 (.tup [(aI r.1),(aI r.2.1)]) [(0,vO 1 [(aI r.2.2)])]:=by
 unfold g_slices_order2Ordered_int at h
 refine Sound.of_runs (fu:=Try.f137) (c:=C_67 1) (nt:=28) (by kernel_rfl) (by kernel_rfl) (by kernel_rfl) (by kernel_rfl) (fun hm=>absurd hm (by decide)) ?_
 intro E hE
 refine Runs.nR hE 1 [] [] (kp [0,1,2,3]) (kq [0]) 33 pn ?_
 obtain ⟨c,h⟩:=ifSome h
 obtain ⟨c2,h⟩:=ifSome h
 obtain ⟨rLess,hr,h⟩:=bindSome h
 refine Runs.nR hE 2 [(8,⟨[],true,(aB rLess),[],0,false,none⟩)] [] (kp [1,2,3,18]) (kq [0]) 177 (pc c (pc c2 (pc (g_cmp_Less_int_ok N (data.getD ((b).toNat) 0) (data.getD ((a).toNat) 0) rLess hr) pn))) ?_
 refine Runs.nC 0 18 h (fun hq2 h=>?_) (fun hq2 h=>?_)
 ·refine Runs.nR hE 1 [] [] (kp [1,2]) (kq [0]) 273 (pc o1 (pc o1 pn)) ?_
  refine Runs.nR hE 1 [] [] (kp [8,9]) (kq [0]) 337 pn ?_
  obtain rfl:=Option.some.inj h
  exact Runs.nT hE 0 Try.f137 [] (kp [8,9]) (kq [0]) 337 pn [] pn
 ·refine Runs.nR hE 2 [] [] (kp [8,9]) (kq [0]) 241 pn ?_
  obtain rfl:=Option.some.inj h
  exact Runs.nT hE 0 Try.f137 [] (kp [8,9]) (kq [0]) 241 pn [] pn
noncomputable def C_66 (n:Nat):Code:=cat (bodyOf Try.f134) (pth n)
theorem g_slices_medianOrdered_int_ok (N:Nat) (data:List Int) (a:Int) (b:Int) (c:Int) (cap0:Int) (r:Int×Int) (h:g_slices_medianOrdered_int N data a b c cap0=some r):Sound Try.prog 134 [(encL cI 0 data),(aI a),(aI b),(aI c),(.op 0 0 0)] [(0,vO 1 [(aI cap0)])] 1 (aI r.1) [(0,vO 1 [(aI r.2)])]:=by
 unfold g_slices_medianOrdered_int at h
 refine Sound.of_runs (fu:=Try.f134) (c:=C_66 1) (nt:=36) (by kernel_rfl) (by kernel_rfl) (by kernel_rfl) (by kernel_rfl) (fun hm=>absurd hm (by decide)) ?_
 intro E hE
 refine Runs.nR hE 1 [] [] (kp [0,1,2,3,4]) (kq [0]) 17 pn ?_
 obtain ⟨rorder2Ordere,hr,h⟩:=bindSome h
 refine Runs.nR hE 1 [(4,⟨[0],false,(.tup [(aI rorder2Ordere.1),(aI rorder2Ordere.2.1)]),[(0,vO 1 [(aI rorder2Ordere.2.2)])],0,false,none⟩)] [] (kp [0,1,2,3,4]) (kq [0]) 177 (pc (g_slices_order2Ordered_int_ok N data a b cap0 rorder2Ordere hr) pn) ?_
 obtain ⟨rorder2Ordere2,hr2,h⟩:=bindSome h
 refine Runs.nR hE 1 [(4,⟨[0],false,(.tup [(aI rorder2Ordere2.1),(aI rorder2Ordere2.2.1)]),[(0,vO 1 [(aI rorder2Ordere2.2.2)])],0,false,none⟩)] [] (kp [0,1,2,4]) (kq [0]) 337 (pc (g_slices_order2Ordered_int_ok N data rorder2Ordere.2.1 c rorder2Ordere.2.2 rorder2Ordere2 hr2) pn) ?_
 obtain ⟨rorder2Ordere3,hr3,h⟩:=bindSome h
 refine Runs.nR hE 1 [(4,⟨[0],false,(.tup [(aI rorder2Ordere3.1),(aI rorder2Ordere3.2.1)]),[(0,vO 1 [(aI rorder2Ordere3.2.2)])],0,false,none⟩)] [] (kp [2]) (kq [0]) 497 (pc (g_slices_order2Ordered_int_ok N data rorder2Ordere.1 rorder2Ordere2.1 rorder2Ordere2.2.2 rorder2Ordere3 hr3) pn) ?_
 refine Runs.nR hE 1 [] [] (kp [10]) (kq [0]) 529 pn ?_
 obtain rfl:=Option.some.inj h
 exact Runs.nT hE 0 Try.f134 [] (kp [10]) (kq [0]) 529 pn [] pn
noncomputable def C_65 (n:Nat):Code:=cat (bodyOf Try.f133) (pth n)
theorem g_slices_medianAdjacentOrdered_int_ok (N:Nat) (data:List Int) (a:Int) (cap0:Int) (r:Int×Int) (h:g_slices_medianAdjacentOrdered_int N data a cap0=some r):Sound Try.prog 133 [(encL cI 0 data),(aI a),(.op 0 0 0)] [(0,vO 1 [(aI cap0)])] 1 (aI r.1) [(0,vO 1 [(aI r.2)])]:=by
 unfold g_slices_medianAdjacentOrdered_int at h
 refine Sound.of_runs (fu:=Try.f133) (c:=C_65 1) (nt:=15) (by kernel_rfl) (by kernel_rfl) (by kernel_rfl) (by kernel_rfl) (fun hm=>absurd hm (by decide)) ?_
 intro E hE
 refine Runs.nR hE 1 [] [] (kp [0,1,2]) (kq [0]) 17 pn ?_
 obtain ⟨rmedianOrdere,hr,h⟩:=bindSome h
 refine Runs.nR hE 1 [(7,⟨[0],false,(aI rmedianOrdere.1),[(0,vO 1 [(aI rmedianOrdere.2)])],0,false,none⟩)] [] (kp [6]) (kq [0]) 161 (pc (g_slices_medianOrdered_int_ok N data (w64 (a - 1)) a (w64 (a+1)) cap0 rmedianOrdere hr) pn) ?_
 obtain rfl:=Option.some.inj h
 exact Runs.nT hE 0 Try.f133 [] (kp [6]) (kq [0]) 161 pn [] pn
noncomputable def C_64 (n:Nat):Code:=cat (bodyOf Try.f117) (pth n)
def g_slices_choosePivotOrdered_int_J1_H (N:Nat) (data:List Int) (K:Int→Int→Int→Int→Option (Int×Int)):Prop:=∀ (swaps:Int) (i:Int) (j:Int) (k:Int) (r:Int×Int),K swaps i j k=some r→∀ E,EnvOk E 0→Runs Try.prog E 117 57 (SPost E [] (.tup [(aI r.1),(aI r.2)])) [.code (C_64 2037),.code (C_64 255)] ⟨[(0,(encL cI 0 data)),(9,(.op 0 0 0)),(10,(aI i)),(11,(aI j)),(12,(aI k))],[(0,vO 1 [(aI swaps)])],1⟩
def g_slices_choosePivotOrdered_int_J2_H (N:Nat) (K:Int→Int→Option (Int×Int)):Prop:=∀ (swaps2:Int) (j2:Int) (r:Int×Int),K swaps2 j2=some r→∀ E,EnvOk E 0→Runs Try.prog E 117 57 (SPost E [] (.tup [(aI r.1),(aI r.2)])) [.code (C_64 510),.code (C_64 511)] ⟨[(9,(.op 0 0 0)),(11,(aI j2))],[(0,vO 1 [(aI swaps2)])],1⟩
theorem g_slices_choosePivotOrdered_int_J2_ok (N:Nat):g_slices_choosePivotOrdered_int_J2_H N (g_slices_choosePivotOrdered_int_J2 N):=by
 intro swaps2 j2 r h E hE
 unfold g_slices_choosePivotOrdered_int_J2 at h
 refine Runs.nR hE 0 [] [] (kp [11,49]) [] 17 (pc o1 pn) ?_
 refine Runs.nR hE 2 [] [] (kp [11,49,51]) [] 49 pn ?_
 refine Runs.nC 0 51 h (fun hq4 h=>?_) (fun hq4 h=>?_)
 ·refine Runs.nR hE 1 [] [] (kp [6,7]) [] 97 pn ?_
  obtain rfl:=Option.some.inj h
  exact Runs.nT hE 0 Try.f117 [] (kp [6,7]) [] 97 pn [] pn
 ·refine Runs.nR hE 1 [] [] (kp [11,54]) [] 81 pn ?_
  refine Runs.nC 0 54 h (fun hq5 h=>?_) (fun hq5 h=>?_)
  ·refine Runs.nR hE 1 [] [] (kp [6,7]) [] 129 pn ?_
   obtain rfl:=Option.some.inj h
   exact Runs.nT hE 0 Try.f117 [] (kp [6,7]) [] 129 pn [] pn
  ·refine Runs.nR hE 1 [] [] (kp [6,7]) [] 129 pn ?_
   obtain rfl:=Option.some.inj h
   exact Runs.nT hE 0 Try.f117 [] (kp [6,7]) [] 129 pn [] pn
theorem g_slices_choosePivotOrdered_int_J1_ok (N:Nat) (data:List Int):g_slices_choosePivotOrdered_int_J1_H N data (g_slices_choosePivotOrdered_int_J1 N data):=by
 intro swaps i j k r h E hE
 unfold g_slices_choosePivotOrdered_int_J1 at h
 obtain ⟨rmedianOrdere,hr4,h⟩:=bindSome h
 refine Runs.nR hE 0 [(4,⟨[0],false,(aI rmedianOrdere.1),[(0,vO 1 [(aI rmedianOrdere.2)])],0,false,none⟩)] [] (kp [9,11]) (kq [0]) 97 (pc (g_slices_medianOrdered_int_ok N data i j k swaps rmedianOrdere hr4) pn) ?_
 exact Runs.nW hE 1 [] (kp [9,11]) (kq [0]) 1 pn (g_slices_choosePivotOrdered_int_J2_ok N _ _ _ h E hE)
theorem g_slices_choosePivotOrdered_int_ok (N:Nat) (data:List Int) (a:Int) (b:Int) (r:Int×Int) (h:g_slices_choosePivotOrdered_int N data a b=some r):Sound Try.prog 117 [(encL cI 0 data),(aI a),(aI b)] [] 0 (.tup [(aI r.1),(aI r.2)]) []:=by
 unfold g_slices_choosePivotOrdered_int at h
 refine Sound.of_runs (fu:=Try.f117) (c:=C_64 1) (nt:=57) (by kernel_rfl) (by kernel_rfl) (by kernel_rfl) (by kernel_rfl) (fun hm=>rfl) ?_
 intro E hE
 refine Runs.nR hE 1 [] [] (kp [0,1,2]) [] 32 pn ?_
 refine Runs.nR hE 1 [] [] (kp [0,1,8]) [] 96 pn ?_
 refine Runs.nR hE 1 [] [] (kp [0,1,8,9]) (kq [96]) 112 pn ?_
 refine Runs.nR hE 1 [] [] (kp [0,1,8,9,10]) (kq [96]) 208 (pc (show (4:Int)≠0 by decide) pn) ?_
 refine Runs.nR hE 1 [] [] (kp [0,1,8,9,10,11]) (kq [96]) 304 (pc (show (4:Int)≠0 by decide) pn) ?_
 refine Runs.nR hE 1 [] [] (kp [0,8,9,10,11,12]) (kq [96]) 400 (pc (show (4:Int)≠0 by decide) pn) ?_
 refine Runs.nR hE 2 [] [] (kp [0,8,9,10,11,12,32]) (kq [96]) 432 pn ?_
 refine Runs.nC 0 32 h (fun hq2 h=>?_) (fun hq2 h=>?_)
 ·refine Runs.nR hE 2 [] [] (kp [0,9,10,11,12,34]) (kq [96]) 464 pn ?_
  refine Runs.nC 0 34 h (fun hq3 h=>?_) (fun hq3 h=>?_)
  ·obtain ⟨rmedianAdjace,hr,h⟩:=bindSome h
   refine Runs.nR hE 1 [(2,⟨[96],false,(aI rmedianAdjace.1),[(0,vO 1 [(aI rmedianAdjace.2)])],0,false,none⟩)] [] (kp [0,9,10,11,12]) (kq [96]) 528 (pc (g_slices_medianAdjacentOrdered_int_ok N data (w64 (a+(w64 ((w64 ((w64 (b - a)).tdiv 4)) * 1)))) 0 rmedianAdjace hr) pn) ?_
   obtain ⟨rmedianAdjace2,hr2,h⟩:=bindSome h
   refine Runs.nR hE 1 [(2,⟨[96],false,(aI rmedianAdjace2.1),[(0,vO 1 [(aI rmedianAdjace2.2)])],0,false,none⟩)] [] (kp [0,9,10,11,12]) (kq [96]) 592 (pc (g_slices_medianAdjacentOrdered_int_ok N data (w64 (a+(w64 ((w64 ((w64 (b - a)).tdiv 4)) * 2)))) rmedianAdjace.2 rmedianAdjace2 hr2) pn) ?_
   obtain ⟨rmedianAdjace3,hr3,h⟩:=bindSome h
   refine Runs.nR hE 0 [(2,⟨[96],false,(aI rmedianAdjace3.1),[(0,vO 1 [(aI rmedianAdjace3.2)])],0,false,none⟩)] [] (kp [0,9,10,11,12]) (kq [96]) 656 (pc (g_slices_medianAdjacentOrdered_int_ok N data (w64 (a+(w64 ((w64 ((w64 (b - a)).tdiv 4)) * 3)))) rmedianAdjace2.2 rmedianAdjace3 hr3) pn) ?_
   exact Runs.nW hE 0 [] (kp [0,9,10,11,12]) [(0,.keep 96)] 1 pn (g_slices_choosePivotOrdered_int_J1_ok N _ _ _ _ _ _ h E hE)
  ·exact Runs.nW hE 1 [] (kp [0,9,10,11,12]) [(0,.keep 96)] 1 pn (g_slices_choosePivotOrdered_int_J1_ok N _ _ _ _ _ _ h E hE)
 ·exact Runs.nW hE 2 [] (kp [9,11]) [(0,.keep 96)] 1 pn (g_slices_choosePivotOrdered_int_J2_ok N _ _ _ h E hE)
noncomputable def C_68 (n:Nat):Code:=cat (bodyOf Try.f118) (pth n)
def g_slices_reverseRangeOrdered_int_L1_H (N:Nat) (K:(List Int)→Int→Int→Option ((List Int))):Prop:=∀ (cap02:List Int) (i:Int) (j:Int) (r:(List Int)),K cap02 i j=some r→∀ E,EnvOk E 1→Runs Try.prog E 118 32 (SPost E [(0,aO 1 cI 0 r)] (.tup [])) [.code (C_68 28),.inLoop (C_68 28),.inBlock 0] ⟨[(0,(.os 0 0 cap02.length)),(6,(aI i)),(7,(aI j))],[(0,aO 1 cI 0 cap02)],1⟩
theorem g_slices_reverseRangeOrdered_int_L1_ok (N:Nat) (fuel:Nat):g_slices_reverseRangeOrdered_int_L1_H N (g_slices_reverseRangeOrdered_int_L1 N fuel):=by
 induction fuel with
 | zero=>intro _ _ _ r h;rw [g_slices_reverseRangeOrdered_int_L1.eq_1] at h;cases h
 | succ fuel ih =>
  intro cap02 i j r h E hE
  rw [g_slices_reverseRangeOrdered_int_L1.eq_2] at h
  refine Runs.nR hE 2 [] [] (kp [0,6,7,13]) (kq [0]) 49 pn ?_
  refine Runs.nC 0 13 h (fun hq2 h=>?_) (fun hq2 h=>?_)
  ·obtain ⟨c,h⟩:=ifSome h
   obtain ⟨c2,h⟩:=ifSome h
   refine Runs.nR hE 3 [] [] ([(0,.osl (((cap02.set ((i).toNat) (cap02.getD ((j).toNat) 0)).set ((j).toNat) (cap02.getD ((i).toNat) 0)).length))] ++ kp [6,7]) [(0,.arr 0 (((cap02.set ((i).toNat) (cap02.getD ((j).toNat) 0)).set ((j).toNat) (cap02.getD ((i).toNat) 0)).length) (fun zi=>cI (((cap02.set ((i).toNat) (cap02.getD ((j).toNat) 0)).set ((j).toNat) (cap02.getD ((i).toNat) 0)).getD zi 0)))] 305 (pc c (pc (ltOf c) (pc c2 (pc (ltOf c2) (pc c2 (pc (ltOf c2) (pc c (pc (ltOf c) (pc (show cap02.length=((cap02.set ((i).toNat) (cap02.getD ((j).toNat) 0)).set ((j).toNat) (cap02.getD ((i).toNat) 0)).length from (len_set_raw (len_set_raw rfl))) (pc (show cap02.length=((cap02.set ((i).toNat) (cap02.getD ((j).toNat) 0)).set ((j).toNat) (cap02.getD ((i).toNat) 0)).length from (len_set_raw (len_set_raw rfl))) (pc (show ∀ zi,zi < ((cap02.set ((i).toNat) (cap02.getD ((j).toNat) 0)).set ((j).toNat) (cap02.getD ((i).toNat) 0)).length→(fun zi=>cI (((cap02.set ((i).toNat) (cap02.getD ((j).toNat) 0)).set ((j).toNat) (cap02.getD ((i).toNat) 0)).getD zi 0)) zi=((fun zm=>if zm=(j).toNat then [(aI (cap02.getD ((i).toNat) 0))] else ((fun zm=>if zm=(i).toNat then [(aI (cap02.getD ((j).toNat) 0))] else (fun zi=>cI (cap02.getD zi 0)) zm)) zm)) zi from (get_set_raw cI 0 (cap02.set ((i).toNat) (cap02.getD ((j).toNat) 0)) ((j).toNat) (cap02.getD ((i).toNat) 0) (get_set_raw cI 0 cap02 ((i).toNat) (cap02.getD ((j).toNat) 0) (fun _ _=>rfl)))) pn))))))))))) ?_
   refine Runs.nR hE 1 [] [] (kp [0,6,7]) (kq [0]) 353 pn ?_
   refine Runs.nR hE 0 [] [] (kp [0,6,7]) (kq [0]) 401 pn ?_
   exact Runs.nW hE 2 [] (kp [0,6,7]) (kq [0]) 1 pn (ih _ _ _ _ h E hE)
  ·obtain rfl:=Option.some.inj h
   exact Runs.nF hE 1 Try.f118 [] [] (kq [0]) 49 pn [] pn
theorem g_slices_reverseRangeOrdered_int_ok (N:Nat) (a:Int) (b:Int) (cap0:List Int) (r:(List Int)) (h:g_slices_reverseRangeOrdered_int N a b cap0=some r):Sound Try.prog 118 [(.os 0 0 cap0.length),(aI a),(aI b)] [(0,aO 1 cI 0 cap0)] 1 (.tup []) [(0,aO 1 cI 0 r)]:=by
 unfold g_slices_reverseRangeOrdered_int at h
 refine Sound.of_runs (fu:=Try.f118) (c:=C_68 1) (nt:=32) (by kernel_rfl) (by kernel_rfl) (by kernel_rfl) (by kernel_rfl) (fun hm=>absurd hm (by decide)) ?_
 intro E hE
 refine Runs.nR hE 1 [] [] (kp [0,2,6]) (kq [0]) 33 pn ?_
 refine Runs.nR hE 1 [] [] (kp [0,6,7]) (kq [0]) 81 pn ?_
 exact Runs.nW hE 2 [] (kp [0,6,7]) (kq [0]) 1 pn (g_slices_reverseRangeOrdered_int_L1_ok N N _ _ _ _ h E hE)
noncomputable def C_69 (n:Nat):Code:=cat (bodyOf Try.f119) (pth n)
def g_slices_partialInsertionSortOrdered_int_L1_H (N:Nat) (a:Int) (b:Int) (K:(List Int)→Int→Int→Option (Bool×(List Int))):Prop:=∀ (cap02:List Int) (i:Int) (j:Int) (r:Bool×(List Int)),K cap02 i j=some r→∀ E,EnvOk E 1→Runs Try.prog E 119 133 (SPost E [(0,aO 1 cI 0 r.2)] (aB r.1)) [.code (C_69 116),.inLoop (C_69 116),.inBlock 0,.code (C_69 15)] ⟨[(0,(.os 0 0 cap02.length)),(1,(aI a)),(2,(aI b)),(7,(aI i)),(8,(aI j))],[(0,aO 1 cI 0 cap02)],1⟩
def g_slices_partialInsertionSortOrdered_int_L2_H (N:Nat) (a:Int) (b:Int) (cap02:List Int) (j:Int) (K:Int→Option (Bool×(List Int))):Prop:=∀ (i2:Int) (r:Bool×(List Int)),K i2=some r→∀ E,EnvOk E 1→Runs Try.prog E 119 133 (SPost E [(0,aO 1 cI 0 r.2)] (aB r.1)) [.code (C_69 7456),.inLoop (C_69 7456),.inBlock 2,.code (C_69 1865),.inBlock 1,.code (C_69 467),.inLoop (C_69 116),.inBlock 0,.code (C_69 15)] ⟨[(0,(.os 0 0 cap02.length)),(1,(aI a)),(2,(aI b)),(7,(aI i2)),(8,(aI j))],[(0,aO 1 cI 0 cap02)],1⟩
def g_slices_partialInsertionSortOrdered_int_L3_H (N:Nat) (a:Int) (b:Int) (j:Int) (i2:Int) (K:(List Int)→Int→Option (Bool×(List Int))):Prop:=∀ (cap03:List Int) (j2:Int) (r:Bool×(List Int)),K cap03 j2=some r→∀ E,EnvOk E 1→Runs Try.prog E 119 133 (SPost E [(0,aO 1 cI 0 r.2)] (aB r.1)) [.code (C_69 955348),.inLoop (C_69 955348),.inBlock 4,.code (C_69 29855),.inBlock 1,.code (C_69 467),.inLoop (C_69 116),.inBlock 0,.code (C_69 15)] ⟨[(0,(.os 0 0 cap03.length)),(1,(aI a)),(2,(aI b)),(7,(aI i2)),(8,(aI j)),(9,(aI j2))],[(0,aO 1 cI 0 cap03)],1⟩
def g_slices_partialInsertionSortOrdered_int_J4_H (N:Nat) (a:Int) (b:Int) (j:Int) (i2:Int) (K:(List Int)→Option (Bool×(List Int))):Prop:=∀ (cap04:List Int) (r:Bool×(List Int)),K cap04=some r→∀ E,EnvOk E 1→Runs Try.prog E 119 133 (SPost E [(0,aO 1 cI 0 r.2)] (aB r.1)) [.code (C_69 59710),.code (C_69 59711),.inBlock 1,.code (C_69 467),.inLoop (C_69 116),.inBlock 0,.code (C_69 15)] ⟨[(0,(.os 0 0 cap04.length)),(1,(aI a)),(2,(aI b)),(7,(aI i2)),(8,(aI j))],[(0,aO 1 cI 0 cap04)],1⟩
def g_slices_partialInsertionSortOrdered_int_L5_H (N:Nat) (a:Int) (b:Int) (j:Int) (i2:Int) (K:(List Int)→Int→Option (Bool×(List Int))):Prop:=∀ (cap05:List Int) (j3:Int) (r:Bool×(List Int)),K cap05 j3=some r→∀ E,EnvOk E 1→Runs Try.prog E 119 133 (SPost E [(0,aO 1 cI 0 r.2)] (aB r.1)) [.code (C_69 955380),.inLoop (C_69 955380),.inBlock 6,.inBlock 1,.code (C_69 467),.inLoop (C_69 116),.inBlock 0,.code (C_69 15)] ⟨[(0,(.os 0 0 cap05.length)),(1,(aI a)),(2,(aI b)),(7,(aI i2)),(8,(aI j)),(10,(aI j3))],[(0,aO 1 cI 0 cap05)],1⟩
def g_slices_partialInsertionSortOrdered_int_J6_H (N:Nat) (a:Int) (b:Int) (j:Int) (i2:Int) (K:(List Int)→Option (Bool×(List Int))):Prop:=∀ (cap06:List Int) (r:Bool×(List Int)),K cap06=some r→∀ E,EnvOk E 1→Runs Try.prog E 119 133 (SPost E [(0,aO 1 cI 0 r.2)] (aB r.1)) [.code (C_69 467),.inLoop (C_69 116),.inBlock 0,.code (C_69 15)] ⟨[(0,(.os 0 0 cap06.length)),(1,(aI a)),(2,(aI b)),(7,(aI i2)),(8,(aI j))],[(0,aO 1 cI 0 cap06)],1⟩
theorem g_slices_partialInsertionSortOrdered_int_J6_ok (N:Nat) (a:Int) (b:Int) (j:Int) (i2:Int) (K_g_slices_partialInsertionSortOrdered_int_L1:(List Int)→Int→Int→Option (Bool×(List Int))) (hK_g_slices_partialInsertionSortOrdered_int_L1:g_slices_partialInsertionSortOrdered_int_L1_H N a b K_g_slices_partialInsertionSortOrdered_int_L1):g_slices_partialInsertionSortOrdered_int_J6_H N a b j i2 (g_slices_partialInsertionSortOrdered_int_J6 N a b j i2 K_g_slices_partialInsertionSortOrdered_int_L1):=by
 intro cap06 r h E hE
 unfold g_slices_partialInsertionSortOrdered_int_J6 at h
 refine Runs.nR hE 0 [] [] (kp [0,1,2,7,8]) (kq [0]) 49 pn ?_
 exact Runs.nW hE 1 [] (kp [0,1,2,7,8]) (kq [0]) 1 pn (hK_g_slices_partialInsertionSortOrdered_int_L1 _ _ _ _ h E hE)
theorem g_slices_partialInsertionSortOrdered_int_L5_ok (N:Nat) (a:Int) (b:Int) (j:Int) (i2:Int) (K_g_slices_partialInsertionSortOrdered_int_L1:(List Int)→Int→Int→Option (Bool×(List Int))) (hK_g_slices_partialInsertionSortOrdered_int_L1:g_slices_partialInsertionSortOrdered_int_L1_H N a b K_g_slices_partialInsertionSortOrdered_int_L1) (fuel:Nat):g_slices_partialInsertionSortOrdered_int_L5_H N a b j i2 (g_slices_partialInsertionSortOrdered_int_L5 N a b j i2 K_g_slices_partialInsertionSortOrdered_int_L1 fuel):=by
 induction fuel with
 | zero=>intro _ _ r h;rw [g_slices_partialInsertionSortOrdered_int_L5.eq_1] at h;cases h
 | succ fuel ih =>
  intro cap05 j3 r h E hE
  rw [g_slices_partialInsertionSortOrdered_int_L5.eq_2] at h
  refine Runs.nR hE 2 [] [] (kp [0,1,2,7,8,10,103]) (kq [0]) 49 pn ?_
  refine Runs.nC 0 103 h (fun hq10 h=>?_) (fun hq10 h=>?_)
  ·obtain ⟨c7,h⟩:=ifSome h
   obtain ⟨c8,h⟩:=ifSome h
   obtain ⟨rLess3,hr3,h⟩:=bindSome h
   refine Runs.nR hE 5 [(9,⟨[],true,(aB rLess3),[],0,false,none⟩)] [] (kp [0,1,2,7,8,10,116]) (kq [0]) 225 (pc c7 (pc (ltOf c7) (pc c8 (pc (ltOf c8) (pc (g_cmp_Less_int_ok N (cap05.getD ((j3).toNat) 0) (cap05.getD ((w64 (j3 - 1)).toNat) 0) rLess3 hr3) pn))))) ?_
   refine Runs.nC 0 116 h (fun hq11 h=>?_) (fun hq11 h=>?_)
   ·exact Runs.nW hE 2 [] (kp [0,1,2,7,8]) (kq [0]) 1 pn (g_slices_partialInsertionSortOrdered_int_J6_ok N _ _ _ _ _ hK_g_slices_partialInsertionSortOrdered_int_L1 _ _ h E hE)
   ·refine Runs.nR hE 1 [] [] ([(0,.osl (((cap05.set ((j3).toNat) (cap05.getD ((w64 (j3 - 1)).toNat) 0)).set ((w64 (j3 - 1)).toNat) (cap05.getD ((j3).toNat) 0)).length))] ++ kp [1,2,7,8,10]) [(0,.arr 0 (((cap05.set ((j3).toNat) (cap05.getD ((w64 (j3 - 1)).toNat) 0)).set ((w64 (j3 - 1)).toNat) (cap05.getD ((j3).toNat) 0)).length) (fun zi=>cI (((cap05.set ((j3).toNat) (cap05.getD ((w64 (j3 - 1)).toNat) 0)).set ((w64 (j3 - 1)).toNat) (cap05.getD ((j3).toNat) 0)).getD zi 0)))] 513 (pc c8 (pc (ltOf c8) (pc c7 (pc (ltOf c7) (pc c7 (pc (ltOf c7) (pc c8 (pc (ltOf c8) (pc (show cap05.length=((cap05.set ((j3).toNat) (cap05.getD ((w64 (j3 - 1)).toNat) 0)).set ((w64 (j3 - 1)).toNat) (cap05.getD ((j3).toNat) 0)).length from (len_set_raw (len_set_raw rfl))) (pc (show cap05.length=((cap05.set ((j3).toNat) (cap05.getD ((w64 (j3 - 1)).toNat) 0)).set ((w64 (j3 - 1)).toNat) (cap05.getD ((j3).toNat) 0)).length from (len_set_raw (len_set_raw rfl))) (pc (show ∀ zi,zi < ((cap05.set ((j3).toNat) (cap05.getD ((w64 (j3 - 1)).toNat) 0)).set ((w64 (j3 - 1)).toNat) (cap05.getD ((j3).toNat) 0)).length→(fun zi=>cI (((cap05.set ((j3).toNat) (cap05.getD ((w64 (j3 - 1)).toNat) 0)).set ((w64 (j3 - 1)).toNat) (cap05.getD ((j3).toNat) 0)).getD zi 0)) zi=((fun zm=>if zm=(w64 (j3 - 1)).toNat then [(aI (cap05.getD ((j3).toNat) 0))] else ((fun zm=>if zm=(j3).toNat then [(aI (cap05.getD ((w64 (j3 - 1)).toNat) 0))] else (fun zi=>cI (cap05.getD zi 0)) zm)) zm)) zi from (get_set_raw cI 0 (cap05.set ((j3).toNat) (cap05.getD ((w64 (j3 - 1)).toNat) 0)) ((w64 (j3 - 1)).toNat) (cap05.getD ((j3).toNat) 0) (get_set_raw cI 0 cap05 ((j3).toNat) (cap05.getD ((w64 (j3 - 1)).toNat) 0) (fun _ _=>rfl)))) pn))))))))))) ?_
    refine Runs.nR hE 1 [] [] (kp [0,1,2,7,8,10]) (kq [0]) 561 pn ?_
    exact Runs.nW hE 1 [] (kp [0,1,2,7,8,10]) (kq [0]) 1 pn (ih _ _ _ h E hE)
  ·exact Runs.nW hE 2 [] (kp [0,1,2,7,8]) (kq [0]) 1 pn (g_slices_partialInsertionSortOrdered_int_J6_ok N _ _ _ _ _ hK_g_slices_partialInsertionSortOrdered_int_L1 _ _ h E hE)
theorem g_slices_partialInsertionSortOrdered_int_J4_ok (N:Nat) (a:Int) (b:Int) (j:Int) (i2:Int) (K_g_slices_partialInsertionSortOrdered_int_L1:(List Int)→Int→Int→Option (Bool×(List Int))) (hK_g_slices_partialInsertionSortOrdered_int_L1:g_slices_partialInsertionSortOrdered_int_L1_H N a b K_g_slices_partialInsertionSortOrdered_int_L1):g_slices_partialInsertionSortOrdered_int_J4_H N a b j i2 (g_slices_partialInsertionSortOrdered_int_J4 N a b j i2 K_g_slices_partialInsertionSortOrdered_int_L1):=by
 intro cap04 r h E hE
 unfold g_slices_partialInsertionSortOrdered_int_J4 at h
 refine Runs.nR hE 0 [] [] (kp [0,1,2,7,8,98]) (kq [0]) 65 pn ?_
 refine Runs.nC 0 98 h (fun hq9 h=>?_) (fun hq9 h=>?_)
 ·refine Runs.nR hE 1 [] [] (kp [0,1,2,7,8,10]) (kq [0]) 113 pn ?_
  exact Runs.nW hE 2 [] (kp [0,1,2,7,8,10]) (kq [0]) 1 pn (g_slices_partialInsertionSortOrdered_int_L5_ok N _ _ _ _ _ hK_g_slices_partialInsertionSortOrdered_int_L1 N _ _ _ h E hE)
 ·exact Runs.nW hE 2 [] (kp [0,1,2,7,8]) (kq [0]) 1 pn (g_slices_partialInsertionSortOrdered_int_J6_ok N _ _ _ _ _ hK_g_slices_partialInsertionSortOrdered_int_L1 _ _ h E hE)
theorem g_slices_partialInsertionSortOrdered_int_L3_ok (N:Nat) (a:Int) (b:Int) (j:Int) (i2:Int) (K_g_slices_partialInsertionSortOrdered_int_L1:(List Int)→Int→Int→Option (Bool×(List Int))) (hK_g_slices_partialInsertionSortOrdered_int_L1:g_slices_partialInsertionSortOrdered_int_L1_H N a b K_g_slices_partialInsertionSortOrdered_int_L1) (fuel:Nat):g_slices_partialInsertionSortOrdered_int_L3_H N a b j i2 (g_slices_partialInsertionSortOrdered_int_L3 N a b j i2 K_g_slices_partialInsertionSortOrdered_int_L1 fuel):=by
 induction fuel with
 | zero=>intro _ _ r h;rw [g_slices_partialInsertionSortOrdered_int_L3.eq_1] at h;cases h
 | succ fuel ih =>
  intro cap03 j2 r h E hE
  rw [g_slices_partialInsertionSortOrdered_int_L3.eq_2] at h
  refine Runs.nR hE 2 [] [] (kp [0,1,2,7,8,9,65]) (kq [0]) 33 pn ?_
  refine Runs.nC 0 65 h (fun hq7 h=>?_) (fun hq7 h=>?_)
  ·obtain ⟨c5,h⟩:=ifSome h
   obtain ⟨c6,h⟩:=ifSome h
   obtain ⟨rLess2,hr2,h⟩:=bindSome h
   refine Runs.nR hE 5 [(9,⟨[],true,(aB rLess2),[],0,false,none⟩)] [] (kp [0,1,2,7,8,9,78]) (kq [0]) 209 (pc c5 (pc (ltOf c5) (pc c6 (pc (ltOf c6) (pc (g_cmp_Less_int_ok N (cap03.getD ((j2).toNat) 0) (cap03.getD ((w64 (j2 - 1)).toNat) 0) rLess2 hr2) pn))))) ?_
   refine Runs.nC 0 78 h (fun hq8 h=>?_) (fun hq8 h=>?_)
   ·exact Runs.nW hE 2 [] (kp [0,1,2,7,8]) (kq [0]) 1 pn (g_slices_partialInsertionSortOrdered_int_J4_ok N _ _ _ _ _ hK_g_slices_partialInsertionSortOrdered_int_L1 _ _ h E hE)
   ·refine Runs.nR hE 1 [] [] ([(0,.osl (((cap03.set ((j2).toNat) (cap03.getD ((w64 (j2 - 1)).toNat) 0)).set ((w64 (j2 - 1)).toNat) (cap03.getD ((j2).toNat) 0)).length))] ++ kp [1,2,7,8,9]) [(0,.arr 0 (((cap03.set ((j2).toNat) (cap03.getD ((w64 (j2 - 1)).toNat) 0)).set ((w64 (j2 - 1)).toNat) (cap03.getD ((j2).toNat) 0)).length) (fun zi=>cI (((cap03.set ((j2).toNat) (cap03.getD ((w64 (j2 - 1)).toNat) 0)).set ((w64 (j2 - 1)).toNat) (cap03.getD ((j2).toNat) 0)).getD zi 0)))] 497 (pc c6 (pc (ltOf c6) (pc c5 (pc (ltOf c5) (pc c5 (pc (ltOf c5) (pc c6 (pc (ltOf c6) (pc (show cap03.length=((cap03.set ((j2).toNat) (cap03.getD ((w64 (j2 - 1)).toNat) 0)).set ((w64 (j2 - 1)).toNat) (cap03.getD ((j2).toNat) 0)).length from (len_set_raw (len_set_raw rfl))) (pc (show cap03.length=((cap03.set ((j2).toNat) (cap03.getD ((w64 (j2 - 1)).toNat) 0)).set ((w64 (j2 - 1)).toNat) (cap03.getD ((j2).toNat) 0)).length from (len_set_raw (len_set_raw rfl))) (pc (show ∀ zi,zi < ((cap03.set ((j2).toNat) (cap03.getD ((w64 (j2 - 1)).toNat) 0)).set ((w64 (j2 - 1)).toNat) (cap03.getD ((j2).toNat) 0)).length→(fun zi=>cI (((cap03.set ((j2).toNat) (cap03.getD ((w64 (j2 - 1)).toNat) 0)).set ((w64 (j2 - 1)).toNat) (cap03.getD ((j2).toNat) 0)).getD zi 0)) zi=((fun zm=>if zm=(w64 (j2 - 1)).toNat then [(aI (cap03.getD ((j2).toNat) 0))] else ((fun zm=>if zm=(j2).toNat then [(aI (cap03.getD ((w64 (j2 - 1)).toNat) 0))] else (fun zi=>cI (cap03.getD zi 0)) zm)) zm)) zi from (get_set_raw cI 0 (cap03.set ((j2).toNat) (cap03.getD ((w64 (j2 - 1)).toNat) 0)) ((w64 (j2 - 1)).toNat) (cap03.getD ((j2).toNat) 0) (get_set_raw cI 0 cap03 ((j2).toNat) (cap03.getD ((w64 (j2 - 1)).toNat) 0) (fun _ _=>rfl)))) pn))))))))))) ?_
    refine Runs.nR hE 1 [] [] (kp [0,1,2,7,8,9]) (kq [0]) 545 pn ?_
    exact Runs.nW hE 1 [] (kp [0,1,2,7,8,9]) (kq [0]) 1 pn (ih _ _ _ h E hE)
  ·exact Runs.nW hE 2 [] (kp [0,1,2,7,8]) (kq [0]) 1 pn (g_slices_partialInsertionSortOrdered_int_J4_ok N _ _ _ _ _ hK_g_slices_partialInsertionSortOrdered_int_L1 _ _ h E hE)
theorem g_slices_partialInsertionSortOrdered_int_L2_ok (N:Nat) (a:Int) (b:Int) (cap02:List Int) (j:Int) (K_g_slices_partialInsertionSortOrdered_int_L1:(List Int)→Int→Int→Option (Bool×(List Int))) (hK_g_slices_partialInsertionSortOrdered_int_L1:g_slices_partialInsertionSortOrdered_int_L1_H N a b K_g_slices_partialInsertionSortOrdered_int_L1) (fuel:Nat):g_slices_partialInsertionSortOrdered_int_L2_H N a b cap02 j (g_slices_partialInsertionSortOrdered_int_L2 N a b cap02 j K_g_slices_partialInsertionSortOrdered_int_L1 fuel):=by
 induction fuel with
 | zero=>intro _ r h;rw [g_slices_partialInsertionSortOrdered_int_L2.eq_1] at h;cases h
 | succ fuel ih =>
  intro i2 r h E hE
  rw [g_slices_partialInsertionSortOrdered_int_L2.eq_2] at h
  obtain ⟨c,h⟩:=ifSome h
  obtain ⟨c2,h⟩:=ifSome h
  obtain ⟨rLess,hr,h⟩:=bindSome h
  refine Runs.nR hE 2 [(13,⟨[],true,(aB rLess),[],0,false,none⟩)] [] (kp [0,1,2,7,8,32]) (kq [0]) 257 (pc (fun hg:(decide (i2 < b))=true=>(pc hg (pc hg (pc (c hg) pn)))) (pc (fun hg:(decide (i2 < b))=true=>(pc hg (pc (ltOf (c hg)) pn))) (pc (fun hg:(decide (i2 < b))=true=>(pc hg pn)) (pc (fun hg:(decide (i2 < b))=true=>(pc hg (pc hg (pc (c2 hg) pn)))) (pc (fun hg:(decide (i2 < b))=true=>(pc hg (pc (ltOf (c2 hg)) pn))) (pc (fun hg:(decide (i2 < b))=true=>(pc (g_cmp_Less_int_ok N (cap02.getD ((i2).toNat) 0) (cap02.getD ((w64 (i2 - 1)).toNat) 0) rLess (condT hr hg)) (pc hg (pc hg pn)))) (pc (fun hg:(decide (i2 < b))=true=>(pc hg pn)) (pc (fun hq:(decide (i2 < b))=true=>(pc hq pn)) pn)))))))) ?_
  refine Runs.nC 0 32 h (fun hq3 h=>?_) (fun hq3 h=>?_)
  ·refine Runs.nR hE 2 [] [] (kp [0,1,2,7,8]) (kq [0]) 305 pn ?_
   exact Runs.nW hE 2 [] (kp [0,1,2,7,8]) (kq [0]) 1 pn (ih _ _ h E hE)
  ·refine Runs.nR hE 3 [] [] (kp [0,1,2,7,8,37]) (kq [0]) 305 pn ?_
   refine Runs.nC 0 37 h (fun hq4 h=>?_) (fun hq4 h=>?_)
   ·refine Runs.nR hE 1 [] [] (kp [6]) (kq [0]) 321 pn ?_
    obtain rfl:=Option.some.inj h
    exact Runs.nT hE 0 Try.f119 [] (kp [6]) (kq [0]) 321 pn [] pn
   ·refine Runs.nR hE 3 [] [] (kp [0,1,2,7,8,41]) (kq [0]) 369 pn ?_
    refine Runs.nC 0 41 h (fun hq5 h=>?_) (fun hq5 h=>?_)
    ·refine Runs.nR hE 1 [] [] (kp [6]) (kq [0]) 385 pn ?_
     obtain rfl:=Option.some.inj h
     exact Runs.nT hE 0 Try.f119 [] (kp [6]) (kq [0]) 385 pn [] pn
    ·obtain ⟨c3,h⟩:=ifSome h
     obtain ⟨c4,h⟩:=ifSome h
     refine Runs.nR hE 2 [] [] ([(0,.osl (((cap02.set ((i2).toNat) (cap02.getD ((w64 (i2 - 1)).toNat) 0)).set ((w64 (i2 - 1)).toNat) (cap02.getD ((i2).toNat) 0)).length))] ++ kp [1,2,7,8]) [(0,.arr 0 (((cap02.set ((i2).toNat) (cap02.getD ((w64 (i2 - 1)).toNat) 0)).set ((w64 (i2 - 1)).toNat) (cap02.getD ((i2).toNat) 0)).length) (fun zi=>cI (((cap02.set ((i2).toNat) (cap02.getD ((w64 (i2 - 1)).toNat) 0)).set ((w64 (i2 - 1)).toNat) (cap02.getD ((i2).toNat) 0)).getD zi 0)))] 657 (pc c3 (pc (ltOf c3) (pc c4 (pc (ltOf c4) (pc c4 (pc (ltOf c4) (pc c3 (pc (ltOf c3) (pc (show cap02.length=((cap02.set ((i2).toNat) (cap02.getD ((w64 (i2 - 1)).toNat) 0)).set ((w64 (i2 - 1)).toNat) (cap02.getD ((i2).toNat) 0)).length from (len_set_raw (len_set_raw rfl))) (pc (show cap02.length=((cap02.set ((i2).toNat) (cap02.getD ((w64 (i2 - 1)).toNat) 0)).set ((w64 (i2 - 1)).toNat) (cap02.getD ((i2).toNat) 0)).length from (len_set_raw (len_set_raw rfl))) (pc (show ∀ zi,zi < ((cap02.set ((i2).toNat) (cap02.getD ((w64 (i2 - 1)).toNat) 0)).set ((w64 (i2 - 1)).toNat) (cap02.getD ((i2).toNat) 0)).length→(fun zi=>cI (((cap02.set ((i2).toNat) (cap02.getD ((w64 (i2 - 1)).toNat) 0)).set ((w64 (i2 - 1)).toNat) (cap02.getD ((i2).toNat) 0)).getD zi 0)) zi=((fun zm=>if zm=(w64 (i2 - 1)).toNat then [(aI (cap02.getD ((i2).toNat) 0))] else ((fun zm=>if zm=(i2).toNat then [(aI (cap02.getD ((w64 (i2 - 1)).toNat) 0))] else (fun zi=>cI (cap02.getD zi 0)) zm)) zm)) zi from (get_set_raw cI 0 (cap02.set ((i2).toNat) (cap02.getD ((w64 (i2 - 1)).toNat) 0)) ((w64 (i2 - 1)).toNat) (cap02.getD ((i2).toNat) 0) (get_set_raw cI 0 cap02 ((i2).toNat) (cap02.getD ((w64 (i2 - 1)).toNat) 0) (fun _ _=>rfl)))) pn))))))))))) ?_
     refine Runs.nR hE 2 [] [] (kp [0,1,2,7,8,61]) (kq [0]) 721 pn ?_
     refine Runs.nC 0 61 h (fun hq6 h=>?_) (fun hq6 h=>?_)
     ·refine Runs.nR hE 1 [] [] (kp [0,1,2,7,8,9]) (kq [0]) 769 pn ?_
      exact Runs.nW hE 2 [] (kp [0,1,2,7,8,9]) (kq [0]) 1 pn (g_slices_partialInsertionSortOrdered_int_L3_ok N _ _ _ _ _ hK_g_slices_partialInsertionSortOrdered_int_L1 N _ _ _ h E hE)
     ·exact Runs.nW hE 2 [] (kp [0,1,2,7,8]) (kq [0]) 1 pn (g_slices_partialInsertionSortOrdered_int_J4_ok N _ _ _ _ _ hK_g_slices_partialInsertionSortOrdered_int_L1 _ _ h E hE)
theorem g_slices_partialInsertionSortOrdered_int_L1_ok (N:Nat) (a:Int) (b:Int) (fuel:Nat):g_slices_partialInsertionSortOrdered_int_L1_H N a b (g_slices_partialInsertionSortOrdered_int_L1 N a b fuel):=by
 induction fuel with
 | zero=>intro _ _ _ r h;rw [g_slices_partialInsertionSortOrdered_int_L1.eq_1] at h;cases h
 | succ fuel ih =>
  intro cap02 i j r h E hE
  rw [g_slices_partialInsertionSortOrdered_int_L1.eq_2] at h
  refine Runs.nR hE 2 [] [] (kp [0,1,2,7,8,14]) (kq [0]) 33 pn ?_
  refine Runs.nC 0 14 h (fun hq2 h=>?_) (fun hq2 h=>?_)
  ·exact Runs.nW hE 6 [] (kp [0,1,2,7,8]) (kq [0]) 1 pn (g_slices_partialInsertionSortOrdered_int_L2_ok N _ _ _ _ _ ih N _ _ h E hE)
  ·refine Runs.nR hE 2 [] [] (kp [6]) (kq [0]) 49 pn ?_
   obtain rfl:=Option.some.inj h
   exact Runs.nT hE 0 Try.f119 [] (kp [6]) (kq [0]) 49 pn [] pn
theorem g_slices_partialInsertionSortOrdered_int_ok (N:Nat) (a:Int) (b:Int) (cap0:List Int) (r:Bool×(List Int)) (h:g_slices_partialInsertionSortOrdered_int N a b cap0=some r):Sound Try.prog 119 [(.os 0 0 cap0.length),(aI a),(aI b)] [(0,aO 1 cI 0 cap0)] 1 (aB r.1) [(0,aO 1 cI 0 r.2)]:=by
 unfold g_slices_partialInsertionSortOrdered_int at h
 refine Sound.of_runs (fu:=Try.f119) (c:=C_69 1) (nt:=133) (by kernel_rfl) (by kernel_rfl) (by kernel_rfl) (by kernel_rfl) (fun hm=>absurd hm (by decide)) ?_
 intro E hE
 refine Runs.nR hE 1 [] [] (kp [0,1,2]) (kq [0]) 17 pn ?_
 refine Runs.nR hE 1 [] [] (kp [0,1,2,7]) (kq [0]) 65 pn ?_
 refine Runs.nR hE 2 [] [] (kp [0,1,2,7,8]) (kq [0]) 81 pn ?_
 exact Runs.nW hE 2 [] (kp [0,1,2,7,8]) (kq [0]) 1 pn (g_slices_partialInsertionSortOrdered_int_L1_ok N _ _ N _ _ _ _ h E hE)
noncomputable def C_70 (n:Nat):Code:=cat (bodyOf Try.f121) (pth n)
def g_slices_partitionEqualOrdered_int_L1_H (N:Nat) (a:Int) (K:(List Int)→Int→Int→Option (Int×(List Int))):Prop:=∀ (cap02:List Int) (i:Int) (j:Int) (r:Int×(List Int)),K cap02 i j=some r→∀ E,EnvOk E 1→Runs Try.prog E 121 84 (SPost E [(0,aO 1 cI 0 r.2)] (aI r.1)) [.code (C_70 120),.inLoop (C_70 120),.inBlock 0,.code (C_70 31)] ⟨[(0,(.os 0 0 cap02.length)),(1,(aI a)),(9,(aI i)),(10,(aI j))],[(0,aO 1 cI 0 cap02)],1⟩
def g_slices_partitionEqualOrdered_int_L2_H (N:Nat) (a:Int) (cap02:List Int) (j:Int) (K:Int→Option (Int×(List Int))):Prop:=∀ (i2:Int) (r:Int×(List Int)),K i2=some r→∀ E,EnvOk E 1→Runs Try.prog E 121 84 (SPost E [(0,aO 1 cI 0 r.2)] (aI r.1)) [.code (C_70 1920),.inLoop (C_70 1920),.inBlock 2,.code (C_70 481),.inBlock 1,.inLoop (C_70 120),.inBlock 0,.code (C_70 31)] ⟨[(0,(.os 0 0 cap02.length)),(1,(aI a)),(9,(aI i2)),(10,(aI j))],[(0,aO 1 cI 0 cap02)],1⟩
def g_slices_partitionEqualOrdered_int_L3_H (N:Nat) (a:Int) (cap02:List Int) (i2:Int) (K:Int→Option (Int×(List Int))):Prop:=∀ (j2:Int) (r:Int×(List Int)),K j2=some r→∀ E,EnvOk E 1→Runs Try.prog E 121 84 (SPost E [(0,aO 1 cI 0 r.2)] (aI r.1)) [.code (C_70 3848),.inLoop (C_70 3848),.inBlock 4,.code (C_70 963),.inBlock 1,.inLoop (C_70 120),.inBlock 0,.code (C_70 31)] ⟨[(0,(.os 0 0 cap02.length)),(1,(aI a)),(9,(aI i2)),(10,(aI j2))],[(0,aO 1 cI 0 cap02)],1⟩
theorem g_slices_partitionEqualOrdered_int_L3_ok (N:Nat) (a:Int) (cap02:List Int) (i2:Int) (K_g_slices_partitionEqualOrdered_int_L1:(List Int)→Int→Int→Option (Int×(List Int))) (hK_g_slices_partitionEqualOrdered_int_L1:g_slices_partitionEqualOrdered_int_L1_H N a K_g_slices_partitionEqualOrdered_int_L1) (fuel:Nat):g_slices_partitionEqualOrdered_int_L3_H N a cap02 i2 (g_slices_partitionEqualOrdered_int_L3 N a cap02 i2 K_g_slices_partitionEqualOrdered_int_L1 fuel):=by
 induction fuel with
 | zero=>intro _ r h;rw [g_slices_partitionEqualOrdered_int_L3.eq_1] at h;cases h
 | succ fuel ih =>
  intro j2 r h E hE
  rw [g_slices_partitionEqualOrdered_int_L3.eq_2] at h
  obtain ⟨c5,h⟩:=ifSome h
  obtain ⟨c6,h⟩:=ifSome h
  obtain ⟨rLess2,hr2,h⟩:=bindSome h
  refine Runs.nR hE 2 [(12,⟨[],true,(aB rLess2),[],0,false,none⟩)] [] (kp [0,1,9,10,59]) (kq [0]) 225 (pc (fun hg:(decide (i2≤j2))=true=>(pc hg (pc hg (pc (c5 hg) pn)))) (pc (fun hg:(decide (i2≤j2))=true=>(pc hg (pc (ltOf (c5 hg)) pn))) (pc (fun hg:(decide (i2≤j2))=true=>(pc hg (pc hg (pc (c6 hg) pn)))) (pc (fun hg:(decide (i2≤j2))=true=>(pc hg (pc (ltOf (c6 hg)) pn))) (pc (fun hg:(decide (i2≤j2))=true=>(pc (g_cmp_Less_int_ok N (cap02.getD ((a).toNat) 0) (cap02.getD ((j2).toNat) 0) rLess2 (condT hr2 hg)) (pc hg (pc hg pn)))) (pc (fun hq:(decide (i2≤j2))=true=>(pc hq pn)) pn)))))) ?_
  refine Runs.nC 0 59 h (fun hq3 h=>?_) (fun hq3 h=>?_)
  ·refine Runs.nR hE 2 [] [] (kp [0,1,9,10]) (kq [0]) 273 pn ?_
   exact Runs.nW hE 2 [] (kp [0,1,9,10]) (kq [0]) 1 pn (ih _ _ h E hE)
  ·refine Runs.nR hE 3 [] [] (kp [0,1,9,10,64]) (kq [0]) 273 pn ?_
   refine Runs.nC 0 64 h (fun hq4 h=>?_) (fun hq4 h=>?_)
   ·refine Runs.nR hE 2 [] [] (kp [8]) (kq [0]) 305 pn ?_
    obtain rfl:=Option.some.inj h
    exact Runs.nT hE 0 Try.f121 [] (kp [8]) (kq [0]) 305 pn [] pn
   ·obtain ⟨c7,h⟩:=ifSome h
    obtain ⟨c8,h⟩:=ifSome h
    refine Runs.nR hE 2 [] [] ([(0,.osl (((cap02.set ((i2).toNat) (cap02.getD ((j2).toNat) 0)).set ((j2).toNat) (cap02.getD ((i2).toNat) 0)).length))] ++ kp [1,9,10]) [(0,.arr 0 (((cap02.set ((i2).toNat) (cap02.getD ((j2).toNat) 0)).set ((j2).toNat) (cap02.getD ((i2).toNat) 0)).length) (fun zi=>cI (((cap02.set ((i2).toNat) (cap02.getD ((j2).toNat) 0)).set ((j2).toNat) (cap02.getD ((i2).toNat) 0)).getD zi 0)))] 529 (pc c7 (pc (ltOf c7) (pc c8 (pc (ltOf c8) (pc c8 (pc (ltOf c8) (pc c7 (pc (ltOf c7) (pc (show cap02.length=((cap02.set ((i2).toNat) (cap02.getD ((j2).toNat) 0)).set ((j2).toNat) (cap02.getD ((i2).toNat) 0)).length from (len_set_raw (len_set_raw rfl))) (pc (show cap02.length=((cap02.set ((i2).toNat) (cap02.getD ((j2).toNat) 0)).set ((j2).toNat) (cap02.getD ((i2).toNat) 0)).length from (len_set_raw (len_set_raw rfl))) (pc (show ∀ zi,zi < ((cap02.set ((i2).toNat) (cap02.getD ((j2).toNat) 0)).set ((j2).toNat) (cap02.getD ((i2).toNat) 0)).length→(fun zi=>cI (((cap02.set ((i2).toNat) (cap02.getD ((j2).toNat) 0)).set ((j2).toNat) (cap02.getD ((i2).toNat) 0)).getD zi 0)) zi=((fun zm=>if zm=(j2).toNat then [(aI (cap02.getD ((i2).toNat) 0))] else ((fun zm=>if zm=(i2).toNat then [(aI (cap02.getD ((j2).toNat) 0))] else (fun zi=>cI (cap02.getD zi 0)) zm)) zm)) zi from (get_set_raw cI 0 (cap02.set ((i2).toNat) (cap02.getD ((j2).toNat) 0)) ((j2).toNat) (cap02.getD ((i2).toNat) 0) (get_set_raw cI 0 cap02 ((i2).toNat) (cap02.getD ((j2).toNat) 0) (fun _ _=>rfl)))) pn))))))))))) ?_
    refine Runs.nR hE 1 [] [] (kp [0,1,9,10]) (kq [0]) 577 pn ?_
    refine Runs.nR hE 0 [] [] (kp [0,1,9,10]) (kq [0]) 625 pn ?_
    exact Runs.nW hE 2 [] (kp [0,1,9,10]) (kq [0]) 1 pn (hK_g_slices_partitionEqualOrdered_int_L1 _ _ _ _ h E hE)
theorem g_slices_partitionEqualOrdered_int_L2_ok (N:Nat) (a:Int) (cap02:List Int) (j:Int) (K_g_slices_partitionEqualOrdered_int_L1:(List Int)→Int→Int→Option (Int×(List Int))) (hK_g_slices_partitionEqualOrdered_int_L1:g_slices_partitionEqualOrdered_int_L1_H N a K_g_slices_partitionEqualOrdered_int_L1) (fuel:Nat):g_slices_partitionEqualOrdered_int_L2_H N a cap02 j (g_slices_partitionEqualOrdered_int_L2 N a cap02 j K_g_slices_partitionEqualOrdered_int_L1 fuel):=by
 induction fuel with
 | zero=>intro _ r h;rw [g_slices_partitionEqualOrdered_int_L2.eq_1] at h;cases h
 | succ fuel ih =>
  intro i2 r h E hE
  rw [g_slices_partitionEqualOrdered_int_L2.eq_2] at h
  obtain ⟨c3,h⟩:=ifSome h
  obtain ⟨c4,h⟩:=ifSome h
  obtain ⟨rLess,hr,h⟩:=bindSome h
  refine Runs.nR hE 2 [(12,⟨[],true,(aB rLess),[],0,false,none⟩)] [] (kp [0,1,9,10,43]) (kq [0]) 241 (pc (fun hg:(decide (i2≤j))=true=>(pc hg (pc hg (pc (c3 hg) pn)))) (pc (fun hg:(decide (i2≤j))=true=>(pc hg (pc (ltOf (c3 hg)) pn))) (pc (fun hg:(decide (i2≤j))=true=>(pc hg (pc hg (pc (c4 hg) pn)))) (pc (fun hg:(decide (i2≤j))=true=>(pc hg (pc (ltOf (c4 hg)) pn))) (pc (fun hg:(decide (i2≤j))=true=>(pc (g_cmp_Less_int_ok N (cap02.getD ((a).toNat) 0) (cap02.getD ((i2).toNat) 0) rLess (condT hr hg)) (pc hg (pc hg pn)))) (pc (fun hg:(decide (i2≤j))=true=>(pc hg pn)) (pc (fun hq:(decide (i2≤j))=true=>(pc hq pn)) pn))))))) ?_
  refine Runs.nC 0 43 h (fun hq2 h=>?_) (fun hq2 h=>?_)
  ·refine Runs.nR hE 2 [] [] (kp [0,1,9,10]) (kq [0]) 289 pn ?_
   exact Runs.nW hE 2 [] (kp [0,1,9,10]) (kq [0]) 1 pn (ih _ _ h E hE)
  ·exact Runs.nW hE 4 [] (kp [0,1,9,10]) (kq [0]) 1 pn (g_slices_partitionEqualOrdered_int_L3_ok N _ _ _ _ hK_g_slices_partitionEqualOrdered_int_L1 N _ _ h E hE)
theorem g_slices_partitionEqualOrdered_int_L1_ok (N:Nat) (a:Int) (fuel:Nat):g_slices_partitionEqualOrdered_int_L1_H N a (g_slices_partitionEqualOrdered_int_L1 N a fuel):=by
 induction fuel with
 | zero=>intro _ _ _ r h;rw [g_slices_partitionEqualOrdered_int_L1.eq_1] at h;cases h
 | succ fuel ih =>
  intro cap02 i j r h E hE
  rw [g_slices_partitionEqualOrdered_int_L1.eq_2] at h
  exact Runs.nW hE 4 [] (kp [0,1,9,10]) (kq [0]) 1 pn (g_slices_partitionEqualOrdered_int_L2_ok N _ _ _ _ ih N _ _ h E hE)
theorem g_slices_partitionEqualOrdered_int_ok (N:Nat) (a:Int) (b:Int) (pivot:Int) (cap0:List Int) (r:Int×(List Int)) (h:g_slices_partitionEqualOrdered_int N a b pivot cap0=some r):Sound Try.prog 121 [(.os 0 0 cap0.length),(aI a),(aI b),(aI pivot)] [(0,aO 1 cI 0 cap0)] 1 (aI r.1) [(0,aO 1 cI 0 r.2)]:=by
 unfold g_slices_partitionEqualOrdered_int at h
 refine Sound.of_runs (fu:=Try.f121) (c:=C_70 1) (nt:=84) (by kernel_rfl) (by kernel_rfl) (by kernel_rfl) (by kernel_rfl) (fun hm=>absurd hm (by decide)) ?_
 intro E hE
 refine Runs.nR hE 1 [] [] (kp [0,1,2,3]) (kq [0]) 17 pn ?_
 obtain ⟨c,h⟩:=ifSome h
 obtain ⟨c2,h⟩:=ifSome h
 refine Runs.nR hE 1 [] [] ([(0,.osl (((cap0.set ((a).toNat) (cap0.getD ((pivot).toNat) 0)).set ((pivot).toNat) (cap0.getD ((a).toNat) 0)).length))] ++ kp [1,2]) [(0,.arr 0 (((cap0.set ((a).toNat) (cap0.getD ((pivot).toNat) 0)).set ((pivot).toNat) (cap0.getD ((a).toNat) 0)).length) (fun zi=>cI (((cap0.set ((a).toNat) (cap0.getD ((pivot).toNat) 0)).set ((pivot).toNat) (cap0.getD ((a).toNat) 0)).getD zi 0)))] 273 (pc c (pc (ltOf c) (pc c2 (pc (ltOf c2) (pc c2 (pc (ltOf c2) (pc c (pc (ltOf c) (pc (show cap0.length=((cap0.set ((a).toNat) (cap0.getD ((pivot).toNat) 0)).set ((pivot).toNat) (cap0.getD ((a).toNat) 0)).length from (len_set_raw (len_set_raw rfl))) (pc (show cap0.length=((cap0.set ((a).toNat) (cap0.getD ((pivot).toNat) 0)).set ((pivot).toNat) (cap0.getD ((a).toNat) 0)).length from (len_set_raw (len_set_raw rfl))) (pc (show ∀ zi,zi < ((cap0.set ((a).toNat) (cap0.getD ((pivot).toNat) 0)).set ((pivot).toNat) (cap0.getD ((a).toNat) 0)).length→(fun zi=>cI (((cap0.set ((a).toNat) (cap0.getD ((pivot).toNat) 0)).set ((pivot).toNat) (cap0.getD ((a).toNat) 0)).getD zi 0)) zi=((fun zm=>if zm=(pivot).toNat then [(aI (cap0.getD ((a).toNat) 0))] else ((fun zm=>if zm=(a).toNat then [(aI (cap0.getD ((pivot).toNat) 0))] else (fun zi=>cI (cap0.getD zi 0)) zm)) zm)) zi from (get_set_raw cI 0 (cap0.set ((a).toNat) (cap0.getD ((pivot).toNat) 0)) ((pivot).toNat) (cap0.getD ((a).toNat) 0) (get_set_raw cI 0 cap0 ((a).toNat) (cap0.getD ((pivot).toNat) 0) (fun _ _=>rfl)))) pn))))))))))) ?_
 refine Runs.nR hE 1 [] [] (kp [0,1,9,10]) (kq [0]) 369 pn ?_
 exact Runs.nW hE 3 [] (kp [0,1,9,10]) (kq [0]) 1 pn (g_slices_partitionEqualOrdered_int_L1_ok N _ N _ _ _ _ h E hE)
noncomputable def C_71 (n:Nat):Code:=cat (bodyOf Try.f122) (pth n)
def g_slices_partitionOrdered_int_L1_H (N:Nat) (a:Int) (b:Int) (pivot:Int) (cap0:List Int) (K:Int→Option (Int×Bool×(List Int))):Prop:=∀ (i:Int) (r:Int×Bool×(List Int)),K i=some r→∀ E,EnvOk E 1→Runs Try.prog E 122 168 (SPost E [(0,aO 1 cI 0 r.2.2)] (.tup [(aI r.1),(aB r.2.1)])) [.code (C_71 120),.inLoop (C_71 120),.inBlock 0,.code (C_71 31)] ⟨[(0,(.os 0 0 (((cap0.set ((a).toNat) (cap0.getD ((pivot).toNat) 0)).set ((pivot).toNat) (cap0.getD ((a).toNat) 0)).length))),(1,(aI a)),(10,(aI i)),(11,(aI (w64 (b - 1))))],[(0,aO 1 cI 0 ((cap0.set ((a).toNat) (cap0.getD ((pivot).toNat) 0)).set ((pivot).toNat) (cap0.getD ((a).toNat) 0)))],1⟩
def g_slices_partitionOrdered_int_L2_H (N:Nat) (a:Int) (pivot:Int) (cap0:List Int) (i:Int) (K:Int→Option (Int×Bool×(List Int))):Prop:=∀ (j:Int) (r:Int×Bool×(List Int)),K j=some r→∀ E,EnvOk E 1→Runs Try.prog E 122 168 (SPost E [(0,aO 1 cI 0 r.2.2)] (.tup [(aI r.1),(aB r.2.1)])) [.code (C_71 248),.inLoop (C_71 248),.inBlock 2,.code (C_71 63)] ⟨[(0,(.os 0 0 (((cap0.set ((a).toNat) (cap0.getD ((pivot).toNat) 0)).set ((pivot).toNat) (cap0.getD ((a).toNat) 0)).length))),(1,(aI a)),(10,(aI i)),(11,(aI j))],[(0,aO 1 cI 0 ((cap0.set ((a).toNat) (cap0.getD ((pivot).toNat) 0)).set ((pivot).toNat) (cap0.getD ((a).toNat) 0)))],1⟩
def g_slices_partitionOrdered_int_L3_H (N:Nat) (a:Int) (K:(List Int)→Int→Int→Option (Int×Bool×(List Int))):Prop:=∀ (cap02:List Int) (i2:Int) (j2:Int) (r:Int×Bool×(List Int)),K cap02 i2 j2=some r→∀ E,EnvOk E 1→Runs Try.prog E 122 168 (SPost E [(0,aO 1 cI 0 r.2.2)] (.tup [(aI r.1),(aB r.2.1)])) [.code (C_71 8184),.inLoop (C_71 8184),.inBlock 4,.code (C_71 2047)] ⟨[(0,(.os 0 0 cap02.length)),(1,(aI a)),(10,(aI i2)),(11,(aI j2))],[(0,aO 1 cI 0 cap02)],1⟩
def g_slices_partitionOrdered_int_L4_H (N:Nat) (a:Int) (cap02:List Int) (j2:Int) (K:Int→Option (Int×Bool×(List Int))):Prop:=∀ (i3:Int) (r:Int×Bool×(List Int)),K i3=some r→∀ E,EnvOk E 1→Runs Try.prog E 122 168 (SPost E [(0,aO 1 cI 0 r.2.2)] (.tup [(aI r.1),(aB r.2.1)])) [.code (C_71 130944),.inLoop (C_71 130944),.inBlock 6,.code (C_71 32737),.inBlock 5,.inLoop (C_71 8184),.inBlock 4,.code (C_71 2047)] ⟨[(0,(.os 0 0 cap02.length)),(1,(aI a)),(10,(aI i3)),(11,(aI j2))],[(0,aO 1 cI 0 cap02)],1⟩
def g_slices_partitionOrdered_int_L5_H (N:Nat) (a:Int) (cap02:List Int) (i3:Int) (K:Int→Option (Int×Bool×(List Int))):Prop:=∀ (j3:Int) (r:Int×Bool×(List Int)),K j3=some r→∀ E,EnvOk E 1→Runs Try.prog E 122 168 (SPost E [(0,aO 1 cI 0 r.2.2)] (.tup [(aI r.1),(aB r.2.1)])) [.code (C_71 261896),.inLoop (C_71 261896),.inBlock 8,.code (C_71 65475),.inBlock 5,.inLoop (C_71 8184),.inBlock 4,.code (C_71 2047)] ⟨[(0,(.os 0 0 cap02.length)),(1,(aI a)),(10,(aI i3)),(11,(aI j3))],[(0,aO 1 cI 0 cap02)],1⟩
theorem g_slices_partitionOrdered_int_L5_ok (N:Nat) (a:Int) (cap02:List Int) (i3:Int) (K_g_slices_partitionOrdered_int_L3:(List Int)→Int→Int→Option (Int×Bool×(List Int))) (hK_g_slices_partitionOrdered_int_L3:g_slices_partitionOrdered_int_L3_H N a K_g_slices_partitionOrdered_int_L3) (fuel:Nat):g_slices_partitionOrdered_int_L5_H N a cap02 i3 (g_slices_partitionOrdered_int_L5 N a cap02 i3 K_g_slices_partitionOrdered_int_L3 fuel):=by
 induction fuel with
 | zero=>intro _ r h;rw [g_slices_partitionOrdered_int_L5.eq_1] at h;cases h
 | succ fuel ih =>
  intro j3 r h E hE
  rw [g_slices_partitionOrdered_int_L5.eq_2] at h
  obtain ⟨c13,h⟩:=ifSome h
  obtain ⟨c14,h⟩:=ifSome h
  obtain ⟨rLess4,hr4,h⟩:=bindSome h
  refine Runs.nR hE 2 [(12,⟨[],true,(aB rLess4),[],0,false,none⟩)] [] (kp [0,1,10,11,129]) (kq [0]) 241 (pc (fun hg:(decide (i3≤j3))=true=>(pc hg (pc hg (pc (c13 hg) pn)))) (pc (fun hg:(decide (i3≤j3))=true=>(pc hg (pc (ltOf (c13 hg)) pn))) (pc (fun hg:(decide (i3≤j3))=true=>(pc hg (pc hg (pc (c14 hg) pn)))) (pc (fun hg:(decide (i3≤j3))=true=>(pc hg (pc (ltOf (c14 hg)) pn))) (pc (fun hg:(decide (i3≤j3))=true=>(pc (g_cmp_Less_int_ok N (cap02.getD ((j3).toNat) 0) (cap02.getD ((a).toNat) 0) rLess4 (condT hr4 hg)) (pc hg (pc hg pn)))) (pc (fun hg:(decide (i3≤j3))=true=>(pc hg pn)) (pc (fun hq:(decide (i3≤j3))=true=>(pc hq pn)) pn))))))) ?_
  refine Runs.nC 0 129 h (fun hq6 h=>?_) (fun hq6 h=>?_)
  ·refine Runs.nR hE 2 [] [] (kp [0,1,10,11]) (kq [0]) 289 pn ?_
   exact Runs.nW hE 2 [] (kp [0,1,10,11]) (kq [0]) 1 pn (ih _ _ h E hE)
  ·refine Runs.nR hE 3 [] [] (kp [0,1,10,11,134]) (kq [0]) 289 pn ?_
   refine Runs.nC 0 134 h (fun hq7 h=>?_) (fun hq7 h=>?_)
   ·obtain ⟨c15,h⟩:=ifSome h
    obtain ⟨c16,h⟩:=ifSome h
    refine Runs.nR hE 2 [] [] (kp [11]) [(0,.arr 0 (((cap02.set ((j3).toNat) (cap02.getD ((a).toNat) 0)).set ((a).toNat) (cap02.getD ((j3).toNat) 0)).length) (fun zi=>cI (((cap02.set ((j3).toNat) (cap02.getD ((a).toNat) 0)).set ((a).toNat) (cap02.getD ((j3).toNat) 0)).getD zi 0)))] 545 (pc c15 (pc (ltOf c15) (pc c16 (pc (ltOf c16) (pc c16 (pc (ltOf c16) (pc c15 (pc (ltOf c15) (pc (show cap02.length=((cap02.set ((j3).toNat) (cap02.getD ((a).toNat) 0)).set ((a).toNat) (cap02.getD ((j3).toNat) 0)).length from (len_set_raw (len_set_raw rfl))) (pc (show ∀ zi,zi < ((cap02.set ((j3).toNat) (cap02.getD ((a).toNat) 0)).set ((a).toNat) (cap02.getD ((j3).toNat) 0)).length→(fun zi=>cI (((cap02.set ((j3).toNat) (cap02.getD ((a).toNat) 0)).set ((a).toNat) (cap02.getD ((j3).toNat) 0)).getD zi 0)) zi=((fun zm=>if zm=(a).toNat then [(aI (cap02.getD ((j3).toNat) 0))] else ((fun zm=>if zm=(j3).toNat then [(aI (cap02.getD ((a).toNat) 0))] else (fun zi=>cI (cap02.getD zi 0)) zm)) zm)) zi from (get_set_raw cI 0 (cap02.set ((j3).toNat) (cap02.getD ((a).toNat) 0)) ((a).toNat) (cap02.getD ((j3).toNat) 0) (get_set_raw cI 0 cap02 ((j3).toNat) (cap02.getD ((a).toNat) 0) (fun _ _=>rfl)))) pn)))))))))) ?_
    refine Runs.nR hE 1 [] [] (kp [8,9]) (kq [0]) 593 pn ?_
    obtain rfl:=Option.some.inj h
    exact Runs.nT hE 0 Try.f122 [] (kp [8,9]) (kq [0]) 593 pn [] pn
   ·obtain ⟨c17,h⟩:=ifSome h
    obtain ⟨c18,h⟩:=ifSome h
    refine Runs.nR hE 2 [] [] ([(0,.osl (((cap02.set ((i3).toNat) (cap02.getD ((j3).toNat) 0)).set ((j3).toNat) (cap02.getD ((i3).toNat) 0)).length))] ++ kp [1,10,11]) [(0,.arr 0 (((cap02.set ((i3).toNat) (cap02.getD ((j3).toNat) 0)).set ((j3).toNat) (cap02.getD ((i3).toNat) 0)).length) (fun zi=>cI (((cap02.set ((i3).toNat) (cap02.getD ((j3).toNat) 0)).set ((j3).toNat) (cap02.getD ((i3).toNat) 0)).getD zi 0)))] 545 (pc c17 (pc (ltOf c17) (pc c18 (pc (ltOf c18) (pc c18 (pc (ltOf c18) (pc c17 (pc (ltOf c17) (pc (show cap02.length=((cap02.set ((i3).toNat) (cap02.getD ((j3).toNat) 0)).set ((j3).toNat) (cap02.getD ((i3).toNat) 0)).length from (len_set_raw (len_set_raw rfl))) (pc (show cap02.length=((cap02.set ((i3).toNat) (cap02.getD ((j3).toNat) 0)).set ((j3).toNat) (cap02.getD ((i3).toNat) 0)).length from (len_set_raw (len_set_raw rfl))) (pc (show ∀ zi,zi < ((cap02.set ((i3).toNat) (cap02.getD ((j3).toNat) 0)).set ((j3).toNat) (cap02.getD ((i3).toNat) 0)).length→(fun zi=>cI (((cap02.set ((i3).toNat) (cap02.getD ((j3).toNat) 0)).set ((j3).toNat) (cap02.getD ((i3).toNat) 0)).getD zi 0)) zi=((fun zm=>if zm=(j3).toNat then [(aI (cap02.getD ((i3).toNat) 0))] else ((fun zm=>if zm=(i3).toNat then [(aI (cap02.getD ((j3).toNat) 0))] else (fun zi=>cI (cap02.getD zi 0)) zm)) zm)) zi from (get_set_raw cI 0 (cap02.set ((i3).toNat) (cap02.getD ((j3).toNat) 0)) ((j3).toNat) (cap02.getD ((i3).toNat) 0) (get_set_raw cI 0 cap02 ((i3).toNat) (cap02.getD ((j3).toNat) 0) (fun _ _=>rfl)))) pn))))))))))) ?_
    refine Runs.nR hE 1 [] [] (kp [0,1,10,11]) (kq [0]) 593 pn ?_
    refine Runs.nR hE 0 [] [] (kp [0,1,10,11]) (kq [0]) 641 pn ?_
    exact Runs.nW hE 2 [] (kp [0,1,10,11]) (kq [0]) 1 pn (hK_g_slices_partitionOrdered_int_L3 _ _ _ _ h E hE)
theorem g_slices_partitionOrdered_int_L4_ok (N:Nat) (a:Int) (cap02:List Int) (j2:Int) (K_g_slices_partitionOrdered_int_L3:(List Int)→Int→Int→Option (Int×Bool×(List Int))) (hK_g_slices_partitionOrdered_int_L3:g_slices_partitionOrdered_int_L3_H N a K_g_slices_partitionOrdered_int_L3) (fuel:Nat):g_slices_partitionOrdered_int_L4_H N a cap02 j2 (g_slices_partitionOrdered_int_L4 N a cap02 j2 K_g_slices_partitionOrdered_int_L3 fuel):=by
 induction fuel with
 | zero=>intro _ r h;rw [g_slices_partitionOrdered_int_L4.eq_1] at h;cases h
 | succ fuel ih =>
  intro i3 r h E hE
  rw [g_slices_partitionOrdered_int_L4.eq_2] at h
  obtain ⟨c11,h⟩:=ifSome h
  obtain ⟨c12,h⟩:=ifSome h
  obtain ⟨rLess3,hr3,h⟩:=bindSome h
  refine Runs.nR hE 2 [(12,⟨[],true,(aB rLess3),[],0,false,none⟩)] [] (kp [0,1,10,11,112]) (kq [0]) 225 (pc (fun hg:(decide (i3≤j2))=true=>(pc hg (pc hg (pc (c11 hg) pn)))) (pc (fun hg:(decide (i3≤j2))=true=>(pc hg (pc (ltOf (c11 hg)) pn))) (pc (fun hg:(decide (i3≤j2))=true=>(pc hg (pc hg (pc (c12 hg) pn)))) (pc (fun hg:(decide (i3≤j2))=true=>(pc hg (pc (ltOf (c12 hg)) pn))) (pc (fun hg:(decide (i3≤j2))=true=>(pc (g_cmp_Less_int_ok N (cap02.getD ((i3).toNat) 0) (cap02.getD ((a).toNat) 0) rLess3 (condT hr3 hg)) (pc hg (pc hg pn)))) (pc (fun hq:(decide (i3≤j2))=true=>(pc hq pn)) pn)))))) ?_
  refine Runs.nC 0 112 h (fun hq5 h=>?_) (fun hq5 h=>?_)
  ·refine Runs.nR hE 2 [] [] (kp [0,1,10,11]) (kq [0]) 273 pn ?_
   exact Runs.nW hE 2 [] (kp [0,1,10,11]) (kq [0]) 1 pn (ih _ _ h E hE)
  ·exact Runs.nW hE 4 [] (kp [0,1,10,11]) (kq [0]) 1 pn (g_slices_partitionOrdered_int_L5_ok N _ _ _ _ hK_g_slices_partitionOrdered_int_L3 N _ _ h E hE)
theorem g_slices_partitionOrdered_int_L3_ok (N:Nat) (a:Int) (fuel:Nat):g_slices_partitionOrdered_int_L3_H N a (g_slices_partitionOrdered_int_L3 N a fuel):=by
 induction fuel with
 | zero=>intro _ _ _ r h;rw [g_slices_partitionOrdered_int_L3.eq_1] at h;cases h
 | succ fuel ih =>
  intro cap02 i2 j2 r h E hE
  rw [g_slices_partitionOrdered_int_L3.eq_2] at h
  exact Runs.nW hE 4 [] (kp [0,1,10,11]) (kq [0]) 1 pn (g_slices_partitionOrdered_int_L4_ok N _ _ _ _ ih N _ _ h E hE)
theorem g_slices_partitionOrdered_int_L2_ok (N:Nat) (a:Int) (pivot:Int) (cap0:List Int) (i:Int) (fuel:Nat):g_slices_partitionOrdered_int_L2_H N a pivot cap0 i (g_slices_partitionOrdered_int_L2 N a pivot cap0 i fuel):=by
 induction fuel with
 | zero=>intro _ r h;rw [g_slices_partitionOrdered_int_L2.eq_1] at h;cases h
 | succ fuel ih =>
  intro j r h E hE
  rw [g_slices_partitionOrdered_int_L2.eq_2] at h
  obtain ⟨c5,h⟩:=ifSome h
  obtain ⟨c6,h⟩:=ifSome h
  obtain ⟨rLess2,hr2,h⟩:=bindSome h
  refine Runs.nR hE 2 [(12,⟨[],true,(aB rLess2),[],0,false,none⟩)] [] (kp [0,1,10,11,60]) (kq [0]) 241 (pc (fun hg:(decide (i≤j))=true=>(pc hg (pc hg (pc (c5 hg) pn)))) (pc (fun hg:(decide (i≤j))=true=>(pc hg (pc (ltOf (c5 hg)) pn))) (pc (fun hg:(decide (i≤j))=true=>(pc hg (pc hg (pc (c6 hg) pn)))) (pc (fun hg:(decide (i≤j))=true=>(pc hg (pc (ltOf (c6 hg)) pn))) (pc (fun hg:(decide (i≤j))=true=>(pc (g_cmp_Less_int_ok N (((cap0.set ((a).toNat) (cap0.getD ((pivot).toNat) 0)).set ((pivot).toNat) (cap0.getD ((a).toNat) 0)).getD ((j).toNat) 0) (((cap0.set ((a).toNat) (cap0.getD ((pivot).toNat) 0)).set ((pivot).toNat) (cap0.getD ((a).toNat) 0)).getD ((a).toNat) 0) rLess2 (condT hr2 hg)) (pc hg (pc hg pn)))) (pc (fun hg:(decide (i≤j))=true=>(pc hg pn)) (pc (fun hq:(decide (i≤j))=true=>(pc hq pn)) pn))))))) ?_
  refine Runs.nC 0 60 h (fun hq3 h=>?_) (fun hq3 h=>?_)
  ·refine Runs.nR hE 2 [] [] (kp [0,1,10,11]) (kq [0]) 289 pn ?_
   exact Runs.nW hE 2 [] (kp [0,1,10,11]) (kq [0]) 1 pn (ih _ _ h E hE)
  ·refine Runs.nR hE 3 [] [] (kp [0,1,10,11,65]) (kq [0]) 289 pn ?_
   refine Runs.nC 0 65 h (fun hq4 h=>?_) (fun hq4 h=>?_)
   ·obtain ⟨c7,h⟩:=ifSome h
    obtain ⟨c8,h⟩:=ifSome h
    refine Runs.nR hE 1 [] [] (kp [11]) [(0,.arr 0 (((((cap0.set ((a).toNat) (cap0.getD ((pivot).toNat) 0)).set ((pivot).toNat) (cap0.getD ((a).toNat) 0)).set ((j).toNat) (((cap0.set ((a).toNat) (cap0.getD ((pivot).toNat) 0)).set ((pivot).toNat) (cap0.getD ((a).toNat) 0)).getD ((a).toNat) 0)).set ((a).toNat) (((cap0.set ((a).toNat) (cap0.getD ((pivot).toNat) 0)).set ((pivot).toNat) (cap0.getD ((a).toNat) 0)).getD ((j).toNat) 0)).length) (fun zi=>cI (((((cap0.set ((a).toNat) (cap0.getD ((pivot).toNat) 0)).set ((pivot).toNat) (cap0.getD ((a).toNat) 0)).set ((j).toNat) (((cap0.set ((a).toNat) (cap0.getD ((pivot).toNat) 0)).set ((pivot).toNat) (cap0.getD ((a).toNat) 0)).getD ((a).toNat) 0)).set ((a).toNat) (((cap0.set ((a).toNat) (cap0.getD ((pivot).toNat) 0)).set ((pivot).toNat) (cap0.getD ((a).toNat) 0)).getD ((j).toNat) 0)).getD zi 0)))] 545 (pc c7 (pc (ltOf c7) (pc c8 (pc (ltOf c8) (pc c8 (pc (ltOf c8) (pc c7 (pc (ltOf c7) (pc (show ((cap0.set ((a).toNat) (cap0.getD ((pivot).toNat) 0)).set ((pivot).toNat) (cap0.getD ((a).toNat) 0)).length=((((cap0.set ((a).toNat) (cap0.getD ((pivot).toNat) 0)).set ((pivot).toNat) (cap0.getD ((a).toNat) 0)).set ((j).toNat) (((cap0.set ((a).toNat) (cap0.getD ((pivot).toNat) 0)).set ((pivot).toNat) (cap0.getD ((a).toNat) 0)).getD ((a).toNat) 0)).set ((a).toNat) (((cap0.set ((a).toNat) (cap0.getD ((pivot).toNat) 0)).set ((pivot).toNat) (cap0.getD ((a).toNat) 0)).getD ((j).toNat) 0)).length from (len_set_raw (len_set_raw rfl))) (pc (show ∀ zi,zi < ((((cap0.set ((a).toNat) (cap0.getD ((pivot).toNat) 0)).set ((pivot).toNat) (cap0.getD ((a).toNat) 0)).set ((j).toNat) (((cap0.set ((a).toNat) (cap0.getD ((pivot).toNat) 0)).set ((pivot).toNat) (cap0.getD ((a).toNat) 0)).getD ((a).toNat) 0)).set ((a).toNat) (((cap0.set ((a).toNat) (cap0.getD ((pivot).toNat) 0)).set ((pivot).toNat) (cap0.getD ((a).toNat) 0)).getD ((j).toNat) 0)).length→(fun zi=>cI (((((cap0.set ((a).toNat) (cap0.getD ((pivot).toNat) 0)).set ((pivot).toNat) (cap0.getD ((a).toNat) 0)).set ((j).toNat) (((cap0.set ((a).toNat) (cap0.getD ((pivot).toNat) 0)).set ((pivot).toNat) (cap0.getD ((a).toNat) 0)).getD ((a).toNat) 0)).set ((a).toNat) (((cap0.set ((a).toNat) (cap0.getD ((pivot).toNat) 0)).set ((pivot).toNat) (cap0.getD ((a).toNat) 0)).getD ((j).toNat) 0)).getD zi 0)) zi=((fun zm=>if zm=(a).toNat then [(aI (((cap0.set ((a).toNat) (cap0.getD ((pivot).toNat) 0)).set ((pivot).toNat) (cap0.getD ((a).toNat) 0)).getD ((j).toNat) 0))] else ((fun zm=>if zm=(j).toNat then [(aI (((cap0.set ((a).toNat) (cap0.getD ((pivot).toNat) 0)).set ((pivot).toNat) (cap0.getD ((a).toNat) 0)).getD ((a).toNat) 0))] else (fun zi=>cI (((cap0.set ((a).toNat) (cap0.getD ((pivot).toNat) 0)).set ((pivot).toNat) (cap0.getD ((a).toNat) 0)).getD zi 0)) zm)) zm)) zi from (get_set_raw cI 0 (((cap0.set ((a).toNat) (cap0.getD ((pivot).toNat) 0)).set ((pivot).toNat) (cap0.getD ((a).toNat) 0)).set ((j).toNat) (((cap0.set ((a).toNat) (cap0.getD ((pivot).toNat) 0)).set ((pivot).toNat) (cap0.getD ((a).toNat) 0)).getD ((a).toNat) 0)) ((a).toNat) (((cap0.set ((a).toNat) (cap0.getD ((pivot).toNat) 0)).set ((pivot).toNat) (cap0.getD ((a).toNat) 0)).getD ((j).toNat) 0) (get_set_raw cI 0 ((cap0.set ((a).toNat) (cap0.getD ((pivot).toNat) 0)).set ((pivot).toNat) (cap0.getD ((a).toNat) 0)) ((j).toNat) (((cap0.set ((a).toNat) (cap0.getD ((pivot).toNat) 0)).set ((pivot).toNat) (cap0.getD ((a).toNat) 0)).getD ((a).toNat) 0) (fun _ _=>rfl)))) pn)))))))))) ?_
    refine Runs.nR hE 1 [] [] (kp [8,9]) (kq [0]) 593 pn ?_
    obtain rfl:=Option.some.inj h
    exact Runs.nT hE 0 Try.f122 [] (kp [8,9]) (kq [0]) 593 pn [] pn
   ·obtain ⟨c9,h⟩:=ifSome h
    obtain ⟨c10,h⟩:=ifSome h
    refine Runs.nR hE 2 [] [] ([(0,.osl (((((cap0.set ((a).toNat) (cap0.getD ((pivot).toNat) 0)).set ((pivot).toNat) (cap0.getD ((a).toNat) 0)).set ((i).toNat) (((cap0.set ((a).toNat) (cap0.getD ((pivot).toNat) 0)).set ((pivot).toNat) (cap0.getD ((a).toNat) 0)).getD ((j).toNat) 0)).set ((j).toNat) (((cap0.set ((a).toNat) (cap0.getD ((pivot).toNat) 0)).set ((pivot).toNat) (cap0.getD ((a).toNat) 0)).getD ((i).toNat) 0)).length))] ++ kp [1,10,11]) [(0,.arr 0 (((((cap0.set ((a).toNat) (cap0.getD ((pivot).toNat) 0)).set ((pivot).toNat) (cap0.getD ((a).toNat) 0)).set ((i).toNat) (((cap0.set ((a).toNat) (cap0.getD ((pivot).toNat) 0)).set ((pivot).toNat) (cap0.getD ((a).toNat) 0)).getD ((j).toNat) 0)).set ((j).toNat) (((cap0.set ((a).toNat) (cap0.getD ((pivot).toNat) 0)).set ((pivot).toNat) (cap0.getD ((a).toNat) 0)).getD ((i).toNat) 0)).length) (fun zi=>cI (((((cap0.set ((a).toNat) (cap0.getD ((pivot).toNat) 0)).set ((pivot).toNat) (cap0.getD ((a).toNat) 0)).set ((i).toNat) (((cap0.set ((a).toNat) (cap0.getD ((pivot).toNat) 0)).set ((pivot).toNat) (cap0.getD ((a).toNat) 0)).getD ((j).toNat) 0)).set ((j).toNat) (((cap0.set ((a).toNat) (cap0.getD ((pivot).toNat) 0)).set ((pivot).toNat) (cap0.getD ((a).toNat) 0)).getD ((i).toNat) 0)).getD zi 0)))] 545 (pc c9 (pc (ltOf c9) (pc c10 (pc (ltOf c10) (pc c10 (pc (ltOf c10) (pc c9 (pc (ltOf c9) (pc (show ((cap0.set ((a).toNat) (cap0.getD ((pivot).toNat) 0)).set ((pivot).toNat) (cap0.getD ((a).toNat) 0)).length=((((cap0.set ((a).toNat) (cap0.getD ((pivot).toNat) 0)).set ((pivot).toNat) (cap0.getD ((a).toNat) 0)).set ((i).toNat) (((cap0.set ((a).toNat) (cap0.getD ((pivot).toNat) 0)).set ((pivot).toNat) (cap0.getD ((a).toNat) 0)).getD ((j).toNat) 0)).set ((j).toNat) (((cap0.set ((a).toNat) (cap0.getD ((pivot).toNat) 0)).set ((pivot).toNat) (cap0.getD ((a).toNat) 0)).getD ((i).toNat) 0)).length from (len_set_raw (len_set_raw rfl))) (pc (show ((cap0.set ((a).toNat) (cap0.getD ((pivot).toNat) 0)).set ((pivot).toNat) (cap0.getD ((a).toNat) 0)).length=((((cap0.set ((a).toNat) (cap0.getD ((pivot).toNat) 0)).set ((pivot).toNat) (cap0.getD ((a).toNat) 0)).set ((i).toNat) (((cap0.set ((a).toNat) (cap0.getD ((pivot).toNat) 0)).set ((pivot).toNat) (cap0.getD ((a).toNat) 0)).getD ((j).toNat) 0)).set ((j).toNat) (((cap0.set ((a).toNat) (cap0.getD ((pivot).toNat) 0)).set ((pivot).toNat) (cap0.getD ((a).toNat) 0)).getD ((i).toNat) 0)).length from (len_set_raw (len_set_raw rfl))) (pc (show ∀ zi,zi < ((((cap0.set ((a).toNat) (cap0.getD ((pivot).toNat) 0)).set ((pivot).toNat) (cap0.getD ((a).toNat) 0)).set ((i).toNat) (((cap0.set ((a).toNat) (cap0.getD ((pivot).toNat) 0)).set ((pivot).toNat) (cap0.getD ((a).toNat) 0)).getD ((j).toNat) 0)).set ((j).toNat) (((cap0.set ((a).toNat) (cap0.getD ((pivot).toNat) 0)).set ((pivot).toNat) (cap0.getD ((a).toNat) 0)).getD ((i).toNat) 0)).length→(fun zi=>cI (((((cap0.set ((a).toNat) (cap0.getD ((pivot).toNat) 0)).set ((pivot).toNat) (cap0.getD ((a).toNat) 0)).set ((i).toNat) (((cap0.set ((a).toNat) (cap0.getD ((pivot).toNat) 0)).set ((pivot).toNat) (cap0.getD ((a).toNat) 0)).getD ((j).toNat) 0)).set ((j).toNat) (((cap0.set ((a).toNat) (cap0.getD ((pivot).toNat) 0)).set ((pivot).toNat) (cap0.getD ((a).toNat) 0)).getD ((i).toNat) 0)).getD zi 0)) zi=((fun zm=>if zm=(j).toNat then [(aI (((cap0.set ((a).toNat) (cap0.getD ((pivot).toNat) 0)).set ((pivot).toNat) (cap0.getD ((a).toNat) 0)).getD ((i).toNat) 0))] else ((fun zm=>if zm=(i).toNat then [(aI (((cap0.set ((a).toNat) (cap0.getD ((pivot).toNat) 0)).set ((pivot).toNat) (cap0.getD ((a).toNat) 0)).getD ((j).toNat) 0))] else (fun zi=>cI (((cap0.set ((a).toNat) (cap0.getD ((pivot).toNat) 0)).set ((pivot).toNat) (cap0.getD ((a).toNat) 0)).getD zi 0)) zm)) zm)) zi from (get_set_raw cI 0 (((cap0.set ((a).toNat) (cap0.getD ((pivot).toNat) 0)).set ((pivot).toNat) (cap0.getD ((a).toNat) 0)).set ((i).toNat) (((cap0.set ((a).toNat) (cap0.getD ((pivot).toNat) 0)).set ((pivot).toNat) (cap0.getD ((a).toNat) 0)).getD ((j).toNat) 0)) ((j).toNat) (((cap0.set ((a).toNat) (cap0.getD ((pivot).toNat) 0)).set ((pivot).toNat) (cap0.getD ((a).toNat) 0)).getD ((i).toNat) 0) (get_set_raw cI 0 ((cap0.set ((a).toNat) (cap0.getD ((pivot).toNat) 0)).set ((pivot).toNat) (cap0.getD ((a).toNat) 0)) ((i).toNat) (((cap0.set ((a).toNat) (cap0.getD ((pivot).toNat) 0)).set ((pivot).toNat) (cap0.getD ((a).toNat) 0)).getD ((j).toNat) 0) (fun _ _=>rfl)))) pn))))))))))) ?_
    refine Runs.nR hE 1 [] [] (kp [0,1,10,11]) (kq [0]) 593 pn ?_
    refine Runs.nR hE 1 [] [] (kp [0,1,10,11]) (kq [0]) 641 pn ?_
    exact Runs.nW hE 3 [] (kp [0,1,10,11]) (kq [0]) 1 pn (g_slices_partitionOrdered_int_L3_ok N _ N _ _ _ _ h E hE)
theorem g_slices_partitionOrdered_int_L1_ok (N:Nat) (a:Int) (b:Int) (pivot:Int) (cap0:List Int) (fuel:Nat):g_slices_partitionOrdered_int_L1_H N a b pivot cap0 (g_slices_partitionOrdered_int_L1 N a b pivot cap0 fuel):=by
 induction fuel with
 | zero=>intro _ r h;rw [g_slices_partitionOrdered_int_L1.eq_1] at h;cases h
 | succ fuel ih =>
  intro i r h E hE
  rw [g_slices_partitionOrdered_int_L1.eq_2] at h
  obtain ⟨c3,h⟩:=ifSome h
  obtain ⟨c4,h⟩:=ifSome h
  obtain ⟨rLess,hr,h⟩:=bindSome h
  refine Runs.nR hE 2 [(12,⟨[],true,(aB rLess),[],0,false,none⟩)] [] (kp [0,1,10,11,43]) (kq [0]) 225 (pc (fun hg:(decide (i≤(w64 (b - 1))))=true=>(pc hg (pc hg (pc (c3 hg) pn)))) (pc (fun hg:(decide (i≤(w64 (b - 1))))=true=>(pc hg (pc (ltOf (c3 hg)) pn))) (pc (fun hg:(decide (i≤(w64 (b - 1))))=true=>(pc hg (pc hg (pc (c4 hg) pn)))) (pc (fun hg:(decide (i≤(w64 (b - 1))))=true=>(pc hg (pc (ltOf (c4 hg)) pn))) (pc (fun hg:(decide (i≤(w64 (b - 1))))=true=>(pc (g_cmp_Less_int_ok N (((cap0.set ((a).toNat) (cap0.getD ((pivot).toNat) 0)).set ((pivot).toNat) (cap0.getD ((a).toNat) 0)).getD ((i).toNat) 0) (((cap0.set ((a).toNat) (cap0.getD ((pivot).toNat) 0)).set ((pivot).toNat) (cap0.getD ((a).toNat) 0)).getD ((a).toNat) 0) rLess (condT hr hg)) (pc hg (pc hg pn)))) (pc (fun hq:(decide (i≤(w64 (b - 1))))=true=>(pc hq pn)) pn)))))) ?_
  refine Runs.nC 0 43 h (fun hq2 h=>?_) (fun hq2 h=>?_)
  ·refine Runs.nR hE 2 [] [] (kp [0,1,10,11]) (kq [0]) 273 pn ?_
   exact Runs.nW hE 2 [] (kp [0,1,10,11]) (kq [0]) 1 pn (ih _ _ h E hE)
  ·exact Runs.nW hE 4 [] (kp [0,1,10,11]) (kq [0]) 1 pn (g_slices_partitionOrdered_int_L2_ok N _ _ _ _ N _ _ h E hE)
theorem g_slices_partitionOrdered_int_ok (N:Nat) (a:Int) (b:Int) (pivot:Int) (cap0:List Int) (r:Int×Bool×(List Int)) (h:g_slices_partitionOrdered_int N a b pivot cap0=some r):Sound Try.prog 122 [(.os 0 0 cap0.length),(aI a),(aI b),(aI pivot)] [(0,aO 1 cI 0 cap0)] 1 (.tup [(aI r.1),(aB r.2.1)]) [(0,aO 1 cI 0 r.2.2)]:=by
 unfold g_slices_partitionOrdered_int at h
 refine Sound.of_runs (fu:=Try.f122) (c:=C_71 1) (nt:=168) (by kernel_rfl) (by kernel_rfl) (by kernel_rfl) (by kernel_rfl) (fun hm=>absurd hm (by decide)) ?_
 intro E hE
 refine Runs.nR hE 1 [] [] (kp [0,1,2,3]) (kq [0]) 33 pn ?_
 obtain ⟨c,h⟩:=ifSome h
 obtain ⟨c2,h⟩:=ifSome h
 refine Runs.nR hE 1 [] [] ([(0,.osl (((cap0.set ((a).toNat) (cap0.getD ((pivot).toNat) 0)).set ((pivot).toNat) (cap0.getD ((a).toNat) 0)).length))] ++ kp [1,2]) [(0,.arr 0 (((cap0.set ((a).toNat) (cap0.getD ((pivot).toNat) 0)).set ((pivot).toNat) (cap0.getD ((a).toNat) 0)).length) (fun zi=>cI (((cap0.set ((a).toNat) (cap0.getD ((pivot).toNat) 0)).set ((pivot).toNat) (cap0.getD ((a).toNat) 0)).getD zi 0)))] 289 (pc c (pc (ltOf c) (pc c2 (pc (ltOf c2) (pc c2 (pc (ltOf c2) (pc c (pc (ltOf c) (pc (show cap0.length=((cap0.set ((a).toNat) (cap0.getD ((pivot).toNat) 0)).set ((pivot).toNat) (cap0.getD ((a).toNat) 0)).length from (len_set_raw (len_set_raw rfl))) (pc (show cap0.length=((cap0.set ((a).toNat) (cap0.getD ((pivot).toNat) 0)).set ((pivot).toNat) (cap0.getD ((a).toNat) 0)).length from (len_set_raw (len_set_raw rfl))) (pc (show ∀ zi,zi < ((cap0.set ((a).toNat) (cap0.getD ((pivot).toNat) 0)).set ((pivot).toNat) (cap0.getD ((a).toNat) 0)).length→(fun zi=>cI (((cap0.set ((a).toNat) (cap0.getD ((pivot).toNat) 0)).set ((pivot).toNat) (cap0.getD ((a).toNat) 0)).getD zi 0)) zi=((fun zm=>if zm=(pivot).toNat then [(aI (cap0.getD ((a).toNat) 0))] else ((fun zm=>if zm=(a).toNat then [(aI (cap0.getD ((pivot).toNat) 0))] else (fun zi=>cI (cap0.getD zi 0)) zm)) zm)) zi from (get_set_raw cI 0 (cap0.set ((a).toNat) (cap0.getD ((pivot).toNat) 0)) ((pivot).toNat) (cap0.getD ((a).toNat) 0) (get_set_raw cI 0 cap0 ((a).toNat) (cap0.getD ((pivot).toNat) 0) (fun _ _=>rfl)))) pn))))))))))) ?_
 refine Runs.nR hE 1 [] [] (kp [0,1,10,11]) (kq [0]) 385 pn ?_
 exact Runs.nW hE 3 [] (kp [0,1,10,11]) (kq [0]) 1 pn (g_slices_partitionOrdered_int_L1_ok N _ _ _ _ N _ _ h E hE)
noncomputable def C_55 (n:Nat):Code:=cat (bodyOf Try.f98) (pth n)
def g_slices_pdqsortOrdered_int_L1_H (N:Nat) (K:(List Int)→Int→Int→Int→Bool→Bool→Option ((List Int))):Prop:=∀ (cap02:List Int) (a2:Int) (b2:Int) (limit2:Int) (wasBalanced:Bool) (wasPartitioned:Bool) (r:(List Int)),K cap02 a2 b2 limit2 wasBalanced wasPartitioned=some r→∀ E,EnvOk E 1→Runs Try.prog E 98 134 (SPost E [(0,aO 1 cI 0 r)] (.tup [])) [.code (C_55 28),.inLoop (C_55 28),.inBlock 0] ⟨[(0,(.os 0 0 cap02.length)),(1,(aI a2)),(2,(aI b2)),(3,(aI limit2)),(8,(aB wasBalanced)),(9,(aB wasPartitioned))],[(0,aO 1 cI 0 cap02)],1⟩
def g_slices_pdqsortOrdered_int_J2_H (N:Nat) (a2:Int) (b2:Int) (wasBalanced:Bool) (wasPartitioned:Bool) (K:(List Int)→Int→Option ((List Int))):Prop:=∀ (cap03:List Int) (limit3:Int) (r:(List Int)),K cap03 limit3=some r→∀ E,EnvOk E 1→Runs Try.prog E 98 134 (SPost E [(0,aO 1 cI 0 r)] (.tup [])) [.code (C_55 1822),.code (C_55 1823),.inBlock 1,.inLoop (C_55 28),.inBlock 0] ⟨[(0,(.os 0 0 cap03.length)),(1,(aI a2)),(2,(aI b2)),(3,(aI limit3)),(8,(aB wasBalanced)),(9,(aB wasPartitioned)),(10,(aI (w64 (b2 - a2))))],[(0,aO 1 cI 0 cap03)],1⟩
def g_slices_pdqsortOrdered_int_J3_H (N:Nat) (a2:Int) (b2:Int) (wasBalanced:Bool) (wasPartitioned:Bool) (limit3:Int) (K:(List Int)→Int→Int→Option ((List Int))):Prop:=∀ (cap04:List Int) (pivot:Int) (hint:Int) (r:(List Int)),K cap04 pivot hint=some r→∀ E,EnvOk E 1→Runs Try.prog E 98 134 (SPost E [(0,aO 1 cI 0 r)] (.tup [])) [.code (C_55 14588),.code (C_55 14589),.code (C_55 7295),.inBlock 1,.inLoop (C_55 28),.inBlock 0] ⟨[(0,(.os 0 0 cap04.length)),(1,(aI a2)),(2,(aI b2)),(3,(aI limit3)),(8,(aB wasBalanced)),(9,(aB wasPartitioned)),(10,(aI (w64 (b2 - a2)))),(11,(aI pivot)),(12,(aI hint))],[(0,aO 1 cI 0 cap04)],1⟩
def g_slices_pdqsortOrdered_int_J4_H (N:Nat) (a2:Int) (b2:Int) (wasBalanced:Bool) (wasPartitioned:Bool) (limit3:Int) (pivot:Int) (K:(List Int)→Option ((List Int))):Prop:=∀ (cap05:List Int) (r:(List Int)),K cap05=some r→∀ E,EnvOk E 1→Runs Try.prog E 98 134 (SPost E [(0,aO 1 cI 0 r)] (.tup [])) [.code (C_55 29180),.code (C_55 29181),.code (C_55 14591),.inBlock 1,.inLoop (C_55 28),.inBlock 0] ⟨[(0,(.os 0 0 cap05.length)),(1,(aI a2)),(2,(aI b2)),(3,(aI limit3)),(8,(aB wasBalanced)),(9,(aB wasPartitioned)),(10,(aI (w64 (b2 - a2)))),(11,(aI pivot))],[(0,aO 1 cI 0 cap05)],1⟩
theorem g_slices_pdqsortOrdered_int_J4_ok (N:Nat) (a2:Int) (b2:Int) (wasBalanced:Bool) (wasPartitioned:Bool) (limit3:Int) (pivot:Int) (R_:Int→Int→Int→(List Int)→Option ((List Int))) (K_g_slices_pdqsortOrdered_int_L1:(List Int)→Int→Int→Int→Bool→Bool→Option ((List Int)))
  (hR_:∀ (a:Int) (b:Int) (limit:Int) (cap0:List Int) (r:(List Int)),R_ a b limit cap0=some r→Sound Try.prog 98 [(.os 0 0 cap0.length),(aI a),(aI b),(aI limit)] [(0,aO 1 cI 0 cap0)] 1 (.tup []) [(0,aO 1 cI 0 r)]) (hK_g_slices_pdqsortOrdered_int_L1:g_slices_pdqsortOrdered_int_L1_H N K_g_slices_pdqsortOrdered_int_L1):g_slices_pdqsortOrdered_int_J4_H N a2 b2 wasBalanced wasPartitioned limit3 pivot (g_slices_pdqsortOrdered_int_J4 N a2 b2 wasBalanced wasPartitioned limit3 pivot R_ K_g_slices_pdqsortOrdered_int_L1):=by
 intro cap05 r h E hE
 unfold g_slices_pdqsortOrdered_int_J4 at h
 obtain ⟨c6,h⟩:=ifSome h
 obtain ⟨c7,h⟩:=ifSome h
 obtain ⟨rLess,hr7,h⟩:=bindSome h
 refine Runs.nR hE 0 [(12,⟨[],true,(aB rLess),[],0,false,none⟩)] [] (kp [0,1,2,3,8,9,10,11,87]) (kq [0]) 241 (pc (fun hg:(decide (a2 > 0))=true=>(pc hg pn)) (pc (fun hg:(decide (a2 > 0))=true=>(pc hg (pc hg (pc (c6 hg) pn)))) (pc (fun hg:(decide (a2 > 0))=true=>(pc hg (pc (ltOf (c6 hg)) pn))) (pc (fun hg:(decide (a2 > 0))=true=>(pc hg (pc hg (pc (c7 hg) pn)))) (pc (fun hg:(decide (a2 > 0))=true=>(pc hg (pc (ltOf (c7 hg)) pn))) (pc (fun hg:(decide (a2 > 0))=true=>(pc (g_cmp_Less_int_ok N (cap05.getD ((w64 (a2 - 1)).toNat) 0) (cap05.getD ((pivot).toNat) 0) rLess (condT hr7 hg)) (pc hg (pc hg pn)))) (pc (fun hg:(decide (a2 > 0))=true=>(pc hg pn)) (pc (fun hq:(decide (a2 > 0))=true=>(pc hq pn)) pn)))))))) ?_
 refine Runs.nC 0 87 h (fun hq8 h=>?_) (fun hq8 h=>?_)
 ·obtain ⟨rpartitionEqu,hr8,h⟩:=bindSome h
  obtain ⟨c8,h⟩:=ifSome h
  refine Runs.nR hE 1 [(4,⟨[0],false,(aI rpartitionEqu.1),[(0,aO 1 cI 0 rpartitionEqu.2)],0,false,none⟩)] [] ([(0,.osl (rpartitionEqu.2.length))] ++ kp [2,3,8,9,13]) (kq [0]) 337 (pc (g_slices_partitionEqualOrdered_int_ok N a2 b2 pivot cap05 rpartitionEqu hr8) (pc (show cap05.length=rpartitionEqu.2.length from (Eq.symm c8)) pn)) ?_
  refine Runs.nR hE 1 [] [] (kp [0,1,2,3,8,9]) (kq [0]) 369 pn ?_
  exact Runs.nW hE 2 [] (kp [0,1,2,3,8,9]) (kq [0]) 1 pn (hK_g_slices_pdqsortOrdered_int_L1 _ _ _ _ _ _ _ h E hE)
 ·obtain ⟨rpartitionOrd,hr9,h⟩:=bindSome h
  obtain ⟨c9,h⟩:=ifSome h
  refine Runs.nR hE 2 [(4,⟨[0],false,(.tup [(aI rpartitionOrd.1),(aB rpartitionOrd.2.1)]),[(0,aO 1 cI 0 rpartitionOrd.2.2)],0,false,none⟩)] [] ([(0,.osl (rpartitionOrd.2.2.length))] ++ kp [1,2,3,10,14,15]) (kq [0]) 401 (pc (g_slices_partitionOrdered_int_ok N a2 b2 pivot cap05 rpartitionOrd hr9) (pc (show cap05.length=rpartitionOrd.2.2.length from (Eq.symm c9)) pn)) ?_
  refine Runs.nR hE 1 [] [] (kp [0,1,2,3,9,10,14]) (kq [0]) 433 pn ?_
  refine Runs.nR hE 1 [] [] (kp [0,1,2,3,9,10,14,16,17]) (kq [0]) 561 pn ?_
  refine Runs.nR hE 1 [] [] (kp [0,1,2,3,9,14,16,17,18]) (kq [0]) 609 (pc (show (8:Int)≠0 by decide) pn) ?_
  refine Runs.nR hE 1 [] [] (kp [0,1,2,3,9,14,16,17,18,113]) (kq [0]) 657 pn ?_
  refine Runs.nC 0 113 h (fun hq9 h=>?_) (fun hq9 h=>?_)
  ·refine Runs.nR hE 1 [] [] (kp [0,1,2,3,8,9,14]) (kq [0]) 721 pn ?_
   obtain ⟨rpdqsortOrder,hr10,h⟩:=bindSome h
   obtain ⟨c10,h⟩:=ifSome h
   refine Runs.nR hE 1 [(4,⟨[0],false,(.tup []),[(0,aO 1 cI 0 rpdqsortOrder)],0,false,none⟩)] [] ([(0,.osl (rpdqsortOrder.length))] ++ kp [2,3,8,9,14]) (kq [0]) 801 (pc (show Sound Try.prog 98 [(.os 0 0 rpartitionOrd.2.2.length),(aI a2),(aI rpartitionOrd.1),(aI limit3)] [(0,aO 1 cI 0 rpartitionOrd.2.2)] 1 (.tup []) [(0,aO 1 cI 0 rpdqsortOrder)] from (hR_ a2 rpartitionOrd.1 limit3 rpartitionOrd.2.2 rpdqsortOrder hr10)) (pc (show rpartitionOrd.2.2.length=rpdqsortOrder.length from (Eq.symm c10)) pn)) ?_
   refine Runs.nR hE 0 [] [] (kp [0,1,2,3,8,9]) (kq [0]) 849 pn ?_
   exact Runs.nW hE 2 [] (kp [0,1,2,3,8,9]) (kq [0]) 1 pn (hK_g_slices_pdqsortOrdered_int_L1 _ _ _ _ _ _ _ h E hE)
  ·refine Runs.nR hE 1 [] [] (kp [0,1,2,3,8,9,14]) (kq [0]) 721 pn ?_
   obtain ⟨rpdqsortOrder2,hr11,h⟩:=bindSome h
   obtain ⟨c11,h⟩:=ifSome h
   refine Runs.nR hE 1 [(5,⟨[0],false,(.tup []),[(0,aO 1 cI 0 rpdqsortOrder2)],0,false,none⟩)] [] ([(0,.osl (rpdqsortOrder2.length))] ++ kp [1,3,8,9,14]) (kq [0]) 817 (pc (show Sound Try.prog 98 [(.os 0 0 rpartitionOrd.2.2.length),(aI (w64 (rpartitionOrd.1+1))),(aI b2),(aI limit3)] [(0,aO 1 cI 0 rpartitionOrd.2.2)] 1 (.tup []) [(0,aO 1 cI 0 rpdqsortOrder2)] from (hR_ (w64 (rpartitionOrd.1+1)) b2 limit3 rpartitionOrd.2.2 rpdqsortOrder2 hr11)) (pc (show rpartitionOrd.2.2.length=rpdqsortOrder2.length from (Eq.symm c11)) pn)) ?_
   refine Runs.nR hE 0 [] [] (kp [0,1,2,3,8,9]) (kq [0]) 849 pn ?_
   exact Runs.nW hE 2 [] (kp [0,1,2,3,8,9]) (kq [0]) 1 pn (hK_g_slices_pdqsortOrdered_int_L1 _ _ _ _ _ _ _ h E hE)
theorem g_slices_pdqsortOrdered_int_J3_ok (N:Nat) (a2:Int) (b2:Int) (wasBalanced:Bool) (wasPartitioned:Bool) (limit3:Int) (R_:Int→Int→Int→(List Int)→Option ((List Int))) (K_g_slices_pdqsortOrdered_int_L1:(List Int)→Int→Int→Int→Bool→Bool→Option ((List Int)))
  (hR_:∀ (a:Int) (b:Int) (limit:Int) (cap0:List Int) (r:(List Int)),R_ a b limit cap0=some r→Sound Try.prog 98 [(.os 0 0 cap0.length),(aI a),(aI b),(aI limit)] [(0,aO 1 cI 0 cap0)] 1 (.tup []) [(0,aO 1 cI 0 r)]) (hK_g_slices_pdqsortOrdered_int_L1:g_slices_pdqsortOrdered_int_L1_H N K_g_slices_pdqsortOrdered_int_L1):g_slices_pdqsortOrdered_int_J3_H N a2 b2 wasBalanced wasPartitioned limit3 (g_slices_pdqsortOrdered_int_J3 N a2 b2 wasBalanced wasPartitioned limit3 R_ K_g_slices_pdqsortOrdered_int_L1):=by
 intro cap04 pivot hint r h E hE
 unfold g_slices_pdqsortOrdered_int_J3 at h
 refine Runs.nR hE 0 [] [] (kp [0,1,2,3,8,9,10,11,68]) (kq [0]) 129 (pc (fun hq:wasBalanced=true=>(pc hq pn)) (pc (fun hg:(cond wasBalanced wasPartitioned false)=true=>(pc hg pn)) (pc (fun hq:(cond wasBalanced wasPartitioned false)=true=>(pc hq pn)) pn))) ?_
 refine Runs.nC 0 68 h (fun hq6 h=>?_) (fun hq6 h=>?_)
 ·obtain ⟨rpartialInser,hr6,h⟩:=bindSome h
  obtain ⟨c5,h⟩:=ifSome h
  refine Runs.nR hE 1 [(3,⟨[0],false,(aB rpartialInser.1),[(0,aO 1 cI 0 rpartialInser.2)],0,false,none⟩)] [] ([(0,.osl (rpartialInser.2.length))] ++ kp [1,2,3,8,9,10,11,72]) (kq [0]) 193 (pc (g_slices_partialInsertionSortOrdered_int_ok N a2 b2 cap04 rpartialInser hr6) (pc (show cap04.length=rpartialInser.2.length from (Eq.symm c5)) pn)) ?_
  refine Runs.nC 0 72 h (fun hq7 h=>?_) (fun hq7 h=>?_)
  ·obtain rfl:=Option.some.inj h
   exact Runs.nT hE 0 Try.f98 [] [] (kq [0]) 193 pn [] pn
  ·exact Runs.nW hE 3 [] (kp [0,1,2,3,8,9,10,11]) (kq [0]) 1 pn (g_slices_pdqsortOrdered_int_J4_ok N _ _ _ _ _ _ _ _ hR_ hK_g_slices_pdqsortOrdered_int_L1 _ _ h E hE)
 ·exact Runs.nW hE 3 [] (kp [0,1,2,3,8,9,10,11]) (kq [0]) 1 pn (g_slices_pdqsortOrdered_int_J4_ok N _ _ _ _ _ _ _ _ hR_ hK_g_slices_pdqsortOrdered_int_L1 _ _ h E hE)
theorem g_slices_pdqsortOrdered_int_J2_ok (N:Nat) (a2:Int) (b2:Int) (wasBalanced:Bool) (wasPartitioned:Bool) (R_:Int→Int→Int→(List Int)→Option ((List Int))) (K_g_slices_pdqsortOrdered_int_L1:(List Int)→Int→Int→Int→Bool→Bool→Option ((List Int)))
  (hR_:∀ (a:Int) (b:Int) (limit:Int) (cap0:List Int) (r:(List Int)),R_ a b limit cap0=some r→Sound Try.prog 98 [(.os 0 0 cap0.length),(aI a),(aI b),(aI limit)] [(0,aO 1 cI 0 cap0)] 1 (.tup []) [(0,aO 1 cI 0 r)]) (hK_g_slices_pdqsortOrdered_int_L1:g_slices_pdqsortOrdered_int_L1_H N K_g_slices_pdqsortOrdered_int_L1):g_slices_pdqsortOrdered_int_J2_H N a2 b2 wasBalanced wasPartitioned (g_slices_pdqsortOrdered_int_J2 N a2 b2 wasBalanced wasPartitioned R_ K_g_slices_pdqsortOrdered_int_L1):=by
 intro cap03 limit3 r h E hE
 unfold g_slices_pdqsortOrdered_int_J2 at h
 obtain ⟨rchoosePivotO,hr4,h⟩:=bindSome h
 refine Runs.nR hE 0 [(3,⟨[],true,(.tup [(aI rchoosePivotO.1),(aI rchoosePivotO.2)]),[],0,false,none⟩)] [] (kp [0,1,2,3,8,9,10,11,12]) (kq [0]) 145 (pc (g_slices_choosePivotOrdered_int_ok N cap03 a2 b2 rchoosePivotO hr4) (pc (z1 cap03.length) pn)) ?_
 refine Runs.nR hE 2 [] [] (kp [0,1,2,3,8,9,10,11,12,50]) (kq [0]) 177 pn ?_
 refine Runs.nC 0 50 h (fun hq5 h=>?_) (fun hq5 h=>?_)
 ·obtain ⟨rreverseRange,hr5,h⟩:=bindSome h
  obtain ⟨c4,h⟩:=ifSome h
  refine Runs.nR hE 1 [(3,⟨[0],false,(.tup []),[(0,aO 1 cI 0 rreverseRange)],0,false,none⟩)] [] ([(0,.osl (rreverseRange.length))] ++ kp [1,2,3,8,9,10,11]) (kq [0]) 241 (pc (g_slices_reverseRangeOrdered_int_ok N a2 b2 cap03 rreverseRange hr5) (pc (show cap03.length=rreverseRange.length from (Eq.symm c4)) pn)) ?_
  refine Runs.nR hE 1 [] [] (kp [0,1,2,3,8,9,10,11]) (kq [0]) 353 pn ?_
  refine Runs.nR hE 0 [] [] (kp [0,1,2,3,8,9,10,11,12]) (kq [0]) 369 pn ?_
  exact Runs.nW hE 2 [] (kp [0,1,2,3,8,9,10,11,12]) (kq [0]) 1 pn (g_slices_pdqsortOrdered_int_J3_ok N _ _ _ _ _ _ _ hR_ hK_g_slices_pdqsortOrdered_int_L1 _ _ _ _ h E hE)
 ·exact Runs.nW hE 3 [] (kp [0,1,2,3,8,9,10,11,12]) (kq [0]) 1 pn (g_slices_pdqsortOrdered_int_J3_ok N _ _ _ _ _ _ _ hR_ hK_g_slices_pdqsortOrdered_int_L1 _ _ _ _ h E hE)
theorem g_slices_pdqsortOrdered_int_L1_ok (N:Nat) (R_:Int→Int→Int→(List Int)→Option ((List Int)))
  (hR_:∀ (a:Int) (b:Int) (limit:Int) (cap0:List Int) (r:(List Int)),R_ a b limit cap0=some r→Sound Try.prog 98 [(.os 0 0 cap0.length),(aI a),(aI b),(aI limit)] [(0,aO 1 cI 0 cap0)] 1 (.tup []) [(0,aO 1 cI 0 r)]) (fuel:Nat):g_slices_pdqsortOrdered_int_L1_H N (g_slices_pdqsortOrdered_int_L1 N R_ fuel):=by
 induction fuel with
 | zero=>intro _ _ _ _ _ _ r h;rw [g_slices_pdqsortOrdered_int_L1.eq_1] at h;cases h
 | succ fuel ih =>
  intro cap02 a2 b2 limit2 wasBalanced wasPartitioned r h E hE
  rw [g_slices_pdqsortOrdered_int_L1.eq_2] at h
  refine Runs.nR hE 2 [] [] (kp [0,1,2,3,8,9,10]) (kq [0]) 65 pn ?_
  refine Runs.nR hE 2 [] [] (kp [0,1,2,3,8,9,10,23]) (kq [0]) 97 pn ?_
  refine Runs.nC 0 23 h (fun hq2 h=>?_) (fun hq2 h=>?_)
  ·obtain ⟨rinsertionSor,hr,h⟩:=bindSome h
   obtain ⟨c,h⟩:=ifSome h
   refine Runs.nR hE 1 [(3,⟨[0],false,(.tup []),[(0,aO 1 cI 0 rinsertionSor)],0,false,none⟩)] [] [] (kq [0]) 161 (pc (g_slices_insertionSortOrdered_int_ok N a2 b2 cap02 rinsertionSor hr) pn) ?_
   obtain rfl:=Option.some.inj h
   exact Runs.nT hE 0 Try.f98 [] [] (kq [0]) 161 pn [] pn
  ·refine Runs.nR hE 3 [] [] (kp [0,1,2,3,8,9,10,29]) (kq [0]) 129 pn ?_
   refine Runs.nC 0 29 h (fun hq3 h=>?_) (fun hq3 h=>?_)
   ·obtain ⟨rheapSortOrde,hr2,h⟩:=bindSome h
    obtain ⟨c2,h⟩:=ifSome h
    refine Runs.nR hE 1 [(3,⟨[0],false,(.tup []),[(0,aO 1 cI 0 rheapSortOrde)],0,false,none⟩)] [] [] (kq [0]) 193 (pc (g_slices_heapSortOrdered_int_ok N a2 b2 cap02 rheapSortOrde hr2) pn) ?_
    obtain rfl:=Option.some.inj h
    exact Runs.nT hE 0 Try.f98 [] [] (kq [0]) 193 pn [] pn
   ·refine Runs.nR hE 3 [] [] (kp [0,1,2,3,8,9,10,35]) (kq [0]) 161 pn ?_
    refine Runs.nC 0 35 h (fun hq4 h=>?_) (fun hq4 h=>?_)
    ·obtain ⟨rbreakPattern,hr3,h⟩:=bindSome h
     obtain ⟨c3,h⟩:=ifSome h
     refine Runs.nR hE 1 [(3,⟨[0],false,(.tup []),[(0,aO 1 cI 0 rbreakPattern)],0,false,none⟩)] [] ([(0,.osl (rbreakPattern.length))] ++ kp [1,2,3,8,9,10]) (kq [0]) 225 (pc (g_slices_breakPatternsOrdered_int_ok N a2 b2 cap02 rbreakPattern hr3) (pc (show cap02.length=rbreakPattern.length from (Eq.symm c3)) pn)) ?_
     refine Runs.nR hE 0 [] [] (kp [0,1,2,3,8,9,10]) (kq [0]) 273 pn ?_
     exact Runs.nW hE 1 [] (kp [0,1,2,3,8,9,10]) (kq [0]) 1 pn (g_slices_pdqsortOrdered_int_J2_ok N _ _ _ _ _ _ hR_ ih _ _ _ h E hE)
    ·exact Runs.nW hE 2 [] (kp [0,1,2,3,8,9,10]) (kq [0]) 1 pn (g_slices_pdqsortOrdered_int_J2_ok N _ _ _ _ _ _ hR_ ih _ _ _ h E hE)
theorem g_slices_pdqsortOrdered_int_ok (N:Nat) (fuel:Nat):∀ (a:Int) (b:Int) (limit:Int) (cap0:List Int) (r:(List Int)),g_slices_pdqsortOrdered_int N fuel a b limit cap0=some r→Sound Try.prog 98 [(.os 0 0 cap0.length),(aI a),(aI b),(aI limit)] [(0,aO 1 cI 0 cap0)] 1 (.tup []) [(0,aO 1 cI 0 r)]:=by
 induction fuel with
 | zero=>intro _ _ _ _ r h;rw [g_slices_pdqsortOrdered_int.eq_1] at h;cases h
 | succ fuel ih =>
  intro a b limit cap0 r h
  rw [g_slices_pdqsortOrdered_int.eq_2] at h
  refine Sound.of_runs (fu:=Try.f98) (c:=C_55 1) (nt:=134) (by kernel_rfl) (by kernel_rfl) (by kernel_rfl) (by kernel_rfl) (fun hm=>absurd hm (by decide)) ?_
  intro E hE
  refine Runs.nR hE 1 [] [] (kp [0,1,2,3,8]) (kq [0]) 17 pn ?_
  refine Runs.nR hE 1 [] [] (kp [0,1,2,3,8,9]) (kq [0]) 33 pn ?_
  exact Runs.nW hE 2 [] (kp [0,1,2,3,8,9]) (kq [0]) 1 pn (g_slices_pdqsortOrdered_int_L1_ok N _ ih N _ _ _ _ _ _ _ h E hE)
noncomputable def C_52 (n:Nat):Code:=cat (bodyOf Try.f63) (pth n)
theorem g_slices_Sort_int_int_ok (N:Nat) (cap0:List Int) (r:(List Int)) (h:g_slices_Sort_int_int N cap0=some r):Sound Try.prog 63 [(.os 0 0 cap0.length)] [(0,aO 1 cI 0 cap0)] 1 (.tup []) [(0,aO 1 cI 0 r)]:=by
 unfold g_slices_Sort_int_int at h
 refine Sound.of_runs (fu:=Try.f63) (c:=C_52 1) (nt:=11) (by kernel_rfl) (by kernel_rfl) (by kernel_rfl) (by kernel_rfl) (fun hm=>absurd hm (by decide)) ?_
 intro E hE
 refine Runs.nR hE 1 [] [] (kp [0,2]) (kq [0]) 49 pn ?_
 obtain ⟨rLen,hr,h⟩:=bindSome h
 obtain ⟨rpdqsortOrder,hr2,h⟩:=bindSome h
 obtain ⟨c,h⟩:=ifSome h
 refine Runs.nR hE 0 [(4,⟨[],true,(aI rLen),[],0,false,none⟩),(5,⟨[0],false,(.tup []),[(0,aO 1 cI 0 rpdqsortOrder)],0,false,none⟩)] [] [] (kq [0]) 145 (pc (g_math_bits_Len_ok N (IntKind.u64.wrap (((cap0.length:Nat):Int))) rLen hr) (pc (g_slices_pdqsortOrdered_int_ok N N 0 ((cap0.length:Nat):Int) rLen cap0 rpdqsortOrder hr2) pn)) ?_
 obtain rfl:=Option.some.inj h
 exact Runs.nF hE 0 Try.f63 [] [] (kq [0]) 145 pn [] pn
noncomputable def C_75 (n:Nat):Code:=cat (bodyOf Try.f108) (pth n)
theorem g_w_tide_1_ok (N:Nat) (i:Int) (cap0:List TMark) (cap1:Int) (r:Bool) (h:g_w_tide_1 N i cap0 cap1=some r):Sound Try.prog 108 [(aI i),(.op 0 0 0),(.op 1 0 0)] [(0,vO 1 [(encL TMark.cells TMark.d cap0)]),(1,vO 1 [(aI cap1)])] 2 (aB r) [(0,vO 1 [(encL TMark.cells TMark.d cap0)]),(1,vO 1 [(aI cap1)])]:=by
 unfold g_w_tide_1 at h
 refine Sound.of_runs (fu:=Try.f108) (c:=C_75 1) (nt:=12) (by kernel_rfl) (by kernel_rfl) (by kernel_rfl) (by kernel_rfl) (fun hm=>absurd hm (by decide)) ?_
 intro E hE
 refine Runs.nR hE 1 [] [] (kp [0,1,2]) (kq [0,1]) 18 pn ?_
 obtain ⟨c,h⟩:=ifSome h
 refine Runs.nR hE 1 [] [] (kp [4]) (kq [0,1]) 146 (pc o1 (pc c (pc o1 pn))) ?_
 obtain rfl:=Option.some.inj h
 exact Runs.nT hE 0 Try.f108 [] (kp [4]) (kq [0,1]) 146 pn [] pn
noncomputable def C_74 (n:Nat):Code:=cat (bodyOf Try.f107) (pth n)
def g_sort_Search_L1_H (N:Nat) (cap0:List TMark) (cap1:Int) (K:Int→Int→Option (Int)):Prop:=∀ (i:Int) (j:Int) (r:Int),K i j=some r→∀ E,EnvOk E 2→Runs Try.prog E 107 26 (SPost E [(0,vO 1 [(encL TMark.cells TMark.d cap0)]),(1,vO 1 [(aI cap1)])] (aI r)) [.code (C_74 56),.inLoop (C_74 56),.inBlock 0,.code (C_74 15)] ⟨[(1,(.fn (.func 108) [] [(.op 0 0 0),(.op 1 0 0)])),(5,(aI i)),(6,(aI j))],[(0,vO 1 [(encL TMark.cells TMark.d cap0)]),(1,vO 1 [(aI cap1)])],2⟩
theorem g_sort_Search_L1_ok (N:Nat) (cap0:List TMark) (cap1:Int) (fuel:Nat):g_sort_Search_L1_H N cap0 cap1 (g_sort_Search_L1 N cap0 cap1 fuel):=by
 induction fuel with
 | zero=>intro _ _ r h;rw [g_sort_Search_L1.eq_1] at h;cases h
 | succ fuel ih =>
  intro i j r h E hE
  rw [g_sort_Search_L1.eq_2] at h
  refine Runs.nR hE 2 [] [] (kp [1,5,6,11]) (kq [0,1]) 50 pn ?_
  refine Runs.nC 0 11 h (fun hq2 h=>?_) (fun hq2 h=>?_)
  ·refine Runs.nR hE 3 [] [] (kp [1,5,6,7]) (kq [0,1]) 162 (pc (show (0:Int)≤1 by decide) pn) ?_
   obtain ⟨rtide1,hr,h⟩:=bindSome h
   refine Runs.nR hE 1 [(2,⟨[0,1],true,(aB rtide1),[],0,false,none⟩)] [] (kp [1,5,6,7,21]) (kq [0,1]) 226 (pc (g_w_tide_1_ok N (w64 ((shrI .u64 (IntKind.u64.wrap ((w64 (i+j)))) 1))) cap0 cap1 rtide1 hr) pn) ?_
   refine Runs.nC 0 21 h (fun hq3 h=>?_) (fun hq3 h=>?_)
   ·refine Runs.nR hE 0 [] [] (kp [1,5,6]) (kq [0,1]) 274 pn ?_
    exact Runs.nW hE 2 [] (kp [1,5,6]) (kq [0,1]) 2 pn (ih _ _ _ h E hE)
   ·refine Runs.nR hE 0 [] [] (kp [1,5,6]) (kq [0,1]) 258 pn ?_
    exact Runs.nW hE 2 [] (kp [1,5,6]) (kq [0,1]) 2 pn (ih _ _ _ h E hE)
  ·refine Runs.nR hE 2 [] [] (kp [4]) (kq [0,1]) 82 pn ?_
   obtain rfl:=Option.some.inj h
   exact Runs.nT hE 0 Try.f107 [] (kp [4]) (kq [0,1]) 82 pn [] pn
theorem g_sort_Search_ok (N:Nat) (n:Int) (cap0:List TMark) (cap1:Int) (r:Int) (h:g_sort_Search N n cap0 cap1=some r):Sound Try.prog 107 [(aI n),(.fn (.func 108) [] [(.op 0 0 0),(.op 1 0 0)])] [(0,vO 1 [(encL TMark.cells TMark.d cap0)]),(1,vO 1 [(aI cap1)])] 2 (aI r) [(0,vO 1 [(encL TMark.cells TMark.d cap0)]),(1,vO 1 [(aI cap1)])]:=by
 unfold g_sort_Search at h
 refine Sound.of_runs (fu:=Try.f107) (c:=C_74 1) (nt:=26) (by kernel_rfl) (by kernel_rfl) (by kernel_rfl) (by kernel_rfl) (fun hm=>absurd hm (by decide)) ?_
 intro E hE
 refine Runs.nR hE 1 [] [] (kp [0,1]) (kq [0,1]) 18 pn ?_
 refine Runs.nR hE 1 [] [] (kp [1,5,6]) (kq [0,1]) 66 pn ?_
 exact Runs.nW hE 3 [] (kp [1,5,6]) (kq [0,1]) 2 pn (g_sort_Search_L1_ok N _ _ N _ _ _ h E hE)
noncomputable def C_73 (n:Nat):Code:=cat (bodyOf Try.f91) (pth n)
def g_w_tide_J1_H (N:Nat) (m:List TMark) (rSearch:Int) (K:Int→Option (Int)):Prop:=∀ (down:Int) (r:Int),K down=some r→∀ E,EnvOk E 0→Runs Try.prog E 91 70 (SPost E [] (aI r)) [.code (C_73 510),.code (C_73 511)] ⟨[(6,(.op 0 0 0)),(10,(aI down))],[(0,vO 2 (TMark.cells (m.getD ((w64 (rSearch - 1)).toNat) TMark.d)))],1⟩
theorem g_w_tide_J1_ok (N:Nat) (m:List TMark) (rSearch:Int):g_w_tide_J1_H N m rSearch (g_w_tide_J1 N m rSearch):=by
 intro down r h E hE
 unfold g_w_tide_J1 at h
 refine Runs.nR hE 0 [] [] (kp [4]) [] 81 (pc o1 pn) ?_
 obtain rfl:=Option.some.inj h
 exact Runs.nT hE 0 Try.f91 [] (kp [4]) [] 81 pn [] pn
theorem g_w_tide_ok (N:Nat) (m:List TMark) (minute:Int) (r:Int) (h:g_w_tide N m minute=some r):Sound Try.prog 91 [(encL TMark.cells TMark.d m),(aI minute)] [] 0 (aI r) []:=by
 unfold g_w_tide at h
 refine Sound.of_runs (fu:=Try.f91) (c:=C_73 1) (nt:=70) (by kernel_rfl) (by kernel_rfl) (by kernel_rfl) (by kernel_rfl) (fun hm=>rfl) ?_
 intro E hE
 refine Runs.nR hE 1 [] [] (kp [2,3]) (kq [0,16]) 48 pn ?_
 obtain ⟨rSearch,hr,h⟩:=bindSome h
 refine Runs.nR hE 1 [(3,⟨[0,16],true,(aI rSearch),[],0,false,none⟩)] [] (kp [2,3,5]) (kq [0,16]) 128 (pc o1 (pc (g_sort_Search_ok N ((m.length:Nat):Int) m minute rSearch hr) pn)) ?_
 refine Runs.nR hE 3 [] [] (kp [2,3,5,15]) (kq [0,16]) 176 pn ?_
 refine Runs.nC 0 15 h (fun hq2 h=>?_) (fun hq2 h=>?_)
 ·obtain ⟨c,h⟩:=ifSome h
  refine Runs.nR hE 1 [] [] (kp [4]) [] 256 (pc o1 (pc c pn)) ?_
  obtain rfl:=Option.some.inj h
  exact Runs.nT hE 0 Try.f91 [] (kp [4]) [] 256 pn [] pn
 ·refine Runs.nR hE 1 [] [] (kp [2,3,5,22]) (kq [0,16]) 256 (pc o1 pn) ?_
  refine Runs.nC 0 22 h (fun hq3 h=>?_) (fun hq3 h=>?_)
  ·obtain ⟨c2,h⟩:=ifSome h
   refine Runs.nR hE 1 [] [] (kp [4]) [] 368 (pc o1 (pc c2 pn)) ?_
   obtain rfl:=Option.some.inj h
   exact Runs.nT hE 0 Try.f91 [] (kp [4]) [] 368 pn [] pn
  ·obtain ⟨c3,h⟩:=ifSome h
   obtain ⟨c4,h⟩:=ifSome h
   refine Runs.nR hE 3 [] [] (kp [3,6,7]) (kq [16,400,416]) 464 (pc o1 (pc c3 (pc o1 (pc c4 (pc o1 (pc o1 pn)))))) ?_
   refine Runs.nR hE 1 [] [] (kp [6,8,9]) (kq [400]) 736 (pc o1 (pc o1 (pc o1 (pc o1 (pc o1 (pc o1 pn)))))) ?_
   obtain ⟨c5,h⟩:=ifSome h
   refine Runs.nR hE 1 [] [] (kp [6,8,9,10]) (kq [400]) 800 (pc c5 pn) ?_
   refine Runs.nR hE 2 [] [] (kp [6,10,63]) (kq [400]) 864 (pc c5 pn) ?_
   refine Runs.nC 0 63 h (fun hq4 h=>?_) (fun hq4 h=>?_)
   ·refine Runs.nR hE 0 [] [] (kp [6,10]) (kq [400]) 912 pn ?_
    exact Runs.nW hE 1 [] (kp [6,10]) [(0,.keep 400)] 1 pn (g_w_tide_J1_ok N _ _ _ _ h E hE)
   ·exact Runs.nW hE 2 [] (kp [6,10]) [(0,.keep 400)] 1 pn (g_w_tide_J1_ok N _ _ _ _ h E hE)
noncomputable def C_72 (n:Nat):Code:=cat (bodyOf Try.f126) (pth n)
theorem g_w_Above_1_ok (N:Nat) (minute:Int) (cap0:List TMark) (cap1:Int) (r:Bool) (h:g_w_Above_1 N minute cap0 cap1=some r):Sound Try.prog 126 [(aI minute),(.op 0 0 0),(.op 1 0 0)] [(0,vO 1 [(encL TMark.cells TMark.d cap0)]),(1,vO 1 [(aI cap1)])] 2 (aB r) [(0,vO 1 [(encL TMark.cells TMark.d cap0)]),(1,vO 1 [(aI cap1)])]:=by
 unfold g_w_Above_1 at h
 refine Sound.of_runs (fu:=Try.f126) (c:=C_72 1) (nt:=10) (by kernel_rfl) (by kernel_rfl) (by kernel_rfl) (by kernel_rfl) (fun hm=>absurd hm (by decide)) ?_
 intro E hE
 refine Runs.nR hE 1 [] [] (kp [0,1,2]) (kq [0,1]) 18 pn ?_
 obtain ⟨rtide,hr,h⟩:=bindSome h
 refine Runs.nR hE 1 [(2,⟨[],true,(aI rtide),[],0,false,none⟩)] [] (kp [4]) (kq [0,1]) 114 (pc o1 (pc (g_w_tide_ok N cap0 minute rtide hr) (pc o1 pn))) ?_
 obtain rfl:=Option.some.inj h
 exact Runs.nT hE 0 Try.f126 [] (kp [4]) (kq [0,1]) 114 pn [] pn
noncomputable def C_76 (n:Nat):Code:=cat (bodyOf Try.f127) (pth n)
theorem g_w_Above_2_ok (N:Nat) (a:Int) (b:Int) (cap1:List TS__2_int) (r:(List TS__2_int)) (h:g_w_Above_2 N a b cap1=some r):Sound Try.prog 127 [(aI a),(aI b),(.op 0 0 0)] [(0,vN 1 [(.os 1 0 cap1.length)]),(1,aO 2 TS__2_int.cells TS__2_int.d cap1)] 2 (.tup []) [(0,vN 1 [(.os 2 0 r.length)]),(2,aO 2 TS__2_int.cells TS__2_int.d r)]:=by
 unfold g_w_Above_2 at h
 refine Sound.of_runs (fu:=Try.f127) (c:=C_76 1) (nt:=33) (by kernel_rfl) (by kernel_rfl) (by kernel_rfl) (by kernel_rfl) (fun hm=>absurd hm (by decide)) ?_
 intro E hE
 refine Runs.nR hE 2 [] [] (kp [0,1,2,5]) (kq [0,1]) 50 (pc o1 pn) ?_
 obtain ⟨c,h⟩:=ifSome h
 refine Runs.nR hE 1 [] [] (kp [0,1,2,5,20]) (kq [0,1]) 258 (pc (fun hg:(decide (((cap1.length:Nat):Int) > 0))=true=>(pc o1 pn)) (pc (fun hg:(decide (((cap1.length:Nat):Int) > 0))=true=>(pc hg pn)) (pc (fun hg:(decide (((cap1.length:Nat):Int) > 0))=true=>(pc hg (pc hg (pc (c hg) pn)))) (pc (fun hg:(decide (((cap1.length:Nat):Int) > 0))=true=>(pc hg (pc (show 0≤(1:Int)∧(1:Int) < ((2:Nat):Int) by decide) pn))) (pc (fun hg:(decide (((cap1.length:Nat):Int) > 0))=true=>(pc hg (pc (ltOf (c hg)) pn))) (pc (fun hg:(decide (((cap1.length:Nat):Int) > 0))=true=>(pc hg pn)) (pc (fun hg:(decide (((cap1.length:Nat):Int) > 0))=true=>(pc hg (pc hg pn))) (pc (fun hq:(decide (((cap1.length:Nat):Int) > 0))=true=>(pc hq pn)) pn)))))))) ?_
 refine Runs.nC 0 20 h (fun hq2 h=>?_) (fun hq2 h=>?_)
 ·obtain ⟨c2,h⟩:=ifSome h
  refine Runs.nR hE 1 [] [] [] [(0,.var 0 [.osl ((cap1.set ((w64 (((cap1.length:Nat):Int) - 1)).toNat) (⟨(cap1.getD ((w64 (((cap1.length:Nat):Int) - 1)).toNat) TS__2_int.d).e0,b⟩:TS__2_int)).length)]),(1,.arr 1 ((cap1.set ((w64 (((cap1.length:Nat):Int) - 1)).toNat) (⟨(cap1.getD ((w64 (((cap1.length:Nat):Int) - 1)).toNat) TS__2_int.d).e0,b⟩:TS__2_int)).length) (fun zi=>TS__2_int.cells ((cap1.set ((w64 (((cap1.length:Nat):Int) - 1)).toNat) (⟨(cap1.getD ((w64 (((cap1.length:Nat):Int) - 1)).toNat) TS__2_int.d).e0,b⟩:TS__2_int)).getD zi TS__2_int.d)))] 370 (pc o1 (pc c2 (pc (show 0≤(1:Int)∧(1:Int) < ((2:Nat):Int) by decide) (pc (ltOf c2) (pc (len_set0 cap1 ((w64 (((cap1.length:Nat):Int) - 1)).toNat) (⟨(cap1.getD ((w64 (((cap1.length:Nat):Int) - 1)).toNat) TS__2_int.d).e0,b⟩:TS__2_int)) (pc (len_set0 cap1 ((w64 (((cap1.length:Nat):Int) - 1)).toNat) (⟨(cap1.getD ((w64 (((cap1.length:Nat):Int) - 1)).toNat) TS__2_int.d).e0,b⟩:TS__2_int)) (pc (get_set0 TS__2_int.cells TS__2_int.d cap1 ((w64 (((cap1.length:Nat):Int) - 1)).toNat) (⟨(cap1.getD ((w64 (((cap1.length:Nat):Int) - 1)).toNat) TS__2_int.d).e0,b⟩:TS__2_int)) pn))))))) ?_
  obtain rfl:=Option.some.inj h
  exact Runs.nT hE 0 Try.f127 [] [] (kq [0] ++ [(2,.keep 1)]) 370 pn [] pn
 ·obtain ⟨c3,h⟩:=ifSome h
  refine Runs.nR hE 1 [] [] [] [(0,.var 0 [.osl ((cap1 ++ ([(⟨a,b⟩:TS__2_int)]:List TS__2_int)).length)]),(338,.arr 338 ((cap1 ++ ([(⟨a,b⟩:TS__2_int)]:List TS__2_int)).length) (fun zi=>TS__2_int.cells ((cap1 ++ ([(⟨a,b⟩:TS__2_int)]:List TS__2_int)).getD zi TS__2_int.d)))] 370 (pc o1 (pc (Eq.refl cap1.length) (pc c3 (pc (z1 1) (pc (show ∀ zi,zi < 1→AV.oneL ((fun zi=>([[(aI a),(aI b)]]:List (List AV)).getD zi []) (addz 0 zi))=true from (oneN rfl)) (pc o1 (pc (show (cap1.length+1)=(cap1 ++ ([(⟨a,b⟩:TS__2_int)]:List TS__2_int)).length from (len_app_raw rfl rfl)) (pc (show cap1.length+1=(cap1 ++ ([(⟨a,b⟩:TS__2_int)]:List TS__2_int)).length from (len_app_raw rfl rfl)) (pc (show ∀ zi,zi < (cap1 ++ ([(⟨a,b⟩:TS__2_int)]:List TS__2_int)).length→(fun zi=>TS__2_int.cells ((cap1 ++ ([(⟨a,b⟩:TS__2_int)]:List TS__2_int)).getD zi TS__2_int.d)) zi=((fun zm=>if zm < cap1.length then (fun zi=>TS__2_int.cells (cap1.getD zi TS__2_int.d)) zm else (fun zi=>([[(aI a),(aI b)]]:List (List AV)).getD zi []) (zm - cap1.length))) zi from (get_app_raw TS__2_int.cells TS__2_int.d cap1 ([(⟨a,b⟩:TS__2_int)]:List TS__2_int) rfl (fun _ _=>rfl) (fun zq hzq=>get_chunk TS__2_int.cells TS__2_int.d ([(⟨a,b⟩:TS__2_int)]:List TS__2_int) zq hzq))) pn))))))))) ?_
  obtain rfl:=Option.some.inj h
  exact Runs.nF hE 0 Try.f127 [] [] (kq [0] ++ [(2,.keep 338)]) 370 pn [] pn
noncomputable def C_78 (n:Nat):Code:=cat (bodyOf Try.f128) (pth n)
theorem g_w_Above_3_ok (N:Nat) (k:Int) (cap1:List TMark) (cap2:Int) (cap3:Int) (r:Bool) (h:g_w_Above_3 N k cap1 cap2 cap3=some r):Sound Try.prog 128 [(aI k),(.op 0 0 0),(.op 3 0 0)] [(0,vN 1 [(.fn (.func 126) [] [(.op 1 0 0),(.op 2 0 0)])]),(1,vO 1 [(encL TMark.cells TMark.d cap1)]),(2,vO 1 [(aI cap2)]),(3,vO 1 [(aI cap3)])] 4 (aB r) [(0,vN 1 [(.fn (.func 126) [] [(.op 1 0 0),(.op 2 0 0)])]),(1,vO 1 [(encL TMark.cells TMark.d cap1)]),(2,vO 1 [(aI cap2)]),(3,vO 1 [(aI cap3)])]:=by
 unfold g_w_Above_3 at h
 refine Sound.of_runs (fu:=Try.f128) (c:=C_78 1) (nt:=11) (by kernel_rfl) (by kernel_rfl) (by kernel_rfl) (by kernel_rfl) (fun hm=>absurd hm (by decide)) ?_
 intro E hE
 refine Runs.nR hE 1 [] [] (kp [0,1,2]) (kq [0,1,2,3]) 20 pn ?_
 obtain ⟨rAbove1,hr,h⟩:=bindSome h
 refine Runs.nR hE 1 [(4,⟨[1,2],true,(aB rAbove1),[],0,false,none⟩)] [] (kp [4]) (kq [0,1,2,3]) 132 (pc o1 (pc o1 (pc (g_w_Above_1_ok N (w64 (cap3+k)) cap1 cap2 rAbove1 hr) pn))) ?_
 obtain rfl:=Option.some.inj h
 exact Runs.nT hE 0 Try.f128 [] (kp [4]) (kq [0,1,2,3]) 132 pn [] pn
noncomputable def C_77 (n:Nat):Code:=cat (bodyOf Try.f107) (pth n)
def g_sort_Search_v2_L1_H (N:Nat) (cap1:List TMark) (cap2:Int) (cap3:Int) (K:Int→Int→Option (Int)):Prop:=∀ (i:Int) (j:Int) (r:Int),K i j=some r→∀ E,EnvOk E 4→Runs Try.prog E 107 26 (SPost E [(0,vN 1 [(.fn (.func 126) [] [(.op 1 0 0),(.op 2 0 0)])]),(1,vO 1 [(encL TMark.cells TMark.d cap1)]),(2,vO 1 [(aI cap2)]),(3,vO 1 [(aI cap3)])] (aI r)) [.code (C_77 56),.inLoop (C_77 56),.inBlock 0,.code (C_77 15)] ⟨[(1,(.fn (.func 128) [] [(.op 0 0 0),(.op 3 0 0)])),(5,(aI i)),(6,(aI j))],[(0,vN 1 [(.fn (.func 126) [] [(.op 1 0 0),(.op 2 0 0)])]),(1,vO 1 [(encL TMark.cells TMark.d cap1)]),(2,vO 1 [(aI cap2)]),(3,vO 1 [(aI cap3)])],4⟩
theorem g_sort_Search_v2_L1_ok (N:Nat) (cap1:List TMark) (cap2:Int) (cap3:Int) (fuel:Nat):g_sort_Search_v2_L1_H N cap1 cap2 cap3 (g_sort_Search_v2_L1 N cap1 cap2 cap3 fuel):=by
 induction fuel with
 | zero=>intro _ _ r h;rw [g_sort_Search_v2_L1.eq_1] at h;cases h
 | succ fuel ih =>
  intro i j r h E hE
  rw [g_sort_Search_v2_L1.eq_2] at h
  refine Runs.nR hE 2 [] [] (kp [1,5,6,11]) (kq [0,1,2,3]) 52 pn ?_
  refine Runs.nC 0 11 h (fun hq2 h=>?_) (fun hq2 h=>?_)
  ·refine Runs.nR hE 3 [] [] (kp [1,5,6,7]) (kq [0,1,2,3]) 164 (pc (show (0:Int)≤1 by decide) pn) ?_
   obtain ⟨rAbove3,hr,h⟩:=bindSome h
   refine Runs.nR hE 1 [(2,⟨[0,1,2,3],true,(aB rAbove3),[],0,false,none⟩)] [] (kp [1,5,6,7,21]) (kq [0,1,2,3]) 228 (pc (g_w_Above_3_ok N (w64 ((shrI .u64 (IntKind.u64.wrap ((w64 (i+j)))) 1))) cap1 cap2 cap3 rAbove3 hr) pn) ?_
   refine Runs.nC 0 21 h (fun hq3 h=>?_) (fun hq3 h=>?_)
   ·refine Runs.nR hE 0 [] [] (kp [1,5,6]) (kq [0,1,2,3]) 276 pn ?_
    exact Runs.nW hE 2 [] (kp [1,5,6]) (kq [0,1,2,3]) 4 pn (ih _ _ _ h E hE)
   ·refine Runs.nR hE 0 [] [] (kp [1,5,6]) (kq [0,1,2,3]) 260 pn ?_
    exact Runs.nW hE 2 [] (kp [1,5,6]) (kq [0,1,2,3]) 4 pn (ih _ _ _ h E hE)
  ·refine Runs.nR hE 2 [] [] (kp [4]) (kq [0,1,2,3]) 84 pn ?_
   obtain rfl:=Option.some.inj h
   exact Runs.nT hE 0 Try.f107 [] (kp [4]) (kq [0,1,2,3]) 84 pn [] pn
theorem g_sort_Search_v2_ok (N:Nat) (n:Int) (cap1:List TMark) (cap2:Int) (cap3:Int) (r:Int) (h:g_sort_Search_v2 N n cap1 cap2 cap3=some r):Sound Try.prog 107 [(aI n),(.fn (.func 128) [] [(.op 0 0 0),(.op 3 0 0)])] [(0,vN 1 [(.fn (.func 126) [] [(.op 1 0 0),(.op 2 0 0)])]),(1,vO 1 [(encL TMark.cells TMark.d cap1)]),(2,vO 1 [(aI cap2)]),(3,vO 1 [(aI cap3)])] 4 (aI r) [(0,vN 1 [(.fn (.func 126) [] [(.op 1 0 0),(.op 2 0 0)])]),(1,vO 1 [(encL TMark.cells TMark.d cap1)]),(2,vO 1 [(aI cap2)]),(3,vO 1 [(aI cap3)])]:=by
 unfold g_sort_Search_v2 at h
 refine Sound.of_runs (fu:=Try.f107) (c:=C_77 1) (nt:=26) (by kernel_rfl) (by kernel_rfl) (by kernel_rfl) (by kernel_rfl) (fun hm=>absurd hm (by decide)) ?_
 intro E hE
 refine Runs.nR hE 1 [] [] (kp [0,1]) (kq [0,1,2,3]) 20 pn ?_
 refine Runs.nR hE 1 [] [] (kp [1,5,6]) (kq [0,1,2,3]) 68 pn ?_
 exact Runs.nW hE 3 [] (kp [1,5,6]) (kq [0,1,2,3]) 4 pn (g_sort_Search_v2_L1_ok N _ _ _ N _ _ _ h E hE)
noncomputable def C_80 (n:Nat):Code:=cat (bodyOf Try.f129) (pth n)
theorem g_w_Above_4_ok (N:Nat) (k:Int) (cap1:List TMark) (cap2:Int) (cap3:Int) (r:Bool) (h:g_w_Above_4 N k cap1 cap2 cap3=some r):Sound Try.prog 129 [(aI k),(.op 0 0 0),(.op 3 0 0)] [(0,vN 1 [(.fn (.func 126) [] [(.op 1 0 0),(.op 2 0 0)])]),(1,vO 1 [(encL TMark.cells TMark.d cap1)]),(2,vO 1 [(aI cap2)]),(3,vO 1 [(aI cap3)])] 4 (aB r) [(0,vN 1 [(.fn (.func 126) [] [(.op 1 0 0),(.op 2 0 0)])]),(1,vO 1 [(encL TMark.cells TMark.d cap1)]),(2,vO 1 [(aI cap2)]),(3,vO 1 [(aI cap3)])]:=by
 unfold g_w_Above_4 at h
 refine Sound.of_runs (fu:=Try.f129) (c:=C_80 1) (nt:=10) (by kernel_rfl) (by kernel_rfl) (by kernel_rfl) (by kernel_rfl) (fun hm=>absurd hm (by decide)) ?_
 intro E hE
 refine Runs.nR hE 1 [] [] (kp [0,1,2]) (kq [0,1,2,3]) 20 pn ?_
 obtain ⟨rAbove1,hr,h⟩:=bindSome h
 refine Runs.nR hE 1 [(4,⟨[1,2],true,(aB rAbove1),[],0,false,none⟩)] [] (kp [4]) (kq [0,1,2,3]) 116 (pc o1 (pc o1 (pc (g_w_Above_1_ok N (w64 (cap3+k)) cap1 cap2 rAbove1 hr) pn))) ?_
 obtain rfl:=Option.some.inj h
 exact Runs.nT hE 0 Try.f129 [] (kp [4]) (kq [0,1,2,3]) 116 pn [] pn
noncomputable def C_79 (n:Nat):Code:=cat (bodyOf Try.f107) (pth n)
def g_sort_Search_v3_L1_H (N:Nat) (cap1:List TMark) (cap2:Int) (cap3:Int) (K:Int→Int→Option (Int)):Prop:=∀ (i:Int) (j:Int) (r:Int),K i j=some r→∀ E,EnvOk E 4→Runs Try.prog E 107 26 (SPost E [(0,vN 1 [(.fn (.func 126) [] [(.op 1 0 0),(.op 2 0 0)])]),(1,vO 1 [(encL TMark.cells TMark.d cap1)]),(2,vO 1 [(aI cap2)]),(3,vO 1 [(aI cap3)])] (aI r)) [.code (C_79 56),.inLoop (C_79 56),.inBlock 0,.code (C_79 15)] ⟨[(1,(.fn (.func 129) [] [(.op 0 0 0),(.op 3 0 0)])),(5,(aI i)),(6,(aI j))],[(0,vN 1 [(.fn (.func 126) [] [(.op 1 0 0),(.op 2 0 0)])]),(1,vO 1 [(encL TMark.cells TMark.d cap1)]),(2,vO 1 [(aI cap2)]),(3,vO 1 [(aI cap3)])],4⟩
theorem g_sort_Search_v3_L1_ok (N:Nat) (cap1:List TMark) (cap2:Int) (cap3:Int) (fuel:Nat):g_sort_Search_v3_L1_H N cap1 cap2 cap3 (g_sort_Search_v3_L1 N cap1 cap2 cap3 fuel):=by
 induction fuel with
 | zero=>intro _ _ r h;rw [g_sort_Search_v3_L1.eq_1] at h;cases h
 | succ fuel ih =>
  intro i j r h E hE
  rw [g_sort_Search_v3_L1.eq_2] at h
  refine Runs.nR hE 2 [] [] (kp [1,5,6,11]) (kq [0,1,2,3]) 52 pn ?_
  refine Runs.nC 0 11 h (fun hq2 h=>?_) (fun hq2 h=>?_)
  ·refine Runs.nR hE 3 [] [] (kp [1,5,6,7]) (kq [0,1,2,3]) 164 (pc (show (0:Int)≤1 by decide) pn) ?_
   obtain ⟨rAbove4,hr,h⟩:=bindSome h
   refine Runs.nR hE 1 [(2,⟨[0,1,2,3],true,(aB rAbove4),[],0,false,none⟩)] [] (kp [1,5,6,7,21]) (kq [0,1,2,3]) 228 (pc (g_w_Above_4_ok N (w64 ((shrI .u64 (IntKind.u64.wrap ((w64 (i+j)))) 1))) cap1 cap2 cap3 rAbove4 hr) pn) ?_
   refine Runs.nC 0 21 h (fun hq3 h=>?_) (fun hq3 h=>?_)
   ·refine Runs.nR hE 0 [] [] (kp [1,5,6]) (kq [0,1,2,3]) 276 pn ?_
    exact Runs.nW hE 2 [] (kp [1,5,6]) (kq [0,1,2,3]) 4 pn (ih _ _ _ h E hE)
   ·refine Runs.nR hE 0 [] [] (kp [1,5,6]) (kq [0,1,2,3]) 260 pn ?_
    exact Runs.nW hE 2 [] (kp [1,5,6]) (kq [0,1,2,3]) 4 pn (ih _ _ _ h E hE)
  ·refine Runs.nR hE 2 [] [] (kp [4]) (kq [0,1,2,3]) 84 pn ?_
   obtain rfl:=Option.some.inj h
   exact Runs.nT hE 0 Try.f107 [] (kp [4]) (kq [0,1,2,3]) 84 pn [] pn
theorem g_sort_Search_v3_ok (N:Nat) (n:Int) (cap1:List TMark) (cap2:Int) (cap3:Int) (r:Int) (h:g_sort_Search_v3 N n cap1 cap2 cap3=some r):Sound Try.prog 107 [(aI n),(.fn (.func 129) [] [(.op 0 0 0),(.op 3 0 0)])] [(0,vN 1 [(.fn (.func 126) [] [(.op 1 0 0),(.op 2 0 0)])]),(1,vO 1 [(encL TMark.cells TMark.d cap1)]),(2,vO 1 [(aI cap2)]),(3,vO 1 [(aI cap3)])] 4 (aI r) [(0,vN 1 [(.fn (.func 126) [] [(.op 1 0 0),(.op 2 0 0)])]),(1,vO 1 [(encL TMark.cells TMark.d cap1)]),(2,vO 1 [(aI cap2)]),(3,vO 1 [(aI cap3)])]:=by
 unfold g_sort_Search_v3 at h
 refine Sound.of_runs (fu:=Try.f107) (c:=C_79 1) (nt:=26) (by kernel_rfl) (by kernel_rfl) (by kernel_rfl) (by kernel_rfl) (fun hm=>absurd hm (by decide)) ?_
 intro E hE
 refine Runs.nR hE 1 [] [] (kp [0,1]) (kq [0,1,2,3]) 20 pn ?_
 refine Runs.nR hE 1 [] [] (kp [1,5,6]) (kq [0,1,2,3]) 68 pn ?_
 exact Runs.nW hE 3 [] (kp [1,5,6]) (kq [0,1,2,3]) 4 pn (g_sort_Search_v3_L1_ok N _ _ _ N _ _ _ h E hE)
noncomputable def C_51 (n:Nat):Code:=cat (bodyOf Try.f104) (pth n)
def g_w_Above_L1_H (N:Nat) (m:List TMark) (level:Int) (vfrom:Int) (vto:Int) (K:(List Int)→Int→Option ((List TS__2_int)×Int)):Prop:=∀ (corners:List Int) (x:Int) (r:(List TS__2_int)×Int),K corners x=some r→∀ E,EnvOk E 0→Runs Try.prog E 104 128 (SPost E [] (.tup [(encL TS__2_int.cells TS__2_int.d r.1),(aI r.2)])) [.code (C_51 1012),.inLoop (C_51 1012),.inBlock 1,.code (C_51 127)] ⟨[(2,(aI vfrom)),(3,(aI vto)),(11,(.op 0 0 0)),(12,(.os 3 0 corners.length)),(47,(encL TMark.cells TMark.d m)),(48,(aI ((m.length:Nat):Int))),(49,(aI x))],[(0,vN 1 [(.fn (.func 126) [] [(.op 1 0 0),(.op 2 0 0)])]),(1,vO 1 [(encL TMark.cells TMark.d m)]),(2,vO 1 [(aI level)]),(3,aO 1 cI 0 corners)],4⟩
def g_w_Above_J2_H (N:Nat) (m:List TMark) (level:Int) (vfrom:Int) (vto:Int) (x:Int) (K:(List Int)→Option ((List TS__2_int)×Int)):Prop:=∀ (corners2:List Int) (r:(List TS__2_int)×Int),K corners2=some r→∀ E,EnvOk E 0→Runs Try.prog E 104 128 (SPost E [] (.tup [(encL TS__2_int.cells TS__2_int.d r.1),(aI r.2)])) [.code (C_51 8103),.inLoop (C_51 1012),.inBlock 1,.code (C_51 127)] ⟨[(2,(aI vfrom)),(3,(aI vto)),(11,(.op 0 0 0)),(12,(.os 3 0 corners2.length)),(47,(encL TMark.cells TMark.d m)),(48,(aI ((m.length:Nat):Int))),(49,(aI x))],[(0,vN 1 [(.fn (.func 126) [] [(.op 1 0 0),(.op 2 0 0)])]),(1,vO 1 [(encL TMark.cells TMark.d m)]),(2,vO 1 [(aI level)]),(3,aO 1 cI 0 corners2)],4⟩
theorem g_w_Above_J2_ok (N:Nat) (m:List TMark) (level:Int) (vfrom:Int) (vto:Int) (x:Int) (K_g_w_Above_L1:(List Int)→Int→Option ((List TS__2_int)×Int)) (hK_g_w_Above_L1:g_w_Above_L1_H N m level vfrom vto K_g_w_Above_L1):g_w_Above_J2_H N m level vfrom vto x (g_w_Above_J2 N m level vfrom vto x K_g_w_Above_L1):=by
 intro corners2 r h E hE
 unfold g_w_Above_J2 at h
 refine Runs.nR hE 0 [] [] (kp [2,3,11,12,47,48,49]) (kq [0,1,2,3]) 36 pn ?_
 exact Runs.nW hE 1 [] (kp [2,3,11,12,47,48,49]) (kq [0,1,2,3]) 4 pn (hK_g_w_Above_L1 _ _ _ h E hE)
def g_w_Above_L3_H (N:Nat) (m:List TMark) (level:Int) (rSort:(List Int)) (K:(List TS__2_int)→Int→Option ((List TS__2_int)×Int)):Prop:=∀ (out:List TS__2_int) (x2:Int) (r:(List TS__2_int)×Int),K out x2=some r→∀ E,EnvOk E 0→Runs Try.prog E 104 128 (SPost E [] (.tup [(encL TS__2_int.cells TS__2_int.d r.1),(aI r.2)])) [.code (C_51 16372),.inLoop (C_51 16372),.inBlock 3,.code (C_51 2047)] ⟨[(11,(.op 0 0 0)),(12,(.os 3 0 rSort.length)),(15,(.op 4 0 0)),(16,(.fn (.func 127) [] [(.op 4 0 0)])),(73,(.os 3 1 (rSort.length - 1))),(74,(aI (((rSort.length - 1):Nat):Int))),(75,(aI x2))],[(0,vN 1 [(.fn (.func 126) [] [(.op 1 0 0),(.op 2 0 0)])]),(1,vO 1 [(encL TMark.cells TMark.d m)]),(2,vO 1 [(aI level)]),(3,aO 1 cI 0 rSort),(4,vN 1 [(.os 5 0 out.length)]),(5,aO 2 TS__2_int.cells TS__2_int.d out)],6⟩
def g_w_Above_J4_H (N:Nat) (m:List TMark) (level:Int) (rSort:(List Int)) (x2:Int) (K:(List TS__2_int)→Option ((List TS__2_int)×Int)):Prop:=∀ (out2:List TS__2_int) (r:(List TS__2_int)×Int),K out2=some r→∀ E,EnvOk E 0→Runs Try.prog E 104 128 (SPost E [] (.tup [(encL TS__2_int.cells TS__2_int.d r.1),(aI r.2)])) [.code (C_51 130983),.inLoop (C_51 16372),.inBlock 3,.code (C_51 2047)] ⟨[(11,(.op 0 0 0)),(12,(.os 3 0 rSort.length)),(15,(.op 4 0 0)),(16,(.fn (.func 127) [] [(.op 4 0 0)])),(73,(.os 3 1 (rSort.length - 1))),(74,(aI (((rSort.length - 1):Nat):Int))),(75,(aI x2))],[(0,vN 1 [(.fn (.func 126) [] [(.op 1 0 0),(.op 2 0 0)])]),(1,vO 1 [(encL TMark.cells TMark.d m)]),(2,vO 1 [(aI level)]),(3,aO 1 cI 0 rSort),(4,vN 1 [(.os 5 0 out2.length)]),(5,aO 2 TS__2_int.cells TS__2_int.d out2)],6⟩
theorem g_w_Above_J4_ok (N:Nat) (m:List TMark) (level:Int) (rSort:(List Int)) (x2:Int) (K_g_w_Above_L3:(List TS__2_int)→Int→Option ((List TS__2_int)×Int)) (hK_g_w_Above_L3:g_w_Above_L3_H N m level rSort K_g_w_Above_L3):g_w_Above_J4_H N m level rSort x2 (g_w_Above_J4 N m level rSort x2 K_g_w_Above_L3):=by
 intro out2 r h E hE
 unfold g_w_Above_J4 at h
 refine Runs.nR hE 0 [] [] (kp [11,12,15,16,73,74,75]) (kq [0,1,2,3,4,5]) 38 pn ?_
 exact Runs.nW hE 1 [] (kp [11,12,15,16,73,74,75]) (kq [0,1,2,3,4,5]) 6 pn (hK_g_w_Above_L3 _ _ _ h E hE)
theorem g_w_Above_L3_ok (N:Nat) (m:List TMark) (level:Int) (rSort:(List Int)) (fuel:Nat):g_w_Above_L3_H N m level rSort (g_w_Above_L3 N m level rSort fuel):=by
 induction fuel with
 | zero=>intro _ _ r h;rw [g_w_Above_L3.eq_1] at h;cases h
 | succ fuel ih =>
  intro out x2 r h E hE
  rw [g_w_Above_L3.eq_2] at h
  refine Runs.nR hE 1 [] [] (kp [11,12,15,16,73,74,75,76]) (kq [0,1,2,3,4,5]) 22 pn ?_
  refine Runs.nC 1 76 h (fun hq7 h=>?_) (fun hq7 h=>?_)
  ·obtain ⟨c5,h⟩:=ifSome h
   obtain ⟨c6,h⟩:=ifSome h
   refine Runs.nR hE 4 [] [] (kp [11,12,15,16,17,18,73,74,75]) (kq [0,1,2,3,4,5]) 102 (pc c5 (pc (show (addz 1 (x2).toNat) < rSort.length by have h1:=c5;have h2:=c6;simp only [addz_eq];omega) pn)) ?_
   obtain ⟨c7,h⟩:=ifSome h
   refine Runs.nR hE 1 [] [] (kp [11,12,15,16,18,19,73,74,75]) (kq [0,1,2,3,4,5,166]) 198 (pc c7 (pc (ltOf c7) (pc o1 pn))) ?_
   obtain ⟨rAbove1,hr5,h⟩:=bindSome h
   obtain ⟨rAbove12,hr6,h⟩:=bindSome h
   refine Runs.nR hE 2 [(2,⟨[1,2],true,(aB rAbove1),[],0,false,none⟩),(6,⟨[1,2],true,(aB rAbove12),[],0,false,none⟩)] [] (kp [11,12,15,16,18,19,73,74,75,84]) (kq [0,1,2,3,4,5,166]) 342 (pc o1 (pc o1 (pc (g_w_Above_1_ok N (rSort.getD ((x2).toNat) 0) m level rAbove1 hr5) (pc (fun hg:rAbove1=true=>(pc o1 pn)) (pc (fun hg:rAbove1=true=>(pc (g_w_Above_1_ok N (rSort.getD (addz 1 (x2).toNat) 0) m level rAbove12 (condT hr6 hg)) (pc hg (pc hg pn)))) (pc (fun hq:rAbove1=true=>(pc hq pn)) pn)))))) ?_
   refine Runs.nC 0 84 h (fun hq8 h=>?_) (fun hq8 h=>?_)
   ·obtain ⟨rAbove2,hr7,h⟩:=bindSome h
    refine Runs.nR hE 0 [(3,⟨[4,5],false,(.tup []),[(0,vN 1 [(.os 2 0 rAbove2.length)]),(2,aO 2 TS__2_int.cells TS__2_int.d rAbove2)],0,false,none⟩)] [] (kp [11,12,15,16,73,74,75]) (kq [0,1,2,3,4,390]) 406 (pc o1 (pc (g_w_Above_2_ok N (rSort.getD ((x2).toNat) 0) (rSort.getD (addz 1 (x2).toNat) 0) out rAbove2 hr7) pn)) ?_
    exact Runs.nW hE 2 [] (kp [11,12,15,16,73,74,75]) (kq [0,1,2,3,4] ++ [(5,.keep 390)]) 6 pn (g_w_Above_J4_ok N _ _ _ _ _ ih _ _ h E hE)
   ·obtain ⟨rAbove13,hr8,h⟩:=bindSome h
    refine Runs.nR hE 1 [(2,⟨[1,2],true,(aB rAbove13),[],0,false,none⟩)] [] (kp [11,12,15,16,18,19,73,74,75,97]) (kq [0,1,2,3,4,5,166]) 406 (pc o1 (pc o1 (pc (g_w_Above_1_ok N (rSort.getD ((x2).toNat) 0) m level rAbove13 hr8) pn))) ?_
    refine Runs.nC 0 97 h (fun hq9 h=>?_) (fun hq9 h=>?_)
    ·obtain ⟨rSearch,hr9,h⟩:=bindSome h
     obtain ⟨rAbove22,hr10,h⟩:=bindSome h
     refine Runs.nR hE 0 [(8,⟨[0,1,2,166],true,(aI rSearch),[],0,false,none⟩),(10,⟨[4,5],false,(.tup []),[(0,vN 1 [(.os 2 0 rAbove22.length)]),(2,aO 2 TS__2_int.cells TS__2_int.d rAbove22)],0,false,none⟩)] [] (kp [11,12,15,16,73,74,75]) (kq [0,1,2,3,4,566]) 582 (pc o1 (pc o1 (pc o1 (pc (g_sort_Search_v2_ok N (w64 ((rSort.getD (addz 1 (x2).toNat) 0) - (rSort.getD ((x2).toNat) 0))) m level (rSort.getD ((x2).toNat) 0) rSearch hr9) (pc (g_w_Above_2_ok N (rSort.getD ((x2).toNat) 0) (w64 ((w64 ((rSort.getD ((x2).toNat) 0) - 1))+rSearch)) out rAbove22 hr10) pn))))) ?_
     exact Runs.nW hE 2 [] (kp [11,12,15,16,73,74,75]) (kq [0,1,2,3,4] ++ [(5,.keep 566)]) 6 pn (g_w_Above_J4_ok N _ _ _ _ _ ih _ _ h E hE)
    ·obtain ⟨rAbove14,hr11,h⟩:=bindSome h
     refine Runs.nR hE 1 [(2,⟨[1,2],true,(aB rAbove14),[],0,false,none⟩)] [] (kp [11,12,15,16,18,19,73,74,75,112]) (kq [0,1,2,3,4,5,166]) 470 (pc o1 (pc (g_w_Above_1_ok N (rSort.getD (addz 1 (x2).toNat) 0) m level rAbove14 hr11) pn)) ?_
     refine Runs.nC 0 112 h (fun hq10 h=>?_) (fun hq10 h=>?_)
     ·obtain ⟨rSearch2,hr12,h⟩:=bindSome h
      obtain ⟨rAbove23,hr13,h⟩:=bindSome h
      refine Runs.nR hE 0 [(6,⟨[0,1,2,166],true,(aI rSearch2),[],0,false,none⟩),(9,⟨[4,5],false,(.tup []),[(0,vN 1 [(.os 2 0 rAbove23.length)]),(2,aO 2 TS__2_int.cells TS__2_int.d rAbove23)],0,false,none⟩)] [] (kp [11,12,15,16,73,74,75]) (kq [0,1,2,3,4,614]) 630 (pc o1 (pc o1 (pc (g_sort_Search_v3_ok N (w64 ((rSort.getD (addz 1 (x2).toNat) 0) - (rSort.getD ((x2).toNat) 0))) m level (rSort.getD ((x2).toNat) 0) rSearch2 hr12) (pc (g_w_Above_2_ok N (w64 ((rSort.getD ((x2).toNat) 0)+rSearch2)) (rSort.getD (addz 1 (x2).toNat) 0) out rAbove23 hr13) pn)))) ?_
      exact Runs.nW hE 2 [] (kp [11,12,15,16,73,74,75]) (kq [0,1,2,3,4] ++ [(5,.keep 614)]) 6 pn (g_w_Above_J4_ok N _ _ _ _ _ ih _ _ h E hE)
     ·exact Runs.nW hE 3 [] (kp [11,12,15,16,73,74,75]) (kq [0,1,2,3,4,5]) 6 pn (g_w_Above_J4_ok N _ _ _ _ _ ih _ _ h E hE)
  ·refine Runs.nR hE 2 [] [] (kp [8,9]) (kq [5]) 70 (pc o1 pn) ?_
   obtain rfl:=Option.some.inj h
   exact Runs.nT hE 0 Try.f104 [5] ([(8,.sl (out.length) (fun zi=>TS__2_int.cells (out.getD zi TS__2_int.d)))] ++ kp [9]) [] 70 (pc (Eq.refl out.length) (pc (z1 out.length) (pc (show ∀ zi,zi < out.length→(fun zi=>TS__2_int.cells (out.getD zi TS__2_int.d)) zi=(fun zi=>TS__2_int.cells (out.getD zi TS__2_int.d)) (addz 0 zi) from (fun _ _=>rfl)) pn))) [] pn
theorem g_w_Above_L1_ok (N:Nat) (m:List TMark) (level:Int) (vfrom:Int) (vto:Int) (fuel:Nat):g_w_Above_L1_H N m level vfrom vto (g_w_Above_L1 N m level vfrom vto fuel):=by
 induction fuel with
 | zero=>intro _ _ r h;rw [g_w_Above_L1.eq_1] at h;cases h
 | succ fuel ih =>
  intro corners x r h E hE
  rw [g_w_Above_L1.eq_2] at h
  refine Runs.nR hE 1 [] [] (kp [2,3,11,12,47,48,49,50]) (kq [0,1,2,3]) 20 pn ?_
  refine Runs.nC 1 50 h (fun hq5 h=>?_) (fun hq5 h=>?_)
  ·obtain ⟨c,h⟩:=ifSome h
   refine Runs.nR hE 4 [] [] (kp [2,3,11,12,14,47,48,49]) (kq [0,1,2,3,52]) 84 (pc c (pc o1 pn)) ?_
   refine Runs.nR hE 1 [] [] (kp [2,3,11,12,14,47,48,49,62]) (kq [0,1,2,3,52]) 244 (pc o1 (pc (fun hg:(decide ((m.getD ((x).toNat) TMark.d).f_Minute > vfrom))=true=>(pc hg (pc o1 pn))) (pc (fun hg:(decide ((m.getD ((x).toNat) TMark.d).f_Minute > vfrom))=true=>(pc hg (pc hg pn))) (pc (fun hq:(decide ((m.getD ((x).toNat) TMark.d).f_Minute > vfrom))=true=>(pc hq pn)) pn)))) ?_
   refine Runs.nC 0 62 h (fun hq6 h=>?_) (fun hq6 h=>?_)
   ·obtain ⟨c2,h⟩:=ifSome h
    refine Runs.nR hE 0 [] [] (kp [2,3,11] ++ [(12,.osl ((corners ++ ([(m.getD ((x).toNat) TMark.d).f_Minute]:List Int)).length))] ++ kp [47,48,49]) (kq [0,1,2] ++ [(308,.arr 308 ((corners ++ ([(m.getD ((x).toNat) TMark.d).f_Minute]:List Int)).length) (fun zi=>cI ((corners ++ ([(m.getD ((x).toNat) TMark.d).f_Minute]:List Int)).getD zi 0)))]) 340 (pc o1 (pc (Eq.refl corners.length) (pc c2 (pc (z1 1) (pc (show ∀ zi,zi < 1→AV.oneL ((fun zi=>([[(aI ((m.getD ((x).toNat) TMark.d).f_Minute))]]:List (List AV)).getD zi []) (addz 0 zi))=true from (oneN rfl)) (pc (show (corners.length+1)=(corners ++ ([(m.getD ((x).toNat) TMark.d).f_Minute]:List Int)).length from (len_app_raw rfl rfl)) (pc (show corners.length+1=(corners ++ ([(m.getD ((x).toNat) TMark.d).f_Minute]:List Int)).length from (len_app_raw rfl rfl)) (pc (show ∀ zi,zi < (corners ++ ([(m.getD ((x).toNat) TMark.d).f_Minute]:List Int)).length→(fun zi=>cI ((corners ++ ([(m.getD ((x).toNat) TMark.d).f_Minute]:List Int)).getD zi 0)) zi=((fun zm=>if zm < corners.length then (fun zi=>cI (corners.getD zi 0)) zm else (fun zi=>([[(aI ((m.getD ((x).toNat) TMark.d).f_Minute))]]:List (List AV)).getD zi []) (zm - corners.length))) zi from (get_app_raw cI 0 corners ([(m.getD ((x).toNat) TMark.d).f_Minute]:List Int) rfl (fun _ _=>rfl) (fun zq hzq=>get_chunk cI 0 ([(m.getD ((x).toNat) TMark.d).f_Minute]:List Int) zq hzq))) pn)))))))) ?_
    exact Runs.nW hE 1 [] (kp [2,3,11,12,47,48,49]) (kq [0,1,2] ++ [(3,.keep 308)]) 4 pn (g_w_Above_J2_ok N _ _ _ _ _ _ ih _ _ h E hE)
   ·exact Runs.nW hE 2 [] (kp [2,3,11,12,47,48,49]) (kq [0,1,2,3]) 4 pn (g_w_Above_J2_ok N _ _ _ _ _ _ ih _ _ h E hE)
  ·obtain ⟨rSort,hr4,h⟩:=bindSome h
   obtain ⟨c3,h⟩:=ifSome h
   refine Runs.nR hE 2 [(1,⟨[3],false,(.tup []),[(0,aO 1 cI 0 rSort)],0,false,none⟩)] [] (kp [11] ++ [(12,.osl (rSort.length))]) (kq [0,1,2,3]) 52 (pc (g_slices_Sort_int_int_ok N corners rSort hr4) (pc (show corners.length=rSort.length from (Eq.symm c3)) pn)) ?_
   refine Runs.nR hE 1 [] [] (kp [11,12,15]) (kq [0,1,2,3,52]) 68 pn ?_
   refine Runs.nR hE 1 [] [] (kp [11,12,15,16]) (kq [0,1,2,3,52]) 100 pn ?_
   obtain ⟨c4,h⟩:=ifSome h
   refine Runs.nR hE 2 [] [] (kp [11,12,15,16,73,74,75]) (kq [0,1,2,3,52]) 164 (pc c4 (pc (show 0≤(1:Int) by decide) pn)) ?_
   exact Runs.nW hE 2 [] (kp [11,12,15,16,73,74,75]) (kq [0,1,2,3] ++ [(4,.var 52 [.nilos 5]),(5,.nil 2 (fun zi=>TS__2_int.cells (([]:List TS__2_int).getD zi TS__2_int.d)))]) 6 pn (g_w_Above_L3_ok N _ _ _ N _ _ _ h E hE)
theorem g_w_Above_ok (N:Nat) (m:List TMark) (level:Int) (vfrom:Int) (vto:Int) (r:(List TS__2_int)×Int) (h:g_w_Above N m level vfrom vto=some r):Sound Try.prog 104 [(encL TMark.cells TMark.d m),(aI level),(aI vfrom),(aI vto)] [] 0 (.tup [(encL TS__2_int.cells TS__2_int.d r.1),(aI r.2)]) []:=by
 unfold g_w_Above at h
 refine Sound.of_runs (fu:=Try.f104) (c:=C_51 1) (nt:=128) (by kernel_rfl) (by kernel_rfl) (by kernel_rfl) (by kernel_rfl) (fun hm=>rfl) ?_
 intro E hE
 refine Runs.nR hE 1 [] [] (kp [2,3,4,5]) (kq [0,16]) 64 pn ?_
 obtain ⟨rCheckSea,hr,h⟩:=bindSome h
 refine Runs.nR hE 2 [(1,⟨[],true,(aI rCheckSea),[],0,false,none⟩)] [] (kp [2,3,4,5,10]) (kq [0,16]) 112 (pc o1 (pc (g_w_CheckSea_ok N m rCheckSea hr) pn)) ?_
 refine Runs.nR hE 1 [] [] (kp [2,3,4,5,10,23]) (kq [0,16]) 144 pn ?_
 refine Runs.nC 0 23 h (fun hq2 h=>?_) (fun hq2 h=>?_)
 ·refine Runs.nR hE 1 [] [] (kp [8,9]) [] 192 pn ?_
  obtain rfl:=Option.some.inj h
  exact Runs.nT hE 0 Try.f104 [] ([(8,.sl (([]:List TS__2_int).length) (fun zi=>TS__2_int.cells (([]:List TS__2_int).getD zi TS__2_int.d)))] ++ kp [9]) [] 192 (pc (Eq.refl 0) pn) [] pn
 ·obtain ⟨rBt,hr2,h⟩:=bindSome h
  obtain ⟨rBt2,hr3,h⟩:=bindSome h
  refine Runs.nR hE 4 [(1,⟨[],true,(aB rBt),[],0,false,none⟩),(6,⟨[],true,(aB rBt2),[],0,false,none⟩)] [] (kp [2,3,4,5,25]) (kq [0,16]) 368 (pc o1 (pc (g_w_between_ok N level (-1000000) 1000000 rBt hr2) (pc (fun hg:(!(!rBt))=true=>(pc (g_w_between_ok N vfrom 0 vto rBt2 (condT hr3 hg)) (pc hg (pc hg pn)))) (pc (fun hg:(!(!rBt))=true=>(pc hg pn)) (pc (fun hq:(!(!rBt))=true=>(pc hq pn)) (pc (fun hg:(!(cond (!rBt) true (!rBt2)))=true=>(pc hg pn)) (pc (fun hq:(!(cond (!rBt) true (!rBt2)))=true=>(pc hq pn)) pn))))))) ?_
  refine Runs.nC 0 25 h (fun hq3 h=>?_) (fun hq3 h=>?_)
  ·refine Runs.nR hE 1 [] [] (kp [8,9]) [] 400 pn ?_
   obtain rfl:=Option.some.inj h
   exact Runs.nT hE 0 Try.f104 [] ([(8,.sl (([]:List TS__2_int).length) (fun zi=>TS__2_int.cells (([]:List TS__2_int).getD zi TS__2_int.d)))] ++ kp [9]) [] 400 (pc (Eq.refl 0) pn) [] pn
  ·refine Runs.nR hE 1 [] [] (kp [2,3,4,5,39]) (kq [0,16]) 432 (pc o1 pn) ?_
   refine Runs.nC 0 39 h (fun hq4 h=>?_) (fun hq4 h=>?_)
   ·refine Runs.nR hE 1 [] [] (kp [8,9]) [] 464 pn ?_
    obtain rfl:=Option.some.inj h
    exact Runs.nT hE 0 Try.f104 [] ([(8,.sl (([]:List TS__2_int).length) (fun zi=>TS__2_int.cells (([]:List TS__2_int).getD zi TS__2_int.d)))] ++ kp [9]) [] 464 (pc (Eq.refl 0) pn) [] pn
   ·refine Runs.nR hE 3 [] [] (kp [2,3,4,11]) (kq [0,16,448]) 480 (pc o1 pn) ?_
    refine Runs.nR hE 1 [] [] (kp [2,3,4,11] ++ [(12,.osl (([vfrom,vto]:List Int).length))]) (kq [0,16,448] ++ [(512,.arr 512 (([vfrom,vto]:List Int).length) (fun zi=>cI (([vfrom,vto]:List Int).getD zi 0)))]) 544 (pc (Eq.refl 2) (pc (Eq.refl 2) (pc (show ∀ zi,zi < ([vfrom,vto]:List Int).length→(fun zi=>cI (([vfrom,vto]:List Int).getD zi 0)) zi=(fun zi=>([[(aI vfrom)],[(aI vto)]]:List (List AV)).getD zi []) zi from (fun zq hzq=>get_chunk cI 0 ([vfrom,vto]:List Int) zq hzq)) pn))) ?_
    refine Runs.nR hE 2 [] [] (kp [2,3,11,12,47,48,49]) (kq [0,16,448,512]) 592 (pc o1 pn) ?_
    exact Runs.nW hE 2 [] (kp [2,3,11,12,47,48,49]) [(0,.keep 448),(1,.keep 0),(2,.keep 16),(3,.keep 512)] 4 pn (g_w_Above_L1_ok N _ _ _ _ N _ _ _ h E hE)
noncomputable def C_50 (n:Nat):Code:=cat (bodyOf Try.f84) (pth n)
theorem g_berth_passages_ok (N:Nat) (d:TDock) (c:TCall) (sea:List TMark) (r:(List TS__2_int)) (h:g_berth_passages N d c sea=some r):Sound Try.prog 84 [(.agg (TDock.cells d)),(.agg (TCall.cells c)),(encL TMark.cells TMark.d sea)] [] 0 (encL TS__2_int.cells TS__2_int.d r) []:=by
 unfold g_berth_passages at h
 refine Sound.of_runs (fu:=Try.f84) (c:=C_50 1) (nt:=34) (by kernel_rfl) (by kernel_rfl) (by kernel_rfl) (by kernel_rfl) (fun hm=>rfl) ?_
 intro E hE
 refine Runs.nR hE 1 [] [] (kp [2,3,4]) (kq [0,16]) 48 pn ?_
 refine Runs.nR hE 1 [] [] (kp [2,7]) [] 192 (pc o1 (pc o1 (pc o1 pn))) ?_
 refine Runs.nR hE 2 [] [] (kp [2,7,19]) [] 224 pn ?_
 refine Runs.nC 0 19 h (fun hq2 h=>?_) (fun hq2 h=>?_)
 ·refine Runs.nR hE 1 [] [] (kp [6]) [] 240 pn ?_
  obtain rfl:=Option.some.inj h
  exact Runs.nT hE 0 Try.f84 [] [(6,.sl (([]:List TS__2_int).length) (fun zi=>TS__2_int.cells (([]:List TS__2_int).getD zi TS__2_int.d)))] [] 240 (pc (Eq.refl 0) pn) [] pn
 ·obtain ⟨c2,h⟩:=ifSome h
  obtain ⟨rAbove,hr,h⟩:=bindSome h
  refine Runs.nR hE 2 [(9,⟨[],true,(.tup [(encL TS__2_int.cells TS__2_int.d rAbove.1),(aI rAbove.2)]),[],0,false,none⟩)] [] (kp [8]) [] 464 (pc c2 (pc (g_w_Above_ok N sea (w64 ((w64 (d.f_Sill+c.f_Draught))+c.f_Under)) 0 ((sea.getD ((w64 (((sea.length:Nat):Int) - 1)).toNat) TMark.d).f_Minute) rAbove hr) pn)) ?_
  refine Runs.nR hE 1 [] [] (kp [6]) [] 496 pn ?_
  obtain rfl:=Option.some.inj h
  exact Runs.nT hE 0 Try.f84 [] (kp [6]) [] 496 pn [] pn
noncomputable def C_49 (n:Nat):Code:=cat (bodyOf Try.f54) (pth n)
def g_berth_days_L1_H (N:Nat) (rpassages:(List TS__2_int)) (K:(List Int)→Int→Option ((List Int))):Prop:=∀ (out:List Int) (x:Int) (r:(List Int)),K out x=some r→∀ E,EnvOk E 0→Runs Try.prog E 54 68 (SPost E [] (encL cI 0 r)) [.code (C_49 116),.inLoop (C_49 116),.inBlock 0,.code (C_49 15)] ⟨[(7,(.os 0 0 out.length)),(15,(encL TS__2_int.cells TS__2_int.d rpassages)),(16,(aI ((rpassages.length:Nat):Int))),(17,(aI x))],[(0,aO 1 cI 0 out)],1⟩
def g_berth_days_L2_H (N:Nat) (rpassages:(List TS__2_int)) (x:Int) (K:(List Int)→Int→Option ((List Int))):Prop:=∀ (out2:List Int) (k:Int) (r:(List Int)),K out2 k=some r→∀ E,EnvOk E 0→Runs Try.prog E 54 68 (SPost E [] (encL cI 0 r)) [.code (C_49 29900),.inLoop (C_49 29900),.inBlock 2,.inBlock 1,.code (C_49 935),.inLoop (C_49 116),.inBlock 0,.code (C_49 15)] ⟨[(7,(.os 0 0 out2.length)),(9,(.op 1 0 0)),(10,(aI k)),(15,(encL TS__2_int.cells TS__2_int.d rpassages)),(16,(aI ((rpassages.length:Nat):Int))),(17,(aI x))],[(0,aO 1 cI 0 out2),(1,vO 2 (TS__2_int.cells (rpassages.getD ((x).toNat) TS__2_int.d)))],2⟩
def g_berth_days_J3_H (N:Nat) (rpassages:(List TS__2_int)) (x:Int) (k:Int) (K:(List Int)→Option ((List Int))):Prop:=∀ (out3:List Int) (r:(List Int)),K out3=some r→∀ E,EnvOk E 0→Runs Try.prog E 54 68 (SPost E [] (encL cI 0 r)) [.code (C_49 119603),.inLoop (C_49 29900),.inBlock 2,.inBlock 1,.code (C_49 935),.inLoop (C_49 116),.inBlock 0,.code (C_49 15)] ⟨[(7,(.os 0 0 out3.length)),(9,(.op 1 0 0)),(10,(aI k)),(15,(encL TS__2_int.cells TS__2_int.d rpassages)),(16,(aI ((rpassages.length:Nat):Int))),(17,(aI x))],[(0,aO 1 cI 0 out3),(1,vO 2 (TS__2_int.cells (rpassages.getD ((x).toNat) TS__2_int.d)))],2⟩
theorem g_berth_days_J3_ok (N:Nat) (rpassages:(List TS__2_int)) (x:Int) (k:Int) (K_g_berth_days_L2:(List Int)→Int→Option ((List Int))) (K_g_berth_days_L1:(List Int)→Int→Option ((List Int))) (hK_g_berth_days_L2:g_berth_days_L2_H N rpassages x K_g_berth_days_L2) (hK_g_berth_days_L1:g_berth_days_L1_H N rpassages K_g_berth_days_L1):g_berth_days_J3_H N rpassages x k (g_berth_days_J3 N rpassages x k K_g_berth_days_L2 K_g_berth_days_L1):=by
 intro out3 r h E hE
 unfold g_berth_days_J3 at h
 refine Runs.nR hE 0 [] [] (kp [7,9,10,15,16,17]) (kq [0,1]) 50 pn ?_
 exact Runs.nW hE 1 [] (kp [7,9,10,15,16,17]) (kq [0,1]) 2 pn (hK_g_berth_days_L2 _ _ _ h E hE)
theorem g_berth_days_L2_ok (N:Nat) (rpassages:(List TS__2_int)) (x:Int) (K_g_berth_days_L1:(List Int)→Int→Option ((List Int))) (hK_g_berth_days_L1:g_berth_days_L1_H N rpassages K_g_berth_days_L1) (fuel:Nat):g_berth_days_L2_H N rpassages x (g_berth_days_L2 N rpassages x K_g_berth_days_L1 fuel):=by
 induction fuel with
 | zero=>intro _ _ r h;rw [g_berth_days_L2.eq_1] at h;cases h
 | succ fuel ih =>
  intro out2 k r h E hE
  rw [g_berth_days_L2.eq_2] at h
  refine Runs.nR hE 2 [] [] (kp [7,9,10,15,16,17,28]) (kq [0,1]) 82 (pc (show 0≤(1:Int)∧(1:Int) < ((2:Nat):Int) by decide) (pc o1 pn)) ?_
  refine Runs.nC 0 28 h (fun hq3 h=>?_) (fun hq3 h=>?_)
  ·refine Runs.nR hE 4 [] [] (kp [7,9,10,11,15,16,17]) (kq [0,1]) 322 (pc (show 0≤(1:Int)∧(1:Int) < ((2:Nat):Int) by decide) (pc o1 (pc (show 0≤(0:Int)∧(0:Int) < ((2:Nat):Int) by decide) (pc o1 pn)))) ?_
   obtain ⟨c3,h⟩:=ifSome h
   refine Runs.nR hE 1 [] [] (kp [7,9,10,15,16,17,61]) (kq [0,1]) 594 (pc (fun hg:(decide ((w64 ((w64 ((if (w64 ((w64 ((w64 (k * 1440))+1440)) - 1)) < (rpassages.getD ((x).toNat) TS__2_int.d).e1 then (w64 ((w64 ((w64 (k * 1440))+1440)) - 1)) else (rpassages.getD ((x).toNat) TS__2_int.d).e1) - (if (w64 (k * 1440)) > (rpassages.getD ((x).toNat) TS__2_int.d).e0 then (w64 (k * 1440)) else (rpassages.getD ((x).toNat) TS__2_int.d).e0)))+1))≥30))=true=>(pc hg pn)) (pc (fun hg:(decide ((w64 ((w64 ((if (w64 ((w64 ((w64 (k * 1440))+1440)) - 1)) < (rpassages.getD ((x).toNat) TS__2_int.d).e1 then (w64 ((w64 ((w64 (k * 1440))+1440)) - 1)) else (rpassages.getD ((x).toNat) TS__2_int.d).e1) - (if (w64 (k * 1440)) > (rpassages.getD ((x).toNat) TS__2_int.d).e0 then (w64 (k * 1440)) else (rpassages.getD ((x).toNat) TS__2_int.d).e0)))+1))≥30))=true=>(pc hg pn)) (pc (fun hg:((decide ((w64 ((w64 ((if (w64 ((w64 ((w64 (k * 1440))+1440)) - 1)) < (rpassages.getD ((x).toNat) TS__2_int.d).e1 then (w64 ((w64 ((w64 (k * 1440))+1440)) - 1)) else (rpassages.getD ((x).toNat) TS__2_int.d).e1) - (if (w64 (k * 1440)) > (rpassages.getD ((x).toNat) TS__2_int.d).e0 then (w64 (k * 1440)) else (rpassages.getD ((x).toNat) TS__2_int.d).e0)))+1))≥30)) && ((decide ((w64 ((w64 ((if (w64 ((w64 ((w64 (k * 1440))+1440)) - 1)) < (rpassages.getD ((x).toNat) TS__2_int.d).e1 then (w64 ((w64 ((w64 (k * 1440))+1440)) - 1)) else (rpassages.getD ((x).toNat) TS__2_int.d).e1) - (if (w64 (k * 1440)) > (rpassages.getD ((x).toNat) TS__2_int.d).e0 then (w64 (k * 1440)) else (rpassages.getD ((x).toNat) TS__2_int.d).e0)))+1))≥30)) && (!(((out2.length:Nat):Int) == 0))))=true=>(pc hg pn)) (pc (fun hg:((decide ((w64 ((w64 ((if (w64 ((w64 ((w64 (k * 1440))+1440)) - 1)) < (rpassages.getD ((x).toNat) TS__2_int.d).e1 then (w64 ((w64 ((w64 (k * 1440))+1440)) - 1)) else (rpassages.getD ((x).toNat) TS__2_int.d).e1) - (if (w64 (k * 1440)) > (rpassages.getD ((x).toNat) TS__2_int.d).e0 then (w64 (k * 1440)) else (rpassages.getD ((x).toNat) TS__2_int.d).e0)))+1))≥30)) && ((decide ((w64 ((w64 ((if (w64 ((w64 ((w64 (k * 1440))+1440)) - 1)) < (rpassages.getD ((x).toNat) TS__2_int.d).e1 then (w64 ((w64 ((w64 (k * 1440))+1440)) - 1)) else (rpassages.getD ((x).toNat) TS__2_int.d).e1) - (if (w64 (k * 1440)) > (rpassages.getD ((x).toNat) TS__2_int.d).e0 then (w64 (k * 1440)) else (rpassages.getD ((x).toNat) TS__2_int.d).e0)))+1))≥30)) && (!(((out2.length:Nat):Int) == 0))))=true=>(pc hg pn)) (pc (fun hg:((decide ((w64 ((w64 ((if (w64 ((w64 ((w64 (k * 1440))+1440)) - 1)) < (rpassages.getD ((x).toNat) TS__2_int.d).e1 then (w64 ((w64 ((w64 (k * 1440))+1440)) - 1)) else (rpassages.getD ((x).toNat) TS__2_int.d).e1) - (if (w64 (k * 1440)) > (rpassages.getD ((x).toNat) TS__2_int.d).e0 then (w64 (k * 1440)) else (rpassages.getD ((x).toNat) TS__2_int.d).e0)))+1))≥30)) && ((decide ((w64 ((w64 ((if (w64 ((w64 ((w64 (k * 1440))+1440)) - 1)) < (rpassages.getD ((x).toNat) TS__2_int.d).e1 then (w64 ((w64 ((w64 (k * 1440))+1440)) - 1)) else (rpassages.getD ((x).toNat) TS__2_int.d).e1) - (if (w64 (k * 1440)) > (rpassages.getD ((x).toNat) TS__2_int.d).e0 then (w64 (k * 1440)) else (rpassages.getD ((x).toNat) TS__2_int.d).e0)))+1))≥30)) && (!(((out2.length:Nat):Int) == 0))))=true=>(pc hg (pc hg (pc (c3 hg) pn)))) (pc (fun hg:((decide ((w64 ((w64 ((if (w64 ((w64 ((w64 (k * 1440))+1440)) - 1)) < (rpassages.getD ((x).toNat) TS__2_int.d).e1 then (w64 ((w64 ((w64 (k * 1440))+1440)) - 1)) else (rpassages.getD ((x).toNat) TS__2_int.d).e1) - (if (w64 (k * 1440)) > (rpassages.getD ((x).toNat) TS__2_int.d).e0 then (w64 (k * 1440)) else (rpassages.getD ((x).toNat) TS__2_int.d).e0)))+1))≥30)) && ((decide ((w64 ((w64 ((if (w64 ((w64 ((w64 (k * 1440))+1440)) - 1)) < (rpassages.getD ((x).toNat) TS__2_int.d).e1 then (w64 ((w64 ((w64 (k * 1440))+1440)) - 1)) else (rpassages.getD ((x).toNat) TS__2_int.d).e1) - (if (w64 (k * 1440)) > (rpassages.getD ((x).toNat) TS__2_int.d).e0 then (w64 (k * 1440)) else (rpassages.getD ((x).toNat) TS__2_int.d).e0)))+1))≥30)) && (!(((out2.length:Nat):Int) == 0))))=true=>(pc hg (pc (ltOf (c3 hg)) pn))) (pc (fun hg:((decide ((w64 ((w64 ((if (w64 ((w64 ((w64 (k * 1440))+1440)) - 1)) < (rpassages.getD ((x).toNat) TS__2_int.d).e1 then (w64 ((w64 ((w64 (k * 1440))+1440)) - 1)) else (rpassages.getD ((x).toNat) TS__2_int.d).e1) - (if (w64 (k * 1440)) > (rpassages.getD ((x).toNat) TS__2_int.d).e0 then (w64 (k * 1440)) else (rpassages.getD ((x).toNat) TS__2_int.d).e0)))+1))≥30)) && ((decide ((w64 ((w64 ((if (w64 ((w64 ((w64 (k * 1440))+1440)) - 1)) < (rpassages.getD ((x).toNat) TS__2_int.d).e1 then (w64 ((w64 ((w64 (k * 1440))+1440)) - 1)) else (rpassages.getD ((x).toNat) TS__2_int.d).e1) - (if (w64 (k * 1440)) > (rpassages.getD ((x).toNat) TS__2_int.d).e0 then (w64 (k * 1440)) else (rpassages.getD ((x).toNat) TS__2_int.d).e0)))+1))≥30)) && (!(((out2.length:Nat):Int) == 0))))=true=>(pc hg (pc hg pn))) (pc (fun hg:(decide ((w64 ((w64 ((if (w64 ((w64 ((w64 (k * 1440))+1440)) - 1)) < (rpassages.getD ((x).toNat) TS__2_int.d).e1 then (w64 ((w64 ((w64 (k * 1440))+1440)) - 1)) else (rpassages.getD ((x).toNat) TS__2_int.d).e1) - (if (w64 (k * 1440)) > (rpassages.getD ((x).toNat) TS__2_int.d).e0 then (w64 (k * 1440)) else (rpassages.getD ((x).toNat) TS__2_int.d).e0)))+1))≥30))=true=>(pc hg (pc hg (pc (fun hq:(!(((out2.length:Nat):Int) == 0))=true=>(pc (show ((decide ((w64 ((w64 ((if (w64 ((w64 ((w64 (k * 1440))+1440)) - 1)) < (rpassages.getD ((x).toNat) TS__2_int.d).e1 then (w64 ((w64 ((w64 (k * 1440))+1440)) - 1)) else (rpassages.getD ((x).toNat) TS__2_int.d).e1) - (if (w64 (k * 1440)) > (rpassages.getD ((x).toNat) TS__2_int.d).e0 then (w64 (k * 1440)) else (rpassages.getD ((x).toNat) TS__2_int.d).e0)))+1))≥30)) && ((decide ((w64 ((w64 ((if (w64 ((w64 ((w64 (k * 1440))+1440)) - 1)) < (rpassages.getD ((x).toNat) TS__2_int.d).e1 then (w64 ((w64 ((w64 (k * 1440))+1440)) - 1)) else (rpassages.getD ((x).toNat) TS__2_int.d).e1) - (if (w64 (k * 1440)) > (rpassages.getD ((x).toNat) TS__2_int.d).e0 then (w64 (k * 1440)) else (rpassages.getD ((x).toNat) TS__2_int.d).e0)))+1))≥30)) && (!(((out2.length:Nat):Int) == 0))))=true from (andI' hg (andI' hg hq))) pn)) pn)))) (pc (fun hq:(decide ((w64 ((w64 ((if (w64 ((w64 ((w64 (k * 1440))+1440)) - 1)) < (rpassages.getD ((x).toNat) TS__2_int.d).e1 then (w64 ((w64 ((w64 (k * 1440))+1440)) - 1)) else (rpassages.getD ((x).toNat) TS__2_int.d).e1) - (if (w64 (k * 1440)) > (rpassages.getD ((x).toNat) TS__2_int.d).e0 then (w64 (k * 1440)) else (rpassages.getD ((x).toNat) TS__2_int.d).e0)))+1))≥30))=true=>(pc hq pn)) pn))))))))) ?_
   refine Runs.nC 0 61 h (fun hq4 h=>?_) (fun hq4 h=>?_)
   ·obtain ⟨c4,h⟩:=ifSome h
    refine Runs.nR hE 0 [] [] ([(7,.osl ((out2 ++ ([k]:List Int)).length))] ++ kp [9,10,15,16,17]) (kq [1] ++ [(642,.arr 642 ((out2 ++ ([k]:List Int)).length) (fun zi=>cI ((out2 ++ ([k]:List Int)).getD zi 0)))]) 674 (pc (Eq.refl out2.length) (pc c4 (pc (z1 1) (pc (show ∀ zi,zi < 1→AV.oneL ((fun zi=>([[(aI k)]]:List (List AV)).getD zi []) (addz 0 zi))=true from (oneN rfl)) (pc (show (out2.length+1)=(out2 ++ ([k]:List Int)).length from (len_app_raw rfl rfl)) (pc (show out2.length+1=(out2 ++ ([k]:List Int)).length from (len_app_raw rfl rfl)) (pc (show ∀ zi,zi < (out2 ++ ([k]:List Int)).length→(fun zi=>cI ((out2 ++ ([k]:List Int)).getD zi 0)) zi=((fun zm=>if zm < out2.length then (fun zi=>cI (out2.getD zi 0)) zm else (fun zi=>([[(aI k)]]:List (List AV)).getD zi []) (zm - out2.length))) zi from (get_app_raw cI 0 out2 ([k]:List Int) rfl (fun _ _=>rfl) (fun zq hzq=>get_chunk cI 0 ([k]:List Int) zq hzq))) pn))))))) ?_
    exact Runs.nW hE 1 [] (kp [7,9,10,15,16,17]) ([(0,.keep 642)] ++ kq [1]) 2 pn (g_berth_days_J3_ok N _ _ _ _ _ ih hK_g_berth_days_L1 _ _ h E hE)
   ·exact Runs.nW hE 2 [] (kp [7,9,10,15,16,17]) (kq [0,1]) 2 pn (g_berth_days_J3_ok N _ _ _ _ _ ih hK_g_berth_days_L1 _ _ h E hE)
  ·refine Runs.nR hE 2 [] [] (kp [7,15,16,17]) (kq [0]) 114 pn ?_
   exact Runs.nW hE 1 [] (kp [7,15,16,17]) (kq [0]) 1 pn (hK_g_berth_days_L1 _ _ _ h E hE)
theorem g_berth_days_L1_ok (N:Nat) (rpassages:(List TS__2_int)) (fuel:Nat):g_berth_days_L1_H N rpassages (g_berth_days_L1 N rpassages fuel):=by
 induction fuel with
 | zero=>intro _ _ r h;rw [g_berth_days_L1.eq_1] at h;cases h
 | succ fuel ih =>
  intro out x r h E hE
  rw [g_berth_days_L1.eq_2] at h
  refine Runs.nR hE 1 [] [] (kp [7,15,16,17,18]) (kq [0]) 17 pn ?_
  refine Runs.nC 1 18 h (fun hq2 h=>?_) (fun hq2 h=>?_)
  ·obtain ⟨c2,h⟩:=ifSome h
   refine Runs.nR hE 4 [] [] (kp [7,9,15,16,17]) (kq [0,49]) 81 (pc c2 (pc o1 pn)) ?_
   refine Runs.nR hE 1 [] [] (kp [7,9,10,15,16,17]) (kq [0,49]) 145 (pc (show 0≤(0:Int)∧(0:Int) < ((2:Nat):Int) by decide) (pc o1 (pc (show (1440:Int)≠0 by decide) pn))) ?_
   exact Runs.nW hE 2 [] (kp [7,9,10,15,16,17]) (kq [0] ++ [(1,.keep 49)]) 2 pn (g_berth_days_L2_ok N _ _ _ ih N _ _ _ h E hE)
  ·refine Runs.nR hE 2 [] [] (kp [6]) (kq [0]) 49 pn ?_
   obtain rfl:=Option.some.inj h
   exact Runs.nT hE 0 Try.f54 [0] [(6,.sl (out.length) (fun zi=>cI (out.getD zi 0)))] [] 49 (pc (Eq.refl out.length) (pc (z1 out.length) (pc (show ∀ zi,zi < out.length→(fun zi=>cI (out.getD zi 0)) zi=(fun zi=>cI (out.getD zi 0)) (addz 0 zi) from (fun _ _=>rfl)) pn))) [] pn
theorem g_berth_days_ok (N:Nat) (d:TDock) (c:TCall) (sea:List TMark) (r:(List Int)) (h:g_berth_days N d c sea=some r):Sound Try.prog 54 [(.agg (TDock.cells d)),(.agg (TCall.cells c)),(encL TMark.cells TMark.d sea)] [] 0 (encL cI 0 r) []:=by
 unfold g_berth_days at h
 refine Sound.of_runs (fu:=Try.f54) (c:=C_49 1) (nt:=68) (by kernel_rfl) (by kernel_rfl) (by kernel_rfl) (by kernel_rfl) (fun hm=>rfl) ?_
 intro E hE
 refine Runs.nR hE 1 [] [] (kp [2,3,4]) (kq [0,16]) 48 pn ?_
 refine Runs.nR hE 1 [] [] (kp [2,3,4,7]) (kq [0,16]) 64 pn ?_
 obtain ⟨rpassages,hr,h⟩:=bindSome h
 refine Runs.nR hE 2 [(3,⟨[],true,(encL TS__2_int.cells TS__2_int.d rpassages),[],0,false,none⟩)] [] (kp [7,15,16,17]) [] 160 (pc o1 (pc o1 (pc (g_berth_passages_ok N d c sea rpassages hr) pn))) ?_
 exact Runs.nW hE 2 [] ([(7,.nilos 0)] ++ kp [15,16,17]) [(0,.nil 1 (fun zi=>cI (([]:List Int).getD zi 0)))] 1 pn (g_berth_days_L1_ok N _ N _ _ _ h E hE)
noncomputable def C_82 (n:Nat):Code:=cat (bodyOf Try.f85) (pth n)
def g_slices_Index_int_int_L1_H (N:Nat) (s:List Int) (v:Int) (K:Int→Option (Int)):Prop:=∀ (x:Int) (r:Int),K x=some r→∀ E,EnvOk E 0→Runs Try.prog E 85 19 (SPost E [] (aI r)) [.code (C_82 52),.inLoop (C_82 52),.inBlock 0,.code (C_82 7)] ⟨[(0,(encL cI 0 s)),(1,(aI v)),(7,(aI ((s.length:Nat):Int))),(8,(aI x))],[],0⟩
theorem g_slices_Index_int_int_L1_ok (N:Nat) (s:List Int) (v:Int) (fuel:Nat):g_slices_Index_int_int_L1_H N s v (g_slices_Index_int_int_L1 N s v fuel):=by
 induction fuel with
 | zero=>intro _ r h;rw [g_slices_Index_int_int_L1.eq_1] at h;cases h
 | succ fuel ih =>
  intro x r h E hE
  rw [g_slices_Index_int_int_L1.eq_2] at h
  refine Runs.nR hE 1 [] [] (kp [0,1,7,8,9]) [] 16 pn ?_
  refine Runs.nC 1 9 h (fun hq2 h=>?_) (fun hq2 h=>?_)
  ·refine Runs.nR hE 4 [] [] (kp [0,1,5,7,8]) [] 48 pn ?_
   obtain ⟨c,h⟩:=ifSome h
   refine Runs.nR hE 1 [] [] (kp [0,1,5,7,8,16]) [] 144 (pc c pn) ?_
   refine Runs.nC 0 16 h (fun hq3 h=>?_) (fun hq3 h=>?_)
   ·refine Runs.nR hE 1 [] [] (kp [4]) [] 176 pn ?_
    obtain rfl:=Option.some.inj h
    exact Runs.nT hE 0 Try.f85 [] (kp [4]) [] 176 pn [] pn
   ·refine Runs.nR hE 2 [] [] (kp [0,1,7,8]) [] 176 pn ?_
    exact Runs.nW hE 1 [] (kp [0,1,7,8]) [] 0 pn (ih _ _ h E hE)
  ·refine Runs.nR hE 2 [] [] (kp [4]) [] 32 pn ?_
   obtain rfl:=Option.some.inj h
   exact Runs.nT hE 0 Try.f85 [] (kp [4]) [] 48 pn [] pn
theorem g_slices_Index_int_int_ok (N:Nat) (s:List Int) (v:Int) (r:Int) (h:g_slices_Index_int_int N s v=some r):Sound Try.prog 85 [(encL cI 0 s),(aI v)] [] 0 (aI r) []:=by
 unfold g_slices_Index_int_int at h
 refine Sound.of_runs (fu:=Try.f85) (c:=C_82 1) (nt:=19) (by kernel_rfl) (by kernel_rfl) (by kernel_rfl) (by kernel_rfl) (fun hm=>rfl) ?_
 intro E hE
 refine Runs.nR hE 1 [] [] (kp [0,1]) [] 16 pn ?_
 refine Runs.nR hE 2 [] [] (kp [0,1,7,8]) [] 64 pn ?_
 exact Runs.nW hE 2 [] (kp [0,1,7,8]) [] 0 pn (g_slices_Index_int_int_L1_ok N _ _ N _ _ h E hE)
noncomputable def C_81 (n:Nat):Code:=cat (bodyOf Try.f55) (pth n)
theorem g_slices_Contains_int_int_ok (N:Nat) (s:List Int) (v:Int) (r:Bool) (h:g_slices_Contains_int_int N s v=some r):Sound Try.prog 55 [(encL cI 0 s),(aI v)] [] 0 (aB r) []:=by
 unfold g_slices_Contains_int_int at h
 refine Sound.of_runs (fu:=Try.f55) (c:=C_81 1) (nt:=9) (by kernel_rfl) (by kernel_rfl) (by kernel_rfl) (by kernel_rfl) (fun hm=>rfl) ?_
 intro E hE
 refine Runs.nR hE 1 [] [] (kp [0,1]) [] 16 pn ?_
 obtain ⟨rIndex,hr,h⟩:=bindSome h
 refine Runs.nR hE 1 [(2,⟨[],true,(aI rIndex),[],0,false,none⟩)] [] (kp [4]) [] 96 (pc (g_slices_Index_int_int_ok N s v rIndex hr) pn) ?_
 obtain rfl:=Option.some.inj h
 exact Runs.nT hE 0 Try.f55 [] (kp [4]) [] 96 pn [] pn
end Go.Den
