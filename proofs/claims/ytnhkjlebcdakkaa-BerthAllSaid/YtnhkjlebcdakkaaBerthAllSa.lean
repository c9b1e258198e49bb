/- Each function of the program does what its Lean function computes (part 1). No conditions. -/
import Derived.Test.YtnhkjlebcdakkaaBerthAllDen
import Derived.Test.YtnhkjlebcdakkaaProg
set_option linter.unusedVariables false
set_option maxRecDepth 100000
namespace Go.Den
open Go.Ab Go.Proofs
noncomputable def C_6 (n:Nat):Code:=cat (bodyOf Try.f93) (pth n)
theorem g_berth_CheckDocks_1_ok (N:Nat) (x:TDock) (r:ByteArray) (h:g_berth_CheckDocks_1 N x=some r):Sound Try.prog 93 [(.agg (TDock.cells x))] [] 0 (aS r) []:=by
 unfold g_berth_CheckDocks_1 at h
 refine Sound.of_runs (fu:=Try.f93) (c:=C_6 1) (nt:=5) (by kernel_rfl) (by kernel_rfl) (by kernel_rfl) (by kernel_rfl) (fun hm=>rfl) ?_
 intro E hE
 refine Runs.nR hE 1 [] [] (kp [1]) (kq [0]) 32 pn ?_
 refine Runs.nR hE 1 [] [] (kp [2]) [] 80 (pc o1 pn) ?_
 obtain rfl:=Option.some.inj h
 exact Runs.nT hE 0 Try.f93 [] (kp [2]) [] 80 pn [] pn
noncomputable def C_7 (n:Nat):Code:=cat (bodyOf Try.f109) (pth n)
def g_berth_named_L1_H (N:Nat) (s:ByteArray) (K:Int→Option (Bool)):Prop:=∀ (x:Int) (r:Bool),K x=some r→∀ E,EnvOk E 0→Runs Try.prog E 109 57 (SPost E [] (aB r)) [.code (C_7 116),.inLoop (C_7 116),.inBlock 0,.code (C_7 15)] ⟨[(0,(aS s)),(15,(aI ((s.size:Nat):Int))),(16,(aI x))],[],0⟩
theorem g_berth_named_L1_ok (N:Nat) (s:ByteArray) (fuel:Nat):g_berth_named_L1_H N s (g_berth_named_L1 N s fuel):=by
 induction fuel with
 | zero=>intro _ r h;rw [g_berth_named_L1.eq_1] at h;cases h
 | succ fuel ih =>
  intro x r h E hE
  rw [g_berth_named_L1.eq_2] at h
  refine Runs.nR hE 1 [] [] (kp [0,15,16,17]) [] 16 pn ?_
  refine Runs.nC 1 17 h (fun hq3 h=>?_) (fun hq3 h=>?_)
  ·refine Runs.nR hE 4 [] [] (kp [0,3,15,16]) [] 48 pn ?_
   obtain ⟨c,h⟩:=ifSome h
   refine Runs.nR hE 1 [] [] (kp [0,3,4,15,16]) [] 112 (pc c pn) ?_
   refine Runs.nR hE 1 [] [] (kp [0,3,4,5,15,16]) [] 352 (pc (fun hg:(decide ((byteAt s ((x).toNat))≥97))=true=>(pc hg pn)) (pc (fun hq:(decide ((byteAt s ((x).toNat))≥97))=true=>(pc hq pn)) (pc (fun hg:(!(cond (decide ((byteAt s ((x).toNat))≥97)) (decide ((byteAt s ((x).toNat))≤122)) false))=true=>(pc hg pn)) (pc (fun hg:((!(cond (decide ((byteAt s ((x).toNat))≥97)) (decide ((byteAt s ((x).toNat))≤122)) false)) && ((!(cond (decide ((byteAt s ((x).toNat))≥97)) (decide ((byteAt s ((x).toNat))≤122)) false)) && (decide ((byteAt s ((x).toNat))≥65))))=true=>(pc hg pn)) (pc (fun hg:(!(cond (decide ((byteAt s ((x).toNat))≥97)) (decide ((byteAt s ((x).toNat))≤122)) false))=true=>(pc hg (pc hg (pc (fun hq:(decide ((byteAt s ((x).toNat))≥65))=true=>(pc (show ((!(cond (decide ((byteAt s ((x).toNat))≥97)) (decide ((byteAt s ((x).toNat))≤122)) false)) && ((!(cond (decide ((byteAt s ((x).toNat))≥97)) (decide ((byteAt s ((x).toNat))≤122)) false)) && (decide ((byteAt s ((x).toNat))≥65))))=true from (andI' hg (andI' hg hq))) pn)) pn)))) (pc (fun hq:(!(cond (decide ((byteAt s ((x).toNat))≥97)) (decide ((byteAt s ((x).toNat))≤122)) false))=true=>(pc hq pn)) pn)))))) ?_
   refine Runs.nR hE 1 [] [] (kp [0,3,5,6,15,16]) [] 528 (pc (fun hg:(decide ((byteAt s ((x).toNat))≥48))=true=>(pc hg pn)) (pc (fun hq:(decide ((byteAt s ((x).toNat))≥48))=true=>(pc hq pn)) (pc (fun hg:(!(cond (decide ((byteAt s ((x).toNat))≥48)) (decide ((byteAt s ((x).toNat))≤57)) false))=true=>(pc hg pn)) (pc (fun hq:(!(cond (decide ((byteAt s ((x).toNat))≥48)) (decide ((byteAt s ((x).toNat))≤57)) false))=true=>(pc hq pn)) pn)))) ?_
   refine Runs.nR hE 1 [] [] (kp [0,15,16,55]) [] 688 (pc (fun hg:(!(cond (cond (decide ((byteAt s ((x).toNat))≥97)) (decide ((byteAt s ((x).toNat))≤122)) false) true (cond (decide ((byteAt s ((x).toNat))≥65)) (decide ((byteAt s ((x).toNat))≤90)) false)))=true=>(pc hg pn)) (pc (fun hg:((!(cond (cond (decide ((byteAt s ((x).toNat))≥97)) (decide ((byteAt s ((x).toNat))≤122)) false) true (cond (decide ((byteAt s ((x).toNat))≥65)) (decide ((byteAt s ((x).toNat))≤90)) false))) && ((!(cond (cond (decide ((byteAt s ((x).toNat))≥97)) (decide ((byteAt s ((x).toNat))≤122)) false) true (cond (decide ((byteAt s ((x).toNat))≥65)) (decide ((byteAt s ((x).toNat))≤90)) false))) && (!(x == 0))))=true=>(pc hg pn)) (pc (fun hg:(!(cond (cond (decide ((byteAt s ((x).toNat))≥97)) (decide ((byteAt s ((x).toNat))≤122)) false) true (cond (decide ((byteAt s ((x).toNat))≥65)) (decide ((byteAt s ((x).toNat))≤90)) false)))=true=>(pc hg (pc hg (pc (fun hq:(!(x == 0))=true=>(pc (show ((!(cond (cond (decide ((byteAt s ((x).toNat))≥97)) (decide ((byteAt s ((x).toNat))≤122)) false) true (cond (decide ((byteAt s ((x).toNat))≥65)) (decide ((byteAt s ((x).toNat))≤90)) false))) && ((!(cond (cond (decide ((byteAt s ((x).toNat))≥97)) (decide ((byteAt s ((x).toNat))≤122)) false) true (cond (decide ((byteAt s ((x).toNat))≥65)) (decide ((byteAt s ((x).toNat))≤90)) false))) && (!(x == 0))))=true from (andI' hg (andI' hg hq))) pn)) pn)))) (pc (fun hq:(!(cond (cond (decide ((byteAt s ((x).toNat))≥97)) (decide ((byteAt s ((x).toNat))≤122)) false) true (cond (decide ((byteAt s ((x).toNat))≥65)) (decide ((byteAt s ((x).toNat))≤90)) false)))=true=>(pc hq pn)) pn)))) ?_
   refine Runs.nC 0 55 h (fun hq4 h=>?_) (fun hq4 h=>?_)
   ·refine Runs.nR hE 1 [] [] (kp [2]) [] 704 pn ?_
    obtain rfl:=Option.some.inj h
    exact Runs.nT hE 0 Try.f109 [] (kp [2]) [] 704 pn [] pn
   ·refine Runs.nR hE 2 [] [] (kp [0,15,16]) [] 720 pn ?_
    exact Runs.nW hE 1 [] (kp [0,15,16]) [] 0 pn (ih _ _ h E hE)
  ·refine Runs.nR hE 2 [] [] (kp [2]) [] 32 pn ?_
   obtain rfl:=Option.some.inj h
   exact Runs.nT hE 0 Try.f109 [] (kp [2]) [] 48 pn [] pn
theorem g_berth_named_ok (N:Nat) (s:ByteArray) (r:Bool) (h:g_berth_named N s=some r):Sound Try.prog 109 [(aS s)] [] 0 (aB r) []:=by
 unfold g_berth_named at h
 refine Sound.of_runs (fu:=Try.f109) (c:=C_7 1) (nt:=57) (by kernel_rfl) (by kernel_rfl) (by kernel_rfl) (by kernel_rfl) (fun hm=>rfl) ?_
 intro E hE
 refine Runs.nR hE 1 [] [] (kp [0]) [] 16 pn ?_
 refine Runs.nR hE 2 [] [] (kp [0,13]) [] 128 (pc (fun hg:(!(streq s ByteArray.empty))=true=>(pc hg pn)) (pc (fun hg:(!(streq s ByteArray.empty))=true=>(pc hg pn)) (pc (fun hq:(!(streq s ByteArray.empty))=true=>(pc hq pn)) pn))) ?_
 refine Runs.nC 0 13 h (fun hq2 h=>?_) (fun hq2 h=>?_)
 ·refine Runs.nR hE 1 [] [] (kp [2]) [] 144 pn ?_
  obtain rfl:=Option.some.inj h
  exact Runs.nT hE 0 Try.f109 [] (kp [2]) [] 144 pn [] pn
 ·refine Runs.nR hE 3 [] [] (kp [0,15,16]) [] 176 pn ?_
  exact Runs.nW hE 2 [] (kp [0,15,16]) [] 0 pn (g_berth_named_L1_ok N _ N _ _ h E hE)
noncomputable def C_10 (n:Nat):Code:=cat (bodyOf Try.f111) (pth n)
theorem g_berth_check_Dock_1_ok (N:Nat) (y:TDock) (cap1:TDock) (r:Bool) (h:g_berth_check_Dock_1 N y cap1=some r):Sound Try.prog 111 [(.agg (TDock.cells y)),(.op 0 0 0),(.op 1 0 0)] [(0,vO 1 [(.fn (.func 93) [] [])]),(1,vO 6 (TDock.cells cap1))] 2 (aB r) [(0,vO 1 [(.fn (.func 93) [] [])]),(1,vO 6 (TDock.cells cap1))]:=by
 unfold g_berth_check_Dock_1 at h
 refine Sound.of_runs (fu:=Try.f111) (c:=C_10 1) (nt:=12) (by kernel_rfl) (by kernel_rfl) (by kernel_rfl) (by kernel_rfl) (fun hm=>absurd hm (by decide)) ?_
 intro E hE
 refine Runs.nR hE 1 [] [] (kp [1,2,3]) (kq [0,1,2]) 34 pn ?_
 obtain ⟨rCheckDocks1,hr,h⟩:=bindSome h
 obtain ⟨rCheckDocks12,hr2,h⟩:=bindSome h
 refine Runs.nR hE 1 [(2,⟨[],true,(aS rCheckDocks1),[],0,false,none⟩),(5,⟨[],true,(aS rCheckDocks12),[],0,false,none⟩)] [] (kp [4]) (kq [0,1]) 162 (pc o1 (pc o1 (pc (g_berth_CheckDocks_1_ok N y rCheckDocks1 hr) (pc o1 (pc o1 (pc (g_berth_CheckDocks_1_ok N cap1 rCheckDocks12 hr2) pn)))))) ?_
 obtain rfl:=Option.some.inj h
 exact Runs.nT hE 0 Try.f111 [] (kp [4]) (kq [0,1]) 162 pn [] pn
noncomputable def C_9 (n:Nat):Code:=cat (bodyOf Try.f49) (pth n)
def g_slices_IndexFunc_api_Dock_api_Dock_L1_H (N:Nat) (s:List TDock) (cap1:TDock) (K:Int→Option (Int)):Prop:=∀ (x:Int) (r:Int),K x=some r→∀ E,EnvOk E 2→Runs Try.prog E 49 19 (SPost E [(0,vO 1 [(.fn (.func 93) [] [])]),(1,vO 6 (TDock.cells cap1))] (aI r)) [.code (C_9 52),.inLoop (C_9 52),.inBlock 0,.code (C_9 7)] ⟨[(0,(encL TDock.cells TDock.d s)),(1,(.fn (.func 111) [] [(.op 0 0 0),(.op 1 0 0)])),(7,(aI ((s.length:Nat):Int))),(8,(aI x))],[(0,vO 1 [(.fn (.func 93) [] [])]),(1,vO 6 (TDock.cells cap1))],2⟩
theorem g_slices_IndexFunc_api_Dock_api_Dock_L1_ok (N:Nat) (s:List TDock) (cap1:TDock) (fuel:Nat):g_slices_IndexFunc_api_Dock_api_Dock_L1_H N s cap1 (g_slices_IndexFunc_api_Dock_api_Dock_L1 N s cap1 fuel):=by
 induction fuel with
 | zero=>intro _ r h;rw [g_slices_IndexFunc_api_Dock_api_Dock_L1.eq_1] at h;cases h
 | succ fuel ih =>
  intro x r h E hE
  rw [g_slices_IndexFunc_api_Dock_api_Dock_L1.eq_2] at h
  refine Runs.nR hE 1 [] [] (kp [0,1,7,8,9]) (kq [0,1]) 18 pn ?_
  refine Runs.nC 1 9 h (fun hq2 h=>?_) (fun hq2 h=>?_)
  ·refine Runs.nR hE 4 [] [] (kp [0,1,5,7,8]) (kq [0,1]) 50 pn ?_
   obtain ⟨c,h⟩:=ifSome h
   obtain ⟨rDock1,hr,h⟩:=bindSome h
   refine Runs.nR hE 1 [(5,⟨[0,1],true,(aB rDock1),[],0,false,none⟩)] [] (kp [0,1,5,7,8,16]) (kq [0,1]) 146 (pc c (pc (g_berth_check_Dock_1_ok N (s.getD ((x).toNat) TDock.d) cap1 rDock1 hr) pn)) ?_
   refine Runs.nC 0 16 h (fun hq3 h=>?_) (fun hq3 h=>?_)
   ·refine Runs.nR hE 1 [] [] (kp [4]) (kq [0,1]) 178 pn ?_
    obtain rfl:=Option.some.inj h
    exact Runs.nT hE 0 Try.f49 [] (kp [4]) (kq [0,1]) 178 pn [] pn
   ·refine Runs.nR hE 2 [] [] (kp [0,1,7,8]) (kq [0,1]) 178 pn ?_
    exact Runs.nW hE 1 [] (kp [0,1,7,8]) (kq [0,1]) 2 pn (ih _ _ h E hE)
  ·refine Runs.nR hE 2 [] [] (kp [4]) (kq [0,1]) 34 pn ?_
   obtain rfl:=Option.some.inj h
   exact Runs.nT hE 0 Try.f49 [] (kp [4]) (kq [0,1]) 50 pn [] pn
theorem g_slices_IndexFunc_api_Dock_api_Dock_ok (N:Nat) (s:List TDock) (cap1:TDock) (r:Int) (h:g_slices_IndexFunc_api_Dock_api_Dock N s cap1=some r):Sound Try.prog 49 [(encL TDock.cells TDock.d s),(.fn (.func 111) [] [(.op 0 0 0),(.op 1 0 0)])] [(0,vO 1 [(.fn (.func 93) [] [])]),(1,vO 6 (TDock.cells cap1))] 2 (aI r) [(0,vO 1 [(.fn (.func 93) [] [])]),(1,vO 6 (TDock.cells cap1))]:=by
 unfold g_slices_IndexFunc_api_Dock_api_Dock at h
 refine Sound.of_runs (fu:=Try.f49) (c:=C_9 1) (nt:=19) (by kernel_rfl) (by kernel_rfl) (by kernel_rfl) (by kernel_rfl) (fun hm=>absurd hm (by decide)) ?_
 intro E hE
 refine Runs.nR hE 1 [] [] (kp [0,1]) (kq [0,1]) 18 pn ?_
 refine Runs.nR hE 2 [] [] (kp [0,1,7,8]) (kq [0,1]) 66 pn ?_
 exact Runs.nW hE 2 [] (kp [0,1,7,8]) (kq [0,1]) 2 pn (g_slices_IndexFunc_api_Dock_api_Dock_L1_ok N _ _ N _ _ h E hE)
noncomputable def C_8 (n:Nat):Code:=cat (bodyOf Try.f110) (pth n)
theorem g_slices_ContainsFunc_api_Dock_api_Dock_ok (N:Nat) (s:List TDock) (cap1:TDock) (r:Bool) (h:g_slices_ContainsFunc_api_Dock_api_Dock N s cap1=some r):Sound Try.prog 110 [(encL TDock.cells TDock.d s),(.fn (.func 111) [] [(.op 0 0 0),(.op 1 0 0)])] [(0,vO 1 [(.fn (.func 93) [] [])]),(1,vO 6 (TDock.cells cap1))] 2 (aB r) [(0,vO 1 [(.fn (.func 93) [] [])]),(1,vO 6 (TDock.cells cap1))]:=by
 unfold g_slices_ContainsFunc_api_Dock_api_Dock at h
 refine Sound.of_runs (fu:=Try.f110) (c:=C_8 1) (nt:=9) (by kernel_rfl) (by kernel_rfl) (by kernel_rfl) (by kernel_rfl) (fun hm=>absurd hm (by decide)) ?_
 intro E hE
 refine Runs.nR hE 1 [] [] (kp [0,1]) (kq [0,1]) 18 pn ?_
 obtain ⟨rDock,hr,h⟩:=bindSome h
 refine Runs.nR hE 1 [(2,⟨[0,1],true,(aI rDock),[],0,false,none⟩)] [] (kp [4]) (kq [0,1]) 98 (pc (g_slices_IndexFunc_api_Dock_api_Dock_ok N s cap1 rDock hr) pn) ?_
 obtain rfl:=Option.some.inj h
 exact Runs.nT hE 0 Try.f110 [] (kp [4]) (kq [0,1]) 98 pn [] pn
noncomputable def C_12 (n:Nat):Code:=cat (bodyOf Try.f70) (pth n)
theorem g_berth_outside_ok (N:Nat) (n:Int) (lo:Int) (hi:Int) (r:Bool) (h:g_berth_outside N n lo hi=some r):Sound Try.prog 70 [(aI n),(aI lo),(aI hi)] [] 0 (aB r) []:=by
 unfold g_berth_outside at h
 refine Sound.of_runs (fu:=Try.f70) (c:=C_12 1) (nt:=15) (by kernel_rfl) (by kernel_rfl) (by kernel_rfl) (by kernel_rfl) (fun hm=>rfl) ?_
 intro E hE
 refine Runs.nR hE 1 [] [] (kp [0,1,2]) [] 16 pn ?_
 refine Runs.nR hE 1 [] [] (kp [6]) [] 160 (pc (fun hg:(!(decide (n < lo)))=true=>(pc hg (pc hg pn))) (pc (fun hq:(!(decide (n < lo)))=true=>(pc hq pn)) pn)) ?_
 obtain rfl:=Option.some.inj h
 exact Runs.nT hE 0 Try.f70 [] (kp [6]) [] 160 pn [] pn
noncomputable def C_13 (n:Nat):Code:=cat (bodyOf Try.f76) (pth n)
theorem g_berth_ranged_ok (N:Nat) (wrong:Bool) (r:Int) (h:g_berth_ranged N wrong=some r):Sound Try.prog 76 [(aB wrong)] [] 0 (aI r) []:=by
 unfold g_berth_ranged at h
 refine Sound.of_runs (fu:=Try.f76) (c:=C_13 1) (nt:=4) (by kernel_rfl) (by kernel_rfl) (by kernel_rfl) (by kernel_rfl) (fun hm=>rfl) ?_
 intro E hE
 refine Runs.nR hE 1 [] [] (kp [0]) [] 16 pn ?_
 refine Runs.nR hE 2 [] [] (kp [3]) [] 32 pn ?_
 refine Runs.nC 0 3 h (fun hq2 h=>?_) (fun hq2 h=>?_)
 ·refine Runs.nR hE 1 [] [] (kp [2]) [] 48 pn ?_
  obtain rfl:=Option.some.inj h
  exact Runs.nT hE 0 Try.f76 [] (kp [2]) [] 48 pn [] pn
 ·refine Runs.nR hE 2 [] [] (kp [2]) [] 48 pn ?_
  obtain rfl:=Option.some.inj h
  exact Runs.nT hE 0 Try.f76 [] (kp [2]) [] 48 pn [] pn
noncomputable def C_11 (n:Nat):Code:=cat (bodyOf Try.f94) (pth n)
theorem g_berth_CheckDocks_2_ok (N:Nat) (x:TDock) (r:Int) (h:g_berth_CheckDocks_2 N x=some r):Sound Try.prog 94 [(.agg (TDock.cells x))] [] 0 (aI r) []:=by
 unfold g_berth_CheckDocks_2 at h
 refine Sound.of_runs (fu:=Try.f94) (c:=C_11 1) (nt:=27) (by kernel_rfl) (by kernel_rfl) (by kernel_rfl) (by kernel_rfl) (fun hm=>rfl) ?_
 intro E hE
 refine Runs.nR hE 1 [] [] (kp [1]) (kq [0]) 32 pn ?_
 obtain ⟨routside,hr,h⟩:=bindSome h
 obtain ⟨routside2,hr2,h⟩:=bindSome h
 obtain ⟨routside3,hr3,h⟩:=bindSome h
 obtain ⟨routside4,hr4,h⟩:=bindSome h
 obtain ⟨routside5,hr5,h⟩:=bindSome h
 obtain ⟨rranged,hr6,h⟩:=bindSome h
 refine Runs.nR hE 1 [(2,⟨[],true,(aB routside),[],0,false,none⟩),(6,⟨[],true,(aB routside2),[],0,false,none⟩),(11,⟨[],true,(aB routside3),[],0,false,none⟩),(16,⟨[],true,(aB routside4),[],0,false,none⟩),(21,⟨[],true,(aB routside5),[],0,false,none⟩),(23,⟨[],true,(aI rranged),[],0,false,none⟩)] [] (kp [2]) [] 432 (pc o1 (pc (g_berth_outside_ok N x.f_Length 1 1000000 routside hr) (pc (fun hg:(!routside)=true=>(pc hg (pc o1 pn))) (pc (fun hg:(!routside)=true=>(pc (g_berth_outside_ok N x.f_Width 1 1000000 routside2 (condT hr2 hg)) (pc hg pn))) (pc (fun hq:(!routside)=true=>(pc hq pn)) (pc (fun hg:(!(cond routside true routside2))=true=>(pc hg (pc o1 pn))) (pc (fun hg:(!(cond routside true routside2))=true=>(pc (g_berth_outside_ok N x.f_Sill (-1000000) 1000000 routside3 (condT hr3 hg)) (pc hg pn))) (pc (fun hq:(!(cond routside true routside2))=true=>(pc hq pn)) (pc (fun hg:(!(cond (cond routside true routside2) true routside3))=true=>(pc hg (pc o1 pn))) (pc (fun hg:(!(cond (cond routside true routside2) true routside3))=true=>(pc (g_berth_outside_ok N x.f_Floor (-1000000) 1000000 routside4 (condT hr4 hg)) (pc hg pn))) (pc (fun hq:(!(cond (cond routside true routside2) true routside3))=true=>(pc hq pn)) (pc (fun hg:(!(cond (cond (cond routside true routside2) true routside3) true routside4))=true=>(pc hg (pc o1 pn))) (pc (fun hg:(!(cond (cond (cond routside true routside2) true routside3) true routside4))=true=>(pc (g_berth_outside_ok N x.f_Gap 0 1000000 routside5 (condT hr5 hg)) (pc hg pn))) (pc (fun hq:(!(cond (cond (cond routside true routside2) true routside3) true routside4))=true=>(pc hq pn)) (pc (g_berth_ranged_ok N (cond (cond (cond (cond routside true routside2) true routside3) true routside4) true routside5) rranged hr6) pn))))))))))))))) ?_
 obtain rfl:=Option.some.inj h
 exact Runs.nT hE 0 Try.f94 [] (kp [2]) [] 432 pn [] pn
noncomputable def C_5 (n:Nat):Code:=cat (bodyOf Try.f92) (pth n)
def g_berth_check_Dock_L1_H (N:Nat) (l:List TDock) (K:Int→Option (Int)):Prop:=∀ (x:Int) (r:Int),K x=some r→∀ E,EnvOk E 0→Runs Try.prog E 92 40 (SPost E [] (aI r)) [.code (C_5 116),.inLoop (C_5 116),.inBlock 0,.code (C_5 15)] ⟨[(0,(encL TDock.cells TDock.d l)),(3,(.fn (.func 94) [] [])),(6,(.op 0 0 0)),(16,(encL TDock.cells TDock.d l)),(17,(aI ((l.length:Nat):Int))),(18,(aI x))],[(0,vO 1 [(.fn (.func 93) [] [])])],1⟩
theorem g_berth_check_Dock_L1_ok (N:Nat) (l:List TDock) (fuel:Nat):g_berth_check_Dock_L1_H N l (g_berth_check_Dock_L1 N l fuel):=by
 induction fuel with
 | zero=>intro _ r h;rw [g_berth_check_Dock_L1.eq_1] at h;cases h
 | succ fuel ih =>
  intro x r h E hE
  rw [g_berth_check_Dock_L1.eq_2] at h
  refine Runs.nR hE 1 [] [] (kp [0,3,6,16,17,18,19]) (kq [0]) 17 pn ?_
  refine Runs.nC 1 19 h (fun hq3 h=>?_) (fun hq3 h=>?_)
  ·obtain ⟨c,h⟩:=ifSome h
   refine Runs.nR hE 4 [] [] (kp [0,3,6,9,10,16,17,18]) (kq [0,65]) 113 (pc c (pc o1 pn)) ?_
   obtain ⟨rCheckDocks1,hr,h⟩:=bindSome h
   obtain ⟨rnamed,hr2,h⟩:=bindSome h
   refine Runs.nR hE 2 [(2,⟨[],true,(aS rCheckDocks1),[],0,false,none⟩),(3,⟨[],true,(aB rnamed),[],0,false,none⟩)] [] (kp [0,3,6,9,10,16,17,18,27]) (kq [0,65]) 193 (pc o1 (pc o1 (pc (g_berth_CheckDocks_1_ok N (l.getD ((x).toNat) TDock.d) rCheckDocks1 hr) (pc (g_berth_named_ok N rCheckDocks1 rnamed hr2) pn)))) ?_
   refine Runs.nC 0 27 h (fun hq4 h=>?_) (fun hq4 h=>?_)
   ·refine Runs.nR hE 1 [] [] (kp [8]) [] 209 pn ?_
    obtain rfl:=Option.some.inj h
    exact Runs.nT hE 0 Try.f92 [] (kp [8]) [] 209 pn [] pn
   ·obtain ⟨c2,h⟩:=ifSome h
    obtain ⟨c3,h⟩:=ifSome h
    obtain ⟨rDock,hr3,h⟩:=bindSome h
    refine Runs.nR hE 3 [(4,⟨[0,65],true,(aB rDock),[],0,false,none⟩)] [] (kp [0,3,6,10,16,17,18,32]) (kq [0,65]) 273 (pc c2 (pc c3 (pc (show Sound Try.prog 110 [(.sl ((x).toNat - 0) (fun zi=>TDock.cells (l.getD (addz 0 zi) TDock.d))),(.fn (.func 111) [] [(.op 0 0 0),(.op 1 0 0)])] [(0,vO 1 [(.fn (.func 93) [] [])]),(1,vO 6 (TDock.cells (l.getD ((x).toNat) TDock.d)))] 2 (aB rDock) [(0,vO 1 [(.fn (.func 93) [] [])]),(1,vO 6 (TDock.cells (l.getD ((x).toNat) TDock.d)))] from (Sound.conv (g_slices_ContainsFunc_api_Dock_api_Dock_ok N ((l.take ((x).toNat)).drop 0) (l.getD ((x).toNat) TDock.d) rDock hr3) (.cons (Alike.sl (len_ext' l 0 ((x).toNat) c2) (fun zq hzq=>get_ext TDock.cells TDock.d l 0 ((x).toNat) zq hzq)) (.cons (Alike.refl _) .nil)))) pn))) ?_
    refine Runs.nC 0 32 h (fun hq5 h=>?_) (fun hq5 h=>?_)
    ·refine Runs.nR hE 1 [] [] (kp [8]) [] 289 pn ?_
     obtain rfl:=Option.some.inj h
     exact Runs.nT hE 0 Try.f92 [] (kp [8]) [] 289 pn [] pn
    ·obtain ⟨rCheckDocks2,hr4,h⟩:=bindSome h
     refine Runs.nR hE 2 [(2,⟨[],true,(aI rCheckDocks2),[],0,false,none⟩)] [] (kp [0,3,6,11,16,17,18]) (kq [0]) 337 (pc o1 (pc (g_berth_CheckDocks_2_ok N (l.getD ((x).toNat) TDock.d) rCheckDocks2 hr4) pn)) ?_
     refine Runs.nR hE 1 [] [] (kp [0,3,6,11,16,17,18,37]) (kq [0]) 369 pn ?_
     refine Runs.nC 0 37 h (fun hq6 h=>?_) (fun hq6 h=>?_)
     ·refine Runs.nR hE 1 [] [] (kp [8]) [] 401 pn ?_
      obtain rfl:=Option.some.inj h
      exact Runs.nT hE 0 Try.f92 [] (kp [8]) [] 401 pn [] pn
     ·refine Runs.nR hE 2 [] [] (kp [0,3,6,16,17,18]) (kq [0]) 401 pn ?_
      exact Runs.nW hE 1 [] (kp [0,3,6,16,17,18]) (kq [0]) 1 pn (ih _ _ h E hE)
  ·refine Runs.nR hE 2 [] [] (kp [8]) [] 33 pn ?_
   obtain rfl:=Option.some.inj h
   exact Runs.nT hE 0 Try.f92 [] (kp [8]) [] 48 pn [] pn
theorem g_berth_check_Dock_ok (N:Nat) (l:List TDock) (most:Int) (r:Int) (h:g_berth_check_Dock N l most=some r):Sound Try.prog 92 [(encL TDock.cells TDock.d l),(aI most),(.fn (.func 93) [] []),(.fn (.func 94) [] [])] [] 0 (aI r) []:=by
 unfold g_berth_check_Dock at h
 refine Sound.of_runs (fu:=Try.f92) (c:=C_5 1) (nt:=40) (by kernel_rfl) (by kernel_rfl) (by kernel_rfl) (by kernel_rfl) (fun hm=>rfl) ?_
 intro E hE
 refine Runs.nR hE 1 [] [] (kp [0,1,3,6]) (kq [0]) 32 pn ?_
 refine Runs.nR hE 2 [] [] (kp [0,3,6,15]) (kq [0]) 96 pn ?_
 refine Runs.nC 0 15 h (fun hq2 h=>?_) (fun hq2 h=>?_)
 ·refine Runs.nR hE 1 [] [] (kp [8]) [] 112 pn ?_
  obtain rfl:=Option.some.inj h
  exact Runs.nT hE 0 Try.f92 [] (kp [8]) [] 112 pn [] pn
 ·refine Runs.nR hE 3 [] [] (kp [0,3,6,16,17,18]) (kq [0]) 144 pn ?_
  exact Runs.nW hE 2 [] (kp [0,3,6,16,17,18]) (kq [0]) 1 pn (g_berth_check_Dock_L1_ok N _ N _ _ h E hE)
noncomputable def C_4 (n:Nat):Code:=cat (bodyOf Try.f61) (pth n)
theorem g_berth_CheckDocks_ok (N:Nat) (d:List TDock) (r:Int) (h:g_berth_CheckDocks N d=some r):Sound Try.prog 61 [(encL TDock.cells TDock.d d)] [] 0 (aI r) []:=by
 unfold g_berth_CheckDocks at h
 refine Sound.of_runs (fu:=Try.f61) (c:=C_4 1) (nt:=5) (by kernel_rfl) (by kernel_rfl) (by kernel_rfl) (by kernel_rfl) (fun hm=>rfl) ?_
 intro E hE
 refine Runs.nR hE 1 [] [] (kp [0]) [] 16 pn ?_
 obtain ⟨rDock,hr,h⟩:=bindSome h
 refine Runs.nR hE 1 [(1,⟨[],true,(aI rDock),[],0,false,none⟩)] [] (kp [2]) [] 64 (pc (g_berth_check_Dock_ok N d 4 rDock hr) pn) ?_
 obtain rfl:=Option.some.inj h
 exact Runs.nT hE 0 Try.f61 [] (kp [2]) [] 64 pn [] pn
noncomputable def C_16 (n:Nat):Code:=cat (bodyOf Try.f96) (pth n)
theorem g_berth_CheckCalls_1_ok (N:Nat) (x:TCall) (r:ByteArray) (h:g_berth_CheckCalls_1 N x=some r):Sound Try.prog 96 [(.agg (TCall.cells x))] [] 0 (aS r) []:=by
 unfold g_berth_CheckCalls_1 at h
 refine Sound.of_runs (fu:=Try.f96) (c:=C_16 1) (nt:=5) (by kernel_rfl) (by kernel_rfl) (by kernel_rfl) (by kernel_rfl) (fun hm=>rfl) ?_
 intro E hE
 refine Runs.nR hE 1 [] [] (kp [1]) (kq [0]) 32 pn ?_
 refine Runs.nR hE 1 [] [] (kp [2]) [] 80 (pc o1 pn) ?_
 obtain rfl:=Option.some.inj h
 exact Runs.nT hE 0 Try.f96 [] (kp [2]) [] 80 pn [] pn
noncomputable def C_19 (n:Nat):Code:=cat (bodyOf Try.f113) (pth n)
theorem g_berth_check_Call_1_ok (N:Nat) (y:TCall) (cap1:TCall) (r:Bool) (h:g_berth_check_Call_1 N y cap1=some r):Sound Try.prog 113 [(.agg (TCall.cells y)),(.op 0 0 0),(.op 1 0 0)] [(0,vO 1 [(.fn (.func 96) [] [])]),(1,vO 9 (TCall.cells cap1))] 2 (aB r) [(0,vO 1 [(.fn (.func 96) [] [])]),(1,vO 9 (TCall.cells cap1))]:=by
 unfold g_berth_check_Call_1 at h
 refine Sound.of_runs (fu:=Try.f113) (c:=C_19 1) (nt:=12) (by kernel_rfl) (by kernel_rfl) (by kernel_rfl) (by kernel_rfl) (fun hm=>absurd hm (by decide)) ?_
 intro E hE
 refine Runs.nR hE 1 [] [] (kp [1,2,3]) (kq [0,1,2]) 34 pn ?_
 obtain ⟨rCheckCalls1,hr,h⟩:=bindSome h
 obtain ⟨rCheckCalls12,hr2,h⟩:=bindSome h
 refine Runs.nR hE 1 [(2,⟨[],true,(aS rCheckCalls1),[],0,false,none⟩),(5,⟨[],true,(aS rCheckCalls12),[],0,false,none⟩)] [] (kp [4]) (kq [0,1]) 162 (pc o1 (pc o1 (pc (g_berth_CheckCalls_1_ok N y rCheckCalls1 hr) (pc o1 (pc o1 (pc (g_berth_CheckCalls_1_ok N cap1 rCheckCalls12 hr2) pn)))))) ?_
 obtain rfl:=Option.some.inj h
 exact Runs.nT hE 0 Try.f113 [] (kp [4]) (kq [0,1]) 162 pn [] pn
noncomputable def C_18 (n:Nat):Code:=cat (bodyOf Try.f81) (pth n)
def g_slices_IndexFunc_api_Call_api_Call_L1_H (N:Nat) (s:List TCall) (cap1:TCall) (K:Int→Option (Int)):Prop:=∀ (x:Int) (r:Int),K x=some r→∀ E,EnvOk E 2→Runs Try.prog E 81 19 (SPost E [(0,vO 1 [(.fn (.func 96) [] [])]),(1,vO 9 (TCall.cells cap1))] (aI r)) [.code (C_18 52),.inLoop (C_18 52),.inBlock 0,.code (C_18 7)] ⟨[(0,(encL TCall.cells TCall.d s)),(1,(.fn (.func 113) [] [(.op 0 0 0),(.op 1 0 0)])),(7,(aI ((s.length:Nat):Int))),(8,(aI x))],[(0,vO 1 [(.fn (.func 96) [] [])]),(1,vO 9 (TCall.cells cap1))],2⟩
theorem g_slices_IndexFunc_api_Call_api_Call_L1_ok (N:Nat) (s:List TCall) (cap1:TCall) (fuel:Nat):g_slices_IndexFunc_api_Call_api_Call_L1_H N s cap1 (g_slices_IndexFunc_api_Call_api_Call_L1 N s cap1 fuel):=by
 induction fuel with
 | zero=>intro _ r h;rw [g_slices_IndexFunc_api_Call_api_Call_L1.eq_1] at h;cases h
 | succ fuel ih =>
  intro x r h E hE
  rw [g_slices_IndexFunc_api_Call_api_Call_L1.eq_2] at h
  refine Runs.nR hE 1 [] [] (kp [0,1,7,8,9]) (kq [0,1]) 18 pn ?_
  refine Runs.nC 1 9 h (fun hq2 h=>?_) (fun hq2 h=>?_)
  ·refine Runs.nR hE 4 [] [] (kp [0,1,5,7,8]) (kq [0,1]) 50 pn ?_
   obtain ⟨c,h⟩:=ifSome h
   obtain ⟨rCall1,hr,h⟩:=bindSome h
   refine Runs.nR hE 1 [(5,⟨[0,1],true,(aB rCall1),[],0,false,none⟩)] [] (kp [0,1,5,7,8,16]) (kq [0,1]) 146 (pc c (pc (g_berth_check_Call_1_ok N (s.getD ((x).toNat) TCall.d) cap1 rCall1 hr) pn)) ?_
   refine Runs.nC 0 16 h (fun hq3 h=>?_) (fun hq3 h=>?_)
   ·refine Runs.nR hE 1 [] [] (kp [4]) (kq [0,1]) 178 pn ?_
    obtain rfl:=Option.some.inj h
    exact Runs.nT hE 0 Try.f81 [] (kp [4]) (kq [0,1]) 178 pn [] pn
   ·refine Runs.nR hE 2 [] [] (kp [0,1,7,8]) (kq [0,1]) 178 pn ?_
    exact Runs.nW hE 1 [] (kp [0,1,7,8]) (kq [0,1]) 2 pn (ih _ _ h E hE)
  ·refine Runs.nR hE 2 [] [] (kp [4]) (kq [0,1]) 34 pn ?_
   obtain rfl:=Option.some.inj h
   exact Runs.nT hE 0 Try.f81 [] (kp [4]) (kq [0,1]) 50 pn [] pn
theorem g_slices_IndexFunc_api_Call_api_Call_ok (N:Nat) (s:List TCall) (cap1:TCall) (r:Int) (h:g_slices_IndexFunc_api_Call_api_Call N s cap1=some r):Sound Try.prog 81 [(encL TCall.cells TCall.d s),(.fn (.func 113) [] [(.op 0 0 0),(.op 1 0 0)])] [(0,vO 1 [(.fn (.func 96) [] [])]),(1,vO 9 (TCall.cells cap1))] 2 (aI r) [(0,vO 1 [(.fn (.func 96) [] [])]),(1,vO 9 (TCall.cells cap1))]:=by
 unfold g_slices_IndexFunc_api_Call_api_Call at h
 refine Sound.of_runs (fu:=Try.f81) (c:=C_18 1) (nt:=19) (by kernel_rfl) (by kernel_rfl) (by kernel_rfl) (by kernel_rfl) (fun hm=>absurd hm (by decide)) ?_
 intro E hE
 refine Runs.nR hE 1 [] [] (kp [0,1]) (kq [0,1]) 18 pn ?_
 refine Runs.nR hE 2 [] [] (kp [0,1,7,8]) (kq [0,1]) 66 pn ?_
 exact Runs.nW hE 2 [] (kp [0,1,7,8]) (kq [0,1]) 2 pn (g_slices_IndexFunc_api_Call_api_Call_L1_ok N _ _ N _ _ h E hE)
noncomputable def C_17 (n:Nat):Code:=cat (bodyOf Try.f112) (pth n)
theorem g_slices_ContainsFunc_api_Call_api_Call_ok (N:Nat) (s:List TCall) (cap1:TCall) (r:Bool) (h:g_slices_ContainsFunc_api_Call_api_Call N s cap1=some r):Sound Try.prog 112 [(encL TCall.cells TCall.d s),(.fn (.func 113) [] [(.op 0 0 0),(.op 1 0 0)])] [(0,vO 1 [(.fn (.func 96) [] [])]),(1,vO 9 (TCall.cells cap1))] 2 (aB r) [(0,vO 1 [(.fn (.func 96) [] [])]),(1,vO 9 (TCall.cells cap1))]:=by
 unfold g_slices_ContainsFunc_api_Call_api_Call at h
 refine Sound.of_runs (fu:=Try.f112) (c:=C_17 1) (nt:=9) (by kernel_rfl) (by kernel_rfl) (by kernel_rfl) (by kernel_rfl) (fun hm=>absurd hm (by decide)) ?_
 intro E hE
 refine Runs.nR hE 1 [] [] (kp [0,1]) (kq [0,1]) 18 pn ?_
 obtain ⟨rCall,hr,h⟩:=bindSome h
 refine Runs.nR hE 1 [(2,⟨[0,1],true,(aI rCall),[],0,false,none⟩)] [] (kp [4]) (kq [0,1]) 98 (pc (g_slices_IndexFunc_api_Call_api_Call_ok N s cap1 rCall hr) pn) ?_
 obtain rfl:=Option.some.inj h
 exact Runs.nT hE 0 Try.f112 [] (kp [4]) (kq [0,1]) 98 pn [] pn
noncomputable def C_20 (n:Nat):Code:=cat (bodyOf Try.f97) (pth n)
theorem g_berth_CheckCalls_2_ok (N:Nat) (x:TCall) (r:Int) (h:g_berth_CheckCalls_2 N x=some r):Sound Try.prog 97 [(.agg (TCall.cells x))] [] 0 (aI r) []:=by
 unfold g_berth_CheckCalls_2 at h
 refine Sound.of_runs (fu:=Try.f97) (c:=C_20 1) (nt:=40) (by kernel_rfl) (by kernel_rfl) (by kernel_rfl) (by kernel_rfl) (fun hm=>rfl) ?_
 intro E hE
 refine Runs.nR hE 1 [] [] (kp [1]) (kq [0]) 32 pn ?_
 obtain ⟨routside,hr,h⟩:=bindSome h
 obtain ⟨routside2,hr2,h⟩:=bindSome h
 obtain ⟨routside3,hr3,h⟩:=bindSome h
 obtain ⟨routside4,hr4,h⟩:=bindSome h
 refine Runs.nR hE 2 [(2,⟨[],true,(aB routside),[],0,false,none⟩),(6,⟨[],true,(aB routside2),[],0,false,none⟩),(11,⟨[],true,(aB routside3),[],0,false,none⟩),(16,⟨[],true,(aB routside4),[],0,false,none⟩)] [] (kp [1,20]) (kq [0]) 320 (pc o1 (pc (g_berth_outside_ok N x.f_Length 1 1000000 routside hr) (pc (fun hg:(!routside)=true=>(pc hg (pc o1 pn))) (pc (fun hg:(!routside)=true=>(pc (g_berth_outside_ok N x.f_Beam 1 1000000 routside2 (condT hr2 hg)) (pc hg pn))) (pc (fun hq:(!routside)=true=>(pc hq pn)) (pc (fun hg:(!(cond routside true routside2))=true=>(pc hg (pc o1 pn))) (pc (fun hg:(!(cond routside true routside2))=true=>(pc (g_berth_outside_ok N x.f_Draught 0 1000000 routside3 (condT hr3 hg)) (pc hg pn))) (pc (fun hq:(!(cond routside true routside2))=true=>(pc hq pn)) (pc (fun hg:(!(cond (cond routside true routside2) true routside3))=true=>(pc hg (pc o1 pn))) (pc (fun hg:(!(cond (cond routside true routside2) true routside3))=true=>(pc (g_berth_outside_ok N x.f_Under 0 1000000 routside4 (condT hr4 hg)) (pc hg pn))) (pc (fun hq:(!(cond (cond routside true routside2) true routside3))=true=>(pc hq pn)) pn))))))))))) ?_
 refine Runs.nC 0 20 h (fun hq2 h=>?_) (fun hq2 h=>?_)
 ·refine Runs.nR hE 1 [] [] (kp [2]) [] 336 pn ?_
  obtain rfl:=Option.some.inj h
  exact Runs.nT hE 0 Try.f97 [] (kp [2]) [] 336 pn [] pn
 ·obtain ⟨routside5,hr5,h⟩:=bindSome h
  obtain ⟨routside6,hr6,h⟩:=bindSome h
  obtain ⟨routside7,hr7,h⟩:=bindSome h
  obtain ⟨routside8,hr8,h⟩:=bindSome h
  obtain ⟨rranged,hr9,h⟩:=bindSome h
  refine Runs.nR hE 2 [(2,⟨[],true,(aB routside5),[],0,false,none⟩),(6,⟨[],true,(aB routside6),[],0,false,none⟩),(11,⟨[],true,(aB routside7),[],0,false,none⟩),(16,⟨[],true,(aB routside8),[],0,false,none⟩),(18,⟨[],true,(aI rranged),[],0,false,none⟩)] [] (kp [2]) [] 640 (pc o1 (pc (g_berth_outside_ok N x.f_Arrive 0 400 routside5 hr5) (pc (fun hg:(!routside5)=true=>(pc hg (pc o1 pn))) (pc (fun hg:(!routside5)=true=>(pc (g_berth_outside_ok N x.f_Due 0 400 routside6 (condT hr6 hg)) (pc hg pn))) (pc (fun hq:(!routside5)=true=>(pc hq pn)) (pc (fun hg:(!(cond routside5 true routside6))=true=>(pc hg (pc o1 pn))) (pc (fun hg:(!(cond routside5 true routside6))=true=>(pc (g_berth_outside_ok N x.f_Work 1 1000 routside7 (condT hr7 hg)) (pc hg pn))) (pc (fun hq:(!(cond routside5 true routside6))=true=>(pc hq pn)) (pc (fun hg:(!(cond (cond routside5 true routside6) true routside7))=true=>(pc hg (pc o1 pn))) (pc (fun hg:(!(cond (cond routside5 true routside6) true routside7))=true=>(pc (g_berth_outside_ok N x.f_Late 0 1000000000 routside8 (condT hr8 hg)) (pc hg pn))) (pc (fun hq:(!(cond (cond routside5 true routside6) true routside7))=true=>(pc hq pn)) (pc (g_berth_ranged_ok N (cond (cond (cond routside5 true routside6) true routside7) true routside8) rranged hr9) pn)))))))))))) ?_
  obtain rfl:=Option.some.inj h
  exact Runs.nT hE 0 Try.f97 [] (kp [2]) [] 640 pn [] pn
noncomputable def C_15 (n:Nat):Code:=cat (bodyOf Try.f95) (pth n)
def g_berth_check_Call_L1_H (N:Nat) (l:List TCall) (K:Int→Option (Int)):Prop:=∀ (x:Int) (r:Int),K x=some r→∀ E,EnvOk E 0→Runs Try.prog E 95 40 (SPost E [] (aI r)) [.code (C_15 116),.inLoop (C_15 116),.inBlock 0,.code (C_15 15)] ⟨[(0,(encL TCall.cells TCall.d l)),(3,(.fn (.func 97) [] [])),(6,(.op 0 0 0)),(16,(encL TCall.cells TCall.d l)),(17,(aI ((l.length:Nat):Int))),(18,(aI x))],[(0,vO 1 [(.fn (.func 96) [] [])])],1⟩
theorem g_berth_check_Call_L1_ok (N:Nat) (l:List TCall) (fuel:Nat):g_berth_check_Call_L1_H N l (g_berth_check_Call_L1 N l fuel):=by
 induction fuel with
 | zero=>intro _ r h;rw [g_berth_check_Call_L1.eq_1] at h;cases h
 | succ fuel ih =>
  intro x r h E hE
  rw [g_berth_check_Call_L1.eq_2] at h
  refine Runs.nR hE 1 [] [] (kp [0,3,6,16,17,18,19]) (kq [0]) 17 pn ?_
  refine Runs.nC 1 19 h (fun hq3 h=>?_) (fun hq3 h=>?_)
  ·obtain ⟨c,h⟩:=ifSome h
   refine Runs.nR hE 4 [] [] (kp [0,3,6,9,10,16,17,18]) (kq [0,65]) 113 (pc c (pc o1 pn)) ?_
   obtain ⟨rCheckCalls1,hr,h⟩:=bindSome h
   obtain ⟨rnamed,hr2,h⟩:=bindSome h
   refine Runs.nR hE 2 [(2,⟨[],true,(aS rCheckCalls1),[],0,false,none⟩),(3,⟨[],true,(aB rnamed),[],0,false,none⟩)] [] (kp [0,3,6,9,10,16,17,18,27]) (kq [0,65]) 193 (pc o1 (pc o1 (pc (g_berth_CheckCalls_1_ok N (l.getD ((x).toNat) TCall.d) rCheckCalls1 hr) (pc (g_berth_named_ok N rCheckCalls1 rnamed hr2) pn)))) ?_
   refine Runs.nC 0 27 h (fun hq4 h=>?_) (fun hq4 h=>?_)
   ·refine Runs.nR hE 1 [] [] (kp [8]) [] 209 pn ?_
    obtain rfl:=Option.some.inj h
    exact Runs.nT hE 0 Try.f95 [] (kp [8]) [] 209 pn [] pn
   ·obtain ⟨c2,h⟩:=ifSome h
    obtain ⟨c3,h⟩:=ifSome h
    obtain ⟨rCall,hr3,h⟩:=bindSome h
    refine Runs.nR hE 3 [(4,⟨[0,65],true,(aB rCall),[],0,false,none⟩)] [] (kp [0,3,6,10,16,17,18,32]) (kq [0,65]) 273 (pc c2 (pc c3 (pc (show Sound Try.prog 112 [(.sl ((x).toNat - 0) (fun zi=>TCall.cells (l.getD (addz 0 zi) TCall.d))),(.fn (.func 113) [] [(.op 0 0 0),(.op 1 0 0)])] [(0,vO 1 [(.fn (.func 96) [] [])]),(1,vO 9 (TCall.cells (l.getD ((x).toNat) TCall.d)))] 2 (aB rCall) [(0,vO 1 [(.fn (.func 96) [] [])]),(1,vO 9 (TCall.cells (l.getD ((x).toNat) TCall.d)))] from (Sound.conv (g_slices_ContainsFunc_api_Call_api_Call_ok N ((l.take ((x).toNat)).drop 0) (l.getD ((x).toNat) TCall.d) rCall hr3) (.cons (Alike.sl (len_ext' l 0 ((x).toNat) c2) (fun zq hzq=>get_ext TCall.cells TCall.d l 0 ((x).toNat) zq hzq)) (.cons (Alike.refl _) .nil)))) pn))) ?_
    refine Runs.nC 0 32 h (fun hq5 h=>?_) (fun hq5 h=>?_)
    ·refine Runs.nR hE 1 [] [] (kp [8]) [] 289 pn ?_
     obtain rfl:=Option.some.inj h
     exact Runs.nT hE 0 Try.f95 [] (kp [8]) [] 289 pn [] pn
    ·obtain ⟨rCheckCalls2,hr4,h⟩:=bindSome h
     refine Runs.nR hE 2 [(2,⟨[],true,(aI rCheckCalls2),[],0,false,none⟩)] [] (kp [0,3,6,11,16,17,18]) (kq [0]) 337 (pc o1 (pc (g_berth_CheckCalls_2_ok N (l.getD ((x).toNat) TCall.d) rCheckCalls2 hr4) pn)) ?_
     refine Runs.nR hE 1 [] [] (kp [0,3,6,11,16,17,18,37]) (kq [0]) 369 pn ?_
     refine Runs.nC 0 37 h (fun hq6 h=>?_) (fun hq6 h=>?_)
     ·refine Runs.nR hE 1 [] [] (kp [8]) [] 401 pn ?_
      obtain rfl:=Option.some.inj h
      exact Runs.nT hE 0 Try.f95 [] (kp [8]) [] 401 pn [] pn
     ·refine Runs.nR hE 2 [] [] (kp [0,3,6,16,17,18]) (kq [0]) 401 pn ?_
      exact Runs.nW hE 1 [] (kp [0,3,6,16,17,18]) (kq [0]) 1 pn (ih _ _ h E hE)
  ·refine Runs.nR hE 2 [] [] (kp [8]) [] 33 pn ?_
   obtain rfl:=Option.some.inj h
   exact Runs.nT hE 0 Try.f95 [] (kp [8]) [] 48 pn [] pn
theorem g_berth_check_Call_ok (N:Nat) (l:List TCall) (most:Int) (r:Int) (h:g_berth_check_Call N l most=some r):Sound Try.prog 95 [(encL TCall.cells TCall.d l),(aI most),(.fn (.func 96) [] []),(.fn (.func 97) [] [])] [] 0 (aI r) []:=by
 unfold g_berth_check_Call at h
 refine Sound.of_runs (fu:=Try.f95) (c:=C_15 1) (nt:=40) (by kernel_rfl) (by kernel_rfl) (by kernel_rfl) (by kernel_rfl) (fun hm=>rfl) ?_
 intro E hE
 refine Runs.nR hE 1 [] [] (kp [0,1,3,6]) (kq [0]) 32 pn ?_
 refine Runs.nR hE 2 [] [] (kp [0,3,6,15]) (kq [0]) 96 pn ?_
 refine Runs.nC 0 15 h (fun hq2 h=>?_) (fun hq2 h=>?_)
 ·refine Runs.nR hE 1 [] [] (kp [8]) [] 112 pn ?_
  obtain rfl:=Option.some.inj h
  exact Runs.nT hE 0 Try.f95 [] (kp [8]) [] 112 pn [] pn
 ·refine Runs.nR hE 3 [] [] (kp [0,3,6,16,17,18]) (kq [0]) 144 pn ?_
  exact Runs.nW hE 2 [] (kp [0,3,6,16,17,18]) (kq [0]) 1 pn (g_berth_check_Call_L1_ok N _ N _ _ h E hE)
noncomputable def C_14 (n:Nat):Code:=cat (bodyOf Try.f62) (pth n)
theorem g_berth_CheckCalls_ok (N:Nat) (c:List TCall) (r:Int) (h:g_berth_CheckCalls N c=some r):Sound Try.prog 62 [(encL TCall.cells TCall.d c)] [] 0 (aI r) []:=by
 unfold g_berth_CheckCalls at h
 refine Sound.of_runs (fu:=Try.f62) (c:=C_14 1) (nt:=5) (by kernel_rfl) (by kernel_rfl) (by kernel_rfl) (by kernel_rfl) (fun hm=>rfl) ?_
 intro E hE
 refine Runs.nR hE 1 [] [] (kp [0]) [] 16 pn ?_
 obtain ⟨rCall,hr,h⟩:=bindSome h
 refine Runs.nR hE 1 [(1,⟨[],true,(aI rCall),[],0,false,none⟩)] [] (kp [2]) [] 64 (pc (g_berth_check_Call_ok N c 8 rCall hr) pn) ?_
 obtain rfl:=Option.some.inj h
 exact Runs.nT hE 0 Try.f62 [] (kp [2]) [] 64 pn [] pn
noncomputable def C_3 (n:Nat):Code:=cat (bodyOf Try.f30) (pth n)
theorem g_berth_both_ok (N:Nat) (d:TDock) (c:List TCall) (r:Int) (h:g_berth_both N d c=some r):Sound Try.prog 30 [(.agg (TDock.cells d)),(encL TCall.cells TCall.d c)] [] 0 (aI r) []:=by
 unfold g_berth_both at h
 refine Sound.of_runs (fu:=Try.f30) (c:=C_3 1) (nt:=14) (by kernel_rfl) (by kernel_rfl) (by kernel_rfl) (by kernel_rfl) (fun hm=>rfl) ?_
 intro E hE
 refine Runs.nR hE 1 [] [] (kp [1,2]) (kq [0]) 32 pn ?_
 obtain ⟨rCheckDocks,hr,h⟩:=bindSome h
 refine Runs.nR hE 2 [(2,⟨[],true,(aI rCheckDocks),[],0,false,none⟩)] [] (kp [1,5]) [] 96 (pc o1 (pc (show Sound Try.prog 61 [(.sl 1 (fun zi=>(fun zi=>([[(aS d.f_Name),(aI d.f_Length),(aI d.f_Width),(aI d.f_Sill),(aI d.f_Floor),(aI d.f_Gap)]]:List (List AV)).getD zi []) (addz 0 zi)))] [] 0 (aI rCheckDocks) [] from (Sound.conv (g_berth_CheckDocks_ok N ([d]:List TDock) rCheckDocks hr) (.cons (Alike.sl rfl (fun zq hzq=>get_chunk TDock.cells TDock.d ([d]:List TDock) zq hzq)) .nil))) (pc (z1 1) pn))) ?_
 refine Runs.nR hE 1 [] [] (kp [1,5,10]) [] 128 pn ?_
 refine Runs.nC 0 10 h (fun hq2 h=>?_) (fun hq2 h=>?_)
 ·refine Runs.nR hE 1 [] [] (kp [4]) [] 160 pn ?_
  obtain rfl:=Option.some.inj h
  exact Runs.nT hE 0 Try.f30 [] (kp [4]) [] 160 pn [] pn
 ·obtain ⟨rCheckCalls,hr2,h⟩:=bindSome h
  refine Runs.nR hE 2 [(1,⟨[],true,(aI rCheckCalls),[],0,false,none⟩)] [] (kp [4]) [] 176 (pc (g_berth_CheckCalls_ok N c rCheckCalls hr2) pn) ?_
  obtain rfl:=Option.some.inj h
  exact Runs.nT hE 0 Try.f30 [] (kp [4]) [] 176 pn [] pn
noncomputable def C_21 (n:Nat):Code:=cat (bodyOf Try.f53) (pth n)
theorem g_berth_fits_ok (N:Nat) (d:TDock) (c:TCall) (r:Bool) (h:g_berth_fits N d c=some r):Sound Try.prog 53 [(.agg (TDock.cells d)),(.agg (TCall.cells c))] [] 0 (aB r) []:=by
 unfold g_berth_fits at h
 refine Sound.of_runs (fu:=Try.f53) (c:=C_21 1) (nt:=25) (by kernel_rfl) (by kernel_rfl) (by kernel_rfl) (by kernel_rfl) (fun hm=>rfl) ?_
 intro E hE
 refine Runs.nR hE 1 [] [] (kp [2,3]) (kq [0,16]) 48 pn ?_
 refine Runs.nR hE 1 [] [] (kp [4]) [] 384 (pc o1 (pc o1 (pc o1 (pc (fun hg:(decide ((w64 (c.f_Length+(w64 (2 * d.f_Gap))))≤d.f_Length))=true=>(pc hg (pc o1 pn))) (pc (fun hg:(decide ((w64 (c.f_Length+(w64 (2 * d.f_Gap))))≤d.f_Length))=true=>(pc hg (pc o1 pn))) (pc (fun hg:(decide ((w64 (c.f_Length+(w64 (2 * d.f_Gap))))≤d.f_Length))=true=>(pc hg pn)) (pc (fun hg:(decide ((w64 (c.f_Length+(w64 (2 * d.f_Gap))))≤d.f_Length))=true=>(pc hg (pc hg pn))) (pc (fun hg:(decide ((w64 (c.f_Length+(w64 (2 * d.f_Gap))))≤d.f_Length))=true=>(pc hg (pc o1 pn))) (pc (fun hg:(decide ((w64 (c.f_Length+(w64 (2 * d.f_Gap))))≤d.f_Length))=true=>(pc hg (pc hg pn))) (pc (fun hq:(decide ((w64 (c.f_Length+(w64 (2 * d.f_Gap))))≤d.f_Length))=true=>(pc hq pn)) pn)))))))))) ?_
 obtain rfl:=Option.some.inj h
 exact Runs.nT hE 0 Try.f53 [] (kp [4]) [] 384 pn [] pn
noncomputable def C_2 (n:Nat):Code:=cat (bodyOf Try.f29) (pth n)
theorem g_berth_Fits_ok (N:Nat) (d:TDock) (c:TCall) (r:Bool×Int) (h:g_berth_Fits N d c=some r):Sound Try.prog 29 [(.agg (TDock.cells d)),(.agg (TCall.cells c))] [] 0 (.tup [(aB r.1),(aI r.2)]) []:=by
 unfold g_berth_Fits at h
 refine Sound.of_runs (fu:=Try.f29) (c:=C_2 1) (nt:=17) (by kernel_rfl) (by kernel_rfl) (by kernel_rfl) (by kernel_rfl) (fun hm=>rfl) ?_
 intro E hE
 refine Runs.nR hE 1 [] [] (kp [2,3]) (kq [0,16]) 64 pn ?_
 obtain ⟨rboth,hr,h⟩:=bindSome h
 refine Runs.nR hE 2 [(3,⟨[],true,(aI rboth),[],0,false,none⟩)] [] (kp [2,3,6]) (kq [0,16]) 144 (pc o1 (pc o1 (pc (show Sound Try.prog 30 [(.agg (TDock.cells d)),(.sl 1 (fun zi=>(fun zi=>([[(aS c.f_Name),(aI c.f_Length),(aI c.f_Beam),(aI c.f_Draught),(aI c.f_Under),(aI c.f_Arrive),(aI c.f_Work),(aI c.f_Due),(aI c.f_Late)]]:List (List AV)).getD zi []) (addz 0 zi)))] [] 0 (aI rboth) [] from (Sound.conv (g_berth_both_ok N d ([c]:List TCall) rboth hr) (.cons (Alike.refl _) (.cons (Alike.sl rfl (fun zq hzq=>get_chunk TCall.cells TCall.d ([c]:List TCall) zq hzq)) .nil)))) (pc (z1 1) pn)))) ?_
 refine Runs.nR hE 1 [] [] (kp [2,3,6,12]) (kq [0,16]) 176 pn ?_
 refine Runs.nC 0 12 h (fun hq2 h=>?_) (fun hq2 h=>?_)
 ·refine Runs.nR hE 1 [] [] (kp [4,5]) [] 224 pn ?_
  obtain rfl:=Option.some.inj h
  exact Runs.nT hE 0 Try.f29 [] (kp [4,5]) [] 224 pn [] pn
 ·obtain ⟨rfits,hr2,h⟩:=bindSome h
  refine Runs.nR hE 2 [(2,⟨[],true,(aB rfits),[],0,false,none⟩)] [] (kp [4,5]) [] 256 (pc o1 (pc o1 (pc (g_berth_fits_ok N d c rfits hr2) pn))) ?_
  obtain rfl:=Option.some.inj h
  exact Runs.nT hE 0 Try.f29 [] (kp [4,5]) [] 256 pn [] pn
noncomputable def C_1 (n:Nat):Code:=cat (bodyOf Try.f8) (pth n)
theorem g_w06_awake_ok (N:Nat) (r:Bool) (h:g_w06_awake N=some r):Sound Try.prog 8 [] [] 0 (aB r) []:=by
 unfold g_w06_awake at h
 refine Sound.of_runs (fu:=Try.f8) (c:=C_1 1) (nt:=36) (by kernel_rfl) (by kernel_rfl) (by kernel_rfl) (by kernel_rfl) (fun hm=>rfl) ?_
 intro E hE
 refine Runs.nR hE 1 [] [] [] [] 16 pn ?_
 refine Runs.nR hE 1 [] [] (kp [1]) (kq [32]) 64 (pc o1 pn) ?_
 refine Runs.nR hE 1 [] [] (kp [1,2]) (kq [32,80]) 112 (pc o1 pn) ?_
 refine Runs.nR hE 1 [] [] (kp [1,2,3]) (kq [32,80,128]) 160 (pc o1 pn) ?_
 obtain ⟨rFits,hr,h⟩:=bindSome h
 refine Runs.nR hE 1 [(2,⟨[],true,(.tup [(aB rFits.1),(aI rFits.2)]),[],0,false,none⟩)] [] (kp [1,3,4,5]) (kq [32,128]) 288 (pc o1 (pc o1 (pc (g_berth_Fits_ok N (⟨(⟨#[100]⟩:ByteArray),200,40,0,0,2⟩:TDock) (⟨(⟨#[97]⟩:ByteArray),100,30,0,0,0,1,0,0⟩:TCall) rFits hr) pn))) ?_
 obtain ⟨rFits2,hr2,h⟩:=bindSome h
 refine Runs.nR hE 1 [(2,⟨[],true,(.tup [(aB rFits2.1),(aI rFits2.2)]),[],0,false,none⟩)] [] (kp [4,5,6,7]) [] 416 (pc o1 (pc o1 (pc (g_berth_Fits_ok N (⟨(⟨#[100]⟩:ByteArray),200,40,0,0,2⟩:TDock) (⟨(⟨#[98]⟩:ByteArray),197,30,0,0,0,1,0,0⟩:TCall) rFits2 hr2) pn))) ?_
 refine Runs.nR hE 1 [] [] (kp [0]) [] 640 (pc (fun hq:(rFits.2 == 0)=true=>(pc hq pn)) (pc (fun hg:(cond (rFits.2 == 0) rFits.1 false)=true=>(pc hg pn)) (pc (fun hq:(cond (rFits.2 == 0) rFits.1 false)=true=>(pc hq pn)) (pc (fun hg:(cond (cond (rFits.2 == 0) rFits.1 false) (rFits2.2 == 0) false)=true=>(pc hg pn)) (pc (fun hq:(cond (cond (rFits.2 == 0) rFits.1 false) (rFits2.2 == 0) false)=true=>(pc hq pn)) pn))))) ?_
 obtain rfl:=Option.some.inj h
 exact Runs.nT hE 0 Try.f8 [] (kp [0]) [] 640 pn [] pn
noncomputable def C_22 (n:Nat):Code:=cat (bodyOf Try.f9) (pth n)
def g_w06_Names_L1_H (N:Nat) (d:List TDock) (c:List TCall) (K:Int→Option (Bool)):Prop:=∀ (i:Int) (r:Bool),K i=some r→∀ E,EnvOk E 0→Runs Try.prog E 9 41 (SPost E [] (aB r)) [.code (C_22 116),.inLoop (C_22 116),.inBlock 0,.code (C_22 15)] ⟨[(0,(encL TDock.cells TDock.d d)),(1,(encL TCall.cells TCall.d c)),(5,(aI i))],[],0⟩
def g_w06_Names_L2_H (N:Nat) (c:List TCall) (K:Int→Option (Bool)):Prop:=∀ (i2:Int) (r:Bool),K i2=some r→∀ E,EnvOk E 0→Runs Try.prog E 9 41 (SPost E [] (aB r)) [.code (C_22 244),.inLoop (C_22 244),.inBlock 2,.code (C_22 31)] ⟨[(1,(encL TCall.cells TCall.d c)),(6,(aI i2))],[],0⟩
theorem g_w06_Names_L2_ok (N:Nat) (c:List TCall) (fuel:Nat):g_w06_Names_L2_H N c (g_w06_Names_L2 N c fuel):=by
 induction fuel with
 | zero=>intro _ r h;rw [g_w06_Names_L2.eq_1] at h;cases h
 | succ fuel ih =>
  intro i2 r h E hE
  rw [g_w06_Names_L2.eq_2] at h
  refine Runs.nR hE 2 [] [] (kp [1,6,31]) [] 64 pn ?_
  refine Runs.nC 0 31 h (fun hq5 h=>?_) (fun hq5 h=>?_)
  ·obtain ⟨c3,h⟩:=ifSome h
   refine Runs.nR hE 4 [] [] (kp [1,6,40]) [] 176 (pc c3 pn) ?_
   refine Runs.nC 0 40 h (fun hq6 h=>?_) (fun hq6 h=>?_)
   ·refine Runs.nR hE 1 [] [] (kp [4]) [] 192 pn ?_
    obtain rfl:=Option.some.inj h
    exact Runs.nT hE 0 Try.f9 [] (kp [4]) [] 192 pn [] pn
   ·refine Runs.nR hE 2 [] [] (kp [1,6]) [] 224 pn ?_
    exact Runs.nW hE 1 [] (kp [1,6]) [] 0 pn (ih _ _ h E hE)
  ·refine Runs.nR hE 2 [] [] (kp [4]) [] 80 pn ?_
   obtain rfl:=Option.some.inj h
   exact Runs.nT hE 0 Try.f9 [] (kp [4]) [] 80 pn [] pn
theorem g_w06_Names_L1_ok (N:Nat) (d:List TDock) (c:List TCall) (fuel:Nat):g_w06_Names_L1_H N d c (g_w06_Names_L1 N d c fuel):=by
 induction fuel with
 | zero=>intro _ r h;rw [g_w06_Names_L1.eq_1] at h;cases h
 | succ fuel ih =>
  intro i r h E hE
  rw [g_w06_Names_L1.eq_2] at h
  refine Runs.nR hE 2 [] [] (kp [0,1,5,18]) [] 64 pn ?_
  refine Runs.nC 0 18 h (fun hq3 h=>?_) (fun hq3 h=>?_)
  ·obtain ⟨c2,h⟩:=ifSome h
   refine Runs.nR hE 4 [] [] (kp [0,1,5,27]) [] 176 (pc c2 pn) ?_
   refine Runs.nC 0 27 h (fun hq4 h=>?_) (fun hq4 h=>?_)
   ·refine Runs.nR hE 1 [] [] (kp [4]) [] 192 pn ?_
    obtain rfl:=Option.some.inj h
    exact Runs.nT hE 0 Try.f9 [] (kp [4]) [] 192 pn [] pn
   ·refine Runs.nR hE 2 [] [] (kp [0,1,5]) [] 224 pn ?_
    exact Runs.nW hE 1 [] (kp [0,1,5]) [] 0 pn (ih _ _ h E hE)
  ·refine Runs.nR hE 3 [] [] (kp [1,6]) [] 80 pn ?_
   exact Runs.nW hE 2 [] (kp [1,6]) [] 0 pn (g_w06_Names_L2_ok N _ N _ _ h E hE)
theorem g_w06_Names_ok (N:Nat) (d:List TDock) (c:List TCall) (r:Bool) (h:g_w06_Names N d c=some r):Sound Try.prog 9 [(encL TDock.cells TDock.d d),(encL TCall.cells TCall.d c)] [] 0 (aB r) []:=by
 unfold g_w06_Names at h
 refine Sound.of_runs (fu:=Try.f9) (c:=C_22 1) (nt:=41) (by kernel_rfl) (by kernel_rfl) (by kernel_rfl) (by kernel_rfl) (fun hm=>rfl) ?_
 intro E hE
 refine Runs.nR hE 1 [] [] (kp [0,1]) [] 16 pn ?_
 refine Runs.nR hE 2 [] [] (kp [0,1,14]) [] 144 (pc (fun hg:(!(decide (((d.length:Nat):Int) > 6)))=true=>(pc hg pn)) (pc (fun hg:(!(decide (((d.length:Nat):Int) > 6)))=true=>(pc hg pn)) (pc (fun hq:(!(decide (((d.length:Nat):Int) > 6)))=true=>(pc hq pn)) pn))) ?_
 refine Runs.nC 0 14 h (fun hq2 h=>?_) (fun hq2 h=>?_)
 ·refine Runs.nR hE 1 [] [] (kp [4]) [] 160 pn ?_
  obtain rfl:=Option.some.inj h
  exact Runs.nT hE 0 Try.f9 [] (kp [4]) [] 160 pn [] pn
 ·refine Runs.nR hE 3 [] [] (kp [0,1,5]) [] 160 pn ?_
  exact Runs.nW hE 2 [] (kp [0,1,5]) [] 0 pn (g_w06_Names_L1_ok N _ _ N _ _ h E hE)
noncomputable def C_28 (n:Nat):Code:=cat (bodyOf Try.f124) (pth n)
def g_math_bits_Len64_J1_H (N:Nat) (K:Int→Int→Option (Int)):Prop:=∀ (x2:Int) (n:Int) (r:Int),K x2 n=some r→∀ E,EnvOk E 0→Runs Try.prog E 124 25 (SPost E [] (aI r)) [.code (C_28 28),.code (C_28 29),.code (C_28 15)] ⟨[(0,(.atom (.int .u64 x2))),(2,(aI n))],[],0⟩
def g_math_bits_Len64_J2_H (N:Nat) (K:Int→Int→Option (Int)):Prop:=∀ (x3:Int) (n2:Int) (r:Int),K x3 n2=some r→∀ E,EnvOk E 0→Runs Try.prog E 124 25 (SPost E [] (aI r)) [.code (C_28 60),.code (C_28 61),.code (C_28 31)] ⟨[(0,(.atom (.int .u64 x3))),(2,(aI n2))],[],0⟩
def g_math_bits_Len64_J3_H (N:Nat) (K:Int→Int→Option (Int)):Prop:=∀ (x4:Int) (n3:Int) (r:Int),K x4 n3=some r→∀ E,EnvOk E 0→Runs Try.prog E 124 25 (SPost E [] (aI r)) [.code (C_28 62),.code (C_28 63)] ⟨[(0,(.atom (.int .u64 x4))),(2,(aI n3))],[],0⟩
theorem g_math_bits_Len64_J3_ok (N:Nat):g_math_bits_Len64_J3_H N (g_math_bits_Len64_J3 N):=by
 intro x4 n3 r h E hE
 unfold g_math_bits_Len64_J3 at h
 obtain ⟨c,h⟩:=ifSome h
 refine Runs.nR hE 0 [] [] (kp [2]) [] 112 (pc c pn) ?_
 obtain rfl:=Option.some.inj h
 exact Runs.nT hE 0 Try.f124 [] (kp [2]) [] 112 pn [] pn
theorem g_math_bits_Len64_J2_ok (N:Nat):g_math_bits_Len64_J2_H N (g_math_bits_Len64_J2 N):=by
 intro x3 n2 r h E hE
 unfold g_math_bits_Len64_J2 at h
 refine Runs.nR hE 0 [] [] (kp [0,2,14]) [] 32 pn ?_
 refine Runs.nC 0 14 h (fun hq4 h=>?_) (fun hq4 h=>?_)
 ·refine Runs.nR hE 1 [] [] (kp [0,2]) [] 80 (pc (show (0:Int)≤8 by decide) pn) ?_
  refine Runs.nR hE 0 [] [] (kp [0,2]) [] 128 pn ?_
  exact Runs.nW hE 1 [] (kp [0,2]) [] 0 pn (g_math_bits_Len64_J3_ok N _ _ _ h E hE)
 ·exact Runs.nW hE 2 [] (kp [0,2]) [] 0 pn (g_math_bits_Len64_J3_ok N _ _ _ h E hE)
theorem g_math_bits_Len64_J1_ok (N:Nat):g_math_bits_Len64_J1_H N (g_math_bits_Len64_J1 N):=by
 intro x2 n r h E hE
 unfold g_math_bits_Len64_J1 at h
 refine Runs.nR hE 0 [] [] (kp [0,2,8]) [] 32 pn ?_
 refine Runs.nC 0 8 h (fun hq3 h=>?_) (fun hq3 h=>?_)
 ·refine Runs.nR hE 1 [] [] (kp [0,2]) [] 80 (pc (show (0:Int)≤16 by decide) pn) ?_
  refine Runs.nR hE 0 [] [] (kp [0,2]) [] 128 pn ?_
  exact Runs.nW hE 2 [] (kp [0,2]) [] 0 pn (g_math_bits_Len64_J2_ok N _ _ _ h E hE)
 ·exact Runs.nW hE 3 [] (kp [0,2]) [] 0 pn (g_math_bits_Len64_J2_ok N _ _ _ h E hE)
theorem g_math_bits_Len64_ok (N:Nat) (x:Int) (r:Int) (h:g_math_bits_Len64 N x=some r):Sound Try.prog 124 [(.atom (.int .u64 x))] [] 0 (aI r) []:=by
 unfold g_math_bits_Len64 at h
 refine Sound.of_runs (fu:=Try.f124) (c:=C_28 1) (nt:=25) (by kernel_rfl) (by kernel_rfl) (by kernel_rfl) (by kernel_rfl) (fun hm=>rfl) ?_
 intro E hE
 refine Runs.nR hE 1 [] [] (kp [0,2]) [] 16 pn ?_
 refine Runs.nR hE 2 [] [] (kp [0,2,4]) [] 48 pn ?_
 refine Runs.nC 0 4 h (fun hq2 h=>?_) (fun hq2 h=>?_)
 ·refine Runs.nR hE 1 [] [] (kp [0]) [] 96 (pc (show (0:Int)≤32 by decide) pn) ?_
  refine Runs.nR hE 0 [] [] (kp [0,2]) [] 112 pn ?_
  exact Runs.nW hE 2 [] (kp [0,2]) [] 0 pn (g_math_bits_Len64_J1_ok N _ _ _ h E hE)
 ·exact Runs.nW hE 3 [] (kp [0,2]) [] 0 pn (g_math_bits_Len64_J1_ok N _ _ _ h E hE)
noncomputable def C_27 (n:Nat):Code:=cat (bodyOf Try.f99) (pth n)
theorem g_math_bits_Len_ok (N:Nat) (x:Int) (r:Int) (h:g_math_bits_Len N x=some r):Sound Try.prog 99 [(.atom (.int .u64 x))] [] 0 (aI r) []:=by
 unfold g_math_bits_Len at h
 refine Sound.of_runs (fu:=Try.f99) (c:=C_27 1) (nt:=8) (by kernel_rfl) (by kernel_rfl) (by kernel_rfl) (by kernel_rfl) (fun hm=>rfl) ?_
 intro E hE
 refine Runs.nR hE 1 [] [] (kp [0]) [] 16 pn ?_
 refine Runs.nQ0 1 ?_
 obtain ⟨rLen64,hr,h⟩:=bindSome h
 refine Runs.nR hE 2 [(1,⟨[],true,(aI rLen64),[],0,false,none⟩)] [] (kp [2]) [] 64 (pc (g_math_bits_Len64_ok N x rLen64 hr) pn) ?_
 obtain rfl:=Option.some.inj h
 exact Runs.nT hE 0 Try.f99 [] (kp [2]) [] 64 pn [] pn
noncomputable def C_32 (n:Nat):Code:=cat (bodyOf Try.f135) (pth n)
theorem g_cmp_isNaN_int_ok (N:Nat) (x:Int) (r:Bool) (h:g_cmp_isNaN_int N x=some r):Sound Try.prog 135 [(aI x)] [] 0 (aB r) []:=by
 unfold g_cmp_isNaN_int at h
 refine Sound.of_runs (fu:=Try.f135) (c:=C_32 1) (nt:=6) (by kernel_rfl) (by kernel_rfl) (by kernel_rfl) (by kernel_rfl) (fun hm=>rfl) ?_
 intro E hE
 refine Runs.nR hE 1 [] [] (kp [0]) [] 16 pn ?_
 refine Runs.nR hE 1 [] [] (kp [2]) [] 80 pn ?_
 obtain rfl:=Option.some.inj h
 exact Runs.nT hE 0 Try.f135 [] (kp [2]) [] 80 pn [] pn
noncomputable def C_31 (n:Nat):Code:=cat (bodyOf Try.f120) (pth n)
theorem g_cmp_Less_int_ok (N:Nat) (x:Int) (y:Int) (r:Bool) (h:g_cmp_Less_int N x y=some r):Sound Try.prog 120 [(aI x),(aI y)] [] 0 (aB r) []:=by
 unfold g_cmp_Less_int at h
 refine Sound.of_runs (fu:=Try.f120) (c:=C_31 1) (nt:=17) (by kernel_rfl) (by kernel_rfl) (by kernel_rfl) (by kernel_rfl) (fun hm=>rfl) ?_
 intro E hE
 refine Runs.nR hE 1 [] [] (kp [0,1]) [] 16 pn ?_
 obtain ⟨risNaN,hr,h⟩:=bindSome h
 obtain ⟨risNaN2,hr2,h⟩:=bindSome h
 refine Runs.nR hE 1 [(1,⟨[],true,(aB risNaN),[],0,false,none⟩),(4,⟨[],true,(aB risNaN2),[],0,false,none⟩)] [] (kp [4]) [] 224 (pc (g_cmp_isNaN_int_ok N x risNaN hr) (pc (fun hg:risNaN=true=>(pc (g_cmp_isNaN_int_ok N y risNaN2 (condT hr2 hg)) (pc hg pn))) (pc (fun hg:risNaN=true=>(pc hg pn)) (pc (fun hq:risNaN=true=>(pc hq pn)) (pc (fun hg:(!(cond risNaN (!risNaN2) false))=true=>(pc hg (pc hg pn))) (pc (fun hq:(!(cond risNaN (!risNaN2) false))=true=>(pc hq pn)) pn)))))) ?_
 obtain rfl:=Option.some.inj h
 exact Runs.nT hE 0 Try.f120 [] (kp [4]) [] 224 pn [] pn
noncomputable def C_30 (n:Nat):Code:=cat (bodyOf Try.f114) (pth n)
def g_slices_insertionSortOrdered_int_L1_H (N:Nat) (a:Int) (b:Int) (K:(List Int)→Int→Option ((List Int))):Prop:=∀ (cap02:List Int) (i:Int) (r:(List Int)),K cap02 i=some r→∀ E,EnvOk E 1→Runs Try.prog E 114 49 (SPost E [(0,aO 1 cI 0 r)] (.tup [])) [.code (C_30 12),.inLoop (C_30 12),.inBlock 0] ⟨[(0,(.os 0 0 cap02.length)),(1,(aI a)),(2,(aI b)),(6,(aI i))],[(0,aO 1 cI 0 cap02)],1⟩
def g_slices_insertionSortOrdered_int_L2_H (N:Nat) (a:Int) (b:Int) (i:Int) (K:(List Int)→Int→Option ((List Int))):Prop:=∀ (cap03:List Int) (j:Int) (r:(List Int)),K cap03 j=some r→∀ E,EnvOk E 1→Runs Try.prog E 114 49 (SPost E [(0,aO 1 cI 0 r)] (.tup [])) [.code (C_30 804),.inLoop (C_30 804),.inBlock 2,.inBlock 1,.code (C_30 51),.inLoop (C_30 12),.inBlock 0] ⟨[(0,(.os 0 0 cap03.length)),(1,(aI a)),(2,(aI b)),(6,(aI i)),(7,(aI j))],[(0,aO 1 cI 0 cap03)],1⟩
theorem g_slices_insertionSortOrdered_int_L2_ok (N:Nat) (a:Int) (b:Int) (i:Int) (K_g_slices_insertionSortOrdered_int_L1:(List Int)→Int→Option ((List Int))) (hK_g_slices_insertionSortOrdered_int_L1:g_slices_insertionSortOrdered_int_L1_H N a b K_g_slices_insertionSortOrdered_int_L1) (fuel:Nat):g_slices_insertionSortOrdered_int_L2_H N a b i (g_slices_insertionSortOrdered_int_L2 N a b i K_g_slices_insertionSortOrdered_int_L1 fuel):=by
 induction fuel with
 | zero=>intro _ _ r h;rw [g_slices_insertionSortOrdered_int_L2.eq_1] at h;cases h
 | succ fuel ih =>
  intro cap03 j r h E hE
  rw [g_slices_insertionSortOrdered_int_L2.eq_2] at h
  obtain ⟨c,h⟩:=ifSome h
  obtain ⟨c2,h⟩:=ifSome h
  obtain ⟨rLess,hr,h⟩:=bindSome h
  refine Runs.nR hE 2 [(13,⟨[],true,(aB rLess),[],0,false,none⟩)] [] (kp [0,1,2,6,7,30]) (kq [0]) 241 (pc (fun hg:(decide (j > a))=true=>(pc hg (pc hg (pc (c hg) pn)))) (pc (fun hg:(decide (j > a))=true=>(pc hg (pc (ltOf (c hg)) pn))) (pc (fun hg:(decide (j > a))=true=>(pc hg pn)) (pc (fun hg:(decide (j > a))=true=>(pc hg (pc hg (pc (c2 hg) pn)))) (pc (fun hg:(decide (j > a))=true=>(pc hg (pc (ltOf (c2 hg)) pn))) (pc (fun hg:(decide (j > a))=true=>(pc (g_cmp_Less_int_ok N (cap03.getD ((j).toNat) 0) (cap03.getD ((w64 (j - 1)).toNat) 0) rLess (condT hr hg)) (pc hg (pc hg pn)))) (pc (fun hq:(decide (j > a))=true=>(pc hq pn)) pn))))))) ?_
  refine Runs.nC 0 30 h (fun hq3 h=>?_) (fun hq3 h=>?_)
  ·obtain ⟨c3,h⟩:=ifSome h
   obtain ⟨c4,h⟩:=ifSome h
   refine Runs.nR hE 3 [] [] ([(0,.osl (((cap03.set ((j).toNat) (cap03.getD ((w64 (j - 1)).toNat) 0)).set ((w64 (j - 1)).toNat) (cap03.getD ((j).toNat) 0)).length))] ++ kp [1,2,6,7]) [(0,.arr 0 (((cap03.set ((j).toNat) (cap03.getD ((w64 (j - 1)).toNat) 0)).set ((w64 (j - 1)).toNat) (cap03.getD ((j).toNat) 0)).length) (fun zi=>cI (((cap03.set ((j).toNat) (cap03.getD ((w64 (j - 1)).toNat) 0)).set ((w64 (j - 1)).toNat) (cap03.getD ((j).toNat) 0)).getD zi 0)))] 529 (pc c3 (pc (ltOf c3) (pc c4 (pc (ltOf c4) (pc c4 (pc (ltOf c4) (pc c3 (pc (ltOf c3) (pc (show cap03.length=((cap03.set ((j).toNat) (cap03.getD ((w64 (j - 1)).toNat) 0)).set ((w64 (j - 1)).toNat) (cap03.getD ((j).toNat) 0)).length from (len_set_raw (len_set_raw rfl))) (pc (show cap03.length=((cap03.set ((j).toNat) (cap03.getD ((w64 (j - 1)).toNat) 0)).set ((w64 (j - 1)).toNat) (cap03.getD ((j).toNat) 0)).length from (len_set_raw (len_set_raw rfl))) (pc (show ∀ zi,zi < ((cap03.set ((j).toNat) (cap03.getD ((w64 (j - 1)).toNat) 0)).set ((w64 (j - 1)).toNat) (cap03.getD ((j).toNat) 0)).length→(fun zi=>cI (((cap03.set ((j).toNat) (cap03.getD ((w64 (j - 1)).toNat) 0)).set ((w64 (j - 1)).toNat) (cap03.getD ((j).toNat) 0)).getD zi 0)) zi=((fun zm=>if zm=(w64 (j - 1)).toNat then [(aI (cap03.getD ((j).toNat) 0))] else ((fun zm=>if zm=(j).toNat then [(aI (cap03.getD ((w64 (j - 1)).toNat) 0))] else (fun zi=>cI (cap03.getD zi 0)) zm)) zm)) zi from (get_set_raw cI 0 (cap03.set ((j).toNat) (cap03.getD ((w64 (j - 1)).toNat) 0)) ((w64 (j - 1)).toNat) (cap03.getD ((j).toNat) 0) (get_set_raw cI 0 cap03 ((j).toNat) (cap03.getD ((w64 (j - 1)).toNat) 0) (fun _ _=>rfl)))) pn))))))))))) ?_
   refine Runs.nR hE 1 [] [] (kp [0,1,2,6,7]) (kq [0]) 577 pn ?_
   exact Runs.nW hE 1 [] (kp [0,1,2,6,7]) (kq [0]) 1 pn (ih _ _ _ h E hE)
  ·refine Runs.nR hE 2 [] [] (kp [0,1,2,6]) (kq [0]) 289 pn ?_
   exact Runs.nW hE 1 [] (kp [0,1,2,6]) (kq [0]) 1 pn (hK_g_slices_insertionSortOrdered_int_L1 _ _ _ h E hE)
theorem g_slices_insertionSortOrdered_int_L1_ok (N:Nat) (a:Int) (b:Int) (fuel:Nat):g_slices_insertionSortOrdered_int_L1_H N a b (g_slices_insertionSortOrdered_int_L1 N a b fuel):=by
 induction fuel with
 | zero=>intro _ _ r h;rw [g_slices_insertionSortOrdered_int_L1.eq_1] at h;cases h
 | succ fuel ih =>
  intro cap02 i r h E hE
  rw [g_slices_insertionSortOrdered_int_L1.eq_2] at h
  refine Runs.nR hE 2 [] [] (kp [0,1,2,6,12]) (kq [0]) 49 pn ?_
  refine Runs.nC 0 12 h (fun hq2 h=>?_) (fun hq2 h=>?_)
  ·refine Runs.nR hE 4 [] [] (kp [0,1,2,6,7]) (kq [0]) 81 pn ?_
   exact Runs.nW hE 2 [] (kp [0,1,2,6,7]) (kq [0]) 1 pn (g_slices_insertionSortOrdered_int_L2_ok N _ _ _ _ ih N _ _ _ h E hE)
  ·obtain rfl:=Option.some.inj h
   exact Runs.nF hE 1 Try.f114 [] [] (kq [0]) 49 pn [] pn
theorem g_slices_insertionSortOrdered_int_ok (N:Nat) (a:Int) (b:Int) (cap0:List Int) (r:(List Int)) (h:g_slices_insertionSortOrdered_int N a b cap0=some r):Sound Try.prog 114 [(.os 0 0 cap0.length),(aI a),(aI b)] [(0,aO 1 cI 0 cap0)] 1 (.tup []) [(0,aO 1 cI 0 r)]:=by
 unfold g_slices_insertionSortOrdered_int at h
 refine Sound.of_runs (fu:=Try.f114) (c:=C_30 1) (nt:=49) (by kernel_rfl) (by kernel_rfl) (by kernel_rfl) (by kernel_rfl) (fun hm=>absurd hm (by decide)) ?_
 intro E hE
 refine Runs.nR hE 1 [] [] (kp [0,1,2,6]) (kq [0]) 49 pn ?_
 exact Runs.nW hE 2 [] (kp [0,1,2,6]) (kq [0]) 1 pn (g_slices_insertionSortOrdered_int_L1_ok N _ _ N _ _ _ h E hE)
noncomputable def C_34 (n:Nat):Code:=cat (bodyOf Try.f130) (pth n)
def g_slices_siftDownOrdered_int_L1_H (N:Nat) (hi:Int) (first:Int) (K:(List Int)→Int→Option ((List Int))):Prop:=∀ (cap02:List Int) (root:Int) (r:(List Int)),K cap02 root=some r→∀ E,EnvOk E 1→Runs Try.prog E 130 76 (SPost E [(0,aO 1 cI 0 r)] (.tup [])) [.code (C_34 12),.inLoop (C_34 12),.inBlock 0] ⟨[(0,(.os 0 0 cap02.length)),(2,(aI hi)),(3,(aI first)),(8,(aI root))],[(0,aO 1 cI 0 cap02)],1⟩
def g_slices_siftDownOrdered_int_J2_H (N:Nat) (hi:Int) (first:Int) (cap02:List Int) (root:Int) (K:Int→Option ((List Int))):Prop:=∀ (child:Int) (r:(List Int)),K child=some r→∀ E,EnvOk E 1→Runs Try.prog E 130 76 (SPost E [(0,aO 1 cI 0 r)] (.tup [])) [.code (C_34 796),.code (C_34 797),.code (C_34 399),.inBlock 1,.inLoop (C_34 12),.inBlock 0] ⟨[(0,(.os 0 0 cap02.length)),(2,(aI hi)),(3,(aI first)),(8,(aI root)),(9,(aI child))],[(0,aO 1 cI 0 cap02)],1⟩
theorem g_slices_siftDownOrdered_int_J2_ok (N:Nat) (hi:Int) (first:Int) (cap02:List Int) (root:Int) (K_g_slices_siftDownOrdered_int_L1:(List Int)→Int→Option ((List Int))) (hK_g_slices_siftDownOrdered_int_L1:g_slices_siftDownOrdered_int_L1_H N hi first K_g_slices_siftDownOrdered_int_L1):g_slices_siftDownOrdered_int_J2_H N hi first cap02 root (g_slices_siftDownOrdered_int_J2 N hi first cap02 root K_g_slices_siftDownOrdered_int_L1):=by
 intro child r h E hE
 unfold g_slices_siftDownOrdered_int_J2 at h
 obtain ⟨c3,h⟩:=ifSome h
 obtain ⟨c4,h⟩:=ifSome h
 obtain ⟨rLess2,hr2,h⟩:=bindSome h
 refine Runs.nR hE 0 [(12,⟨[],true,(aB rLess2),[],0,false,none⟩)] [] (kp [0,2,3,8,9,52]) (kq [0]) 225 (pc c3 (pc (ltOf c3) (pc c4 (pc (ltOf c4) (pc (g_cmp_Less_int_ok N (cap02.getD ((w64 (first+root)).toNat) 0) (cap02.getD ((w64 (first+child)).toNat) 0) rLess2 hr2) pn))))) ?_
 refine Runs.nC 0 52 h (fun hq4 h=>?_) (fun hq4 h=>?_)
 ·obtain rfl:=Option.some.inj h
  exact Runs.nT hE 0 Try.f130 [] [] (kq [0]) 225 pn [] pn
 ·refine Runs.nR hE 2 [] [] ([(0,.osl (((cap02.set ((w64 (first+root)).toNat) (cap02.getD ((w64 (first+child)).toNat) 0)).set ((w64 (first+child)).toNat) (cap02.getD ((w64 (first+root)).toNat) 0)).length))] ++ kp [2,3,9]) [(0,.arr 0 (((cap02.set ((w64 (first+root)).toNat) (cap02.getD ((w64 (first+child)).toNat) 0)).set ((w64 (first+child)).toNat) (cap02.getD ((w64 (first+root)).toNat) 0)).length) (fun zi=>cI (((cap02.set ((w64 (first+root)).toNat) (cap02.getD ((w64 (first+child)).toNat) 0)).set ((w64 (first+child)).toNat) (cap02.getD ((w64 (first+root)).toNat) 0)).getD zi 0)))] 609 (pc c4 (pc (ltOf c4) (pc c3 (pc (ltOf c3) (pc c3 (pc (ltOf c3) (pc c4 (pc (ltOf c4) (pc (show cap02.length=((cap02.set ((w64 (first+root)).toNat) (cap02.getD ((w64 (first+child)).toNat) 0)).set ((w64 (first+child)).toNat) (cap02.getD ((w64 (first+root)).toNat) 0)).length from (len_set_raw (len_set_raw rfl))) (pc (show cap02.length=((cap02.set ((w64 (first+root)).toNat) (cap02.getD ((w64 (first+child)).toNat) 0)).set ((w64 (first+child)).toNat) (cap02.getD ((w64 (first+root)).toNat) 0)).length from (len_set_raw (len_set_raw rfl))) (pc (show ∀ zi,zi < ((cap02.set ((w64 (first+root)).toNat) (cap02.getD ((w64 (first+child)).toNat) 0)).set ((w64 (first+child)).toNat) (cap02.getD ((w64 (first+root)).toNat) 0)).length→(fun zi=>cI (((cap02.set ((w64 (first+root)).toNat) (cap02.getD ((w64 (first+child)).toNat) 0)).set ((w64 (first+child)).toNat) (cap02.getD ((w64 (first+root)).toNat) 0)).getD zi 0)) zi=((fun zm=>if zm=(w64 (first+child)).toNat then [(aI (cap02.getD ((w64 (first+root)).toNat) 0))] else ((fun zm=>if zm=(w64 (first+root)).toNat then [(aI (cap02.getD ((w64 (first+child)).toNat) 0))] else (fun zi=>cI (cap02.getD zi 0)) zm)) zm)) zi from (get_set_raw cI 0 (cap02.set ((w64 (first+root)).toNat) (cap02.getD ((w64 (first+child)).toNat) 0)) ((w64 (first+child)).toNat) (cap02.getD ((w64 (first+root)).toNat) 0) (get_set_raw cI 0 cap02 ((w64 (first+root)).toNat) (cap02.getD ((w64 (first+child)).toNat) 0) (fun _ _=>rfl)))) pn))))))))))) ?_
  refine Runs.nR hE 0 [] [] (kp [0,2,3,8]) (kq [0]) 641 pn ?_
  exact Runs.nW hE 2 [] (kp [0,2,3,8]) (kq [0]) 1 pn (hK_g_slices_siftDownOrdered_int_L1 _ _ _ h E hE)
theorem g_slices_siftDownOrdered_int_L1_ok (N:Nat) (hi:Int) (first:Int) (fuel:Nat):g_slices_siftDownOrdered_int_L1_H N hi first (g_slices_siftDownOrdered_int_L1 N hi first fuel):=by
 induction fuel with
 | zero=>intro _ _ r h;rw [g_slices_siftDownOrdered_int_L1.eq_1] at h;cases h
 | succ fuel ih =>
  intro cap02 root r h E hE
  rw [g_slices_siftDownOrdered_int_L1.eq_2] at h
  refine Runs.nR hE 2 [] [] (kp [0,2,3,8,9]) (kq [0]) 65 pn ?_
  refine Runs.nR hE 2 [] [] (kp [0,2,3,8,9,16]) (kq [0]) 113 pn ?_
  refine Runs.nC 0 16 h (fun hq2 h=>?_) (fun hq2 h=>?_)
  ·obtain rfl:=Option.some.inj h
   exact Runs.nF hE 1 Try.f130 [] [] (kq [0]) 113 pn [] pn
  ·obtain ⟨c,h⟩:=ifSome h
   obtain ⟨c2,h⟩:=ifSome h
   obtain ⟨rLess,hr,h⟩:=bindSome h
   refine Runs.nR hE 3 [(18,⟨[],true,(aB rLess),[],0,false,none⟩)] [] (kp [0,2,3,8,9,36]) (kq [0]) 433 (pc (fun hg:(decide ((w64 ((w64 ((w64 (2 * root))+1))+1)) < hi))=true=>(pc hg (pc hg pn))) (pc (fun hg:(decide ((w64 ((w64 ((w64 (2 * root))+1))+1)) < hi))=true=>(pc hg (pc hg (pc (c hg) pn)))) (pc (fun hg:(decide ((w64 ((w64 ((w64 (2 * root))+1))+1)) < hi))=true=>(pc hg (pc (ltOf (c hg)) pn))) (pc (fun hg:(decide ((w64 ((w64 ((w64 (2 * root))+1))+1)) < hi))=true=>(pc hg (pc hg pn))) (pc (fun hg:(decide ((w64 ((w64 ((w64 (2 * root))+1))+1)) < hi))=true=>(pc hg pn)) (pc (fun hg:(decide ((w64 ((w64 ((w64 (2 * root))+1))+1)) < hi))=true=>(pc hg (pc hg (pc (c2 hg) pn)))) (pc (fun hg:(decide ((w64 ((w64 ((w64 (2 * root))+1))+1)) < hi))=true=>(pc hg (pc (ltOf (c2 hg)) pn))) (pc (fun hg:(decide ((w64 ((w64 ((w64 (2 * root))+1))+1)) < hi))=true=>(pc (g_cmp_Less_int_ok N (cap02.getD ((w64 (first+(w64 ((w64 (2 * root))+1)))).toNat) 0) (cap02.getD ((w64 ((w64 (first+(w64 ((w64 (2 * root))+1))))+1)).toNat) 0) rLess (condT hr hg)) (pc hg (pc hg pn)))) (pc (fun hq:(decide ((w64 ((w64 ((w64 (2 * root))+1))+1)) < hi))=true=>(pc hq pn)) pn))))))))) ?_
   refine Runs.nC 0 36 h (fun hq3 h=>?_) (fun hq3 h=>?_)
   ·refine Runs.nR hE 0 [] [] (kp [0,2,3,8,9]) (kq [0]) 481 pn ?_
    exact Runs.nW hE 2 [] (kp [0,2,3,8,9]) (kq [0]) 1 pn (g_slices_siftDownOrdered_int_J2_ok N _ _ _ _ _ ih _ _ h E hE)
   ·exact Runs.nW hE 3 [] (kp [0,2,3,8,9]) (kq [0]) 1 pn (g_slices_siftDownOrdered_int_J2_ok N _ _ _ _ _ ih _ _ h E hE)
theorem g_slices_siftDownOrdered_int_ok (N:Nat) (lo:Int) (hi:Int) (first:Int) (cap0:List Int) (r:(List Int)) (h:g_slices_siftDownOrdered_int N lo hi first cap0=some r):Sound Try.prog 130 [(.os 0 0 cap0.length),(aI lo),(aI hi),(aI first)] [(0,aO 1 cI 0 cap0)] 1 (.tup []) [(0,aO 1 cI 0 r)]:=by
 unfold g_slices_siftDownOrdered_int at h
 refine Sound.of_runs (fu:=Try.f130) (c:=C_34 1) (nt:=76) (by kernel_rfl) (by kernel_rfl) (by kernel_rfl) (by kernel_rfl) (fun hm=>absurd hm (by decide)) ?_
 intro E hE
 refine Runs.nR hE 1 [] [] (kp [0,2,3,8]) (kq [0]) 33 pn ?_
 exact Runs.nW hE 2 [] (kp [0,2,3,8]) (kq [0]) 1 pn (g_slices_siftDownOrdered_int_L1_ok N _ _ N _ _ _ h E hE)
noncomputable def C_33 (n:Nat):Code:=cat (bodyOf Try.f115) (pth n)
def g_slices_heapSortOrdered_int_L1_H (N:Nat) (a:Int) (b:Int) (K:(List Int)→Int→Option ((List Int))):Prop:=∀ (cap02:List Int) (i:Int) (r:(List Int)),K cap02 i=some r→∀ E,EnvOk E 1→Runs Try.prog E 115 56 (SPost E [(0,aO 1 cI 0 r)] (.tup [])) [.code (C_33 244),.inLoop (C_33 244),.inBlock 0,.code (C_33 31)] ⟨[(0,(.os 0 0 cap02.length)),(6,(aI a)),(7,(aI 0)),(8,(aI (w64 (b - a)))),(9,(aI i))],[(0,aO 1 cI 0 cap02)],1⟩
def g_slices_heapSortOrdered_int_L2_H (N:Nat) (a:Int) (K:(List Int)→Int→Option ((List Int))):Prop:=∀ (cap03:List Int) (i2:Int) (r:(List Int)),K cap03 i2=some r→∀ E,EnvOk E 1→Runs Try.prog E 115 56 (SPost E [(0,aO 1 cI 0 r)] (.tup [])) [.code (C_33 252),.inLoop (C_33 252),.inBlock 2] ⟨[(0,(.os 0 0 cap03.length)),(6,(aI a)),(7,(aI 0)),(10,(aI i2))],[(0,aO 1 cI 0 cap03)],1⟩
theorem g_slices_heapSortOrdered_int_L2_ok (N:Nat) (a:Int) (fuel:Nat):g_slices_heapSortOrdered_int_L2_H N a (g_slices_heapSortOrdered_int_L2 N a fuel):=by
 induction fuel with
 | zero=>intro _ _ r h;rw [g_slices_heapSortOrdered_int_L2.eq_1] at h;cases h
 | succ fuel ih =>
  intro cap03 i2 r h E hE
  rw [g_slices_heapSortOrdered_int_L2.eq_2] at h
  refine Runs.nR hE 2 [] [] (kp [0,6,7,10,30]) (kq [0]) 33 pn ?_
  refine Runs.nC 0 30 h (fun hq3 h=>?_) (fun hq3 h=>?_)
  ·obtain ⟨c2,h⟩:=ifSome h
   obtain ⟨c3,h⟩:=ifSome h
   refine Runs.nR hE 4 [] [] ([(0,.osl (((cap03.set ((a).toNat) (cap03.getD ((w64 (a+i2)).toNat) 0)).set ((w64 (a+i2)).toNat) (cap03.getD ((a).toNat) 0)).length))] ++ kp [6,7,10]) [(0,.arr 0 (((cap03.set ((a).toNat) (cap03.getD ((w64 (a+i2)).toNat) 0)).set ((w64 (a+i2)).toNat) (cap03.getD ((a).toNat) 0)).length) (fun zi=>cI (((cap03.set ((a).toNat) (cap03.getD ((w64 (a+i2)).toNat) 0)).set ((w64 (a+i2)).toNat) (cap03.getD ((a).toNat) 0)).getD zi 0)))] 353 (pc c2 (pc (ltOf c2) (pc c3 (pc (ltOf c3) (pc c3 (pc (ltOf c3) (pc c2 (pc (ltOf c2) (pc (show cap03.length=((cap03.set ((a).toNat) (cap03.getD ((w64 (a+i2)).toNat) 0)).set ((w64 (a+i2)).toNat) (cap03.getD ((a).toNat) 0)).length from (len_set_raw (len_set_raw rfl))) (pc (show cap03.length=((cap03.set ((a).toNat) (cap03.getD ((w64 (a+i2)).toNat) 0)).set ((w64 (a+i2)).toNat) (cap03.getD ((a).toNat) 0)).length from (len_set_raw (len_set_raw rfl))) (pc (show ∀ zi,zi < ((cap03.set ((a).toNat) (cap03.getD ((w64 (a+i2)).toNat) 0)).set ((w64 (a+i2)).toNat) (cap03.getD ((a).toNat) 0)).length→(fun zi=>cI (((cap03.set ((a).toNat) (cap03.getD ((w64 (a+i2)).toNat) 0)).set ((w64 (a+i2)).toNat) (cap03.getD ((a).toNat) 0)).getD zi 0)) zi=((fun zm=>if zm=(w64 (a+i2)).toNat then [(aI (cap03.getD ((a).toNat) 0))] else ((fun zm=>if zm=(a).toNat then [(aI (cap03.getD ((w64 (a+i2)).toNat) 0))] else (fun zi=>cI (cap03.getD zi 0)) zm)) zm)) zi from (get_set_raw cI 0 (cap03.set ((a).toNat) (cap03.getD ((w64 (a+i2)).toNat) 0)) ((w64 (a+i2)).toNat) (cap03.getD ((a).toNat) 0) (get_set_raw cI 0 cap03 ((a).toNat) (cap03.getD ((w64 (a+i2)).toNat) 0) (fun _ _=>rfl)))) pn))))))))))) ?_
   obtain ⟨rsiftDownOrde2,hr2,h⟩:=bindSome h
   obtain ⟨c4,h⟩:=ifSome h
   refine Runs.nR hE 0 [(4,⟨[0],false,(.tup []),[(0,aO 1 cI 0 rsiftDownOrde2)],0,false,none⟩)] [] ([(0,.osl (rsiftDownOrde2.length))] ++ kp [6,7,10]) (kq [0]) 433 (pc (g_slices_siftDownOrdered_int_ok N 0 i2 a ((cap03.set ((a).toNat) (cap03.getD ((w64 (a+i2)).toNat) 0)).set ((w64 (a+i2)).toNat) (cap03.getD ((a).toNat) 0)) rsiftDownOrde2 hr2) (pc (show ((cap03.set ((a).toNat) (cap03.getD ((w64 (a+i2)).toNat) 0)).set ((w64 (a+i2)).toNat) (cap03.getD ((a).toNat) 0)).length=rsiftDownOrde2.length from (Eq.symm c4)) pn)) ?_
   refine Runs.nR hE 1 [] [] (kp [0,6,7,10]) (kq [0]) 481 pn ?_
   exact Runs.nW hE 1 [] (kp [0,6,7,10]) (kq [0]) 1 pn (ih _ _ _ h E hE)
  ·obtain rfl:=Option.some.inj h
   exact Runs.nF hE 1 Try.f115 [] [] (kq [0]) 49 pn [] pn
theorem g_slices_heapSortOrdered_int_L1_ok (N:Nat) (a:Int) (b:Int) (fuel:Nat):g_slices_heapSortOrdered_int_L1_H N a b (g_slices_heapSortOrdered_int_L1 N a b fuel):=by
 induction fuel with
 | zero=>intro _ _ r h;rw [g_slices_heapSortOrdered_int_L1.eq_1] at h;cases h
 | succ fuel ih =>
  intro cap02 i r h E hE
  rw [g_slices_heapSortOrdered_int_L1.eq_2] at h
  refine Runs.nR hE 2 [] [] (kp [0,6,7,8,9,19]) (kq [0]) 33 pn ?_
  refine Runs.nC 0 19 h (fun hq2 h=>?_) (fun hq2 h=>?_)
  ·obtain ⟨rsiftDownOrde,hr,h⟩:=bindSome h
   obtain ⟨c,h⟩:=ifSome h
   refine Runs.nR hE 3 [(4,⟨[0],false,(.tup []),[(0,aO 1 cI 0 rsiftDownOrde)],0,false,none⟩)] [] ([(0,.osl (rsiftDownOrde.length))] ++ kp [6,7,8,9]) (kq [0]) 113 (pc (g_slices_siftDownOrdered_int_ok N i (w64 (b - a)) a cap02 rsiftDownOrde hr) (pc (show cap02.length=rsiftDownOrde.length from (Eq.symm c)) pn)) ?_
   refine Runs.nR hE 1 [] [] (kp [0,6,7,8,9]) (kq [0]) 161 pn ?_
   exact Runs.nW hE 1 [] (kp [0,6,7,8,9]) (kq [0]) 1 pn (ih _ _ _ h E hE)
  ·refine Runs.nR hE 2 [] [] (kp [0,6,7,10]) (kq [0]) 81 pn ?_
   exact Runs.nW hE 2 [] (kp [0,6,7,10]) (kq [0]) 1 pn (g_slices_heapSortOrdered_int_L2_ok N _ N _ _ _ h E hE)
theorem g_slices_heapSortOrdered_int_ok (N:Nat) (a:Int) (b:Int) (cap0:List Int) (r:(List Int)) (h:g_slices_heapSortOrdered_int N a b cap0=some r):Sound Try.prog 115 [(.os 0 0 cap0.length),(aI a),(aI b)] [(0,aO 1 cI 0 cap0)] 1 (.tup []) [(0,aO 1 cI 0 r)]:=by
 unfold g_slices_heapSortOrdered_int at h
 refine Sound.of_runs (fu:=Try.f115) (c:=C_33 1) (nt:=56) (by kernel_rfl) (by kernel_rfl) (by kernel_rfl) (by kernel_rfl) (fun hm=>absurd hm (by decide)) ?_
 intro E hE
 refine Runs.nR hE 1 [] [] (kp [0,1,2,6]) (kq [0]) 33 pn ?_
 refine Runs.nR hE 1 [] [] (kp [0,1,2,6,7]) (kq [0]) 49 pn ?_
 refine Runs.nR hE 1 [] [] (kp [0,6,7,8]) (kq [0]) 113 pn ?_
 refine Runs.nR hE 2 [] [] (kp [0,6,7,8,9]) (kq [0]) 177 (pc (show (2:Int)≠0 by decide) pn) ?_
 exact Runs.nW hE 2 [] (kp [0,6,7,8,9]) (kq [0]) 1 pn (g_slices_heapSortOrdered_int_L1_ok N _ _ N _ _ _ h E hE)
noncomputable def C_36 (n:Nat):Code:=cat (bodyOf Try.f131) (pth n)
theorem g_slices_nextPowerOfTwo_ok (N:Nat) (length:Int) (r:Int) (h:g_slices_nextPowerOfTwo N length=some r):Sound Try.prog 131 [(aI length)] [] 0 (.atom (.int .u64 r)) []:=by
 unfold g_slices_nextPowerOfTwo at h
 refine Sound.of_runs (fu:=Try.f131) (c:=C_36 1) (nt:=7) (by kernel_rfl) (by kernel_rfl) (by kernel_rfl) (by kernel_rfl) (fun hm=>rfl) ?_
 intro E hE
 refine Runs.nR hE 1 [] [] (kp [0]) [] 16 pn ?_
 obtain ⟨rLen,hr,h⟩:=bindSome h
 obtain ⟨c,h⟩:=ifSome h
 refine Runs.nR hE 1 [(2,⟨[],true,(aI rLen),[],0,false,none⟩)] [] (kp [2]) [] 96 (pc (g_math_bits_Len_ok N (IntKind.u64.wrap (length)) rLen hr) (pc c pn)) ?_
 obtain rfl:=Option.some.inj h
 exact Runs.nT hE 0 Try.f131 [] (kp [2]) [] 96 pn [] pn
noncomputable def C_37 (n:Nat):Code:=cat (bodyOf Try.f132) (pth n)
theorem g_slices_xorshift_Next_ok (N:Nat) (cap0:Int) (r:Int×Int) (h:g_slices_xorshift_Next N cap0=some r):Sound Try.prog 132 [(.op 0 0 0)] [(0,vO 1 [(.atom (.int .u64 cap0))])] 1 (.atom (.int .u64 r.1)) [(0,vO 1 [(.atom (.int .u64 r.2))])]:=by
 unfold g_slices_xorshift_Next at h
 refine Sound.of_runs (fu:=Try.f132) (c:=C_37 1) (nt:=33) (by kernel_rfl) (by kernel_rfl) (by kernel_rfl) (by kernel_rfl) (fun hm=>absurd hm (by decide)) ?_
 intro E hE
 refine Runs.nR hE 1 [] [] (kp [0]) (kq [0]) 17 pn ?_
 refine Runs.nR hE 1 [] [] (kp [0]) (kq [0]) 177 (pc o1 (pc o1 (pc (show (0:Int)≤13 by decide) (pc o1 pn)))) ?_
 refine Runs.nR hE 1 [] [] (kp [0]) (kq [0]) 337 (pc o1 (pc o1 (pc (show (0:Int)≤7 by decide) (pc o1 pn)))) ?_
 refine Runs.nR hE 1 [] [] (kp [0]) (kq [0]) 497 (pc o1 (pc o1 (pc (show (0:Int)≤17 by decide) (pc o1 pn)))) ?_
 refine Runs.nR hE 1 [] [] (kp [2]) (kq [0]) 561 (pc o1 pn) ?_
 obtain rfl:=Option.some.inj h
 exact Runs.nT hE 0 Try.f132 [] (kp [2]) (kq [0]) 561 pn [] pn
noncomputable def C_35 (n:Nat):Code:=cat (bodyOf Try.f116) (pth n)
def g_slices_breakPatternsOrdered_int_L1_H (N:Nat) (a:Int) (b:Int) (rnextPowerOfT:Int) (K:(List Int)→Int→Int→Option ((List Int))):Prop:=∀ (cap02:List Int) (random:Int) (idx:Int) (r:(List Int)),K cap02 random idx=some r→∀ E,EnvOk E 1→Runs Try.prog E 116 65 (SPost E [(0,aO 1 cI 0 r)] (.tup [])) [.code (C_35 476),.inLoop (C_35 476),.inBlock 0] ⟨[(0,(.os 0 0 cap02.length)),(1,(aI a)),(6,(aI (w64 (b - a)))),(7,(.op 1 0 0)),(8,(.atom (.int .u64 rnextPowerOfT))),(9,(aI idx))],[(0,aO 1 cI 0 cap02),(1,vO 1 [(.atom (.int .u64 random))])],2⟩
def g_slices_breakPatternsOrdered_int_J2_H (N:Nat) (a:Int) (b:Int) (rnextPowerOfT:Int) (cap02:List Int) (idx:Int) (rNext:Int×Int) (K:Int→Option ((List Int))):Prop:=∀ (other:Int) (r:(List Int)),K other=some r→∀ E,EnvOk E 1→Runs Try.prog E 116 65 (SPost E [(0,aO 1 cI 0 r)] (.tup [])) [.code (C_35 15251),.inBlock 1,.code (C_35 1907),.inLoop (C_35 476),.inBlock 0] ⟨[(0,(.os 0 0 cap02.length)),(1,(aI a)),(6,(aI (w64 (b - a)))),(7,(.op 1 0 0)),(8,(.atom (.int .u64 rnextPowerOfT))),(9,(aI idx)),(10,(aI other))],[(0,aO 1 cI 0 cap02),(1,vO 1 [(.atom (.int .u64 rNext.2))])],2⟩
theorem g_slices_breakPatternsOrdered_int_J2_ok (N:Nat) (a:Int) (b:Int) (rnextPowerOfT:Int) (cap02:List Int) (idx:Int) (rNext:Int×Int) (K_g_slices_breakPatternsOrdered_int_L1:(List Int)→Int→Int→Option ((List Int))) (hK_g_slices_breakPatternsOrdered_int_L1:g_slices_breakPatternsOrdered_int_L1_H N a b rnextPowerOfT K_g_slices_breakPatternsOrdered_int_L1):g_slices_breakPatternsOrdered_int_J2_H N a b rnextPowerOfT cap02 idx rNext (g_slices_breakPatternsOrdered_int_J2 N a b rnextPowerOfT cap02 idx rNext K_g_slices_breakPatternsOrdered_int_L1):=by
 intro other r h E hE
 unfold g_slices_breakPatternsOrdered_int_J2 at h
 obtain ⟨c,h⟩:=ifSome h
 obtain ⟨c2,h⟩:=ifSome h
 refine Runs.nR hE 0 [] [] ([(0,.osl (((cap02.set ((idx).toNat) (cap02.getD ((w64 (a+other)).toNat) 0)).set ((w64 (a+other)).toNat) (cap02.getD ((idx).toNat) 0)).length))] ++ kp [1,6,7,8,9]) ([(0,.arr 0 (((cap02.set ((idx).toNat) (cap02.getD ((w64 (a+other)).toNat) 0)).set ((w64 (a+other)).toNat) (cap02.getD ((idx).toNat) 0)).length) (fun zi=>cI (((cap02.set ((idx).toNat) (cap02.getD ((w64 (a+other)).toNat) 0)).set ((w64 (a+other)).toNat) (cap02.getD ((idx).toNat) 0)).getD zi 0)))] ++ kq [1]) 322 (pc c (pc (ltOf c) (pc c2 (pc (ltOf c2) (pc c2 (pc (ltOf c2) (pc c (pc (ltOf c) (pc (show cap02.length=((cap02.set ((idx).toNat) (cap02.getD ((w64 (a+other)).toNat) 0)).set ((w64 (a+other)).toNat) (cap02.getD ((idx).toNat) 0)).length from (len_set_raw (len_set_raw rfl))) (pc (show cap02.length=((cap02.set ((idx).toNat) (cap02.getD ((w64 (a+other)).toNat) 0)).set ((w64 (a+other)).toNat) (cap02.getD ((idx).toNat) 0)).length from (len_set_raw (len_set_raw rfl))) (pc (show ∀ zi,zi < ((cap02.set ((idx).toNat) (cap02.getD ((w64 (a+other)).toNat) 0)).set ((w64 (a+other)).toNat) (cap02.getD ((idx).toNat) 0)).length→(fun zi=>cI (((cap02.set ((idx).toNat) (cap02.getD ((w64 (a+other)).toNat) 0)).set ((w64 (a+other)).toNat) (cap02.getD ((idx).toNat) 0)).getD zi 0)) zi=((fun zm=>if zm=(w64 (a+other)).toNat then [(aI (cap02.getD ((idx).toNat) 0))] else ((fun zm=>if zm=(idx).toNat then [(aI (cap02.getD ((w64 (a+other)).toNat) 0))] else (fun zi=>cI (cap02.getD zi 0)) zm)) zm)) zi from (get_set_raw cI 0 (cap02.set ((idx).toNat) (cap02.getD ((w64 (a+other)).toNat) 0)) ((w64 (a+other)).toNat) (cap02.getD ((idx).toNat) 0) (get_set_raw cI 0 cap02 ((idx).toNat) (cap02.getD ((w64 (a+other)).toNat) 0) (fun _ _=>rfl)))) pn))))))))))) ?_
 refine Runs.nR hE 1 [] [] (kp [0,1,6,7,8,9]) (kq [0,1]) 370 pn ?_
 exact Runs.nW hE 1 [] (kp [0,1,6,7,8,9]) (kq [0,1]) 2 pn (hK_g_slices_breakPatternsOrdered_int_L1 _ _ _ _ h E hE)
theorem g_slices_breakPatternsOrdered_int_L1_ok (N:Nat) (a:Int) (b:Int) (rnextPowerOfT:Int) (fuel:Nat):g_slices_breakPatternsOrdered_int_L1_H N a b rnextPowerOfT (g_slices_breakPatternsOrdered_int_L1 N a b rnextPowerOfT fuel):=by
 induction fuel with
 | zero=>intro _ _ _ r h;rw [g_slices_breakPatternsOrdered_int_L1.eq_1] at h;cases h
 | succ fuel ih =>
  intro cap02 random idx r h E hE
  rw [g_slices_breakPatternsOrdered_int_L1.eq_2] at h
  refine Runs.nR hE 2 [] [] (kp [0,1,6,7,8,9,33]) (kq [0,1]) 130 (pc (show (4:Int)≠0 by decide) pn) ?_
  refine Runs.nC 0 33 h (fun hq3 h=>?_) (fun hq3 h=>?_)
  ·obtain ⟨rNext,hr2,h⟩:=bindSome h
   refine Runs.nR hE 4 [(0,⟨[1],false,(.atom (.int .u64 rNext.1)),[(0,vO 1 [(.atom (.int .u64 rNext.2))])],0,false,none⟩)] [] (kp [0,1,6,7,8,9,10]) (kq [0,1]) 226 (pc (g_slices_xorshift_Next_ok N random rNext hr2) pn) ?_
   refine Runs.nR hE 2 [] [] (kp [0,1,6,7,8,9,10,43]) (kq [0,1]) 274 pn ?_
   refine Runs.nC 0 43 h (fun hq4 h=>?_) (fun hq4 h=>?_)
   ·refine Runs.nR hE 0 [] [] (kp [0,1,6,7,8,9,10]) (kq [0,1]) 338 pn ?_
    exact Runs.nW hE 0 [] (kp [0,1,6,7,8,9,10]) (kq [0,1]) 2 pn (g_slices_breakPatternsOrdered_int_J2_ok N _ _ _ _ _ _ _ ih _ _ h E hE)
   ·exact Runs.nW hE 1 [] (kp [0,1,6,7,8,9,10]) (kq [0,1]) 2 pn (g_slices_breakPatternsOrdered_int_J2_ok N _ _ _ _ _ _ _ ih _ _ h E hE)
  ·obtain rfl:=Option.some.inj h
   exact Runs.nF hE 1 Try.f116 [] [] (kq [0]) 130 pn [] pn
theorem g_slices_breakPatternsOrdered_int_ok (N:Nat) (a:Int) (b:Int) (cap0:List Int) (r:(List Int)) (h:g_slices_breakPatternsOrdered_int N a b cap0=some r):Sound Try.prog 116 [(.os 0 0 cap0.length),(aI a),(aI b)] [(0,aO 1 cI 0 cap0)] 1 (.tup []) [(0,aO 1 cI 0 r)]:=by
 unfold g_slices_breakPatternsOrdered_int at h
 refine Sound.of_runs (fu:=Try.f116) (c:=C_35 1) (nt:=65) (by kernel_rfl) (by kernel_rfl) (by kernel_rfl) (by kernel_rfl) (fun hm=>absurd hm (by decide)) ?_
 intro E hE
 refine Runs.nR hE 1 [] [] (kp [0,1,6]) (kq [0]) 65 pn ?_
 refine Runs.nR hE 1 [] [] (kp [0,1,6,15]) (kq [0]) 97 pn ?_
 refine Runs.nC 0 15 h (fun hq2 h=>?_) (fun hq2 h=>?_)
 ·refine Runs.nR hE 1 [] [] (kp [0,1,6,7]) (kq [0,129]) 161 (pc o1 pn) ?_
  obtain ⟨rnextPowerOfT,hr,h⟩:=bindSome h
  refine Runs.nR hE 1 [(1,⟨[],true,(.atom (.int .u64 rnextPowerOfT)),[],0,false,none⟩)] [] (kp [0,1,6,7,8]) (kq [0,129]) 209 (pc (g_slices_nextPowerOfTwo_ok N (w64 (b - a)) rnextPowerOfT hr) pn) ?_
  refine Runs.nR hE 1 [] [] (kp [0,1,6,7,8,9]) (kq [0,129]) 321 (pc (show (4:Int)≠0 by decide) pn) ?_
  exact Runs.nW hE 2 [] (kp [0,1,6,7,8,9]) (kq [0] ++ [(1,.keep 129)]) 2 pn (g_slices_breakPatternsOrdered_int_L1_ok N _ _ _ N _ _ _ _ h E hE)
 ·obtain rfl:=Option.some.inj h
  exact Runs.nF hE 1 Try.f116 [] [] (kq [0]) 97 pn [] pn
noncomputable def C_41 (n:Nat):Code:=cat (bodyOf Try.f137) (pth n)
theorem g_slices_order2Ordered_int_ok (N:Nat) (data:List Int) (a:Int) (b:Int) (cap0:Int) (r:Int×Int×Int) (h:g_slices_order2Ordered_int N data a b cap0=some r):Sound Try.prog 137 [(encL cI 0 data),(aI a),(aI b),(.op 0 0 0)] [(0,vO 1 [(aI cap0)])] 1 (.tup [(aI r.1),(aI r.2.1)]) [(0,vO 1 [(aI r.2.2)])]:=by
 unfold g_slices_order2Ordered_int at h
 refine Sound.of_runs (fu:=Try.f137) (c:=C_41 1) (nt:=28) (by kernel_rfl) (by kernel_rfl) (by kernel_rfl) (by kernel_rfl) (fun hm=>absurd hm (by decide)) ?_
 intro E hE
 refine Runs.nR hE 1 [] [] (kp [0,1,2,3]) (kq [0]) 33 pn ?_
 obtain ⟨c,h⟩:=ifSome h
 obtain ⟨c2,h⟩:=ifSome h
 obtain ⟨rLess,hr,h⟩:=bindSome h
 refine Runs.nR hE 2 [(8,⟨[],true,(aB rLess),[],0,false,none⟩)] [] (kp [1,2,3,18]) (kq [0]) 177 (pc c (pc c2 (pc (g_cmp_Less_int_ok N (data.getD ((b).toNat) 0) (data.getD ((a).toNat) 0) rLess hr) pn))) ?_
 refine Runs.nC 0 18 h (fun hq2 h=>?_) (fun hq2 h=>?_)
 ·refine Runs.nR hE 1 [] [] (kp [1,2]) (kq [0]) 273 (pc o1 (pc o1 pn)) ?_
  refine Runs.nR hE 1 [] [] (kp [8,9]) (kq [0]) 337 pn ?_
  obtain rfl:=Option.some.inj h
  exact Runs.nT hE 0 Try.f137 [] (kp [8,9]) (kq [0]) 337 pn [] pn
 ·refine Runs.nR hE 2 [] [] (kp [8,9]) (kq [0]) 241 pn ?_
  obtain rfl:=Option.some.inj h
  exact Runs.nT hE 0 Try.f137 [] (kp [8,9]) (kq [0]) 241 pn [] pn
noncomputable def C_40 (n:Nat):Code:=cat (bodyOf Try.f134) (pth n)
theorem g_slices_medianOrdered_int_ok (N:Nat) (data:List Int) (a:Int) (b:Int) (c:Int) (cap0:Int) (r:Int×Int) (h:g_slices_medianOrdered_int N data a b c cap0=some r):Sound Try.prog 134 [(encL cI 0 data),(aI a),(aI b),(aI c),(.op 0 0 0)] [(0,vO 1 [(aI cap0)])] 1 (aI r.1) [(0,vO 1 [(aI r.2)])]:=by
 unfold g_slices_medianOrdered_int at h
 refine Sound.of_runs (fu:=Try.f134) (c:=C_40 1) (nt:=36) (by kernel_rfl) (by kernel_rfl) (by kernel_rfl) (by kernel_rfl) (fun hm=>absurd hm (by decide)) ?_
 intro E hE
 refine Runs.nR hE 1 [] [] (kp [0,1,2,3,4]) (kq [0]) 17 pn ?_
 obtain ⟨rorder2Ordere,hr,h⟩:=bindSome h
 refine Runs.nR hE 1 [(4,⟨[0],false,(.tup [(aI rorder2Ordere.1),(aI rorder2Ordere.2.1)]),[(0,vO 1 [(aI rorder2Ordere.2.2)])],0,false,none⟩)] [] (kp [0,1,2,3,4]) (kq [0]) 177 (pc (g_slices_order2Ordered_int_ok N data a b cap0 rorder2Ordere hr) pn) ?_
 obtain ⟨rorder2Ordere2,hr2,h⟩:=bindSome h
 refine Runs.nR hE 1 [(4,⟨[0],false,(.tup [(aI rorder2Ordere2.1),(aI rorder2Ordere2.2.1)]),[(0,vO 1 [(aI rorder2Ordere2.2.2)])],0,false,none⟩)] [] (kp [0,1,2,4]) (kq [0]) 337 (pc (g_slices_order2Ordered_int_ok N data rorder2Ordere.2.1 c rorder2Ordere.2.2 rorder2Ordere2 hr2) pn) ?_
 obtain ⟨rorder2Ordere3,hr3,h⟩:=bindSome h
 refine Runs.nR hE 1 [(4,⟨[0],false,(.tup [(aI rorder2Ordere3.1),(aI rorder2Ordere3.2.1)]),[(0,vO 1 [(aI rorder2Ordere3.2.2)])],0,false,none⟩)] [] (kp [2]) (kq [0]) 497 (pc (g_slices_order2Ordered_int_ok N data rorder2Ordere.1 rorder2Ordere2.1 rorder2Ordere2.2.2 rorder2Ordere3 hr3) pn) ?_
 refine Runs.nR hE 1 [] [] (kp [10]) (kq [0]) 529 pn ?_
 obtain rfl:=Option.some.inj h
 exact Runs.nT hE 0 Try.f134 [] (kp [10]) (kq [0]) 529 pn [] pn
noncomputable def C_39 (n:Nat):Code:=cat (bodyOf Try.f133) (pth n)
theorem g_slices_medianAdjacentOrdered_int_ok (N:Nat) (data:List Int) (a:Int) (cap0:Int) (r:Int×Int) (h:g_slices_medianAdjacentOrdered_int N data a cap0=some r):Sound Try.prog 133 [(encL cI 0 data),(aI a),(.op 0 0 0)] [(0,vO 1 [(aI cap0)])] 1 (aI r.1) [(0,vO 1 [(aI r.2)])]:=by
 unfold g_slices_medianAdjacentOrdered_int at h
 refine Sound.of_runs (fu:=Try.f133) (c:=C_39 1) (nt:=15) (by kernel_rfl) (by kernel_rfl) (by kernel_rfl) (by kernel_rfl) (fun hm=>absurd hm (by decide)) ?_
 intro E hE
 refine Runs.nR hE 1 [] [] (kp [0,1,2]) (kq [0]) 17 pn ?_
 obtain ⟨rmedianOrdere,hr,h⟩:=bindSome h
 refine Runs.nR hE 1 [(7,⟨[0],false,(aI rmedianOrdere.1),[(0,vO 1 [(aI rmedianOrdere.2)])],0,false,none⟩)] [] (kp [6]) (kq [0]) 161 (pc (g_slices_medianOrdered_int_ok N data (w64 (a - 1)) a (w64 (a+1)) cap0 rmedianOrdere hr) pn) ?_
 obtain rfl:=Option.some.inj h
 exact Runs.nT hE 0 Try.f133 [] (kp [6]) (kq [0]) 161 pn [] pn
noncomputable def C_38 (n:Nat):Code:=cat (bodyOf Try.f117) (pth n)
def g_slices_choosePivotOrdered_int_J1_H (N:Nat) (data:List Int) (K:Int→Int→Int→Int→Option (Int×Int)):Prop:=∀ (swaps:Int) (i:Int) (j:Int) (k:Int) (r:Int×Int),K swaps i j k=some r→∀ E,EnvOk E 0→Runs Try.prog E 117 57 (SPost E [] (.tup [(aI r.1),(aI r.2)])) [.code (C_38 2037),.code (C_38 255)] ⟨[(0,(encL cI 0 data)),(9,(.op 0 0 0)),(10,(aI i)),(11,(aI j)),(12,(aI k))],[(0,vO 1 [(aI swaps)])],1⟩
def g_slices_choosePivotOrdered_int_J2_H (N:Nat) (K:Int→Int→Option (Int×Int)):Prop:=∀ (swaps2:Int) (j2:Int) (r:Int×Int),K swaps2 j2=some r→∀ E,EnvOk E 0→Runs Try.prog E 117 57 (SPost E [] (.tup [(aI r.1),(aI r.2)])) [.code (C_38 510),.code (C_38 511)] ⟨[(9,(.op 0 0 0)),(11,(aI j2))],[(0,vO 1 [(aI swaps2)])],1⟩
theorem g_slices_choosePivotOrdered_int_J2_ok (N:Nat):g_slices_choosePivotOrdered_int_J2_H N (g_slices_choosePivotOrdered_int_J2 N):=by
 intro swaps2 j2 r h E hE
 unfold g_slices_choosePivotOrdered_int_J2 at h
 refine Runs.nR hE 0 [] [] (kp [11,49]) [] 17 (pc o1 pn) ?_
 refine Runs.nR hE 2 [] [] (kp [11,49,51]) [] 49 pn ?_
 refine Runs.nC 0 51 h (fun hq4 h=>?_) (fun hq4 h=>?_)
 ·refine Runs.nR hE 1 [] [] (kp [6,7]) [] 97 pn ?_
  obtain rfl:=Option.some.inj h
  exact Runs.nT hE 0 Try.f117 [] (kp [6,7]) [] 97 pn [] pn
 ·refine Runs.nR hE 1 [] [] (kp [11,54]) [] 81 pn ?_
  refine Runs.nC 0 54 h (fun hq5 h=>?_) (fun hq5 h=>?_)
  ·refine Runs.nR hE 1 [] [] (kp [6,7]) [] 129 pn ?_
   obtain rfl:=Option.some.inj h
   exact Runs.nT hE 0 Try.f117 [] (kp [6,7]) [] 129 pn [] pn
  ·refine Runs.nR hE 1 [] [] (kp [6,7]) [] 129 pn ?_
   obtain rfl:=Option.some.inj h
   exact Runs.nT hE 0 Try.f117 [] (kp [6,7]) [] 129 pn [] pn
theorem g_slices_choosePivotOrdered_int_J1_ok (N:Nat) (data:List Int):g_slices_choosePivotOrdered_int_J1_H N data (g_slices_choosePivotOrdered_int_J1 N data):=by
 intro swaps i j k r h E hE
 unfold g_slices_choosePivotOrdered_int_J1 at h
 obtain ⟨rmedianOrdere,hr4,h⟩:=bindSome h
 refine Runs.nR hE 0 [(4,⟨[0],false,(aI rmedianOrdere.1),[(0,vO 1 [(aI rmedianOrdere.2)])],0,false,none⟩)] [] (kp [9,11]) (kq [0]) 97 (pc (g_slices_medianOrdered_int_ok N data i j k swaps rmedianOrdere hr4) pn) ?_
 exact Runs.nW hE 1 [] (kp [9,11]) (kq [0]) 1 pn (g_slices_choosePivotOrdered_int_J2_ok N _ _ _ h E hE)
theorem g_slices_choosePivotOrdered_int_ok (N:Nat) (data:List Int) (a:Int) (b:Int) (r:Int×Int) (h:g_slices_choosePivotOrdered_int N data a b=some r):Sound Try.prog 117 [(encL cI 0 data),(aI a),(aI b)] [] 0 (.tup [(aI r.1),(aI r.2)]) []:=by
 unfold g_slices_choosePivotOrdered_int at h
 refine Sound.of_runs (fu:=Try.f117) (c:=C_38 1) (nt:=57) (by kernel_rfl) (by kernel_rfl) (by kernel_rfl) (by kernel_rfl) (fun hm=>rfl) ?_
 intro E hE
 refine Runs.nR hE 1 [] [] (kp [0,1,2]) [] 32 pn ?_
 refine Runs.nR hE 1 [] [] (kp [0,1,8]) [] 96 pn ?_
 refine Runs.nR hE 1 [] [] (kp [0,1,8,9]) (kq [96]) 112 pn ?_
 refine Runs.nR hE 1 [] [] (kp [0,1,8,9,10]) (kq [96]) 208 (pc (show (4:Int)≠0 by decide) pn) ?_
 refine Runs.nR hE 1 [] [] (kp [0,1,8,9,10,11]) (kq [96]) 304 (pc (show (4:Int)≠0 by decide) pn) ?_
 refine Runs.nR hE 1 [] [] (kp [0,8,9,10,11,12]) (kq [96]) 400 (pc (show (4:Int)≠0 by decide) pn) ?_
 refine Runs.nR hE 2 [] [] (kp [0,8,9,10,11,12,32]) (kq [96]) 432 pn ?_
 refine Runs.nC 0 32 h (fun hq2 h=>?_) (fun hq2 h=>?_)
 ·refine Runs.nR hE 2 [] [] (kp [0,9,10,11,12,34]) (kq [96]) 464 pn ?_
  refine Runs.nC 0 34 h (fun hq3 h=>?_) (fun hq3 h=>?_)
  ·obtain ⟨rmedianAdjace,hr,h⟩:=bindSome h
   refine Runs.nR hE 1 [(2,⟨[96],false,(aI rmedianAdjace.1),[(0,vO 1 [(aI rmedianAdjace.2)])],0,false,none⟩)] [] (kp [0,9,10,11,12]) (kq [96]) 528 (pc (g_slices_medianAdjacentOrdered_int_ok N data (w64 (a+(w64 ((w64 ((w64 (b - a)).tdiv 4)) * 1)))) 0 rmedianAdjace hr) pn) ?_
   obtain ⟨rmedianAdjace2,hr2,h⟩:=bindSome h
   refine Runs.nR hE 1 [(2,⟨[96],false,(aI rmedianAdjace2.1),[(0,vO 1 [(aI rmedianAdjace2.2)])],0,false,none⟩)] [] (kp [0,9,10,11,12]) (kq [96]) 592 (pc (g_slices_medianAdjacentOrdered_int_ok N data (w64 (a+(w64 ((w64 ((w64 (b - a)).tdiv 4)) * 2)))) rmedianAdjace.2 rmedianAdjace2 hr2) pn) ?_
   obtain ⟨rmedianAdjace3,hr3,h⟩:=bindSome h
   refine Runs.nR hE 0 [(2,⟨[96],false,(aI rmedianAdjace3.1),[(0,vO 1 [(aI rmedianAdjace3.2)])],0,false,none⟩)] [] (kp [0,9,10,11,12]) (kq [96]) 656 (pc (g_slices_medianAdjacentOrdered_int_ok N data (w64 (a+(w64 ((w64 ((w64 (b - a)).tdiv 4)) * 3)))) rmedianAdjace2.2 rmedianAdjace3 hr3) pn) ?_
   exact Runs.nW hE 0 [] (kp [0,9,10,11,12]) [(0,.keep 96)] 1 pn (g_slices_choosePivotOrdered_int_J1_ok N _ _ _ _ _ _ h E hE)
  ·exact Runs.nW hE 1 [] (kp [0,9,10,11,12]) [(0,.keep 96)] 1 pn (g_slices_choosePivotOrdered_int_J1_ok N _ _ _ _ _ _ h E hE)
 ·exact Runs.nW hE 2 [] (kp [9,11]) [(0,.keep 96)] 1 pn (g_slices_choosePivotOrdered_int_J2_ok N _ _ _ h E hE)
noncomputable def C_42 (n:Nat):Code:=cat (bodyOf Try.f118) (pth n)
def g_slices_reverseRangeOrdered_int_L1_H (N:Nat) (K:(List Int)→Int→Int→Option ((List Int))):Prop:=∀ (cap02:List Int) (i:Int) (j:Int) (r:(List Int)),K cap02 i j=some r→∀ E,EnvOk E 1→Runs Try.prog E 118 32 (SPost E [(0,aO 1 cI 0 r)] (.tup [])) [.code (C_42 28),.inLoop (C_42 28),.inBlock 0] ⟨[(0,(.os 0 0 cap02.length)),(6,(aI i)),(7,(aI j))],[(0,aO 1 cI 0 cap02)],1⟩
theorem g_slices_reverseRangeOrdered_int_L1_ok (N:Nat) (fuel:Nat):g_slices_reverseRangeOrdered_int_L1_H N (g_slices_reverseRangeOrdered_int_L1 N fuel):=by
 induction fuel with
 | zero=>intro _ _ _ r h;rw [g_slices_reverseRangeOrdered_int_L1.eq_1] at h;cases h
 | succ fuel ih =>
  intro cap02 i j r h E hE
  rw [g_slices_reverseRangeOrdered_int_L1.eq_2] at h
  refine Runs.nR hE 2 [] [] (kp [0,6,7,13]) (kq [0]) 49 pn ?_
  refine Runs.nC 0 13 h (fun hq2 h=>?_) (fun hq2 h=>?_)
  ·obtain ⟨c,h⟩:=ifSome h
   obtain ⟨c2,h⟩:=ifSome h
   refine Runs.nR hE 3 [] [] ([(0,.osl (((cap02.set ((i).toNat) (cap02.getD ((j).toNat) 0)).set ((j).toNat) (cap02.getD ((i).toNat) 0)).length))] ++ kp [6,7]) [(0,.arr 0 (((cap02.set ((i).toNat) (cap02.getD ((j).toNat) 0)).set ((j).toNat) (cap02.getD ((i).toNat) 0)).length) (fun zi=>cI (((cap02.set ((i).toNat) (cap02.getD ((j).toNat) 0)).set ((j).toNat) (cap02.getD ((i).toNat) 0)).getD zi 0)))] 305 (pc c (pc (ltOf c) (pc c2 (pc (ltOf c2) (pc c2 (pc (ltOf c2) (pc c (pc (ltOf c) (pc (show cap02.length=((cap02.set ((i).toNat) (cap02.getD ((j).toNat) 0)).set ((j).toNat) (cap02.getD ((i).toNat) 0)).length from (len_set_raw (len_set_raw rfl))) (pc (show cap02.length=((cap02.set ((i).toNat) (cap02.getD ((j).toNat) 0)).set ((j).toNat) (cap02.getD ((i).toNat) 0)).length from (len_set_raw (len_set_raw rfl))) (pc (show ∀ zi,zi < ((cap02.set ((i).toNat) (cap02.getD ((j).toNat) 0)).set ((j).toNat) (cap02.getD ((i).toNat) 0)).length→(fun zi=>cI (((cap02.set ((i).toNat) (cap02.getD ((j).toNat) 0)).set ((j).toNat) (cap02.getD ((i).toNat) 0)).getD zi 0)) zi=((fun zm=>if zm=(j).toNat then [(aI (cap02.getD ((i).toNat) 0))] else ((fun zm=>if zm=(i).toNat then [(aI (cap02.getD ((j).toNat) 0))] else (fun zi=>cI (cap02.getD zi 0)) zm)) zm)) zi from (get_set_raw cI 0 (cap02.set ((i).toNat) (cap02.getD ((j).toNat) 0)) ((j).toNat) (cap02.getD ((i).toNat) 0) (get_set_raw cI 0 cap02 ((i).toNat) (cap02.getD ((j).toNat) 0) (fun _ _=>rfl)))) pn))))))))))) ?_
   refine Runs.nR hE 1 [] [] (kp [0,6,7]) (kq [0]) 353 pn ?_
   refine Runs.nR hE 0 [] [] (kp [0,6,7]) (kq [0]) 401 pn ?_
   exact Runs.nW hE 2 [] (kp [0,6,7]) (kq [0]) 1 pn (ih _ _ _ _ h E hE)
  ·obtain rfl:=Option.some.inj h
   exact Runs.nF hE 1 Try.f118 [] [] (kq [0]) 49 pn [] pn
theorem g_slices_reverseRangeOrdered_int_ok (N:Nat) (a:Int) (b:Int) (cap0:List Int) (r:(List Int)) (h:g_slices_reverseRangeOrdered_int N a b cap0=some r):Sound Try.prog 118 [(.os 0 0 cap0.length),(aI a),(aI b)] [(0,aO 1 cI 0 cap0)] 1 (.tup []) [(0,aO 1 cI 0 r)]:=by
 unfold g_slices_reverseRangeOrdered_int at h
 refine Sound.of_runs (fu:=Try.f118) (c:=C_42 1) (nt:=32) (by kernel_rfl) (by kernel_rfl) (by kernel_rfl) (by kernel_rfl) (fun hm=>absurd hm (by decide)) ?_
 intro E hE
 refine Runs.nR hE 1 [] [] (kp [0,2,6]) (kq [0]) 33 pn ?_
 refine Runs.nR hE 1 [] [] (kp [0,6,7]) (kq [0]) 81 pn ?_
 exact Runs.nW hE 2 [] (kp [0,6,7]) (kq [0]) 1 pn (g_slices_reverseRangeOrdered_int_L1_ok N N _ _ _ _ h E hE)
noncomputable def C_43 (n:Nat):Code:=cat (bodyOf Try.f119) (pth n)
def g_slices_partialInsertionSortOrdered_int_L1_H (N:Nat) (a:Int) (b:Int) (K:(List Int)→Int→Int→Option (Bool×(List Int))):Prop:=∀ (cap02:List Int) (i:Int) (j:Int) (r:Bool×(List Int)),K cap02 i j=some r→∀ E,EnvOk E 1→Runs Try.prog E 119 133 (SPost E [(0,aO 1 cI 0 r.2)] (aB r.1)) [.code (C_43 116),.inLoop (C_43 116),.inBlock 0,.code (C_43 15)] ⟨[(0,(.os 0 0 cap02.length)),(1,(aI a)),(2,(aI b)),(7,(aI i)),(8,(aI j))],[(0,aO 1 cI 0 cap02)],1⟩
def g_slices_partialInsertionSortOrdered_int_L2_H (N:Nat) (a:Int) (b:Int) (cap02:List Int) (j:Int) (K:Int→Option (Bool×(List Int))):Prop:=∀ (i2:Int) (r:Bool×(List Int)),K i2=some r→∀ E,EnvOk E 1→Runs Try.prog E 119 133 (SPost E [(0,aO 1 cI 0 r.2)] (aB r.1)) [.code (C_43 7456),.inLoop (C_43 7456),.inBlock 2,.code (C_43 1865),.inBlock 1,.code (C_43 467),.inLoop (C_43 116),.inBlock 0,.code (C_43 15)] ⟨[(0,(.os 0 0 cap02.length)),(1,(aI a)),(2,(aI b)),(7,(aI i2)),(8,(aI j))],[(0,aO 1 cI 0 cap02)],1⟩
def g_slices_partialInsertionSortOrdered_int_L3_H (N:Nat) (a:Int) (b:Int) (j:Int) (i2:Int) (K:(List Int)→Int→Option (Bool×(List Int))):Prop:=∀ (cap03:List Int) (j2:Int) (r:Bool×(List Int)),K cap03 j2=some r→∀ E,EnvOk E 1→Runs Try.prog E 119 133 (SPost E [(0,aO 1 cI 0 r.2)] (aB r.1)) [.code (C_43 955348),.inLoop (C_43 955348),.inBlock 4,.code (C_43 29855),.inBlock 1,.code (C_43 467),.inLoop (C_43 116),.inBlock 0,.code (C_43 15)] ⟨[(0,(.os 0 0 cap03.length)),(1,(aI a)),(2,(aI b)),(7,(aI i2)),(8,(aI j)),(9,(aI j2))],[(0,aO 1 cI 0 cap03)],1⟩
def g_slices_partialInsertionSortOrdered_int_J4_H (N:Nat) (a:Int) (b:Int) (j:Int) (i2:Int) (K:(List Int)→Option (Bool×(List Int))):Prop:=∀ (cap04:List Int) (r:Bool×(List Int)),K cap04=some r→∀ E,EnvOk E 1→Runs Try.prog E 119 133 (SPost E [(0,aO 1 cI 0 r.2)] (aB r.1)) [.code (C_43 59710),.code (C_43 59711),.inBlock 1,.code (C_43 467),.inLoop (C_43 116),.inBlock 0,.code (C_43 15)] ⟨[(0,(.os 0 0 cap04.length)),(1,(aI a)),(2,(aI b)),(7,(aI i2)),(8,(aI j))],[(0,aO 1 cI 0 cap04)],1⟩
def g_slices_partialInsertionSortOrdered_int_L5_H (N:Nat) (a:Int) (b:Int) (j:Int) (i2:Int) (K:(List Int)→Int→Option (Bool×(List Int))):Prop:=∀ (cap05:List Int) (j3:Int) (r:Bool×(List Int)),K cap05 j3=some r→∀ E,EnvOk E 1→Runs Try.prog E 119 133 (SPost E [(0,aO 1 cI 0 r.2)] (aB r.1)) [.code (C_43 955380),.inLoop (C_43 955380),.inBlock 6,.inBlock 1,.code (C_43 467),.inLoop (C_43 116),.inBlock 0,.code (C_43 15)] ⟨[(0,(.os 0 0 cap05.length)),(1,(aI a)),(2,(aI b)),(7,(aI i2)),(8,(aI j)),(10,(aI j3))],[(0,aO 1 cI 0 cap05)],1⟩
def g_slices_partialInsertionSortOrdered_int_J6_H (N:Nat) (a:Int) (b:Int) (j:Int) (i2:Int) (K:(List Int)→Option (Bool×(List Int))):Prop:=∀ (cap06:List Int) (r:Bool×(List Int)),K cap06=some r→∀ E,EnvOk E 1→Runs Try.prog E 119 133 (SPost E [(0,aO 1 cI 0 r.2)] (aB r.1)) [.code (C_43 467),.inLoop (C_43 116),.inBlock 0,.code (C_43 15)] ⟨[(0,(.os 0 0 cap06.length)),(1,(aI a)),(2,(aI b)),(7,(aI i2)),(8,(aI j))],[(0,aO 1 cI 0 cap06)],1⟩
theorem g_slices_partialInsertionSortOrdered_int_J6_ok (N:Nat) (a:Int) (b:Int) (j:Int) (i2:Int) (K_g_slices_partialInsertionSortOrdered_int_L1:(List Int)→Int→Int→Option (Bool×(List Int))) (hK_g_slices_partialInsertionSortOrdered_int_L1:g_slices_partialInsertionSortOrdered_int_L1_H N a b K_g_slices_partialInsertionSortOrdered_int_L1):g_slices_partialInsertionSortOrdered_int_J6_H N a b j i2 (g_slices_partialInsertionSortOrdered_int_J6 N a b j i2 K_g_slices_partialInsertionSortOrdered_int_L1):=by
 intro cap06 r h E hE
 unfold g_slices_partialInsertionSortOrdered_int_J6 at h
 refine Runs.nR hE 0 [] [] (kp [0,1,2,7,8]) (kq [0]) 49 pn ?_
 exact Runs.nW hE 1 [] (kp [0,1,2,7,8]) (kq [0]) 1 pn (hK_g_slices_partialInsertionSortOrdered_int_L1 _ _ _ _ h E hE)
theorem g_slices_partialInsertionSortOrdered_int_L5_ok (N:Nat) (a:Int) (b:Int) (j:Int) (i2:Int) (K_g_slices_partialInsertionSortOrdered_int_L1:(List Int)→Int→Int→Option (Bool×(List Int))) (hK_g_slices_partialInsertionSortOrdered_int_L1:g_slices_partialInsertionSortOrdered_int_L1_H N a b K_g_slices_partialInsertionSortOrdered_int_L1) (fuel:Nat):g_slices_partialInsertionSortOrdered_int_L5_H N a b j i2 (g_slices_partialInsertionSortOrdered_int_L5 N a b j i2 K_g_slices_partialInsertionSortOrdered_int_L1 fuel):=by
 induction fuel with
 | zero=>intro _ _ r h;rw [g_slices_partialInsertionSortOrdered_int_L5.eq_1] at h;cases h
 | succ fuel ih =>
  intro cap05 j3 r h E hE
  rw [g_slices_partialInsertionSortOrdered_int_L5.eq_2] at h
  refine Runs.nR hE 2 [] [] (kp [0,1,2,7,8,10,103]) (kq [0]) 49 pn ?_
  refine Runs.nC 0 103 h (fun hq10 h=>?_) (fun hq10 h=>?_)
  ·obtain ⟨c7,h⟩:=ifSome h
   obtain ⟨c8,h⟩:=ifSome h
   obtain ⟨rLess3,hr3,h⟩:=bindSome h
   refine Runs.nR hE 5 [(9,⟨[],true,(aB rLess3),[],0,false,none⟩)] [] (kp [0,1,2,7,8,10,116]) (kq [0]) 225 (pc c7 (pc (ltOf c7) (pc c8 (pc (ltOf c8) (pc (g_cmp_Less_int_ok N (cap05.getD ((j3).toNat) 0) (cap05.getD ((w64 (j3 - 1)).toNat) 0) rLess3 hr3) pn))))) ?_
   refine Runs.nC 0 116 h (fun hq11 h=>?_) (fun hq11 h=>?_)
   ·exact Runs.nW hE 2 [] (kp [0,1,2,7,8]) (kq [0]) 1 pn (g_slices_partialInsertionSortOrdered_int_J6_ok N _ _ _ _ _ hK_g_slices_partialInsertionSortOrdered_int_L1 _ _ h E hE)
   ·refine Runs.nR hE 1 [] [] ([(0,.osl (((cap05.set ((j3).toNat) (cap05.getD ((w64 (j3 - 1)).toNat) 0)).set ((w64 (j3 - 1)).toNat) (cap05.getD ((j3).toNat) 0)).length))] ++ kp [1,2,7,8,10]) [(0,.arr 0 (((cap05.set ((j3).toNat) (cap05.getD ((w64 (j3 - 1)).toNat) 0)).set ((w64 (j3 - 1)).toNat) (cap05.getD ((j3).toNat) 0)).length) (fun zi=>cI (((cap05.set ((j3).toNat) (cap05.getD ((w64 (j3 - 1)).toNat) 0)).set ((w64 (j3 - 1)).toNat) (cap05.getD ((j3).toNat) 0)).getD zi 0)))] 513 (pc c8 (pc (ltOf c8) (pc c7 (pc (ltOf c7) (pc c7 (pc (ltOf c7) (pc c8 (pc (ltOf c8) (pc (show cap05.length=((cap05.set ((j3).toNat) (cap05.getD ((w64 (j3 - 1)).toNat) 0)).set ((w64 (j3 - 1)).toNat) (cap05.getD ((j3).toNat) 0)).length from (len_set_raw (len_set_raw rfl))) (pc (show cap05.length=((cap05.set ((j3).toNat) (cap05.getD ((w64 (j3 - 1)).toNat) 0)).set ((w64 (j3 - 1)).toNat) (cap05.getD ((j3).toNat) 0)).length from (len_set_raw (len_set_raw rfl))) (pc (show ∀ zi,zi < ((cap05.set ((j3).toNat) (cap05.getD ((w64 (j3 - 1)).toNat) 0)).set ((w64 (j3 - 1)).toNat) (cap05.getD ((j3).toNat) 0)).length→(fun zi=>cI (((cap05.set ((j3).toNat) (cap05.getD ((w64 (j3 - 1)).toNat) 0)).set ((w64 (j3 - 1)).toNat) (cap05.getD ((j3).toNat) 0)).getD zi 0)) zi=((fun zm=>if zm=(w64 (j3 - 1)).toNat then [(aI (cap05.getD ((j3).toNat) 0))] else ((fun zm=>if zm=(j3).toNat then [(aI (cap05.getD ((w64 (j3 - 1)).toNat) 0))] else (fun zi=>cI (cap05.getD zi 0)) zm)) zm)) zi from (get_set_raw cI 0 (cap05.set ((j3).toNat) (cap05.getD ((w64 (j3 - 1)).toNat) 0)) ((w64 (j3 - 1)).toNat) (cap05.getD ((j3).toNat) 0) (get_set_raw cI 0 cap05 ((j3).toNat) (cap05.getD ((w64 (j3 - 1)).toNat) 0) (fun _ _=>rfl)))) pn))))))))))) ?_
    refine Runs.nR hE 1 [] [] (kp [0,1,2,7,8,10]) (kq [0]) 561 pn ?_
    exact Runs.nW hE 1 [] (kp [0,1,2,7,8,10]) (kq [0]) 1 pn (ih _ _ _ h E hE)
  ·exact Runs.nW hE 2 [] (kp [0,1,2,7,8]) (kq [0]) 1 pn (g_slices_partialInsertionSortOrdered_int_J6_ok N _ _ _ _ _ hK_g_slices_partialInsertionSortOrdered_int_L1 _ _ h E hE)
theorem g_slices_partialInsertionSortOrdered_int_J4_ok (N:Nat) (a:Int) (b:Int) (j:Int) (i2:Int) (K_g_slices_partialInsertionSortOrdered_int_L1:(List Int)→Int→Int→Option (Bool×(List Int))) (hK_g_slices_partialInsertionSortOrdered_int_L1:g_slices_partialInsertionSortOrdered_int_L1_H N a b K_g_slices_partialInsertionSortOrdered_int_L1):g_slices_partialInsertionSortOrdered_int_J4_H N a b j i2 (g_slices_partialInsertionSortOrdered_int_J4 N a b j i2 K_g_slices_partialInsertionSortOrdered_int_L1):=by
 intro cap04 r h E hE
 unfold g_slices_partialInsertionSortOrdered_int_J4 at h
 refine Runs.nR hE 0 [] [] (kp [0,1,2,7,8,98]) (kq [0]) 65 pn ?_
 refine Runs.nC 0 98 h (fun hq9 h=>?_) (fun hq9 h=>?_)
 ·refine Runs.nR hE 1 [] [] (kp [0,1,2,7,8,10]) (kq [0]) 113 pn ?_
  exact Runs.nW hE 2 [] (kp [0,1,2,7,8,10]) (kq [0]) 1 pn (g_slices_partialInsertionSortOrdered_int_L5_ok N _ _ _ _ _ hK_g_slices_partialInsertionSortOrdered_int_L1 N _ _ _ h E hE)
 ·exact Runs.nW hE 2 [] (kp [0,1,2,7,8]) (kq [0]) 1 pn (g_slices_partialInsertionSortOrdered_int_J6_ok N _ _ _ _ _ hK_g_slices_partialInsertionSortOrdered_int_L1 _ _ h E hE)
theorem g_slices_partialInsertionSortOrdered_int_L3_ok (N:Nat) (a:Int) (b:Int) (j:Int) (i2:Int) (K_g_slices_partialInsertionSortOrdered_int_L1:(List Int)→Int→Int→Option (Bool×(List Int))) (hK_g_slices_partialInsertionSortOrdered_int_L1:g_slices_partialInsertionSortOrdered_int_L1_H N a b K_g_slices_partialInsertionSortOrdered_int_L1) (fuel:Nat):g_slices_partialInsertionSortOrdered_int_L3_H N a b j i2 (g_slices_partialInsertionSortOrdered_int_L3 N a b j i2 K_g_slices_partialInsertionSortOrdered_int_L1 fuel):=by
 induction fuel with
 | zero=>intro _ _ r h;rw [g_slices_partialInsertionSortOrdered_int_L3.eq_1] at h;cases h
 | succ fuel ih =>
  intro cap03 j2 r h E hE
  rw [g_slices_partialInsertionSortOrdered_int_L3.eq_2] at h
  refine Runs.nR hE 2 [] [] (kp [0,1,2,7,8,9,65]) (kq [0]) 33 pn ?_
  refine Runs.nC 0 65 h (fun hq7 h=>?_) (fun hq7 h=>?_)
  ·obtain ⟨c5,h⟩:=ifSome h
   obtain ⟨c6,h⟩:=ifSome h
   obtain ⟨rLess2,hr2,h⟩:=bindSome h
   refine Runs.nR hE 5 [(9,⟨[],true,(aB rLess2),[],0,false,none⟩)] [] (kp [0,1,2,7,8,9,78]) (kq [0]) 209 (pc c5 (pc (ltOf c5) (pc c6 (pc (ltOf c6) (pc (g_cmp_Less_int_ok N (cap03.getD ((j2).toNat) 0) (cap03.getD ((w64 (j2 - 1)).toNat) 0) rLess2 hr2) pn))))) ?_
   refine Runs.nC 0 78 h (fun hq8 h=>?_) (fun hq8 h=>?_)
   ·exact Runs.nW hE 2 [] (kp [0,1,2,7,8]) (kq [0]) 1 pn (g_slices_partialInsertionSortOrdered_int_J4_ok N _ _ _ _ _ hK_g_slices_partialInsertionSortOrdered_int_L1 _ _ h E hE)
   ·refine Runs.nR hE 1 [] [] ([(0,.osl (((cap03.set ((j2).toNat) (cap03.getD ((w64 (j2 - 1)).toNat) 0)).set ((w64 (j2 - 1)).toNat) (cap03.getD ((j2).toNat) 0)).length))] ++ kp [1,2,7,8,9]) [(0,.arr 0 (((cap03.set ((j2).toNat) (cap03.getD ((w64 (j2 - 1)).toNat) 0)).set ((w64 (j2 - 1)).toNat) (cap03.getD ((j2).toNat) 0)).length) (fun zi=>cI (((cap03.set ((j2).toNat) (cap03.getD ((w64 (j2 - 1)).toNat) 0)).set ((w64 (j2 - 1)).toNat) (cap03.getD ((j2).toNat) 0)).getD zi 0)))] 497 (pc c6 (pc (ltOf c6) (pc c5 (pc (ltOf c5) (pc c5 (pc (ltOf c5) (pc c6 (pc (ltOf c6) (pc (show cap03.length=((cap03.set ((j2).toNat) (cap03.getD ((w64 (j2 - 1)).toNat) 0)).set ((w64 (j2 - 1)).toNat) (cap03.getD ((j2).toNat) 0)).length from (len_set_raw (len_set_raw rfl))) (pc (show cap03.length=((cap03.set ((j2).toNat) (cap03.getD ((w64 (j2 - 1)).toNat) 0)).set ((w64 (j2 - 1)).toNat) (cap03.getD ((j2).toNat) 0)).length from (len_set_raw (len_set_raw rfl))) (pc (show ∀ zi,zi < ((cap03.set ((j2).toNat) (cap03.getD ((w64 (j2 - 1)).toNat) 0)).set ((w64 (j2 - 1)).toNat) (cap03.getD ((j2).toNat) 0)).length→(fun zi=>cI (((cap03.set ((j2).toNat) (cap03.getD ((w64 (j2 - 1)).toNat) 0)).set ((w64 (j2 - 1)).toNat) (cap03.getD ((j2).toNat) 0)).getD zi 0)) zi=((fun zm=>if zm=(w64 (j2 - 1)).toNat then [(aI (cap03.getD ((j2).toNat) 0))] else ((fun zm=>if zm=(j2).toNat then [(aI (cap03.getD ((w64 (j2 - 1)).toNat) 0))] else (fun zi=>cI (cap03.getD zi 0)) zm)) zm)) zi from (get_set_raw cI 0 (cap03.set ((j2).toNat) (cap03.getD ((w64 (j2 - 1)).toNat) 0)) ((w64 (j2 - 1)).toNat) (cap03.getD ((j2).toNat) 0) (get_set_raw cI 0 cap03 ((j2).toNat) (cap03.getD ((w64 (j2 - 1)).toNat) 0) (fun _ _=>rfl)))) pn))))))))))) ?_
    refine Runs.nR hE 1 [] [] (kp [0,1,2,7,8,9]) (kq [0]) 545 pn ?_
    exact Runs.nW hE 1 [] (kp [0,1,2,7,8,9]) (kq [0]) 1 pn (ih _ _ _ h E hE)
  ·exact Runs.nW hE 2 [] (kp [0,1,2,7,8]) (kq [0]) 1 pn (g_slices_partialInsertionSortOrdered_int_J4_ok N _ _ _ _ _ hK_g_slices_partialInsertionSortOrdered_int_L1 _ _ h E hE)
theorem g_slices_partialInsertionSortOrdered_int_L2_ok (N:Nat) (a:Int) (b:Int) (cap02:List Int) (j:Int) (K_g_slices_partialInsertionSortOrdered_int_L1:(List Int)→Int→Int→Option (Bool×(List Int))) (hK_g_slices_partialInsertionSortOrdered_int_L1:g_slices_partialInsertionSortOrdered_int_L1_H N a b K_g_slices_partialInsertionSortOrdered_int_L1) (fuel:Nat):g_slices_partialInsertionSortOrdered_int_L2_H N a b cap02 j (g_slices_partialInsertionSortOrdered_int_L2 N a b cap02 j K_g_slices_partialInsertionSortOrdered_int_L1 fuel):=by
 induction fuel with
 | zero=>intro _ r h;rw [g_slices_partialInsertionSortOrdered_int_L2.eq_1] at h;cases h
 | succ fuel ih =>
  intro i2 r h E hE
  rw [g_slices_partialInsertionSortOrdered_int_L2.eq_2] at h
  obtain ⟨c,h⟩:=ifSome h
  obtain ⟨c2,h⟩:=ifSome h
  obtain ⟨rLess,hr,h⟩:=bindSome h
  refine Runs.nR hE 2 [(13,⟨[],true,(aB rLess),[],0,false,none⟩)] [] (kp [0,1,2,7,8,32]) (kq [0]) 257 (pc (fun hg:(decide (i2 < b))=true=>(pc hg (pc hg (pc (c hg) pn)))) (pc (fun hg:(decide (i2 < b))=true=>(pc hg (pc (ltOf (c hg)) pn))) (pc (fun hg:(decide (i2 < b))=true=>(pc hg pn)) (pc (fun hg:(decide (i2 < b))=true=>(pc hg (pc hg (pc (c2 hg) pn)))) (pc (fun hg:(decide (i2 < b))=true=>(pc hg (pc (ltOf (c2 hg)) pn))) (pc (fun hg:(decide (i2 < b))=true=>(pc (g_cmp_Less_int_ok N (cap02.getD ((i2).toNat) 0) (cap02.getD ((w64 (i2 - 1)).toNat) 0) rLess (condT hr hg)) (pc hg (pc hg pn)))) (pc (fun hg:(decide (i2 < b))=true=>(pc hg pn)) (pc (fun hq:(decide (i2 < b))=true=>(pc hq pn)) pn)))))))) ?_
  refine Runs.nC 0 32 h (fun hq3 h=>?_) (fun hq3 h=>?_)
  ·refine Runs.nR hE 2 [] [] (kp [0,1,2,7,8]) (kq [0]) 305 pn ?_
   exact Runs.nW hE 2 [] (kp [0,1,2,7,8]) (kq [0]) 1 pn (ih _ _ h E hE)
  ·refine Runs.nR hE 3 [] [] (kp [0,1,2,7,8,37]) (kq [0]) 305 pn ?_
   refine Runs.nC 0 37 h (fun hq4 h=>?_) (fun hq4 h=>?_)
   ·refine Runs.nR hE 1 [] [] (kp [6]) (kq [0]) 321 pn ?_
    obtain rfl:=Option.some.inj h
    exact Runs.nT hE 0 Try.f119 [] (kp [6]) (kq [0]) 321 pn [] pn
   ·refine Runs.nR hE 3 [] [] (kp [0,1,2,7,8,41]) (kq [0]) 369 pn ?_
    refine Runs.nC 0 41 h (fun hq5 h=>?_) (fun hq5 h=>?_)
    ·refine Runs.nR hE 1 [] [] (kp [6]) (kq [0]) 385 pn ?_
     obtain rfl:=Option.some.inj h
     exact Runs.nT hE 0 Try.f119 [] (kp [6]) (kq [0]) 385 pn [] pn
    ·obtain ⟨c3,h⟩:=ifSome h
     obtain ⟨c4,h⟩:=ifSome h
     refine Runs.nR hE 2 [] [] ([(0,.osl (((cap02.set ((i2).toNat) (cap02.getD ((w64 (i2 - 1)).toNat) 0)).set ((w64 (i2 - 1)).toNat) (cap02.getD ((i2).toNat) 0)).length))] ++ kp [1,2,7,8]) [(0,.arr 0 (((cap02.set ((i2).toNat) (cap02.getD ((w64 (i2 - 1)).toNat) 0)).set ((w64 (i2 - 1)).toNat) (cap02.getD ((i2).toNat) 0)).length) (fun zi=>cI (((cap02.set ((i2).toNat) (cap02.getD ((w64 (i2 - 1)).toNat) 0)).set ((w64 (i2 - 1)).toNat) (cap02.getD ((i2).toNat) 0)).getD zi 0)))] 657 (pc c3 (pc (ltOf c3) (pc c4 (pc (ltOf c4) (pc c4 (pc (ltOf c4) (pc c3 (pc (ltOf c3) (pc (show cap02.length=((cap02.set ((i2).toNat) (cap02.getD ((w64 (i2 - 1)).toNat) 0)).set ((w64 (i2 - 1)).toNat) (cap02.getD ((i2).toNat) 0)).length from (len_set_raw (len_set_raw rfl))) (pc (show cap02.length=((cap02.set ((i2).toNat) (cap02.getD ((w64 (i2 - 1)).toNat) 0)).set ((w64 (i2 - 1)).toNat) (cap02.getD ((i2).toNat) 0)).length from (len_set_raw (len_set_raw rfl))) (pc (show ∀ zi,zi < ((cap02.set ((i2).toNat) (cap02.getD ((w64 (i2 - 1)).toNat) 0)).set ((w64 (i2 - 1)).toNat) (cap02.getD ((i2).toNat) 0)).length→(fun zi=>cI (((cap02.set ((i2).toNat) (cap02.getD ((w64 (i2 - 1)).toNat) 0)).set ((w64 (i2 - 1)).toNat) (cap02.getD ((i2).toNat) 0)).getD zi 0)) zi=((fun zm=>if zm=(w64 (i2 - 1)).toNat then [(aI (cap02.getD ((i2).toNat) 0))] else ((fun zm=>if zm=(i2).toNat then [(aI (cap02.getD ((w64 (i2 - 1)).toNat) 0))] else (fun zi=>cI (cap02.getD zi 0)) zm)) zm)) zi from (get_set_raw cI 0 (cap02.set ((i2).toNat) (cap02.getD ((w64 (i2 - 1)).toNat) 0)) ((w64 (i2 - 1)).toNat) (cap02.getD ((i2).toNat) 0) (get_set_raw cI 0 cap02 ((i2).toNat) (cap02.getD ((w64 (i2 - 1)).toNat) 0) (fun _ _=>rfl)))) pn))))))))))) ?_
     refine Runs.nR hE 2 [] [] (kp [0,1,2,7,8,61]) (kq [0]) 721 pn ?_
     refine Runs.nC 0 61 h (fun hq6 h=>?_) (fun hq6 h=>?_)
     ·refine Runs.nR hE 1 [] [] (kp [0,1,2,7,8,9]) (kq [0]) 769 pn ?_
      exact Runs.nW hE 2 [] (kp [0,1,2,7,8,9]) (kq [0]) 1 pn (g_slices_partialInsertionSortOrdered_int_L3_ok N _ _ _ _ _ hK_g_slices_partialInsertionSortOrdered_int_L1 N _ _ _ h E hE)
     ·exact Runs.nW hE 2 [] (kp [0,1,2,7,8]) (kq [0]) 1 pn (g_slices_partialInsertionSortOrdered_int_J4_ok N _ _ _ _ _ hK_g_slices_partialInsertionSortOrdered_int_L1 _ _ h E hE)
theorem g_slices_partialInsertionSortOrdered_int_L1_ok (N:Nat) (a:Int) (b:Int) (fuel:Nat):g_slices_partialInsertionSortOrdered_int_L1_H N a b (g_slices_partialInsertionSortOrdered_int_L1 N a b fuel):=by
 induction fuel with
 | zero=>intro _ _ _ r h;rw [g_slices_partialInsertionSortOrdered_int_L1.eq_1] at h;cases h
 | succ fuel ih =>
  intro cap02 i j r h E hE
  rw [g_slices_partialInsertionSortOrdered_int_L1.eq_2] at h
  refine Runs.nR hE 2 [] [] (kp [0,1,2,7,8,14]) (kq [0]) 33 pn ?_
  refine Runs.nC 0 14 h (fun hq2 h=>?_) (fun hq2 h=>?_)
  ·exact Runs.nW hE 6 [] (kp [0,1,2,7,8]) (kq [0]) 1 pn (g_slices_partialInsertionSortOrdered_int_L2_ok N _ _ _ _ _ ih N _ _ h E hE)
  ·refine Runs.nR hE 2 [] [] (kp [6]) (kq [0]) 49 pn ?_
   obtain rfl:=Option.some.inj h
   exact Runs.nT hE 0 Try.f119 [] (kp [6]) (kq [0]) 49 pn [] pn
theorem g_slices_partialInsertionSortOrdered_int_ok (N:Nat) (a:Int) (b:Int) (cap0:List Int) (r:Bool×(List Int)) (h:g_slices_partialInsertionSortOrdered_int N a b cap0=some r):Sound Try.prog 119 [(.os 0 0 cap0.length),(aI a),(aI b)] [(0,aO 1 cI 0 cap0)] 1 (aB r.1) [(0,aO 1 cI 0 r.2)]:=by
 unfold g_slices_partialInsertionSortOrdered_int at h
 refine Sound.of_runs (fu:=Try.f119) (c:=C_43 1) (nt:=133) (by kernel_rfl) (by kernel_rfl) (by kernel_rfl) (by kernel_rfl) (fun hm=>absurd hm (by decide)) ?_
 intro E hE
 refine Runs.nR hE 1 [] [] (kp [0,1,2]) (kq [0]) 17 pn ?_
 refine Runs.nR hE 1 [] [] (kp [0,1,2,7]) (kq [0]) 65 pn ?_
 refine Runs.nR hE 2 [] [] (kp [0,1,2,7,8]) (kq [0]) 81 pn ?_
 exact Runs.nW hE 2 [] (kp [0,1,2,7,8]) (kq [0]) 1 pn (g_slices_partialInsertionSortOrdered_int_L1_ok N _ _ N _ _ _ _ h E hE)
noncomputable def C_44 (n:Nat):Code:=cat (bodyOf Try.f121) (pth n)
def g_slices_partitionEqualOrdered_int_L1_H (N:Nat) (a:Int) (K:(List Int)→Int→Int→Option (Int×(List Int))):Prop:=∀ (cap02:List Int) (i:Int) (j:Int) (r:Int×(List Int)),K cap02 i j=some r→∀ E,EnvOk E 1→Runs Try.prog E 121 84 (SPost E [(0,aO 1 cI 0 r.2)] (aI r.1)) [.code (C_44 120),.inLoop (C_44 120),.inBlock 0,.code (C_44 31)] ⟨[(0,(.os 0 0 cap02.length)),(1,(aI a)),(9,(aI i)),(10,(aI j))],[(0,aO 1 cI 0 cap02)],1⟩
def g_slices_partitionEqualOrdered_int_L2_H (N:Nat) (a:Int) (cap02:List Int) (j:Int) (K:Int→Option (Int×(List Int))):Prop:=∀ (i2:Int) (r:Int×(List Int)),K i2=some r→∀ E,EnvOk E 1→Runs Try.prog E 121 84 (SPost E [(0,aO 1 cI 0 r.2)] (aI r.1)) [.code (C_44 1920),.inLoop (C_44 1920),.inBlock 2,.code (C_44 481),.inBlock 1,.inLoop (C_44 120),.inBlock 0,.code (C_44 31)] ⟨[(0,(.os 0 0 cap02.length)),(1,(aI a)),(9,(aI i2)),(10,(aI j))],[(0,aO 1 cI 0 cap02)],1⟩
def g_slices_partitionEqualOrdered_int_L3_H (N:Nat) (a:Int) (cap02:List Int) (i2:Int) (K:Int→Option (Int×(List Int))):Prop:=∀ (j2:Int) (r:Int×(List Int)),K j2=some r→∀ E,EnvOk E 1→Runs Try.prog E 121 84 (SPost E [(0,aO 1 cI 0 r.2)] (aI r.1)) [.code (C_44 3848),.inLoop (C_44 3848),.inBlock 4,.code (C_44 963),.inBlock 1,.inLoop (C_44 120),.inBlock 0,.code (C_44 31)] ⟨[(0,(.os 0 0 cap02.length)),(1,(aI a)),(9,(aI i2)),(10,(aI j2))],[(0,aO 1 cI 0 cap02)],1⟩
theorem g_slices_partitionEqualOrdered_int_L3_ok (N:Nat) (a:Int) (cap02:List Int) (i2:Int) (K_g_slices_partitionEqualOrdered_int_L1:(List Int)→Int→Int→Option (Int×(List Int))) (hK_g_slices_partitionEqualOrdered_int_L1:g_slices_partitionEqualOrdered_int_L1_H N a K_g_slices_partitionEqualOrdered_int_L1) (fuel:Nat):g_slices_partitionEqualOrdered_int_L3_H N a cap02 i2 (g_slices_partitionEqualOrdered_int_L3 N a cap02 i2 K_g_slices_partitionEqualOrdered_int_L1 fuel):=by
 induction fuel with
 | zero=>intro _ r h;rw [g_slices_partitionEqualOrdered_int_L3.eq_1] at h;cases h
 | succ fuel ih =>
  intro j2 r h E hE
  rw [g_slices_partitionEqualOrdered_int_L3.eq_2] at h
  obtain ⟨c5,h⟩:=ifSome h
  obtain ⟨c6,h⟩:=ifSome h
  obtain ⟨rLess2,hr2,h⟩:=bindSome h
  refine Runs.nR hE 2 [(12,⟨[],true,(aB rLess2),[],0,false,none⟩)] [] (kp [0,1,9,10,59]) (kq [0]) 225 (pc (fun hg:(decide (i2≤j2))=true=>(pc hg (pc hg (pc (c5 hg) pn)))) (pc (fun hg:(decide (i2≤j2))=true=>(pc hg (pc (ltOf (c5 hg)) pn))) (pc (fun hg:(decide (i2≤j2))=true=>(pc hg (pc hg (pc (c6 hg) pn)))) (pc (fun hg:(decide (i2≤j2))=true=>(pc hg (pc (ltOf (c6 hg)) pn))) (pc (fun hg:(decide (i2≤j2))=true=>(pc (g_cmp_Less_int_ok N (cap02.getD ((a).toNat) 0) (cap02.getD ((j2).toNat) 0) rLess2 (condT hr2 hg)) (pc hg (pc hg pn)))) (pc (fun hq:(decide (i2≤j2))=true=>(pc hq pn)) pn)))))) ?_
  refine Runs.nC 0 59 h (fun hq3 h=>?_) (fun hq3 h=>?_)
  ·refine Runs.nR hE 2 [] [] (kp [0,1,9,10]) (kq [0]) 273 pn ?_
   exact Runs.nW hE 2 [] (kp [0,1,9,10]) (kq [0]) 1 pn (ih _ _ h E hE)
  ·refine Runs.nR hE 3 [] [] (kp [0,1,9,10,64]) (kq [0]) 273 pn ?_
   refine Runs.nC 0 64 h (fun hq4 h=>?_) (fun hq4 h=>?_)
   ·refine Runs.nR hE 2 [] [] (kp [8]) (kq [0]) 305 pn ?_
    obtain rfl:=Option.some.inj h
    exact Runs.nT hE 0 Try.f121 [] (kp [8]) (kq [0]) 305 pn [] pn
   ·obtain ⟨c7,h⟩:=ifSome h
    obtain ⟨c8,h⟩:=ifSome h
    refine Runs.nR hE 2 [] [] ([(0,.osl (((cap02.set ((i2).toNat) (cap02.getD ((j2).toNat) 0)).set ((j2).toNat) (cap02.getD ((i2).toNat) 0)).length))] ++ kp [1,9,10]) [(0,.arr 0 (((cap02.set ((i2).toNat) (cap02.getD ((j2).toNat) 0)).set ((j2).toNat) (cap02.getD ((i2).toNat) 0)).length) (fun zi=>cI (((cap02.set ((i2).toNat) (cap02.getD ((j2).toNat) 0)).set ((j2).toNat) (cap02.getD ((i2).toNat) 0)).getD zi 0)))] 529 (pc c7 (pc (ltOf c7) (pc c8 (pc (ltOf c8) (pc c8 (pc (ltOf c8) (pc c7 (pc (ltOf c7) (pc (show cap02.length=((cap02.set ((i2).toNat) (cap02.getD ((j2).toNat) 0)).set ((j2).toNat) (cap02.getD ((i2).toNat) 0)).length from (len_set_raw (len_set_raw rfl))) (pc (show cap02.length=((cap02.set ((i2).toNat) (cap02.getD ((j2).toNat) 0)).set ((j2).toNat) (cap02.getD ((i2).toNat) 0)).length from (len_set_raw (len_set_raw rfl))) (pc (show ∀ zi,zi < ((cap02.set ((i2).toNat) (cap02.getD ((j2).toNat) 0)).set ((j2).toNat) (cap02.getD ((i2).toNat) 0)).length→(fun zi=>cI (((cap02.set ((i2).toNat) (cap02.getD ((j2).toNat) 0)).set ((j2).toNat) (cap02.getD ((i2).toNat) 0)).getD zi 0)) zi=((fun zm=>if zm=(j2).toNat then [(aI (cap02.getD ((i2).toNat) 0))] else ((fun zm=>if zm=(i2).toNat then [(aI (cap02.getD ((j2).toNat) 0))] else (fun zi=>cI (cap02.getD zi 0)) zm)) zm)) zi from (get_set_raw cI 0 (cap02.set ((i2).toNat) (cap02.getD ((j2).toNat) 0)) ((j2).toNat) (cap02.getD ((i2).toNat) 0) (get_set_raw cI 0 cap02 ((i2).toNat) (cap02.getD ((j2).toNat) 0) (fun _ _=>rfl)))) pn))))))))))) ?_
    refine Runs.nR hE 1 [] [] (kp [0,1,9,10]) (kq [0]) 577 pn ?_
    refine Runs.nR hE 0 [] [] (kp [0,1,9,10]) (kq [0]) 625 pn ?_
    exact Runs.nW hE 2 [] (kp [0,1,9,10]) (kq [0]) 1 pn (hK_g_slices_partitionEqualOrdered_int_L1 _ _ _ _ h E hE)
theorem g_slices_partitionEqualOrdered_int_L2_ok (N:Nat) (a:Int) (cap02:List Int) (j:Int) (K_g_slices_partitionEqualOrdered_int_L1:(List Int)→Int→Int→Option (Int×(List Int))) (hK_g_slices_partitionEqualOrdered_int_L1:g_slices_partitionEqualOrdered_int_L1_H N a K_g_slices_partitionEqualOrdered_int_L1) (fuel:Nat):g_slices_partitionEqualOrdered_int_L2_H N a cap02 j (g_slices_partitionEqualOrdered_int_L2 N a cap02 j K_g_slices_partitionEqualOrdered_int_L1 fuel):=by
 induction fuel with
 | zero=>intro _ r h;rw [g_slices_partitionEqualOrdered_int_L2.eq_1] at h;cases h
 | succ fuel ih =>
  intro i2 r h E hE
  rw [g_slices_partitionEqualOrdered_int_L2.eq_2] at h
  obtain ⟨c3,h⟩:=ifSome h
  obtain ⟨c4,h⟩:=ifSome h
  obtain ⟨rLess,hr,h⟩:=bindSome h
  refine Runs.nR hE 2 [(12,⟨[],true,(aB rLess),[],0,false,none⟩)] [] (kp [0,1,9,10,43]) (kq [0]) 241 (pc (fun hg:(decide (i2≤j))=true=>(pc hg (pc hg (pc (c3 hg) pn)))) (pc (fun hg:(decide (i2≤j))=true=>(pc hg (pc (ltOf (c3 hg)) pn))) (pc (fun hg:(decide (i2≤j))=true=>(pc hg (pc hg (pc (c4 hg) pn)))) (pc (fun hg:(decide (i2≤j))=true=>(pc hg (pc (ltOf (c4 hg)) pn))) (pc (fun hg:(decide (i2≤j))=true=>(pc (g_cmp_Less_int_ok N (cap02.getD ((a).toNat) 0) (cap02.getD ((i2).toNat) 0) rLess (condT hr hg)) (pc hg (pc hg pn)))) (pc (fun hg:(decide (i2≤j))=true=>(pc hg pn)) (pc (fun hq:(decide (i2≤j))=true=>(pc hq pn)) pn))))))) ?_
  refine Runs.nC 0 43 h (fun hq2 h=>?_) (fun hq2 h=>?_)
  ·refine Runs.nR hE 2 [] [] (kp [0,1,9,10]) (kq [0]) 289 pn ?_
   exact Runs.nW hE 2 [] (kp [0,1,9,10]) (kq [0]) 1 pn (ih _ _ h E hE)
  ·exact Runs.nW hE 4 [] (kp [0,1,9,10]) (kq [0]) 1 pn (g_slices_partitionEqualOrdered_int_L3_ok N _ _ _ _ hK_g_slices_partitionEqualOrdered_int_L1 N _ _ h E hE)
theorem g_slices_partitionEqualOrdered_int_L1_ok (N:Nat) (a:Int) (fuel:Nat):g_slices_partitionEqualOrdered_int_L1_H N a (g_slices_partitionEqualOrdered_int_L1 N a fuel):=by
 induction fuel with
 | zero=>intro _ _ _ r h;rw [g_slices_partitionEqualOrdered_int_L1.eq_1] at h;cases h
 | succ fuel ih =>
  intro cap02 i j r h E hE
  rw [g_slices_partitionEqualOrdered_int_L1.eq_2] at h
  exact Runs.nW hE 4 [] (kp [0,1,9,10]) (kq [0]) 1 pn (g_slices_partitionEqualOrdered_int_L2_ok N _ _ _ _ ih N _ _ h E hE)
theorem g_slices_partitionEqualOrdered_int_ok (N:Nat) (a:Int) (b:Int) (pivot:Int) (cap0:List Int) (r:Int×(List Int)) (h:g_slices_partitionEqualOrdered_int N a b pivot cap0=some r):Sound Try.prog 121 [(.os 0 0 cap0.length),(aI a),(aI b),(aI pivot)] [(0,aO 1 cI 0 cap0)] 1 (aI r.1) [(0,aO 1 cI 0 r.2)]:=by
 unfold g_slices_partitionEqualOrdered_int at h
 refine Sound.of_runs (fu:=Try.f121) (c:=C_44 1) (nt:=84) (by kernel_rfl) (by kernel_rfl) (by kernel_rfl) (by kernel_rfl) (fun hm=>absurd hm (by decide)) ?_
 intro E hE
 refine Runs.nR hE 1 [] [] (kp [0,1,2,3]) (kq [0]) 17 pn ?_
 obtain ⟨c,h⟩:=ifSome h
 obtain ⟨c2,h⟩:=ifSome h
 refine Runs.nR hE 1 [] [] ([(0,.osl (((cap0.set ((a).toNat) (cap0.getD ((pivot).toNat) 0)).set ((pivot).toNat) (cap0.getD ((a).toNat) 0)).length))] ++ kp [1,2]) [(0,.arr 0 (((cap0.set ((a).toNat) (cap0.getD ((pivot).toNat) 0)).set ((pivot).toNat) (cap0.getD ((a).toNat) 0)).length) (fun zi=>cI (((cap0.set ((a).toNat) (cap0.getD ((pivot).toNat) 0)).set ((pivot).toNat) (cap0.getD ((a).toNat) 0)).getD zi 0)))] 273 (pc c (pc (ltOf c) (pc c2 (pc (ltOf c2) (pc c2 (pc (ltOf c2) (pc c (pc (ltOf c) (pc (show cap0.length=((cap0.set ((a).toNat) (cap0.getD ((pivot).toNat) 0)).set ((pivot).toNat) (cap0.getD ((a).toNat) 0)).length from (len_set_raw (len_set_raw rfl))) (pc (show cap0.length=((cap0.set ((a).toNat) (cap0.getD ((pivot).toNat) 0)).set ((pivot).toNat) (cap0.getD ((a).toNat) 0)).length from (len_set_raw (len_set_raw rfl))) (pc (show ∀ zi,zi < ((cap0.set ((a).toNat) (cap0.getD ((pivot).toNat) 0)).set ((pivot).toNat) (cap0.getD ((a).toNat) 0)).length→(fun zi=>cI (((cap0.set ((a).toNat) (cap0.getD ((pivot).toNat) 0)).set ((pivot).toNat) (cap0.getD ((a).toNat) 0)).getD zi 0)) zi=((fun zm=>if zm=(pivot).toNat then [(aI (cap0.getD ((a).toNat) 0))] else ((fun zm=>if zm=(a).toNat then [(aI (cap0.getD ((pivot).toNat) 0))] else (fun zi=>cI (cap0.getD zi 0)) zm)) zm)) zi from (get_set_raw cI 0 (cap0.set ((a).toNat) (cap0.getD ((pivot).toNat) 0)) ((pivot).toNat) (cap0.getD ((a).toNat) 0) (get_set_raw cI 0 cap0 ((a).toNat) (cap0.getD ((pivot).toNat) 0) (fun _ _=>rfl)))) pn))))))))))) ?_
 refine Runs.nR hE 1 [] [] (kp [0,1,9,10]) (kq [0]) 369 pn ?_
 exact Runs.nW hE 3 [] (kp [0,1,9,10]) (kq [0]) 1 pn (g_slices_partitionEqualOrdered_int_L1_ok N _ N _ _ _ _ h E hE)
noncomputable def C_45 (n:Nat):Code:=cat (bodyOf Try.f122) (pth n)
def g_slices_partitionOrdered_int_L1_H (N:Nat) (a:Int) (b:Int) (pivot:Int) (cap0:List Int) (K:Int→Option (Int×Bool×(List Int))):Prop:=∀ (i:Int) (r:Int×Bool×(List Int)),K i=some r→∀ E,EnvOk E 1→Runs Try.prog E 122 168 (SPost E [(0,aO 1 cI 0 r.2.2)] (.tup [(aI r.1),(aB r.2.1)])) [.code (C_45 120),.inLoop (C_45 120),.inBlock 0,.code (C_45 31)] ⟨[(0,(.os 0 0 (((cap0.set ((a).toNat) (cap0.getD ((pivot).toNat) 0)).set ((pivot).toNat) (cap0.getD ((a).toNat) 0)).length))),(1,(aI a)),(10,(aI i)),(11,(aI (w64 (b - 1))))],[(0,aO 1 cI 0 ((cap0.set ((a).toNat) (cap0.getD ((pivot).toNat) 0)).set ((pivot).toNat) (cap0.getD ((a).toNat) 0)))],1⟩
def g_slices_partitionOrdered_int_L2_H (N:Nat) (a:Int) (pivot:Int) (cap0:List Int) (i:Int) (K:Int→Option (Int×Bool×(List Int))):Prop:=∀ (j:Int) (r:Int×Bool×(List Int)),K j=some r→∀ E,EnvOk E 1→Runs Try.prog E 122 168 (SPost E [(0,aO 1 cI 0 r.2.2)] (.tup [(aI r.1),(aB r.2.1)])) [.code (C_45 248),.inLoop (C_45 248),.inBlock 2,.code (C_45 63)] ⟨[(0,(.os 0 0 (((cap0.set ((a).toNat) (cap0.getD ((pivot).toNat) 0)).set ((pivot).toNat) (cap0.getD ((a).toNat) 0)).length))),(1,(aI a)),(10,(aI i)),(11,(aI j))],[(0,aO 1 cI 0 ((cap0.set ((a).toNat) (cap0.getD ((pivot).toNat) 0)).set ((pivot).toNat) (cap0.getD ((a).toNat) 0)))],1⟩
def g_slices_partitionOrdered_int_L3_H (N:Nat) (a:Int) (K:(List Int)→Int→Int→Option (Int×Bool×(List Int))):Prop:=∀ (cap02:List Int) (i2:Int) (j2:Int) (r:Int×Bool×(List Int)),K cap02 i2 j2=some r→∀ E,EnvOk E 1→Runs Try.prog E 122 168 (SPost E [(0,aO 1 cI 0 r.2.2)] (.tup [(aI r.1),(aB r.2.1)])) [.code (C_45 8184),.inLoop (C_45 8184),.inBlock 4,.code (C_45 2047)] ⟨[(0,(.os 0 0 cap02.length)),(1,(aI a)),(10,(aI i2)),(11,(aI j2))],[(0,aO 1 cI 0 cap02)],1⟩
def g_slices_partitionOrdered_int_L4_H (N:Nat) (a:Int) (cap02:List Int) (j2:Int) (K:Int→Option (Int×Bool×(List Int))):Prop:=∀ (i3:Int) (r:Int×Bool×(List Int)),K i3=some r→∀ E,EnvOk E 1→Runs Try.prog E 122 168 (SPost E [(0,aO 1 cI 0 r.2.2)] (.tup [(aI r.1),(aB r.2.1)])) [.code (C_45 130944),.inLoop (C_45 130944),.inBlock 6,.code (C_45 32737),.inBlock 5,.inLoop (C_45 8184),.inBlock 4,.code (C_45 2047)] ⟨[(0,(.os 0 0 cap02.length)),(1,(aI a)),(10,(aI i3)),(11,(aI j2))],[(0,aO 1 cI 0 cap02)],1⟩
def g_slices_partitionOrdered_int_L5_H (N:Nat) (a:Int) (cap02:List Int) (i3:Int) (K:Int→Option (Int×Bool×(List Int))):Prop:=∀ (j3:Int) (r:Int×Bool×(List Int)),K j3=some r→∀ E,EnvOk E 1→Runs Try.prog E 122 168 (SPost E [(0,aO 1 cI 0 r.2.2)] (.tup [(aI r.1),(aB r.2.1)])) [.code (C_45 261896),.inLoop (C_45 261896),.inBlock 8,.code (C_45 65475),.inBlock 5,.inLoop (C_45 8184),.inBlock 4,.code (C_45 2047)] ⟨[(0,(.os 0 0 cap02.length)),(1,(aI a)),(10,(aI i3)),(11,(aI j3))],[(0,aO 1 cI 0 cap02)],1⟩
theorem g_slices_partitionOrdered_int_L5_ok (N:Nat) (a:Int) (cap02:List Int) (i3:Int) (K_g_slices_partitionOrdered_int_L3:(List Int)→Int→Int→Option (Int×Bool×(List Int))) (hK_g_slices_partitionOrdered_int_L3:g_slices_partitionOrdered_int_L3_H N a K_g_slices_partitionOrdered_int_L3) (fuel:Nat):g_slices_partitionOrdered_int_L5_H N a cap02 i3 (g_slices_partitionOrdered_int_L5 N a cap02 i3 K_g_slices_partitionOrdered_int_L3 fuel):=by
 induction fuel with
 | zero=>intro _ r h;rw [g_slices_partitionOrdered_int_L5.eq_1] at h;cases h
 | succ fuel ih =>
  intro j3 r h E hE
  rw [g_slices_partitionOrdered_int_L5.eq_2] at h
  obtain ⟨c13,h⟩:=ifSome h
  obtain ⟨c14,h⟩:=ifSome h
  obtain ⟨rLess4,hr4,h⟩:=bindSome h
  refine Runs.nR hE 2 [(12,⟨[],true,(aB rLess4),[],0,false,none⟩)] [] (kp [0,1,10,11,129]) (kq [0]) 241 (pc (fun hg:(decide (i3≤j3))=true=>(pc hg (pc hg (pc (c13 hg) pn)))) (pc (fun hg:(decide (i3≤j3))=true=>(pc hg (pc (ltOf (c13 hg)) pn))) (pc (fun hg:(decide (i3≤j3))=true=>(pc hg (pc hg (pc (c14 hg) pn)))) (pc (fun hg:(decide (i3≤j3))=true=>(pc hg (pc (ltOf (c14 hg)) pn))) (pc (fun hg:(decide (i3≤j3))=true=>(pc (g_cmp_Less_int_ok N (cap02.getD ((j3).toNat) 0) (cap02.getD ((a).toNat) 0) rLess4 (condT hr4 hg)) (pc hg (pc hg pn)))) (pc (fun hg:(decide (i3≤j3))=true=>(pc hg pn)) (pc (fun hq:(decide (i3≤j3))=true=>(pc hq pn)) pn))))))) ?_
  refine Runs.nC 0 129 h (fun hq6 h=>?_) (fun hq6 h=>?_)
  ·refine Runs.nR hE 2 [] [] (kp [0,1,10,11]) (kq [0]) 289 pn ?_
   exact Runs.nW hE 2 [] (kp [0,1,10,11]) (kq [0]) 1 pn (ih _ _ h E hE)
  ·refine Runs.nR hE 3 [] [] (kp [0,1,10,11,134]) (kq [0]) 289 pn ?_
   refine Runs.nC 0 134 h (fun hq7 h=>?_) (fun hq7 h=>?_)
   ·obtain ⟨c15,h⟩:=ifSome h
    obtain ⟨c16,h⟩:=ifSome h
    refine Runs.nR hE 2 [] [] (kp [11]) [(0,.arr 0 (((cap02.set ((j3).toNat) (cap02.getD ((a).toNat) 0)).set ((a).toNat) (cap02.getD ((j3).toNat) 0)).length) (fun zi=>cI (((cap02.set ((j3).toNat) (cap02.getD ((a).toNat) 0)).set ((a).toNat) (cap02.getD ((j3).toNat) 0)).getD zi 0)))] 545 (pc c15 (pc (ltOf c15) (pc c16 (pc (ltOf c16) (pc c16 (pc (ltOf c16) (pc c15 (pc (ltOf c15) (pc (show cap02.length=((cap02.set ((j3).toNat) (cap02.getD ((a).toNat) 0)).set ((a).toNat) (cap02.getD ((j3).toNat) 0)).length from (len_set_raw (len_set_raw rfl))) (pc (show ∀ zi,zi < ((cap02.set ((j3).toNat) (cap02.getD ((a).toNat) 0)).set ((a).toNat) (cap02.getD ((j3).toNat) 0)).length→(fun zi=>cI (((cap02.set ((j3).toNat) (cap02.getD ((a).toNat) 0)).set ((a).toNat) (cap02.getD ((j3).toNat) 0)).getD zi 0)) zi=((fun zm=>if zm=(a).toNat then [(aI (cap02.getD ((j3).toNat) 0))] else ((fun zm=>if zm=(j3).toNat then [(aI (cap02.getD ((a).toNat) 0))] else (fun zi=>cI (cap02.getD zi 0)) zm)) zm)) zi from (get_set_raw cI 0 (cap02.set ((j3).toNat) (cap02.getD ((a).toNat) 0)) ((a).toNat) (cap02.getD ((j3).toNat) 0) (get_set_raw cI 0 cap02 ((j3).toNat) (cap02.getD ((a).toNat) 0) (fun _ _=>rfl)))) pn)))))))))) ?_
    refine Runs.nR hE 1 [] [] (kp [8,9]) (kq [0]) 593 pn ?_
    obtain rfl:=Option.some.inj h
    exact Runs.nT hE 0 Try.f122 [] (kp [8,9]) (kq [0]) 593 pn [] pn
   ·obtain ⟨c17,h⟩:=ifSome h
    obtain ⟨c18,h⟩:=ifSome h
    refine Runs.nR hE 2 [] [] ([(0,.osl (((cap02.set ((i3).toNat) (cap02.getD ((j3).toNat) 0)).set ((j3).toNat) (cap02.getD ((i3).toNat) 0)).length))] ++ kp [1,10,11]) [(0,.arr 0 (((cap02.set ((i3).toNat) (cap02.getD ((j3).toNat) 0)).set ((j3).toNat) (cap02.getD ((i3).toNat) 0)).length) (fun zi=>cI (((cap02.set ((i3).toNat) (cap02.getD ((j3).toNat) 0)).set ((j3).toNat) (cap02.getD ((i3).toNat) 0)).getD zi 0)))] 545 (pc c17 (pc (ltOf c17) (pc c18 (pc (ltOf c18) (pc c18 (pc (ltOf c18) (pc c17 (pc (ltOf c17) (pc (show cap02.length=((cap02.set ((i3).toNat) (cap02.getD ((j3).toNat) 0)).set ((j3).toNat) (cap02.getD ((i3).toNat) 0)).length from (len_set_raw (len_set_raw rfl))) (pc (show cap02.length=((cap02.set ((i3).toNat) (cap02.getD ((j3).toNat) 0)).set ((j3).toNat) (cap02.getD ((i3).toNat) 0)).length from (len_set_raw (len_set_raw rfl))) (pc (show ∀ zi,zi < ((cap02.set ((i3).toNat) (cap02.getD ((j3).toNat) 0)).set ((j3).toNat) (cap02.getD ((i3).toNat) 0)).length→(fun zi=>cI (((cap02.set ((i3).toNat) (cap02.getD ((j3).toNat) 0)).set ((j3).toNat) (cap02.getD ((i3).toNat) 0)).getD zi 0)) zi=((fun zm=>if zm=(j3).toNat then [(aI (cap02.getD ((i3).toNat) 0))] else ((fun zm=>if zm=(i3).toNat then [(aI (cap02.getD ((j3).toNat) 0))] else (fun zi=>cI (cap02.getD zi 0)) zm)) zm)) zi from (get_set_raw cI 0 (cap02.set ((i3).toNat) (cap02.getD ((j3).toNat) 0)) ((j3).toNat) (cap02.getD ((i3).toNat) 0) (get_set_raw cI 0 cap02 ((i3).toNat) (cap02.getD ((j3).toNat) 0) (fun _ _=>rfl)))) pn))))))))))) ?_
    refine Runs.nR hE 1 [] [] (kp [0,1,10,11]) (kq [0]) 593 pn ?_
    refine Runs.nR hE 0 [] [] (kp [0,1,10,11]) (kq [0]) 641 pn ?_
    exact Runs.nW hE 2 [] (kp [0,1,10,11]) (kq [0]) 1 pn (hK_g_slices_partitionOrdered_int_L3 _ _ _ _ h E hE)
theorem g_slices_partitionOrdered_int_L4_ok (N:Nat) (a:Int) (cap02:List Int) (j2:Int) (K_g_slices_partitionOrdered_int_L3:(List Int)→Int→Int→Option (Int×Bool×(List Int))) (hK_g_slices_partitionOrdered_int_L3:g_slices_partitionOrdered_int_L3_H N a K_g_slices_partitionOrdered_int_L3) (fuel:Nat):g_slices_partitionOrdered_int_L4_H N a cap02 j2 (g_slices_partitionOrdered_int_L4 N a cap02 j2 K_g_slices_partitionOrdered_int_L3 fuel):=by
 induction fuel with
 | zero=>intro _ r h;rw [g_slices_partitionOrdered_int_L4.eq_1] at h;cases h
 | succ fuel ih =>
  intro i3 r h E hE
  rw [g_slices_partitionOrdered_int_L4.eq_2] at h
  obtain ⟨c11,h⟩:=ifSome h
  obtain ⟨c12,h⟩:=ifSome h
  obtain ⟨rLess3,hr3,h⟩:=bindSome h
  refine Runs.nR hE 2 [(12,⟨[],true,(aB rLess3),[],0,false,none⟩)] [] (kp [0,1,10,11,112]) (kq [0]) 225 (pc (fun hg:(decide (i3≤j2))=true=>(pc hg (pc hg (pc (c11 hg) pn)))) (pc (fun hg:(decide (i3≤j2))=true=>(pc hg (pc (ltOf (c11 hg)) pn))) (pc (fun hg:(decide (i3≤j2))=true=>(pc hg (pc hg (pc (c12 hg) pn)))) (pc (fun hg:(decide (i3≤j2))=true=>(pc hg (pc (ltOf (c12 hg)) pn))) (pc (fun hg:(decide (i3≤j2))=true=>(pc (g_cmp_Less_int_ok N (cap02.getD ((i3).toNat) 0) (cap02.getD ((a).toNat) 0) rLess3 (condT hr3 hg)) (pc hg (pc hg pn)))) (pc (fun hq:(decide (i3≤j2))=true=>(pc hq pn)) pn)))))) ?_
  refine Runs.nC 0 112 h (fun hq5 h=>?_) (fun hq5 h=>?_)
  ·refine Runs.nR hE 2 [] [] (kp [0,1,10,11]) (kq [0]) 273 pn ?_
   exact Runs.nW hE 2 [] (kp [0,1,10,11]) (kq [0]) 1 pn (ih _ _ h E hE)
  ·exact Runs.nW hE 4 [] (kp [0,1,10,11]) (kq [0]) 1 pn (g_slices_partitionOrdered_int_L5_ok N _ _ _ _ hK_g_slices_partitionOrdered_int_L3 N _ _ h E hE)
theorem g_slices_partitionOrdered_int_L3_ok (N:Nat) (a:Int) (fuel:Nat):g_slices_partitionOrdered_int_L3_H N a (g_slices_partitionOrdered_int_L3 N a fuel):=by
 induction fuel with
 | zero=>intro _ _ _ r h;rw [g_slices_partitionOrdered_int_L3.eq_1] at h;cases h
 | succ fuel ih =>
  intro cap02 i2 j2 r h E hE
  rw [g_slices_partitionOrdered_int_L3.eq_2] at h
  exact Runs.nW hE 4 [] (kp [0,1,10,11]) (kq [0]) 1 pn (g_slices_partitionOrdered_int_L4_ok N _ _ _ _ ih N _ _ h E hE)
theorem g_slices_partitionOrdered_int_L2_ok (N:Nat) (a:Int) (pivot:Int) (cap0:List Int) (i:Int) (fuel:Nat):g_slices_partitionOrdered_int_L2_H N a pivot cap0 i (g_slices_partitionOrdered_int_L2 N a pivot cap0 i fuel):=by
 induction fuel with
 | zero=>intro _ r h;rw [g_slices_partitionOrdered_int_L2.eq_1] at h;cases h
 | succ fuel ih =>
  intro j r h E hE
  rw [g_slices_partitionOrdered_int_L2.eq_2] at h
  obtain ⟨c5,h⟩:=ifSome h
  obtain ⟨c6,h⟩:=ifSome h
  obtain ⟨rLess2,hr2,h⟩:=bindSome h
  refine Runs.nR hE 2 [(12,⟨[],true,(aB rLess2),[],0,false,none⟩)] [] (kp [0,1,10,11,60]) (kq [0]) 241 (pc (fun hg:(decide (i≤j))=true=>(pc hg (pc hg (pc (c5 hg) pn)))) (pc (fun hg:(decide (i≤j))=true=>(pc hg (pc (ltOf (c5 hg)) pn))) (pc (fun hg:(decide (i≤j))=true=>(pc hg (pc hg (pc (c6 hg) pn)))) (pc (fun hg:(decide (i≤j))=true=>(pc hg (pc (ltOf (c6 hg)) pn))) (pc (fun hg:(decide (i≤j))=true=>(pc (g_cmp_Less_int_ok N (((cap0.set ((a).toNat) (cap0.getD ((pivot).toNat) 0)).set ((pivot).toNat) (cap0.getD ((a).toNat) 0)).getD ((j).toNat) 0) (((cap0.set ((a).toNat) (cap0.getD ((pivot).toNat) 0)).set ((pivot).toNat) (cap0.getD ((a).toNat) 0)).getD ((a).toNat) 0) rLess2 (condT hr2 hg)) (pc hg (pc hg pn)))) (pc (fun hg:(decide (i≤j))=true=>(pc hg pn)) (pc (fun hq:(decide (i≤j))=true=>(pc hq pn)) pn))))))) ?_
  refine Runs.nC 0 60 h (fun hq3 h=>?_) (fun hq3 h=>?_)
  ·refine Runs.nR hE 2 [] [] (kp [0,1,10,11]) (kq [0]) 289 pn ?_
   exact Runs.nW hE 2 [] (kp [0,1,10,11]) (kq [0]) 1 pn (ih _ _ h E hE)
  ·refine Runs.nR hE 3 [] [] (kp [0,1,10,11,65]) (kq [0]) 289 pn ?_
   refine Runs.nC 0 65 h (fun hq4 h=>?_) (fun hq4 h=>?_)
   ·obtain ⟨c7,h⟩:=ifSome h
    obtain ⟨c8,h⟩:=ifSome h
    refine Runs.nR hE 1 [] [] (kp [11]) [(0,.arr 0 (((((cap0.set ((a).toNat) (cap0.getD ((pivot).toNat) 0)).set ((pivot).toNat) (cap0.getD ((a).toNat) 0)).set ((j).toNat) (((cap0.set ((a).toNat) (cap0.getD ((pivot).toNat) 0)).set ((pivot).toNat) (cap0.getD ((a).toNat) 0)).getD ((a).toNat) 0)).set ((a).toNat) (((cap0.set ((a).toNat) (cap0.getD ((pivot).toNat) 0)).set ((pivot).toNat) (cap0.getD ((a).toNat) 0)).getD ((j).toNat) 0)).length) (fun zi=>cI (((((cap0.set ((a).toNat) (cap0.getD ((pivot).toNat) 0)).set ((pivot).toNat) (cap0.getD ((a).toNat) 0)).set ((j).toNat) (((cap0.set ((a).toNat) (cap0.getD ((pivot).toNat) 0)).set ((pivot).toNat) (cap0.getD ((a).toNat) 0)).getD ((a).toNat) 0)).set ((a).toNat) (((cap0.set ((a).toNat) (cap0.getD ((pivot).toNat) 0)).set ((pivot).toNat) (cap0.getD ((a).toNat) 0)).getD ((j).toNat) 0)).getD zi 0)))] 545 (pc c7 (pc (ltOf c7) (pc c8 (pc (ltOf c8) (pc c8 (pc (ltOf c8) (pc c7 (pc (ltOf c7) (pc (show ((cap0.set ((a).toNat) (cap0.getD ((pivot).toNat) 0)).set ((pivot).toNat) (cap0.getD ((a).toNat) 0)).length=((((cap0.set ((a).toNat) (cap0.getD ((pivot).toNat) 0)).set ((pivot).toNat) (cap0.getD ((a).toNat) 0)).set ((j).toNat) (((cap0.set ((a).toNat) (cap0.getD ((pivot).toNat) 0)).set ((pivot).toNat) (cap0.getD ((a).toNat) 0)).getD ((a).toNat) 0)).set ((a).toNat) (((cap0.set ((a).toNat) (cap0.getD ((pivot).toNat) 0)).set ((pivot).toNat) (cap0.getD ((a).toNat) 0)).getD ((j).toNat) 0)).length from (len_set_raw (len_set_raw rfl))) (pc (show ∀ zi,zi < ((((cap0.set ((a).toNat) (cap0.getD ((pivot).toNat) 0)).set ((pivot).toNat) (cap0.getD ((a).toNat) 0)).set ((j).toNat) (((cap0.set ((a).toNat) (cap0.getD ((pivot).toNat) 0)).set ((pivot).toNat) (cap0.getD ((a).toNat) 0)).getD ((a).toNat) 0)).set ((a).toNat) (((cap0.set ((a).toNat) (cap0.getD ((pivot).toNat) 0)).set ((pivot).toNat) (cap0.getD ((a).toNat) 0)).getD ((j).toNat) 0)).length→(fun zi=>cI (((((cap0.set ((a).toNat) (cap0.getD ((pivot).toNat) 0)).set ((pivot).toNat) (cap0.getD ((a).toNat) 0)).set ((j).toNat) (((cap0.set ((a).toNat) (cap0.getD ((pivot).toNat) 0)).set ((pivot).toNat) (cap0.getD ((a).toNat) 0)).getD ((a).toNat) 0)).set ((a).toNat) (((cap0.set ((a).toNat) (cap0.getD ((pivot).toNat) 0)).set ((pivot).toNat) (cap0.getD ((a).toNat) 0)).getD ((j).toNat) 0)).getD zi 0)) zi=((fun zm=>if zm=(a).toNat then [(aI (((cap0.set ((a).toNat) (cap0.getD ((pivot).toNat) 0)).set ((pivot).toNat) (cap0.getD ((a).toNat) 0)).getD ((j).toNat) 0))] else ((fun zm=>if zm=(j).toNat then [(aI (((cap0.set ((a).toNat) (cap0.getD ((pivot).toNat) 0)).set ((pivot).toNat) (cap0.getD ((a).toNat) 0)).getD ((a).toNat) 0))] else (fun zi=>cI (((cap0.set ((a).toNat) (cap0.getD ((pivot).toNat) 0)).set ((pivot).toNat) (cap0.getD ((a).toNat) 0)).getD zi 0)) zm)) zm)) zi from (get_set_raw cI 0 (((cap0.set ((a).toNat) (cap0.getD ((pivot).toNat) 0)).set ((pivot).toNat) (cap0.getD ((a).toNat) 0)).set ((j).toNat) (((cap0.set ((a).toNat) (cap0.getD ((pivot).toNat) 0)).set ((pivot).toNat) (cap0.getD ((a).toNat) 0)).getD ((a).toNat) 0)) ((a).toNat) (((cap0.set ((a).toNat) (cap0.getD ((pivot).toNat) 0)).set ((pivot).toNat) (cap0.getD ((a).toNat) 0)).getD ((j).toNat) 0) (get_set_raw cI 0 ((cap0.set ((a).toNat) (cap0.getD ((pivot).toNat) 0)).set ((pivot).toNat) (cap0.getD ((a).toNat) 0)) ((j).toNat) (((cap0.set ((a).toNat) (cap0.getD ((pivot).toNat) 0)).set ((pivot).toNat) (cap0.getD ((a).toNat) 0)).getD ((a).toNat) 0) (fun _ _=>rfl)))) pn)))))))))) ?_
    refine Runs.nR hE 1 [] [] (kp [8,9]) (kq [0]) 593 pn ?_
    obtain rfl:=Option.some.inj h
    exact Runs.nT hE 0 Try.f122 [] (kp [8,9]) (kq [0]) 593 pn [] pn
   ·obtain ⟨c9,h⟩:=ifSome h
    obtain ⟨c10,h⟩:=ifSome h
    refine Runs.nR hE 2 [] [] ([(0,.osl (((((cap0.set ((a).toNat) (cap0.getD ((pivot).toNat) 0)).set ((pivot).toNat) (cap0.getD ((a).toNat) 0)).set ((i).toNat) (((cap0.set ((a).toNat) (cap0.getD ((pivot).toNat) 0)).set ((pivot).toNat) (cap0.getD ((a).toNat) 0)).getD ((j).toNat) 0)).set ((j).toNat) (((cap0.set ((a).toNat) (cap0.getD ((pivot).toNat) 0)).set ((pivot).toNat) (cap0.getD ((a).toNat) 0)).getD ((i).toNat) 0)).length))] ++ kp [1,10,11]) [(0,.arr 0 (((((cap0.set ((a).toNat) (cap0.getD ((pivot).toNat) 0)).set ((pivot).toNat) (cap0.getD ((a).toNat) 0)).set ((i).toNat) (((cap0.set ((a).toNat) (cap0.getD ((pivot).toNat) 0)).set ((pivot).toNat) (cap0.getD ((a).toNat) 0)).getD ((j).toNat) 0)).set ((j).toNat) (((cap0.set ((a).toNat) (cap0.getD ((pivot).toNat) 0)).set ((pivot).toNat) (cap0.getD ((a).toNat) 0)).getD ((i).toNat) 0)).length) (fun zi=>cI (((((cap0.set ((a).toNat) (cap0.getD ((pivot).toNat) 0)).set ((pivot).toNat) (cap0.getD ((a).toNat) 0)).set ((i).toNat) (((cap0.set ((a).toNat) (cap0.getD ((pivot).toNat) 0)).set ((pivot).toNat) (cap0.getD ((a).toNat) 0)).getD ((j).toNat) 0)).set ((j).toNat) (((cap0.set ((a).toNat) (cap0.getD ((pivot).toNat) 0)).set ((pivot).toNat) (cap0.getD ((a).toNat) 0)).getD ((i).toNat) 0)).getD zi 0)))] 545 (pc c9 (pc (ltOf c9) (pc c10 (pc (ltOf c10) (pc c10 (pc (ltOf c10) (pc c9 (pc (ltOf c9) (pc (show ((cap0.set ((a).toNat) (cap0.getD ((pivot).toNat) 0)).set ((pivot).toNat) (cap0.getD ((a).toNat) 0)).length=((((cap0.set ((a).toNat) (cap0.getD ((pivot).toNat) 0)).set ((pivot).toNat) (cap0.getD ((a).toNat) 0)).set ((i).toNat) (((cap0.set ((a).toNat) (cap0.getD ((pivot).toNat) 0)).set ((pivot).toNat) (cap0.getD ((a).toNat) 0)).getD ((j).toNat) 0)).set ((j).toNat) (((cap0.set ((a).toNat) (cap0.getD ((pivot).toNat) 0)).set ((pivot).toNat) (cap0.getD ((a).toNat) 0)).getD ((i).toNat) 0)).length from (len_set_raw (len_set_raw rfl))) (pc (show ((cap0.set ((a).toNat) (cap0.getD ((pivot).toNat) 0)).set ((pivot).toNat) (cap0.getD ((a).toNat) 0)).length=((((cap0.set ((a).toNat) (cap0.getD ((pivot).toNat) 0)).set ((pivot).toNat) (cap0.getD ((a).toNat) 0)).set ((i).toNat) (((cap0.set ((a).toNat) (cap0.getD ((pivot).toNat) 0)).set ((pivot).toNat) (cap0.getD ((a).toNat) 0)).getD ((j).toNat) 0)).set ((j).toNat) (((cap0.set ((a).toNat) (cap0.getD ((pivot).toNat) 0)).set ((pivot).toNat) (cap0.getD ((a).toNat) 0)).getD ((i).toNat) 0)).length from (len_set_raw (len_set_raw rfl))) (pc (show ∀ zi,zi < ((((cap0.set ((a).toNat) (cap0.getD ((pivot).toNat) 0)).set ((pivot).toNat) (cap0.getD ((a).toNat) 0)).set ((i).toNat) (((cap0.set ((a).toNat) (cap0.getD ((pivot).toNat) 0)).set ((pivot).toNat) (cap0.getD ((a).toNat) 0)).getD ((j).toNat) 0)).set ((j).toNat) (((cap0.set ((a).toNat) (cap0.getD ((pivot).toNat) 0)).set ((pivot).toNat) (cap0.getD ((a).toNat) 0)).getD ((i).toNat) 0)).length→(fun zi=>cI (((((cap0.set ((a).toNat) (cap0.getD ((pivot).toNat) 0)).set ((pivot).toNat) (cap0.getD ((a).toNat) 0)).set ((i).toNat) (((cap0.set ((a).toNat) (cap0.getD ((pivot).toNat) 0)).set ((pivot).toNat) (cap0.getD ((a).toNat) 0)).getD ((j).toNat) 0)).set ((j).toNat) (((cap0.set ((a).toNat) (cap0.getD ((pivot).toNat) 0)).set ((pivot).toNat) (cap0.getD ((a).toNat) 0)).getD ((i).toNat) 0)).getD zi 0)) zi=((fun zm=>if zm=(j).toNat then [(aI (((cap0.set ((a).toNat) (cap0.getD ((pivot).toNat) 0)).set ((pivot).toNat) (cap0.getD ((a).toNat) 0)).getD ((i).toNat) 0))] else ((fun zm=>if zm=(i).toNat then [(aI (((cap0.set ((a).toNat) (cap0.getD ((pivot).toNat) 0)).set ((pivot).toNat) (cap0.getD ((a).toNat) 0)).getD ((j).toNat) 0))] else (fun zi=>cI (((cap0.set ((a).toNat) (cap0.getD ((pivot).toNat) 0)).set ((pivot).toNat) (cap0.getD ((a).toNat) 0)).getD zi 0)) zm)) zm)) zi from (get_set_raw cI 0 (((cap0.set ((a).toNat) (cap0.getD ((pivot).toNat) 0)).set ((pivot).toNat) (cap0.getD ((a).toNat) 0)).set ((i).toNat) (((cap0.set ((a).toNat) (cap0.getD ((pivot).toNat) 0)).set ((pivot).toNat) (cap0.getD ((a).toNat) 0)).getD ((j).toNat) 0)) ((j).toNat) (((cap0.set ((a).toNat) (cap0.getD ((pivot).toNat) 0)).set ((pivot).toNat) (cap0.getD ((a).toNat) 0)).getD ((i).toNat) 0) (get_set_raw cI 0 ((cap0.set ((a).toNat) (cap0.getD ((pivot).toNat) 0)).set ((pivot).toNat) (cap0.getD ((a).toNat) 0)) ((i).toNat) (((cap0.set ((a).toNat) (cap0.getD ((pivot).toNat) 0)).set ((pivot).toNat) (cap0.getD ((a).toNat) 0)).getD ((j).toNat) 0) (fun _ _=>rfl)))) pn))))))))))) ?_
    refine Runs.nR hE 1 [] [] (kp [0,1,10,11]) (kq [0]) 593 pn ?_
    refine Runs.nR hE 1 [] [] (kp [0,1,10,11]) (kq [0]) 641 pn ?_
    exact Runs.nW hE 3 [] (kp [0,1,10,11]) (kq [0]) 1 pn (g_slices_partitionOrdered_int_L3_ok N _ N _ _ _ _ h E hE)
theorem g_slices_partitionOrdered_int_L1_ok (N:Nat) (a:Int) (b:Int) (pivot:Int) (cap0:List Int) (fuel:Nat):g_slices_partitionOrdered_int_L1_H N a b pivot cap0 (g_slices_partitionOrdered_int_L1 N a b pivot cap0 fuel):=by
 induction fuel with
 | zero=>intro _ r h;rw [g_slices_partitionOrdered_int_L1.eq_1] at h;cases h
 | succ fuel ih =>
  intro i r h E hE
  rw [g_slices_partitionOrdered_int_L1.eq_2] at h
  obtain ⟨c3,h⟩:=ifSome h
  obtain ⟨c4,h⟩:=ifSome h
  obtain ⟨rLess,hr,h⟩:=bindSome h
  refine Runs.nR hE 2 [(12,⟨[],true,(aB rLess),[],0,false,none⟩)] [] (kp [0,1,10,11,43]) (kq [0]) 225 (pc (fun hg:(decide (i≤(w64 (b - 1))))=true=>(pc hg (pc hg (pc (c3 hg) pn)))) (pc (fun hg:(decide (i≤(w64 (b - 1))))=true=>(pc hg (pc (ltOf (c3 hg)) pn))) (pc (fun hg:(decide (i≤(w64 (b - 1))))=true=>(pc hg (pc hg (pc (c4 hg) pn)))) (pc (fun hg:(decide (i≤(w64 (b - 1))))=true=>(pc hg (pc (ltOf (c4 hg)) pn))) (pc (fun hg:(decide (i≤(w64 (b - 1))))=true=>(pc (g_cmp_Less_int_ok N (((cap0.set ((a).toNat) (cap0.getD ((pivot).toNat) 0)).set ((pivot).toNat) (cap0.getD ((a).toNat) 0)).getD ((i).toNat) 0) (((cap0.set ((a).toNat) (cap0.getD ((pivot).toNat) 0)).set ((pivot).toNat) (cap0.getD ((a).toNat) 0)).getD ((a).toNat) 0) rLess (condT hr hg)) (pc hg (pc hg pn)))) (pc (fun hq:(decide (i≤(w64 (b - 1))))=true=>(pc hq pn)) pn)))))) ?_
  refine Runs.nC 0 43 h (fun hq2 h=>?_) (fun hq2 h=>?_)
  ·refine Runs.nR hE 2 [] [] (kp [0,1,10,11]) (kq [0]) 273 pn ?_
   exact Runs.nW hE 2 [] (kp [0,1,10,11]) (kq [0]) 1 pn (ih _ _ h E hE)
  ·exact Runs.nW hE 4 [] (kp [0,1,10,11]) (kq [0]) 1 pn (g_slices_partitionOrdered_int_L2_ok N _ _ _ _ N _ _ h E hE)
theorem g_slices_partitionOrdered_int_ok (N:Nat) (a:Int) (b:Int) (pivot:Int) (cap0:List Int) (r:Int×Bool×(List Int)) (h:g_slices_partitionOrdered_int N a b pivot cap0=some r):Sound Try.prog 122 [(.os 0 0 cap0.length),(aI a),(aI b),(aI pivot)] [(0,aO 1 cI 0 cap0)] 1 (.tup [(aI r.1),(aB r.2.1)]) [(0,aO 1 cI 0 r.2.2)]:=by
 unfold g_slices_partitionOrdered_int at h
 refine Sound.of_runs (fu:=Try.f122) (c:=C_45 1) (nt:=168) (by kernel_rfl) (by kernel_rfl) (by kernel_rfl) (by kernel_rfl) (fun hm=>absurd hm (by decide)) ?_
 intro E hE
 refine Runs.nR hE 1 [] [] (kp [0,1,2,3]) (kq [0]) 33 pn ?_
 obtain ⟨c,h⟩:=ifSome h
 obtain ⟨c2,h⟩:=ifSome h
 refine Runs.nR hE 1 [] [] ([(0,.osl (((cap0.set ((a).toNat) (cap0.getD ((pivot).toNat) 0)).set ((pivot).toNat) (cap0.getD ((a).toNat) 0)).length))] ++ kp [1,2]) [(0,.arr 0 (((cap0.set ((a).toNat) (cap0.getD ((pivot).toNat) 0)).set ((pivot).toNat) (cap0.getD ((a).toNat) 0)).length) (fun zi=>cI (((cap0.set ((a).toNat) (cap0.getD ((pivot).toNat) 0)).set ((pivot).toNat) (cap0.getD ((a).toNat) 0)).getD zi 0)))] 289 (pc c (pc (ltOf c) (pc c2 (pc (ltOf c2) (pc c2 (pc (ltOf c2) (pc c (pc (ltOf c) (pc (show cap0.length=((cap0.set ((a).toNat) (cap0.getD ((pivot).toNat) 0)).set ((pivot).toNat) (cap0.getD ((a).toNat) 0)).length from (len_set_raw (len_set_raw rfl))) (pc (show cap0.length=((cap0.set ((a).toNat) (cap0.getD ((pivot).toNat) 0)).set ((pivot).toNat) (cap0.getD ((a).toNat) 0)).length from (len_set_raw (len_set_raw rfl))) (pc (show ∀ zi,zi < ((cap0.set ((a).toNat) (cap0.getD ((pivot).toNat) 0)).set ((pivot).toNat) (cap0.getD ((a).toNat) 0)).length→(fun zi=>cI (((cap0.set ((a).toNat) (cap0.getD ((pivot).toNat) 0)).set ((pivot).toNat) (cap0.getD ((a).toNat) 0)).getD zi 0)) zi=((fun zm=>if zm=(pivot).toNat then [(aI (cap0.getD ((a).toNat) 0))] else ((fun zm=>if zm=(a).toNat then [(aI (cap0.getD ((pivot).toNat) 0))] else (fun zi=>cI (cap0.getD zi 0)) zm)) zm)) zi from (get_set_raw cI 0 (cap0.set ((a).toNat) (cap0.getD ((pivot).toNat) 0)) ((pivot).toNat) (cap0.getD ((a).toNat) 0) (get_set_raw cI 0 cap0 ((a).toNat) (cap0.getD ((pivot).toNat) 0) (fun _ _=>rfl)))) pn))))))))))) ?_
 refine Runs.nR hE 1 [] [] (kp [0,1,10,11]) (kq [0]) 385 pn ?_
 exact Runs.nW hE 3 [] (kp [0,1,10,11]) (kq [0]) 1 pn (g_slices_partitionOrdered_int_L1_ok N _ _ _ _ N _ _ h E hE)
noncomputable def C_29 (n:Nat):Code:=cat (bodyOf Try.f98) (pth n)
def g_slices_pdqsortOrdered_int_L1_H (N:Nat) (K:(List Int)→Int→Int→Int→Bool→Bool→Option ((List Int))):Prop:=∀ (cap02:List Int) (a2:Int) (b2:Int) (limit2:Int) (wasBalanced:Bool) (wasPartitioned:Bool) (r:(List Int)),K cap02 a2 b2 limit2 wasBalanced wasPartitioned=some r→∀ E,EnvOk E 1→Runs Try.prog E 98 134 (SPost E [(0,aO 1 cI 0 r)] (.tup [])) [.code (C_29 28),.inLoop (C_29 28),.inBlock 0] ⟨[(0,(.os 0 0 cap02.length)),(1,(aI a2)),(2,(aI b2)),(3,(aI limit2)),(8,(aB wasBalanced)),(9,(aB wasPartitioned))],[(0,aO 1 cI 0 cap02)],1⟩
def g_slices_pdqsortOrdered_int_J2_H (N:Nat) (a2:Int) (b2:Int) (wasBalanced:Bool) (wasPartitioned:Bool) (K:(List Int)→Int→Option ((List Int))):Prop:=∀ (cap03:List Int) (limit3:Int) (r:(List Int)),K cap03 limit3=some r→∀ E,EnvOk E 1→Runs Try.prog E 98 134 (SPost E [(0,aO 1 cI 0 r)] (.tup [])) [.code (C_29 1822),.code (C_29 1823),.inBlock 1,.inLoop (C_29 28),.inBlock 0] ⟨[(0,(.os 0 0 cap03.length)),(1,(aI a2)),(2,(aI b2)),(3,(aI limit3)),(8,(aB wasBalanced)),(9,(aB wasPartitioned)),(10,(aI (w64 (b2 - a2))))],[(0,aO 1 cI 0 cap03)],1⟩
def g_slices_pdqsortOrdered_int_J3_H (N:Nat) (a2:Int) (b2:Int) (wasBalanced:Bool) (wasPartitioned:Bool) (limit3:Int) (K:(List Int)→Int→Int→Option ((List Int))):Prop:=∀ (cap04:List Int) (pivot:Int) (hint:Int) (r:(List Int)),K cap04 pivot hint=some r→∀ E,EnvOk E 1→Runs Try.prog E 98 134 (SPost E [(0,aO 1 cI 0 r)] (.tup [])) [.code (C_29 14588),.code (C_29 14589),.code (C_29 7295),.inBlock 1,.inLoop (C_29 28),.inBlock 0] ⟨[(0,(.os 0 0 cap04.length)),(1,(aI a2)),(2,(aI b2)),(3,(aI limit3)),(8,(aB wasBalanced)),(9,(aB wasPartitioned)),(10,(aI (w64 (b2 - a2)))),(11,(aI pivot)),(12,(aI hint))],[(0,aO 1 cI 0 cap04)],1⟩
def g_slices_pdqsortOrdered_int_J4_H (N:Nat) (a2:Int) (b2:Int) (wasBalanced:Bool) (wasPartitioned:Bool) (limit3:Int) (pivot:Int) (K:(List Int)→Option ((List Int))):Prop:=∀ (cap05:List Int) (r:(List Int)),K cap05=some r→∀ E,EnvOk E 1→Runs Try.prog E 98 134 (SPost E [(0,aO 1 cI 0 r)] (.tup [])) [.code (C_29 29180),.code (C_29 29181),.code (C_29 14591),.inBlock 1,.inLoop (C_29 28),.inBlock 0] ⟨[(0,(.os 0 0 cap05.length)),(1,(aI a2)),(2,(aI b2)),(3,(aI limit3)),(8,(aB wasBalanced)),(9,(aB wasPartitioned)),(10,(aI (w64 (b2 - a2)))),(11,(aI pivot))],[(0,aO 1 cI 0 cap05)],1⟩
theorem g_slices_pdqsortOrdered_int_J4_ok (N:Nat) (a2:Int) (b2:Int) (wasBalanced:Bool) (wasPartitioned:Bool) (limit3:Int) (pivot:Int) (R_:Int→Int→Int→(List Int)→Option ((List Int))) (K_g_slices_pdqsortOrdered_int_L1:(List Int)→Int→Int→Int→Bool→Bool→Option ((List Int)))
  (hR_:∀ (a:Int) (b:Int) (limit:Int) (cap0:List Int) (r:(List Int)),R_ a b limit cap0=some r→Sound Try.prog 98 [(.os 0 0 cap0.length),(aI a),(aI b),(aI limit)] [(0,aO 1 cI 0 cap0)] 1 (.tup []) [(0,aO 1 cI 0 r)]) (hK_g_slices_pdqsortOrdered_int_L1:g_slices_pdqsortOrdered_int_L1_H N K_g_slices_pdqsortOrdered_int_L1):g_slices_pdqsortOrdered_int_J4_H N a2 b2 wasBalanced wasPartitioned limit3 pivot (g_slices_pdqsortOrdered_int_J4 N a2 b2 wasBalanced wasPartitioned limit3 pivot R_ K_g_slices_pdqsortOrdered_int_L1):=by
 intro cap05 r h E hE
 unfold g_slices_pdqsortOrdered_int_J4 at h
 obtain ⟨c6,h⟩:=ifSome h
 obtain ⟨c7,h⟩:=ifSome h
 obtain ⟨rLess,hr7,h⟩:=bindSome h
 refine Runs.nR hE 0 [(12,⟨[],true,(aB rLess),[],0,false,none⟩)] [] (kp [0,1,2,3,8,9,10,11,87]) (kq [0]) 241 (pc (fun hg:(decide (a2 > 0))=true=>(pc hg pn)) (pc (fun hg:(decide (a2 > 0))=true=>(pc hg (pc hg (pc (c6 hg) pn)))) (pc (fun hg:(decide (a2 > 0))=true=>(pc hg (pc (ltOf (c6 hg)) pn))) (pc (fun hg:(decide (a2 > 0))=true=>(pc hg (pc hg (pc (c7 hg) pn)))) (pc (fun hg:(decide (a2 > 0))=true=>(pc hg (pc (ltOf (c7 hg)) pn))) (pc (fun hg:(decide (a2 > 0))=true=>(pc (g_cmp_Less_int_ok N (cap05.getD ((w64 (a2 - 1)).toNat) 0) (cap05.getD ((pivot).toNat) 0) rLess (condT hr7 hg)) (pc hg (pc hg pn)))) (pc (fun hg:(decide (a2 > 0))=true=>(pc hg pn)) (pc (fun hq:(decide (a2 > 0))=true=>(pc hq pn)) pn)))))))) ?_
 refine Runs.nC 0 87 h (fun hq8 h=>?_) (fun hq8 h=>?_)
 ·obtain ⟨rpartitionEqu,hr8,h⟩:=bindSome h
  obtain ⟨c8,h⟩:=ifSome h
  refine Runs.nR hE 1 [(4,⟨[0],false,(aI rpartitionEqu.1),[(0,aO 1 cI 0 rpartitionEqu.2)],0,false,none⟩)] [] ([(0,.osl (rpartitionEqu.2.length))] ++ kp [2,3,8,9,13]) (kq [0]) 337 (pc (g_slices_partitionEqualOrdered_int_ok N a2 b2 pivot cap05 rpartitionEqu hr8) (pc (show cap05.length=rpartitionEqu.2.length from (Eq.symm c8)) pn)) ?_
  refine Runs.nR hE 1 [] [] (kp [0,1,2,3,8,9]) (kq [0]) 369 pn ?_
  exact Runs.nW hE 2 [] (kp [0,1,2,3,8,9]) (kq [0]) 1 pn (hK_g_slices_pdqsortOrdered_int_L1 _ _ _ _ _ _ _ h E hE)
 ·obtain ⟨rpartitionOrd,hr9,h⟩:=bindSome h
  obtain ⟨c9,h⟩:=ifSome h
  refine Runs.nR hE 2 [(4,⟨[0],false,(.tup [(aI rpartitionOrd.1),(aB rpartitionOrd.2.1)]),[(0,aO 1 cI 0 rpartitionOrd.2.2)],0,false,none⟩)] [] ([(0,.osl (rpartitionOrd.2.2.length))] ++ kp [1,2,3,10,14,15]) (kq [0]) 401 (pc (g_slices_partitionOrdered_int_ok N a2 b2 pivot cap05 rpartitionOrd hr9) (pc (show cap05.length=rpartitionOrd.2.2.length from (Eq.symm c9)) pn)) ?_
  refine Runs.nR hE 1 [] [] (kp [0,1,2,3,9,10,14]) (kq [0]) 433 pn ?_
  refine Runs.nR hE 1 [] [] (kp [0,1,2,3,9,10,14,16,17]) (kq [0]) 561 pn ?_
  refine Runs.nR hE 1 [] [] (kp [0,1,2,3,9,14,16,17,18]) (kq [0]) 609 (pc (show (8:Int)≠0 by decide) pn) ?_
  refine Runs.nR hE 1 [] [] (kp [0,1,2,3,9,14,16,17,18,113]) (kq [0]) 657 pn ?_
  refine Runs.nC 0 113 h (fun hq9 h=>?_) (fun hq9 h=>?_)
  ·refine Runs.nR hE 1 [] [] (kp [0,1,2,3,8,9,14]) (kq [0]) 721 pn ?_
   obtain ⟨rpdqsortOrder,hr10,h⟩:=bindSome h
   obtain ⟨c10,h⟩:=ifSome h
   refine Runs.nR hE 1 [(4,⟨[0],false,(.tup []),[(0,aO 1 cI 0 rpdqsortOrder)],0,false,none⟩)] [] ([(0,.osl (rpdqsortOrder.length))] ++ kp [2,3,8,9,14]) (kq [0]) 801 (pc (show Sound Try.prog 98 [(.os 0 0 rpartitionOrd.2.2.length),(aI a2),(aI rpartitionOrd.1),(aI limit3)] [(0,aO 1 cI 0 rpartitionOrd.2.2)] 1 (.tup []) [(0,aO 1 cI 0 rpdqsortOrder)] from (hR_ a2 rpartitionOrd.1 limit3 rpartitionOrd.2.2 rpdqsortOrder hr10)) (pc (show rpartitionOrd.2.2.length=rpdqsortOrder.length from (Eq.symm c10)) pn)) ?_
   refine Runs.nR hE 0 [] [] (kp [0,1,2,3,8,9]) (kq [0]) 849 pn ?_
   exact Runs.nW hE 2 [] (kp [0,1,2,3,8,9]) (kq [0]) 1 pn (hK_g_slices_pdqsortOrdered_int_L1 _ _ _ _ _ _ _ h E hE)
  ·refine Runs.nR hE 1 [] [] (kp [0,1,2,3,8,9,14]) (kq [0]) 721 pn ?_
   obtain ⟨rpdqsortOrder2,hr11,h⟩:=bindSome h
   obtain ⟨c11,h⟩:=ifSome h
   refine Runs.nR hE 1 [(5,⟨[0],false,(.tup []),[(0,aO 1 cI 0 rpdqsortOrder2)],0,false,none⟩)] [] ([(0,.osl (rpdqsortOrder2.length))] ++ kp [1,3,8,9,14]) (kq [0]) 817 (pc (show Sound Try.prog 98 [(.os 0 0 rpartitionOrd.2.2.length),(aI (w64 (rpartitionOrd.1+1))),(aI b2),(aI limit3)] [(0,aO 1 cI 0 rpartitionOrd.2.2)] 1 (.tup []) [(0,aO 1 cI 0 rpdqsortOrder2)] from (hR_ (w64 (rpartitionOrd.1+1)) b2 limit3 rpartitionOrd.2.2 rpdqsortOrder2 hr11)) (pc (show rpartitionOrd.2.2.length=rpdqsortOrder2.length from (Eq.symm c11)) pn)) ?_
   refine Runs.nR hE 0 [] [] (kp [0,1,2,3,8,9]) (kq [0]) 849 pn ?_
   exact Runs.nW hE 2 [] (kp [0,1,2,3,8,9]) (kq [0]) 1 pn (hK_g_slices_pdqsortOrdered_int_L1 _ _ _ _ _ _ _ h E hE)
theorem g_slices_pdqsortOrdered_int_J3_ok (N:Nat) (a2:Int) (b2:Int) (wasBalanced:Bool) (wasPartitioned:Bool) (limit3:Int) (R_:Int→Int→Int→(List Int)→Option ((List Int))) (K_g_slices_pdqsortOrdered_int_L1:(List Int)→Int→Int→Int→Bool→Bool→Option ((List Int)))
  (hR_:∀ (a:Int) (b:Int) (limit:Int) (cap0:List Int) (r:(List Int)),R_ a b limit cap0=some r→Sound Try.prog 98 [(.os 0 0 cap0.length),(aI a),(aI b),(aI limit)] [(0,aO 1 cI 0 cap0)] 1 (.tup []) [(0,aO 1 cI 0 r)]) (hK_g_slices_pdqsortOrdered_int_L1:g_slices_pdqsortOrdered_int_L1_H N K_g_slices_pdqsortOrdered_int_L1):g_slices_pdqsortOrdered_int_J3_H N a2 b2 wasBalanced wasPartitioned limit3 (g_slices_pdqsortOrdered_int_J3 N a2 b2 wasBalanced wasPartitioned limit3 R_ K_g_slices_pdqsortOrdered_int_L1):=by
 intro cap04 pivot hint r h E hE
 unfold g_slices_pdqsortOrdered_int_J3 at h
 refine Runs.nR hE 0 [] [] (kp [0,1,2,3,8,9,10,11,68]) (kq [0]) 129 (pc (fun hq:wasBalanced=true=>(pc hq pn)) (pc (fun hg:(cond wasBalanced wasPartitioned false)=true=>(pc hg pn)) (pc (fun hq:(cond wasBalanced wasPartitioned false)=true=>(pc hq pn)) pn))) ?_
 refine Runs.nC 0 68 h (fun hq6 h=>?_) (fun hq6 h=>?_)
 ·obtain ⟨rpartialInser,hr6,h⟩:=bindSome h
  obtain ⟨c5,h⟩:=ifSome h
  refine Runs.nR hE 1 [(3,⟨[0],false,(aB rpartialInser.1),[(0,aO 1 cI 0 rpartialInser.2)],0,false,none⟩)] [] ([(0,.osl (rpartialInser.2.length))] ++ kp [1,2,3,8,9,10,11,72]) (kq [0]) 193 (pc (g_slices_partialInsertionSortOrdered_int_ok N a2 b2 cap04 rpartialInser hr6) (pc (show cap04.length=rpartialInser.2.length from (Eq.symm c5)) pn)) ?_
  refine Runs.nC 0 72 h (fun hq7 h=>?_) (fun hq7 h=>?_)
  ·obtain rfl:=Option.some.inj h
   exact Runs.nT hE 0 Try.f98 [] [] (kq [0]) 193 pn [] pn
  ·exact Runs.nW hE 3 [] (kp [0,1,2,3,8,9,10,11]) (kq [0]) 1 pn (g_slices_pdqsortOrdered_int_J4_ok N _ _ _ _ _ _ _ _ hR_ hK_g_slices_pdqsortOrdered_int_L1 _ _ h E hE)
 ·exact Runs.nW hE 3 [] (kp [0,1,2,3,8,9,10,11]) (kq [0]) 1 pn (g_slices_pdqsortOrdered_int_J4_ok N _ _ _ _ _ _ _ _ hR_ hK_g_slices_pdqsortOrdered_int_L1 _ _ h E hE)
theorem g_slices_pdqsortOrdered_int_J2_ok (N:Nat) (a2:Int) (b2:Int) (wasBalanced:Bool) (wasPartitioned:Bool) (R_:Int→Int→Int→(List Int)→Option ((List Int))) (K_g_slices_pdqsortOrdered_int_L1:(List Int)→Int→Int→Int→Bool→Bool→Option ((List Int)))
  (hR_:∀ (a:Int) (b:Int) (limit:Int) (cap0:List Int) (r:(List Int)),R_ a b limit cap0=some r→Sound Try.prog 98 [(.os 0 0 cap0.length),(aI a),(aI b),(aI limit)] [(0,aO 1 cI 0 cap0)] 1 (.tup []) [(0,aO 1 cI 0 r)]) (hK_g_slices_pdqsortOrdered_int_L1:g_slices_pdqsortOrdered_int_L1_H N K_g_slices_pdqsortOrdered_int_L1):g_slices_pdqsortOrdered_int_J2_H N a2 b2 wasBalanced wasPartitioned (g_slices_pdqsortOrdered_int_J2 N a2 b2 wasBalanced wasPartitioned R_ K_g_slices_pdqsortOrdered_int_L1):=by
 intro cap03 limit3 r h E hE
 unfold g_slices_pdqsortOrdered_int_J2 at h
 obtain ⟨rchoosePivotO,hr4,h⟩:=bindSome h
 refine Runs.nR hE 0 [(3,⟨[],true,(.tup [(aI rchoosePivotO.1),(aI rchoosePivotO.2)]),[],0,false,none⟩)] [] (kp [0,1,2,3,8,9,10,11,12]) (kq [0]) 145 (pc (g_slices_choosePivotOrdered_int_ok N cap03 a2 b2 rchoosePivotO hr4) (pc (z1 cap03.length) pn)) ?_
 refine Runs.nR hE 2 [] [] (kp [0,1,2,3,8,9,10,11,12,50]) (kq [0]) 177 pn ?_
 refine Runs.nC 0 50 h (fun hq5 h=>?_) (fun hq5 h=>?_)
 ·obtain ⟨rreverseRange,hr5,h⟩:=bindSome h
  obtain ⟨c4,h⟩:=ifSome h
  refine Runs.nR hE 1 [(3,⟨[0],false,(.tup []),[(0,aO 1 cI 0 rreverseRange)],0,false,none⟩)] [] ([(0,.osl (rreverseRange.length))] ++ kp [1,2,3,8,9,10,11]) (kq [0]) 241 (pc (g_slices_reverseRangeOrdered_int_ok N a2 b2 cap03 rreverseRange hr5) (pc (show cap03.length=rreverseRange.length from (Eq.symm c4)) pn)) ?_
  refine Runs.nR hE 1 [] [] (kp [0,1,2,3,8,9,10,11]) (kq [0]) 353 pn ?_
  refine Runs.nR hE 0 [] [] (kp [0,1,2,3,8,9,10,11,12]) (kq [0]) 369 pn ?_
  exact Runs.nW hE 2 [] (kp [0,1,2,3,8,9,10,11,12]) (kq [0]) 1 pn (g_slices_pdqsortOrdered_int_J3_ok N _ _ _ _ _ _ _ hR_ hK_g_slices_pdqsortOrdered_int_L1 _ _ _ _ h E hE)
 ·exact Runs.nW hE 3 [] (kp [0,1,2,3,8,9,10,11,12]) (kq [0]) 1 pn (g_slices_pdqsortOrdered_int_J3_ok N _ _ _ _ _ _ _ hR_ hK_g_slices_pdqsortOrdered_int_L1 _ _ _ _ h E hE)
theorem g_slices_pdqsortOrdered_int_L1_ok (N:Nat) (R_:Int→Int→Int→(List Int)→Option ((List Int)))
  (hR_:∀ (a:Int) (b:Int) (limit:Int) (cap0:List Int) (r:(List Int)),R_ a b limit cap0=some r→Sound Try.prog 98 [(.os 0 0 cap0.length),(aI a),(aI b),(aI limit)] [(0,aO 1 cI 0 cap0)] 1 (.tup []) [(0,aO 1 cI 0 r)]) (fuel:Nat):g_slices_pdqsortOrdered_int_L1_H N (g_slices_pdqsortOrdered_int_L1 N R_ fuel):=by
 induction fuel with
 | zero=>intro _ _ _ _ _ _ r h;rw [g_slices_pdqsortOrdered_int_L1.eq_1] at h;cases h
 | succ fuel ih =>
  intro cap02 a2 b2 limit2 wasBalanced wasPartitioned r h E hE
  rw [g_slices_pdqsortOrdered_int_L1.eq_2] at h
  refine Runs.nR hE 2 [] [] (kp [0,1,2,3,8,9,10]) (kq [0]) 65 pn ?_
  refine Runs.nR hE 2 [] [] (kp [0,1,2,3,8,9,10,23]) (kq [0]) 97 pn ?_
  refine Runs.nC 0 23 h (fun hq2 h=>?_) (fun hq2 h=>?_)
  ·obtain ⟨rinsertionSor,hr,h⟩:=bindSome h
   obtain ⟨c,h⟩:=ifSome h
   refine Runs.nR hE 1 [(3,⟨[0],false,(.tup []),[(0,aO 1 cI 0 rinsertionSor)],0,false,none⟩)] [] [] (kq [0]) 161 (pc (g_slices_insertionSortOrdered_int_ok N a2 b2 cap02 rinsertionSor hr) pn) ?_
   obtain rfl:=Option.some.inj h
   exact Runs.nT hE 0 Try.f98 [] [] (kq [0]) 161 pn [] pn
  ·refine Runs.nR hE 3 [] [] (kp [0,1,2,3,8,9,10,29]) (kq [0]) 129 pn ?_
   refine Runs.nC 0 29 h (fun hq3 h=>?_) (fun hq3 h=>?_)
   ·obtain ⟨rheapSortOrde,hr2,h⟩:=bindSome h
    obtain ⟨c2,h⟩:=ifSome h
    refine Runs.nR hE 1 [(3,⟨[0],false,(.tup []),[(0,aO 1 cI 0 rheapSortOrde)],0,false,none⟩)] [] [] (kq [0]) 193 (pc (g_slices_heapSortOrdered_int_ok N a2 b2 cap02 rheapSortOrde hr2) pn) ?_
    obtain rfl:=Option.some.inj h
    exact Runs.nT hE 0 Try.f98 [] [] (kq [0]) 193 pn [] pn
   ·refine Runs.nR hE 3 [] [] (kp [0,1,2,3,8,9,10,35]) (kq [0]) 161 pn ?_
    refine Runs.nC 0 35 h (fun hq4 h=>?_) (fun hq4 h=>?_)
    ·obtain ⟨rbreakPattern,hr3,h⟩:=bindSome h
     obtain ⟨c3,h⟩:=ifSome h
     refine Runs.nR hE 1 [(3,⟨[0],false,(.tup []),[(0,aO 1 cI 0 rbreakPattern)],0,false,none⟩)] [] ([(0,.osl (rbreakPattern.length))] ++ kp [1,2,3,8,9,10]) (kq [0]) 225 (pc (g_slices_breakPatternsOrdered_int_ok N a2 b2 cap02 rbreakPattern hr3) (pc (show cap02.length=rbreakPattern.length from (Eq.symm c3)) pn)) ?_
     refine Runs.nR hE 0 [] [] (kp [0,1,2,3,8,9,10]) (kq [0]) 273 pn ?_
     exact Runs.nW hE 1 [] (kp [0,1,2,3,8,9,10]) (kq [0]) 1 pn (g_slices_pdqsortOrdered_int_J2_ok N _ _ _ _ _ _ hR_ ih _ _ _ h E hE)
    ·exact Runs.nW hE 2 [] (kp [0,1,2,3,8,9,10]) (kq [0]) 1 pn (g_slices_pdqsortOrdered_int_J2_ok N _ _ _ _ _ _ hR_ ih _ _ _ h E hE)
theorem g_slices_pdqsortOrdered_int_ok (N:Nat) (fuel:Nat):∀ (a:Int) (b:Int) (limit:Int) (cap0:List Int) (r:(List Int)),g_slices_pdqsortOrdered_int N fuel a b limit cap0=some r→Sound Try.prog 98 [(.os 0 0 cap0.length),(aI a),(aI b),(aI limit)] [(0,aO 1 cI 0 cap0)] 1 (.tup []) [(0,aO 1 cI 0 r)]:=by
 induction fuel with
 | zero=>intro _ _ _ _ r h;rw [g_slices_pdqsortOrdered_int.eq_1] at h;cases h
 | succ fuel ih =>
  intro a b limit cap0 r h
  rw [g_slices_pdqsortOrdered_int.eq_2] at h
  refine Sound.of_runs (fu:=Try.f98) (c:=C_29 1) (nt:=134) (by kernel_rfl) (by kernel_rfl) (by kernel_rfl) (by kernel_rfl) (fun hm=>absurd hm (by decide)) ?_
  intro E hE
  refine Runs.nR hE 1 [] [] (kp [0,1,2,3,8]) (kq [0]) 17 pn ?_
  refine Runs.nR hE 1 [] [] (kp [0,1,2,3,8,9]) (kq [0]) 33 pn ?_
  exact Runs.nW hE 2 [] (kp [0,1,2,3,8,9]) (kq [0]) 1 pn (g_slices_pdqsortOrdered_int_L1_ok N _ ih N _ _ _ _ _ _ _ h E hE)
noncomputable def C_26 (n:Nat):Code:=cat (bodyOf Try.f63) (pth n)
theorem g_slices_Sort_int_int_ok (N:Nat) (cap0:List Int) (r:(List Int)) (h:g_slices_Sort_int_int N cap0=some r):Sound Try.prog 63 [(.os 0 0 cap0.length)] [(0,aO 1 cI 0 cap0)] 1 (.tup []) [(0,aO 1 cI 0 r)]:=by
 unfold g_slices_Sort_int_int at h
 refine Sound.of_runs (fu:=Try.f63) (c:=C_26 1) (nt:=11) (by kernel_rfl) (by kernel_rfl) (by kernel_rfl) (by kernel_rfl) (fun hm=>absurd hm (by decide)) ?_
 intro E hE
 refine Runs.nR hE 1 [] [] (kp [0,2]) (kq [0]) 49 pn ?_
 obtain ⟨rLen,hr,h⟩:=bindSome h
 obtain ⟨rpdqsortOrder,hr2,h⟩:=bindSome h
 obtain ⟨c,h⟩:=ifSome h
 refine Runs.nR hE 0 [(4,⟨[],true,(aI rLen),[],0,false,none⟩),(5,⟨[0],false,(.tup []),[(0,aO 1 cI 0 rpdqsortOrder)],0,false,none⟩)] [] [] (kq [0]) 145 (pc (g_math_bits_Len_ok N (IntKind.u64.wrap (((cap0.length:Nat):Int))) rLen hr) (pc (g_slices_pdqsortOrdered_int_ok N N 0 ((cap0.length:Nat):Int) rLen cap0 rpdqsortOrder hr2) pn)) ?_
 obtain rfl:=Option.some.inj h
 exact Runs.nF hE 0 Try.f63 [] [] (kq [0]) 145 pn [] pn
noncomputable def C_46 (n:Nat):Code:=cat (bodyOf Try.f64) (pth n)
def g_slices_Compact_int_int_L1_H (N:Nat) (cap0:List Int) (K:Int→Option ((List Int)×(List Int))):Prop:=∀ (k:Int) (r:(List Int)×(List Int)),K k=some r→∀ E,EnvOk E 1→Runs Try.prog E 64 61 (SPost E [(0,aO 1 cI 0 r.2)] (.os 0 0 r.2.length)) [.code (C_46 116),.inLoop (C_46 116),.inBlock 0,.code (C_46 15)] ⟨[(0,(.os 0 0 cap0.length)),(3,(aI k))],[(0,aO 1 cI 0 cap0)],1⟩
def g_slices_Compact_int_int_L2_H (N:Nat) (cap0:List Int) (k:Int) (K:(List Int)→Int→Int→Option ((List Int)×(List Int))):Prop:=∀ (cap02:List Int) (k2:Int) (k22:Int) (r:(List Int)×(List Int)),K cap02 k2 k22=some r→∀ E,EnvOk E 1→Runs Try.prog E 64 61 (SPost E [(0,aO 1 cI 0 r.2)] (.os 0 0 r.2.length)) [.code (C_46 119380),.inLoop (C_46 119380),.inBlock 2,.code (C_46 14923),.inBlock 1,.code (C_46 467),.inLoop (C_46 116),.inBlock 0,.code (C_46 15)] ⟨[(0,(.os 0 0 cap02.length)),(3,(aI k2)),(4,(.os 0 ((k).toNat) (cap0.length - (k).toNat))),(5,(aI k22))],[(0,aO 1 cI 0 cap02)],1⟩
def g_slices_Compact_int_int_J3_H (N:Nat) (cap0:List Int) (k:Int) (k22:Int) (K:(List Int)→Int→Option ((List Int)×(List Int))):Prop:=∀ (cap03:List Int) (k3:Int) (r:(List Int)×(List Int)),K cap03 k3=some r→∀ E,EnvOk E 1→Runs Try.prog E 64 61 (SPost E [(0,aO 1 cI 0 r.2)] (.os 0 0 r.2.length)) [.code (C_46 477523),.inLoop (C_46 119380),.inBlock 2,.code (C_46 14923),.inBlock 1,.code (C_46 467),.inLoop (C_46 116),.inBlock 0,.code (C_46 15)] ⟨[(0,(.os 0 0 cap03.length)),(3,(aI k3)),(4,(.os 0 ((k).toNat) (cap0.length - (k).toNat))),(5,(aI k22))],[(0,aO 1 cI 0 cap03)],1⟩
theorem g_slices_Compact_int_int_J3_ok (N:Nat) (cap0:List Int) (k:Int) (k22:Int) (K_g_slices_Compact_int_int_L2:(List Int)→Int→Int→Option ((List Int)×(List Int))) (K_g_slices_Compact_int_int_L1:Int→Option ((List Int)×(List Int))) (hK_g_slices_Compact_int_int_L2:g_slices_Compact_int_int_L2_H N cap0 k K_g_slices_Compact_int_int_L2) (hK_g_slices_Compact_int_int_L1:g_slices_Compact_int_int_L1_H N cap0 K_g_slices_Compact_int_int_L1):g_slices_Compact_int_int_J3_H N cap0 k k22 (g_slices_Compact_int_int_J3 N cap0 k k22 K_g_slices_Compact_int_int_L2 K_g_slices_Compact_int_int_L1):=by
 intro cap03 k3 r h E hE
 unfold g_slices_Compact_int_int_J3 at h
 refine Runs.nR hE 0 [] [] (kp [0,3,4,5]) (kq [0]) 49 pn ?_
 exact Runs.nW hE 1 [] (kp [0,3,4,5]) (kq [0]) 1 pn (hK_g_slices_Compact_int_int_L2 _ _ _ _ h E hE)
theorem g_slices_Compact_int_int_L2_ok (N:Nat) (cap0:List Int) (k:Int) (K_g_slices_Compact_int_int_L1:Int→Option ((List Int)×(List Int))) (hK_g_slices_Compact_int_int_L1:g_slices_Compact_int_int_L1_H N cap0 K_g_slices_Compact_int_int_L1) (fuel:Nat):g_slices_Compact_int_int_L2_H N cap0 k (g_slices_Compact_int_int_L2 N cap0 k K_g_slices_Compact_int_int_L1 fuel):=by
 induction fuel with
 | zero=>intro _ _ _ r h;rw [g_slices_Compact_int_int_L2.eq_1] at h;cases h
 | succ fuel ih =>
  intro cap02 k2 k22 r h E hE
  rw [g_slices_Compact_int_int_L2.eq_2] at h
  refine Runs.nR hE 2 [] [] (kp [0,3,4,5,32]) (kq [0]) 65 pn ?_
  refine Runs.nC 0 32 h (fun hq5 h=>?_) (fun hq5 h=>?_)
  ·obtain ⟨c5,h⟩:=ifSome h
   obtain ⟨c6,h⟩:=ifSome h
   obtain ⟨c7,h⟩:=ifSome h
   refine Runs.nR hE 4 [] [] (kp [0,3,4,5,44]) (kq [0]) 225 (pc c5 (pc (show (addz (k).toNat (k22).toNat) < cap02.length by have h1:=c5;have h2:=c6;simp only [addz_eq];omega) (pc c7 (pc (show (addz (k).toNat (w64 (k22 - 1)).toNat) < cap02.length by have h1:=c7;have h2:=c6;simp only [addz_eq];omega) pn)))) ?_
   refine Runs.nC 0 44 h (fun hq6 h=>?_) (fun hq6 h=>?_)
   ·obtain ⟨c8,h⟩:=ifSome h
    refine Runs.nR hE 1 [] [] ([(0,.osl ((cap02.set ((k2).toNat) (cap02.getD (addz (k).toNat (k22).toNat) 0)).length))] ++ kp [3,4,5]) [(0,.arr 0 ((cap02.set ((k2).toNat) (cap02.getD (addz (k).toNat (k22).toNat) 0)).length) (fun zi=>cI ((cap02.set ((k2).toNat) (cap02.getD (addz (k).toNat (k22).toNat) 0)).getD zi 0)))] 353 (pc c5 (pc (show (addz (k).toNat (k22).toNat) < cap02.length by have h1:=c5;have h2:=c6;simp only [addz_eq];omega) (pc c8 (pc (ltOf c8) (pc (len_set0 cap02 ((k2).toNat) (cap02.getD (addz (k).toNat (k22).toNat) 0)) (pc (len_set0 cap02 ((k2).toNat) (cap02.getD (addz (k).toNat (k22).toNat) 0)) (pc (get_set0 cI 0 cap02 ((k2).toNat) (cap02.getD (addz (k).toNat (k22).toNat) 0)) pn))))))) ?_
    refine Runs.nR hE 0 [] [] (kp [0,3,4,5]) (kq [0]) 401 pn ?_
    exact Runs.nW hE 1 [] (kp [0,3,4,5]) (kq [0]) 1 pn (g_slices_Compact_int_int_J3_ok N _ _ _ _ _ ih hK_g_slices_Compact_int_int_L1 _ _ _ h E hE)
   ·exact Runs.nW hE 2 [] (kp [0,3,4,5]) (kq [0]) 1 pn (g_slices_Compact_int_int_J3_ok N _ _ _ _ _ ih hK_g_slices_Compact_int_int_L1 _ _ _ h E hE)
  ·obtain ⟨c9,h⟩:=ifSome h
   obtain ⟨c10,h⟩:=ifSome h
   obtain ⟨c11,h⟩:=ifSome h
   refine Runs.nR hE 2 [(3,⟨[],false,.unk,[],0,false,none⟩)] [] (kp [0,3]) [(0,.arr 0 ((cap02.take ((k2).toNat)).length) (fun zi=>cI ((cap02.take ((k2).toNat)).getD zi 0)))] 129 (pc c9 (pc c10 (pc c11 (pc (show (k2).toNat=(cap02.take ((k2).toNat)).length from (len_tk c11)) (pc (show ∀ zi,zi < (cap02.take ((k2).toNat)).length→(fun zi=>cI ((cap02.take ((k2).toNat)).getD zi 0)) zi=(fun zi=>cI (cap02.getD zi 0)) zi from (fun zq hzq=>get_tk cI 0 cap02 ((k2).toNat) zq hzq)) pn))))) ?_
   obtain ⟨c12,h⟩:=ifSome h
   refine Runs.nR hE 1 [] [] [(2,.osl ((cap02.take ((k2).toNat)).length))] (kq [0]) 193 (pc c12 (pc c10 (pc (show ((k2).toNat - 0)=(cap02.take ((k2).toNat)).length from (len_tk c11)) pn))) ?_
   obtain rfl:=Option.some.inj h
   exact Runs.nT hE 0 Try.f64 [] (kp [2]) (kq [0]) 193 pn [] pn
theorem g_slices_Compact_int_int_L1_ok (N:Nat) (cap0:List Int) (fuel:Nat):g_slices_Compact_int_int_L1_H N cap0 (g_slices_Compact_int_int_L1 N cap0 fuel):=by
 induction fuel with
 | zero=>intro _ r h;rw [g_slices_Compact_int_int_L1.eq_1] at h;cases h
 | succ fuel ih =>
  intro k r h E hE
  rw [g_slices_Compact_int_int_L1.eq_2] at h
  refine Runs.nR hE 2 [] [] (kp [0,3,13]) (kq [0]) 65 pn ?_
  refine Runs.nC 0 13 h (fun hq3 h=>?_) (fun hq3 h=>?_)
  ·obtain ⟨c,h⟩:=ifSome h
   obtain ⟨c2,h⟩:=ifSome h
   refine Runs.nR hE 4 [] [] (kp [0,3,25]) (kq [0]) 225 (pc c (pc (ltOf c) (pc c2 (pc (ltOf c2) pn)))) ?_
   refine Runs.nC 0 25 h (fun hq4 h=>?_) (fun hq4 h=>?_)
   ·obtain ⟨c3,h⟩:=ifSome h
    obtain ⟨c4,h⟩:=ifSome h
    refine Runs.nR hE 1 [] [] (kp [0,3,4]) (kq [0]) 289 (pc c3 (pc c4 pn)) ?_
    refine Runs.nR hE 2 [] [] (kp [0,3,4,5]) (kq [0]) 305 pn ?_
    exact Runs.nW hE 2 [] (kp [0,3,4,5]) (kq [0]) 1 pn (g_slices_Compact_int_int_L2_ok N _ _ _ ih N _ _ _ _ h E hE)
   ·refine Runs.nR hE 2 [] [] (kp [0,3]) (kq [0]) 273 pn ?_
    exact Runs.nW hE 1 [] (kp [0,3]) (kq [0]) 1 pn (ih _ _ h E hE)
  ·refine Runs.nR hE 2 [] [] (kp [2]) (kq [0]) 97 pn ?_
   obtain rfl:=Option.some.inj h
   exact Runs.nT hE 0 Try.f64 [] (kp [2]) (kq [0]) 97 pn [] pn
theorem g_slices_Compact_int_int_ok (N:Nat) (cap0:List Int) (r:(List Int)×(List Int)) (h:g_slices_Compact_int_int N cap0=some r):Sound Try.prog 64 [(.os 0 0 cap0.length)] [(0,aO 1 cI 0 cap0)] 1 (.os 0 0 r.2.length) [(0,aO 1 cI 0 r.2)]:=by
 unfold g_slices_Compact_int_int at h
 refine Sound.of_runs (fu:=Try.f64) (c:=C_46 1) (nt:=61) (by kernel_rfl) (by kernel_rfl) (by kernel_rfl) (by kernel_rfl) (fun hm=>absurd hm (by decide)) ?_
 intro E hE
 refine Runs.nR hE 1 [] [] (kp [0]) (kq [0]) 17 pn ?_
 refine Runs.nR hE 2 [] [] (kp [0,8]) (kq [0]) 65 pn ?_
 refine Runs.nC 0 8 h (fun hq2 h=>?_) (fun hq2 h=>?_)
 ·refine Runs.nR hE 1 [] [] (kp [2]) (kq [0]) 97 pn ?_
  obtain rfl:=Option.some.inj h
  exact Runs.nT hE 0 Try.f64 [] (kp [2]) (kq [0]) 97 pn [] pn
 ·refine Runs.nR hE 3 [] [] (kp [0,3]) (kq [0]) 81 pn ?_
  exact Runs.nW hE 2 [] (kp [0,3]) (kq [0]) 1 pn (g_slices_Compact_int_int_L1_ok N _ N _ _ h E hE)
noncomputable def C_25 (n:Nat):Code:=cat (bodyOf Try.f32) (pth n)
def g_berth_sums_L1_H (N:Nat) (sizes:List Int) (but:Int) (gap:Int) (K:(List Int)→Int→Option ((List Int))):Prop:=∀ (out:List Int) (x:Int) (r:(List Int)),K out x=some r→∀ E,EnvOk E 0→Runs Try.prog E 32 44 (SPost E [(0,aO 1 cI 0 r)] (.os 0 0 r.length)) [.code (C_25 116),.inLoop (C_25 116),.inBlock 0,.code (C_25 15)] ⟨[(1,(aI but)),(2,(aI gap)),(7,(.os 0 0 out.length)),(14,(encL cI 0 sizes)),(15,(aI ((sizes.length:Nat):Int))),(16,(aI x))],[(0,aO 1 cI 0 out)],1⟩
def g_berth_sums_J2_H (N:Nat) (sizes:List Int) (but:Int) (gap:Int) (x:Int) (K:(List Int)→Option ((List Int))):Prop:=∀ (out2:List Int) (r:(List Int)),K out2=some r→∀ E,EnvOk E 0→Runs Try.prog E 32 44 (SPost E [(0,aO 1 cI 0 r)] (.os 0 0 r.length)) [.code (C_25 935),.inLoop (C_25 116),.inBlock 0,.code (C_25 15)] ⟨[(1,(aI but)),(2,(aI gap)),(7,(.os 0 0 out2.length)),(14,(encL cI 0 sizes)),(15,(aI ((sizes.length:Nat):Int))),(16,(aI x))],[(0,aO 1 cI 0 out2)],1⟩
theorem g_berth_sums_J2_ok (N:Nat) (sizes:List Int) (but:Int) (gap:Int) (x:Int) (K_g_berth_sums_L1:(List Int)→Int→Option ((List Int))) (hK_g_berth_sums_L1:g_berth_sums_L1_H N sizes but gap K_g_berth_sums_L1):g_berth_sums_J2_H N sizes but gap x (g_berth_sums_J2 N sizes but gap x K_g_berth_sums_L1):=by
 intro out2 r h E hE
 unfold g_berth_sums_J2 at h
 refine Runs.nR hE 0 [] [] (kp [1,2,7,14,15,16]) (kq [0]) 33 pn ?_
 exact Runs.nW hE 1 [] (kp [1,2,7,14,15,16]) (kq [0]) 1 pn (hK_g_berth_sums_L1 _ _ _ h E hE)
def g_berth_sums_L3_H (N:Nat) (sizes:List Int) (but:Int) (gap:Int) (out:List Int) (x:Int) (K:(List Int)→Nat→Int→Option ((List Int))):Prop:=∀ (out3:List Int) (xn:Nat) (x2:Int) (r:(List Int)),K out3 xn x2=some r→∀ E,EnvOk E 0→Runs Try.prog E 32 44 (SPost E [(0,aO 1 cI 0 r)] (.os 0 0 r.length)) [.code (C_25 59804),.inLoop (C_25 59804),.inBlock 2,.inBlock 1,.code (C_25 935),.inLoop (C_25 116),.inBlock 0,.code (C_25 15)] ⟨[(1,(aI but)),(2,(aI gap)),(7,(.os 0 0 out3.length)),(9,(aI (sizes.getD ((x).toNat) 0))),(14,(encL cI 0 sizes)),(15,(aI ((sizes.length:Nat):Int))),(16,(aI x)),(24,(.os 0 0 xn)),(25,(aI ((out.length:Nat):Int))),(26,(aI x2))],[(0,aO 1 cI 0 out3)],1⟩
theorem g_berth_sums_L3B_ok (N:Nat) (sizes:List Int) (but:Int) (gap:Int) (out:List Int) (x:Int) (K_g_berth_sums_L1:(List Int)→Int→Option ((List Int))) (hK_g_berth_sums_L1:g_berth_sums_L1_H N sizes but gap K_g_berth_sums_L1) (fuel:Nat) :
  ∀ (out3 rt:List Int) (xn:Nat) (x2:Int) (r:List Int),xn≤rt.length→(∀ j,j < xn→out3.getD j 0=rt.getD j 0)→g_berth_sums_L3 N sizes but gap out x K_g_berth_sums_L1 fuel out3 xn x2=some r→∀ E,EnvOk E 0 →
  Runs Try.prog E 32 44 (SPost E [(0,aO 1 cI 0 r)] (.os 0 0 r.length)) [.code (C_25 59804),.inLoop (C_25 59804),.inBlock 2,.inBlock 1,.code (C_25 935),.inLoop (C_25 116),.inBlock 0,.code (C_25 15)] ⟨[(1,(aI but)),(2,(aI gap)),(7,(.os 0 0 out3.length)),(9,(aI (sizes.getD ((x).toNat) 0))),(14,(encL cI 0 sizes)),(15,(aI ((sizes.length:Nat):Int))),(16,(aI x)),(24,(.os 1 0 xn)),(25,(aI ((out.length:Nat):Int))),(26,(aI x2))],[(0,aO 1 cI 0 out3),(1,aO 1 cI 0 rt)],2⟩:=by
 induction fuel with
 | zero=>intro _ _ _ _ r _ _ h;rw [g_berth_sums_L3.eq_1] at h;cases h
 | succ fuel ih =>
  intro out3 rt xn x2 r hle hp h E hE
  rw [g_berth_sums_L3.eq_2] at h
  refine Runs.nR hE 1 [] [] (kp [1,2,7,9,14,15,16,24,25,26,27]) (kq [0,1]) 18 pn ?_
  refine Runs.nC 1 27 h (fun hq4 h=>?_) (fun hq4 h=>?_)
  ·obtain ⟨c2,h⟩:=ifSome h
   obtain ⟨c3,h⟩:=ifSome h
   obtain ⟨c4,h⟩:=ifSome h
   have hv:=hp x2.toNat (ltOf c2)
   generalize hL:out3 ++ ([(w64 ((w64 ((rt.getD ((x2).toNat) 0)+(sizes.getD ((x).toNat) 0)))+gap))]:List Int)=L
   rw [hv,hL] at h
   refine Runs.nR hE 4 [] [] (kp [1,2,7,9,11,14,15,16,24,25,26]) (kq [0,1]) 66 (pc c2 (pc (show (x2).toNat < rt.length by have h1:=ltOf c2;omega) pn)) ?_
   refine Runs.nR hE 0 [] [] (kp [1,2] ++ [(7,.osl L.length)] ++ kp [9,14,15,16,24,25,26]) (kq [1] ++ [(178,.arr 178 L.length (fun zi=>cI (L.getD zi 0)))]) 210 (pc (Eq.refl out3.length) (pc c4 (pc (z1 1) (pc (show ∀ zi,zi < 1→AV.oneL ((fun zi=>([[(aI (w64 ((w64 ((rt.getD ((x2).toNat) 0)+(sizes.getD ((x).toNat) 0)))+gap)))]]:List (List AV)).getD zi []) (addz 0 zi))=true from (oneN rfl)) (pc (show (out3.length+1)=L.length by rw [← hL];exact (len_app_raw rfl rfl)) (pc (show out3.length+1=L.length by rw [← hL];exact (len_app_raw rfl rfl)) (pc (show ∀ zi,zi < L.length→(fun zi=>cI (L.getD zi 0)) zi=((fun zm=>if zm < out3.length then (fun zi=>cI (out3.getD zi 0)) zm else (fun zi=>(fun zi=>([[(aI (w64 ((w64 ((rt.getD ((x2).toNat) 0)+(sizes.getD ((x).toNat) 0)))+gap)))]]:List (List AV)).getD zi []) (addz 0 zi)) (zm - out3.length))) zi by rw [← hL];exact (fun zq hzq=>get_app_raw cI 0 out3 ([(w64 ((w64 ((rt.getD ((x2).toNat) 0)+(sizes.getD ((x).toNat) 0)))+gap))]:List Int) rfl (fun _ _=>rfl) (fun zq hzq=>get_chunk cI 0 ([(w64 ((w64 ((rt.getD ((x2).toNat) 0)+(sizes.getD ((x).toNat) 0)))+gap))]:List Int) zq hzq) zq hzq)) pn))))))) ?_
   refine Runs.nR hE 1 [] [] (kp [1,2,7,9,14,15,16,24,25,26]) (kq [1,178]) 242 pn ?_
   exact Runs.nW hE 1 [] (kp [1,2,7,9,14,15,16,24,25,26]) [(0,.keep 178),(1,.keep 1)] 2 pn (ih L rt xn _ _ hle (fun j hj=>by rw [← hL,List.getD_eq_getElem?_getD,List.getElem?_append_left (by omega),← List.getD_eq_getElem?_getD];exact hp j hj) h E hE)
  ·exact Runs.nW hE 2 [] (kp [1,2,7,14,15,16]) (kq [0]) 1 pn (g_berth_sums_J2_ok N _ _ _ _ _ hK_g_berth_sums_L1 _ _ h E hE)
theorem g_berth_sums_L3S_ok (N:Nat) (sizes:List Int) (but:Int) (gap:Int) (out:List Int) (x:Int) (K_g_berth_sums_L1:(List Int)→Int→Option ((List Int))) (hK_g_berth_sums_L1:g_berth_sums_L1_H N sizes but gap K_g_berth_sums_L1) (fuel:Nat)
  (out3:List Int) (xn:Nat) (x2:Int) (r:List Int) (c3:0+xn≤out3.length) (c4:(out3.length+1) * 8≤140737488355328)
  (h:g_berth_sums_L3 N sizes but gap out x K_g_berth_sums_L1 fuel (out3 ++ ([(w64 ((w64 ((out3.getD ((x2).toNat) 0)+(sizes.getD ((x).toNat) 0)))+gap))]:List Int)) xn (w64 (x2+1))=some r) (E:Env) (hE:EnvOk E 0) :
  Runs Try.prog E 32 44 (SPost E [(0,aO 1 cI 0 r)] (.os 0 0 r.length)) [.code (C_25 1913753),.inBlock 3,.code (C_25 478439),.inLoop (C_25 59804),.inBlock 2,.inBlock 1,.code (C_25 935),.inLoop (C_25 116),.inBlock 0,.code (C_25 15)]
   ⟨[(7,.osf 0 out3.length),(1,(aI but)),(2,(aI gap)),(7,(.os 0 0 out3.length)),(9,(aI (sizes.getD ((x).toNat) 0))),(11,(aI (out3.getD ((x2).toNat) 0))),(14,(encL cI 0 sizes)),(15,(aI ((sizes.length:Nat):Int))),(16,(aI x)),(24,(.os 0 0 xn)),(25,(aI ((out.length:Nat):Int))),(26,(aI x2))],[(0,aO 1 cI 0 out3)],65⟩:=by
 generalize hL:out3 ++ ([(w64 ((w64 ((out3.getD ((x2).toNat) 0)+(sizes.getD ((x).toNat) 0)))+gap))]:List Int)=L at h
 refine Runs.nR hE 0 [(7,⟨[],false,.tup [],[],0,false,none⟩)] [] (kp [1,2] ++ [(7,.osl L.length)] ++ kp [9,14,15,16,24,25,26]) (kq [0] ++ [(177,.arr 177 L.length (fun zi=>cI (L.getD zi 0)))]) 209 (pc (show 0 < 1∧out3.length=out3.length from ⟨Nat.one_pos,rfl⟩) (pc c4 (pc (show ∀ zi,zi < out3.length→AV.oneL (cI (out3.getD zi 0))=true from fun _ _=>rfl) (pc (z1 1) (pc (show ∀ zi,zi < 1→AV.oneL ((fun zi=>([[(aI (w64 ((w64 ((out3.getD ((x2).toNat) 0)+(sizes.getD ((x).toNat) 0)))+gap)))]]:List (List AV)).getD zi []) (addz 0 zi))=true from (oneN rfl)) (pc (show (out3.length+1)=L.length by rw [← hL];exact (len_app_raw rfl rfl)) (pc (show out3.length+1=L.length by rw [← hL];exact (len_app_raw rfl rfl)) (pc (show ∀ zi,zi < L.length→(fun zi=>cI (L.getD zi 0)) zi=((fun zm=>if zm < out3.length then (fun zi=>cI (out3.getD zi 0)) zm else (fun zi=>(fun zi=>([[(aI (w64 ((w64 ((out3.getD ((x2).toNat) 0)+(sizes.getD ((x).toNat) 0)))+gap)))]]:List (List AV)).getD zi []) (addz 0 zi)) (zm - out3.length))) zi by rw [← hL];exact (fun zq hzq=>get_app_raw cI 0 out3 ([(w64 ((w64 ((out3.getD ((x2).toNat) 0)+(sizes.getD ((x).toNat) 0)))+gap))]:List Int) rfl (fun _ _=>rfl) (fun zq hzq=>get_chunk cI 0 ([(w64 ((w64 ((out3.getD ((x2).toNat) 0)+(sizes.getD ((x).toNat) 0)))+gap))]:List Int) zq hzq) zq hzq)) pn)))))))) ?_
 refine Runs.nR hE 1 [] [] (kp [1,2,7,9,14,15,16,24,25,26]) (kq [0,177]) 241 pn ?_
 exact Runs.nW hE 1 [] (kp [1,2,7,9,14,15,16,24,25,26]) [(0,.keep 177),(1,.keep 0)] 2 pn (g_berth_sums_L3B_ok N _ _ _ _ _ _ hK_g_berth_sums_L1 fuel L out3 xn _ _ (by omega) (fun j hj=>by rw [← hL,List.getD_eq_getElem?_getD,List.getElem?_append_left (by omega),← List.getD_eq_getElem?_getD]) h E hE)
theorem g_berth_sums_L3_ok (N:Nat) (sizes:List Int) (but:Int) (gap:Int) (out:List Int) (x:Int) (K_g_berth_sums_L1:(List Int)→Int→Option ((List Int))) (hK_g_berth_sums_L1:g_berth_sums_L1_H N sizes but gap K_g_berth_sums_L1) (fuel:Nat):g_berth_sums_L3_H N sizes but gap out x (g_berth_sums_L3 N sizes but gap out x K_g_berth_sums_L1 fuel):=by
 induction fuel with
 | zero=>intro _ _ _ r h;rw [g_berth_sums_L3.eq_1] at h;cases h
 | succ fuel ih =>
  intro out3 xn x2 r h E hE
  rw [g_berth_sums_L3.eq_2] at h
  refine Runs.nR hE 1 [] [] (kp [1,2,7,9,14,15,16,24,25,26,27]) (kq [0]) 17 pn ?_
  refine Runs.nC 1 27 h (fun hq4 h=>?_) (fun hq4 h=>?_)
  ·obtain ⟨c2,h⟩:=ifSome h
   obtain ⟨c3,h⟩:=ifSome h
   refine Runs.nR hE 4 [] [] (kp [1,2,7,9,11,14,15,16,24,25,26]) (kq [0]) 65 (pc c2 (pc (show (x2).toNat < out3.length by have h1:=c2;have h2:=c3;omega) pn)) ?_
   obtain ⟨c4,h⟩:=ifSome h
   refine Runs.sA 0 [.code (C_25 1913753),.inBlock 3,.code (C_25 478439),.inLoop (C_25 59804),.inBlock 2,.inBlock 1,.code (C_25 935),.inLoop (C_25 116),.inBlock 0,.code (C_25 15)] ?_
   refine Runs.split 7 0 out3.length (aO 1 cI 0 out3) rfl rfl rfl rfl ?_ (g_berth_sums_L3S_ok N _ _ _ _ _ _ hK_g_berth_sums_L1 fuel _ _ _ _ c3 c4 h E hE)
   refine Runs.nR hE 0 [(7,⟨[],false,.nil,[],0,false,none⟩)] [] (kp [1,2] ++ [(7,.osl ((out3 ++ ([(w64 ((w64 ((out3.getD ((x2).toNat) 0)+(sizes.getD ((x).toNat) 0)))+gap))]:List Int)).length))] ++ kp [9,14,15,16,24,25,26]) [(0,.arr 0 ((out3 ++ ([(w64 ((w64 ((out3.getD ((x2).toNat) 0)+(sizes.getD ((x).toNat) 0)))+gap))]:List Int)).length) (fun zi=>cI ((out3 ++ ([(w64 ((w64 ((out3.getD ((x2).toNat) 0)+(sizes.getD ((x).toNat) 0)))+gap))]:List Int)).getD zi 0)))] 209 (pc (show 0 < 1∧out3.length+1≤out3.length+1 from ⟨Nat.one_pos,Nat.le_refl _⟩) (pc (show ∀ zi,zi < out3.length+1→noMrL (if zi < out3.length then cI (out3.getD zi 0) else unL 1)=true from (noMr_room _ (fun _=>rfl))) (pc (z1 1) (pc (show ∀ zi,zi < 1→AV.oneL ((fun zi=>([[(aI (w64 ((w64 ((out3.getD ((x2).toNat) 0)+(sizes.getD ((x).toNat) 0)))+gap)))]]:List (List AV)).getD zi []) (addz 0 zi))=true from (oneN rfl)) (pc (show (out3.length+1)=(out3 ++ ([(w64 ((w64 ((out3.getD ((x2).toNat) 0)+(sizes.getD ((x).toNat) 0)))+gap))]:List Int)).length from (len_app_raw rfl rfl)) (pc (show out3.length+1=(out3 ++ ([(w64 ((w64 ((out3.getD ((x2).toNat) 0)+(sizes.getD ((x).toNat) 0)))+gap))]:List Int)).length from (len_app_raw rfl rfl)) (pc (show ∀ zi,zi < (out3 ++ ([(w64 ((w64 ((out3.getD ((x2).toNat) 0)+(sizes.getD ((x).toNat) 0)))+gap))]:List Int)).length→(fun zi=>cI ((out3 ++ ([(w64 ((w64 ((out3.getD ((x2).toNat) 0)+(sizes.getD ((x).toNat) 0)))+gap))]:List Int)).getD zi 0)) zi=((fun zm=>if zm < out3.length then (if zm < out3.length then cI (out3.getD zm 0) else unL 1) else if zm < out3.length+1 then (fun zi=>([[(aI (w64 ((w64 ((out3.getD ((x2).toNat) 0)+(sizes.getD ((x).toNat) 0)))+gap)))]]:List (List AV)).getD zi []) (addz 0 (zm - out3.length)) else (if zm < out3.length then cI (out3.getD zm 0) else unL 1))) zi from (fun zq hzq=>get_appR (g2:=fun zi=>([[(aI (w64 ((w64 ((out3.getD ((x2).toNat) 0)+(sizes.getD ((x).toNat) 0)))+gap)))]]:List (List AV)).getD zi []) cI 0 out3 ([(w64 ((w64 ((out3.getD ((x2).toNat) 0)+(sizes.getD ((x).toNat) 0)))+gap))]:List Int) 1 zq hzq)) pn))))))) ?_
   refine Runs.nR hE 1 [] [] (kp [1,2,7,9,14,15,16,24,25,26]) (kq [0]) 241 pn ?_
   exact Runs.nW hE 1 [] (kp [1,2,7,9,14,15,16,24,25,26]) (kq [0]) 1 pn (ih _ _ _ _ h E hE)
  ·exact Runs.nW hE 2 [] (kp [1,2,7,14,15,16]) (kq [0]) 1 pn (g_berth_sums_J2_ok N _ _ _ _ _ hK_g_berth_sums_L1 _ _ h E hE)
theorem g_berth_sums_L1_ok (N:Nat) (sizes:List Int) (but:Int) (gap:Int) (fuel:Nat):g_berth_sums_L1_H N sizes but gap (g_berth_sums_L1 N sizes but gap fuel):=by
 induction fuel with
 | zero=>intro _ _ r h;rw [g_berth_sums_L1.eq_1] at h;cases h
 | succ fuel ih =>
  intro out x r h E hE
  rw [g_berth_sums_L1.eq_2] at h
  refine Runs.nR hE 1 [] [] (kp [1,2,7,14,15,16,17]) (kq [0]) 17 pn ?_
  refine Runs.nC 1 17 h (fun hq2 h=>?_) (fun hq2 h=>?_)
  ·obtain ⟨c,h⟩:=ifSome h
   refine Runs.nR hE 4 [] [] (kp [1,2,7,8,9,14,15,16]) (kq [0]) 97 (pc c pn) ?_
   refine Runs.nR hE 2 [] [] (kp [1,2,7,9,14,15,16,23]) (kq [0]) 145 pn ?_
   refine Runs.nC 0 23 h (fun hq3 h=>?_) (fun hq3 h=>?_)
   ·exact Runs.nW hE 1 [] (kp [1,2,7,14,15,16]) (kq [0]) 1 pn (g_berth_sums_J2_ok N _ _ _ _ _ ih _ _ h E hE)
   ·refine Runs.nR hE 2 [] [] (kp [1,2,7,9,14,15,16,24,25,26]) (kq [0]) 193 pn ?_
    exact Runs.nW hE 2 [] (kp [1,2,7,9,14,15,16,24,25,26]) (kq [0]) 1 pn (g_berth_sums_L3_ok N _ _ _ _ _ _ ih N _ _ _ _ h E hE)
  ·obtain ⟨rSort,hr,h⟩:=bindSome h
   obtain ⟨c5,h⟩:=ifSome h
   refine Runs.nR hE 2 [(1,⟨[0],false,(.tup []),[(0,aO 1 cI 0 rSort)],0,false,none⟩)] [] [(7,.osl (rSort.length))] (kq [0]) 49 (pc (g_slices_Sort_int_int_ok N out rSort hr) (pc (show out.length=rSort.length from (Eq.symm c5)) pn)) ?_
   obtain ⟨rCompact,hr2,h⟩:=bindSome h
   refine Runs.nR hE 1 [(1,⟨[0],false,(.os 0 0 rCompact.2.length),[(0,aO 1 cI 0 rCompact.2)],0,false,none⟩)] [] (kp [6]) (kq [0]) 97 (pc (g_slices_Compact_int_int_ok N rSort rCompact hr2) pn) ?_
   obtain rfl:=Option.some.inj h
   exact Runs.nT hE 0 Try.f32 [] (kp [6]) (kq [0]) 97 pn [] pn
theorem g_berth_sums_ok (N:Nat) (sizes:List Int) (but:Int) (gap:Int) (r:(List Int)) (h:g_berth_sums N sizes but gap=some r):Sound Try.prog 32 [(encL cI 0 sizes),(aI but),(aI gap)] [] 0 (.os 0 0 r.length) [(0,aO 1 cI 0 r)]:=by
 unfold g_berth_sums at h
 refine Sound.of_runs (fu:=Try.f32) (c:=C_25 1) (nt:=44) (by kernel_rfl) (by kernel_rfl) (by kernel_rfl) (by kernel_rfl) (fun hm=>rfl) ?_
 intro E hE
 refine Runs.nR hE 1 [] [] (kp [0,1,2]) [] 16 pn ?_
 refine Runs.nR hE 1 [] [] (kp [0,1,2] ++ [(7,.osl (([gap]:List Int).length))]) [(32,.arr 32 (([gap]:List Int).length) (fun zi=>cI (([gap]:List Int).getD zi 0)))] 64 (pc (Eq.refl 1) (pc (Eq.refl 1) (pc (show ∀ zi,zi < ([gap]:List Int).length→(fun zi=>cI (([gap]:List Int).getD zi 0)) zi=(fun zi=>([[(aI gap)]]:List (List AV)).getD zi []) zi from (fun zq hzq=>get_chunk cI 0 ([gap]:List Int) zq hzq)) pn))) ?_
 refine Runs.nR hE 2 [] [] (kp [1,2,7,14,15,16]) (kq [32]) 112 pn ?_
 exact Runs.nW hE 2 [] (kp [1,2,7,14,15,16]) [(0,.keep 32)] 1 pn (g_berth_sums_L1_ok N _ _ _ N _ _ _ h E hE)
noncomputable def C_47 (n:Nat):Code:=cat (bodyOf Try.f33) (pth n)
theorem g_berth_inside_ok (N:Nat) (d:TDock) (b:Tberth_box) (r:Bool) (h:g_berth_inside N d b=some r):Sound Try.prog 33 [(.agg (TDock.cells d)),(.agg (Tberth_box.cells b))] [] 0 (aB r) []:=by
 unfold g_berth_inside at h
 refine Sound.of_runs (fu:=Try.f33) (c:=C_47 1) (nt:=43) (by kernel_rfl) (by kernel_rfl) (by kernel_rfl) (by kernel_rfl) (fun hm=>rfl) ?_
 intro E hE
 refine Runs.nR hE 1 [] [] (kp [2,3]) (kq [0,16]) 48 pn ?_
 refine Runs.nR hE 1 [] [] (kp [4]) [] 672 (pc o1 (pc o1 (pc (fun hg:(decide (b.f_x≥d.f_Gap))=true=>(pc hg (pc o1 pn))) (pc (fun hg:(decide (b.f_x≥d.f_Gap))=true=>(pc hg (pc o1 pn))) (pc (fun hg:(decide (b.f_x≥d.f_Gap))=true=>(pc hg (pc hg pn))) (pc (fun hq:(decide (b.f_x≥d.f_Gap))=true=>(pc hq pn)) (pc (fun hg:(cond (decide (b.f_x≥d.f_Gap)) (decide (b.f_y≥d.f_Gap)) false)=true=>(pc hg (pc o1 pn))) (pc (fun hg:(cond (decide (b.f_x≥d.f_Gap)) (decide (b.f_y≥d.f_Gap)) false)=true=>(pc hg (pc o1 pn))) (pc (fun hg:(cond (decide (b.f_x≥d.f_Gap)) (decide (b.f_y≥d.f_Gap)) false)=true=>(pc hg (pc hg pn))) (pc (fun hg:(cond (decide (b.f_x≥d.f_Gap)) (decide (b.f_y≥d.f_Gap)) false)=true=>(pc hg (pc o1 pn))) (pc (fun hg:(cond (decide (b.f_x≥d.f_Gap)) (decide (b.f_y≥d.f_Gap)) false)=true=>(pc hg (pc hg pn))) (pc (fun hg:(cond (decide (b.f_x≥d.f_Gap)) (decide (b.f_y≥d.f_Gap)) false)=true=>(pc hg (pc o1 pn))) (pc (fun hg:(cond (decide (b.f_x≥d.f_Gap)) (decide (b.f_y≥d.f_Gap)) false)=true=>(pc hg (pc hg pn))) (pc (fun hq:(cond (decide (b.f_x≥d.f_Gap)) (decide (b.f_y≥d.f_Gap)) false)=true=>(pc hq pn)) (pc (fun hg:(cond (cond (decide (b.f_x≥d.f_Gap)) (decide (b.f_y≥d.f_Gap)) false) (decide ((w64 ((w64 (b.f_x+b.f_w))+d.f_Gap))≤d.f_Length)) false)=true=>(pc hg (pc o1 pn))) (pc (fun hg:(cond (cond (decide (b.f_x≥d.f_Gap)) (decide (b.f_y≥d.f_Gap)) false) (decide ((w64 ((w64 (b.f_x+b.f_w))+d.f_Gap))≤d.f_Length)) false)=true=>(pc hg (pc o1 pn))) (pc (fun hg:(cond (cond (decide (b.f_x≥d.f_Gap)) (decide (b.f_y≥d.f_Gap)) false) (decide ((w64 ((w64 (b.f_x+b.f_w))+d.f_Gap))≤d.f_Length)) false)=true=>(pc hg (pc hg pn))) (pc (fun hg:(cond (cond (decide (b.f_x≥d.f_Gap)) (decide (b.f_y≥d.f_Gap)) false) (decide ((w64 ((w64 (b.f_x+b.f_w))+d.f_Gap))≤d.f_Length)) false)=true=>(pc hg (pc o1 pn))) (pc (fun hg:(cond (cond (decide (b.f_x≥d.f_Gap)) (decide (b.f_y≥d.f_Gap)) false) (decide ((w64 ((w64 (b.f_x+b.f_w))+d.f_Gap))≤d.f_Length)) false)=true=>(pc hg (pc hg pn))) (pc (fun hg:(cond (cond (decide (b.f_x≥d.f_Gap)) (decide (b.f_y≥d.f_Gap)) false) (decide ((w64 ((w64 (b.f_x+b.f_w))+d.f_Gap))≤d.f_Length)) false)=true=>(pc hg (pc o1 pn))) (pc (fun hg:(cond (cond (decide (b.f_x≥d.f_Gap)) (decide (b.f_y≥d.f_Gap)) false) (decide ((w64 ((w64 (b.f_x+b.f_w))+d.f_Gap))≤d.f_Length)) false)=true=>(pc hg (pc hg pn))) (pc (fun hq:(cond (cond (decide (b.f_x≥d.f_Gap)) (decide (b.f_y≥d.f_Gap)) false) (decide ((w64 ((w64 (b.f_x+b.f_w))+d.f_Gap))≤d.f_Length)) false)=true=>(pc hq pn)) pn)))))))))))))))))))))) ?_
 obtain rfl:=Option.some.inj h
 exact Runs.nT hE 0 Try.f33 [] (kp [4]) [] 672 pn [] pn
noncomputable def C_51 (n:Nat):Code:=cat (bodyOf Try.f36) (pth n)
theorem g_berth_apart_ok (N:Nat) (a:Tberth_box) (b:Tberth_box) (gap:Int) (r:Bool) (h:g_berth_apart N a b gap=some r):Sound Try.prog 36 [(.agg (Tberth_box.cells a)),(.agg (Tberth_box.cells b)),(aI gap)] [] 0 (aB r) []:=by
 unfold g_berth_apart at h
 refine Sound.of_runs (fu:=Try.f36) (c:=C_51 1) (nt:=53) (by kernel_rfl) (by kernel_rfl) (by kernel_rfl) (by kernel_rfl) (fun hm=>rfl) ?_
 intro E hE
 refine Runs.nR hE 1 [] [] (kp [2,3,4]) (kq [0,16]) 48 pn ?_
 refine Runs.nR hE 1 [] [] (kp [6]) [] 800 (pc o1 (pc o1 (pc o1 (pc (fun hg:(!(decide ((w64 ((w64 (a.f_x+a.f_w))+gap))≤b.f_x)))=true=>(pc hg (pc o1 pn))) (pc (fun hg:(!(decide ((w64 ((w64 (a.f_x+a.f_w))+gap))≤b.f_x)))=true=>(pc hg (pc o1 pn))) (pc (fun hg:(!(decide ((w64 ((w64 (a.f_x+a.f_w))+gap))≤b.f_x)))=true=>(pc hg (pc hg pn))) (pc (fun hg:(!(decide ((w64 ((w64 (a.f_x+a.f_w))+gap))≤b.f_x)))=true=>(pc hg (pc hg pn))) (pc (fun hg:(!(decide ((w64 ((w64 (a.f_x+a.f_w))+gap))≤b.f_x)))=true=>(pc hg (pc o1 pn))) (pc (fun hg:(!(decide ((w64 ((w64 (a.f_x+a.f_w))+gap))≤b.f_x)))=true=>(pc hg (pc hg pn))) (pc (fun hq:(!(decide ((w64 ((w64 (a.f_x+a.f_w))+gap))≤b.f_x)))=true=>(pc hq pn)) (pc (fun hg:(!(cond (decide ((w64 ((w64 (a.f_x+a.f_w))+gap))≤b.f_x)) true (decide ((w64 ((w64 (b.f_x+b.f_w))+gap))≤a.f_x))))=true=>(pc hg (pc o1 pn))) (pc (fun hg:(!(cond (decide ((w64 ((w64 (a.f_x+a.f_w))+gap))≤b.f_x)) true (decide ((w64 ((w64 (b.f_x+b.f_w))+gap))≤a.f_x))))=true=>(pc hg (pc o1 pn))) (pc (fun hg:(!(cond (decide ((w64 ((w64 (a.f_x+a.f_w))+gap))≤b.f_x)) true (decide ((w64 ((w64 (b.f_x+b.f_w))+gap))≤a.f_x))))=true=>(pc hg (pc hg pn))) (pc (fun hg:(!(cond (decide ((w64 ((w64 (a.f_x+a.f_w))+gap))≤b.f_x)) true (decide ((w64 ((w64 (b.f_x+b.f_w))+gap))≤a.f_x))))=true=>(pc hg (pc hg pn))) (pc (fun hg:(!(cond (decide ((w64 ((w64 (a.f_x+a.f_w))+gap))≤b.f_x)) true (decide ((w64 ((w64 (b.f_x+b.f_w))+gap))≤a.f_x))))=true=>(pc hg (pc o1 pn))) (pc (fun hg:(!(cond (decide ((w64 ((w64 (a.f_x+a.f_w))+gap))≤b.f_x)) true (decide ((w64 ((w64 (b.f_x+b.f_w))+gap))≤a.f_x))))=true=>(pc hg (pc hg pn))) (pc (fun hq:(!(cond (decide ((w64 ((w64 (a.f_x+a.f_w))+gap))≤b.f_x)) true (decide ((w64 ((w64 (b.f_x+b.f_w))+gap))≤a.f_x))))=true=>(pc hq pn)) (pc (fun hg:(!(cond (cond (decide ((w64 ((w64 (a.f_x+a.f_w))+gap))≤b.f_x)) true (decide ((w64 ((w64 (b.f_x+b.f_w))+gap))≤a.f_x))) true (decide ((w64 ((w64 (a.f_y+a.f_h))+gap))≤b.f_y))))=true=>(pc hg (pc o1 pn))) (pc (fun hg:(!(cond (cond (decide ((w64 ((w64 (a.f_x+a.f_w))+gap))≤b.f_x)) true (decide ((w64 ((w64 (b.f_x+b.f_w))+gap))≤a.f_x))) true (decide ((w64 ((w64 (a.f_y+a.f_h))+gap))≤b.f_y))))=true=>(pc hg (pc o1 pn))) (pc (fun hg:(!(cond (cond (decide ((w64 ((w64 (a.f_x+a.f_w))+gap))≤b.f_x)) true (decide ((w64 ((w64 (b.f_x+b.f_w))+gap))≤a.f_x))) true (decide ((w64 ((w64 (a.f_y+a.f_h))+gap))≤b.f_y))))=true=>(pc hg (pc hg pn))) (pc (fun hg:(!(cond (cond (decide ((w64 ((w64 (a.f_x+a.f_w))+gap))≤b.f_x)) true (decide ((w64 ((w64 (b.f_x+b.f_w))+gap))≤a.f_x))) true (decide ((w64 ((w64 (a.f_y+a.f_h))+gap))≤b.f_y))))=true=>(pc hg (pc hg pn))) (pc (fun hg:(!(cond (cond (decide ((w64 ((w64 (a.f_x+a.f_w))+gap))≤b.f_x)) true (decide ((w64 ((w64 (b.f_x+b.f_w))+gap))≤a.f_x))) true (decide ((w64 ((w64 (a.f_y+a.f_h))+gap))≤b.f_y))))=true=>(pc hg (pc o1 pn))) (pc (fun hg:(!(cond (cond (decide ((w64 ((w64 (a.f_x+a.f_w))+gap))≤b.f_x)) true (decide ((w64 ((w64 (b.f_x+b.f_w))+gap))≤a.f_x))) true (decide ((w64 ((w64 (a.f_y+a.f_h))+gap))≤b.f_y))))=true=>(pc hg (pc hg pn))) (pc (fun hq:(!(cond (cond (decide ((w64 ((w64 (a.f_x+a.f_w))+gap))≤b.f_x)) true (decide ((w64 ((w64 (b.f_x+b.f_w))+gap))≤a.f_x))) true (decide ((w64 ((w64 (a.f_y+a.f_h))+gap))≤b.f_y))))=true=>(pc hq pn)) pn)))))))))))))))))))))))) ?_
 obtain rfl:=Option.some.inj h
 exact Runs.nT hE 0 Try.f36 [] (kp [6]) [] 800 pn [] pn
noncomputable def C_50 (n:Nat):Code:=cat (bodyOf Try.f35) (pth n)
theorem g_berth_Place_1_1_ok (N:Nat) (a:Tberth_box) (cap0:Tberth_box) (cap1:TDock) (r:Bool) (h:g_berth_Place_1_1 N a cap0 cap1=some r):Sound Try.prog 35 [(.agg (Tberth_box.cells a)),(.op 0 0 0),(.op 1 0 0)] [(0,vO 4 (Tberth_box.cells cap0)),(1,vO 6 (TDock.cells cap1))] 2 (aB r) [(0,vO 4 (Tberth_box.cells cap0)),(1,vO 6 (TDock.cells cap1))]:=by
 unfold g_berth_Place_1_1 at h
 refine Sound.of_runs (fu:=Try.f35) (c:=C_50 1) (nt:=11) (by kernel_rfl) (by kernel_rfl) (by kernel_rfl) (by kernel_rfl) (fun hm=>absurd hm (by decide)) ?_
 intro E hE
 refine Runs.nR hE 1 [] [] (kp [1,2,3]) (kq [0,1,2]) 34 pn ?_
 obtain ⟨rapart,hr,h⟩:=bindSome h
 refine Runs.nR hE 1 [(4,⟨[],true,(aB rapart),[],0,false,none⟩)] [] (kp [4]) (kq [0,1]) 146 (pc o1 (pc o1 (pc o1 (pc (g_berth_apart_ok N a cap0 cap1.f_Gap rapart hr) pn)))) ?_
 obtain rfl:=Option.some.inj h
 exact Runs.nT hE 0 Try.f35 [] (kp [4]) (kq [0,1]) 146 pn [] pn
noncomputable def C_49 (n:Nat):Code:=cat (bodyOf Try.f65) (pth n)
def g_slices_IndexFunc_berth_box_berth_box_L1_H (N:Nat) (s:List Tberth_box) (cap0:Tberth_box) (cap1:TDock) (K:Int→Option (Int)):Prop:=∀ (x:Int) (r:Int),K x=some r→∀ E,EnvOk E 2→Runs Try.prog E 65 19 (SPost E [(0,vO 4 (Tberth_box.cells cap0)),(1,vO 6 (TDock.cells cap1))] (aI r)) [.code (C_49 52),.inLoop (C_49 52),.inBlock 0,.code (C_49 7)] ⟨[(0,(encL Tberth_box.cells Tberth_box.d s)),(1,(.fn (.func 35) [] [(.op 0 0 0),(.op 1 0 0)])),(7,(aI ((s.length:Nat):Int))),(8,(aI x))],[(0,vO 4 (Tberth_box.cells cap0)),(1,vO 6 (TDock.cells cap1))],2⟩
theorem g_slices_IndexFunc_berth_box_berth_box_L1_ok (N:Nat) (s:List Tberth_box) (cap0:Tberth_box) (cap1:TDock) (fuel:Nat):g_slices_IndexFunc_berth_box_berth_box_L1_H N s cap0 cap1 (g_slices_IndexFunc_berth_box_berth_box_L1 N s cap0 cap1 fuel):=by
 induction fuel with
 | zero=>intro _ r h;rw [g_slices_IndexFunc_berth_box_berth_box_L1.eq_1] at h;cases h
 | succ fuel ih =>
  intro x r h E hE
  rw [g_slices_IndexFunc_berth_box_berth_box_L1.eq_2] at h
  refine Runs.nR hE 1 [] [] (kp [0,1,7,8,9]) (kq [0,1]) 18 pn ?_
  refine Runs.nC 1 9 h (fun hq2 h=>?_) (fun hq2 h=>?_)
  ·refine Runs.nR hE 4 [] [] (kp [0,1,5,7,8]) (kq [0,1]) 50 pn ?_
   obtain ⟨c,h⟩:=ifSome h
   obtain ⟨rPlace11,hr,h⟩:=bindSome h
   refine Runs.nR hE 1 [(5,⟨[0,1],true,(aB rPlace11),[],0,false,none⟩)] [] (kp [0,1,5,7,8,16]) (kq [0,1]) 146 (pc c (pc (g_berth_Place_1_1_ok N (s.getD ((x).toNat) Tberth_box.d) cap0 cap1 rPlace11 hr) pn)) ?_
   refine Runs.nC 0 16 h (fun hq3 h=>?_) (fun hq3 h=>?_)
   ·refine Runs.nR hE 1 [] [] (kp [4]) (kq [0,1]) 178 pn ?_
    obtain rfl:=Option.some.inj h
    exact Runs.nT hE 0 Try.f65 [] (kp [4]) (kq [0,1]) 178 pn [] pn
   ·refine Runs.nR hE 2 [] [] (kp [0,1,7,8]) (kq [0,1]) 178 pn ?_
    exact Runs.nW hE 1 [] (kp [0,1,7,8]) (kq [0,1]) 2 pn (ih _ _ h E hE)
  ·refine Runs.nR hE 2 [] [] (kp [4]) (kq [0,1]) 34 pn ?_
   obtain rfl:=Option.some.inj h
   exact Runs.nT hE 0 Try.f65 [] (kp [4]) (kq [0,1]) 50 pn [] pn
theorem g_slices_IndexFunc_berth_box_berth_box_ok (N:Nat) (s:List Tberth_box) (cap0:Tberth_box) (cap1:TDock) (r:Int) (h:g_slices_IndexFunc_berth_box_berth_box N s cap0 cap1=some r):Sound Try.prog 65 [(encL Tberth_box.cells Tberth_box.d s),(.fn (.func 35) [] [(.op 0 0 0),(.op 1 0 0)])] [(0,vO 4 (Tberth_box.cells cap0)),(1,vO 6 (TDock.cells cap1))] 2 (aI r) [(0,vO 4 (Tberth_box.cells cap0)),(1,vO 6 (TDock.cells cap1))]:=by
 unfold g_slices_IndexFunc_berth_box_berth_box at h
 refine Sound.of_runs (fu:=Try.f65) (c:=C_49 1) (nt:=19) (by kernel_rfl) (by kernel_rfl) (by kernel_rfl) (by kernel_rfl) (fun hm=>absurd hm (by decide)) ?_
 intro E hE
 refine Runs.nR hE 1 [] [] (kp [0,1]) (kq [0,1]) 18 pn ?_
 refine Runs.nR hE 2 [] [] (kp [0,1,7,8]) (kq [0,1]) 66 pn ?_
 exact Runs.nW hE 2 [] (kp [0,1,7,8]) (kq [0,1]) 2 pn (g_slices_IndexFunc_berth_box_berth_box_L1_ok N _ _ _ N _ _ h E hE)
noncomputable def C_48 (n:Nat):Code:=cat (bodyOf Try.f34) (pth n)
theorem g_slices_ContainsFunc_berth_box_berth_box_ok (N:Nat) (s:List Tberth_box) (cap0:Tberth_box) (cap1:TDock) (r:Bool) (h:g_slices_ContainsFunc_berth_box_berth_box N s cap0 cap1=some r):Sound Try.prog 34 [(encL Tberth_box.cells Tberth_box.d s),(.fn (.func 35) [] [(.op 0 0 0),(.op 1 0 0)])] [(0,vO 4 (Tberth_box.cells cap0)),(1,vO 6 (TDock.cells cap1))] 2 (aB r) [(0,vO 4 (Tberth_box.cells cap0)),(1,vO 6 (TDock.cells cap1))]:=by
 unfold g_slices_ContainsFunc_berth_box_berth_box at h
 refine Sound.of_runs (fu:=Try.f34) (c:=C_48 1) (nt:=9) (by kernel_rfl) (by kernel_rfl) (by kernel_rfl) (by kernel_rfl) (fun hm=>absurd hm (by decide)) ?_
 intro E hE
 refine Runs.nR hE 1 [] [] (kp [0,1]) (kq [0,1]) 18 pn ?_
 obtain ⟨rbox,hr,h⟩:=bindSome h
 refine Runs.nR hE 1 [(2,⟨[0,1],true,(aI rbox),[],0,false,none⟩)] [] (kp [4]) (kq [0,1]) 98 (pc (g_slices_IndexFunc_berth_box_berth_box_ok N s cap0 cap1 rbox hr) pn) ?_
 obtain rfl:=Option.some.inj h
 exact Runs.nT hE 0 Try.f34 [] (kp [4]) (kq [0,1]) 98 pn [] pn
noncomputable def C_24 (n:Nat):Code:=cat (bodyOf Try.f31) (pth n)
def g_berth_Place_1_L1_H (N:Nat) (i:Int) (cap0:List TCall) (cap2:List Int) (cap3:TDock) (cap5:List Int) (rsums:(List Int)) (K:(List Tberth_box)→Int→Option (Bool×(List Tberth_box))):Prop:=∀ (cap6:List Tberth_box) (x:Int) (r:Bool×(List Tberth_box)),K cap6 x=some r→∀ E,EnvOk E 9→Runs Try.prog E 31 72 (SPost E [(0,vO 1 [(encL TCall.cells TCall.d cap0)]),(1,vN 1 [(.os 2 0 cap2.length)]),(2,aO 1 cI 0 cap2),(3,vO 6 (TDock.cells cap3)),(4,vN 1 [(.os 5 0 cap5.length)]),(5,aO 1 cI 0 cap5),(6,vN 1 [(.os 7 0 r.2.length)]),(7,aO 4 Tberth_box.cells Tberth_box.d r.2),(8,vN 1 [(.fn (.func 31) [] [(.op 0 0 0),(.op 1 0 0),(.op 3 0 0),(.op 4 0 0),(.op 6 0 0),(.op 8 0 0)])])] (aB r.1)) [.code (C_24 116),.inLoop (C_24 116),.inBlock 0,.code (C_24 15)] ⟨[(0,(aI i)),(1,(.op 0 0 0)),(3,(.op 3 0 0)),(4,(.op 4 0 0)),(5,(.op 6 0 0)),(6,(.op 8 0 0)),(22,(.os 9 0 rsums.length)),(23,(aI ((rsums.length:Nat):Int))),(24,(aI x))],[(0,vO 1 [(encL TCall.cells TCall.d cap0)]),(1,vN 1 [(.os 2 0 cap2.length)]),(2,aO 1 cI 0 cap2),(3,vO 6 (TDock.cells cap3)),(4,vN 1 [(.os 5 0 cap5.length)]),(5,aO 1 cI 0 cap5),(6,vN 1 [(.os 7 0 cap6.length)]),(7,aO 4 Tberth_box.cells Tberth_box.d cap6),(8,vN 1 [(.fn (.func 31) [] [(.op 0 0 0),(.op 1 0 0),(.op 3 0 0),(.op 4 0 0),(.op 6 0 0),(.op 8 0 0)])]),(9,aO 1 cI 0 rsums)],10⟩
def g_berth_Place_1_L2_H (N:Nat) (i:Int) (cap0:List TCall) (cap2:List Int) (cap3:TDock) (cap5:List Int) (rsums:(List Int)) (x:Int) (rsums2:(List Int)) (K:(List Tberth_box)→Int→Option (Bool×(List Tberth_box))):Prop:=∀ (cap62:List Tberth_box) (x2:Int) (r:Bool×(List Tberth_box)),K cap62 x2=some r→∀ E,EnvOk E 9→Runs Try.prog E 31 72 (SPost E [(0,vO 1 [(encL TCall.cells TCall.d cap0)]),(1,vN 1 [(.os 2 0 cap2.length)]),(2,aO 1 cI 0 cap2),(3,vO 6 (TDock.cells cap3)),(4,vN 1 [(.os 5 0 cap5.length)]),(5,aO 1 cI 0 cap5),(6,vN 1 [(.os 7 0 r.2.length)]),(7,aO 4 Tberth_box.cells Tberth_box.d r.2),(8,vN 1 [(.fn (.func 31) [] [(.op 0 0 0),(.op 1 0 0),(.op 3 0 0),(.op 4 0 0),(.op 6 0 0),(.op 8 0 0)])])] (aB r.1)) [.code (C_24 29900),.inLoop (C_24 29900),.inBlock 2,.inBlock 1,.code (C_24 935),.inLoop (C_24 116),.inBlock 0,.code (C_24 15)] ⟨[(0,(aI i)),(1,(.op 0 0 0)),(3,(.op 3 0 0)),(4,(.op 4 0 0)),(5,(.op 6 0 0)),(6,(.op 8 0 0)),(10,(aI (rsums.getD ((x).toNat) 0))),(22,(.os 9 0 rsums.length)),(23,(aI ((rsums.length:Nat):Int))),(24,(aI x)),(32,(.os 10 0 rsums2.length)),(33,(aI ((rsums2.length:Nat):Int))),(34,(aI x2))],[(0,vO 1 [(encL TCall.cells TCall.d cap0)]),(1,vN 1 [(.os 2 0 cap2.length)]),(2,aO 1 cI 0 cap2),(3,vO 6 (TDock.cells cap3)),(4,vN 1 [(.os 5 0 cap5.length)]),(5,aO 1 cI 0 cap5),(6,vN 1 [(.os 7 0 cap62.length)]),(7,aO 4 Tberth_box.cells Tberth_box.d cap62),(8,vN 1 [(.fn (.func 31) [] [(.op 0 0 0),(.op 1 0 0),(.op 3 0 0),(.op 4 0 0),(.op 6 0 0),(.op 8 0 0)])]),(9,aO 1 cI 0 rsums),(10,aO 1 cI 0 rsums2)],11⟩
def g_berth_Place_1_J3_H (N:Nat) (i:Int) (cap0:List TCall) (cap2:List Int) (cap3:TDock) (cap5:List Int) (rsums:(List Int)) (x:Int) (rsums2:(List Int)) (x2:Int) (K:(List Tberth_box)→Option (Bool×(List Tberth_box))):Prop:=∀ (cap63:List Tberth_box) (r:Bool×(List Tberth_box)),K cap63=some r→∀ E,EnvOk E 9→Runs Try.prog E 31 72 (SPost E [(0,vO 1 [(encL TCall.cells TCall.d cap0)]),(1,vN 1 [(.os 2 0 cap2.length)]),(2,aO 1 cI 0 cap2),(3,vO 6 (TDock.cells cap3)),(4,vN 1 [(.os 5 0 cap5.length)]),(5,aO 1 cI 0 cap5),(6,vN 1 [(.os 7 0 r.2.length)]),(7,aO 4 Tberth_box.cells Tberth_box.d r.2),(8,vN 1 [(.fn (.func 31) [] [(.op 0 0 0),(.op 1 0 0),(.op 3 0 0),(.op 4 0 0),(.op 6 0 0),(.op 8 0 0)])])] (aB r.1)) [.code (C_24 239207),.inLoop (C_24 29900),.inBlock 2,.inBlock 1,.code (C_24 935),.inLoop (C_24 116),.inBlock 0,.code (C_24 15)] ⟨[(0,(aI i)),(1,(.op 0 0 0)),(3,(.op 3 0 0)),(4,(.op 4 0 0)),(5,(.op 6 0 0)),(6,(.op 8 0 0)),(10,(aI (rsums.getD ((x).toNat) 0))),(22,(.os 9 0 rsums.length)),(23,(aI ((rsums.length:Nat):Int))),(24,(aI x)),(32,(.os 10 0 rsums2.length)),(33,(aI ((rsums2.length:Nat):Int))),(34,(aI x2))],[(0,vO 1 [(encL TCall.cells TCall.d cap0)]),(1,vN 1 [(.os 2 0 cap2.length)]),(2,aO 1 cI 0 cap2),(3,vO 6 (TDock.cells cap3)),(4,vN 1 [(.os 5 0 cap5.length)]),(5,aO 1 cI 0 cap5),(6,vN 1 [(.os 7 0 cap63.length)]),(7,aO 4 Tberth_box.cells Tberth_box.d cap63),(8,vN 1 [(.fn (.func 31) [] [(.op 0 0 0),(.op 1 0 0),(.op 3 0 0),(.op 4 0 0),(.op 6 0 0),(.op 8 0 0)])]),(9,aO 1 cI 0 rsums),(10,aO 1 cI 0 rsums2)],11⟩
theorem g_berth_Place_1_J3_ok (N:Nat) (i:Int) (cap0:List TCall) (cap2:List Int) (cap3:TDock) (cap5:List Int) (rsums:(List Int)) (x:Int) (rsums2:(List Int)) (x2:Int) (R_:Int→(List TCall)→(List Int)→TDock→(List Int)→(List Tberth_box)→Option (Bool×(List Tberth_box))) (K_g_berth_Place_1_L2:(List Tberth_box)→Int→Option (Bool×(List Tberth_box))) (K_g_berth_Place_1_L1:(List Tberth_box)→Int→Option (Bool×(List Tberth_box)))
  (hR_:∀ (i:Int) (cap0:List TCall) (cap2:List Int) (cap3:TDock) (cap5:List Int) (cap7:List Tberth_box) (r:Bool×(List Tberth_box)),R_ i cap0 cap2 cap3 cap5 cap7=some r→Sound Try.prog 31 [(aI i),(.op 0 0 0),(.op 1 0 0),(.op 3 0 0),(.op 4 0 0),(.op 6 0 0),(.op 8 0 0)] [(0,vO 1 [(encL TCall.cells TCall.d cap0)]),(1,vN 1 [(.os 2 0 cap2.length)]),(2,aO 1 cI 0 cap2),(3,vO 6 (TDock.cells cap3)),(4,vN 1 [(.os 5 0 cap5.length)]),(5,aO 1 cI 0 cap5),(6,vN 1 [(.os 7 0 cap7.length)]),(7,aO 4 Tberth_box.cells Tberth_box.d cap7),(8,vN 1 [(.fn (.func 31) [] [(.op 0 0 0),(.op 1 0 0),(.op 3 0 0),(.op 4 0 0),(.op 6 0 0),(.op 8 0 0)])])] 9 (aB r.1) [(0,vO 1 [(encL TCall.cells TCall.d cap0)]),(1,vN 1 [(.os 2 0 cap2.length)]),(2,aO 1 cI 0 cap2),(3,vO 6 (TDock.cells cap3)),(4,vN 1 [(.os 5 0 cap5.length)]),(5,aO 1 cI 0 cap5),(6,vN 1 [(.os 7 0 r.2.length)]),(7,aO 4 Tberth_box.cells Tberth_box.d r.2),(8,vN 1 [(.fn (.func 31) [] [(.op 0 0 0),(.op 1 0 0),(.op 3 0 0),(.op 4 0 0),(.op 6 0 0),(.op 8 0 0)])])]) (hK_g_berth_Place_1_L2:g_berth_Place_1_L2_H N i cap0 cap2 cap3 cap5 rsums x rsums2 K_g_berth_Place_1_L2) (hK_g_berth_Place_1_L1:g_berth_Place_1_L1_H N i cap0 cap2 cap3 cap5 rsums K_g_berth_Place_1_L1):g_berth_Place_1_J3_H N i cap0 cap2 cap3 cap5 rsums x rsums2 x2 (g_berth_Place_1_J3 N i cap0 cap2 cap3 cap5 rsums x rsums2 x2 R_ K_g_berth_Place_1_L2 K_g_berth_Place_1_L1):=by
 intro cap63 r h E hE
 unfold g_berth_Place_1_J3 at h
 refine Runs.nR hE 0 [] [] (kp [0,1,3,4,5,6,10,22,23,24,32,33,34]) (kq [0,1,2,3,4,5,6,7,8,9,10]) 43 pn ?_
 exact Runs.nW hE 1 [] (kp [0,1,3,4,5,6,10,22,23,24,32,33,34]) (kq [0,1,2,3,4,5,6,7,8,9,10]) 11 pn (hK_g_berth_Place_1_L2 _ _ _ h E hE)
theorem g_berth_Place_1_L2_ok (N:Nat) (i:Int) (cap0:List TCall) (cap2:List Int) (cap3:TDock) (cap5:List Int) (rsums:(List Int)) (x:Int) (rsums2:(List Int)) (R_:Int→(List TCall)→(List Int)→TDock→(List Int)→(List Tberth_box)→Option (Bool×(List Tberth_box))) (K_g_berth_Place_1_L1:(List Tberth_box)→Int→Option (Bool×(List Tberth_box)))
  (hR_:∀ (i:Int) (cap0:List TCall) (cap2:List Int) (cap3:TDock) (cap5:List Int) (cap7:List Tberth_box) (r:Bool×(List Tberth_box)),R_ i cap0 cap2 cap3 cap5 cap7=some r→Sound Try.prog 31 [(aI i),(.op 0 0 0),(.op 1 0 0),(.op 3 0 0),(.op 4 0 0),(.op 6 0 0),(.op 8 0 0)] [(0,vO 1 [(encL TCall.cells TCall.d cap0)]),(1,vN 1 [(.os 2 0 cap2.length)]),(2,aO 1 cI 0 cap2),(3,vO 6 (TDock.cells cap3)),(4,vN 1 [(.os 5 0 cap5.length)]),(5,aO 1 cI 0 cap5),(6,vN 1 [(.os 7 0 cap7.length)]),(7,aO 4 Tberth_box.cells Tberth_box.d cap7),(8,vN 1 [(.fn (.func 31) [] [(.op 0 0 0),(.op 1 0 0),(.op 3 0 0),(.op 4 0 0),(.op 6 0 0),(.op 8 0 0)])])] 9 (aB r.1) [(0,vO 1 [(encL TCall.cells TCall.d cap0)]),(1,vN 1 [(.os 2 0 cap2.length)]),(2,aO 1 cI 0 cap2),(3,vO 6 (TDock.cells cap3)),(4,vN 1 [(.os 5 0 cap5.length)]),(5,aO 1 cI 0 cap5),(6,vN 1 [(.os 7 0 r.2.length)]),(7,aO 4 Tberth_box.cells Tberth_box.d r.2),(8,vN 1 [(.fn (.func 31) [] [(.op 0 0 0),(.op 1 0 0),(.op 3 0 0),(.op 4 0 0),(.op 6 0 0),(.op 8 0 0)])])]) (hK_g_berth_Place_1_L1:g_berth_Place_1_L1_H N i cap0 cap2 cap3 cap5 rsums K_g_berth_Place_1_L1) (fuel:Nat):g_berth_Place_1_L2_H N i cap0 cap2 cap3 cap5 rsums x rsums2 (g_berth_Place_1_L2 N i cap0 cap2 cap3 cap5 rsums x rsums2 R_ K_g_berth_Place_1_L1 fuel):=by
 induction fuel with
 | zero=>intro _ _ r h;rw [g_berth_Place_1_L2.eq_1] at h;cases h
 | succ fuel ih =>
  intro cap62 x2 r h E hE
  rw [g_berth_Place_1_L2.eq_2] at h
  refine Runs.nR hE 1 [] [] (kp [0,1,3,4,5,6,10,22,23,24,32,33,34,35]) (kq [0,1,2,3,4,5,6,7,8,9,10]) 27 pn ?_
  refine Runs.nC 1 35 h (fun hq4 h=>?_) (fun hq4 h=>?_)
  ·obtain ⟨c2,h⟩:=ifSome h
   refine Runs.nR hE 4 [] [] (kp [0,1,3,4,5,6,10,12,22,23,24,32,33,34]) (kq [0,1,2,3,4,5,6,7,8,9,10]) 75 (pc c2 (pc (ltOf c2) pn)) ?_
   obtain ⟨c3,h⟩:=ifSome h
   refine Runs.nR hE 1 [] [] (kp [0,1,3,4,5,6,10,13,22,23,24,32,33,34]) (kq [0,1,2,3,4,5,6,7,8,9,10,283]) 315 (pc o1 (pc c3 (pc o1 (pc c3 (pc o1 pn))))) ?_
   obtain ⟨rinside,hr3,h⟩:=bindSome h
   obtain ⟨c4,h⟩:=ifSome h
   obtain ⟨c5,h⟩:=ifSome h
   obtain ⟨c6,h⟩:=ifSome h
   obtain ⟨rbox,hr4,h⟩:=bindSome h
   refine Runs.nR hE 2 [(2,⟨[],true,(aB rinside),[],0,false,none⟩),(9,⟨[283,3],true,(aB rbox),[],0,false,none⟩)] [] (kp [0,1,3,4,5,6,10,13,22,23,24,32,33,34,61]) (kq [0,1,2,3,4,5,6,7,8,9,10,283]) 491 (pc o1 (pc o1 (pc (g_berth_inside_ok N cap3 (⟨(rsums.getD ((x).toNat) 0),(rsums2.getD ((x2).toNat) 0),(cap0.getD ((i).toNat) TCall.d).f_Length,(cap0.getD ((i).toNat) TCall.d).f_Beam⟩:Tberth_box) rinside hr3) (pc (fun hg:(!(!rinside))=true=>(pc o1 pn)) (pc (fun hg:(!(!rinside))=true=>(pc hg (pc hg (pc (c4 hg) (pc (c5 hg) pn))))) (pc (fun hg:(!(!rinside))=true=>(pc (show Sound Try.prog 34 [(.sl ((i).toNat - 0) (fun zi=>Tberth_box.cells (cap62.getD (addz 0 zi) Tberth_box.d))),(.fn (.func 35) [] [(.op 0 0 0),(.op 1 0 0)])] [(0,vO 4 [(aI (rsums.getD ((x).toNat) 0)),(aI (rsums2.getD ((x2).toNat) 0)),(aI ((cap0.getD ((i).toNat) TCall.d).f_Length)),(aI ((cap0.getD ((i).toNat) TCall.d).f_Beam))]),(1,vO 6 (TDock.cells cap3))] 2 (aB rbox) [(0,vO 4 [(aI (rsums.getD ((x).toNat) 0)),(aI (rsums2.getD ((x2).toNat) 0)),(aI ((cap0.getD ((i).toNat) TCall.d).f_Length)),(aI ((cap0.getD ((i).toNat) TCall.d).f_Beam))]),(1,vO 6 (TDock.cells cap3))] from (Sound.conv (g_slices_ContainsFunc_berth_box_berth_box_ok N ((cap62.take ((i).toNat)).drop 0) (⟨(rsums.getD ((x).toNat) 0),(rsums2.getD ((x2).toNat) 0),(cap0.getD ((i).toNat) TCall.d).f_Length,(cap0.getD ((i).toNat) TCall.d).f_Beam⟩:Tberth_box) cap3 rbox (condT hr4 hg)) (.cons (Alike.sl (len_ext' cap62 0 ((i).toNat) c6) (fun zq hzq=>get_ext Tberth_box.cells Tberth_box.d cap62 0 ((i).toNat) zq hzq)) (.cons (Alike.refl _) .nil)))) (pc (show 0+((i).toNat - 0)≤cap62.length by have:=c6;omega) (pc hg (pc hg pn))))) (pc (fun hq:(!(!rinside))=true=>(pc hq pn)) pn))))))) ?_
   refine Runs.nC 0 61 h (fun hq5 h=>?_) (fun hq5 h=>?_)
   ·exact Runs.nW hE 1 [] (kp [0,1,3,4,5,6,10,22,23,24,32,33,34]) (kq [0,1,2,3,4,5,6,7,8,9,10]) 11 pn (g_berth_Place_1_J3_ok N _ _ _ _ _ _ _ _ _ _ _ _ hR_ ih hK_g_berth_Place_1_L1 _ _ h E hE)
   ·obtain ⟨c7,h⟩:=ifSome h
    refine Runs.nR hE 2 [] [] (kp [0,1,3,4,5,6,10,22,23,24,32,33,34]) (kq [0,1,2,3,4,5] ++ [(6,.var 6 [.osl ((cap62.set ((i).toNat) (⟨(rsums.getD ((x).toNat) 0),(rsums2.getD ((x2).toNat) 0),(cap0.getD ((i).toNat) TCall.d).f_Length,(cap0.getD ((i).toNat) TCall.d).f_Beam⟩:Tberth_box)).length)]),(7,.arr 7 ((cap62.set ((i).toNat) (⟨(rsums.getD ((x).toNat) 0),(rsums2.getD ((x2).toNat) 0),(cap0.getD ((i).toNat) TCall.d).f_Length,(cap0.getD ((i).toNat) TCall.d).f_Beam⟩:Tberth_box)).length) (fun zi=>Tberth_box.cells ((cap62.set ((i).toNat) (⟨(rsums.getD ((x).toNat) 0),(rsums2.getD ((x2).toNat) 0),(cap0.getD ((i).toNat) TCall.d).f_Length,(cap0.getD ((i).toNat) TCall.d).f_Beam⟩:Tberth_box)).getD zi Tberth_box.d)))] ++ kq [8,9,10]) 571 (pc o1 (pc o1 (pc c7 (pc (ltOf c7) (pc (len_set0 cap62 ((i).toNat) (⟨(rsums.getD ((x).toNat) 0),(rsums2.getD ((x2).toNat) 0),(cap0.getD ((i).toNat) TCall.d).f_Length,(cap0.getD ((i).toNat) TCall.d).f_Beam⟩:Tberth_box)) (pc (len_set0 cap62 ((i).toNat) (⟨(rsums.getD ((x).toNat) 0),(rsums2.getD ((x2).toNat) 0),(cap0.getD ((i).toNat) TCall.d).f_Length,(cap0.getD ((i).toNat) TCall.d).f_Beam⟩:Tberth_box)) (pc (get_set0 Tberth_box.cells Tberth_box.d cap62 ((i).toNat) (⟨(rsums.getD ((x).toNat) 0),(rsums2.getD ((x2).toNat) 0),(cap0.getD ((i).toNat) TCall.d).f_Length,(cap0.getD ((i).toNat) TCall.d).f_Beam⟩:Tberth_box)) pn))))))) ?_
    obtain ⟨rPlace1,hr5,h⟩:=bindSome h
    obtain ⟨c8,h⟩:=ifSome h
    refine Runs.nR hE 1 [(3,⟨[0,1,2,3,4,5,6,7,8],false,(aB rPlace1.1),[(0,vO 1 [(encL TCall.cells TCall.d cap0)]),(1,vN 1 [(.os 2 0 cap2.length)]),(2,aO 1 cI 0 cap2),(3,vO 6 (TDock.cells cap3)),(4,vN 1 [(.os 5 0 cap5.length)]),(5,aO 1 cI 0 cap5),(6,vN 1 [(.os 7 0 rPlace1.2.length)]),(7,aO 4 Tberth_box.cells Tberth_box.d rPlace1.2),(8,vN 1 [(.fn (.func 31) [] [(.op 0 0 0),(.op 1 0 0),(.op 3 0 0),(.op 4 0 0),(.op 6 0 0),(.op 8 0 0)])])],0,false,none⟩)] [] (kp [0,1,3,4,5,6,10,22,23,24,32,33,34,69]) (kq [0,1,2,3,4,5,6,7,8,9,10]) 635 (pc o1 (pc (show Sound Try.prog 31 [(aI (w64 (i+1))),(.op 0 0 0),(.op 1 0 0),(.op 3 0 0),(.op 4 0 0),(.op 6 0 0),(.op 8 0 0)] [(0,vO 1 [(encL TCall.cells TCall.d cap0)]),(1,vN 1 [(.os 2 0 cap2.length)]),(2,aO 1 cI 0 cap2),(3,vO 6 (TDock.cells cap3)),(4,vN 1 [(.os 5 0 cap5.length)]),(5,aO 1 cI 0 cap5),(6,vN 1 [(.os 7 0 ((cap62.set ((i).toNat) (⟨(rsums.getD ((x).toNat) 0),(rsums2.getD ((x2).toNat) 0),(cap0.getD ((i).toNat) TCall.d).f_Length,(cap0.getD ((i).toNat) TCall.d).f_Beam⟩:Tberth_box)).length))]),(7,aO 4 Tberth_box.cells Tberth_box.d (cap62.set ((i).toNat) (⟨(rsums.getD ((x).toNat) 0),(rsums2.getD ((x2).toNat) 0),(cap0.getD ((i).toNat) TCall.d).f_Length,(cap0.getD ((i).toNat) TCall.d).f_Beam⟩:Tberth_box))),(8,vN 1 [(.fn (.func 31) [] [(.op 0 0 0),(.op 1 0 0),(.op 3 0 0),(.op 4 0 0),(.op 6 0 0),(.op 8 0 0)])])] 9 (aB rPlace1.1) [(0,vO 1 [(encL TCall.cells TCall.d cap0)]),(1,vN 1 [(.os 2 0 cap2.length)]),(2,aO 1 cI 0 cap2),(3,vO 6 (TDock.cells cap3)),(4,vN 1 [(.os 5 0 cap5.length)]),(5,aO 1 cI 0 cap5),(6,vN 1 [(.os 7 0 rPlace1.2.length)]),(7,aO 4 Tberth_box.cells Tberth_box.d rPlace1.2),(8,vN 1 [(.fn (.func 31) [] [(.op 0 0 0),(.op 1 0 0),(.op 3 0 0),(.op 4 0 0),(.op 6 0 0),(.op 8 0 0)])])] from (hR_ (w64 (i+1)) cap0 cap2 cap3 cap5 (cap62.set ((i).toNat) (⟨(rsums.getD ((x).toNat) 0),(rsums2.getD ((x2).toNat) 0),(cap0.getD ((i).toNat) TCall.d).f_Length,(cap0.getD ((i).toNat) TCall.d).f_Beam⟩:Tberth_box)) rPlace1 hr5)) pn)) ?_
    refine Runs.nC 0 69 h (fun hq6 h=>?_) (fun hq6 h=>?_)
    ·refine Runs.nR hE 1 [] [] (kp [8]) (kq [0,1,2,3,4,5,6,7,8]) 651 pn ?_
     obtain rfl:=Option.some.inj h
     exact Runs.nT hE 0 Try.f31 [] (kp [8]) (kq [0,1,2,3,4,5,6,7,8]) 651 pn [] pn
    ·exact Runs.nW hE 2 [] (kp [0,1,3,4,5,6,10,22,23,24,32,33,34]) (kq [0,1,2,3,4,5,6,7,8,9,10]) 11 pn (g_berth_Place_1_J3_ok N _ _ _ _ _ _ _ _ _ _ _ _ hR_ ih hK_g_berth_Place_1_L1 _ _ h E hE)
  ·refine Runs.nR hE 2 [] [] (kp [0,1,3,4,5,6,22,23,24]) (kq [0,1,2,3,4,5,6,7,8,9]) 59 pn ?_
   exact Runs.nW hE 1 [] (kp [0,1,3,4,5,6,22,23,24]) (kq [0,1,2,3,4,5,6,7,8,9]) 10 pn (hK_g_berth_Place_1_L1 _ _ _ h E hE)
theorem g_berth_Place_1_L1_ok (N:Nat) (i:Int) (cap0:List TCall) (cap2:List Int) (cap3:TDock) (cap5:List Int) (rsums:(List Int)) (R_:Int→(List TCall)→(List Int)→TDock→(List Int)→(List Tberth_box)→Option (Bool×(List Tberth_box)))
  (hR_:∀ (i:Int) (cap0:List TCall) (cap2:List Int) (cap3:TDock) (cap5:List Int) (cap7:List Tberth_box) (r:Bool×(List Tberth_box)),R_ i cap0 cap2 cap3 cap5 cap7=some r→Sound Try.prog 31 [(aI i),(.op 0 0 0),(.op 1 0 0),(.op 3 0 0),(.op 4 0 0),(.op 6 0 0),(.op 8 0 0)] [(0,vO 1 [(encL TCall.cells TCall.d cap0)]),(1,vN 1 [(.os 2 0 cap2.length)]),(2,aO 1 cI 0 cap2),(3,vO 6 (TDock.cells cap3)),(4,vN 1 [(.os 5 0 cap5.length)]),(5,aO 1 cI 0 cap5),(6,vN 1 [(.os 7 0 cap7.length)]),(7,aO 4 Tberth_box.cells Tberth_box.d cap7),(8,vN 1 [(.fn (.func 31) [] [(.op 0 0 0),(.op 1 0 0),(.op 3 0 0),(.op 4 0 0),(.op 6 0 0),(.op 8 0 0)])])] 9 (aB r.1) [(0,vO 1 [(encL TCall.cells TCall.d cap0)]),(1,vN 1 [(.os 2 0 cap2.length)]),(2,aO 1 cI 0 cap2),(3,vO 6 (TDock.cells cap3)),(4,vN 1 [(.os 5 0 cap5.length)]),(5,aO 1 cI 0 cap5),(6,vN 1 [(.os 7 0 r.2.length)]),(7,aO 4 Tberth_box.cells Tberth_box.d r.2),(8,vN 1 [(.fn (.func 31) [] [(.op 0 0 0),(.op 1 0 0),(.op 3 0 0),(.op 4 0 0),(.op 6 0 0),(.op 8 0 0)])])]) (fuel:Nat):g_berth_Place_1_L1_H N i cap0 cap2 cap3 cap5 rsums (g_berth_Place_1_L1 N i cap0 cap2 cap3 cap5 rsums R_ fuel):=by
 induction fuel with
 | zero=>intro _ _ r h;rw [g_berth_Place_1_L1.eq_1] at h;cases h
 | succ fuel ih =>
  intro cap6 x r h E hE
  rw [g_berth_Place_1_L1.eq_2] at h
  refine Runs.nR hE 1 [] [] (kp [0,1,3,4,5,6,22,23,24,25]) (kq [0,1,2,3,4,5,6,7,8,9]) 26 pn ?_
  refine Runs.nC 1 25 h (fun hq3 h=>?_) (fun hq3 h=>?_)
  ·obtain ⟨c,h⟩:=ifSome h
   refine Runs.nR hE 4 [] [] (kp [0,1,3,4,5,6,10,22,23,24]) (kq [0,1,2,3,4,5,6,7,8,9]) 74 (pc c (pc (ltOf c) pn)) ?_
   obtain ⟨rsums2,hr2,h⟩:=bindSome h
   refine Runs.nR hE 1 [(4,⟨[],false,(.os 0 0 rsums2.length),[(0,aO 1 cI 0 rsums2)],0,false,none⟩)] [] (kp [0,1,3,4,5,6,10,22,23,24,32,33,34]) (kq [0,1,2,3,4,5,6,7,8,9,138]) 186 (pc o1 (pc o1 (pc (g_berth_sums_ok N cap5 i cap3.f_Gap rsums2 hr2) (pc (show ∀ zi,zi < rsums2.length→AV.flatL (cI (rsums2.getD zi 0))=true from (fun _ _=>rfl)) (pc (z1 cap5.length) pn))))) ?_
   exact Runs.nW hE 2 [] (kp [0,1,3,4,5,6,10,22,23,24,32,33,34]) (kq [0,1,2,3,4,5,6,7,8,9] ++ [(10,.keep 138)]) 11 pn (g_berth_Place_1_L2_ok N _ _ _ _ _ _ _ _ _ _ hR_ ih N _ _ _ h E hE)
  ·refine Runs.nR hE 2 [] [] (kp [8]) (kq [0,1,2,3,4,5,6,7,8]) 42 pn ?_
   obtain rfl:=Option.some.inj h
   exact Runs.nT hE 0 Try.f31 [] (kp [8]) (kq [0,1,2,3,4,5,6,7,8]) 57 pn [] pn
theorem g_berth_Place_1_ok (N:Nat) (fuel:Nat):∀ (i:Int) (cap0:List TCall) (cap2:List Int) (cap3:TDock) (cap5:List Int) (cap7:List Tberth_box) (r:Bool×(List Tberth_box)),g_berth_Place_1 N fuel i cap0 cap2 cap3 cap5 cap7=some r→Sound Try.prog 31 [(aI i),(.op 0 0 0),(.op 1 0 0),(.op 3 0 0),(.op 4 0 0),(.op 6 0 0),(.op 8 0 0)] [(0,vO 1 [(encL TCall.cells TCall.d cap0)]),(1,vN 1 [(.os 2 0 cap2.length)]),(2,aO 1 cI 0 cap2),(3,vO 6 (TDock.cells cap3)),(4,vN 1 [(.os 5 0 cap5.length)]),(5,aO 1 cI 0 cap5),(6,vN 1 [(.os 7 0 cap7.length)]),(7,aO 4 Tberth_box.cells Tberth_box.d cap7),(8,vN 1 [(.fn (.func 31) [] [(.op 0 0 0),(.op 1 0 0),(.op 3 0 0),(.op 4 0 0),(.op 6 0 0),(.op 8 0 0)])])] 9 (aB r.1) [(0,vO 1 [(encL TCall.cells TCall.d cap0)]),(1,vN 1 [(.os 2 0 cap2.length)]),(2,aO 1 cI 0 cap2),(3,vO 6 (TDock.cells cap3)),(4,vN 1 [(.os 5 0 cap5.length)]),(5,aO 1 cI 0 cap5),(6,vN 1 [(.os 7 0 r.2.length)]),(7,aO 4 Tberth_box.cells Tberth_box.d r.2),(8,vN 1 [(.fn (.func 31) [] [(.op 0 0 0),(.op 1 0 0),(.op 3 0 0),(.op 4 0 0),(.op 6 0 0),(.op 8 0 0)])])]:=by
 induction fuel with
 | zero=>intro _ _ _ _ _ _ r h;rw [g_berth_Place_1.eq_1] at h;cases h
 | succ fuel ih =>
  intro i cap0 cap2 cap3 cap5 cap7 r h
  rw [g_berth_Place_1.eq_2] at h
  refine Sound.of_runs (fu:=Try.f31) (c:=C_24 1) (nt:=72) (by kernel_rfl) (by kernel_rfl) (by kernel_rfl) (by kernel_rfl) (fun hm=>absurd hm (by decide)) ?_
  intro E hE
  refine Runs.nR hE 1 [] [] (kp [0,1,2,3,4,5,6]) (kq [0,1,2,3,4,5,6,7,8]) 25 pn ?_
  refine Runs.nR hE 2 [] [] (kp [0,1,2,3,4,5,6,17]) (kq [0,1,2,3,4,5,6,7,8]) 89 (pc o1 pn) ?_
  refine Runs.nC 0 17 h (fun hq2 h=>?_) (fun hq2 h=>?_)
  ·refine Runs.nR hE 1 [] [] (kp [8]) (kq [0,1,2,3,4,5,6,7,8]) 105 pn ?_
   obtain rfl:=Option.some.inj h
   exact Runs.nT hE 0 Try.f31 [] (kp [8]) (kq [0,1,2,3,4,5,6,7,8]) 105 pn [] pn
  ·obtain ⟨rsums,hr,h⟩:=bindSome h
   refine Runs.nR hE 3 [(4,⟨[],false,(.os 0 0 rsums.length),[(0,aO 1 cI 0 rsums)],0,false,none⟩)] [] (kp [0,1,3,4,5,6,22,23,24]) (kq [0,1,2,3,4,5,6,7,8,153]) 201 (pc o1 (pc o1 (pc (g_berth_sums_ok N cap2 i cap3.f_Gap rsums hr) (pc (show ∀ zi,zi < rsums.length→AV.flatL (cI (rsums.getD zi 0))=true from (fun _ _=>rfl)) (pc (z1 cap2.length) pn))))) ?_
   exact Runs.nW hE 2 [] (kp [0,1,3,4,5,6,22,23,24]) (kq [0,1,2,3,4,5,6,7,8] ++ [(9,.keep 153)]) 10 pn (g_berth_Place_1_L1_ok N _ _ _ _ _ _ _ ih N _ _ _ h E hE)
noncomputable def C_23 (n:Nat):Code:=cat (bodyOf Try.f10) (pth n)
def g_berth_Place_L1_H (N:Nat) (d:TDock) (c:List TCall) (K:(List Int)→(List Int)→Int→Option ((List TSpot)×Int)):Prop:=∀ (lengths:List Int) (beams:List Int) (x:Int) (r:(List TSpot)×Int),K lengths beams x=some r→∀ E,EnvOk E 0→Runs Try.prog E 10 71 (SPost E [] (.tup [(encL TSpot.cells TSpot.d r.1),(aI r.2)])) [.code (C_23 500),.inLoop (C_23 500),.inBlock 0,.code (C_23 63)] ⟨[(2,(.op 0 0 0)),(3,(.op 1 0 0)),(7,(.op 2 0 0)),(8,(.op 4 0 0)),(25,(encL TCall.cells TCall.d c)),(26,(aI ((c.length:Nat):Int))),(27,(aI x))],[(0,vO 6 (TDock.cells d)),(1,vO 1 [(encL TCall.cells TCall.d c)]),(2,vN 1 [(.os 3 0 lengths.length)]),(3,aO 1 cI 0 lengths),(4,vN 1 [(.os 5 0 beams.length)]),(5,aO 1 cI 0 beams)],6⟩
def g_berth_Place_L2_H (N:Nat) (c:List TCall) (rPlace1:Bool×(List Tberth_box)) (K:(List TSpot)→Int→Option ((List TSpot)×Int)):Prop:=∀ (out:List TSpot) (x2:Int) (r:(List TSpot)×Int),K out x2=some r→∀ E,EnvOk E 0→Runs Try.prog E 10 71 (SPost E [] (.tup [(encL TSpot.cells TSpot.d r.1),(aI r.2)])) [.code (C_23 32756),.inLoop (C_23 32756),.inBlock 2,.code (C_23 4095)] ⟨[(3,(.op 0 0 0)),(13,(.os 1 0 out.length)),(49,(.os 2 0 rPlace1.2.length)),(50,(aI ((rPlace1.2.length:Nat):Int))),(51,(aI x2))],[(0,vO 1 [(encL TCall.cells TCall.d c)]),(1,aO 3 TSpot.cells TSpot.d out),(2,aO 4 Tberth_box.cells Tberth_box.d rPlace1.2)],3⟩
theorem g_berth_Place_L2_ok (N:Nat) (c:List TCall) (rPlace1:Bool×(List Tberth_box)) (fuel:Nat):g_berth_Place_L2_H N c rPlace1 (g_berth_Place_L2 N c rPlace1 fuel):=by
 induction fuel with
 | zero=>intro _ _ r h;rw [g_berth_Place_L2.eq_1] at h;cases h
 | succ fuel ih =>
  intro out x2 r h E hE
  rw [g_berth_Place_L2.eq_2] at h
  refine Runs.nR hE 1 [] [] (kp [3,13,49,50,51,52]) (kq [0,1,2]) 19 pn ?_
  refine Runs.nC 1 52 h (fun hq6 h=>?_) (fun hq6 h=>?_)
  ·obtain ⟨c7,h⟩:=ifSome h
   refine Runs.nR hE 4 [] [] (kp [3,13,14,15,49,50,51]) (kq [0,1,2,67]) 115 (pc c7 (pc (ltOf c7) (pc o1 pn))) ?_
   obtain ⟨c8,h⟩:=ifSome h
   obtain ⟨c9,h⟩:=ifSome h
   refine Runs.nR hE 0 [] [] (kp [3] ++ [(13,.osl ((out ++ ([(⟨(c.getD ((x2).toNat) TCall.d).f_Name,(rPlace1.2.getD ((x2).toNat) Tberth_box.d).f_x,(rPlace1.2.getD ((x2).toNat) Tberth_box.d).f_y⟩:TSpot)]:List TSpot)).length))] ++ kp [49,50,51]) (kq [0,2] ++ [(307,.arr 307 ((out ++ ([(⟨(c.getD ((x2).toNat) TCall.d).f_Name,(rPlace1.2.getD ((x2).toNat) Tberth_box.d).f_x,(rPlace1.2.getD ((x2).toNat) Tberth_box.d).f_y⟩:TSpot)]:List TSpot)).length) (fun zi=>TSpot.cells ((out ++ ([(⟨(c.getD ((x2).toNat) TCall.d).f_Name,(rPlace1.2.getD ((x2).toNat) Tberth_box.d).f_x,(rPlace1.2.getD ((x2).toNat) Tberth_box.d).f_y⟩:TSpot)]:List TSpot)).getD zi TSpot.d)))]) 339 (pc o1 (pc c8 (pc o1 (pc o1 (pc (Eq.refl out.length) (pc c9 (pc (z1 1) (pc (show ∀ zi,zi < 1→AV.oneL ((fun zi=>([[(aS ((c.getD ((x2).toNat) TCall.d).f_Name)),(aI ((rPlace1.2.getD ((x2).toNat) Tberth_box.d).f_x)),(aI ((rPlace1.2.getD ((x2).toNat) Tberth_box.d).f_y))]]:List (List AV)).getD zi []) (addz 0 zi))=true from (oneN rfl)) (pc (show (out.length+1)=(out ++ ([(⟨(c.getD ((x2).toNat) TCall.d).f_Name,(rPlace1.2.getD ((x2).toNat) Tberth_box.d).f_x,(rPlace1.2.getD ((x2).toNat) Tberth_box.d).f_y⟩:TSpot)]:List TSpot)).length from (len_app_raw rfl rfl)) (pc (show out.length+1=(out ++ ([(⟨(c.getD ((x2).toNat) TCall.d).f_Name,(rPlace1.2.getD ((x2).toNat) Tberth_box.d).f_x,(rPlace1.2.getD ((x2).toNat) Tberth_box.d).f_y⟩:TSpot)]:List TSpot)).length from (len_app_raw rfl rfl)) (pc (show ∀ zi,zi < (out ++ ([(⟨(c.getD ((x2).toNat) TCall.d).f_Name,(rPlace1.2.getD ((x2).toNat) Tberth_box.d).f_x,(rPlace1.2.getD ((x2).toNat) Tberth_box.d).f_y⟩:TSpot)]:List TSpot)).length→(fun zi=>TSpot.cells ((out ++ ([(⟨(c.getD ((x2).toNat) TCall.d).f_Name,(rPlace1.2.getD ((x2).toNat) Tberth_box.d).f_x,(rPlace1.2.getD ((x2).toNat) Tberth_box.d).f_y⟩:TSpot)]:List TSpot)).getD zi TSpot.d)) zi=((fun zm=>if zm < out.length then (fun zi=>TSpot.cells (out.getD zi TSpot.d)) zm else (fun zi=>([[(aS ((c.getD ((x2).toNat) TCall.d).f_Name)),(aI ((rPlace1.2.getD ((x2).toNat) Tberth_box.d).f_x)),(aI ((rPlace1.2.getD ((x2).toNat) Tberth_box.d).f_y))]]:List (List AV)).getD zi []) (zm - out.length))) zi from (get_app_raw TSpot.cells TSpot.d out ([(⟨(c.getD ((x2).toNat) TCall.d).f_Name,(rPlace1.2.getD ((x2).toNat) Tberth_box.d).f_x,(rPlace1.2.getD ((x2).toNat) Tberth_box.d).f_y⟩:TSpot)]:List TSpot) rfl (fun _ _=>rfl) (fun zq hzq=>get_chunk TSpot.cells TSpot.d ([(⟨(c.getD ((x2).toNat) TCall.d).f_Name,(rPlace1.2.getD ((x2).toNat) Tberth_box.d).f_x,(rPlace1.2.getD ((x2).toNat) Tberth_box.d).f_y⟩:TSpot)]:List TSpot) zq hzq))) pn))))))))))) ?_
   refine Runs.nR hE 1 [] [] (kp [3,13,49,50,51]) (kq [0,2,307]) 371 pn ?_
   exact Runs.nW hE 1 [] (kp [3,13,49,50,51]) (kq [0] ++ [(1,.keep 307)] ++ kq [2]) 3 pn (ih _ _ _ h E hE)
  ·refine Runs.nR hE 2 [] [] (kp [4,5]) (kq [1]) 67 pn ?_
   obtain rfl:=Option.some.inj h
   exact Runs.nT hE 0 Try.f10 [1] ([(4,.sl (out.length) (fun zi=>TSpot.cells (out.getD zi TSpot.d)))] ++ kp [5]) [] 67 (pc (Eq.refl out.length) (pc (z1 out.length) (pc (show ∀ zi,zi < out.length→(fun zi=>TSpot.cells (out.getD zi TSpot.d)) zi=(fun zi=>TSpot.cells (out.getD zi TSpot.d)) (addz 0 zi) from (fun _ _=>rfl)) pn))) [] pn
theorem g_berth_Place_L1_ok (N:Nat) (d:TDock) (c:List TCall) (fuel:Nat):g_berth_Place_L1_H N d c (g_berth_Place_L1 N d c fuel):=by
 induction fuel with
 | zero=>intro _ _ _ r h;rw [g_berth_Place_L1.eq_1] at h;cases h
 | succ fuel ih =>
  intro lengths beams x r h E hE
  rw [g_berth_Place_L1.eq_2] at h
  refine Runs.nR hE 1 [] [] (kp [2,3,7,8,25,26,27,28]) (kq [0,1,2,3,4,5]) 22 pn ?_
  refine Runs.nC 1 28 h (fun hq4 h=>?_) (fun hq4 h=>?_)
  ·obtain ⟨c2,h⟩:=ifSome h
   refine Runs.nR hE 4 [] [] (kp [2,3,7,8,10,25,26,27]) (kq [0,1,2,3,4,5,54]) 86 (pc c2 (pc o1 pn)) ?_
   obtain ⟨c3,h⟩:=ifSome h
   obtain ⟨c4,h⟩:=ifSome h
   refine Runs.nR hE 0 [] [] (kp [2,3,7,8,25,26,27]) (kq [0,1] ++ [(2,.var 2 [.osl ((lengths ++ ([(c.getD ((x).toNat) TCall.d).f_Length]:List Int)).length)]),(4,.var 4 [.osl ((beams ++ ([(c.getD ((x).toNat) TCall.d).f_Beam]:List Int)).length)]),(150,.arr 150 ((lengths ++ ([(c.getD ((x).toNat) TCall.d).f_Length]:List Int)).length) (fun zi=>cI ((lengths ++ ([(c.getD ((x).toNat) TCall.d).f_Length]:List Int)).getD zi 0))),(230,.arr 230 ((beams ++ ([(c.getD ((x).toNat) TCall.d).f_Beam]:List Int)).length) (fun zi=>cI ((beams ++ ([(c.getD ((x).toNat) TCall.d).f_Beam]:List Int)).getD zi 0)))]) 278 (pc o1 (pc o1 (pc (Eq.refl lengths.length) (pc c3 (pc (z1 1) (pc (show ∀ zi,zi < 1→AV.oneL ((fun zi=>([[(aI ((c.getD ((x).toNat) TCall.d).f_Length))]]:List (List AV)).getD zi []) (addz 0 zi))=true from (oneN rfl)) (pc o1 (pc o1 (pc (Eq.refl beams.length) (pc c4 (pc (z1 1) (pc (show ∀ zi,zi < 1→AV.oneL ((fun zi=>([[(aI ((c.getD ((x).toNat) TCall.d).f_Beam))]]:List (List AV)).getD zi []) (addz 0 zi))=true from (oneN rfl)) (pc o1 (pc o1 (pc (show (lengths.length+1)=(lengths ++ ([(c.getD ((x).toNat) TCall.d).f_Length]:List Int)).length from (len_app_raw rfl rfl)) (pc (show (beams.length+1)=(beams ++ ([(c.getD ((x).toNat) TCall.d).f_Beam]:List Int)).length from (len_app_raw rfl rfl)) (pc (show lengths.length+1=(lengths ++ ([(c.getD ((x).toNat) TCall.d).f_Length]:List Int)).length from (len_app_raw rfl rfl)) (pc (show ∀ zi,zi < (lengths ++ ([(c.getD ((x).toNat) TCall.d).f_Length]:List Int)).length→(fun zi=>cI ((lengths ++ ([(c.getD ((x).toNat) TCall.d).f_Length]:List Int)).getD zi 0)) zi=((fun zm=>if zm < lengths.length then (fun zi=>cI (lengths.getD zi 0)) zm else (fun zi=>([[(aI ((c.getD ((x).toNat) TCall.d).f_Length))]]:List (List AV)).getD zi []) (zm - lengths.length))) zi from (get_app_raw cI 0 lengths ([(c.getD ((x).toNat) TCall.d).f_Length]:List Int) rfl (fun _ _=>rfl) (fun zq hzq=>get_chunk cI 0 ([(c.getD ((x).toNat) TCall.d).f_Length]:List Int) zq hzq))) (pc (show beams.length+1=(beams ++ ([(c.getD ((x).toNat) TCall.d).f_Beam]:List Int)).length from (len_app_raw rfl rfl)) (pc (show ∀ zi,zi < (beams ++ ([(c.getD ((x).toNat) TCall.d).f_Beam]:List Int)).length→(fun zi=>cI ((beams ++ ([(c.getD ((x).toNat) TCall.d).f_Beam]:List Int)).getD zi 0)) zi=((fun zm=>if zm < beams.length then (fun zi=>cI (beams.getD zi 0)) zm else (fun zi=>([[(aI ((c.getD ((x).toNat) TCall.d).f_Beam))]]:List (List AV)).getD zi []) (zm - beams.length))) zi from (get_app_raw cI 0 beams ([(c.getD ((x).toNat) TCall.d).f_Beam]:List Int) rfl (fun _ _=>rfl) (fun zq hzq=>get_chunk cI 0 ([(c.getD ((x).toNat) TCall.d).f_Beam]:List Int) zq hzq))) pn)))))))))))))))))))) ?_
   refine Runs.nR hE 1 [] [] (kp [2,3,7,8,25,26,27]) (kq [0,1,2,4,150,230]) 310 pn ?_
   exact Runs.nW hE 1 [] (kp [2,3,7,8,25,26,27]) (kq [0,1,2] ++ [(3,.keep 150)] ++ kq [4] ++ [(5,.keep 230)]) 6 pn (ih _ _ _ _ h E hE)
  ·obtain ⟨c5,h⟩:=ifSome h
   refine Runs.nR hE 2 [] [] (kp [2,3,7,8,11]) (kq [0,1,2,3,4,5] ++ [(54,.arr 54 ((List.replicate c.length Tberth_box.d:List Tberth_box).length) (fun zi=>Tberth_box.cells ((List.replicate c.length Tberth_box.d:List Tberth_box).getD zi Tberth_box.d))),(70,.var 70 [.osl ((List.replicate c.length Tberth_box.d:List Tberth_box).length)])]) 102 (pc o1 (pc (show 0≤((c.length:Nat):Int) from c5.1) (pc (show ((c.length:Nat):Int)≤((c.length:Nat):Int) from (Int.le_refl _)) (pc (show (32:Int) * ((c.length:Nat):Int)≤281474976710656 from c5.2.1) (pc (show ((c.length:Nat):Int)≤9223372036854775807 from c5.2.2) (pc o1 (pc (show c.length=(List.replicate c.length Tberth_box.d:List Tberth_box).length from (List.length_replicate).symm) (pc (show ∀ zi,zi < (List.replicate c.length Tberth_box.d:List Tberth_box).length→(fun zi=>Tberth_box.cells ((List.replicate c.length Tberth_box.d:List Tberth_box).getD zi Tberth_box.d)) zi=(fun _=>[(aI 0),(aI 0),(aI 0),(aI 0)]) zi from (fun zq hzq=>get_rep Tberth_box.cells Tberth_box.d Tberth_box.d c.length zq hzq)) (pc (show c.length=(List.replicate c.length Tberth_box.d:List Tberth_box).length from (List.length_replicate).symm) pn))))))))) ?_
   refine Runs.nR hE 1 [] [] (kp [2,3,7,8,11,12]) (kq [0,1,2,3,4,5,54,70,102]) 118 pn ?_
   refine Runs.nR hE 1 [] [] (kp [3,11,12]) (kq [0,1,2,3,4,5,54,70,102]) 150 (pc o1 pn) ?_
   obtain ⟨rPlace1,hr2,h⟩:=bindSome h
   obtain ⟨c6,h⟩:=ifSome h
   refine Runs.nR hE 2 [(1,⟨[1,2,3,0,4,5,70,54,102],false,(aB rPlace1.1),[(0,vO 1 [(encL TCall.cells TCall.d c)]),(1,vN 1 [(.os 2 0 lengths.length)]),(2,aO 1 cI 0 lengths),(3,vO 6 (TDock.cells d)),(4,vN 1 [(.os 5 0 beams.length)]),(5,aO 1 cI 0 beams),(6,vN 1 [(.os 7 0 rPlace1.2.length)]),(7,aO 4 Tberth_box.cells Tberth_box.d rPlace1.2),(8,vN 1 [(.fn (.func 31) [] [(.op 0 0 0),(.op 1 0 0),(.op 3 0 0),(.op 4 0 0),(.op 6 0 0),(.op 8 0 0)])])],0,false,none⟩)] [] (kp [3,11,48]) (kq [1,54,70]) 198 (pc o1 (pc (g_berth_Place_1_ok N N 0 c lengths d beams (List.replicate c.length Tberth_box.d:List Tberth_box) rPlace1 hr2) pn)) ?_
   refine Runs.nC 0 48 h (fun hq5 h=>?_) (fun hq5 h=>?_)
   ·refine Runs.nR hE 1 [] [] (kp [4,5]) [] 230 pn ?_
    obtain rfl:=Option.some.inj h
    exact Runs.nT hE 0 Try.f10 [] ([(4,.sl (([]:List TSpot).length) (fun zi=>TSpot.cells (([]:List TSpot).getD zi TSpot.d)))] ++ kp [5]) [] 230 (pc (Eq.refl 0) pn) [] pn
   ·refine Runs.nR hE 2 [] [] (kp [3,11,13]) (kq [1,54,70]) 214 pn ?_
    refine Runs.nR hE 2 [] [] (kp [3,13,49,50,51]) (kq [1,54]) 262 (pc o1 pn) ?_
    exact Runs.nW hE 2 [] (kp [3] ++ [(13,.nilos 1)] ++ kp [49,50,51]) [(0,.keep 1),(1,.nil 3 (fun zi=>TSpot.cells (([]:List TSpot).getD zi TSpot.d))),(2,.keep 54)] 3 pn (g_berth_Place_L2_ok N _ _ N _ _ _ h E hE)
theorem g_berth_Place_ok (N:Nat) (d:TDock) (c:List TCall) (r:(List TSpot)×Int) (h:g_berth_Place N d c=some r):Sound Try.prog 10 [(.agg (TDock.cells d)),(encL TCall.cells TCall.d c)] [] 0 (.tup [(encL TSpot.cells TSpot.d r.1),(aI r.2)]) []:=by
 unfold g_berth_Place at h
 refine Sound.of_runs (fu:=Try.f10) (c:=C_23 1) (nt:=71) (by kernel_rfl) (by kernel_rfl) (by kernel_rfl) (by kernel_rfl) (fun hm=>rfl) ?_
 intro E hE
 refine Runs.nR hE 1 [] [] (kp [2,3]) (kq [0,16]) 64 pn ?_
 obtain ⟨rboth,hr,h⟩:=bindSome h
 refine Runs.nR hE 2 [(2,⟨[],true,(aI rboth),[],0,false,none⟩)] [] (kp [2,3,6]) (kq [0,16]) 128 (pc o1 (pc o1 (pc (g_berth_both_ok N d c rboth hr) pn))) ?_
 refine Runs.nR hE 1 [] [] (kp [2,3,6,20]) (kq [0,16]) 160 pn ?_
 refine Runs.nC 0 20 h (fun hq2 h=>?_) (fun hq2 h=>?_)
 ·refine Runs.nR hE 1 [] [] (kp [4,5]) [] 208 pn ?_
  obtain rfl:=Option.some.inj h
  exact Runs.nT hE 0 Try.f10 [] ([(4,.sl (([]:List TSpot).length) (fun zi=>TSpot.cells (([]:List TSpot).getD zi TSpot.d)))] ++ kp [5]) [] 208 (pc (Eq.refl 0) pn) [] pn
 ·refine Runs.nR hE 3 [] [] (kp [2,3,24]) (kq [0,16]) 208 (pc o1 pn) ?_
  refine Runs.nC 0 24 h (fun hq3 h=>?_) (fun hq3 h=>?_)
  ·refine Runs.nR hE 1 [] [] (kp [4,5]) [] 240 pn ?_
   obtain rfl:=Option.some.inj h
   exact Runs.nT hE 0 Try.f10 [] ([(4,.sl (([]:List TSpot).length) (fun zi=>TSpot.cells (([]:List TSpot).getD zi TSpot.d)))] ++ kp [5]) [] 240 (pc (Eq.refl 0) pn) [] pn
  ·refine Runs.nR hE 2 [] [] (kp [2,3,7,8]) (kq [0,16,208,224]) 240 pn ?_
   refine Runs.nR hE 2 [] [] (kp [2,3,7,8,25,26,27]) (kq [0,16,208,224]) 288 (pc o1 pn) ?_
   exact Runs.nW hE 2 [] (kp [2,3,7,8,25,26,27]) (kq [0] ++ [(1,.keep 16),(2,.var 208 [.nilos 3]),(3,.nil 1 (fun zi=>cI (([]:List Int).getD zi 0))),(4,.var 224 [.nilos 5]),(5,.nil 1 (fun zi=>cI (([]:List Int).getD zi 0)))]) 6 pn (g_berth_Place_L1_ok N _ _ N _ _ _ _ h E hE)
noncomputable def C_70 (n:Nat):Code:=cat (bodyOf Try.f82) (pth n)
theorem g_berth_called_1_ok (N:Nat) (x:TCall) (cap0:ByteArray) (r:Bool) (h:g_berth_called_1 N x cap0=some r):Sound Try.prog 82 [(.agg (TCall.cells x)),(.op 0 0 0)] [(0,vO 1 [(aS cap0)])] 1 (aB r) [(0,vO 1 [(aS cap0)])]:=by
 unfold g_berth_called_1 at h
 refine Sound.of_runs (fu:=Try.f82) (c:=C_70 1) (nt:=8) (by kernel_rfl) (by kernel_rfl) (by kernel_rfl) (by kernel_rfl) (fun hm=>absurd hm (by decide)) ?_
 intro E hE
 refine Runs.nR hE 1 [] [] (kp [1,2]) (kq [0,1]) 33 pn ?_
 refine Runs.nR hE 1 [] [] (kp [3]) (kq [0]) 113 (pc o1 (pc o1 pn)) ?_
 obtain rfl:=Option.some.inj h
 exact Runs.nT hE 0 Try.f82 [] (kp [3]) (kq [0]) 113 pn [] pn
noncomputable def C_69 (n:Nat):Code:=cat (bodyOf Try.f81) (pth n)
def g_slices_IndexFunc_api_Call_api_Call_v2_L1_H (N:Nat) (s:List TCall) (cap0:ByteArray) (K:Int→Option (Int)):Prop:=∀ (x:Int) (r:Int),K x=some r→∀ E,EnvOk E 1→Runs Try.prog E 81 19 (SPost E [(0,vO 1 [(aS cap0)])] (aI r)) [.code (C_69 52),.inLoop (C_69 52),.inBlock 0,.code (C_69 7)] ⟨[(0,(encL TCall.cells TCall.d s)),(1,(.fn (.func 82) [] [(.op 0 0 0)])),(7,(aI ((s.length:Nat):Int))),(8,(aI x))],[(0,vO 1 [(aS cap0)])],1⟩
theorem g_slices_IndexFunc_api_Call_api_Call_v2_L1_ok (N:Nat) (s:List TCall) (cap0:ByteArray) (fuel:Nat):g_slices_IndexFunc_api_Call_api_Call_v2_L1_H N s cap0 (g_slices_IndexFunc_api_Call_api_Call_v2_L1 N s cap0 fuel):=by
 induction fuel with
 | zero=>intro _ r h;rw [g_slices_IndexFunc_api_Call_api_Call_v2_L1.eq_1] at h;cases h
 | succ fuel ih =>
  intro x r h E hE
  rw [g_slices_IndexFunc_api_Call_api_Call_v2_L1.eq_2] at h
  refine Runs.nR hE 1 [] [] (kp [0,1,7,8,9]) (kq [0]) 17 pn ?_
  refine Runs.nC 1 9 h (fun hq2 h=>?_) (fun hq2 h=>?_)
  ·refine Runs.nR hE 4 [] [] (kp [0,1,5,7,8]) (kq [0]) 49 pn ?_
   obtain ⟨c,h⟩:=ifSome h
   obtain ⟨rcalled1,hr,h⟩:=bindSome h
   refine Runs.nR hE 1 [(5,⟨[0],true,(aB rcalled1),[],0,false,none⟩)] [] (kp [0,1,5,7,8,16]) (kq [0]) 145 (pc c (pc (g_berth_called_1_ok N (s.getD ((x).toNat) TCall.d) cap0 rcalled1 hr) pn)) ?_
   refine Runs.nC 0 16 h (fun hq3 h=>?_) (fun hq3 h=>?_)
   ·refine Runs.nR hE 1 [] [] (kp [4]) (kq [0]) 177 pn ?_
    obtain rfl:=Option.some.inj h
    exact Runs.nT hE 0 Try.f81 [] (kp [4]) (kq [0]) 177 pn [] pn
   ·refine Runs.nR hE 2 [] [] (kp [0,1,7,8]) (kq [0]) 177 pn ?_
    exact Runs.nW hE 1 [] (kp [0,1,7,8]) (kq [0]) 1 pn (ih _ _ h E hE)
  ·refine Runs.nR hE 2 [] [] (kp [4]) (kq [0]) 33 pn ?_
   obtain rfl:=Option.some.inj h
   exact Runs.nT hE 0 Try.f81 [] (kp [4]) (kq [0]) 49 pn [] pn
theorem g_slices_IndexFunc_api_Call_api_Call_v2_ok (N:Nat) (s:List TCall) (cap0:ByteArray) (r:Int) (h:g_slices_IndexFunc_api_Call_api_Call_v2 N s cap0=some r):Sound Try.prog 81 [(encL TCall.cells TCall.d s),(.fn (.func 82) [] [(.op 0 0 0)])] [(0,vO 1 [(aS cap0)])] 1 (aI r) [(0,vO 1 [(aS cap0)])]:=by
 unfold g_slices_IndexFunc_api_Call_api_Call_v2 at h
 refine Sound.of_runs (fu:=Try.f81) (c:=C_69 1) (nt:=19) (by kernel_rfl) (by kernel_rfl) (by kernel_rfl) (by kernel_rfl) (fun hm=>absurd hm (by decide)) ?_
 intro E hE
 refine Runs.nR hE 1 [] [] (kp [0,1]) (kq [0]) 17 pn ?_
 refine Runs.nR hE 2 [] [] (kp [0,1,7,8]) (kq [0]) 65 pn ?_
 exact Runs.nW hE 2 [] (kp [0,1,7,8]) (kq [0]) 1 pn (g_slices_IndexFunc_api_Call_api_Call_v2_L1_ok N _ _ N _ _ h E hE)
noncomputable def C_68 (n:Nat):Code:=cat (bodyOf Try.f48) (pth n)
theorem g_berth_called_ok (N:Nat) (c:List TCall) (name:ByteArray) (r:Int) (h:g_berth_called N c name=some r):Sound Try.prog 48 [(encL TCall.cells TCall.d c),(aS name)] [] 0 (aI r) []:=by
 unfold g_berth_called at h
 refine Sound.of_runs (fu:=Try.f48) (c:=C_68 1) (nt:=8) (by kernel_rfl) (by kernel_rfl) (by kernel_rfl) (by kernel_rfl) (fun hm=>rfl) ?_
 intro E hE
 refine Runs.nR hE 1 [] [] (kp [0,3]) (kq [0]) 32 pn ?_
 obtain ⟨rCall,hr,h⟩:=bindSome h
 refine Runs.nR hE 1 [(2,⟨[0],true,(aI rCall),[],0,false,none⟩)] [] (kp [4]) [] 96 (pc (g_slices_IndexFunc_api_Call_api_Call_v2_ok N c name rCall hr) pn) ?_
 obtain rfl:=Option.some.inj h
 exact Runs.nT hE 0 Try.f48 [] (kp [4]) [] 96 pn [] pn
noncomputable def C_67 (n:Nat):Code:=cat (bodyOf Try.f39) (pth n)
def g_berth_boxes_L1_H (N:Nat) (d:TDock) (c:List TCall) (s:List TSpot) (K:(List Tberth_box)→(List Bool)→Int→Option ((List Tberth_box)×Int)):Prop:=∀ (out:List Tberth_box) (seen:List Bool) (x:Int) (r:(List Tberth_box)×Int),K out seen x=some r→∀ E,EnvOk E 0→Runs Try.prog E 39 115 (SPost E [] (.tup [(encL Tberth_box.cells Tberth_box.d r.1),(aI r.2)])) [.code (C_67 1012),.inLoop (C_67 1012),.inBlock 0,.code (C_67 127)] ⟨[(1,(encL TCall.cells TCall.d c)),(3,(.op 0 0 0)),(9,(.os 1 0 out.length)),(10,(.os 2 0 seen.length)),(35,(encL TSpot.cells TSpot.d s)),(36,(aI ((s.length:Nat):Int))),(37,(aI x))],[(0,vO 6 (TDock.cells d)),(1,aO 4 Tberth_box.cells Tberth_box.d out),(2,aO 1 cB false seen)],3⟩
def g_berth_boxes_L2_H (N:Nat) (d:TDock) (out:List Tberth_box) (K:Int→Option ((List Tberth_box)×Int)):Prop:=∀ (x2:Int) (r:(List Tberth_box)×Int),K x2=some r→∀ E,EnvOk E 0→Runs Try.prog E 39 115 (SPost E [] (.tup [(encL Tberth_box.cells Tberth_box.d r.1),(aI r.2)])) [.code (C_67 2036),.inLoop (C_67 2036),.inBlock 3,.code (C_67 255)] ⟨[(3,(.op 0 0 0)),(9,(.os 1 0 out.length)),(91,(.os 1 0 out.length)),(92,(aI ((out.length:Nat):Int))),(93,(aI x2))],[(0,vO 6 (TDock.cells d)),(1,aO 4 Tberth_box.cells Tberth_box.d out)],2⟩
def g_berth_boxes_L3_H (N:Nat) (d:TDock) (out:List Tberth_box) (x2:Int) (K:Int→Option ((List Tberth_box)×Int)):Prop:=∀ (x3:Int) (r:(List Tberth_box)×Int),K x3=some r→∀ E,EnvOk E 0→Runs Try.prog E 39 115 (SPost E [] (.tup [(encL Tberth_box.cells Tberth_box.d r.1),(aI r.2)])) [.code (C_67 521420),.inLoop (C_67 521420),.inBlock 5,.inBlock 4,.code (C_67 16295),.inLoop (C_67 2036),.inBlock 3,.code (C_67 255)] ⟨[(3,(.op 0 0 0)),(9,(.os 1 0 out.length)),(15,(.op 2 0 0)),(91,(.os 1 0 out.length)),(92,(aI ((out.length:Nat):Int))),(93,(aI x2)),(100,(.os 1 0 ((x2).toNat - 0))),(101,(aI ((((x2).toNat - 0):Nat):Int))),(102,(aI x3))],[(0,vO 6 (TDock.cells d)),(1,aO 4 Tberth_box.cells Tberth_box.d out),(2,vO 4 (Tberth_box.cells (out.getD ((x2).toNat) Tberth_box.d)))],3⟩
theorem g_berth_boxes_L3_ok (N:Nat) (d:TDock) (out:List Tberth_box) (x2:Int) (K_g_berth_boxes_L2:Int→Option ((List Tberth_box)×Int)) (hK_g_berth_boxes_L2:g_berth_boxes_L2_H N d out K_g_berth_boxes_L2) (fuel:Nat):g_berth_boxes_L3_H N d out x2 (g_berth_boxes_L3 N d out x2 K_g_berth_boxes_L2 fuel):=by
 induction fuel with
 | zero=>intro _ r h;rw [g_berth_boxes_L3.eq_1] at h;cases h
 | succ fuel ih =>
  intro x3 r h E hE
  rw [g_berth_boxes_L3.eq_2] at h
  refine Runs.nR hE 1 [] [] (kp [3,9,15,91,92,93,100,101,102,103]) (kq [0,1,2]) 19 pn ?_
  refine Runs.nC 1 103 h (fun hq10 h=>?_) (fun hq10 h=>?_)
  ·obtain ⟨c12,h⟩:=ifSome h
   obtain ⟨c13,h⟩:=ifSome h
   refine Runs.nR hE 4 [] [] (kp [3,9,15,17,91,92,93,100,101,102]) (kq [0,1,2,51]) 83 (pc c12 (pc (show (x3).toNat < out.length by have h1:=c12;have h2:=c13;omega) (pc o1 pn))) ?_
   obtain ⟨rapart,hr6,h⟩:=bindSome h
   refine Runs.nR hE 1 [(4,⟨[],true,(aB rapart),[],0,false,none⟩)] [] (kp [3,9,15,91,92,93,100,101,102,111]) (kq [0,1,2]) 179 (pc o1 (pc o1 (pc o1 (pc (g_berth_apart_ok N (out.getD ((x2).toNat) Tberth_box.d) (out.getD ((x3).toNat) Tberth_box.d) d.f_Gap rapart hr6) pn)))) ?_
   refine Runs.nC 0 111 h (fun hq11 h=>?_) (fun hq11 h=>?_)
   ·refine Runs.nR hE 1 [] [] (kp [6,7]) [] 211 pn ?_
    obtain rfl:=Option.some.inj h
    exact Runs.nT hE 0 Try.f39 [] ([(6,.sl (([]:List Tberth_box).length) (fun zi=>Tberth_box.cells (([]:List Tberth_box).getD zi Tberth_box.d)))] ++ kp [7]) [] 211 (pc (Eq.refl 0) pn) [] pn
   ·refine Runs.nR hE 2 [] [] (kp [3,9,15,91,92,93,100,101,102]) (kq [0,1,2]) 211 pn ?_
    exact Runs.nW hE 1 [] (kp [3,9,15,91,92,93,100,101,102]) (kq [0,1,2]) 3 pn (ih _ _ h E hE)
  ·refine Runs.nR hE 2 [] [] (kp [3,9,91,92,93]) (kq [0,1]) 51 pn ?_
   exact Runs.nW hE 1 [] (kp [3,9,91,92,93]) (kq [0,1]) 2 pn (hK_g_berth_boxes_L2 _ _ h E hE)
theorem g_berth_boxes_L2_ok (N:Nat) (d:TDock) (out:List Tberth_box) (fuel:Nat):g_berth_boxes_L2_H N d out (g_berth_boxes_L2 N d out fuel):=by
 induction fuel with
 | zero=>intro _ r h;rw [g_berth_boxes_L2.eq_1] at h;cases h
 | succ fuel ih =>
  intro x2 r h E hE
  rw [g_berth_boxes_L2.eq_2] at h
  refine Runs.nR hE 1 [] [] (kp [3,9,91,92,93,94]) (kq [0,1]) 18 pn ?_
  refine Runs.nC 1 94 h (fun hq9 h=>?_) (fun hq9 h=>?_)
  ·obtain ⟨c9,h⟩:=ifSome h
   refine Runs.nR hE 4 [] [] (kp [3,9,14,15,91,92,93]) (kq [0,1,66]) 114 (pc c9 (pc (ltOf c9) (pc o1 pn))) ?_
   obtain ⟨c10,h⟩:=ifSome h
   obtain ⟨c11,h⟩:=ifSome h
   refine Runs.nR hE 1 [] [] (kp [3,9,15,91,92,93,100,101,102]) (kq [0,1,66]) 194 (pc c10 (pc c11 pn)) ?_
   exact Runs.nW hE 2 [] (kp [3,9,15,91,92,93,100,101,102]) (kq [0,1] ++ [(2,.keep 66)]) 3 pn (g_berth_boxes_L3_ok N _ _ _ _ ih N _ _ h E hE)
  ·refine Runs.nR hE 2 [] [] (kp [6,7]) (kq [1]) 66 pn ?_
   obtain rfl:=Option.some.inj h
   exact Runs.nT hE 0 Try.f39 [1] ([(6,.sl (out.length) (fun zi=>Tberth_box.cells (out.getD zi Tberth_box.d)))] ++ kp [7]) [] 66 (pc (Eq.refl out.length) (pc (z1 out.length) (pc (show ∀ zi,zi < out.length→(fun zi=>Tberth_box.cells (out.getD zi Tberth_box.d)) zi=(fun zi=>Tberth_box.cells (out.getD zi Tberth_box.d)) (addz 0 zi) from (fun _ _=>rfl)) pn))) [] pn
theorem g_berth_boxes_L1_ok (N:Nat) (d:TDock) (c:List TCall) (s:List TSpot) (fuel:Nat):g_berth_boxes_L1_H N d c s (g_berth_boxes_L1 N d c s fuel):=by
 induction fuel with
 | zero=>intro _ _ _ r h;rw [g_berth_boxes_L1.eq_1] at h;cases h
 | succ fuel ih =>
  intro out seen x r h E hE
  rw [g_berth_boxes_L1.eq_2] at h
  refine Runs.nR hE 1 [] [] (kp [1,3,9,10,35,36,37,38]) (kq [0,1,2]) 19 pn ?_
  refine Runs.nC 1 38 h (fun hq4 h=>?_) (fun hq4 h=>?_)
  ·obtain ⟨c4,h⟩:=ifSome h
   refine Runs.nR hE 4 [] [] (kp [1,3,9,10,12,35,36,37]) (kq [0,1,2,51]) 83 (pc c4 (pc o1 pn)) ?_
   obtain ⟨rcalled,hr2,h⟩:=bindSome h
   refine Runs.nR hE 1 [(3,⟨[],true,(aI rcalled),[],0,false,none⟩)] [] (kp [1,3,9,10,12,13,35,36,37]) (kq [0,1,2,51]) 163 (pc o1 (pc (g_berth_called_ok N c ((s.getD ((x).toNat) TSpot.d).f_Call) rcalled hr2) pn)) ?_
   refine Runs.nR hE 3 [] [] (kp [1,3,9,10,12,13,35,36,37,45]) (kq [0,1,2,51]) 211 pn ?_
   refine Runs.nC 0 45 h (fun hq5 h=>?_) (fun hq5 h=>?_)
   ·refine Runs.nR hE 1 [] [] (kp [6,7]) [] 243 pn ?_
    obtain rfl:=Option.some.inj h
    exact Runs.nT hE 0 Try.f39 [] ([(6,.sl (([]:List Tberth_box).length) (fun zi=>Tberth_box.cells (([]:List Tberth_box).getD zi Tberth_box.d)))] ++ kp [7]) [] 243 (pc (Eq.refl 0) pn) [] pn
   ·obtain ⟨c5,h⟩:=ifSome h
    refine Runs.nR hE 1 [] [] (kp [1,3,9,10,12,13,35,36,37,48]) (kq [0,1,2,51]) 291 (pc c5 (pc (ltOf c5) pn)) ?_
    refine Runs.nC 0 48 h (fun hq6 h=>?_) (fun hq6 h=>?_)
    ·refine Runs.nR hE 1 [] [] (kp [6,7]) [] 323 pn ?_
     obtain rfl:=Option.some.inj h
     exact Runs.nT hE 0 Try.f39 [] ([(6,.sl (([]:List Tberth_box).length) (fun zi=>Tberth_box.cells (([]:List Tberth_box).getD zi Tberth_box.d)))] ++ kp [7]) [] 323 (pc (Eq.refl 0) pn) [] pn
    ·obtain ⟨routside,hr3,h⟩:=bindSome h
     obtain ⟨routside2,hr4,h⟩:=bindSome h
     refine Runs.nR hE 1 [(2,⟨[],true,(aB routside),[],0,false,none⟩),(6,⟨[],true,(aB routside2),[],0,false,none⟩)] [] (kp [1,3,9,10,12,13,35,36,37,53]) (kq [0,1,2,51]) 435 (pc o1 (pc (g_berth_outside_ok N ((s.getD ((x).toNat) TSpot.d).f_X) 0 1000000 routside hr3) (pc (fun hg:(!routside)=true=>(pc hg (pc o1 pn))) (pc (fun hg:(!routside)=true=>(pc (g_berth_outside_ok N ((s.getD ((x).toNat) TSpot.d).f_Y) 0 1000000 routside2 (condT hr4 hg)) (pc hg pn))) (pc (fun hq:(!routside)=true=>(pc hq pn)) pn))))) ?_
     refine Runs.nC 0 53 h (fun hq7 h=>?_) (fun hq7 h=>?_)
     ·refine Runs.nR hE 1 [] [] (kp [6,7]) [] 467 pn ?_
      obtain rfl:=Option.some.inj h
      exact Runs.nT hE 0 Try.f39 [] ([(6,.sl (([]:List Tberth_box).length) (fun zi=>Tberth_box.cells (([]:List Tberth_box).getD zi Tberth_box.d)))] ++ kp [7]) [] 467 (pc (Eq.refl 0) pn) [] pn
     ·refine Runs.nR hE 3 [] [] (kp [1,3,9] ++ [(10,.osl ((seen.set ((rcalled).toNat) true).length))] ++ kp [12,13,35,36,37]) (kq [0,1] ++ [(2,.arr 2 ((seen.set ((rcalled).toNat) true).length) (fun zi=>cB ((seen.set ((rcalled).toNat) true).getD zi false)))] ++ kq [51]) 499 (pc c5 (pc (ltOf c5) (pc (len_set0 seen ((rcalled).toNat) true) (pc (len_set0 seen ((rcalled).toNat) true) (pc (get_set0 cB false seen ((rcalled).toNat) true) pn))))) ?_
      obtain ⟨c6,h⟩:=ifSome h
      obtain ⟨c7,h⟩:=ifSome h
      refine Runs.nR hE 1 [] [] (kp [1,3] ++ [(9,.osl ((out.set ((rcalled).toNat) (⟨(s.getD ((x).toNat) TSpot.d).f_X,(s.getD ((x).toNat) TSpot.d).f_Y,(c.getD ((rcalled).toNat) TCall.d).f_Length,(c.getD ((rcalled).toNat) TCall.d).f_Beam⟩:Tberth_box)).length))] ++ kp [10,13,35,36,37]) (kq [0] ++ [(1,.arr 1 ((out.set ((rcalled).toNat) (⟨(s.getD ((x).toNat) TSpot.d).f_X,(s.getD ((x).toNat) TSpot.d).f_Y,(c.getD ((rcalled).toNat) TCall.d).f_Length,(c.getD ((rcalled).toNat) TCall.d).f_Beam⟩:Tberth_box)).length) (fun zi=>Tberth_box.cells ((out.set ((rcalled).toNat) (⟨(s.getD ((x).toNat) TSpot.d).f_X,(s.getD ((x).toNat) TSpot.d).f_Y,(c.getD ((rcalled).toNat) TCall.d).f_Length,(c.getD ((rcalled).toNat) TCall.d).f_Beam⟩:Tberth_box)).getD zi Tberth_box.d)))] ++ kq [2]) 803 (pc o1 (pc o1 (pc c6 (pc c6 (pc c7 (pc (ltOf c7) (pc (len_set0 out ((rcalled).toNat) (⟨(s.getD ((x).toNat) TSpot.d).f_X,(s.getD ((x).toNat) TSpot.d).f_Y,(c.getD ((rcalled).toNat) TCall.d).f_Length,(c.getD ((rcalled).toNat) TCall.d).f_Beam⟩:Tberth_box)) (pc (len_set0 out ((rcalled).toNat) (⟨(s.getD ((x).toNat) TSpot.d).f_X,(s.getD ((x).toNat) TSpot.d).f_Y,(c.getD ((rcalled).toNat) TCall.d).f_Length,(c.getD ((rcalled).toNat) TCall.d).f_Beam⟩:Tberth_box)) (pc (get_set0 Tberth_box.cells Tberth_box.d out ((rcalled).toNat) (⟨(s.getD ((x).toNat) TSpot.d).f_X,(s.getD ((x).toNat) TSpot.d).f_Y,(c.getD ((rcalled).toNat) TCall.d).f_Length,(c.getD ((rcalled).toNat) TCall.d).f_Beam⟩:Tberth_box)) pn))))))))) ?_
      obtain ⟨c8,h⟩:=ifSome h
      obtain ⟨rinside,hr5,h⟩:=bindSome h
      refine Runs.nR hE 1 [(5,⟨[],true,(aB rinside),[],0,false,none⟩)] [] (kp [1,3,9,10,35,36,37,89]) (kq [0,1,2]) 915 (pc o1 (pc c8 (pc (ltOf c8) (pc (g_berth_inside_ok N d ((out.set ((rcalled).toNat) (⟨(s.getD ((x).toNat) TSpot.d).f_X,(s.getD ((x).toNat) TSpot.d).f_Y,(c.getD ((rcalled).toNat) TCall.d).f_Length,(c.getD ((rcalled).toNat) TCall.d).f_Beam⟩:Tberth_box)).getD ((rcalled).toNat) Tberth_box.d) rinside hr5) pn)))) ?_
      refine Runs.nC 0 89 h (fun hq8 h=>?_) (fun hq8 h=>?_)
      ·refine Runs.nR hE 1 [] [] (kp [6,7]) [] 947 pn ?_
       obtain rfl:=Option.some.inj h
       exact Runs.nT hE 0 Try.f39 [] ([(6,.sl (([]:List Tberth_box).length) (fun zi=>Tberth_box.cells (([]:List Tberth_box).getD zi Tberth_box.d)))] ++ kp [7]) [] 947 (pc (Eq.refl 0) pn) [] pn
      ·refine Runs.nR hE 2 [] [] (kp [1,3,9,10,35,36,37]) (kq [0,1,2]) 947 pn ?_
       exact Runs.nW hE 1 [] (kp [1,3,9,10,35,36,37]) (kq [0,1,2]) 3 pn (ih _ _ _ _ h E hE)
  ·refine Runs.nR hE 3 [] [] (kp [3,9,91,92,93]) (kq [0,1]) 67 pn ?_
   exact Runs.nW hE 2 [] (kp [3,9,91,92,93]) (kq [0,1]) 2 pn (g_berth_boxes_L2_ok N _ _ N _ _ h E hE)
theorem g_berth_boxes_ok (N:Nat) (d:TDock) (c:List TCall) (s:List TSpot) (r:(List Tberth_box)×Int) (h:g_berth_boxes N d c s=some r):Sound Try.prog 39 [(.agg (TDock.cells d)),(encL TCall.cells TCall.d c),(encL TSpot.cells TSpot.d s)] [] 0 (.tup [(encL Tberth_box.cells Tberth_box.d r.1),(aI r.2)]) []:=by
 unfold g_berth_boxes at h
 refine Sound.of_runs (fu:=Try.f39) (c:=C_67 1) (nt:=115) (by kernel_rfl) (by kernel_rfl) (by kernel_rfl) (by kernel_rfl) (fun hm=>rfl) ?_
 intro E hE
 refine Runs.nR hE 1 [] [] (kp [1,2,3]) (kq [0]) 48 pn ?_
 obtain ⟨rboth,hr,h⟩:=bindSome h
 refine Runs.nR hE 2 [(2,⟨[],true,(aI rboth),[],0,false,none⟩)] [] (kp [1,2,3,8]) (kq [0]) 112 (pc o1 (pc (g_berth_both_ok N d c rboth hr) pn)) ?_
 refine Runs.nR hE 1 [] [] (kp [1,2,3,8,22]) (kq [0]) 144 pn ?_
 refine Runs.nC 0 22 h (fun hq2 h=>?_) (fun hq2 h=>?_)
 ·refine Runs.nR hE 1 [] [] (kp [6,7]) [] 192 pn ?_
  obtain rfl:=Option.some.inj h
  exact Runs.nT hE 0 Try.f39 [] ([(6,.sl (([]:List Tberth_box).length) (fun zi=>Tberth_box.cells (([]:List Tberth_box).getD zi Tberth_box.d)))] ++ kp [7]) [] 192 (pc (Eq.refl 0) pn) [] pn
 ·refine Runs.nR hE 3 [] [] (kp [1,2,3,28]) (kq [0]) 224 pn ?_
  refine Runs.nC 0 28 h (fun hq3 h=>?_) (fun hq3 h=>?_)
  ·refine Runs.nR hE 1 [] [] (kp [6,7]) [] 256 pn ?_
   obtain rfl:=Option.some.inj h
   exact Runs.nT hE 0 Try.f39 [] ([(6,.sl (([]:List Tberth_box).length) (fun zi=>Tberth_box.cells (([]:List Tberth_box).getD zi Tberth_box.d)))] ++ kp [7]) [] 256 (pc (Eq.refl 0) pn) [] pn
  ·obtain ⟨c2,h⟩:=ifSome h
   refine Runs.nR hE 2 [] [] (kp [1,2,3] ++ [(9,.osl ((List.replicate c.length Tberth_box.d:List Tberth_box).length))]) (kq [0] ++ [(256,.arr 256 ((List.replicate c.length Tberth_box.d:List Tberth_box).length) (fun zi=>Tberth_box.cells ((List.replicate c.length Tberth_box.d:List Tberth_box).getD zi Tberth_box.d)))]) 288 (pc (show 0≤((c.length:Nat):Int) from c2.1) (pc (show ((c.length:Nat):Int)≤((c.length:Nat):Int) from (Int.le_refl _)) (pc (show (32:Int) * ((c.length:Nat):Int)≤281474976710656 from c2.2.1) (pc (show ((c.length:Nat):Int)≤9223372036854775807 from c2.2.2) (pc (show c.length=(List.replicate c.length Tberth_box.d:List Tberth_box).length from (List.length_replicate).symm) (pc (show c.length=(List.replicate c.length Tberth_box.d:List Tberth_box).length from (List.length_replicate).symm) (pc (show ∀ zi,zi < (List.replicate c.length Tberth_box.d:List Tberth_box).length→(fun zi=>Tberth_box.cells ((List.replicate c.length Tberth_box.d:List Tberth_box).getD zi Tberth_box.d)) zi=(fun _=>[(aI 0),(aI 0),(aI 0),(aI 0)]) zi from (fun zq hzq=>get_rep Tberth_box.cells Tberth_box.d Tberth_box.d c.length zq hzq)) pn))))))) ?_
   obtain ⟨c3,h⟩:=ifSome h
   refine Runs.nR hE 1 [] [] (kp [1,2,3,9] ++ [(10,.osl ((List.replicate c.length false:List Bool).length))]) (kq [0,256] ++ [(320,.arr 320 ((List.replicate c.length false:List Bool).length) (fun zi=>cB ((List.replicate c.length false:List Bool).getD zi false)))]) 352 (pc (show 0≤((c.length:Nat):Int) from c3.1) (pc (show ((c.length:Nat):Int)≤((c.length:Nat):Int) from (Int.le_refl _)) (pc (show (1:Int) * ((c.length:Nat):Int)≤281474976710656 from c3.2.1) (pc (show ((c.length:Nat):Int)≤9223372036854775807 from c3.2.2) (pc (show c.length=(List.replicate c.length false:List Bool).length from (List.length_replicate).symm) (pc (show c.length=(List.replicate c.length false:List Bool).length from (List.length_replicate).symm) (pc (show ∀ zi,zi < (List.replicate c.length false:List Bool).length→(fun zi=>cB ((List.replicate c.length false:List Bool).getD zi false)) zi=(fun _=>[(aB false)]) zi from (fun zq hzq=>get_rep cB false false c.length zq hzq)) pn))))))) ?_
   refine Runs.nR hE 2 [] [] (kp [1,3,9,10,35,36,37]) (kq [0,256,320]) 400 pn ?_
   exact Runs.nW hE 2 [] (kp [1,3,9,10,35,36,37]) (kq [0] ++ [(1,.keep 256),(2,.keep 320)]) 3 pn (g_berth_boxes_L1_ok N _ _ _ N _ _ _ _ h E hE)
noncomputable def C_66 (n:Nat):Code:=cat (bodyOf Try.f13) (pth n)
theorem g_berth_CheckPlan_ok (N:Nat) (d:TDock) (c:List TCall) (s:List TSpot) (r:Int) (h:g_berth_CheckPlan N d c s=some r):Sound Try.prog 13 [(.agg (TDock.cells d)),(encL TCall.cells TCall.d c),(encL TSpot.cells TSpot.d s)] [] 0 (aI r) []:=by
 unfold g_berth_CheckPlan at h
 refine Sound.of_runs (fu:=Try.f13) (c:=C_66 1) (nt:=17) (by kernel_rfl) (by kernel_rfl) (by kernel_rfl) (by kernel_rfl) (fun hm=>rfl) ?_
 intro E hE
 refine Runs.nR hE 1 [] [] (kp [1,2,3]) (kq [0]) 32 pn ?_
 obtain ⟨rboxes,hr,h⟩:=bindSome h
 refine Runs.nR hE 1 [(3,⟨[],true,(.tup [(encL Tberth_box.cells Tberth_box.d rboxes.1),(aI rboxes.2)]),[],0,false,none⟩)] [] (kp [8]) [] 176 (pc o1 (pc (g_berth_boxes_ok N d c s rboxes hr) pn)) ?_
 refine Runs.nR hE 1 [] [] (kp [6]) [] 208 pn ?_
 obtain rfl:=Option.some.inj h
 exact Runs.nT hE 0 Try.f13 [] (kp [6]) [] 208 pn [] pn
noncomputable def C_72 (n:Nat):Code:=cat (bodyOf Try.f14) (pth n)
def g_w06_Plan_short_L1_H (N:Nat) (p:Tw06_Plan) (K:Int→Option (Bool)):Prop:=∀ (i:Int) (r:Bool),K i=some r→∀ E,EnvOk E 0→Runs Try.prog E 14 32 (SPost E [] (aB r)) [.code (C_72 116),.inLoop (C_72 116),.inBlock 0,.code (C_72 15)] ⟨[(1,(.op 0 0 0)),(3,(aI i))],[(0,vO 8 (Tw06_Plan.cells p))],1⟩
theorem g_w06_Plan_short_L1_ok (N:Nat) (p:Tw06_Plan) (fuel:Nat):g_w06_Plan_short_L1_H N p (g_w06_Plan_short_L1 N p fuel):=by
 induction fuel with
 | zero=>intro _ r h;rw [g_w06_Plan_short_L1.eq_1] at h;cases h
 | succ fuel ih =>
  intro i r h E hE
  rw [g_w06_Plan_short_L1.eq_2] at h
  refine Runs.nR hE 2 [] [] (kp [1,3,21]) (kq [0]) 81 (pc o1 pn) ?_
  refine Runs.nC 0 21 h (fun hq3 h=>?_) (fun hq3 h=>?_)
  ·obtain ⟨c,h⟩:=ifSome h
   refine Runs.nR hE 4 [] [] (kp [1,3,31]) (kq [0]) 209 (pc o1 (pc c pn)) ?_
   refine Runs.nC 0 31 h (fun hq4 h=>?_) (fun hq4 h=>?_)
   ·refine Runs.nR hE 1 [] [] (kp [2]) [] 225 pn ?_
    obtain rfl:=Option.some.inj h
    exact Runs.nT hE 0 Try.f14 [] (kp [2]) [] 225 pn [] pn
   ·refine Runs.nR hE 2 [] [] (kp [1,3]) (kq [0]) 257 pn ?_
    exact Runs.nW hE 1 [] (kp [1,3]) (kq [0]) 1 pn (ih _ _ h E hE)
  ·refine Runs.nR hE 2 [] [] (kp [2]) [] 97 pn ?_
   obtain rfl:=Option.some.inj h
   exact Runs.nT hE 0 Try.f14 [] (kp [2]) [] 97 pn [] pn
theorem g_w06_Plan_short_ok (N:Nat) (p:Tw06_Plan) (r:Bool) (h:g_w06_Plan_short N p=some r):Sound Try.prog 14 [(.agg (Tw06_Plan.cells p))] [] 0 (aB r) []:=by
 unfold g_w06_Plan_short at h
 refine Sound.of_runs (fu:=Try.f14) (c:=C_72 1) (nt:=32) (by kernel_rfl) (by kernel_rfl) (by kernel_rfl) (by kernel_rfl) (fun hm=>rfl) ?_
 intro E hE
 refine Runs.nR hE 1 [] [] (kp [1]) (kq [0]) 32 pn ?_
 obtain ⟨rNames,hr,h⟩:=bindSome h
 refine Runs.nR hE 2 [(5,⟨[],true,(aB rNames),[],0,false,none⟩)] [] (kp [1,16]) (kq [0]) 240 (pc o1 (pc o1 (pc (show Sound Try.prog 9 [(.sl 1 (fun zi=>(fun zi=>([[(aS p.f_Dock.f_Name),(aI p.f_Dock.f_Length),(aI p.f_Dock.f_Width),(aI p.f_Dock.f_Sill),(aI p.f_Dock.f_Floor),(aI p.f_Dock.f_Gap)]]:List (List AV)).getD zi []) (addz 0 zi))),(encL TCall.cells TCall.d p.f_Calls)] [] 0 (aB rNames) [] from (Sound.conv (g_w06_Names_ok N ([p.f_Dock]:List TDock) p.f_Calls rNames hr) (.cons (Alike.sl rfl (fun zq hzq=>get_chunk TDock.cells TDock.d ([p.f_Dock]:List TDock) zq hzq)) (.cons (Alike.refl _) .nil)))) (pc (z1 1) (pc (fun hg:(!(!rNames))=true=>(pc hg (pc o1 pn))) (pc (fun hg:(!(!rNames))=true=>(pc hg pn)) (pc (fun hg:(!(!rNames))=true=>(pc hg pn)) (pc (fun hq:(!(!rNames))=true=>(pc hq pn)) pn)))))))) ?_
 refine Runs.nC 0 16 h (fun hq2 h=>?_) (fun hq2 h=>?_)
 ·refine Runs.nR hE 1 [] [] (kp [2]) [] 256 pn ?_
  obtain rfl:=Option.some.inj h
  exact Runs.nT hE 0 Try.f14 [] (kp [2]) [] 256 pn [] pn
 ·refine Runs.nR hE 3 [] [] (kp [1,3]) (kq [0]) 256 pn ?_
  exact Runs.nW hE 2 [] (kp [1,3]) (kq [0]) 1 pn (g_w06_Plan_short_L1_ok N _ N _ _ h E hE)
noncomputable def C_71 (n:Nat):Code:=cat (bodyOf Try.f4) (pth n)
theorem g_w06_BerthAll_ok (N:Nat) (p:Tw06_Plan) (longer:Int) (wider:Int) (r:Bool) (h:g_w06_BerthAll N p longer wider=some r):Sound Try.prog 4 [(.agg (Tw06_Plan.cells p)),(aI longer),(aI wider)] [] 0 (aB r) []:=by
 unfold g_w06_BerthAll at h
 refine Sound.of_runs (fu:=Try.f4) (c:=C_71 1) (nt:=84) (by kernel_rfl) (by kernel_rfl) (by kernel_rfl) (by kernel_rfl) (fun hm=>rfl) ?_
 intro E hE
 refine Runs.nR hE 1 [] [] (kp [1,2,3]) (kq [0]) 32 pn ?_
 obtain ⟨rawake,hr,h⟩:=bindSome h
 refine Runs.nR hE 2 [(0,⟨[],true,(aB rawake),[],0,false,none⟩)] [] (kp [1,2,3,13]) (kq [0]) 64 (pc (g_w06_awake_ok N rawake hr) pn) ?_
 refine Runs.nC 0 13 h (fun hq2 h=>?_) (fun hq2 h=>?_)
 ·refine Runs.nR hE 1 [] [] (kp [6]) [] 80 pn ?_
  obtain rfl:=Option.some.inj h
  exact Runs.nT hE 0 Try.f4 [] (kp [6]) [] 80 pn [] pn
 ·obtain ⟨rshort,hr2,h⟩:=bindSome h
  obtain ⟨rCheckPlan,hr3,h⟩:=bindSome h
  refine Runs.nR hE 3 [(1,⟨[],true,(aB rshort),[],0,false,none⟩),(32,⟨[],true,(aI rCheckPlan),[],0,false,none⟩)] [] (kp [1,2,3,48]) (kq [0]) 624 (pc o1 (pc (g_w06_Plan_short_ok N p rshort hr2) (pc (fun hg:(!(!rshort))=true=>(pc hg (pc o1 pn))) (pc (fun hg:(!(!rshort))=true=>(pc hg pn)) (pc (fun hg:(!(!rshort))=true=>(pc hg pn)) (pc (fun hq:(!(!rshort))=true=>(pc hq pn)) (pc (fun hg:(!(cond (!rshort) true (decide (((p.f_Calls.length:Nat):Int) > 3))))=true=>(pc hg pn)) (pc (fun hq:(!(cond (!rshort) true (decide (((p.f_Calls.length:Nat):Int) > 3))))=true=>(pc hq pn)) (pc (fun hg:(!(cond (cond (!rshort) true (decide (((p.f_Calls.length:Nat):Int) > 3))) true (decide (longer < 0))))=true=>(pc hg pn)) (pc (fun hq:(!(cond (cond (!rshort) true (decide (((p.f_Calls.length:Nat):Int) > 3))) true (decide (longer < 0))))=true=>(pc hq pn)) (pc (fun hg:(!(cond (cond (cond (!rshort) true (decide (((p.f_Calls.length:Nat):Int) > 3))) true (decide (longer < 0))) true (decide (wider < 0))))=true=>(pc hg pn)) (pc (fun hq:(!(cond (cond (cond (!rshort) true (decide (((p.f_Calls.length:Nat):Int) > 3))) true (decide (longer < 0))) true (decide (wider < 0))))=true=>(pc hq pn)) (pc (fun hg:(!(cond (cond (cond (cond (!rshort) true (decide (((p.f_Calls.length:Nat):Int) > 3))) true (decide (longer < 0))) true (decide (wider < 0))) true (decide (longer > 1000))))=true=>(pc hg pn)) (pc (fun hq:(!(cond (cond (cond (cond (!rshort) true (decide (((p.f_Calls.length:Nat):Int) > 3))) true (decide (longer < 0))) true (decide (wider < 0))) true (decide (longer > 1000))))=true=>(pc hq pn)) (pc (fun hg:(!(cond (cond (cond (cond (cond (!rshort) true (decide (((p.f_Calls.length:Nat):Int) > 3))) true (decide (longer < 0))) true (decide (wider < 0))) true (decide (longer > 1000))) true (decide (wider > 1000))))=true=>(pc hg (pc o1 pn))) (pc (fun hg:(!(cond (cond (cond (cond (cond (!rshort) true (decide (((p.f_Calls.length:Nat):Int) > 3))) true (decide (longer < 0))) true (decide (wider < 0))) true (decide (longer > 1000))) true (decide (wider > 1000))))=true=>(pc hg (pc o1 pn))) (pc (fun hg:(!(cond (cond (cond (cond (cond (!rshort) true (decide (((p.f_Calls.length:Nat):Int) > 3))) true (decide (longer < 0))) true (decide (wider < 0))) true (decide (longer > 1000))) true (decide (wider > 1000))))=true=>(pc hg (pc o1 pn))) (pc (fun hg:(!(cond (cond (cond (cond (cond (!rshort) true (decide (((p.f_Calls.length:Nat):Int) > 3))) true (decide (longer < 0))) true (decide (wider < 0))) true (decide (longer > 1000))) true (decide (wider > 1000))))=true=>(pc (g_berth_CheckPlan_ok N p.f_Dock p.f_Calls p.f_Spots rCheckPlan (condT hr3 hg)) (pc hg (pc hg (pc hg pn))))) (pc (fun hg:(!(cond (cond (cond (cond (cond (!rshort) true (decide (((p.f_Calls.length:Nat):Int) > 3))) true (decide (longer < 0))) true (decide (wider < 0))) true (decide (longer > 1000))) true (decide (wider > 1000))))=true=>(pc hg pn)) (pc (fun hq:(!(cond (cond (cond (cond (cond (!rshort) true (decide (((p.f_Calls.length:Nat):Int) > 3))) true (decide (longer < 0))) true (decide (wider < 0))) true (decide (longer > 1000))) true (decide (wider > 1000))))=true=>(pc hq pn)) pn)))))))))))))))))))) ?_
  refine Runs.nC 0 48 h (fun hq3 h=>?_) (fun hq3 h=>?_)
  ·refine Runs.nR hE 1 [] [] (kp [6]) [] 640 pn ?_
   obtain rfl:=Option.some.inj h
   exact Runs.nT hE 0 Try.f4 [] (kp [6]) [] 640 pn [] pn
  ·refine Runs.nR hE 2 [] [] (kp [1,2,3,7]) (kq [0,656]) 688 (pc o1 (pc o1 pn)) ?_
   refine Runs.nR hE 1 [] [] (kp [3,7]) (kq [0,656]) 912 (pc o1 (pc o1 (pc o1 (pc o1 pn)))) ?_
   obtain ⟨rPlace,hr4,h⟩:=bindSome h
   refine Runs.nR hE 1 [(4,⟨[],true,(.tup [(encL TSpot.cells TSpot.d rPlace.1),(aI rPlace.2)]),[],0,false,none⟩)] [] (kp [3,7,9]) (kq [0,656]) 1072 (pc o1 (pc o1 (pc (g_berth_Place_ok N p.f_Dock p.f_Calls rPlace hr4) pn))) ?_
   obtain ⟨rPlace2,hr5,h⟩:=bindSome h
   refine Runs.nR hE 1 [(3,⟨[],true,(.tup [(encL TSpot.cells TSpot.d rPlace2.1),(aI rPlace2.2)]),[],0,false,none⟩)] [] (kp [9,11]) [] 1216 (pc o1 (pc o1 (pc (g_berth_Place_ok N (⟨p.f_Dock.f_Name,(if (1000000:Int) < (w64 (p.f_Dock.f_Length+longer)) then 1000000 else (w64 (p.f_Dock.f_Length+longer))),(if (1000000:Int) < (w64 (p.f_Dock.f_Width+wider)) then 1000000 else (w64 (p.f_Dock.f_Width+wider))),p.f_Dock.f_Sill,p.f_Dock.f_Floor,p.f_Dock.f_Gap⟩:TDock) p.f_Calls rPlace2 hr5) pn))) ?_
   refine Runs.nR hE 1 [] [] (kp [6]) [] 1328 (pc (fun hg:(rPlace.2 == 0)=true=>(pc hg pn)) (pc (fun hq:(rPlace.2 == 0)=true=>(pc hq pn)) pn)) ?_
   obtain rfl:=Option.some.inj h
   exact Runs.nT hE 0 Try.f4 [] (kp [6]) [] 1328 pn [] pn
end Go.Den
