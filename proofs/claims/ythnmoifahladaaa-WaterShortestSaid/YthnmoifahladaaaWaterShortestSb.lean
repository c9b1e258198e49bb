/- Each function of the program does what its Lean function computes (part 2). No conditions. -/
import Derived.Test.YthnmoifahladaaaWaterShortestSa
import Derived.Test.YthnmoifahladaaaProg
set_option linter.unusedVariables false
set_option maxRecDepth 100000
namespace Go.Den
open Go.Ab Go.Proofs
noncomputable def C_59 (n:Nat):Code:=cat (bodyOf Try.f23) (pth n)
theorem g_water_open_ok (N:Nat) (p:TPontoon) (l:TLimits) (a:TAim) (r:Twater_plan×Int) (h:g_water_open N p l a=some r):Sound Try.prog 23 [(.agg (TPontoon.cells p)),(.agg (TLimits.cells l)),(.agg (TAim.cells a))] [] 0 (.tup [(.agg (Twater_plan.cells r.1)),(aI r.2)]) []:=by
 unfold g_water_open at h
 refine Sound.of_runs (fu:=Try.f23) (c:=C_59 1) (nt:=65) (by kernel_rfl) (by kernel_rfl) (by kernel_rfl) (by kernel_rfl) (fun hm=>rfl) ?_
 intro E hE
 refine Runs.nR hE 1 [] [] (kp [3,4,5,6]) (kq [0,16,32,48]) 80 pn ?_
 obtain ⟨rCheckPontoon,hr,h⟩:=bindSome h
 refine Runs.nR hE 2 [(1,⟨[],true,(aI rCheckPontoon),[],0,false,none⟩)] [] (kp [3,4,5,6,8]) (kq [0,16,32,48]) 128 (pc o1 (pc (g_water_CheckPontoon_ok N p rCheckPontoon hr) pn)) ?_
 refine Runs.nR hE 1 [] [] (kp [3,4,5,6,8,16]) (kq [0,16,32,48]) 160 pn ?_
 refine Runs.nC 0 16 h (fun hq2 h=>?_) (fun hq2 h=>?_)
 ·refine Runs.nR hE 1 [] [] (kp [6,7]) (kq [48]) 224 (pc o1 pn) ?_
  obtain rfl:=Option.some.inj h
  exact Runs.nT hE 0 Try.f23 [] (kp [6,7]) [(16,.var 48 [.keep,.keep,.keep,.sl (([]:List TPointMass).length) (fun zi=>TPointMass.cells (([]:List TPointMass).getD zi TPointMass.d)),.sl (([]:List TTank).length) (fun zi=>TTank.cells (([]:List TTank).getD zi TTank.d)),.keep,.keep,.keep,.keep,.keep,.keep,.keep,.keep,.keep,.keep,.keep,.keep,.keep])] 224 (pc (Eq.refl 0) (pc (Eq.refl 0) pn)) [16] (pc o1 pn)
 ·obtain ⟨rcheckLimits,hr2,h⟩:=bindSome h
  refine Runs.nR hE 3 [(1,⟨[],true,(aI rcheckLimits),[],0,false,none⟩)] [] (kp [3,4,5,6,9]) (kq [0,16,32,48]) 208 (pc o1 (pc (g_water_checkLimits_ok N l rcheckLimits hr2) pn)) ?_
  refine Runs.nR hE 1 [] [] (kp [3,4,5,6,9,22]) (kq [0,16,32,48]) 240 pn ?_
  refine Runs.nC 0 22 h (fun hq3 h=>?_) (fun hq3 h=>?_)
  ·refine Runs.nR hE 1 [] [] (kp [6,7]) (kq [48]) 304 (pc o1 pn) ?_
   obtain rfl:=Option.some.inj h
   exact Runs.nT hE 0 Try.f23 [] (kp [6,7]) [(16,.var 48 [.keep,.keep,.keep,.sl (([]:List TPointMass).length) (fun zi=>TPointMass.cells (([]:List TPointMass).getD zi TPointMass.d)),.sl (([]:List TTank).length) (fun zi=>TTank.cells (([]:List TTank).getD zi TTank.d)),.keep,.keep,.keep,.keep,.keep,.keep,.keep,.keep,.keep,.keep,.keep,.keep,.keep])] 304 (pc (Eq.refl 0) (pc (Eq.refl 0) pn)) [16] (pc o1 pn)
  ·obtain ⟨rcheckSteps,hr3,h⟩:=bindSome h
   refine Runs.nR hE 2 [(3,⟨[],true,(.tup [(.agg (Twater_state.cells rcheckSteps.1)),(aI rcheckSteps.2)]),[],0,false,none⟩)] [] (kp [3,4,5,6,10,11]) (kq [0,16,32,48,352]) 400 (pc o1 (pc o1 (pc (g_water_checkSteps_ok N p a.f_Start rcheckSteps hr3) (pc o1 pn)))) ?_
   refine Runs.nR hE 2 [] [] (kp [3,4,5,6,10,11,33]) (kq [0,16,32,48,352]) 432 pn ?_
   refine Runs.nC 0 33 h (fun hq4 h=>?_) (fun hq4 h=>?_)
   ·refine Runs.nR hE 1 [] [] (kp [6,7]) (kq [48]) 496 (pc o1 pn) ?_
    obtain rfl:=Option.some.inj h
    exact Runs.nT hE 0 Try.f23 [] (kp [6,7]) [(16,.var 48 [.keep,.keep,.keep,.sl (([]:List TPointMass).length) (fun zi=>TPointMass.cells (([]:List TPointMass).getD zi TPointMass.d)),.sl (([]:List TTank).length) (fun zi=>TTank.cells (([]:List TTank).getD zi TTank.d)),.keep,.keep,.keep,.keep,.keep,.keep,.keep,.keep,.keep,.keep,.keep,.keep,.keep])] 496 (pc (Eq.refl 0) (pc (Eq.refl 0) pn)) [16] (pc o1 pn)
   ·obtain ⟨rbetween,hr4,h⟩:=bindSome h
    obtain ⟨rbetween2,hr5,h⟩:=bindSome h
    refine Runs.nR hE 3 [(2,⟨[],true,(aB rbetween),[],0,false,none⟩),(7,⟨[],true,(aB rbetween2),[],0,false,none⟩)] [] (kp [3,4,5,6,10,45]) (kq [0,16,32,48,352]) 592 (pc o1 (pc (g_water_between_ok N a.f_DraughtLeast 0 1000000 rbetween hr4) (pc (fun hg:(!(!rbetween))=true=>(pc hg (pc o1 pn))) (pc (fun hg:(!(!rbetween))=true=>(pc (g_water_between_ok N a.f_DraughtMost 0 1000000 rbetween2 (condT hr5 hg)) (pc hg pn))) (pc (fun hg:(!(!rbetween))=true=>(pc hg pn)) (pc (fun hq:(!(!rbetween))=true=>(pc hq pn)) pn)))))) ?_
    refine Runs.nC 0 45 h (fun hq5 h=>?_) (fun hq5 h=>?_)
    ·refine Runs.nR hE 1 [] [] (kp [6,7]) (kq [48]) 640 (pc o1 pn) ?_
     obtain rfl:=Option.some.inj h
     exact Runs.nT hE 0 Try.f23 [] (kp [6,7]) [(16,.var 48 [.keep,.keep,.keep,.sl (([]:List TPointMass).length) (fun zi=>TPointMass.cells (([]:List TPointMass).getD zi TPointMass.d)),.sl (([]:List TTank).length) (fun zi=>TTank.cells (([]:List TTank).getD zi TTank.d)),.keep,.keep,.keep,.keep,.keep,.keep,.keep,.keep,.keep,.keep,.keep,.keep,.keep])] 640 (pc (Eq.refl 0) (pc (Eq.refl 0) pn)) [16] (pc o1 pn)
    ·obtain ⟨rboundsOf,hr6,h⟩:=bindSome h
     refine Runs.nR hE 2 [(3,⟨[],true,(.agg (Twater_bounds.cells rboundsOf)),[],0,false,none⟩)] [] (kp [3,5,6,12]) (kq [0,32,48,688]) 720 (pc o1 (pc o1 (pc o1 (pc (g_water_boundsOf_ok N p l rboundsOf hr6) (pc o1 (pc o1 pn)))))) ?_
     obtain ⟨rdraughts,hr7,h⟩:=bindSome h
     refine Runs.nR hE 1 [(5,⟨[],true,(.tup [(aI rdraughts.1),(aI rdraughts.2)]),[],0,false,none⟩)] [] (kp [6,12]) (kq [48,688]) 928 (pc o1 (pc o1 (pc o1 (pc (g_water_draughts_ok N p a.f_DraughtLeast a.f_DraughtMost rdraughts hr7) (pc o1 (pc o1 pn)))))) ?_
     refine Runs.nR hE 1 [] [] (kp [6,7]) (kq [48]) 976 (pc o1 (pc o1 pn)) ?_
     obtain rfl:=Option.some.inj h
     exact Runs.nT hE 0 Try.f23 [] (kp [6,7]) [(16,.keep 48)] 976 pn [16] (pc o1 pn)
noncomputable def C_70 (n:Nat):Code:=cat (bodyOf Try.f24) (pth n)
def g_water_many_L1_H (N:Nat) (p:TPontoon) (K:Int→Int→Option (Int)):Prop:=∀ (n:Int) (x:Int) (r:Int),K n x=some r→∀ E,EnvOk E 0→Runs Try.prog E 24 20 (SPost E [] (aI r)) [.code (C_70 116),.inLoop (C_70 116),.inBlock 0,.code (C_70 15)] ⟨[(3,(aI n)),(7,(encL TTank.cells TTank.d p.f_Tanks)),(8,(aI ((p.f_Tanks.length:Nat):Int))),(9,(aI x))],[],0⟩
theorem g_water_many_L1_ok (N:Nat) (p:TPontoon) (fuel:Nat):g_water_many_L1_H N p (g_water_many_L1 N p fuel):=by
 induction fuel with
 | zero=>intro _ _ r h;rw [g_water_many_L1.eq_1] at h;cases h
 | succ fuel ih =>
  intro n x r h E hE
  rw [g_water_many_L1.eq_2] at h
  refine Runs.nR hE 1 [] [] (kp [3,7,8,9,10]) [] 16 pn ?_
  refine Runs.nC 1 10 h (fun hq2 h=>?_) (fun hq2 h=>?_)
  ·obtain ⟨c,h⟩:=ifSome h
   refine Runs.nR hE 4 [] [] (kp [3,5,7,8,9]) (kq [48]) 80 (pc c (pc o1 pn)) ?_
   refine Runs.nR hE 0 [] [] (kp [3,7,8,9]) [] 176 (pc o1 pn) ?_
   refine Runs.nR hE 1 [] [] (kp [3,7,8,9]) [] 208 pn ?_
   exact Runs.nW hE 1 [] (kp [3,7,8,9]) [] 0 pn (ih _ _ _ h E hE)
  ·refine Runs.nR hE 2 [] [] (kp [2]) [] 48 pn ?_
   obtain rfl:=Option.some.inj h
   exact Runs.nT hE 0 Try.f24 [] (kp [2]) [] 48 pn [] pn
theorem g_water_many_ok (N:Nat) (p:TPontoon) (r:Int) (h:g_water_many N p=some r):Sound Try.prog 24 [(.agg (TPontoon.cells p))] [] 0 (aI r) []:=by
 unfold g_water_many at h
 refine Sound.of_runs (fu:=Try.f24) (c:=C_70 1) (nt:=20) (by kernel_rfl) (by kernel_rfl) (by kernel_rfl) (by kernel_rfl) (fun hm=>rfl) ?_
 intro E hE
 refine Runs.nR hE 1 [] [] (kp [1]) (kq [0]) 32 pn ?_
 refine Runs.nR hE 1 [] [] (kp [1,3]) (kq [0]) 48 pn ?_
 refine Runs.nR hE 2 [] [] (kp [3,7,8,9]) [] 112 (pc o1 pn) ?_
 exact Runs.nW hE 2 [] (kp [3,7,8,9]) [] 0 pn (g_water_many_L1_ok N _ N _ _ _ h E hE)
noncomputable def C_72 (n:Nat):Code:=cat (bodyOf Try.f48) (pth n)
def g_water_bounds_kept_J1_H (N:Nat) (b:Twater_bounds) (p:TPontoon) (rsumOf:Twater_sums) (K:Int→Option (Int)):Prop:=∀ (out:Int) (r:Int),K out=some r→∀ E,EnvOk E 0→Runs Try.prog E 48 59 (SPost E [] (aI r)) [.code (C_72 124),.code (C_72 125),.code (C_72 63)] ⟨[(3,(.op 0 0 0)),(4,(.op 1 0 0)),(7,(.op 2 0 0)),(8,(aI out))],[(0,vO 5 (Twater_bounds.cells b)),(1,vO 5 (TPontoon.cells p)),(2,vO 4 (Twater_sums.cells rsumOf))],3⟩
def g_water_bounds_kept_J2_H (N:Nat) (b:Twater_bounds) (p:TPontoon) (rsumOf:Twater_sums) (K:Int→Option (Int)):Prop:=∀ (out2:Int) (r:Int),K out2=some r→∀ E,EnvOk E 0→Runs Try.prog E 48 59 (SPost E [] (aI r)) [.code (C_72 252),.code (C_72 253),.code (C_72 127)] ⟨[(3,(.op 0 0 0)),(4,(.op 1 0 0)),(7,(.op 2 0 0)),(8,(aI out2))],[(0,vO 5 (Twater_bounds.cells b)),(1,vO 5 (TPontoon.cells p)),(2,vO 4 (Twater_sums.cells rsumOf))],3⟩
def g_water_bounds_kept_J3_H (N:Nat) (b:Twater_bounds) (p:TPontoon) (rsumOf:Twater_sums) (K:Int→Option (Int)):Prop:=∀ (out3:Int) (r:Int),K out3=some r→∀ E,EnvOk E 0→Runs Try.prog E 48 59 (SPost E [] (aI r)) [.code (C_72 508),.code (C_72 509),.code (C_72 255)] ⟨[(3,(.op 0 0 0)),(4,(.op 1 0 0)),(7,(.op 2 0 0)),(8,(aI out3))],[(0,vO 5 (Twater_bounds.cells b)),(1,vO 5 (TPontoon.cells p)),(2,vO 4 (Twater_sums.cells rsumOf))],3⟩
def g_water_bounds_kept_J4_H (N:Nat) (K:Int→Option (Int)):Prop:=∀ (out4:Int) (r:Int),K out4=some r→∀ E,EnvOk E 0→Runs Try.prog E 48 59 (SPost E [] (aI r)) [.code (C_72 510),.code (C_72 511)] ⟨[(8,(aI out4))],[],0⟩
theorem g_water_bounds_kept_J4_ok (N:Nat):g_water_bounds_kept_J4_H N (g_water_bounds_kept_J4 N):=by
 intro out4 r h E hE
 unfold g_water_bounds_kept_J4 at h
 refine Runs.nR hE 0 [] [] (kp [6]) [] 32 pn ?_
 obtain rfl:=Option.some.inj h
 exact Runs.nT hE 0 Try.f48 [] (kp [6]) [] 48 pn [] pn
theorem g_water_bounds_kept_J3_ok (N:Nat) (b:Twater_bounds) (p:TPontoon) (rsumOf:Twater_sums):g_water_bounds_kept_J3_H N b p rsumOf (g_water_bounds_kept_J3 N b p rsumOf):=by
 intro out3 r h E hE
 unfold g_water_bounds_kept_J3 at h
 obtain ⟨rbetween4,hr5,h⟩:=bindSome h
 refine Runs.nR hE 0 [(14,⟨[],true,(aB rbetween4),[],0,false,none⟩)] [] (kp [8,55]) [] 243 (pc o1 (pc o1 (pc o1 (pc o1 (pc o1 (pc (g_water_between_ok N (w64 ((w64 (4 * rsumOf.f_arm)) - (w64 (rsumOf.f_mass * p.f_Length)))) (w64 (0 - b.f_hog)) b.f_hog rbetween4 hr5) pn)))))) ?_
 refine Runs.nC 0 55 h (fun hq5 h=>?_) (fun hq5 h=>?_)
 ·refine Runs.nR hE 0 [] [] (kp [8]) [] 291 pn ?_
  exact Runs.nW hE 1 [] (kp [8]) [] 0 pn (g_water_bounds_kept_J4_ok N _ _ h E hE)
 ·exact Runs.nW hE 2 [] (kp [8]) [] 0 pn (g_water_bounds_kept_J4_ok N _ _ h E hE)
theorem g_water_bounds_kept_J2_ok (N:Nat) (b:Twater_bounds) (p:TPontoon) (rsumOf:Twater_sums):g_water_bounds_kept_J2_H N b p rsumOf (g_water_bounds_kept_J2 N b p rsumOf):=by
 intro out2 r h E hE
 unfold g_water_bounds_kept_J2 at h
 obtain ⟨rbetween3,hr4,h⟩:=bindSome h
 refine Runs.nR hE 0 [(7,⟨[],true,(aB rbetween3),[],0,false,none⟩)] [] (kp [3,4,7,8,38]) (kq [0,1,2]) 131 (pc o1 (pc o1 (pc o1 (pc (g_water_between_ok N rsumOf.f_y (w64 (0 - b.f_y)) b.f_y rbetween3 hr4) pn)))) ?_
 refine Runs.nC 0 38 h (fun hq4 h=>?_) (fun hq4 h=>?_)
 ·refine Runs.nR hE 0 [] [] (kp [3,4,7,8]) (kq [0,1,2]) 179 pn ?_
  exact Runs.nW hE 2 [] (kp [3,4,7,8]) (kq [0,1,2]) 3 pn (g_water_bounds_kept_J3_ok N _ _ _ _ _ h E hE)
 ·exact Runs.nW hE 3 [] (kp [3,4,7,8]) (kq [0,1,2]) 3 pn (g_water_bounds_kept_J3_ok N _ _ _ _ _ h E hE)
theorem g_water_bounds_kept_J1_ok (N:Nat) (b:Twater_bounds) (p:TPontoon) (rsumOf:Twater_sums):g_water_bounds_kept_J1_H N b p rsumOf (g_water_bounds_kept_J1 N b p rsumOf):=by
 intro out r h E hE
 unfold g_water_bounds_kept_J1 at h
 obtain ⟨rbetween2,hr3,h⟩:=bindSome h
 refine Runs.nR hE 0 [(7,⟨[],true,(aB rbetween2),[],0,false,none⟩)] [] (kp [3,4,7,8,28]) (kq [0,1,2]) 131 (pc o1 (pc o1 (pc o1 (pc (g_water_between_ok N rsumOf.f_x (w64 (0 - b.f_x)) b.f_x rbetween2 hr3) pn)))) ?_
 refine Runs.nC 0 28 h (fun hq3 h=>?_) (fun hq3 h=>?_)
 ·refine Runs.nR hE 0 [] [] (kp [3,4,7,8]) (kq [0,1,2]) 179 pn ?_
  exact Runs.nW hE 2 [] (kp [3,4,7,8]) (kq [0,1,2]) 3 pn (g_water_bounds_kept_J2_ok N _ _ _ _ _ h E hE)
 ·exact Runs.nW hE 3 [] (kp [3,4,7,8]) (kq [0,1,2]) 3 pn (g_water_bounds_kept_J2_ok N _ _ _ _ _ h E hE)
theorem g_water_bounds_kept_ok (N:Nat) (b:Twater_bounds) (p:TPontoon) (s:Twater_state) (r:Int) (h:g_water_bounds_kept N b p s=some r):Sound Try.prog 48 [(.agg (Twater_bounds.cells b)),(.agg (TPontoon.cells p)),(.agg (Twater_state.cells s))] [] 0 (aI r) []:=by
 unfold g_water_bounds_kept at h
 refine Sound.of_runs (fu:=Try.f48) (c:=C_72 1) (nt:=59) (by kernel_rfl) (by kernel_rfl) (by kernel_rfl) (by kernel_rfl) (fun hm=>rfl) ?_
 intro E hE
 refine Runs.nR hE 1 [] [] (kp [3,4,5]) (kq [0,16,32]) 64 pn ?_
 obtain ⟨rsumOf,hr,h⟩:=bindSome h
 refine Runs.nR hE 1 [(2,⟨[],true,(.agg (Twater_sums.cells rsumOf)),[],0,false,none⟩)] [] (kp [3,4,7]) (kq [0,16,112]) 144 (pc o1 (pc o1 (pc (g_water_sumOf_ok N p s rsumOf hr) (pc o1 pn)))) ?_
 refine Runs.nR hE 1 [] [] (kp [3,4,7,8]) (kq [0,16,112]) 160 pn ?_
 obtain ⟨rbetween,hr2,h⟩:=bindSome h
 refine Runs.nR hE 2 [(6,⟨[],true,(aB rbetween),[],0,false,none⟩)] [] (kp [3,4,7,8,18]) (kq [0,16,112]) 272 (pc o1 (pc o1 (pc o1 (pc (g_water_between_ok N rsumOf.f_mass b.f_low b.f_high rbetween hr2) pn)))) ?_
 refine Runs.nC 0 18 h (fun hq2 h=>?_) (fun hq2 h=>?_)
 ·refine Runs.nR hE 0 [] [] (kp [3,4,7,8]) (kq [0,16,112]) 320 pn ?_
  exact Runs.nW hE 2 [] (kp [3,4,7,8]) (kq [0] ++ [(1,.keep 16),(2,.keep 112)]) 3 pn (g_water_bounds_kept_J1_ok N _ _ _ _ _ h E hE)
 ·exact Runs.nW hE 3 [] (kp [3,4,7,8]) (kq [0] ++ [(1,.keep 16),(2,.keep 112)]) 3 pn (g_water_bounds_kept_J1_ok N _ _ _ _ _ h E hE)
noncomputable def C_71 (n:Nat):Code:=cat (bodyOf Try.f25) (pth n)
theorem g_water_plan_keeps_ok (N:Nat) (t:Twater_plan) (s:Twater_state) (r:Bool) (h:g_water_plan_keeps N t s=some r):Sound Try.prog 25 [(.agg (Twater_plan.cells t)),(.agg (Twater_state.cells s))] [] 0 (aB r) []:=by
 unfold g_water_plan_keeps at h
 refine Sound.of_runs (fu:=Try.f25) (c:=C_71 1) (nt:=12) (by kernel_rfl) (by kernel_rfl) (by kernel_rfl) (by kernel_rfl) (fun hm=>rfl) ?_
 intro E hE
 refine Runs.nR hE 1 [] [] (kp [2,3]) (kq [0,16]) 48 pn ?_
 obtain ⟨rkept,hr,h⟩:=bindSome h
 refine Runs.nR hE 1 [(5,⟨[],true,(aI rkept),[],0,false,none⟩)] [] (kp [4]) [] 176 (pc o1 (pc o1 (pc o1 (pc (g_water_bounds_kept_ok N t.f_b t.f_p s rkept hr) pn)))) ?_
 obtain rfl:=Option.some.inj h
 exact Runs.nT hE 0 Try.f25 [] (kp [4]) [] 176 pn [] pn
noncomputable def C_73 (n:Nat):Code:=cat (bodyOf Try.f26) (pth n)
theorem g_water_plan_done_ok (N:Nat) (t:Twater_plan) (s:Twater_state) (r:Bool) (h:g_water_plan_done N t s=some r):Sound Try.prog 26 [(.agg (Twater_plan.cells t)),(.agg (Twater_state.cells s))] [] 0 (aB r) []:=by
 unfold g_water_plan_done at h
 refine Sound.of_runs (fu:=Try.f26) (c:=C_73 1) (nt:=15) (by kernel_rfl) (by kernel_rfl) (by kernel_rfl) (by kernel_rfl) (fun hm=>rfl) ?_
 intro E hE
 refine Runs.nR hE 1 [] [] (kp [2,3]) (kq [0,16]) 48 pn ?_
 obtain ⟨rsumOf,hr,h⟩:=bindSome h
 obtain ⟨rbetween,hr2,h⟩:=bindSome h
 refine Runs.nR hE 1 [(3,⟨[],true,(.agg (Twater_sums.cells rsumOf)),[],0,false,none⟩),(9,⟨[],true,(aB rbetween),[],0,false,none⟩)] [] (kp [4]) [] 224 (pc o1 (pc o1 (pc (g_water_sumOf_ok N t.f_p s rsumOf hr) (pc o1 (pc o1 (pc (g_water_between_ok N rsumOf.f_mass t.f_low t.f_high rbetween hr2) pn)))))) ?_
 obtain rfl:=Option.some.inj h
 exact Runs.nT hE 0 Try.f26 [] (kp [4]) [] 224 pn [] pn
noncomputable def C_75 (n:Nat):Code:=cat (bodyOf Try.f49) (pth n)
def g_slices_Reverse_api_Move_api_Move_L1_H (N:Nat) (K:(List TMove)→Int→Int→Option ((List TMove))):Prop:=∀ (cap02:List TMove) (i:Int) (j:Int) (r:(List TMove)),K cap02 i j=some r→∀ E,EnvOk E 1→Runs Try.prog E 49 28 (SPost E [(0,aO 2 TMove.cells TMove.d r)] (.tup [])) [.code (C_75 12),.inLoop (C_75 12),.inBlock 0] ⟨[(0,(.os 0 0 cap02.length)),(2,(aI i)),(3,(aI j))],[(0,aO 2 TMove.cells TMove.d cap02)],1⟩
theorem g_slices_Reverse_api_Move_api_Move_L1_ok (N:Nat) (fuel:Nat):g_slices_Reverse_api_Move_api_Move_L1_H N (g_slices_Reverse_api_Move_api_Move_L1 N fuel):=by
 induction fuel with
 | zero=>intro _ _ _ r h;rw [g_slices_Reverse_api_Move_api_Move_L1.eq_1] at h;cases h
 | succ fuel ih =>
  intro cap02 i j r h E hE
  rw [g_slices_Reverse_api_Move_api_Move_L1.eq_2] at h
  refine Runs.nR hE 2 [] [] (kp [0,2,3,9]) (kq [0]) 49 pn ?_
  refine Runs.nC 0 9 h (fun hq2 h=>?_) (fun hq2 h=>?_)
  ·obtain ⟨c,h⟩:=ifSome h
   obtain ⟨c2,h⟩:=ifSome h
   refine Runs.nR hE 3 [] [] ([(0,.osl (((cap02.set ((i).toNat) (cap02.getD ((j).toNat) TMove.d)).set ((j).toNat) (cap02.getD ((i).toNat) TMove.d)).length))] ++ kp [2,3]) [(0,.arr 0 (((cap02.set ((i).toNat) (cap02.getD ((j).toNat) TMove.d)).set ((j).toNat) (cap02.getD ((i).toNat) TMove.d)).length) (fun zi=>TMove.cells (((cap02.set ((i).toNat) (cap02.getD ((j).toNat) TMove.d)).set ((j).toNat) (cap02.getD ((i).toNat) TMove.d)).getD zi TMove.d)))] 305 (pc c (pc (ltOf c) (pc c2 (pc (ltOf c2) (pc c2 (pc (ltOf c2) (pc c (pc (ltOf c) (pc (show cap02.length=((cap02.set ((i).toNat) (cap02.getD ((j).toNat) TMove.d)).set ((j).toNat) (cap02.getD ((i).toNat) TMove.d)).length from (len_set_raw (len_set_raw rfl))) (pc (show cap02.length=((cap02.set ((i).toNat) (cap02.getD ((j).toNat) TMove.d)).set ((j).toNat) (cap02.getD ((i).toNat) TMove.d)).length from (len_set_raw (len_set_raw rfl))) (pc (show ∀ zi,zi < ((cap02.set ((i).toNat) (cap02.getD ((j).toNat) TMove.d)).set ((j).toNat) (cap02.getD ((i).toNat) TMove.d)).length→(fun zi=>TMove.cells (((cap02.set ((i).toNat) (cap02.getD ((j).toNat) TMove.d)).set ((j).toNat) (cap02.getD ((i).toNat) TMove.d)).getD zi TMove.d)) zi=((fun zm=>if zm=(j).toNat then [(aI ((cap02.getD ((i).toNat) TMove.d).f_Tank)),(aB ((cap02.getD ((i).toNat) TMove.d).f_Up))] else ((fun zm=>if zm=(i).toNat then [(aI ((cap02.getD ((j).toNat) TMove.d).f_Tank)),(aB ((cap02.getD ((j).toNat) TMove.d).f_Up))] else (fun zi=>TMove.cells (cap02.getD zi TMove.d)) zm)) zm)) zi from (get_set_raw TMove.cells TMove.d (cap02.set ((i).toNat) (cap02.getD ((j).toNat) TMove.d)) ((j).toNat) (cap02.getD ((i).toNat) TMove.d) (get_set_raw TMove.cells TMove.d cap02 ((i).toNat) (cap02.getD ((j).toNat) TMove.d) (fun _ _=>rfl)))) pn))))))))))) ?_
   refine Runs.nR hE 1 [] [] (kp [0,2,3]) (kq [0]) 401 pn ?_
   exact Runs.nW hE 1 [] (kp [0,2,3]) (kq [0]) 1 pn (ih _ _ _ _ h E hE)
  ·obtain rfl:=Option.some.inj h
   exact Runs.nF hE 1 Try.f49 [] [] (kq [0]) 49 pn [] pn
theorem g_slices_Reverse_api_Move_api_Move_ok (N:Nat) (cap0:List TMove) (r:(List TMove)) (h:g_slices_Reverse_api_Move_api_Move N cap0=some r):Sound Try.prog 49 [(.os 0 0 cap0.length)] [(0,aO 2 TMove.cells TMove.d cap0)] 1 (.tup []) [(0,aO 2 TMove.cells TMove.d r)]:=by
 unfold g_slices_Reverse_api_Move_api_Move at h
 refine Sound.of_runs (fu:=Try.f49) (c:=C_75 1) (nt:=28) (by kernel_rfl) (by kernel_rfl) (by kernel_rfl) (by kernel_rfl) (fun hm=>absurd hm (by decide)) ?_
 intro E hE
 refine Runs.nR hE 1 [] [] (kp [0,2,3]) (kq [0]) 81 pn ?_
 exact Runs.nW hE 2 [] (kp [0,2,3]) (kq [0]) 1 pn (g_slices_Reverse_api_Move_api_Move_L1_ok N N _ _ _ _ h E hE)
noncomputable def C_74 (n:Nat):Code:=cat (bodyOf Try.f27) (pth n)
def g_water_plan_way_L1_H (N:Nat) (t:Twater_plan) (cap0:List (Twater_state×Twater_arrival)) (K:Twater_state→(List TMove)→Option ((List TMove))):Prop:=∀ (s2:Twater_state) (out:List TMove) (r:(List TMove)),K s2 out=some r→∀ E,EnvOk E 1→Runs Try.prog E 27 26 (SPost E [(0,⟨false,0,0,true,fun _=>encM (fun x=>.agg (Twater_state.cells x)) (fun x=>.agg (Twater_arrival.cells x)) cap0⟩),(1,aO 2 TMove.cells TMove.d r)] (.os 1 0 r.length)) [.code (C_74 56),.inLoop (C_74 56),.inBlock 0,.code (C_74 15)] ⟨[(1,(.mp 0)),(3,(.op 1 0 0)),(5,(.op 2 0 0)),(7,(.os 3 0 out.length))],[(0,⟨false,0,0,true,fun _=>encM (fun x=>.agg (Twater_state.cells x)) (fun x=>.agg (Twater_arrival.cells x)) cap0⟩),(1,vO 18 (Twater_plan.cells t)),(2,vO 6 (Twater_state.cells s2)),(3,aO 2 TMove.cells TMove.d out)],4⟩
theorem g_water_plan_way_L1_ok (N:Nat) (t:Twater_plan) (cap0:List (Twater_state×Twater_arrival)) (fuel:Nat):g_water_plan_way_L1_H N t cap0 (g_water_plan_way_L1 N t cap0 fuel):=by
 induction fuel with
 | zero=>intro _ _ r h;rw [g_water_plan_way_L1.eq_1] at h;cases h
 | succ fuel ih =>
  intro s2 out r h E hE
  rw [g_water_plan_way_L1.eq_2] at h
  refine Runs.nR hE 2 [] [] (kp [1,3,5,7,12]) (kq [0,1,2,3]) 68 (pc o1 (pc o1 pn)) ?_
  refine Runs.nC 0 12 h (fun hq2 h=>?_) (fun hq2 h=>?_)
  ·refine Runs.nR hE 3 [(2,⟨[],true,(.agg (Twater_arrival.cells ((mGet (fun (za zb:Twater_state)=>((zb.e0 == za.e0) && ((zb.e1 == za.e1) && ((zb.e2 == za.e2) && ((zb.e3 == za.e3) && ((zb.e4 == za.e4) && ((zb.e5 == za.e5) && true))))))) cap0 s2).getD Twater_arrival.d))),[],0,false,none⟩)] [] (kp [1,3,5,7,8]) (kq [0,1,2,3,116]) 148 (pc o1 (pc (show (Go.Ab.look Try.prog 73 (encM (fun x=>.agg (Twater_state.cells x)) (fun x=>.agg (Twater_arrival.cells x)) cap0) (.agg (Twater_state.cells s2))).map (fun zr=>zr.getD (ofConst (.agg #[.int .i64 0,.int .i64 0,.int .i64 0,.int .i64 0,.int .i64 0,.int .i64 0,.int .i64 0,.bool false])))=some (.agg (Twater_arrival.cells ((mGet (fun (za zb:Twater_state)=>((zb.e0 == za.e0) && ((zb.e1 == za.e1) && ((zb.e2 == za.e2) && ((zb.e3 == za.e3) && ((zb.e4 == za.e4) && ((zb.e5 == za.e5) && true))))))) cap0 s2).getD Twater_arrival.d))) from (look_get (fun x=>.agg (Twater_state.cells x)) (fun x=>.agg (Twater_arrival.cells x)) (d:=Twater_arrival.d) (fun _ _=>rfl) rfl _ s2)) (pc o1 pn))) ?_
   obtain ⟨c,h⟩:=ifSome h
   refine Runs.nR hE 1 [] [] (kp [1,3,5] ++ [(7,.osl ((out ++ ([(((mGet (fun (za zb:Twater_state)=>((zb.e0 == za.e0) && ((zb.e1 == za.e1) && ((zb.e2 == za.e2) && ((zb.e3 == za.e3) && ((zb.e4 == za.e4) && ((zb.e5 == za.e5) && true))))))) cap0 s2).getD Twater_arrival.d).f_move)]:List TMove)).length))] ++ kp [8]) (kq [0,1,2,116] ++ [(212,.arr 212 ((out ++ ([(((mGet (fun (za zb:Twater_state)=>((zb.e0 == za.e0) && ((zb.e1 == za.e1) && ((zb.e2 == za.e2) && ((zb.e3 == za.e3) && ((zb.e4 == za.e4) && ((zb.e5 == za.e5) && true))))))) cap0 s2).getD Twater_arrival.d).f_move)]:List TMove)).length) (fun zi=>TMove.cells ((out ++ ([(((mGet (fun (za zb:Twater_state)=>((zb.e0 == za.e0) && ((zb.e1 == za.e1) && ((zb.e2 == za.e2) && ((zb.e3 == za.e3) && ((zb.e4 == za.e4) && ((zb.e5 == za.e5) && true))))))) cap0 s2).getD Twater_arrival.d).f_move)]:List TMove)).getD zi TMove.d)))]) 244 (pc o1 (pc (Eq.refl out.length) (pc c (pc (z1 1) (pc (show ∀ zi,zi < 1→AV.oneL ((fun zi=>([[(aI ((((mGet (fun (za zb:Twater_state)=>((zb.e0 == za.e0) && ((zb.e1 == za.e1) && ((zb.e2 == za.e2) && ((zb.e3 == za.e3) && ((zb.e4 == za.e4) && ((zb.e5 == za.e5) && true))))))) cap0 s2).getD Twater_arrival.d).f_move).f_Tank)),(aB ((((mGet (fun (za zb:Twater_state)=>((zb.e0 == za.e0) && ((zb.e1 == za.e1) && ((zb.e2 == za.e2) && ((zb.e3 == za.e3) && ((zb.e4 == za.e4) && ((zb.e5 == za.e5) && true))))))) cap0 s2).getD Twater_arrival.d).f_move).f_Up))]]:List (List AV)).getD zi []) (addz 0 zi))=true from (oneN rfl)) (pc (show (out.length+1)=(out ++ ([(((mGet (fun (za zb:Twater_state)=>((zb.e0 == za.e0) && ((zb.e1 == za.e1) && ((zb.e2 == za.e2) && ((zb.e3 == za.e3) && ((zb.e4 == za.e4) && ((zb.e5 == za.e5) && true))))))) cap0 s2).getD Twater_arrival.d).f_move)]:List TMove)).length from (len_app_raw rfl rfl)) (pc (show out.length+1=(out ++ ([(((mGet (fun (za zb:Twater_state)=>((zb.e0 == za.e0) && ((zb.e1 == za.e1) && ((zb.e2 == za.e2) && ((zb.e3 == za.e3) && ((zb.e4 == za.e4) && ((zb.e5 == za.e5) && true))))))) cap0 s2).getD Twater_arrival.d).f_move)]:List TMove)).length from (len_app_raw rfl rfl)) (pc (show ∀ zi,zi < (out ++ ([(((mGet (fun (za zb:Twater_state)=>((zb.e0 == za.e0) && ((zb.e1 == za.e1) && ((zb.e2 == za.e2) && ((zb.e3 == za.e3) && ((zb.e4 == za.e4) && ((zb.e5 == za.e5) && true))))))) cap0 s2).getD Twater_arrival.d).f_move)]:List TMove)).length→(fun zi=>TMove.cells ((out ++ ([(((mGet (fun (za zb:Twater_state)=>((zb.e0 == za.e0) && ((zb.e1 == za.e1) && ((zb.e2 == za.e2) && ((zb.e3 == za.e3) && ((zb.e4 == za.e4) && ((zb.e5 == za.e5) && true))))))) cap0 s2).getD Twater_arrival.d).f_move)]:List TMove)).getD zi TMove.d)) zi=((fun zm=>if zm < out.length then (fun zi=>TMove.cells (out.getD zi TMove.d)) zm else (fun zi=>([[(aI ((((mGet (fun (za zb:Twater_state)=>((zb.e0 == za.e0) && ((zb.e1 == za.e1) && ((zb.e2 == za.e2) && ((zb.e3 == za.e3) && ((zb.e4 == za.e4) && ((zb.e5 == za.e5) && true))))))) cap0 s2).getD Twater_arrival.d).f_move).f_Tank)),(aB ((((mGet (fun (za zb:Twater_state)=>((zb.e0 == za.e0) && ((zb.e1 == za.e1) && ((zb.e2 == za.e2) && ((zb.e3 == za.e3) && ((zb.e4 == za.e4) && ((zb.e5 == za.e5) && true))))))) cap0 s2).getD Twater_arrival.d).f_move).f_Up))]]:List (List AV)).getD zi []) (zm - out.length))) zi from (get_app_raw TMove.cells TMove.d out ([(((mGet (fun (za zb:Twater_state)=>((zb.e0 == za.e0) && ((zb.e1 == za.e1) && ((zb.e2 == za.e2) && ((zb.e3 == za.e3) && ((zb.e4 == za.e4) && ((zb.e5 == za.e5) && true))))))) cap0 s2).getD Twater_arrival.d).f_move)]:List TMove) rfl (fun _ _=>rfl) (fun zq hzq=>get_chunk TMove.cells TMove.d ([(((mGet (fun (za zb:Twater_state)=>((zb.e0 == za.e0) && ((zb.e1 == za.e1) && ((zb.e2 == za.e2) && ((zb.e3 == za.e3) && ((zb.e4 == za.e4) && ((zb.e5 == za.e5) && true))))))) cap0 s2).getD Twater_arrival.d).f_move)]:List TMove) zq hzq))) pn)))))))) ?_
   refine Runs.nR hE 0 [] [] (kp [1,3,5,7]) (kq [0,1,2,212]) 292 (pc o1 (pc o1 pn)) ?_
   exact Runs.nW hE 2 [] (kp [1,3,5,7]) (kq [0,1,2] ++ [(3,.keep 212)]) 4 pn (ih _ _ _ h E hE)
  ·obtain ⟨rMove,hr,h⟩:=bindSome h
   obtain ⟨c2,h⟩:=ifSome h
   refine Runs.nR hE 2 [(1,⟨[3],false,(.tup []),[(0,aO 2 TMove.cells TMove.d rMove)],0,false,none⟩)] [] [(7,.osl (rMove.length))] (kq [0,3]) 100 (pc (g_slices_Reverse_api_Move_api_Move_ok N out rMove hr) (pc (show out.length=rMove.length from (Eq.symm c2)) pn)) ?_
   refine Runs.nR hE 1 [] [] (kp [6]) (kq [0,3]) 132 pn ?_
   obtain rfl:=Option.some.inj h
   exact Runs.nT hE 0 Try.f27 [] (kp [6]) (kq [0] ++ [(1,.keep 3)]) 132 pn [] pn
theorem g_water_plan_way_ok (N:Nat) (t:Twater_plan) (s:Twater_state) (cap0:List (Twater_state×Twater_arrival)) (r:(List TMove)) (h:g_water_plan_way N t s cap0=some r):Sound Try.prog 27 [(.agg (Twater_plan.cells t)),(.mp 0),(.agg (Twater_state.cells s))] [(0,⟨false,0,0,true,fun _=>encM (fun x=>.agg (Twater_state.cells x)) (fun x=>.agg (Twater_arrival.cells x)) cap0⟩)] 1 (.os 1 0 r.length) [(0,⟨false,0,0,true,fun _=>encM (fun x=>.agg (Twater_state.cells x)) (fun x=>.agg (Twater_arrival.cells x)) cap0⟩),(1,aO 2 TMove.cells TMove.d r)]:=by
 unfold g_water_plan_way at h
 refine Sound.of_runs (fu:=Try.f27) (c:=C_74 1) (nt:=26) (by kernel_rfl) (by kernel_rfl) (by kernel_rfl) (by kernel_rfl) (fun hm=>absurd hm (by decide)) ?_
 intro E hE
 refine Runs.nR hE 1 [] [] (kp [1,3,5]) (kq [0,1,17]) 49 pn ?_
 refine Runs.nR hE 1 [] [] (kp [1,3,5,7]) (kq [0,1,17]) 65 pn ?_
 exact Runs.nW hE 3 [] (kp [1,3,5] ++ [(7,.nilos 3)]) (kq [0,1] ++ [(2,.keep 17),(3,.nil 2 (fun zi=>TMove.cells (([]:List TMove).getD zi TMove.d)))]) 4 pn (g_water_plan_way_L1_ok N _ _ N _ _ _ h E hE)
noncomputable def C_76 (n:Nat):Code:=cat (bodyOf Try.f28) (pth n)
def g_water_plan_moved_J1_H (N:Nat) (t:Twater_plan) (m:TMove) (K:Twater_state→Option (Twater_state×Bool)):Prop:=∀ (s2:Twater_state) (r:Twater_state×Bool),K s2=some r→∀ E,EnvOk E 0→Runs Try.prog E 28 46 (SPost E [] (.tup [(.agg (Twater_state.cells r.1)),(aB r.2)])) [.code (C_76 30),.code (C_76 31)] ⟨[(3,(.op 0 0 0)),(4,(.op 1 0 0)),(5,(.op 2 0 0)),(6,(.op 3 0 0))],[(0,vO 18 (Twater_plan.cells t)),(1,vO 6 (Twater_state.cells s2)),(2,vO 2 (TMove.cells m)),(3,vO 6 [(aI 0),(aI 0),(aI 0),(aI 0),(aI 0),(aI 0)])],4⟩
theorem g_water_plan_moved_J1_ok (N:Nat) (t:Twater_plan) (m:TMove):g_water_plan_moved_J1_H N t m (g_water_plan_moved_J1 N t m):=by
 intro s2 r h E hE
 unfold g_water_plan_moved_J1 at h
 obtain ⟨c2,h⟩:=ifSome h
 obtain ⟨c3,h⟩:=ifSome h
 obtain ⟨rbetween2,hr2,h⟩:=bindSome h
 refine Runs.nR hE 0 [(13,⟨[],true,(aB rbetween2),[],0,false,none⟩)] [] (kp [6,7]) (kq [3]) 260 (pc o1 (pc o1 (pc c2 (pc o1 (pc o1 (pc o1 (pc c3 (pc (g_water_between_ok N (pickI [s2.e0,s2.e1,s2.e2,s2.e3,s2.e4,s2.e5] ((m.f_Tank).toNat)) 0 ((t.f_p.f_Tanks.getD ((m.f_Tank).toNat) TTank.d).f_Steps) rbetween2 hr2) (pc o1 pn))))))))) ?_
 obtain rfl:=Option.some.inj h
 exact Runs.nT hE 0 Try.f28 [] (kp [6,7]) [(16,.keep 3)] 260 pn [16] (pc o1 pn)
theorem g_water_plan_moved_ok (N:Nat) (t:Twater_plan) (s:Twater_state) (m:TMove) (r:Twater_state×Bool) (h:g_water_plan_moved N t s m=some r):Sound Try.prog 28 [(.agg (Twater_plan.cells t)),(.agg (Twater_state.cells s)),(.agg (TMove.cells m))] [] 0 (.tup [(.agg (Twater_state.cells r.1)),(aB r.2)]) []:=by
 unfold g_water_plan_moved at h
 refine Sound.of_runs (fu:=Try.f28) (c:=C_76 1) (nt:=46) (by kernel_rfl) (by kernel_rfl) (by kernel_rfl) (by kernel_rfl) (fun hm=>rfl) ?_
 intro E hE
 refine Runs.nR hE 1 [] [] (kp [3,4,5,6]) (kq [0,16,32,48]) 80 pn ?_
 obtain ⟨rbetween,hr,h⟩:=bindSome h
 refine Runs.nR hE 2 [(7,⟨[],true,(aB rbetween),[],0,false,none⟩)] [] (kp [3,4,5,6,16]) (kq [0,16,32,48]) 224 (pc o1 (pc o1 (pc (g_water_between_ok N m.f_Tank 0 (w64 (((t.f_p.f_Tanks.length:Nat):Int) - 1)) rbetween hr) pn))) ?_
 refine Runs.nC 0 16 h (fun hq2 h=>?_) (fun hq2 h=>?_)
 ·refine Runs.nR hE 1 [] [] (kp [6,7]) (kq [48]) 272 (pc o1 (pc o1 pn)) ?_
  obtain rfl:=Option.some.inj h
  exact Runs.nT hE 0 Try.f28 [] (kp [6,7]) [(16,.keep 48)] 272 pn [16] (pc o1 pn)
 ·refine Runs.nR hE 3 [] [] (kp [3,4,5,6,19]) (kq [0,16,32,48]) 256 (pc o1 pn) ?_
  refine Runs.nC 0 19 h (fun hq3 h=>?_) (fun hq3 h=>?_)
  ·obtain ⟨c,h⟩:=ifSome h
   refine Runs.nR hE 0 [] [] (kp [3,4,5,6]) (kq [0,16,32,48]) 368 (pc o1 (pc c (pc o1 (pc c (pc o1 pn))))) ?_
   exact Runs.nW hE 1 [] (kp [3,4,5,6]) (kq [0] ++ [(1,.keep 16),(2,.keep 32),(3,.keep 48)]) 4 pn (g_water_plan_moved_J1_ok N _ _ _ _ h E hE)
  ·obtain ⟨c4,h⟩:=ifSome h
   refine Runs.nR hE 0 [] [] (kp [3,4,5,6]) (kq [0,16,32,48]) 368 (pc o1 (pc c4 (pc o1 (pc c4 (pc o1 pn))))) ?_
   exact Runs.nW hE 1 [] (kp [3,4,5,6]) (kq [0] ++ [(1,.keep 16),(2,.keep 32),(3,.keep 48)]) 4 pn (g_water_plan_moved_J1_ok N _ _ _ _ h E hE)
noncomputable def C_58 (n:Nat):Code:=cat (bodyOf Try.f9) (pth n)
def g_water_Ballast_L1_H (N:Nat) (p:TPontoon) (ropen:Twater_plan×Int) (K:(List (Twater_state×Twater_arrival))→(List Twater_state)→Nat→Nat→Option ((List TMove)×Int)):Prop:=∀ (reached:List (Twater_state×Twater_arrival)) (todo:List Twater_state) (todoo:Nat) (todon:Nat) (r:(List TMove)×Int),K reached todo todoo todon=some r→∀ E,EnvOk E 0→Runs Try.prog E 9 111 (SPost E [] (.tup [(encL TMove.cells TMove.d r.1),(aI r.2)])) [.code (C_58 2036),.inLoop (C_58 2036),.inBlock 0,.code (C_58 255)] ⟨[(3,(.op 0 0 0)),(8,(.op 1 0 0)),(10,(.mp 2)),(11,(.os 3 todoo todon))],[(0,vO 5 (TPontoon.cells p)),(1,vO 18 (Twater_plan.cells ropen.1)),(2,⟨false,0,0,true,fun _=>encM (fun x=>.agg (Twater_state.cells x)) (fun x=>.agg (Twater_arrival.cells x)) reached⟩),(3,aO 6 Twater_state.cells Twater_state.d todo)],4⟩
def g_water_Ballast_L2_H (N:Nat) (p:TPontoon) (ropen:Twater_plan×Int) (todo:List Twater_state) (todoo:Nat) (K:(List (Twater_state×Twater_arrival))→(List Twater_state)→Nat→Nat→Int→Option ((List TMove)×Int)):Prop:=∀ (reached2:List (Twater_state×Twater_arrival)) (todo2:List Twater_state) (todoo2:Nat) (todon2:Nat) (x:Int) (r:(List TMove)×Int),K reached2 todo2 todoo2 todon2 x=some r→∀ E,EnvOk E 0→Runs Try.prog E 9 111 (SPost E [] (.tup [(encL TMove.cells TMove.d r.1),(aI r.2)])) [.code (C_58 521372),.inLoop (C_58 521372),.inBlock 2,.inBlock 1,.code (C_58 8147),.inLoop (C_58 2036),.inBlock 0,.code (C_58 255)] ⟨[(3,(.op 0 0 0)),(8,(.op 1 0 0)),(10,(.mp 2)),(11,(.os 3 todoo2 todon2)),(12,(.op 4 0 0)),(64,(aI ((p.f_Tanks.length:Nat):Int))),(65,(aI x))],[(0,vO 5 (TPontoon.cells p)),(1,vO 18 (Twater_plan.cells ropen.1)),(2,⟨false,0,0,true,fun _=>encM (fun x=>.agg (Twater_state.cells x)) (fun x=>.agg (Twater_arrival.cells x)) reached2⟩),(3,aO 6 Twater_state.cells Twater_state.d todo2),(4,vO 6 (Twater_state.cells (todo.getD (addz todoo 0) Twater_state.d)))],5⟩
def g_water_Ballast_L3_H (N:Nat) (p:TPontoon) (ropen:Twater_plan×Int) (todo:List Twater_state) (todoo:Nat) (x:Int) (K:(List (Twater_state×Twater_arrival))→(List Twater_state)→Nat→Nat→Int→Option ((List TMove)×Int)):Prop:=∀ (reached3:List (Twater_state×Twater_arrival)) (todo3:List Twater_state) (todoo3:Nat) (todon3:Nat) (x2:Int) (r:(List TMove)×Int),K reached3 todo3 todoo3 todon3 x2=some r→∀ E,EnvOk E 0→Runs Try.prog E 9 111 (SPost E [] (.tup [(encL TMove.cells TMove.d r.1),(aI r.2)])) [.code (C_58 133471436),.inLoop (C_58 133471436),.inBlock 4,.inBlock 3,.code (C_58 4170983),.inLoop (C_58 521372),.inBlock 2,.inBlock 1,.code (C_58 8147),.inLoop (C_58 2036),.inBlock 0,.code (C_58 255)] ⟨[(3,(.op 0 0 0)),(8,(.op 1 0 0)),(10,(.mp 2)),(11,(.os 3 todoo3 todon3)),(12,(.op 4 0 0)),(13,(aI x)),(64,(aI ((p.f_Tanks.length:Nat):Int))),(65,(aI x)),(68,(.os 5 0 (([true,false]:List Bool).length))),(69,(aI ((2:Nat):Int))),(70,(aI x2))],[(0,vO 5 (TPontoon.cells p)),(1,vO 18 (Twater_plan.cells ropen.1)),(2,⟨false,0,0,true,fun _=>encM (fun x=>.agg (Twater_state.cells x)) (fun x=>.agg (Twater_arrival.cells x)) reached3⟩),(3,aO 6 Twater_state.cells Twater_state.d todo3),(4,vO 6 (Twater_state.cells (todo.getD (addz todoo 0) Twater_state.d))),(5,aO 1 cB false ([true,false]:List Bool))],6⟩
def g_water_Ballast_J4_H (N:Nat) (p:TPontoon) (ropen:Twater_plan×Int) (todo:List Twater_state) (todoo:Nat) (x:Int) (x2:Int) (K:(List (Twater_state×Twater_arrival))→(List Twater_state)→Nat→Nat→Option ((List TMove)×Int)):Prop:=∀ (reached4:List (Twater_state×Twater_arrival)) (todo4:List Twater_state) (todoo4:Nat) (todon4:Nat) (r:(List TMove)×Int),K reached4 todo4 todoo4 todon4=some r→∀ E,EnvOk E 0→Runs Try.prog E 9 111 (SPost E [] (.tup [(encL TMove.cells TMove.d r.1),(aI r.2)])) [.code (C_58 1067771495),.inLoop (C_58 133471436),.inBlock 4,.inBlock 3,.code (C_58 4170983),.inLoop (C_58 521372),.inBlock 2,.inBlock 1,.code (C_58 8147),.inLoop (C_58 2036),.inBlock 0,.code (C_58 255)] ⟨[(3,(.op 0 0 0)),(8,(.op 1 0 0)),(10,(.mp 2)),(11,(.os 3 todoo4 todon4)),(12,(.op 4 0 0)),(13,(aI x)),(64,(aI ((p.f_Tanks.length:Nat):Int))),(65,(aI x)),(68,(.os 5 0 (([true,false]:List Bool).length))),(69,(aI ((2:Nat):Int))),(70,(aI x2))],[(0,vO 5 (TPontoon.cells p)),(1,vO 18 (Twater_plan.cells ropen.1)),(2,⟨false,0,0,true,fun _=>encM (fun x=>.agg (Twater_state.cells x)) (fun x=>.agg (Twater_arrival.cells x)) reached4⟩),(3,aO 6 Twater_state.cells Twater_state.d todo4),(4,vO 6 (Twater_state.cells (todo.getD (addz todoo 0) Twater_state.d))),(5,aO 1 cB false ([true,false]:List Bool))],6⟩
theorem g_water_Ballast_J4_ok (N:Nat) (p:TPontoon) (ropen:Twater_plan×Int) (todo:List Twater_state) (todoo:Nat) (x:Int) (x2:Int) (K_g_water_Ballast_L3:(List (Twater_state×Twater_arrival))→(List Twater_state)→Nat→Nat→Int→Option ((List TMove)×Int)) (K_g_water_Ballast_L2:(List (Twater_state×Twater_arrival))→(List Twater_state)→Nat→Nat→Int→Option ((List TMove)×Int)) (K_g_water_Ballast_L1:(List (Twater_state×Twater_arrival))→(List Twater_state)→Nat→Nat→Option ((List TMove)×Int)) (hK_g_water_Ballast_L3:g_water_Ballast_L3_H N p ropen todo todoo x K_g_water_Ballast_L3) (hK_g_water_Ballast_L2:g_water_Ballast_L2_H N p ropen todo todoo K_g_water_Ballast_L2) (hK_g_water_Ballast_L1:g_water_Ballast_L1_H N p ropen K_g_water_Ballast_L1):g_water_Ballast_J4_H N p ropen todo todoo x x2 (g_water_Ballast_J4 N p ropen todo todoo x x2 K_g_water_Ballast_L3 K_g_water_Ballast_L2 K_g_water_Ballast_L1):=by
 intro reached4 todo4 todoo4 todon4 r h E hE
 unfold g_water_Ballast_J4 at h
 refine Runs.nR hE 0 [] [] (kp [3,8,10,11,12,13,64,65,68,69,70]) (kq [0,1,2,3,4,5]) 38 pn ?_
 exact Runs.nW hE 1 [] (kp [3,8,10,11,12,13,64,65,68,69,70]) (kq [0,1,2,3,4,5]) 6 pn (hK_g_water_Ballast_L3 _ _ _ _ _ _ h E hE)
theorem g_water_Ballast_L3_ok (N:Nat) (p:TPontoon) (ropen:Twater_plan×Int) (todo:List Twater_state) (todoo:Nat) (x:Int) (K_g_water_Ballast_L2:(List (Twater_state×Twater_arrival))→(List Twater_state)→Nat→Nat→Int→Option ((List TMove)×Int)) (K_g_water_Ballast_L1:(List (Twater_state×Twater_arrival))→(List Twater_state)→Nat→Nat→Option ((List TMove)×Int)) (hK_g_water_Ballast_L2:g_water_Ballast_L2_H N p ropen todo todoo K_g_water_Ballast_L2) (hK_g_water_Ballast_L1:g_water_Ballast_L1_H N p ropen K_g_water_Ballast_L1) (fuel:Nat):g_water_Ballast_L3_H N p ropen todo todoo x (g_water_Ballast_L3 N p ropen todo todoo x K_g_water_Ballast_L2 K_g_water_Ballast_L1 fuel):=by
 induction fuel with
 | zero=>intro _ _ _ _ _ r h;rw [g_water_Ballast_L3.eq_1] at h;cases h
 | succ fuel ih =>
  intro reached3 todo3 todoo3 todon3 x2 r h E hE
  rw [g_water_Ballast_L3.eq_2] at h
  refine Runs.nR hE 1 [] [] (kp [3,8,10,11,12,13,64,65,68,69,70,71]) (kq [0,1,2,3,4,5]) 22 pn ?_
  refine Runs.nC 1 71 h (fun hq8 h=>?_) (fun hq8 h=>?_)
  ·obtain ⟨c3,h⟩:=ifSome h
   refine Runs.nR hE 4 [] [] (kp [3,8,10,11,12,13,15,64,65,68,69,70]) (kq [0,1,2,3,4,5]) 70 (pc c3 (pc (ltOf c3) pn)) ?_
   refine Runs.nR hE 1 [] [] (kp [3,8,10,11,12,13,16,64,65,68,69,70]) (kq [0,1,2,3,4,5,118]) 150 (pc o1 pn) ?_
   obtain ⟨rmoved,hr6,h⟩:=bindSome h
   refine Runs.nR hE 1 [(3,⟨[],true,(.tup [(.agg (Twater_state.cells rmoved.1)),(aB rmoved.2)]),[],0,false,none⟩)] [] (kp [3,8,10,11,12,13,16,17,18,64,65,68,69,70]) (kq [0,1,2,3,4,5,118,262]) 310 (pc o1 (pc o1 (pc o1 (pc (g_water_plan_moved_ok N ropen.1 (todo.getD (addz todoo 0) Twater_state.d) (⟨x,(([true,false]:List Bool).getD ((x2).toNat) false)⟩:TMove) rmoved hr6) (pc o1 pn))))) ?_
   refine Runs.nR hE 1 [(2,⟨[],true,(.tup [(.agg (Twater_arrival.cells ((mGet (fun (za zb:Twater_state)=>((zb.e0 == za.e0) && ((zb.e1 == za.e1) && ((zb.e2 == za.e2) && ((zb.e3 == za.e3) && ((zb.e4 == za.e4) && ((zb.e5 == za.e5) && true))))))) reached3 rmoved.1).getD Twater_arrival.d))),(aB ((mGet (fun (za zb:Twater_state)=>((zb.e0 == za.e0) && ((zb.e1 == za.e1) && ((zb.e2 == za.e2) && ((zb.e3 == za.e3) && ((zb.e4 == za.e4) && ((zb.e5 == za.e5) && true))))))) reached3 rmoved.1).isSome))]),[],0,false,none⟩)] [] (kp [3,8,10,11,12,13,16,17,18,20,64,65,68,69,70]) (kq [0,1,2,3,4,5,118,262]) 454 (pc o1 (pc (show (Go.Ab.look Try.prog 73 (encM (fun x=>.agg (Twater_state.cells x)) (fun x=>.agg (Twater_arrival.cells x)) reached3) (.agg (Twater_state.cells rmoved.1))).map (fun zr=>AV.tup [zr.getD (ofConst (.agg #[.int .i64 0,.int .i64 0,.int .i64 0,.int .i64 0,.int .i64 0,.int .i64 0,.int .i64 0,.bool false])),.atom (.bool zr.isSome)])=some (.tup [(.agg (Twater_arrival.cells ((mGet (fun (za zb:Twater_state)=>((zb.e0 == za.e0) && ((zb.e1 == za.e1) && ((zb.e2 == za.e2) && ((zb.e3 == za.e3) && ((zb.e4 == za.e4) && ((zb.e5 == za.e5) && true))))))) reached3 rmoved.1).getD Twater_arrival.d))),(aB ((mGet (fun (za zb:Twater_state)=>((zb.e0 == za.e0) && ((zb.e1 == za.e1) && ((zb.e2 == za.e2) && ((zb.e3 == za.e3) && ((zb.e4 == za.e4) && ((zb.e5 == za.e5) && true))))))) reached3 rmoved.1).isSome))]) from (look_ok (fun x=>.agg (Twater_state.cells x)) (fun x=>.agg (Twater_arrival.cells x)) (d:=Twater_arrival.d) (fun _ _=>rfl) rfl _ rmoved.1)) (pc o1 pn))) ?_
   obtain ⟨rkeeps2,hr7,h⟩:=bindSome h
   refine Runs.nR hE 1 [(8,⟨[],true,(aB rkeeps2),[],0,false,none⟩)] [] (kp [3,8,10,11,12,13,16,17,64,65,68,69,70,99]) (kq [0,1,2,3,4,5,118,262]) 614 (pc (fun hg:rmoved.2=true=>(pc hg pn)) (pc (fun hq:rmoved.2=true=>(pc hq pn)) (pc (fun hg:(cond rmoved.2 (!((mGet (fun (za zb:Twater_state)=>((zb.e0 == za.e0) && ((zb.e1 == za.e1) && ((zb.e2 == za.e2) && ((zb.e3 == za.e3) && ((zb.e4 == za.e4) && ((zb.e5 == za.e5) && true))))))) reached3 rmoved.1).isSome)) false)=true=>(pc o1 pn)) (pc (fun hg:(cond rmoved.2 (!((mGet (fun (za zb:Twater_state)=>((zb.e0 == za.e0) && ((zb.e1 == za.e1) && ((zb.e2 == za.e2) && ((zb.e3 == za.e3) && ((zb.e4 == za.e4) && ((zb.e5 == za.e5) && true))))))) reached3 rmoved.1).isSome)) false)=true=>(pc o1 pn)) (pc (fun hg:(cond rmoved.2 (!((mGet (fun (za zb:Twater_state)=>((zb.e0 == za.e0) && ((zb.e1 == za.e1) && ((zb.e2 == za.e2) && ((zb.e3 == za.e3) && ((zb.e4 == za.e4) && ((zb.e5 == za.e5) && true))))))) reached3 rmoved.1).isSome)) false)=true=>(pc (g_water_plan_keeps_ok N ropen.1 rmoved.1 rkeeps2 (condT hr7 hg)) (pc hg (pc hg pn)))) (pc (fun hq:(cond rmoved.2 (!((mGet (fun (za zb:Twater_state)=>((zb.e0 == za.e0) && ((zb.e1 == za.e1) && ((zb.e2 == za.e2) && ((zb.e3 == za.e3) && ((zb.e4 == za.e4) && ((zb.e5 == za.e5) && true))))))) reached3 rmoved.1).isSome)) false)=true=>(pc hq pn)) pn)))))) ?_
   refine Runs.nC 0 99 h (fun hq9 h=>?_) (fun hq9 h=>?_)
   ·refine Runs.nR hE 1 [(5,⟨[],true,(.tup (encM (fun x=>.agg (Twater_state.cells x)) (fun x=>.agg (Twater_arrival.cells x)) (mPut (fun (za zb:Twater_state)=>((zb.e0 == za.e0) && ((zb.e1 == za.e1) && ((zb.e2 == za.e2) && ((zb.e3 == za.e3) && ((zb.e4 == za.e4) && ((zb.e5 == za.e5) && true))))))) reached3 rmoved.1 (⟨(todo.getD (addz todoo 0) Twater_state.d),(⟨x,(([true,false]:List Bool).getD ((x2).toNat) false)⟩:TMove)⟩:Twater_arrival)))),[],0,false,none⟩)] [] (kp [3,8,10,11,12,13,17,64,65,68,69,70]) (kq [0,1,2,3,4,5,262]) 710 (pc o1 (pc o1 (pc o1 (pc (show Go.Ab.insA Try.prog 73 (encM (fun x=>.agg (Twater_state.cells x)) (fun x=>.agg (Twater_arrival.cells x)) reached3) (.agg (Twater_state.cells rmoved.1)) (.agg [(aI ((todo.getD (addz todoo 0) Twater_state.d).e0)),(aI ((todo.getD (addz todoo 0) Twater_state.d).e1)),(aI ((todo.getD (addz todoo 0) Twater_state.d).e2)),(aI ((todo.getD (addz todoo 0) Twater_state.d).e3)),(aI ((todo.getD (addz todoo 0) Twater_state.d).e4)),(aI ((todo.getD (addz todoo 0) Twater_state.d).e5)),(aI x),(aB (([true,false]:List Bool).getD ((x2).toNat) false))])=some (encM (fun x=>.agg (Twater_state.cells x)) (fun x=>.agg (Twater_arrival.cells x)) (mPut (fun (za zb:Twater_state)=>((zb.e0 == za.e0) && ((zb.e1 == za.e1) && ((zb.e2 == za.e2) && ((zb.e3 == za.e3) && ((zb.e4 == za.e4) && ((zb.e5 == za.e5) && true))))))) reached3 rmoved.1 (⟨(todo.getD (addz todoo 0) Twater_state.d),(⟨x,(([true,false]:List Bool).getD ((x2).toNat) false)⟩:TMove)⟩:Twater_arrival))) from (insA_enc (fun x=>.agg (Twater_state.cells x)) (fun x=>.agg (Twater_arrival.cells x)) (fun _ _=>rfl) _ rmoved.1 (⟨(todo.getD (addz todoo 0) Twater_state.d),(⟨x,(([true,false]:List Bool).getD ((x2).toNat) false)⟩:TMove)⟩:Twater_arrival))) pn)))) ?_
    obtain ⟨hQ,h⟩:=ifSome h
    obtain ⟨hA,hB⟩:=both_some h
    refine Runs.sA 0 [.code (C_58 273349502589),.inBlock 5,.code (C_58 1067771495),.inLoop (C_58 133471436),.inBlock 4,.inBlock 3,.code (C_58 4170983),.inLoop (C_58 521372),.inBlock 2,.inBlock 1,.code (C_58 8147),.inLoop (C_58 2036),.inBlock 0,.code (C_58 255)] ?_
    refine Runs.split 11 3 todoo3 todon3 (aO 6 Twater_state.cells Twater_state.d todo3) (by kernel_rfl) (by kernel_rfl) (by kernel_rfl) hQ ?_ ?_
    ·replace h:=hA
     refine Runs.nR hE 0 [(3,⟨[],false,.nil,[],0,false,none⟩)] [] (kp [3,8,10,11,12,13,64,65,68,69,70]) (kq [0,1,2] ++ [(3,.arr 3 ((todo3 ++ ([rmoved.1]:List Twater_state)).length) (fun zi=>Twater_state.cells ((todo3 ++ ([rmoved.1]:List Twater_state)).getD zi Twater_state.d)))] ++ kq [4,5]) 790 (pc o1 (pc (show 0 < 1∧(addz todoo3 todon3)+1≤(addz todoo3 todon3)+1 from ⟨Nat.one_pos,Nat.le_refl _⟩) (pc (show ∀ zi,zi < (addz todoo3 todon3)+1→noMrL (if zi < (addz todoo3 todon3) then Twater_state.cells (todo3.getD zi Twater_state.d) else unL 6)=true from (noMr_room _ (fun _=>rfl))) (pc (z1 1) (pc (show ∀ zi,zi < 1→AV.oneL ((fun zi=>([[(aI rmoved.1.e0),(aI rmoved.1.e1),(aI rmoved.1.e2),(aI rmoved.1.e3),(aI rmoved.1.e4),(aI rmoved.1.e5)]]:List (List AV)).getD zi []) (addz 0 zi))=true from (oneN rfl)) (pc (show (addz todoo3 todon3)+1=(todo3 ++ ([rmoved.1]:List Twater_state)).length from (len_appQ hQ rfl)) (pc (show ∀ zi,zi < (todo3 ++ ([rmoved.1]:List Twater_state)).length→(fun zi=>Twater_state.cells ((todo3 ++ ([rmoved.1]:List Twater_state)).getD zi Twater_state.d)) zi=((fun zm=>if zm < (addz todoo3 todon3) then (if zm < (addz todoo3 todon3) then Twater_state.cells (todo3.getD zm Twater_state.d) else unL 6) else if zm < (addz todoo3 todon3)+1 then (fun zi=>([[(aI rmoved.1.e0),(aI rmoved.1.e1),(aI rmoved.1.e2),(aI rmoved.1.e3),(aI rmoved.1.e4),(aI rmoved.1.e5)]]:List (List AV)).getD zi []) (addz 0 (zm - (addz todoo3 todon3))) else (if zm < (addz todoo3 todon3) then Twater_state.cells (todo3.getD zm Twater_state.d) else unL 6))) zi from (fun zq hzq=>get_appQ (g2:=fun zi=>([[(aI rmoved.1.e0),(aI rmoved.1.e1),(aI rmoved.1.e2),(aI rmoved.1.e3),(aI rmoved.1.e4),(aI rmoved.1.e5)]]:List (List AV)).getD zi []) Twater_state.cells Twater_state.d todo3 ([rmoved.1]:List Twater_state) 6 hQ zq hzq)) pn))))))) ?_
     exact Runs.nW hE 1 [] (kp [3,8,10,11,12,13,64,65,68,69,70]) (kq [0,1,2,3,4,5]) 6 pn (g_water_Ballast_J4_ok N _ _ _ _ _ _ _ _ _ ih hK_g_water_Ballast_L2 hK_g_water_Ballast_L1 _ _ _ _ _ h E hE)
    ·replace h:=hB
     obtain ⟨c4,h⟩:=ifSome h
     refine Runs.nR hE 0 [(3,⟨[],false,.tup [],[],0,false,none⟩)] [] (kp [3,8,10] ++ [(11,.osl (((todo3.drop todoo3) ++ ([rmoved.1]:List Twater_state)).length))] ++ kp [12,13,64,65,68,69,70]) (kq [0,1,2,4,5] ++ [(758,.arr 758 (((todo3.drop todoo3) ++ ([rmoved.1]:List Twater_state)).length) (fun zi=>Twater_state.cells (((todo3.drop todoo3) ++ ([rmoved.1]:List Twater_state)).getD zi Twater_state.d)))]) 790 (pc o1 (pc (show 0 < 1∧addz todoo3 todon3=todo3.length from ⟨Nat.one_pos,hQ⟩) (pc c4 (pc (show ∀ zi,zi < todo3.length→AV.oneL (Twater_state.cells (todo3.getD zi Twater_state.d))=true from (fun _ _=>rfl)) (pc (z1 1) (pc (show ∀ zi,zi < 1→AV.oneL ((fun zi=>([[(aI rmoved.1.e0),(aI rmoved.1.e1),(aI rmoved.1.e2),(aI rmoved.1.e3),(aI rmoved.1.e4),(aI rmoved.1.e5)]]:List (List AV)).getD zi []) (addz 0 zi))=true from (oneN rfl)) (pc (show (todon3+1)=((todo3.drop todoo3) ++ ([rmoved.1]:List Twater_state)).length from (len_dropQ hQ rfl)) (pc (show todon3+1=((todo3.drop todoo3) ++ ([rmoved.1]:List Twater_state)).length from (len_dropQ hQ rfl)) (pc (show ∀ zi,zi < ((todo3.drop todoo3) ++ ([rmoved.1]:List Twater_state)).length→(fun zi=>Twater_state.cells (((todo3.drop todoo3) ++ ([rmoved.1]:List Twater_state)).getD zi Twater_state.d)) zi=((fun zm=>if zm < todon3 then Twater_state.cells (todo3.getD (addz todoo3 zm) Twater_state.d) else (fun zi=>([[(aI rmoved.1.e0),(aI rmoved.1.e1),(aI rmoved.1.e2),(aI rmoved.1.e3),(aI rmoved.1.e4),(aI rmoved.1.e5)]]:List (List AV)).getD zi []) (addz 0 (zm - todon3)))) zi from (fun zq hzq=>get_dropQ (g2:=fun zi=>([[(aI rmoved.1.e0),(aI rmoved.1.e1),(aI rmoved.1.e2),(aI rmoved.1.e3),(aI rmoved.1.e4),(aI rmoved.1.e5)]]:List (List AV)).getD zi []) Twater_state.cells Twater_state.d todo3 ([rmoved.1]:List Twater_state) hQ zq hzq)) pn))))))))) ?_
     exact Runs.nW hE 1 [] (kp [3,8,10,11,12,13,64,65,68,69,70]) (kq [0,1,2] ++ [(3,.keep 758)] ++ kq [4,5]) 6 pn (g_water_Ballast_J4_ok N _ _ _ _ _ _ _ _ _ ih hK_g_water_Ballast_L2 hK_g_water_Ballast_L1 _ _ _ _ _ h E hE)
   ·exact Runs.nW hE 2 [] (kp [3,8,10,11,12,13,64,65,68,69,70]) (kq [0,1,2,3,4,5]) 6 pn (g_water_Ballast_J4_ok N _ _ _ _ _ _ _ _ _ ih hK_g_water_Ballast_L2 hK_g_water_Ballast_L1 _ _ _ _ _ h E hE)
  ·refine Runs.nR hE 2 [] [] (kp [3,8,10,11,12,64,65]) (kq [0,1,2,3,4]) 54 pn ?_
   exact Runs.nW hE 1 [] (kp [3,8,10,11,12,64,65]) (kq [0,1,2,3,4]) 5 pn (hK_g_water_Ballast_L2 _ _ _ _ _ _ h E hE)
theorem g_water_Ballast_L2_ok (N:Nat) (p:TPontoon) (ropen:Twater_plan×Int) (todo:List Twater_state) (todoo:Nat) (K_g_water_Ballast_L1:(List (Twater_state×Twater_arrival))→(List Twater_state)→Nat→Nat→Option ((List TMove)×Int)) (hK_g_water_Ballast_L1:g_water_Ballast_L1_H N p ropen K_g_water_Ballast_L1) (fuel:Nat):g_water_Ballast_L2_H N p ropen todo todoo (g_water_Ballast_L2 N p ropen todo todoo K_g_water_Ballast_L1 fuel):=by
 induction fuel with
 | zero=>intro _ _ _ _ _ r h;rw [g_water_Ballast_L2.eq_1] at h;cases h
 | succ fuel ih =>
  intro reached2 todo2 todoo2 todon2 x r h E hE
  rw [g_water_Ballast_L2.eq_2] at h
  refine Runs.nR hE 1 [] [] (kp [3,8,10,11,12,64,65,66]) (kq [0,1,2,3,4]) 21 pn ?_
  refine Runs.nC 1 66 h (fun hq7 h=>?_) (fun hq7 h=>?_)
  ·refine Runs.nR hE 4 [] [] (kp [3,8,10,11,12,13,64,65]) (kq [0,1,2,3,4]) 53 pn ?_
   refine Runs.nR hE 1 [] [] (kp [3,8,10,11,12,13,64,65] ++ [(68,.osl (([true,false]:List Bool).length))] ++ kp [69,70]) (kq [0,1,2,3,4] ++ [(53,.arr 53 (([true,false]:List Bool).length) (fun zi=>cB (([true,false]:List Bool).getD zi false)))]) 101 (pc (Eq.refl 2) (pc (Eq.refl 2) (pc (show ∀ zi,zi < ([true,false]:List Bool).length→(fun zi=>cB (([true,false]:List Bool).getD zi false)) zi=(fun zi=>([[(aB true)],[(aB false)]]:List (List AV)).getD zi []) zi from (fun zq hzq=>get_chunk cB false ([true,false]:List Bool) zq hzq)) pn))) ?_
   exact Runs.nW hE 2 [] (kp [3,8,10,11,12,13,64,65,68,69,70]) (kq [0,1,2,3,4] ++ [(5,.keep 53)]) 6 pn (g_water_Ballast_L3_ok N _ _ _ _ _ _ _ ih hK_g_water_Ballast_L1 N _ _ _ _ _ _ h E hE)
  ·obtain ⟨c5,h⟩:=ifSome h
   refine Runs.nR hE 2 [] [] (kp [3,8,10,11]) (kq [0,1,2,3]) 69 (pc c5 (pc (show 0≤(1:Int) by decide) pn)) ?_
   exact Runs.nW hE 1 [] (kp [3,8,10,11]) (kq [0,1,2,3]) 4 pn (hK_g_water_Ballast_L1 _ _ _ _ _ h E hE)
theorem g_water_Ballast_L1_ok (N:Nat) (p:TPontoon) (ropen:Twater_plan×Int) (fuel:Nat):g_water_Ballast_L1_H N p ropen (g_water_Ballast_L1 N p ropen fuel):=by
 induction fuel with
 | zero=>intro _ _ _ _ r h;rw [g_water_Ballast_L1.eq_1] at h;cases h
 | succ fuel ih =>
  intro reached todo todoo todon r h E hE
  rw [g_water_Ballast_L1.eq_2] at h
  refine Runs.nR hE 2 [] [] (kp [3,8,10,11,49]) (kq [0,1,2,3]) 52 pn ?_
  refine Runs.nC 0 49 h (fun hq5 h=>?_) (fun hq5 h=>?_)
  ·obtain ⟨c,h⟩:=ifSome h
   obtain ⟨c2,h⟩:=ifSome h
   refine Runs.nR hE 4 [] [] (kp [3,8,10,11,12]) (kq [0,1,2,3,100]) 132 (pc c (pc (show (addz todoo 0) < todo.length by have h1:=c;have h2:=c2;simp only [addz_eq];omega) (pc o1 pn))) ?_
   obtain ⟨rdone,hr4,h⟩:=bindSome h
   refine Runs.nR hE 2 [(2,⟨[],true,(aB rdone),[],0,false,none⟩)] [] (kp [3,8,10,11,12,57]) (kq [0,1,2,3,100]) 180 (pc o1 (pc o1 (pc (g_water_plan_done_ok N ropen.1 (todo.getD (addz todoo 0) Twater_state.d) rdone hr4) pn))) ?_
   refine Runs.nC 0 57 h (fun hq6 h=>?_) (fun hq6 h=>?_)
   ·obtain ⟨rway,hr5,h⟩:=bindSome h
    refine Runs.nR hE 1 [(3,⟨[2],false,(.os 1 0 rway.length),[(0,⟨false,0,0,true,fun _=>encM (fun x=>.agg (Twater_state.cells x)) (fun x=>.agg (Twater_arrival.cells x)) reached⟩),(1,aO 2 TMove.cells TMove.d rway)],0,false,none⟩)] [] (kp [6,7]) (kq [228]) 276 (pc o1 (pc o1 (pc (g_water_plan_way_ok N ropen.1 (todo.getD (addz todoo 0) Twater_state.d) reached rway hr5) pn))) ?_
    obtain rfl:=Option.some.inj h
    exact Runs.nT hE 0 Try.f9 [228] ([(6,.sl (rway.length) (fun zi=>TMove.cells (rway.getD zi TMove.d)))] ++ kp [7]) [] 276 (pc (Eq.refl rway.length) (pc (z1 rway.length) (pc (show ∀ zi,zi < rway.length→(fun zi=>TMove.cells (rway.getD zi TMove.d)) zi=(fun zi=>TMove.cells (rway.getD zi TMove.d)) (addz 0 zi) from (fun _ _=>rfl)) pn))) [] pn
   ·refine Runs.nR hE 2 [] [] (kp [3,8,10,11,12,64,65]) (kq [0,1,2,3,100]) 244 (pc o1 pn) ?_
    exact Runs.nW hE 2 [] (kp [3,8,10,11,12,64,65]) (kq [0,1,2,3] ++ [(4,.keep 100)]) 5 pn (g_water_Ballast_L2_ok N _ _ _ _ _ ih N _ _ _ _ _ _ h E hE)
  ·refine Runs.nR hE 2 [] [] (kp [6,7]) [] 84 pn ?_
   obtain rfl:=Option.some.inj h
   exact Runs.nT hE 0 Try.f9 [] ([(6,.sl (([]:List TMove).length) (fun zi=>TMove.cells (([]:List TMove).getD zi TMove.d)))] ++ kp [7]) [] 84 (pc (Eq.refl 0) pn) [] pn
theorem g_water_Ballast_ok (N:Nat) (p:TPontoon) (l:TLimits) (a:TAim) (r:(List TMove)×Int) (h:g_water_Ballast N p l a=some r):Sound Try.prog 9 [(.agg (TPontoon.cells p)),(.agg (TLimits.cells l)),(.agg (TAim.cells a))] [] 0 (.tup [(encL TMove.cells TMove.d r.1),(aI r.2)]) []:=by
 unfold g_water_Ballast at h
 refine Sound.of_runs (fu:=Try.f9) (c:=C_58 1) (nt:=111) (by kernel_rfl) (by kernel_rfl) (by kernel_rfl) (by kernel_rfl) (fun hm=>rfl) ?_
 intro E hE
 refine Runs.nR hE 1 [] [] (kp [3,4,5]) (kq [0,16,32]) 80 pn ?_
 obtain ⟨ropen,hr,h⟩:=bindSome h
 refine Runs.nR hE 1 [(3,⟨[],true,(.tup [(.agg (Twater_plan.cells ropen.1)),(aI ropen.2)]),[],0,false,none⟩)] [] (kp [3,8,9]) (kq [0,192]) 240 (pc o1 (pc o1 (pc o1 (pc (g_water_open_ok N p l a ropen hr) (pc o1 pn))))) ?_
 refine Runs.nR hE 2 [] [] (kp [3,8,9,29]) (kq [0,192]) 272 pn ?_
 refine Runs.nC 0 29 h (fun hq2 h=>?_) (fun hq2 h=>?_)
 ·refine Runs.nR hE 1 [] [] (kp [6,7]) [] 320 pn ?_
  obtain rfl:=Option.some.inj h
  exact Runs.nT hE 0 Try.f9 [] ([(6,.sl (([]:List TMove).length) (fun zi=>TMove.cells (([]:List TMove).getD zi TMove.d)))] ++ kp [7]) [] 320 (pc (Eq.refl 0) pn) [] pn
 ·obtain ⟨rmany,hr2,h⟩:=bindSome h
  refine Runs.nR hE 3 [(1,⟨[],true,(aI rmany),[],0,false,none⟩)] [] (kp [3,8,33]) (kq [0,192]) 320 (pc o1 (pc (g_water_many_ok N p rmany hr2) pn)) ?_
  refine Runs.nC 0 33 h (fun hq3 h=>?_) (fun hq3 h=>?_)
  ·refine Runs.nR hE 1 [] [] (kp [6,7]) [] 352 pn ?_
   obtain rfl:=Option.some.inj h
   exact Runs.nT hE 0 Try.f9 [] ([(6,.sl (([]:List TMove).length) (fun zi=>TMove.cells (([]:List TMove).getD zi TMove.d)))] ++ kp [7]) [] 352 (pc (Eq.refl 0) pn) [] pn
  ·obtain ⟨rkeeps,hr3,h⟩:=bindSome h
   refine Runs.nR hE 3 [(3,⟨[],true,(aB rkeeps),[],0,false,none⟩)] [] (kp [3,8,38]) (kq [0,192]) 400 (pc o1 (pc o1 (pc (g_water_plan_keeps_ok N ropen.1 ropen.1.f_start rkeeps hr3) pn))) ?_
   refine Runs.nC 0 38 h (fun hq4 h=>?_) (fun hq4 h=>?_)
   ·refine Runs.nR hE 1 [] [] (kp [6,7]) [] 432 pn ?_
    obtain rfl:=Option.some.inj h
    exact Runs.nT hE 0 Try.f9 [] ([(6,.sl (([]:List TMove).length) (fun zi=>TMove.cells (([]:List TMove).getD zi TMove.d)))] ++ kp [7]) [] 432 (pc (Eq.refl 0) pn) [] pn
   ·refine Runs.nR hE 2 [(4,⟨[],true,(.tup (encM (fun x=>.agg (Twater_state.cells x)) (fun x=>.agg (Twater_arrival.cells x)) (mPut (fun (za zb:Twater_state)=>((zb.e0 == za.e0) && ((zb.e1 == za.e1) && ((zb.e2 == za.e2) && ((zb.e3 == za.e3) && ((zb.e4 == za.e4) && ((zb.e5 == za.e5) && true))))))) ([]:List (Twater_state×Twater_arrival)) ropen.1.f_start (⟨(⟨0,0,0,0,0,0⟩:Twater_state),(⟨0,false⟩:TMove)⟩:Twater_arrival)))),[],0,false,none⟩)] [] (kp [3,8,10]) (kq [0,192,400]) 512 (pc o1 (pc (show Go.Ab.insA Try.prog 73 (encM (fun x=>.agg (Twater_state.cells x)) (fun x=>.agg (Twater_arrival.cells x)) ([]:List (Twater_state×Twater_arrival))) (.agg (Twater_state.cells ropen.1.f_start)) (.agg [(aI 0),(aI 0),(aI 0),(aI 0),(aI 0),(aI 0),(aI 0),(aB false)])=some (encM (fun x=>.agg (Twater_state.cells x)) (fun x=>.agg (Twater_arrival.cells x)) (mPut (fun (za zb:Twater_state)=>((zb.e0 == za.e0) && ((zb.e1 == za.e1) && ((zb.e2 == za.e2) && ((zb.e3 == za.e3) && ((zb.e4 == za.e4) && ((zb.e5 == za.e5) && true))))))) ([]:List (Twater_state×Twater_arrival)) ropen.1.f_start (⟨(⟨0,0,0,0,0,0⟩:Twater_state),(⟨0,false⟩:TMove)⟩:Twater_arrival))) from (insA_enc (fun x=>.agg (Twater_state.cells x)) (fun x=>.agg (Twater_arrival.cells x)) (fun _ _=>rfl) _ ropen.1.f_start (⟨(⟨0,0,0,0,0,0⟩:Twater_state),(⟨0,false⟩:TMove)⟩:Twater_arrival))) pn)) ?_
    refine Runs.nR hE 2 [] [] (kp [3,8,10] ++ [(11,.osl (([ropen.1.f_start]:List Twater_state).length))]) (kq [0,192,400] ++ [(544,.arr 544 (([ropen.1.f_start]:List Twater_state).length) (fun zi=>Twater_state.cells (([ropen.1.f_start]:List Twater_state).getD zi Twater_state.d)))]) 576 (pc o1 (pc (Eq.refl 1) (pc (Eq.refl 1) (pc (show ∀ zi,zi < ([ropen.1.f_start]:List Twater_state).length→(fun zi=>Twater_state.cells (([ropen.1.f_start]:List Twater_state).getD zi Twater_state.d)) zi=(fun zi=>([[(aI ropen.1.f_start.e0),(aI ropen.1.f_start.e1),(aI ropen.1.f_start.e2),(aI ropen.1.f_start.e3),(aI ropen.1.f_start.e4),(aI ropen.1.f_start.e5)]]:List (List AV)).getD zi []) zi from (fun zq hzq=>get_chunk Twater_state.cells Twater_state.d ([ropen.1.f_start]:List Twater_state) zq hzq)) pn)))) ?_
    exact Runs.nW hE 2 [] (kp [3,8,10,11]) (kq [0] ++ [(1,.keep 192),(2,.keep 400),(3,.keep 544)]) 4 pn (g_water_Ballast_L1_ok N _ _ N _ _ _ _ _ h E hE)
noncomputable def C_77 (n:Nat):Code:=cat (bodyOf Try.f10) (pth n)
def g_water_CheckBallast_L1_H (N:Nat) (moves:List TMove) (ropen:Twater_plan×Int) (K:Twater_state→Int→Option (Int)):Prop:=∀ (s:Twater_state) (x:Int) (r:Int),K s x=some r→∀ E,EnvOk E 0→Runs Try.prog E 10 62 (SPost E [] (aI r)) [.code (C_77 2036),.inLoop (C_77 2036),.inBlock 0,.code (C_77 255)] ⟨[(9,(.op 0 0 0)),(11,(.op 1 0 0)),(35,(encL TMove.cells TMove.d moves)),(36,(aI ((moves.length:Nat):Int))),(37,(aI x))],[(0,vO 18 (Twater_plan.cells ropen.1)),(1,vO 6 (Twater_state.cells s))],2⟩
theorem g_water_CheckBallast_L1_ok (N:Nat) (moves:List TMove) (ropen:Twater_plan×Int) (fuel:Nat):g_water_CheckBallast_L1_H N moves ropen (g_water_CheckBallast_L1 N moves ropen fuel):=by
 induction fuel with
 | zero=>intro _ _ r h;rw [g_water_CheckBallast_L1.eq_1] at h;cases h
 | succ fuel ih =>
  intro s x r h E hE
  rw [g_water_CheckBallast_L1.eq_2] at h
  refine Runs.nR hE 1 [] [] (kp [9,11,35,36,37,38]) (kq [0,1]) 18 pn ?_
  refine Runs.nC 1 38 h (fun hq5 h=>?_) (fun hq5 h=>?_)
  ·obtain ⟨c,h⟩:=ifSome h
   refine Runs.nR hE 4 [] [] (kp [9,11,13,35,36,37]) (kq [0,1,50]) 82 (pc c (pc o1 pn)) ?_
   obtain ⟨rmoved,hr3,h⟩:=bindSome h
   refine Runs.nR hE 1 [(3,⟨[],true,(.tup [(.agg (Twater_state.cells rmoved.1)),(aB rmoved.2)]),[],0,false,none⟩)] [] (kp [9,11,14,15,35,36,37]) (kq [0,1,194]) 242 (pc o1 (pc o1 (pc o1 (pc (g_water_plan_moved_ok N ropen.1 s (moves.getD ((x).toNat) TMove.d) rmoved hr3) (pc o1 pn))))) ?_
   refine Runs.nR hE 3 [] [] (kp [9,11,14,35,36,37,48]) (kq [0,1,194]) 290 pn ?_
   refine Runs.nC 0 48 h (fun hq6 h=>?_) (fun hq6 h=>?_)
   ·refine Runs.nR hE 1 [] [] (kp [8]) [] 306 pn ?_
    obtain rfl:=Option.some.inj h
    exact Runs.nT hE 0 Try.f10 [] (kp [8]) [] 306 pn [] pn
   ·obtain ⟨rkeeps2,hr4,h⟩:=bindSome h
    refine Runs.nR hE 1 [(2,⟨[],true,(aB rkeeps2),[],0,false,none⟩)] [] (kp [9,11,14,35,36,37,51]) (kq [0,1,194]) 370 (pc o1 (pc o1 (pc (g_water_plan_keeps_ok N ropen.1 rmoved.1 rkeeps2 hr4) pn))) ?_
    refine Runs.nC 0 51 h (fun hq7 h=>?_) (fun hq7 h=>?_)
    ·refine Runs.nR hE 1 [] [] (kp [8]) [] 386 pn ?_
     obtain rfl:=Option.some.inj h
     exact Runs.nT hE 0 Try.f10 [] (kp [8]) [] 386 pn [] pn
    ·refine Runs.nR hE 2 [] [] (kp [9,11,35,36,37]) (kq [0,1]) 402 (pc o1 (pc o1 pn)) ?_
     refine Runs.nR hE 1 [] [] (kp [9,11,35,36,37]) (kq [0,1]) 434 pn ?_
     exact Runs.nW hE 1 [] (kp [9,11,35,36,37]) (kq [0,1]) 2 pn (ih _ _ _ h E hE)
  ·obtain ⟨rdone,hr5,h⟩:=bindSome h
   refine Runs.nR hE 3 [(2,⟨[],true,(aB rdone),[],0,false,none⟩)] [] (kp [61]) [] 82 (pc o1 (pc o1 (pc (g_water_plan_done_ok N ropen.1 s rdone hr5) pn))) ?_
   refine Runs.nC 0 61 h (fun hq8 h=>?_) (fun hq8 h=>?_)
   ·refine Runs.nR hE 1 [] [] (kp [8]) [] 98 pn ?_
    obtain rfl:=Option.some.inj h
    exact Runs.nT hE 0 Try.f10 [] (kp [8]) [] 98 pn [] pn
   ·refine Runs.nR hE 2 [] [] (kp [8]) [] 98 pn ?_
    obtain rfl:=Option.some.inj h
    exact Runs.nT hE 0 Try.f10 [] (kp [8]) [] 98 pn [] pn
theorem g_water_CheckBallast_ok (N:Nat) (p:TPontoon) (l:TLimits) (a:TAim) (moves:List TMove) (r:Int) (h:g_water_CheckBallast N p l a moves=some r):Sound Try.prog 10 [(.agg (TPontoon.cells p)),(.agg (TLimits.cells l)),(.agg (TAim.cells a)),(encL TMove.cells TMove.d moves)] [] 0 (aI r) []:=by
 unfold g_water_CheckBallast at h
 refine Sound.of_runs (fu:=Try.f10) (c:=C_77 1) (nt:=62) (by kernel_rfl) (by kernel_rfl) (by kernel_rfl) (by kernel_rfl) (fun hm=>rfl) ?_
 intro E hE
 refine Runs.nR hE 1 [] [] (kp [3,4,5,6]) (kq [0,16,32]) 64 pn ?_
 obtain ⟨ropen,hr,h⟩:=bindSome h
 refine Runs.nR hE 1 [(3,⟨[],true,(.tup [(.agg (Twater_plan.cells ropen.1)),(aI ropen.2)]),[],0,false,none⟩)] [] (kp [3,9,10]) (kq [176]) 224 (pc o1 (pc o1 (pc o1 (pc (g_water_open_ok N p l a ropen hr) (pc o1 pn))))) ?_
 refine Runs.nR hE 2 [] [] (kp [3,9,10,24]) (kq [176]) 256 pn ?_
 refine Runs.nC 0 24 h (fun hq2 h=>?_) (fun hq2 h=>?_)
 ·refine Runs.nR hE 1 [] [] (kp [8]) [] 288 pn ?_
  obtain rfl:=Option.some.inj h
  exact Runs.nT hE 0 Try.f10 [] (kp [8]) [] 288 pn [] pn
 ·refine Runs.nR hE 3 [] [] (kp [3,9,28]) (kq [176]) 304 pn ?_
  refine Runs.nC 0 28 h (fun hq3 h=>?_) (fun hq3 h=>?_)
  ·refine Runs.nR hE 1 [] [] (kp [8]) [] 320 pn ?_
   obtain rfl:=Option.some.inj h
   exact Runs.nT hE 0 Try.f10 [] (kp [8]) [] 320 pn [] pn
  ·refine Runs.nR hE 2 [] [] (kp [3,9,11]) (kq [176,336]) 368 (pc o1 (pc o1 pn)) ?_
   obtain ⟨rkeeps,hr2,h⟩:=bindSome h
   refine Runs.nR hE 2 [(2,⟨[],true,(aB rkeeps),[],0,false,none⟩)] [] (kp [3,9,11,34]) (kq [176,336]) 432 (pc o1 (pc o1 (pc (g_water_plan_keeps_ok N ropen.1 ropen.1.f_start rkeeps hr2) pn))) ?_
   refine Runs.nC 0 34 h (fun hq4 h=>?_) (fun hq4 h=>?_)
   ·refine Runs.nR hE 1 [] [] (kp [8]) [] 448 pn ?_
    obtain rfl:=Option.some.inj h
    exact Runs.nT hE 0 Try.f10 [] (kp [8]) [] 448 pn [] pn
   ·refine Runs.nR hE 3 [] [] (kp [9,11,35,36,37]) (kq [176,336]) 480 pn ?_
    exact Runs.nW hE 2 [] (kp [9,11,35,36,37]) [(0,.keep 176),(1,.keep 336)] 2 pn (g_water_CheckBallast_L1_ok N _ _ N _ _ _ h E hE)
noncomputable def C_0 (n:Nat):Code:=cat (bodyOf Try.f3) (pth n)
theorem g_w05_WaterShortest_ok (N:Nat) (x:Tw05_Plan) (r:Bool) (h:g_w05_WaterShortest N x=some r):Sound Try.prog 3 [(.agg (Tw05_Plan.cells x))] [] 0 (aB r) []:=by
 unfold g_w05_WaterShortest at h
 refine Sound.of_runs (fu:=Try.f3) (c:=C_0 1) (nt:=79) (by kernel_rfl) (by kernel_rfl) (by kernel_rfl) (by kernel_rfl) (fun hm=>rfl) ?_
 intro E hE
 refine Runs.nR hE 1 [] [] (kp [1]) (kq [0]) 32 pn ?_
 obtain ⟨rafloat,hr,h⟩:=bindSome h
 refine Runs.nR hE 2 [(0,⟨[],true,(aB rafloat),[],0,false,none⟩)] [] (kp [1,6]) (kq [0]) 64 (pc (g_w05_afloat_ok N rafloat hr) pn) ?_
 refine Runs.nC 0 6 h (fun hq2 h=>?_) (fun hq2 h=>?_)
 ·refine Runs.nR hE 1 [] [] (kp [2]) [] 80 pn ?_
  obtain rfl:=Option.some.inj h
  exact Runs.nT hE 0 Try.f3 [] (kp [2]) [] 80 pn [] pn
 ·obtain ⟨rlight,hr2,h⟩:=bindSome h
  obtain ⟨rCheckPontoon,hr3,h⟩:=bindSome h
  obtain ⟨rStates,hr4,h⟩:=bindSome h
  refine Runs.nR hE 3 [(2,⟨[],true,(aB rlight),[],0,false,none⟩),(7,⟨[],true,(aI rCheckPontoon),[],0,false,none⟩),(12,⟨[],true,(aI rStates),[],0,false,none⟩)] [] (kp [1,35]) (kq [0]) 528 (pc o1 (pc (g_w05_light_ok N x.f_P rlight hr2) (pc (fun hg:(!(!rlight))=true=>(pc hg (pc o1 pn))) (pc (fun hg:(!(!rlight))=true=>(pc (g_r05_CheckPontoon_ok N x.f_P rCheckPontoon (condT hr3 hg)) (pc hg pn))) (pc (fun hg:(!(!rlight))=true=>(pc hg pn)) (pc (fun hg:((!(!rlight)) && ((!(!rlight)) && (rCheckPontoon == 0)))=true=>(pc hg (pc o1 pn))) (pc (fun hg:((!(!rlight)) && ((!(!rlight)) && (rCheckPontoon == 0)))=true=>(pc (g_r05_States_ok N x.f_P 20000 rStates (condT hr4 hg)) (pc hg pn))) (pc (fun hg:((!(!rlight)) && ((!(!rlight)) && (rCheckPontoon == 0)))=true=>(pc hg pn)) (pc (fun hg:(!(!rlight))=true=>(pc hg (pc hg (pc (fun hq:(rCheckPontoon == 0)=true=>(pc (show ((!(!rlight)) && ((!(!rlight)) && (rCheckPontoon == 0)))=true from (andI' hg (andI' hg hq))) pn)) pn)))) (pc (fun hq:(!(!rlight))=true=>(pc hq pn)) (pc (fun hg:(!(cond (!rlight) true (cond (rCheckPontoon == 0) (decide (rStates > 20000)) false)))=true=>(pc hg pn)) (pc (fun hg:(!(cond (!rlight) true (cond (rCheckPontoon == 0) (decide (rStates > 20000)) false)))=true=>(pc hg (pc o1 pn))) (pc (fun hg:(!(cond (!rlight) true (cond (rCheckPontoon == 0) (decide (rStates > 20000)) false)))=true=>(pc hg pn)) (pc (fun hg:(!(cond (!rlight) true (cond (rCheckPontoon == 0) (decide (rStates > 20000)) false)))=true=>(pc hg pn)) (pc (fun hq:(!(cond (!rlight) true (cond (rCheckPontoon == 0) (decide (rStates > 20000)) false)))=true=>(pc hq pn)) (pc (fun hg:(!(cond (cond (!rlight) true (cond (rCheckPontoon == 0) (decide (rStates > 20000)) false)) true (decide (((x.f_A.f_Start.length:Nat):Int) > 20))))=true=>(pc hg (pc o1 pn))) (pc (fun hg:(!(cond (cond (!rlight) true (cond (rCheckPontoon == 0) (decide (rStates > 20000)) false)) true (decide (((x.f_A.f_Start.length:Nat):Int) > 20))))=true=>(pc hg pn)) (pc (fun hg:(!(cond (cond (!rlight) true (cond (rCheckPontoon == 0) (decide (rStates > 20000)) false)) true (decide (((x.f_A.f_Start.length:Nat):Int) > 20))))=true=>(pc hg pn)) (pc (fun hq:(!(cond (cond (!rlight) true (cond (rCheckPontoon == 0) (decide (rStates > 20000)) false)) true (decide (((x.f_A.f_Start.length:Nat):Int) > 20))))=true=>(pc hq pn)) pn))))))))))))))))))) ?_
  refine Runs.nC 0 35 h (fun hq3 h=>?_) (fun hq3 h=>?_)
  ·refine Runs.nR hE 1 [] [] (kp [2]) [] 544 pn ?_
   obtain rfl:=Option.some.inj h
   exact Runs.nT hE 0 Try.f3 [] (kp [2]) [] 544 pn [] pn
  ·obtain ⟨rBallast,hr5,h⟩:=bindSome h
   refine Runs.nR hE 2 [(6,⟨[],true,(.tup [(encL TMove.cells TMove.d rBallast.1),(aI rBallast.2)]),[],0,false,none⟩)] [] (kp [1,3,4]) (kq [0]) 720 (pc o1 (pc o1 (pc o1 (pc (g_water_Ballast_ok N x.f_P x.f_L x.f_A rBallast hr5) pn)))) ?_
   obtain ⟨rCheckBallast,hr6,h⟩:=bindSome h
   refine Runs.nR hE 2 [(10,⟨[],true,(aI rCheckBallast),[],0,false,none⟩)] [] (kp [1,3,4,58]) (kq [0]) 928 (pc (fun hg:(rBallast.2 == 0)=true=>(pc hg (pc o1 pn))) (pc (fun hg:(rBallast.2 == 0)=true=>(pc hg (pc o1 pn))) (pc (fun hg:(rBallast.2 == 0)=true=>(pc hg (pc o1 pn))) (pc (fun hg:(rBallast.2 == 0)=true=>(pc (g_water_CheckBallast_ok N x.f_P x.f_L x.f_A rBallast.1 rCheckBallast (condT hr6 hg)) (pc hg (pc hg (pc hg (pc hg pn)))))) (pc (fun hg:(rBallast.2 == 0)=true=>(pc hg pn)) (pc (fun hq:(rBallast.2 == 0)=true=>(pc hq pn)) pn)))))) ?_
   refine Runs.nC 0 58 h (fun hq4 h=>?_) (fun hq4 h=>?_)
   ·refine Runs.nR hE 1 [] [] (kp [2]) [] 944 pn ?_
    obtain rfl:=Option.some.inj h
    exact Runs.nT hE 0 Try.f3 [] (kp [2]) [] 944 pn [] pn
   ·obtain ⟨rCheckBallast2,hr7,h⟩:=bindSome h
    refine Runs.nR hE 3 [(8,⟨[],true,(aI rCheckBallast2),[],0,false,none⟩)] [] (kp [1,3,4,68]) (kq [0]) 1088 (pc o1 (pc o1 (pc o1 (pc o1 (pc (g_water_CheckBallast_ok N x.f_P x.f_L x.f_A x.f_Moves rCheckBallast2 hr7) pn))))) ?_
    refine Runs.nC 0 68 h (fun hq5 h=>?_) (fun hq5 h=>?_)
    ·refine Runs.nR hE 1 [] [] (kp [2]) [] 1104 pn ?_
     obtain rfl:=Option.some.inj h
     exact Runs.nT hE 0 Try.f3 [] (kp [2]) [] 1104 pn [] pn
    ·refine Runs.nR hE 2 [] [] (kp [2]) [] 1264 (pc (fun hg:(rBallast.2 == 0)=true=>(pc hg pn)) (pc (fun hg:(rBallast.2 == 0)=true=>(pc hg (pc o1 pn))) (pc (fun hg:(rBallast.2 == 0)=true=>(pc hg pn)) (pc (fun hg:(rBallast.2 == 0)=true=>(pc hg (pc hg pn))) (pc (fun hq:(rBallast.2 == 0)=true=>(pc hq pn)) pn))))) ?_
     obtain rfl:=Option.some.inj h
     exact Runs.nT hE 0 Try.f3 [] (kp [2]) [] 1264 pn [] pn
end Go.Den
