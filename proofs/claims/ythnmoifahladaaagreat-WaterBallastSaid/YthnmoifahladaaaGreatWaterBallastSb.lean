/- Each function of the program does what its Lean function computes (part 2). No conditions. -/
import Derived.Test.YthnmoifahladaaaGreatWaterBallastSa
import Derived.Test.YthnmoifahladaaaGreatProg
set_option linter.unusedVariables false
set_option maxRecDepth 100000
namespace Go.Den
open Go.Ab Go.Proofs Go.Ab.Runs
noncomputable def C_59 (n:Nat):Code:=cat (bodyOf Tryz.f24) (pth n)
theorem g_w_open_ok (N:Nat) (p:TPn) (l:TLimits) (a:TAim) (r:Tw_plan×Int) (h:g_w_open N p l a=some r):Sd 24 [(.agg (TPn.cells p)),(.agg (TLimits.cells l)),(.agg (TAim.cells a))] [] 0 (.tup [(.agg (Tw_plan.cells r.1)),(aI r.2)]) []:=by
 unfold g_w_open at h
 refine sor (fu:=Tryz.f24) (c:=C_59 1) (nt:=65) (by kernel_rfl) (by kernel_rfl) (by kernel_rfl) (by kernel_rfl) (fun hm=>rfl) ?_
 intro E hE
 refine rnR hE 1 [] [] (kp [3,4,5,6]) (kq [0,16,32,48]) 80 pn ?_
 obtain ⟨rCP,hr,h⟩:=bsm h
 refine rnR hE 2 [(1,⟨[],true,(aI rCP),[],0,false,none⟩)] [] (kp [3,4,5,6,8]) (kq [0,16,32,48]) 128 (pc o1 (pc (g_w_CheckPontoon_ok N p rCP hr) pn)) ?_
 refine rnR hE 1 [] [] (kp [3,4,5,6,8,16]) (kq [0,16,32,48]) 160 pn ?_
 refine rnC 0 16 h (fun hq2 h=>?_) (fun hq2 h=>?_)
 ·refine rnR hE 1 [] [] (kp [6,7]) (kq [48]) 224 (pc o1 pn) ?_
  obtain rfl:=osI h
  exact rnT hE 0 Tryz.f24 [] (kp [6,7]) [(16,.var 48 [.keep,.keep,.keep,.sl (([]:List TPm).length) (fun zi=>TPm.cells (([]:List TPm).getD zi TPm.d)),.sl (([]:List TTank).length) (fun zi=>TTank.cells (([]:List TTank).getD zi TTank.d)),.keep,.keep,.keep,.keep,.keep,.keep,.keep,.keep,.keep,.keep,.keep,.keep,.keep])] 224 (pc (Eq.refl 0) (pc (Eq.refl 0) pn)) [16] (pc o1 pn)
 ·obtain ⟨rcheckLimits,hr2,h⟩:=bsm h
  refine rnR hE 3 [(1,⟨[],true,(aI rcheckLimits),[],0,false,none⟩)] [] (kp [3,4,5,6,9]) (kq [0,16,32,48]) 208 (pc o1 (pc (g_w_checkLimits_ok N l rcheckLimits hr2) pn)) ?_
  refine rnR hE 1 [] [] (kp [3,4,5,6,9,22]) (kq [0,16,32,48]) 240 pn ?_
  refine rnC 0 22 h (fun hq3 h=>?_) (fun hq3 h=>?_)
  ·refine rnR hE 1 [] [] (kp [6,7]) (kq [48]) 304 (pc o1 pn) ?_
   obtain rfl:=osI h
   exact rnT hE 0 Tryz.f24 [] (kp [6,7]) [(16,.var 48 [.keep,.keep,.keep,.sl (([]:List TPm).length) (fun zi=>TPm.cells (([]:List TPm).getD zi TPm.d)),.sl (([]:List TTank).length) (fun zi=>TTank.cells (([]:List TTank).getD zi TTank.d)),.keep,.keep,.keep,.keep,.keep,.keep,.keep,.keep,.keep,.keep,.keep,.keep,.keep])] 304 (pc (Eq.refl 0) (pc (Eq.refl 0) pn)) [16] (pc o1 pn)
  ·obtain ⟨rcheckSteps,hr3,h⟩:=bsm h
   refine rnR hE 2 [(3,⟨[],true,(.tup [(.agg (Tw_state.cells rcheckSteps.1)),(aI rcheckSteps.2)]),[],0,false,none⟩)] [] (kp [3,4,5,6,10,11]) (kq [0,16,32,48,352]) 400 (pc o1 (pc o1 (pc (g_w_checkSteps_ok N p a.f_Start rcheckSteps hr3) (pc o1 pn)))) ?_
   refine rnR hE 2 [] [] (kp [3,4,5,6,10,11,33]) (kq [0,16,32,48,352]) 432 pn ?_
   refine rnC 0 33 h (fun hq4 h=>?_) (fun hq4 h=>?_)
   ·refine rnR hE 1 [] [] (kp [6,7]) (kq [48]) 496 (pc o1 pn) ?_
    obtain rfl:=osI h
    exact rnT hE 0 Tryz.f24 [] (kp [6,7]) [(16,.var 48 [.keep,.keep,.keep,.sl (([]:List TPm).length) (fun zi=>TPm.cells (([]:List TPm).getD zi TPm.d)),.sl (([]:List TTank).length) (fun zi=>TTank.cells (([]:List TTank).getD zi TTank.d)),.keep,.keep,.keep,.keep,.keep,.keep,.keep,.keep,.keep,.keep,.keep,.keep,.keep])] 496 (pc (Eq.refl 0) (pc (Eq.refl 0) pn)) [16] (pc o1 pn)
   ·obtain ⟨rBt,hr4,h⟩:=bsm h
    obtain ⟨rBt2,hr5,h⟩:=bsm h
    refine rnR hE 3 [(2,⟨[],true,(aB rBt),[],0,false,none⟩),(7,⟨[],true,(aB rBt2),[],0,false,none⟩)] [] (kp [3,4,5,6,10,45]) (kq [0,16,32,48,352]) 592 (pc o1 (pc (g_w_between_ok N a.f_DraughtLeast 0 1000000 rBt hr4) (pc (fun hg:(!(!rBt))=true=>(pc hg (pc o1 pn))) (pc (fun hg:(!(!rBt))=true=>(pc (g_w_between_ok N a.f_DraughtMost 0 1000000 rBt2 (condT hr5 hg)) (pc hg pn))) (pc (fun hg:(!(!rBt))=true=>(pc hg pn)) (pc (fun hq:(!(!rBt))=true=>(pc hq pn)) pn)))))) ?_
    refine rnC 0 45 h (fun hq5 h=>?_) (fun hq5 h=>?_)
    ·refine rnR hE 1 [] [] (kp [6,7]) (kq [48]) 640 (pc o1 pn) ?_
     obtain rfl:=osI h
     exact rnT hE 0 Tryz.f24 [] (kp [6,7]) [(16,.var 48 [.keep,.keep,.keep,.sl (([]:List TPm).length) (fun zi=>TPm.cells (([]:List TPm).getD zi TPm.d)),.sl (([]:List TTank).length) (fun zi=>TTank.cells (([]:List TTank).getD zi TTank.d)),.keep,.keep,.keep,.keep,.keep,.keep,.keep,.keep,.keep,.keep,.keep,.keep,.keep])] 640 (pc (Eq.refl 0) (pc (Eq.refl 0) pn)) [16] (pc o1 pn)
    ·obtain ⟨rboundsOf,hr6,h⟩:=bsm h
     refine rnR hE 2 [(3,⟨[],true,(.agg (Tw_bounds.cells rboundsOf)),[],0,false,none⟩)] [] (kp [3,5,6,12]) (kq [0,32,48,688]) 720 (pc o1 (pc o1 (pc o1 (pc (g_w_boundsOf_ok N p l rboundsOf hr6) (pc o1 (pc o1 pn)))))) ?_
     obtain ⟨rdraughts,hr7,h⟩:=bsm h
     refine rnR hE 1 [(5,⟨[],true,(.tup [(aI rdraughts.1),(aI rdraughts.2)]),[],0,false,none⟩)] [] (kp [6,12]) (kq [48,688]) 928 (pc o1 (pc o1 (pc o1 (pc (g_w_draughts_ok N p a.f_DraughtLeast a.f_DraughtMost rdraughts hr7) (pc o1 (pc o1 pn)))))) ?_
     refine rnR hE 1 [] [] (kp [6,7]) (kq [48]) 976 (pc o1 (pc o1 pn)) ?_
     obtain rfl:=osI h
     exact rnT hE 0 Tryz.f24 [] (kp [6,7]) [(16,.keep 48)] 976 pn [16] (pc o1 pn)
noncomputable def C_70 (n:Nat):Code:=cat (bodyOf Tryz.f25) (pth n)
def g_w_many_L1_H (N:Nat) (p:TPn) (K:Int→Int→Option (Int)):Prop:=∀ (n:Int) (x:Int) (r:Int),K n x=some r→∀ E,EnvOk E 0→Runs Tryz.prog E 25 20 (SPost E [] (aI r)) [.code (C_70 116),.inLoop (C_70 116),.inBlock 0,.code (C_70 15)] ⟨[(3,(aI n)),(7,(encL TTank.cells TTank.d p.fTk)),(8,(aI ((p.fTk.length:Nat):Int))),(9,(aI x))],[],0⟩
theorem g_w_many_L1_ok (N:Nat) (p:TPn) (fuel:Nat):g_w_many_L1_H N p (g_w_many_L1 N p fuel):=by
 induction fuel with
 | zero=>intro _ _ r h;rw [g_w_many_L1.eq_1] at h;cases h
 | succ fuel ih =>
  intro n x r h E hE
  rw [g_w_many_L1.eq_2] at h
  refine rnR hE 1 [] [] (kp [3,7,8,9,10]) [] 16 pn ?_
  refine rnC 1 10 h (fun hq2 h=>?_) (fun hq2 h=>?_)
  ·obtain ⟨c,h⟩:=ifSome h
   refine rnR hE 4 [] [] (kp [3,5,7,8,9]) (kq [48]) 80 (pc c (pc o1 pn)) ?_
   refine rnR hE 0 [] [] (kp [3,7,8,9]) [] 176 (pc o1 pn) ?_
   refine rnR hE 1 [] [] (kp [3,7,8,9]) [] 208 pn ?_
   exact rnW hE 1 [] (kp [3,7,8,9]) [] 0 pn (ih _ _ _ h E hE)
  ·refine rnR hE 2 [] [] (kp [2]) [] 48 pn ?_
   obtain rfl:=osI h
   exact rnT hE 0 Tryz.f25 [] (kp [2]) [] 48 pn [] pn
theorem g_w_many_ok (N:Nat) (p:TPn) (r:Int) (h:g_w_many N p=some r):Sd 25 [(.agg (TPn.cells p))] [] 0 (aI r) []:=by
 unfold g_w_many at h
 refine sor (fu:=Tryz.f25) (c:=C_70 1) (nt:=20) (by kernel_rfl) (by kernel_rfl) (by kernel_rfl) (by kernel_rfl) (fun hm=>rfl) ?_
 intro E hE
 refine rnR hE 1 [] [] (kp [1]) (kq [0]) 32 pn ?_
 refine rnR hE 1 [] [] (kp [1,3]) (kq [0]) 48 pn ?_
 refine rnR hE 2 [] [] (kp [3,7,8,9]) [] 112 (pc o1 pn) ?_
 exact rnW hE 2 [] (kp [3,7,8,9]) [] 0 pn (g_w_many_L1_ok N _ N _ _ _ h E hE)
noncomputable def C_72 (n:Nat):Code:=cat (bodyOf Tryz.f45) (pth n)
def g_w_bounds_kept_J1_H (N:Nat) (b:Tw_bounds) (p:TPn) (rsumOf:Tw_sums) (K:Int→Option (Int)):Prop:=∀ (out:Int) (r:Int),K out=some r→∀ E,EnvOk E 0→Runs Tryz.prog E 45 59 (SPost E [] (aI r)) [.code (C_72 124),.code (C_72 125),.code (C_72 63)] ⟨[(3,(.op 0 0 0)),(4,(.op 1 0 0)),(7,(.op 2 0 0)),(8,(aI out))],[(0,vO 5 (Tw_bounds.cells b)),(1,vO 5 (TPn.cells p)),(2,vO 4 (Tw_sums.cells rsumOf))],3⟩
def g_w_bounds_kept_J2_H (N:Nat) (b:Tw_bounds) (p:TPn) (rsumOf:Tw_sums) (K:Int→Option (Int)):Prop:=∀ (out2:Int) (r:Int),K out2=some r→∀ E,EnvOk E 0→Runs Tryz.prog E 45 59 (SPost E [] (aI r)) [.code (C_72 252),.code (C_72 253),.code (C_72 127)] ⟨[(3,(.op 0 0 0)),(4,(.op 1 0 0)),(7,(.op 2 0 0)),(8,(aI out2))],[(0,vO 5 (Tw_bounds.cells b)),(1,vO 5 (TPn.cells p)),(2,vO 4 (Tw_sums.cells rsumOf))],3⟩
def g_w_bounds_kept_J3_H (N:Nat) (b:Tw_bounds) (p:TPn) (rsumOf:Tw_sums) (K:Int→Option (Int)):Prop:=∀ (out3:Int) (r:Int),K out3=some r→∀ E,EnvOk E 0→Runs Tryz.prog E 45 59 (SPost E [] (aI r)) [.code (C_72 508),.code (C_72 509),.code (C_72 255)] ⟨[(3,(.op 0 0 0)),(4,(.op 1 0 0)),(7,(.op 2 0 0)),(8,(aI out3))],[(0,vO 5 (Tw_bounds.cells b)),(1,vO 5 (TPn.cells p)),(2,vO 4 (Tw_sums.cells rsumOf))],3⟩
def g_w_bounds_kept_J4_H (N:Nat) (K:Int→Option (Int)):Prop:=∀ (out4:Int) (r:Int),K out4=some r→∀ E,EnvOk E 0→Runs Tryz.prog E 45 59 (SPost E [] (aI r)) [.code (C_72 510),.code (C_72 511)] ⟨[(8,(aI out4))],[],0⟩
theorem g_w_bounds_kept_J4_ok (N:Nat):g_w_bounds_kept_J4_H N (g_w_bounds_kept_J4 N):=by
 intro out4 r h E hE
 unfold g_w_bounds_kept_J4 at h
 refine rnR hE 0 [] [] (kp [6]) [] 32 pn ?_
 obtain rfl:=osI h
 exact rnT hE 0 Tryz.f45 [] (kp [6]) [] 48 pn [] pn
theorem g_w_bounds_kept_J3_ok (N:Nat) (b:Tw_bounds) (p:TPn) (rsumOf:Tw_sums):g_w_bounds_kept_J3_H N b p rsumOf (g_w_bounds_kept_J3 N b p rsumOf):=by
 intro out3 r h E hE
 unfold g_w_bounds_kept_J3 at h
 obtain ⟨rBt4,hr5,h⟩:=bsm h
 refine rnR hE 0 [(14,⟨[],true,(aB rBt4),[],0,false,none⟩)] [] (kp [8,55]) [] 243 (pc o1 (pc o1 (pc o1 (pc o1 (pc o1 (pc (g_w_between_ok N (w64 ((w64 (4 * rsumOf.f_arm)) - (w64 (rsumOf.f_mass * p.fLn)))) (w64 (0 - b.f_hog)) b.f_hog rBt4 hr5) pn)))))) ?_
 refine rnC 0 55 h (fun hq5 h=>?_) (fun hq5 h=>?_)
 ·refine rnR hE 0 [] [] (kp [8]) [] 291 pn ?_
  exact rnW hE 1 [] (kp [8]) [] 0 pn (g_w_bounds_kept_J4_ok N _ _ h E hE)
 ·exact rnW hE 2 [] (kp [8]) [] 0 pn (g_w_bounds_kept_J4_ok N _ _ h E hE)
theorem g_w_bounds_kept_J2_ok (N:Nat) (b:Tw_bounds) (p:TPn) (rsumOf:Tw_sums):g_w_bounds_kept_J2_H N b p rsumOf (g_w_bounds_kept_J2 N b p rsumOf):=by
 intro out2 r h E hE
 unfold g_w_bounds_kept_J2 at h
 obtain ⟨rBt3,hr4,h⟩:=bsm h
 refine rnR hE 0 [(7,⟨[],true,(aB rBt3),[],0,false,none⟩)] [] (kp [3,4,7,8,38]) (kq [0,1,2]) 131 (pc o1 (pc o1 (pc o1 (pc (g_w_between_ok N rsumOf.f_y (w64 (0 - b.f_y)) b.f_y rBt3 hr4) pn)))) ?_
 refine rnC 0 38 h (fun hq4 h=>?_) (fun hq4 h=>?_)
 ·refine rnR hE 0 [] [] (kp [3,4,7,8]) (kq [0,1,2]) 179 pn ?_
  exact rnW hE 2 [] (kp [3,4,7,8]) (kq [0,1,2]) 3 pn (g_w_bounds_kept_J3_ok N _ _ _ _ _ h E hE)
 ·exact rnW hE 3 [] (kp [3,4,7,8]) (kq [0,1,2]) 3 pn (g_w_bounds_kept_J3_ok N _ _ _ _ _ h E hE)
theorem g_w_bounds_kept_J1_ok (N:Nat) (b:Tw_bounds) (p:TPn) (rsumOf:Tw_sums):g_w_bounds_kept_J1_H N b p rsumOf (g_w_bounds_kept_J1 N b p rsumOf):=by
 intro out r h E hE
 unfold g_w_bounds_kept_J1 at h
 obtain ⟨rBt2,hr3,h⟩:=bsm h
 refine rnR hE 0 [(7,⟨[],true,(aB rBt2),[],0,false,none⟩)] [] (kp [3,4,7,8,28]) (kq [0,1,2]) 131 (pc o1 (pc o1 (pc o1 (pc (g_w_between_ok N rsumOf.f_x (w64 (0 - b.f_x)) b.f_x rBt2 hr3) pn)))) ?_
 refine rnC 0 28 h (fun hq3 h=>?_) (fun hq3 h=>?_)
 ·refine rnR hE 0 [] [] (kp [3,4,7,8]) (kq [0,1,2]) 179 pn ?_
  exact rnW hE 2 [] (kp [3,4,7,8]) (kq [0,1,2]) 3 pn (g_w_bounds_kept_J2_ok N _ _ _ _ _ h E hE)
 ·exact rnW hE 3 [] (kp [3,4,7,8]) (kq [0,1,2]) 3 pn (g_w_bounds_kept_J2_ok N _ _ _ _ _ h E hE)
theorem g_w_bounds_kept_ok (N:Nat) (b:Tw_bounds) (p:TPn) (s:Tw_state) (r:Int) (h:g_w_bounds_kept N b p s=some r):Sd 45 [(.agg (Tw_bounds.cells b)),(.agg (TPn.cells p)),(.agg (Tw_state.cells s))] [] 0 (aI r) []:=by
 unfold g_w_bounds_kept at h
 refine sor (fu:=Tryz.f45) (c:=C_72 1) (nt:=59) (by kernel_rfl) (by kernel_rfl) (by kernel_rfl) (by kernel_rfl) (fun hm=>rfl) ?_
 intro E hE
 refine rnR hE 1 [] [] (kp [3,4,5]) (kq [0,16,32]) 64 pn ?_
 obtain ⟨rsumOf,hr,h⟩:=bsm h
 refine rnR hE 1 [(2,⟨[],true,(.agg (Tw_sums.cells rsumOf)),[],0,false,none⟩)] [] (kp [3,4,7]) (kq [0,16,112]) 144 (pc o1 (pc o1 (pc (g_w_sumOf_ok N p s rsumOf hr) (pc o1 pn)))) ?_
 refine rnR hE 1 [] [] (kp [3,4,7,8]) (kq [0,16,112]) 160 pn ?_
 obtain ⟨rBt,hr2,h⟩:=bsm h
 refine rnR hE 2 [(6,⟨[],true,(aB rBt),[],0,false,none⟩)] [] (kp [3,4,7,8,18]) (kq [0,16,112]) 272 (pc o1 (pc o1 (pc o1 (pc (g_w_between_ok N rsumOf.f_mass b.f_low b.f_high rBt hr2) pn)))) ?_
 refine rnC 0 18 h (fun hq2 h=>?_) (fun hq2 h=>?_)
 ·refine rnR hE 0 [] [] (kp [3,4,7,8]) (kq [0,16,112]) 320 pn ?_
  exact rnW hE 2 [] (kp [3,4,7,8]) (kq [0] ++ [(1,.keep 16),(2,.keep 112)]) 3 pn (g_w_bounds_kept_J1_ok N _ _ _ _ _ h E hE)
 ·exact rnW hE 3 [] (kp [3,4,7,8]) (kq [0] ++ [(1,.keep 16),(2,.keep 112)]) 3 pn (g_w_bounds_kept_J1_ok N _ _ _ _ _ h E hE)
noncomputable def C_71 (n:Nat):Code:=cat (bodyOf Tryz.f26) (pth n)
theorem g_w_plan_keeps_ok (N:Nat) (t:Tw_plan) (s:Tw_state) (r:Bool) (h:g_w_plan_keeps N t s=some r):Sd 26 [(.agg (Tw_plan.cells t)),(.agg (Tw_state.cells s))] [] 0 (aB r) []:=by
 unfold g_w_plan_keeps at h
 refine sor (fu:=Tryz.f26) (c:=C_71 1) (nt:=12) (by kernel_rfl) (by kernel_rfl) (by kernel_rfl) (by kernel_rfl) (fun hm=>rfl) ?_
 intro E hE
 refine rnR hE 1 [] [] (kp [2,3]) (kq [0,16]) 48 pn ?_
 obtain ⟨rkept,hr,h⟩:=bsm h
 refine rnR hE 1 [(5,⟨[],true,(aI rkept),[],0,false,none⟩)] [] (kp [4]) [] 176 (pc o1 (pc o1 (pc o1 (pc (g_w_bounds_kept_ok N t.f_b t.f_p s rkept hr) pn)))) ?_
 obtain rfl:=osI h
 exact rnT hE 0 Tryz.f26 [] (kp [4]) [] 176 pn [] pn
noncomputable def C_73 (n:Nat):Code:=cat (bodyOf Tryz.f27) (pth n)
theorem g_w_plan_done_ok (N:Nat) (t:Tw_plan) (s:Tw_state) (r:Bool) (h:g_w_plan_done N t s=some r):Sd 27 [(.agg (Tw_plan.cells t)),(.agg (Tw_state.cells s))] [] 0 (aB r) []:=by
 unfold g_w_plan_done at h
 refine sor (fu:=Tryz.f27) (c:=C_73 1) (nt:=15) (by kernel_rfl) (by kernel_rfl) (by kernel_rfl) (by kernel_rfl) (fun hm=>rfl) ?_
 intro E hE
 refine rnR hE 1 [] [] (kp [2,3]) (kq [0,16]) 48 pn ?_
 obtain ⟨rsumOf,hr,h⟩:=bsm h
 obtain ⟨rBt,hr2,h⟩:=bsm h
 refine rnR hE 1 [(3,⟨[],true,(.agg (Tw_sums.cells rsumOf)),[],0,false,none⟩),(9,⟨[],true,(aB rBt),[],0,false,none⟩)] [] (kp [4]) [] 224 (pc o1 (pc o1 (pc (g_w_sumOf_ok N t.f_p s rsumOf hr) (pc o1 (pc o1 (pc (g_w_between_ok N rsumOf.f_mass t.f_low t.f_high rBt hr2) pn)))))) ?_
 obtain rfl:=osI h
 exact rnT hE 0 Tryz.f27 [] (kp [4]) [] 224 pn [] pn
noncomputable def C_75 (n:Nat):Code:=cat (bodyOf Tryz.f70) (pth n)
def g_slices_Reverse_api_Move_api_Move_L1_H (N:Nat) (K:(List TMove)→Int→Int→Option ((List TMove))):Prop:=∀ (C02:List TMove) (i:Int) (j:Int) (r:(List TMove)),K C02 i j=some r→∀ E,EnvOk E 1→Runs Tryz.prog E 70 28 (SPost E [(0,aO 2 TMove.cells TMove.d r)] (.tup [])) [.code (C_75 12),.inLoop (C_75 12),.inBlock 0] ⟨[(0,(.os 0 0 C02.length)),(2,(aI i)),(3,(aI j))],[(0,aO 2 TMove.cells TMove.d C02)],1⟩
theorem g_slices_Reverse_api_Move_api_Move_L1_ok (N:Nat) (fuel:Nat):g_slices_Reverse_api_Move_api_Move_L1_H N (g_slices_Reverse_api_Move_api_Move_L1 N fuel):=by
 induction fuel with
 | zero=>intro _ _ _ r h;rw [g_slices_Reverse_api_Move_api_Move_L1.eq_1] at h;cases h
 | succ fuel ih =>
  intro C02 i j r h E hE
  rw [g_slices_Reverse_api_Move_api_Move_L1.eq_2] at h
  refine rnR hE 2 [] [] (kp [0,2,3,9]) (kq [0]) 49 pn ?_
  refine rnC 0 9 h (fun hq2 h=>?_) (fun hq2 h=>?_)
  ·obtain ⟨c,h⟩:=ifSome h
   obtain ⟨c2,h⟩:=ifSome h
   refine rnR hE 3 [] [] ([(0,.osl (((C02.set ((i).toNat) (C02.getD ((j).toNat) TMove.d)).set ((j).toNat) (C02.getD ((i).toNat) TMove.d)).length))] ++ kp [2,3]) [(0,.arr 0 (((C02.set ((i).toNat) (C02.getD ((j).toNat) TMove.d)).set ((j).toNat) (C02.getD ((i).toNat) TMove.d)).length) (fun zi=>TMove.cells (((C02.set ((i).toNat) (C02.getD ((j).toNat) TMove.d)).set ((j).toNat) (C02.getD ((i).toNat) TMove.d)).getD zi TMove.d)))] 305 (pc c (pc (ltOf c) (pc c2 (pc (ltOf c2) (pc c2 (pc (ltOf c2) (pc c (pc (ltOf c) (pc (show C02.length=((C02.set ((i).toNat) (C02.getD ((j).toNat) TMove.d)).set ((j).toNat) (C02.getD ((i).toNat) TMove.d)).length from (len_set_raw (len_set_raw rfl))) (pc (show C02.length=((C02.set ((i).toNat) (C02.getD ((j).toNat) TMove.d)).set ((j).toNat) (C02.getD ((i).toNat) TMove.d)).length from (len_set_raw (len_set_raw rfl))) (pc (show ∀ zi,zi < ((C02.set ((i).toNat) (C02.getD ((j).toNat) TMove.d)).set ((j).toNat) (C02.getD ((i).toNat) TMove.d)).length→(fun zi=>TMove.cells (((C02.set ((i).toNat) (C02.getD ((j).toNat) TMove.d)).set ((j).toNat) (C02.getD ((i).toNat) TMove.d)).getD zi TMove.d)) zi=((fun zm=>if zm=(j).toNat then [(aI ((C02.getD ((i).toNat) TMove.d).f_Tank)),(aB ((C02.getD ((i).toNat) TMove.d).f_Up))] else ((fun zm=>if zm=(i).toNat then [(aI ((C02.getD ((j).toNat) TMove.d).f_Tank)),(aB ((C02.getD ((j).toNat) TMove.d).f_Up))] else (fun zi=>TMove.cells (C02.getD zi TMove.d)) zm)) zm)) zi from (get_set_raw TMove.cells TMove.d (C02.set ((i).toNat) (C02.getD ((j).toNat) TMove.d)) ((j).toNat) (C02.getD ((i).toNat) TMove.d) (get_set_raw TMove.cells TMove.d C02 ((i).toNat) (C02.getD ((j).toNat) TMove.d) (fun _ _=>rfl)))) pn))))))))))) ?_
   refine rnR hE 1 [] [] (kp [0,2,3]) (kq [0]) 401 pn ?_
   exact rnW hE 1 [] (kp [0,2,3]) (kq [0]) 1 pn (ih _ _ _ _ h E hE)
  ·obtain rfl:=osI h
   exact rnF hE 1 Tryz.f70 [] [] (kq [0]) 49 pn [] pn
theorem g_slices_Reverse_api_Move_api_Move_ok (N:Nat) (C0:List TMove) (r:(List TMove)) (h:g_slices_Reverse_api_Move_api_Move N C0=some r):Sd 70 [(.os 0 0 C0.length)] [(0,aO 2 TMove.cells TMove.d C0)] 1 (.tup []) [(0,aO 2 TMove.cells TMove.d r)]:=by
 unfold g_slices_Reverse_api_Move_api_Move at h
 refine sor (fu:=Tryz.f70) (c:=C_75 1) (nt:=28) (by kernel_rfl) (by kernel_rfl) (by kernel_rfl) (by kernel_rfl) (fun hm=>absurd hm (by decide)) ?_
 intro E hE
 refine rnR hE 1 [] [] (kp [0,2,3]) (kq [0]) 81 pn ?_
 exact rnW hE 2 [] (kp [0,2,3]) (kq [0]) 1 pn (g_slices_Reverse_api_Move_api_Move_L1_ok N N _ _ _ _ h E hE)
noncomputable def C_74 (n:Nat):Code:=cat (bodyOf Tryz.f28) (pth n)
def g_w_plan_way_L1_H (N:Nat) (t:Tw_plan) (C0:List (Tw_state×Tw_arrival)) (K:Tw_state→(List TMove)→Option ((List TMove))):Prop:=∀ (s2:Tw_state) (out:List TMove) (r:(List TMove)),K s2 out=some r→∀ E,EnvOk E 1→Runs Tryz.prog E 28 26 (SPost E [(0,⟨false,0,0,true,fun _=>encM (fun x=>.agg (Tw_state.cells x)) (fun x=>.agg (Tw_arrival.cells x)) C0⟩),(1,aO 2 TMove.cells TMove.d r)] (.os 1 0 r.length)) [.code (C_74 56),.inLoop (C_74 56),.inBlock 0,.code (C_74 15)] ⟨[(1,(.mp 0)),(3,(.op 1 0 0)),(5,(.op 2 0 0)),(7,(.os 3 0 out.length))],[(0,⟨false,0,0,true,fun _=>encM (fun x=>.agg (Tw_state.cells x)) (fun x=>.agg (Tw_arrival.cells x)) C0⟩),(1,vO 18 (Tw_plan.cells t)),(2,vO 6 (Tw_state.cells s2)),(3,aO 2 TMove.cells TMove.d out)],4⟩
theorem g_w_plan_way_L1_ok (N:Nat) (t:Tw_plan) (C0:List (Tw_state×Tw_arrival)) (fuel:Nat):g_w_plan_way_L1_H N t C0 (g_w_plan_way_L1 N t C0 fuel):=by
 induction fuel with
 | zero=>intro _ _ r h;rw [g_w_plan_way_L1.eq_1] at h;cases h
 | succ fuel ih =>
  intro s2 out r h E hE
  rw [g_w_plan_way_L1.eq_2] at h
  refine rnR hE 2 [] [] (kp [1,3,5,7,12]) (kq [0,1,2,3]) 68 (pc o1 (pc o1 pn)) ?_
  refine rnC 0 12 h (fun hq2 h=>?_) (fun hq2 h=>?_)
  ·refine rnR hE 3 [(2,⟨[],true,(.agg (Tw_arrival.cells ((mGet (fun (za zb:Tw_state)=>((zb.e0 == za.e0) && ((zb.e1 == za.e1) && ((zb.e2 == za.e2) && ((zb.e3 == za.e3) && ((zb.e4 == za.e4) && ((zb.e5 == za.e5) && true))))))) C0 s2).getD Tw_arrival.d))),[],0,false,none⟩)] [] (kp [1,3,5,7,8]) (kq [0,1,2,3,116]) 148 (pc o1 (pc (show (Go.Ab.look Tryz.prog 74 (encM (fun x=>.agg (Tw_state.cells x)) (fun x=>.agg (Tw_arrival.cells x)) C0) (.agg (Tw_state.cells s2))).map (fun zr=>zr.getD (ofConst (.agg #[.int .i64 0,.int .i64 0,.int .i64 0,.int .i64 0,.int .i64 0,.int .i64 0,.int .i64 0,.bool false])))=some (.agg (Tw_arrival.cells ((mGet (fun (za zb:Tw_state)=>((zb.e0 == za.e0) && ((zb.e1 == za.e1) && ((zb.e2 == za.e2) && ((zb.e3 == za.e3) && ((zb.e4 == za.e4) && ((zb.e5 == za.e5) && true))))))) C0 s2).getD Tw_arrival.d))) from (look_get (fun x=>.agg (Tw_state.cells x)) (fun x=>.agg (Tw_arrival.cells x)) (d:=Tw_arrival.d) (fun _ _=>rfl) rfl _ s2)) (pc o1 pn))) ?_
   obtain ⟨c,h⟩:=ifSome h
   refine rnR hE 1 [] [] (kp [1,3,5] ++ [(7,.osl ((out ++ ([(((mGet (fun (za zb:Tw_state)=>((zb.e0 == za.e0) && ((zb.e1 == za.e1) && ((zb.e2 == za.e2) && ((zb.e3 == za.e3) && ((zb.e4 == za.e4) && ((zb.e5 == za.e5) && true))))))) C0 s2).getD Tw_arrival.d).f_move)]:List TMove)).length))] ++ kp [8]) (kq [0,1,2,116] ++ [(212,.arr 212 ((out ++ ([(((mGet (fun (za zb:Tw_state)=>((zb.e0 == za.e0) && ((zb.e1 == za.e1) && ((zb.e2 == za.e2) && ((zb.e3 == za.e3) && ((zb.e4 == za.e4) && ((zb.e5 == za.e5) && true))))))) C0 s2).getD Tw_arrival.d).f_move)]:List TMove)).length) (fun zi=>TMove.cells ((out ++ ([(((mGet (fun (za zb:Tw_state)=>((zb.e0 == za.e0) && ((zb.e1 == za.e1) && ((zb.e2 == za.e2) && ((zb.e3 == za.e3) && ((zb.e4 == za.e4) && ((zb.e5 == za.e5) && true))))))) C0 s2).getD Tw_arrival.d).f_move)]:List TMove)).getD zi TMove.d)))]) 244 (pc o1 (pc (Eq.refl out.length) (pc c (pc (z1 1) (pc (show ∀ zi,zi < 1→AV.oneL ((fun zi=>([[(aI ((((mGet (fun (za zb:Tw_state)=>((zb.e0 == za.e0) && ((zb.e1 == za.e1) && ((zb.e2 == za.e2) && ((zb.e3 == za.e3) && ((zb.e4 == za.e4) && ((zb.e5 == za.e5) && true))))))) C0 s2).getD Tw_arrival.d).f_move).f_Tank)),(aB ((((mGet (fun (za zb:Tw_state)=>((zb.e0 == za.e0) && ((zb.e1 == za.e1) && ((zb.e2 == za.e2) && ((zb.e3 == za.e3) && ((zb.e4 == za.e4) && ((zb.e5 == za.e5) && true))))))) C0 s2).getD Tw_arrival.d).f_move).f_Up))]]:List (List AV)).getD zi []) (addz 0 zi))=true from (oneN rfl)) (pc (show (out.length+1)=(out ++ ([(((mGet (fun (za zb:Tw_state)=>((zb.e0 == za.e0) && ((zb.e1 == za.e1) && ((zb.e2 == za.e2) && ((zb.e3 == za.e3) && ((zb.e4 == za.e4) && ((zb.e5 == za.e5) && true))))))) C0 s2).getD Tw_arrival.d).f_move)]:List TMove)).length from (len_app_raw rfl rfl)) (pc (show out.length+1=(out ++ ([(((mGet (fun (za zb:Tw_state)=>((zb.e0 == za.e0) && ((zb.e1 == za.e1) && ((zb.e2 == za.e2) && ((zb.e3 == za.e3) && ((zb.e4 == za.e4) && ((zb.e5 == za.e5) && true))))))) C0 s2).getD Tw_arrival.d).f_move)]:List TMove)).length from (len_app_raw rfl rfl)) (pc (show ∀ zi,zi < (out ++ ([(((mGet (fun (za zb:Tw_state)=>((zb.e0 == za.e0) && ((zb.e1 == za.e1) && ((zb.e2 == za.e2) && ((zb.e3 == za.e3) && ((zb.e4 == za.e4) && ((zb.e5 == za.e5) && true))))))) C0 s2).getD Tw_arrival.d).f_move)]:List TMove)).length→(fun zi=>TMove.cells ((out ++ ([(((mGet (fun (za zb:Tw_state)=>((zb.e0 == za.e0) && ((zb.e1 == za.e1) && ((zb.e2 == za.e2) && ((zb.e3 == za.e3) && ((zb.e4 == za.e4) && ((zb.e5 == za.e5) && true))))))) C0 s2).getD Tw_arrival.d).f_move)]:List TMove)).getD zi TMove.d)) zi=((fun zm=>if zm < out.length then (fun zi=>TMove.cells (out.getD zi TMove.d)) zm else (fun zi=>([[(aI ((((mGet (fun (za zb:Tw_state)=>((zb.e0 == za.e0) && ((zb.e1 == za.e1) && ((zb.e2 == za.e2) && ((zb.e3 == za.e3) && ((zb.e4 == za.e4) && ((zb.e5 == za.e5) && true))))))) C0 s2).getD Tw_arrival.d).f_move).f_Tank)),(aB ((((mGet (fun (za zb:Tw_state)=>((zb.e0 == za.e0) && ((zb.e1 == za.e1) && ((zb.e2 == za.e2) && ((zb.e3 == za.e3) && ((zb.e4 == za.e4) && ((zb.e5 == za.e5) && true))))))) C0 s2).getD Tw_arrival.d).f_move).f_Up))]]:List (List AV)).getD zi []) (zm - out.length))) zi from (get_app_raw TMove.cells TMove.d out ([(((mGet (fun (za zb:Tw_state)=>((zb.e0 == za.e0) && ((zb.e1 == za.e1) && ((zb.e2 == za.e2) && ((zb.e3 == za.e3) && ((zb.e4 == za.e4) && ((zb.e5 == za.e5) && true))))))) C0 s2).getD Tw_arrival.d).f_move)]:List TMove) rfl (fun _ _=>rfl) (fun zq hzq=>get_chunk TMove.cells TMove.d ([(((mGet (fun (za zb:Tw_state)=>((zb.e0 == za.e0) && ((zb.e1 == za.e1) && ((zb.e2 == za.e2) && ((zb.e3 == za.e3) && ((zb.e4 == za.e4) && ((zb.e5 == za.e5) && true))))))) C0 s2).getD Tw_arrival.d).f_move)]:List TMove) zq hzq))) pn)))))))) ?_
   refine rnR hE 0 [] [] (kp [1,3,5,7]) (kq [0,1,2,212]) 292 (pc o1 (pc o1 pn)) ?_
   exact rnW hE 2 [] (kp [1,3,5,7]) (kq [0,1,2] ++ [(3,.keep 212)]) 4 pn (ih _ _ _ h E hE)
  ·obtain ⟨rMove,hr,h⟩:=bsm h
   obtain ⟨c2,h⟩:=ifSome h
   refine rnR hE 2 [(1,⟨[3],false,(.tup []),[(0,aO 2 TMove.cells TMove.d rMove)],0,false,none⟩)] [] [(7,.osl (rMove.length))] (kq [0,3]) 100 (pc (g_slices_Reverse_api_Move_api_Move_ok N out rMove hr) (pc (show out.length=rMove.length from (Eq.symm c2)) pn)) ?_
   refine rnR hE 1 [] [] (kp [6]) (kq [0,3]) 132 pn ?_
   obtain rfl:=osI h
   exact rnT hE 0 Tryz.f28 [] (kp [6]) (kq [0] ++ [(1,.keep 3)]) 132 pn [] pn
theorem g_w_plan_way_ok (N:Nat) (t:Tw_plan) (s:Tw_state) (C0:List (Tw_state×Tw_arrival)) (r:(List TMove)) (h:g_w_plan_way N t s C0=some r):Sd 28 [(.agg (Tw_plan.cells t)),(.mp 0),(.agg (Tw_state.cells s))] [(0,⟨false,0,0,true,fun _=>encM (fun x=>.agg (Tw_state.cells x)) (fun x=>.agg (Tw_arrival.cells x)) C0⟩)] 1 (.os 1 0 r.length) [(0,⟨false,0,0,true,fun _=>encM (fun x=>.agg (Tw_state.cells x)) (fun x=>.agg (Tw_arrival.cells x)) C0⟩),(1,aO 2 TMove.cells TMove.d r)]:=by
 unfold g_w_plan_way at h
 refine sor (fu:=Tryz.f28) (c:=C_74 1) (nt:=26) (by kernel_rfl) (by kernel_rfl) (by kernel_rfl) (by kernel_rfl) (fun hm=>absurd hm (by decide)) ?_
 intro E hE
 refine rnR hE 1 [] [] (kp [1,3,5]) (kq [0,1,17]) 49 pn ?_
 refine rnR hE 1 [] [] (kp [1,3,5,7]) (kq [0,1,17]) 65 pn ?_
 exact rnW hE 3 [] (kp [1,3,5] ++ [(7,.nilos 3)]) (kq [0,1] ++ [(2,.keep 17),(3,.nil 2 (fun zi=>TMove.cells (([]:List TMove).getD zi TMove.d)))]) 4 pn (g_w_plan_way_L1_ok N _ _ N _ _ _ h E hE)
noncomputable def C_76 (n:Nat):Code:=cat (bodyOf Tryz.f29) (pth n)
def g_w_plan_moved_J1_H (N:Nat) (t:Tw_plan) (m:TMove) (K:Tw_state→Option (Tw_state×Bool)):Prop:=∀ (s2:Tw_state) (r:Tw_state×Bool),K s2=some r→∀ E,EnvOk E 0→Runs Tryz.prog E 29 46 (SPost E [] (.tup [(.agg (Tw_state.cells r.1)),(aB r.2)])) [.code (C_76 30),.code (C_76 31)] ⟨[(3,(.op 0 0 0)),(4,(.op 1 0 0)),(5,(.op 2 0 0)),(6,(.op 3 0 0))],[(0,vO 18 (Tw_plan.cells t)),(1,vO 6 (Tw_state.cells s2)),(2,vO 2 (TMove.cells m)),(3,vO 6 [(aI 0),(aI 0),(aI 0),(aI 0),(aI 0),(aI 0)])],4⟩
theorem g_w_plan_moved_J1_ok (N:Nat) (t:Tw_plan) (m:TMove):g_w_plan_moved_J1_H N t m (g_w_plan_moved_J1 N t m):=by
 intro s2 r h E hE
 unfold g_w_plan_moved_J1 at h
 obtain ⟨c2,h⟩:=ifSome h
 obtain ⟨c3,h⟩:=ifSome h
 obtain ⟨rBt2,hr2,h⟩:=bsm h
 refine rnR hE 0 [(13,⟨[],true,(aB rBt2),[],0,false,none⟩)] [] (kp [6,7]) (kq [3]) 260 (pc o1 (pc o1 (pc c2 (pc o1 (pc o1 (pc o1 (pc c3 (pc (g_w_between_ok N (pickI [s2.e0,s2.e1,s2.e2,s2.e3,s2.e4,s2.e5] ((m.f_Tank).toNat)) 0 ((t.f_p.fTk.getD ((m.f_Tank).toNat) TTank.d).f_Steps) rBt2 hr2) (pc o1 pn))))))))) ?_
 obtain rfl:=osI h
 exact rnT hE 0 Tryz.f29 [] (kp [6,7]) [(16,.keep 3)] 260 pn [16] (pc o1 pn)
theorem g_w_plan_moved_ok (N:Nat) (t:Tw_plan) (s:Tw_state) (m:TMove) (r:Tw_state×Bool) (h:g_w_plan_moved N t s m=some r):Sd 29 [(.agg (Tw_plan.cells t)),(.agg (Tw_state.cells s)),(.agg (TMove.cells m))] [] 0 (.tup [(.agg (Tw_state.cells r.1)),(aB r.2)]) []:=by
 unfold g_w_plan_moved at h
 refine sor (fu:=Tryz.f29) (c:=C_76 1) (nt:=46) (by kernel_rfl) (by kernel_rfl) (by kernel_rfl) (by kernel_rfl) (fun hm=>rfl) ?_
 intro E hE
 refine rnR hE 1 [] [] (kp [3,4,5,6]) (kq [0,16,32,48]) 80 pn ?_
 obtain ⟨rBt,hr,h⟩:=bsm h
 refine rnR hE 2 [(7,⟨[],true,(aB rBt),[],0,false,none⟩)] [] (kp [3,4,5,6,16]) (kq [0,16,32,48]) 224 (pc o1 (pc o1 (pc (g_w_between_ok N m.f_Tank 0 (w64 (((t.f_p.fTk.length:Nat):Int) - 1)) rBt hr) pn))) ?_
 refine rnC 0 16 h (fun hq2 h=>?_) (fun hq2 h=>?_)
 ·refine rnR hE 1 [] [] (kp [6,7]) (kq [48]) 272 (pc o1 (pc o1 pn)) ?_
  obtain rfl:=osI h
  exact rnT hE 0 Tryz.f29 [] (kp [6,7]) [(16,.keep 48)] 272 pn [16] (pc o1 pn)
 ·refine rnR hE 3 [] [] (kp [3,4,5,6,19]) (kq [0,16,32,48]) 256 (pc o1 pn) ?_
  refine rnC 0 19 h (fun hq3 h=>?_) (fun hq3 h=>?_)
  ·obtain ⟨c,h⟩:=ifSome h
   refine rnR hE 0 [] [] (kp [3,4,5,6]) (kq [0,16,32,48]) 368 (pc o1 (pc c (pc o1 (pc c (pc o1 pn))))) ?_
   exact rnW hE 1 [] (kp [3,4,5,6]) (kq [0] ++ [(1,.keep 16),(2,.keep 32),(3,.keep 48)]) 4 pn (g_w_plan_moved_J1_ok N _ _ _ _ h E hE)
  ·obtain ⟨c4,h⟩:=ifSome h
   refine rnR hE 0 [] [] (kp [3,4,5,6]) (kq [0,16,32,48]) 368 (pc o1 (pc c4 (pc o1 (pc c4 (pc o1 pn))))) ?_
   exact rnW hE 1 [] (kp [3,4,5,6]) (kq [0] ++ [(1,.keep 16),(2,.keep 32),(3,.keep 48)]) 4 pn (g_w_plan_moved_J1_ok N _ _ _ _ h E hE)
noncomputable def C_58 (n:Nat):Code:=cat (bodyOf Tryz.f7) (pth n)
def g_w_Ballast_L1_H (N:Nat) (p:TPn) (ropen:Tw_plan×Int) (K:(List (Tw_state×Tw_arrival))→(List Tw_state)→Nat→Nat→Option ((List TMove)×Int)):Prop:=∀ (reached:List (Tw_state×Tw_arrival)) (todo:List Tw_state) (todoo:Nat) (todon:Nat) (r:(List TMove)×Int),K reached todo todoo todon=some r→∀ E,EnvOk E 0→Runs Tryz.prog E 7 111 (SPost E [] (.tup [(encL TMove.cells TMove.d r.1),(aI r.2)])) [.code (C_58 2036),.inLoop (C_58 2036),.inBlock 0,.code (C_58 255)] ⟨[(3,(.op 0 0 0)),(8,(.op 1 0 0)),(10,(.mp 2)),(11,(.os 3 todoo todon))],[(0,vO 5 (TPn.cells p)),(1,vO 18 (Tw_plan.cells ropen.1)),(2,⟨false,0,0,true,fun _=>encM (fun x=>.agg (Tw_state.cells x)) (fun x=>.agg (Tw_arrival.cells x)) reached⟩),(3,aO 6 Tw_state.cells Tw_state.d todo)],4⟩
def g_w_Ballast_L2_H (N:Nat) (p:TPn) (ropen:Tw_plan×Int) (todo:List Tw_state) (todoo:Nat) (K:(List (Tw_state×Tw_arrival))→(List Tw_state)→Nat→Nat→Int→Option ((List TMove)×Int)):Prop:=∀ (reached2:List (Tw_state×Tw_arrival)) (todo2:List Tw_state) (todoo2:Nat) (todon2:Nat) (x:Int) (r:(List TMove)×Int),K reached2 todo2 todoo2 todon2 x=some r→∀ E,EnvOk E 0→Runs Tryz.prog E 7 111 (SPost E [] (.tup [(encL TMove.cells TMove.d r.1),(aI r.2)])) [.code (C_58 521372),.inLoop (C_58 521372),.inBlock 2,.inBlock 1,.code (C_58 8147),.inLoop (C_58 2036),.inBlock 0,.code (C_58 255)] ⟨[(3,(.op 0 0 0)),(8,(.op 1 0 0)),(10,(.mp 2)),(11,(.os 3 todoo2 todon2)),(12,(.op 4 0 0)),(64,(aI ((p.fTk.length:Nat):Int))),(65,(aI x))],[(0,vO 5 (TPn.cells p)),(1,vO 18 (Tw_plan.cells ropen.1)),(2,⟨false,0,0,true,fun _=>encM (fun x=>.agg (Tw_state.cells x)) (fun x=>.agg (Tw_arrival.cells x)) reached2⟩),(3,aO 6 Tw_state.cells Tw_state.d todo2),(4,vO 6 (Tw_state.cells (todo.getD (addz todoo 0) Tw_state.d)))],5⟩
def g_w_Ballast_L3_H (N:Nat) (p:TPn) (ropen:Tw_plan×Int) (todo:List Tw_state) (todoo:Nat) (x:Int) (K:(List (Tw_state×Tw_arrival))→(List Tw_state)→Nat→Nat→Int→Option ((List TMove)×Int)):Prop:=∀ (reached3:List (Tw_state×Tw_arrival)) (todo3:List Tw_state) (todoo3:Nat) (todon3:Nat) (x2:Int) (r:(List TMove)×Int),K reached3 todo3 todoo3 todon3 x2=some r→∀ E,EnvOk E 0→Runs Tryz.prog E 7 111 (SPost E [] (.tup [(encL TMove.cells TMove.d r.1),(aI r.2)])) [.code (C_58 133471436),.inLoop (C_58 133471436),.inBlock 4,.inBlock 3,.code (C_58 4170983),.inLoop (C_58 521372),.inBlock 2,.inBlock 1,.code (C_58 8147),.inLoop (C_58 2036),.inBlock 0,.code (C_58 255)] ⟨[(3,(.op 0 0 0)),(8,(.op 1 0 0)),(10,(.mp 2)),(11,(.os 3 todoo3 todon3)),(12,(.op 4 0 0)),(13,(aI x)),(64,(aI ((p.fTk.length:Nat):Int))),(65,(aI x)),(68,(.os 5 0 (([true,false]:List Bool).length))),(69,(aI ((2:Nat):Int))),(70,(aI x2))],[(0,vO 5 (TPn.cells p)),(1,vO 18 (Tw_plan.cells ropen.1)),(2,⟨false,0,0,true,fun _=>encM (fun x=>.agg (Tw_state.cells x)) (fun x=>.agg (Tw_arrival.cells x)) reached3⟩),(3,aO 6 Tw_state.cells Tw_state.d todo3),(4,vO 6 (Tw_state.cells (todo.getD (addz todoo 0) Tw_state.d))),(5,aO 1 cB false ([true,false]:List Bool))],6⟩
def g_w_Ballast_J4_H (N:Nat) (p:TPn) (ropen:Tw_plan×Int) (todo:List Tw_state) (todoo:Nat) (x:Int) (x2:Int) (K:(List (Tw_state×Tw_arrival))→(List Tw_state)→Nat→Nat→Option ((List TMove)×Int)):Prop:=∀ (reached4:List (Tw_state×Tw_arrival)) (todo4:List Tw_state) (todoo4:Nat) (todon4:Nat) (r:(List TMove)×Int),K reached4 todo4 todoo4 todon4=some r→∀ E,EnvOk E 0→Runs Tryz.prog E 7 111 (SPost E [] (.tup [(encL TMove.cells TMove.d r.1),(aI r.2)])) [.code (C_58 1067771495),.inLoop (C_58 133471436),.inBlock 4,.inBlock 3,.code (C_58 4170983),.inLoop (C_58 521372),.inBlock 2,.inBlock 1,.code (C_58 8147),.inLoop (C_58 2036),.inBlock 0,.code (C_58 255)] ⟨[(3,(.op 0 0 0)),(8,(.op 1 0 0)),(10,(.mp 2)),(11,(.os 3 todoo4 todon4)),(12,(.op 4 0 0)),(13,(aI x)),(64,(aI ((p.fTk.length:Nat):Int))),(65,(aI x)),(68,(.os 5 0 (([true,false]:List Bool).length))),(69,(aI ((2:Nat):Int))),(70,(aI x2))],[(0,vO 5 (TPn.cells p)),(1,vO 18 (Tw_plan.cells ropen.1)),(2,⟨false,0,0,true,fun _=>encM (fun x=>.agg (Tw_state.cells x)) (fun x=>.agg (Tw_arrival.cells x)) reached4⟩),(3,aO 6 Tw_state.cells Tw_state.d todo4),(4,vO 6 (Tw_state.cells (todo.getD (addz todoo 0) Tw_state.d))),(5,aO 1 cB false ([true,false]:List Bool))],6⟩
theorem g_w_Ballast_J4_ok (N:Nat) (p:TPn) (ropen:Tw_plan×Int) (todo:List Tw_state) (todoo:Nat) (x:Int) (x2:Int) (K_g_w_Ballast_L3:(List (Tw_state×Tw_arrival))→(List Tw_state)→Nat→Nat→Int→Option ((List TMove)×Int)) (K_g_w_Ballast_L2:(List (Tw_state×Tw_arrival))→(List Tw_state)→Nat→Nat→Int→Option ((List TMove)×Int)) (K_g_w_Ballast_L1:(List (Tw_state×Tw_arrival))→(List Tw_state)→Nat→Nat→Option ((List TMove)×Int)) (hK_g_w_Ballast_L3:g_w_Ballast_L3_H N p ropen todo todoo x K_g_w_Ballast_L3) (hK_g_w_Ballast_L2:g_w_Ballast_L2_H N p ropen todo todoo K_g_w_Ballast_L2) (hK_g_w_Ballast_L1:g_w_Ballast_L1_H N p ropen K_g_w_Ballast_L1):g_w_Ballast_J4_H N p ropen todo todoo x x2 (g_w_Ballast_J4 N p ropen todo todoo x x2 K_g_w_Ballast_L3 K_g_w_Ballast_L2 K_g_w_Ballast_L1):=by
 intro reached4 todo4 todoo4 todon4 r h E hE
 unfold g_w_Ballast_J4 at h
 refine rnR hE 0 [] [] (kp [3,8,10,11,12,13,64,65,68,69,70]) (kq [0,1,2,3,4,5]) 38 pn ?_
 exact rnW hE 1 [] (kp [3,8,10,11,12,13,64,65,68,69,70]) (kq [0,1,2,3,4,5]) 6 pn (hK_g_w_Ballast_L3 _ _ _ _ _ _ h E hE)
theorem g_w_Ballast_L3_ok (N:Nat) (p:TPn) (ropen:Tw_plan×Int) (todo:List Tw_state) (todoo:Nat) (x:Int) (K_g_w_Ballast_L2:(List (Tw_state×Tw_arrival))→(List Tw_state)→Nat→Nat→Int→Option ((List TMove)×Int)) (K_g_w_Ballast_L1:(List (Tw_state×Tw_arrival))→(List Tw_state)→Nat→Nat→Option ((List TMove)×Int)) (hK_g_w_Ballast_L2:g_w_Ballast_L2_H N p ropen todo todoo K_g_w_Ballast_L2) (hK_g_w_Ballast_L1:g_w_Ballast_L1_H N p ropen K_g_w_Ballast_L1) (fuel:Nat):g_w_Ballast_L3_H N p ropen todo todoo x (g_w_Ballast_L3 N p ropen todo todoo x K_g_w_Ballast_L2 K_g_w_Ballast_L1 fuel):=by
 induction fuel with
 | zero=>intro _ _ _ _ _ r h;rw [g_w_Ballast_L3.eq_1] at h;cases h
 | succ fuel ih =>
  intro reached3 todo3 todoo3 todon3 x2 r h E hE
  rw [g_w_Ballast_L3.eq_2] at h
  refine rnR hE 1 [] [] (kp [3,8,10,11,12,13,64,65,68,69,70,71]) (kq [0,1,2,3,4,5]) 22 pn ?_
  refine rnC 1 71 h (fun hq8 h=>?_) (fun hq8 h=>?_)
  ·obtain ⟨c3,h⟩:=ifSome h
   refine rnR hE 4 [] [] (kp [3,8,10,11,12,13,15,64,65,68,69,70]) (kq [0,1,2,3,4,5]) 70 (pc c3 (pc (ltOf c3) pn)) ?_
   refine rnR hE 1 [] [] (kp [3,8,10,11,12,13,16,64,65,68,69,70]) (kq [0,1,2,3,4,5,118]) 150 (pc o1 pn) ?_
   obtain ⟨rmoved,hr6,h⟩:=bsm h
   refine rnR hE 1 [(3,⟨[],true,(.tup [(.agg (Tw_state.cells rmoved.1)),(aB rmoved.2)]),[],0,false,none⟩)] [] (kp [3,8,10,11,12,13,16,17,18,64,65,68,69,70]) (kq [0,1,2,3,4,5,118,262]) 310 (pc o1 (pc o1 (pc o1 (pc (g_w_plan_moved_ok N ropen.1 (todo.getD (addz todoo 0) Tw_state.d) (⟨x,(([true,false]:List Bool).getD ((x2).toNat) false)⟩:TMove) rmoved hr6) (pc o1 pn))))) ?_
   refine rnR hE 1 [(2,⟨[],true,(.tup [(.agg (Tw_arrival.cells ((mGet (fun (za zb:Tw_state)=>((zb.e0 == za.e0) && ((zb.e1 == za.e1) && ((zb.e2 == za.e2) && ((zb.e3 == za.e3) && ((zb.e4 == za.e4) && ((zb.e5 == za.e5) && true))))))) reached3 rmoved.1).getD Tw_arrival.d))),(aB ((mGet (fun (za zb:Tw_state)=>((zb.e0 == za.e0) && ((zb.e1 == za.e1) && ((zb.e2 == za.e2) && ((zb.e3 == za.e3) && ((zb.e4 == za.e4) && ((zb.e5 == za.e5) && true))))))) reached3 rmoved.1).isSome))]),[],0,false,none⟩)] [] (kp [3,8,10,11,12,13,16,17,18,20,64,65,68,69,70]) (kq [0,1,2,3,4,5,118,262]) 454 (pc o1 (pc (show (Go.Ab.look Tryz.prog 74 (encM (fun x=>.agg (Tw_state.cells x)) (fun x=>.agg (Tw_arrival.cells x)) reached3) (.agg (Tw_state.cells rmoved.1))).map (fun zr=>AV.tup [zr.getD (ofConst (.agg #[.int .i64 0,.int .i64 0,.int .i64 0,.int .i64 0,.int .i64 0,.int .i64 0,.int .i64 0,.bool false])),.atom (.bool zr.isSome)])=some (.tup [(.agg (Tw_arrival.cells ((mGet (fun (za zb:Tw_state)=>((zb.e0 == za.e0) && ((zb.e1 == za.e1) && ((zb.e2 == za.e2) && ((zb.e3 == za.e3) && ((zb.e4 == za.e4) && ((zb.e5 == za.e5) && true))))))) reached3 rmoved.1).getD Tw_arrival.d))),(aB ((mGet (fun (za zb:Tw_state)=>((zb.e0 == za.e0) && ((zb.e1 == za.e1) && ((zb.e2 == za.e2) && ((zb.e3 == za.e3) && ((zb.e4 == za.e4) && ((zb.e5 == za.e5) && true))))))) reached3 rmoved.1).isSome))]) from (look_ok (fun x=>.agg (Tw_state.cells x)) (fun x=>.agg (Tw_arrival.cells x)) (d:=Tw_arrival.d) (fun _ _=>rfl) rfl _ rmoved.1)) (pc o1 pn))) ?_
   obtain ⟨rkeeps2,hr7,h⟩:=bsm h
   refine rnR hE 1 [(8,⟨[],true,(aB rkeeps2),[],0,false,none⟩)] [] (kp [3,8,10,11,12,13,16,17,64,65,68,69,70,99]) (kq [0,1,2,3,4,5,118,262]) 614 (pc (fun hg:rmoved.2=true=>(pc hg pn)) (pc (fun hq:rmoved.2=true=>(pc hq pn)) (pc (fun hg:(cond rmoved.2 (!((mGet (fun (za zb:Tw_state)=>((zb.e0 == za.e0) && ((zb.e1 == za.e1) && ((zb.e2 == za.e2) && ((zb.e3 == za.e3) && ((zb.e4 == za.e4) && ((zb.e5 == za.e5) && true))))))) reached3 rmoved.1).isSome)) false)=true=>(pc o1 pn)) (pc (fun hg:(cond rmoved.2 (!((mGet (fun (za zb:Tw_state)=>((zb.e0 == za.e0) && ((zb.e1 == za.e1) && ((zb.e2 == za.e2) && ((zb.e3 == za.e3) && ((zb.e4 == za.e4) && ((zb.e5 == za.e5) && true))))))) reached3 rmoved.1).isSome)) false)=true=>(pc o1 pn)) (pc (fun hg:(cond rmoved.2 (!((mGet (fun (za zb:Tw_state)=>((zb.e0 == za.e0) && ((zb.e1 == za.e1) && ((zb.e2 == za.e2) && ((zb.e3 == za.e3) && ((zb.e4 == za.e4) && ((zb.e5 == za.e5) && true))))))) reached3 rmoved.1).isSome)) false)=true=>(pc (g_w_plan_keeps_ok N ropen.1 rmoved.1 rkeeps2 (condT hr7 hg)) (pc hg (pc hg pn)))) (pc (fun hq:(cond rmoved.2 (!((mGet (fun (za zb:Tw_state)=>((zb.e0 == za.e0) && ((zb.e1 == za.e1) && ((zb.e2 == za.e2) && ((zb.e3 == za.e3) && ((zb.e4 == za.e4) && ((zb.e5 == za.e5) && true))))))) reached3 rmoved.1).isSome)) false)=true=>(pc hq pn)) pn)))))) ?_
   refine rnC 0 99 h (fun hq9 h=>?_) (fun hq9 h=>?_)
   ·refine rnR hE 1 [(5,⟨[],true,(.tup (encM (fun x=>.agg (Tw_state.cells x)) (fun x=>.agg (Tw_arrival.cells x)) (mPut (fun (za zb:Tw_state)=>((zb.e0 == za.e0) && ((zb.e1 == za.e1) && ((zb.e2 == za.e2) && ((zb.e3 == za.e3) && ((zb.e4 == za.e4) && ((zb.e5 == za.e5) && true))))))) reached3 rmoved.1 (⟨(todo.getD (addz todoo 0) Tw_state.d),(⟨x,(([true,false]:List Bool).getD ((x2).toNat) false)⟩:TMove)⟩:Tw_arrival)))),[],0,false,none⟩)] [] (kp [3,8,10,11,12,13,17,64,65,68,69,70]) (kq [0,1,2,3,4,5,262]) 710 (pc o1 (pc o1 (pc o1 (pc (show Go.Ab.insA Tryz.prog 74 (encM (fun x=>.agg (Tw_state.cells x)) (fun x=>.agg (Tw_arrival.cells x)) reached3) (.agg (Tw_state.cells rmoved.1)) (.agg [(aI ((todo.getD (addz todoo 0) Tw_state.d).e0)),(aI ((todo.getD (addz todoo 0) Tw_state.d).e1)),(aI ((todo.getD (addz todoo 0) Tw_state.d).e2)),(aI ((todo.getD (addz todoo 0) Tw_state.d).e3)),(aI ((todo.getD (addz todoo 0) Tw_state.d).e4)),(aI ((todo.getD (addz todoo 0) Tw_state.d).e5)),(aI x),(aB (([true,false]:List Bool).getD ((x2).toNat) false))])=some (encM (fun x=>.agg (Tw_state.cells x)) (fun x=>.agg (Tw_arrival.cells x)) (mPut (fun (za zb:Tw_state)=>((zb.e0 == za.e0) && ((zb.e1 == za.e1) && ((zb.e2 == za.e2) && ((zb.e3 == za.e3) && ((zb.e4 == za.e4) && ((zb.e5 == za.e5) && true))))))) reached3 rmoved.1 (⟨(todo.getD (addz todoo 0) Tw_state.d),(⟨x,(([true,false]:List Bool).getD ((x2).toNat) false)⟩:TMove)⟩:Tw_arrival))) from (insA_enc (fun x=>.agg (Tw_state.cells x)) (fun x=>.agg (Tw_arrival.cells x)) (fun _ _=>rfl) _ rmoved.1 (⟨(todo.getD (addz todoo 0) Tw_state.d),(⟨x,(([true,false]:List Bool).getD ((x2).toNat) false)⟩:TMove)⟩:Tw_arrival))) pn)))) ?_
    obtain ⟨hQ,h⟩:=ifSome h
    obtain ⟨hA,hB⟩:=both_some h
    refine sA 0 [.code (C_58 273349502589),.inBlock 5,.code (C_58 1067771495),.inLoop (C_58 133471436),.inBlock 4,.inBlock 3,.code (C_58 4170983),.inLoop (C_58 521372),.inBlock 2,.inBlock 1,.code (C_58 8147),.inLoop (C_58 2036),.inBlock 0,.code (C_58 255)] ?_
    refine Runs.split 11 3 todoo3 todon3 (aO 6 Tw_state.cells Tw_state.d todo3) (by kernel_rfl) (by kernel_rfl) (by kernel_rfl) hQ ?_ ?_
    ·replace h:=hA
     refine rnR hE 0 [(3,⟨[],false,.nil,[],0,false,none⟩)] [] (kp [3,8,10,11,12,13,64,65,68,69,70]) (kq [0,1,2] ++ [(3,.arr 3 ((todo3 ++ ([rmoved.1]:List Tw_state)).length) (fun zi=>Tw_state.cells ((todo3 ++ ([rmoved.1]:List Tw_state)).getD zi Tw_state.d)))] ++ kq [4,5]) 790 (pc o1 (pc (show 0 < 1∧(addz todoo3 todon3)+1≤(addz todoo3 todon3)+1 from ⟨Nat.one_pos,Nat.le_refl _⟩) (pc (show ∀ zi,zi < (addz todoo3 todon3)+1→noMrL (if zi < (addz todoo3 todon3) then Tw_state.cells (todo3.getD zi Tw_state.d) else unL 6)=true from (noMr_room _ (fun _=>rfl))) (pc (z1 1) (pc (show ∀ zi,zi < 1→AV.oneL ((fun zi=>([[(aI rmoved.1.e0),(aI rmoved.1.e1),(aI rmoved.1.e2),(aI rmoved.1.e3),(aI rmoved.1.e4),(aI rmoved.1.e5)]]:List (List AV)).getD zi []) (addz 0 zi))=true from (oneN rfl)) (pc (show (addz todoo3 todon3)+1=(todo3 ++ ([rmoved.1]:List Tw_state)).length from (len_appQ hQ rfl)) (pc (show ∀ zi,zi < (todo3 ++ ([rmoved.1]:List Tw_state)).length→(fun zi=>Tw_state.cells ((todo3 ++ ([rmoved.1]:List Tw_state)).getD zi Tw_state.d)) zi=((fun zm=>if zm < (addz todoo3 todon3) then (if zm < (addz todoo3 todon3) then Tw_state.cells (todo3.getD zm Tw_state.d) else unL 6) else if zm < (addz todoo3 todon3)+1 then (fun zi=>([[(aI rmoved.1.e0),(aI rmoved.1.e1),(aI rmoved.1.e2),(aI rmoved.1.e3),(aI rmoved.1.e4),(aI rmoved.1.e5)]]:List (List AV)).getD zi []) (addz 0 (zm - (addz todoo3 todon3))) else (if zm < (addz todoo3 todon3) then Tw_state.cells (todo3.getD zm Tw_state.d) else unL 6))) zi from (fun zq hzq=>get_appQ (g2:=fun zi=>([[(aI rmoved.1.e0),(aI rmoved.1.e1),(aI rmoved.1.e2),(aI rmoved.1.e3),(aI rmoved.1.e4),(aI rmoved.1.e5)]]:List (List AV)).getD zi []) Tw_state.cells Tw_state.d todo3 ([rmoved.1]:List Tw_state) 6 hQ zq hzq)) pn))))))) ?_
     exact rnW hE 1 [] (kp [3,8,10,11,12,13,64,65,68,69,70]) (kq [0,1,2,3,4,5]) 6 pn (g_w_Ballast_J4_ok N _ _ _ _ _ _ _ _ _ ih hK_g_w_Ballast_L2 hK_g_w_Ballast_L1 _ _ _ _ _ h E hE)
    ·replace h:=hB
     obtain ⟨c4,h⟩:=ifSome h
     refine rnR hE 0 [(3,⟨[],false,.tup [],[],0,false,none⟩)] [] (kp [3,8,10] ++ [(11,.osl (((todo3.drop todoo3) ++ ([rmoved.1]:List Tw_state)).length))] ++ kp [12,13,64,65,68,69,70]) (kq [0,1,2,4,5] ++ [(758,.arr 758 (((todo3.drop todoo3) ++ ([rmoved.1]:List Tw_state)).length) (fun zi=>Tw_state.cells (((todo3.drop todoo3) ++ ([rmoved.1]:List Tw_state)).getD zi Tw_state.d)))]) 790 (pc o1 (pc (show 0 < 1∧addz todoo3 todon3=todo3.length from ⟨Nat.one_pos,hQ⟩) (pc c4 (pc (show ∀ zi,zi < todo3.length→AV.oneL (Tw_state.cells (todo3.getD zi Tw_state.d))=true from (fun _ _=>rfl)) (pc (z1 1) (pc (show ∀ zi,zi < 1→AV.oneL ((fun zi=>([[(aI rmoved.1.e0),(aI rmoved.1.e1),(aI rmoved.1.e2),(aI rmoved.1.e3),(aI rmoved.1.e4),(aI rmoved.1.e5)]]:List (List AV)).getD zi []) (addz 0 zi))=true from (oneN rfl)) (pc (show (todon3+1)=((todo3.drop todoo3) ++ ([rmoved.1]:List Tw_state)).length from (len_dropQ hQ rfl)) (pc (show todon3+1=((todo3.drop todoo3) ++ ([rmoved.1]:List Tw_state)).length from (len_dropQ hQ rfl)) (pc (show ∀ zi,zi < ((todo3.drop todoo3) ++ ([rmoved.1]:List Tw_state)).length→(fun zi=>Tw_state.cells (((todo3.drop todoo3) ++ ([rmoved.1]:List Tw_state)).getD zi Tw_state.d)) zi=((fun zm=>if zm < todon3 then Tw_state.cells (todo3.getD (addz todoo3 zm) Tw_state.d) else (fun zi=>([[(aI rmoved.1.e0),(aI rmoved.1.e1),(aI rmoved.1.e2),(aI rmoved.1.e3),(aI rmoved.1.e4),(aI rmoved.1.e5)]]:List (List AV)).getD zi []) (addz 0 (zm - todon3)))) zi from (fun zq hzq=>get_dropQ (g2:=fun zi=>([[(aI rmoved.1.e0),(aI rmoved.1.e1),(aI rmoved.1.e2),(aI rmoved.1.e3),(aI rmoved.1.e4),(aI rmoved.1.e5)]]:List (List AV)).getD zi []) Tw_state.cells Tw_state.d todo3 ([rmoved.1]:List Tw_state) hQ zq hzq)) pn))))))))) ?_
     exact rnW hE 1 [] (kp [3,8,10,11,12,13,64,65,68,69,70]) (kq [0,1,2] ++ [(3,.keep 758)] ++ kq [4,5]) 6 pn (g_w_Ballast_J4_ok N _ _ _ _ _ _ _ _ _ ih hK_g_w_Ballast_L2 hK_g_w_Ballast_L1 _ _ _ _ _ h E hE)
   ·exact rnW hE 2 [] (kp [3,8,10,11,12,13,64,65,68,69,70]) (kq [0,1,2,3,4,5]) 6 pn (g_w_Ballast_J4_ok N _ _ _ _ _ _ _ _ _ ih hK_g_w_Ballast_L2 hK_g_w_Ballast_L1 _ _ _ _ _ h E hE)
  ·refine rnR hE 2 [] [] (kp [3,8,10,11,12,64,65]) (kq [0,1,2,3,4]) 54 pn ?_
   exact rnW hE 1 [] (kp [3,8,10,11,12,64,65]) (kq [0,1,2,3,4]) 5 pn (hK_g_w_Ballast_L2 _ _ _ _ _ _ h E hE)
theorem g_w_Ballast_L2_ok (N:Nat) (p:TPn) (ropen:Tw_plan×Int) (todo:List Tw_state) (todoo:Nat) (K_g_w_Ballast_L1:(List (Tw_state×Tw_arrival))→(List Tw_state)→Nat→Nat→Option ((List TMove)×Int)) (hK_g_w_Ballast_L1:g_w_Ballast_L1_H N p ropen K_g_w_Ballast_L1) (fuel:Nat):g_w_Ballast_L2_H N p ropen todo todoo (g_w_Ballast_L2 N p ropen todo todoo K_g_w_Ballast_L1 fuel):=by
 induction fuel with
 | zero=>intro _ _ _ _ _ r h;rw [g_w_Ballast_L2.eq_1] at h;cases h
 | succ fuel ih =>
  intro reached2 todo2 todoo2 todon2 x r h E hE
  rw [g_w_Ballast_L2.eq_2] at h
  refine rnR hE 1 [] [] (kp [3,8,10,11,12,64,65,66]) (kq [0,1,2,3,4]) 21 pn ?_
  refine rnC 1 66 h (fun hq7 h=>?_) (fun hq7 h=>?_)
  ·refine rnR hE 4 [] [] (kp [3,8,10,11,12,13,64,65]) (kq [0,1,2,3,4]) 53 pn ?_
   refine rnR hE 1 [] [] (kp [3,8,10,11,12,13,64,65] ++ [(68,.osl (([true,false]:List Bool).length))] ++ kp [69,70]) (kq [0,1,2,3,4] ++ [(53,.arr 53 (([true,false]:List Bool).length) (fun zi=>cB (([true,false]:List Bool).getD zi false)))]) 101 (pc (Eq.refl 2) (pc (Eq.refl 2) (pc (show ∀ zi,zi < ([true,false]:List Bool).length→(fun zi=>cB (([true,false]:List Bool).getD zi false)) zi=(fun zi=>([[(aB true)],[(aB false)]]:List (List AV)).getD zi []) zi from (fun zq hzq=>get_chunk cB false ([true,false]:List Bool) zq hzq)) pn))) ?_
   exact rnW hE 2 [] (kp [3,8,10,11,12,13,64,65,68,69,70]) (kq [0,1,2,3,4] ++ [(5,.keep 53)]) 6 pn (g_w_Ballast_L3_ok N _ _ _ _ _ _ _ ih hK_g_w_Ballast_L1 N _ _ _ _ _ _ h E hE)
  ·obtain ⟨c5,h⟩:=ifSome h
   refine rnR hE 2 [] [] (kp [3,8,10,11]) (kq [0,1,2,3]) 69 (pc c5 (pc (show 0≤(1:Int) by decide) pn)) ?_
   exact rnW hE 1 [] (kp [3,8,10,11]) (kq [0,1,2,3]) 4 pn (hK_g_w_Ballast_L1 _ _ _ _ _ h E hE)
theorem g_w_Ballast_L1_ok (N:Nat) (p:TPn) (ropen:Tw_plan×Int) (fuel:Nat):g_w_Ballast_L1_H N p ropen (g_w_Ballast_L1 N p ropen fuel):=by
 induction fuel with
 | zero=>intro _ _ _ _ r h;rw [g_w_Ballast_L1.eq_1] at h;cases h
 | succ fuel ih =>
  intro reached todo todoo todon r h E hE
  rw [g_w_Ballast_L1.eq_2] at h
  refine rnR hE 2 [] [] (kp [3,8,10,11,49]) (kq [0,1,2,3]) 52 pn ?_
  refine rnC 0 49 h (fun hq5 h=>?_) (fun hq5 h=>?_)
  ·obtain ⟨c,h⟩:=ifSome h
   obtain ⟨c2,h⟩:=ifSome h
   refine rnR hE 4 [] [] (kp [3,8,10,11,12]) (kq [0,1,2,3,100]) 132 (pc c (pc (show (addz todoo 0) < todo.length by have h1:=c;have h2:=c2;simp only [addz_eq];omega) (pc o1 pn))) ?_
   obtain ⟨rdone,hr4,h⟩:=bsm h
   refine rnR hE 2 [(2,⟨[],true,(aB rdone),[],0,false,none⟩)] [] (kp [3,8,10,11,12,57]) (kq [0,1,2,3,100]) 180 (pc o1 (pc o1 (pc (g_w_plan_done_ok N ropen.1 (todo.getD (addz todoo 0) Tw_state.d) rdone hr4) pn))) ?_
   refine rnC 0 57 h (fun hq6 h=>?_) (fun hq6 h=>?_)
   ·obtain ⟨rway,hr5,h⟩:=bsm h
    refine rnR hE 1 [(3,⟨[2],false,(.os 1 0 rway.length),[(0,⟨false,0,0,true,fun _=>encM (fun x=>.agg (Tw_state.cells x)) (fun x=>.agg (Tw_arrival.cells x)) reached⟩),(1,aO 2 TMove.cells TMove.d rway)],0,false,none⟩)] [] (kp [6,7]) (kq [228]) 276 (pc o1 (pc o1 (pc (g_w_plan_way_ok N ropen.1 (todo.getD (addz todoo 0) Tw_state.d) reached rway hr5) pn))) ?_
    obtain rfl:=osI h
    exact rnT hE 0 Tryz.f7 [228] ([(6,.sl (rway.length) (fun zi=>TMove.cells (rway.getD zi TMove.d)))] ++ kp [7]) [] 276 (pc (Eq.refl rway.length) (pc (z1 rway.length) (pc (show ∀ zi,zi < rway.length→(fun zi=>TMove.cells (rway.getD zi TMove.d)) zi=(fun zi=>TMove.cells (rway.getD zi TMove.d)) (addz 0 zi) from (fun _ _=>rfl)) pn))) [] pn
   ·refine rnR hE 2 [] [] (kp [3,8,10,11,12,64,65]) (kq [0,1,2,3,100]) 244 (pc o1 pn) ?_
    exact rnW hE 2 [] (kp [3,8,10,11,12,64,65]) (kq [0,1,2,3] ++ [(4,.keep 100)]) 5 pn (g_w_Ballast_L2_ok N _ _ _ _ _ ih N _ _ _ _ _ _ h E hE)
  ·refine rnR hE 2 [] [] (kp [6,7]) [] 84 pn ?_
   obtain rfl:=osI h
   exact rnT hE 0 Tryz.f7 [] ([(6,.sl (([]:List TMove).length) (fun zi=>TMove.cells (([]:List TMove).getD zi TMove.d)))] ++ kp [7]) [] 84 (pc (Eq.refl 0) pn) [] pn
theorem g_w_Ballast_ok (N:Nat) (p:TPn) (l:TLimits) (a:TAim) (r:(List TMove)×Int) (h:g_w_Ballast N p l a=some r):Sd 7 [(.agg (TPn.cells p)),(.agg (TLimits.cells l)),(.agg (TAim.cells a))] [] 0 (.tup [(encL TMove.cells TMove.d r.1),(aI r.2)]) []:=by
 unfold g_w_Ballast at h
 refine sor (fu:=Tryz.f7) (c:=C_58 1) (nt:=111) (by kernel_rfl) (by kernel_rfl) (by kernel_rfl) (by kernel_rfl) (fun hm=>rfl) ?_
 intro E hE
 refine rnR hE 1 [] [] (kp [3,4,5]) (kq [0,16,32]) 80 pn ?_
 obtain ⟨ropen,hr,h⟩:=bsm h
 refine rnR hE 1 [(3,⟨[],true,(.tup [(.agg (Tw_plan.cells ropen.1)),(aI ropen.2)]),[],0,false,none⟩)] [] (kp [3,8,9]) (kq [0,192]) 240 (pc o1 (pc o1 (pc o1 (pc (g_w_open_ok N p l a ropen hr) (pc o1 pn))))) ?_
 refine rnR hE 2 [] [] (kp [3,8,9,29]) (kq [0,192]) 272 pn ?_
 refine rnC 0 29 h (fun hq2 h=>?_) (fun hq2 h=>?_)
 ·refine rnR hE 1 [] [] (kp [6,7]) [] 320 pn ?_
  obtain rfl:=osI h
  exact rnT hE 0 Tryz.f7 [] ([(6,.sl (([]:List TMove).length) (fun zi=>TMove.cells (([]:List TMove).getD zi TMove.d)))] ++ kp [7]) [] 320 (pc (Eq.refl 0) pn) [] pn
 ·obtain ⟨rmany,hr2,h⟩:=bsm h
  refine rnR hE 3 [(1,⟨[],true,(aI rmany),[],0,false,none⟩)] [] (kp [3,8,33]) (kq [0,192]) 320 (pc o1 (pc (g_w_many_ok N p rmany hr2) pn)) ?_
  refine rnC 0 33 h (fun hq3 h=>?_) (fun hq3 h=>?_)
  ·refine rnR hE 1 [] [] (kp [6,7]) [] 352 pn ?_
   obtain rfl:=osI h
   exact rnT hE 0 Tryz.f7 [] ([(6,.sl (([]:List TMove).length) (fun zi=>TMove.cells (([]:List TMove).getD zi TMove.d)))] ++ kp [7]) [] 352 (pc (Eq.refl 0) pn) [] pn
  ·obtain ⟨rkeeps,hr3,h⟩:=bsm h
   refine rnR hE 3 [(3,⟨[],true,(aB rkeeps),[],0,false,none⟩)] [] (kp [3,8,38]) (kq [0,192]) 400 (pc o1 (pc o1 (pc (g_w_plan_keeps_ok N ropen.1 ropen.1.f_start rkeeps hr3) pn))) ?_
   refine rnC 0 38 h (fun hq4 h=>?_) (fun hq4 h=>?_)
   ·refine rnR hE 1 [] [] (kp [6,7]) [] 432 pn ?_
    obtain rfl:=osI h
    exact rnT hE 0 Tryz.f7 [] ([(6,.sl (([]:List TMove).length) (fun zi=>TMove.cells (([]:List TMove).getD zi TMove.d)))] ++ kp [7]) [] 432 (pc (Eq.refl 0) pn) [] pn
   ·refine rnR hE 2 [(4,⟨[],true,(.tup (encM (fun x=>.agg (Tw_state.cells x)) (fun x=>.agg (Tw_arrival.cells x)) (mPut (fun (za zb:Tw_state)=>((zb.e0 == za.e0) && ((zb.e1 == za.e1) && ((zb.e2 == za.e2) && ((zb.e3 == za.e3) && ((zb.e4 == za.e4) && ((zb.e5 == za.e5) && true))))))) ([]:List (Tw_state×Tw_arrival)) ropen.1.f_start (⟨(⟨0,0,0,0,0,0⟩:Tw_state),(⟨0,false⟩:TMove)⟩:Tw_arrival)))),[],0,false,none⟩)] [] (kp [3,8,10]) (kq [0,192,400]) 512 (pc o1 (pc (show Go.Ab.insA Tryz.prog 74 (encM (fun x=>.agg (Tw_state.cells x)) (fun x=>.agg (Tw_arrival.cells x)) ([]:List (Tw_state×Tw_arrival))) (.agg (Tw_state.cells ropen.1.f_start)) (.agg [(aI 0),(aI 0),(aI 0),(aI 0),(aI 0),(aI 0),(aI 0),(aB false)])=some (encM (fun x=>.agg (Tw_state.cells x)) (fun x=>.agg (Tw_arrival.cells x)) (mPut (fun (za zb:Tw_state)=>((zb.e0 == za.e0) && ((zb.e1 == za.e1) && ((zb.e2 == za.e2) && ((zb.e3 == za.e3) && ((zb.e4 == za.e4) && ((zb.e5 == za.e5) && true))))))) ([]:List (Tw_state×Tw_arrival)) ropen.1.f_start (⟨(⟨0,0,0,0,0,0⟩:Tw_state),(⟨0,false⟩:TMove)⟩:Tw_arrival))) from (insA_enc (fun x=>.agg (Tw_state.cells x)) (fun x=>.agg (Tw_arrival.cells x)) (fun _ _=>rfl) _ ropen.1.f_start (⟨(⟨0,0,0,0,0,0⟩:Tw_state),(⟨0,false⟩:TMove)⟩:Tw_arrival))) pn)) ?_
    refine rnR hE 2 [] [] (kp [3,8,10] ++ [(11,.osl (([ropen.1.f_start]:List Tw_state).length))]) (kq [0,192,400] ++ [(544,.arr 544 (([ropen.1.f_start]:List Tw_state).length) (fun zi=>Tw_state.cells (([ropen.1.f_start]:List Tw_state).getD zi Tw_state.d)))]) 576 (pc o1 (pc (Eq.refl 1) (pc (Eq.refl 1) (pc (show ∀ zi,zi < ([ropen.1.f_start]:List Tw_state).length→(fun zi=>Tw_state.cells (([ropen.1.f_start]:List Tw_state).getD zi Tw_state.d)) zi=(fun zi=>([[(aI ropen.1.f_start.e0),(aI ropen.1.f_start.e1),(aI ropen.1.f_start.e2),(aI ropen.1.f_start.e3),(aI ropen.1.f_start.e4),(aI ropen.1.f_start.e5)]]:List (List AV)).getD zi []) zi from (fun zq hzq=>get_chunk Tw_state.cells Tw_state.d ([ropen.1.f_start]:List Tw_state) zq hzq)) pn)))) ?_
    exact rnW hE 2 [] (kp [3,8,10,11]) (kq [0] ++ [(1,.keep 192),(2,.keep 400),(3,.keep 544)]) 4 pn (g_w_Ballast_L1_ok N _ _ N _ _ _ _ _ h E hE)
noncomputable def C_79 (n:Nat):Code:=cat (bodyOf Tryz.f35) (pth n)
theorem g_r05_CheckLimits_ok (N:Nat) (l:TLimits) (r:Int) (h:g_r05_CheckLimits N l=some r):Sd 35 [(.agg (TLimits.cells l))] [] 0 (aI r) []:=by
 unfold g_r05_CheckLimits at h
 refine sor (fu:=Tryz.f35) (c:=C_79 1) (nt:=31) (by kernel_rfl) (by kernel_rfl) (by kernel_rfl) (by kernel_rfl) (fun hm=>rfl) ?_
 intro E hE
 refine rnR hE 1 [] [] (kp [1]) (kq [0]) 32 pn ?_
 obtain ⟨rIn,hr,h⟩:=bsm h
 obtain ⟨rIn2,hr2,h⟩:=bsm h
 obtain ⟨rIn3,hr3,h⟩:=bsm h
 obtain ⟨rIn4,hr4,h⟩:=bsm h
 obtain ⟨rIn5,hr5,h⟩:=bsm h
 refine rnR hE 2 [(2,⟨[],true,(aB rIn),[],0,false,none⟩),(7,⟨[],true,(aB rIn2),[],0,false,none⟩),(13,⟨[],true,(aB rIn3),[],0,false,none⟩),(19,⟨[],true,(aB rIn4),[],0,false,none⟩),(25,⟨[],true,(aB rIn5),[],0,false,none⟩)] [] (kp [30]) [] 480 (pc o1 (pc (g_r05_inside_ok N l.f_DraughtLeast 0 1000000 rIn hr) (pc (fun hg:(!(!rIn))=true=>(pc hg (pc o1 pn))) (pc (fun hg:(!(!rIn))=true=>(pc (g_r05_inside_ok N l.f_DraughtMost 0 1000000 rIn2 (condT hr2 hg)) (pc hg pn))) (pc (fun hg:(!(!rIn))=true=>(pc hg pn)) (pc (fun hq:(!(!rIn))=true=>(pc hq pn)) (pc (fun hg:(!(cond (!rIn) true (!rIn2)))=true=>(pc hg (pc o1 pn))) (pc (fun hg:(!(cond (!rIn) true (!rIn2)))=true=>(pc (g_r05_inside_ok N l.f_TrimMost 0 1000 rIn3 (condT hr3 hg)) (pc hg pn))) (pc (fun hg:(!(cond (!rIn) true (!rIn2)))=true=>(pc hg pn)) (pc (fun hq:(!(cond (!rIn) true (!rIn2)))=true=>(pc hq pn)) (pc (fun hg:(!(cond (cond (!rIn) true (!rIn2)) true (!rIn3)))=true=>(pc hg (pc o1 pn))) (pc (fun hg:(!(cond (cond (!rIn) true (!rIn2)) true (!rIn3)))=true=>(pc (g_r05_inside_ok N l.f_HeelMost 0 1000 rIn4 (condT hr4 hg)) (pc hg pn))) (pc (fun hg:(!(cond (cond (!rIn) true (!rIn2)) true (!rIn3)))=true=>(pc hg pn)) (pc (fun hq:(!(cond (cond (!rIn) true (!rIn2)) true (!rIn3)))=true=>(pc hq pn)) (pc (fun hg:(!(cond (cond (cond (!rIn) true (!rIn2)) true (!rIn3)) true (!rIn4)))=true=>(pc hg (pc o1 pn))) (pc (fun hg:(!(cond (cond (cond (!rIn) true (!rIn2)) true (!rIn3)) true (!rIn4)))=true=>(pc (g_r05_inside_ok N l.f_HogMost 0 1000000000000000000 rIn5 (condT hr5 hg)) (pc hg pn))) (pc (fun hg:(!(cond (cond (cond (!rIn) true (!rIn2)) true (!rIn3)) true (!rIn4)))=true=>(pc hg pn)) (pc (fun hq:(!(cond (cond (cond (!rIn) true (!rIn2)) true (!rIn3)) true (!rIn4)))=true=>(pc hq pn)) pn)))))))))))))))))) ?_
 refine rnC 0 30 h (fun hq2 h=>?_) (fun hq2 h=>?_)
 ·refine rnR hE 1 [] [] (kp [2]) [] 496 pn ?_
  obtain rfl:=osI h
  exact rnT hE 0 Tryz.f35 [] (kp [2]) [] 496 pn [] pn
 ·refine rnR hE 2 [] [] (kp [2]) [] 496 pn ?_
  obtain rfl:=osI h
  exact rnT hE 0 Tryz.f35 [] (kp [2]) [] 496 pn [] pn
noncomputable def C_81 (n:Nat):Code:=cat (bodyOf Tryz.f76) (pth n)
def g_r05_CheckSteps_L1_H (N:Nat) (p:TPn) (steps:List Int) (K:Int→Option (Int)):Prop:=∀ (i:Int) (r:Int),K i=some r→∀ E,EnvOk E 0→Runs Tryz.prog E 76 30 (SPost E [] (aI r)) [.code (C_81 116),.inLoop (C_81 116),.inBlock 0,.code (C_81 15)] ⟨[(1,(encL cI 0 steps)),(2,(.op 0 0 0)),(5,(aI i))],[(0,vO 5 (TPn.cells p))],1⟩
theorem g_r05_CheckSteps_L1_ok (N:Nat) (p:TPn) (steps:List Int) (fuel:Nat):g_r05_CheckSteps_L1_H N p steps (g_r05_CheckSteps_L1 N p steps fuel):=by
 induction fuel with
 | zero=>intro _ r h;rw [g_r05_CheckSteps_L1.eq_1] at h;cases h
 | succ fuel ih =>
  intro i r h E hE
  rw [g_r05_CheckSteps_L1.eq_2] at h
  refine rnR hE 2 [] [] (kp [1,2,5,15]) (kq [0]) 65 pn ?_
  refine rnC 0 15 h (fun hq3 h=>?_) (fun hq3 h=>?_)
  ·obtain ⟨c,h⟩:=ifSome h
   obtain ⟨c2,h⟩:=ifSome h
   obtain ⟨rIn,hr,h⟩:=bsm h
   refine rnR hE 4 [(10,⟨[],true,(aB rIn),[],0,false,none⟩)] [] (kp [1,2,5,29]) (kq [0]) 257 (pc c (pc o1 (pc c2 (pc (g_r05_inside_ok N (steps.getD ((i).toNat) 0) 0 ((p.fTk.getD ((i).toNat) TTank.d).f_Steps) rIn hr) pn)))) ?_
   refine rnC 0 29 h (fun hq4 h=>?_) (fun hq4 h=>?_)
   ·refine rnR hE 1 [] [] (kp [4]) [] 273 pn ?_
    obtain rfl:=osI h
    exact rnT hE 0 Tryz.f76 [] (kp [4]) [] 273 pn [] pn
   ·refine rnR hE 2 [] [] (kp [1,2,5]) (kq [0]) 305 pn ?_
    exact rnW hE 1 [] (kp [1,2,5]) (kq [0]) 1 pn (ih _ _ h E hE)
  ·refine rnR hE 2 [] [] (kp [4]) [] 81 pn ?_
   obtain rfl:=osI h
   exact rnT hE 0 Tryz.f76 [] (kp [4]) [] 81 pn [] pn
theorem g_r05_CheckSteps_ok (N:Nat) (p:TPn) (steps:List Int) (r:Int) (h:g_r05_CheckSteps N p steps=some r):Sd 76 [(.agg (TPn.cells p)),(encL cI 0 steps)] [] 0 (aI r) []:=by
 unfold g_r05_CheckSteps at h
 refine sor (fu:=Tryz.f76) (c:=C_81 1) (nt:=30) (by kernel_rfl) (by kernel_rfl) (by kernel_rfl) (by kernel_rfl) (fun hm=>rfl) ?_
 intro E hE
 refine rnR hE 1 [] [] (kp [1,2]) (kq [0]) 32 pn ?_
 refine rnR hE 2 [] [] (kp [1,2,11]) (kq [0]) 128 (pc o1 pn) ?_
 refine rnC 0 11 h (fun hq2 h=>?_) (fun hq2 h=>?_)
 ·refine rnR hE 1 [] [] (kp [4]) [] 144 pn ?_
  obtain rfl:=osI h
  exact rnT hE 0 Tryz.f76 [] (kp [4]) [] 144 pn [] pn
 ·refine rnR hE 3 [] [] (kp [1,2,5]) (kq [0]) 144 pn ?_
  exact rnW hE 2 [] (kp [1,2,5]) (kq [0]) 1 pn (g_r05_CheckSteps_L1_ok N _ _ N _ _ h E hE)
noncomputable def C_80 (n:Nat):Code:=cat (bodyOf Tryz.f36) (pth n)
theorem g_r05_CheckAim_ok (N:Nat) (p:TPn) (a:TAim) (r:Int) (h:g_r05_CheckAim N p a=some r):Sd 36 [(.agg (TPn.cells p)),(.agg (TAim.cells a))] [] 0 (aI r) []:=by
 unfold g_r05_CheckAim at h
 refine sor (fu:=Tryz.f36) (c:=C_80 1) (nt:=23) (by kernel_rfl) (by kernel_rfl) (by kernel_rfl) (by kernel_rfl) (fun hm=>rfl) ?_
 intro E hE
 refine rnR hE 1 [] [] (kp [2,3]) (kq [0,16]) 48 pn ?_
 obtain ⟨rCheckSteps,hr,h⟩:=bsm h
 refine rnR hE 2 [(3,⟨[],true,(aI rCheckSteps),[],0,false,none⟩)] [] (kp [3,5]) (kq [16]) 128 (pc o1 (pc o1 (pc (g_r05_CheckSteps_ok N p a.f_Start rCheckSteps hr) pn))) ?_
 refine rnR hE 1 [] [] (kp [3,5,11]) (kq [16]) 160 pn ?_
 refine rnC 0 11 h (fun hq2 h=>?_) (fun hq2 h=>?_)
 ·refine rnR hE 1 [] [] (kp [4]) [] 192 pn ?_
  obtain rfl:=osI h
  exact rnT hE 0 Tryz.f36 [] (kp [4]) [] 192 pn [] pn
 ·obtain ⟨rIn,hr2,h⟩:=bsm h
  obtain ⟨rIn2,hr3,h⟩:=bsm h
  refine rnR hE 3 [(2,⟨[],true,(aB rIn),[],0,false,none⟩),(7,⟨[],true,(aB rIn2),[],0,false,none⟩)] [] (kp [22]) [] 320 (pc o1 (pc (g_r05_inside_ok N a.f_DraughtLeast 0 1000000 rIn hr2) (pc (fun hg:(!(!rIn))=true=>(pc hg (pc o1 pn))) (pc (fun hg:(!(!rIn))=true=>(pc (g_r05_inside_ok N a.f_DraughtMost 0 1000000 rIn2 (condT hr3 hg)) (pc hg pn))) (pc (fun hg:(!(!rIn))=true=>(pc hg pn)) (pc (fun hq:(!(!rIn))=true=>(pc hq pn)) pn)))))) ?_
  refine rnC 0 22 h (fun hq3 h=>?_) (fun hq3 h=>?_)
  ·refine rnR hE 1 [] [] (kp [4]) [] 336 pn ?_
   obtain rfl:=osI h
   exact rnT hE 0 Tryz.f36 [] (kp [4]) [] 336 pn [] pn
  ·refine rnR hE 2 [] [] (kp [4]) [] 336 pn ?_
   obtain rfl:=osI h
   exact rnT hE 0 Tryz.f36 [] (kp [4]) [] 336 pn [] pn
noncomputable def C_78 (n:Nat):Code:=cat (bodyOf Tryz.f10) (pth n)
theorem g_r05_CheckBegin_ok (N:Nat) (p:TPn) (l:TLimits) (a:TAim) (r:Int) (h:g_r05_CheckBegin N p l a=some r):Sd 10 [(.agg (TPn.cells p)),(.agg (TLimits.cells l)),(.agg (TAim.cells a))] [] 0 (aI r) []:=by
 unfold g_r05_CheckBegin at h
 refine sor (fu:=Tryz.f10) (c:=C_78 1) (nt:=22) (by kernel_rfl) (by kernel_rfl) (by kernel_rfl) (by kernel_rfl) (fun hm=>rfl) ?_
 intro E hE
 refine rnR hE 1 [] [] (kp [3,4,5]) (kq [0,16,32]) 64 pn ?_
 obtain ⟨rCP,hr,h⟩:=bsm h
 refine rnR hE 2 [(1,⟨[],true,(aI rCP),[],0,false,none⟩)] [] (kp [3,4,5,7]) (kq [0,16,32]) 112 (pc o1 (pc (g_r05_CheckPontoon_ok N p rCP hr) pn)) ?_
 refine rnR hE 1 [] [] (kp [3,4,5,7,12]) (kq [0,16,32]) 144 pn ?_
 refine rnC 0 12 h (fun hq2 h=>?_) (fun hq2 h=>?_)
 ·refine rnR hE 1 [] [] (kp [6]) [] 176 pn ?_
  obtain rfl:=osI h
  exact rnT hE 0 Tryz.f10 [] (kp [6]) [] 176 pn [] pn
 ·obtain ⟨rCheckLimits,hr2,h⟩:=bsm h
  refine rnR hE 3 [(1,⟨[],true,(aI rCheckLimits),[],0,false,none⟩)] [] (kp [3,5,8]) (kq [0,32]) 192 (pc o1 (pc (g_r05_CheckLimits_ok N l rCheckLimits hr2) pn)) ?_
  refine rnR hE 1 [] [] (kp [3,5,8,17]) (kq [0,32]) 224 pn ?_
  refine rnC 0 17 h (fun hq3 h=>?_) (fun hq3 h=>?_)
  ·refine rnR hE 1 [] [] (kp [6]) [] 256 pn ?_
   obtain rfl:=osI h
   exact rnT hE 0 Tryz.f10 [] (kp [6]) [] 256 pn [] pn
  ·obtain ⟨rCheckAim,hr3,h⟩:=bsm h
   refine rnR hE 2 [(2,⟨[],true,(aI rCheckAim),[],0,false,none⟩)] [] (kp [6]) [] 288 (pc o1 (pc o1 (pc (g_r05_CheckAim_ok N p a rCheckAim hr3) pn))) ?_
   obtain rfl:=osI h
   exact rnT hE 0 Tryz.f10 [] (kp [6]) [] 288 pn [] pn
noncomputable def C_86 (n:Nat):Code:=cat (bodyOf Tryz.f147) (pth n)
def g_r01_made_L1_H (N:Nat) (neg:Bool) (a:List Int) (K:(List Int)→Int→Option (TInt)):Prop:=∀ (x:List Int) (i:Int) (r:TInt),K x i=some r→∀ E,EnvOk E 0→Runs Tryz.prog E 147 31 (SPost E [] (.agg (TIc r))) [.code (C_86 116),.inLoop (C_86 116),.inBlock 0,.code (C_86 15)] ⟨[(1,(encL cI 0 a)),(4,(.op 0 0 0)),(5,(.op 1 0 0)),(6,(aI i))],[(0,vO 2 [(aB false),.nil]),(1,vN 2 [(aB (cond neg (decide (((a.length:Nat):Int) > 0)) false)),(.os 2 0 x.length)]),(2,aU x)],3⟩
theorem g_r01_made_L1_ok (N:Nat) (neg:Bool) (a:List Int) (fuel:Nat):g_r01_made_L1_H N neg a (g_r01_made_L1 N neg a fuel):=by
 induction fuel with
 | zero=>intro _ _ r h;rw [g_r01_made_L1.eq_1] at h;cases h
 | succ fuel ih =>
  intro x i r h E hE
  rw [g_r01_made_L1.eq_2] at h
  refine rnR hE 2 [] [] (kp [1,4,5,6,17]) (kq [0,1,2]) 67 pn ?_
  refine rnC 0 17 h (fun hq2 h=>?_) (fun hq2 h=>?_)
  ·obtain ⟨c,h⟩:=ifSome h
   obtain ⟨c2,h⟩:=ifSome h
   refine rnR hE 3 [] [] (kp [1,4,5,6]) (kq [0] ++ [(1,.var 1 [.keep,.osl ((x ++ ([(IntKind.u16.wrap ((a.getD ((i).toNat) 0)))]:List Int)).length)]),(195,.arr 195 ((x ++ ([(IntKind.u16.wrap ((a.getD ((i).toNat) 0)))]:List Int)).length) (fun zi=>(cU .u16) ((x ++ ([(IntKind.u16.wrap ((a.getD ((i).toNat) 0)))]:List Int)).getD zi 0)))]) 243 (pc o1 (pc c (pc (Eq.refl x.length) (pc c2 (pc (z1 1) (pc (show ∀ zi,zi < 1→AV.oneL ((fun zi=>([[(a16 (IntKind.u16.wrap ((a.getD ((i).toNat) 0))))]]:List (List AV)).getD zi []) (addz 0 zi))=true from (oneN rfl)) (pc o1 (pc (show (x.length+1)=(x ++ ([(IntKind.u16.wrap ((a.getD ((i).toNat) 0)))]:List Int)).length from (len_app_raw rfl rfl)) (pc (show x.length+1=(x ++ ([(IntKind.u16.wrap ((a.getD ((i).toNat) 0)))]:List Int)).length from (len_app_raw rfl rfl)) (pc (show ∀ zi,zi < (x ++ ([(IntKind.u16.wrap ((a.getD ((i).toNat) 0)))]:List Int)).length→(fun zi=>(cU .u16) ((x ++ ([(IntKind.u16.wrap ((a.getD ((i).toNat) 0)))]:List Int)).getD zi 0)) zi=((fun zm=>if zm < x.length then (fun zi=>(cU .u16) (x.getD zi 0)) zm else (fun zi=>([[(a16 (IntKind.u16.wrap ((a.getD ((i).toNat) 0))))]]:List (List AV)).getD zi []) (zm - x.length))) zi from (get_app_raw (cU .u16) 0 x ([(IntKind.u16.wrap ((a.getD ((i).toNat) 0)))]:List Int) rfl (fun _ _=>rfl) (fun zq hzq=>get_chunk (cU .u16) 0 ([(IntKind.u16.wrap ((a.getD ((i).toNat) 0)))]:List Int) zq hzq))) pn)))))))))) ?_
   refine rnR hE 1 [] [] (kp [1,4,5,6]) (kq [0,1,195]) 291 pn ?_
   exact rnW hE 1 [] (kp [1,4,5,6]) (kq [0,1] ++ [(2,.keep 195)]) 3 pn (ih _ _ _ h E hE)
  ·refine rnR hE 2 [] [] (kp [4]) (kq [0,2]) 99 (pc o1 (pc o1 pn)) ?_
   obtain rfl:=osI h
   exact rnT hE 0 Tryz.f147 [2] (kp [4]) [(16,.var 0 [.keep,.sl (x.length) (fun zi=>(cU .u16) (x.getD zi 0))])] 99 (pc (Eq.refl x.length) (pc (z1 x.length) (pc (show ∀ zi,zi < x.length→(fun zi=>(cU .u16) (x.getD zi 0)) zi=(fun zi=>(cU .u16) (x.getD zi 0)) (addz 0 zi) from (fun _ _=>rfl)) pn))) [16] (pc o1 pn)
theorem g_r01_made_ok (N:Nat) (neg:Bool) (a:List Int) (r:TInt) (h:g_r01_made N neg a=some r):Sd 147 [(aB neg),(encL cI 0 a)] [] 0 (.agg (TIc r)) []:=by
 unfold g_r01_made at h
 refine sor (fu:=Tryz.f147) (c:=C_86 1) (nt:=31) (by kernel_rfl) (by kernel_rfl) (by kernel_rfl) (by kernel_rfl) (fun hm=>rfl) ?_
 intro E hE
 refine rnR hE 1 [] [] (kp [0,1,4]) (kq [0]) 16 pn ?_
 refine rnR hE 1 [] [] (kp [1,4,5]) (kq [0,128]) 160 (pc (fun hg:neg=true=>(pc hg pn)) (pc (fun hg:neg=true=>(pc hg pn)) (pc (fun hq:neg=true=>(pc hq pn)) (pc o1 pn)))) ?_
 refine rnR hE 2 [] [] (kp [1,4,5,6]) (kq [0,128]) 176 pn ?_
 exact rnW hE 2 [] (kp [1,4,5,6]) (kq [0] ++ [(1,.var 128 [.keep,.nilos 2]),(2,.nil 1 (fun zi=>(cU .u16) (([]:List Int).getD zi 0)))]) 3 pn (g_r01_made_L1_ok N _ _ N _ _ _ h E hE)
noncomputable def C_85 (n:Nat):Code:=cat (bodyOf Tryz.f142) (pth n)
def g_r01_Of_L1_H (N:Nat) (n:Int) (K:(List Int)→Int→Option (TInt)):Prop:=∀ (a:List Int) (u:Int) (r:TInt),K a u=some r→∀ E,EnvOk E 0→Runs Tryz.prog E 142 25 (SPost E [] (.agg (TIc r))) [.code (C_85 248),.inLoop (C_85 248),.inBlock 0,.code (C_85 63)] ⟨[(0,(aI n)),(2,(.op 0 0 0)),(3,(.os 1 0 a.length)),(4,(a64 u))],[(0,vO 2 [(aB false),.nil]),(1,aO 1 cI 0 a)],2⟩
theorem g_r01_Of_L1_ok (N:Nat) (n:Int) (fuel:Nat):g_r01_Of_L1_H N n (g_r01_Of_L1 N n fuel):=by
 induction fuel with
 | zero=>intro _ _ r h;rw [g_r01_Of_L1.eq_1] at h;cases h
 | succ fuel ih =>
  intro a u r h E hE
  rw [g_r01_Of_L1.eq_2] at h
  refine rnR hE 2 [] [] (kp [0,2,3,4,12]) (kq [0,1]) 34 pn ?_
  refine rnC 0 12 h (fun hq3 h=>?_) (fun hq3 h=>?_)
  ·obtain ⟨c,h⟩:=ifSome h
   refine rnR hE 3 [] [] (kp [0,2] ++ [(3,.osl ((a ++ ([(w64 ((u.tmod 65536)))]:List Int)).length))] ++ kp [4]) (kq [0] ++ [(114,.arr 114 ((a ++ ([(w64 ((u.tmod 65536)))]:List Int)).length) (fun zi=>cI ((a ++ ([(w64 ((u.tmod 65536)))]:List Int)).getD zi 0)))]) 146 (pc (show (65536:Int)≠0 by decide) (pc (Eq.refl a.length) (pc c (pc (z1 1) (pc (show ∀ zi,zi < 1→AV.oneL ((fun zi=>([[(aI (w64 ((u.tmod 65536))))]]:List (List AV)).getD zi []) (addz 0 zi))=true from (oneN rfl)) (pc (show (a.length+1)=(a ++ ([(w64 ((u.tmod 65536)))]:List Int)).length from (len_app_raw rfl rfl)) (pc (show a.length+1=(a ++ ([(w64 ((u.tmod 65536)))]:List Int)).length from (len_app_raw rfl rfl)) (pc (show ∀ zi,zi < (a ++ ([(w64 ((u.tmod 65536)))]:List Int)).length→(fun zi=>cI ((a ++ ([(w64 ((u.tmod 65536)))]:List Int)).getD zi 0)) zi=((fun zm=>if zm < a.length then (fun zi=>cI (a.getD zi 0)) zm else (fun zi=>([[(aI (w64 ((u.tmod 65536))))]]:List (List AV)).getD zi []) (zm - a.length))) zi from (get_app_raw cI 0 a ([(w64 ((u.tmod 65536)))]:List Int) rfl (fun _ _=>rfl) (fun zq hzq=>get_chunk cI 0 ([(w64 ((u.tmod 65536)))]:List Int) zq hzq))) pn)))))))) ?_
   refine rnR hE 1 [] [] (kp [0,2,3,4]) (kq [0,114]) 194 (pc (show (65536:Int)≠0 by decide) pn) ?_
   exact rnW hE 1 [] (kp [0,2,3,4]) (kq [0] ++ [(1,.keep 114)]) 2 pn (ih _ _ _ h E hE)
  ·obtain ⟨rmade,hr,h⟩:=bsm h
   refine rnR hE 2 [(3,⟨[],true,(.agg (TIc rmade)),[],0,true,none⟩)] [] (kp [2]) (kq [0]) 114 (pc (g_r01_made_ok N (decide (n < 0)) a rmade hr) (pc (z1 a.length) (pc o1 pn))) ?_
   obtain rfl:=osI h
   exact rnT hE 0 Tryz.f142 [] (kp [2]) [(16,.keep 0)] 114 pn [16] (pc o1 pn)
theorem g_r01_Of_ok (N:Nat) (n:Int) (r:TInt) (h:g_r01_Of N n=some r):Sd 142 [(aI n)] [] 0 (.agg (TIc r)) []:=by
 unfold g_r01_Of at h
 refine sor (fu:=Tryz.f142) (c:=C_85 1) (nt:=25) (by kernel_rfl) (by kernel_rfl) (by kernel_rfl) (by kernel_rfl) (fun hm=>rfl) ?_
 intro E hE
 refine rnR hE 1 [] [] (kp [0,2]) (kq [0]) 16 pn ?_
 refine rnR hE 1 [] [] (kp [0,2,3]) (kq [0]) 32 pn ?_
 refine rnR hE 1 [] [] (kp [0,2,3,4]) (kq [0]) 80 pn ?_
 refine rnR hE 2 [] [] (kp [0,2,3,4,8]) (kq [0]) 112 pn ?_
 refine rnC 0 8 h (fun hq2 h=>?_) (fun hq2 h=>?_)
 ·refine rnR hE 0 [] [] (kp [0,2,3,4]) (kq [0]) 160 pn ?_
  exact rnW hE 3 [] (kp [0,2] ++ [(3,.nilos 1)] ++ kp [4]) (kq [0] ++ [(1,.nil 1 (fun zi=>cI (([]:List Int).getD zi 0)))]) 2 pn (g_r01_Of_L1_ok N _ N _ _ _ h E hE)
 ·exact rnW hE 4 [] (kp [0,2] ++ [(3,.nilos 1)] ++ kp [4]) (kq [0] ++ [(1,.nil 1 (fun zi=>cI (([]:List Int).getD zi 0)))]) 2 pn (g_r01_Of_L1_ok N _ N _ _ _ h E hE)
noncomputable def C_84 (n:Nat):Code:=cat (bodyOf Tryz.f115) (pth n)
theorem g_r01_Q_ok (N:Nat) (n:Int) (r:TRat) (h:g_r01_Q N n=some r):Sd 115 [(aI n)] [] 0 (.agg (TRc r)) []:=by
 unfold g_r01_Q at h
 refine sor (fu:=Tryz.f115) (c:=C_84 1) (nt:=7) (by kernel_rfl) (by kernel_rfl) (by kernel_rfl) (by kernel_rfl) (fun hm=>rfl) ?_
 intro E hE
 refine rnR hE 1 [] [] (kp [0,2]) (kq [0]) 16 pn ?_
 obtain ⟨rOf,hr,h⟩:=bsm h
 obtain ⟨rOf2,hr2,h⟩:=bsm h
 refine rnR hE 1 [(1,⟨[],true,(.agg (TIc rOf)),[],0,false,none⟩),(2,⟨[],true,(.agg (TIc rOf2)),[],0,false,none⟩)] [] (kp [2]) (kq [0]) 96 (pc (g_r01_Of_ok N n rOf hr) (pc (g_r01_Of_ok N 1 rOf2 hr2) (pc o1 pn))) ?_
 obtain rfl:=osI h
 exact rnT hE 0 Tryz.f115 [] (kp [2]) [(16,.keep 0)] 96 pn [16] (pc o1 pn)
noncomputable def C_87 (n:Nat):Code:=cat (bodyOf Tryz.f116) (pth n)
def g_r05_loads_L1_H (N:Nat) (p:TPn) (steps:List Int) (K:(List TPm)→Int→Option ((List TPm))):Prop:=∀ (out:List TPm) (i:Int) (r:(List TPm)),K out i=some r→∀ E,EnvOk E 0→Runs Tryz.prog E 116 45 (SPost E [] (encL TPm.cells TPm.d r)) [.code (C_87 116),.inLoop (C_87 116),.inBlock 0,.code (C_87 15)] ⟨[(1,(encL cI 0 steps)),(2,(.op 0 0 0)),(5,(.os 1 0 out.length)),(6,(aI i))],[(0,vO 5 (TPn.cells p)),(1,aO 3 TPm.cells TPm.d out)],2⟩
theorem g_r05_loads_L1_ok (N:Nat) (p:TPn) (steps:List Int) (fuel:Nat):g_r05_loads_L1_H N p steps (g_r05_loads_L1 N p steps fuel):=by
 induction fuel with
 | zero=>intro _ _ r h;rw [g_r05_loads_L1.eq_1] at h;cases h
 | succ fuel ih =>
  intro out i r h E hE
  rw [g_r05_loads_L1.eq_2] at h
  refine rnR hE 2 [] [] (kp [1,2,5,6,14]) (kq [0,1]) 66 pn ?_
  refine rnC 0 14 h (fun hq2 h=>?_) (fun hq2 h=>?_)
  ·obtain ⟨c2,h⟩:=ifSome h
   obtain ⟨c3,h⟩:=ifSome h
   obtain ⟨c4,h⟩:=ifSome h
   refine rnR hE 3 [] [] (kp [1,2] ++ [(5,.osl ((out ++ ([(⟨(p.fTk.getD ((i).toNat) TTank.d).f_X,(p.fTk.getD ((i).toNat) TTank.d).f_Y,(w64 ((steps.getD ((i).toNat) 0) * (p.fTk.getD ((i).toNat) TTank.d).fMa))⟩:TPm)]:List TPm)).length))] ++ kp [6]) (kq [0] ++ [(482,.arr 482 ((out ++ ([(⟨(p.fTk.getD ((i).toNat) TTank.d).f_X,(p.fTk.getD ((i).toNat) TTank.d).f_Y,(w64 ((steps.getD ((i).toNat) 0) * (p.fTk.getD ((i).toNat) TTank.d).fMa))⟩:TPm)]:List TPm)).length) (fun zi=>TPm.cells ((out ++ ([(⟨(p.fTk.getD ((i).toNat) TTank.d).f_X,(p.fTk.getD ((i).toNat) TTank.d).f_Y,(w64 ((steps.getD ((i).toNat) 0) * (p.fTk.getD ((i).toNat) TTank.d).fMa))⟩:TPm)]:List TPm)).getD zi TPm.d)))]) 514 (pc o1 (pc c2 (pc o1 (pc c2 (pc c3 (pc o1 (pc c2 (pc (Eq.refl out.length) (pc c4 (pc (z1 1) (pc (show ∀ zi,zi < 1→AV.oneL ((fun zi=>([[(aI ((p.fTk.getD ((i).toNat) TTank.d).f_X)),(aI ((p.fTk.getD ((i).toNat) TTank.d).f_Y)),(aI (w64 ((steps.getD ((i).toNat) 0) * (p.fTk.getD ((i).toNat) TTank.d).fMa)))]]:List (List AV)).getD zi []) (addz 0 zi))=true from (oneN rfl)) (pc (show (out.length+1)=(out ++ ([(⟨(p.fTk.getD ((i).toNat) TTank.d).f_X,(p.fTk.getD ((i).toNat) TTank.d).f_Y,(w64 ((steps.getD ((i).toNat) 0) * (p.fTk.getD ((i).toNat) TTank.d).fMa))⟩:TPm)]:List TPm)).length from (len_app_raw rfl rfl)) (pc (show out.length+1=(out ++ ([(⟨(p.fTk.getD ((i).toNat) TTank.d).f_X,(p.fTk.getD ((i).toNat) TTank.d).f_Y,(w64 ((steps.getD ((i).toNat) 0) * (p.fTk.getD ((i).toNat) TTank.d).fMa))⟩:TPm)]:List TPm)).length from (len_app_raw rfl rfl)) (pc (show ∀ zi,zi < (out ++ ([(⟨(p.fTk.getD ((i).toNat) TTank.d).f_X,(p.fTk.getD ((i).toNat) TTank.d).f_Y,(w64 ((steps.getD ((i).toNat) 0) * (p.fTk.getD ((i).toNat) TTank.d).fMa))⟩:TPm)]:List TPm)).length→(fun zi=>TPm.cells ((out ++ ([(⟨(p.fTk.getD ((i).toNat) TTank.d).f_X,(p.fTk.getD ((i).toNat) TTank.d).f_Y,(w64 ((steps.getD ((i).toNat) 0) * (p.fTk.getD ((i).toNat) TTank.d).fMa))⟩:TPm)]:List TPm)).getD zi TPm.d)) zi=((fun zm=>if zm < out.length then (fun zi=>TPm.cells (out.getD zi TPm.d)) zm else (fun zi=>([[(aI ((p.fTk.getD ((i).toNat) TTank.d).f_X)),(aI ((p.fTk.getD ((i).toNat) TTank.d).f_Y)),(aI (w64 ((steps.getD ((i).toNat) 0) * (p.fTk.getD ((i).toNat) TTank.d).fMa)))]]:List (List AV)).getD zi []) (zm - out.length))) zi from (get_app_raw TPm.cells TPm.d out ([(⟨(p.fTk.getD ((i).toNat) TTank.d).f_X,(p.fTk.getD ((i).toNat) TTank.d).f_Y,(w64 ((steps.getD ((i).toNat) 0) * (p.fTk.getD ((i).toNat) TTank.d).fMa))⟩:TPm)]:List TPm) rfl (fun _ _=>rfl) (fun zq hzq=>get_chunk TPm.cells TPm.d ([(⟨(p.fTk.getD ((i).toNat) TTank.d).f_X,(p.fTk.getD ((i).toNat) TTank.d).f_Y,(w64 ((steps.getD ((i).toNat) 0) * (p.fTk.getD ((i).toNat) TTank.d).fMa))⟩:TPm)]:List TPm) zq hzq))) pn)))))))))))))) ?_
   refine rnR hE 1 [] [] (kp [1,2,5,6]) (kq [0,482]) 562 pn ?_
   exact rnW hE 1 [] (kp [1,2,5,6]) (kq [0] ++ [(1,.keep 482)]) 2 pn (ih _ _ _ h E hE)
  ·refine rnR hE 2 [] [] (kp [4]) (kq [1]) 98 pn ?_
   obtain rfl:=osI h
   exact rnT hE 0 Tryz.f116 [1] [(4,.sl (out.length) (fun zi=>TPm.cells (out.getD zi TPm.d)))] [] 98 (pc (Eq.refl out.length) (pc (z1 out.length) (pc (show ∀ zi,zi < out.length→(fun zi=>TPm.cells (out.getD zi TPm.d)) zi=(fun zi=>TPm.cells (out.getD zi TPm.d)) (addz 0 zi) from (fun _ _=>rfl)) pn))) [] pn
theorem g_r05_loads_ok (N:Nat) (p:TPn) (steps:List Int) (r:(List TPm)) (h:g_r05_loads N p steps=some r):Sd 116 [(.agg (TPn.cells p)),(encL cI 0 steps)] [] 0 (encL TPm.cells TPm.d r) []:=by
 unfold g_r05_loads at h
 refine sor (fu:=Tryz.f116) (c:=C_87 1) (nt:=45) (by kernel_rfl) (by kernel_rfl) (by kernel_rfl) (by kernel_rfl) (fun hm=>rfl) ?_
 intro E hE
 refine rnR hE 1 [] [] (kp [1,2]) (kq [0]) 32 pn ?_
 obtain ⟨c,h⟩:=ifSome h
 refine rnR hE 1 [] [] (kp [1,2] ++ [(5,.osl ((([]:List TPm) ++ p.fMs).length))]) (kq [0] ++ [(80,.arr 80 ((([]:List TPm) ++ p.fMs).length) (fun zi=>TPm.cells ((([]:List TPm) ++ p.fMs).getD zi TPm.d)))]) 112 (pc o1 (pc (Eq.refl 0) (pc c (pc (show ∀ zi,zi < p.fMs.length→AV.oneL ((fun zi=>TPm.cells (p.fMs.getD zi TPm.d)) zi)=true from (fun _ _=>rfl)) (pc (show (0+p.fMs.length)=(([]:List TPm) ++ p.fMs).length from (len_app_raw rfl rfl)) (pc (show 0+p.fMs.length=(([]:List TPm) ++ p.fMs).length from (len_app_raw rfl rfl)) (pc (show ∀ zi,zi < (([]:List TPm) ++ p.fMs).length→(fun zi=>TPm.cells ((([]:List TPm) ++ p.fMs).getD zi TPm.d)) zi=((fun zm=>if zm < 0 then (fun _=>[]) zm else (fun zi=>TPm.cells (p.fMs.getD zi TPm.d)) (zm - 0))) zi from (get_app_raw TPm.cells TPm.d ([]:List TPm) p.fMs rfl (fun zq hzq=>absurd hzq (Nat.not_lt_zero _)) (fun _ _=>rfl))) pn))))))) ?_
 refine rnR hE 2 [] [] (kp [1,2,5,6]) (kq [0,80]) 128 pn ?_
 exact rnW hE 2 [] (kp [1,2,5,6]) (kq [0] ++ [(1,.keep 80)]) 2 pn (g_r05_loads_L1_ok N _ _ N _ _ _ h E hE)
noncomputable def C_92 (n:Nat):Code:=cat (bodyOf Tryz.f164) (pth n)
def g_r01_trim_L1_H (N:Nat) (a:List Int) (K:Int→Option ((List Int))):Prop:=∀ (n:Int) (r:(List Int)),K n=some r→∀ E,EnvOk E 0→Runs Tryz.prog E 164 23 (SPost E [] (encL cI 0 r)) [.code (C_92 56),.inLoop (C_92 56),.inBlock 0,.code (C_92 15)] ⟨[(0,(encL cI 0 a)),(3,(aI n))],[],0⟩
theorem g_r01_trim_L1_ok (N:Nat) (a:List Int) (fuel:Nat):g_r01_trim_L1_H N a (g_r01_trim_L1 N a fuel):=by
 induction fuel with
 | zero=>intro _ r h;rw [g_r01_trim_L1.eq_1] at h;cases h
 | succ fuel ih =>
  intro n r h E hE
  rw [g_r01_trim_L1.eq_2] at h
  obtain ⟨c,h⟩:=ifSome h
  refine rnR hE 2 [] [] (kp [0,3,15]) [] 160 (pc (fun hg:(decide (n > 0))=true=>(pc hg pn)) (pc (fun hg:(decide (n > 0))=true=>(pc hg (pc hg (pc (c hg) pn)))) (pc (fun hg:(decide (n > 0))=true=>(pc hg pn)) (pc (fun hg:(decide (n > 0))=true=>(pc hg pn)) (pc (fun hq:(decide (n > 0))=true=>(pc hq pn)) pn))))) ?_
  refine rnC 0 15 h (fun hq2 h=>?_) (fun hq2 h=>?_)
  ·refine rnR hE 2 [] [] (kp [0,3]) [] 208 pn ?_
   exact rnW hE 2 [] (kp [0,3]) [] 0 pn (ih _ _ h E hE)
  ·obtain ⟨c2,h⟩:=ifSome h
   obtain ⟨c3,h⟩:=ifSome h
   obtain ⟨c4,h⟩:=ifSome h
   refine rnR hE 2 [] [] [(2,.osl ((([]:List Int) ++ ((a.take ((n).toNat)).drop 0)).length))] [(224,.arr 224 ((([]:List Int) ++ ((a.take ((n).toNat)).drop 0)).length) (fun zi=>cI ((([]:List Int) ++ ((a.take ((n).toNat)).drop 0)).getD zi 0)))] 256 (pc c2 (pc c3 (pc (Eq.refl 0) (pc c4 (pc (show ∀ zi,zi < ((n).toNat - 0)→AV.oneL ((fun zi=>cI (a.getD (addz 0 zi) 0)) zi)=true from (fun _ _=>rfl)) (pc (show (0+((n).toNat - 0))=(([]:List Int) ++ ((a.take ((n).toNat)).drop 0)).length from (len_app_raw rfl (len_ext' a 0 ((n).toNat) c2))) (pc (show 0+((n).toNat - 0)=(([]:List Int) ++ ((a.take ((n).toNat)).drop 0)).length from (len_app_raw rfl (len_ext' a 0 ((n).toNat) c2))) (pc (show ∀ zi,zi < (([]:List Int) ++ ((a.take ((n).toNat)).drop 0)).length→(fun zi=>cI ((([]:List Int) ++ ((a.take ((n).toNat)).drop 0)).getD zi 0)) zi=((fun zm=>if zm < 0 then (fun _=>[]) zm else (fun zi=>cI (a.getD (addz 0 zi) 0)) (zm - 0))) zi from (get_app_raw cI 0 ([]:List Int) ((a.take ((n).toNat)).drop 0) rfl (fun zq hzq=>absurd hzq (Nat.not_lt_zero _)) (fun zq hzq=>get_ext cI 0 a 0 ((n).toNat) zq hzq))) pn)))))))) ?_
   obtain rfl:=osI h
   exact rnT hE 0 Tryz.f164 [224] [(2,.sl ((([]:List Int) ++ ((a.take ((n).toNat)).drop 0)).length) (fun zi=>cI ((([]:List Int) ++ ((a.take ((n).toNat)).drop 0)).getD zi 0)))] [] 256 (pc (Eq.refl ((([]:List Int) ++ ((a.take ((n).toNat)).drop 0)).length)) (pc (z1 ((([]:List Int) ++ ((a.take ((n).toNat)).drop 0)).length)) (pc (show ∀ zi,zi < (([]:List Int) ++ ((a.take ((n).toNat)).drop 0)).length→(fun zi=>cI ((([]:List Int) ++ ((a.take ((n).toNat)).drop 0)).getD zi 0)) zi=(fun zi=>cI ((([]:List Int) ++ ((a.take ((n).toNat)).drop 0)).getD zi 0)) (addz 0 zi) from (fun _ _=>rfl)) pn))) [] pn
theorem g_r01_trim_ok (N:Nat) (a:List Int) (r:(List Int)) (h:g_r01_trim N a=some r):Sd 164 [(encL cI 0 a)] [] 0 (encL cI 0 r) []:=by
 unfold g_r01_trim at h
 refine sor (fu:=Tryz.f164) (c:=C_92 1) (nt:=23) (by kernel_rfl) (by kernel_rfl) (by kernel_rfl) (by kernel_rfl) (fun hm=>rfl) ?_
 intro E hE
 refine rnR hE 1 [] [] (kp [0]) [] 16 pn ?_
 refine rnR hE 1 [] [] (kp [0,3]) [] 64 pn ?_
 exact rnW hE 3 [] (kp [0,3]) [] 0 pn (g_r01_trim_L1_ok N _ N _ _ h E hE)
noncomputable def C_91 (n:Nat):Code:=cat (bodyOf Tryz.f146) (pth n)
def g_r01_read_L1_H (N:Nat) (l:List Int) (K:(List Int)→Int→Option ((List Int))):Prop:=∀ (a:List Int) (i:Int) (r:(List Int)),K a i=some r→∀ E,EnvOk E 0→Runs Tryz.prog E 146 21 (SPost E [] (encL cI 0 r)) [.code (C_91 116),.inLoop (C_91 116),.inBlock 0,.code (C_91 15)] ⟨[(0,(eU l)),(3,(.os 0 0 a.length)),(4,(aI i))],[(0,aO 1 cI 0 a)],1⟩
theorem g_r01_read_L1_ok (N:Nat) (l:List Int) (fuel:Nat):g_r01_read_L1_H N l (g_r01_read_L1 N l fuel):=by
 induction fuel with
 | zero=>intro _ _ r h;rw [g_r01_read_L1.eq_1] at h;cases h
 | succ fuel ih =>
  intro a i r h E hE
  rw [g_r01_read_L1.eq_2] at h
  refine rnR hE 2 [] [] (kp [0,3,4,8]) (kq [0]) 65 pn ?_
  refine rnC 0 8 h (fun hq2 h=>?_) (fun hq2 h=>?_)
  ·obtain ⟨c,h⟩:=ifSome h
   obtain ⟨c2,h⟩:=ifSome h
   refine rnR hE 3 [] [] (kp [0] ++ [(3,.osl ((a ++ ([(w64 ((l.getD ((i).toNat) 0)))]:List Int)).length))] ++ kp [4]) [(177,.arr 177 ((a ++ ([(w64 ((l.getD ((i).toNat) 0)))]:List Int)).length) (fun zi=>cI ((a ++ ([(w64 ((l.getD ((i).toNat) 0)))]:List Int)).getD zi 0)))] 209 (pc c (pc (Eq.refl a.length) (pc c2 (pc (z1 1) (pc (show ∀ zi,zi < 1→AV.oneL ((fun zi=>([[(aI (w64 ((l.getD ((i).toNat) 0))))]]:List (List AV)).getD zi []) (addz 0 zi))=true from (oneN rfl)) (pc (show (a.length+1)=(a ++ ([(w64 ((l.getD ((i).toNat) 0)))]:List Int)).length from (len_app_raw rfl rfl)) (pc (show a.length+1=(a ++ ([(w64 ((l.getD ((i).toNat) 0)))]:List Int)).length from (len_app_raw rfl rfl)) (pc (show ∀ zi,zi < (a ++ ([(w64 ((l.getD ((i).toNat) 0)))]:List Int)).length→(fun zi=>cI ((a ++ ([(w64 ((l.getD ((i).toNat) 0)))]:List Int)).getD zi 0)) zi=((fun zm=>if zm < a.length then (fun zi=>cI (a.getD zi 0)) zm else (fun zi=>([[(aI (w64 ((l.getD ((i).toNat) 0))))]]:List (List AV)).getD zi []) (zm - a.length))) zi from (get_app_raw cI 0 a ([(w64 ((l.getD ((i).toNat) 0)))]:List Int) rfl (fun _ _=>rfl) (fun zq hzq=>get_chunk cI 0 ([(w64 ((l.getD ((i).toNat) 0)))]:List Int) zq hzq))) pn)))))))) ?_
   refine rnR hE 1 [] [] (kp [0,3,4]) (kq [177]) 257 pn ?_
   exact rnW hE 1 [] (kp [0,3,4]) [(0,.keep 177)] 1 pn (ih _ _ _ h E hE)
  ·obtain ⟨rtrim,hr,h⟩:=bsm h
   refine rnR hE 2 [(1,⟨[],true,(encL cI 0 rtrim),[],0,true,none⟩)] [] (kp [2]) [] 113 (pc (g_r01_trim_ok N a rtrim hr) (pc (z1 a.length) pn)) ?_
   obtain rfl:=osI h
   exact rnT hE 0 Tryz.f146 [] (kp [2]) [] 113 pn [] pn
theorem g_r01_read_ok (N:Nat) (l:List Int) (r:(List Int)) (h:g_r01_read N l=some r):Sd 146 [(eU l)] [] 0 (encL cI 0 r) []:=by
 unfold g_r01_read at h
 refine sor (fu:=Tryz.f146) (c:=C_91 1) (nt:=21) (by kernel_rfl) (by kernel_rfl) (by kernel_rfl) (by kernel_rfl) (fun hm=>rfl) ?_
 intro E hE
 refine rnR hE 1 [] [] (kp [0]) [] 16 pn ?_
 refine rnR hE 1 [] [] (kp [0,3]) [] 32 pn ?_
 refine rnR hE 2 [] [] (kp [0,3,4]) [] 48 pn ?_
 exact rnW hE 2 [] (kp [0] ++ [(3,.nilos 0)] ++ kp [4]) [(0,.nil 1 (fun zi=>cI (([]:List Int).getD zi 0)))] 1 pn (g_r01_read_L1_ok N _ N _ _ _ h E hE)
noncomputable def C_96 (n:Nat):Code:=cat (bodyOf Tryz.f165) (pth n)
theorem g_r01_digit_ok (N:Nat) (a:List Int) (i:Int) (r:Int) (h:g_r01_digit N a i=some r):Sd 165 [(encL cI 0 a),(aI i)] [] 0 (aI r) []:=by
 unfold g_r01_digit at h
 refine sor (fu:=Tryz.f165) (c:=C_96 1) (nt:=13) (by kernel_rfl) (by kernel_rfl) (by kernel_rfl) (by kernel_rfl) (fun hm=>rfl) ?_
 intro E hE
 refine rnR hE 1 [] [] (kp [0,1]) [] 16 pn ?_
 refine rnR hE 2 [] [] (kp [0,1,8]) [] 80 pn ?_
 refine rnC 0 8 h (fun hq2 h=>?_) (fun hq2 h=>?_)
 ·obtain ⟨c,h⟩:=ifSome h
  refine rnR hE 1 [] [] (kp [4]) [] 160 (pc c pn) ?_
  obtain rfl:=osI h
  exact rnT hE 0 Tryz.f165 [] (kp [4]) [] 160 pn [] pn
 ·refine rnR hE 2 [] [] (kp [4]) [] 96 pn ?_
  obtain rfl:=osI h
  exact rnT hE 0 Tryz.f165 [] (kp [4]) [] 96 pn [] pn
noncomputable def C_95 (n:Nat):Code:=cat (bodyOf Tryz.f150) (pth n)
def g_r01_times_L1_H (N:Nat) (a:List Int) (b:List Int) (K:(List Int)→Int→Option ((List Int))):Prop:=∀ (out:List Int) (i:Int) (r:(List Int)),K out i=some r→∀ E,EnvOk E 0→Runs Tryz.prog E 150 61 (SPost E [] (encL cI 0 r)) [.code (C_95 116),.inLoop (C_95 116),.inBlock 0,.code (C_95 15)] ⟨[(0,(encL cI 0 a)),(1,(encL cI 0 b)),(5,(.os 0 0 out.length)),(6,(aI i))],[(0,aO 1 cI 0 out)],1⟩
def g_r01_times_L2_H (N:Nat) (a:List Int) (b:List Int) (i:Int) (K:(List Int)→Int→Int→Option ((List Int))):Prop:=∀ (out2:List Int) (carry:Int) (k:Int) (r:(List Int)),K out2 carry k=some r→∀ E,EnvOk E 0→Runs Tryz.prog E 150 61 (SPost E [] (encL cI 0 r)) [.code (C_95 14924),.inLoop (C_95 14924),.inBlock 2,.inBlock 1,.code (C_95 467),.inLoop (C_95 116),.inBlock 0,.code (C_95 15)] ⟨[(0,(encL cI 0 a)),(1,(encL cI 0 b)),(5,(.os 0 0 out2.length)),(6,(aI i)),(7,(aI carry)),(8,(aI k))],[(0,aO 1 cI 0 out2)],1⟩
theorem g_r01_times_L2_ok (N:Nat) (a:List Int) (b:List Int) (i:Int) (K_g_r01_times_L1:(List Int)→Int→Option ((List Int))) (hK_g_r01_times_L1:g_r01_times_L1_H N a b K_g_r01_times_L1) (fuel:Nat):g_r01_times_L2_H N a b i (g_r01_times_L2 N a b i K_g_r01_times_L1 fuel):=by
 induction fuel with
 | zero=>intro _ _ _ r h;rw [g_r01_times_L2.eq_1] at h;cases h
 | succ fuel ih =>
  intro out2 carry k r h E hE
  rw [g_r01_times_L2.eq_2] at h
  refine rnR hE 2 [] [] (kp [0,1,5,6,7,8,30]) (kq [0]) 129 (pc (fun hg:(!(decide (k < ((b.length:Nat):Int))))=true=>(pc hg pn)) (pc (fun hq:(!(decide (k < ((b.length:Nat):Int))))=true=>(pc hq pn)) pn)) ?_
  refine rnC 0 30 h (fun hq3 h=>?_) (fun hq3 h=>?_)
  ·obtain ⟨c2,h⟩:=ifSome h
   obtain ⟨c3,h⟩:=ifSome h
   obtain ⟨rdigit,hr,h⟩:=bsm h
   refine rnR hE 4 [(12,⟨[],true,(aI rdigit),[],0,false,none⟩)] [] (kp [0,1,5,6,8,9]) (kq [0]) 417 (pc c2 (pc (ltOf c2) (pc c3 (pc (g_r01_digit_ok N b k rdigit hr) pn)))) ?_
   refine rnR hE 1 [] [] (kp [0,1] ++ [(5,.osl ((out2.set ((w64 (i+k)).toNat) ((w64 ((w64 ((out2.getD ((w64 (i+k)).toNat) 0)+(w64 ((a.getD ((i).toNat) 0) * rdigit))))+carry)).tmod 65536)).length))] ++ kp [6,8,9]) [(0,.arr 0 ((out2.set ((w64 (i+k)).toNat) ((w64 ((w64 ((out2.getD ((w64 (i+k)).toNat) 0)+(w64 ((a.getD ((i).toNat) 0) * rdigit))))+carry)).tmod 65536)).length) (fun zi=>cI ((out2.set ((w64 (i+k)).toNat) ((w64 ((w64 ((out2.getD ((w64 (i+k)).toNat) 0)+(w64 ((a.getD ((i).toNat) 0) * rdigit))))+carry)).tmod 65536)).getD zi 0)))] 545 (pc (show (65536:Int)≠0 by decide) (pc c2 (pc (ltOf c2) (pc (len_set0 out2 ((w64 (i+k)).toNat) ((w64 ((w64 ((out2.getD ((w64 (i+k)).toNat) 0)+(w64 ((a.getD ((i).toNat) 0) * rdigit))))+carry)).tmod 65536)) (pc (len_set0 out2 ((w64 (i+k)).toNat) ((w64 ((w64 ((out2.getD ((w64 (i+k)).toNat) 0)+(w64 ((a.getD ((i).toNat) 0) * rdigit))))+carry)).tmod 65536)) (pc (get_set0 cI 0 out2 ((w64 (i+k)).toNat) ((w64 ((w64 ((out2.getD ((w64 (i+k)).toNat) 0)+(w64 ((a.getD ((i).toNat) 0) * rdigit))))+carry)).tmod 65536)) pn)))))) ?_
   refine rnR hE 0 [] [] (kp [0,1,5,6,7,8]) (kq [0]) 593 (pc (show (65536:Int)≠0 by decide) pn) ?_
   refine rnR hE 1 [] [] (kp [0,1,5,6,7,8]) (kq [0]) 641 pn ?_
   exact rnW hE 1 [] (kp [0,1,5,6,7,8]) (kq [0]) 1 pn (ih _ _ _ _ h E hE)
  ·refine rnR hE 2 [] [] (kp [0,1,5,6]) (kq [0]) 177 pn ?_
   exact rnW hE 1 [] (kp [0,1,5,6]) (kq [0]) 1 pn (hK_g_r01_times_L1 _ _ _ h E hE)
theorem g_r01_times_L1_ok (N:Nat) (a:List Int) (b:List Int) (fuel:Nat):g_r01_times_L1_H N a b (g_r01_times_L1 N a b fuel):=by
 induction fuel with
 | zero=>intro _ _ r h;rw [g_r01_times_L1.eq_1] at h;cases h
 | succ fuel ih =>
  intro out i r h E hE
  rw [g_r01_times_L1.eq_2] at h
  refine rnR hE 2 [] [] (kp [0,1,5,6,20]) (kq [0]) 65 pn ?_
  refine rnC 0 20 h (fun hq2 h=>?_) (fun hq2 h=>?_)
  ·refine rnR hE 4 [] [] (kp [0,1,5,6,7]) (kq [0]) 81 pn ?_
   refine rnR hE 1 [] [] (kp [0,1,5,6,7,8]) (kq [0]) 97 pn ?_
   exact rnW hE 2 [] (kp [0,1,5,6,7,8]) (kq [0]) 1 pn (g_r01_times_L2_ok N _ _ _ _ ih N _ _ _ _ h E hE)
  ·obtain ⟨rtrim,hr2,h⟩:=bsm h
   refine rnR hE 2 [(1,⟨[],true,(encL cI 0 rtrim),[],0,true,none⟩)] [] (kp [4]) [] 113 (pc (g_r01_trim_ok N out rtrim hr2) (pc (z1 out.length) pn)) ?_
   obtain rfl:=osI h
   exact rnT hE 0 Tryz.f150 [] (kp [4]) [] 113 pn [] pn
theorem g_r01_times_ok (N:Nat) (a:List Int) (b:List Int) (r:(List Int)) (h:g_r01_times N a b=some r):Sd 150 [(encL cI 0 a),(encL cI 0 b)] [] 0 (encL cI 0 r) []:=by
 unfold g_r01_times at h
 refine sor (fu:=Tryz.f150) (c:=C_95 1) (nt:=61) (by kernel_rfl) (by kernel_rfl) (by kernel_rfl) (by kernel_rfl) (fun hm=>rfl) ?_
 intro E hE
 refine rnR hE 1 [] [] (kp [0,1]) [] 16 pn ?_
 obtain ⟨c,h⟩:=ifSome h
 refine rnR hE 1 [] [] (kp [0,1] ++ [(5,.osl ((List.replicate ((w64 ((w64 (((a.length:Nat):Int)+((b.length:Nat):Int)))+1)).toNat) 0:List Int).length))]) [(112,.arr 112 ((List.replicate ((w64 ((w64 (((a.length:Nat):Int)+((b.length:Nat):Int)))+1)).toNat) 0:List Int).length) (fun zi=>cI ((List.replicate ((w64 ((w64 (((a.length:Nat):Int)+((b.length:Nat):Int)))+1)).toNat) 0:List Int).getD zi 0)))] 144 (pc (show 0≤(w64 ((w64 (((a.length:Nat):Int)+((b.length:Nat):Int)))+1)) from c.1) (pc (show (w64 ((w64 (((a.length:Nat):Int)+((b.length:Nat):Int)))+1))≤(w64 ((w64 (((a.length:Nat):Int)+((b.length:Nat):Int)))+1)) from (Int.le_refl _)) (pc (show (8:Int) * (w64 ((w64 (((a.length:Nat):Int)+((b.length:Nat):Int)))+1))≤281474976710656 from c.2.1) (pc (show (w64 ((w64 (((a.length:Nat):Int)+((b.length:Nat):Int)))+1))≤9223372036854775807 from c.2.2) (pc (show (w64 ((w64 (((a.length:Nat):Int)+((b.length:Nat):Int)))+1)).toNat=(List.replicate ((w64 ((w64 (((a.length:Nat):Int)+((b.length:Nat):Int)))+1)).toNat) 0:List Int).length from (List.length_replicate).symm) (pc (show (w64 ((w64 (((a.length:Nat):Int)+((b.length:Nat):Int)))+1)).toNat=(List.replicate ((w64 ((w64 (((a.length:Nat):Int)+((b.length:Nat):Int)))+1)).toNat) 0:List Int).length from (List.length_replicate).symm) (pc (show ∀ zi,zi < (List.replicate ((w64 ((w64 (((a.length:Nat):Int)+((b.length:Nat):Int)))+1)).toNat) 0:List Int).length→(fun zi=>cI ((List.replicate ((w64 ((w64 (((a.length:Nat):Int)+((b.length:Nat):Int)))+1)).toNat) 0:List Int).getD zi 0)) zi=(fun _=>[(aI 0)]) zi from (fun zq hzq=>get_rep cI 0 0 ((w64 ((w64 (((a.length:Nat):Int)+((b.length:Nat):Int)))+1)).toNat) zq hzq)) pn))))))) ?_
 refine rnR hE 2 [] [] (kp [0,1,5,6]) (kq [112]) 160 pn ?_
 exact rnW hE 2 [] (kp [0,1,5,6]) [(0,.keep 112)] 1 pn (g_r01_times_L1_ok N _ _ N _ _ _ h E hE)
noncomputable def C_97 (n:Nat):Code:=cat (bodyOf Tryz.f161) (pth n)
def g_r01_compare_L1_H (N:Nat) (a:List Int) (b:List Int) (K:Int→Option (Int)):Prop:=∀ (i:Int) (r:Int),K i=some r→∀ E,EnvOk E 0→Runs Tryz.prog E 161 41 (SPost E [] (aI r)) [.code (C_97 116),.inLoop (C_97 116),.inBlock 0,.code (C_97 15)] ⟨[(0,(encL cI 0 a)),(1,(encL cI 0 b)),(5,(aI i))],[],0⟩
theorem g_r01_compare_L1_ok (N:Nat) (a:List Int) (b:List Int) (fuel:Nat):g_r01_compare_L1_H N a b (g_r01_compare_L1 N a b fuel):=by
 induction fuel with
 | zero=>intro _ r h;rw [g_r01_compare_L1.eq_1] at h;cases h
 | succ fuel ih =>
  intro i r h E hE
  rw [g_r01_compare_L1.eq_2] at h
  refine rnR hE 2 [] [] (kp [0,1,5,20]) [] 32 pn ?_
  refine rnC 0 20 h (fun hq3 h=>?_) (fun hq3 h=>?_)
  ·obtain ⟨c,h⟩:=ifSome h
   obtain ⟨c2,h⟩:=ifSome h
   refine rnR hE 4 [] [] (kp [0,1,5,31]) [] 176 (pc c (pc c2 pn)) ?_
   refine rnC 0 31 h (fun hq4 h=>?_) (fun hq4 h=>?_)
   ·refine rnR hE 1 [] [] (kp [4]) [] 336 (pc c (pc c2 pn)) ?_
    obtain rfl:=osI h
    exact rnT hE 0 Tryz.f161 [] (kp [4]) [] 336 pn [] pn
   ·refine rnR hE 2 [] [] (kp [0,1,5]) [] 224 pn ?_
    exact rnW hE 1 [] (kp [0,1,5]) [] 0 pn (ih _ _ h E hE)
  ·refine rnR hE 2 [] [] (kp [4]) [] 48 pn ?_
   obtain rfl:=osI h
   exact rnT hE 0 Tryz.f161 [] (kp [4]) [] 48 pn [] pn
theorem g_r01_compare_ok (N:Nat) (a:List Int) (b:List Int) (r:Int) (h:g_r01_compare N a b=some r):Sd 161 [(encL cI 0 a),(encL cI 0 b)] [] 0 (aI r) []:=by
 unfold g_r01_compare at h
 refine sor (fu:=Tryz.f161) (c:=C_97 1) (nt:=41) (by kernel_rfl) (by kernel_rfl) (by kernel_rfl) (by kernel_rfl) (fun hm=>rfl) ?_
 intro E hE
 refine rnR hE 1 [] [] (kp [0,1]) [] 16 pn ?_
 refine rnR hE 2 [] [] (kp [0,1,10]) [] 96 pn ?_
 refine rnC 0 10 h (fun hq2 h=>?_) (fun hq2 h=>?_)
 ·refine rnR hE 1 [] [] (kp [4]) [] 192 pn ?_
  obtain rfl:=osI h
  exact rnT hE 0 Tryz.f161 [] (kp [4]) [] 192 pn [] pn
 ·refine rnR hE 3 [] [] (kp [0,1,5]) [] 160 pn ?_
  exact rnW hE 2 [] (kp [0,1,5]) [] 0 pn (g_r01_compare_L1_ok N _ _ N _ _ h E hE)
noncomputable def C_98 (n:Nat):Code:=cat (bodyOf Tryz.f162) (pth n)
def g_r01_minus_L1_H (N:Nat) (a:List Int) (b:List Int) (K:(List Int)→Int→Int→Option ((List Int))):Prop:=∀ (out:List Int) (borrow:Int) (i:Int) (r:(List Int)),K out borrow i=some r→∀ E,EnvOk E 0→Runs Tryz.prog E 162 35 (SPost E [] (encL cI 0 r)) [.code (C_98 244),.inLoop (C_98 244),.inBlock 0,.code (C_98 31)] ⟨[(0,(encL cI 0 a)),(1,(encL cI 0 b)),(5,(.os 0 0 out.length)),(6,(aI borrow)),(7,(aI i))],[(0,aO 1 cI 0 out)],1⟩
def g_r01_minus_J2_H (N:Nat) (a:List Int) (b:List Int) (out:List Int) (i:Int) (K:Int→Int→Option ((List Int))):Prop:=∀ (borrow2:Int) (s:Int) (r:(List Int)),K borrow2 s=some r→∀ E,EnvOk E 0→Runs Tryz.prog E 162 35 (SPost E [] (encL cI 0 r)) [.code (C_98 15655),.inBlock 1,.code (C_98 979),.inLoop (C_98 244),.inBlock 0,.code (C_98 31)] ⟨[(0,(encL cI 0 a)),(1,(encL cI 0 b)),(5,(.os 0 0 out.length)),(6,(aI borrow2)),(7,(aI i)),(8,(aI s))],[(0,aO 1 cI 0 out)],1⟩
theorem g_r01_minus_J2_ok (N:Nat) (a:List Int) (b:List Int) (out:List Int) (i:Int) (K_g_r01_minus_L1:(List Int)→Int→Int→Option ((List Int))) (hK_g_r01_minus_L1:g_r01_minus_L1_H N a b K_g_r01_minus_L1):g_r01_minus_J2_H N a b out i (g_r01_minus_J2 N a b out i K_g_r01_minus_L1):=by
 intro borrow2 s r h E hE
 unfold g_r01_minus_J2 at h
 obtain ⟨c2,h⟩:=ifSome h
 refine rnR hE 0 [] [] (kp [0,1] ++ [(5,.osl ((out ++ ([s]:List Int)).length))] ++ kp [6,7]) [(49,.arr 49 ((out ++ ([s]:List Int)).length) (fun zi=>cI ((out ++ ([s]:List Int)).getD zi 0)))] 81 (pc (Eq.refl out.length) (pc c2 (pc (z1 1) (pc (show ∀ zi,zi < 1→AV.oneL ((fun zi=>([[(aI s)]]:List (List AV)).getD zi []) (addz 0 zi))=true from (oneN rfl)) (pc (show (out.length+1)=(out ++ ([s]:List Int)).length from (len_app_raw rfl rfl)) (pc (show out.length+1=(out ++ ([s]:List Int)).length from (len_app_raw rfl rfl)) (pc (show ∀ zi,zi < (out ++ ([s]:List Int)).length→(fun zi=>cI ((out ++ ([s]:List Int)).getD zi 0)) zi=((fun zm=>if zm < out.length then (fun zi=>cI (out.getD zi 0)) zm else (fun zi=>([[(aI s)]]:List (List AV)).getD zi []) (zm - out.length))) zi from (get_app_raw cI 0 out ([s]:List Int) rfl (fun _ _=>rfl) (fun zq hzq=>get_chunk cI 0 ([s]:List Int) zq hzq))) pn))))))) ?_
 refine rnR hE 1 [] [] (kp [0,1,5,6,7]) (kq [49]) 129 pn ?_
 exact rnW hE 1 [] (kp [0,1,5,6,7]) [(0,.keep 49)] 1 pn (hK_g_r01_minus_L1 _ _ _ _ h E hE)
theorem g_r01_minus_L1_ok (N:Nat) (a:List Int) (b:List Int) (fuel:Nat):g_r01_minus_L1_H N a b (g_r01_minus_L1 N a b fuel):=by
 induction fuel with
 | zero=>intro _ _ _ r h;rw [g_r01_minus_L1.eq_1] at h;cases h
 | succ fuel ih =>
  intro out borrow i r h E hE
  rw [g_r01_minus_L1.eq_2] at h
  refine rnR hE 2 [] [] (kp [0,1,5,6,7,12]) (kq [0]) 65 pn ?_
  refine rnC 0 12 h (fun hq2 h=>?_) (fun hq2 h=>?_)
  ·obtain ⟨c,h⟩:=ifSome h
   obtain ⟨rdigit,hr,h⟩:=bsm h
   refine rnR hE 4 [(6,⟨[],true,(aI rdigit),[],0,false,none⟩)] [] (kp [0,1,5,7,8]) (kq [0]) 241 (pc c (pc (g_r01_digit_ok N b i rdigit hr) pn)) ?_
   refine rnR hE 1 [] [] (kp [0,1,5,6,7,8]) (kq [0]) 257 pn ?_
   refine rnR hE 2 [] [] (kp [0,1,5,6,7,8,26]) (kq [0]) 289 pn ?_
   refine rnC 0 26 h (fun hq3 h=>?_) (fun hq3 h=>?_)
   ·refine rnR hE 1 [] [] (kp [0,1,5,7,8]) (kq [0]) 337 pn ?_
    refine rnR hE 0 [] [] (kp [0,1,5,6,7,8]) (kq [0]) 353 pn ?_
    exact rnW hE 0 [] (kp [0,1,5,6,7,8]) (kq [0]) 1 pn (g_r01_minus_J2_ok N _ _ _ _ _ ih _ _ _ h E hE)
   ·exact rnW hE 1 [] (kp [0,1,5,6,7,8]) (kq [0]) 1 pn (g_r01_minus_J2_ok N _ _ _ _ _ ih _ _ _ h E hE)
  ·obtain ⟨rtrim,hr2,h⟩:=bsm h
   refine rnR hE 2 [(1,⟨[],true,(encL cI 0 rtrim),[],0,true,none⟩)] [] (kp [4]) [] 113 (pc (g_r01_trim_ok N out rtrim hr2) (pc (z1 out.length) pn)) ?_
   obtain rfl:=osI h
   exact rnT hE 0 Tryz.f162 [] (kp [4]) [] 113 pn [] pn
theorem g_r01_minus_ok (N:Nat) (a:List Int) (b:List Int) (r:(List Int)) (h:g_r01_minus N a b=some r):Sd 162 [(encL cI 0 a),(encL cI 0 b)] [] 0 (encL cI 0 r) []:=by
 unfold g_r01_minus at h
 refine sor (fu:=Tryz.f162) (c:=C_98 1) (nt:=35) (by kernel_rfl) (by kernel_rfl) (by kernel_rfl) (by kernel_rfl) (fun hm=>rfl) ?_
 intro E hE
 refine rnR hE 1 [] [] (kp [0,1]) [] 16 pn ?_
 refine rnR hE 1 [] [] (kp [0,1,5]) [] 32 pn ?_
 refine rnR hE 1 [] [] (kp [0,1,5,6]) [] 48 pn ?_
 refine rnR hE 2 [] [] (kp [0,1,5,6,7]) [] 64 pn ?_
 exact rnW hE 2 [] (kp [0,1] ++ [(5,.nilos 0)] ++ kp [6,7]) [(0,.nil 1 (fun zi=>cI (([]:List Int).getD zi 0)))] 1 pn (g_r01_minus_L1_ok N _ _ N _ _ _ _ h E hE)
noncomputable def C_94 (n:Nat):Code:=cat (bodyOf Tryz.f149) (pth n)
def g_r01_over_L1_H (N:Nat) (a:List Int) (b:List Int) (K:(List Int)→(List Int)→Int→Option ((List Int)×(List Int))):Prop:=∀ (rest:List Int) (q:List Int) (i:Int) (r:(List Int)×(List Int)),K rest q i=some r→∀ E,EnvOk E 0→Runs Tryz.prog E 149 63 (SPost E [] (.tup [(encL cI 0 r.1),(encL cI 0 r.2)])) [.code (C_94 244),.inLoop (C_94 244),.inBlock 0,.code (C_94 31)] ⟨[(0,(encL cI 0 a)),(1,(encL cI 0 b)),(6,(encL cI 0 rest)),(7,(.os 0 0 q.length)),(8,(aI i))],[(0,aO 1 cI 0 q)],1⟩
def g_r01_over_L2_H (N:Nat) (a:List Int) (b:List Int) (q:List Int) (i:Int) (rtrim:(List Int)) (K:Int→Int→Option ((List Int)×(List Int))):Prop:=∀ (lo:Int) (hi:Int) (r:(List Int)×(List Int)),K lo hi=some r→∀ E,EnvOk E 0→Runs Tryz.prog E 149 63 (SPost E [] (.tup [(encL cI 0 r.1),(encL cI 0 r.2)])) [.code (C_94 62616),.inLoop (C_94 62616),.inBlock 2,.code (C_94 15655),.inBlock 1,.code (C_94 979),.inLoop (C_94 244),.inBlock 0,.code (C_94 31)] ⟨[(0,(encL cI 0 a)),(1,(encL cI 0 b)),(6,(encL cI 0 rtrim)),(7,(.os 0 0 q.length)),(8,(aI i)),(9,(aI lo)),(10,(aI hi))],[(0,aO 1 cI 0 q)],1⟩
def g_r01_over_J3_H (N:Nat) (a:List Int) (b:List Int) (q:List Int) (i:Int) (lo:Int) (K:(List Int)→Option ((List Int)×(List Int))):Prop:=∀ (rest2:List Int) (r:(List Int)×(List Int)),K rest2=some r→∀ E,EnvOk E 0→Runs Tryz.prog E 149 63 (SPost E [] (.tup [(encL cI 0 r.1),(encL cI 0 r.2)])) [.code (C_94 979),.inLoop (C_94 244),.inBlock 0,.code (C_94 31)] ⟨[(0,(encL cI 0 a)),(1,(encL cI 0 b)),(6,(encL cI 0 rest2)),(7,(.os 0 0 ((q.set ((i).toNat) lo).length))),(8,(aI i))],[(0,aO 1 cI 0 (q.set ((i).toNat) lo))],1⟩
theorem g_r01_over_J3_ok (N:Nat) (a:List Int) (b:List Int) (q:List Int) (i:Int) (lo:Int) (K_g_r01_over_L1:(List Int)→(List Int)→Int→Option ((List Int)×(List Int))) (hK_g_r01_over_L1:g_r01_over_L1_H N a b K_g_r01_over_L1):g_r01_over_J3_H N a b q i lo (g_r01_over_J3 N a b q i lo K_g_r01_over_L1):=by
 intro rest2 r h E hE
 unfold g_r01_over_J3 at h
 refine rnR hE 0 [] [] (kp [0,1,6,7,8]) (kq [0]) 49 pn ?_
 exact rnW hE 1 [] (kp [0,1,6,7,8]) (kq [0]) 1 pn (hK_g_r01_over_L1 _ _ _ _ h E hE)
theorem g_r01_over_L2_ok (N:Nat) (a:List Int) (b:List Int) (q:List Int) (i:Int) (rtrim:(List Int)) (K_g_r01_over_L1:(List Int)→(List Int)→Int→Option ((List Int)×(List Int))) (hK_g_r01_over_L1:g_r01_over_L1_H N a b K_g_r01_over_L1) (fuel:Nat):g_r01_over_L2_H N a b q i rtrim (g_r01_over_L2 N a b q i rtrim K_g_r01_over_L1 fuel):=by
 induction fuel with
 | zero=>intro _ _ r h;rw [g_r01_over_L2.eq_1] at h;cases h
 | succ fuel ih =>
  intro lo hi r h E hE
  rw [g_r01_over_L2.eq_2] at h
  refine rnR hE 2 [] [] (kp [0,1,6,7,8,9,10,32]) (kq [0]) 49 pn ?_
  refine rnC 0 32 h (fun hq3 h=>?_) (fun hq3 h=>?_)
  ·refine rnR hE 3 [] [] (kp [0,1,6,7,8,9,10,11]) (kq [0]) 145 (pc (show (2:Int)≠0 by decide) pn) ?_
   obtain ⟨rtimes,hr2,h⟩:=bsm h
   obtain ⟨rcompare,hr3,h⟩:=bsm h
   refine rnR hE 1 [(3,⟨[],true,(encL cI 0 rtimes),[],0,true,none⟩),(5,⟨[],true,(aI rcompare),[],0,false,none⟩)] [] (kp [0,1,6,7,8,9,10,11,44]) (kq [0]) 257 (pc (show Sd 150 [(encL cI 0 b),(.sl 1 (fun zi=>(fun zi=>([[(aI (w64 ((w64 ((w64 (lo+hi))+1)).tdiv 2)))]]:List (List AV)).getD zi []) (addz 0 zi)))] [] 0 (encL cI 0 rtimes) [] from (Sound.conv (g_r01_times_ok N b ([(w64 ((w64 ((w64 (lo+hi))+1)).tdiv 2))]:List Int) rtimes hr2) (.cons (Alike.refl _) (.cons (Alike.sl rfl (fun zq hzq=>get_chunk cI 0 ([(w64 ((w64 ((w64 (lo+hi))+1)).tdiv 2))]:List Int) zq hzq)) .nil)))) (pc (z1 1) (pc (g_r01_compare_ok N rtimes rtrim rcompare hr3) pn))) ?_
   refine rnC 0 44 h (fun hq4 h=>?_) (fun hq4 h=>?_)
   ·refine rnR hE 0 [] [] (kp [0,1,6,7,8,9,10]) (kq [0]) 289 pn ?_
    exact rnW hE 2 [] (kp [0,1,6,7,8,9,10]) (kq [0]) 1 pn (ih _ _ _ h E hE)
   ·refine rnR hE 0 [] [] (kp [0,1,6,7,8,9,10]) (kq [0]) 305 pn ?_
    exact rnW hE 2 [] (kp [0,1,6,7,8,9,10]) (kq [0]) 1 pn (ih _ _ _ h E hE)
  ·obtain ⟨c4,h⟩:=ifSome h
   refine rnR hE 2 [] [] (kp [0,1,6] ++ [(7,.osl ((q.set ((i).toNat) lo).length))] ++ kp [8,9]) [(0,.arr 0 ((q.set ((i).toNat) lo).length) (fun zi=>cI ((q.set ((i).toNat) lo).getD zi 0)))] 129 (pc c4 (pc (ltOf c4) (pc (len_set0 q ((i).toNat) lo) (pc (len_set0 q ((i).toNat) lo) (pc (get_set0 cI 0 q ((i).toNat) lo) pn))))) ?_
   refine rnR hE 1 [] [] (kp [0,1,6,7,8,9,53]) (kq [0]) 161 pn ?_
   refine rnC 0 53 h (fun hq5 h=>?_) (fun hq5 h=>?_)
   ·obtain ⟨rtimes2,hr4,h⟩:=bsm h
    obtain ⟨rminus,hr5,h⟩:=bsm h
    refine rnR hE 0 [(4,⟨[],true,(encL cI 0 rtimes2),[],0,true,none⟩),(5,⟨[],true,(encL cI 0 rminus),[],0,false,none⟩)] [] (kp [0,1,6,7,8]) (kq [0]) 273 (pc (show Sd 150 [(encL cI 0 b),(.sl 1 (fun zi=>(fun zi=>([[(aI lo)]]:List (List AV)).getD zi []) (addz 0 zi)))] [] 0 (encL cI 0 rtimes2) [] from (Sound.conv (g_r01_times_ok N b ([lo]:List Int) rtimes2 hr4) (.cons (Alike.refl _) (.cons (Alike.sl rfl (fun zq hzq=>get_chunk cI 0 ([lo]:List Int) zq hzq)) .nil)))) (pc (z1 1) (pc (g_r01_minus_ok N rtrim rtimes2 rminus hr5) pn))) ?_
    exact rnW hE 1 [] (kp [0,1,6,7,8]) (kq [0]) 1 pn (g_r01_over_J3_ok N _ _ _ _ _ _ hK_g_r01_over_L1 _ _ h E hE)
   ·exact rnW hE 2 [] (kp [0,1,6,7,8]) (kq [0]) 1 pn (g_r01_over_J3_ok N _ _ _ _ _ _ hK_g_r01_over_L1 _ _ h E hE)
theorem g_r01_over_L1_ok (N:Nat) (a:List Int) (b:List Int) (fuel:Nat):g_r01_over_L1_H N a b (g_r01_over_L1 N a b fuel):=by
 induction fuel with
 | zero=>intro _ _ _ r h;rw [g_r01_over_L1.eq_1] at h;cases h
 | succ fuel ih =>
  intro rest q i r h E hE
  rw [g_r01_over_L1.eq_2] at h
  refine rnR hE 2 [] [] (kp [0,1,6,7,8,19]) (kq [0]) 33 pn ?_
  refine rnC 0 19 h (fun hq2 h=>?_) (fun hq2 h=>?_)
  ·obtain ⟨c2,h⟩:=ifSome h
   obtain ⟨c3,h⟩:=ifSome h
   obtain ⟨rtrim,hr,h⟩:=bsm h
   refine rnR hE 4 [(7,⟨[],true,(encL cI 0 rtrim),[],0,true,none⟩)] [] (kp [0,1,6,7,8]) (kq [0]) 177 (pc c2 (pc (Eq.refl 1) (pc c3 (pc (show ∀ zi,zi < rest.length→AV.oneL ((fun zi=>cI (rest.getD zi 0)) zi)=true from (fun _ _=>rfl)) (pc (show Sd 164 [(.sl (1+rest.length) (fun zi=>((fun zm=>if zm < 1 then (fun zi=>([[(aI (a.getD ((i).toNat) 0))]]:List (List AV)).getD zi []) zm else (fun zi=>cI (rest.getD zi 0)) (zm - 1))) (addz 0 zi)))] [] 0 (encL cI 0 rtrim) [] from (Sound.conv (g_r01_trim_ok N (([(a.getD ((i).toNat) 0)]:List Int) ++ rest) rtrim hr) (.cons (Alike.sl (len_app_raw rfl rfl) (get_app_raw cI 0 ([(a.getD ((i).toNat) 0)]:List Int) rest rfl (fun zq hzq=>get_chunk cI 0 ([(a.getD ((i).toNat) 0)]:List Int) zq hzq) (fun _ _=>rfl))) .nil))) (pc (z1 (1+rest.length)) pn)))))) ?_
   refine rnR hE 1 [] [] (kp [0,1,6,7,8,9,10]) (kq [0]) 209 pn ?_
   exact rnW hE 3 [] (kp [0,1,6,7,8,9,10]) (kq [0]) 1 pn (g_r01_over_L2_ok N _ _ _ _ _ _ ih N _ _ _ h E hE)
  ·obtain ⟨rtrim2,hr6,h⟩:=bsm h
   refine rnR hE 2 [(1,⟨[],true,(encL cI 0 rtrim2),[],0,true,none⟩)] [] (kp [4,5]) [] 113 (pc (g_r01_trim_ok N q rtrim2 hr6) (pc (z1 q.length) pn)) ?_
   obtain rfl:=osI h
   exact rnT hE 0 Tryz.f149 [] (kp [4,5]) [] 113 pn [] pn
theorem g_r01_over_ok (N:Nat) (a:List Int) (b:List Int) (r:(List Int)×(List Int)) (h:g_r01_over N a b=some r):Sd 149 [(encL cI 0 a),(encL cI 0 b)] [] 0 (.tup [(encL cI 0 r.1),(encL cI 0 r.2)]) []:=by
 unfold g_r01_over at h
 refine sor (fu:=Tryz.f149) (c:=C_94 1) (nt:=63) (by kernel_rfl) (by kernel_rfl) (by kernel_rfl) (by kernel_rfl) (fun hm=>rfl) ?_
 intro E hE
 refine rnR hE 1 [] [] (kp [0,1]) [] 32 pn ?_
 refine rnR hE 1 [] [] (kp [0,1,6]) [] 48 pn ?_
 obtain ⟨c,h⟩:=ifSome h
 refine rnR hE 1 [] [] (kp [0,1,6] ++ [(7,.osl ((List.replicate a.length 0:List Int).length))]) [(80,.arr 80 ((List.replicate a.length 0:List Int).length) (fun zi=>cI ((List.replicate a.length 0:List Int).getD zi 0)))] 112 (pc (show 0≤((a.length:Nat):Int) from c.1) (pc (show ((a.length:Nat):Int)≤((a.length:Nat):Int) from (Int.le_refl _)) (pc (show (8:Int) * ((a.length:Nat):Int)≤281474976710656 from c.2.1) (pc (show ((a.length:Nat):Int)≤9223372036854775807 from c.2.2) (pc (show a.length=(List.replicate a.length 0:List Int).length from (List.length_replicate).symm) (pc (show a.length=(List.replicate a.length 0:List Int).length from (List.length_replicate).symm) (pc (show ∀ zi,zi < (List.replicate a.length 0:List Int).length→(fun zi=>cI ((List.replicate a.length 0:List Int).getD zi 0)) zi=(fun _=>[(aI 0)]) zi from (fun zq hzq=>get_rep cI 0 0 a.length zq hzq)) pn))))))) ?_
 refine rnR hE 2 [] [] (kp [0,1,6,7,8]) (kq [80]) 176 pn ?_
 exact rnW hE 2 [] (kp [0,1] ++ [(6,.sl (([]:List Int).length) (fun zi=>cI (([]:List Int).getD zi 0)))] ++ kp [7,8]) [(0,.keep 80)] 1 (pc (Eq.refl 0) pn) (g_r01_over_L1_ok N _ _ N _ _ _ _ h E hE)
noncomputable def C_93 (n:Nat):Code:=cat (bodyOf Tryz.f148) (pth n)
def g_r01_gcd_L1_H (N:Nat) (K:(List Int)→(List Int)→Option ((List Int))):Prop:=∀ (a2:List Int) (b2:List Int) (r:(List Int)),K a2 b2=some r→∀ E,EnvOk E 0→Runs Tryz.prog E 148 19 (SPost E [] (encL cI 0 r)) [.code (C_93 24),.inLoop (C_93 24),.inBlock 0,.code (C_93 7)] ⟨[(0,(encL cI 0 a2)),(1,(encL cI 0 b2))],[],0⟩
theorem g_r01_gcd_L1_ok (N:Nat) (fuel:Nat):g_r01_gcd_L1_H N (g_r01_gcd_L1 N fuel):=by
 induction fuel with
 | zero=>intro _ _ r h;rw [g_r01_gcd_L1.eq_1] at h;cases h
 | succ fuel ih =>
  intro a2 b2 r h E hE
  rw [g_r01_gcd_L1.eq_2] at h
  refine rnR hE 2 [] [] (kp [0,1,9]) [] 48 pn ?_
  refine rnC 0 9 h (fun hq2 h=>?_) (fun hq2 h=>?_)
  ·obtain ⟨rover,hr,h⟩:=bsm h
   refine rnR hE 3 [(2,⟨[],true,(.tup [(encL cI 0 rover.1),(encL cI 0 rover.2)]),[],0,false,none⟩)] [] (kp [1,6]) [] 176 (pc (g_r01_over_ok N a2 b2 rover hr) pn) ?_
   refine rnR hE 0 [] [] (kp [0,1]) [] 240 pn ?_
   exact rnW hE 2 [] (kp [0,1]) [] 0 pn (ih _ _ _ h E hE)
  ·refine rnR hE 2 [] [] (kp [4]) [] 80 pn ?_
   obtain rfl:=osI h
   exact rnT hE 0 Tryz.f148 [] (kp [4]) [] 80 pn [] pn
theorem g_r01_gcd_ok (N:Nat) (a:List Int) (b:List Int) (r:(List Int)) (h:g_r01_gcd N a b=some r):Sd 148 [(encL cI 0 a),(encL cI 0 b)] [] 0 (encL cI 0 r) []:=by
 unfold g_r01_gcd at h
 refine sor (fu:=Tryz.f148) (c:=C_93 1) (nt:=19) (by kernel_rfl) (by kernel_rfl) (by kernel_rfl) (by kernel_rfl) (fun hm=>rfl) ?_
 intro E hE
 refine rnR hE 1 [] [] (kp [0,1]) [] 16 pn ?_
 exact rnW hE 3 [] (kp [0,1]) [] 0 pn (g_r01_gcd_L1_ok N N _ _ _ h E hE)
noncomputable def C_90 (n:Nat):Code:=cat (bodyOf Tryz.f126) (pth n)
theorem g_r01_Over_ok (N:Nat) (a:TInt) (b:TInt) (r:TRat) (h:g_r01_Over N a b=some r):Sd 126 [(.agg (TIc a)),(.agg (TIc b))] [] 0 (.agg (TRc r)) []:=by
 unfold g_r01_Over at h
 refine sor (fu:=Tryz.f126) (c:=C_90 1) (nt:=52) (by kernel_rfl) (by kernel_rfl) (by kernel_rfl) (by kernel_rfl) (fun hm=>rfl) ?_
 intro E hE
 refine rnR hE 1 [] [] (kp [2,3,4]) (kq [0,16,32]) 48 pn ?_
 obtain ⟨rread,hr,h⟩:=bsm h
 obtain ⟨rread2,hr2,h⟩:=bsm h
 refine rnR hE 1 [(2,⟨[],true,(encL cI 0 rread),[],0,false,none⟩),(5,⟨[],true,(encL cI 0 rread2),[],0,false,none⟩)] [] (kp [2,3,4,5,6]) (kq [0,16,32]) 176 (pc o1 (pc (g_r01_read_ok N a.fL rread hr) (pc o1 (pc (g_r01_read_ok N b.fL rread2 hr2) pn)))) ?_
 refine rnR hE 2 [] [] (kp [2,3,4,5,6,20]) (kq [0,16,32]) 224 pn ?_
 refine rnC 0 20 h (fun hq2 h=>?_) (fun hq2 h=>?_)
 ·obtain ⟨rmade,hr3,h⟩:=bsm h
  obtain ⟨rOf,hr4,h⟩:=bsm h
  refine rnR hE 1 [(3,⟨[],true,(.agg (TIc rmade)),[],0,false,none⟩),(4,⟨[],true,(.agg (TIc rOf)),[],0,false,none⟩)] [] (kp [4]) (kq [32]) 336 (pc o1 (pc (g_r01_made_ok N a.fG rread rmade hr3) (pc (g_r01_Of_ok N 1 rOf hr4) (pc o1 pn)))) ?_
  obtain rfl:=osI h
  exact rnT hE 0 Tryz.f126 [] (kp [4]) [(16,.keep 32)] 336 pn [16] (pc o1 pn)
 ·obtain ⟨rgcd,hr5,h⟩:=bsm h
  refine rnR hE 2 [(2,⟨[],true,(encL cI 0 rgcd),[],0,false,none⟩)] [] (kp [2,3,4,5,6,7]) (kq [0,16,32]) 288 (pc (g_r01_gcd_ok N rread rread2 rgcd hr5) pn) ?_
  obtain ⟨rover,hr6,h⟩:=bsm h
  refine rnR hE 1 [(2,⟨[],true,(.tup [(encL cI 0 rover.1),(encL cI 0 rover.2)]),[],0,false,none⟩)] [] (kp [2,3,4,6,7,8]) (kq [0,16,32]) 416 (pc (g_r01_over_ok N rread rgcd rover hr6) pn) ?_
  obtain ⟨rover2,hr7,h⟩:=bsm h
  refine rnR hE 1 [(2,⟨[],true,(.tup [(encL cI 0 rover2.1),(encL cI 0 rover2.2)]),[],0,false,none⟩)] [] (kp [2,3,4,8,10]) (kq [0,16,32]) 544 (pc (g_r01_over_ok N rread2 rgcd rover2 hr7) pn) ?_
  obtain ⟨rmade2,hr8,h⟩:=bsm h
  obtain ⟨rmade3,hr9,h⟩:=bsm h
  refine rnR hE 1 [(6,⟨[],true,(.agg (TIc rmade2)),[],0,false,none⟩),(8,⟨[],true,(.agg (TIc rmade3)),[],0,false,none⟩)] [] (kp [4]) (kq [32]) 720 (pc o1 (pc o1 (pc (g_r01_made_ok N (!(a.fG == b.fG)) rover.1 rmade2 hr8) (pc (g_r01_made_ok N false rover2.1 rmade3 hr9) (pc o1 pn))))) ?_
  obtain rfl:=osI h
  exact rnT hE 0 Tryz.f126 [] (kp [4]) [(16,.keep 32)] 720 pn [16] (pc o1 pn)
noncomputable def C_89 (n:Nat):Code:=cat (bodyOf Tryz.f125) (pth n)
theorem g_r01_NormRat_ok (N:Nat) (x:TRat) (r:TRat) (h:g_r01_NormRat N x=some r):Sd 125 [(.agg (TRc x))] [] 0 (.agg (TRc r)) []:=by
 unfold g_r01_NormRat at h
 refine sor (fu:=Tryz.f125) (c:=C_89 1) (nt:=8) (by kernel_rfl) (by kernel_rfl) (by kernel_rfl) (by kernel_rfl) (fun hm=>rfl) ?_
 intro E hE
 refine rnR hE 1 [] [] (kp [1,2]) (kq [0,16]) 32 pn ?_
 obtain ⟨rOver,hr,h⟩:=bsm h
 refine rnR hE 1 [(4,⟨[],true,(.agg (TRc rOver)),[],0,false,none⟩)] [] (kp [2]) (kq [16]) 128 (pc o1 (pc o1 (pc (g_r01_Over_ok N x.fN x.fD rOver hr) (pc o1 pn)))) ?_
 obtain rfl:=osI h
 exact rnT hE 0 Tryz.f125 [] (kp [2]) (kq [16]) 128 pn [16] (pc o1 pn)
noncomputable def C_99 (n:Nat):Code:=cat (bodyOf Tryz.f127) (pth n)
theorem g_r01_Mul_ok (N:Nat) (a:TInt) (b:TInt) (r:TInt) (h:g_r01_Mul N a b=some r):Sd 127 [(.agg (TIc a)),(.agg (TIc b))] [] 0 (.agg (TIc r)) []:=by
 unfold g_r01_Mul at h
 refine sor (fu:=Tryz.f127) (c:=C_99 1) (nt:=18) (by kernel_rfl) (by kernel_rfl) (by kernel_rfl) (by kernel_rfl) (fun hm=>rfl) ?_
 intro E hE
 refine rnR hE 1 [] [] (kp [2,3,4]) (kq [0,16,32]) 48 pn ?_
 obtain ⟨rread,hr,h⟩:=bsm h
 obtain ⟨rread2,hr2,h⟩:=bsm h
 obtain ⟨rtimes,hr3,h⟩:=bsm h
 obtain ⟨rmade,hr4,h⟩:=bsm h
 refine rnR hE 1 [(7,⟨[],true,(encL cI 0 rread),[],0,false,none⟩),(10,⟨[],true,(encL cI 0 rread2),[],0,false,none⟩),(11,⟨[],true,(encL cI 0 rtimes),[],0,false,none⟩),(12,⟨[],true,(.agg (TIc rmade)),[],0,false,none⟩)] [] (kp [4]) (kq [32]) 272 (pc o1 (pc o1 (pc o1 (pc (g_r01_read_ok N a.fL rread hr) (pc o1 (pc (g_r01_read_ok N b.fL rread2 hr2) (pc (g_r01_times_ok N rread rread2 rtimes hr3) (pc (g_r01_made_ok N (!(a.fG == b.fG)) rtimes rmade hr4) (pc o1 pn))))))))) ?_
 obtain rfl:=osI h
 exact rnT hE 0 Tryz.f127 [] (kp [4]) [(16,.keep 32)] 272 pn [16] (pc o1 pn)
noncomputable def C_101 (n:Nat):Code:=cat (bodyOf Tryz.f160) (pth n)
def g_r01_plus_L1_H (N:Nat) (a:List Int) (b:List Int) (K:(List Int)→Int→Int→Option ((List Int))):Prop:=∀ (out:List Int) (carry:Int) (i:Int) (r:(List Int)),K out carry i=some r→∀ E,EnvOk E 0→Runs Tryz.prog E 160 43 (SPost E [] (encL cI 0 r)) [.code (C_101 244),.inLoop (C_101 244),.inBlock 0,.code (C_101 31)] ⟨[(0,(encL cI 0 a)),(1,(encL cI 0 b)),(5,(.os 0 0 out.length)),(6,(aI carry)),(7,(aI i))],[(0,aO 1 cI 0 out)],1⟩
theorem g_r01_plus_L1_ok (N:Nat) (a:List Int) (b:List Int) (fuel:Nat):g_r01_plus_L1_H N a b (g_r01_plus_L1 N a b fuel):=by
 induction fuel with
 | zero=>intro _ _ _ r h;rw [g_r01_plus_L1.eq_1] at h;cases h
 | succ fuel ih =>
  intro out carry i r h E hE
  rw [g_r01_plus_L1.eq_2] at h
  refine rnR hE 2 [] [] (kp [0,1,5,6,7,22]) (kq [0]) 225 (pc (fun hg:(!(decide (i < ((a.length:Nat):Int))))=true=>(pc hg pn)) (pc (fun hg:(!(decide (i < ((a.length:Nat):Int))))=true=>(pc hg (pc hg pn))) (pc (fun hq:(!(decide (i < ((a.length:Nat):Int))))=true=>(pc hq pn)) (pc (fun hg:(!(cond (decide (i < ((a.length:Nat):Int))) true (decide (i < ((b.length:Nat):Int)))))=true=>(pc hg pn)) (pc (fun hq:(!(cond (decide (i < ((a.length:Nat):Int))) true (decide (i < ((b.length:Nat):Int)))))=true=>(pc hq pn)) pn))))) ?_
  refine rnC 0 22 h (fun hq2 h=>?_) (fun hq2 h=>?_)
  ·obtain ⟨rdigit,hr,h⟩:=bsm h
   obtain ⟨rdigit2,hr2,h⟩:=bsm h
   refine rnR hE 4 [(2,⟨[],true,(aI rdigit),[],0,false,none⟩),(5,⟨[],true,(aI rdigit2),[],0,false,none⟩)] [] (kp [0,1,5,7,8]) (kq [0]) 385 (pc (g_r01_digit_ok N a i rdigit hr) (pc (g_r01_digit_ok N b i rdigit2 hr2) pn)) ?_
   obtain ⟨c,h⟩:=ifSome h
   refine rnR hE 1 [] [] (kp [0,1] ++ [(5,.osl ((out ++ ([((w64 ((w64 (rdigit+rdigit2))+carry)).tmod 65536)]:List Int)).length))] ++ kp [7,8]) [(449,.arr 449 ((out ++ ([((w64 ((w64 (rdigit+rdigit2))+carry)).tmod 65536)]:List Int)).length) (fun zi=>cI ((out ++ ([((w64 ((w64 (rdigit+rdigit2))+carry)).tmod 65536)]:List Int)).getD zi 0)))] 481 (pc (show (65536:Int)≠0 by decide) (pc (Eq.refl out.length) (pc c (pc (z1 1) (pc (show ∀ zi,zi < 1→AV.oneL ((fun zi=>([[(aI ((w64 ((w64 (rdigit+rdigit2))+carry)).tmod 65536))]]:List (List AV)).getD zi []) (addz 0 zi))=true from (oneN rfl)) (pc (show (out.length+1)=(out ++ ([((w64 ((w64 (rdigit+rdigit2))+carry)).tmod 65536)]:List Int)).length from (len_app_raw rfl rfl)) (pc (show out.length+1=(out ++ ([((w64 ((w64 (rdigit+rdigit2))+carry)).tmod 65536)]:List Int)).length from (len_app_raw rfl rfl)) (pc (show ∀ zi,zi < (out ++ ([((w64 ((w64 (rdigit+rdigit2))+carry)).tmod 65536)]:List Int)).length→(fun zi=>cI ((out ++ ([((w64 ((w64 (rdigit+rdigit2))+carry)).tmod 65536)]:List Int)).getD zi 0)) zi=((fun zm=>if zm < out.length then (fun zi=>cI (out.getD zi 0)) zm else (fun zi=>([[(aI ((w64 ((w64 (rdigit+rdigit2))+carry)).tmod 65536))]]:List (List AV)).getD zi []) (zm - out.length))) zi from (get_app_raw cI 0 out ([((w64 ((w64 (rdigit+rdigit2))+carry)).tmod 65536)]:List Int) rfl (fun _ _=>rfl) (fun zq hzq=>get_chunk cI 0 ([((w64 ((w64 (rdigit+rdigit2))+carry)).tmod 65536)]:List Int) zq hzq))) pn)))))))) ?_
   refine rnR hE 0 [] [] (kp [0,1,5,6,7]) (kq [449]) 529 (pc (show (65536:Int)≠0 by decide) pn) ?_
   refine rnR hE 1 [] [] (kp [0,1,5,6,7]) (kq [449]) 577 pn ?_
   exact rnW hE 1 [] (kp [0,1,5,6,7]) [(0,.keep 449)] 1 pn (ih _ _ _ _ h E hE)
  ·obtain ⟨rtrim,hr3,h⟩:=bsm h
   refine rnR hE 2 [(1,⟨[],true,(encL cI 0 rtrim),[],0,true,none⟩)] [] (kp [4]) [] 273 (pc (g_r01_trim_ok N out rtrim hr3) (pc (z1 out.length) pn)) ?_
   obtain rfl:=osI h
   exact rnT hE 0 Tryz.f160 [] (kp [4]) [] 273 pn [] pn
theorem g_r01_plus_ok (N:Nat) (a:List Int) (b:List Int) (r:(List Int)) (h:g_r01_plus N a b=some r):Sd 160 [(encL cI 0 a),(encL cI 0 b)] [] 0 (encL cI 0 r) []:=by
 unfold g_r01_plus at h
 refine sor (fu:=Tryz.f160) (c:=C_101 1) (nt:=43) (by kernel_rfl) (by kernel_rfl) (by kernel_rfl) (by kernel_rfl) (fun hm=>rfl) ?_
 intro E hE
 refine rnR hE 1 [] [] (kp [0,1]) [] 16 pn ?_
 refine rnR hE 1 [] [] (kp [0,1,5]) [] 32 pn ?_
 refine rnR hE 1 [] [] (kp [0,1,5,6]) [] 48 pn ?_
 refine rnR hE 2 [] [] (kp [0,1,5,6,7]) [] 64 pn ?_
 exact rnW hE 2 [] (kp [0,1] ++ [(5,.nilos 0)] ++ kp [6,7]) [(0,.nil 1 (fun zi=>cI (([]:List Int).getD zi 0)))] 1 pn (g_r01_plus_L1_ok N _ _ N _ _ _ _ h E hE)
noncomputable def C_100 (n:Nat):Code:=cat (bodyOf Tryz.f143) (pth n)
theorem g_r01_Add_ok (N:Nat) (a:TInt) (b:TInt) (r:TInt) (h:g_r01_Add N a b=some r):Sd 143 [(.agg (TIc a)),(.agg (TIc b))] [] 0 (.agg (TIc r)) []:=by
 unfold g_r01_Add at h
 refine sor (fu:=Tryz.f143) (c:=C_100 1) (nt:=40) (by kernel_rfl) (by kernel_rfl) (by kernel_rfl) (by kernel_rfl) (fun hm=>rfl) ?_
 intro E hE
 refine rnR hE 1 [] [] (kp [2,3,4]) (kq [0,16,32]) 48 pn ?_
 obtain ⟨rread,hr,h⟩:=bsm h
 obtain ⟨rread2,hr2,h⟩:=bsm h
 refine rnR hE 1 [(2,⟨[],true,(encL cI 0 rread),[],0,false,none⟩),(5,⟨[],true,(encL cI 0 rread2),[],0,false,none⟩)] [] (kp [2,3,4,5,6]) (kq [0,16,32]) 176 (pc o1 (pc (g_r01_read_ok N a.fL rread hr) (pc o1 (pc (g_r01_read_ok N b.fL rread2 hr2) pn)))) ?_
 refine rnR hE 2 [] [] (kp [2,3,4,5,6,17]) (kq [0,16,32]) 256 (pc o1 (pc o1 pn)) ?_
 refine rnC 0 17 h (fun hq2 h=>?_) (fun hq2 h=>?_)
 ·obtain ⟨rplus,hr3,h⟩:=bsm h
  obtain ⟨rmade,hr4,h⟩:=bsm h
  refine rnR hE 1 [(4,⟨[],true,(encL cI 0 rplus),[],0,false,none⟩),(5,⟨[],true,(.agg (TIc rmade)),[],0,false,none⟩)] [] (kp [4]) (kq [32]) 368 (pc o1 (pc (g_r01_plus_ok N rread rread2 rplus hr3) (pc (g_r01_made_ok N a.fG rplus rmade hr4) (pc o1 pn)))) ?_
  obtain rfl:=osI h
  exact rnT hE 0 Tryz.f143 [] (kp [4]) [(16,.keep 32)] 368 pn [16] (pc o1 pn)
 ·obtain ⟨rcompare,hr5,h⟩:=bsm h
  refine rnR hE 3 [(2,⟨[],true,(aI rcompare),[],0,false,none⟩)] [] (kp [2,3,4,5,6,27]) (kq [0,16,32]) 320 (pc (g_r01_compare_ok N rread rread2 rcompare hr5) pn) ?_
  refine rnC 0 27 h (fun hq3 h=>?_) (fun hq3 h=>?_)
  ·obtain ⟨rminus,hr6,h⟩:=bsm h
   obtain ⟨rmade2,hr7,h⟩:=bsm h
   refine rnR hE 1 [(4,⟨[],true,(encL cI 0 rminus),[],0,false,none⟩),(5,⟨[],true,(.agg (TIc rmade2)),[],0,false,none⟩)] [] (kp [4]) (kq [32]) 432 (pc o1 (pc (g_r01_minus_ok N rread rread2 rminus hr6) (pc (g_r01_made_ok N a.fG rminus rmade2 hr7) (pc o1 pn)))) ?_
   obtain rfl:=osI h
   exact rnT hE 0 Tryz.f143 [] (kp [4]) [(16,.keep 32)] 432 pn [16] (pc o1 pn)
  ·obtain ⟨rminus2,hr8,h⟩:=bsm h
   obtain ⟨rmade3,hr9,h⟩:=bsm h
   refine rnR hE 2 [(4,⟨[],true,(encL cI 0 rminus2),[],0,false,none⟩),(5,⟨[],true,(.agg (TIc rmade3)),[],0,false,none⟩)] [] (kp [4]) (kq [32]) 432 (pc o1 (pc (g_r01_minus_ok N rread2 rread rminus2 hr8) (pc (g_r01_made_ok N b.fG rminus2 rmade3 hr9) (pc o1 pn)))) ?_
   obtain rfl:=osI h
   exact rnT hE 0 Tryz.f143 [] (kp [4]) [(16,.keep 32)] 432 pn [16] (pc o1 pn)
noncomputable def C_88 (n:Nat):Code:=cat (bodyOf Tryz.f117) (pth n)
theorem g_r01_AddRat_ok (N:Nat) (x:TRat) (y:TRat) (r:TRat) (h:g_r01_AddRat N x y=some r):Sd 117 [(.agg (TRc x)),(.agg (TRc y))] [] 0 (.agg (TRc r)) []:=by
 unfold g_r01_AddRat at h
 refine sor (fu:=Tryz.f117) (c:=C_88 1) (nt:=28) (by kernel_rfl) (by kernel_rfl) (by kernel_rfl) (by kernel_rfl) (fun hm=>rfl) ?_
 intro E hE
 refine rnR hE 1 [] [] (kp [2,3,4]) (kq [0,16,32]) 48 pn ?_
 obtain ⟨rNormRat,hr,h⟩:=bsm h
 obtain ⟨rNormRat2,hr2,h⟩:=bsm h
 refine rnR hE 1 [(1,⟨[],true,(.agg (TRc rNormRat)),[],0,false,none⟩),(3,⟨[],true,(.agg (TRc rNormRat2)),[],0,false,none⟩)] [] (kp [4,5,6]) (kq [32,112,128]) 176 (pc o1 (pc (g_r01_NormRat_ok N x rNormRat hr) (pc o1 (pc (g_r01_NormRat_ok N y rNormRat2 hr2) (pc o1 (pc o1 pn)))))) ?_
 obtain ⟨rMul,hr3,h⟩:=bsm h
 obtain ⟨rMul2,hr4,h⟩:=bsm h
 obtain ⟨rAdd,hr5,h⟩:=bsm h
 obtain ⟨rMul3,hr6,h⟩:=bsm h
 obtain ⟨rOver,hr7,h⟩:=bsm h
 refine rnR hE 1 [(4,⟨[],true,(.agg (TIc rMul)),[],0,false,none⟩),(9,⟨[],true,(.agg (TIc rMul2)),[],0,false,none⟩),(10,⟨[],true,(.agg (TIc rAdd)),[],0,false,none⟩),(15,⟨[],true,(.agg (TIc rMul3)),[],0,false,none⟩),(16,⟨[],true,(.agg (TRc rOver)),[],0,false,none⟩)] [] (kp [4]) (kq [32]) 464 (pc o1 (pc o1 (pc (g_r01_Mul_ok N rNormRat.fN rNormRat2.fD rMul hr3) (pc o1 (pc o1 (pc (g_r01_Mul_ok N rNormRat2.fN rNormRat.fD rMul2 hr4) (pc (g_r01_Add_ok N rMul rMul2 rAdd hr5) (pc o1 (pc o1 (pc (g_r01_Mul_ok N rNormRat.fD rNormRat2.fD rMul3 hr6) (pc (g_r01_Over_ok N rAdd rMul3 rOver hr7) (pc o1 pn)))))))))))) ?_
 obtain rfl:=osI h
 exact rnT hE 0 Tryz.f117 [] (kp [4]) [(16,.keep 32)] 464 pn [16] (pc o1 pn)
noncomputable def C_103 (n:Nat):Code:=cat (bodyOf Tryz.f83) (pth n)
theorem g_r01_MulRat_ok (N:Nat) (x:TRat) (y:TRat) (r:TRat) (h:g_r01_MulRat N x y=some r):Sd 83 [(.agg (TRc x)),(.agg (TRc y))] [] 0 (.agg (TRc r)) []:=by
 unfold g_r01_MulRat at h
 refine sor (fu:=Tryz.f83) (c:=C_103 1) (nt:=22) (by kernel_rfl) (by kernel_rfl) (by kernel_rfl) (by kernel_rfl) (fun hm=>rfl) ?_
 intro E hE
 refine rnR hE 1 [] [] (kp [2,3,4]) (kq [0,16,32]) 48 pn ?_
 obtain ⟨rNormRat,hr,h⟩:=bsm h
 obtain ⟨rNormRat2,hr2,h⟩:=bsm h
 refine rnR hE 1 [(1,⟨[],true,(.agg (TRc rNormRat)),[],0,false,none⟩),(3,⟨[],true,(.agg (TRc rNormRat2)),[],0,false,none⟩)] [] (kp [4,5,6]) (kq [32,112,128]) 176 (pc o1 (pc (g_r01_NormRat_ok N x rNormRat hr) (pc o1 (pc (g_r01_NormRat_ok N y rNormRat2 hr2) (pc o1 (pc o1 pn)))))) ?_
 obtain ⟨rMul,hr3,h⟩:=bsm h
 obtain ⟨rMul2,hr4,h⟩:=bsm h
 obtain ⟨rOver,hr5,h⟩:=bsm h
 refine rnR hE 1 [(4,⟨[],true,(.agg (TIc rMul)),[],0,false,none⟩),(9,⟨[],true,(.agg (TIc rMul2)),[],0,false,none⟩),(10,⟨[],true,(.agg (TRc rOver)),[],0,false,none⟩)] [] (kp [4]) (kq [32]) 368 (pc o1 (pc o1 (pc (g_r01_Mul_ok N rNormRat.fN rNormRat2.fN rMul hr3) (pc o1 (pc o1 (pc (g_r01_Mul_ok N rNormRat.fD rNormRat2.fD rMul2 hr4) (pc (g_r01_Over_ok N rMul rMul2 rOver hr5) (pc o1 pn)))))))) ?_
 obtain rfl:=osI h
 exact rnT hE 0 Tryz.f83 [] (kp [4]) [(16,.keep 32)] 368 pn [16] (pc o1 pn)
noncomputable def C_102 (n:Nat):Code:=cat (bodyOf Tryz.f118) (pth n)
def g_r05_product_L1_H (N:Nat) (l:List Int) (K:TRat→Int→Option (TRat)):Prop:=∀ (out:TRat) (i:Int) (r:TRat),K out i=some r→∀ E,EnvOk E 0→Runs Tryz.prog E 118 20 (SPost E [] (.agg (TRc r))) [.code (C_102 116),.inLoop (C_102 116),.inBlock 0,.code (C_102 15)] ⟨[(0,(encL cI 0 l)),(2,(.op 0 0 0)),(3,(.op 1 0 0)),(4,(aI i))],[(0,vO 4 [(aB false),.nil,(aB false),.nil]),(1,vO 4 (TRc out))],2⟩
theorem g_r05_product_L1_ok (N:Nat) (l:List Int) (fuel:Nat):g_r05_product_L1_H N l (g_r05_product_L1 N l fuel):=by
 induction fuel with
 | zero=>intro _ _ r h;rw [g_r05_product_L1.eq_1] at h;cases h
 | succ fuel ih =>
  intro out i r h E hE
  rw [g_r05_product_L1.eq_2] at h
  refine rnR hE 2 [] [] (kp [0,2,3,4,9]) (kq [0,1]) 66 pn ?_
  refine rnC 0 9 h (fun hq2 h=>?_) (fun hq2 h=>?_)
  ·obtain ⟨c,h⟩:=ifSome h
   obtain ⟨rQ2,hr2,h⟩:=bsm h
   obtain ⟨rMulRat,hr3,h⟩:=bsm h
   refine rnR hE 3 [(5,⟨[],true,(.agg (TRc rQ2)),[],0,false,none⟩),(6,⟨[],true,(.agg (TRc rMulRat)),[],0,false,none⟩)] [] (kp [0,2,3,4]) (kq [0,1]) 194 (pc o1 (pc c (pc (g_r01_Q_ok N (l.getD ((i).toNat) 0) rQ2 hr2) (pc (g_r01_MulRat_ok N out rQ2 rMulRat hr3) (pc o1 pn))))) ?_
   refine rnR hE 1 [] [] (kp [0,2,3,4]) (kq [0,1]) 242 pn ?_
   exact rnW hE 1 [] (kp [0,2,3,4]) (kq [0,1]) 2 pn (ih _ _ _ h E hE)
  ·refine rnR hE 2 [] [] (kp [2]) (kq [0]) 98 (pc o1 (pc o1 pn)) ?_
   obtain rfl:=osI h
   exact rnT hE 0 Tryz.f118 [] (kp [2]) [(16,.keep 0)] 98 pn [16] (pc o1 pn)
theorem g_r05_product_ok (N:Nat) (l:List Int) (r:TRat) (h:g_r05_product N l=some r):Sd 118 [(encL cI 0 l)] [] 0 (.agg (TRc r)) []:=by
 unfold g_r05_product at h
 refine sor (fu:=Tryz.f118) (c:=C_102 1) (nt:=20) (by kernel_rfl) (by kernel_rfl) (by kernel_rfl) (by kernel_rfl) (fun hm=>rfl) ?_
 intro E hE
 refine rnR hE 1 [] [] (kp [0,2]) (kq [0]) 16 pn ?_
 obtain ⟨rQ,hr,h⟩:=bsm h
 refine rnR hE 1 [(0,⟨[],true,(.agg (TRc rQ)),[],0,false,none⟩)] [] (kp [0,2,3]) (kq [0,32]) 64 (pc (g_r01_Q_ok N 1 rQ hr) (pc o1 pn)) ?_
 refine rnR hE 2 [] [] (kp [0,2,3,4]) (kq [0,32]) 80 pn ?_
 exact rnW hE 2 [] (kp [0,2,3,4]) (kq [0] ++ [(1,.keep 32)]) 2 pn (g_r05_product_L1_ok N _ N _ _ _ h E hE)
noncomputable def C_104 (n:Nat):Code:=cat (bodyOf Tryz.f119) (pth n)
theorem g_r05_size_ok (N:Nat) (n:Int) (r:Int) (h:g_r05_size N n=some r):Sd 119 [(aI n)] [] 0 (aI r) []:=by
 unfold g_r05_size at h
 refine sor (fu:=Tryz.f119) (c:=C_104 1) (nt:=8) (by kernel_rfl) (by kernel_rfl) (by kernel_rfl) (by kernel_rfl) (fun hm=>rfl) ?_
 intro E hE
 refine rnR hE 1 [] [] (kp [0]) [] 16 pn ?_
 refine rnR hE 2 [] [] (kp [0,4]) [] 48 pn ?_
 refine rnC 0 4 h (fun hq2 h=>?_) (fun hq2 h=>?_)
 ·refine rnR hE 1 [] [] (kp [2]) [] 96 pn ?_
  obtain rfl:=osI h
  exact rnT hE 0 Tryz.f119 [] (kp [2]) [] 96 pn [] pn
 ·refine rnR hE 2 [] [] (kp [2]) [] 80 pn ?_
  obtain rfl:=osI h
  exact rnT hE 0 Tryz.f119 [] (kp [2]) [] 80 pn [] pn
noncomputable def C_105 (n:Nat):Code:=cat (bodyOf Tryz.f120) (pth n)
theorem g_r01_QuoRat_ok (N:Nat) (x:TRat) (y:TRat) (r:TRat) (h:g_r01_QuoRat N x y=some r):Sd 120 [(.agg (TRc x)),(.agg (TRc y))] [] 0 (.agg (TRc r)) []:=by
 unfold g_r01_QuoRat at h
 refine sor (fu:=Tryz.f120) (c:=C_105 1) (nt:=22) (by kernel_rfl) (by kernel_rfl) (by kernel_rfl) (by kernel_rfl) (fun hm=>rfl) ?_
 intro E hE
 refine rnR hE 1 [] [] (kp [2,3,4]) (kq [0,16,32]) 48 pn ?_
 obtain ⟨rNormRat,hr,h⟩:=bsm h
 obtain ⟨rNormRat2,hr2,h⟩:=bsm h
 refine rnR hE 1 [(1,⟨[],true,(.agg (TRc rNormRat)),[],0,false,none⟩),(3,⟨[],true,(.agg (TRc rNormRat2)),[],0,false,none⟩)] [] (kp [4,5,6]) (kq [32,112,128]) 176 (pc o1 (pc (g_r01_NormRat_ok N x rNormRat hr) (pc o1 (pc (g_r01_NormRat_ok N y rNormRat2 hr2) (pc o1 (pc o1 pn)))))) ?_
 obtain ⟨rMul,hr3,h⟩:=bsm h
 obtain ⟨rMul2,hr4,h⟩:=bsm h
 obtain ⟨rOver,hr5,h⟩:=bsm h
 refine rnR hE 1 [(4,⟨[],true,(.agg (TIc rMul)),[],0,false,none⟩),(9,⟨[],true,(.agg (TIc rMul2)),[],0,false,none⟩),(10,⟨[],true,(.agg (TRc rOver)),[],0,false,none⟩)] [] (kp [4]) (kq [32]) 368 (pc o1 (pc o1 (pc (g_r01_Mul_ok N rNormRat.fN rNormRat2.fD rMul hr3) (pc o1 (pc o1 (pc (g_r01_Mul_ok N rNormRat.fD rNormRat2.fN rMul2 hr4) (pc (g_r01_Over_ok N rMul rMul2 rOver hr5) (pc o1 pn)))))))) ?_
 obtain rfl:=osI h
 exact rnT hE 0 Tryz.f120 [] (kp [4]) [(16,.keep 32)] 368 pn [16] (pc o1 pn)
noncomputable def C_108 (n:Nat):Code:=cat (bodyOf Tryz.f145) (pth n)
theorem g_r01_Neg_ok (N:Nat) (a:TInt) (r:TInt) (h:g_r01_Neg N a=some r):Sd 145 [(.agg (TIc a))] [] 0 (.agg (TIc r)) []:=by
 unfold g_r01_Neg at h
 refine sor (fu:=Tryz.f145) (c:=C_108 1) (nt:=10) (by kernel_rfl) (by kernel_rfl) (by kernel_rfl) (by kernel_rfl) (fun hm=>rfl) ?_
 intro E hE
 refine rnR hE 1 [] [] (kp [1,2]) (kq [0,16]) 32 pn ?_
 obtain ⟨rread,hr,h⟩:=bsm h
 obtain ⟨rmade,hr2,h⟩:=bsm h
 refine rnR hE 1 [(5,⟨[],true,(encL cI 0 rread),[],0,false,none⟩),(6,⟨[],true,(.agg (TIc rmade)),[],0,false,none⟩)] [] (kp [2]) (kq [16]) 160 (pc o1 (pc o1 (pc (g_r01_read_ok N a.fL rread hr) (pc (g_r01_made_ok N (!a.fG) rread rmade hr2) (pc o1 pn))))) ?_
 obtain rfl:=osI h
 exact rnT hE 0 Tryz.f145 [] (kp [2]) (kq [16]) 160 pn [16] (pc o1 pn)
noncomputable def C_107 (n:Nat):Code:=cat (bodyOf Tryz.f122) (pth n)
theorem g_r01_NegRat_ok (N:Nat) (x:TRat) (r:TRat) (h:g_r01_NegRat N x=some r):Sd 122 [(.agg (TRc x))] [] 0 (.agg (TRc r)) []:=by
 unfold g_r01_NegRat at h
 refine sor (fu:=Tryz.f122) (c:=C_107 1) (nt:=12) (by kernel_rfl) (by kernel_rfl) (by kernel_rfl) (by kernel_rfl) (fun hm=>rfl) ?_
 intro E hE
 refine rnR hE 1 [] [] (kp [1,2]) (kq [0,16]) 32 pn ?_
 obtain ⟨rNormRat,hr,h⟩:=bsm h
 refine rnR hE 1 [(1,⟨[],true,(.agg (TRc rNormRat)),[],0,false,none⟩)] [] (kp [2,3]) (kq [16,64]) 96 (pc o1 (pc (g_r01_NormRat_ok N x rNormRat hr) (pc o1 pn))) ?_
 obtain ⟨rNeg,hr2,h⟩:=bsm h
 refine rnR hE 1 [(2,⟨[],true,(.agg (TIc rNeg)),[],0,false,none⟩)] [] (kp [2]) (kq [16]) 208 (pc o1 (pc (g_r01_Neg_ok N rNormRat.fN rNeg hr2) (pc o1 (pc o1 pn)))) ?_
 obtain rfl:=osI h
 exact rnT hE 0 Tryz.f122 [] (kp [2]) (kq [16]) 208 pn [16] (pc o1 pn)
noncomputable def C_106 (n:Nat):Code:=cat (bodyOf Tryz.f81) (pth n)
theorem g_r01_SubRat_ok (N:Nat) (x:TRat) (y:TRat) (r:TRat) (h:g_r01_SubRat N x y=some r):Sd 81 [(.agg (TRc x)),(.agg (TRc y))] [] 0 (.agg (TRc r)) []:=by
 unfold g_r01_SubRat at h
 refine sor (fu:=Tryz.f81) (c:=C_106 1) (nt:=9) (by kernel_rfl) (by kernel_rfl) (by kernel_rfl) (by kernel_rfl) (fun hm=>rfl) ?_
 intro E hE
 refine rnR hE 1 [] [] (kp [2,3,4]) (kq [0,16,32]) 48 pn ?_
 obtain ⟨rNegRat,hr,h⟩:=bsm h
 obtain ⟨rAddRat,hr2,h⟩:=bsm h
 refine rnR hE 1 [(2,⟨[],true,(.agg (TRc rNegRat)),[],0,false,none⟩),(3,⟨[],true,(.agg (TRc rAddRat)),[],0,false,none⟩)] [] (kp [4]) (kq [32]) 128 (pc o1 (pc o1 (pc (g_r01_NegRat_ok N y rNegRat hr) (pc (g_r01_AddRat_ok N x rNegRat rAddRat hr2) (pc o1 pn))))) ?_
 obtain rfl:=osI h
 exact rnT hE 0 Tryz.f81 [] (kp [4]) [(16,.keep 32)] 128 pn [16] (pc o1 pn)
noncomputable def C_83 (n:Nat):Code:=cat (bodyOf Tryz.f71) (pth n)
def g_r05_Float_L1_H (N:Nat) (p:TPn) (rloads:(List TPm)) (K:TRat→TRat→TRat→TRat→Int→Option (TPose)):Prop:=∀ (mass:TRat) (trim:TRat) (heel:TRat) (ends:TRat) (i:Int) (r:TPose),K mass trim heel ends i=some r→∀ E,EnvOk E 0→Runs Tryz.prog E 71 132 (SPost E [] (.agg (TPose.cells r))) [.code (C_83 244),.inLoop (C_83 244),.inBlock 0,.code (C_83 31)] ⟨[(2,(.op 0 0 0)),(4,(.op 1 0 0)),(5,(.op 2 0 0)),(6,(.op 3 0 0)),(7,(.op 4 0 0)),(8,(.op 5 0 0)),(9,(encL TPm.cells TPm.d rloads)),(10,(aI i))],[(0,vO 5 (TPn.cells p)),(1,vO 16 [(aB false),.nil,(aB false),.nil,(aB false),.nil,(aB false),.nil,(aB false),.nil,(aB false),.nil,(aB false),.nil,(aB false),.nil]),(2,vO 4 (TRc mass)),(3,vO 4 (TRc trim)),(4,vO 4 (TRc heel)),(5,vO 4 (TRc ends))],6⟩
theorem g_r05_Float_L1_ok (N:Nat) (p:TPn) (rloads:(List TPm)) (fuel:Nat):g_r05_Float_L1_H N p rloads (g_r05_Float_L1 N p rloads fuel):=by
 induction fuel with
 | zero=>intro _ _ _ _ _ r h;rw [g_r05_Float_L1.eq_1] at h;cases h
 | succ fuel ih =>
  intro mass trim heel ends i r h E hE
  rw [g_r05_Float_L1.eq_2] at h
  refine rnR hE 2 [] [] (kp [2,4,5,6,7,8,9,10,26]) (kq [0,1,2,3,4,5]) 70 pn ?_
  refine rnC 0 26 h (fun hq2 h=>?_) (fun hq2 h=>?_)
  ·obtain ⟨c,h⟩:=ifSome h
   obtain ⟨rQ5,hr6,h⟩:=bsm h
   obtain ⟨rAddRat,hr7,h⟩:=bsm h
   refine rnR hE 4 [(6,⟨[],true,(.agg (TRc rQ5)),[],0,false,none⟩),(7,⟨[],true,(.agg (TRc rAddRat)),[],0,false,none⟩)] [] (kp [2,4,5,6,7,8,9,10]) (kq [0,1,2,3,4,5]) 214 (pc o1 (pc c (pc (g_r01_Q_ok N ((rloads.getD ((i).toNat) TPm.d).fMa) rQ5 hr6) (pc (g_r01_AddRat_ok N mass rQ5 rAddRat hr7) (pc o1 pn))))) ?_
   obtain ⟨rproduct,hr8,h⟩:=bsm h
   obtain ⟨rAddRat2,hr9,h⟩:=bsm h
   refine rnR hE 1 [(12,⟨[],true,(.agg (TRc rproduct)),[],0,true,none⟩),(13,⟨[],true,(.agg (TRc rAddRat2)),[],0,false,none⟩)] [] (kp [2,4,5,6,7,8,9,10]) (kq [0,1,2,3,4,5]) 454 (pc o1 (pc c (pc c (pc (show Sd 118 [(.sl 2 (fun zi=>(fun zi=>([[(aI ((rloads.getD ((i).toNat) TPm.d).fMa))],[(aI ((rloads.getD ((i).toNat) TPm.d).f_X))]]:List (List AV)).getD zi []) (addz 0 zi)))] [] 0 (.agg (TRc rproduct)) [] from (Sound.conv (g_r05_product_ok N ([(rloads.getD ((i).toNat) TPm.d).fMa,(rloads.getD ((i).toNat) TPm.d).f_X]:List Int) rproduct hr8) (.cons (Alike.sl rfl (fun zq hzq=>get_chunk cI 0 ([(rloads.getD ((i).toNat) TPm.d).fMa,(rloads.getD ((i).toNat) TPm.d).f_X]:List Int) zq hzq)) .nil))) (pc (z1 2) (pc (g_r01_AddRat_ok N trim rproduct rAddRat2 hr9) (pc o1 pn))))))) ?_
   obtain ⟨rproduct2,hr10,h⟩:=bsm h
   obtain ⟨rAddRat3,hr11,h⟩:=bsm h
   refine rnR hE 1 [(12,⟨[],true,(.agg (TRc rproduct2)),[],0,true,none⟩),(13,⟨[],true,(.agg (TRc rAddRat3)),[],0,false,none⟩)] [] (kp [2,4,5,6,7,8,9,10]) (kq [0,1,2,3,4,5]) 694 (pc o1 (pc c (pc c (pc (show Sd 118 [(.sl 2 (fun zi=>(fun zi=>([[(aI ((rloads.getD ((i).toNat) TPm.d).fMa))],[(aI ((rloads.getD ((i).toNat) TPm.d).f_Y))]]:List (List AV)).getD zi []) (addz 0 zi)))] [] 0 (.agg (TRc rproduct2)) [] from (Sound.conv (g_r05_product_ok N ([(rloads.getD ((i).toNat) TPm.d).fMa,(rloads.getD ((i).toNat) TPm.d).f_Y]:List Int) rproduct2 hr10) (.cons (Alike.sl rfl (fun zq hzq=>get_chunk cI 0 ([(rloads.getD ((i).toNat) TPm.d).fMa,(rloads.getD ((i).toNat) TPm.d).f_Y]:List Int) zq hzq)) .nil))) (pc (z1 2) (pc (g_r01_AddRat_ok N heel rproduct2 rAddRat3 hr11) (pc o1 pn))))))) ?_
   obtain ⟨rsize,hr12,h⟩:=bsm h
   obtain ⟨rproduct3,hr13,h⟩:=bsm h
   obtain ⟨rAddRat4,hr14,h⟩:=bsm h
   refine rnR hE 0 [(11,⟨[],true,(aI rsize),[],0,false,none⟩),(13,⟨[],true,(.agg (TRc rproduct3)),[],0,true,none⟩),(14,⟨[],true,(.agg (TRc rAddRat4)),[],0,false,none⟩)] [] (kp [2,4,5,6,7,8,9,10]) (kq [0,1,2,3,4,5]) 950 (pc o1 (pc c (pc c (pc (g_r05_size_ok N ((rloads.getD ((i).toNat) TPm.d).f_X) rsize hr12) (pc (show Sd 118 [(.sl 2 (fun zi=>(fun zi=>([[(aI ((rloads.getD ((i).toNat) TPm.d).fMa))],[(aI rsize)]]:List (List AV)).getD zi []) (addz 0 zi)))] [] 0 (.agg (TRc rproduct3)) [] from (Sound.conv (g_r05_product_ok N ([(rloads.getD ((i).toNat) TPm.d).fMa,rsize]:List Int) rproduct3 hr13) (.cons (Alike.sl rfl (fun zq hzq=>get_chunk cI 0 ([(rloads.getD ((i).toNat) TPm.d).fMa,rsize]:List Int) zq hzq)) .nil))) (pc (z1 2) (pc (g_r01_AddRat_ok N ends rproduct3 rAddRat4 hr14) (pc o1 pn)))))))) ?_
   refine rnR hE 1 [] [] (kp [2,4,5,6,7,8,9,10]) (kq [0,1,2,3,4,5]) 998 pn ?_
   exact rnW hE 1 [] (kp [2,4,5,6,7,8,9,10]) (kq [0,1,2,3,4,5]) 6 pn (ih _ _ _ _ _ _ h E hE)
  ·refine rnR hE 2 [] [] (kp [4,5,6,7,8,11,12,13]) (kq [1,2,3,4,5]) 214 (pc o1 (pc o1 (pc o1 pn))) ?_
   obtain ⟨rQ6,hr15,h⟩:=bsm h
   refine rnR hE 1 [(0,⟨[],true,(.agg (TRc rQ6)),[],0,false,none⟩)] [] (kp [4,5,6,7,8,11,12,13,14]) (kq [1,2,3,4,5,230]) 262 (pc (g_r01_Q_ok N 1000000000 rQ6 hr15) (pc o1 pn)) ?_
   obtain ⟨rQ7,hr16,h⟩:=bsm h
   obtain ⟨rMulRat,hr17,h⟩:=bsm h
   refine rnR hE 1 [(0,⟨[],true,(.agg (TRc rQ7)),[],0,false,none⟩),(2,⟨[],true,(.agg (TRc rMulRat)),[],0,false,none⟩)] [] (kp [4,5,6,7,8,11,12,13,14,15]) (kq [1,2,3,4,5,230,310]) 342 (pc (g_r01_Q_ok N 12 rQ7 hr16) (pc o1 (pc (g_r01_MulRat_ok N rQ7 rQ6 rMulRat hr17) (pc o1 pn)))) ?_
   obtain ⟨rMulRat2,hr18,h⟩:=bsm h
   obtain ⟨rproduct4,hr19,h⟩:=bsm h
   obtain ⟨rQuoRat,hr20,h⟩:=bsm h
   obtain ⟨rMulRat3,hr21,h⟩:=bsm h
   obtain ⟨rproduct5,hr22,h⟩:=bsm h
   obtain ⟨rQuoRat2,hr23,h⟩:=bsm h
   obtain ⟨rMulRat4,hr24,h⟩:=bsm h
   obtain ⟨rproduct6,hr25,h⟩:=bsm h
   obtain ⟨rQuoRat3,hr26,h⟩:=bsm h
   obtain ⟨rQ8,hr27,h⟩:=bsm h
   obtain ⟨rQuoRat4,hr28,h⟩:=bsm h
   obtain ⟨rQ9,hr29,h⟩:=bsm h
   obtain ⟨rMulRat5,hr30,h⟩:=bsm h
   obtain ⟨rQ10,hr31,h⟩:=bsm h
   obtain ⟨rQuoRat5,hr32,h⟩:=bsm h
   obtain ⟨rSubRat,hr33,h⟩:=bsm h
   refine rnR hE 1 [(2,⟨[],true,(.agg (TRc rMulRat2)),[],0,false,none⟩),(7,⟨[],true,(.agg (TRc rproduct4)),[],0,true,none⟩),(8,⟨[],true,(.agg (TRc rQuoRat)),[],0,false,none⟩),(11,⟨[],true,(.agg (TRc rMulRat3)),[],0,false,none⟩),(18,⟨[],true,(.agg (TRc rproduct5)),[],0,true,none⟩),(19,⟨[],true,(.agg (TRc rQuoRat2)),[],0,false,none⟩),(22,⟨[],true,(.agg (TRc rMulRat4)),[],0,false,none⟩),(29,⟨[],true,(.agg (TRc rproduct6)),[],0,true,none⟩),(30,⟨[],true,(.agg (TRc rQuoRat3)),[],0,false,none⟩),(32,⟨[],true,(.agg (TRc rQ8)),[],0,false,none⟩),(33,⟨[],true,(.agg (TRc rQuoRat4)),[],0,false,none⟩),(36,⟨[],true,(.agg (TRc rQ9)),[],0,false,none⟩),(37,⟨[],true,(.agg (TRc rMulRat5)),[],0,false,none⟩),(38,⟨[],true,(.agg (TRc rQ10)),[],0,false,none⟩),(39,⟨[],true,(.agg (TRc rQuoRat5)),[],0,false,none⟩),(40,⟨[],true,(.agg (TRc rSubRat)),[],0,false,none⟩)] [] (kp [4]) (kq [1]) 1030 (pc o1 (pc o1 (pc (g_r01_MulRat_ok N rQ6 mass rMulRat2 hr18) (pc (show Sd 118 [(.sl 3 (fun zi=>(fun zi=>([[(aI p.fDsity)],[(aI p.fLn)],[(aI p.fBr)]]:List (List AV)).getD zi []) (addz 0 zi)))] [] 0 (.agg (TRc rproduct4)) [] from (Sound.conv (g_r05_product_ok N ([p.fDsity,p.fLn,p.fBr]:List Int) rproduct4 hr19) (.cons (Alike.sl rfl (fun zq hzq=>get_chunk cI 0 ([p.fDsity,p.fLn,p.fBr]:List Int) zq hzq)) .nil))) (pc (z1 3) (pc (g_r01_QuoRat_ok N rMulRat2 rproduct4 rQuoRat hr20) (pc o1 (pc o1 (pc (g_r01_MulRat_ok N rMulRat trim rMulRat3 hr21) (pc (show Sd 118 [(.sl 5 (fun zi=>(fun zi=>([[(aI p.fDsity)],[(aI p.fBr)],[(aI p.fLn)],[(aI p.fLn)],[(aI p.fLn)]]:List (List AV)).getD zi []) (addz 0 zi)))] [] 0 (.agg (TRc rproduct5)) [] from (Sound.conv (g_r05_product_ok N ([p.fDsity,p.fBr,p.fLn,p.fLn,p.fLn]:List Int) rproduct5 hr22) (.cons (Alike.sl rfl (fun zq hzq=>get_chunk cI 0 ([p.fDsity,p.fBr,p.fLn,p.fLn,p.fLn]:List Int) zq hzq)) .nil))) (pc (z1 5) (pc (g_r01_QuoRat_ok N rMulRat3 rproduct5 rQuoRat2 hr23) (pc o1 (pc o1 (pc (g_r01_MulRat_ok N rMulRat heel rMulRat4 hr24) (pc (show Sd 118 [(.sl 5 (fun zi=>(fun zi=>([[(aI p.fDsity)],[(aI p.fLn)],[(aI p.fBr)],[(aI p.fBr)],[(aI p.fBr)]]:List (List AV)).getD zi []) (addz 0 zi)))] [] 0 (.agg (TRc rproduct6)) [] from (Sound.conv (g_r05_product_ok N ([p.fDsity,p.fLn,p.fBr,p.fBr,p.fBr]:List Int) rproduct6 hr25) (.cons (Alike.sl rfl (fun zq hzq=>get_chunk cI 0 ([p.fDsity,p.fLn,p.fBr,p.fBr,p.fBr]:List Int) zq hzq)) .nil))) (pc (z1 5) (pc (g_r01_QuoRat_ok N rMulRat4 rproduct6 rQuoRat3 hr26) (pc o1 (pc (g_r01_Q_ok N 2 rQ8 hr27) (pc (g_r01_QuoRat_ok N ends rQ8 rQuoRat4 hr28) (pc o1 (pc (g_r01_Q_ok N p.fLn rQ9 hr29) (pc (g_r01_MulRat_ok N mass rQ9 rMulRat5 hr30) (pc (g_r01_Q_ok N 8 rQ10 hr31) (pc (g_r01_QuoRat_ok N rMulRat5 rQ10 rQuoRat5 hr32) (pc (g_r01_SubRat_ok N rQuoRat4 rQuoRat5 rSubRat hr33) (pc o1 pn)))))))))))))))))))))))))))) ?_
   obtain rfl:=osI h
   exact rnT hE 0 Tryz.f71 [] (kp [4]) [(16,.keep 1)] 1030 pn [16] (pc o1 pn)
theorem g_r05_Float_ok (N:Nat) (p:TPn) (steps:List Int) (r:TPose) (h:g_r05_Float N p steps=some r):Sd 71 [(.agg (TPn.cells p)),(encL cI 0 steps)] [] 0 (.agg (TPose.cells r)) []:=by
 unfold g_r05_Float at h
 refine sor (fu:=Tryz.f71) (c:=C_83 1) (nt:=132) (by kernel_rfl) (by kernel_rfl) (by kernel_rfl) (by kernel_rfl) (fun hm=>rfl) ?_
 intro E hE
 refine rnR hE 1 [] [] (kp [1,2,4]) (kq [0,16]) 32 pn ?_
 obtain ⟨rQ,hr,h⟩:=bsm h
 obtain ⟨rQ2,hr2,h⟩:=bsm h
 obtain ⟨rQ3,hr3,h⟩:=bsm h
 obtain ⟨rQ4,hr4,h⟩:=bsm h
 refine rnR hE 1 [(0,⟨[],true,(.agg (TRc rQ)),[],0,false,none⟩),(1,⟨[],true,(.agg (TRc rQ2)),[],0,false,none⟩),(2,⟨[],true,(.agg (TRc rQ3)),[],0,false,none⟩),(3,⟨[],true,(.agg (TRc rQ4)),[],0,false,none⟩)] [] (kp [1,2,4,5,6,7,8]) (kq [0,16,96,112,128,144]) 224 (pc (g_r01_Q_ok N 0 rQ hr) (pc (g_r01_Q_ok N 0 rQ2 hr2) (pc (g_r01_Q_ok N 0 rQ3 hr3) (pc (g_r01_Q_ok N 0 rQ4 hr4) (pc o1 (pc o1 (pc o1 (pc o1 pn)))))))) ?_
 obtain ⟨rloads,hr5,h⟩:=bsm h
 refine rnR hE 1 [(2,⟨[],true,(encL TPm.cells TPm.d rloads),[],0,false,none⟩)] [] (kp [2,4,5,6,7,8,9]) (kq [0,16,96,112,128,144]) 288 (pc o1 (pc (g_r05_loads_ok N p steps rloads hr5) pn)) ?_
 refine rnR hE 2 [] [] (kp [2,4,5,6,7,8,9,10]) (kq [0,16,96,112,128,144]) 304 pn ?_
 exact rnW hE 2 [] (kp [2,4,5,6,7,8,9,10]) (kq [0] ++ [(1,.keep 16),(2,.keep 96),(3,.keep 112),(4,.keep 128),(5,.keep 144)]) 6 pn (g_r05_Float_L1_ok N _ _ N _ _ _ _ _ _ h E hE)
noncomputable def C_112 (n:Nat):Code:=cat (bodyOf Tryz.f163) (pth n)
theorem g_r01_Sign_ok (N:Nat) (a:TInt) (r:Int) (h:g_r01_Sign N a=some r):Sd 163 [(.agg (TIc a))] [] 0 (aI r) []:=by
 unfold g_r01_Sign at h
 refine sor (fu:=Tryz.f163) (c:=C_112 1) (nt:=10) (by kernel_rfl) (by kernel_rfl) (by kernel_rfl) (by kernel_rfl) (fun hm=>rfl) ?_
 intro E hE
 refine rnR hE 1 [] [] (kp [1]) (kq [0]) 32 pn ?_
 obtain ⟨rread,hr,h⟩:=bsm h
 refine rnR hE 2 [(2,⟨[],true,(encL cI 0 rread),[],0,false,none⟩)] [] (kp [1,7]) (kq [0]) 112 (pc o1 (pc (g_r01_read_ok N a.fL rread hr) pn)) ?_
 refine rnC 0 7 h (fun hq2 h=>?_) (fun hq2 h=>?_)
 ·refine rnR hE 1 [] [] (kp [2]) [] 128 pn ?_
  obtain rfl:=osI h
  exact rnT hE 0 Tryz.f163 [] (kp [2]) [] 128 pn [] pn
 ·refine rnR hE 3 [] [] (kp [9]) [] 144 (pc o1 pn) ?_
  refine rnC 0 9 h (fun hq3 h=>?_) (fun hq3 h=>?_)
  ·refine rnR hE 1 [] [] (kp [2]) [] 160 pn ?_
   obtain rfl:=osI h
   exact rnT hE 0 Tryz.f163 [] (kp [2]) [] 160 pn [] pn
  ·refine rnR hE 2 [] [] (kp [2]) [] 160 pn ?_
   obtain rfl:=osI h
   exact rnT hE 0 Tryz.f163 [] (kp [2]) [] 160 pn [] pn
noncomputable def C_111 (n:Nat):Code:=cat (bodyOf Tryz.f144) (pth n)
theorem g_r01_SignRat_ok (N:Nat) (x:TRat) (r:Int) (h:g_r01_SignRat N x=some r):Sd 144 [(.agg (TRc x))] [] 0 (aI r) []:=by
 unfold g_r01_SignRat at h
 refine sor (fu:=Tryz.f144) (c:=C_111 1) (nt:=7) (by kernel_rfl) (by kernel_rfl) (by kernel_rfl) (by kernel_rfl) (fun hm=>rfl) ?_
 intro E hE
 refine rnR hE 1 [] [] (kp [1]) (kq [0]) 32 pn ?_
 obtain ⟨rNormRat,hr,h⟩:=bsm h
 obtain ⟨rSign,hr2,h⟩:=bsm h
 refine rnR hE 1 [(1,⟨[],true,(.agg (TRc rNormRat)),[],0,false,none⟩),(3,⟨[],true,(aI rSign),[],0,false,none⟩)] [] (kp [2]) [] 112 (pc o1 (pc (g_r01_NormRat_ok N x rNormRat hr) (pc (g_r01_Sign_ok N rNormRat.fN rSign hr2) pn))) ?_
 obtain rfl:=osI h
 exact rnT hE 0 Tryz.f144 [] (kp [2]) [] 112 pn [] pn
noncomputable def C_110 (n:Nat):Code:=cat (bodyOf Tryz.f121) (pth n)
theorem g_r01_CmpRat_ok (N:Nat) (x:TRat) (y:TRat) (r:Int) (h:g_r01_CmpRat N x y=some r):Sd 121 [(.agg (TRc x)),(.agg (TRc y))] [] 0 (aI r) []:=by
 unfold g_r01_CmpRat at h
 refine sor (fu:=Tryz.f121) (c:=C_110 1) (nt:=9) (by kernel_rfl) (by kernel_rfl) (by kernel_rfl) (by kernel_rfl) (fun hm=>rfl) ?_
 intro E hE
 refine rnR hE 1 [] [] (kp [2,3]) (kq [0,16]) 48 pn ?_
 obtain ⟨rSubRat,hr,h⟩:=bsm h
 obtain ⟨rSignRat,hr2,h⟩:=bsm h
 refine rnR hE 1 [(2,⟨[],true,(.agg (TRc rSubRat)),[],0,false,none⟩),(3,⟨[],true,(aI rSignRat),[],0,false,none⟩)] [] (kp [4]) [] 128 (pc o1 (pc o1 (pc (g_r01_SubRat_ok N x y rSubRat hr) (pc (g_r01_SignRat_ok N rSubRat rSignRat hr2) pn)))) ?_
 obtain rfl:=osI h
 exact rnT hE 0 Tryz.f121 [] (kp [4]) [] 128 pn [] pn
noncomputable def C_109 (n:Nat):Code:=cat (bodyOf Tryz.f72) (pth n)
theorem g_r05_between_ok (N:Nat) (x:TRat) (low:Int) (high:Int) (r:Bool) (h:g_r05_between N x low high=some r):Sd 72 [(.agg (TRc x)),(aI low),(aI high)] [] 0 (aB r) []:=by
 unfold g_r05_between at h
 refine sor (fu:=Tryz.f72) (c:=C_109 1) (nt:=19) (by kernel_rfl) (by kernel_rfl) (by kernel_rfl) (by kernel_rfl) (fun hm=>rfl) ?_
 intro E hE
 refine rnR hE 1 [] [] (kp [1,2,3]) (kq [0]) 32 pn ?_
 obtain ⟨rQ,hr,h⟩:=bsm h
 obtain ⟨rCmpRat,hr2,h⟩:=bsm h
 obtain ⟨rQ2,hr3,h⟩:=bsm h
 obtain ⟨rCmpRat2,hr4,h⟩:=bsm h
 refine rnR hE 1 [(2,⟨[],true,(.agg (TRc rQ)),[],0,false,none⟩),(3,⟨[],true,(aI rCmpRat),[],0,false,none⟩),(8,⟨[],true,(.agg (TRc rQ2)),[],0,false,none⟩),(9,⟨[],true,(aI rCmpRat2),[],0,false,none⟩)] [] (kp [6]) [] 240 (pc o1 (pc (g_r01_Q_ok N low rQ hr) (pc (g_r01_CmpRat_ok N x rQ rCmpRat hr2) (pc (fun hg:(decide (rCmpRat≥0))=true=>(pc o1 pn)) (pc (fun hg:(decide (rCmpRat≥0))=true=>(pc (g_r01_Q_ok N high rQ2 (condT hr3 hg)) (pc hg pn))) (pc (fun hg:(decide (rCmpRat≥0))=true=>(pc (g_r01_CmpRat_ok N x rQ2 rCmpRat2 (condT hr4 hg)) (pc hg (pc hg pn)))) (pc (fun hg:(decide (rCmpRat≥0))=true=>(pc hg pn)) (pc (fun hq:(decide (rCmpRat≥0))=true=>(pc hq pn)) pn)))))))) ?_
 obtain rfl:=osI h
 exact rnT hE 0 Tryz.f72 [] (kp [6]) [] 240 pn [] pn
noncomputable def C_113 (n:Nat):Code:=cat (bodyOf Tryz.f73) (pth n)
theorem g_r05_atMost_ok (N:Nat) (x:TRat) (vby:Int) (most:Int) (r:Bool) (h:g_r05_atMost N x vby most=some r):Sd 73 [(.agg (TRc x)),(aI vby),(aI most)] [] 0 (aB r) []:=by
 unfold g_r05_atMost at h
 refine sor (fu:=Tryz.f73) (c:=C_113 1) (nt:=25) (by kernel_rfl) (by kernel_rfl) (by kernel_rfl) (by kernel_rfl) (fun hm=>rfl) ?_
 intro E hE
 refine rnR hE 1 [] [] (kp [1,2,3]) (kq [0]) 32 pn ?_
 obtain ⟨rQ,hr,h⟩:=bsm h
 obtain ⟨rMulRat,hr2,h⟩:=bsm h
 refine rnR hE 1 [(2,⟨[],true,(.agg (TRc rQ)),[],0,false,none⟩),(3,⟨[],true,(.agg (TRc rMulRat)),[],0,false,none⟩)] [] (kp [2,7]) (kq [96]) 128 (pc o1 (pc (g_r01_Q_ok N vby rQ hr) (pc (g_r01_MulRat_ok N x rQ rMulRat hr2) (pc o1 pn)))) ?_
 obtain ⟨rQ2,hr3,h⟩:=bsm h
 obtain ⟨rCmpRat,hr4,h⟩:=bsm h
 obtain ⟨rNegRat,hr5,h⟩:=bsm h
 obtain ⟨rQ3,hr6,h⟩:=bsm h
 obtain ⟨rCmpRat2,hr7,h⟩:=bsm h
 refine rnR hE 1 [(2,⟨[],true,(.agg (TRc rQ2)),[],0,false,none⟩),(3,⟨[],true,(aI rCmpRat),[],0,false,none⟩),(7,⟨[],true,(.agg (TRc rNegRat)),[],0,false,none⟩),(9,⟨[],true,(.agg (TRc rQ3)),[],0,false,none⟩),(10,⟨[],true,(aI rCmpRat2),[],0,false,none⟩)] [] (kp [6]) [] 352 (pc o1 (pc (g_r01_Q_ok N most rQ2 hr3) (pc (g_r01_CmpRat_ok N rMulRat rQ2 rCmpRat hr4) (pc (fun hg:(decide (rCmpRat≤0))=true=>(pc o1 pn)) (pc (fun hg:(decide (rCmpRat≤0))=true=>(pc (g_r01_NegRat_ok N rMulRat rNegRat (condT hr5 hg)) (pc hg pn))) (pc (fun hg:(decide (rCmpRat≤0))=true=>(pc (g_r01_Q_ok N most rQ3 (condT hr6 hg)) (pc hg pn))) (pc (fun hg:(decide (rCmpRat≤0))=true=>(pc (g_r01_CmpRat_ok N rNegRat rQ3 rCmpRat2 (condT hr7 hg)) (pc hg (pc hg pn)))) (pc (fun hg:(decide (rCmpRat≤0))=true=>(pc hg pn)) (pc (fun hq:(decide (rCmpRat≤0))=true=>(pc hq pn)) pn))))))))) ?_
 obtain rfl:=osI h
 exact rnT hE 0 Tryz.f73 [] (kp [6]) [] 352 pn [] pn
noncomputable def C_82 (n:Nat):Code:=cat (bodyOf Tryz.f30) (pth n)
def g_r05_Broken_J1_H (N:Nat) (l:TLimits) (rFloat:TPose) (K:(List ByteArray)→Option ((List ByteArray))):Prop:=∀ (out:List ByteArray) (r:(List ByteArray)),K out=some r→∀ E,EnvOk E 0→Runs Tryz.prog E 30 51 (SPost E [] (encL cS ByteArray.empty r)) [.code (C_82 124),.code (C_82 125),.code (C_82 63)] ⟨[(4,(.op 0 0 0)),(7,(.op 1 0 0)),(8,(.os 2 0 out.length))],[(0,vO 5 (TLimits.cells l)),(1,vO 16 (TPose.cells rFloat)),(2,aO 1 cS ByteArray.empty out)],3⟩
def g_r05_Broken_J2_H (N:Nat) (l:TLimits) (rFloat:TPose) (K:(List ByteArray)→Option ((List ByteArray))):Prop:=∀ (out2:List ByteArray) (r:(List ByteArray)),K out2=some r→∀ E,EnvOk E 0→Runs Tryz.prog E 30 51 (SPost E [] (encL cS ByteArray.empty r)) [.code (C_82 252),.code (C_82 253),.code (C_82 127)] ⟨[(4,(.op 0 0 0)),(7,(.op 1 0 0)),(8,(.os 2 0 out2.length))],[(0,vO 5 (TLimits.cells l)),(1,vO 16 (TPose.cells rFloat)),(2,aO 1 cS ByteArray.empty out2)],3⟩
def g_r05_Broken_J3_H (N:Nat) (l:TLimits) (rFloat:TPose) (K:(List ByteArray)→Option ((List ByteArray))):Prop:=∀ (out3:List ByteArray) (r:(List ByteArray)),K out3=some r→∀ E,EnvOk E 0→Runs Tryz.prog E 30 51 (SPost E [] (encL cS ByteArray.empty r)) [.code (C_82 508),.code (C_82 509),.code (C_82 255)] ⟨[(4,(.op 0 0 0)),(7,(.op 1 0 0)),(8,(.os 2 0 out3.length))],[(0,vO 5 (TLimits.cells l)),(1,vO 16 (TPose.cells rFloat)),(2,aO 1 cS ByteArray.empty out3)],3⟩
def g_r05_Broken_J4_H (N:Nat) (K:(List ByteArray)→Option ((List ByteArray))):Prop:=∀ (out4:List ByteArray) (r:(List ByteArray)),K out4=some r→∀ E,EnvOk E 0→Runs Tryz.prog E 30 51 (SPost E [] (encL cS ByteArray.empty r)) [.code (C_82 510),.code (C_82 511)] ⟨[(8,(.os 0 0 out4.length))],[(0,aO 1 cS ByteArray.empty out4)],1⟩
theorem g_r05_Broken_J4_ok (N:Nat):g_r05_Broken_J4_H N (g_r05_Broken_J4 N):=by
 intro out4 r h E hE
 unfold g_r05_Broken_J4 at h
 refine rnR hE 0 [] [] (kp [6]) (kq [0]) 33 pn ?_
 obtain rfl:=osI h
 exact rnT hE 0 Tryz.f30 [0] [(6,.sl (out4.length) (fun zi=>cS (out4.getD zi ByteArray.empty)))] [] 48 (pc (Eq.refl out4.length) (pc (z1 out4.length) (pc (show ∀ zi,zi < out4.length→(fun zi=>cS (out4.getD zi ByteArray.empty)) zi=(fun zi=>cS (out4.getD zi ByteArray.empty)) (addz 0 zi) from (fun _ _=>rfl)) pn))) [] pn
theorem g_r05_Broken_J3_ok (N:Nat) (l:TLimits) (rFloat:TPose):g_r05_Broken_J3_H N l rFloat (g_r05_Broken_J3 N l rFloat):=by
 intro out3 r h E hE
 unfold g_r05_Broken_J3 at h
 obtain ⟨ratMost3,hr5,h⟩:=bsm h
 refine rnR hE 0 [(4,⟨[],true,(aB ratMost3),[],0,false,none⟩)] [] (kp [8,46]) (kq [2]) 99 (pc o1 (pc o1 (pc (g_r05_atMost_ok N rFloat.f_Hog 1 l.f_HogMost ratMost3 hr5) pn))) ?_
 refine rnC 0 46 h (fun hq5 h=>?_) (fun hq5 h=>?_)
 ·obtain ⟨c3,h⟩:=ifSome h
  refine rnR hE 0 [] [] [(8,.osl ((out3 ++ ([(⟨#[104,111,103]⟩:ByteArray)]:List ByteArray)).length))] [(131,.arr 131 ((out3 ++ ([(⟨#[104,111,103]⟩:ByteArray)]:List ByteArray)).length) (fun zi=>cS ((out3 ++ ([(⟨#[104,111,103]⟩:ByteArray)]:List ByteArray)).getD zi ByteArray.empty)))] 163 (pc (Eq.refl out3.length) (pc c3 (pc (z1 1) (pc (show ∀ zi,zi < 1→AV.oneL ((fun zi=>([[(aS (⟨#[104,111,103]⟩:ByteArray))]]:List (List AV)).getD zi []) (addz 0 zi))=true from (oneN rfl)) (pc (show (out3.length+1)=(out3 ++ ([(⟨#[104,111,103]⟩:ByteArray)]:List ByteArray)).length from (len_app_raw rfl rfl)) (pc (show out3.length+1=(out3 ++ ([(⟨#[104,111,103]⟩:ByteArray)]:List ByteArray)).length from (len_app_raw rfl rfl)) (pc (show ∀ zi,zi < (out3 ++ ([(⟨#[104,111,103]⟩:ByteArray)]:List ByteArray)).length→(fun zi=>cS ((out3 ++ ([(⟨#[104,111,103]⟩:ByteArray)]:List ByteArray)).getD zi ByteArray.empty)) zi=((fun zm=>if zm < out3.length then (fun zi=>cS (out3.getD zi ByteArray.empty)) zm else (fun zi=>([[(aS (⟨#[104,111,103]⟩:ByteArray))]]:List (List AV)).getD zi []) (zm - out3.length))) zi from (get_app_raw cS ByteArray.empty out3 ([(⟨#[104,111,103]⟩:ByteArray)]:List ByteArray) rfl (fun _ _=>rfl) (fun zq hzq=>get_chunk cS ByteArray.empty ([(⟨#[104,111,103]⟩:ByteArray)]:List ByteArray) zq hzq))) pn))))))) ?_
  exact rnW hE 1 [] (kp [8]) [(0,.keep 131)] 1 pn (g_r05_Broken_J4_ok N _ _ h E hE)
 ·exact rnW hE 2 [] (kp [8]) [(0,.keep 2)] 1 pn (g_r05_Broken_J4_ok N _ _ h E hE)
theorem g_r05_Broken_J2_ok (N:Nat) (l:TLimits) (rFloat:TPose):g_r05_Broken_J2_H N l rFloat (g_r05_Broken_J2 N l rFloat):=by
 intro out2 r h E hE
 unfold g_r05_Broken_J2 at h
 obtain ⟨ratMost2,hr4,h⟩:=bsm h
 refine rnR hE 0 [(4,⟨[],true,(aB ratMost2),[],0,false,none⟩)] [] (kp [4,7,8,37]) (kq [0,1,2]) 99 (pc o1 (pc o1 (pc (g_r05_atMost_ok N rFloat.f_Heel 1000 l.f_HeelMost ratMost2 hr4) pn))) ?_
 refine rnC 0 37 h (fun hq4 h=>?_) (fun hq4 h=>?_)
 ·obtain ⟨c2,h⟩:=ifSome h
  refine rnR hE 0 [] [] (kp [4,7] ++ [(8,.osl ((out2 ++ ([(⟨#[104,101,101,108]⟩:ByteArray)]:List ByteArray)).length))]) (kq [0,1] ++ [(131,.arr 131 ((out2 ++ ([(⟨#[104,101,101,108]⟩:ByteArray)]:List ByteArray)).length) (fun zi=>cS ((out2 ++ ([(⟨#[104,101,101,108]⟩:ByteArray)]:List ByteArray)).getD zi ByteArray.empty)))]) 163 (pc (Eq.refl out2.length) (pc c2 (pc (z1 1) (pc (show ∀ zi,zi < 1→AV.oneL ((fun zi=>([[(aS (⟨#[104,101,101,108]⟩:ByteArray))]]:List (List AV)).getD zi []) (addz 0 zi))=true from (oneN rfl)) (pc (show (out2.length+1)=(out2 ++ ([(⟨#[104,101,101,108]⟩:ByteArray)]:List ByteArray)).length from (len_app_raw rfl rfl)) (pc (show out2.length+1=(out2 ++ ([(⟨#[104,101,101,108]⟩:ByteArray)]:List ByteArray)).length from (len_app_raw rfl rfl)) (pc (show ∀ zi,zi < (out2 ++ ([(⟨#[104,101,101,108]⟩:ByteArray)]:List ByteArray)).length→(fun zi=>cS ((out2 ++ ([(⟨#[104,101,101,108]⟩:ByteArray)]:List ByteArray)).getD zi ByteArray.empty)) zi=((fun zm=>if zm < out2.length then (fun zi=>cS (out2.getD zi ByteArray.empty)) zm else (fun zi=>([[(aS (⟨#[104,101,101,108]⟩:ByteArray))]]:List (List AV)).getD zi []) (zm - out2.length))) zi from (get_app_raw cS ByteArray.empty out2 ([(⟨#[104,101,101,108]⟩:ByteArray)]:List ByteArray) rfl (fun _ _=>rfl) (fun zq hzq=>get_chunk cS ByteArray.empty ([(⟨#[104,101,101,108]⟩:ByteArray)]:List ByteArray) zq hzq))) pn))))))) ?_
  exact rnW hE 2 [] (kp [4,7,8]) (kq [0,1] ++ [(2,.keep 131)]) 3 pn (g_r05_Broken_J3_ok N _ _ _ _ h E hE)
 ·exact rnW hE 3 [] (kp [4,7,8]) (kq [0,1,2]) 3 pn (g_r05_Broken_J3_ok N _ _ _ _ h E hE)
theorem g_r05_Broken_J1_ok (N:Nat) (l:TLimits) (rFloat:TPose):g_r05_Broken_J1_H N l rFloat (g_r05_Broken_J1 N l rFloat):=by
 intro out r h E hE
 unfold g_r05_Broken_J1 at h
 obtain ⟨ratMost,hr3,h⟩:=bsm h
 refine rnR hE 0 [(4,⟨[],true,(aB ratMost),[],0,false,none⟩)] [] (kp [4,7,8,28]) (kq [0,1,2]) 99 (pc o1 (pc o1 (pc (g_r05_atMost_ok N rFloat.f_Trim 1000 l.f_TrimMost ratMost hr3) pn))) ?_
 refine rnC 0 28 h (fun hq3 h=>?_) (fun hq3 h=>?_)
 ·obtain ⟨c,h⟩:=ifSome h
  refine rnR hE 0 [] [] (kp [4,7] ++ [(8,.osl ((out ++ ([(⟨#[116,114,105,109]⟩:ByteArray)]:List ByteArray)).length))]) (kq [0,1] ++ [(131,.arr 131 ((out ++ ([(⟨#[116,114,105,109]⟩:ByteArray)]:List ByteArray)).length) (fun zi=>cS ((out ++ ([(⟨#[116,114,105,109]⟩:ByteArray)]:List ByteArray)).getD zi ByteArray.empty)))]) 163 (pc (Eq.refl out.length) (pc c (pc (z1 1) (pc (show ∀ zi,zi < 1→AV.oneL ((fun zi=>([[(aS (⟨#[116,114,105,109]⟩:ByteArray))]]:List (List AV)).getD zi []) (addz 0 zi))=true from (oneN rfl)) (pc (show (out.length+1)=(out ++ ([(⟨#[116,114,105,109]⟩:ByteArray)]:List ByteArray)).length from (len_app_raw rfl rfl)) (pc (show out.length+1=(out ++ ([(⟨#[116,114,105,109]⟩:ByteArray)]:List ByteArray)).length from (len_app_raw rfl rfl)) (pc (show ∀ zi,zi < (out ++ ([(⟨#[116,114,105,109]⟩:ByteArray)]:List ByteArray)).length→(fun zi=>cS ((out ++ ([(⟨#[116,114,105,109]⟩:ByteArray)]:List ByteArray)).getD zi ByteArray.empty)) zi=((fun zm=>if zm < out.length then (fun zi=>cS (out.getD zi ByteArray.empty)) zm else (fun zi=>([[(aS (⟨#[116,114,105,109]⟩:ByteArray))]]:List (List AV)).getD zi []) (zm - out.length))) zi from (get_app_raw cS ByteArray.empty out ([(⟨#[116,114,105,109]⟩:ByteArray)]:List ByteArray) rfl (fun _ _=>rfl) (fun zq hzq=>get_chunk cS ByteArray.empty ([(⟨#[116,114,105,109]⟩:ByteArray)]:List ByteArray) zq hzq))) pn))))))) ?_
  exact rnW hE 2 [] (kp [4,7,8]) (kq [0,1] ++ [(2,.keep 131)]) 3 pn (g_r05_Broken_J2_ok N _ _ _ _ h E hE)
 ·exact rnW hE 3 [] (kp [4,7,8]) (kq [0,1,2]) 3 pn (g_r05_Broken_J2_ok N _ _ _ _ h E hE)
theorem g_r05_Broken_ok (N:Nat) (p:TPn) (l:TLimits) (steps:List Int) (r:(List ByteArray)) (h:g_r05_Broken N p l steps=some r):Sd 30 [(.agg (TPn.cells p)),(.agg (TLimits.cells l)),(encL cI 0 steps)] [] 0 (encL cS ByteArray.empty r) []:=by
 unfold g_r05_Broken at h
 refine sor (fu:=Tryz.f30) (c:=C_82 1) (nt:=51) (by kernel_rfl) (by kernel_rfl) (by kernel_rfl) (by kernel_rfl) (fun hm=>rfl) ?_
 intro E hE
 refine rnR hE 1 [] [] (kp [2,3,4]) (kq [0,16]) 48 pn ?_
 obtain ⟨rFloat,hr,h⟩:=bsm h
 refine rnR hE 1 [(2,⟨[],true,(.agg (TPose.cells rFloat)),[],0,false,none⟩)] [] (kp [4,7]) (kq [16,96]) 128 (pc o1 (pc (g_r05_Float_ok N p steps rFloat hr) (pc o1 pn))) ?_
 refine rnR hE 1 [] [] (kp [4,7,8]) (kq [16,96]) 144 pn ?_
 obtain ⟨rBt,hr2,h⟩:=bsm h
 refine rnR hE 2 [(6,⟨[],true,(aB rBt),[],0,false,none⟩)] [] (kp [4,7,8,19]) (kq [16,96]) 272 (pc o1 (pc o1 (pc o1 (pc (g_r05_between_ok N rFloat.f_Draught l.f_DraughtLeast l.f_DraughtMost rBt hr2) pn)))) ?_
 refine rnC 0 19 h (fun hq2 h=>?_) (fun hq2 h=>?_)
 ·refine rnR hE 0 [] [] (kp [4,7] ++ [(8,.osl (([(⟨#[100,114,97,117,103,104,116]⟩:ByteArray)]:List ByteArray).length))]) (kq [16,96] ++ [(304,.arr 304 (([(⟨#[100,114,97,117,103,104,116]⟩:ByteArray)]:List ByteArray).length) (fun zi=>cS (([(⟨#[100,114,97,117,103,104,116]⟩:ByteArray)]:List ByteArray).getD zi ByteArray.empty)))]) 336 (pc (show 1 * 16≤140737488355328 by decide) (pc (z1 1) (pc (show ∀ zi,zi < 1→AV.oneL ((fun zi=>([[(aS (⟨#[100,114,97,117,103,104,116]⟩:ByteArray))]]:List (List AV)).getD zi []) (addz 0 zi))=true from (oneN rfl)) (pc (Eq.refl 1) (pc (Eq.refl 1) (pc (show ∀ zi,zi < ([(⟨#[100,114,97,117,103,104,116]⟩:ByteArray)]:List ByteArray).length→(fun zi=>cS (([(⟨#[100,114,97,117,103,104,116]⟩:ByteArray)]:List ByteArray).getD zi ByteArray.empty)) zi=(fun zi=>([[(aS (⟨#[100,114,97,117,103,104,116]⟩:ByteArray))]]:List (List AV)).getD zi []) zi from (fun zq hzq=>get_chunk cS ByteArray.empty ([(⟨#[100,114,97,117,103,104,116]⟩:ByteArray)]:List ByteArray) zq hzq)) pn)))))) ?_
  exact rnW hE 2 [] (kp [4,7,8]) [(0,.keep 16),(1,.keep 96),(2,.keep 304)] 3 pn (g_r05_Broken_J1_ok N _ _ _ _ h E hE)
 ·exact rnW hE 3 [] (kp [4,7] ++ [(8,.nilos 2)]) [(0,.keep 16),(1,.keep 96),(2,.nil 1 (fun zi=>cS (([]:List ByteArray).getD zi ByteArray.empty)))] 3 pn (g_r05_Broken_J1_ok N _ _ _ _ h E hE)
noncomputable def C_115 (n:Nat):Code:=cat (bodyOf Tryz.f74) (pth n)
def g_r05_State_L1_H (N:Nat) (p:TPn) (K:Int→(List Int)→Int→Option ((List Int))):Prop:=∀ (k2:Int) (out:List Int) (i:Int) (r:(List Int)),K k2 out i=some r→∀ E,EnvOk E 0→Runs Tryz.prog E 74 36 (SPost E [] (encL cI 0 r)) [.code (C_115 116),.inLoop (C_115 116),.inBlock 0,.code (C_115 15)] ⟨[(1,(aI k2)),(2,(.op 0 0 0)),(5,(.os 1 0 out.length)),(6,(aI i))],[(0,vO 5 (TPn.cells p)),(1,aO 1 cI 0 out)],2⟩
theorem g_r05_State_L1_ok (N:Nat) (p:TPn) (fuel:Nat):g_r05_State_L1_H N p (g_r05_State_L1 N p fuel):=by
 induction fuel with
 | zero=>intro _ _ _ r h;rw [g_r05_State_L1.eq_1] at h;cases h
 | succ fuel ih =>
  intro k2 out i r h E hE
  rw [g_r05_State_L1.eq_2] at h
  refine rnR hE 2 [] [] (kp [1,2,5,6,11]) (kq [0,1]) 82 (pc o1 pn) ?_
  refine rnC 0 11 h (fun hq2 h=>?_) (fun hq2 h=>?_)
  ·obtain ⟨c,h⟩:=ifSome h
   obtain ⟨c2,h⟩:=ifSome h
   obtain ⟨c3,h⟩:=ifSome h
   refine rnR hE 4 [] [] (kp [1,2] ++ [(5,.osl ((out ++ ([(k2.tmod (w64 ((p.fTk.getD ((i).toNat) TTank.d).f_Steps+1)))]:List Int)).length))] ++ kp [6]) (kq [0] ++ [(258,.arr 258 ((out ++ ([(k2.tmod (w64 ((p.fTk.getD ((i).toNat) TTank.d).f_Steps+1)))]:List Int)).length) (fun zi=>cI ((out ++ ([(k2.tmod (w64 ((p.fTk.getD ((i).toNat) TTank.d).f_Steps+1)))]:List Int)).getD zi 0)))]) 290 (pc o1 (pc c (pc c2 (pc (Eq.refl out.length) (pc c3 (pc (z1 1) (pc (show ∀ zi,zi < 1→AV.oneL ((fun zi=>([[(aI (k2.tmod (w64 ((p.fTk.getD ((i).toNat) TTank.d).f_Steps+1))))]]:List (List AV)).getD zi []) (addz 0 zi))=true from (oneN rfl)) (pc (show (out.length+1)=(out ++ ([(k2.tmod (w64 ((p.fTk.getD ((i).toNat) TTank.d).f_Steps+1)))]:List Int)).length from (len_app_raw rfl rfl)) (pc (show out.length+1=(out ++ ([(k2.tmod (w64 ((p.fTk.getD ((i).toNat) TTank.d).f_Steps+1)))]:List Int)).length from (len_app_raw rfl rfl)) (pc (show ∀ zi,zi < (out ++ ([(k2.tmod (w64 ((p.fTk.getD ((i).toNat) TTank.d).f_Steps+1)))]:List Int)).length→(fun zi=>cI ((out ++ ([(k2.tmod (w64 ((p.fTk.getD ((i).toNat) TTank.d).f_Steps+1)))]:List Int)).getD zi 0)) zi=((fun zm=>if zm < out.length then (fun zi=>cI (out.getD zi 0)) zm else (fun zi=>([[(aI (k2.tmod (w64 ((p.fTk.getD ((i).toNat) TTank.d).f_Steps+1))))]]:List (List AV)).getD zi []) (zm - out.length))) zi from (get_app_raw cI 0 out ([(k2.tmod (w64 ((p.fTk.getD ((i).toNat) TTank.d).f_Steps+1)))]:List Int) rfl (fun _ _=>rfl) (fun zq hzq=>get_chunk cI 0 ([(k2.tmod (w64 ((p.fTk.getD ((i).toNat) TTank.d).f_Steps+1)))]:List Int) zq hzq))) pn)))))))))) ?_
   refine rnR hE 0 [] [] (kp [1,2,5,6]) (kq [0,258]) 450 (pc o1 (pc c (pc c2 pn))) ?_
   refine rnR hE 1 [] [] (kp [1,2,5,6]) (kq [0,258]) 498 pn ?_
   exact rnW hE 1 [] (kp [1,2,5,6]) (kq [0] ++ [(1,.keep 258)]) 2 pn (ih _ _ _ _ h E hE)
  ·refine rnR hE 2 [] [] (kp [4]) (kq [1]) 114 pn ?_
   obtain rfl:=osI h
   exact rnT hE 0 Tryz.f74 [1] [(4,.sl (out.length) (fun zi=>cI (out.getD zi 0)))] [] 114 (pc (Eq.refl out.length) (pc (z1 out.length) (pc (show ∀ zi,zi < out.length→(fun zi=>cI (out.getD zi 0)) zi=(fun zi=>cI (out.getD zi 0)) (addz 0 zi) from (fun _ _=>rfl)) pn))) [] pn
theorem g_r05_State_ok (N:Nat) (p:TPn) (k:Int) (r:(List Int)) (h:g_r05_State N p k=some r):Sd 74 [(.agg (TPn.cells p)),(aI k)] [] 0 (encL cI 0 r) []:=by
 unfold g_r05_State at h
 refine sor (fu:=Tryz.f74) (c:=C_115 1) (nt:=36) (by kernel_rfl) (by kernel_rfl) (by kernel_rfl) (by kernel_rfl) (fun hm=>rfl) ?_
 intro E hE
 refine rnR hE 1 [] [] (kp [1,2]) (kq [0]) 32 pn ?_
 refine rnR hE 1 [] [] (kp [1,2,5]) (kq [0]) 48 pn ?_
 refine rnR hE 2 [] [] (kp [1,2,5,6]) (kq [0]) 64 pn ?_
 exact rnW hE 2 [] (kp [1,2] ++ [(5,.nilos 1)] ++ kp [6]) (kq [0] ++ [(1,.nil 1 (fun zi=>cI (([]:List Int).getD zi 0)))]) 2 pn (g_r05_State_L1_ok N _ N _ _ _ _ h E hE)
noncomputable def C_116 (n:Nat):Code:=cat (bodyOf Tryz.f75) (pth n)
theorem g_r05_Reached_ok (N:Nat) (p:TPn) (a:TAim) (steps:List Int) (r:Bool) (h:g_r05_Reached N p a steps=some r):Sd 75 [(.agg (TPn.cells p)),(.agg (TAim.cells a)),(encL cI 0 steps)] [] 0 (aB r) []:=by
 unfold g_r05_Reached at h
 refine sor (fu:=Tryz.f75) (c:=C_116 1) (nt:=16) (by kernel_rfl) (by kernel_rfl) (by kernel_rfl) (by kernel_rfl) (fun hm=>rfl) ?_
 intro E hE
 refine rnR hE 1 [] [] (kp [2,3,4]) (kq [0,16]) 48 pn ?_
 obtain ⟨rFloat,hr,h⟩:=bsm h
 obtain ⟨rBt,hr2,h⟩:=bsm h
 refine rnR hE 1 [(2,⟨[],true,(.agg (TPose.cells rFloat)),[],0,false,none⟩),(8,⟨[],true,(aB rBt),[],0,false,none⟩)] [] (kp [6]) [] 208 (pc o1 (pc (g_r05_Float_ok N p steps rFloat hr) (pc o1 (pc o1 (pc (g_r05_between_ok N rFloat.f_Draught a.f_DraughtLeast a.f_DraughtMost rBt hr2) pn))))) ?_
 obtain rfl:=osI h
 exact rnT hE 0 Tryz.f75 [] (kp [6]) [] 208 pn [] pn
noncomputable def C_117 (n:Nat):Code:=cat (bodyOf Tryz.f33) (pth n)
def g_r05_Moves_L1_H (N:Nat) (p:TPn) (K:(List TMove)→Int→Option ((List TMove))):Prop:=∀ (out:List TMove) (i:Int) (r:(List TMove)),K out i=some r→∀ E,EnvOk E 0→Runs Tryz.prog E 33 20 (SPost E [] (encL TMove.cells TMove.d r)) [.code (C_117 116),.inLoop (C_117 116),.inBlock 0,.code (C_117 15)] ⟨[(1,(.op 0 0 0)),(3,(.os 1 0 out.length)),(4,(aI i))],[(0,vO 5 (TPn.cells p)),(1,aO 2 TMove.cells TMove.d out)],2⟩
theorem g_r05_Moves_L1_ok (N:Nat) (p:TPn) (fuel:Nat):g_r05_Moves_L1_H N p (g_r05_Moves_L1 N p fuel):=by
 induction fuel with
 | zero=>intro _ _ r h;rw [g_r05_Moves_L1.eq_1] at h;cases h
 | succ fuel ih =>
  intro out i r h E hE
  rw [g_r05_Moves_L1.eq_2] at h
  refine rnR hE 2 [] [] (kp [1,3,4,9]) (kq [0,1]) 82 (pc o1 pn) ?_
  refine rnC 0 9 h (fun hq2 h=>?_) (fun hq2 h=>?_)
  ·obtain ⟨c,h⟩:=ifSome h
   refine rnR hE 3 [] [] (kp [1] ++ [(3,.osl ((out ++ ([(⟨i,true⟩:TMove),(⟨i,false⟩:TMove)]:List TMove)).length))] ++ kp [4]) (kq [0] ++ [(178,.arr 178 ((out ++ ([(⟨i,true⟩:TMove),(⟨i,false⟩:TMove)]:List TMove)).length) (fun zi=>TMove.cells ((out ++ ([(⟨i,true⟩:TMove),(⟨i,false⟩:TMove)]:List TMove)).getD zi TMove.d)))]) 210 (pc (Eq.refl out.length) (pc c (pc (z1 2) (pc (show ∀ zi,zi < 2→AV.oneL ((fun zi=>([[(aI i),(aB true)],[(aI i),(aB false)]]:List (List AV)).getD zi []) (addz 0 zi))=true from (oneN rfl)) (pc (show (out.length+2)=(out ++ ([(⟨i,true⟩:TMove),(⟨i,false⟩:TMove)]:List TMove)).length from (len_app_raw rfl rfl)) (pc (show out.length+2=(out ++ ([(⟨i,true⟩:TMove),(⟨i,false⟩:TMove)]:List TMove)).length from (len_app_raw rfl rfl)) (pc (show ∀ zi,zi < (out ++ ([(⟨i,true⟩:TMove),(⟨i,false⟩:TMove)]:List TMove)).length→(fun zi=>TMove.cells ((out ++ ([(⟨i,true⟩:TMove),(⟨i,false⟩:TMove)]:List TMove)).getD zi TMove.d)) zi=((fun zm=>if zm < out.length then (fun zi=>TMove.cells (out.getD zi TMove.d)) zm else (fun zi=>([[(aI i),(aB true)],[(aI i),(aB false)]]:List (List AV)).getD zi []) (zm - out.length))) zi from (get_app_raw TMove.cells TMove.d out ([(⟨i,true⟩:TMove),(⟨i,false⟩:TMove)]:List TMove) rfl (fun _ _=>rfl) (fun zq hzq=>get_chunk TMove.cells TMove.d ([(⟨i,true⟩:TMove),(⟨i,false⟩:TMove)]:List TMove) zq hzq))) pn))))))) ?_
   refine rnR hE 1 [] [] (kp [1,3,4]) (kq [0,178]) 258 pn ?_
   exact rnW hE 1 [] (kp [1,3,4]) (kq [0] ++ [(1,.keep 178)]) 2 pn (ih _ _ _ h E hE)
  ·refine rnR hE 2 [] [] (kp [2]) (kq [1]) 114 pn ?_
   obtain rfl:=osI h
   exact rnT hE 0 Tryz.f33 [1] [(2,.sl (out.length) (fun zi=>TMove.cells (out.getD zi TMove.d)))] [] 114 (pc (Eq.refl out.length) (pc (z1 out.length) (pc (show ∀ zi,zi < out.length→(fun zi=>TMove.cells (out.getD zi TMove.d)) zi=(fun zi=>TMove.cells (out.getD zi TMove.d)) (addz 0 zi) from (fun _ _=>rfl)) pn))) [] pn
theorem g_r05_Moves_ok (N:Nat) (p:TPn) (r:(List TMove)) (h:g_r05_Moves N p=some r):Sd 33 [(.agg (TPn.cells p))] [] 0 (encL TMove.cells TMove.d r) []:=by
 unfold g_r05_Moves at h
 refine sor (fu:=Tryz.f33) (c:=C_117 1) (nt:=20) (by kernel_rfl) (by kernel_rfl) (by kernel_rfl) (by kernel_rfl) (fun hm=>rfl) ?_
 intro E hE
 refine rnR hE 1 [] [] (kp [1]) (kq [0]) 32 pn ?_
 refine rnR hE 1 [] [] (kp [1,3]) (kq [0]) 48 pn ?_
 refine rnR hE 2 [] [] (kp [1,3,4]) (kq [0]) 64 pn ?_
 exact rnW hE 2 [] (kp [1] ++ [(3,.nilos 1)] ++ kp [4]) (kq [0] ++ [(1,.nil 2 (fun zi=>TMove.cells (([]:List TMove).getD zi TMove.d)))]) 2 pn (g_r05_Moves_L1_ok N _ N _ _ _ h E hE)
noncomputable def C_118 (n:Nat):Code:=cat (bodyOf Tryz.f34) (pth n)
def g_r05_Made_J1_H (N:Nat) (p:TPn) (m:TMove) (K:(List Int)→Option ((List Int)×Bool)):Prop:=∀ (out:List Int) (r:(List Int)×Bool),K out=some r→∀ E,EnvOk E 0→Runs Tryz.prog E 34 58 (SPost E [(0,aO 1 cI 0 r.1)] (.tup [(.os 0 0 r.1.length),(aB r.2)])) [.code (C_118 62),.code (C_118 63)] ⟨[(3,(.op 0 0 0)),(5,(.op 1 0 0)),(8,(.os 2 0 out.length))],[(0,vO 5 (TPn.cells p)),(1,vO 2 (TMove.cells m)),(2,aO 1 cI 0 out)],3⟩
theorem g_r05_Made_J1_ok (N:Nat) (p:TPn) (m:TMove):g_r05_Made_J1_H N p m (g_r05_Made_J1 N p m):=by
 intro out r h E hE
 unfold g_r05_Made_J1 at h
 obtain ⟨c3,h⟩:=ifSome h
 obtain ⟨c4,h⟩:=ifSome h
 obtain ⟨rIn,hr,h⟩:=bsm h
 refine rnR hE 0 [(13,⟨[],true,(aB rIn),[],0,false,none⟩)] [] (kp [6,7]) (kq [2]) 259 (pc o1 (pc c3 (pc (ltOf c3) (pc o1 (pc o1 (pc c4 (pc (g_r05_inside_ok N (out.getD ((m.f_Tank).toNat) 0) 0 ((p.fTk.getD ((m.f_Tank).toNat) TTank.d).f_Steps) rIn hr) pn))))))) ?_
 obtain rfl:=osI h
 exact rnT hE 0 Tryz.f34 [] (kp [6,7]) [(0,.keep 2)] 259 pn [] pn
theorem g_r05_Made_ok (N:Nat) (p:TPn) (steps:List Int) (m:TMove) (r:(List Int)×Bool) (h:g_r05_Made N p steps m=some r):Sd 34 [(.agg (TPn.cells p)),(encL cI 0 steps),(.agg (TMove.cells m))] [] 0 (.tup [(.os 0 0 r.1.length),(aB r.2)]) [(0,aO 1 cI 0 r.1)]:=by
 unfold g_r05_Made at h
 refine sor (fu:=Tryz.f34) (c:=C_118 1) (nt:=58) (by kernel_rfl) (by kernel_rfl) (by kernel_rfl) (by kernel_rfl) (fun hm=>rfl) ?_
 intro E hE
 refine rnR hE 1 [] [] (kp [1,3,5]) (kq [0,16]) 64 pn ?_
 refine rnR hE 2 [] [] (kp [1,3,5,18]) (kq [0,16]) 224 (pc o1 (pc (fun hg:(!(decide (m.f_Tank < 0)))=true=>(pc hg (pc o1 pn))) (pc (fun hg:(!(decide (m.f_Tank < 0)))=true=>(pc hg pn)) (pc (fun hg:(!(decide (m.f_Tank < 0)))=true=>(pc hg (pc hg pn))) (pc (fun hq:(!(decide (m.f_Tank < 0)))=true=>(pc hq pn)) pn))))) ?_
 refine rnC 0 18 h (fun hq2 h=>?_) (fun hq2 h=>?_)
 ·refine rnR hE 1 [] [] (kp [6,7]) [] 256 pn ?_
  obtain rfl:=osI h
  exact rnT hE 0 Tryz.f34 [] ([(6,.nilos 0)] ++ kp [7]) [(0,.nil 1 (fun zi=>cI (([]:List Int).getD zi 0)))] 256 pn [] pn
 ·obtain ⟨c,h⟩:=ifSome h
  refine rnR hE 2 [] [] (kp [3,5] ++ [(8,.osl ((([]:List Int) ++ steps).length))]) (kq [0,16] ++ [(256,.arr 256 ((([]:List Int) ++ steps).length) (fun zi=>cI ((([]:List Int) ++ steps).getD zi 0)))]) 288 (pc (Eq.refl 0) (pc c (pc (show ∀ zi,zi < steps.length→AV.oneL ((fun zi=>cI (steps.getD zi 0)) zi)=true from (fun _ _=>rfl)) (pc (show (0+steps.length)=(([]:List Int) ++ steps).length from (len_app_raw rfl rfl)) (pc (show 0+steps.length=(([]:List Int) ++ steps).length from (len_app_raw rfl rfl)) (pc (show ∀ zi,zi < (([]:List Int) ++ steps).length→(fun zi=>cI ((([]:List Int) ++ steps).getD zi 0)) zi=((fun zm=>if zm < 0 then (fun _=>[]) zm else (fun zi=>cI (steps.getD zi 0)) (zm - 0))) zi from (get_app_raw cI 0 ([]:List Int) steps rfl (fun zq hzq=>absurd hzq (Nat.not_lt_zero _)) (fun _ _=>rfl))) pn)))))) ?_
  refine rnR hE 2 [] [] (kp [3,5,8,23]) (kq [0,16,256]) 320 (pc o1 pn) ?_
  refine rnC 0 23 h (fun hq3 h=>?_) (fun hq3 h=>?_)
  ·obtain ⟨c2,h⟩:=ifSome h
   refine rnR hE 0 [] [] (kp [3,5] ++ [(8,.osl (((([]:List Int) ++ steps).set ((m.f_Tank).toNat) (w64 (((([]:List Int) ++ steps).getD ((m.f_Tank).toNat) 0)+1))).length))]) (kq [0,16] ++ [(256,.arr 256 (((([]:List Int) ++ steps).set ((m.f_Tank).toNat) (w64 (((([]:List Int) ++ steps).getD ((m.f_Tank).toNat) 0)+1))).length) (fun zi=>cI (((([]:List Int) ++ steps).set ((m.f_Tank).toNat) (w64 (((([]:List Int) ++ steps).getD ((m.f_Tank).toNat) 0)+1))).getD zi 0)))]) 496 (pc o1 (pc o1 (pc c2 (pc (ltOf c2) (pc c2 (pc (ltOf c2) (pc (len_set0 (([]:List Int) ++ steps) ((m.f_Tank).toNat) (w64 (((([]:List Int) ++ steps).getD ((m.f_Tank).toNat) 0)+1))) (pc (len_set0 (([]:List Int) ++ steps) ((m.f_Tank).toNat) (w64 (((([]:List Int) ++ steps).getD ((m.f_Tank).toNat) 0)+1))) (pc (get_set0 cI 0 (([]:List Int) ++ steps) ((m.f_Tank).toNat) (w64 (((([]:List Int) ++ steps).getD ((m.f_Tank).toNat) 0)+1))) pn))))))))) ?_
   exact rnW hE 1 [] (kp [3,5,8]) (kq [0] ++ [(1,.keep 16),(2,.keep 256)]) 3 pn (g_r05_Made_J1_ok N _ _ _ _ h E hE)
  ·obtain ⟨c5,h⟩:=ifSome h
   refine rnR hE 0 [] [] (kp [3,5] ++ [(8,.osl (((([]:List Int) ++ steps).set ((m.f_Tank).toNat) (w64 (((([]:List Int) ++ steps).getD ((m.f_Tank).toNat) 0) - 1))).length))]) (kq [0,16] ++ [(256,.arr 256 (((([]:List Int) ++ steps).set ((m.f_Tank).toNat) (w64 (((([]:List Int) ++ steps).getD ((m.f_Tank).toNat) 0) - 1))).length) (fun zi=>cI (((([]:List Int) ++ steps).set ((m.f_Tank).toNat) (w64 (((([]:List Int) ++ steps).getD ((m.f_Tank).toNat) 0) - 1))).getD zi 0)))]) 496 (pc o1 (pc o1 (pc c5 (pc (ltOf c5) (pc c5 (pc (ltOf c5) (pc (len_set0 (([]:List Int) ++ steps) ((m.f_Tank).toNat) (w64 (((([]:List Int) ++ steps).getD ((m.f_Tank).toNat) 0) - 1))) (pc (len_set0 (([]:List Int) ++ steps) ((m.f_Tank).toNat) (w64 (((([]:List Int) ++ steps).getD ((m.f_Tank).toNat) 0) - 1))) (pc (get_set0 cI 0 (([]:List Int) ++ steps) ((m.f_Tank).toNat) (w64 (((([]:List Int) ++ steps).getD ((m.f_Tank).toNat) 0) - 1))) pn))))))))) ?_
   exact rnW hE 1 [] (kp [3,5,8]) (kq [0] ++ [(1,.keep 16),(2,.keep 256)]) 3 pn (g_r05_Made_J1_ok N _ _ _ _ h E hE)
noncomputable def C_119 (n:Nat):Code:=cat (bodyOf Tryz.f32) (pth n)
def g_r05_Number_L1_H (N:Nat) (p:TPn) (steps:List Int) (K:Int→Int→Option (Int)):Prop:=∀ (n:Int) (i:Int) (r:Int),K n i=some r→∀ E,EnvOk E 0→Runs Tryz.prog E 32 29 (SPost E [] (aI r)) [.code (C_119 116),.inLoop (C_119 116),.inBlock 0,.code (C_119 15)] ⟨[(1,(encL cI 0 steps)),(2,(.op 0 0 0)),(5,(aI n)),(6,(aI i))],[(0,vO 5 (TPn.cells p))],1⟩
theorem g_r05_Number_L1_ok (N:Nat) (p:TPn) (steps:List Int) (fuel:Nat):g_r05_Number_L1_H N p steps (g_r05_Number_L1 N p steps fuel):=by
 induction fuel with
 | zero=>intro _ _ r h;rw [g_r05_Number_L1.eq_1] at h;cases h
 | succ fuel ih =>
  intro n i r h E hE
  rw [g_r05_Number_L1.eq_2] at h
  refine rnR hE 2 [] [] (kp [1,2,5,6,11]) (kq [0]) 33 pn ?_
  refine rnC 0 11 h (fun hq2 h=>?_) (fun hq2 h=>?_)
  ·obtain ⟨c,h⟩:=ifSome h
   obtain ⟨c2,h⟩:=ifSome h
   refine rnR hE 3 [] [] (kp [1,2,5,6]) (kq [0]) 273 (pc o1 (pc c (pc c2 pn))) ?_
   refine rnR hE 1 [] [] (kp [1,2,5,6]) (kq [0]) 321 pn ?_
   exact rnW hE 1 [] (kp [1,2,5,6]) (kq [0]) 1 pn (ih _ _ _ h E hE)
  ·refine rnR hE 2 [] [] (kp [4]) [] 65 pn ?_
   obtain rfl:=osI h
   exact rnT hE 0 Tryz.f32 [] (kp [4]) [] 65 pn [] pn
theorem g_r05_Number_ok (N:Nat) (p:TPn) (steps:List Int) (r:Int) (h:g_r05_Number N p steps=some r):Sd 32 [(.agg (TPn.cells p)),(encL cI 0 steps)] [] 0 (aI r) []:=by
 unfold g_r05_Number at h
 refine sor (fu:=Tryz.f32) (c:=C_119 1) (nt:=29) (by kernel_rfl) (by kernel_rfl) (by kernel_rfl) (by kernel_rfl) (fun hm=>rfl) ?_
 intro E hE
 refine rnR hE 1 [] [] (kp [1,2]) (kq [0]) 32 pn ?_
 refine rnR hE 1 [] [] (kp [1,2,5]) (kq [0]) 48 pn ?_
 refine rnR hE 2 [] [] (kp [1,2,5,6]) (kq [0]) 112 pn ?_
 exact rnW hE 2 [] (kp [1,2,5,6]) (kq [0]) 1 pn (g_r05_Number_L1_ok N _ _ N _ _ _ h E hE)
noncomputable def C_114 (n:Nat):Code:=cat (bodyOf Tryz.f31) (pth n)
def g_r05_distances_L1_H (N:Nat) (p:TPn) (l:TLimits) (a:TAim) (rStates:Int) (K:(List Int)→(List Bool)→Int→Option ((List Int))):Prop:=∀ (out:List Int) (good:List Bool) (k:Int) (r:(List Int)),K out good k=some r→∀ E,EnvOk E 0→Runs Tryz.prog E 31 119 (SPost E [] (encL cI 0 r)) [.code (C_114 500),.inLoop (C_114 500),.inBlock 0,.code (C_114 63)] ⟨[(3,(.op 0 0 0)),(4,(.op 1 0 0)),(5,(.op 2 0 0)),(7,(aI rStates)),(8,(.os 3 0 out.length)),(9,(.os 4 0 good.length)),(10,(aI k))],[(0,vO 5 (TPn.cells p)),(1,vO 5 (TLimits.cells l)),(2,vO 3 (TAim.cells a)),(3,aO 1 cI 0 out),(4,aO 1 cB false good)],5⟩
def g_r05_distances_J2_H (N:Nat) (p:TPn) (l:TLimits) (a:TAim) (rStates:Int) (good:List Bool) (k:Int) (rBroken:(List ByteArray)) (K:(List Int)→Option ((List Int))):Prop:=∀ (out2:List Int) (r:(List Int)),K out2=some r→∀ E,EnvOk E 0→Runs Tryz.prog E 31 119 (SPost E [] (encL cI 0 r)) [.code (C_114 2003),.inLoop (C_114 500),.inBlock 0,.code (C_114 63)] ⟨[(3,(.op 0 0 0)),(4,(.op 1 0 0)),(5,(.op 2 0 0)),(7,(aI rStates)),(8,(.os 3 0 out2.length)),(9,(.os 4 0 ((good.set ((k).toNat) (((rBroken.length:Nat):Int) == 0)).length))),(10,(aI k))],[(0,vO 5 (TPn.cells p)),(1,vO 5 (TLimits.cells l)),(2,vO 3 (TAim.cells a)),(3,aO 1 cI 0 out2),(4,aO 1 cB false (good.set ((k).toNat) (((rBroken.length:Nat):Int) == 0)))],5⟩
theorem g_r05_distances_J2_ok (N:Nat) (p:TPn) (l:TLimits) (a:TAim) (rStates:Int) (good:List Bool) (k:Int) (rBroken:(List ByteArray)) (K_g_r05_distances_L1:(List Int)→(List Bool)→Int→Option ((List Int))) (hK_g_r05_distances_L1:g_r05_distances_L1_H N p l a rStates K_g_r05_distances_L1):g_r05_distances_J2_H N p l a rStates good k rBroken (g_r05_distances_J2 N p l a rStates good k rBroken K_g_r05_distances_L1):=by
 intro out2 r h E hE
 unfold g_r05_distances_J2 at h
 refine rnR hE 0 [] [] (kp [3,4,5,7,8,9,10]) (kq [0,1,2,3,4]) 53 pn ?_
 exact rnW hE 1 [] (kp [3,4,5,7,8,9,10]) (kq [0,1,2,3,4]) 5 pn (hK_g_r05_distances_L1 _ _ _ _ h E hE)
def g_r05_distances_L3_H (N:Nat) (p:TPn) (rStates:Int) (good:List Bool) (rMoves:(List TMove)) (K:(List Int)→Int→Option ((List Int))):Prop:=∀ (out3:List Int) (d:Int) (r:(List Int)),K out3 d=some r→∀ E,EnvOk E 0→Runs Tryz.prog E 31 119 (SPost E [] (encL cI 0 r)) [.code (C_114 2036),.inLoop (C_114 2036),.inBlock 2,.code (C_114 255)] ⟨[(3,(.op 0 0 0)),(7,(aI rStates)),(8,(.os 1 0 out3.length)),(9,(.os 2 0 good.length)),(12,(encL TMove.cells TMove.d rMoves)),(13,(aI d))],[(0,vO 5 (TPn.cells p)),(1,aO 1 cI 0 out3),(2,aO 1 cB false good)],3⟩
def g_r05_distances_L4_H (N:Nat) (p:TPn) (rStates:Int) (good:List Bool) (rMoves:(List TMove)) (d:Int) (K:(List Int)→Int→Option ((List Int))):Prop:=∀ (out4:List Int) (k2:Int) (r:(List Int)),K out4 k2=some r→∀ E,EnvOk E 0→Runs Tryz.prog E 31 119 (SPost E [] (encL cI 0 r)) [.code (C_114 130340),.inLoop (C_114 130340),.inBlock 4,.inBlock 3,.code (C_114 8147),.inLoop (C_114 2036),.inBlock 2,.code (C_114 255)] ⟨[(3,(.op 0 0 0)),(7,(aI rStates)),(8,(.os 1 0 out4.length)),(9,(.os 2 0 good.length)),(12,(encL TMove.cells TMove.d rMoves)),(13,(aI d)),(14,(aI k2))],[(0,vO 5 (TPn.cells p)),(1,aO 1 cI 0 out4),(2,aO 1 cB false good)],3⟩
def g_r05_distances_J5_H (N:Nat) (p:TPn) (rStates:Int) (good:List Bool) (rMoves:(List TMove)) (d:Int) (k2:Int) (K:(List Int)→Option ((List Int))):Prop:=∀ (out5:List Int) (r:(List Int)),K out5=some r→∀ E,EnvOk E 0→Runs Tryz.prog E 31 119 (SPost E [] (encL cI 0 r)) [.code (C_114 521363),.inLoop (C_114 130340),.inBlock 4,.inBlock 3,.code (C_114 8147),.inLoop (C_114 2036),.inBlock 2,.code (C_114 255)] ⟨[(3,(.op 0 0 0)),(7,(aI rStates)),(8,(.os 1 0 out5.length)),(9,(.os 2 0 good.length)),(12,(encL TMove.cells TMove.d rMoves)),(13,(aI d)),(14,(aI k2))],[(0,vO 5 (TPn.cells p)),(1,aO 1 cI 0 out5),(2,aO 1 cB false good)],3⟩
theorem g_r05_distances_J5_ok (N:Nat) (p:TPn) (rStates:Int) (good:List Bool) (rMoves:(List TMove)) (d:Int) (k2:Int) (K_g_r05_distances_L4:(List Int)→Int→Option ((List Int))) (K_g_r05_distances_L3:(List Int)→Int→Option ((List Int))) (hK_g_r05_distances_L4:g_r05_distances_L4_H N p rStates good rMoves d K_g_r05_distances_L4) (hK_g_r05_distances_L3:g_r05_distances_L3_H N p rStates good rMoves K_g_r05_distances_L3):g_r05_distances_J5_H N p rStates good rMoves d k2 (g_r05_distances_J5 N p rStates good rMoves d k2 K_g_r05_distances_L4 K_g_r05_distances_L3):=by
 intro out5 r h E hE
 unfold g_r05_distances_J5 at h
 refine rnR hE 0 [] [] (kp [3,7,8,9,12,13,14]) (kq [0,1,2]) 51 pn ?_
 exact rnW hE 1 [] (kp [3,7,8,9,12,13,14]) (kq [0,1,2]) 3 pn (hK_g_r05_distances_L4 _ _ _ h E hE)
def g_r05_distances_L6_H (N:Nat) (p:TPn) (rStates:Int) (good:List Bool) (rMoves:(List TMove)) (d:Int) (k2:Int) (K:(List Int)→Int→Option ((List Int))):Prop:=∀ (out6:List Int) (i:Int) (r:(List Int)),K out6 i=some r→∀ E,EnvOk E 0→Runs Tryz.prog E 31 119 (SPost E [] (encL cI 0 r)) [.code (C_114 16683596),.inLoop (C_114 16683596),.inBlock 6,.inBlock 5,.code (C_114 521363),.inLoop (C_114 130340),.inBlock 4,.inBlock 3,.code (C_114 8147),.inLoop (C_114 2036),.inBlock 2,.code (C_114 255)] ⟨[(3,(.op 0 0 0)),(7,(aI rStates)),(8,(.os 1 0 out6.length)),(9,(.os 2 0 good.length)),(12,(encL TMove.cells TMove.d rMoves)),(13,(aI d)),(14,(aI k2)),(15,(aI i))],[(0,vO 5 (TPn.cells p)),(1,aO 1 cI 0 out6),(2,aO 1 cB false good)],3⟩
def g_r05_distances_J7_H (N:Nat) (p:TPn) (rStates:Int) (good:List Bool) (rMoves:(List TMove)) (d:Int) (k2:Int) (i:Int) (K:(List Int)→Option ((List Int))):Prop:=∀ (out7:List Int) (r:(List Int)),K out7=some r→∀ E,EnvOk E 0→Runs Tryz.prog E 31 119 (SPost E [] (encL cI 0 r)) [.code (C_114 66734387),.inLoop (C_114 16683596),.inBlock 6,.inBlock 5,.code (C_114 521363),.inLoop (C_114 130340),.inBlock 4,.inBlock 3,.code (C_114 8147),.inLoop (C_114 2036),.inBlock 2,.code (C_114 255)] ⟨[(3,(.op 0 0 0)),(7,(aI rStates)),(8,(.os 1 0 out7.length)),(9,(.os 2 0 good.length)),(12,(encL TMove.cells TMove.d rMoves)),(13,(aI d)),(14,(aI k2)),(15,(aI i))],[(0,vO 5 (TPn.cells p)),(1,aO 1 cI 0 out7),(2,aO 1 cB false good)],3⟩
theorem g_r05_distances_J7_ok (N:Nat) (p:TPn) (rStates:Int) (good:List Bool) (rMoves:(List TMove)) (d:Int) (k2:Int) (i:Int) (K_g_r05_distances_L6:(List Int)→Int→Option ((List Int))) (K_g_r05_distances_L4:(List Int)→Int→Option ((List Int))) (K_g_r05_distances_L3:(List Int)→Int→Option ((List Int))) (hK_g_r05_distances_L6:g_r05_distances_L6_H N p rStates good rMoves d k2 K_g_r05_distances_L6) (hK_g_r05_distances_L4:g_r05_distances_L4_H N p rStates good rMoves d K_g_r05_distances_L4) (hK_g_r05_distances_L3:g_r05_distances_L3_H N p rStates good rMoves K_g_r05_distances_L3):g_r05_distances_J7_H N p rStates good rMoves d k2 i (g_r05_distances_J7 N p rStates good rMoves d k2 i K_g_r05_distances_L6 K_g_r05_distances_L4 K_g_r05_distances_L3):=by
 intro out7 r h E hE
 unfold g_r05_distances_J7 at h
 refine rnR hE 0 [] [] (kp [3,7,8,9,12,13,14,15]) (kq [0,1,2]) 51 pn ?_
 exact rnW hE 1 [] (kp [3,7,8,9,12,13,14,15]) (kq [0,1,2]) 3 pn (hK_g_r05_distances_L6 _ _ _ h E hE)
theorem g_r05_distances_L6_ok (N:Nat) (p:TPn) (rStates:Int) (good:List Bool) (rMoves:(List TMove)) (d:Int) (k2:Int) (K_g_r05_distances_L4:(List Int)→Int→Option ((List Int))) (K_g_r05_distances_L3:(List Int)→Int→Option ((List Int))) (hK_g_r05_distances_L4:g_r05_distances_L4_H N p rStates good rMoves d K_g_r05_distances_L4) (hK_g_r05_distances_L3:g_r05_distances_L3_H N p rStates good rMoves K_g_r05_distances_L3) (fuel:Nat):g_r05_distances_L6_H N p rStates good rMoves d k2 (g_r05_distances_L6 N p rStates good rMoves d k2 K_g_r05_distances_L4 K_g_r05_distances_L3 fuel):=by
 induction fuel with
 | zero=>intro _ _ r h;rw [g_r05_distances_L6.eq_1] at h;cases h
 | succ fuel ih =>
  intro out6 i r h E hE
  rw [g_r05_distances_L6.eq_2] at h
  refine rnR hE 2 [] [] (kp [3,7,8,9,12,13,14,15,78]) (kq [0,1,2]) 67 pn ?_
  refine rnC 0 78 h (fun hq7 h=>?_) (fun hq7 h=>?_)
  ·obtain ⟨rState2,hr6,h⟩:=bsm h
   obtain ⟨c8,h⟩:=ifSome h
   obtain ⟨rMade,hr7,h⟩:=bsm h
   refine rnR hE 4 [(3,⟨[],true,(encL cI 0 rState2),[],0,false,none⟩),(8,⟨[],false,(.tup [(.os 0 0 rMade.1.length),(aB rMade.2)]),[(0,aO 1 cI 0 rMade.1)],0,false,none⟩)] [] (kp [3,7,8,9,12,13,14,15,16,17]) (kq [0,1,2,195]) 291 (pc o1 (pc o1 (pc (g_r05_State_ok N p k2 rState2 hr6) (pc c8 (pc (g_r05_Made_ok N p rState2 (rMoves.getD ((i).toNat) TMove.d) rMade hr7) pn))))) ?_
   obtain ⟨rNumber,hr8,h⟩:=bsm h
   obtain ⟨c9,h⟩:=ifSome h
   obtain ⟨rNumber2,hr9,h⟩:=bsm h
   obtain ⟨c10,h⟩:=ifSome h
   refine rnR hE 1 [(5,⟨[],true,(aI rNumber),[],0,false,none⟩),(13,⟨[],true,(aI rNumber2),[],0,false,none⟩)] [] (kp [3,7,8,9,12,13,14,15,16,110]) (kq [0,1,2,195]) 579 (pc (fun hg:rMade.2=true=>(pc o1 pn)) (pc (fun hg:rMade.2=true=>(pc (g_r05_Number_ok N p rMade.1 rNumber (condT hr8 hg)) (pc (z1 rMade.1.length) (pc hg (pc hg pn))))) (pc (fun hg:rMade.2=true=>(pc hg (pc hg (pc (c9 hg) pn)))) (pc (fun hg:rMade.2=true=>(pc hg (pc (ltOf (c9 hg)) pn))) (pc (fun hq:rMade.2=true=>(pc hq pn)) (pc (fun hg:(cond rMade.2 (good.getD ((rNumber).toNat) false) false)=true=>(pc o1 pn)) (pc (fun hg:(cond rMade.2 (good.getD ((rNumber).toNat) false) false)=true=>(pc (g_r05_Number_ok N p rMade.1 rNumber2 (condT hr9 hg)) (pc (z1 rMade.1.length) (pc hg (pc hg pn))))) (pc (fun hg:(cond rMade.2 (good.getD ((rNumber).toNat) false) false)=true=>(pc hg (pc hg (pc (c10 hg) pn)))) (pc (fun hg:(cond rMade.2 (good.getD ((rNumber).toNat) false) false)=true=>(pc hg (pc (ltOf (c10 hg)) pn))) (pc (fun hg:(cond rMade.2 (good.getD ((rNumber).toNat) false) false)=true=>(pc hg pn)) (pc (fun hq:(cond rMade.2 (good.getD ((rNumber).toNat) false) false)=true=>(pc hq pn)) pn))))))))))) ?_
   refine rnC 0 110 h (fun hq8 h=>?_) (fun hq8 h=>?_)
   ·obtain ⟨rNumber3,hr10,h⟩:=bsm h
    obtain ⟨c11,h⟩:=ifSome h
    refine rnR hE 0 [(3,⟨[],true,(aI rNumber3),[],0,false,none⟩)] [] (kp [3,7] ++ [(8,.osl ((out6.set ((rNumber3).toNat) (w64 (d+1))).length))] ++ kp [9,12,13,14,15]) (kq [0] ++ [(1,.arr 1 ((out6.set ((rNumber3).toNat) (w64 (d+1))).length) (fun zi=>cI ((out6.set ((rNumber3).toNat) (w64 (d+1))).getD zi 0)))] ++ kq [2]) 707 (pc o1 (pc (g_r05_Number_ok N p rMade.1 rNumber3 hr10) (pc (z1 rMade.1.length) (pc c11 (pc (ltOf c11) (pc (len_set0 out6 ((rNumber3).toNat) (w64 (d+1))) (pc (len_set0 out6 ((rNumber3).toNat) (w64 (d+1))) (pc (get_set0 cI 0 out6 ((rNumber3).toNat) (w64 (d+1))) pn)))))))) ?_
    exact rnW hE 1 [] (kp [3,7,8,9,12,13,14,15]) (kq [0,1,2]) 3 pn (g_r05_distances_J7_ok N _ _ _ _ _ _ _ _ _ _ ih hK_g_r05_distances_L4 hK_g_r05_distances_L3 _ _ h E hE)
   ·exact rnW hE 2 [] (kp [3,7,8,9,12,13,14,15]) (kq [0,1,2]) 3 pn (g_r05_distances_J7_ok N _ _ _ _ _ _ _ _ _ _ ih hK_g_r05_distances_L4 hK_g_r05_distances_L3 _ _ h E hE)
  ·exact rnW hE 2 [] (kp [3,7,8,9,12,13,14]) (kq [0,1,2]) 3 pn (g_r05_distances_J5_ok N _ _ _ _ _ _ _ _ hK_g_r05_distances_L4 hK_g_r05_distances_L3 _ _ h E hE)
theorem g_r05_distances_L4_ok (N:Nat) (p:TPn) (rStates:Int) (good:List Bool) (rMoves:(List TMove)) (d:Int) (K_g_r05_distances_L3:(List Int)→Int→Option ((List Int))) (hK_g_r05_distances_L3:g_r05_distances_L3_H N p rStates good rMoves K_g_r05_distances_L3) (fuel:Nat):g_r05_distances_L4_H N p rStates good rMoves d (g_r05_distances_L4 N p rStates good rMoves d K_g_r05_distances_L3 fuel):=by
 induction fuel with
 | zero=>intro _ _ r h;rw [g_r05_distances_L4.eq_1] at h;cases h
 | succ fuel ih =>
  intro out4 k2 r h E hE
  rw [g_r05_distances_L4.eq_2] at h
  refine rnR hE 2 [] [] (kp [3,7,8,9,12,13,14,66]) (kq [0,1,2]) 51 pn ?_
  refine rnC 0 66 h (fun hq5 h=>?_) (fun hq5 h=>?_)
  ·obtain ⟨c7,h⟩:=ifSome h
   refine rnR hE 5 [] [] (kp [3,7,8,9,12,13,14,74]) (kq [0,1,2]) 147 (pc c7 (pc (ltOf c7) pn)) ?_
   refine rnC 0 74 h (fun hq6 h=>?_) (fun hq6 h=>?_)
   ·exact rnW hE 1 [] (kp [3,7,8,9,12,13,14]) (kq [0,1,2]) 3 pn (g_r05_distances_J5_ok N _ _ _ _ _ _ _ _ ih hK_g_r05_distances_L3 _ _ h E hE)
   ·refine rnR hE 2 [] [] (kp [3,7,8,9,12,13,14,15]) (kq [0,1,2]) 163 pn ?_
    exact rnW hE 2 [] (kp [3,7,8,9,12,13,14,15]) (kq [0,1,2]) 3 pn (g_r05_distances_L6_ok N _ _ _ _ _ _ _ _ ih hK_g_r05_distances_L3 N _ _ _ h E hE)
  ·refine rnR hE 2 [] [] (kp [3,7,8,9,12,13]) (kq [0,1,2]) 99 pn ?_
   exact rnW hE 1 [] (kp [3,7,8,9,12,13]) (kq [0,1,2]) 3 pn (hK_g_r05_distances_L3 _ _ _ h E hE)
theorem g_r05_distances_L3_ok (N:Nat) (p:TPn) (rStates:Int) (good:List Bool) (rMoves:(List TMove)) (fuel:Nat):g_r05_distances_L3_H N p rStates good rMoves (g_r05_distances_L3 N p rStates good rMoves fuel):=by
 induction fuel with
 | zero=>intro _ _ r h;rw [g_r05_distances_L3.eq_1] at h;cases h
 | succ fuel ih =>
  intro out3 d r h E hE
  rw [g_r05_distances_L3.eq_2] at h
  refine rnR hE 2 [] [] (kp [3,7,8,9,12,13,61]) (kq [0,1,2]) 51 pn ?_
  refine rnC 0 61 h (fun hq4 h=>?_) (fun hq4 h=>?_)
  ·refine rnR hE 4 [] [] (kp [3,7,8,9,12,13,14]) (kq [0,1,2]) 67 pn ?_
   exact rnW hE 2 [] (kp [3,7,8,9,12,13,14]) (kq [0,1,2]) 3 pn (g_r05_distances_L4_ok N _ _ _ _ _ _ ih N _ _ _ h E hE)
  ·refine rnR hE 2 [] [] (kp [6]) (kq [1]) 83 pn ?_
   obtain rfl:=osI h
   exact rnT hE 0 Tryz.f31 [1] [(6,.sl (out3.length) (fun zi=>cI (out3.getD zi 0)))] [] 83 (pc (Eq.refl out3.length) (pc (z1 out3.length) (pc (show ∀ zi,zi < out3.length→(fun zi=>cI (out3.getD zi 0)) zi=(fun zi=>cI (out3.getD zi 0)) (addz 0 zi) from (fun _ _=>rfl)) pn))) [] pn
theorem g_r05_distances_L1_ok (N:Nat) (p:TPn) (l:TLimits) (a:TAim) (rStates:Int) (fuel:Nat):g_r05_distances_L1_H N p l a rStates (g_r05_distances_L1 N p l a rStates fuel):=by
 induction fuel with
 | zero=>intro _ _ _ r h;rw [g_r05_distances_L1.eq_1] at h;cases h
 | succ fuel ih =>
  intro out good k r h E hE
  rw [g_r05_distances_L1.eq_2] at h
  refine rnR hE 2 [] [] (kp [3,4,5,7,8,9,10,26]) (kq [0,1,2,3,4]) 53 pn ?_
  refine rnC 0 26 h (fun hq2 h=>?_) (fun hq2 h=>?_)
  ·obtain ⟨rState,hr2,h⟩:=bsm h
   refine rnR hE 4 [(2,⟨[],true,(encL cI 0 rState),[],0,false,none⟩)] [] (kp [3,4,5,7,8,9,10,11]) (kq [0,1,2,3,4]) 117 (pc o1 (pc (g_r05_State_ok N p k rState hr2) pn)) ?_
   obtain ⟨c3,h⟩:=ifSome h
   refine rnR hE 1 [] [] (kp [3,4,5,7] ++ [(8,.osl ((out.set ((k).toNat) (-1)).length))] ++ kp [9,10,11]) (kq [0,1,2] ++ [(3,.arr 3 ((out.set ((k).toNat) (-1)).length) (fun zi=>cI ((out.set ((k).toNat) (-1)).getD zi 0)))] ++ kq [4]) 181 (pc c3 (pc (ltOf c3) (pc (len_set0 out ((k).toNat) (-1)) (pc (len_set0 out ((k).toNat) (-1)) (pc (get_set0 cI 0 out ((k).toNat) (-1)) pn))))) ?_
   obtain ⟨rBroken,hr3,h⟩:=bsm h
   obtain ⟨c4,h⟩:=ifSome h
   refine rnR hE 1 [(5,⟨[],true,(encL cS ByteArray.empty rBroken),[],0,false,none⟩)] [] (kp [3,4,5,7,8] ++ [(9,.osl ((good.set ((k).toNat) (((rBroken.length:Nat):Int) == 0)).length))] ++ kp [10,11]) (kq [0,1,2,3] ++ [(4,.arr 4 ((good.set ((k).toNat) (((rBroken.length:Nat):Int) == 0)).length) (fun zi=>cB ((good.set ((k).toNat) (((rBroken.length:Nat):Int) == 0)).getD zi false)))]) 341 (pc o1 (pc o1 (pc (g_r05_Broken_ok N p l rState rBroken hr3) (pc c4 (pc (ltOf c4) (pc (len_set0 good ((k).toNat) (((rBroken.length:Nat):Int) == 0)) (pc (len_set0 good ((k).toNat) (((rBroken.length:Nat):Int) == 0)) (pc (get_set0 cB false good ((k).toNat) (((rBroken.length:Nat):Int) == 0)) pn)))))))) ?_
   obtain ⟨c5,h⟩:=ifSome h
   obtain ⟨rReached,hr4,h⟩:=bsm h
   refine rnR hE 1 [(8,⟨[],true,(aB rReached),[],0,false,none⟩)] [] (kp [3,4,5,7,8,9,10,53]) (kq [0,1,2,3,4]) 501 (pc c5 (pc (ltOf c5) (pc (fun hg:((good.set ((k).toNat) (((rBroken.length:Nat):Int) == 0)).getD ((k).toNat) false)=true=>(pc o1 pn)) (pc (fun hg:((good.set ((k).toNat) (((rBroken.length:Nat):Int) == 0)).getD ((k).toNat) false)=true=>(pc o1 pn)) (pc (fun hg:((good.set ((k).toNat) (((rBroken.length:Nat):Int) == 0)).getD ((k).toNat) false)=true=>(pc (g_r05_Reached_ok N p a rState rReached (condT hr4 hg)) (pc hg (pc hg (pc hg pn))))) (pc (fun hq:((good.set ((k).toNat) (((rBroken.length:Nat):Int) == 0)).getD ((k).toNat) false)=true=>(pc hq pn)) pn)))))) ?_
   refine rnC 0 53 h (fun hq3 h=>?_) (fun hq3 h=>?_)
   ·obtain ⟨c6,h⟩:=ifSome h
    refine rnR hE 0 [] [] (kp [3,4,5,7] ++ [(8,.osl (((out.set ((k).toNat) (-1)).set ((k).toNat) 0).length))] ++ kp [9,10]) (kq [0,1,2] ++ [(3,.arr 3 (((out.set ((k).toNat) (-1)).set ((k).toNat) 0).length) (fun zi=>cI (((out.set ((k).toNat) (-1)).set ((k).toNat) 0).getD zi 0)))] ++ kq [4]) 565 (pc c6 (pc (ltOf c6) (pc (len_set0 (out.set ((k).toNat) (-1)) ((k).toNat) 0) (pc (len_set0 (out.set ((k).toNat) (-1)) ((k).toNat) 0) (pc (get_set0 cI 0 (out.set ((k).toNat) (-1)) ((k).toNat) 0) pn))))) ?_
    exact rnW hE 1 [] (kp [3,4,5,7,8,9,10]) (kq [0,1,2,3,4]) 5 pn (g_r05_distances_J2_ok N _ _ _ _ _ _ _ _ ih _ _ h E hE)
   ·exact rnW hE 2 [] (kp [3,4,5,7,8,9,10]) (kq [0,1,2,3,4]) 5 pn (g_r05_distances_J2_ok N _ _ _ _ _ _ _ _ ih _ _ h E hE)
  ·obtain ⟨rMoves,hr5,h⟩:=bsm h
   refine rnR hE 2 [(1,⟨[],true,(encL TMove.cells TMove.d rMoves),[],0,false,none⟩)] [] (kp [3,7,8,9,12]) (kq [0,3,4]) 101 (pc o1 (pc (g_r05_Moves_ok N p rMoves hr5) pn)) ?_
   refine rnR hE 2 [] [] (kp [3,7,8,9,12,13]) (kq [0,3,4]) 117 pn ?_
   exact rnW hE 2 [] (kp [3,7,8,9,12,13]) (kq [0] ++ [(1,.keep 3),(2,.keep 4)]) 3 pn (g_r05_distances_L3_ok N _ _ _ _ N _ _ _ h E hE)
theorem g_r05_distances_ok (N:Nat) (p:TPn) (l:TLimits) (a:TAim) (r:(List Int)) (h:g_r05_distances N p l a=some r):Sd 31 [(.agg (TPn.cells p)),(.agg (TLimits.cells l)),(.agg (TAim.cells a))] [] 0 (encL cI 0 r) []:=by
 unfold g_r05_distances at h
 refine sor (fu:=Tryz.f31) (c:=C_114 1) (nt:=119) (by kernel_rfl) (by kernel_rfl) (by kernel_rfl) (by kernel_rfl) (fun hm=>rfl) ?_
 intro E hE
 refine rnR hE 1 [] [] (kp [3,4,5]) (kq [0,16,32]) 64 pn ?_
 obtain ⟨rStates,hr,h⟩:=bsm h
 refine rnR hE 1 [(1,⟨[],true,(aI rStates),[],0,false,none⟩)] [] (kp [3,4,5,7]) (kq [0,16,32]) 112 (pc o1 (pc (g_r05_States_ok N p 20000 rStates hr) pn)) ?_
 obtain ⟨c,h⟩:=ifSome h
 refine rnR hE 1 [] [] (kp [3,4,5,7] ++ [(8,.osl ((List.replicate ((rStates).toNat) 0:List Int).length))]) (kq [0,16,32] ++ [(128,.arr 128 ((List.replicate ((rStates).toNat) 0:List Int).length) (fun zi=>cI ((List.replicate ((rStates).toNat) 0:List Int).getD zi 0)))]) 160 (pc (show 0≤rStates from c.1) (pc (show rStates≤rStates from (Int.le_refl _)) (pc (show (8:Int) * rStates≤281474976710656 from c.2.1) (pc (show rStates≤9223372036854775807 from c.2.2) (pc (show (rStates).toNat=(List.replicate ((rStates).toNat) 0:List Int).length from (List.length_replicate).symm) (pc (show (rStates).toNat=(List.replicate ((rStates).toNat) 0:List Int).length from (List.length_replicate).symm) (pc (show ∀ zi,zi < (List.replicate ((rStates).toNat) 0:List Int).length→(fun zi=>cI ((List.replicate ((rStates).toNat) 0:List Int).getD zi 0)) zi=(fun _=>[(aI 0)]) zi from (fun zq hzq=>get_rep cI 0 0 ((rStates).toNat) zq hzq)) pn))))))) ?_
 obtain ⟨c2,h⟩:=ifSome h
 refine rnR hE 1 [] [] (kp [3,4,5,7,8] ++ [(9,.osl ((List.replicate ((rStates).toNat) false:List Bool).length))]) (kq [0,16,32,128] ++ [(176,.arr 176 ((List.replicate ((rStates).toNat) false:List Bool).length) (fun zi=>cB ((List.replicate ((rStates).toNat) false:List Bool).getD zi false)))]) 208 (pc (show 0≤rStates from c2.1) (pc (show rStates≤rStates from (Int.le_refl _)) (pc (show (1:Int) * rStates≤281474976710656 from c2.2.1) (pc (show rStates≤9223372036854775807 from c2.2.2) (pc (show (rStates).toNat=(List.replicate ((rStates).toNat) false:List Bool).length from (List.length_replicate).symm) (pc (show (rStates).toNat=(List.replicate ((rStates).toNat) false:List Bool).length from (List.length_replicate).symm) (pc (show ∀ zi,zi < (List.replicate ((rStates).toNat) false:List Bool).length→(fun zi=>cB ((List.replicate ((rStates).toNat) false:List Bool).getD zi false)) zi=(fun _=>[(aB false)]) zi from (fun zq hzq=>get_rep cB false false ((rStates).toNat) zq hzq)) pn))))))) ?_
 refine rnR hE 2 [] [] (kp [3,4,5,7,8,9,10]) (kq [0,16,32,128,176]) 224 pn ?_
 exact rnW hE 2 [] (kp [3,4,5,7,8,9,10]) (kq [0] ++ [(1,.keep 16),(2,.keep 32),(3,.keep 128),(4,.keep 176)]) 5 pn (g_r05_distances_L1_ok N _ _ _ _ N _ _ _ _ h E hE)
noncomputable def C_77 (n:Nat):Code:=cat (bodyOf Tryz.f8) (pth n)
def g_r05_Ballast_L1_H (N:Nat) (p:TPn) (rdistances:(List Int)) (rMoves:(List TMove)) (K:(List Int)→(List TMove)→Option ((List TMove)×Int)):Prop:=∀ (vat:List Int) (out:List TMove) (r:(List TMove)×Int),K vat out=some r→∀ E,EnvOk E 0→Runs Tryz.prog E 8 99 (SPost E [] (.tup [(encL TMove.cells TMove.d r.1),(aI r.2)])) [.code (C_77 8184),.inLoop (C_77 8184),.inBlock 0,.code (C_77 2047)] ⟨[(3,(.op 0 0 0)),(9,(encL cI 0 rdistances)),(10,(.os 1 0 vat.length)),(11,(.os 2 0 out.length)),(12,(encL TMove.cells TMove.d rMoves))],[(0,vO 5 (TPn.cells p)),(1,aO 1 cI 0 vat),(2,aO 2 TMove.cells TMove.d out)],3⟩
def g_r05_Ballast_L2_H (N:Nat) (p:TPn) (rdistances:(List Int)) (rMoves:(List TMove)) (vat:List Int) (out:List TMove) (K:Int→Option ((List TMove)×Int)):Prop:=∀ (i:Int) (r:(List TMove)×Int),K i=some r→∀ E,EnvOk E 0→Runs Tryz.prog E 8 99 (SPost E [] (.tup [(encL TMove.cells TMove.d r.1),(aI r.2)])) [.code (C_77 261908),.inLoop (C_77 261908),.inBlock 2,.inBlock 1,.inLoop (C_77 8184),.inBlock 0,.code (C_77 2047)] ⟨[(3,(.op 0 0 0)),(9,(encL cI 0 rdistances)),(10,(.os 1 0 vat.length)),(11,(.os 2 0 out.length)),(12,(encL TMove.cells TMove.d rMoves)),(13,(aI i))],[(0,vO 5 (TPn.cells p)),(1,aO 1 cI 0 vat),(2,aO 2 TMove.cells TMove.d out)],3⟩
theorem g_r05_Ballast_L2_ok (N:Nat) (p:TPn) (rdistances:(List Int)) (rMoves:(List TMove)) (vat:List Int) (out:List TMove) (K_g_r05_Ballast_L1:(List Int)→(List TMove)→Option ((List TMove)×Int)) (hK_g_r05_Ballast_L1:g_r05_Ballast_L1_H N p rdistances rMoves K_g_r05_Ballast_L1) (fuel:Nat):g_r05_Ballast_L2_H N p rdistances rMoves vat out (g_r05_Ballast_L2 N p rdistances rMoves vat out K_g_r05_Ballast_L1 fuel):=by
 induction fuel with
 | zero=>intro _ r h;rw [g_r05_Ballast_L2.eq_1] at h;cases h
 | succ fuel ih =>
  intro i r h E hE
  rw [g_r05_Ballast_L2.eq_2] at h
  refine rnR hE 2 [] [] (kp [3,9,10,11,12,13,60]) (kq [0,1,2]) 67 pn ?_
  refine rnC 0 60 h (fun hq7 h=>?_) (fun hq7 h=>?_)
  ·obtain ⟨c4,h⟩:=ifSome h
   obtain ⟨rMade,hr8,h⟩:=bsm h
   refine rnR hE 4 [(6,⟨[],false,(.tup [(.os 0 0 rMade.1.length),(aB rMade.2)]),[(0,aO 1 cI 0 rMade.1)],0,false,none⟩)] [] (kp [3,9,10,11,12,13,14,15]) (kq [0,1,2,163]) 259 (pc o1 (pc c4 (pc (g_r05_Made_ok N p vat (rMoves.getD ((i).toNat) TMove.d) rMade hr8) (pc (show ∀ zi,zi < rMade.1.length→AV.flatL (cI (rMade.1.getD zi 0))=true from (fun _ _=>rfl)) (pc (z1 vat.length) pn))))) ?_
   obtain ⟨rNumber3,hr9,h⟩:=bsm h
   obtain ⟨c5,h⟩:=ifSome h
   obtain ⟨rNumber4,hr10,h⟩:=bsm h
   obtain ⟨c6,h⟩:=ifSome h
   refine rnR hE 1 [(5,⟨[],true,(aI rNumber3),[],0,false,none⟩),(11,⟨[],true,(aI rNumber4),[],0,false,none⟩)] [] (kp [3,9,10,11,12,13,14,89]) (kq [0,1,2,163]) 531 (pc (fun hg:rMade.2=true=>(pc o1 pn)) (pc (fun hg:rMade.2=true=>(pc (g_r05_Number_ok N p rMade.1 rNumber3 (condT hr9 hg)) (pc (z1 rMade.1.length) (pc hg (pc hg pn))))) (pc (fun hg:rMade.2=true=>(pc hg (pc hg (pc (c5 hg) pn)))) (pc (fun hg:rMade.2=true=>(pc hg pn)) (pc (fun hg:rMade.2=true=>(pc o1 pn)) (pc (fun hg:rMade.2=true=>(pc (g_r05_Number_ok N p vat rNumber4 (condT hr10 hg)) (pc (z1 vat.length) (pc hg (pc hg pn))))) (pc (fun hg:rMade.2=true=>(pc hg (pc hg (pc (c6 hg) pn)))) (pc (fun hg:rMade.2=true=>(pc hg pn)) (pc (fun hg:rMade.2=true=>(pc hg pn)) (pc (fun hg:rMade.2=true=>(pc hg (pc hg pn))) (pc (fun hq:rMade.2=true=>(pc hq pn)) pn))))))))))) ?_
   refine rnC 0 89 h (fun hq8 h=>?_) (fun hq8 h=>?_)
   ·obtain ⟨c7,h⟩:=ifSome h
    refine rnR hE 1 [] [] (kp [3,9] ++ [(11,.osl ((out ++ ([(rMoves.getD ((i).toNat) TMove.d)]:List TMove)).length))] ++ kp [12,14]) (kq [0,163] ++ [(627,.arr 627 ((out ++ ([(rMoves.getD ((i).toNat) TMove.d)]:List TMove)).length) (fun zi=>TMove.cells ((out ++ ([(rMoves.getD ((i).toNat) TMove.d)]:List TMove)).getD zi TMove.d)))]) 659 (pc c4 (pc (Eq.refl out.length) (pc c7 (pc (z1 1) (pc (show ∀ zi,zi < 1→AV.oneL ((fun zi=>([[(aI ((rMoves.getD ((i).toNat) TMove.d).f_Tank)),(aB ((rMoves.getD ((i).toNat) TMove.d).f_Up))]]:List (List AV)).getD zi []) (addz 0 zi))=true from (oneN rfl)) (pc (show (out.length+1)=(out ++ ([(rMoves.getD ((i).toNat) TMove.d)]:List TMove)).length from (len_app_raw rfl rfl)) (pc (show out.length+1=(out ++ ([(rMoves.getD ((i).toNat) TMove.d)]:List TMove)).length from (len_app_raw rfl rfl)) (pc (show ∀ zi,zi < (out ++ ([(rMoves.getD ((i).toNat) TMove.d)]:List TMove)).length→(fun zi=>TMove.cells ((out ++ ([(rMoves.getD ((i).toNat) TMove.d)]:List TMove)).getD zi TMove.d)) zi=((fun zm=>if zm < out.length then (fun zi=>TMove.cells (out.getD zi TMove.d)) zm else (fun zi=>([[(aI ((rMoves.getD ((i).toNat) TMove.d).f_Tank)),(aB ((rMoves.getD ((i).toNat) TMove.d).f_Up))]]:List (List AV)).getD zi []) (zm - out.length))) zi from (get_app_raw TMove.cells TMove.d out ([(rMoves.getD ((i).toNat) TMove.d)]:List TMove) rfl (fun _ _=>rfl) (fun zq hzq=>get_chunk TMove.cells TMove.d ([(rMoves.getD ((i).toNat) TMove.d)]:List TMove) zq hzq))) pn)))))))) ?_
    refine rnR hE 1 [] [] (kp [3,9,10,11,12]) (kq [0,163,627]) 691 pn ?_
    exact rnW hE 3 [] (kp [3,9,10,11,12]) (kq [0] ++ [(1,.keep 163),(2,.keep 627)]) 3 pn (hK_g_r05_Ballast_L1 _ _ _ h E hE)
   ·refine rnR hE 2 [] [] (kp [3,9,10,11,12,13]) (kq [0,1,2]) 579 pn ?_
    exact rnW hE 1 [] (kp [3,9,10,11,12,13]) (kq [0,1,2]) 3 pn (ih _ _ h E hE)
  ·exact rnW hE 3 [] (kp [3,9,10,11,12]) (kq [0,1,2]) 3 pn (hK_g_r05_Ballast_L1 _ _ _ h E hE)
theorem g_r05_Ballast_L1_ok (N:Nat) (p:TPn) (rdistances:(List Int)) (rMoves:(List TMove)) (fuel:Nat):g_r05_Ballast_L1_H N p rdistances rMoves (g_r05_Ballast_L1 N p rdistances rMoves fuel):=by
 induction fuel with
 | zero=>intro _ _ r h;rw [g_r05_Ballast_L1.eq_1] at h;cases h
 | succ fuel ih =>
  intro vat out r h E hE
  rw [g_r05_Ballast_L1.eq_2] at h
  obtain ⟨rNumber2,hr7,h⟩:=bsm h
  obtain ⟨c3,h⟩:=ifSome h
  refine rnR hE 2 [(3,⟨[],true,(aI rNumber2),[],0,false,none⟩)] [] (kp [3,9,10,11,12,56]) (kq [0,1,2]) 115 (pc o1 (pc (g_r05_Number_ok N p vat rNumber2 hr7) (pc (z1 vat.length) (pc c3 pn)))) ?_
  refine rnC 0 56 h (fun hq6 h=>?_) (fun hq6 h=>?_)
  ·refine rnR hE 3 [] [] (kp [3,9,10,11,12,13]) (kq [0,1,2]) 131 pn ?_
   exact rnW hE 2 [] (kp [3,9,10,11,12,13]) (kq [0,1,2]) 3 pn (g_r05_Ballast_L2_ok N _ _ _ _ _ _ ih N _ _ h E hE)
  ·refine rnR hE 2 [] [] (kp [6,7]) (kq [2]) 163 pn ?_
   obtain rfl:=osI h
   exact rnT hE 0 Tryz.f8 [2] ([(6,.sl (out.length) (fun zi=>TMove.cells (out.getD zi TMove.d)))] ++ kp [7]) [] 163 (pc (Eq.refl out.length) (pc (z1 out.length) (pc (show ∀ zi,zi < out.length→(fun zi=>TMove.cells (out.getD zi TMove.d)) zi=(fun zi=>TMove.cells (out.getD zi TMove.d)) (addz 0 zi) from (fun _ _=>rfl)) pn))) [] pn
theorem g_r05_Ballast_ok (N:Nat) (p:TPn) (l:TLimits) (a:TAim) (r:(List TMove)×Int) (h:g_r05_Ballast N p l a=some r):Sd 8 [(.agg (TPn.cells p)),(.agg (TLimits.cells l)),(.agg (TAim.cells a))] [] 0 (.tup [(encL TMove.cells TMove.d r.1),(aI r.2)]) []:=by
 unfold g_r05_Ballast at h
 refine sor (fu:=Tryz.f8) (c:=C_77 1) (nt:=99) (by kernel_rfl) (by kernel_rfl) (by kernel_rfl) (by kernel_rfl) (fun hm=>rfl) ?_
 intro E hE
 refine rnR hE 1 [] [] (kp [3,4,5]) (kq [0,16,32]) 80 pn ?_
 obtain ⟨rCheckBegin,hr,h⟩:=bsm h
 refine rnR hE 2 [(3,⟨[],true,(aI rCheckBegin),[],0,false,none⟩)] [] (kp [3,4,5,8]) (kq [0,16,32]) 160 (pc o1 (pc o1 (pc o1 (pc (g_r05_CheckBegin_ok N p l a rCheckBegin hr) pn)))) ?_
 refine rnR hE 1 [] [] (kp [3,4,5,8,21]) (kq [0,16,32]) 192 pn ?_
 refine rnC 0 21 h (fun hq2 h=>?_) (fun hq2 h=>?_)
 ·refine rnR hE 1 [] [] (kp [6,7]) [] 240 pn ?_
  obtain rfl:=osI h
  exact rnT hE 0 Tryz.f8 [] ([(6,.sl (([]:List TMove).length) (fun zi=>TMove.cells (([]:List TMove).getD zi TMove.d)))] ++ kp [7]) [] 240 (pc (Eq.refl 0) pn) [] pn
 ·obtain ⟨rStates,hr2,h⟩:=bsm h
  refine rnR hE 3 [(1,⟨[],true,(aI rStates),[],0,false,none⟩)] [] (kp [3,4,5,25]) (kq [0,16,32]) 240 (pc o1 (pc (g_r05_States_ok N p 20000 rStates hr2) pn)) ?_
  refine rnC 0 25 h (fun hq3 h=>?_) (fun hq3 h=>?_)
  ·refine rnR hE 1 [] [] (kp [6,7]) [] 272 pn ?_
   obtain rfl:=osI h
   exact rnT hE 0 Tryz.f8 [] ([(6,.sl (([]:List TMove).length) (fun zi=>TMove.cells (([]:List TMove).getD zi TMove.d)))] ++ kp [7]) [] 272 (pc (Eq.refl 0) pn) [] pn
  ·obtain ⟨rBroken,hr3,h⟩:=bsm h
   refine rnR hE 3 [(4,⟨[],true,(encL cS ByteArray.empty rBroken),[],0,false,none⟩)] [] (kp [3,4,5,32]) (kq [0,16,32]) 352 (pc o1 (pc o1 (pc o1 (pc (g_r05_Broken_ok N p l a.f_Start rBroken hr3) pn)))) ?_
   refine rnC 0 32 h (fun hq4 h=>?_) (fun hq4 h=>?_)
   ·refine rnR hE 1 [] [] (kp [6,7]) [] 384 pn ?_
    obtain rfl:=osI h
    exact rnT hE 0 Tryz.f8 [] ([(6,.sl (([]:List TMove).length) (fun zi=>TMove.cells (([]:List TMove).getD zi TMove.d)))] ++ kp [7]) [] 384 (pc (Eq.refl 0) pn) [] pn
   ·obtain ⟨rdistances,hr4,h⟩:=bsm h
    refine rnR hE 2 [(3,⟨[],true,(encL cI 0 rdistances),[],0,false,none⟩)] [] (kp [3,5,9]) (kq [0,32]) 432 (pc o1 (pc o1 (pc o1 (pc (g_r05_distances_ok N p l a rdistances hr4) pn)))) ?_
    obtain ⟨c,h⟩:=ifSome h
    refine rnR hE 1 [] [] (kp [3,9] ++ [(10,.osl ((([]:List Int) ++ a.f_Start).length))]) (kq [0] ++ [(480,.arr 480 ((([]:List Int) ++ a.f_Start).length) (fun zi=>cI ((([]:List Int) ++ a.f_Start).getD zi 0)))]) 512 (pc o1 (pc (Eq.refl 0) (pc c (pc (show ∀ zi,zi < a.f_Start.length→AV.oneL ((fun zi=>cI (a.f_Start.getD zi 0)) zi)=true from (fun _ _=>rfl)) (pc (show (0+a.f_Start.length)=(([]:List Int) ++ a.f_Start).length from (len_app_raw rfl rfl)) (pc (show 0+a.f_Start.length=(([]:List Int) ++ a.f_Start).length from (len_app_raw rfl rfl)) (pc (show ∀ zi,zi < (([]:List Int) ++ a.f_Start).length→(fun zi=>cI ((([]:List Int) ++ a.f_Start).getD zi 0)) zi=((fun zm=>if zm < 0 then (fun _=>[]) zm else (fun zi=>cI (a.f_Start.getD zi 0)) (zm - 0))) zi from (get_app_raw cI 0 ([]:List Int) a.f_Start rfl (fun zq hzq=>absurd hzq (Nat.not_lt_zero _)) (fun _ _=>rfl))) pn))))))) ?_
    obtain ⟨rNumber,hr5,h⟩:=bsm h
    obtain ⟨c2,h⟩:=ifSome h
    refine rnR hE 2 [(3,⟨[],true,(aI rNumber),[],0,false,none⟩)] [] (kp [3,9,10,47]) (kq [0,480]) 624 (pc o1 (pc (g_r05_Number_ok N p (([]:List Int) ++ a.f_Start) rNumber hr5) (pc (z1 ((([]:List Int) ++ a.f_Start).length)) (pc c2 pn)))) ?_
    refine rnC 0 47 h (fun hq5 h=>?_) (fun hq5 h=>?_)
    ·refine rnR hE 1 [] [] (kp [6,7]) [] 656 pn ?_
     obtain rfl:=osI h
     exact rnT hE 0 Tryz.f8 [] ([(6,.sl (([]:List TMove).length) (fun zi=>TMove.cells (([]:List TMove).getD zi TMove.d)))] ++ kp [7]) [] 656 (pc (Eq.refl 0) pn) [] pn
    ·refine rnR hE 2 [] [] (kp [3,9,10,11]) (kq [0,480]) 640 pn ?_
     obtain ⟨rMoves,hr6,h⟩:=bsm h
     refine rnR hE 1 [(1,⟨[],true,(encL TMove.cells TMove.d rMoves),[],0,false,none⟩)] [] (kp [3,9,10,11,12]) (kq [0,480]) 688 (pc o1 (pc (g_r05_Moves_ok N p rMoves hr6) pn)) ?_
     exact rnW hE 3 [] (kp [3,9,10] ++ [(11,.nilos 2)] ++ kp [12]) (kq [0] ++ [(1,.keep 480),(2,.nil 2 (fun zi=>TMove.cells (([]:List TMove).getD zi TMove.d)))]) 3 pn (g_r05_Ballast_L1_ok N _ _ _ N _ _ _ h E hE)
noncomputable def C_120 (n:Nat):Code:=cat (bodyOf Tryz.f9) (pth n)
def g_w05_sameMoves_L1_H (N:Nat) (a:List TMove) (b:List TMove) (K:Int→Option (Bool)):Prop:=∀ (i:Int) (r:Bool),K i=some r→∀ E,EnvOk E 0→Runs Tryz.prog E 9 26 (SPost E [] (aB r)) [.code (C_120 116),.inLoop (C_120 116),.inBlock 0,.code (C_120 15)] ⟨[(0,(encL TMove.cells TMove.d a)),(1,(encL TMove.cells TMove.d b)),(5,(aI i))],[],0⟩
theorem g_w05_sameMoves_L1_ok (N:Nat) (a:List TMove) (b:List TMove) (fuel:Nat):g_w05_sameMoves_L1_H N a b (g_w05_sameMoves_L1 N a b fuel):=by
 induction fuel with
 | zero=>intro _ r h;rw [g_w05_sameMoves_L1.eq_1] at h;cases h
 | succ fuel ih =>
  intro i r h E hE
  rw [g_w05_sameMoves_L1.eq_2] at h
  refine rnR hE 2 [] [] (kp [0,1,5,14]) [] 64 pn ?_
  refine rnC 0 14 h (fun hq3 h=>?_) (fun hq3 h=>?_)
  ·obtain ⟨c,h⟩:=ifSome h
   obtain ⟨c2,h⟩:=ifSome h
   refine rnR hE 4 [] [] (kp [0,1,5,25]) [] 208 (pc c (pc c2 pn)) ?_
   refine rnC 0 25 h (fun hq4 h=>?_) (fun hq4 h=>?_)
   ·refine rnR hE 1 [] [] (kp [4]) [] 224 pn ?_
    obtain rfl:=osI h
    exact rnT hE 0 Tryz.f9 [] (kp [4]) [] 224 pn [] pn
   ·refine rnR hE 2 [] [] (kp [0,1,5]) [] 256 pn ?_
    exact rnW hE 1 [] (kp [0,1,5]) [] 0 pn (ih _ _ h E hE)
  ·refine rnR hE 2 [] [] (kp [4]) [] 80 pn ?_
   obtain rfl:=osI h
   exact rnT hE 0 Tryz.f9 [] (kp [4]) [] 80 pn [] pn
theorem g_w05_sameMoves_ok (N:Nat) (a:List TMove) (b:List TMove) (r:Bool) (h:g_w05_sameMoves N a b=some r):Sd 9 [(encL TMove.cells TMove.d a),(encL TMove.cells TMove.d b)] [] 0 (aB r) []:=by
 unfold g_w05_sameMoves at h
 refine sor (fu:=Tryz.f9) (c:=C_120 1) (nt:=26) (by kernel_rfl) (by kernel_rfl) (by kernel_rfl) (by kernel_rfl) (fun hm=>rfl) ?_
 intro E hE
 refine rnR hE 1 [] [] (kp [0,1]) [] 16 pn ?_
 refine rnR hE 2 [] [] (kp [0,1,10]) [] 96 pn ?_
 refine rnC 0 10 h (fun hq2 h=>?_) (fun hq2 h=>?_)
 ·refine rnR hE 1 [] [] (kp [4]) [] 112 pn ?_
  obtain rfl:=osI h
  exact rnT hE 0 Tryz.f9 [] (kp [4]) [] 112 pn [] pn
 ·refine rnR hE 3 [] [] (kp [0,1,5]) [] 112 pn ?_
  exact rnW hE 2 [] (kp [0,1,5]) [] 0 pn (g_w05_sameMoves_L1_ok N _ _ N _ _ h E hE)
noncomputable def C_0 (n:Nat):Code:=cat (bodyOf Tryz.f3) (pth n)
theorem g_w05_WaterBallast_ok (N:Nat) (p:TPn) (l:TLimits) (a:TAim) (r:Bool) (h:g_w05_WaterBallast N p l a=some r):Sd 3 [(.agg (TPn.cells p)),(.agg (TLimits.cells l)),(.agg (TAim.cells a))] [] 0 (aB r) []:=by
 unfold g_w05_WaterBallast at h
 refine sor (fu:=Tryz.f3) (c:=C_0 1) (nt:=44) (by kernel_rfl) (by kernel_rfl) (by kernel_rfl) (by kernel_rfl) (fun hm=>rfl) ?_
 intro E hE
 refine rnR hE 1 [] [] (kp [3,4,5]) (kq [0,16,32]) 64 pn ?_
 obtain ⟨rafloat,hr,h⟩:=bsm h
 refine rnR hE 2 [(0,⟨[],true,(aB rafloat),[],0,false,none⟩)] [] (kp [3,4,5,12]) (kq [0,16,32]) 96 (pc (g_w05_afloat_ok N rafloat hr) pn) ?_
 refine rnC 0 12 h (fun hq2 h=>?_) (fun hq2 h=>?_)
 ·refine rnR hE 1 [] [] (kp [6]) [] 112 pn ?_
  obtain rfl:=osI h
  exact rnT hE 0 Tryz.f3 [] (kp [6]) [] 112 pn [] pn
 ·obtain ⟨rlight,hr2,h⟩:=bsm h
  refine rnR hE 3 [(1,⟨[],true,(aB rlight),[],0,false,none⟩)] [] (kp [3,4,5,21]) (kq [0,16,32]) 240 (pc o1 (pc (g_w05_light_ok N p rlight hr2) (pc (fun hg:(!(!rlight))=true=>(pc hg (pc o1 pn))) (pc (fun hg:(!(!rlight))=true=>(pc hg pn)) (pc (fun hg:(!(!rlight))=true=>(pc hg pn)) (pc (fun hq:(!(!rlight))=true=>(pc hq pn)) pn)))))) ?_
  refine rnC 0 21 h (fun hq3 h=>?_) (fun hq3 h=>?_)
  ·refine rnR hE 1 [] [] (kp [6]) [] 256 pn ?_
   obtain rfl:=osI h
   exact rnT hE 0 Tryz.f3 [] (kp [6]) [] 256 pn [] pn
  ·obtain ⟨rBallast,hr3,h⟩:=bsm h
   refine rnR hE 2 [(3,⟨[],true,(.tup [(encL TMove.cells TMove.d rBallast.1),(aI rBallast.2)]),[],0,false,none⟩)] [] (kp [3,4,5,7,8]) (kq [0,16,32]) 384 (pc o1 (pc o1 (pc o1 (pc (g_w_Ballast_ok N p l a rBallast hr3) pn)))) ?_
   obtain ⟨rBallast2,hr4,h⟩:=bsm h
   refine rnR hE 1 [(3,⟨[],true,(.tup [(encL TMove.cells TMove.d rBallast2.1),(aI rBallast2.2)]),[],0,false,none⟩)] [] (kp [7,8,9,10]) [] 528 (pc o1 (pc o1 (pc o1 (pc (g_r05_Ballast_ok N p l a rBallast2 hr4) pn)))) ?_
   obtain ⟨rsameMoves,hr5,h⟩:=bsm h
   refine rnR hE 1 [(2,⟨[],true,(aB rsameMoves),[],0,false,none⟩)] [] (kp [6]) [] 672 (pc (g_w05_sameMoves_ok N rBallast.1 rBallast2.1 rsameMoves hr5) (pc (fun hg:rsameMoves=true=>(pc hg (pc hg pn))) (pc (fun hq:rsameMoves=true=>(pc hq pn)) pn))) ?_
   obtain rfl:=osI h
   exact rnT hE 0 Tryz.f3 [] (kp [6]) [] 672 pn [] pn
end Go.Den
