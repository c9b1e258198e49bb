/- Each function of the program does what its Lean function computes (part 2). No conditions. -/
import Derived.Test.YthnmoifahladaaaTopShortestBallastSa
import Derived.Test.YthnmoifahladaaaProg
set_option linter.unusedVariables false
set_option maxRecDepth 100000
namespace Go.Den
open Go.Ab Go.Proofs
noncomputable def C_74 (n:Nat):Code:=cat (bodyOf Try.f27) (pth n)
def g_water_plan_way_L1_H (N:Nat) (t:Twater_plan) (cap0:List (Twater_state×Twater_arrival)) (K:Twater_state→(List TMove)→Option ((List TMove))):Prop:=∀ (s2:Twater_state) (out:List TMove) (r:(List TMove)),K s2 out=some r→∀ E,EnvOk E 1→Runs Try.prog E 27 26 (SPost E [(0,⟨false,0,0,true,fun _=>encM (fun x=>.agg (Twater_state.cells x)) (fun x=>.agg (Twater_arrival.cells x)) cap0⟩),(1,aO 2 TMove.cells TMove.d r)] (.os 1 0 r.length)) [.code (C_74 56),.inLoop (C_74 56),.inBlock 0,.code (C_74 15)] ⟨[(1,(.mp 0)),(3,(.op 1 0 0)),(5,(.op 2 0 0)),(7,(.os 3 0 out.length))],[(0,⟨false,0,0,true,fun _=>encM (fun x=>.agg (Twater_state.cells x)) (fun x=>.agg (Twater_arrival.cells x)) cap0⟩),(1,vO 18 (Twater_plan.cells t)),(2,vO 6 (Twater_state.cells s2)),(3,aO 2 TMove.cells TMove.d out)],4⟩
theorem g_water_plan_way_L1_ok (N:Nat) (t:Twater_plan) (cap0:List (Twater_state×Twater_arrival)) (fuel:Nat):g_water_plan_way_L1_H N t cap0 (g_water_plan_way_L1 N t cap0 fuel):=by
 induction fuel with
 | zero=>intro _ _ r h;rw [g_water_plan_way_L1.eq_1] at h;cases h
 | succ fuel ih =>
  intro s2 out r h E hE
  rw [g_water_plan_way_L1.eq_2] at h
  refine Runs.nR hE 2 [] [] (kp [1,3,5,7,12]) (kq [0,1,2,3]) 68 (pc o1 (pc o1 pn)) ?_
  refine Runs.nC 0 12 h (fun hq2 h=>?_) (fun hq2 h=>?_)
  ·refine Runs.nR hE 3 [(2,⟨[],true,(.agg (Twater_arrival.cells ((mGet (fun (za zb:Twater_state)=>((zb.e0 == za.e0) && ((zb.e1 == za.e1) && ((zb.e2 == za.e2) && ((zb.e3 == za.e3) && ((zb.e4 == za.e4) && ((zb.e5 == za.e5) && true))))))) cap0 s2).getD Twater_arrival.d))),[],0,false,none⟩)] [] (kp [1,3,5,7,8]) (kq [0,1,2,3,116]) 148 (pc o1 (pc (show (Go.Ab.look Try.prog 73 (encM (fun x=>.agg (Twater_state.cells x)) (fun x=>.agg (Twater_arrival.cells x)) cap0) (.agg (Twater_state.cells s2))).map (fun zr=>zr.getD (ofConst (.agg #[.int .i64 0,.int .i64 0,.int .i64 0,.int .i64 0,.int .i64 0,.int .i64 0,.int .i64 0,.bool false])))=some (.agg (Twater_arrival.cells ((mGet (fun (za zb:Twater_state)=>((zb.e0 == za.e0) && ((zb.e1 == za.e1) && ((zb.e2 == za.e2) && ((zb.e3 == za.e3) && ((zb.e4 == za.e4) && ((zb.e5 == za.e5) && true))))))) cap0 s2).getD Twater_arrival.d))) from (look_get (fun x=>.agg (Twater_state.cells x)) (fun x=>.agg (Twater_arrival.cells x)) (d:=Twater_arrival.d) (fun _ _=>rfl) rfl _ s2)) (pc o1 pn))) ?_
   obtain ⟨c,h⟩:=ifSome h
   refine Runs.nR hE 1 [] [] (kp [1,3,5] ++ [(7,.osl ((out ++ ([(((mGet (fun (za zb:Twater_state)=>((zb.e0 == za.e0) && ((zb.e1 == za.e1) && ((zb.e2 == za.e2) && ((zb.e3 == za.e3) && ((zb.e4 == za.e4) && ((zb.e5 == za.e5) && true))))))) cap0 s2).getD Twater_arrival.d).f_move)]:List TMove)).length))] ++ kp [8]) (kq [0,1,2,116] ++ [(212,.arr 212 ((out ++ ([(((mGet (fun (za zb:Twater_state)=>((zb.e0 == za.e0) && ((zb.e1 == za.e1) && ((zb.e2 == za.e2) && ((zb.e3 == za.e3) && ((zb.e4 == za.e4) && ((zb.e5 == za.e5) && true))))))) cap0 s2).getD Twater_arrival.d).f_move)]:List TMove)).length) (fun zi=>TMove.cells ((out ++ ([(((mGet (fun (za zb:Twater_state)=>((zb.e0 == za.e0) && ((zb.e1 == za.e1) && ((zb.e2 == za.e2) && ((zb.e3 == za.e3) && ((zb.e4 == za.e4) && ((zb.e5 == za.e5) && true))))))) cap0 s2).getD Twater_arrival.d).f_move)]:List TMove)).getD zi TMove.d)))]) 244 (pc o1 (pc (Eq.refl out.length) (pc c (pc (z1 1) (pc (show ∀ zi,zi < 1→AV.oneL ((fun zi=>([[(aI ((((mGet (fun (za zb:Twater_state)=>((zb.e0 == za.e0) && ((zb.e1 == za.e1) && ((zb.e2 == za.e2) && ((zb.e3 == za.e3) && ((zb.e4 == za.e4) && ((zb.e5 == za.e5) && true))))))) cap0 s2).getD Twater_arrival.d).f_move).f_Tank)),(aB ((((mGet (fun (za zb:Twater_state)=>((zb.e0 == za.e0) && ((zb.e1 == za.e1) && ((zb.e2 == za.e2) && ((zb.e3 == za.e3) && ((zb.e4 == za.e4) && ((zb.e5 == za.e5) && true))))))) cap0 s2).getD Twater_arrival.d).f_move).f_Up))]]:List (List AV)).getD zi []) (addz 0 zi))=true from (oneN rfl)) (pc (show (out.length+1)=(out ++ ([(((mGet (fun (za zb:Twater_state)=>((zb.e0 == za.e0) && ((zb.e1 == za.e1) && ((zb.e2 == za.e2) && ((zb.e3 == za.e3) && ((zb.e4 == za.e4) && ((zb.e5 == za.e5) && true))))))) cap0 s2).getD Twater_arrival.d).f_move)]:List TMove)).length from (len_app_raw rfl rfl)) (pc (show out.length+1=(out ++ ([(((mGet (fun (za zb:Twater_state)=>((zb.e0 == za.e0) && ((zb.e1 == za.e1) && ((zb.e2 == za.e2) && ((zb.e3 == za.e3) && ((zb.e4 == za.e4) && ((zb.e5 == za.e5) && true))))))) cap0 s2).getD Twater_arrival.d).f_move)]:List TMove)).length from (len_app_raw rfl rfl)) (pc (show ∀ zi,zi < (out ++ ([(((mGet (fun (za zb:Twater_state)=>((zb.e0 == za.e0) && ((zb.e1 == za.e1) && ((zb.e2 == za.e2) && ((zb.e3 == za.e3) && ((zb.e4 == za.e4) && ((zb.e5 == za.e5) && true))))))) cap0 s2).getD Twater_arrival.d).f_move)]:List TMove)).length→(fun zi=>TMove.cells ((out ++ ([(((mGet (fun (za zb:Twater_state)=>((zb.e0 == za.e0) && ((zb.e1 == za.e1) && ((zb.e2 == za.e2) && ((zb.e3 == za.e3) && ((zb.e4 == za.e4) && ((zb.e5 == za.e5) && true))))))) cap0 s2).getD Twater_arrival.d).f_move)]:List TMove)).getD zi TMove.d)) zi=((fun zm=>if zm < out.length then (fun zi=>TMove.cells (out.getD zi TMove.d)) zm else (fun zi=>([[(aI ((((mGet (fun (za zb:Twater_state)=>((zb.e0 == za.e0) && ((zb.e1 == za.e1) && ((zb.e2 == za.e2) && ((zb.e3 == za.e3) && ((zb.e4 == za.e4) && ((zb.e5 == za.e5) && true))))))) cap0 s2).getD Twater_arrival.d).f_move).f_Tank)),(aB ((((mGet (fun (za zb:Twater_state)=>((zb.e0 == za.e0) && ((zb.e1 == za.e1) && ((zb.e2 == za.e2) && ((zb.e3 == za.e3) && ((zb.e4 == za.e4) && ((zb.e5 == za.e5) && true))))))) cap0 s2).getD Twater_arrival.d).f_move).f_Up))]]:List (List AV)).getD zi []) (zm - out.length))) zi from (get_app_raw TMove.cells TMove.d out ([(((mGet (fun (za zb:Twater_state)=>((zb.e0 == za.e0) && ((zb.e1 == za.e1) && ((zb.e2 == za.e2) && ((zb.e3 == za.e3) && ((zb.e4 == za.e4) && ((zb.e5 == za.e5) && true))))))) cap0 s2).getD Twater_arrival.d).f_move)]:List TMove) rfl (fun _ _=>rfl) (fun zq hzq=>get_chunk TMove.cells TMove.d ([(((mGet (fun (za zb:Twater_state)=>((zb.e0 == za.e0) && ((zb.e1 == za.e1) && ((zb.e2 == za.e2) && ((zb.e3 == za.e3) && ((zb.e4 == za.e4) && ((zb.e5 == za.e5) && true))))))) cap0 s2).getD Twater_arrival.d).f_move)]:List TMove) zq hzq))) pn)))))))) ?_
   refine Runs.nR hE 0 [] [] (kp [1,3,5,7]) (kq [0,1,2,212]) 292 (pc o1 (pc o1 pn)) ?_
   exact Runs.nW hE 2 [] (kp [1,3,5,7]) (kq [0,1,2] ++ [(3,.keep 212)]) 4 pn (ih _ _ _ h E hE)
  ·obtain ⟨rMove,hr,h⟩:=bindSome h
   obtain ⟨c2,h⟩:=ifSome h
   refine Runs.nR hE 2 [(1,⟨[3],false,(.tup []),[(0,aO 2 TMove.cells TMove.d rMove)],0,false,none⟩)] [] [(7,.osl (rMove.length))] (kq [0,3]) 100 (pc (g_slices_Reverse_api_Move_api_Move_ok N out rMove hr) (pc (show out.length=rMove.length from (Eq.symm c2)) pn)) ?_
   refine Runs.nR hE 1 [] [] (kp [6]) (kq [0,3]) 132 pn ?_
   obtain rfl:=Option.some.inj h
   exact Runs.nT hE 0 Try.f27 [] (kp [6]) (kq [0] ++ [(1,.keep 3)]) 132 pn [] pn
theorem g_water_plan_way_ok (N:Nat) (t:Twater_plan) (s:Twater_state) (cap0:List (Twater_state×Twater_arrival)) (r:(List TMove)) (h:g_water_plan_way N t s cap0=some r):Sound Try.prog 27 [(.agg (Twater_plan.cells t)),(.mp 0),(.agg (Twater_state.cells s))] [(0,⟨false,0,0,true,fun _=>encM (fun x=>.agg (Twater_state.cells x)) (fun x=>.agg (Twater_arrival.cells x)) cap0⟩)] 1 (.os 1 0 r.length) [(0,⟨false,0,0,true,fun _=>encM (fun x=>.agg (Twater_state.cells x)) (fun x=>.agg (Twater_arrival.cells x)) cap0⟩),(1,aO 2 TMove.cells TMove.d r)]:=by
 unfold g_water_plan_way at h
 refine Sound.of_runs (fu:=Try.f27) (c:=C_74 1) (nt:=26) (by kernel_rfl) (by kernel_rfl) (by kernel_rfl) (by kernel_rfl) (fun hm=>absurd hm (by decide)) ?_
 intro E hE
 refine Runs.nR hE 1 [] [] (kp [1,3,5]) (kq [0,1,17]) 49 pn ?_
 refine Runs.nR hE 1 [] [] (kp [1,3,5,7]) (kq [0,1,17]) 65 pn ?_
 exact Runs.nW hE 3 [] (kp [1,3,5] ++ [(7,.nilos 3)]) (kq [0,1] ++ [(2,.keep 17),(3,.nil 2 (fun zi=>TMove.cells (([]:List TMove).getD zi TMove.d)))]) 4 pn (g_water_plan_way_L1_ok N _ _ N _ _ _ h E hE)
noncomputable def C_76 (n:Nat):Code:=cat (bodyOf Try.f28) (pth n)
def g_water_plan_moved_J1_H (N:Nat) (t:Twater_plan) (m:TMove) (K:Twater_state→Option (Twater_state×Bool)):Prop:=∀ (s2:Twater_state) (r:Twater_state×Bool),K s2=some r→∀ E,EnvOk E 0→Runs Try.prog E 28 46 (SPost E [] (.tup [(.agg (Twater_state.cells r.1)),(aB r.2)])) [.code (C_76 30),.code (C_76 31)] ⟨[(3,(.op 0 0 0)),(4,(.op 1 0 0)),(5,(.op 2 0 0)),(6,(.op 3 0 0))],[(0,vO 18 (Twater_plan.cells t)),(1,vO 6 (Twater_state.cells s2)),(2,vO 2 (TMove.cells m)),(3,vO 6 [(aI 0),(aI 0),(aI 0),(aI 0),(aI 0),(aI 0)])],4⟩
theorem g_water_plan_moved_J1_ok (N:Nat) (t:Twater_plan) (m:TMove):g_water_plan_moved_J1_H N t m (g_water_plan_moved_J1 N t m):=by
 intro s2 r h E hE
 unfold g_water_plan_moved_J1 at h
 obtain ⟨c2,h⟩:=ifSome h
 obtain ⟨c3,h⟩:=ifSome h
 obtain ⟨rbetween2,hr2,h⟩:=bindSome h
 refine Runs.nR hE 0 [(13,⟨[],true,(aB rbetween2),[],0,false,none⟩)] [] (kp [6,7]) (kq [3]) 260 (pc o1 (pc o1 (pc c2 (pc o1 (pc o1 (pc o1 (pc c3 (pc (g_water_between_ok N (pickI [s2.e0,s2.e1,s2.e2,s2.e3,s2.e4,s2.e5] ((m.f_Tank).toNat)) 0 ((t.f_p.f_Tanks.getD ((m.f_Tank).toNat) TTank.d).f_Steps) rbetween2 hr2) (pc o1 pn))))))))) ?_
 obtain rfl:=Option.some.inj h
 exact Runs.nT hE 0 Try.f28 [] (kp [6,7]) [(16,.keep 3)] 260 pn [16] (pc o1 pn)
theorem g_water_plan_moved_ok (N:Nat) (t:Twater_plan) (s:Twater_state) (m:TMove) (r:Twater_state×Bool) (h:g_water_plan_moved N t s m=some r):Sound Try.prog 28 [(.agg (Twater_plan.cells t)),(.agg (Twater_state.cells s)),(.agg (TMove.cells m))] [] 0 (.tup [(.agg (Twater_state.cells r.1)),(aB r.2)]) []:=by
 unfold g_water_plan_moved at h
 refine Sound.of_runs (fu:=Try.f28) (c:=C_76 1) (nt:=46) (by kernel_rfl) (by kernel_rfl) (by kernel_rfl) (by kernel_rfl) (fun hm=>rfl) ?_
 intro E hE
 refine Runs.nR hE 1 [] [] (kp [3,4,5,6]) (kq [0,16,32,48]) 80 pn ?_
 obtain ⟨rbetween,hr,h⟩:=bindSome h
 refine Runs.nR hE 2 [(7,⟨[],true,(aB rbetween),[],0,false,none⟩)] [] (kp [3,4,5,6,16]) (kq [0,16,32,48]) 224 (pc o1 (pc o1 (pc (g_water_between_ok N m.f_Tank 0 (w64 (((t.f_p.f_Tanks.length:Nat):Int) - 1)) rbetween hr) pn))) ?_
 refine Runs.nC 0 16 h (fun hq2 h=>?_) (fun hq2 h=>?_)
 ·refine Runs.nR hE 1 [] [] (kp [6,7]) (kq [48]) 272 (pc o1 (pc o1 pn)) ?_
  obtain rfl:=Option.some.inj h
  exact Runs.nT hE 0 Try.f28 [] (kp [6,7]) [(16,.keep 48)] 272 pn [16] (pc o1 pn)
 ·refine Runs.nR hE 3 [] [] (kp [3,4,5,6,19]) (kq [0,16,32,48]) 256 (pc o1 pn) ?_
  refine Runs.nC 0 19 h (fun hq3 h=>?_) (fun hq3 h=>?_)
  ·obtain ⟨c,h⟩:=ifSome h
   refine Runs.nR hE 0 [] [] (kp [3,4,5,6]) (kq [0,16,32,48]) 368 (pc o1 (pc c (pc o1 (pc c (pc o1 pn))))) ?_
   exact Runs.nW hE 1 [] (kp [3,4,5,6]) (kq [0] ++ [(1,.keep 16),(2,.keep 32),(3,.keep 48)]) 4 pn (g_water_plan_moved_J1_ok N _ _ _ _ h E hE)
  ·obtain ⟨c4,h⟩:=ifSome h
   refine Runs.nR hE 0 [] [] (kp [3,4,5,6]) (kq [0,16,32,48]) 368 (pc o1 (pc c4 (pc o1 (pc c4 (pc o1 pn))))) ?_
   exact Runs.nW hE 1 [] (kp [3,4,5,6]) (kq [0] ++ [(1,.keep 16),(2,.keep 32),(3,.keep 48)]) 4 pn (g_water_plan_moved_J1_ok N _ _ _ _ h E hE)
noncomputable def C_58 (n:Nat):Code:=cat (bodyOf Try.f9) (pth n)
def g_water_Ballast_L1_H (N:Nat) (p:TPontoon) (ropen:Twater_plan×Int) (K:(List (Twater_state×Twater_arrival))→(List Twater_state)→Nat→Nat→Option ((List TMove)×Int)):Prop:=∀ (reached:List (Twater_state×Twater_arrival)) (todo:List Twater_state) (todoo:Nat) (todon:Nat) (r:(List TMove)×Int),K reached todo todoo todon=some r→∀ E,EnvOk E 0→Runs Try.prog E 9 111 (SPost E [] (.tup [(encL TMove.cells TMove.d r.1),(aI r.2)])) [.code (C_58 2036),.inLoop (C_58 2036),.inBlock 0,.code (C_58 255)] ⟨[(3,(.op 0 0 0)),(8,(.op 1 0 0)),(10,(.mp 2)),(11,(.os 3 todoo todon))],[(0,vO 5 (TPontoon.cells p)),(1,vO 18 (Twater_plan.cells ropen.1)),(2,⟨false,0,0,true,fun _=>encM (fun x=>.agg (Twater_state.cells x)) (fun x=>.agg (Twater_arrival.cells x)) reached⟩),(3,aO 6 Twater_state.cells Twater_state.d todo)],4⟩
def g_water_Ballast_L2_H (N:Nat) (p:TPontoon) (ropen:Twater_plan×Int) (todo:List Twater_state) (todoo:Nat) (K:(List (Twater_state×Twater_arrival))→(List Twater_state)→Nat→Nat→Int→Option ((List TMove)×Int)):Prop:=∀ (reached2:List (Twater_state×Twater_arrival)) (todo2:List Twater_state) (todoo2:Nat) (todon2:Nat) (x:Int) (r:(List TMove)×Int),K reached2 todo2 todoo2 todon2 x=some r→∀ E,EnvOk E 0→Runs Try.prog E 9 111 (SPost E [] (.tup [(encL TMove.cells TMove.d r.1),(aI r.2)])) [.code (C_58 521372),.inLoop (C_58 521372),.inBlock 2,.inBlock 1,.code (C_58 8147),.inLoop (C_58 2036),.inBlock 0,.code (C_58 255)] ⟨[(3,(.op 0 0 0)),(8,(.op 1 0 0)),(10,(.mp 2)),(11,(.os 3 todoo2 todon2)),(12,(.op 4 0 0)),(64,(aI ((p.f_Tanks.length:Nat):Int))),(65,(aI x))],[(0,vO 5 (TPontoon.cells p)),(1,vO 18 (Twater_plan.cells ropen.1)),(2,⟨false,0,0,true,fun _=>encM (fun x=>.agg (Twater_state.cells x)) (fun x=>.agg (Twater_arrival.cells x)) reached2⟩),(3,aO 6 Twater_state.cells Twater_state.d todo2),(4,vO 6 (Twater_state.cells (todo.getD (addz todoo 0) Twater_state.d)))],5⟩
def g_water_Ballast_L3_H (N:Nat) (p:TPontoon) (ropen:Twater_plan×Int) (todo:List Twater_state) (todoo:Nat) (x:Int) (K:(List (Twater_state×Twater_arrival))→(List Twater_state)→Nat→Nat→Int→Option ((List TMove)×Int)):Prop:=∀ (reached3:List (Twater_state×Twater_arrival)) (todo3:List Twater_state) (todoo3:Nat) (todon3:Nat) (x2:Int) (r:(List TMove)×Int),K reached3 todo3 todoo3 todon3 x2=some r→∀ E,EnvOk E 0→Runs Try.prog E 9 111 (SPost E [] (.tup [(encL TMove.cells TMove.d r.1),(aI r.2)])) [.code (C_58 133471436),.inLoop (C_58 133471436),.inBlock 4,.inBlock 3,.code (C_58 4170983),.inLoop (C_58 521372),.inBlock 2,.inBlock 1,.code (C_58 8147),.inLoop (C_58 2036),.inBlock 0,.code (C_58 255)] ⟨[(3,(.op 0 0 0)),(8,(.op 1 0 0)),(10,(.mp 2)),(11,(.os 3 todoo3 todon3)),(12,(.op 4 0 0)),(13,(aI x)),(64,(aI ((p.f_Tanks.length:Nat):Int))),(65,(aI x)),(68,(.os 5 0 (([true,false]:List Bool).length))),(69,(aI ((2:Nat):Int))),(70,(aI x2))],[(0,vO 5 (TPontoon.cells p)),(1,vO 18 (Twater_plan.cells ropen.1)),(2,⟨false,0,0,true,fun _=>encM (fun x=>.agg (Twater_state.cells x)) (fun x=>.agg (Twater_arrival.cells x)) reached3⟩),(3,aO 6 Twater_state.cells Twater_state.d todo3),(4,vO 6 (Twater_state.cells (todo.getD (addz todoo 0) Twater_state.d))),(5,aO 1 cB false ([true,false]:List Bool))],6⟩
def g_water_Ballast_J4_H (N:Nat) (p:TPontoon) (ropen:Twater_plan×Int) (todo:List Twater_state) (todoo:Nat) (x:Int) (x2:Int) (K:(List (Twater_state×Twater_arrival))→(List Twater_state)→Nat→Nat→Option ((List TMove)×Int)):Prop:=∀ (reached4:List (Twater_state×Twater_arrival)) (todo4:List Twater_state) (todoo4:Nat) (todon4:Nat) (r:(List TMove)×Int),K reached4 todo4 todoo4 todon4=some r→∀ E,EnvOk E 0→Runs Try.prog E 9 111 (SPost E [] (.tup [(encL TMove.cells TMove.d r.1),(aI r.2)])) [.code (C_58 1067771495),.inLoop (C_58 133471436),.inBlock 4,.inBlock 3,.code (C_58 4170983),.inLoop (C_58 521372),.inBlock 2,.inBlock 1,.code (C_58 8147),.inLoop (C_58 2036),.inBlock 0,.code (C_58 255)] ⟨[(3,(.op 0 0 0)),(8,(.op 1 0 0)),(10,(.mp 2)),(11,(.os 3 todoo4 todon4)),(12,(.op 4 0 0)),(13,(aI x)),(64,(aI ((p.f_Tanks.length:Nat):Int))),(65,(aI x)),(68,(.os 5 0 (([true,false]:List Bool).length))),(69,(aI ((2:Nat):Int))),(70,(aI x2))],[(0,vO 5 (TPontoon.cells p)),(1,vO 18 (Twater_plan.cells ropen.1)),(2,⟨false,0,0,true,fun _=>encM (fun x=>.agg (Twater_state.cells x)) (fun x=>.agg (Twater_arrival.cells x)) reached4⟩),(3,aO 6 Twater_state.cells Twater_state.d todo4),(4,vO 6 (Twater_state.cells (todo.getD (addz todoo 0) Twater_state.d))),(5,aO 1 cB false ([true,false]:List Bool))],6⟩
theorem g_water_Ballast_J4_ok (N:Nat) (p:TPontoon) (ropen:Twater_plan×Int) (todo:List Twater_state) (todoo:Nat) (x:Int) (x2:Int) (K_g_water_Ballast_L3:(List (Twater_state×Twater_arrival))→(List Twater_state)→Nat→Nat→Int→Option ((List TMove)×Int)) (K_g_water_Ballast_L2:(List (Twater_state×Twater_arrival))→(List Twater_state)→Nat→Nat→Int→Option ((List TMove)×Int)) (K_g_water_Ballast_L1:(List (Twater_state×Twater_arrival))→(List Twater_state)→Nat→Nat→Option ((List TMove)×Int)) (hK_g_water_Ballast_L3:g_water_Ballast_L3_H N p ropen todo todoo x K_g_water_Ballast_L3) (hK_g_water_Ballast_L2:g_water_Ballast_L2_H N p ropen todo todoo K_g_water_Ballast_L2) (hK_g_water_Ballast_L1:g_water_Ballast_L1_H N p ropen K_g_water_Ballast_L1):g_water_Ballast_J4_H N p ropen todo todoo x x2 (g_water_Ballast_J4 N p ropen todo todoo x x2 K_g_water_Ballast_L3 K_g_water_Ballast_L2 K_g_water_Ballast_L1):=by
 intro reached4 todo4 todoo4 todon4 r h E hE
 unfold g_water_Ballast_J4 at h
 refine Runs.nR hE 0 [] [] (kp [3,8,10,11,12,13,64,65,68,69,70]) (kq [0,1,2,3,4,5]) 38 pn ?_
 exact Runs.nW hE 1 [] (kp [3,8,10,11,12,13,64,65,68,69,70]) (kq [0,1,2,3,4,5]) 6 pn (hK_g_water_Ballast_L3 _ _ _ _ _ _ h E hE)
theorem g_water_Ballast_L3_ok (N:Nat) (p:TPontoon) (ropen:Twater_plan×Int) (todo:List Twater_state) (todoo:Nat) (x:Int) (K_g_water_Ballast_L2:(List (Twater_state×Twater_arrival))→(List Twater_state)→Nat→Nat→Int→Option ((List TMove)×Int)) (K_g_water_Ballast_L1:(List (Twater_state×Twater_arrival))→(List Twater_state)→Nat→Nat→Option ((List TMove)×Int)) (hK_g_water_Ballast_L2:g_water_Ballast_L2_H N p ropen todo todoo K_g_water_Ballast_L2) (hK_g_water_Ballast_L1:g_water_Ballast_L1_H N p ropen K_g_water_Ballast_L1) (fuel:Nat):g_water_Ballast_L3_H N p ropen todo todoo x (g_water_Ballast_L3 N p ropen todo todoo x K_g_water_Ballast_L2 K_g_water_Ballast_L1 fuel):=by
 induction fuel with
 | zero=>intro _ _ _ _ _ r h;rw [g_water_Ballast_L3.eq_1] at h;cases h
 | succ fuel ih =>
  intro reached3 todo3 todoo3 todon3 x2 r h E hE
  rw [g_water_Ballast_L3.eq_2] at h
  refine Runs.nR hE 1 [] [] (kp [3,8,10,11,12,13,64,65,68,69,70,71]) (kq [0,1,2,3,4,5]) 22 pn ?_
  refine Runs.nC 1 71 h (fun hq8 h=>?_) (fun hq8 h=>?_)
  ·obtain ⟨c3,h⟩:=ifSome h
   refine Runs.nR hE 4 [] [] (kp [3,8,10,11,12,13,15,64,65,68,69,70]) (kq [0,1,2,3,4,5]) 70 (pc c3 (pc (ltOf c3) pn)) ?_
   refine Runs.nR hE 1 [] [] (kp [3,8,10,11,12,13,16,64,65,68,69,70]) (kq [0,1,2,3,4,5,118]) 150 (pc o1 pn) ?_
   obtain ⟨rmoved,hr6,h⟩:=bindSome h
   refine Runs.nR hE 1 [(3,⟨[],true,(.tup [(.agg (Twater_state.cells rmoved.1)),(aB rmoved.2)]),[],0,false,none⟩)] [] (kp [3,8,10,11,12,13,16,17,18,64,65,68,69,70]) (kq [0,1,2,3,4,5,118,262]) 310 (pc o1 (pc o1 (pc o1 (pc (g_water_plan_moved_ok N ropen.1 (todo.getD (addz todoo 0) Twater_state.d) (⟨x,(([true,false]:List Bool).getD ((x2).toNat) false)⟩:TMove) rmoved hr6) (pc o1 pn))))) ?_
   refine Runs.nR hE 1 [(2,⟨[],true,(.tup [(.agg (Twater_arrival.cells ((mGet (fun (za zb:Twater_state)=>((zb.e0 == za.e0) && ((zb.e1 == za.e1) && ((zb.e2 == za.e2) && ((zb.e3 == za.e3) && ((zb.e4 == za.e4) && ((zb.e5 == za.e5) && true))))))) reached3 rmoved.1).getD Twater_arrival.d))),(aB ((mGet (fun (za zb:Twater_state)=>((zb.e0 == za.e0) && ((zb.e1 == za.e1) && ((zb.e2 == za.e2) && ((zb.e3 == za.e3) && ((zb.e4 == za.e4) && ((zb.e5 == za.e5) && true))))))) reached3 rmoved.1).isSome))]),[],0,false,none⟩)] [] (kp [3,8,10,11,12,13,16,17,18,20,64,65,68,69,70]) (kq [0,1,2,3,4,5,118,262]) 454 (pc o1 (pc (show (Go.Ab.look Try.prog 73 (encM (fun x=>.agg (Twater_state.cells x)) (fun x=>.agg (Twater_arrival.cells x)) reached3) (.agg (Twater_state.cells rmoved.1))).map (fun zr=>AV.tup [zr.getD (ofConst (.agg #[.int .i64 0,.int .i64 0,.int .i64 0,.int .i64 0,.int .i64 0,.int .i64 0,.int .i64 0,.bool false])),.atom (.bool zr.isSome)])=some (.tup [(.agg (Twater_arrival.cells ((mGet (fun (za zb:Twater_state)=>((zb.e0 == za.e0) && ((zb.e1 == za.e1) && ((zb.e2 == za.e2) && ((zb.e3 == za.e3) && ((zb.e4 == za.e4) && ((zb.e5 == za.e5) && true))))))) reached3 rmoved.1).getD Twater_arrival.d))),(aB ((mGet (fun (za zb:Twater_state)=>((zb.e0 == za.e0) && ((zb.e1 == za.e1) && ((zb.e2 == za.e2) && ((zb.e3 == za.e3) && ((zb.e4 == za.e4) && ((zb.e5 == za.e5) && true))))))) reached3 rmoved.1).isSome))]) from (look_ok (fun x=>.agg (Twater_state.cells x)) (fun x=>.agg (Twater_arrival.cells x)) (d:=Twater_arrival.d) (fun _ _=>rfl) rfl _ rmoved.1)) (pc o1 pn))) ?_
   obtain ⟨rkeeps2,hr7,h⟩:=bindSome h
   refine Runs.nR hE 1 [(8,⟨[],true,(aB rkeeps2),[],0,false,none⟩)] [] (kp [3,8,10,11,12,13,16,17,64,65,68,69,70,99]) (kq [0,1,2,3,4,5,118,262]) 614 (pc (fun hg:rmoved.2=true=>(pc hg pn)) (pc (fun hq:rmoved.2=true=>(pc hq pn)) (pc (fun hg:(cond rmoved.2 (!((mGet (fun (za zb:Twater_state)=>((zb.e0 == za.e0) && ((zb.e1 == za.e1) && ((zb.e2 == za.e2) && ((zb.e3 == za.e3) && ((zb.e4 == za.e4) && ((zb.e5 == za.e5) && true))))))) reached3 rmoved.1).isSome)) false)=true=>(pc o1 pn)) (pc (fun hg:(cond rmoved.2 (!((mGet (fun (za zb:Twater_state)=>((zb.e0 == za.e0) && ((zb.e1 == za.e1) && ((zb.e2 == za.e2) && ((zb.e3 == za.e3) && ((zb.e4 == za.e4) && ((zb.e5 == za.e5) && true))))))) reached3 rmoved.1).isSome)) false)=true=>(pc o1 pn)) (pc (fun hg:(cond rmoved.2 (!((mGet (fun (za zb:Twater_state)=>((zb.e0 == za.e0) && ((zb.e1 == za.e1) && ((zb.e2 == za.e2) && ((zb.e3 == za.e3) && ((zb.e4 == za.e4) && ((zb.e5 == za.e5) && true))))))) reached3 rmoved.1).isSome)) false)=true=>(pc (g_water_plan_keeps_ok N ropen.1 rmoved.1 rkeeps2 (condT hr7 hg)) (pc hg (pc hg pn)))) (pc (fun hq:(cond rmoved.2 (!((mGet (fun (za zb:Twater_state)=>((zb.e0 == za.e0) && ((zb.e1 == za.e1) && ((zb.e2 == za.e2) && ((zb.e3 == za.e3) && ((zb.e4 == za.e4) && ((zb.e5 == za.e5) && true))))))) reached3 rmoved.1).isSome)) false)=true=>(pc hq pn)) pn)))))) ?_
   refine Runs.nC 0 99 h (fun hq9 h=>?_) (fun hq9 h=>?_)
   ·refine Runs.nR hE 1 [(5,⟨[],true,(.tup (encM (fun x=>.agg (Twater_state.cells x)) (fun x=>.agg (Twater_arrival.cells x)) (mPut (fun (za zb:Twater_state)=>((zb.e0 == za.e0) && ((zb.e1 == za.e1) && ((zb.e2 == za.e2) && ((zb.e3 == za.e3) && ((zb.e4 == za.e4) && ((zb.e5 == za.e5) && true))))))) reached3 rmoved.1 (⟨(todo.getD (addz todoo 0) Twater_state.d),(⟨x,(([true,false]:List Bool).getD ((x2).toNat) false)⟩:TMove)⟩:Twater_arrival)))),[],0,false,none⟩)] [] (kp [3,8,10,11,12,13,17,64,65,68,69,70]) (kq [0,1,2,3,4,5,262]) 710 (pc o1 (pc o1 (pc o1 (pc (show Go.Ab.insA Try.prog 73 (encM (fun x=>.agg (Twater_state.cells x)) (fun x=>.agg (Twater_arrival.cells x)) reached3) (.agg (Twater_state.cells rmoved.1)) (.agg [(aI ((todo.getD (addz todoo 0) Twater_state.d).e0)),(aI ((todo.getD (addz todoo 0) Twater_state.d).e1)),(aI ((todo.getD (addz todoo 0) Twater_state.d).e2)),(aI ((todo.getD (addz todoo 0) Twater_state.d).e3)),(aI ((todo.getD (addz todoo 0) Twater_state.d).e4)),(aI ((todo.getD (addz todoo 0) Twater_state.d).e5)),(aI x),(aB (([true,false]:List Bool).getD ((x2).toNat) false))])=some (encM (fun x=>.agg (Twater_state.cells x)) (fun x=>.agg (Twater_arrival.cells x)) (mPut (fun (za zb:Twater_state)=>((zb.e0 == za.e0) && ((zb.e1 == za.e1) && ((zb.e2 == za.e2) && ((zb.e3 == za.e3) && ((zb.e4 == za.e4) && ((zb.e5 == za.e5) && true))))))) reached3 rmoved.1 (⟨(todo.getD (addz todoo 0) Twater_state.d),(⟨x,(([true,false]:List Bool).getD ((x2).toNat) false)⟩:TMove)⟩:Twater_arrival))) from (insA_enc (fun x=>.agg (Twater_state.cells x)) (fun x=>.agg (Twater_arrival.cells x)) (fun _ _=>rfl) _ rmoved.1 (⟨(todo.getD (addz todoo 0) Twater_state.d),(⟨x,(([true,false]:List Bool).getD ((x2).toNat) false)⟩:TMove)⟩:Twater_arrival))) pn)))) ?_
    obtain ⟨hQ,h⟩:=ifSome h
    obtain ⟨hA,hB⟩:=both_some h
    refine Runs.sA 0 [.code (C_58 273349502589),.inBlock 5,.code (C_58 1067771495),.inLoop (C_58 133471436),.inBlock 4,.inBlock 3,.code (C_58 4170983),.inLoop (C_58 521372),.inBlock 2,.inBlock 1,.code (C_58 8147),.inLoop (C_58 2036),.inBlock 0,.code (C_58 255)] ?_
    refine Runs.split 11 3 todoo3 todon3 (aO 6 Twater_state.cells Twater_state.d todo3) (by kernel_rfl) (by kernel_rfl) (by kernel_rfl) hQ ?_ ?_
    ·replace h:=hA
     refine Runs.nR hE 0 [(3,⟨[],false,.nil,[],0,false,none⟩)] [] (kp [3,8,10,11,12,13,64,65,68,69,70]) (kq [0,1,2] ++ [(3,.arr 3 ((todo3 ++ ([rmoved.1]:List Twater_state)).length) (fun zi=>Twater_state.cells ((todo3 ++ ([rmoved.1]:List Twater_state)).getD zi Twater_state.d)))] ++ kq [4,5]) 790 (pc o1 (pc (show 0 < 1∧(addz todoo3 todon3)+1≤(addz todoo3 todon3)+1 from ⟨Nat.one_pos,Nat.le_refl _⟩) (pc (show ∀ zi,zi < (addz todoo3 todon3)+1→noMrL (if zi < (addz todoo3 todon3) then Twater_state.cells (todo3.getD zi Twater_state.d) else unL 6)=true from (noMr_room _ (fun _=>rfl))) (pc (z1 1) (pc (show ∀ zi,zi < 1→AV.oneL ((fun zi=>([[(aI rmoved.1.e0),(aI rmoved.1.e1),(aI rmoved.1.e2),(aI rmoved.1.e3),(aI rmoved.1.e4),(aI rmoved.1.e5)]]:List (List AV)).getD zi []) (addz 0 zi))=true from (oneN rfl)) (pc (show (addz todoo3 todon3)+1=(todo3 ++ ([rmoved.1]:List Twater_state)).length from (len_appQ hQ rfl)) (pc (show ∀ zi,zi < (todo3 ++ ([rmoved.1]:List Twater_state)).length→(fun zi=>Twater_state.cells ((todo3 ++ ([rmoved.1]:List Twater_state)).getD zi Twater_state.d)) zi=((fun zm=>if zm < (addz todoo3 todon3) then (if zm < (addz todoo3 todon3) then Twater_state.cells (todo3.getD zm Twater_state.d) else unL 6) else if zm < (addz todoo3 todon3)+1 then (fun zi=>([[(aI rmoved.1.e0),(aI rmoved.1.e1),(aI rmoved.1.e2),(aI rmoved.1.e3),(aI rmoved.1.e4),(aI rmoved.1.e5)]]:List (List AV)).getD zi []) (addz 0 (zm - (addz todoo3 todon3))) else (if zm < (addz todoo3 todon3) then Twater_state.cells (todo3.getD zm Twater_state.d) else unL 6))) zi from (fun zq hzq=>get_appQ (g2:=fun zi=>([[(aI rmoved.1.e0),(aI rmoved.1.e1),(aI rmoved.1.e2),(aI rmoved.1.e3),(aI rmoved.1.e4),(aI rmoved.1.e5)]]:List (List AV)).getD zi []) Twater_state.cells Twater_state.d todo3 ([rmoved.1]:List Twater_state) 6 hQ zq hzq)) pn))))))) ?_
     exact Runs.nW hE 1 [] (kp [3,8,10,11,12,13,64,65,68,69,70]) (kq [0,1,2,3,4,5]) 6 pn (g_water_Ballast_J4_ok N _ _ _ _ _ _ _ _ _ ih hK_g_water_Ballast_L2 hK_g_water_Ballast_L1 _ _ _ _ _ h E hE)
    ·replace h:=hB
     obtain ⟨c4,h⟩:=ifSome h
     refine Runs.nR hE 0 [(3,⟨[],false,.tup [],[],0,false,none⟩)] [] (kp [3,8,10] ++ [(11,.osl (((todo3.drop todoo3) ++ ([rmoved.1]:List Twater_state)).length))] ++ kp [12,13,64,65,68,69,70]) (kq [0,1,2,4,5] ++ [(758,.arr 758 (((todo3.drop todoo3) ++ ([rmoved.1]:List Twater_state)).length) (fun zi=>Twater_state.cells (((todo3.drop todoo3) ++ ([rmoved.1]:List Twater_state)).getD zi Twater_state.d)))]) 790 (pc o1 (pc (show 0 < 1∧addz todoo3 todon3=todo3.length from ⟨Nat.one_pos,hQ⟩) (pc c4 (pc (show ∀ zi,zi < todo3.length→AV.oneL (Twater_state.cells (todo3.getD zi Twater_state.d))=true from (fun _ _=>rfl)) (pc (z1 1) (pc (show ∀ zi,zi < 1→AV.oneL ((fun zi=>([[(aI rmoved.1.e0),(aI rmoved.1.e1),(aI rmoved.1.e2),(aI rmoved.1.e3),(aI rmoved.1.e4),(aI rmoved.1.e5)]]:List (List AV)).getD zi []) (addz 0 zi))=true from (oneN rfl)) (pc (show (todon3+1)=((todo3.drop todoo3) ++ ([rmoved.1]:List Twater_state)).length from (len_dropQ hQ rfl)) (pc (show todon3+1=((todo3.drop todoo3) ++ ([rmoved.1]:List Twater_state)).length from (len_dropQ hQ rfl)) (pc (show ∀ zi,zi < ((todo3.drop todoo3) ++ ([rmoved.1]:List Twater_state)).length→(fun zi=>Twater_state.cells (((todo3.drop todoo3) ++ ([rmoved.1]:List Twater_state)).getD zi Twater_state.d)) zi=((fun zm=>if zm < todon3 then Twater_state.cells (todo3.getD (addz todoo3 zm) Twater_state.d) else (fun zi=>([[(aI rmoved.1.e0),(aI rmoved.1.e1),(aI rmoved.1.e2),(aI rmoved.1.e3),(aI rmoved.1.e4),(aI rmoved.1.e5)]]:List (List AV)).getD zi []) (addz 0 (zm - todon3)))) zi from (fun zq hzq=>get_dropQ (g2:=fun zi=>([[(aI rmoved.1.e0),(aI rmoved.1.e1),(aI rmoved.1.e2),(aI rmoved.1.e3),(aI rmoved.1.e4),(aI rmoved.1.e5)]]:List (List AV)).getD zi []) Twater_state.cells Twater_state.d todo3 ([rmoved.1]:List Twater_state) hQ zq hzq)) pn))))))))) ?_
     exact Runs.nW hE 1 [] (kp [3,8,10,11,12,13,64,65,68,69,70]) (kq [0,1,2] ++ [(3,.keep 758)] ++ kq [4,5]) 6 pn (g_water_Ballast_J4_ok N _ _ _ _ _ _ _ _ _ ih hK_g_water_Ballast_L2 hK_g_water_Ballast_L1 _ _ _ _ _ h E hE)
   ·exact Runs.nW hE 2 [] (kp [3,8,10,11,12,13,64,65,68,69,70]) (kq [0,1,2,3,4,5]) 6 pn (g_water_Ballast_J4_ok N _ _ _ _ _ _ _ _ _ ih hK_g_water_Ballast_L2 hK_g_water_Ballast_L1 _ _ _ _ _ h E hE)
  ·refine Runs.nR hE 2 [] [] (kp [3,8,10,11,12,64,65]) (kq [0,1,2,3,4]) 54 pn ?_
   exact Runs.nW hE 1 [] (kp [3,8,10,11,12,64,65]) (kq [0,1,2,3,4]) 5 pn (hK_g_water_Ballast_L2 _ _ _ _ _ _ h E hE)
theorem g_water_Ballast_L2_ok (N:Nat) (p:TPontoon) (ropen:Twater_plan×Int) (todo:List Twater_state) (todoo:Nat) (K_g_water_Ballast_L1:(List (Twater_state×Twater_arrival))→(List Twater_state)→Nat→Nat→Option ((List TMove)×Int)) (hK_g_water_Ballast_L1:g_water_Ballast_L1_H N p ropen K_g_water_Ballast_L1) (fuel:Nat):g_water_Ballast_L2_H N p ropen todo todoo (g_water_Ballast_L2 N p ropen todo todoo K_g_water_Ballast_L1 fuel):=by
 induction fuel with
 | zero=>intro _ _ _ _ _ r h;rw [g_water_Ballast_L2.eq_1] at h;cases h
 | succ fuel ih =>
  intro reached2 todo2 todoo2 todon2 x r h E hE
  rw [g_water_Ballast_L2.eq_2] at h
  refine Runs.nR hE 1 [] [] (kp [3,8,10,11,12,64,65,66]) (kq [0,1,2,3,4]) 21 pn ?_
  refine Runs.nC 1 66 h (fun hq7 h=>?_) (fun hq7 h=>?_)
  ·refine Runs.nR hE 4 [] [] (kp [3,8,10,11,12,13,64,65]) (kq [0,1,2,3,4]) 53 pn ?_
   refine Runs.nR hE 1 [] [] (kp [3,8,10,11,12,13,64,65] ++ [(68,.osl (([true,false]:List Bool).length))] ++ kp [69,70]) (kq [0,1,2,3,4] ++ [(53,.arr 53 (([true,false]:List Bool).length) (fun zi=>cB (([true,false]:List Bool).getD zi false)))]) 101 (pc (Eq.refl 2) (pc (Eq.refl 2) (pc (show ∀ zi,zi < ([true,false]:List Bool).length→(fun zi=>cB (([true,false]:List Bool).getD zi false)) zi=(fun zi=>([[(aB true)],[(aB false)]]:List (List AV)).getD zi []) zi from (fun zq hzq=>get_chunk cB false ([true,false]:List Bool) zq hzq)) pn))) ?_
   exact Runs.nW hE 2 [] (kp [3,8,10,11,12,13,64,65,68,69,70]) (kq [0,1,2,3,4] ++ [(5,.keep 53)]) 6 pn (g_water_Ballast_L3_ok N _ _ _ _ _ _ _ ih hK_g_water_Ballast_L1 N _ _ _ _ _ _ h E hE)
  ·obtain ⟨c5,h⟩:=ifSome h
   refine Runs.nR hE 2 [] [] (kp [3,8,10,11]) (kq [0,1,2,3]) 69 (pc c5 (pc (show 0≤(1:Int) by decide) pn)) ?_
   exact Runs.nW hE 1 [] (kp [3,8,10,11]) (kq [0,1,2,3]) 4 pn (hK_g_water_Ballast_L1 _ _ _ _ _ h E hE)
theorem g_water_Ballast_L1_ok (N:Nat) (p:TPontoon) (ropen:Twater_plan×Int) (fuel:Nat):g_water_Ballast_L1_H N p ropen (g_water_Ballast_L1 N p ropen fuel):=by
 induction fuel with
 | zero=>intro _ _ _ _ r h;rw [g_water_Ballast_L1.eq_1] at h;cases h
 | succ fuel ih =>
  intro reached todo todoo todon r h E hE
  rw [g_water_Ballast_L1.eq_2] at h
  refine Runs.nR hE 2 [] [] (kp [3,8,10,11,49]) (kq [0,1,2,3]) 52 pn ?_
  refine Runs.nC 0 49 h (fun hq5 h=>?_) (fun hq5 h=>?_)
  ·obtain ⟨c,h⟩:=ifSome h
   obtain ⟨c2,h⟩:=ifSome h
   refine Runs.nR hE 4 [] [] (kp [3,8,10,11,12]) (kq [0,1,2,3,100]) 132 (pc c (pc (show (addz todoo 0) < todo.length by have h1:=c;have h2:=c2;simp only [addz_eq];omega) (pc o1 pn))) ?_
   obtain ⟨rdone,hr4,h⟩:=bindSome h
   refine Runs.nR hE 2 [(2,⟨[],true,(aB rdone),[],0,false,none⟩)] [] (kp [3,8,10,11,12,57]) (kq [0,1,2,3,100]) 180 (pc o1 (pc o1 (pc (g_water_plan_done_ok N ropen.1 (todo.getD (addz todoo 0) Twater_state.d) rdone hr4) pn))) ?_
   refine Runs.nC 0 57 h (fun hq6 h=>?_) (fun hq6 h=>?_)
   ·obtain ⟨rway,hr5,h⟩:=bindSome h
    refine Runs.nR hE 1 [(3,⟨[2],false,(.os 1 0 rway.length),[(0,⟨false,0,0,true,fun _=>encM (fun x=>.agg (Twater_state.cells x)) (fun x=>.agg (Twater_arrival.cells x)) reached⟩),(1,aO 2 TMove.cells TMove.d rway)],0,false,none⟩)] [] (kp [6,7]) (kq [228]) 276 (pc o1 (pc o1 (pc (g_water_plan_way_ok N ropen.1 (todo.getD (addz todoo 0) Twater_state.d) reached rway hr5) pn))) ?_
    obtain rfl:=Option.some.inj h
    exact Runs.nT hE 0 Try.f9 [228] ([(6,.sl (rway.length) (fun zi=>TMove.cells (rway.getD zi TMove.d)))] ++ kp [7]) [] 276 (pc (Eq.refl rway.length) (pc (z1 rway.length) (pc (show ∀ zi,zi < rway.length→(fun zi=>TMove.cells (rway.getD zi TMove.d)) zi=(fun zi=>TMove.cells (rway.getD zi TMove.d)) (addz 0 zi) from (fun _ _=>rfl)) pn))) [] pn
   ·refine Runs.nR hE 2 [] [] (kp [3,8,10,11,12,64,65]) (kq [0,1,2,3,100]) 244 (pc o1 pn) ?_
    exact Runs.nW hE 2 [] (kp [3,8,10,11,12,64,65]) (kq [0,1,2,3] ++ [(4,.keep 100)]) 5 pn (g_water_Ballast_L2_ok N _ _ _ _ _ ih N _ _ _ _ _ _ h E hE)
  ·refine Runs.nR hE 2 [] [] (kp [6,7]) [] 84 pn ?_
   obtain rfl:=Option.some.inj h
   exact Runs.nT hE 0 Try.f9 [] ([(6,.sl (([]:List TMove).length) (fun zi=>TMove.cells (([]:List TMove).getD zi TMove.d)))] ++ kp [7]) [] 84 (pc (Eq.refl 0) pn) [] pn
theorem g_water_Ballast_ok (N:Nat) (p:TPontoon) (l:TLimits) (a:TAim) (r:(List TMove)×Int) (h:g_water_Ballast N p l a=some r):Sound Try.prog 9 [(.agg (TPontoon.cells p)),(.agg (TLimits.cells l)),(.agg (TAim.cells a))] [] 0 (.tup [(encL TMove.cells TMove.d r.1),(aI r.2)]) []:=by
 unfold g_water_Ballast at h
 refine Sound.of_runs (fu:=Try.f9) (c:=C_58 1) (nt:=111) (by kernel_rfl) (by kernel_rfl) (by kernel_rfl) (by kernel_rfl) (fun hm=>rfl) ?_
 intro E hE
 refine Runs.nR hE 1 [] [] (kp [3,4,5]) (kq [0,16,32]) 80 pn ?_
 obtain ⟨ropen,hr,h⟩:=bindSome h
 refine Runs.nR hE 1 [(3,⟨[],true,(.tup [(.agg (Twater_plan.cells ropen.1)),(aI ropen.2)]),[],0,false,none⟩)] [] (kp [3,8,9]) (kq [0,192]) 240 (pc o1 (pc o1 (pc o1 (pc (g_water_open_ok N p l a ropen hr) (pc o1 pn))))) ?_
 refine Runs.nR hE 2 [] [] (kp [3,8,9,29]) (kq [0,192]) 272 pn ?_
 refine Runs.nC 0 29 h (fun hq2 h=>?_) (fun hq2 h=>?_)
 ·refine Runs.nR hE 1 [] [] (kp [6,7]) [] 320 pn ?_
  obtain rfl:=Option.some.inj h
  exact Runs.nT hE 0 Try.f9 [] ([(6,.sl (([]:List TMove).length) (fun zi=>TMove.cells (([]:List TMove).getD zi TMove.d)))] ++ kp [7]) [] 320 (pc (Eq.refl 0) pn) [] pn
 ·obtain ⟨rmany,hr2,h⟩:=bindSome h
  refine Runs.nR hE 3 [(1,⟨[],true,(aI rmany),[],0,false,none⟩)] [] (kp [3,8,33]) (kq [0,192]) 320 (pc o1 (pc (g_water_many_ok N p rmany hr2) pn)) ?_
  refine Runs.nC 0 33 h (fun hq3 h=>?_) (fun hq3 h=>?_)
  ·refine Runs.nR hE 1 [] [] (kp [6,7]) [] 352 pn ?_
   obtain rfl:=Option.some.inj h
   exact Runs.nT hE 0 Try.f9 [] ([(6,.sl (([]:List TMove).length) (fun zi=>TMove.cells (([]:List TMove).getD zi TMove.d)))] ++ kp [7]) [] 352 (pc (Eq.refl 0) pn) [] pn
  ·obtain ⟨rkeeps,hr3,h⟩:=bindSome h
   refine Runs.nR hE 3 [(3,⟨[],true,(aB rkeeps),[],0,false,none⟩)] [] (kp [3,8,38]) (kq [0,192]) 400 (pc o1 (pc o1 (pc (g_water_plan_keeps_ok N ropen.1 ropen.1.f_start rkeeps hr3) pn))) ?_
   refine Runs.nC 0 38 h (fun hq4 h=>?_) (fun hq4 h=>?_)
   ·refine Runs.nR hE 1 [] [] (kp [6,7]) [] 432 pn ?_
    obtain rfl:=Option.some.inj h
    exact Runs.nT hE 0 Try.f9 [] ([(6,.sl (([]:List TMove).length) (fun zi=>TMove.cells (([]:List TMove).getD zi TMove.d)))] ++ kp [7]) [] 432 (pc (Eq.refl 0) pn) [] pn
   ·refine Runs.nR hE 2 [(4,⟨[],true,(.tup (encM (fun x=>.agg (Twater_state.cells x)) (fun x=>.agg (Twater_arrival.cells x)) (mPut (fun (za zb:Twater_state)=>((zb.e0 == za.e0) && ((zb.e1 == za.e1) && ((zb.e2 == za.e2) && ((zb.e3 == za.e3) && ((zb.e4 == za.e4) && ((zb.e5 == za.e5) && true))))))) ([]:List (Twater_state×Twater_arrival)) ropen.1.f_start (⟨(⟨0,0,0,0,0,0⟩:Twater_state),(⟨0,false⟩:TMove)⟩:Twater_arrival)))),[],0,false,none⟩)] [] (kp [3,8,10]) (kq [0,192,400]) 512 (pc o1 (pc (show Go.Ab.insA Try.prog 73 (encM (fun x=>.agg (Twater_state.cells x)) (fun x=>.agg (Twater_arrival.cells x)) ([]:List (Twater_state×Twater_arrival))) (.agg (Twater_state.cells ropen.1.f_start)) (.agg [(aI 0),(aI 0),(aI 0),(aI 0),(aI 0),(aI 0),(aI 0),(aB false)])=some (encM (fun x=>.agg (Twater_state.cells x)) (fun x=>.agg (Twater_arrival.cells x)) (mPut (fun (za zb:Twater_state)=>((zb.e0 == za.e0) && ((zb.e1 == za.e1) && ((zb.e2 == za.e2) && ((zb.e3 == za.e3) && ((zb.e4 == za.e4) && ((zb.e5 == za.e5) && true))))))) ([]:List (Twater_state×Twater_arrival)) ropen.1.f_start (⟨(⟨0,0,0,0,0,0⟩:Twater_state),(⟨0,false⟩:TMove)⟩:Twater_arrival))) from (insA_enc (fun x=>.agg (Twater_state.cells x)) (fun x=>.agg (Twater_arrival.cells x)) (fun _ _=>rfl) _ ropen.1.f_start (⟨(⟨0,0,0,0,0,0⟩:Twater_state),(⟨0,false⟩:TMove)⟩:Twater_arrival))) pn)) ?_
    refine Runs.nR hE 2 [] [] (kp [3,8,10] ++ [(11,.osl (([ropen.1.f_start]:List Twater_state).length))]) (kq [0,192,400] ++ [(544,.arr 544 (([ropen.1.f_start]:List Twater_state).length) (fun zi=>Twater_state.cells (([ropen.1.f_start]:List Twater_state).getD zi Twater_state.d)))]) 576 (pc o1 (pc (Eq.refl 1) (pc (Eq.refl 1) (pc (show ∀ zi,zi < ([ropen.1.f_start]:List Twater_state).length→(fun zi=>Twater_state.cells (([ropen.1.f_start]:List Twater_state).getD zi Twater_state.d)) zi=(fun zi=>([[(aI ropen.1.f_start.e0),(aI ropen.1.f_start.e1),(aI ropen.1.f_start.e2),(aI ropen.1.f_start.e3),(aI ropen.1.f_start.e4),(aI ropen.1.f_start.e5)]]:List (List AV)).getD zi []) zi from (fun zq hzq=>get_chunk Twater_state.cells Twater_state.d ([ropen.1.f_start]:List Twater_state) zq hzq)) pn)))) ?_
    exact Runs.nW hE 2 [] (kp [3,8,10,11]) (kq [0] ++ [(1,.keep 192),(2,.keep 400),(3,.keep 544)]) 4 pn (g_water_Ballast_L1_ok N _ _ N _ _ _ _ _ h E hE)
noncomputable def C_77 (n:Nat):Code:=cat (bodyOf Try.f10) (pth n)
def g_water_CheckBallast_L1_H (N:Nat) (moves:List TMove) (ropen:Twater_plan×Int) (K:Twater_state→Int→Option (Int)):Prop:=∀ (s:Twater_state) (x:Int) (r:Int),K s x=some r→∀ E,EnvOk E 0→Runs Try.prog E 10 62 (SPost E [] (aI r)) [.code (C_77 2036),.inLoop (C_77 2036),.inBlock 0,.code (C_77 255)] ⟨[(9,(.op 0 0 0)),(11,(.op 1 0 0)),(35,(encL TMove.cells TMove.d moves)),(36,(aI ((moves.length:Nat):Int))),(37,(aI x))],[(0,vO 18 (Twater_plan.cells ropen.1)),(1,vO 6 (Twater_state.cells s))],2⟩
theorem g_water_CheckBallast_L1_ok (N:Nat) (moves:List TMove) (ropen:Twater_plan×Int) (fuel:Nat):g_water_CheckBallast_L1_H N moves ropen (g_water_CheckBallast_L1 N moves ropen fuel):=by
 induction fuel with
 | zero=>intro _ _ r h;rw [g_water_CheckBallast_L1.eq_1] at h;cases h
 | succ fuel ih =>
  intro s x r h E hE
  rw [g_water_CheckBallast_L1.eq_2] at h
  refine Runs.nR hE 1 [] [] (kp [9,11,35,36,37,38]) (kq [0,1]) 18 pn ?_
  refine Runs.nC 1 38 h (fun hq5 h=>?_) (fun hq5 h=>?_)
  ·obtain ⟨c,h⟩:=ifSome h
   refine Runs.nR hE 4 [] [] (kp [9,11,13,35,36,37]) (kq [0,1,50]) 82 (pc c (pc o1 pn)) ?_
   obtain ⟨rmoved,hr3,h⟩:=bindSome h
   refine Runs.nR hE 1 [(3,⟨[],true,(.tup [(.agg (Twater_state.cells rmoved.1)),(aB rmoved.2)]),[],0,false,none⟩)] [] (kp [9,11,14,15,35,36,37]) (kq [0,1,194]) 242 (pc o1 (pc o1 (pc o1 (pc (g_water_plan_moved_ok N ropen.1 s (moves.getD ((x).toNat) TMove.d) rmoved hr3) (pc o1 pn))))) ?_
   refine Runs.nR hE 3 [] [] (kp [9,11,14,35,36,37,48]) (kq [0,1,194]) 290 pn ?_
   refine Runs.nC 0 48 h (fun hq6 h=>?_) (fun hq6 h=>?_)
   ·refine Runs.nR hE 1 [] [] (kp [8]) [] 306 pn ?_
    obtain rfl:=Option.some.inj h
    exact Runs.nT hE 0 Try.f10 [] (kp [8]) [] 306 pn [] pn
   ·obtain ⟨rkeeps2,hr4,h⟩:=bindSome h
    refine Runs.nR hE 1 [(2,⟨[],true,(aB rkeeps2),[],0,false,none⟩)] [] (kp [9,11,14,35,36,37,51]) (kq [0,1,194]) 370 (pc o1 (pc o1 (pc (g_water_plan_keeps_ok N ropen.1 rmoved.1 rkeeps2 hr4) pn))) ?_
    refine Runs.nC 0 51 h (fun hq7 h=>?_) (fun hq7 h=>?_)
    ·refine Runs.nR hE 1 [] [] (kp [8]) [] 386 pn ?_
     obtain rfl:=Option.some.inj h
     exact Runs.nT hE 0 Try.f10 [] (kp [8]) [] 386 pn [] pn
    ·refine Runs.nR hE 2 [] [] (kp [9,11,35,36,37]) (kq [0,1]) 402 (pc o1 (pc o1 pn)) ?_
     refine Runs.nR hE 1 [] [] (kp [9,11,35,36,37]) (kq [0,1]) 434 pn ?_
     exact Runs.nW hE 1 [] (kp [9,11,35,36,37]) (kq [0,1]) 2 pn (ih _ _ _ h E hE)
  ·obtain ⟨rdone,hr5,h⟩:=bindSome h
   refine Runs.nR hE 3 [(2,⟨[],true,(aB rdone),[],0,false,none⟩)] [] (kp [61]) [] 82 (pc o1 (pc o1 (pc (g_water_plan_done_ok N ropen.1 s rdone hr5) pn))) ?_
   refine Runs.nC 0 61 h (fun hq8 h=>?_) (fun hq8 h=>?_)
   ·refine Runs.nR hE 1 [] [] (kp [8]) [] 98 pn ?_
    obtain rfl:=Option.some.inj h
    exact Runs.nT hE 0 Try.f10 [] (kp [8]) [] 98 pn [] pn
   ·refine Runs.nR hE 2 [] [] (kp [8]) [] 98 pn ?_
    obtain rfl:=Option.some.inj h
    exact Runs.nT hE 0 Try.f10 [] (kp [8]) [] 98 pn [] pn
theorem g_water_CheckBallast_ok (N:Nat) (p:TPontoon) (l:TLimits) (a:TAim) (moves:List TMove) (r:Int) (h:g_water_CheckBallast N p l a moves=some r):Sound Try.prog 10 [(.agg (TPontoon.cells p)),(.agg (TLimits.cells l)),(.agg (TAim.cells a)),(encL TMove.cells TMove.d moves)] [] 0 (aI r) []:=by
 unfold g_water_CheckBallast at h
 refine Sound.of_runs (fu:=Try.f10) (c:=C_77 1) (nt:=62) (by kernel_rfl) (by kernel_rfl) (by kernel_rfl) (by kernel_rfl) (fun hm=>rfl) ?_
 intro E hE
 refine Runs.nR hE 1 [] [] (kp [3,4,5,6]) (kq [0,16,32]) 64 pn ?_
 obtain ⟨ropen,hr,h⟩:=bindSome h
 refine Runs.nR hE 1 [(3,⟨[],true,(.tup [(.agg (Twater_plan.cells ropen.1)),(aI ropen.2)]),[],0,false,none⟩)] [] (kp [3,9,10]) (kq [176]) 224 (pc o1 (pc o1 (pc o1 (pc (g_water_open_ok N p l a ropen hr) (pc o1 pn))))) ?_
 refine Runs.nR hE 2 [] [] (kp [3,9,10,24]) (kq [176]) 256 pn ?_
 refine Runs.nC 0 24 h (fun hq2 h=>?_) (fun hq2 h=>?_)
 ·refine Runs.nR hE 1 [] [] (kp [8]) [] 288 pn ?_
  obtain rfl:=Option.some.inj h
  exact Runs.nT hE 0 Try.f10 [] (kp [8]) [] 288 pn [] pn
 ·refine Runs.nR hE 3 [] [] (kp [3,9,28]) (kq [176]) 304 pn ?_
  refine Runs.nC 0 28 h (fun hq3 h=>?_) (fun hq3 h=>?_)
  ·refine Runs.nR hE 1 [] [] (kp [8]) [] 320 pn ?_
   obtain rfl:=Option.some.inj h
   exact Runs.nT hE 0 Try.f10 [] (kp [8]) [] 320 pn [] pn
  ·refine Runs.nR hE 2 [] [] (kp [3,9,11]) (kq [176,336]) 368 (pc o1 (pc o1 pn)) ?_
   obtain ⟨rkeeps,hr2,h⟩:=bindSome h
   refine Runs.nR hE 2 [(2,⟨[],true,(aB rkeeps),[],0,false,none⟩)] [] (kp [3,9,11,34]) (kq [176,336]) 432 (pc o1 (pc o1 (pc (g_water_plan_keeps_ok N ropen.1 ropen.1.f_start rkeeps hr2) pn))) ?_
   refine Runs.nC 0 34 h (fun hq4 h=>?_) (fun hq4 h=>?_)
   ·refine Runs.nR hE 1 [] [] (kp [8]) [] 448 pn ?_
    obtain rfl:=Option.some.inj h
    exact Runs.nT hE 0 Try.f10 [] (kp [8]) [] 448 pn [] pn
   ·refine Runs.nR hE 3 [] [] (kp [9,11,35,36,37]) (kq [176,336]) 480 pn ?_
    exact Runs.nW hE 2 [] (kp [9,11,35,36,37]) [(0,.keep 176),(1,.keep 336)] 2 pn (g_water_CheckBallast_L1_ok N _ _ N _ _ _ h E hE)
noncomputable def C_80 (n:Nat):Code:=cat (bodyOf Try.f29) (pth n)
theorem g_r05_CheckLimits_ok (N:Nat) (l:TLimits) (r:Int) (h:g_r05_CheckLimits N l=some r):Sound Try.prog 29 [(.agg (TLimits.cells l))] [] 0 (aI r) []:=by
 unfold g_r05_CheckLimits at h
 refine Sound.of_runs (fu:=Try.f29) (c:=C_80 1) (nt:=31) (by kernel_rfl) (by kernel_rfl) (by kernel_rfl) (by kernel_rfl) (fun hm=>rfl) ?_
 intro E hE
 refine Runs.nR hE 1 [] [] (kp [1]) (kq [0]) 32 pn ?_
 obtain ⟨rinside,hr,h⟩:=bindSome h
 obtain ⟨rinside2,hr2,h⟩:=bindSome h
 obtain ⟨rinside3,hr3,h⟩:=bindSome h
 obtain ⟨rinside4,hr4,h⟩:=bindSome h
 obtain ⟨rinside5,hr5,h⟩:=bindSome h
 refine Runs.nR hE 2 [(2,⟨[],true,(aB rinside),[],0,false,none⟩),(7,⟨[],true,(aB rinside2),[],0,false,none⟩),(13,⟨[],true,(aB rinside3),[],0,false,none⟩),(19,⟨[],true,(aB rinside4),[],0,false,none⟩),(25,⟨[],true,(aB rinside5),[],0,false,none⟩)] [] (kp [30]) [] 480 (pc o1 (pc (g_r05_inside_ok N l.f_DraughtLeast 0 1000000 rinside hr) (pc (fun hg:(!(!rinside))=true=>(pc hg (pc o1 pn))) (pc (fun hg:(!(!rinside))=true=>(pc (g_r05_inside_ok N l.f_DraughtMost 0 1000000 rinside2 (condT hr2 hg)) (pc hg pn))) (pc (fun hg:(!(!rinside))=true=>(pc hg pn)) (pc (fun hq:(!(!rinside))=true=>(pc hq pn)) (pc (fun hg:(!(cond (!rinside) true (!rinside2)))=true=>(pc hg (pc o1 pn))) (pc (fun hg:(!(cond (!rinside) true (!rinside2)))=true=>(pc (g_r05_inside_ok N l.f_TrimMost 0 1000 rinside3 (condT hr3 hg)) (pc hg pn))) (pc (fun hg:(!(cond (!rinside) true (!rinside2)))=true=>(pc hg pn)) (pc (fun hq:(!(cond (!rinside) true (!rinside2)))=true=>(pc hq pn)) (pc (fun hg:(!(cond (cond (!rinside) true (!rinside2)) true (!rinside3)))=true=>(pc hg (pc o1 pn))) (pc (fun hg:(!(cond (cond (!rinside) true (!rinside2)) true (!rinside3)))=true=>(pc (g_r05_inside_ok N l.f_HeelMost 0 1000 rinside4 (condT hr4 hg)) (pc hg pn))) (pc (fun hg:(!(cond (cond (!rinside) true (!rinside2)) true (!rinside3)))=true=>(pc hg pn)) (pc (fun hq:(!(cond (cond (!rinside) true (!rinside2)) true (!rinside3)))=true=>(pc hq pn)) (pc (fun hg:(!(cond (cond (cond (!rinside) true (!rinside2)) true (!rinside3)) true (!rinside4)))=true=>(pc hg (pc o1 pn))) (pc (fun hg:(!(cond (cond (cond (!rinside) true (!rinside2)) true (!rinside3)) true (!rinside4)))=true=>(pc (g_r05_inside_ok N l.f_HogMost 0 1000000000000000000 rinside5 (condT hr5 hg)) (pc hg pn))) (pc (fun hg:(!(cond (cond (cond (!rinside) true (!rinside2)) true (!rinside3)) true (!rinside4)))=true=>(pc hg pn)) (pc (fun hq:(!(cond (cond (cond (!rinside) true (!rinside2)) true (!rinside3)) true (!rinside4)))=true=>(pc hq pn)) pn)))))))))))))))))) ?_
 refine Runs.nC 0 30 h (fun hq2 h=>?_) (fun hq2 h=>?_)
 ·refine Runs.nR hE 1 [] [] (kp [2]) [] 496 pn ?_
  obtain rfl:=Option.some.inj h
  exact Runs.nT hE 0 Try.f29 [] (kp [2]) [] 496 pn [] pn
 ·refine Runs.nR hE 2 [] [] (kp [2]) [] 496 pn ?_
  obtain rfl:=Option.some.inj h
  exact Runs.nT hE 0 Try.f29 [] (kp [2]) [] 496 pn [] pn
noncomputable def C_82 (n:Nat):Code:=cat (bodyOf Try.f50) (pth n)
def g_r05_CheckSteps_L1_H (N:Nat) (p:TPontoon) (steps:List Int) (K:Int→Option (Int)):Prop:=∀ (i:Int) (r:Int),K i=some r→∀ E,EnvOk E 0→Runs Try.prog E 50 30 (SPost E [] (aI r)) [.code (C_82 116),.inLoop (C_82 116),.inBlock 0,.code (C_82 15)] ⟨[(1,(encL cI 0 steps)),(2,(.op 0 0 0)),(5,(aI i))],[(0,vO 5 (TPontoon.cells p))],1⟩
theorem g_r05_CheckSteps_L1_ok (N:Nat) (p:TPontoon) (steps:List Int) (fuel:Nat):g_r05_CheckSteps_L1_H N p steps (g_r05_CheckSteps_L1 N p steps fuel):=by
 induction fuel with
 | zero=>intro _ r h;rw [g_r05_CheckSteps_L1.eq_1] at h;cases h
 | succ fuel ih =>
  intro i r h E hE
  rw [g_r05_CheckSteps_L1.eq_2] at h
  refine Runs.nR hE 2 [] [] (kp [1,2,5,15]) (kq [0]) 65 pn ?_
  refine Runs.nC 0 15 h (fun hq3 h=>?_) (fun hq3 h=>?_)
  ·obtain ⟨c,h⟩:=ifSome h
   obtain ⟨c2,h⟩:=ifSome h
   obtain ⟨rinside,hr,h⟩:=bindSome h
   refine Runs.nR hE 4 [(10,⟨[],true,(aB rinside),[],0,false,none⟩)] [] (kp [1,2,5,29]) (kq [0]) 257 (pc c (pc o1 (pc c2 (pc (g_r05_inside_ok N (steps.getD ((i).toNat) 0) 0 ((p.f_Tanks.getD ((i).toNat) TTank.d).f_Steps) rinside hr) pn)))) ?_
   refine Runs.nC 0 29 h (fun hq4 h=>?_) (fun hq4 h=>?_)
   ·refine Runs.nR hE 1 [] [] (kp [4]) [] 273 pn ?_
    obtain rfl:=Option.some.inj h
    exact Runs.nT hE 0 Try.f50 [] (kp [4]) [] 273 pn [] pn
   ·refine Runs.nR hE 2 [] [] (kp [1,2,5]) (kq [0]) 305 pn ?_
    exact Runs.nW hE 1 [] (kp [1,2,5]) (kq [0]) 1 pn (ih _ _ h E hE)
  ·refine Runs.nR hE 2 [] [] (kp [4]) [] 81 pn ?_
   obtain rfl:=Option.some.inj h
   exact Runs.nT hE 0 Try.f50 [] (kp [4]) [] 81 pn [] pn
theorem g_r05_CheckSteps_ok (N:Nat) (p:TPontoon) (steps:List Int) (r:Int) (h:g_r05_CheckSteps N p steps=some r):Sound Try.prog 50 [(.agg (TPontoon.cells p)),(encL cI 0 steps)] [] 0 (aI r) []:=by
 unfold g_r05_CheckSteps at h
 refine Sound.of_runs (fu:=Try.f50) (c:=C_82 1) (nt:=30) (by kernel_rfl) (by kernel_rfl) (by kernel_rfl) (by kernel_rfl) (fun hm=>rfl) ?_
 intro E hE
 refine Runs.nR hE 1 [] [] (kp [1,2]) (kq [0]) 32 pn ?_
 refine Runs.nR hE 2 [] [] (kp [1,2,11]) (kq [0]) 128 (pc o1 pn) ?_
 refine Runs.nC 0 11 h (fun hq2 h=>?_) (fun hq2 h=>?_)
 ·refine Runs.nR hE 1 [] [] (kp [4]) [] 144 pn ?_
  obtain rfl:=Option.some.inj h
  exact Runs.nT hE 0 Try.f50 [] (kp [4]) [] 144 pn [] pn
 ·refine Runs.nR hE 3 [] [] (kp [1,2,5]) (kq [0]) 144 pn ?_
  exact Runs.nW hE 2 [] (kp [1,2,5]) (kq [0]) 1 pn (g_r05_CheckSteps_L1_ok N _ _ N _ _ h E hE)
noncomputable def C_81 (n:Nat):Code:=cat (bodyOf Try.f30) (pth n)
theorem g_r05_CheckAim_ok (N:Nat) (p:TPontoon) (a:TAim) (r:Int) (h:g_r05_CheckAim N p a=some r):Sound Try.prog 30 [(.agg (TPontoon.cells p)),(.agg (TAim.cells a))] [] 0 (aI r) []:=by
 unfold g_r05_CheckAim at h
 refine Sound.of_runs (fu:=Try.f30) (c:=C_81 1) (nt:=23) (by kernel_rfl) (by kernel_rfl) (by kernel_rfl) (by kernel_rfl) (fun hm=>rfl) ?_
 intro E hE
 refine Runs.nR hE 1 [] [] (kp [2,3]) (kq [0,16]) 48 pn ?_
 obtain ⟨rCheckSteps,hr,h⟩:=bindSome h
 refine Runs.nR hE 2 [(3,⟨[],true,(aI rCheckSteps),[],0,false,none⟩)] [] (kp [3,5]) (kq [16]) 128 (pc o1 (pc o1 (pc (g_r05_CheckSteps_ok N p a.f_Start rCheckSteps hr) pn))) ?_
 refine Runs.nR hE 1 [] [] (kp [3,5,11]) (kq [16]) 160 pn ?_
 refine Runs.nC 0 11 h (fun hq2 h=>?_) (fun hq2 h=>?_)
 ·refine Runs.nR hE 1 [] [] (kp [4]) [] 192 pn ?_
  obtain rfl:=Option.some.inj h
  exact Runs.nT hE 0 Try.f30 [] (kp [4]) [] 192 pn [] pn
 ·obtain ⟨rinside,hr2,h⟩:=bindSome h
  obtain ⟨rinside2,hr3,h⟩:=bindSome h
  refine Runs.nR hE 3 [(2,⟨[],true,(aB rinside),[],0,false,none⟩),(7,⟨[],true,(aB rinside2),[],0,false,none⟩)] [] (kp [22]) [] 320 (pc o1 (pc (g_r05_inside_ok N a.f_DraughtLeast 0 1000000 rinside hr2) (pc (fun hg:(!(!rinside))=true=>(pc hg (pc o1 pn))) (pc (fun hg:(!(!rinside))=true=>(pc (g_r05_inside_ok N a.f_DraughtMost 0 1000000 rinside2 (condT hr3 hg)) (pc hg pn))) (pc (fun hg:(!(!rinside))=true=>(pc hg pn)) (pc (fun hq:(!(!rinside))=true=>(pc hq pn)) pn)))))) ?_
  refine Runs.nC 0 22 h (fun hq3 h=>?_) (fun hq3 h=>?_)
  ·refine Runs.nR hE 1 [] [] (kp [4]) [] 336 pn ?_
   obtain rfl:=Option.some.inj h
   exact Runs.nT hE 0 Try.f30 [] (kp [4]) [] 336 pn [] pn
  ·refine Runs.nR hE 2 [] [] (kp [4]) [] 336 pn ?_
   obtain rfl:=Option.some.inj h
   exact Runs.nT hE 0 Try.f30 [] (kp [4]) [] 336 pn [] pn
noncomputable def C_79 (n:Nat):Code:=cat (bodyOf Try.f11) (pth n)
theorem g_r05_CheckBegin_ok (N:Nat) (p:TPontoon) (l:TLimits) (a:TAim) (r:Int) (h:g_r05_CheckBegin N p l a=some r):Sound Try.prog 11 [(.agg (TPontoon.cells p)),(.agg (TLimits.cells l)),(.agg (TAim.cells a))] [] 0 (aI r) []:=by
 unfold g_r05_CheckBegin at h
 refine Sound.of_runs (fu:=Try.f11) (c:=C_79 1) (nt:=22) (by kernel_rfl) (by kernel_rfl) (by kernel_rfl) (by kernel_rfl) (fun hm=>rfl) ?_
 intro E hE
 refine Runs.nR hE 1 [] [] (kp [3,4,5]) (kq [0,16,32]) 64 pn ?_
 obtain ⟨rCheckPontoon,hr,h⟩:=bindSome h
 refine Runs.nR hE 2 [(1,⟨[],true,(aI rCheckPontoon),[],0,false,none⟩)] [] (kp [3,4,5,7]) (kq [0,16,32]) 112 (pc o1 (pc (g_r05_CheckPontoon_ok N p rCheckPontoon hr) pn)) ?_
 refine Runs.nR hE 1 [] [] (kp [3,4,5,7,12]) (kq [0,16,32]) 144 pn ?_
 refine Runs.nC 0 12 h (fun hq2 h=>?_) (fun hq2 h=>?_)
 ·refine Runs.nR hE 1 [] [] (kp [6]) [] 176 pn ?_
  obtain rfl:=Option.some.inj h
  exact Runs.nT hE 0 Try.f11 [] (kp [6]) [] 176 pn [] pn
 ·obtain ⟨rCheckLimits,hr2,h⟩:=bindSome h
  refine Runs.nR hE 3 [(1,⟨[],true,(aI rCheckLimits),[],0,false,none⟩)] [] (kp [3,5,8]) (kq [0,32]) 192 (pc o1 (pc (g_r05_CheckLimits_ok N l rCheckLimits hr2) pn)) ?_
  refine Runs.nR hE 1 [] [] (kp [3,5,8,17]) (kq [0,32]) 224 pn ?_
  refine Runs.nC 0 17 h (fun hq3 h=>?_) (fun hq3 h=>?_)
  ·refine Runs.nR hE 1 [] [] (kp [6]) [] 256 pn ?_
   obtain rfl:=Option.some.inj h
   exact Runs.nT hE 0 Try.f11 [] (kp [6]) [] 256 pn [] pn
  ·obtain ⟨rCheckAim,hr3,h⟩:=bindSome h
   refine Runs.nR hE 2 [(2,⟨[],true,(aI rCheckAim),[],0,false,none⟩)] [] (kp [6]) [] 288 (pc o1 (pc o1 (pc (g_r05_CheckAim_ok N p a rCheckAim hr3) pn))) ?_
   obtain rfl:=Option.some.inj h
   exact Runs.nT hE 0 Try.f11 [] (kp [6]) [] 288 pn [] pn
noncomputable def C_86 (n:Nat):Code:=cat (bodyOf Try.f76) (pth n)
def g_water_checkForm_L1_H (N:Nat) (b:TBasin) (K:Int→Option (Int)):Prop:=∀ (x:Int) (r:Int),K x=some r→∀ E,EnvOk E 0→Runs Try.prog E 76 60 (SPost E [] (aI r)) [.code (C_86 116),.inLoop (C_86 116),.inBlock 0,.code (C_86 15)] ⟨[(1,(.op 0 0 0)),(11,(encL TArea.cells TArea.d b.f_Areas)),(12,(aI ((b.f_Areas.length:Nat):Int))),(13,(aI x))],[(0,vO 3 (TBasin.cells b))],1⟩
theorem g_water_checkForm_L1_ok (N:Nat) (b:TBasin) (fuel:Nat):g_water_checkForm_L1_H N b (g_water_checkForm_L1 N b fuel):=by
 induction fuel with
 | zero=>intro _ r h;rw [g_water_checkForm_L1.eq_1] at h;cases h
 | succ fuel ih =>
  intro x r h E hE
  rw [g_water_checkForm_L1.eq_2] at h
  refine Runs.nR hE 1 [] [] (kp [1,11,12,13,14]) (kq [0]) 17 pn ?_
  refine Runs.nC 1 14 h (fun hq3 h=>?_) (fun hq3 h=>?_)
  ·obtain ⟨c,h⟩:=ifSome h
   refine Runs.nR hE 4 [] [] (kp [1,3,4,11,12,13]) (kq [0,65]) 113 (pc c (pc o1 pn)) ?_
   obtain ⟨rbetween2,hr2,h⟩:=bindSome h
   obtain ⟨rbetween3,hr3,h⟩:=bindSome h
   refine Runs.nR hE 2 [(2,⟨[],true,(aB rbetween2),[],0,false,none⟩),(7,⟨[],true,(aB rbetween3),[],0,false,none⟩)] [] (kp [1,3,4,11,12,13,27]) (kq [0,65]) 273 (pc o1 (pc (g_water_between_ok N ((b.f_Areas.getD ((x).toNat) TArea.d).f_From) (-1000000) 1000000 rbetween2 hr2) (pc (fun hg:(!(!rbetween2))=true=>(pc hg (pc o1 pn))) (pc (fun hg:(!(!rbetween2))=true=>(pc (g_water_between_ok N ((b.f_Areas.getD ((x).toNat) TArea.d).f_Size) 1 1000000 rbetween3 (condT hr3 hg)) (pc hg pn))) (pc (fun hg:(!(!rbetween2))=true=>(pc hg pn)) (pc (fun hq:(!(!rbetween2))=true=>(pc hq pn)) pn)))))) ?_
   refine Runs.nC 0 27 h (fun hq4 h=>?_) (fun hq4 h=>?_)
   ·refine Runs.nR hE 1 [] [] (kp [2]) [] 289 pn ?_
    obtain rfl:=Option.some.inj h
    exact Runs.nT hE 0 Try.f76 [] (kp [2]) [] 289 pn [] pn
   ·obtain ⟨c2,h⟩:=ifSome h
    refine Runs.nR hE 2 [] [] (kp [1,11,12,13,41]) (kq [0]) 497 (pc (fun hg:(decide (x > 0))=true=>(pc hg (pc o1 pn))) (pc (fun hg:(decide (x > 0))=true=>(pc hg (pc o1 pn))) (pc (fun hg:(decide (x > 0))=true=>(pc hg pn)) (pc (fun hg:(decide (x > 0))=true=>(pc hg (pc hg (pc (c2 hg) pn)))) (pc (fun hg:(decide (x > 0))=true=>(pc hg pn)) (pc (fun hg:(decide (x > 0))=true=>(pc hg pn)) (pc (fun hg:(decide (x > 0))=true=>(pc hg (pc hg pn))) (pc (fun hq:(decide (x > 0))=true=>(pc hq pn)) pn)))))))) ?_
    refine Runs.nC 0 41 h (fun hq5 h=>?_) (fun hq5 h=>?_)
    ·refine Runs.nR hE 1 [] [] (kp [2]) [] 513 pn ?_
     obtain rfl:=Option.some.inj h
     exact Runs.nT hE 0 Try.f76 [] (kp [2]) [] 513 pn [] pn
    ·refine Runs.nR hE 2 [] [] (kp [1,11,12,13]) (kq [0]) 529 pn ?_
     exact Runs.nW hE 1 [] (kp [1,11,12,13]) (kq [0]) 1 pn (ih _ _ h E hE)
  ·obtain ⟨c3,h⟩:=ifSome h
   refine Runs.nR hE 3 [] [] (kp [59]) [] 289 (pc o1 (pc o1 (pc o1 (pc c3 (pc (fun hg:(!(decide (b.f_Rim≤(b.f_Areas.getD ((w64 (((b.f_Areas.length:Nat):Int) - 1)).toNat) TArea.d).f_From)))=true=>(pc hg (pc o1 pn))) (pc (fun hg:(!(decide (b.f_Rim≤(b.f_Areas.getD ((w64 (((b.f_Areas.length:Nat):Int) - 1)).toNat) TArea.d).f_From)))=true=>(pc hg pn)) (pc (fun hq:(!(decide (b.f_Rim≤(b.f_Areas.getD ((w64 (((b.f_Areas.length:Nat):Int) - 1)).toNat) TArea.d).f_From)))=true=>(pc hq pn)) pn))))))) ?_
   refine Runs.nC 0 59 h (fun hq6 h=>?_) (fun hq6 h=>?_)
   ·refine Runs.nR hE 1 [] [] (kp [2]) [] 305 pn ?_
    obtain rfl:=Option.some.inj h
    exact Runs.nT hE 0 Try.f76 [] (kp [2]) [] 305 pn [] pn
   ·refine Runs.nR hE 2 [] [] (kp [2]) [] 305 pn ?_
    obtain rfl:=Option.some.inj h
    exact Runs.nT hE 0 Try.f76 [] (kp [2]) [] 305 pn [] pn
theorem g_water_checkForm_ok (N:Nat) (b:TBasin) (r:Int) (h:g_water_checkForm N b=some r):Sound Try.prog 76 [(.agg (TBasin.cells b))] [] 0 (aI r) []:=by
 unfold g_water_checkForm at h
 refine Sound.of_runs (fu:=Try.f76) (c:=C_86 1) (nt:=60) (by kernel_rfl) (by kernel_rfl) (by kernel_rfl) (by kernel_rfl) (fun hm=>rfl) ?_
 intro E hE
 refine Runs.nR hE 1 [] [] (kp [1]) (kq [0]) 32 pn ?_
 obtain ⟨rbetween,hr,h⟩:=bindSome h
 refine Runs.nR hE 2 [(3,⟨[],true,(aB rbetween),[],0,false,none⟩)] [] (kp [1,9]) (kq [0]) 112 (pc o1 (pc (g_water_between_ok N ((b.f_Areas.length:Nat):Int) 1 20 rbetween hr) pn)) ?_
 refine Runs.nC 0 9 h (fun hq2 h=>?_) (fun hq2 h=>?_)
 ·refine Runs.nR hE 1 [] [] (kp [2]) [] 128 pn ?_
  obtain rfl:=Option.some.inj h
  exact Runs.nT hE 0 Try.f76 [] (kp [2]) [] 128 pn [] pn
 ·refine Runs.nR hE 3 [] [] (kp [1,11,12,13]) (kq [0]) 176 (pc o1 pn) ?_
  exact Runs.nW hE 2 [] (kp [1,11,12,13]) (kq [0]) 1 pn (g_water_checkForm_L1_ok N _ N _ _ h E hE)
noncomputable def C_85 (n:Nat):Code:=cat (bodyOf Try.f51) (pth n)
theorem g_water_CheckBasin_ok (N:Nat) (b:TBasin) (r:Int) (h:g_water_CheckBasin N b=some r):Sound Try.prog 51 [(.agg (TBasin.cells b))] [] 0 (aI r) []:=by
 unfold g_water_CheckBasin at h
 refine Sound.of_runs (fu:=Try.f51) (c:=C_85 1) (nt:=9) (by kernel_rfl) (by kernel_rfl) (by kernel_rfl) (by kernel_rfl) (fun hm=>rfl) ?_
 intro E hE
 refine Runs.nR hE 1 [] [] (kp [1]) (kq [0]) 32 pn ?_
 obtain ⟨risName,hr,h⟩:=bindSome h
 refine Runs.nR hE 2 [(2,⟨[],true,(aB risName),[],0,false,none⟩)] [] (kp [1,6]) (kq [0]) 96 (pc o1 (pc (g_water_isName_ok N b.f_Name risName hr) pn)) ?_
 refine Runs.nC 0 6 h (fun hq2 h=>?_) (fun hq2 h=>?_)
 ·refine Runs.nR hE 1 [] [] (kp [2]) [] 112 pn ?_
  obtain rfl:=Option.some.inj h
  exact Runs.nT hE 0 Try.f51 [] (kp [2]) [] 112 pn [] pn
 ·obtain ⟨rcheckForm,hr2,h⟩:=bindSome h
  refine Runs.nR hE 2 [(1,⟨[],true,(aI rcheckForm),[],0,false,none⟩)] [] (kp [2]) [] 144 (pc o1 (pc (g_water_checkForm_ok N b rcheckForm hr2) pn)) ?_
  obtain rfl:=Option.some.inj h
  exact Runs.nT hE 0 Try.f51 [] (kp [2]) [] 144 pn [] pn
noncomputable def C_87 (n:Nat):Code:=cat (bodyOf Try.f52) (pth n)
theorem g_water_floor_ok (N:Nat) (b:TBasin) (r:Int) (h:g_water_floor N b=some r):Sound Try.prog 52 [(.agg (TBasin.cells b))] [] 0 (aI r) []:=by
 unfold g_water_floor at h
 refine Sound.of_runs (fu:=Try.f52) (c:=C_87 1) (nt:=8) (by kernel_rfl) (by kernel_rfl) (by kernel_rfl) (by kernel_rfl) (fun hm=>rfl) ?_
 intro E hE
 refine Runs.nR hE 1 [] [] (kp [1]) (kq [0]) 32 pn ?_
 obtain ⟨c,h⟩:=ifSome h
 refine Runs.nR hE 1 [] [] (kp [2]) [] 128 (pc o1 (pc c pn)) ?_
 obtain rfl:=Option.some.inj h
 exact Runs.nT hE 0 Try.f52 [] (kp [2]) [] 128 pn [] pn
noncomputable def C_88 (n:Nat):Code:=cat (bodyOf Try.f53) (pth n)
def g_water_volume_L1_H (N:Nat) (b:TBasin) (level:Int) (K:Int→Int→Option (Int)):Prop:=∀ (sum:Int) (x:Int) (r:Int),K sum x=some r→∀ E,EnvOk E 0→Runs Try.prog E 53 45 (SPost E [] (aI r)) [.code (C_88 116),.inLoop (C_88 116),.inBlock 0,.code (C_88 15)] ⟨[(1,(aI level)),(2,(.op 0 0 0)),(5,(aI sum)),(10,(encL TArea.cells TArea.d b.f_Areas)),(11,(aI ((b.f_Areas.length:Nat):Int))),(12,(aI x))],[(0,vO 3 (TBasin.cells b))],1⟩
def g_water_volume_J2_H (N:Nat) (b:TBasin) (level:Int) (sum:Int) (x:Int) (K:Int→Option (Int)):Prop:=∀ (top:Int) (r:Int),K top=some r→∀ E,EnvOk E 0→Runs Try.prog E 53 45 (SPost E [] (aI r)) [.code (C_88 14951),.inBlock 1,.code (C_88 935),.inLoop (C_88 116),.inBlock 0,.code (C_88 15)] ⟨[(1,(aI level)),(2,(.op 0 0 0)),(5,(aI sum)),(7,(.op 1 0 0)),(8,(aI top)),(10,(encL TArea.cells TArea.d b.f_Areas)),(11,(aI ((b.f_Areas.length:Nat):Int))),(12,(aI x))],[(0,vO 3 (TBasin.cells b)),(1,vO 2 (TArea.cells (b.f_Areas.getD ((x).toNat) TArea.d)))],2⟩
theorem g_water_volume_J2_ok (N:Nat) (b:TBasin) (level:Int) (sum:Int) (x:Int) (K_g_water_volume_L1:Int→Int→Option (Int)) (hK_g_water_volume_L1:g_water_volume_L1_H N b level K_g_water_volume_L1):g_water_volume_J2_H N b level sum x (g_water_volume_J2 N b level sum x K_g_water_volume_L1):=by
 intro top r h E hE
 unfold g_water_volume_J2 at h
 refine Runs.nR hE 0 [] [] (kp [1,2,5,10,11,12]) (kq [0]) 178 (pc o1 (pc o1 pn)) ?_
 refine Runs.nR hE 1 [] [] (kp [1,2,5,10,11,12]) (kq [0]) 210 pn ?_
 exact Runs.nW hE 1 [] (kp [1,2,5,10,11,12]) (kq [0]) 1 pn (hK_g_water_volume_L1 _ _ _ h E hE)
theorem g_water_volume_L1_ok (N:Nat) (b:TBasin) (level:Int) (fuel:Nat):g_water_volume_L1_H N b level (g_water_volume_L1 N b level fuel):=by
 induction fuel with
 | zero=>intro _ _ r h;rw [g_water_volume_L1.eq_1] at h;cases h
 | succ fuel ih =>
  intro sum x r h E hE
  rw [g_water_volume_L1.eq_2] at h
  refine Runs.nR hE 1 [] [] (kp [1,2,5,10,11,12,13]) (kq [0]) 17 pn ?_
  refine Runs.nC 1 13 h (fun hq2 h=>?_) (fun hq2 h=>?_)
  ·obtain ⟨c,h⟩:=ifSome h
   refine Runs.nR hE 4 [] [] (kp [1,2,5,6,7,10,11,12]) (kq [0,65]) 113 (pc c (pc o1 pn)) ?_
   refine Runs.nR hE 1 [] [] (kp [1,2,5,6,7,8,10,11,12]) (kq [0,65]) 145 pn ?_
   refine Runs.nR hE 2 [] [] (kp [1,2,5,6,7,8,10,11,12,23]) (kq [0,65]) 241 (pc o1 pn) ?_
   refine Runs.nC 0 23 h (fun hq3 h=>?_) (fun hq3 h=>?_)
   ·obtain ⟨c2,h⟩:=ifSome h
    refine Runs.nR hE 0 [] [] (kp [1,2,5,7,8,10,11,12]) (kq [0,65]) 401 (pc o1 (pc c2 pn)) ?_
    exact Runs.nW hE 0 [] (kp [1,2,5,7,8,10,11,12]) (kq [0] ++ [(1,.keep 65)]) 2 pn (g_water_volume_J2_ok N _ _ _ _ _ ih _ _ h E hE)
   ·exact Runs.nW hE 1 [] (kp [1,2,5,7,8,10,11,12]) (kq [0] ++ [(1,.keep 65)]) 2 pn (g_water_volume_J2_ok N _ _ _ _ _ ih _ _ h E hE)
  ·refine Runs.nR hE 2 [] [] (kp [4]) [] 49 pn ?_
   obtain rfl:=Option.some.inj h
   exact Runs.nT hE 0 Try.f53 [] (kp [4]) [] 49 pn [] pn
theorem g_water_volume_ok (N:Nat) (b:TBasin) (level:Int) (r:Int) (h:g_water_volume N b level=some r):Sound Try.prog 53 [(.agg (TBasin.cells b)),(aI level)] [] 0 (aI r) []:=by
 unfold g_water_volume at h
 refine Sound.of_runs (fu:=Try.f53) (c:=C_88 1) (nt:=45) (by kernel_rfl) (by kernel_rfl) (by kernel_rfl) (by kernel_rfl) (fun hm=>rfl) ?_
 intro E hE
 refine Runs.nR hE 1 [] [] (kp [1,2]) (kq [0]) 32 pn ?_
 refine Runs.nR hE 1 [] [] (kp [1,2,5]) (kq [0]) 48 pn ?_
 refine Runs.nR hE 2 [] [] (kp [1,2,5,10,11,12]) (kq [0]) 112 (pc o1 pn) ?_
 exact Runs.nW hE 2 [] (kp [1,2,5,10,11,12]) (kq [0]) 1 pn (g_water_volume_L1_ok N _ _ N _ _ _ h E hE)
noncomputable def C_84 (n:Nat):Code:=cat (bodyOf Try.f31) (pth n)
theorem g_water_Volume_ok (N:Nat) (b:TBasin) (level:Int) (r:Int×Int) (h:g_water_Volume N b level=some r):Sound Try.prog 31 [(.agg (TBasin.cells b)),(aI level)] [] 0 (.tup [(aI r.1),(aI r.2)]) []:=by
 unfold g_water_Volume at h
 refine Sound.of_runs (fu:=Try.f31) (c:=C_84 1) (nt:=22) (by kernel_rfl) (by kernel_rfl) (by kernel_rfl) (by kernel_rfl) (fun hm=>rfl) ?_
 intro E hE
 refine Runs.nR hE 1 [] [] (kp [1,2]) (kq [0]) 48 pn ?_
 obtain ⟨rCheckBasin,hr,h⟩:=bindSome h
 refine Runs.nR hE 2 [(1,⟨[],true,(aI rCheckBasin),[],0,false,none⟩)] [] (kp [1,2,6]) (kq [0]) 96 (pc o1 (pc (g_water_CheckBasin_ok N b rCheckBasin hr) pn)) ?_
 refine Runs.nR hE 1 [] [] (kp [1,2,6,10]) (kq [0]) 128 pn ?_
 refine Runs.nC 0 10 h (fun hq2 h=>?_) (fun hq2 h=>?_)
 ·refine Runs.nR hE 1 [] [] (kp [4,5]) [] 176 pn ?_
  obtain rfl:=Option.some.inj h
  exact Runs.nT hE 0 Try.f31 [] (kp [4,5]) [] 176 pn [] pn
 ·obtain ⟨rfloor,hr2,h⟩:=bindSome h
  obtain ⟨rbetween,hr3,h⟩:=bindSome h
  refine Runs.nR hE 3 [(2,⟨[],true,(aI rfloor),[],0,false,none⟩),(5,⟨[],true,(aB rbetween),[],0,false,none⟩)] [] (kp [1,2,18]) (kq [0]) 240 (pc o1 (pc (g_water_floor_ok N b rfloor hr2) (pc o1 (pc (g_water_between_ok N level rfloor b.f_Rim rbetween hr3) pn)))) ?_
  refine Runs.nC 0 18 h (fun hq3 h=>?_) (fun hq3 h=>?_)
  ·refine Runs.nR hE 1 [] [] (kp [4,5]) [] 272 pn ?_
   obtain rfl:=Option.some.inj h
   exact Runs.nT hE 0 Try.f31 [] (kp [4,5]) [] 272 pn [] pn
  ·obtain ⟨rvolume,hr4,h⟩:=bindSome h
   refine Runs.nR hE 2 [(2,⟨[],true,(aI rvolume),[],0,false,none⟩)] [] (kp [4,5]) [] 320 (pc o1 (pc (g_water_volume_ok N b level rvolume hr4) pn)) ?_
   obtain rfl:=Option.some.inj h
   exact Runs.nT hE 0 Try.f31 [] (kp [4,5]) [] 320 pn [] pn
noncomputable def C_83 (n:Nat):Code:=cat (bodyOf Try.f12) (pth n)
theorem g_keelblocktop_wet_ok (N:Nat) (r:Bool) (h:g_keelblocktop_wet N=some r):Sound Try.prog 12 [] [] 0 (aB r) []:=by
 unfold g_keelblocktop_wet at h
 refine Sound.of_runs (fu:=Try.f12) (c:=C_83 1) (nt:=16) (by kernel_rfl) (by kernel_rfl) (by kernel_rfl) (by kernel_rfl) (fun hm=>rfl) ?_
 intro E hE
 refine Runs.nR hE 1 [] [] [] [] 16 pn ?_
 obtain ⟨rVolume,hr,h⟩:=bindSome h
 refine Runs.nR hE 1 [(3,⟨[],true,(.tup [(aI rVolume.1),(aI rVolume.2)]),[],0,false,none⟩)] [] (kp [1,2]) [] 160 (pc (show Sound Try.prog 31 [(.agg [(aS (⟨#[65]⟩:ByteArray)),(.sl 1 (fun zi=>(fun zi=>([[(aI 0),(aI 100)]]:List (List AV)).getD zi []) (addz 0 zi))),(aI 50)]),(aI 30)] [] 0 (.tup [(aI rVolume.1),(aI rVolume.2)]) [] from (Sound.conv (g_water_Volume_ok N (⟨(⟨#[65]⟩:ByteArray),([(⟨0,100⟩:TArea)]:List TArea),50⟩:TBasin) 30 rVolume hr) (.cons (Alike.agg (.cons (Alike.refl _) (.cons (Alike.sl rfl (fun zq hzq=>get_chunk TArea.cells TArea.d ([(⟨0,100⟩:TArea)]:List TArea) zq hzq)) (.cons (Alike.refl _) .nil)))) (.cons (Alike.refl _) .nil)))) (pc (z1 1) pn)) ?_
 refine Runs.nR hE 1 [] [] (kp [0]) [] 272 (pc (fun hg:(rVolume.2 == 0)=true=>(pc hg pn)) (pc (fun hq:(rVolume.2 == 0)=true=>(pc hq pn)) pn)) ?_
 obtain rfl:=Option.some.inj h
 exact Runs.nT hE 0 Try.f12 [] (kp [0]) [] 272 pn [] pn
noncomputable def C_89 (n:Nat):Code:=cat (bodyOf Try.f13) (pth n)
def g_b_Mod_J1_H (N:Nat) (K:Int→Option (Int)):Prop:=∀ (vr:Int) (r:Int),K vr=some r→∀ E,EnvOk E 0→Runs Try.prog E 13 15 (SPost E [] (aI r)) [.code (C_89 30),.code (C_89 31)] ⟨[(5,(aI vr))],[],0⟩
theorem g_b_Mod_J1_ok (N:Nat):g_b_Mod_J1_H N (g_b_Mod_J1 N):=by
 intro vr r h E hE
 unfold g_b_Mod_J1 at h
 refine Runs.nR hE 0 [] [] (kp [4]) [] 32 pn ?_
 obtain rfl:=Option.some.inj h
 exact Runs.nT hE 0 Try.f13 [] (kp [4]) [] 48 pn [] pn
theorem g_b_Mod_ok (N:Nat) (n:Int) (m:Int) (r:Int) (h:g_b_Mod N n m=some r):Sound Try.prog 13 [(aI n),(aI m)] [] 0 (aI r) []:=by
 unfold g_b_Mod at h
 refine Sound.of_runs (fu:=Try.f13) (c:=C_89 1) (nt:=15) (by kernel_rfl) (by kernel_rfl) (by kernel_rfl) (by kernel_rfl) (fun hm=>rfl) ?_
 intro E hE
 refine Runs.nR hE 1 [] [] (kp [0,1]) [] 16 pn ?_
 obtain ⟨c,h⟩:=ifSome h
 refine Runs.nR hE 1 [] [] (kp [1,5]) [] 80 (pc c pn) ?_
 refine Runs.nR hE 2 [] [] (kp [1,5,10]) [] 112 pn ?_
 refine Runs.nC 0 10 h (fun hq2 h=>?_) (fun hq2 h=>?_)
 ·refine Runs.nR hE 0 [] [] (kp [5]) [] 176 pn ?_
  exact Runs.nW hE 1 [] (kp [5]) [] 0 pn (g_b_Mod_J1_ok N _ _ h E hE)
 ·exact Runs.nW hE 2 [] (kp [5]) [] 0 pn (g_b_Mod_J1_ok N _ _ h E hE)
noncomputable def C_90 (n:Nat):Code:=cat (bodyOf Try.f14) (pth n)
def g_r05_Made_J1_H (N:Nat) (p:TPontoon) (m:TMove) (K:(List Int)→Option ((List Int)×Bool)):Prop:=∀ (out:List Int) (r:(List Int)×Bool),K out=some r→∀ E,EnvOk E 0→Runs Try.prog E 14 58 (SPost E [] (.tup [(encL cI 0 r.1),(aB r.2)])) [.code (C_90 62),.code (C_90 63)] ⟨[(3,(.op 0 0 0)),(5,(.op 1 0 0)),(8,(.os 2 0 out.length))],[(0,vO 5 (TPontoon.cells p)),(1,vO 2 (TMove.cells m)),(2,aO 1 cI 0 out)],3⟩
theorem g_r05_Made_J1_ok (N:Nat) (p:TPontoon) (m:TMove):g_r05_Made_J1_H N p m (g_r05_Made_J1 N p m):=by
 intro out r h E hE
 unfold g_r05_Made_J1 at h
 obtain ⟨c3,h⟩:=ifSome h
 obtain ⟨c4,h⟩:=ifSome h
 obtain ⟨rinside,hr,h⟩:=bindSome h
 refine Runs.nR hE 0 [(13,⟨[],true,(aB rinside),[],0,false,none⟩)] [] (kp [6,7]) (kq [2]) 259 (pc o1 (pc c3 (pc (ltOf c3) (pc o1 (pc o1 (pc c4 (pc (g_r05_inside_ok N (out.getD ((m.f_Tank).toNat) 0) 0 ((p.f_Tanks.getD ((m.f_Tank).toNat) TTank.d).f_Steps) rinside hr) pn))))))) ?_
 obtain rfl:=Option.some.inj h
 exact Runs.nT hE 0 Try.f14 [2] ([(6,.sl (out.length) (fun zi=>cI (out.getD zi 0)))] ++ kp [7]) [] 259 (pc (Eq.refl out.length) (pc (z1 out.length) (pc (show ∀ zi,zi < out.length→(fun zi=>cI (out.getD zi 0)) zi=(fun zi=>cI (out.getD zi 0)) (addz 0 zi) from (fun _ _=>rfl)) pn))) [] pn
theorem g_r05_Made_ok (N:Nat) (p:TPontoon) (steps:List Int) (m:TMove) (r:(List Int)×Bool) (h:g_r05_Made N p steps m=some r):Sound Try.prog 14 [(.agg (TPontoon.cells p)),(encL cI 0 steps),(.agg (TMove.cells m))] [] 0 (.tup [(encL cI 0 r.1),(aB r.2)]) []:=by
 unfold g_r05_Made at h
 refine Sound.of_runs (fu:=Try.f14) (c:=C_90 1) (nt:=58) (by kernel_rfl) (by kernel_rfl) (by kernel_rfl) (by kernel_rfl) (fun hm=>rfl) ?_
 intro E hE
 refine Runs.nR hE 1 [] [] (kp [1,3,5]) (kq [0,16]) 64 pn ?_
 refine Runs.nR hE 2 [] [] (kp [1,3,5,18]) (kq [0,16]) 224 (pc o1 (pc (fun hg:(!(decide (m.f_Tank < 0)))=true=>(pc hg (pc o1 pn))) (pc (fun hg:(!(decide (m.f_Tank < 0)))=true=>(pc hg pn)) (pc (fun hg:(!(decide (m.f_Tank < 0)))=true=>(pc hg (pc hg pn))) (pc (fun hq:(!(decide (m.f_Tank < 0)))=true=>(pc hq pn)) pn))))) ?_
 refine Runs.nC 0 18 h (fun hq2 h=>?_) (fun hq2 h=>?_)
 ·refine Runs.nR hE 1 [] [] (kp [6,7]) [] 256 pn ?_
  obtain rfl:=Option.some.inj h
  exact Runs.nT hE 0 Try.f14 [] ([(6,.sl (([]:List Int).length) (fun zi=>cI (([]:List Int).getD zi 0)))] ++ kp [7]) [] 256 (pc (Eq.refl 0) pn) [] pn
 ·obtain ⟨c,h⟩:=ifSome h
  refine Runs.nR hE 2 [] [] (kp [3,5] ++ [(8,.osl ((([]:List Int) ++ steps).length))]) (kq [0,16] ++ [(256,.arr 256 ((([]:List Int) ++ steps).length) (fun zi=>cI ((([]:List Int) ++ steps).getD zi 0)))]) 288 (pc (Eq.refl 0) (pc c (pc (show ∀ zi,zi < steps.length→AV.oneL ((fun zi=>cI (steps.getD zi 0)) zi)=true from (fun _ _=>rfl)) (pc (show (0+steps.length)=(([]:List Int) ++ steps).length from (len_app_raw rfl rfl)) (pc (show 0+steps.length=(([]:List Int) ++ steps).length from (len_app_raw rfl rfl)) (pc (show ∀ zi,zi < (([]:List Int) ++ steps).length→(fun zi=>cI ((([]:List Int) ++ steps).getD zi 0)) zi=((fun zm=>if zm < 0 then (fun _=>[]) zm else (fun zi=>cI (steps.getD zi 0)) (zm - 0))) zi from (get_app_raw cI 0 ([]:List Int) steps rfl (fun zq hzq=>absurd hzq (Nat.not_lt_zero _)) (fun _ _=>rfl))) pn)))))) ?_
  refine Runs.nR hE 2 [] [] (kp [3,5,8,23]) (kq [0,16,256]) 320 (pc o1 pn) ?_
  refine Runs.nC 0 23 h (fun hq3 h=>?_) (fun hq3 h=>?_)
  ·obtain ⟨c2,h⟩:=ifSome h
   refine Runs.nR hE 0 [] [] (kp [3,5] ++ [(8,.osl (((([]:List Int) ++ steps).set ((m.f_Tank).toNat) (w64 (((([]:List Int) ++ steps).getD ((m.f_Tank).toNat) 0)+1))).length))]) (kq [0,16] ++ [(256,.arr 256 (((([]:List Int) ++ steps).set ((m.f_Tank).toNat) (w64 (((([]:List Int) ++ steps).getD ((m.f_Tank).toNat) 0)+1))).length) (fun zi=>cI (((([]:List Int) ++ steps).set ((m.f_Tank).toNat) (w64 (((([]:List Int) ++ steps).getD ((m.f_Tank).toNat) 0)+1))).getD zi 0)))]) 496 (pc o1 (pc o1 (pc c2 (pc (ltOf c2) (pc c2 (pc (ltOf c2) (pc (len_set0 (([]:List Int) ++ steps) ((m.f_Tank).toNat) (w64 (((([]:List Int) ++ steps).getD ((m.f_Tank).toNat) 0)+1))) (pc (len_set0 (([]:List Int) ++ steps) ((m.f_Tank).toNat) (w64 (((([]:List Int) ++ steps).getD ((m.f_Tank).toNat) 0)+1))) (pc (get_set0 cI 0 (([]:List Int) ++ steps) ((m.f_Tank).toNat) (w64 (((([]:List Int) ++ steps).getD ((m.f_Tank).toNat) 0)+1))) pn))))))))) ?_
   exact Runs.nW hE 1 [] (kp [3,5,8]) (kq [0] ++ [(1,.keep 16),(2,.keep 256)]) 3 pn (g_r05_Made_J1_ok N _ _ _ _ h E hE)
  ·obtain ⟨c5,h⟩:=ifSome h
   refine Runs.nR hE 0 [] [] (kp [3,5] ++ [(8,.osl (((([]:List Int) ++ steps).set ((m.f_Tank).toNat) (w64 (((([]:List Int) ++ steps).getD ((m.f_Tank).toNat) 0) - 1))).length))]) (kq [0,16] ++ [(256,.arr 256 (((([]:List Int) ++ steps).set ((m.f_Tank).toNat) (w64 (((([]:List Int) ++ steps).getD ((m.f_Tank).toNat) 0) - 1))).length) (fun zi=>cI (((([]:List Int) ++ steps).set ((m.f_Tank).toNat) (w64 (((([]:List Int) ++ steps).getD ((m.f_Tank).toNat) 0) - 1))).getD zi 0)))]) 496 (pc o1 (pc o1 (pc c5 (pc (ltOf c5) (pc c5 (pc (ltOf c5) (pc (len_set0 (([]:List Int) ++ steps) ((m.f_Tank).toNat) (w64 (((([]:List Int) ++ steps).getD ((m.f_Tank).toNat) 0) - 1))) (pc (len_set0 (([]:List Int) ++ steps) ((m.f_Tank).toNat) (w64 (((([]:List Int) ++ steps).getD ((m.f_Tank).toNat) 0) - 1))) (pc (get_set0 cI 0 (([]:List Int) ++ steps) ((m.f_Tank).toNat) (w64 (((([]:List Int) ++ steps).getD ((m.f_Tank).toNat) 0) - 1))) pn))))))))) ?_
   exact Runs.nW hE 1 [] (kp [3,5,8]) (kq [0] ++ [(1,.keep 16),(2,.keep 256)]) 3 pn (g_r05_Made_J1_ok N _ _ _ _ h E hE)
noncomputable def C_78 (n:Nat):Code:=cat (bodyOf Try.f4) (pth n)
def g_keelblocktop_TopShortestBallast_L1_H (N:Nat) (x:Tw05_Plan) (rBallast:(List TMove)×Int) (K:(List Int)→(List TMove)→Int→Option (Bool)):Prop:=∀ (vend:List Int) (back:List TMove) (i:Int) (r:Bool),K vend back i=some r→∀ E,EnvOk E 0→Runs Try.prog E 4 220 (SPost E [] (aB r)) [.code (C_78 65524),.inLoop (C_78 65524),.inBlock 0,.code (C_78 8191)] ⟨[(2,(.op 0 0 0)),(5,(encL TMove.cells TMove.d rBallast.1)),(8,(encL cI 0 vend)),(9,(.os 1 0 back.length)),(10,(aI i))],[(0,vO 14 (Tw05_Plan.cells x)),(1,aO 2 TMove.cells TMove.d back)],2⟩
theorem g_keelblocktop_TopShortestBallast_L1_ok (N:Nat) (x:Tw05_Plan) (rBallast:(List TMove)×Int) (fuel:Nat):g_keelblocktop_TopShortestBallast_L1_H N x rBallast (g_keelblocktop_TopShortestBallast_L1 N x rBallast fuel):=by
 induction fuel with
 | zero=>intro _ _ _ r h;rw [g_keelblocktop_TopShortestBallast_L1.eq_1] at h;cases h
 | succ fuel ih =>
  intro vend back i r h E hE
  rw [g_keelblocktop_TopShortestBallast_L1.eq_2] at h
  refine Runs.nR hE 2 [] [] (kp [2,5,8,9,10,121]) (kq [0,1]) 66 pn ?_
  refine Runs.nC 0 121 h (fun hq7 h=>?_) (fun hq7 h=>?_)
  ·obtain ⟨c8,h⟩:=ifSome h
   obtain ⟨rMade,hr10,h⟩:=bindSome h
   refine Runs.nR hE 4 [(7,⟨[],true,(.tup [(encL cI 0 rMade.1),(aB rMade.2)]),[],0,false,none⟩)] [] (kp [2,5,9,10,11,12]) (kq [0,1]) 274 (pc o1 (pc c8 (pc (g_r05_Made_ok N x.f_P vend (rBallast.1.getD ((i).toNat) TMove.d) rMade hr10) pn))) ?_
   refine Runs.nR hE 2 [] [] (kp [2,5,9,10,11,136]) (kq [0,1]) 306 pn ?_
   refine Runs.nC 0 136 h (fun hq8 h=>?_) (fun hq8 h=>?_)
   ·refine Runs.nR hE 1 [] [] (kp [4]) [] 322 pn ?_
    obtain rfl:=Option.some.inj h
    exact Runs.nT hE 0 Try.f4 [] (kp [4]) [] 322 pn [] pn
   ·refine Runs.nR hE 2 [] [] (kp [2,5,8,9,10]) (kq [0,1]) 338 pn ?_
    obtain ⟨c9,h⟩:=ifSome h
    refine Runs.nR hE 0 [] [] (kp [2,5,8] ++ [(9,.osl ((([(⟨(rBallast.1.getD ((i).toNat) TMove.d).f_Tank,(!((rBallast.1.getD ((i).toNat) TMove.d).f_Up))⟩:TMove)]:List TMove) ++ back).length))] ++ kp [10]) (kq [0] ++ [(562,.arr 562 ((([(⟨(rBallast.1.getD ((i).toNat) TMove.d).f_Tank,(!((rBallast.1.getD ((i).toNat) TMove.d).f_Up))⟩:TMove)]:List TMove) ++ back).length) (fun zi=>TMove.cells ((([(⟨(rBallast.1.getD ((i).toNat) TMove.d).f_Tank,(!((rBallast.1.getD ((i).toNat) TMove.d).f_Up))⟩:TMove)]:List TMove) ++ back).getD zi TMove.d)))]) 594 (pc c8 (pc c8 (pc (Eq.refl 1) (pc c9 (pc (z1 back.length) (pc (show ∀ zi,zi < back.length→AV.oneL ((fun zi=>TMove.cells (back.getD zi TMove.d)) (addz 0 zi))=true from (fun _ _=>rfl)) (pc (show (1+back.length)=(([(⟨(rBallast.1.getD ((i).toNat) TMove.d).f_Tank,(!((rBallast.1.getD ((i).toNat) TMove.d).f_Up))⟩:TMove)]:List TMove) ++ back).length from (len_app_raw rfl rfl)) (pc (show 1+back.length=(([(⟨(rBallast.1.getD ((i).toNat) TMove.d).f_Tank,(!((rBallast.1.getD ((i).toNat) TMove.d).f_Up))⟩:TMove)]:List TMove) ++ back).length from (len_app_raw rfl rfl)) (pc (show ∀ zi,zi < (([(⟨(rBallast.1.getD ((i).toNat) TMove.d).f_Tank,(!((rBallast.1.getD ((i).toNat) TMove.d).f_Up))⟩:TMove)]:List TMove) ++ back).length→(fun zi=>TMove.cells ((([(⟨(rBallast.1.getD ((i).toNat) TMove.d).f_Tank,(!((rBallast.1.getD ((i).toNat) TMove.d).f_Up))⟩:TMove)]:List TMove) ++ back).getD zi TMove.d)) zi=((fun zm=>if zm < 1 then (fun zi=>([[(aI ((rBallast.1.getD ((i).toNat) TMove.d).f_Tank)),(aB (!((rBallast.1.getD ((i).toNat) TMove.d).f_Up)))]]:List (List AV)).getD zi []) zm else (fun zi=>TMove.cells (back.getD zi TMove.d)) (zm - 1))) zi from (get_app_raw TMove.cells TMove.d ([(⟨(rBallast.1.getD ((i).toNat) TMove.d).f_Tank,(!((rBallast.1.getD ((i).toNat) TMove.d).f_Up))⟩:TMove)]:List TMove) back rfl (fun zq hzq=>get_chunk TMove.cells TMove.d ([(⟨(rBallast.1.getD ((i).toNat) TMove.d).f_Tank,(!((rBallast.1.getD ((i).toNat) TMove.d).f_Up))⟩:TMove)]:List TMove) zq hzq) (fun _ _=>rfl))) pn))))))))) ?_
    refine Runs.nR hE 1 [] [] (kp [2,5,8,9,10]) (kq [0,562]) 642 pn ?_
    exact Runs.nW hE 1 [] (kp [2,5,8,9,10]) (kq [0] ++ [(1,.keep 562)]) 2 pn (ih _ _ _ _ h E hE)
  ·refine Runs.nR hE 2 [] [] (kp [2,5,8,9,13]) (kq [0,1,98]) 130 (pc o1 pn) ?_
   obtain ⟨rCheckBallast3,hr11,h⟩:=bindSome h
   refine Runs.nR hE 2 [(6,⟨[],true,(aI rCheckBallast3),[],0,false,none⟩)] [] (kp [2,5,8,162]) (kq [0]) 258 (pc o1 (pc o1 (pc o1 (pc (g_water_CheckBallast_ok N x.f_P x.f_L (⟨vend,0,1000000⟩:TAim) back rCheckBallast3 hr11) (pc (z1 back.length) pn))))) ?_
   refine Runs.nC 0 162 h (fun hq9 h=>?_) (fun hq9 h=>?_)
   ·refine Runs.nR hE 1 [] [] (kp [4]) [] 274 pn ?_
    obtain rfl:=Option.some.inj h
    exact Runs.nT hE 0 Try.f4 [] (kp [4]) [] 274 pn [] pn
   ·obtain ⟨rFloat,hr12,h⟩:=bindSome h
    refine Runs.nR hE 2 [(5,⟨[],true,(.tup [(.agg (TPose.cells rFloat.1)),(aI rFloat.2)]),[],0,false,none⟩)] [] (kp [2,5,8,14,15]) (kq [0,402]) 450 (pc o1 (pc o1 (pc (g_water_Float_ok N x.f_P x.f_A.f_Start rFloat hr12) (pc o1 pn)))) ?_
    obtain ⟨rFloor,hr13,h⟩:=bindSome h
    obtain ⟨rSmall,hr14,h⟩:=bindSome h
    refine Runs.nR hE 1 [(2,⟨[],true,(.agg (TInt.cells rFloor)),[],0,false,none⟩),(3,⟨[],true,(.tup [(aI rSmall.1),(aB rSmall.2)]),[],0,false,none⟩)] [] (kp [2,5,8,15,16,17]) (kq [0]) 594 (pc o1 (pc (g_e_Floor_ok N rFloat.1.f_Draught rFloor hr13) (pc (g_e_Small_ok N rFloor rSmall hr14) pn))) ?_
    refine Runs.nR hE 2 [] [] (kp [2,5,8,15,16,188]) (kq [0]) 754 (pc (fun hg:(!(rFloat.2 != 0))=true=>(pc hg pn)) (pc (fun hq:(!(rFloat.2 != 0))=true=>(pc hq pn)) (pc (fun hg:(!(cond (rFloat.2 != 0) true (!rSmall.2)))=true=>(pc hg pn)) (pc (fun hq:(!(cond (rFloat.2 != 0) true (!rSmall.2)))=true=>(pc hq pn)) pn)))) ?_
    refine Runs.nC 0 188 h (fun hq10 h=>?_) (fun hq10 h=>?_)
    ·obtain ⟨rwet4,hr15,h⟩:=bindSome h
     refine Runs.nR hE 1 [(3,⟨[],true,(aB rwet4),[],0,false,none⟩)] [] (kp [4]) [] 850 (pc (fun hg:(rFloat.2 == 0)=true=>(pc (g_keelblocktop_wet_ok N rwet4 (condT hr15 hg)) pn)) (pc (fun hq:(rFloat.2 == 0)=true=>(pc hq pn)) pn)) ?_
     obtain rfl:=Option.some.inj h
     exact Runs.nT hE 0 Try.f4 [] (kp [4]) [] 850 pn [] pn
    ·refine Runs.nR hE 2 [] [] (kp [2,5,18]) (kq [0,834]) 866 (pc o1 pn) ?_
     obtain ⟨rBallast2,hr16,h⟩:=bindSome h
     refine Runs.nR hE 1 [(5,⟨[],true,(.tup [(encL TMove.cells TMove.d rBallast2.1),(aI rBallast2.2)]),[],0,false,none⟩)] [] (kp [5,6,19]) [] 1042 (pc o1 (pc o1 (pc o1 (pc (g_water_Ballast_ok N x.f_P x.f_L (⟨vend,rSmall.1,(w64 (rSmall.1+1))⟩:TAim) rBallast2 hr16) pn)))) ?_
     obtain ⟨rwet5,hr17,h⟩:=bindSome h
     refine Runs.nR hE 1 [(10,⟨[],true,(aB rwet5),[],0,false,none⟩)] [] (kp [4]) [] 1250 (pc (fun hg:(rBallast2.2 == 0)=true=>(pc hg pn)) (pc (fun hg:(rBallast2.2 == 0)=true=>(pc hg pn)) (pc (fun hg:(rBallast2.2 == 0)=true=>(pc hg (pc hg pn))) (pc (fun hq:(rBallast2.2 == 0)=true=>(pc hq pn)) (pc (fun hg:(cond (rBallast2.2 == 0) (decide (((rBallast2.1.length:Nat):Int)≤((rBallast.1.length:Nat):Int))) false)=true=>(pc (g_keelblocktop_wet_ok N rwet5 (condT hr17 hg)) pn)) (pc (fun hq:(cond (rBallast2.2 == 0) (decide (((rBallast2.1.length:Nat):Int)≤((rBallast.1.length:Nat):Int))) false)=true=>(pc hq pn)) pn)))))) ?_
     obtain rfl:=Option.some.inj h
     exact Runs.nT hE 0 Try.f4 [] (kp [4]) [] 1250 pn [] pn
theorem g_keelblocktop_TopShortestBallast_ok (N:Nat) (x:Tw05_Plan) (k:Int) (r:Bool) (h:g_keelblocktop_TopShortestBallast N x k=some r):Sound Try.prog 4 [(.agg (Tw05_Plan.cells x)),(aI k)] [] 0 (aB r) []:=by
 unfold g_keelblocktop_TopShortestBallast at h
 refine Sound.of_runs (fu:=Try.f4) (c:=C_78 1) (nt:=220) (by kernel_rfl) (by kernel_rfl) (by kernel_rfl) (by kernel_rfl) (fun hm=>rfl) ?_
 intro E hE
 refine Runs.nR hE 1 [] [] (kp [1,2]) (kq [0]) 32 pn ?_
 obtain ⟨rCheckBegin,hr,h⟩:=bindSome h
 obtain ⟨rStates,hr2,h⟩:=bindSome h
 refine Runs.nR hE 2 [(26,⟨[],true,(aI rCheckBegin),[],0,false,none⟩),(32,⟨[],true,(aI rStates),[],0,false,none⟩)] [] (kp [1,2,54]) (kq [0]) 592 (pc o1 (pc (fun hg:(!(decide (((x.f_P.f_Masses.length:Nat):Int) > 20)))=true=>(pc hg pn)) (pc (fun hg:(!(decide (((x.f_P.f_Masses.length:Nat):Int) > 20)))=true=>(pc hg (pc o1 pn))) (pc (fun hg:(!(decide (((x.f_P.f_Masses.length:Nat):Int) > 20)))=true=>(pc hg pn)) (pc (fun hg:(!(decide (((x.f_P.f_Masses.length:Nat):Int) > 20)))=true=>(pc hg pn)) (pc (fun hq:(!(decide (((x.f_P.f_Masses.length:Nat):Int) > 20)))=true=>(pc hq pn)) (pc (fun hg:(!(cond (decide (((x.f_P.f_Masses.length:Nat):Int) > 20)) true (decide (((x.f_P.f_Tanks.length:Nat):Int) > 3))))=true=>(pc hg pn)) (pc (fun hg:(!(cond (decide (((x.f_P.f_Masses.length:Nat):Int) > 20)) true (decide (((x.f_P.f_Tanks.length:Nat):Int) > 3))))=true=>(pc hg (pc o1 pn))) (pc (fun hg:(!(cond (decide (((x.f_P.f_Masses.length:Nat):Int) > 20)) true (decide (((x.f_P.f_Tanks.length:Nat):Int) > 3))))=true=>(pc hg pn)) (pc (fun hg:(!(cond (decide (((x.f_P.f_Masses.length:Nat):Int) > 20)) true (decide (((x.f_P.f_Tanks.length:Nat):Int) > 3))))=true=>(pc hg pn)) (pc (fun hq:(!(cond (decide (((x.f_P.f_Masses.length:Nat):Int) > 20)) true (decide (((x.f_P.f_Tanks.length:Nat):Int) > 3))))=true=>(pc hq pn)) (pc (fun hg:(!(cond (cond (decide (((x.f_P.f_Masses.length:Nat):Int) > 20)) true (decide (((x.f_P.f_Tanks.length:Nat):Int) > 3))) true (decide (((x.f_A.f_Start.length:Nat):Int) > 10))))=true=>(pc hg (pc o1 pn))) (pc (fun hg:(!(cond (cond (decide (((x.f_P.f_Masses.length:Nat):Int) > 20)) true (decide (((x.f_P.f_Tanks.length:Nat):Int) > 3))) true (decide (((x.f_A.f_Start.length:Nat):Int) > 10))))=true=>(pc hg (pc o1 pn))) (pc (fun hg:(!(cond (cond (decide (((x.f_P.f_Masses.length:Nat):Int) > 20)) true (decide (((x.f_P.f_Tanks.length:Nat):Int) > 3))) true (decide (((x.f_A.f_Start.length:Nat):Int) > 10))))=true=>(pc hg (pc o1 pn))) (pc (fun hg:(!(cond (cond (decide (((x.f_P.f_Masses.length:Nat):Int) > 20)) true (decide (((x.f_P.f_Tanks.length:Nat):Int) > 3))) true (decide (((x.f_A.f_Start.length:Nat):Int) > 10))))=true=>(pc (g_r05_CheckBegin_ok N x.f_P x.f_L x.f_A rCheckBegin (condT hr hg)) (pc hg (pc hg (pc hg pn))))) (pc (fun hg:(!(cond (cond (decide (((x.f_P.f_Masses.length:Nat):Int) > 20)) true (decide (((x.f_P.f_Tanks.length:Nat):Int) > 3))) true (decide (((x.f_A.f_Start.length:Nat):Int) > 10))))=true=>(pc hg pn)) (pc (fun hq:(!(cond (cond (decide (((x.f_P.f_Masses.length:Nat):Int) > 20)) true (decide (((x.f_P.f_Tanks.length:Nat):Int) > 3))) true (decide (((x.f_A.f_Start.length:Nat):Int) > 10))))=true=>(pc hq pn)) (pc (fun hg:(!(cond (cond (cond (decide (((x.f_P.f_Masses.length:Nat):Int) > 20)) true (decide (((x.f_P.f_Tanks.length:Nat):Int) > 3))) true (decide (((x.f_A.f_Start.length:Nat):Int) > 10))) true (rCheckBegin != 0)))=true=>(pc hg (pc o1 pn))) (pc (fun hg:(!(cond (cond (cond (decide (((x.f_P.f_Masses.length:Nat):Int) > 20)) true (decide (((x.f_P.f_Tanks.length:Nat):Int) > 3))) true (decide (((x.f_A.f_Start.length:Nat):Int) > 10))) true (rCheckBegin != 0)))=true=>(pc (g_r05_States_ok N x.f_P 60 rStates (condT hr2 hg)) (pc hg pn))) (pc (fun hg:(!(cond (cond (cond (decide (((x.f_P.f_Masses.length:Nat):Int) > 20)) true (decide (((x.f_P.f_Tanks.length:Nat):Int) > 3))) true (decide (((x.f_A.f_Start.length:Nat):Int) > 10))) true (rCheckBegin != 0)))=true=>(pc hg pn)) (pc (fun hq:(!(cond (cond (cond (decide (((x.f_P.f_Masses.length:Nat):Int) > 20)) true (decide (((x.f_P.f_Tanks.length:Nat):Int) > 3))) true (decide (((x.f_A.f_Start.length:Nat):Int) > 10))) true (rCheckBegin != 0)))=true=>(pc hq pn)) pn))))))))))))))))))))) ?_
 refine Runs.nC 0 54 h (fun hq2 h=>?_) (fun hq2 h=>?_)
 ·obtain ⟨rwet,hr3,h⟩:=bindSome h
  refine Runs.nR hE 1 [(0,⟨[],true,(aB rwet),[],0,false,none⟩)] [] (kp [4]) [] 624 (pc (g_keelblocktop_wet_ok N rwet hr3) pn) ?_
  obtain rfl:=Option.some.inj h
  exact Runs.nT hE 0 Try.f4 [] (kp [4]) [] 624 pn [] pn
 ·obtain ⟨rBallast,hr4,h⟩:=bindSome h
  refine Runs.nR hE 2 [(6,⟨[],true,(.tup [(encL TMove.cells TMove.d rBallast.1),(aI rBallast.2)]),[],0,false,none⟩)] [] (kp [1,2,5,6]) (kq [0]) 784 (pc o1 (pc o1 (pc o1 (pc (g_water_Ballast_ok N x.f_P x.f_L x.f_A rBallast hr4) pn)))) ?_
  refine Runs.nR hE 2 [] [] (kp [1,2,5,6,67]) (kq [0]) 816 pn ?_
  refine Runs.nC 0 67 h (fun hq3 h=>?_) (fun hq3 h=>?_)
  ·obtain ⟨rwet2,hr5,h⟩:=bindSome h
   refine Runs.nR hE 1 [(7,⟨[],true,(aB rwet2),[],0,false,none⟩)] [] (kp [4]) [] 976 (pc (fun hg:(!(rBallast.2 == 16))=true=>(pc hg pn)) (pc (fun hq:(!(rBallast.2 == 16))=true=>(pc hq pn)) (pc (fun hg:(cond (rBallast.2 == 16) true (rBallast.2 == 29))=true=>(pc (g_keelblocktop_wet_ok N rwet2 (condT hr5 hg)) pn)) (pc (fun hq:(cond (rBallast.2 == 16) true (rBallast.2 == 29))=true=>(pc hq pn)) pn)))) ?_
   obtain rfl:=Option.some.inj h
   exact Runs.nT hE 0 Try.f4 [] (kp [4]) [] 976 pn [] pn
  ·obtain ⟨rCheckBallast,hr6,h⟩:=bindSome h
   refine Runs.nR hE 3 [(7,⟨[],true,(aI rCheckBallast),[],0,false,none⟩)] [] (kp [1,2,5,85]) (kq [0]) 960 (pc o1 (pc o1 (pc o1 (pc (g_water_CheckBallast_ok N x.f_P x.f_L x.f_A rBallast.1 rCheckBallast hr6) pn)))) ?_
   refine Runs.nC 0 85 h (fun hq4 h=>?_) (fun hq4 h=>?_)
   ·refine Runs.nR hE 1 [] [] (kp [4]) [] 976 pn ?_
    obtain rfl:=Option.some.inj h
    exact Runs.nT hE 0 Try.f4 [] (kp [4]) [] 976 pn [] pn
   ·refine Runs.nR hE 3 [] [] (kp [1,2,5,88]) (kq [0]) 1008 pn ?_
    refine Runs.nC 0 88 h (fun hq5 h=>?_) (fun hq5 h=>?_)
    ·obtain ⟨rwet3,hr7,h⟩:=bindSome h
     refine Runs.nR hE 1 [(0,⟨[],true,(aB rwet3),[],0,false,none⟩)] [] (kp [4]) [] 1040 (pc (g_keelblocktop_wet_ok N rwet3 hr7) pn) ?_
     obtain rfl:=Option.some.inj h
     exact Runs.nT hE 0 Try.f4 [] (kp [4]) [] 1040 pn [] pn
    ·obtain ⟨rMod,hr8,h⟩:=bindSome h
     refine Runs.nR hE 2 [(3,⟨[],true,(aI rMod),[],0,false,none⟩)] [] (kp [1,2,5]) (kq [0]) 1088 (pc (g_b_Mod_ok N k ((rBallast.1.length:Nat):Int) rMod hr8) pn) ?_
     obtain ⟨c,h⟩:=ifSome h
     obtain ⟨c2,h⟩:=ifSome h
     obtain ⟨c3,h⟩:=ifSome h
     obtain ⟨c4,h⟩:=ifSome h
     obtain ⟨c5,h⟩:=ifSome h
     obtain ⟨c6,h⟩:=ifSome h
     refine Runs.nR hE 1 [] [] (kp [2,5] ++ [(7,.osl (((([]:List TMove) ++ ((rBallast.1.take ((rMod).toNat)).drop 0)) ++ ((rBallast.1.take rBallast.1.length).drop ((w64 (rMod+1)).toNat))).length))]) (kq [0] ++ [(1232,.arr 1232 (((([]:List TMove) ++ ((rBallast.1.take ((rMod).toNat)).drop 0)) ++ ((rBallast.1.take rBallast.1.length).drop ((w64 (rMod+1)).toNat))).length) (fun zi=>TMove.cells (((([]:List TMove) ++ ((rBallast.1.take ((rMod).toNat)).drop 0)) ++ ((rBallast.1.take rBallast.1.length).drop ((w64 (rMod+1)).toNat))).getD zi TMove.d)))]) 1264 (pc c (pc c2 (pc (Eq.refl 0) (pc c3 (pc (show ∀ zi,zi < ((rMod).toNat - 0)→AV.oneL ((fun zi=>TMove.cells (rBallast.1.getD (addz 0 zi) TMove.d)) zi)=true from (fun _ _=>rfl)) (pc c4 (pc c5 (pc (Eq.refl (0+((rMod).toNat - 0))) (pc c6 (pc (show ∀ zi,zi < (rBallast.1.length - (w64 (rMod+1)).toNat)→AV.oneL ((fun zi=>TMove.cells (rBallast.1.getD (addz ((w64 (rMod+1)).toNat) zi) TMove.d)) zi)=true from (fun _ _=>rfl)) (pc (show ((0+((rMod).toNat - 0))+(rBallast.1.length - (w64 (rMod+1)).toNat))=((([]:List TMove) ++ ((rBallast.1.take ((rMod).toNat)).drop 0)) ++ ((rBallast.1.take rBallast.1.length).drop ((w64 (rMod+1)).toNat))).length from (len_app_raw (len_app_raw rfl (len_ext' rBallast.1 0 ((rMod).toNat) c)) (len_ext' rBallast.1 ((w64 (rMod+1)).toNat) rBallast.1.length c4))) (pc (show (0+((rMod).toNat - 0))+(rBallast.1.length - (w64 (rMod+1)).toNat)=((([]:List TMove) ++ ((rBallast.1.take ((rMod).toNat)).drop 0)) ++ ((rBallast.1.take rBallast.1.length).drop ((w64 (rMod+1)).toNat))).length from (len_app_raw (len_app_raw rfl (len_ext' rBallast.1 0 ((rMod).toNat) c)) (len_ext' rBallast.1 ((w64 (rMod+1)).toNat) rBallast.1.length c4))) (pc (show ∀ zi,zi < ((([]:List TMove) ++ ((rBallast.1.take ((rMod).toNat)).drop 0)) ++ ((rBallast.1.take rBallast.1.length).drop ((w64 (rMod+1)).toNat))).length→(fun zi=>TMove.cells (((([]:List TMove) ++ ((rBallast.1.take ((rMod).toNat)).drop 0)) ++ ((rBallast.1.take rBallast.1.length).drop ((w64 (rMod+1)).toNat))).getD zi TMove.d)) zi=((fun zm=>if zm < (0+((rMod).toNat - 0)) then ((fun zm=>if zm < 0 then (fun _=>[]) zm else (fun zi=>TMove.cells (rBallast.1.getD (addz 0 zi) TMove.d)) (zm - 0))) zm else (fun zi=>TMove.cells (rBallast.1.getD (addz ((w64 (rMod+1)).toNat) zi) TMove.d)) (zm - (0+((rMod).toNat - 0))))) zi from (get_app_raw TMove.cells TMove.d (([]:List TMove) ++ ((rBallast.1.take ((rMod).toNat)).drop 0)) ((rBallast.1.take rBallast.1.length).drop ((w64 (rMod+1)).toNat)) (len_app_raw rfl (len_ext' rBallast.1 0 ((rMod).toNat) c)) (get_app_raw TMove.cells TMove.d ([]:List TMove) ((rBallast.1.take ((rMod).toNat)).drop 0) rfl (fun zq hzq=>absurd hzq (Nat.not_lt_zero _)) (fun zq hzq=>get_ext TMove.cells TMove.d rBallast.1 0 ((rMod).toNat) zq hzq)) (fun zq hzq=>get_ext TMove.cells TMove.d rBallast.1 ((w64 (rMod+1)).toNat) rBallast.1.length zq hzq))) pn))))))))))))) ?_
     obtain ⟨rCheckBallast2,hr9,h⟩:=bindSome h
     refine Runs.nR hE 2 [(7,⟨[],true,(aI rCheckBallast2),[],0,false,none⟩)] [] (kp [2,5,112]) (kq [0]) 1408 (pc o1 (pc o1 (pc o1 (pc (g_water_CheckBallast_ok N x.f_P x.f_L x.f_A ((([]:List TMove) ++ ((rBallast.1.take ((rMod).toNat)).drop 0)) ++ ((rBallast.1.take rBallast.1.length).drop ((w64 (rMod+1)).toNat))) rCheckBallast2 hr9) (pc (z1 (((([]:List TMove) ++ ((rBallast.1.take ((rMod).toNat)).drop 0)) ++ ((rBallast.1.take rBallast.1.length).drop ((w64 (rMod+1)).toNat))).length)) pn))))) ?_
     refine Runs.nC 0 112 h (fun hq6 h=>?_) (fun hq6 h=>?_)
     ·refine Runs.nR hE 1 [] [] (kp [4]) [] 1424 pn ?_
      obtain rfl:=Option.some.inj h
      exact Runs.nT hE 0 Try.f4 [] (kp [4]) [] 1424 pn [] pn
     ·obtain ⟨c7,h⟩:=ifSome h
      refine Runs.nR hE 2 [] [] (kp [2,5] ++ [(8,.osl ((([]:List Int) ++ x.f_A.f_Start).length))]) (kq [0] ++ [(1472,.arr 1472 ((([]:List Int) ++ x.f_A.f_Start).length) (fun zi=>cI ((([]:List Int) ++ x.f_A.f_Start).getD zi 0)))]) 1504 (pc o1 (pc (Eq.refl 0) (pc c7 (pc (show ∀ zi,zi < x.f_A.f_Start.length→AV.oneL ((fun zi=>cI (x.f_A.f_Start.getD zi 0)) zi)=true from (fun _ _=>rfl)) (pc (show (0+x.f_A.f_Start.length)=(([]:List Int) ++ x.f_A.f_Start).length from (len_app_raw rfl rfl)) (pc (show 0+x.f_A.f_Start.length=(([]:List Int) ++ x.f_A.f_Start).length from (len_app_raw rfl rfl)) (pc (show ∀ zi,zi < (([]:List Int) ++ x.f_A.f_Start).length→(fun zi=>cI ((([]:List Int) ++ x.f_A.f_Start).getD zi 0)) zi=((fun zm=>if zm < 0 then (fun _=>[]) zm else (fun zi=>cI (x.f_A.f_Start.getD zi 0)) (zm - 0))) zi from (get_app_raw cI 0 ([]:List Int) x.f_A.f_Start rfl (fun zq hzq=>absurd hzq (Nat.not_lt_zero _)) (fun _ _=>rfl))) pn))))))) ?_
      refine Runs.nR hE 1 [] [] (kp [2,5,8,9]) (kq [0,1472]) 1520 pn ?_
      refine Runs.nR hE 2 [] [] (kp [2,5,8,9,10]) (kq [0,1472]) 1536 pn ?_
      exact Runs.nW hE 2 [1472] (kp [2,5] ++ [(8,.sl ((([]:List Int) ++ x.f_A.f_Start).length) (fun zi=>cI ((([]:List Int) ++ x.f_A.f_Start).getD zi 0))),(9,.nilos 1)] ++ kp [10]) (kq [0] ++ [(1,.nil 2 (fun zi=>TMove.cells (([]:List TMove).getD zi TMove.d)))]) 2 (pc (Eq.refl ((([]:List Int) ++ x.f_A.f_Start).length)) (pc (z1 ((([]:List Int) ++ x.f_A.f_Start).length)) (pc (show ∀ zi,zi < (([]:List Int) ++ x.f_A.f_Start).length→(fun zi=>cI ((([]:List Int) ++ x.f_A.f_Start).getD zi 0)) zi=(fun zi=>cI ((([]:List Int) ++ x.f_A.f_Start).getD zi 0)) (addz 0 zi) from (fun _ _=>rfl)) pn))) (g_keelblocktop_TopShortestBallast_L1_ok N _ _ N _ _ _ _ h E hE)
end Go.Den
