/- Each function of the program does what its Lean function computes (part 2). No conditions. -/
import Derived.Test.YtnhkjlebcdakkaaTopBestDockingSa
import Derived.Test.YtnhkjlebcdakkaaProg
set_option linter.unusedVariables false
set_option maxRecDepth 100000
namespace Go.Den
open Go.Ab Go.Proofs
noncomputable def C_48 (n:Nat):Code:=cat (bodyOf Try.f44) (pth n)
def g_berth_possible_L1_H (N:Nat) (y:TYard) (c:TCall) (rdays:(List Int)) (K:(List Int)→Int→Option ((List Int))):Prop:=∀ (out:List Int) (x:Int) (r:(List Int)),K out x=some r→∀ E,EnvOk E 0→Runs Try.prog E 44 53 (SPost E [] (encL cI 0 r)) [.code (C_48 500),.inLoop (C_48 500),.inBlock 0,.code (C_48 63)] ⟨[(3,(.op 0 0 0)),(4,(.op 1 0 0)),(7,(encL cI 0 rdays)),(8,(.os 2 0 out.length)),(20,(encL cI 0 rdays)),(21,(aI ((rdays.length:Nat):Int))),(22,(aI x))],[(0,vO 4 (TYard.cells y)),(1,vO 9 (TCall.cells c)),(2,aO 1 cI 0 out)],3⟩
def g_berth_possible_J2_H (N:Nat) (y:TYard) (c:TCall) (rdays:(List Int)) (x:Int) (K:(List Int)→Option ((List Int))):Prop:=∀ (out2:List Int) (r:(List Int)),K out2=some r→∀ E,EnvOk E 0→Runs Try.prog E 44 53 (SPost E [] (encL cI 0 r)) [.code (C_48 4007),.inLoop (C_48 500),.inBlock 0,.code (C_48 63)] ⟨[(3,(.op 0 0 0)),(4,(.op 1 0 0)),(7,(encL cI 0 rdays)),(8,(.os 2 0 out2.length)),(20,(encL cI 0 rdays)),(21,(aI ((rdays.length:Nat):Int))),(22,(aI x))],[(0,vO 4 (TYard.cells y)),(1,vO 9 (TCall.cells c)),(2,aO 1 cI 0 out2)],3⟩
theorem g_berth_possible_J2_ok (N:Nat) (y:TYard) (c:TCall) (rdays:(List Int)) (x:Int) (K_g_berth_possible_L1:(List Int)→Int→Option ((List Int))) (hK_g_berth_possible_L1:g_berth_possible_L1_H N y c rdays K_g_berth_possible_L1):g_berth_possible_J2_H N y c rdays x (g_berth_possible_J2 N y c rdays x K_g_berth_possible_L1):=by
 intro out2 r h E hE
 unfold g_berth_possible_J2 at h
 refine Runs.nR hE 0 [] [] (kp [3,4,7,8,20,21,22]) (kq [0,1,2]) 35 pn ?_
 exact Runs.nW hE 1 [] (kp [3,4,7,8,20,21,22]) (kq [0,1,2]) 3 pn (hK_g_berth_possible_L1 _ _ _ h E hE)
theorem g_berth_possible_L1_ok (N:Nat) (y:TYard) (c:TCall) (rdays:(List Int)) (fuel:Nat):g_berth_possible_L1_H N y c rdays (g_berth_possible_L1 N y c rdays fuel):=by
 induction fuel with
 | zero=>intro _ _ r h;rw [g_berth_possible_L1.eq_1] at h;cases h
 | succ fuel ih =>
  intro out x r h E hE
  rw [g_berth_possible_L1.eq_2] at h
  refine Runs.nR hE 1 [] [] (kp [3,4,7,8,20,21,22,23]) (kq [0,1,2]) 19 pn ?_
  refine Runs.nC 1 23 h (fun hq3 h=>?_) (fun hq3 h=>?_)
  ·obtain ⟨c2,h⟩:=ifSome h
   refine Runs.nR hE 4 [] [] (kp [3,4,7,8,10,20,21,22]) (kq [0,1,2]) 67 (pc c2 pn) ?_
   obtain ⟨rContains,hr3,h⟩:=bindSome h
   refine Runs.nR hE 1 [(19,⟨[],true,(aB rContains),[],0,false,none⟩)] [] (kp [3,4,7,8,10,20,21,22,46]) (kq [0,1,2]) 403 (pc o1 (pc (fun hg:(decide ((rdays.getD ((x).toNat) 0)≥c.f_Arrive))=true=>(pc hg (pc o1 pn))) (pc (fun hg:(decide ((rdays.getD ((x).toNat) 0)≥c.f_Arrive))=true=>(pc hg (pc hg pn))) (pc (fun hg:(decide ((rdays.getD ((x).toNat) 0)≥c.f_Arrive))=true=>(pc hg (pc o1 pn))) (pc (fun hg:(decide ((rdays.getD ((x).toNat) 0)≥c.f_Arrive))=true=>(pc hg (pc hg pn))) (pc (fun hq:(decide ((rdays.getD ((x).toNat) 0)≥c.f_Arrive))=true=>(pc hq pn)) (pc (fun hg:(cond (decide ((rdays.getD ((x).toNat) 0)≥c.f_Arrive)) (decide ((w64 ((rdays.getD ((x).toNat) 0)+c.f_Work))≤y.f_Last)) false)=true=>(pc hg (pc o1 pn))) (pc (fun hg:(cond (decide ((rdays.getD ((x).toNat) 0)≥c.f_Arrive)) (decide ((w64 ((rdays.getD ((x).toNat) 0)+c.f_Work))≤y.f_Last)) false)=true=>(pc hg (pc hg pn))) (pc (fun hg:(cond (decide ((rdays.getD ((x).toNat) 0)≥c.f_Arrive)) (decide ((w64 ((rdays.getD ((x).toNat) 0)+c.f_Work))≤y.f_Last)) false)=true=>(pc (g_slices_Contains_int_int_ok N rdays (w64 ((rdays.getD ((x).toNat) 0)+c.f_Work)) rContains (condT hr3 hg)) (pc hg (pc hg pn)))) (pc (fun hq:(cond (decide ((rdays.getD ((x).toNat) 0)≥c.f_Arrive)) (decide ((w64 ((rdays.getD ((x).toNat) 0)+c.f_Work))≤y.f_Last)) false)=true=>(pc hq pn)) pn)))))))))) ?_
   refine Runs.nC 0 46 h (fun hq4 h=>?_) (fun hq4 h=>?_)
   ·obtain ⟨c3,h⟩:=ifSome h
    refine Runs.nR hE 0 [] [] (kp [3,4,7] ++ [(8,.osl ((out ++ ([(rdays.getD ((x).toNat) 0)]:List Int)).length))] ++ kp [20,21,22]) (kq [0,1] ++ [(451,.arr 451 ((out ++ ([(rdays.getD ((x).toNat) 0)]:List Int)).length) (fun zi=>cI ((out ++ ([(rdays.getD ((x).toNat) 0)]:List Int)).getD zi 0)))]) 483 (pc (Eq.refl out.length) (pc c3 (pc (z1 1) (pc (show ∀ zi,zi < 1→AV.oneL ((fun zi=>([[(aI (rdays.getD ((x).toNat) 0))]]:List (List AV)).getD zi []) (addz 0 zi))=true from (oneN rfl)) (pc (show (out.length+1)=(out ++ ([(rdays.getD ((x).toNat) 0)]:List Int)).length from (len_app_raw rfl rfl)) (pc (show out.length+1=(out ++ ([(rdays.getD ((x).toNat) 0)]:List Int)).length from (len_app_raw rfl rfl)) (pc (show ∀ zi,zi < (out ++ ([(rdays.getD ((x).toNat) 0)]:List Int)).length→(fun zi=>cI ((out ++ ([(rdays.getD ((x).toNat) 0)]:List Int)).getD zi 0)) zi=((fun zm=>if zm < out.length then (fun zi=>cI (out.getD zi 0)) zm else (fun zi=>([[(aI (rdays.getD ((x).toNat) 0))]]:List (List AV)).getD zi []) (zm - out.length))) zi from (get_app_raw cI 0 out ([(rdays.getD ((x).toNat) 0)]:List Int) rfl (fun _ _=>rfl) (fun zq hzq=>get_chunk cI 0 ([(rdays.getD ((x).toNat) 0)]:List Int) zq hzq))) pn))))))) ?_
    exact Runs.nW hE 1 [] (kp [3,4,7,8,20,21,22]) (kq [0,1] ++ [(2,.keep 451)]) 3 pn (g_berth_possible_J2_ok N _ _ _ _ _ ih _ _ h E hE)
   ·exact Runs.nW hE 2 [] (kp [3,4,7,8,20,21,22]) (kq [0,1,2]) 3 pn (g_berth_possible_J2_ok N _ _ _ _ _ ih _ _ h E hE)
  ·refine Runs.nR hE 2 [] [] (kp [6]) (kq [2]) 51 pn ?_
   obtain rfl:=Option.some.inj h
   exact Runs.nT hE 0 Try.f44 [2] [(6,.sl (out.length) (fun zi=>cI (out.getD zi 0)))] [] 51 (pc (Eq.refl out.length) (pc (z1 out.length) (pc (show ∀ zi,zi < out.length→(fun zi=>cI (out.getD zi 0)) zi=(fun zi=>cI (out.getD zi 0)) (addz 0 zi) from (fun _ _=>rfl)) pn))) [] pn
theorem g_berth_possible_ok (N:Nat) (y:TYard) (c:TCall) (d:TDock) (r:(List Int)) (h:g_berth_possible N y c d=some r):Sound Try.prog 44 [(.agg (TYard.cells y)),(.agg (TCall.cells c)),(.agg (TDock.cells d))] [] 0 (encL cI 0 r) []:=by
 unfold g_berth_possible at h
 refine Sound.of_runs (fu:=Try.f44) (c:=C_48 1) (nt:=53) (by kernel_rfl) (by kernel_rfl) (by kernel_rfl) (by kernel_rfl) (fun hm=>rfl) ?_
 intro E hE
 refine Runs.nR hE 1 [] [] (kp [3,4,5]) (kq [0,16,32]) 64 pn ?_
 obtain ⟨rfits,hr,h⟩:=bindSome h
 refine Runs.nR hE 2 [(2,⟨[],true,(aB rfits),[],0,false,none⟩)] [] (kp [3,4,5,14]) (kq [0,16,32]) 128 (pc o1 (pc o1 (pc (g_berth_fits_ok N d c rfits hr) pn))) ?_
 refine Runs.nC 0 14 h (fun hq2 h=>?_) (fun hq2 h=>?_)
 ·refine Runs.nR hE 1 [] [] (kp [6]) [] 144 pn ?_
  obtain rfl:=Option.some.inj h
  exact Runs.nT hE 0 Try.f44 [] [(6,.sl (([]:List Int).length) (fun zi=>cI (([]:List Int).getD zi 0)))] [] 144 (pc (Eq.refl 0) pn) [] pn
 ·obtain ⟨rdays,hr2,h⟩:=bindSome h
  refine Runs.nR hE 2 [(4,⟨[],true,(encL cI 0 rdays),[],0,false,none⟩)] [] (kp [3,4,7]) (kq [0,16]) 224 (pc o1 (pc o1 (pc o1 (pc (g_berth_days_ok N d c y.f_Sea rdays hr2) pn)))) ?_
  refine Runs.nR hE 1 [] [] (kp [3,4,7,8]) (kq [0,16]) 240 pn ?_
  refine Runs.nR hE 2 [] [] (kp [3,4,7,8,20,21,22]) (kq [0,16]) 288 pn ?_
  exact Runs.nW hE 2 [] (kp [3,4,7] ++ [(8,.nilos 2)] ++ kp [20,21,22]) (kq [0] ++ [(1,.keep 16),(2,.nil 1 (fun zi=>cI (([]:List Int).getD zi 0)))]) 3 pn (g_berth_possible_L1_ok N _ _ _ N _ _ _ h E hE)
noncomputable def C_83 (n:Nat):Code:=cat (bodyOf Try.f45) (pth n)
theorem g_berth_late_ok (N:Nat) (c:TCall) (day:Int) (r:Int) (h:g_berth_late N c day=some r):Sound Try.prog 45 [(.agg (TCall.cells c)),(aI day)] [] 0 (aI r) []:=by
 unfold g_berth_late at h
 refine Sound.of_runs (fu:=Try.f45) (c:=C_83 1) (nt:=16) (by kernel_rfl) (by kernel_rfl) (by kernel_rfl) (by kernel_rfl) (fun hm=>rfl) ?_
 intro E hE
 refine Runs.nR hE 1 [] [] (kp [1,2]) (kq [0]) 32 pn ?_
 refine Runs.nR hE 1 [] [] (kp [4]) [] 224 (pc o1 (pc o1 (pc o1 pn))) ?_
 obtain rfl:=Option.some.inj h
 exact Runs.nT hE 0 Try.f45 [] (kp [4]) [] 224 pn [] pn
noncomputable def C_85 (n:Nat):Code:=cat (bodyOf Try.f77) (pth n)
theorem g_slices_Clone_api_Stay_api_Stay_ok (N:Nat) (s:List TStay) (r:(List TStay)) (h:g_slices_Clone_api_Stay_api_Stay N s=some r):Sound Try.prog 77 [(encL TStay.cells TStay.d s)] [] 0 (.os 0 0 r.length) [(0,aO 3 TStay.cells TStay.d r)]:=by
 unfold g_slices_Clone_api_Stay_api_Stay at h
 refine Sound.of_runs (fu:=Try.f77) (c:=C_85 1) (nt:=8) (by kernel_rfl) (by kernel_rfl) (by kernel_rfl) (by kernel_rfl) (fun hm=>rfl) ?_
 intro E hE
 refine Runs.nR hE 1 [] [] (kp [0]) [] 16 pn ?_
 refine Runs.nR hE 2 [] [] (kp [0,4]) [] 48 pn ?_
 refine Runs.sA 0 [.code (C_85 13),.code (C_85 7)] ?_
 refine Runs.condBn (o:=.tmp 4) (x:=C_85 26) (y:=C_85 27) (n:=s.length) (by kernel_rfl) (by kernel_rfl) (fun hq2=>?_) ?_
 ·replace hq2:=List.length_eq_zero_iff.1 hq2
  replace h:(some ([]:List TStay))=some r:=by rw [hq2] at h;simpa using h
  refine Runs.nR hE 1 [] [] (kp [2]) [] 64 pn ?_
  obtain rfl:=Option.some.inj h
  exact Runs.nT hE 0 Try.f77 [] [(2,.nilos 0)] [(0,.nil 3 (fun zi=>TStay.cells (([]:List TStay).getD zi TStay.d)))] 64 pn [] pn
 ·obtain ⟨c,h⟩:=ifSome h
  refine Runs.nR hE 2 [] [] [(2,.osl ((([]:List TStay) ++ s).length))] [(80,.arr 80 ((([]:List TStay) ++ s).length) (fun zi=>TStay.cells ((([]:List TStay) ++ s).getD zi TStay.d)))] 112 (pc (Eq.refl 0) (pc c (pc (show ∀ zi,zi < s.length→AV.oneL ((fun zi=>TStay.cells (s.getD zi TStay.d)) zi)=true from (fun _ _=>rfl)) (pc (show (0+s.length)=(([]:List TStay) ++ s).length from (len_app_raw rfl rfl)) (pc (show 0+s.length=(([]:List TStay) ++ s).length from (len_app_raw rfl rfl)) (pc (show ∀ zi,zi < (([]:List TStay) ++ s).length→(fun zi=>TStay.cells ((([]:List TStay) ++ s).getD zi TStay.d)) zi=((fun zm=>if zm < 0 then (fun _=>[]) zm else (fun zi=>TStay.cells (s.getD zi TStay.d)) (zm - 0))) zi from (get_app_raw TStay.cells TStay.d ([]:List TStay) s rfl (fun zq hzq=>absurd hzq (Nat.not_lt_zero _)) (fun _ _=>rfl))) pn)))))) ?_
  obtain rfl:=Option.some.inj h
  exact Runs.nT hE 0 Try.f77 [] (kp [2]) [(0,.keep 80)] 112 pn [] pn
noncomputable def C_92 (n:Nat):Code:=cat (bodyOf Try.f82) (pth n)
theorem g_berth_called_1_ok (N:Nat) (x:TCall) (cap0:ByteArray) (r:Bool) (h:g_berth_called_1 N x cap0=some r):Sound Try.prog 82 [(.agg (TCall.cells x)),(.op 0 0 0)] [(0,vO 1 [(aS cap0)])] 1 (aB r) [(0,vO 1 [(aS cap0)])]:=by
 unfold g_berth_called_1 at h
 refine Sound.of_runs (fu:=Try.f82) (c:=C_92 1) (nt:=8) (by kernel_rfl) (by kernel_rfl) (by kernel_rfl) (by kernel_rfl) (fun hm=>absurd hm (by decide)) ?_
 intro E hE
 refine Runs.nR hE 1 [] [] (kp [1,2]) (kq [0,1]) 33 pn ?_
 refine Runs.nR hE 1 [] [] (kp [3]) (kq [0]) 113 (pc o1 (pc o1 pn)) ?_
 obtain rfl:=Option.some.inj h
 exact Runs.nT hE 0 Try.f82 [] (kp [3]) (kq [0]) 113 pn [] pn
noncomputable def C_91 (n:Nat):Code:=cat (bodyOf Try.f81) (pth n)
def g_slices_IndexFunc_api_Call_api_Call_v2_L1_H (N:Nat) (s:List TCall) (cap0:ByteArray) (K:Int→Option (Int)):Prop:=∀ (x:Int) (r:Int),K x=some r→∀ E,EnvOk E 1→Runs Try.prog E 81 19 (SPost E [(0,vO 1 [(aS cap0)])] (aI r)) [.code (C_91 52),.inLoop (C_91 52),.inBlock 0,.code (C_91 7)] ⟨[(0,(encL TCall.cells TCall.d s)),(1,(.fn (.func 82) [] [(.op 0 0 0)])),(7,(aI ((s.length:Nat):Int))),(8,(aI x))],[(0,vO 1 [(aS cap0)])],1⟩
theorem g_slices_IndexFunc_api_Call_api_Call_v2_L1_ok (N:Nat) (s:List TCall) (cap0:ByteArray) (fuel:Nat):g_slices_IndexFunc_api_Call_api_Call_v2_L1_H N s cap0 (g_slices_IndexFunc_api_Call_api_Call_v2_L1 N s cap0 fuel):=by
 induction fuel with
 | zero=>intro _ r h;rw [g_slices_IndexFunc_api_Call_api_Call_v2_L1.eq_1] at h;cases h
 | succ fuel ih =>
  intro x r h E hE
  rw [g_slices_IndexFunc_api_Call_api_Call_v2_L1.eq_2] at h
  refine Runs.nR hE 1 [] [] (kp [0,1,7,8,9]) (kq [0]) 17 pn ?_
  refine Runs.nC 1 9 h (fun hq2 h=>?_) (fun hq2 h=>?_)
  ·refine Runs.nR hE 4 [] [] (kp [0,1,5,7,8]) (kq [0]) 49 pn ?_
   obtain ⟨c,h⟩:=ifSome h
   obtain ⟨rcalled1,hr,h⟩:=bindSome h
   refine Runs.nR hE 1 [(5,⟨[0],true,(aB rcalled1),[],0,false,none⟩)] [] (kp [0,1,5,7,8,16]) (kq [0]) 145 (pc c (pc (g_berth_called_1_ok N (s.getD ((x).toNat) TCall.d) cap0 rcalled1 hr) pn)) ?_
   refine Runs.nC 0 16 h (fun hq3 h=>?_) (fun hq3 h=>?_)
   ·refine Runs.nR hE 1 [] [] (kp [4]) (kq [0]) 177 pn ?_
    obtain rfl:=Option.some.inj h
    exact Runs.nT hE 0 Try.f81 [] (kp [4]) (kq [0]) 177 pn [] pn
   ·refine Runs.nR hE 2 [] [] (kp [0,1,7,8]) (kq [0]) 177 pn ?_
    exact Runs.nW hE 1 [] (kp [0,1,7,8]) (kq [0]) 1 pn (ih _ _ h E hE)
  ·refine Runs.nR hE 2 [] [] (kp [4]) (kq [0]) 33 pn ?_
   obtain rfl:=Option.some.inj h
   exact Runs.nT hE 0 Try.f81 [] (kp [4]) (kq [0]) 49 pn [] pn
theorem g_slices_IndexFunc_api_Call_api_Call_v2_ok (N:Nat) (s:List TCall) (cap0:ByteArray) (r:Int) (h:g_slices_IndexFunc_api_Call_api_Call_v2 N s cap0=some r):Sound Try.prog 81 [(encL TCall.cells TCall.d s),(.fn (.func 82) [] [(.op 0 0 0)])] [(0,vO 1 [(aS cap0)])] 1 (aI r) [(0,vO 1 [(aS cap0)])]:=by
 unfold g_slices_IndexFunc_api_Call_api_Call_v2 at h
 refine Sound.of_runs (fu:=Try.f81) (c:=C_91 1) (nt:=19) (by kernel_rfl) (by kernel_rfl) (by kernel_rfl) (by kernel_rfl) (fun hm=>absurd hm (by decide)) ?_
 intro E hE
 refine Runs.nR hE 1 [] [] (kp [0,1]) (kq [0]) 17 pn ?_
 refine Runs.nR hE 2 [] [] (kp [0,1,7,8]) (kq [0]) 65 pn ?_
 exact Runs.nW hE 2 [] (kp [0,1,7,8]) (kq [0]) 1 pn (g_slices_IndexFunc_api_Call_api_Call_v2_L1_ok N _ _ N _ _ h E hE)
noncomputable def C_90 (n:Nat):Code:=cat (bodyOf Try.f48) (pth n)
theorem g_berth_called_ok (N:Nat) (c:List TCall) (name:ByteArray) (r:Int) (h:g_berth_called N c name=some r):Sound Try.prog 48 [(encL TCall.cells TCall.d c),(aS name)] [] 0 (aI r) []:=by
 unfold g_berth_called at h
 refine Sound.of_runs (fu:=Try.f48) (c:=C_90 1) (nt:=8) (by kernel_rfl) (by kernel_rfl) (by kernel_rfl) (by kernel_rfl) (fun hm=>rfl) ?_
 intro E hE
 refine Runs.nR hE 1 [] [] (kp [0,3]) (kq [0]) 32 pn ?_
 obtain ⟨rCall,hr,h⟩:=bindSome h
 refine Runs.nR hE 1 [(2,⟨[0],true,(aI rCall),[],0,false,none⟩)] [] (kp [4]) [] 96 (pc (g_slices_IndexFunc_api_Call_api_Call_v2_ok N c name rCall hr) pn) ?_
 obtain rfl:=Option.some.inj h
 exact Runs.nT hE 0 Try.f48 [] (kp [4]) [] 96 pn [] pn
noncomputable def C_89 (n:Nat):Code:=cat (bodyOf Try.f56) (pth n)
theorem g_berth_overlap_ok (N:Nat) (y:TYard) (a:TStay) (b:TStay) (r:Bool) (h:g_berth_overlap N y a b=some r):Sound Try.prog 56 [(.agg (TYard.cells y)),(.agg (TStay.cells a)),(.agg (TStay.cells b))] [] 0 (aB r) []:=by
 unfold g_berth_overlap at h
 refine Sound.of_runs (fu:=Try.f56) (c:=C_89 1) (nt:=48) (by kernel_rfl) (by kernel_rfl) (by kernel_rfl) (by kernel_rfl) (fun hm=>rfl) ?_
 intro E hE
 refine Runs.nR hE 1 [] [] (kp [3,4,5]) (kq [0,16,32]) 64 pn ?_
 obtain ⟨rcalled,hr,h⟩:=bindSome h
 obtain ⟨c,h⟩:=ifSome h
 obtain ⟨rcalled2,hr2,h⟩:=bindSome h
 obtain ⟨c2,h⟩:=ifSome h
 refine Runs.nR hE 1 [(16,⟨[],true,(aI rcalled),[],0,false,none⟩),(34,⟨[],true,(aI rcalled2),[],0,false,none⟩)] [] (kp [6]) [] 736 (pc o1 (pc o1 (pc (fun hg:(streq a.f_Dock b.f_Dock)=true=>(pc hg (pc o1 pn))) (pc (fun hg:(streq a.f_Dock b.f_Dock)=true=>(pc hg (pc o1 pn))) (pc (fun hg:(streq a.f_Dock b.f_Dock)=true=>(pc hg (pc o1 pn))) (pc (fun hg:(streq a.f_Dock b.f_Dock)=true=>(pc hg (pc o1 pn))) (pc (fun hg:(streq a.f_Dock b.f_Dock)=true=>(pc hg (pc o1 pn))) (pc (fun hg:(streq a.f_Dock b.f_Dock)=true=>(pc (g_berth_called_ok N y.f_Calls b.f_Call rcalled (condT hr hg)) (pc hg (pc hg pn)))) (pc (fun hg:(streq a.f_Dock b.f_Dock)=true=>(pc hg (pc hg (pc (c hg) pn)))) (pc (fun hg:(streq a.f_Dock b.f_Dock)=true=>(pc hg pn)) (pc (fun hg:(streq a.f_Dock b.f_Dock)=true=>(pc hg pn)) (pc (fun hg:(streq a.f_Dock b.f_Dock)=true=>(pc hg (pc hg pn))) (pc (fun hg:(streq a.f_Dock b.f_Dock)=true=>(pc hg (pc hg pn))) (pc (fun hq:(streq a.f_Dock b.f_Dock)=true=>(pc hq pn)) (pc (fun hg:(cond (streq a.f_Dock b.f_Dock) (decide (a.f_Day < (w64 (b.f_Day+(y.f_Calls.getD ((rcalled).toNat) TCall.d).f_Work)))) false)=true=>(pc hg (pc o1 pn))) (pc (fun hg:(cond (streq a.f_Dock b.f_Dock) (decide (a.f_Day < (w64 (b.f_Day+(y.f_Calls.getD ((rcalled).toNat) TCall.d).f_Work)))) false)=true=>(pc hg (pc o1 pn))) (pc (fun hg:(cond (streq a.f_Dock b.f_Dock) (decide (a.f_Day < (w64 (b.f_Day+(y.f_Calls.getD ((rcalled).toNat) TCall.d).f_Work)))) false)=true=>(pc hg (pc o1 pn))) (pc (fun hg:(cond (streq a.f_Dock b.f_Dock) (decide (a.f_Day < (w64 (b.f_Day+(y.f_Calls.getD ((rcalled).toNat) TCall.d).f_Work)))) false)=true=>(pc hg (pc o1 pn))) (pc (fun hg:(cond (streq a.f_Dock b.f_Dock) (decide (a.f_Day < (w64 (b.f_Day+(y.f_Calls.getD ((rcalled).toNat) TCall.d).f_Work)))) false)=true=>(pc hg (pc o1 pn))) (pc (fun hg:(cond (streq a.f_Dock b.f_Dock) (decide (a.f_Day < (w64 (b.f_Day+(y.f_Calls.getD ((rcalled).toNat) TCall.d).f_Work)))) false)=true=>(pc (g_berth_called_ok N y.f_Calls a.f_Call rcalled2 (condT hr2 hg)) (pc hg (pc hg pn)))) (pc (fun hg:(cond (streq a.f_Dock b.f_Dock) (decide (a.f_Day < (w64 (b.f_Day+(y.f_Calls.getD ((rcalled).toNat) TCall.d).f_Work)))) false)=true=>(pc hg (pc hg (pc (c2 hg) pn)))) (pc (fun hg:(cond (streq a.f_Dock b.f_Dock) (decide (a.f_Day < (w64 (b.f_Day+(y.f_Calls.getD ((rcalled).toNat) TCall.d).f_Work)))) false)=true=>(pc hg pn)) (pc (fun hg:(cond (streq a.f_Dock b.f_Dock) (decide (a.f_Day < (w64 (b.f_Day+(y.f_Calls.getD ((rcalled).toNat) TCall.d).f_Work)))) false)=true=>(pc hg pn)) (pc (fun hg:(cond (streq a.f_Dock b.f_Dock) (decide (a.f_Day < (w64 (b.f_Day+(y.f_Calls.getD ((rcalled).toNat) TCall.d).f_Work)))) false)=true=>(pc hg (pc hg pn))) (pc (fun hg:(cond (streq a.f_Dock b.f_Dock) (decide (a.f_Day < (w64 (b.f_Day+(y.f_Calls.getD ((rcalled).toNat) TCall.d).f_Work)))) false)=true=>(pc hg (pc hg pn))) (pc (fun hq:(cond (streq a.f_Dock b.f_Dock) (decide (a.f_Day < (w64 (b.f_Day+(y.f_Calls.getD ((rcalled).toNat) TCall.d).f_Work)))) false)=true=>(pc hq pn)) pn)))))))))))))))))))))))))) ?_
 obtain rfl:=Option.some.inj h
 exact Runs.nT hE 0 Try.f56 [] (kp [6]) [] 736 pn [] pn
noncomputable def C_88 (n:Nat):Code:=cat (bodyOf Try.f78) (pth n)
theorem g_berth_search_walk_1_ok (N:Nat) (z:TStay) (cap1:List TDock) (cap12:List TCall) (cap13:List TMark) (cap14:Int) (cap1f:Bool) (cap15:Int) (cap2:List (List (List Int))) (cap3:List Int) (cap4:List TStay) (cap5:List TStay) (cap6:TStay) (r:Bool) (h:g_berth_search_walk_1 N z cap1 cap12 cap13 cap14 cap1f cap15 cap2 cap3 cap4 cap5 cap6=some r):Sound Try.prog 78 [(.agg (TStay.cells z)),(.op 0 0 0),(.op 6 0 0)] [(0,vN 1 [(.op 1 0 0)]),(1,vN 9 [(encL TDock.cells TDock.d cap1),(encL TCall.cells TCall.d cap12),(encL TMark.cells TMark.d cap13),(aI cap14),(.os 2 0 cap2.length),(.os 3 0 cap3.length),(.os 4 0 cap4.length),(.nq (nqF cap1f) (.os 5 0 cap5.length)),(aI cap15)]),(2,aO 1 (fun x=>[encL (fun x=>[encL cI 0 x]) [] x]) [] cap2),(3,aO 1 cI 0 cap3),(4,aO 3 TStay.cells TStay.d cap4),(5,aO 3 TStay.cells TStay.d cap5),(6,vO 3 (TStay.cells cap6))] 7 (aB r) [(0,vN 1 [(.op 1 0 0)]),(1,vN 9 [(encL TDock.cells TDock.d cap1),(encL TCall.cells TCall.d cap12),(encL TMark.cells TMark.d cap13),(aI cap14),(.os 2 0 cap2.length),(.os 3 0 cap3.length),(.os 4 0 cap4.length),(.nq (nqF cap1f) (.os 5 0 cap5.length)),(aI cap15)]),(2,aO 1 (fun x=>[encL (fun x=>[encL cI 0 x]) [] x]) [] cap2),(3,aO 1 cI 0 cap3),(4,aO 3 TStay.cells TStay.d cap4),(5,aO 3 TStay.cells TStay.d cap5),(6,vO 3 (TStay.cells cap6))]:=by
 unfold g_berth_search_walk_1 at h
 refine Sound.of_runs (fu:=Try.f78) (c:=C_88 1) (nt:=12) (by kernel_rfl) (by kernel_rfl) (by kernel_rfl) (by kernel_rfl) (fun hm=>absurd hm (by decide)) ?_
 intro E hE
 refine Runs.nR hE 1 [] [] (kp [1,2,3]) (kq [0,1,2,3,4,5,6,7]) 39 pn ?_
 obtain ⟨roverlap,hr,h⟩:=bindSome h
 refine Runs.nR hE 1 [(6,⟨[],true,(aB roverlap),[],0,false,none⟩)] [] (kp [4]) (kq [0,1,2,3,4,5,6]) 167 (pc o1 (pc o1 (pc o1 (pc o1 (pc (g_berth_overlap_ok N (⟨cap1,cap12,cap13,cap14⟩:TYard) cap6 z roverlap hr) pn))))) ?_
 obtain rfl:=Option.some.inj h
 exact Runs.nT hE 0 Try.f78 [] (kp [4]) (kq [0,1,2,3,4,5,6]) 167 pn [] pn
noncomputable def C_87 (n:Nat):Code:=cat (bodyOf Try.f83) (pth n)
def g_slices_IndexFunc_api_Stay_api_Stay_L1_H (N:Nat) (cap1:List TDock) (cap12:List TCall) (cap13:List TMark) (cap14:Int) (cap1f:Bool) (cap15:Int) (cap2:List (List (List Int))) (cap3:List Int) (cap4:List TStay) (cap5:List TStay) (cap6:TStay) (K:Int→Option (Int)):Prop:=∀ (x:Int) (r:Int),K x=some r→∀ E,EnvOk E 7→Runs Try.prog E 83 19 (SPost E [(0,vN 1 [(.op 1 0 0)]),(1,vN 9 [(encL TDock.cells TDock.d cap1),(encL TCall.cells TCall.d cap12),(encL TMark.cells TMark.d cap13),(aI cap14),(.os 2 0 cap2.length),(.os 3 0 cap3.length),(.os 4 0 cap4.length),(.nq (nqF cap1f) (.os 5 0 cap5.length)),(aI cap15)]),(2,aO 1 (fun x=>[encL (fun x=>[encL cI 0 x]) [] x]) [] cap2),(3,aO 1 cI 0 cap3),(4,aO 3 TStay.cells TStay.d cap4),(5,aO 3 TStay.cells TStay.d cap5),(6,vO 3 (TStay.cells cap6))] (aI r)) [.code (C_87 52),.inLoop (C_87 52),.inBlock 0,.code (C_87 7)] ⟨[(0,(.os 4 0 cap4.length)),(1,(.fn (.func 78) [] [(.op 0 0 0),(.op 6 0 0)])),(7,(aI ((cap4.length:Nat):Int))),(8,(aI x))],[(0,vN 1 [(.op 1 0 0)]),(1,vN 9 [(encL TDock.cells TDock.d cap1),(encL TCall.cells TCall.d cap12),(encL TMark.cells TMark.d cap13),(aI cap14),(.os 2 0 cap2.length),(.os 3 0 cap3.length),(.os 4 0 cap4.length),(.nq (nqF cap1f) (.os 5 0 cap5.length)),(aI cap15)]),(2,aO 1 (fun x=>[encL (fun x=>[encL cI 0 x]) [] x]) [] cap2),(3,aO 1 cI 0 cap3),(4,aO 3 TStay.cells TStay.d cap4),(5,aO 3 TStay.cells TStay.d cap5),(6,vO 3 (TStay.cells cap6))],7⟩
theorem g_slices_IndexFunc_api_Stay_api_Stay_L1_ok (N:Nat) (cap1:List TDock) (cap12:List TCall) (cap13:List TMark) (cap14:Int) (cap1f:Bool) (cap15:Int) (cap2:List (List (List Int))) (cap3:List Int) (cap4:List TStay) (cap5:List TStay) (cap6:TStay) (fuel:Nat):g_slices_IndexFunc_api_Stay_api_Stay_L1_H N cap1 cap12 cap13 cap14 cap1f cap15 cap2 cap3 cap4 cap5 cap6 (g_slices_IndexFunc_api_Stay_api_Stay_L1 N cap1 cap12 cap13 cap14 cap1f cap15 cap2 cap3 cap4 cap5 cap6 fuel):=by
 induction fuel with
 | zero=>intro _ r h;rw [g_slices_IndexFunc_api_Stay_api_Stay_L1.eq_1] at h;cases h
 | succ fuel ih =>
  intro x r h E hE
  rw [g_slices_IndexFunc_api_Stay_api_Stay_L1.eq_2] at h
  refine Runs.nR hE 1 [] [] (kp [0,1,7,8,9]) (kq [0,1,2,3,4,5,6]) 23 pn ?_
  refine Runs.nC 1 9 h (fun hq2 h=>?_) (fun hq2 h=>?_)
  ·refine Runs.nR hE 4 [] [] (kp [0,1,5,7,8]) (kq [0,1,2,3,4,5,6]) 55 pn ?_
   obtain ⟨c,h⟩:=ifSome h
   obtain ⟨rwalk1,hr,h⟩:=bindSome h
   refine Runs.nR hE 1 [(5,⟨[0,1,2,3,4,5,6],true,(aB rwalk1),[],0,false,none⟩)] [] (kp [0,1,5,7,8,16]) (kq [0,1,2,3,4,5,6]) 151 (pc c (pc (ltOf c) (pc (g_berth_search_walk_1_ok N (cap4.getD ((x).toNat) TStay.d) cap1 cap12 cap13 cap14 cap1f cap15 cap2 cap3 cap4 cap5 cap6 rwalk1 hr) pn))) ?_
   refine Runs.nC 0 16 h (fun hq3 h=>?_) (fun hq3 h=>?_)
   ·refine Runs.nR hE 1 [] [] (kp [4]) (kq [0,1,2,3,4,5,6]) 183 pn ?_
    obtain rfl:=Option.some.inj h
    exact Runs.nT hE 0 Try.f83 [] (kp [4]) (kq [0,1,2,3,4,5,6]) 183 pn [] pn
   ·refine Runs.nR hE 2 [] [] (kp [0,1,7,8]) (kq [0,1,2,3,4,5,6]) 183 pn ?_
    exact Runs.nW hE 1 [] (kp [0,1,7,8]) (kq [0,1,2,3,4,5,6]) 7 pn (ih _ _ h E hE)
  ·refine Runs.nR hE 2 [] [] (kp [4]) (kq [0,1,2,3,4,5,6]) 39 pn ?_
   obtain rfl:=Option.some.inj h
   exact Runs.nT hE 0 Try.f83 [] (kp [4]) (kq [0,1,2,3,4,5,6]) 55 pn [] pn
theorem g_slices_IndexFunc_api_Stay_api_Stay_ok (N:Nat) (cap1:List TDock) (cap12:List TCall) (cap13:List TMark) (cap14:Int) (cap1f:Bool) (cap15:Int) (cap2:List (List (List Int))) (cap3:List Int) (cap4:List TStay) (cap5:List TStay) (cap6:TStay) (r:Int) (h:g_slices_IndexFunc_api_Stay_api_Stay N cap1 cap12 cap13 cap14 cap1f cap15 cap2 cap3 cap4 cap5 cap6=some r):Sound Try.prog 83 [(.os 4 0 cap4.length),(.fn (.func 78) [] [(.op 0 0 0),(.op 6 0 0)])] [(0,vN 1 [(.op 1 0 0)]),(1,vN 9 [(encL TDock.cells TDock.d cap1),(encL TCall.cells TCall.d cap12),(encL TMark.cells TMark.d cap13),(aI cap14),(.os 2 0 cap2.length),(.os 3 0 cap3.length),(.os 4 0 cap4.length),(.nq (nqF cap1f) (.os 5 0 cap5.length)),(aI cap15)]),(2,aO 1 (fun x=>[encL (fun x=>[encL cI 0 x]) [] x]) [] cap2),(3,aO 1 cI 0 cap3),(4,aO 3 TStay.cells TStay.d cap4),(5,aO 3 TStay.cells TStay.d cap5),(6,vO 3 (TStay.cells cap6))] 7 (aI r) [(0,vN 1 [(.op 1 0 0)]),(1,vN 9 [(encL TDock.cells TDock.d cap1),(encL TCall.cells TCall.d cap12),(encL TMark.cells TMark.d cap13),(aI cap14),(.os 2 0 cap2.length),(.os 3 0 cap3.length),(.os 4 0 cap4.length),(.nq (nqF cap1f) (.os 5 0 cap5.length)),(aI cap15)]),(2,aO 1 (fun x=>[encL (fun x=>[encL cI 0 x]) [] x]) [] cap2),(3,aO 1 cI 0 cap3),(4,aO 3 TStay.cells TStay.d cap4),(5,aO 3 TStay.cells TStay.d cap5),(6,vO 3 (TStay.cells cap6))]:=by
 unfold g_slices_IndexFunc_api_Stay_api_Stay at h
 refine Sound.of_runs (fu:=Try.f83) (c:=C_87 1) (nt:=19) (by kernel_rfl) (by kernel_rfl) (by kernel_rfl) (by kernel_rfl) (fun hm=>absurd hm (by decide)) ?_
 intro E hE
 refine Runs.nR hE 1 [] [] (kp [0,1]) (kq [0,1,2,3,4,5,6]) 23 pn ?_
 refine Runs.nR hE 2 [] [] (kp [0,1,7,8]) (kq [0,1,2,3,4,5,6]) 71 pn ?_
 exact Runs.nW hE 2 [] (kp [0,1,7,8]) (kq [0,1,2,3,4,5,6]) 7 pn (g_slices_IndexFunc_api_Stay_api_Stay_L1_ok N _ _ _ _ _ _ _ _ _ _ _ N _ _ h E hE)
noncomputable def C_86 (n:Nat):Code:=cat (bodyOf Try.f51) (pth n)
theorem g_slices_ContainsFunc_api_Stay_api_Stay_ok (N:Nat) (cap1:List TDock) (cap12:List TCall) (cap13:List TMark) (cap14:Int) (cap1f:Bool) (cap15:Int) (cap2:List (List (List Int))) (cap3:List Int) (cap4:List TStay) (cap5:List TStay) (cap6:TStay) (r:Bool) (h:g_slices_ContainsFunc_api_Stay_api_Stay N cap1 cap12 cap13 cap14 cap1f cap15 cap2 cap3 cap4 cap5 cap6=some r):Sound Try.prog 51 [(.os 4 0 cap4.length),(.fn (.func 78) [] [(.op 0 0 0),(.op 6 0 0)])] [(0,vN 1 [(.op 1 0 0)]),(1,vN 9 [(encL TDock.cells TDock.d cap1),(encL TCall.cells TCall.d cap12),(encL TMark.cells TMark.d cap13),(aI cap14),(.os 2 0 cap2.length),(.os 3 0 cap3.length),(.os 4 0 cap4.length),(.nq (nqF cap1f) (.os 5 0 cap5.length)),(aI cap15)]),(2,aO 1 (fun x=>[encL (fun x=>[encL cI 0 x]) [] x]) [] cap2),(3,aO 1 cI 0 cap3),(4,aO 3 TStay.cells TStay.d cap4),(5,aO 3 TStay.cells TStay.d cap5),(6,vO 3 (TStay.cells cap6))] 7 (aB r) [(0,vN 1 [(.op 1 0 0)]),(1,vN 9 [(encL TDock.cells TDock.d cap1),(encL TCall.cells TCall.d cap12),(encL TMark.cells TMark.d cap13),(aI cap14),(.os 2 0 cap2.length),(.os 3 0 cap3.length),(.os 4 0 cap4.length),(.nq (nqF cap1f) (.os 5 0 cap5.length)),(aI cap15)]),(2,aO 1 (fun x=>[encL (fun x=>[encL cI 0 x]) [] x]) [] cap2),(3,aO 1 cI 0 cap3),(4,aO 3 TStay.cells TStay.d cap4),(5,aO 3 TStay.cells TStay.d cap5),(6,vO 3 (TStay.cells cap6))]:=by
 unfold g_slices_ContainsFunc_api_Stay_api_Stay at h
 refine Sound.of_runs (fu:=Try.f51) (c:=C_86 1) (nt:=9) (by kernel_rfl) (by kernel_rfl) (by kernel_rfl) (by kernel_rfl) (fun hm=>absurd hm (by decide)) ?_
 intro E hE
 refine Runs.nR hE 1 [] [] (kp [0,1]) (kq [0,1,2,3,4,5,6]) 23 pn ?_
 obtain ⟨rStay,hr,h⟩:=bindSome h
 refine Runs.nR hE 1 [(2,⟨[0,1,2,3,4,5,6],true,(aI rStay),[],0,false,none⟩)] [] (kp [4]) (kq [0,1,2,3,4,5,6]) 103 (pc (g_slices_IndexFunc_api_Stay_api_Stay_ok N cap1 cap12 cap13 cap14 cap1f cap15 cap2 cap3 cap4 cap5 cap6 rStay hr) pn) ?_
 obtain rfl:=Option.some.inj h
 exact Runs.nT hE 0 Try.f51 [] (kp [4]) (kq [0,1,2,3,4,5,6]) 103 pn [] pn
noncomputable def C_84 (n:Nat):Code:=cat (bodyOf Try.f46) (pth n)
def g_berth_search_walk_L1_H (N:Nat) (i:Int) (sum:Int) (cap0:List TDock) (cap02:List TCall) (cap1:List (List (List Int))) (cap2:List Int) (K:(List TDock)→(List TCall)→(List TMark)→Int→(List TStay)→Bool→(List TStay)→Int→Int→Option (Tberth_search)):Prop:=∀ (cap06:List TDock) (cap07:List TCall) (cap08:List TMark) (cap09:Int) (cap010:List TStay) (cap011:Bool) (cap012:List TStay) (cap013:Int) (x:Int) (r:Tberth_search),K cap06 cap07 cap08 cap09 cap010 cap011 cap012 cap013 x=some r→∀ E,EnvOk E 5→Runs Try.prog E 46 132 (SPost E [(0,vN 9 [(encL TDock.cells TDock.d r.f_y.f_Docks),(encL TCall.cells TCall.d r.f_y.f_Calls),(encL TMark.cells TMark.d r.f_y.f_Sea),(aI r.f_y.f_Last),(.os 1 0 cap1.length),(.os 2 0 cap2.length),(.os 5 0 r.f_stays.length),(.nq (nqF r.f_best.1) (.os 6 0 r.f_best.2.length)),(aI r.f_cost)]),(1,aO 1 (fun x=>[encL (fun x=>[encL cI 0 x]) [] x]) [] cap1),(2,aO 1 cI 0 cap2),(5,aO 3 TStay.cells TStay.d r.f_stays),(6,aO 3 TStay.cells TStay.d r.f_best.2)] (.tup [])) [.code (C_84 444),.inLoop (C_84 444),.inBlock 0,.inScope (C_84 6)] ⟨[(1,(aI i)),(2,(aI sum)),(3,(.op 7 0 0)),(6,(.op 8 0 0)),(45,(encL TDock.cells TDock.d cap0)),(46,(aI ((cap0.length:Nat):Int))),(47,(aI x))],[(0,vN 9 [(encL TDock.cells TDock.d cap06),(encL TCall.cells TCall.d cap07),(encL TMark.cells TMark.d cap08),(aI cap09),(.os 1 0 cap1.length),(.os 2 0 cap2.length),(.os 5 0 cap010.length),(.nq (nqF cap011) (.os 6 0 cap012.length)),(aI cap013)]),(1,aO 1 (fun x=>[encL (fun x=>[encL cI 0 x]) [] x]) [] cap1),(2,aO 1 cI 0 cap2),(5,aO 3 TStay.cells TStay.d cap010),(6,aO 3 TStay.cells TStay.d cap012),(7,vN 1 [(.op 0 0 0)]),(8,vO 9 (TCall.cells (cap02.getD ((i).toNat) TCall.d)))],9⟩
def g_berth_search_walk_L2_H (N:Nat) (i:Int) (sum:Int) (cap0:List TDock) (cap02:List TCall) (cap1:List (List (List Int))) (cap2:List Int) (x:Int) (K:(List TDock)→(List TCall)→(List TMark)→Int→(List TStay)→Bool→(List TStay)→Int→Int→Option (Tberth_search)):Prop:=∀ (cap014:List TDock) (cap015:List TCall) (cap016:List TMark) (cap017:Int) (cap018:List TStay) (cap019:Bool) (cap020:List TStay) (cap021:Int) (x2:Int) (r:Tberth_search),K cap014 cap015 cap016 cap017 cap018 cap019 cap020 cap021 x2=some r→∀ E,EnvOk E 5→Runs Try.prog E 46 132 (SPost E [(0,vN 9 [(encL TDock.cells TDock.d r.f_y.f_Docks),(encL TCall.cells TCall.d r.f_y.f_Calls),(encL TMark.cells TMark.d r.f_y.f_Sea),(aI r.f_y.f_Last),(.os 1 0 cap1.length),(.os 2 0 cap2.length),(.os 5 0 r.f_stays.length),(.nq (nqF r.f_best.1) (.os 6 0 r.f_best.2.length)),(aI r.f_cost)]),(1,aO 1 (fun x=>[encL (fun x=>[encL cI 0 x]) [] x]) [] cap1),(2,aO 1 cI 0 cap2),(5,aO 3 TStay.cells TStay.d r.f_stays),(6,aO 3 TStay.cells TStay.d r.f_best.2)] (.tup [])) [.code (C_84 113868),.inLoop (C_84 113868),.inBlock 2,.inBlock 1,.code (C_84 3559),.inLoop (C_84 444),.inBlock 0,.inScope (C_84 6)] ⟨[(1,(aI i)),(2,(aI sum)),(3,(.op 7 0 0)),(6,(.op 8 0 0)),(8,(.op 9 0 0)),(45,(encL TDock.cells TDock.d cap0)),(46,(aI ((cap0.length:Nat):Int))),(47,(aI x)),(61,(encL cI 0 ((cap1.getD ((i).toNat) []).getD ((x).toNat) []))),(62,(aI ((((cap1.getD ((i).toNat) []).getD ((x).toNat) []).length:Nat):Int))),(63,(aI x2))],[(0,vN 9 [(encL TDock.cells TDock.d cap014),(encL TCall.cells TCall.d cap015),(encL TMark.cells TMark.d cap016),(aI cap017),(.os 1 0 cap1.length),(.os 2 0 cap2.length),(.os 5 0 cap018.length),(.nq (nqF cap019) (.os 6 0 cap020.length)),(aI cap021)]),(1,aO 1 (fun x=>[encL (fun x=>[encL cI 0 x]) [] x]) [] cap1),(2,aO 1 cI 0 cap2),(5,aO 3 TStay.cells TStay.d cap018),(6,aO 3 TStay.cells TStay.d cap020),(7,vN 1 [(.op 0 0 0)]),(8,vO 9 (TCall.cells (cap02.getD ((i).toNat) TCall.d))),(9,vO 6 (TDock.cells (cap0.getD ((x).toNat) TDock.d)))],10⟩
def g_berth_search_walk_J3_H (N:Nat) (i:Int) (sum:Int) (cap0:List TDock) (cap02:List TCall) (cap1:List (List (List Int))) (cap2:List Int) (x:Int) (cap014:List TDock) (cap015:List TCall) (cap016:List TMark) (cap017:Int) (cap018:List TStay) (cap019:Bool) (cap020:List TStay) (cap021:Int) (K:Option (Tberth_search)):Prop:=∀ (r:Tberth_search),K=some r→∀ E,EnvOk E 5→Runs Try.prog E 46 132 (SPost E [(0,vN 9 [(encL TDock.cells TDock.d r.f_y.f_Docks),(encL TCall.cells TCall.d r.f_y.f_Calls),(encL TMark.cells TMark.d r.f_y.f_Sea),(aI r.f_y.f_Last),(.os 1 0 cap1.length),(.os 2 0 cap2.length),(.os 5 0 r.f_stays.length),(.nq (nqF r.f_best.1) (.os 6 0 r.f_best.2.length)),(aI r.f_cost)]),(1,aO 1 (fun x=>[encL (fun x=>[encL cI 0 x]) [] x]) [] cap1),(2,aO 1 cI 0 cap2),(5,aO 3 TStay.cells TStay.d r.f_stays),(6,aO 3 TStay.cells TStay.d r.f_best.2)] (.tup [])) [.code (C_84 3559),.inLoop (C_84 444),.inBlock 0,.inScope (C_84 6)] ⟨[(1,(aI i)),(2,(aI sum)),(3,(.op 7 0 0)),(6,(.op 8 0 0)),(45,(encL TDock.cells TDock.d cap0)),(46,(aI ((cap0.length:Nat):Int))),(47,(aI x))],[(0,vN 9 [(encL TDock.cells TDock.d cap014),(encL TCall.cells TCall.d cap015),(encL TMark.cells TMark.d cap016),(aI cap017),(.os 1 0 cap1.length),(.os 2 0 cap2.length),(.os 5 0 cap018.length),(.nq (nqF cap019) (.os 6 0 cap020.length)),(aI cap021)]),(1,aO 1 (fun x=>[encL (fun x=>[encL cI 0 x]) [] x]) [] cap1),(2,aO 1 cI 0 cap2),(5,aO 3 TStay.cells TStay.d cap018),(6,aO 3 TStay.cells TStay.d cap020),(7,vN 1 [(.op 0 0 0)]),(8,vO 9 (TCall.cells (cap02.getD ((i).toNat) TCall.d)))],9⟩
theorem g_berth_search_walk_J3_ok (N:Nat) (i:Int) (sum:Int) (cap0:List TDock) (cap02:List TCall) (cap1:List (List (List Int))) (cap2:List Int) (x:Int) (cap014:List TDock) (cap015:List TCall) (cap016:List TMark) (cap017:Int) (cap018:List TStay) (cap019:Bool) (cap020:List TStay) (cap021:Int) (R_:Int→Int→(List TDock)→(List TCall)→(List TMark)→Int→Bool→Int→(List (List (List Int)))→(List Int)→(List TStay)→(List TStay)→Option (Tberth_search)) (K_g_berth_search_walk_L1:(List TDock)→(List TCall)→(List TMark)→Int→(List TStay)→Bool→(List TStay)→Int→Int→Option (Tberth_search))
  (hR_:∀ (i:Int) (sum:Int) (cap0:List TDock) (cap02:List TCall) (cap03:List TMark) (cap04:Int) (cap0f:Bool) (cap05:Int) (cap1:List (List (List Int))) (cap2:List Int) (cap3:List TStay) (cap4:List TStay) (r:Tberth_search),R_ i sum cap0 cap02 cap03 cap04 cap0f cap05 cap1 cap2 cap3 cap4=some r→Sound Try.prog 46 [(.op 0 0 0),(aI i),(aI sum)] [(0,vN 9 [(encL TDock.cells TDock.d cap0),(encL TCall.cells TCall.d cap02),(encL TMark.cells TMark.d cap03),(aI cap04),(.os 1 0 cap1.length),(.os 2 0 cap2.length),(.os 3 0 cap3.length),(.nq (nqF cap0f) (.os 4 0 cap4.length)),(aI cap05)]),(1,aO 1 (fun x=>[encL (fun x=>[encL cI 0 x]) [] x]) [] cap1),(2,aO 1 cI 0 cap2),(3,aO 3 TStay.cells TStay.d cap3),(4,aO 3 TStay.cells TStay.d cap4)] 5 (.tup []) [(0,vN 9 [(encL TDock.cells TDock.d r.f_y.f_Docks),(encL TCall.cells TCall.d r.f_y.f_Calls),(encL TMark.cells TMark.d r.f_y.f_Sea),(aI r.f_y.f_Last),(.os 1 0 cap1.length),(.os 2 0 cap2.length),(.os 5 0 r.f_stays.length),(.nq (nqF r.f_best.1) (.os 6 0 r.f_best.2.length)),(aI r.f_cost)]),(1,aO 1 (fun x=>[encL (fun x=>[encL cI 0 x]) [] x]) [] cap1),(2,aO 1 cI 0 cap2),(5,aO 3 TStay.cells TStay.d r.f_stays),(6,aO 3 TStay.cells TStay.d r.f_best.2)]) (hK_g_berth_search_walk_L1:g_berth_search_walk_L1_H N i sum cap0 cap02 cap1 cap2 K_g_berth_search_walk_L1):g_berth_search_walk_J3_H N i sum cap0 cap02 cap1 cap2 x cap014 cap015 cap016 cap017 cap018 cap019 cap020 cap021 (g_berth_search_walk_J3 N i sum cap0 cap02 cap1 cap2 x cap014 cap015 cap016 cap017 cap018 cap019 cap020 cap021 R_ K_g_berth_search_walk_L1):=by
 intro r h E hE
 unfold g_berth_search_walk_J3 at h
 refine Runs.nR hE 0 [] [] (kp [1,2,3,6,45,46,47]) (kq [0,1,2,5,6,7,8]) 41 pn ?_
 exact Runs.nW hE 1 [] (kp [1,2,3,6,45,46,47]) (kq [0,1,2,5,6,7,8]) 9 pn (hK_g_berth_search_walk_L1 _ _ _ _ _ _ _ _ _ _ h E hE)
def g_berth_search_walk_J4_H (N:Nat) (i:Int) (sum:Int) (cap0:List TDock) (cap02:List TCall) (cap1:List (List (List Int))) (cap2:List Int) (x:Int) (x2:Int) (K:(List TDock)→(List TCall)→(List TMark)→Int→(List TStay)→Bool→(List TStay)→Int→Option (Tberth_search)):Prop:=∀ (cap022:List TDock) (cap023:List TCall) (cap024:List TMark) (cap025:Int) (cap026:List TStay) (cap027:Bool) (cap028:List TStay) (cap029:Int) (r:Tberth_search),K cap022 cap023 cap024 cap025 cap026 cap027 cap028 cap029=some r→∀ E,EnvOk E 5→Runs Try.prog E 46 132 (SPost E [(0,vN 9 [(encL TDock.cells TDock.d r.f_y.f_Docks),(encL TCall.cells TCall.d r.f_y.f_Calls),(encL TMark.cells TMark.d r.f_y.f_Sea),(aI r.f_y.f_Last),(.os 1 0 cap1.length),(.os 2 0 cap2.length),(.os 5 0 r.f_stays.length),(.nq (nqF r.f_best.1) (.os 6 0 r.f_best.2.length)),(aI r.f_cost)]),(1,aO 1 (fun x=>[encL (fun x=>[encL cI 0 x]) [] x]) [] cap1),(2,aO 1 cI 0 cap2),(5,aO 3 TStay.cells TStay.d r.f_stays),(6,aO 3 TStay.cells TStay.d r.f_best.2)] (.tup [])) [.code (C_84 910951),.inLoop (C_84 113868),.inBlock 2,.inBlock 1,.code (C_84 3559),.inLoop (C_84 444),.inBlock 0,.inScope (C_84 6)] ⟨[(1,(aI i)),(2,(aI sum)),(3,(.op 7 0 0)),(6,(.op 8 0 0)),(8,(.op 9 0 0)),(45,(encL TDock.cells TDock.d cap0)),(46,(aI ((cap0.length:Nat):Int))),(47,(aI x)),(61,(encL cI 0 ((cap1.getD ((i).toNat) []).getD ((x).toNat) []))),(62,(aI ((((cap1.getD ((i).toNat) []).getD ((x).toNat) []).length:Nat):Int))),(63,(aI x2))],[(0,vN 9 [(encL TDock.cells TDock.d cap022),(encL TCall.cells TCall.d cap023),(encL TMark.cells TMark.d cap024),(aI cap025),(.os 1 0 cap1.length),(.os 2 0 cap2.length),(.os 5 0 cap026.length),(.nq (nqF cap027) (.os 6 0 cap028.length)),(aI cap029)]),(1,aO 1 (fun x=>[encL (fun x=>[encL cI 0 x]) [] x]) [] cap1),(2,aO 1 cI 0 cap2),(5,aO 3 TStay.cells TStay.d cap026),(6,aO 3 TStay.cells TStay.d cap028),(7,vN 1 [(.op 0 0 0)]),(8,vO 9 (TCall.cells (cap02.getD ((i).toNat) TCall.d))),(9,vO 6 (TDock.cells (cap0.getD ((x).toNat) TDock.d)))],10⟩
theorem g_berth_search_walk_J4_ok (N:Nat) (i:Int) (sum:Int) (cap0:List TDock) (cap02:List TCall) (cap1:List (List (List Int))) (cap2:List Int) (x:Int) (x2:Int) (R_:Int→Int→(List TDock)→(List TCall)→(List TMark)→Int→Bool→Int→(List (List (List Int)))→(List Int)→(List TStay)→(List TStay)→Option (Tberth_search)) (K_g_berth_search_walk_L2:(List TDock)→(List TCall)→(List TMark)→Int→(List TStay)→Bool→(List TStay)→Int→Int→Option (Tberth_search)) (K_g_berth_search_walk_L1:(List TDock)→(List TCall)→(List TMark)→Int→(List TStay)→Bool→(List TStay)→Int→Int→Option (Tberth_search))
  (hR_:∀ (i:Int) (sum:Int) (cap0:List TDock) (cap02:List TCall) (cap03:List TMark) (cap04:Int) (cap0f:Bool) (cap05:Int) (cap1:List (List (List Int))) (cap2:List Int) (cap3:List TStay) (cap4:List TStay) (r:Tberth_search),R_ i sum cap0 cap02 cap03 cap04 cap0f cap05 cap1 cap2 cap3 cap4=some r→Sound Try.prog 46 [(.op 0 0 0),(aI i),(aI sum)] [(0,vN 9 [(encL TDock.cells TDock.d cap0),(encL TCall.cells TCall.d cap02),(encL TMark.cells TMark.d cap03),(aI cap04),(.os 1 0 cap1.length),(.os 2 0 cap2.length),(.os 3 0 cap3.length),(.nq (nqF cap0f) (.os 4 0 cap4.length)),(aI cap05)]),(1,aO 1 (fun x=>[encL (fun x=>[encL cI 0 x]) [] x]) [] cap1),(2,aO 1 cI 0 cap2),(3,aO 3 TStay.cells TStay.d cap3),(4,aO 3 TStay.cells TStay.d cap4)] 5 (.tup []) [(0,vN 9 [(encL TDock.cells TDock.d r.f_y.f_Docks),(encL TCall.cells TCall.d r.f_y.f_Calls),(encL TMark.cells TMark.d r.f_y.f_Sea),(aI r.f_y.f_Last),(.os 1 0 cap1.length),(.os 2 0 cap2.length),(.os 5 0 r.f_stays.length),(.nq (nqF r.f_best.1) (.os 6 0 r.f_best.2.length)),(aI r.f_cost)]),(1,aO 1 (fun x=>[encL (fun x=>[encL cI 0 x]) [] x]) [] cap1),(2,aO 1 cI 0 cap2),(5,aO 3 TStay.cells TStay.d r.f_stays),(6,aO 3 TStay.cells TStay.d r.f_best.2)]) (hK_g_berth_search_walk_L2:g_berth_search_walk_L2_H N i sum cap0 cap02 cap1 cap2 x K_g_berth_search_walk_L2) (hK_g_berth_search_walk_L1:g_berth_search_walk_L1_H N i sum cap0 cap02 cap1 cap2 K_g_berth_search_walk_L1):g_berth_search_walk_J4_H N i sum cap0 cap02 cap1 cap2 x x2 (g_berth_search_walk_J4 N i sum cap0 cap02 cap1 cap2 x x2 R_ K_g_berth_search_walk_L2 K_g_berth_search_walk_L1):=by
 intro cap022 cap023 cap024 cap025 cap026 cap027 cap028 cap029 r h E hE
 unfold g_berth_search_walk_J4 at h
 refine Runs.nR hE 0 [] [] (kp [1,2,3,6,8,45,46,47,61,62,63]) (kq [0,1,2,5,6,7,8,9]) 42 pn ?_
 exact Runs.nW hE 1 [] (kp [1,2,3,6,8,45,46,47,61,62,63]) (kq [0,1,2,5,6,7,8,9]) 10 pn (hK_g_berth_search_walk_L2 _ _ _ _ _ _ _ _ _ _ h E hE)
theorem g_berth_search_walk_L2_ok (N:Nat) (i:Int) (sum:Int) (cap0:List TDock) (cap02:List TCall) (cap1:List (List (List Int))) (cap2:List Int) (x:Int) (R_:Int→Int→(List TDock)→(List TCall)→(List TMark)→Int→Bool→Int→(List (List (List Int)))→(List Int)→(List TStay)→(List TStay)→Option (Tberth_search)) (K_g_berth_search_walk_L1:(List TDock)→(List TCall)→(List TMark)→Int→(List TStay)→Bool→(List TStay)→Int→Int→Option (Tberth_search))
  (hR_:∀ (i:Int) (sum:Int) (cap0:List TDock) (cap02:List TCall) (cap03:List TMark) (cap04:Int) (cap0f:Bool) (cap05:Int) (cap1:List (List (List Int))) (cap2:List Int) (cap3:List TStay) (cap4:List TStay) (r:Tberth_search),R_ i sum cap0 cap02 cap03 cap04 cap0f cap05 cap1 cap2 cap3 cap4=some r→Sound Try.prog 46 [(.op 0 0 0),(aI i),(aI sum)] [(0,vN 9 [(encL TDock.cells TDock.d cap0),(encL TCall.cells TCall.d cap02),(encL TMark.cells TMark.d cap03),(aI cap04),(.os 1 0 cap1.length),(.os 2 0 cap2.length),(.os 3 0 cap3.length),(.nq (nqF cap0f) (.os 4 0 cap4.length)),(aI cap05)]),(1,aO 1 (fun x=>[encL (fun x=>[encL cI 0 x]) [] x]) [] cap1),(2,aO 1 cI 0 cap2),(3,aO 3 TStay.cells TStay.d cap3),(4,aO 3 TStay.cells TStay.d cap4)] 5 (.tup []) [(0,vN 9 [(encL TDock.cells TDock.d r.f_y.f_Docks),(encL TCall.cells TCall.d r.f_y.f_Calls),(encL TMark.cells TMark.d r.f_y.f_Sea),(aI r.f_y.f_Last),(.os 1 0 cap1.length),(.os 2 0 cap2.length),(.os 5 0 r.f_stays.length),(.nq (nqF r.f_best.1) (.os 6 0 r.f_best.2.length)),(aI r.f_cost)]),(1,aO 1 (fun x=>[encL (fun x=>[encL cI 0 x]) [] x]) [] cap1),(2,aO 1 cI 0 cap2),(5,aO 3 TStay.cells TStay.d r.f_stays),(6,aO 3 TStay.cells TStay.d r.f_best.2)]) (hK_g_berth_search_walk_L1:g_berth_search_walk_L1_H N i sum cap0 cap02 cap1 cap2 K_g_berth_search_walk_L1) (fuel:Nat):g_berth_search_walk_L2_H N i sum cap0 cap02 cap1 cap2 x (g_berth_search_walk_L2 N i sum cap0 cap02 cap1 cap2 x R_ K_g_berth_search_walk_L1 fuel):=by
 induction fuel with
 | zero=>intro _ _ _ _ _ _ _ _ _ r h;rw [g_berth_search_walk_L2.eq_1] at h;cases h
 | succ fuel ih =>
  intro cap014 cap015 cap016 cap017 cap018 cap019 cap020 cap021 x2 r h E hE
  rw [g_berth_search_walk_L2.eq_2] at h
  refine Runs.nR hE 1 [] [] (kp [1,2,3,6,8,45,46,47,61,62,63,64]) (kq [0,1,2,5,6,7,8,9]) 26 pn ?_
  refine Runs.nC 1 64 h (fun hq4 h=>?_) (fun hq4 h=>?_)
  ·obtain ⟨c5,h⟩:=ifSome h
   refine Runs.nR hE 4 [] [] (kp [1,2,3,6,8,10,45,46,47,61,62,63]) (kq [0,1,2,5,6,7,8,9]) 74 (pc c5 pn) ?_
   obtain ⟨rlate,hr2,h⟩:=bindSome h
   refine Runs.nR hE 1 [(3,⟨[],true,(aI rlate),[],0,false,none⟩)] [] (kp [1,2,3,6,8,10,11,45,46,47,61,62,63]) (kq [0,1,2,5,6,7,8,9]) 170 (pc o1 (pc (g_berth_late_ok N (cap02.getD ((i).toNat) TCall.d) (((cap1.getD ((i).toNat) []).getD ((x).toNat) []).getD ((x2).toNat) 0) rlate hr2) pn)) ?_
   obtain ⟨c6,h⟩:=ifSome h
   obtain ⟨c7,h⟩:=ifSome h
   refine Runs.nR hE 2 [] [] (kp [1,2,3,6,8,10,11,45,46,47,61,62,63,93]) (kq [0,1,2,5,6,7,8,9]) 522 (pc o1 (pc o1 (pc c6 (pc (fun hg:(!(nqB (nqF cap019)))=true=>(pc o1 pn)) (pc (fun hg:(!(nqB (nqF cap019)))=true=>(pc hg pn)) (pc (fun hg:(!(nqB (nqF cap019)))=true=>(pc hg pn)) (pc (fun hg:(!(nqB (nqF cap019)))=true=>(pc hg (pc o1 pn))) (pc (fun hg:(!(nqB (nqF cap019)))=true=>(pc hg pn)) (pc (fun hg:(!(nqB (nqF cap019)))=true=>(pc hg (pc hg (pc (c7 hg) pn)))) (pc (fun hg:(!(nqB (nqF cap019)))=true=>(pc hg (pc (ltOf (c7 hg)) pn))) (pc (fun hg:(!(nqB (nqF cap019)))=true=>(pc hg (pc hg pn))) (pc (fun hg:(!(nqB (nqF cap019)))=true=>(pc o1 pn)) (pc (fun hg:(!(nqB (nqF cap019)))=true=>(pc hg pn)) (pc (fun hg:(!(nqB (nqF cap019)))=true=>(pc hg pn)) (pc (fun hg:(!(nqB (nqF cap019)))=true=>(pc hg (pc o1 pn))) (pc (fun hg:(!(nqB (nqF cap019)))=true=>(pc hg (pc hg pn))) (pc (fun hq:(!(nqB (nqF cap019)))=true=>(pc hq pn)) pn))))))))))))))))) ?_
   refine Runs.nC 0 93 h (fun hq5 h=>?_) (fun hq5 h=>?_)
   ·exact Runs.nW hE 1 [] (kp [1,2,3,6,45,46,47]) (kq [0,1,2,5,6,7,8]) 9 pn (g_berth_search_walk_J3_ok N _ _ _ _ _ _ _ _ _ _ _ _ _ _ _ _ _ hR_ hK_g_berth_search_walk_L1 _ h E hE)
   ·refine Runs.nR hE 2 [] [] (kp [1,2,3,6,8,11,12,45,46,47,61,62,63]) (kq [0,1,2,5,6,7,8,9,618]) 650 (pc o1 (pc o1 (pc o1 pn))) ?_
    obtain ⟨rStay2,hr3,h⟩:=bindSome h
    refine Runs.nR hE 2 [(5,⟨[7,0,1,2,5,6,618],true,(aB rStay2),[],0,false,none⟩)] [] (kp [1,2,3,6,8,11,12,45,46,47,61,62,63,105]) (kq [0,1,2,5,6,7,8,9,618]) 746 (pc o1 (pc o1 (pc (g_slices_ContainsFunc_api_Stay_api_Stay_ok N cap014 cap015 cap016 cap017 cap019 cap021 cap1 cap2 cap018 cap020 (⟨(cap02.getD ((i).toNat) TCall.d).f_Name,(cap0.getD ((x).toNat) TDock.d).f_Name,(((cap1.getD ((i).toNat) []).getD ((x).toNat) []).getD ((x2).toNat) 0)⟩:TStay) rStay2 hr3) pn))) ?_
    refine Runs.nC 0 105 h (fun hq6 h=>?_) (fun hq6 h=>?_)
    ·exact Runs.nW hE 1 [] (kp [1,2,3,6,8,45,46,47,61,62,63]) (kq [0,1,2,5,6,7,8,9]) 10 pn (g_berth_search_walk_J4_ok N _ _ _ _ _ _ _ _ _ _ _ hR_ ih hK_g_berth_search_walk_L1 _ _ _ _ _ _ _ _ _ h E hE)
    ·obtain ⟨c8,h⟩:=ifSome h
     refine Runs.nR hE 2 [] [] (kp [1,2,3,6,8,11,45,46,47,61,62,63]) ([(0,.var 0 [.keep,.keep,.keep,.keep,.keep,.keep,.osl ((cap018 ++ ([(⟨(cap02.getD ((i).toNat) TCall.d).f_Name,(cap0.getD ((x).toNat) TDock.d).f_Name,(((cap1.getD ((i).toNat) []).getD ((x).toNat) []).getD ((x2).toNat) 0)⟩:TStay)]:List TStay)).length),.keep,.keep])] ++ kq [1,2,6,7,8,9] ++ [(858,.arr 858 ((cap018 ++ ([(⟨(cap02.getD ((i).toNat) TCall.d).f_Name,(cap0.getD ((x).toNat) TDock.d).f_Name,(((cap1.getD ((i).toNat) []).getD ((x).toNat) []).getD ((x2).toNat) 0)⟩:TStay)]:List TStay)).length) (fun zi=>TStay.cells ((cap018 ++ ([(⟨(cap02.getD ((i).toNat) TCall.d).f_Name,(cap0.getD ((x).toNat) TDock.d).f_Name,(((cap1.getD ((i).toNat) []).getD ((x).toNat) []).getD ((x2).toNat) 0)⟩:TStay)]:List TStay)).getD zi TStay.d)))]) 922 (pc o1 (pc o1 (pc o1 (pc o1 (pc (Eq.refl cap018.length) (pc c8 (pc (z1 1) (pc (show ∀ zi,zi < 1→AV.oneL ((fun zi=>([[(aS ((cap02.getD ((i).toNat) TCall.d).f_Name)),(aS ((cap0.getD ((x).toNat) TDock.d).f_Name)),(aI (((cap1.getD ((i).toNat) []).getD ((x).toNat) []).getD ((x2).toNat) 0))]]:List (List AV)).getD zi []) (addz 0 zi))=true from (oneN rfl)) (pc o1 (pc (show (cap018.length+1)=(cap018 ++ ([(⟨(cap02.getD ((i).toNat) TCall.d).f_Name,(cap0.getD ((x).toNat) TDock.d).f_Name,(((cap1.getD ((i).toNat) []).getD ((x).toNat) []).getD ((x2).toNat) 0)⟩:TStay)]:List TStay)).length from (len_app_raw rfl rfl)) (pc (show cap018.length+1=(cap018 ++ ([(⟨(cap02.getD ((i).toNat) TCall.d).f_Name,(cap0.getD ((x).toNat) TDock.d).f_Name,(((cap1.getD ((i).toNat) []).getD ((x).toNat) []).getD ((x2).toNat) 0)⟩:TStay)]:List TStay)).length from (len_app_raw rfl rfl)) (pc (show ∀ zi,zi < (cap018 ++ ([(⟨(cap02.getD ((i).toNat) TCall.d).f_Name,(cap0.getD ((x).toNat) TDock.d).f_Name,(((cap1.getD ((i).toNat) []).getD ((x).toNat) []).getD ((x2).toNat) 0)⟩:TStay)]:List TStay)).length→(fun zi=>TStay.cells ((cap018 ++ ([(⟨(cap02.getD ((i).toNat) TCall.d).f_Name,(cap0.getD ((x).toNat) TDock.d).f_Name,(((cap1.getD ((i).toNat) []).getD ((x).toNat) []).getD ((x2).toNat) 0)⟩:TStay)]:List TStay)).getD zi TStay.d)) zi=((fun zm=>if zm < cap018.length then (fun zi=>TStay.cells (cap018.getD zi TStay.d)) zm else (fun zi=>([[(aS ((cap02.getD ((i).toNat) TCall.d).f_Name)),(aS ((cap0.getD ((x).toNat) TDock.d).f_Name)),(aI (((cap1.getD ((i).toNat) []).getD ((x).toNat) []).getD ((x2).toNat) 0))]]:List (List AV)).getD zi []) (zm - cap018.length))) zi from (get_app_raw TStay.cells TStay.d cap018 ([(⟨(cap02.getD ((i).toNat) TCall.d).f_Name,(cap0.getD ((x).toNat) TDock.d).f_Name,(((cap1.getD ((i).toNat) []).getD ((x).toNat) []).getD ((x2).toNat) 0)⟩:TStay)]:List TStay) rfl (fun _ _=>rfl) (fun zq hzq=>get_chunk TStay.cells TStay.d ([(⟨(cap02.getD ((i).toNat) TCall.d).f_Name,(cap0.getD ((x).toNat) TDock.d).f_Name,(((cap1.getD ((i).toNat) []).getD ((x).toNat) []).getD ((x2).toNat) 0)⟩:TStay)]:List TStay) zq hzq))) pn)))))))))))) ?_
     obtain ⟨rwalk,hr4,h⟩:=bindSome h
     refine Runs.nR hE 1 [(4,⟨[0,1,2,858,6],false,(.tup []),[(0,vN 9 [(encL TDock.cells TDock.d rwalk.f_y.f_Docks),(encL TCall.cells TCall.d rwalk.f_y.f_Calls),(encL TMark.cells TMark.d rwalk.f_y.f_Sea),(aI rwalk.f_y.f_Last),(.os 1 0 cap1.length),(.os 2 0 cap2.length),(.os 5 0 rwalk.f_stays.length),(.nq (nqF rwalk.f_best.1) (.os 6 0 rwalk.f_best.2.length)),(aI rwalk.f_cost)]),(1,aO 1 (fun x=>[encL (fun x=>[encL cI 0 x]) [] x]) [] cap1),(2,aO 1 cI 0 cap2),(5,aO 3 TStay.cells TStay.d rwalk.f_stays),(6,aO 3 TStay.cells TStay.d rwalk.f_best.2)],0,false,none⟩)] [] (kp [1,2,3,6,8,45,46,47,61,62,63]) (kq [0,1,2,7,8,9,986,987]) 1002 (pc o1 (pc (show Sound Try.prog 46 [(.op 0 0 0),(aI (w64 (i+1))),(aI (w64 (sum+rlate)))] [(0,vN 9 [(encL TDock.cells TDock.d cap014),(encL TCall.cells TCall.d cap015),(encL TMark.cells TMark.d cap016),(aI cap017),(.os 1 0 cap1.length),(.os 2 0 cap2.length),(.os 3 0 ((cap018 ++ ([(⟨(cap02.getD ((i).toNat) TCall.d).f_Name,(cap0.getD ((x).toNat) TDock.d).f_Name,(((cap1.getD ((i).toNat) []).getD ((x).toNat) []).getD ((x2).toNat) 0)⟩:TStay)]:List TStay)).length)),(.nq (nqF cap019) (.os 4 0 cap020.length)),(aI cap021)]),(1,aO 1 (fun x=>[encL (fun x=>[encL cI 0 x]) [] x]) [] cap1),(2,aO 1 cI 0 cap2),(3,aO 3 TStay.cells TStay.d (cap018 ++ ([(⟨(cap02.getD ((i).toNat) TCall.d).f_Name,(cap0.getD ((x).toNat) TDock.d).f_Name,(((cap1.getD ((i).toNat) []).getD ((x).toNat) []).getD ((x2).toNat) 0)⟩:TStay)]:List TStay))),(4,aO 3 TStay.cells TStay.d cap020)] 5 (.tup []) [(0,vN 9 [(encL TDock.cells TDock.d rwalk.f_y.f_Docks),(encL TCall.cells TCall.d rwalk.f_y.f_Calls),(encL TMark.cells TMark.d rwalk.f_y.f_Sea),(aI rwalk.f_y.f_Last),(.os 1 0 cap1.length),(.os 2 0 cap2.length),(.os 5 0 rwalk.f_stays.length),(.nq (nqF rwalk.f_best.1) (.os 6 0 rwalk.f_best.2.length)),(aI rwalk.f_cost)]),(1,aO 1 (fun x=>[encL (fun x=>[encL cI 0 x]) [] x]) [] cap1),(2,aO 1 cI 0 cap2),(5,aO 3 TStay.cells TStay.d rwalk.f_stays),(6,aO 3 TStay.cells TStay.d rwalk.f_best.2)] from (hR_ (w64 (i+1)) (w64 (sum+rlate)) cap014 cap015 cap016 cap017 cap019 cap021 cap1 cap2 (cap018 ++ ([(⟨(cap02.getD ((i).toNat) TCall.d).f_Name,(cap0.getD ((x).toNat) TDock.d).f_Name,(((cap1.getD ((i).toNat) []).getD ((x).toNat) []).getD ((x2).toNat) 0)⟩:TStay)]:List TStay)) cap020 rwalk hr4)) pn)) ?_
     obtain ⟨c9,h⟩:=ifSome h
     obtain ⟨c10,h⟩:=ifSome h
     obtain ⟨c11,h⟩:=ifSome h
     refine Runs.nR hE 0 [] [] (kp [1,2,3,6,8,45,46,47,61,62,63]) ([(0,.var 0 [.keep,.keep,.keep,.keep,.keep,.keep,.osl ((rwalk.f_stays.take ((i).toNat)).length),.keep,.keep])] ++ kq [1,2,7,8,9] ++ [(986,.arz 986 ((rwalk.f_stays.take ((i).toNat)).length) (fun zi=>TStay.cells ((rwalk.f_stays.take ((i).toNat)).getD zi TStay.d)))] ++ kq [987]) 1162 (pc o1 (pc o1 (pc o1 (pc c9 (pc c10 (pc o1 (pc (show ((i).toNat - 0)=(rwalk.f_stays.take ((i).toNat)).length from (len_tk1 c11)) (pc (show (rwalk.f_stays.take ((i).toNat)).length≤rwalk.f_stays.length from (len_tk2 rwalk.f_stays ((i).toNat))) (pc (show ∀ zi,zi < (rwalk.f_stays.take ((i).toNat)).length→UpL (TStay.cells (rwalk.f_stays.getD zi TStay.d)) ((fun zi=>TStay.cells ((rwalk.f_stays.take ((i).toNat)).getD zi TStay.d)) zi) from (fun zq hzq=>upE (Eq.symm (get_tk TStay.cells TStay.d rwalk.f_stays ((i).toNat) zq hzq)))) pn))))))))) ?_
     exact Runs.nW hE 1 [] (kp [1,2,3,6,8,45,46,47,61,62,63]) (kq [0,1,2] ++ [(5,.keep 986),(6,.keep 987)] ++ kq [7,8,9]) 10 pn (g_berth_search_walk_J4_ok N _ _ _ _ _ _ _ _ _ _ _ hR_ ih hK_g_berth_search_walk_L1 _ _ _ _ _ _ _ _ _ h E hE)
  ·exact Runs.nW hE 2 [] (kp [1,2,3,6,45,46,47]) (kq [0,1,2,5,6,7,8]) 9 pn (g_berth_search_walk_J3_ok N _ _ _ _ _ _ _ _ _ _ _ _ _ _ _ _ _ hR_ hK_g_berth_search_walk_L1 _ h E hE)
theorem g_berth_search_walk_L1_ok (N:Nat) (i:Int) (sum:Int) (cap0:List TDock) (cap02:List TCall) (cap1:List (List (List Int))) (cap2:List Int) (R_:Int→Int→(List TDock)→(List TCall)→(List TMark)→Int→Bool→Int→(List (List (List Int)))→(List Int)→(List TStay)→(List TStay)→Option (Tberth_search))
  (hR_:∀ (i:Int) (sum:Int) (cap0:List TDock) (cap02:List TCall) (cap03:List TMark) (cap04:Int) (cap0f:Bool) (cap05:Int) (cap1:List (List (List Int))) (cap2:List Int) (cap3:List TStay) (cap4:List TStay) (r:Tberth_search),R_ i sum cap0 cap02 cap03 cap04 cap0f cap05 cap1 cap2 cap3 cap4=some r→Sound Try.prog 46 [(.op 0 0 0),(aI i),(aI sum)] [(0,vN 9 [(encL TDock.cells TDock.d cap0),(encL TCall.cells TCall.d cap02),(encL TMark.cells TMark.d cap03),(aI cap04),(.os 1 0 cap1.length),(.os 2 0 cap2.length),(.os 3 0 cap3.length),(.nq (nqF cap0f) (.os 4 0 cap4.length)),(aI cap05)]),(1,aO 1 (fun x=>[encL (fun x=>[encL cI 0 x]) [] x]) [] cap1),(2,aO 1 cI 0 cap2),(3,aO 3 TStay.cells TStay.d cap3),(4,aO 3 TStay.cells TStay.d cap4)] 5 (.tup []) [(0,vN 9 [(encL TDock.cells TDock.d r.f_y.f_Docks),(encL TCall.cells TCall.d r.f_y.f_Calls),(encL TMark.cells TMark.d r.f_y.f_Sea),(aI r.f_y.f_Last),(.os 1 0 cap1.length),(.os 2 0 cap2.length),(.os 5 0 r.f_stays.length),(.nq (nqF r.f_best.1) (.os 6 0 r.f_best.2.length)),(aI r.f_cost)]),(1,aO 1 (fun x=>[encL (fun x=>[encL cI 0 x]) [] x]) [] cap1),(2,aO 1 cI 0 cap2),(5,aO 3 TStay.cells TStay.d r.f_stays),(6,aO 3 TStay.cells TStay.d r.f_best.2)]) (fuel:Nat):g_berth_search_walk_L1_H N i sum cap0 cap02 cap1 cap2 (g_berth_search_walk_L1 N i sum cap0 cap02 cap1 cap2 R_ fuel):=by
 induction fuel with
 | zero=>intro _ _ _ _ _ _ _ _ _ r h;rw [g_berth_search_walk_L1.eq_1] at h;cases h
 | succ fuel ih =>
  intro cap06 cap07 cap08 cap09 cap010 cap011 cap012 cap013 x r h E hE
  rw [g_berth_search_walk_L1.eq_2] at h
  refine Runs.nR hE 1 [] [] (kp [1,2,3,6,45,46,47,48]) (kq [0,1,2,5,6,7,8]) 25 pn ?_
  refine Runs.nC 1 48 h (fun hq3 h=>?_) (fun hq3 h=>?_)
  ·obtain ⟨c2,h⟩:=ifSome h
   refine Runs.nR hE 4 [] [] (kp [1,2,3,6,7,8,45,46,47]) (kq [0,1,2,5,6,7,8,73]) 121 (pc c2 (pc o1 pn)) ?_
   obtain ⟨c3,h⟩:=ifSome h
   obtain ⟨c4,h⟩:=ifSome h
   refine Runs.nR hE 1 [] [] (kp [1,2,3,6,8,45,46,47,61,62,63]) (kq [0,1,2,5,6,7,8,73]) 313 (pc o1 (pc o1 (pc c3 (pc (ltOf c3) (pc c4 pn))))) ?_
   exact Runs.nW hE 2 [] (kp [1,2,3,6,8,45,46,47,61,62,63]) (kq [0,1,2,5,6,7,8] ++ [(9,.keep 73)]) 10 pn (g_berth_search_walk_L2_ok N _ _ _ _ _ _ _ _ _ hR_ ih N _ _ _ _ _ _ _ _ _ _ h E hE)
  ·obtain rfl:=Option.some.inj h
   exact Runs.nF hE 2 Try.f46 [] [] (kq [0,1,2,5,6]) 53 pn [] pn
theorem g_berth_search_walk_ok (N:Nat) (fuel:Nat):∀ (i:Int) (sum:Int) (cap0:List TDock) (cap02:List TCall) (cap03:List TMark) (cap04:Int) (cap0f:Bool) (cap05:Int) (cap1:List (List (List Int))) (cap2:List Int) (cap3:List TStay) (cap4:List TStay) (r:Tberth_search),g_berth_search_walk N fuel i sum cap0 cap02 cap03 cap04 cap0f cap05 cap1 cap2 cap3 cap4=some r→Sound Try.prog 46 [(.op 0 0 0),(aI i),(aI sum)] [(0,vN 9 [(encL TDock.cells TDock.d cap0),(encL TCall.cells TCall.d cap02),(encL TMark.cells TMark.d cap03),(aI cap04),(.os 1 0 cap1.length),(.os 2 0 cap2.length),(.os 3 0 cap3.length),(.nq (nqF cap0f) (.os 4 0 cap4.length)),(aI cap05)]),(1,aO 1 (fun x=>[encL (fun x=>[encL cI 0 x]) [] x]) [] cap1),(2,aO 1 cI 0 cap2),(3,aO 3 TStay.cells TStay.d cap3),(4,aO 3 TStay.cells TStay.d cap4)] 5 (.tup []) [(0,vN 9 [(encL TDock.cells TDock.d r.f_y.f_Docks),(encL TCall.cells TCall.d r.f_y.f_Calls),(encL TMark.cells TMark.d r.f_y.f_Sea),(aI r.f_y.f_Last),(.os 1 0 cap1.length),(.os 2 0 cap2.length),(.os 5 0 r.f_stays.length),(.nq (nqF r.f_best.1) (.os 6 0 r.f_best.2.length)),(aI r.f_cost)]),(1,aO 1 (fun x=>[encL (fun x=>[encL cI 0 x]) [] x]) [] cap1),(2,aO 1 cI 0 cap2),(5,aO 3 TStay.cells TStay.d r.f_stays),(6,aO 3 TStay.cells TStay.d r.f_best.2)]:=by
 induction fuel with
 | zero=>intro _ _ _ _ _ _ _ _ _ _ _ _ r h;rw [g_berth_search_walk.eq_1] at h;cases h
 | succ fuel ih =>
  intro i sum cap0 cap02 cap03 cap04 cap0f cap05 cap1 cap2 cap3 cap4 r h
  rw [g_berth_search_walk.eq_2] at h
  refine Sound.of_runs (fu:=Try.f46) (c:=C_84 1) (nt:=132) (by kernel_rfl) (by kernel_rfl) (by kernel_rfl) (by kernel_rfl) (fun hm=>absurd hm (by decide)) ?_
  intro E hE
  refine Runs.nR hE 1 [] [] (kp [1,2,3]) (kq [0,1,2,3,4,5]) 21 pn ?_
  refine Runs.nR hE 3 [] [] (kp [1,2,3,20]) (kq [0,1,2,3,4,5]) 149 (pc o1 (pc o1 pn)) ?_
  refine Runs.nC 0 20 h (fun hq2 h=>?_) (fun hq2 h=>?_)
  ·obtain ⟨rStay,hr,h⟩:=bindSome h
   refine Runs.nR hE 1 [(6,⟨[],false,(.os 0 0 rStay.length),[(0,aO 3 TStay.cells TStay.d rStay)],0,false,none⟩)] [] [] (kq [0,1,2,3,245]) 373 (pc o1 (pc o1 (pc o1 (pc o1 (pc (g_slices_Clone_api_Stay_api_Stay_ok N cap3 rStay hr) (pc (show ∀ zi,zi < rStay.length→AV.flatL (TStay.cells (rStay.getD zi TStay.d))=true from (fun _ _=>rfl)) (pc (z1 cap3.length) (pc o1 (pc o1 pn))))))))) ?_
   obtain rfl:=Option.some.inj h
   exact Runs.nT hE 0 Try.f46 [] [] ([(0,.var 0 [.keep,.keep,.keep,.keep,.keep,.keep,.keep,.nq (nqF true) .keep,.keep])] ++ kq [1,2] ++ [(5,.keep 3),(6,.keep 245)]) 373 (pc (show nqF true=none from (nqT)) pn) [] pn
  ·obtain ⟨c,h⟩:=ifSome h
   refine Runs.nR hE 2 [] [] (kp [1,2,3,6]) (kq [0,1,2,3,4,5,277]) 309 (pc o1 (pc o1 (pc c (pc o1 pn)))) ?_
   refine Runs.nR hE 3 [] [] (kp [1,2,3,6,45,46,47]) (kq [0,1,2,3,4,5,277]) 421 (pc o1 (pc o1 pn)) ?_
   exact Runs.nW hE 2 [] (kp [1,2,3,6,45,46,47]) (kq [0,1,2] ++ [(5,.keep 3),(6,.keep 4),(7,.keep 5),(8,.keep 277)]) 9 pn (g_berth_search_walk_L1_ok N _ _ _ _ _ _ _ ih N _ _ _ _ _ _ _ _ _ _ h E hE)
noncomputable def C_43 (n:Nat):Code:=cat (bodyOf Try.f17) (pth n)
def g_berth_Best_L1_H (N:Nat) (y:TYard) (K:(List (List (List Int)))→Int→Option ((List TStay)×Int×Int)):Prop:=∀ (s:List (List (List Int))) (x:Int) (r:(List TStay)×Int×Int),K s x=some r→∀ E,EnvOk E 0→Runs Try.prog E 17 165 (SPost E [] (.tup [(encL TStay.cells TStay.d r.1),(aI r.2.1),(aI r.2.2)])) [.code (C_43 500),.inLoop (C_43 500),.inBlock 0,.code (C_43 63)] ⟨[(1,(.op 0 0 0)),(6,(.op 1 0 0)),(40,(encL TCall.cells TCall.d y.f_Calls)),(41,(aI ((y.f_Calls.length:Nat):Int))),(42,(aI x))],[(0,vO 4 (TYard.cells y)),(1,vN 9 [(encL TDock.cells TDock.d y.f_Docks),(encL TCall.cells TCall.d y.f_Calls),(encL TMark.cells TMark.d y.f_Sea),(aI y.f_Last),(.os 2 0 s.length),(.os 3 0 ((List.replicate ((w64 (((y.f_Calls.length:Nat):Int)+1)).toNat) 0:List Int).length)),.nil,.nil,(aI 0)]),(2,aO 1 (fun x=>[encL (fun x=>[encL cI 0 x]) [] x]) [] s),(3,aO 1 cI 0 (List.replicate ((w64 (((y.f_Calls.length:Nat):Int)+1)).toNat) 0:List Int))],4⟩
def g_berth_Best_L2_H (N:Nat) (y:TYard) (s:List (List (List Int))) (x:Int) (K:(List (List Int))→Int→Option ((List TStay)×Int×Int)):Prop:=∀ (row:List (List Int)) (x2:Int) (r:(List TStay)×Int×Int),K row x2=some r→∀ E,EnvOk E 0→Runs Try.prog E 17 165 (SPost E [] (.tup [(encL TStay.cells TStay.d r.1),(aI r.2.1),(aI r.2.2)])) [.code (C_43 512820),.inLoop (C_43 512820),.inBlock 2,.code (C_43 64103),.inBlock 1,.code (C_43 4007),.inLoop (C_43 500),.inBlock 0,.code (C_43 63)] ⟨[(1,(.op 0 0 0)),(6,(.op 1 0 0)),(8,(.op 4 0 0)),(9,(.os 5 0 row.length)),(40,(encL TCall.cells TCall.d y.f_Calls)),(41,(aI ((y.f_Calls.length:Nat):Int))),(42,(aI x)),(47,(encL TDock.cells TDock.d y.f_Docks)),(48,(aI ((y.f_Docks.length:Nat):Int))),(49,(aI x2))],[(0,vO 4 (TYard.cells y)),(1,vN 9 [(encL TDock.cells TDock.d y.f_Docks),(encL TCall.cells TCall.d y.f_Calls),(encL TMark.cells TMark.d y.f_Sea),(aI y.f_Last),(.os 2 0 s.length),(.os 3 0 ((List.replicate ((w64 (((y.f_Calls.length:Nat):Int)+1)).toNat) 0:List Int).length)),.nil,.nil,(aI 0)]),(2,aO 1 (fun x=>[encL (fun x=>[encL cI 0 x]) [] x]) [] s),(3,aO 1 cI 0 (List.replicate ((w64 (((y.f_Calls.length:Nat):Int)+1)).toNat) 0:List Int)),(4,vO 9 (TCall.cells (y.f_Calls.getD ((x).toNat) TCall.d))),(5,aO 1 (fun x=>[encL cI 0 x]) [] row)],6⟩
theorem g_berth_Best_L2_ok (N:Nat) (y:TYard) (s:List (List (List Int))) (x:Int) (K_g_berth_Best_L1:(List (List (List Int)))→Int→Option ((List TStay)×Int×Int)) (hK_g_berth_Best_L1:g_berth_Best_L1_H N y K_g_berth_Best_L1) (fuel:Nat):g_berth_Best_L2_H N y s x (g_berth_Best_L2 N y s x K_g_berth_Best_L1 fuel):=by
 induction fuel with
 | zero=>intro _ _ r h;rw [g_berth_Best_L2.eq_1] at h;cases h
 | succ fuel ih =>
  intro row x2 r h E hE
  rw [g_berth_Best_L2.eq_2] at h
  refine Runs.nR hE 1 [] [] (kp [1,6,8,9,40,41,42,47,48,49,50]) (kq [0,1,2,3,4,5]) 22 pn ?_
  refine Runs.nC 1 50 h (fun hq5 h=>?_) (fun hq5 h=>?_)
  ·obtain ⟨c3,h⟩:=ifSome h
   refine Runs.nR hE 4 [] [] (kp [1,6,8,9,11,40,41,42,47,48,49]) (kq [0,1,2,3,4,5,54]) 86 (pc c3 (pc o1 pn)) ?_
   obtain ⟨rpossible,hr2,h⟩:=bindSome h
   obtain ⟨c4,h⟩:=ifSome h
   refine Runs.nR hE 0 [(4,⟨[],true,(encL cI 0 rpossible),[],0,false,none⟩)] [] (kp [1,6,8] ++ [(9,.osl ((row ++ ([rpossible]:List (List Int))).length))] ++ kp [40,41,42,47,48,49]) (kq [0,1,2,3,4] ++ [(182,.arr 182 ((row ++ ([rpossible]:List (List Int))).length) (fun zi=>(fun x=>[encL cI 0 x]) ((row ++ ([rpossible]:List (List Int))).getD zi [])))]) 214 (pc o1 (pc o1 (pc o1 (pc (g_berth_possible_ok N y (y.f_Calls.getD ((x).toNat) TCall.d) (y.f_Docks.getD ((x2).toNat) TDock.d) rpossible hr2) (pc (Eq.refl row.length) (pc c4 (pc (z1 1) (pc (show ∀ zi,zi < 1→AV.oneL ((fun zi=>([[(encL cI 0 rpossible)]]:List (List AV)).getD zi []) (addz 0 zi))=true from (oneN rfl)) (pc (show (row.length+1)=(row ++ ([rpossible]:List (List Int))).length from (len_app_raw rfl rfl)) (pc (show row.length+1=(row ++ ([rpossible]:List (List Int))).length from (len_app_raw rfl rfl)) (pc (show ∀ zi,zi < (row ++ ([rpossible]:List (List Int))).length→(fun zi=>(fun x=>[encL cI 0 x]) ((row ++ ([rpossible]:List (List Int))).getD zi [])) zi=((fun zm=>if zm < row.length then (fun zi=>(fun x=>[encL cI 0 x]) (row.getD zi [])) zm else (fun zi=>([[(encL cI 0 rpossible)]]:List (List AV)).getD zi []) (zm - row.length))) zi from (get_app_raw (fun x=>[encL cI 0 x]) [] row ([rpossible]:List (List Int)) rfl (fun _ _=>rfl) (fun zq hzq=>get_chunk (fun x=>[encL cI 0 x]) [] ([rpossible]:List (List Int)) zq hzq))) pn))))))))))) ?_
   refine Runs.nR hE 1 [] [] (kp [1,6,8,9,40,41,42,47,48,49]) (kq [0,1,2,3,4,182]) 246 pn ?_
   exact Runs.nW hE 1 [] (kp [1,6,8,9,40,41,42,47,48,49]) (kq [0,1,2,3,4] ++ [(5,.keep 182)]) 6 pn (ih _ _ _ h E hE)
  ·obtain ⟨c5,h⟩:=ifSome h
   refine Runs.nR hE 1 [(6,⟨[],true,.unk,[(5,aO 1 (fun x=>[encL cI 0 x]) [] row)],0,true,none⟩)] [] (kp [1,6,40,41,42]) (kq [0] ++ [(1,.var 1 [.keep,.keep,.keep,.keep,.osl ((s ++ ([row]:List (List (List Int)))).length),.keep,.keep,.keep,.keep])] ++ kq [3] ++ [(134,.arr 134 ((s ++ ([row]:List (List (List Int)))).length) (fun zi=>(fun x=>[encL (fun x=>[encL cI 0 x]) [] x]) ((s ++ ([row]:List (List (List Int)))).getD zi [])))]) 198 (pc o1 (pc (show row.length≤row.length from (Nat.le_refl _)) (pc (show ∀ zi,zi < row.length→(fun zi=>(fun x=>[encL cI 0 x]) (row.getD zi [])) zi=(fun zi=>(fun x=>[encL cI 0 x]) (row.getD zi [])) zi from (fun _ _=>rfl)) (pc (Eq.refl row.length) (pc (Eq.refl s.length) (pc c5 (pc (z1 1) (pc (show ∀ zi,zi < 1→AV.oneL ((fun zi=>([[(encL (fun x=>[encL cI 0 x]) [] row)]]:List (List AV)).getD zi []) (addz 0 zi))=true from (oneN rfl)) (pc o1 (pc (show (s.length+1)=(s ++ ([row]:List (List (List Int)))).length from (len_app_raw rfl rfl)) (pc (show s.length+1=(s ++ ([row]:List (List (List Int)))).length from (len_app_raw rfl rfl)) (pc (show ∀ zi,zi < (s ++ ([row]:List (List (List Int)))).length→(fun zi=>(fun x=>[encL (fun x=>[encL cI 0 x]) [] x]) ((s ++ ([row]:List (List (List Int)))).getD zi [])) zi=((fun zm=>if zm < s.length then (fun zi=>(fun x=>[encL (fun x=>[encL cI 0 x]) [] x]) (s.getD zi [])) zm else (fun zi=>([[(encL (fun x=>[encL cI 0 x]) [] row)]]:List (List AV)).getD zi []) (zm - s.length))) zi from (get_app_raw (fun x=>[encL (fun x=>[encL cI 0 x]) [] x]) [] s ([row]:List (List (List Int))) rfl (fun _ _=>rfl) (fun zq hzq=>get_chunk (fun x=>[encL (fun x=>[encL cI 0 x]) [] x]) [] ([row]:List (List (List Int))) zq hzq))) pn)))))))))))) ?_
   refine Runs.nR hE 1 [] [] (kp [1,6,40,41,42]) (kq [0,1,3,134]) 230 pn ?_
   exact Runs.nW hE 1 [] (kp [1,6,40,41,42]) (kq [0,1] ++ [(2,.keep 134)] ++ kq [3]) 4 pn (hK_g_berth_Best_L1 _ _ _ h E hE)
def g_berth_Best_L3_H (N:Nat) (y:TYard) (s:List (List (List Int))) (x:Int) (K:(List Int)→Int→Option ((List TStay)×Int×Int)):Prop:=∀ (s2:List Int) (i:Int) (r:(List TStay)×Int×Int),K s2 i=some r→∀ E,EnvOk E 0→Runs Try.prog E 17 165 (SPost E [] (.tup [(encL TStay.cells TStay.d r.1),(aI r.2.1),(aI r.2.2)])) [.code (C_43 1012),.inLoop (C_43 1012),.inBlock 4,.code (C_43 127)] ⟨[(1,(.op 0 0 0)),(6,(.op 1 0 0)),(12,(aI i))],[(0,vO 4 (TYard.cells y)),(1,vN 9 [(encL TDock.cells TDock.d y.f_Docks),(encL TCall.cells TCall.d y.f_Calls),(encL TMark.cells TMark.d y.f_Sea),(aI y.f_Last),(.os 2 0 s.length),(.os 3 0 s2.length),.nil,.nil,(aI 0)]),(2,aO 1 (fun x=>[encL (fun x=>[encL cI 0 x]) [] x]) [] s),(3,aO 1 cI 0 s2)],4⟩
def g_berth_Best_L4_H (N:Nat) (y:TYard) (s:List (List (List Int))) (x:Int) (s2:List Int) (i:Int) (K:Int→Bool→Int→Option ((List TStay)×Int×Int)):Prop:=∀ (least:Int) (any:Bool) (x3:Int) (r:(List TStay)×Int×Int),K least any x3=some r→∀ E,EnvOk E 0→Runs Try.prog E 17 165 (SPost E [] (.tup [(encL TStay.cells TStay.d r.1),(aI r.2.1),(aI r.2.2)])) [.code (C_43 259220),.inLoop (C_43 259220),.inBlock 6,.code (C_43 32403),.inBlock 5,.code (C_43 4051),.inLoop (C_43 1012),.inBlock 4,.code (C_43 127)] ⟨[(1,(.op 0 0 0)),(6,(.op 1 0 0)),(12,(aI i)),(13,(aI least)),(14,(aB any)),(86,(encL (fun x=>[encL cI 0 x]) [] (s.getD ((i).toNat) []))),(87,(aI (((s.getD ((i).toNat) []).length:Nat):Int))),(88,(aI x3))],[(0,vO 4 (TYard.cells y)),(1,vN 9 [(encL TDock.cells TDock.d y.f_Docks),(encL TCall.cells TCall.d y.f_Calls),(encL TMark.cells TMark.d y.f_Sea),(aI y.f_Last),(.os 2 0 s.length),(.os 3 0 s2.length),.nil,.nil,(aI 0)]),(2,aO 1 (fun x=>[encL (fun x=>[encL cI 0 x]) [] x]) [] s),(3,aO 1 cI 0 s2)],4⟩
def g_berth_Best_J5_H (N:Nat) (y:TYard) (s:List (List (List Int))) (x:Int) (s2:List Int) (i:Int) (x3:Int) (K:Int→Bool→Option ((List TStay)×Int×Int)):Prop:=∀ (least2:Int) (any2:Bool) (r:(List TStay)×Int×Int),K least2 any2=some r→∀ E,EnvOk E 0→Runs Try.prog E 17 165 (SPost E [] (.tup [(encL TStay.cells TStay.d r.1),(aI r.2.1),(aI r.2.2)])) [.code (C_43 2073767),.inLoop (C_43 259220),.inBlock 6,.code (C_43 32403),.inBlock 5,.code (C_43 4051),.inLoop (C_43 1012),.inBlock 4,.code (C_43 127)] ⟨[(1,(.op 0 0 0)),(6,(.op 1 0 0)),(12,(aI i)),(13,(aI least2)),(14,(aB any2)),(86,(encL (fun x=>[encL cI 0 x]) [] (s.getD ((i).toNat) []))),(87,(aI (((s.getD ((i).toNat) []).length:Nat):Int))),(88,(aI x3))],[(0,vO 4 (TYard.cells y)),(1,vN 9 [(encL TDock.cells TDock.d y.f_Docks),(encL TCall.cells TCall.d y.f_Calls),(encL TMark.cells TMark.d y.f_Sea),(aI y.f_Last),(.os 2 0 s.length),(.os 3 0 s2.length),.nil,.nil,(aI 0)]),(2,aO 1 (fun x=>[encL (fun x=>[encL cI 0 x]) [] x]) [] s),(3,aO 1 cI 0 s2)],4⟩
theorem g_berth_Best_J5_ok (N:Nat) (y:TYard) (s:List (List (List Int))) (x:Int) (s2:List Int) (i:Int) (x3:Int) (K_g_berth_Best_L4:Int→Bool→Int→Option ((List TStay)×Int×Int)) (K_g_berth_Best_L3:(List Int)→Int→Option ((List TStay)×Int×Int)) (hK_g_berth_Best_L4:g_berth_Best_L4_H N y s x s2 i K_g_berth_Best_L4) (hK_g_berth_Best_L3:g_berth_Best_L3_H N y s x K_g_berth_Best_L3):g_berth_Best_J5_H N y s x s2 i x3 (g_berth_Best_J5 N y s x s2 i x3 K_g_berth_Best_L4 K_g_berth_Best_L3):=by
 intro least2 any2 r h E hE
 unfold g_berth_Best_J5 at h
 refine Runs.nR hE 0 [] [] (kp [1,6,12,13,14,86,87,88]) (kq [0,1,2,3]) 36 pn ?_
 exact Runs.nW hE 1 [] (kp [1,6,12,13,14,86,87,88]) (kq [0,1,2,3]) 4 pn (hK_g_berth_Best_L4 _ _ _ _ h E hE)
theorem g_berth_Best_L4_ok (N:Nat) (y:TYard) (s:List (List (List Int))) (x:Int) (s2:List Int) (i:Int) (K_g_berth_Best_L3:(List Int)→Int→Option ((List TStay)×Int×Int)) (hK_g_berth_Best_L3:g_berth_Best_L3_H N y s x K_g_berth_Best_L3) (fuel:Nat):g_berth_Best_L4_H N y s x s2 i (g_berth_Best_L4 N y s x s2 i K_g_berth_Best_L3 fuel):=by
 induction fuel with
 | zero=>intro _ _ _ r h;rw [g_berth_Best_L4.eq_1] at h;cases h
 | succ fuel ih =>
  intro least any x3 r h E hE
  rw [g_berth_Best_L4.eq_2] at h
  refine Runs.nR hE 1 [] [] (kp [1,6,12,13,14,86,87,88,89]) (kq [0,1,2,3]) 20 pn ?_
  refine Runs.nC 1 89 h (fun hq7 h=>?_) (fun hq7 h=>?_)
  ·obtain ⟨c7,h⟩:=ifSome h
   refine Runs.nR hE 4 [] [] (kp [1,6,12,13,14,16,86,87,88]) (kq [0,1,2,3]) 68 (pc c7 pn) ?_
   obtain ⟨c8,h⟩:=ifSome h
   obtain ⟨c9,h⟩:=ifSome h
   obtain ⟨rlate,hr3,h⟩:=bindSome h
   refine Runs.nR hE 1 [(15,⟨[],true,(aI rlate),[],0,false,none⟩)] [] (kp [1,6,12,13,14,16,86,87,88,111]) (kq [0,1,2,3]) 388 (pc (fun hg:(decide (((((s.getD ((i).toNat) []).getD ((x3).toNat) []).length:Nat):Int) > 0))=true=>(pc hg pn)) (pc (fun hg:((decide (((((s.getD ((i).toNat) []).getD ((x3).toNat) []).length:Nat):Int) > 0)) && ((decide (((((s.getD ((i).toNat) []).getD ((x3).toNat) []).length:Nat):Int) > 0)) && (!(!any))))=true=>(pc hg (pc o1 pn))) (pc (fun hg:((decide (((((s.getD ((i).toNat) []).getD ((x3).toNat) []).length:Nat):Int) > 0)) && ((decide (((((s.getD ((i).toNat) []).getD ((x3).toNat) []).length:Nat):Int) > 0)) && (!(!any))))=true=>(pc hg (pc hg (pc (c8 hg) pn)))) (pc (fun hg:((decide (((((s.getD ((i).toNat) []).getD ((x3).toNat) []).length:Nat):Int) > 0)) && ((decide (((((s.getD ((i).toNat) []).getD ((x3).toNat) []).length:Nat):Int) > 0)) && (!(!any))))=true=>(pc hg pn)) (pc (fun hg:((decide (((((s.getD ((i).toNat) []).getD ((x3).toNat) []).length:Nat):Int) > 0)) && ((decide (((((s.getD ((i).toNat) []).getD ((x3).toNat) []).length:Nat):Int) > 0)) && (!(!any))))=true=>(pc hg (pc (c9 hg) pn))) (pc (fun hg:((decide (((((s.getD ((i).toNat) []).getD ((x3).toNat) []).length:Nat):Int) > 0)) && ((decide (((((s.getD ((i).toNat) []).getD ((x3).toNat) []).length:Nat):Int) > 0)) && (!(!any))))=true=>(pc hg pn)) (pc (fun hg:((decide (((((s.getD ((i).toNat) []).getD ((x3).toNat) []).length:Nat):Int) > 0)) && ((decide (((((s.getD ((i).toNat) []).getD ((x3).toNat) []).length:Nat):Int) > 0)) && (!(!any))))=true=>(pc (g_berth_late_ok N (y.f_Calls.getD ((i).toNat) TCall.d) (((s.getD ((i).toNat) []).getD ((x3).toNat) []).getD 0 0) rlate (condT hr3 hg)) (pc hg (pc hg pn)))) (pc (fun hg:((decide (((((s.getD ((i).toNat) []).getD ((x3).toNat) []).length:Nat):Int) > 0)) && ((decide (((((s.getD ((i).toNat) []).getD ((x3).toNat) []).length:Nat):Int) > 0)) && (!(!any))))=true=>(pc hg (pc hg pn))) (pc (fun hg:(decide (((((s.getD ((i).toNat) []).getD ((x3).toNat) []).length:Nat):Int) > 0))=true=>(pc hg (pc hg (pc (fun hq:(!(!any))=true=>(pc (show ((decide (((((s.getD ((i).toNat) []).getD ((x3).toNat) []).length:Nat):Int) > 0)) && ((decide (((((s.getD ((i).toNat) []).getD ((x3).toNat) []).length:Nat):Int) > 0)) && (!(!any))))=true from (andI' hg (andI' hg hq))) pn)) pn)))) (pc (fun hq:(decide (((((s.getD ((i).toNat) []).getD ((x3).toNat) []).length:Nat):Int) > 0))=true=>(pc hq pn)) pn)))))))))) ?_
   refine Runs.nC 0 111 h (fun hq8 h=>?_) (fun hq8 h=>?_)
   ·obtain ⟨c10,h⟩:=ifSome h
    obtain ⟨c11,h⟩:=ifSome h
    obtain ⟨rlate2,hr4,h⟩:=bindSome h
    refine Runs.nR hE 0 [(8,⟨[],true,(aI rlate2),[],0,false,none⟩)] [] (kp [1,6,12,13,14,86,87,88]) (kq [0,1,2,3]) 564 (pc o1 (pc c10 (pc c11 (pc (g_berth_late_ok N (y.f_Calls.getD ((i).toNat) TCall.d) (((s.getD ((i).toNat) []).getD ((x3).toNat) []).getD 0 0) rlate2 hr4) pn)))) ?_
    exact Runs.nW hE 1 [] (kp [1,6,12,13,14,86,87,88]) (kq [0,1,2,3]) 4 pn (g_berth_Best_J5_ok N _ _ _ _ _ _ _ _ ih hK_g_berth_Best_L3 _ _ _ h E hE)
   ·exact Runs.nW hE 2 [] (kp [1,6,12,13,14,86,87,88]) (kq [0,1,2,3]) 4 pn (g_berth_Best_J5_ok N _ _ _ _ _ _ _ _ ih hK_g_berth_Best_L3 _ _ _ h E hE)
  ·refine Runs.nR hE 3 [] [] (kp [1,6,12,13,123]) (kq [0,1,2,3]) 52 pn ?_
   refine Runs.nC 0 123 h (fun hq9 h=>?_) (fun hq9 h=>?_)
   ·refine Runs.nR hE 1 [] [] (kp [2,3,4]) [] 100 pn ?_
    obtain rfl:=Option.some.inj h
    exact Runs.nT hE 0 Try.f17 [] ([(2,.sl (([]:List TStay).length) (fun zi=>TStay.cells (([]:List TStay).getD zi TStay.d)))] ++ kp [3,4]) [] 100 (pc (Eq.refl 0) pn) [] pn
   ·obtain ⟨c12,h⟩:=ifSome h
    obtain ⟨c13,h⟩:=ifSome h
    refine Runs.nR hE 1 [] [] (kp [1,6,12]) (kq [0] ++ [(1,.var 1 [.keep,.keep,.keep,.keep,.keep,.osl ((s2.set ((i).toNat) (w64 ((s2.getD ((w64 (i+1)).toNat) 0)+least))).length),.keep,.keep,.keep])] ++ kq [2] ++ [(3,.arr 3 ((s2.set ((i).toNat) (w64 ((s2.getD ((w64 (i+1)).toNat) 0)+least))).length) (fun zi=>cI ((s2.set ((i).toNat) (w64 ((s2.getD ((w64 (i+1)).toNat) 0)+least))).getD zi 0)))]) 324 (pc o1 (pc o1 (pc c12 (pc (ltOf c12) (pc c13 (pc (ltOf c13) (pc (len_set0 s2 ((i).toNat) (w64 ((s2.getD ((w64 (i+1)).toNat) 0)+least))) (pc (len_set0 s2 ((i).toNat) (w64 ((s2.getD ((w64 (i+1)).toNat) 0)+least))) (pc (get_set0 cI 0 s2 ((i).toNat) (w64 ((s2.getD ((w64 (i+1)).toNat) 0)+least))) pn))))))))) ?_
    refine Runs.nR hE 1 [] [] (kp [1,6,12]) (kq [0,1,2,3]) 372 pn ?_
    exact Runs.nW hE 1 [] (kp [1,6,12]) (kq [0,1,2,3]) 4 pn (hK_g_berth_Best_L3 _ _ _ h E hE)
theorem g_berth_Best_L3_ok (N:Nat) (y:TYard) (s:List (List (List Int))) (x:Int) (fuel:Nat):g_berth_Best_L3_H N y s x (g_berth_Best_L3 N y s x fuel):=by
 induction fuel with
 | zero=>intro _ _ r h;rw [g_berth_Best_L3.eq_1] at h;cases h
 | succ fuel ih =>
  intro s2 i r h E hE
  rw [g_berth_Best_L3.eq_2] at h
  refine Runs.nR hE 2 [] [] (kp [1,6,12,77]) (kq [0,1,2,3]) 36 pn ?_
  refine Runs.nC 0 77 h (fun hq6 h=>?_) (fun hq6 h=>?_)
  ·refine Runs.nR hE 4 [] [] (kp [1,6,12,13,14]) (kq [0,1,2,3]) 68 pn ?_
   obtain ⟨c6,h⟩:=ifSome h
   refine Runs.nR hE 2 [] [] (kp [1,6,12,13,14,86,87,88]) (kq [0,1,2,3]) 212 (pc o1 (pc c6 (pc (ltOf c6) pn))) ?_
   exact Runs.nW hE 2 [] (kp [1,6,12,13,14,86,87,88]) (kq [0,1,2,3]) 4 pn (g_berth_Best_L4_ok N _ _ _ _ _ _ ih N _ _ _ _ h E hE)
  ·refine Runs.nR hE 2 [] [] (kp [1,6]) (kq [0] ++ [(1,.var 1 [.keep,.keep,.keep,.keep,.keep,.keep,.osl (([]:List TStay).length),.keep,.keep])] ++ kq [2,3] ++ [(52,.arr 52 (([]:List TStay).length) (fun zi=>TStay.cells (([]:List TStay).getD zi TStay.d)))]) 116 (pc o1 (pc (Eq.refl 0) (pc (Eq.refl 0) (pc (show ∀ zi,zi < ([]:List TStay).length→(fun zi=>TStay.cells (([]:List TStay).getD zi TStay.d)) zi=(fun _=>[]) zi from (fun zq hzq=>absurd hzq (Nat.not_lt_zero _))) pn)))) ?_
   refine Runs.nX hE [] (kp [1,6]) (kq [0] ++ [(1,.var 1 [.keep,.keep,.keep,.keep,.keep,.keep,.keep,.nq (nqF false) (.nilos 116),.keep])] ++ kq [2,3,52] ++ [(116,.nil 3 (fun zi=>TStay.cells (([]:List TStay).getD zi TStay.d)))]) 132 (pc (show nqF false≠some false by decide) pn) ?_
   obtain ⟨rwalk,hr5,h⟩:=bindSome h
   refine Runs.nR hE 1 [(1,⟨[1,2,3,52,116],false,(.tup []),[(0,vN 9 [(encL TDock.cells TDock.d rwalk.f_y.f_Docks),(encL TCall.cells TCall.d rwalk.f_y.f_Calls),(encL TMark.cells TMark.d rwalk.f_y.f_Sea),(aI rwalk.f_y.f_Last),(.os 1 0 s.length),(.os 2 0 s2.length),(.os 5 0 rwalk.f_stays.length),(.nq (nqF rwalk.f_best.1) (.os 6 0 rwalk.f_best.2.length)),(aI rwalk.f_cost)]),(1,aO 1 (fun x=>[encL (fun x=>[encL cI 0 x]) [] x]) [] s),(2,aO 1 cI 0 s2),(5,aO 3 TStay.cells TStay.d rwalk.f_stays),(6,aO 3 TStay.cells TStay.d rwalk.f_best.2)],0,false,none⟩)] [] (kp [1,6]) (kq [0,1,2,3,148,149]) 164 (pc (g_berth_search_walk_ok N N 0 0 y.f_Docks y.f_Calls y.f_Sea y.f_Last false 0 s s2 ([]:List TStay) ([]:List TStay) rwalk hr5) pn) ?_
   rcases condSplit h with ⟨hN,h⟩ | ⟨hN,h⟩
   ·obtain ⟨hD,h⟩:=ifSome h
    refine Runs.sA 2 [.code (C_43 2044),.code (C_43 2045),.code (C_43 1023)] ?_
    refine Runs.splitNil 1 7 149 0 rwalk.f_best.2.length (vN 9 [(encL TDock.cells TDock.d rwalk.f_y.f_Docks),(encL TCall.cells TCall.d rwalk.f_y.f_Calls),(encL TMark.cells TMark.d rwalk.f_y.f_Sea),(aI rwalk.f_y.f_Last),(.os 2 0 s.length),(.os 3 0 s2.length),(.os 148 0 rwalk.f_stays.length),(.nq (nqF rwalk.f_best.1) (.os 149 0 rwalk.f_best.2.length)),(aI rwalk.f_cost)]) (nqF rwalk.f_best.1) (by kernel_rfl) (by kernel_rfl) (by kernel_rfl) (nq_n hN) ?_ ?_
    ·replace h:((cond (cond true (decide (((y.f_Calls.length:Nat):Int) > 0)) false) (some (([]:List TStay),0,29)) (some (rwalk.f_best.2,rwalk.f_cost,0))))=some r:=by rw [hD];exact h
     refine Runs.nR hE 0 [] [] (kp [6,156]) (kq [1,2,3,148,149]) 340 (pc o1 (pc (show (some true)=none→0 < rwalk.f_best.2.length from (fun hz=>by cases hz)) (pc (fun hg:true=true=>(pc hg (pc o1 pn))) (pc (fun hg:true=true=>(pc hg pn)) (pc (fun hg:true=true=>(pc hg pn)) (pc (fun hq:true=true=>(pc hq pn)) pn)))))) ?_
     refine Runs.nC 0 156 h (fun hq11 h=>?_) (fun hq11 h=>?_)
     ·refine Runs.nR hE 1 [] [] (kp [2,3,4]) [] 388 pn ?_
      obtain rfl:=Option.some.inj h
      exact Runs.nT hE 0 Try.f17 [] ([(2,.sl (([]:List TStay).length) (fun zi=>TStay.cells (([]:List TStay).getD zi TStay.d)))] ++ kp [3,4]) [] 388 (pc (Eq.refl 0) pn) [] pn
     ·refine Runs.nR hE 2 [] [] (kp [2,3,4]) (kq [149]) 516 (pc o1 (pc o1 pn)) ?_
      obtain rfl:=Option.some.inj h
      exact Runs.nT hE 0 Try.f17 [149] ([(2,.unq (.sl (rwalk.f_best.2.length) (fun zi=>TStay.cells (rwalk.f_best.2.getD zi TStay.d))))] ++ kp [3,4]) [] 516 (pc (Eq.refl rwalk.f_best.2.length) (pc (z1 rwalk.f_best.2.length) (pc (show ∀ zi,zi < rwalk.f_best.2.length→(fun zi=>TStay.cells (rwalk.f_best.2.getD zi TStay.d)) zi=(fun zi=>TStay.cells (rwalk.f_best.2.getD zi TStay.d)) (addz 0 zi) from (fun _ _=>rfl)) pn))) [] pn
    ·refine Runs.nR hE 0 [] [] (kp [6,156]) (kq [1,2,3,148,149]) 340 (pc o1 (pc (show (some false)=none→0 < rwalk.f_best.2.length from (fun hz=>by cases hz)) (pc (fun hg:false=true=>(pc hg (pc o1 pn))) (pc (fun hg:false=true=>(pc hg pn)) (pc (fun hg:false=true=>(pc hg pn)) (pc (fun hq:false=true=>(pc hq pn)) pn)))))) ?_
     refine Runs.nC 0 156 h (fun hq12 h=>?_) (fun hq12 h=>?_)
     ·refine Runs.nR hE 1 [] [] (kp [2,3,4]) [] 388 pn ?_
      obtain rfl:=Option.some.inj h
      exact Runs.nT hE 0 Try.f17 [] ([(2,.sl (([]:List TStay).length) (fun zi=>TStay.cells (([]:List TStay).getD zi TStay.d)))] ++ kp [3,4]) [] 388 (pc (Eq.refl 0) pn) [] pn
     ·refine Runs.nR hE 2 [] [] (kp [2,3,4]) (kq [149]) 516 (pc o1 (pc o1 pn)) ?_
      obtain rfl:=Option.some.inj h
      exact Runs.nT hE 0 Try.f17 [149] ([(2,.unq (.sl (rwalk.f_best.2.length) (fun zi=>TStay.cells (rwalk.f_best.2.getD zi TStay.d))))] ++ kp [3,4]) [] 516 (pc (Eq.refl rwalk.f_best.2.length) (pc (z1 rwalk.f_best.2.length) (pc (show ∀ zi,zi < rwalk.f_best.2.length→(fun zi=>TStay.cells (rwalk.f_best.2.getD zi TStay.d)) zi=(fun zi=>TStay.cells (rwalk.f_best.2.getD zi TStay.d)) (addz 0 zi) from (fun _ _=>rfl)) pn))) [] pn
   ·refine Runs.nR hE 2 [] [] (kp [6,156]) (kq [1,2,3,148,149]) 340 (pc o1 (pc (show nqF rwalk.f_best.1=none→0 < rwalk.f_best.2.length from (nq_ok hN)) (pc (fun hg:(nqB (nqF rwalk.f_best.1))=true=>(pc hg (pc o1 pn))) (pc (fun hg:(nqB (nqF rwalk.f_best.1))=true=>(pc hg pn)) (pc (fun hg:(nqB (nqF rwalk.f_best.1))=true=>(pc hg pn)) (pc (fun hq:(nqB (nqF rwalk.f_best.1))=true=>(pc hq pn)) pn)))))) ?_
    refine Runs.nC 0 156 h (fun hq10 h=>?_) (fun hq10 h=>?_)
    ·refine Runs.nR hE 1 [] [] (kp [2,3,4]) [] 388 pn ?_
     obtain rfl:=Option.some.inj h
     exact Runs.nT hE 0 Try.f17 [] ([(2,.sl (([]:List TStay).length) (fun zi=>TStay.cells (([]:List TStay).getD zi TStay.d)))] ++ kp [3,4]) [] 388 (pc (Eq.refl 0) pn) [] pn
    ·refine Runs.nR hE 2 [] [] (kp [2,3,4]) (kq [149]) 516 (pc o1 (pc o1 pn)) ?_
     obtain rfl:=Option.some.inj h
     exact Runs.nT hE 0 Try.f17 [149] ([(2,.unq (.sl (rwalk.f_best.2.length) (fun zi=>TStay.cells (rwalk.f_best.2.getD zi TStay.d))))] ++ kp [3,4]) [] 516 (pc (Eq.refl rwalk.f_best.2.length) (pc (z1 rwalk.f_best.2.length) (pc (show ∀ zi,zi < rwalk.f_best.2.length→(fun zi=>TStay.cells (rwalk.f_best.2.getD zi TStay.d)) zi=(fun zi=>TStay.cells (rwalk.f_best.2.getD zi TStay.d)) (addz 0 zi) from (fun _ _=>rfl)) pn))) [] pn
theorem g_berth_Best_L1_ok (N:Nat) (y:TYard) (fuel:Nat):g_berth_Best_L1_H N y (g_berth_Best_L1 N y fuel):=by
 induction fuel with
 | zero=>intro _ _ r h;rw [g_berth_Best_L1.eq_1] at h;cases h
 | succ fuel ih =>
  intro s x r h E hE
  rw [g_berth_Best_L1.eq_2] at h
  refine Runs.nR hE 1 [] [] (kp [1,6,40,41,42,43]) (kq [0,1,2,3]) 20 pn ?_
  refine Runs.nC 1 43 h (fun hq4 h=>?_) (fun hq4 h=>?_)
  ·obtain ⟨c2,h⟩:=ifSome h
   refine Runs.nR hE 4 [] [] (kp [1,6,8,40,41,42]) (kq [0,1,2,3,52]) 84 (pc c2 (pc o1 pn)) ?_
   refine Runs.nR hE 1 [] [] (kp [1,6,8,9,40,41,42]) (kq [0,1,2,3,52]) 100 pn ?_
   refine Runs.nR hE 2 [] [] (kp [1,6,8,9,40,41,42,47,48,49]) (kq [0,1,2,3,52]) 164 (pc o1 pn) ?_
   exact Runs.nW hE 2 [] (kp [1,6,8] ++ [(9,.nilos 5)] ++ kp [40,41,42,47,48,49]) (kq [0,1,2,3] ++ [(4,.keep 52),(5,.nil 1 (fun zi=>(fun x=>[encL cI 0 x]) (([]:List (List Int)).getD zi [])))]) 6 pn (g_berth_Best_L2_ok N _ _ _ _ ih N _ _ _ h E hE)
  ·refine Runs.nR hE 3 [] [] (kp [1,6,12]) (kq [0,1,2,3]) 100 (pc o1 pn) ?_
   exact Runs.nW hE 2 [] (kp [1,6,12]) (kq [0,1,2,3]) 4 pn (g_berth_Best_L3_ok N _ _ _ N _ _ _ h E hE)
theorem g_berth_Best_ok (N:Nat) (y:TYard) (r:(List TStay)×Int×Int) (h:g_berth_Best N y=some r):Sound Try.prog 17 [(.agg (TYard.cells y))] [] 0 (.tup [(encL TStay.cells TStay.d r.1),(aI r.2.1),(aI r.2.2)]) []:=by
 unfold g_berth_Best at h
 refine Sound.of_runs (fu:=Try.f17) (c:=C_43 1) (nt:=165) (by kernel_rfl) (by kernel_rfl) (by kernel_rfl) (by kernel_rfl) (fun hm=>rfl) ?_
 intro E hE
 refine Runs.nR hE 1 [] [] (kp [1]) (kq [0]) 64 pn ?_
 obtain ⟨rcheckYard,hr,h⟩:=bindSome h
 refine Runs.nR hE 2 [(1,⟨[],true,(aI rcheckYard),[],0,false,none⟩)] [] (kp [1,5]) (kq [0]) 112 (pc o1 (pc (g_berth_checkYard_ok N y rcheckYard hr) pn)) ?_
 refine Runs.nR hE 1 [] [] (kp [1,5,20]) (kq [0]) 144 pn ?_
 refine Runs.nC 0 20 h (fun hq2 h=>?_) (fun hq2 h=>?_)
 ·refine Runs.nR hE 1 [] [] (kp [2,3,4]) [] 208 pn ?_
  obtain rfl:=Option.some.inj h
  exact Runs.nT hE 0 Try.f17 [] ([(2,.sl (([]:List TStay).length) (fun zi=>TStay.cells (([]:List TStay).getD zi TStay.d)))] ++ kp [3,4]) [] 208 (pc (Eq.refl 0) pn) [] pn
 ·refine Runs.nR hE 3 [] [] (kp [1,30]) (kq [0]) 288 (pc o1 (pc (fun hg:(!(decide (((y.f_Calls.length:Nat):Int) > 4)))=true=>(pc hg (pc o1 pn))) (pc (fun hg:(!(decide (((y.f_Calls.length:Nat):Int) > 4)))=true=>(pc hg pn)) (pc (fun hq:(!(decide (((y.f_Calls.length:Nat):Int) > 4)))=true=>(pc hq pn)) pn)))) ?_
  refine Runs.nC 0 30 h (fun hq3 h=>?_) (fun hq3 h=>?_)
  ·refine Runs.nR hE 1 [] [] (kp [2,3,4]) [] 336 pn ?_
   obtain rfl:=Option.some.inj h
   exact Runs.nT hE 0 Try.f17 [] ([(2,.sl (([]:List TStay).length) (fun zi=>TStay.cells (([]:List TStay).getD zi TStay.d)))] ++ kp [3,4]) [] 336 (pc (Eq.refl 0) pn) [] pn
  ·obtain ⟨c,h⟩:=ifSome h
   refine Runs.nR hE 2 [] [] (kp [1,6]) (kq [0] ++ [(368,.arr 368 ((List.replicate ((w64 (((y.f_Calls.length:Nat):Int)+1)).toNat) 0:List Int).length) (fun zi=>cI ((List.replicate ((w64 (((y.f_Calls.length:Nat):Int)+1)).toNat) 0:List Int).getD zi 0))),(400,.var 400 [.keep,.keep,.keep,.keep,.keep,.osl ((List.replicate ((w64 (((y.f_Calls.length:Nat):Int)+1)).toNat) 0:List Int).length),.keep,.keep,.keep])]) 432 (pc o1 (pc o1 (pc (show 0≤(w64 (((y.f_Calls.length:Nat):Int)+1)) from c.1) (pc (show (w64 (((y.f_Calls.length:Nat):Int)+1))≤(w64 (((y.f_Calls.length:Nat):Int)+1)) from (Int.le_refl _)) (pc (show (8:Int) * (w64 (((y.f_Calls.length:Nat):Int)+1))≤281474976710656 from c.2.1) (pc (show (w64 (((y.f_Calls.length:Nat):Int)+1))≤9223372036854775807 from c.2.2) (pc (show (w64 (((y.f_Calls.length:Nat):Int)+1)).toNat=(List.replicate ((w64 (((y.f_Calls.length:Nat):Int)+1)).toNat) 0:List Int).length from (List.length_replicate).symm) (pc (show ∀ zi,zi < (List.replicate ((w64 (((y.f_Calls.length:Nat):Int)+1)).toNat) 0:List Int).length→(fun zi=>cI ((List.replicate ((w64 (((y.f_Calls.length:Nat):Int)+1)).toNat) 0:List Int).getD zi 0)) zi=(fun _=>[(aI 0)]) zi from (fun zq hzq=>get_rep cI 0 0 ((w64 (((y.f_Calls.length:Nat):Int)+1)).toNat) zq hzq)) (pc (show (w64 (((y.f_Calls.length:Nat):Int)+1)).toNat=(List.replicate ((w64 (((y.f_Calls.length:Nat):Int)+1)).toNat) 0:List Int).length from (List.length_replicate).symm) pn))))))))) ?_
   refine Runs.nR hE 2 [] [] (kp [1,6,40,41,42]) (kq [0,368,400]) 496 (pc o1 pn) ?_
   exact Runs.nW hE 2 [] (kp [1,6,40,41,42]) (kq [0] ++ [(1,.var 400 [.keep,.keep,.keep,.keep,.nilos 2,.keep,.keep,.keep,.keep]),(2,.nil 1 (fun zi=>(fun x=>[encL (fun x=>[encL cI 0 x]) [] x]) (([]:List (List (List Int))).getD zi []))),(3,.keep 368)]) 4 pn (g_berth_Best_L1_ok N _ N _ _ _ h E hE)
noncomputable def C_109 (n:Nat):Code:=cat (bodyOf Try.f23) (pth n)
theorem g_keelblocktop_calmYard_ok (N:Nat) (y:TYard) (r:Bool) (h:g_keelblocktop_calmYard N y=some r):Sound Try.prog 23 [(.agg (TYard.cells y))] [] 0 (aB r) []:=by
 unfold g_keelblocktop_calmYard at h
 refine Sound.of_runs (fu:=Try.f23) (c:=C_109 1) (nt:=48) (by kernel_rfl) (by kernel_rfl) (by kernel_rfl) (by kernel_rfl) (fun hm=>rfl) ?_
 intro E hE
 refine Runs.nR hE 1 [] [] (kp [1]) (kq [0]) 32 pn ?_
 obtain ⟨rNames,hr,h⟩:=bindSome h
 obtain ⟨rCheckYard,hr2,h⟩:=bindSome h
 obtain ⟨c,h⟩:=ifSome h
 refine Runs.nR hE 1 [(4,⟨[],true,(aB rNames),[],0,false,none⟩),(25,⟨[],true,(aI rCheckYard),[],0,false,none⟩)] [] (kp [2]) [] 768 (pc o1 (pc o1 (pc (g_w06_Names_ok N y.f_Docks y.f_Calls rNames hr) (pc (fun hg:rNames=true=>(pc hg (pc o1 pn))) (pc (fun hg:rNames=true=>(pc hg pn)) (pc (fun hg:rNames=true=>(pc hg pn)) (pc (fun hq:rNames=true=>(pc hq pn)) (pc (fun hg:(cond rNames (decide (((y.f_Calls.length:Nat):Int)≤3)) false)=true=>(pc hg (pc o1 pn))) (pc (fun hg:(cond rNames (decide (((y.f_Calls.length:Nat):Int)≤3)) false)=true=>(pc hg pn)) (pc (fun hg:(cond rNames (decide (((y.f_Calls.length:Nat):Int)≤3)) false)=true=>(pc hg pn)) (pc (fun hq:(cond rNames (decide (((y.f_Calls.length:Nat):Int)≤3)) false)=true=>(pc hq pn)) (pc (fun hg:(cond (cond rNames (decide (((y.f_Calls.length:Nat):Int)≤3)) false) (decide (((y.f_Docks.length:Nat):Int)≤2)) false)=true=>(pc hg (pc o1 pn))) (pc (fun hg:(cond (cond rNames (decide (((y.f_Calls.length:Nat):Int)≤3)) false) (decide (((y.f_Docks.length:Nat):Int)≤2)) false)=true=>(pc hg pn)) (pc (fun hg:(cond (cond rNames (decide (((y.f_Calls.length:Nat):Int)≤3)) false) (decide (((y.f_Docks.length:Nat):Int)≤2)) false)=true=>(pc hg pn)) (pc (fun hq:(cond (cond rNames (decide (((y.f_Calls.length:Nat):Int)≤3)) false) (decide (((y.f_Docks.length:Nat):Int)≤2)) false)=true=>(pc hq pn)) (pc (fun hg:(cond (cond (cond rNames (decide (((y.f_Calls.length:Nat):Int)≤3)) false) (decide (((y.f_Docks.length:Nat):Int)≤2)) false) (decide (((y.f_Sea.length:Nat):Int)≤12)) false)=true=>(pc o1 pn)) (pc (fun hg:(cond (cond (cond rNames (decide (((y.f_Calls.length:Nat):Int)≤3)) false) (decide (((y.f_Docks.length:Nat):Int)≤2)) false) (decide (((y.f_Sea.length:Nat):Int)≤12)) false)=true=>(pc (g_r06_CheckYard_ok N y rCheckYard (condT hr2 hg)) (pc hg pn))) (pc (fun hg:(cond (cond (cond rNames (decide (((y.f_Calls.length:Nat):Int)≤3)) false) (decide (((y.f_Docks.length:Nat):Int)≤2)) false) (decide (((y.f_Sea.length:Nat):Int)≤12)) false)=true=>(pc hg pn)) (pc (fun hq:(cond (cond (cond rNames (decide (((y.f_Calls.length:Nat):Int)≤3)) false) (decide (((y.f_Docks.length:Nat):Int)≤2)) false) (decide (((y.f_Sea.length:Nat):Int)≤12)) false)=true=>(pc hq pn)) (pc (fun hg:(cond (cond (cond (cond rNames (decide (((y.f_Calls.length:Nat):Int)≤3)) false) (decide (((y.f_Docks.length:Nat):Int)≤2)) false) (decide (((y.f_Sea.length:Nat):Int)≤12)) false) (rCheckYard == 0) false)=true=>(pc hg (pc o1 pn))) (pc (fun hg:(cond (cond (cond (cond rNames (decide (((y.f_Calls.length:Nat):Int)≤3)) false) (decide (((y.f_Docks.length:Nat):Int)≤2)) false) (decide (((y.f_Sea.length:Nat):Int)≤12)) false) (rCheckYard == 0) false)=true=>(pc hg pn)) (pc (fun hq:(cond (cond (cond (cond rNames (decide (((y.f_Calls.length:Nat):Int)≤3)) false) (decide (((y.f_Docks.length:Nat):Int)≤2)) false) (decide (((y.f_Sea.length:Nat):Int)≤12)) false) (rCheckYard == 0) false)=true=>(pc hq pn)) (pc (fun hg:(cond (cond (cond (cond (cond rNames (decide (((y.f_Calls.length:Nat):Int)≤3)) false) (decide (((y.f_Docks.length:Nat):Int)≤2)) false) (decide (((y.f_Sea.length:Nat):Int)≤12)) false) (rCheckYard == 0) false) (decide (y.f_Last≤9)) false)=true=>(pc hg (pc o1 pn))) (pc (fun hg:(cond (cond (cond (cond (cond rNames (decide (((y.f_Calls.length:Nat):Int)≤3)) false) (decide (((y.f_Docks.length:Nat):Int)≤2)) false) (decide (((y.f_Sea.length:Nat):Int)≤12)) false) (rCheckYard == 0) false) (decide (y.f_Last≤9)) false)=true=>(pc hg (pc o1 pn))) (pc (fun hg:(cond (cond (cond (cond (cond rNames (decide (((y.f_Calls.length:Nat):Int)≤3)) false) (decide (((y.f_Docks.length:Nat):Int)≤2)) false) (decide (((y.f_Sea.length:Nat):Int)≤12)) false) (rCheckYard == 0) false) (decide (y.f_Last≤9)) false)=true=>(pc hg pn)) (pc (fun hg:(cond (cond (cond (cond (cond rNames (decide (((y.f_Calls.length:Nat):Int)≤3)) false) (decide (((y.f_Docks.length:Nat):Int)≤2)) false) (decide (((y.f_Sea.length:Nat):Int)≤12)) false) (rCheckYard == 0) false) (decide (y.f_Last≤9)) false)=true=>(pc hg pn)) (pc (fun hg:(cond (cond (cond (cond (cond rNames (decide (((y.f_Calls.length:Nat):Int)≤3)) false) (decide (((y.f_Docks.length:Nat):Int)≤2)) false) (decide (((y.f_Sea.length:Nat):Int)≤12)) false) (rCheckYard == 0) false) (decide (y.f_Last≤9)) false)=true=>(pc hg (pc hg (pc (c hg) pn)))) (pc (fun hg:(cond (cond (cond (cond (cond rNames (decide (((y.f_Calls.length:Nat):Int)≤3)) false) (decide (((y.f_Docks.length:Nat):Int)≤2)) false) (decide (((y.f_Sea.length:Nat):Int)≤12)) false) (rCheckYard == 0) false) (decide (y.f_Last≤9)) false)=true=>(pc hg pn)) (pc (fun hg:(cond (cond (cond (cond (cond rNames (decide (((y.f_Calls.length:Nat):Int)≤3)) false) (decide (((y.f_Docks.length:Nat):Int)≤2)) false) (decide (((y.f_Sea.length:Nat):Int)≤12)) false) (rCheckYard == 0) false) (decide (y.f_Last≤9)) false)=true=>(pc hg pn)) (pc (fun hg:(cond (cond (cond (cond (cond rNames (decide (((y.f_Calls.length:Nat):Int)≤3)) false) (decide (((y.f_Docks.length:Nat):Int)≤2)) false) (decide (((y.f_Sea.length:Nat):Int)≤12)) false) (rCheckYard == 0) false) (decide (y.f_Last≤9)) false)=true=>(pc hg pn)) (pc (fun hq:(cond (cond (cond (cond (cond rNames (decide (((y.f_Calls.length:Nat):Int)≤3)) false) (decide (((y.f_Docks.length:Nat):Int)≤2)) false) (decide (((y.f_Sea.length:Nat):Int)≤12)) false) (rCheckYard == 0) false) (decide (y.f_Last≤9)) false)=true=>(pc hq pn)) pn))))))))))))))))))))))))))))))) ?_
 obtain rfl:=Option.some.inj h
 exact Runs.nT hE 0 Try.f23 [] (kp [2]) [] 768 pn [] pn
noncomputable def C_113 (n:Nat):Code:=cat (bodyOf Try.f105) (pth n)
def g_w_isName_L1_H (N:Nat) (s:ByteArray) (K:Int→Option (Bool)):Prop:=∀ (x:Int) (r:Bool),K x=some r→∀ E,EnvOk E 0→Runs Try.prog E 105 51 (SPost E [] (aB r)) [.code (C_113 116),.inLoop (C_113 116),.inBlock 0,.code (C_113 15)] ⟨[(11,(encL (cU .u8) 0 (bytesL s))),(12,(aI ((s.size:Nat):Int))),(13,(aI x))],[],0⟩
theorem g_w_isName_L1_ok (N:Nat) (s:ByteArray) (fuel:Nat):g_w_isName_L1_H N s (g_w_isName_L1 N s fuel):=by
 induction fuel with
 | zero=>intro _ r h;rw [g_w_isName_L1.eq_1] at h;cases h
 | succ fuel ih =>
  intro x r h E hE
  rw [g_w_isName_L1.eq_2] at h
  refine Runs.nR hE 1 [] [] (kp [11,12,13,14]) [] 16 pn ?_
  refine Runs.nC 1 14 h (fun hq3 h=>?_) (fun hq3 h=>?_)
  ·obtain ⟨c,h⟩:=ifSome h
   refine Runs.nR hE 4 [] [] (kp [3,4,11,12,13]) [] 96 (pc c pn) ?_
   refine Runs.nR hE 1 [] [] (kp [3,4,5,11,12,13]) [] 336 (pc (fun hg:(decide (((bytesL s).getD ((x).toNat) 0)≥97))=true=>(pc hg pn)) (pc (fun hq:(decide (((bytesL s).getD ((x).toNat) 0)≥97))=true=>(pc hq pn)) (pc (fun hg:(!(cond (decide (((bytesL s).getD ((x).toNat) 0)≥97)) (decide (((bytesL s).getD ((x).toNat) 0)≤122)) false))=true=>(pc hg pn)) (pc (fun hg:((!(cond (decide (((bytesL s).getD ((x).toNat) 0)≥97)) (decide (((bytesL s).getD ((x).toNat) 0)≤122)) false)) && ((!(cond (decide (((bytesL s).getD ((x).toNat) 0)≥97)) (decide (((bytesL s).getD ((x).toNat) 0)≤122)) false)) && (decide (((bytesL s).getD ((x).toNat) 0)≥65))))=true=>(pc hg pn)) (pc (fun hg:(!(cond (decide (((bytesL s).getD ((x).toNat) 0)≥97)) (decide (((bytesL s).getD ((x).toNat) 0)≤122)) false))=true=>(pc hg (pc hg (pc (fun hq:(decide (((bytesL s).getD ((x).toNat) 0)≥65))=true=>(pc (show ((!(cond (decide (((bytesL s).getD ((x).toNat) 0)≥97)) (decide (((bytesL s).getD ((x).toNat) 0)≤122)) false)) && ((!(cond (decide (((bytesL s).getD ((x).toNat) 0)≥97)) (decide (((bytesL s).getD ((x).toNat) 0)≤122)) false)) && (decide (((bytesL s).getD ((x).toNat) 0)≥65))))=true from (andI' hg (andI' hg hq))) pn)) pn)))) (pc (fun hq:(!(cond (decide (((bytesL s).getD ((x).toNat) 0)≥97)) (decide (((bytesL s).getD ((x).toNat) 0)≤122)) false))=true=>(pc hq pn)) pn)))))) ?_
   refine Runs.nR hE 1 [] [] (kp [11,12,13,49]) [] 624 (pc (fun hg:(!(cond (cond (decide (((bytesL s).getD ((x).toNat) 0)≥97)) (decide (((bytesL s).getD ((x).toNat) 0)≤122)) false) true (cond (decide (((bytesL s).getD ((x).toNat) 0)≥65)) (decide (((bytesL s).getD ((x).toNat) 0)≤90)) false)))=true=>(pc hg pn)) (pc (fun hg:((!(cond (cond (decide (((bytesL s).getD ((x).toNat) 0)≥97)) (decide (((bytesL s).getD ((x).toNat) 0)≤122)) false) true (cond (decide (((bytesL s).getD ((x).toNat) 0)≥65)) (decide (((bytesL s).getD ((x).toNat) 0)≤90)) false))) && ((!(cond (cond (decide (((bytesL s).getD ((x).toNat) 0)≥97)) (decide (((bytesL s).getD ((x).toNat) 0)≤122)) false) true (cond (decide (((bytesL s).getD ((x).toNat) 0)≥65)) (decide (((bytesL s).getD ((x).toNat) 0)≤90)) false))) && (!(x == 0))))=true=>(pc hg pn)) (pc (fun hg:(((!(cond (cond (decide (((bytesL s).getD ((x).toNat) 0)≥97)) (decide (((bytesL s).getD ((x).toNat) 0)≤122)) false) true (cond (decide (((bytesL s).getD ((x).toNat) 0)≥65)) (decide (((bytesL s).getD ((x).toNat) 0)≤90)) false))) && ((!(cond (cond (decide (((bytesL s).getD ((x).toNat) 0)≥97)) (decide (((bytesL s).getD ((x).toNat) 0)≤122)) false) true (cond (decide (((bytesL s).getD ((x).toNat) 0)≥65)) (decide (((bytesL s).getD ((x).toNat) 0)≤90)) false))) && (!(x == 0)))) && (((!(cond (cond (decide (((bytesL s).getD ((x).toNat) 0)≥97)) (decide (((bytesL s).getD ((x).toNat) 0)≤122)) false) true (cond (decide (((bytesL s).getD ((x).toNat) 0)≥65)) (decide (((bytesL s).getD ((x).toNat) 0)≤90)) false))) && ((!(cond (cond (decide (((bytesL s).getD ((x).toNat) 0)≥97)) (decide (((bytesL s).getD ((x).toNat) 0)≤122)) false) true (cond (decide (((bytesL s).getD ((x).toNat) 0)≥65)) (decide (((bytesL s).getD ((x).toNat) 0)≤90)) false))) && (!(x == 0)))) && (((bytesL s).getD ((x).toNat) 0) != 45)))=true=>(pc hg pn)) (pc (fun hg:((((!(cond (cond (decide (((bytesL s).getD ((x).toNat) 0)≥97)) (decide (((bytesL s).getD ((x).toNat) 0)≤122)) false) true (cond (decide (((bytesL s).getD ((x).toNat) 0)≥65)) (decide (((bytesL s).getD ((x).toNat) 0)≤90)) false))) && ((!(cond (cond (decide (((bytesL s).getD ((x).toNat) 0)≥97)) (decide (((bytesL s).getD ((x).toNat) 0)≤122)) false) true (cond (decide (((bytesL s).getD ((x).toNat) 0)≥65)) (decide (((bytesL s).getD ((x).toNat) 0)≤90)) false))) && (!(x == 0)))) && (((!(cond (cond (decide (((bytesL s).getD ((x).toNat) 0)≥97)) (decide (((bytesL s).getD ((x).toNat) 0)≤122)) false) true (cond (decide (((bytesL s).getD ((x).toNat) 0)≥65)) (decide (((bytesL s).getD ((x).toNat) 0)≤90)) false))) && ((!(cond (cond (decide (((bytesL s).getD ((x).toNat) 0)≥97)) (decide (((bytesL s).getD ((x).toNat) 0)≤122)) false) true (cond (decide (((bytesL s).getD ((x).toNat) 0)≥65)) (decide (((bytesL s).getD ((x).toNat) 0)≤90)) false))) && (!(x == 0)))) && (((bytesL s).getD ((x).toNat) 0) != 45))) && ((((!(cond (cond (decide (((bytesL s).getD ((x).toNat) 0)≥97)) (decide (((bytesL s).getD ((x).toNat) 0)≤122)) false) true (cond (decide (((bytesL s).getD ((x).toNat) 0)≥65)) (decide (((bytesL s).getD ((x).toNat) 0)≤90)) false))) && ((!(cond (cond (decide (((bytesL s).getD ((x).toNat) 0)≥97)) (decide (((bytesL s).getD ((x).toNat) 0)≤122)) false) true (cond (decide (((bytesL s).getD ((x).toNat) 0)≥65)) (decide (((bytesL s).getD ((x).toNat) 0)≤90)) false))) && (!(x == 0)))) && (((!(cond (cond (decide (((bytesL s).getD ((x).toNat) 0)≥97)) (decide (((bytesL s).getD ((x).toNat) 0)≤122)) false) true (cond (decide (((bytesL s).getD ((x).toNat) 0)≥65)) (decide (((bytesL s).getD ((x).toNat) 0)≤90)) false))) && ((!(cond (cond (decide (((bytesL s).getD ((x).toNat) 0)≥97)) (decide (((bytesL s).getD ((x).toNat) 0)≤122)) false) true (cond (decide (((bytesL s).getD ((x).toNat) 0)≥65)) (decide (((bytesL s).getD ((x).toNat) 0)≤90)) false))) && (!(x == 0)))) && (((bytesL s).getD ((x).toNat) 0) != 45))) && (!(decide (((bytesL s).getD ((x).toNat) 0) < 48)))))=true=>(pc hg pn)) (pc (fun hg:(((!(cond (cond (decide (((bytesL s).getD ((x).toNat) 0)≥97)) (decide (((bytesL s).getD ((x).toNat) 0)≤122)) false) true (cond (decide (((bytesL s).getD ((x).toNat) 0)≥65)) (decide (((bytesL s).getD ((x).toNat) 0)≤90)) false))) && ((!(cond (cond (decide (((bytesL s).getD ((x).toNat) 0)≥97)) (decide (((bytesL s).getD ((x).toNat) 0)≤122)) false) true (cond (decide (((bytesL s).getD ((x).toNat) 0)≥65)) (decide (((bytesL s).getD ((x).toNat) 0)≤90)) false))) && (!(x == 0)))) && (((!(cond (cond (decide (((bytesL s).getD ((x).toNat) 0)≥97)) (decide (((bytesL s).getD ((x).toNat) 0)≤122)) false) true (cond (decide (((bytesL s).getD ((x).toNat) 0)≥65)) (decide (((bytesL s).getD ((x).toNat) 0)≤90)) false))) && ((!(cond (cond (decide (((bytesL s).getD ((x).toNat) 0)≥97)) (decide (((bytesL s).getD ((x).toNat) 0)≤122)) false) true (cond (decide (((bytesL s).getD ((x).toNat) 0)≥65)) (decide (((bytesL s).getD ((x).toNat) 0)≤90)) false))) && (!(x == 0)))) && (((bytesL s).getD ((x).toNat) 0) != 45)))=true=>(pc hg (pc hg (pc (fun hq:(!(decide (((bytesL s).getD ((x).toNat) 0) < 48)))=true=>(pc (show ((((!(cond (cond (decide (((bytesL s).getD ((x).toNat) 0)≥97)) (decide (((bytesL s).getD ((x).toNat) 0)≤122)) false) true (cond (decide (((bytesL s).getD ((x).toNat) 0)≥65)) (decide (((bytesL s).getD ((x).toNat) 0)≤90)) false))) && ((!(cond (cond (decide (((bytesL s).getD ((x).toNat) 0)≥97)) (decide (((bytesL s).getD ((x).toNat) 0)≤122)) false) true (cond (decide (((bytesL s).getD ((x).toNat) 0)≥65)) (decide (((bytesL s).getD ((x).toNat) 0)≤90)) false))) && (!(x == 0)))) && (((!(cond (cond (decide (((bytesL s).getD ((x).toNat) 0)≥97)) (decide (((bytesL s).getD ((x).toNat) 0)≤122)) false) true (cond (decide (((bytesL s).getD ((x).toNat) 0)≥65)) (decide (((bytesL s).getD ((x).toNat) 0)≤90)) false))) && ((!(cond (cond (decide (((bytesL s).getD ((x).toNat) 0)≥97)) (decide (((bytesL s).getD ((x).toNat) 0)≤122)) false) true (cond (decide (((bytesL s).getD ((x).toNat) 0)≥65)) (decide (((bytesL s).getD ((x).toNat) 0)≤90)) false))) && (!(x == 0)))) && (((bytesL s).getD ((x).toNat) 0) != 45))) && ((((!(cond (cond (decide (((bytesL s).getD ((x).toNat) 0)≥97)) (decide (((bytesL s).getD ((x).toNat) 0)≤122)) false) true (cond (decide (((bytesL s).getD ((x).toNat) 0)≥65)) (decide (((bytesL s).getD ((x).toNat) 0)≤90)) false))) && ((!(cond (cond (decide (((bytesL s).getD ((x).toNat) 0)≥97)) (decide (((bytesL s).getD ((x).toNat) 0)≤122)) false) true (cond (decide (((bytesL s).getD ((x).toNat) 0)≥65)) (decide (((bytesL s).getD ((x).toNat) 0)≤90)) false))) && (!(x == 0)))) && (((!(cond (cond (decide (((bytesL s).getD ((x).toNat) 0)≥97)) (decide (((bytesL s).getD ((x).toNat) 0)≤122)) false) true (cond (decide (((bytesL s).getD ((x).toNat) 0)≥65)) (decide (((bytesL s).getD ((x).toNat) 0)≤90)) false))) && ((!(cond (cond (decide (((bytesL s).getD ((x).toNat) 0)≥97)) (decide (((bytesL s).getD ((x).toNat) 0)≤122)) false) true (cond (decide (((bytesL s).getD ((x).toNat) 0)≥65)) (decide (((bytesL s).getD ((x).toNat) 0)≤90)) false))) && (!(x == 0)))) && (((bytesL s).getD ((x).toNat) 0) != 45))) && (!(decide (((bytesL s).getD ((x).toNat) 0) < 48)))))=true from (andI' hg (andI' hg hq))) pn)) pn)))) (pc (fun hg:((!(cond (cond (decide (((bytesL s).getD ((x).toNat) 0)≥97)) (decide (((bytesL s).getD ((x).toNat) 0)≤122)) false) true (cond (decide (((bytesL s).getD ((x).toNat) 0)≥65)) (decide (((bytesL s).getD ((x).toNat) 0)≤90)) false))) && ((!(cond (cond (decide (((bytesL s).getD ((x).toNat) 0)≥97)) (decide (((bytesL s).getD ((x).toNat) 0)≤122)) false) true (cond (decide (((bytesL s).getD ((x).toNat) 0)≥65)) (decide (((bytesL s).getD ((x).toNat) 0)≤90)) false))) && (!(x == 0))))=true=>(pc hg (pc hg (pc (fun hq:(((bytesL s).getD ((x).toNat) 0) != 45)=true=>(pc (show (((!(cond (cond (decide (((bytesL s).getD ((x).toNat) 0)≥97)) (decide (((bytesL s).getD ((x).toNat) 0)≤122)) false) true (cond (decide (((bytesL s).getD ((x).toNat) 0)≥65)) (decide (((bytesL s).getD ((x).toNat) 0)≤90)) false))) && ((!(cond (cond (decide (((bytesL s).getD ((x).toNat) 0)≥97)) (decide (((bytesL s).getD ((x).toNat) 0)≤122)) false) true (cond (decide (((bytesL s).getD ((x).toNat) 0)≥65)) (decide (((bytesL s).getD ((x).toNat) 0)≤90)) false))) && (!(x == 0)))) && (((!(cond (cond (decide (((bytesL s).getD ((x).toNat) 0)≥97)) (decide (((bytesL s).getD ((x).toNat) 0)≤122)) false) true (cond (decide (((bytesL s).getD ((x).toNat) 0)≥65)) (decide (((bytesL s).getD ((x).toNat) 0)≤90)) false))) && ((!(cond (cond (decide (((bytesL s).getD ((x).toNat) 0)≥97)) (decide (((bytesL s).getD ((x).toNat) 0)≤122)) false) true (cond (decide (((bytesL s).getD ((x).toNat) 0)≥65)) (decide (((bytesL s).getD ((x).toNat) 0)≤90)) false))) && (!(x == 0)))) && (((bytesL s).getD ((x).toNat) 0) != 45)))=true from (andI' hg (andI' hg hq))) pn)) pn)))) (pc (fun hg:(!(cond (cond (decide (((bytesL s).getD ((x).toNat) 0)≥97)) (decide (((bytesL s).getD ((x).toNat) 0)≤122)) false) true (cond (decide (((bytesL s).getD ((x).toNat) 0)≥65)) (decide (((bytesL s).getD ((x).toNat) 0)≤90)) false)))=true=>(pc hg (pc hg (pc (fun hq:(!(x == 0))=true=>(pc (show ((!(cond (cond (decide (((bytesL s).getD ((x).toNat) 0)≥97)) (decide (((bytesL s).getD ((x).toNat) 0)≤122)) false) true (cond (decide (((bytesL s).getD ((x).toNat) 0)≥65)) (decide (((bytesL s).getD ((x).toNat) 0)≤90)) false))) && ((!(cond (cond (decide (((bytesL s).getD ((x).toNat) 0)≥97)) (decide (((bytesL s).getD ((x).toNat) 0)≤122)) false) true (cond (decide (((bytesL s).getD ((x).toNat) 0)≥65)) (decide (((bytesL s).getD ((x).toNat) 0)≤90)) false))) && (!(x == 0))))=true from (andI' hg (andI' hg hq))) pn)) pn)))) (pc (fun hq:(!(cond (cond (decide (((bytesL s).getD ((x).toNat) 0)≥97)) (decide (((bytesL s).getD ((x).toNat) 0)≤122)) false) true (cond (decide (((bytesL s).getD ((x).toNat) 0)≥65)) (decide (((bytesL s).getD ((x).toNat) 0)≤90)) false)))=true=>(pc hq pn)) pn)))))))) ?_
   refine Runs.nC 0 49 h (fun hq4 h=>?_) (fun hq4 h=>?_)
   ·refine Runs.nR hE 1 [] [] (kp [2]) [] 640 pn ?_
    obtain rfl:=Option.some.inj h
    exact Runs.nT hE 0 Try.f105 [] (kp [2]) [] 640 pn [] pn
   ·refine Runs.nR hE 2 [] [] (kp [11,12,13]) [] 656 pn ?_
    exact Runs.nW hE 1 [] (kp [11,12,13]) [] 0 pn (ih _ _ h E hE)
  ·refine Runs.nR hE 2 [] [] (kp [2]) [] 32 pn ?_
   obtain rfl:=Option.some.inj h
   exact Runs.nT hE 0 Try.f105 [] (kp [2]) [] 48 pn [] pn
theorem g_w_isName_ok (N:Nat) (s:ByteArray) (r:Bool) (h:g_w_isName N s=some r):Sound Try.prog 105 [(aS s)] [] 0 (aB r) []:=by
 unfold g_w_isName at h
 refine Sound.of_runs (fu:=Try.f105) (c:=C_113 1) (nt:=51) (by kernel_rfl) (by kernel_rfl) (by kernel_rfl) (by kernel_rfl) (fun hm=>rfl) ?_
 intro E hE
 refine Runs.nR hE 1 [] [] (kp [0]) [] 16 pn ?_
 obtain ⟨rBt,hr,h⟩:=bindSome h
 refine Runs.nR hE 2 [(2,⟨[],true,(aB rBt),[],0,false,none⟩)] [] (kp [0,9]) [] 80 (pc (g_w_between_ok N ((s.size:Nat):Int) 1 12 rBt hr) pn) ?_
 refine Runs.nC 0 9 h (fun hq2 h=>?_) (fun hq2 h=>?_)
 ·refine Runs.nR hE 1 [] [] (kp [2]) [] 96 pn ?_
  obtain rfl:=Option.some.inj h
  exact Runs.nT hE 0 Try.f105 [] (kp [2]) [] 96 pn [] pn
 ·refine Runs.nR hE 3 [] [] ([(11,.sl ((bytesL s).length) (fun zi=>(cU .u8) ((bytesL s).getD zi 0)))] ++ kp [12,13]) [] 144 (pc (show s.size=(bytesL s).length from (bytesL_len s)) (pc (show ∀ zi,zi < (bytesL s).length→(fun zi=>(cU .u8) ((bytesL s).getD zi 0)) zi=(fun zi=>[.atom (.int .u8 (byteAt s zi))]) zi from (bytesL_get s)) pn)) ?_
  exact Runs.nW hE 2 [] (kp [11,12,13]) [] 0 pn (g_w_isName_L1_ok N _ N _ _ h E hE)
noncomputable def C_114 (n:Nat):Code:=cat (bodyOf Try.f106) (pth n)
def g_w_checkForm_L1_H (N:Nat) (b:TBasin) (K:Int→Option (Int)):Prop:=∀ (x:Int) (r:Int),K x=some r→∀ E,EnvOk E 0→Runs Try.prog E 106 60 (SPost E [] (aI r)) [.code (C_114 116),.inLoop (C_114 116),.inBlock 0,.code (C_114 15)] ⟨[(1,(.op 0 0 0)),(11,(encL TArea.cells TArea.d b.f_Areas)),(12,(aI ((b.f_Areas.length:Nat):Int))),(13,(aI x))],[(0,vO 3 (TBasin.cells b))],1⟩
theorem g_w_checkForm_L1_ok (N:Nat) (b:TBasin) (fuel:Nat):g_w_checkForm_L1_H N b (g_w_checkForm_L1 N b fuel):=by
 induction fuel with
 | zero=>intro _ r h;rw [g_w_checkForm_L1.eq_1] at h;cases h
 | succ fuel ih =>
  intro x r h E hE
  rw [g_w_checkForm_L1.eq_2] at h
  refine Runs.nR hE 1 [] [] (kp [1,11,12,13,14]) (kq [0]) 17 pn ?_
  refine Runs.nC 1 14 h (fun hq3 h=>?_) (fun hq3 h=>?_)
  ·obtain ⟨c,h⟩:=ifSome h
   refine Runs.nR hE 4 [] [] (kp [1,3,4,11,12,13]) (kq [0,65]) 113 (pc c (pc o1 pn)) ?_
   obtain ⟨rBt2,hr2,h⟩:=bindSome h
   obtain ⟨rBt3,hr3,h⟩:=bindSome h
   refine Runs.nR hE 2 [(2,⟨[],true,(aB rBt2),[],0,false,none⟩),(7,⟨[],true,(aB rBt3),[],0,false,none⟩)] [] (kp [1,3,4,11,12,13,27]) (kq [0,65]) 273 (pc o1 (pc (g_w_between_ok N ((b.f_Areas.getD ((x).toNat) TArea.d).f_From) (-1000000) 1000000 rBt2 hr2) (pc (fun hg:(!(!rBt2))=true=>(pc hg (pc o1 pn))) (pc (fun hg:(!(!rBt2))=true=>(pc (g_w_between_ok N ((b.f_Areas.getD ((x).toNat) TArea.d).f_Size) 1 1000000 rBt3 (condT hr3 hg)) (pc hg pn))) (pc (fun hg:(!(!rBt2))=true=>(pc hg pn)) (pc (fun hq:(!(!rBt2))=true=>(pc hq pn)) pn)))))) ?_
   refine Runs.nC 0 27 h (fun hq4 h=>?_) (fun hq4 h=>?_)
   ·refine Runs.nR hE 1 [] [] (kp [2]) [] 289 pn ?_
    obtain rfl:=Option.some.inj h
    exact Runs.nT hE 0 Try.f106 [] (kp [2]) [] 289 pn [] pn
   ·obtain ⟨c2,h⟩:=ifSome h
    refine Runs.nR hE 2 [] [] (kp [1,11,12,13,41]) (kq [0]) 497 (pc (fun hg:(decide (x > 0))=true=>(pc hg (pc o1 pn))) (pc (fun hg:(decide (x > 0))=true=>(pc hg (pc o1 pn))) (pc (fun hg:(decide (x > 0))=true=>(pc hg pn)) (pc (fun hg:(decide (x > 0))=true=>(pc hg (pc hg (pc (c2 hg) pn)))) (pc (fun hg:(decide (x > 0))=true=>(pc hg pn)) (pc (fun hg:(decide (x > 0))=true=>(pc hg pn)) (pc (fun hg:(decide (x > 0))=true=>(pc hg (pc hg pn))) (pc (fun hq:(decide (x > 0))=true=>(pc hq pn)) pn)))))))) ?_
    refine Runs.nC 0 41 h (fun hq5 h=>?_) (fun hq5 h=>?_)
    ·refine Runs.nR hE 1 [] [] (kp [2]) [] 513 pn ?_
     obtain rfl:=Option.some.inj h
     exact Runs.nT hE 0 Try.f106 [] (kp [2]) [] 513 pn [] pn
    ·refine Runs.nR hE 2 [] [] (kp [1,11,12,13]) (kq [0]) 529 pn ?_
     exact Runs.nW hE 1 [] (kp [1,11,12,13]) (kq [0]) 1 pn (ih _ _ h E hE)
  ·obtain ⟨c3,h⟩:=ifSome h
   refine Runs.nR hE 3 [] [] (kp [59]) [] 289 (pc o1 (pc o1 (pc o1 (pc c3 (pc (fun hg:(!(decide (b.f_Rim≤(b.f_Areas.getD ((w64 (((b.f_Areas.length:Nat):Int) - 1)).toNat) TArea.d).f_From)))=true=>(pc hg (pc o1 pn))) (pc (fun hg:(!(decide (b.f_Rim≤(b.f_Areas.getD ((w64 (((b.f_Areas.length:Nat):Int) - 1)).toNat) TArea.d).f_From)))=true=>(pc hg pn)) (pc (fun hq:(!(decide (b.f_Rim≤(b.f_Areas.getD ((w64 (((b.f_Areas.length:Nat):Int) - 1)).toNat) TArea.d).f_From)))=true=>(pc hq pn)) pn))))))) ?_
   refine Runs.nC 0 59 h (fun hq6 h=>?_) (fun hq6 h=>?_)
   ·refine Runs.nR hE 1 [] [] (kp [2]) [] 305 pn ?_
    obtain rfl:=Option.some.inj h
    exact Runs.nT hE 0 Try.f106 [] (kp [2]) [] 305 pn [] pn
   ·refine Runs.nR hE 2 [] [] (kp [2]) [] 305 pn ?_
    obtain rfl:=Option.some.inj h
    exact Runs.nT hE 0 Try.f106 [] (kp [2]) [] 305 pn [] pn
theorem g_w_checkForm_ok (N:Nat) (b:TBasin) (r:Int) (h:g_w_checkForm N b=some r):Sound Try.prog 106 [(.agg (TBasin.cells b))] [] 0 (aI r) []:=by
 unfold g_w_checkForm at h
 refine Sound.of_runs (fu:=Try.f106) (c:=C_114 1) (nt:=60) (by kernel_rfl) (by kernel_rfl) (by kernel_rfl) (by kernel_rfl) (fun hm=>rfl) ?_
 intro E hE
 refine Runs.nR hE 1 [] [] (kp [1]) (kq [0]) 32 pn ?_
 obtain ⟨rBt,hr,h⟩:=bindSome h
 refine Runs.nR hE 2 [(3,⟨[],true,(aB rBt),[],0,false,none⟩)] [] (kp [1,9]) (kq [0]) 112 (pc o1 (pc (g_w_between_ok N ((b.f_Areas.length:Nat):Int) 1 20 rBt hr) pn)) ?_
 refine Runs.nC 0 9 h (fun hq2 h=>?_) (fun hq2 h=>?_)
 ·refine Runs.nR hE 1 [] [] (kp [2]) [] 128 pn ?_
  obtain rfl:=Option.some.inj h
  exact Runs.nT hE 0 Try.f106 [] (kp [2]) [] 128 pn [] pn
 ·refine Runs.nR hE 3 [] [] (kp [1,11,12,13]) (kq [0]) 176 (pc o1 pn) ?_
  exact Runs.nW hE 2 [] (kp [1,11,12,13]) (kq [0]) 1 pn (g_w_checkForm_L1_ok N _ N _ _ h E hE)
noncomputable def C_112 (n:Nat):Code:=cat (bodyOf Try.f86) (pth n)
theorem g_w_CheckBasin_ok (N:Nat) (b:TBasin) (r:Int) (h:g_w_CheckBasin N b=some r):Sound Try.prog 86 [(.agg (TBasin.cells b))] [] 0 (aI r) []:=by
 unfold g_w_CheckBasin at h
 refine Sound.of_runs (fu:=Try.f86) (c:=C_112 1) (nt:=9) (by kernel_rfl) (by kernel_rfl) (by kernel_rfl) (by kernel_rfl) (fun hm=>rfl) ?_
 intro E hE
 refine Runs.nR hE 1 [] [] (kp [1]) (kq [0]) 32 pn ?_
 obtain ⟨risName,hr,h⟩:=bindSome h
 refine Runs.nR hE 2 [(2,⟨[],true,(aB risName),[],0,false,none⟩)] [] (kp [1,6]) (kq [0]) 96 (pc o1 (pc (g_w_isName_ok N b.f_Name risName hr) pn)) ?_
 refine Runs.nC 0 6 h (fun hq2 h=>?_) (fun hq2 h=>?_)
 ·refine Runs.nR hE 1 [] [] (kp [2]) [] 112 pn ?_
  obtain rfl:=Option.some.inj h
  exact Runs.nT hE 0 Try.f86 [] (kp [2]) [] 112 pn [] pn
 ·obtain ⟨rcheckForm,hr2,h⟩:=bindSome h
  refine Runs.nR hE 2 [(1,⟨[],true,(aI rcheckForm),[],0,false,none⟩)] [] (kp [2]) [] 144 (pc o1 (pc (g_w_checkForm_ok N b rcheckForm hr2) pn)) ?_
  obtain rfl:=Option.some.inj h
  exact Runs.nT hE 0 Try.f86 [] (kp [2]) [] 144 pn [] pn
noncomputable def C_115 (n:Nat):Code:=cat (bodyOf Try.f88) (pth n)
theorem g_w_floor_ok (N:Nat) (b:TBasin) (r:Int) (h:g_w_floor N b=some r):Sound Try.prog 88 [(.agg (TBasin.cells b))] [] 0 (aI r) []:=by
 unfold g_w_floor at h
 refine Sound.of_runs (fu:=Try.f88) (c:=C_115 1) (nt:=8) (by kernel_rfl) (by kernel_rfl) (by kernel_rfl) (by kernel_rfl) (fun hm=>rfl) ?_
 intro E hE
 refine Runs.nR hE 1 [] [] (kp [1]) (kq [0]) 32 pn ?_
 obtain ⟨c,h⟩:=ifSome h
 refine Runs.nR hE 1 [] [] (kp [2]) [] 128 (pc o1 (pc c pn)) ?_
 obtain rfl:=Option.some.inj h
 exact Runs.nT hE 0 Try.f88 [] (kp [2]) [] 128 pn [] pn
noncomputable def C_116 (n:Nat):Code:=cat (bodyOf Try.f89) (pth n)
def g_w_volume_L1_H (N:Nat) (b:TBasin) (level:Int) (K:Int→Int→Option (Int)):Prop:=∀ (sum:Int) (x:Int) (r:Int),K sum x=some r→∀ E,EnvOk E 0→Runs Try.prog E 89 45 (SPost E [] (aI r)) [.code (C_116 116),.inLoop (C_116 116),.inBlock 0,.code (C_116 15)] ⟨[(1,(aI level)),(2,(.op 0 0 0)),(5,(aI sum)),(10,(encL TArea.cells TArea.d b.f_Areas)),(11,(aI ((b.f_Areas.length:Nat):Int))),(12,(aI x))],[(0,vO 3 (TBasin.cells b))],1⟩
def g_w_volume_J2_H (N:Nat) (b:TBasin) (level:Int) (sum:Int) (x:Int) (K:Int→Option (Int)):Prop:=∀ (top:Int) (r:Int),K top=some r→∀ E,EnvOk E 0→Runs Try.prog E 89 45 (SPost E [] (aI r)) [.code (C_116 14951),.inBlock 1,.code (C_116 935),.inLoop (C_116 116),.inBlock 0,.code (C_116 15)] ⟨[(1,(aI level)),(2,(.op 0 0 0)),(5,(aI sum)),(7,(.op 1 0 0)),(8,(aI top)),(10,(encL TArea.cells TArea.d b.f_Areas)),(11,(aI ((b.f_Areas.length:Nat):Int))),(12,(aI x))],[(0,vO 3 (TBasin.cells b)),(1,vO 2 (TArea.cells (b.f_Areas.getD ((x).toNat) TArea.d)))],2⟩
theorem g_w_volume_J2_ok (N:Nat) (b:TBasin) (level:Int) (sum:Int) (x:Int) (K_g_w_volume_L1:Int→Int→Option (Int)) (hK_g_w_volume_L1:g_w_volume_L1_H N b level K_g_w_volume_L1):g_w_volume_J2_H N b level sum x (g_w_volume_J2 N b level sum x K_g_w_volume_L1):=by
 intro top r h E hE
 unfold g_w_volume_J2 at h
 refine Runs.nR hE 0 [] [] (kp [1,2,5,10,11,12]) (kq [0]) 178 (pc o1 (pc o1 pn)) ?_
 refine Runs.nR hE 1 [] [] (kp [1,2,5,10,11,12]) (kq [0]) 210 pn ?_
 exact Runs.nW hE 1 [] (kp [1,2,5,10,11,12]) (kq [0]) 1 pn (hK_g_w_volume_L1 _ _ _ h E hE)
theorem g_w_volume_L1_ok (N:Nat) (b:TBasin) (level:Int) (fuel:Nat):g_w_volume_L1_H N b level (g_w_volume_L1 N b level fuel):=by
 induction fuel with
 | zero=>intro _ _ r h;rw [g_w_volume_L1.eq_1] at h;cases h
 | succ fuel ih =>
  intro sum x r h E hE
  rw [g_w_volume_L1.eq_2] at h
  refine Runs.nR hE 1 [] [] (kp [1,2,5,10,11,12,13]) (kq [0]) 17 pn ?_
  refine Runs.nC 1 13 h (fun hq2 h=>?_) (fun hq2 h=>?_)
  ·obtain ⟨c,h⟩:=ifSome h
   refine Runs.nR hE 4 [] [] (kp [1,2,5,6,7,10,11,12]) (kq [0,65]) 113 (pc c (pc o1 pn)) ?_
   refine Runs.nR hE 1 [] [] (kp [1,2,5,6,7,8,10,11,12]) (kq [0,65]) 145 pn ?_
   refine Runs.nR hE 2 [] [] (kp [1,2,5,6,7,8,10,11,12,23]) (kq [0,65]) 241 (pc o1 pn) ?_
   refine Runs.nC 0 23 h (fun hq3 h=>?_) (fun hq3 h=>?_)
   ·obtain ⟨c2,h⟩:=ifSome h
    refine Runs.nR hE 0 [] [] (kp [1,2,5,7,8,10,11,12]) (kq [0,65]) 401 (pc o1 (pc c2 pn)) ?_
    exact Runs.nW hE 0 [] (kp [1,2,5,7,8,10,11,12]) (kq [0] ++ [(1,.keep 65)]) 2 pn (g_w_volume_J2_ok N _ _ _ _ _ ih _ _ h E hE)
   ·exact Runs.nW hE 1 [] (kp [1,2,5,7,8,10,11,12]) (kq [0] ++ [(1,.keep 65)]) 2 pn (g_w_volume_J2_ok N _ _ _ _ _ ih _ _ h E hE)
  ·refine Runs.nR hE 2 [] [] (kp [4]) [] 49 pn ?_
   obtain rfl:=Option.some.inj h
   exact Runs.nT hE 0 Try.f89 [] (kp [4]) [] 49 pn [] pn
theorem g_w_volume_ok (N:Nat) (b:TBasin) (level:Int) (r:Int) (h:g_w_volume N b level=some r):Sound Try.prog 89 [(.agg (TBasin.cells b)),(aI level)] [] 0 (aI r) []:=by
 unfold g_w_volume at h
 refine Sound.of_runs (fu:=Try.f89) (c:=C_116 1) (nt:=45) (by kernel_rfl) (by kernel_rfl) (by kernel_rfl) (by kernel_rfl) (fun hm=>rfl) ?_
 intro E hE
 refine Runs.nR hE 1 [] [] (kp [1,2]) (kq [0]) 32 pn ?_
 refine Runs.nR hE 1 [] [] (kp [1,2,5]) (kq [0]) 48 pn ?_
 refine Runs.nR hE 2 [] [] (kp [1,2,5,10,11,12]) (kq [0]) 112 (pc o1 pn) ?_
 exact Runs.nW hE 2 [] (kp [1,2,5,10,11,12]) (kq [0]) 1 pn (g_w_volume_L1_ok N _ _ N _ _ _ h E hE)
noncomputable def C_111 (n:Nat):Code:=cat (bodyOf Try.f57) (pth n)
theorem g_w_Volume_ok (N:Nat) (b:TBasin) (level:Int) (r:Int×Int) (h:g_w_Volume N b level=some r):Sound Try.prog 57 [(.agg (TBasin.cells b)),(aI level)] [] 0 (.tup [(aI r.1),(aI r.2)]) []:=by
 unfold g_w_Volume at h
 refine Sound.of_runs (fu:=Try.f57) (c:=C_111 1) (nt:=22) (by kernel_rfl) (by kernel_rfl) (by kernel_rfl) (by kernel_rfl) (fun hm=>rfl) ?_
 intro E hE
 refine Runs.nR hE 1 [] [] (kp [1,2]) (kq [0]) 48 pn ?_
 obtain ⟨rCheckBasin,hr,h⟩:=bindSome h
 refine Runs.nR hE 2 [(1,⟨[],true,(aI rCheckBasin),[],0,false,none⟩)] [] (kp [1,2,6]) (kq [0]) 96 (pc o1 (pc (g_w_CheckBasin_ok N b rCheckBasin hr) pn)) ?_
 refine Runs.nR hE 1 [] [] (kp [1,2,6,10]) (kq [0]) 128 pn ?_
 refine Runs.nC 0 10 h (fun hq2 h=>?_) (fun hq2 h=>?_)
 ·refine Runs.nR hE 1 [] [] (kp [4,5]) [] 176 pn ?_
  obtain rfl:=Option.some.inj h
  exact Runs.nT hE 0 Try.f57 [] (kp [4,5]) [] 176 pn [] pn
 ·obtain ⟨rfloor,hr2,h⟩:=bindSome h
  obtain ⟨rBt,hr3,h⟩:=bindSome h
  refine Runs.nR hE 3 [(2,⟨[],true,(aI rfloor),[],0,false,none⟩),(5,⟨[],true,(aB rBt),[],0,false,none⟩)] [] (kp [1,2,18]) (kq [0]) 240 (pc o1 (pc (g_w_floor_ok N b rfloor hr2) (pc o1 (pc (g_w_between_ok N level rfloor b.f_Rim rBt hr3) pn)))) ?_
  refine Runs.nC 0 18 h (fun hq3 h=>?_) (fun hq3 h=>?_)
  ·refine Runs.nR hE 1 [] [] (kp [4,5]) [] 272 pn ?_
   obtain rfl:=Option.some.inj h
   exact Runs.nT hE 0 Try.f57 [] (kp [4,5]) [] 272 pn [] pn
  ·obtain ⟨rvolume,hr4,h⟩:=bindSome h
   refine Runs.nR hE 2 [(2,⟨[],true,(aI rvolume),[],0,false,none⟩)] [] (kp [4,5]) [] 320 (pc o1 (pc (g_w_volume_ok N b level rvolume hr4) pn)) ?_
   obtain rfl:=Option.some.inj h
   exact Runs.nT hE 0 Try.f57 [] (kp [4,5]) [] 320 pn [] pn
noncomputable def C_110 (n:Nat):Code:=cat (bodyOf Try.f24) (pth n)
theorem g_keelblocktop_wet_ok (N:Nat) (r:Bool) (h:g_keelblocktop_wet N=some r):Sound Try.prog 24 [] [] 0 (aB r) []:=by
 unfold g_keelblocktop_wet at h
 refine Sound.of_runs (fu:=Try.f24) (c:=C_110 1) (nt:=16) (by kernel_rfl) (by kernel_rfl) (by kernel_rfl) (by kernel_rfl) (fun hm=>rfl) ?_
 intro E hE
 refine Runs.nR hE 1 [] [] [] [] 16 pn ?_
 obtain ⟨rVolume,hr,h⟩:=bindSome h
 refine Runs.nR hE 1 [(3,⟨[],true,(.tup [(aI rVolume.1),(aI rVolume.2)]),[],0,false,none⟩)] [] (kp [1,2]) [] 160 (pc (show Sound Try.prog 57 [(.agg [(aS (⟨#[65]⟩:ByteArray)),(.sl 1 (fun zi=>(fun zi=>([[(aI 0),(aI 100)]]:List (List AV)).getD zi []) (addz 0 zi))),(aI 50)]),(aI 30)] [] 0 (.tup [(aI rVolume.1),(aI rVolume.2)]) [] from (Sound.conv (g_w_Volume_ok N (⟨(⟨#[65]⟩:ByteArray),([(⟨0,100⟩:TArea)]:List TArea),50⟩:TBasin) 30 rVolume hr) (.cons (Alike.agg (.cons (Alike.refl _) (.cons (Alike.sl rfl (fun zq hzq=>get_chunk TArea.cells TArea.d ([(⟨0,100⟩:TArea)]:List TArea) zq hzq)) (.cons (Alike.refl _) .nil)))) (.cons (Alike.refl _) .nil)))) (pc (z1 1) pn)) ?_
 refine Runs.nR hE 1 [] [] (kp [0]) [] 272 (pc (fun hg:(rVolume.2 == 0)=true=>(pc hg pn)) (pc (fun hq:(rVolume.2 == 0)=true=>(pc hq pn)) pn)) ?_
 obtain rfl:=Option.some.inj h
 exact Runs.nT hE 0 Try.f24 [] (kp [0]) [] 272 pn [] pn
noncomputable def C_120 (n:Nat):Code:=cat (bodyOf Try.f64) (pth n)
def g_slices_Compact_int_int_L1_H (N:Nat) (cap0:List Int) (K:Int→Option ((List Int)×(List Int))):Prop:=∀ (k:Int) (r:(List Int)×(List Int)),K k=some r→∀ E,EnvOk E 1→Runs Try.prog E 64 61 (SPost E [(0,aO 1 cI 0 r.2)] (.os 0 0 r.2.length)) [.code (C_120 116),.inLoop (C_120 116),.inBlock 0,.code (C_120 15)] ⟨[(0,(.os 0 0 cap0.length)),(3,(aI k))],[(0,aO 1 cI 0 cap0)],1⟩
def g_slices_Compact_int_int_L2_H (N:Nat) (cap0:List Int) (k:Int) (K:(List Int)→Int→Int→Option ((List Int)×(List Int))):Prop:=∀ (cap02:List Int) (k2:Int) (k22:Int) (r:(List Int)×(List Int)),K cap02 k2 k22=some r→∀ E,EnvOk E 1→Runs Try.prog E 64 61 (SPost E [(0,aO 1 cI 0 r.2)] (.os 0 0 r.2.length)) [.code (C_120 119380),.inLoop (C_120 119380),.inBlock 2,.code (C_120 14923),.inBlock 1,.code (C_120 467),.inLoop (C_120 116),.inBlock 0,.code (C_120 15)] ⟨[(0,(.os 0 0 cap02.length)),(3,(aI k2)),(4,(.os 0 ((k).toNat) (cap0.length - (k).toNat))),(5,(aI k22))],[(0,aO 1 cI 0 cap02)],1⟩
def g_slices_Compact_int_int_J3_H (N:Nat) (cap0:List Int) (k:Int) (k22:Int) (K:(List Int)→Int→Option ((List Int)×(List Int))):Prop:=∀ (cap03:List Int) (k3:Int) (r:(List Int)×(List Int)),K cap03 k3=some r→∀ E,EnvOk E 1→Runs Try.prog E 64 61 (SPost E [(0,aO 1 cI 0 r.2)] (.os 0 0 r.2.length)) [.code (C_120 477523),.inLoop (C_120 119380),.inBlock 2,.code (C_120 14923),.inBlock 1,.code (C_120 467),.inLoop (C_120 116),.inBlock 0,.code (C_120 15)] ⟨[(0,(.os 0 0 cap03.length)),(3,(aI k3)),(4,(.os 0 ((k).toNat) (cap0.length - (k).toNat))),(5,(aI k22))],[(0,aO 1 cI 0 cap03)],1⟩
theorem g_slices_Compact_int_int_J3_ok (N:Nat) (cap0:List Int) (k:Int) (k22:Int) (K_g_slices_Compact_int_int_L2:(List Int)→Int→Int→Option ((List Int)×(List Int))) (K_g_slices_Compact_int_int_L1:Int→Option ((List Int)×(List Int))) (hK_g_slices_Compact_int_int_L2:g_slices_Compact_int_int_L2_H N cap0 k K_g_slices_Compact_int_int_L2) (hK_g_slices_Compact_int_int_L1:g_slices_Compact_int_int_L1_H N cap0 K_g_slices_Compact_int_int_L1):g_slices_Compact_int_int_J3_H N cap0 k k22 (g_slices_Compact_int_int_J3 N cap0 k k22 K_g_slices_Compact_int_int_L2 K_g_slices_Compact_int_int_L1):=by
 intro cap03 k3 r h E hE
 unfold g_slices_Compact_int_int_J3 at h
 refine Runs.nR hE 0 [] [] (kp [0,3,4,5]) (kq [0]) 49 pn ?_
 exact Runs.nW hE 1 [] (kp [0,3,4,5]) (kq [0]) 1 pn (hK_g_slices_Compact_int_int_L2 _ _ _ _ h E hE)
theorem g_slices_Compact_int_int_L2_ok (N:Nat) (cap0:List Int) (k:Int) (K_g_slices_Compact_int_int_L1:Int→Option ((List Int)×(List Int))) (hK_g_slices_Compact_int_int_L1:g_slices_Compact_int_int_L1_H N cap0 K_g_slices_Compact_int_int_L1) (fuel:Nat):g_slices_Compact_int_int_L2_H N cap0 k (g_slices_Compact_int_int_L2 N cap0 k K_g_slices_Compact_int_int_L1 fuel):=by
 induction fuel with
 | zero=>intro _ _ _ r h;rw [g_slices_Compact_int_int_L2.eq_1] at h;cases h
 | succ fuel ih =>
  intro cap02 k2 k22 r h E hE
  rw [g_slices_Compact_int_int_L2.eq_2] at h
  refine Runs.nR hE 2 [] [] (kp [0,3,4,5,32]) (kq [0]) 65 pn ?_
  refine Runs.nC 0 32 h (fun hq5 h=>?_) (fun hq5 h=>?_)
  ·obtain ⟨c5,h⟩:=ifSome h
   obtain ⟨c6,h⟩:=ifSome h
   obtain ⟨c7,h⟩:=ifSome h
   refine Runs.nR hE 4 [] [] (kp [0,3,4,5,44]) (kq [0]) 225 (pc c5 (pc (show (addz (k).toNat (k22).toNat) < cap02.length by have h1:=c5;have h2:=c6;simp only [addz_eq];omega) (pc c7 (pc (show (addz (k).toNat (w64 (k22 - 1)).toNat) < cap02.length by have h1:=c7;have h2:=c6;simp only [addz_eq];omega) pn)))) ?_
   refine Runs.nC 0 44 h (fun hq6 h=>?_) (fun hq6 h=>?_)
   ·obtain ⟨c8,h⟩:=ifSome h
    refine Runs.nR hE 1 [] [] ([(0,.osl ((cap02.set ((k2).toNat) (cap02.getD (addz (k).toNat (k22).toNat) 0)).length))] ++ kp [3,4,5]) [(0,.arr 0 ((cap02.set ((k2).toNat) (cap02.getD (addz (k).toNat (k22).toNat) 0)).length) (fun zi=>cI ((cap02.set ((k2).toNat) (cap02.getD (addz (k).toNat (k22).toNat) 0)).getD zi 0)))] 353 (pc c5 (pc (show (addz (k).toNat (k22).toNat) < cap02.length by have h1:=c5;have h2:=c6;simp only [addz_eq];omega) (pc c8 (pc (ltOf c8) (pc (len_set0 cap02 ((k2).toNat) (cap02.getD (addz (k).toNat (k22).toNat) 0)) (pc (len_set0 cap02 ((k2).toNat) (cap02.getD (addz (k).toNat (k22).toNat) 0)) (pc (get_set0 cI 0 cap02 ((k2).toNat) (cap02.getD (addz (k).toNat (k22).toNat) 0)) pn))))))) ?_
    refine Runs.nR hE 0 [] [] (kp [0,3,4,5]) (kq [0]) 401 pn ?_
    exact Runs.nW hE 1 [] (kp [0,3,4,5]) (kq [0]) 1 pn (g_slices_Compact_int_int_J3_ok N _ _ _ _ _ ih hK_g_slices_Compact_int_int_L1 _ _ _ h E hE)
   ·exact Runs.nW hE 2 [] (kp [0,3,4,5]) (kq [0]) 1 pn (g_slices_Compact_int_int_J3_ok N _ _ _ _ _ ih hK_g_slices_Compact_int_int_L1 _ _ _ h E hE)
  ·obtain ⟨c9,h⟩:=ifSome h
   obtain ⟨c10,h⟩:=ifSome h
   obtain ⟨c11,h⟩:=ifSome h
   refine Runs.nR hE 2 [(3,⟨[],false,.unk,[],0,false,none⟩)] [] (kp [0,3]) [(0,.arr 0 ((cap02.take ((k2).toNat)).length) (fun zi=>cI ((cap02.take ((k2).toNat)).getD zi 0)))] 129 (pc c9 (pc c10 (pc c11 (pc (show (k2).toNat=(cap02.take ((k2).toNat)).length from (len_tk c11)) (pc (show ∀ zi,zi < (cap02.take ((k2).toNat)).length→(fun zi=>cI ((cap02.take ((k2).toNat)).getD zi 0)) zi=(fun zi=>cI (cap02.getD zi 0)) zi from (fun zq hzq=>get_tk cI 0 cap02 ((k2).toNat) zq hzq)) pn))))) ?_
   obtain ⟨c12,h⟩:=ifSome h
   refine Runs.nR hE 1 [] [] [(2,.osl ((cap02.take ((k2).toNat)).length))] (kq [0]) 193 (pc c12 (pc c10 (pc (show ((k2).toNat - 0)=(cap02.take ((k2).toNat)).length from (len_tk c11)) pn))) ?_
   obtain rfl:=Option.some.inj h
   exact Runs.nT hE 0 Try.f64 [] (kp [2]) (kq [0]) 193 pn [] pn
theorem g_slices_Compact_int_int_L1_ok (N:Nat) (cap0:List Int) (fuel:Nat):g_slices_Compact_int_int_L1_H N cap0 (g_slices_Compact_int_int_L1 N cap0 fuel):=by
 induction fuel with
 | zero=>intro _ r h;rw [g_slices_Compact_int_int_L1.eq_1] at h;cases h
 | succ fuel ih =>
  intro k r h E hE
  rw [g_slices_Compact_int_int_L1.eq_2] at h
  refine Runs.nR hE 2 [] [] (kp [0,3,13]) (kq [0]) 65 pn ?_
  refine Runs.nC 0 13 h (fun hq3 h=>?_) (fun hq3 h=>?_)
  ·obtain ⟨c,h⟩:=ifSome h
   obtain ⟨c2,h⟩:=ifSome h
   refine Runs.nR hE 4 [] [] (kp [0,3,25]) (kq [0]) 225 (pc c (pc (ltOf c) (pc c2 (pc (ltOf c2) pn)))) ?_
   refine Runs.nC 0 25 h (fun hq4 h=>?_) (fun hq4 h=>?_)
   ·obtain ⟨c3,h⟩:=ifSome h
    obtain ⟨c4,h⟩:=ifSome h
    refine Runs.nR hE 1 [] [] (kp [0,3,4]) (kq [0]) 289 (pc c3 (pc c4 pn)) ?_
    refine Runs.nR hE 2 [] [] (kp [0,3,4,5]) (kq [0]) 305 pn ?_
    exact Runs.nW hE 2 [] (kp [0,3,4,5]) (kq [0]) 1 pn (g_slices_Compact_int_int_L2_ok N _ _ _ ih N _ _ _ _ h E hE)
   ·refine Runs.nR hE 2 [] [] (kp [0,3]) (kq [0]) 273 pn ?_
    exact Runs.nW hE 1 [] (kp [0,3]) (kq [0]) 1 pn (ih _ _ h E hE)
  ·refine Runs.nR hE 2 [] [] (kp [2]) (kq [0]) 97 pn ?_
   obtain rfl:=Option.some.inj h
   exact Runs.nT hE 0 Try.f64 [] (kp [2]) (kq [0]) 97 pn [] pn
theorem g_slices_Compact_int_int_ok (N:Nat) (cap0:List Int) (r:(List Int)×(List Int)) (h:g_slices_Compact_int_int N cap0=some r):Sound Try.prog 64 [(.os 0 0 cap0.length)] [(0,aO 1 cI 0 cap0)] 1 (.os 0 0 r.2.length) [(0,aO 1 cI 0 r.2)]:=by
 unfold g_slices_Compact_int_int at h
 refine Sound.of_runs (fu:=Try.f64) (c:=C_120 1) (nt:=61) (by kernel_rfl) (by kernel_rfl) (by kernel_rfl) (by kernel_rfl) (fun hm=>absurd hm (by decide)) ?_
 intro E hE
 refine Runs.nR hE 1 [] [] (kp [0]) (kq [0]) 17 pn ?_
 refine Runs.nR hE 2 [] [] (kp [0,8]) (kq [0]) 65 pn ?_
 refine Runs.nC 0 8 h (fun hq2 h=>?_) (fun hq2 h=>?_)
 ·refine Runs.nR hE 1 [] [] (kp [2]) (kq [0]) 97 pn ?_
  obtain rfl:=Option.some.inj h
  exact Runs.nT hE 0 Try.f64 [] (kp [2]) (kq [0]) 97 pn [] pn
 ·refine Runs.nR hE 3 [] [] (kp [0,3]) (kq [0]) 81 pn ?_
  exact Runs.nW hE 2 [] (kp [0,3]) (kq [0]) 1 pn (g_slices_Compact_int_int_L1_ok N _ N _ _ h E hE)
noncomputable def C_119 (n:Nat):Code:=cat (bodyOf Try.f32) (pth n)
def g_berth_sums_L1_H (N:Nat) (sizes:List Int) (but:Int) (gap:Int) (K:(List Int)→Int→Option ((List Int))):Prop:=∀ (out:List Int) (x:Int) (r:(List Int)),K out x=some r→∀ E,EnvOk E 0→Runs Try.prog E 32 44 (SPost E [(0,aO 1 cI 0 r)] (.os 0 0 r.length)) [.code (C_119 116),.inLoop (C_119 116),.inBlock 0,.code (C_119 15)] ⟨[(1,(aI but)),(2,(aI gap)),(7,(.os 0 0 out.length)),(14,(encL cI 0 sizes)),(15,(aI ((sizes.length:Nat):Int))),(16,(aI x))],[(0,aO 1 cI 0 out)],1⟩
def g_berth_sums_J2_H (N:Nat) (sizes:List Int) (but:Int) (gap:Int) (x:Int) (K:(List Int)→Option ((List Int))):Prop:=∀ (out2:List Int) (r:(List Int)),K out2=some r→∀ E,EnvOk E 0→Runs Try.prog E 32 44 (SPost E [(0,aO 1 cI 0 r)] (.os 0 0 r.length)) [.code (C_119 935),.inLoop (C_119 116),.inBlock 0,.code (C_119 15)] ⟨[(1,(aI but)),(2,(aI gap)),(7,(.os 0 0 out2.length)),(14,(encL cI 0 sizes)),(15,(aI ((sizes.length:Nat):Int))),(16,(aI x))],[(0,aO 1 cI 0 out2)],1⟩
theorem g_berth_sums_J2_ok (N:Nat) (sizes:List Int) (but:Int) (gap:Int) (x:Int) (K_g_berth_sums_L1:(List Int)→Int→Option ((List Int))) (hK_g_berth_sums_L1:g_berth_sums_L1_H N sizes but gap K_g_berth_sums_L1):g_berth_sums_J2_H N sizes but gap x (g_berth_sums_J2 N sizes but gap x K_g_berth_sums_L1):=by
 intro out2 r h E hE
 unfold g_berth_sums_J2 at h
 refine Runs.nR hE 0 [] [] (kp [1,2,7,14,15,16]) (kq [0]) 33 pn ?_
 exact Runs.nW hE 1 [] (kp [1,2,7,14,15,16]) (kq [0]) 1 pn (hK_g_berth_sums_L1 _ _ _ h E hE)
def g_berth_sums_L3_H (N:Nat) (sizes:List Int) (but:Int) (gap:Int) (out:List Int) (x:Int) (K:(List Int)→Nat→Int→Option ((List Int))):Prop:=∀ (out3:List Int) (xn:Nat) (x2:Int) (r:(List Int)),K out3 xn x2=some r→∀ E,EnvOk E 0→Runs Try.prog E 32 44 (SPost E [(0,aO 1 cI 0 r)] (.os 0 0 r.length)) [.code (C_119 59804),.inLoop (C_119 59804),.inBlock 2,.inBlock 1,.code (C_119 935),.inLoop (C_119 116),.inBlock 0,.code (C_119 15)] ⟨[(1,(aI but)),(2,(aI gap)),(7,(.os 0 0 out3.length)),(9,(aI (sizes.getD ((x).toNat) 0))),(14,(encL cI 0 sizes)),(15,(aI ((sizes.length:Nat):Int))),(16,(aI x)),(24,(.os 0 0 xn)),(25,(aI ((out.length:Nat):Int))),(26,(aI x2))],[(0,aO 1 cI 0 out3)],1⟩
theorem g_berth_sums_L3B_ok (N:Nat) (sizes:List Int) (but:Int) (gap:Int) (out:List Int) (x:Int) (K_g_berth_sums_L1:(List Int)→Int→Option ((List Int))) (hK_g_berth_sums_L1:g_berth_sums_L1_H N sizes but gap K_g_berth_sums_L1) (fuel:Nat) :
  ∀ (out3 rt:List Int) (xn:Nat) (x2:Int) (r:List Int),xn≤rt.length→(∀ j,j < xn→out3.getD j 0=rt.getD j 0)→g_berth_sums_L3 N sizes but gap out x K_g_berth_sums_L1 fuel out3 xn x2=some r→∀ E,EnvOk E 0 →
  Runs Try.prog E 32 44 (SPost E [(0,aO 1 cI 0 r)] (.os 0 0 r.length)) [.code (C_119 59804),.inLoop (C_119 59804),.inBlock 2,.inBlock 1,.code (C_119 935),.inLoop (C_119 116),.inBlock 0,.code (C_119 15)] ⟨[(1,(aI but)),(2,(aI gap)),(7,(.os 0 0 out3.length)),(9,(aI (sizes.getD ((x).toNat) 0))),(14,(encL cI 0 sizes)),(15,(aI ((sizes.length:Nat):Int))),(16,(aI x)),(24,(.os 1 0 xn)),(25,(aI ((out.length:Nat):Int))),(26,(aI x2))],[(0,aO 1 cI 0 out3),(1,aO 1 cI 0 rt)],2⟩:=by
 induction fuel with
 | zero=>intro _ _ _ _ r _ _ h;rw [g_berth_sums_L3.eq_1] at h;cases h
 | succ fuel ih =>
  intro out3 rt xn x2 r hle hp h E hE
  rw [g_berth_sums_L3.eq_2] at h
  refine Runs.nR hE 1 [] [] (kp [1,2,7,9,14,15,16,24,25,26,27]) (kq [0,1]) 18 pn ?_
  refine Runs.nC 1 27 h (fun hq4 h=>?_) (fun hq4 h=>?_)
  ·obtain ⟨c2,h⟩:=ifSome h
   obtain ⟨c3,h⟩:=ifSome h
   obtain ⟨c4,h⟩:=ifSome h
   have hv:=hp x2.toNat (ltOf c2)
   generalize hL:out3 ++ ([(w64 ((w64 ((rt.getD ((x2).toNat) 0)+(sizes.getD ((x).toNat) 0)))+gap))]:List Int)=L
   rw [hv,hL] at h
   refine Runs.nR hE 4 [] [] (kp [1,2,7,9,11,14,15,16,24,25,26]) (kq [0,1]) 66 (pc c2 (pc (show (x2).toNat < rt.length by have h1:=ltOf c2;omega) pn)) ?_
   refine Runs.nR hE 0 [] [] (kp [1,2] ++ [(7,.osl L.length)] ++ kp [9,14,15,16,24,25,26]) (kq [1] ++ [(178,.arr 178 L.length (fun zi=>cI (L.getD zi 0)))]) 210 (pc (Eq.refl out3.length) (pc c4 (pc (z1 1) (pc (show ∀ zi,zi < 1→AV.oneL ((fun zi=>([[(aI (w64 ((w64 ((rt.getD ((x2).toNat) 0)+(sizes.getD ((x).toNat) 0)))+gap)))]]:List (List AV)).getD zi []) (addz 0 zi))=true from (oneN rfl)) (pc (show (out3.length+1)=L.length by rw [← hL];exact (len_app_raw rfl rfl)) (pc (show out3.length+1=L.length by rw [← hL];exact (len_app_raw rfl rfl)) (pc (show ∀ zi,zi < L.length→(fun zi=>cI (L.getD zi 0)) zi=((fun zm=>if zm < out3.length then (fun zi=>cI (out3.getD zi 0)) zm else (fun zi=>(fun zi=>([[(aI (w64 ((w64 ((rt.getD ((x2).toNat) 0)+(sizes.getD ((x).toNat) 0)))+gap)))]]:List (List AV)).getD zi []) (addz 0 zi)) (zm - out3.length))) zi by rw [← hL];exact (fun zq hzq=>get_app_raw cI 0 out3 ([(w64 ((w64 ((rt.getD ((x2).toNat) 0)+(sizes.getD ((x).toNat) 0)))+gap))]:List Int) rfl (fun _ _=>rfl) (fun zq hzq=>get_chunk cI 0 ([(w64 ((w64 ((rt.getD ((x2).toNat) 0)+(sizes.getD ((x).toNat) 0)))+gap))]:List Int) zq hzq) zq hzq)) pn))))))) ?_
   refine Runs.nR hE 1 [] [] (kp [1,2,7,9,14,15,16,24,25,26]) (kq [1,178]) 242 pn ?_
   exact Runs.nW hE 1 [] (kp [1,2,7,9,14,15,16,24,25,26]) [(0,.keep 178),(1,.keep 1)] 2 pn (ih L rt xn _ _ hle (fun j hj=>by rw [← hL,List.getD_eq_getElem?_getD,List.getElem?_append_left (by omega),← List.getD_eq_getElem?_getD];exact hp j hj) h E hE)
  ·exact Runs.nW hE 2 [] (kp [1,2,7,14,15,16]) (kq [0]) 1 pn (g_berth_sums_J2_ok N _ _ _ _ _ hK_g_berth_sums_L1 _ _ h E hE)
theorem g_berth_sums_L3S_ok (N:Nat) (sizes:List Int) (but:Int) (gap:Int) (out:List Int) (x:Int) (K_g_berth_sums_L1:(List Int)→Int→Option ((List Int))) (hK_g_berth_sums_L1:g_berth_sums_L1_H N sizes but gap K_g_berth_sums_L1) (fuel:Nat)
  (out3:List Int) (xn:Nat) (x2:Int) (r:List Int) (c3:0+xn≤out3.length) (c4:(out3.length+1) * 8≤140737488355328)
  (h:g_berth_sums_L3 N sizes but gap out x K_g_berth_sums_L1 fuel (out3 ++ ([(w64 ((w64 ((out3.getD ((x2).toNat) 0)+(sizes.getD ((x).toNat) 0)))+gap))]:List Int)) xn (w64 (x2+1))=some r) (E:Env) (hE:EnvOk E 0) :
  Runs Try.prog E 32 44 (SPost E [(0,aO 1 cI 0 r)] (.os 0 0 r.length)) [.code (C_119 1913753),.inBlock 3,.code (C_119 478439),.inLoop (C_119 59804),.inBlock 2,.inBlock 1,.code (C_119 935),.inLoop (C_119 116),.inBlock 0,.code (C_119 15)]
   ⟨[(7,.osf 0 out3.length),(1,(aI but)),(2,(aI gap)),(7,(.os 0 0 out3.length)),(9,(aI (sizes.getD ((x).toNat) 0))),(11,(aI (out3.getD ((x2).toNat) 0))),(14,(encL cI 0 sizes)),(15,(aI ((sizes.length:Nat):Int))),(16,(aI x)),(24,(.os 0 0 xn)),(25,(aI ((out.length:Nat):Int))),(26,(aI x2))],[(0,aO 1 cI 0 out3)],65⟩:=by
 generalize hL:out3 ++ ([(w64 ((w64 ((out3.getD ((x2).toNat) 0)+(sizes.getD ((x).toNat) 0)))+gap))]:List Int)=L at h
 refine Runs.nR hE 0 [(7,⟨[],false,.tup [],[],0,false,none⟩)] [] (kp [1,2] ++ [(7,.osl L.length)] ++ kp [9,14,15,16,24,25,26]) (kq [0] ++ [(177,.arr 177 L.length (fun zi=>cI (L.getD zi 0)))]) 209 (pc (show 0 < 1∧out3.length=out3.length from ⟨Nat.one_pos,rfl⟩) (pc c4 (pc (show ∀ zi,zi < out3.length→AV.oneL (cI (out3.getD zi 0))=true from fun _ _=>rfl) (pc (z1 1) (pc (show ∀ zi,zi < 1→AV.oneL ((fun zi=>([[(aI (w64 ((w64 ((out3.getD ((x2).toNat) 0)+(sizes.getD ((x).toNat) 0)))+gap)))]]:List (List AV)).getD zi []) (addz 0 zi))=true from (oneN rfl)) (pc (show (out3.length+1)=L.length by rw [← hL];exact (len_app_raw rfl rfl)) (pc (show out3.length+1=L.length by rw [← hL];exact (len_app_raw rfl rfl)) (pc (show ∀ zi,zi < L.length→(fun zi=>cI (L.getD zi 0)) zi=((fun zm=>if zm < out3.length then (fun zi=>cI (out3.getD zi 0)) zm else (fun zi=>(fun zi=>([[(aI (w64 ((w64 ((out3.getD ((x2).toNat) 0)+(sizes.getD ((x).toNat) 0)))+gap)))]]:List (List AV)).getD zi []) (addz 0 zi)) (zm - out3.length))) zi by rw [← hL];exact (fun zq hzq=>get_app_raw cI 0 out3 ([(w64 ((w64 ((out3.getD ((x2).toNat) 0)+(sizes.getD ((x).toNat) 0)))+gap))]:List Int) rfl (fun _ _=>rfl) (fun zq hzq=>get_chunk cI 0 ([(w64 ((w64 ((out3.getD ((x2).toNat) 0)+(sizes.getD ((x).toNat) 0)))+gap))]:List Int) zq hzq) zq hzq)) pn)))))))) ?_
 refine Runs.nR hE 1 [] [] (kp [1,2,7,9,14,15,16,24,25,26]) (kq [0,177]) 241 pn ?_
 exact Runs.nW hE 1 [] (kp [1,2,7,9,14,15,16,24,25,26]) [(0,.keep 177),(1,.keep 0)] 2 pn (g_berth_sums_L3B_ok N _ _ _ _ _ _ hK_g_berth_sums_L1 fuel L out3 xn _ _ (by omega) (fun j hj=>by rw [← hL,List.getD_eq_getElem?_getD,List.getElem?_append_left (by omega),← List.getD_eq_getElem?_getD]) h E hE)
theorem g_berth_sums_L3_ok (N:Nat) (sizes:List Int) (but:Int) (gap:Int) (out:List Int) (x:Int) (K_g_berth_sums_L1:(List Int)→Int→Option ((List Int))) (hK_g_berth_sums_L1:g_berth_sums_L1_H N sizes but gap K_g_berth_sums_L1) (fuel:Nat):g_berth_sums_L3_H N sizes but gap out x (g_berth_sums_L3 N sizes but gap out x K_g_berth_sums_L1 fuel):=by
 induction fuel with
 | zero=>intro _ _ _ r h;rw [g_berth_sums_L3.eq_1] at h;cases h
 | succ fuel ih =>
  intro out3 xn x2 r h E hE
  rw [g_berth_sums_L3.eq_2] at h
  refine Runs.nR hE 1 [] [] (kp [1,2,7,9,14,15,16,24,25,26,27]) (kq [0]) 17 pn ?_
  refine Runs.nC 1 27 h (fun hq4 h=>?_) (fun hq4 h=>?_)
  ·obtain ⟨c2,h⟩:=ifSome h
   obtain ⟨c3,h⟩:=ifSome h
   refine Runs.nR hE 4 [] [] (kp [1,2,7,9,11,14,15,16,24,25,26]) (kq [0]) 65 (pc c2 (pc (show (x2).toNat < out3.length by have h1:=c2;have h2:=c3;omega) pn)) ?_
   obtain ⟨c4,h⟩:=ifSome h
   refine Runs.sA 0 [.code (C_119 1913753),.inBlock 3,.code (C_119 478439),.inLoop (C_119 59804),.inBlock 2,.inBlock 1,.code (C_119 935),.inLoop (C_119 116),.inBlock 0,.code (C_119 15)] ?_
   refine Runs.split 7 0 out3.length (aO 1 cI 0 out3) (by kernel_rfl) (by kernel_rfl) (by kernel_rfl) rfl ?_ (g_berth_sums_L3S_ok N _ _ _ _ _ _ hK_g_berth_sums_L1 fuel _ _ _ _ c3 c4 h E hE)
   refine Runs.nR hE 0 [(7,⟨[],false,.nil,[],0,false,none⟩)] [] (kp [1,2] ++ [(7,.osl ((out3 ++ ([(w64 ((w64 ((out3.getD ((x2).toNat) 0)+(sizes.getD ((x).toNat) 0)))+gap))]:List Int)).length))] ++ kp [9,14,15,16,24,25,26]) [(0,.arr 0 ((out3 ++ ([(w64 ((w64 ((out3.getD ((x2).toNat) 0)+(sizes.getD ((x).toNat) 0)))+gap))]:List Int)).length) (fun zi=>cI ((out3 ++ ([(w64 ((w64 ((out3.getD ((x2).toNat) 0)+(sizes.getD ((x).toNat) 0)))+gap))]:List Int)).getD zi 0)))] 209 (pc (show 0 < 1∧out3.length+1≤out3.length+1 from ⟨Nat.one_pos,Nat.le_refl _⟩) (pc (show ∀ zi,zi < out3.length+1→noMrL (if zi < out3.length then cI (out3.getD zi 0) else unL 1)=true from (noMr_room _ (fun _=>rfl))) (pc (z1 1) (pc (show ∀ zi,zi < 1→AV.oneL ((fun zi=>([[(aI (w64 ((w64 ((out3.getD ((x2).toNat) 0)+(sizes.getD ((x).toNat) 0)))+gap)))]]:List (List AV)).getD zi []) (addz 0 zi))=true from (oneN rfl)) (pc (show (out3.length+1)=(out3 ++ ([(w64 ((w64 ((out3.getD ((x2).toNat) 0)+(sizes.getD ((x).toNat) 0)))+gap))]:List Int)).length from (len_app_raw rfl rfl)) (pc (show out3.length+1=(out3 ++ ([(w64 ((w64 ((out3.getD ((x2).toNat) 0)+(sizes.getD ((x).toNat) 0)))+gap))]:List Int)).length from (len_app_raw rfl rfl)) (pc (show ∀ zi,zi < (out3 ++ ([(w64 ((w64 ((out3.getD ((x2).toNat) 0)+(sizes.getD ((x).toNat) 0)))+gap))]:List Int)).length→(fun zi=>cI ((out3 ++ ([(w64 ((w64 ((out3.getD ((x2).toNat) 0)+(sizes.getD ((x).toNat) 0)))+gap))]:List Int)).getD zi 0)) zi=((fun zm=>if zm < out3.length then (if zm < out3.length then cI (out3.getD zm 0) else unL 1) else if zm < out3.length+1 then (fun zi=>([[(aI (w64 ((w64 ((out3.getD ((x2).toNat) 0)+(sizes.getD ((x).toNat) 0)))+gap)))]]:List (List AV)).getD zi []) (addz 0 (zm - out3.length)) else (if zm < out3.length then cI (out3.getD zm 0) else unL 1))) zi from (fun zq hzq=>get_appR (g2:=fun zi=>([[(aI (w64 ((w64 ((out3.getD ((x2).toNat) 0)+(sizes.getD ((x).toNat) 0)))+gap)))]]:List (List AV)).getD zi []) cI 0 out3 ([(w64 ((w64 ((out3.getD ((x2).toNat) 0)+(sizes.getD ((x).toNat) 0)))+gap))]:List Int) 1 zq hzq)) pn))))))) ?_
   refine Runs.nR hE 1 [] [] (kp [1,2,7,9,14,15,16,24,25,26]) (kq [0]) 241 pn ?_
   exact Runs.nW hE 1 [] (kp [1,2,7,9,14,15,16,24,25,26]) (kq [0]) 1 pn (ih _ _ _ _ h E hE)
  ·exact Runs.nW hE 2 [] (kp [1,2,7,14,15,16]) (kq [0]) 1 pn (g_berth_sums_J2_ok N _ _ _ _ _ hK_g_berth_sums_L1 _ _ h E hE)
theorem g_berth_sums_L1_ok (N:Nat) (sizes:List Int) (but:Int) (gap:Int) (fuel:Nat):g_berth_sums_L1_H N sizes but gap (g_berth_sums_L1 N sizes but gap fuel):=by
 induction fuel with
 | zero=>intro _ _ r h;rw [g_berth_sums_L1.eq_1] at h;cases h
 | succ fuel ih =>
  intro out x r h E hE
  rw [g_berth_sums_L1.eq_2] at h
  refine Runs.nR hE 1 [] [] (kp [1,2,7,14,15,16,17]) (kq [0]) 17 pn ?_
  refine Runs.nC 1 17 h (fun hq2 h=>?_) (fun hq2 h=>?_)
  ·obtain ⟨c,h⟩:=ifSome h
   refine Runs.nR hE 4 [] [] (kp [1,2,7,8,9,14,15,16]) (kq [0]) 97 (pc c pn) ?_
   refine Runs.nR hE 2 [] [] (kp [1,2,7,9,14,15,16,23]) (kq [0]) 145 pn ?_
   refine Runs.nC 0 23 h (fun hq3 h=>?_) (fun hq3 h=>?_)
   ·exact Runs.nW hE 1 [] (kp [1,2,7,14,15,16]) (kq [0]) 1 pn (g_berth_sums_J2_ok N _ _ _ _ _ ih _ _ h E hE)
   ·refine Runs.nR hE 2 [] [] (kp [1,2,7,9,14,15,16,24,25,26]) (kq [0]) 193 pn ?_
    exact Runs.nW hE 2 [] (kp [1,2,7,9,14,15,16,24,25,26]) (kq [0]) 1 pn (g_berth_sums_L3_ok N _ _ _ _ _ _ ih N _ _ _ _ h E hE)
  ·obtain ⟨rSort,hr,h⟩:=bindSome h
   obtain ⟨c5,h⟩:=ifSome h
   refine Runs.nR hE 2 [(1,⟨[0],false,(.tup []),[(0,aO 1 cI 0 rSort)],0,false,none⟩)] [] [(7,.osl (rSort.length))] (kq [0]) 49 (pc (g_slices_Sort_int_int_ok N out rSort hr) (pc (show out.length=rSort.length from (Eq.symm c5)) pn)) ?_
   obtain ⟨rCompact,hr2,h⟩:=bindSome h
   refine Runs.nR hE 1 [(1,⟨[0],false,(.os 0 0 rCompact.2.length),[(0,aO 1 cI 0 rCompact.2)],0,false,none⟩)] [] (kp [6]) (kq [0]) 97 (pc (g_slices_Compact_int_int_ok N rSort rCompact hr2) pn) ?_
   obtain rfl:=Option.some.inj h
   exact Runs.nT hE 0 Try.f32 [] (kp [6]) (kq [0]) 97 pn [] pn
theorem g_berth_sums_ok (N:Nat) (sizes:List Int) (but:Int) (gap:Int) (r:(List Int)) (h:g_berth_sums N sizes but gap=some r):Sound Try.prog 32 [(encL cI 0 sizes),(aI but),(aI gap)] [] 0 (.os 0 0 r.length) [(0,aO 1 cI 0 r)]:=by
 unfold g_berth_sums at h
 refine Sound.of_runs (fu:=Try.f32) (c:=C_119 1) (nt:=44) (by kernel_rfl) (by kernel_rfl) (by kernel_rfl) (by kernel_rfl) (fun hm=>rfl) ?_
 intro E hE
 refine Runs.nR hE 1 [] [] (kp [0,1,2]) [] 16 pn ?_
 refine Runs.nR hE 1 [] [] (kp [0,1,2] ++ [(7,.osl (([gap]:List Int).length))]) [(32,.arr 32 (([gap]:List Int).length) (fun zi=>cI (([gap]:List Int).getD zi 0)))] 64 (pc (Eq.refl 1) (pc (Eq.refl 1) (pc (show ∀ zi,zi < ([gap]:List Int).length→(fun zi=>cI (([gap]:List Int).getD zi 0)) zi=(fun zi=>([[(aI gap)]]:List (List AV)).getD zi []) zi from (fun zq hzq=>get_chunk cI 0 ([gap]:List Int) zq hzq)) pn))) ?_
 refine Runs.nR hE 2 [] [] (kp [1,2,7,14,15,16]) (kq [32]) 112 pn ?_
 exact Runs.nW hE 2 [] (kp [1,2,7,14,15,16]) [(0,.keep 32)] 1 pn (g_berth_sums_L1_ok N _ _ _ N _ _ _ h E hE)
noncomputable def C_121 (n:Nat):Code:=cat (bodyOf Try.f33) (pth n)
theorem g_berth_inside_ok (N:Nat) (d:TDock) (b:Tberth_box) (r:Bool) (h:g_berth_inside N d b=some r):Sound Try.prog 33 [(.agg (TDock.cells d)),(.agg (Tberth_box.cells b))] [] 0 (aB r) []:=by
 unfold g_berth_inside at h
 refine Sound.of_runs (fu:=Try.f33) (c:=C_121 1) (nt:=43) (by kernel_rfl) (by kernel_rfl) (by kernel_rfl) (by kernel_rfl) (fun hm=>rfl) ?_
 intro E hE
 refine Runs.nR hE 1 [] [] (kp [2,3]) (kq [0,16]) 48 pn ?_
 refine Runs.nR hE 1 [] [] (kp [4]) [] 672 (pc o1 (pc o1 (pc (fun hg:(decide (b.f_x≥d.f_Gap))=true=>(pc hg (pc o1 pn))) (pc (fun hg:(decide (b.f_x≥d.f_Gap))=true=>(pc hg (pc o1 pn))) (pc (fun hg:(decide (b.f_x≥d.f_Gap))=true=>(pc hg (pc hg pn))) (pc (fun hq:(decide (b.f_x≥d.f_Gap))=true=>(pc hq pn)) (pc (fun hg:(cond (decide (b.f_x≥d.f_Gap)) (decide (b.f_y≥d.f_Gap)) false)=true=>(pc hg (pc o1 pn))) (pc (fun hg:(cond (decide (b.f_x≥d.f_Gap)) (decide (b.f_y≥d.f_Gap)) false)=true=>(pc hg (pc o1 pn))) (pc (fun hg:(cond (decide (b.f_x≥d.f_Gap)) (decide (b.f_y≥d.f_Gap)) false)=true=>(pc hg (pc hg pn))) (pc (fun hg:(cond (decide (b.f_x≥d.f_Gap)) (decide (b.f_y≥d.f_Gap)) false)=true=>(pc hg (pc o1 pn))) (pc (fun hg:(cond (decide (b.f_x≥d.f_Gap)) (decide (b.f_y≥d.f_Gap)) false)=true=>(pc hg (pc hg pn))) (pc (fun hg:(cond (decide (b.f_x≥d.f_Gap)) (decide (b.f_y≥d.f_Gap)) false)=true=>(pc hg (pc o1 pn))) (pc (fun hg:(cond (decide (b.f_x≥d.f_Gap)) (decide (b.f_y≥d.f_Gap)) false)=true=>(pc hg (pc hg pn))) (pc (fun hq:(cond (decide (b.f_x≥d.f_Gap)) (decide (b.f_y≥d.f_Gap)) false)=true=>(pc hq pn)) (pc (fun hg:(cond (cond (decide (b.f_x≥d.f_Gap)) (decide (b.f_y≥d.f_Gap)) false) (decide ((w64 ((w64 (b.f_x+b.f_w))+d.f_Gap))≤d.fLn)) false)=true=>(pc hg (pc o1 pn))) (pc (fun hg:(cond (cond (decide (b.f_x≥d.f_Gap)) (decide (b.f_y≥d.f_Gap)) false) (decide ((w64 ((w64 (b.f_x+b.f_w))+d.f_Gap))≤d.fLn)) false)=true=>(pc hg (pc o1 pn))) (pc (fun hg:(cond (cond (decide (b.f_x≥d.f_Gap)) (decide (b.f_y≥d.f_Gap)) false) (decide ((w64 ((w64 (b.f_x+b.f_w))+d.f_Gap))≤d.fLn)) false)=true=>(pc hg (pc hg pn))) (pc (fun hg:(cond (cond (decide (b.f_x≥d.f_Gap)) (decide (b.f_y≥d.f_Gap)) false) (decide ((w64 ((w64 (b.f_x+b.f_w))+d.f_Gap))≤d.fLn)) false)=true=>(pc hg (pc o1 pn))) (pc (fun hg:(cond (cond (decide (b.f_x≥d.f_Gap)) (decide (b.f_y≥d.f_Gap)) false) (decide ((w64 ((w64 (b.f_x+b.f_w))+d.f_Gap))≤d.fLn)) false)=true=>(pc hg (pc hg pn))) (pc (fun hg:(cond (cond (decide (b.f_x≥d.f_Gap)) (decide (b.f_y≥d.f_Gap)) false) (decide ((w64 ((w64 (b.f_x+b.f_w))+d.f_Gap))≤d.fLn)) false)=true=>(pc hg (pc o1 pn))) (pc (fun hg:(cond (cond (decide (b.f_x≥d.f_Gap)) (decide (b.f_y≥d.f_Gap)) false) (decide ((w64 ((w64 (b.f_x+b.f_w))+d.f_Gap))≤d.fLn)) false)=true=>(pc hg (pc hg pn))) (pc (fun hq:(cond (cond (decide (b.f_x≥d.f_Gap)) (decide (b.f_y≥d.f_Gap)) false) (decide ((w64 ((w64 (b.f_x+b.f_w))+d.f_Gap))≤d.fLn)) false)=true=>(pc hq pn)) pn)))))))))))))))))))))) ?_
 obtain rfl:=Option.some.inj h
 exact Runs.nT hE 0 Try.f33 [] (kp [4]) [] 672 pn [] pn
noncomputable def C_125 (n:Nat):Code:=cat (bodyOf Try.f36) (pth n)
theorem g_berth_apart_ok (N:Nat) (a:Tberth_box) (b:Tberth_box) (gap:Int) (r:Bool) (h:g_berth_apart N a b gap=some r):Sound Try.prog 36 [(.agg (Tberth_box.cells a)),(.agg (Tberth_box.cells b)),(aI gap)] [] 0 (aB r) []:=by
 unfold g_berth_apart at h
 refine Sound.of_runs (fu:=Try.f36) (c:=C_125 1) (nt:=53) (by kernel_rfl) (by kernel_rfl) (by kernel_rfl) (by kernel_rfl) (fun hm=>rfl) ?_
 intro E hE
 refine Runs.nR hE 1 [] [] (kp [2,3,4]) (kq [0,16]) 48 pn ?_
 refine Runs.nR hE 1 [] [] (kp [6]) [] 800 (pc o1 (pc o1 (pc o1 (pc (fun hg:(!(decide ((w64 ((w64 (a.f_x+a.f_w))+gap))≤b.f_x)))=true=>(pc hg (pc o1 pn))) (pc (fun hg:(!(decide ((w64 ((w64 (a.f_x+a.f_w))+gap))≤b.f_x)))=true=>(pc hg (pc o1 pn))) (pc (fun hg:(!(decide ((w64 ((w64 (a.f_x+a.f_w))+gap))≤b.f_x)))=true=>(pc hg (pc hg pn))) (pc (fun hg:(!(decide ((w64 ((w64 (a.f_x+a.f_w))+gap))≤b.f_x)))=true=>(pc hg (pc hg pn))) (pc (fun hg:(!(decide ((w64 ((w64 (a.f_x+a.f_w))+gap))≤b.f_x)))=true=>(pc hg (pc o1 pn))) (pc (fun hg:(!(decide ((w64 ((w64 (a.f_x+a.f_w))+gap))≤b.f_x)))=true=>(pc hg (pc hg pn))) (pc (fun hq:(!(decide ((w64 ((w64 (a.f_x+a.f_w))+gap))≤b.f_x)))=true=>(pc hq pn)) (pc (fun hg:(!(cond (decide ((w64 ((w64 (a.f_x+a.f_w))+gap))≤b.f_x)) true (decide ((w64 ((w64 (b.f_x+b.f_w))+gap))≤a.f_x))))=true=>(pc hg (pc o1 pn))) (pc (fun hg:(!(cond (decide ((w64 ((w64 (a.f_x+a.f_w))+gap))≤b.f_x)) true (decide ((w64 ((w64 (b.f_x+b.f_w))+gap))≤a.f_x))))=true=>(pc hg (pc o1 pn))) (pc (fun hg:(!(cond (decide ((w64 ((w64 (a.f_x+a.f_w))+gap))≤b.f_x)) true (decide ((w64 ((w64 (b.f_x+b.f_w))+gap))≤a.f_x))))=true=>(pc hg (pc hg pn))) (pc (fun hg:(!(cond (decide ((w64 ((w64 (a.f_x+a.f_w))+gap))≤b.f_x)) true (decide ((w64 ((w64 (b.f_x+b.f_w))+gap))≤a.f_x))))=true=>(pc hg (pc hg pn))) (pc (fun hg:(!(cond (decide ((w64 ((w64 (a.f_x+a.f_w))+gap))≤b.f_x)) true (decide ((w64 ((w64 (b.f_x+b.f_w))+gap))≤a.f_x))))=true=>(pc hg (pc o1 pn))) (pc (fun hg:(!(cond (decide ((w64 ((w64 (a.f_x+a.f_w))+gap))≤b.f_x)) true (decide ((w64 ((w64 (b.f_x+b.f_w))+gap))≤a.f_x))))=true=>(pc hg (pc hg pn))) (pc (fun hq:(!(cond (decide ((w64 ((w64 (a.f_x+a.f_w))+gap))≤b.f_x)) true (decide ((w64 ((w64 (b.f_x+b.f_w))+gap))≤a.f_x))))=true=>(pc hq pn)) (pc (fun hg:(!(cond (cond (decide ((w64 ((w64 (a.f_x+a.f_w))+gap))≤b.f_x)) true (decide ((w64 ((w64 (b.f_x+b.f_w))+gap))≤a.f_x))) true (decide ((w64 ((w64 (a.f_y+a.f_h))+gap))≤b.f_y))))=true=>(pc hg (pc o1 pn))) (pc (fun hg:(!(cond (cond (decide ((w64 ((w64 (a.f_x+a.f_w))+gap))≤b.f_x)) true (decide ((w64 ((w64 (b.f_x+b.f_w))+gap))≤a.f_x))) true (decide ((w64 ((w64 (a.f_y+a.f_h))+gap))≤b.f_y))))=true=>(pc hg (pc o1 pn))) (pc (fun hg:(!(cond (cond (decide ((w64 ((w64 (a.f_x+a.f_w))+gap))≤b.f_x)) true (decide ((w64 ((w64 (b.f_x+b.f_w))+gap))≤a.f_x))) true (decide ((w64 ((w64 (a.f_y+a.f_h))+gap))≤b.f_y))))=true=>(pc hg (pc hg pn))) (pc (fun hg:(!(cond (cond (decide ((w64 ((w64 (a.f_x+a.f_w))+gap))≤b.f_x)) true (decide ((w64 ((w64 (b.f_x+b.f_w))+gap))≤a.f_x))) true (decide ((w64 ((w64 (a.f_y+a.f_h))+gap))≤b.f_y))))=true=>(pc hg (pc hg pn))) (pc (fun hg:(!(cond (cond (decide ((w64 ((w64 (a.f_x+a.f_w))+gap))≤b.f_x)) true (decide ((w64 ((w64 (b.f_x+b.f_w))+gap))≤a.f_x))) true (decide ((w64 ((w64 (a.f_y+a.f_h))+gap))≤b.f_y))))=true=>(pc hg (pc o1 pn))) (pc (fun hg:(!(cond (cond (decide ((w64 ((w64 (a.f_x+a.f_w))+gap))≤b.f_x)) true (decide ((w64 ((w64 (b.f_x+b.f_w))+gap))≤a.f_x))) true (decide ((w64 ((w64 (a.f_y+a.f_h))+gap))≤b.f_y))))=true=>(pc hg (pc hg pn))) (pc (fun hq:(!(cond (cond (decide ((w64 ((w64 (a.f_x+a.f_w))+gap))≤b.f_x)) true (decide ((w64 ((w64 (b.f_x+b.f_w))+gap))≤a.f_x))) true (decide ((w64 ((w64 (a.f_y+a.f_h))+gap))≤b.f_y))))=true=>(pc hq pn)) pn)))))))))))))))))))))))) ?_
 obtain rfl:=Option.some.inj h
 exact Runs.nT hE 0 Try.f36 [] (kp [6]) [] 800 pn [] pn
noncomputable def C_124 (n:Nat):Code:=cat (bodyOf Try.f35) (pth n)
theorem g_berth_Place_1_1_ok (N:Nat) (a:Tberth_box) (cap0:Tberth_box) (cap1:TDock) (r:Bool) (h:g_berth_Place_1_1 N a cap0 cap1=some r):Sound Try.prog 35 [(.agg (Tberth_box.cells a)),(.op 0 0 0),(.op 1 0 0)] [(0,vO 4 (Tberth_box.cells cap0)),(1,vO 6 (TDock.cells cap1))] 2 (aB r) [(0,vO 4 (Tberth_box.cells cap0)),(1,vO 6 (TDock.cells cap1))]:=by
 unfold g_berth_Place_1_1 at h
 refine Sound.of_runs (fu:=Try.f35) (c:=C_124 1) (nt:=11) (by kernel_rfl) (by kernel_rfl) (by kernel_rfl) (by kernel_rfl) (fun hm=>absurd hm (by decide)) ?_
 intro E hE
 refine Runs.nR hE 1 [] [] (kp [1,2,3]) (kq [0,1,2]) 34 pn ?_
 obtain ⟨rapart,hr,h⟩:=bindSome h
 refine Runs.nR hE 1 [(4,⟨[],true,(aB rapart),[],0,false,none⟩)] [] (kp [4]) (kq [0,1]) 146 (pc o1 (pc o1 (pc o1 (pc (g_berth_apart_ok N a cap0 cap1.f_Gap rapart hr) pn)))) ?_
 obtain rfl:=Option.some.inj h
 exact Runs.nT hE 0 Try.f35 [] (kp [4]) (kq [0,1]) 146 pn [] pn
noncomputable def C_123 (n:Nat):Code:=cat (bodyOf Try.f65) (pth n)
def g_slices_IndexFunc_berth_box_berth_box_L1_H (N:Nat) (s:List Tberth_box) (cap0:Tberth_box) (cap1:TDock) (K:Int→Option (Int)):Prop:=∀ (x:Int) (r:Int),K x=some r→∀ E,EnvOk E 2→Runs Try.prog E 65 19 (SPost E [(0,vO 4 (Tberth_box.cells cap0)),(1,vO 6 (TDock.cells cap1))] (aI r)) [.code (C_123 52),.inLoop (C_123 52),.inBlock 0,.code (C_123 7)] ⟨[(0,(encL Tberth_box.cells Tberth_box.d s)),(1,(.fn (.func 35) [] [(.op 0 0 0),(.op 1 0 0)])),(7,(aI ((s.length:Nat):Int))),(8,(aI x))],[(0,vO 4 (Tberth_box.cells cap0)),(1,vO 6 (TDock.cells cap1))],2⟩
theorem g_slices_IndexFunc_berth_box_berth_box_L1_ok (N:Nat) (s:List Tberth_box) (cap0:Tberth_box) (cap1:TDock) (fuel:Nat):g_slices_IndexFunc_berth_box_berth_box_L1_H N s cap0 cap1 (g_slices_IndexFunc_berth_box_berth_box_L1 N s cap0 cap1 fuel):=by
 induction fuel with
 | zero=>intro _ r h;rw [g_slices_IndexFunc_berth_box_berth_box_L1.eq_1] at h;cases h
 | succ fuel ih =>
  intro x r h E hE
  rw [g_slices_IndexFunc_berth_box_berth_box_L1.eq_2] at h
  refine Runs.nR hE 1 [] [] (kp [0,1,7,8,9]) (kq [0,1]) 18 pn ?_
  refine Runs.nC 1 9 h (fun hq2 h=>?_) (fun hq2 h=>?_)
  ·refine Runs.nR hE 4 [] [] (kp [0,1,5,7,8]) (kq [0,1]) 50 pn ?_
   obtain ⟨c,h⟩:=ifSome h
   obtain ⟨rPlace11,hr,h⟩:=bindSome h
   refine Runs.nR hE 1 [(5,⟨[0,1],true,(aB rPlace11),[],0,false,none⟩)] [] (kp [0,1,5,7,8,16]) (kq [0,1]) 146 (pc c (pc (g_berth_Place_1_1_ok N (s.getD ((x).toNat) Tberth_box.d) cap0 cap1 rPlace11 hr) pn)) ?_
   refine Runs.nC 0 16 h (fun hq3 h=>?_) (fun hq3 h=>?_)
   ·refine Runs.nR hE 1 [] [] (kp [4]) (kq [0,1]) 178 pn ?_
    obtain rfl:=Option.some.inj h
    exact Runs.nT hE 0 Try.f65 [] (kp [4]) (kq [0,1]) 178 pn [] pn
   ·refine Runs.nR hE 2 [] [] (kp [0,1,7,8]) (kq [0,1]) 178 pn ?_
    exact Runs.nW hE 1 [] (kp [0,1,7,8]) (kq [0,1]) 2 pn (ih _ _ h E hE)
  ·refine Runs.nR hE 2 [] [] (kp [4]) (kq [0,1]) 34 pn ?_
   obtain rfl:=Option.some.inj h
   exact Runs.nT hE 0 Try.f65 [] (kp [4]) (kq [0,1]) 50 pn [] pn
theorem g_slices_IndexFunc_berth_box_berth_box_ok (N:Nat) (s:List Tberth_box) (cap0:Tberth_box) (cap1:TDock) (r:Int) (h:g_slices_IndexFunc_berth_box_berth_box N s cap0 cap1=some r):Sound Try.prog 65 [(encL Tberth_box.cells Tberth_box.d s),(.fn (.func 35) [] [(.op 0 0 0),(.op 1 0 0)])] [(0,vO 4 (Tberth_box.cells cap0)),(1,vO 6 (TDock.cells cap1))] 2 (aI r) [(0,vO 4 (Tberth_box.cells cap0)),(1,vO 6 (TDock.cells cap1))]:=by
 unfold g_slices_IndexFunc_berth_box_berth_box at h
 refine Sound.of_runs (fu:=Try.f65) (c:=C_123 1) (nt:=19) (by kernel_rfl) (by kernel_rfl) (by kernel_rfl) (by kernel_rfl) (fun hm=>absurd hm (by decide)) ?_
 intro E hE
 refine Runs.nR hE 1 [] [] (kp [0,1]) (kq [0,1]) 18 pn ?_
 refine Runs.nR hE 2 [] [] (kp [0,1,7,8]) (kq [0,1]) 66 pn ?_
 exact Runs.nW hE 2 [] (kp [0,1,7,8]) (kq [0,1]) 2 pn (g_slices_IndexFunc_berth_box_berth_box_L1_ok N _ _ _ N _ _ h E hE)
noncomputable def C_122 (n:Nat):Code:=cat (bodyOf Try.f34) (pth n)
theorem g_slices_ContainsFunc_berth_box_berth_box_ok (N:Nat) (s:List Tberth_box) (cap0:Tberth_box) (cap1:TDock) (r:Bool) (h:g_slices_ContainsFunc_berth_box_berth_box N s cap0 cap1=some r):Sound Try.prog 34 [(encL Tberth_box.cells Tberth_box.d s),(.fn (.func 35) [] [(.op 0 0 0),(.op 1 0 0)])] [(0,vO 4 (Tberth_box.cells cap0)),(1,vO 6 (TDock.cells cap1))] 2 (aB r) [(0,vO 4 (Tberth_box.cells cap0)),(1,vO 6 (TDock.cells cap1))]:=by
 unfold g_slices_ContainsFunc_berth_box_berth_box at h
 refine Sound.of_runs (fu:=Try.f34) (c:=C_122 1) (nt:=9) (by kernel_rfl) (by kernel_rfl) (by kernel_rfl) (by kernel_rfl) (fun hm=>absurd hm (by decide)) ?_
 intro E hE
 refine Runs.nR hE 1 [] [] (kp [0,1]) (kq [0,1]) 18 pn ?_
 obtain ⟨rbox,hr,h⟩:=bindSome h
 refine Runs.nR hE 1 [(2,⟨[0,1],true,(aI rbox),[],0,false,none⟩)] [] (kp [4]) (kq [0,1]) 98 (pc (g_slices_IndexFunc_berth_box_berth_box_ok N s cap0 cap1 rbox hr) pn) ?_
 obtain rfl:=Option.some.inj h
 exact Runs.nT hE 0 Try.f34 [] (kp [4]) (kq [0,1]) 98 pn [] pn
noncomputable def C_118 (n:Nat):Code:=cat (bodyOf Try.f31) (pth n)
def g_berth_Place_1_L1_H (N:Nat) (i:Int) (cap0:List TCall) (cap2:List Int) (cap3:TDock) (cap5:List Int) (rsums:(List Int)) (K:(List Tberth_box)→Int→Option (Bool×(List Tberth_box))):Prop:=∀ (cap6:List Tberth_box) (x:Int) (r:Bool×(List Tberth_box)),K cap6 x=some r→∀ E,EnvOk E 9→Runs Try.prog E 31 72 (SPost E [(0,vO 1 [(encL TCall.cells TCall.d cap0)]),(1,vN 1 [(.os 2 0 cap2.length)]),(2,aO 1 cI 0 cap2),(3,vO 6 (TDock.cells cap3)),(4,vN 1 [(.os 5 0 cap5.length)]),(5,aO 1 cI 0 cap5),(6,vN 1 [(.os 7 0 r.2.length)]),(7,aO 4 Tberth_box.cells Tberth_box.d r.2),(8,vN 1 [(.fn (.func 31) [] [(.op 0 0 0),(.op 1 0 0),(.op 3 0 0),(.op 4 0 0),(.op 6 0 0),(.op 8 0 0)])])] (aB r.1)) [.code (C_118 116),.inLoop (C_118 116),.inBlock 0,.code (C_118 15)] ⟨[(0,(aI i)),(1,(.op 0 0 0)),(3,(.op 3 0 0)),(4,(.op 4 0 0)),(5,(.op 6 0 0)),(6,(.op 8 0 0)),(22,(.os 9 0 rsums.length)),(23,(aI ((rsums.length:Nat):Int))),(24,(aI x))],[(0,vO 1 [(encL TCall.cells TCall.d cap0)]),(1,vN 1 [(.os 2 0 cap2.length)]),(2,aO 1 cI 0 cap2),(3,vO 6 (TDock.cells cap3)),(4,vN 1 [(.os 5 0 cap5.length)]),(5,aO 1 cI 0 cap5),(6,vN 1 [(.os 7 0 cap6.length)]),(7,aO 4 Tberth_box.cells Tberth_box.d cap6),(8,vN 1 [(.fn (.func 31) [] [(.op 0 0 0),(.op 1 0 0),(.op 3 0 0),(.op 4 0 0),(.op 6 0 0),(.op 8 0 0)])]),(9,aO 1 cI 0 rsums)],10⟩
def g_berth_Place_1_L2_H (N:Nat) (i:Int) (cap0:List TCall) (cap2:List Int) (cap3:TDock) (cap5:List Int) (rsums:(List Int)) (x:Int) (rsums2:(List Int)) (K:(List Tberth_box)→Int→Option (Bool×(List Tberth_box))):Prop:=∀ (cap62:List Tberth_box) (x2:Int) (r:Bool×(List Tberth_box)),K cap62 x2=some r→∀ E,EnvOk E 9→Runs Try.prog E 31 72 (SPost E [(0,vO 1 [(encL TCall.cells TCall.d cap0)]),(1,vN 1 [(.os 2 0 cap2.length)]),(2,aO 1 cI 0 cap2),(3,vO 6 (TDock.cells cap3)),(4,vN 1 [(.os 5 0 cap5.length)]),(5,aO 1 cI 0 cap5),(6,vN 1 [(.os 7 0 r.2.length)]),(7,aO 4 Tberth_box.cells Tberth_box.d r.2),(8,vN 1 [(.fn (.func 31) [] [(.op 0 0 0),(.op 1 0 0),(.op 3 0 0),(.op 4 0 0),(.op 6 0 0),(.op 8 0 0)])])] (aB r.1)) [.code (C_118 29900),.inLoop (C_118 29900),.inBlock 2,.inBlock 1,.code (C_118 935),.inLoop (C_118 116),.inBlock 0,.code (C_118 15)] ⟨[(0,(aI i)),(1,(.op 0 0 0)),(3,(.op 3 0 0)),(4,(.op 4 0 0)),(5,(.op 6 0 0)),(6,(.op 8 0 0)),(10,(aI (rsums.getD ((x).toNat) 0))),(22,(.os 9 0 rsums.length)),(23,(aI ((rsums.length:Nat):Int))),(24,(aI x)),(32,(.os 10 0 rsums2.length)),(33,(aI ((rsums2.length:Nat):Int))),(34,(aI x2))],[(0,vO 1 [(encL TCall.cells TCall.d cap0)]),(1,vN 1 [(.os 2 0 cap2.length)]),(2,aO 1 cI 0 cap2),(3,vO 6 (TDock.cells cap3)),(4,vN 1 [(.os 5 0 cap5.length)]),(5,aO 1 cI 0 cap5),(6,vN 1 [(.os 7 0 cap62.length)]),(7,aO 4 Tberth_box.cells Tberth_box.d cap62),(8,vN 1 [(.fn (.func 31) [] [(.op 0 0 0),(.op 1 0 0),(.op 3 0 0),(.op 4 0 0),(.op 6 0 0),(.op 8 0 0)])]),(9,aO 1 cI 0 rsums),(10,aO 1 cI 0 rsums2)],11⟩
def g_berth_Place_1_J3_H (N:Nat) (i:Int) (cap0:List TCall) (cap2:List Int) (cap3:TDock) (cap5:List Int) (rsums:(List Int)) (x:Int) (rsums2:(List Int)) (x2:Int) (K:(List Tberth_box)→Option (Bool×(List Tberth_box))):Prop:=∀ (cap63:List Tberth_box) (r:Bool×(List Tberth_box)),K cap63=some r→∀ E,EnvOk E 9→Runs Try.prog E 31 72 (SPost E [(0,vO 1 [(encL TCall.cells TCall.d cap0)]),(1,vN 1 [(.os 2 0 cap2.length)]),(2,aO 1 cI 0 cap2),(3,vO 6 (TDock.cells cap3)),(4,vN 1 [(.os 5 0 cap5.length)]),(5,aO 1 cI 0 cap5),(6,vN 1 [(.os 7 0 r.2.length)]),(7,aO 4 Tberth_box.cells Tberth_box.d r.2),(8,vN 1 [(.fn (.func 31) [] [(.op 0 0 0),(.op 1 0 0),(.op 3 0 0),(.op 4 0 0),(.op 6 0 0),(.op 8 0 0)])])] (aB r.1)) [.code (C_118 239207),.inLoop (C_118 29900),.inBlock 2,.inBlock 1,.code (C_118 935),.inLoop (C_118 116),.inBlock 0,.code (C_118 15)] ⟨[(0,(aI i)),(1,(.op 0 0 0)),(3,(.op 3 0 0)),(4,(.op 4 0 0)),(5,(.op 6 0 0)),(6,(.op 8 0 0)),(10,(aI (rsums.getD ((x).toNat) 0))),(22,(.os 9 0 rsums.length)),(23,(aI ((rsums.length:Nat):Int))),(24,(aI x)),(32,(.os 10 0 rsums2.length)),(33,(aI ((rsums2.length:Nat):Int))),(34,(aI x2))],[(0,vO 1 [(encL TCall.cells TCall.d cap0)]),(1,vN 1 [(.os 2 0 cap2.length)]),(2,aO 1 cI 0 cap2),(3,vO 6 (TDock.cells cap3)),(4,vN 1 [(.os 5 0 cap5.length)]),(5,aO 1 cI 0 cap5),(6,vN 1 [(.os 7 0 cap63.length)]),(7,aO 4 Tberth_box.cells Tberth_box.d cap63),(8,vN 1 [(.fn (.func 31) [] [(.op 0 0 0),(.op 1 0 0),(.op 3 0 0),(.op 4 0 0),(.op 6 0 0),(.op 8 0 0)])]),(9,aO 1 cI 0 rsums),(10,aO 1 cI 0 rsums2)],11⟩
theorem g_berth_Place_1_J3_ok (N:Nat) (i:Int) (cap0:List TCall) (cap2:List Int) (cap3:TDock) (cap5:List Int) (rsums:(List Int)) (x:Int) (rsums2:(List Int)) (x2:Int) (R_:Int→(List TCall)→(List Int)→TDock→(List Int)→(List Tberth_box)→Option (Bool×(List Tberth_box))) (K_g_berth_Place_1_L2:(List Tberth_box)→Int→Option (Bool×(List Tberth_box))) (K_g_berth_Place_1_L1:(List Tberth_box)→Int→Option (Bool×(List Tberth_box)))
  (hR_:∀ (i:Int) (cap0:List TCall) (cap2:List Int) (cap3:TDock) (cap5:List Int) (cap7:List Tberth_box) (r:Bool×(List Tberth_box)),R_ i cap0 cap2 cap3 cap5 cap7=some r→Sound Try.prog 31 [(aI i),(.op 0 0 0),(.op 1 0 0),(.op 3 0 0),(.op 4 0 0),(.op 6 0 0),(.op 8 0 0)] [(0,vO 1 [(encL TCall.cells TCall.d cap0)]),(1,vN 1 [(.os 2 0 cap2.length)]),(2,aO 1 cI 0 cap2),(3,vO 6 (TDock.cells cap3)),(4,vN 1 [(.os 5 0 cap5.length)]),(5,aO 1 cI 0 cap5),(6,vN 1 [(.os 7 0 cap7.length)]),(7,aO 4 Tberth_box.cells Tberth_box.d cap7),(8,vN 1 [(.fn (.func 31) [] [(.op 0 0 0),(.op 1 0 0),(.op 3 0 0),(.op 4 0 0),(.op 6 0 0),(.op 8 0 0)])])] 9 (aB r.1) [(0,vO 1 [(encL TCall.cells TCall.d cap0)]),(1,vN 1 [(.os 2 0 cap2.length)]),(2,aO 1 cI 0 cap2),(3,vO 6 (TDock.cells cap3)),(4,vN 1 [(.os 5 0 cap5.length)]),(5,aO 1 cI 0 cap5),(6,vN 1 [(.os 7 0 r.2.length)]),(7,aO 4 Tberth_box.cells Tberth_box.d r.2),(8,vN 1 [(.fn (.func 31) [] [(.op 0 0 0),(.op 1 0 0),(.op 3 0 0),(.op 4 0 0),(.op 6 0 0),(.op 8 0 0)])])]) (hK_g_berth_Place_1_L2:g_berth_Place_1_L2_H N i cap0 cap2 cap3 cap5 rsums x rsums2 K_g_berth_Place_1_L2) (hK_g_berth_Place_1_L1:g_berth_Place_1_L1_H N i cap0 cap2 cap3 cap5 rsums K_g_berth_Place_1_L1):g_berth_Place_1_J3_H N i cap0 cap2 cap3 cap5 rsums x rsums2 x2 (g_berth_Place_1_J3 N i cap0 cap2 cap3 cap5 rsums x rsums2 x2 R_ K_g_berth_Place_1_L2 K_g_berth_Place_1_L1):=by
 intro cap63 r h E hE
 unfold g_berth_Place_1_J3 at h
 refine Runs.nR hE 0 [] [] (kp [0,1,3,4,5,6,10,22,23,24,32,33,34]) (kq [0,1,2,3,4,5,6,7,8,9,10]) 43 pn ?_
 exact Runs.nW hE 1 [] (kp [0,1,3,4,5,6,10,22,23,24,32,33,34]) (kq [0,1,2,3,4,5,6,7,8,9,10]) 11 pn (hK_g_berth_Place_1_L2 _ _ _ h E hE)
theorem g_berth_Place_1_L2_ok (N:Nat) (i:Int) (cap0:List TCall) (cap2:List Int) (cap3:TDock) (cap5:List Int) (rsums:(List Int)) (x:Int) (rsums2:(List Int)) (R_:Int→(List TCall)→(List Int)→TDock→(List Int)→(List Tberth_box)→Option (Bool×(List Tberth_box))) (K_g_berth_Place_1_L1:(List Tberth_box)→Int→Option (Bool×(List Tberth_box)))
  (hR_:∀ (i:Int) (cap0:List TCall) (cap2:List Int) (cap3:TDock) (cap5:List Int) (cap7:List Tberth_box) (r:Bool×(List Tberth_box)),R_ i cap0 cap2 cap3 cap5 cap7=some r→Sound Try.prog 31 [(aI i),(.op 0 0 0),(.op 1 0 0),(.op 3 0 0),(.op 4 0 0),(.op 6 0 0),(.op 8 0 0)] [(0,vO 1 [(encL TCall.cells TCall.d cap0)]),(1,vN 1 [(.os 2 0 cap2.length)]),(2,aO 1 cI 0 cap2),(3,vO 6 (TDock.cells cap3)),(4,vN 1 [(.os 5 0 cap5.length)]),(5,aO 1 cI 0 cap5),(6,vN 1 [(.os 7 0 cap7.length)]),(7,aO 4 Tberth_box.cells Tberth_box.d cap7),(8,vN 1 [(.fn (.func 31) [] [(.op 0 0 0),(.op 1 0 0),(.op 3 0 0),(.op 4 0 0),(.op 6 0 0),(.op 8 0 0)])])] 9 (aB r.1) [(0,vO 1 [(encL TCall.cells TCall.d cap0)]),(1,vN 1 [(.os 2 0 cap2.length)]),(2,aO 1 cI 0 cap2),(3,vO 6 (TDock.cells cap3)),(4,vN 1 [(.os 5 0 cap5.length)]),(5,aO 1 cI 0 cap5),(6,vN 1 [(.os 7 0 r.2.length)]),(7,aO 4 Tberth_box.cells Tberth_box.d r.2),(8,vN 1 [(.fn (.func 31) [] [(.op 0 0 0),(.op 1 0 0),(.op 3 0 0),(.op 4 0 0),(.op 6 0 0),(.op 8 0 0)])])]) (hK_g_berth_Place_1_L1:g_berth_Place_1_L1_H N i cap0 cap2 cap3 cap5 rsums K_g_berth_Place_1_L1) (fuel:Nat):g_berth_Place_1_L2_H N i cap0 cap2 cap3 cap5 rsums x rsums2 (g_berth_Place_1_L2 N i cap0 cap2 cap3 cap5 rsums x rsums2 R_ K_g_berth_Place_1_L1 fuel):=by
 induction fuel with
 | zero=>intro _ _ r h;rw [g_berth_Place_1_L2.eq_1] at h;cases h
 | succ fuel ih =>
  intro cap62 x2 r h E hE
  rw [g_berth_Place_1_L2.eq_2] at h
  refine Runs.nR hE 1 [] [] (kp [0,1,3,4,5,6,10,22,23,24,32,33,34,35]) (kq [0,1,2,3,4,5,6,7,8,9,10]) 27 pn ?_
  refine Runs.nC 1 35 h (fun hq4 h=>?_) (fun hq4 h=>?_)
  ·obtain ⟨c2,h⟩:=ifSome h
   refine Runs.nR hE 4 [] [] (kp [0,1,3,4,5,6,10,12,22,23,24,32,33,34]) (kq [0,1,2,3,4,5,6,7,8,9,10]) 75 (pc c2 (pc (ltOf c2) pn)) ?_
   obtain ⟨c3,h⟩:=ifSome h
   refine Runs.nR hE 1 [] [] (kp [0,1,3,4,5,6,10,13,22,23,24,32,33,34]) (kq [0,1,2,3,4,5,6,7,8,9,10,283]) 315 (pc o1 (pc c3 (pc o1 (pc c3 (pc o1 pn))))) ?_
   obtain ⟨rIn,hr3,h⟩:=bindSome h
   obtain ⟨c4,h⟩:=ifSome h
   obtain ⟨c5,h⟩:=ifSome h
   obtain ⟨c6,h⟩:=ifSome h
   obtain ⟨rbox,hr4,h⟩:=bindSome h
   refine Runs.nR hE 2 [(2,⟨[],true,(aB rIn),[],0,false,none⟩),(9,⟨[283,3],true,(aB rbox),[],0,false,none⟩)] [] (kp [0,1,3,4,5,6,10,13,22,23,24,32,33,34,61]) (kq [0,1,2,3,4,5,6,7,8,9,10,283]) 491 (pc o1 (pc o1 (pc (g_berth_inside_ok N cap3 (⟨(rsums.getD ((x).toNat) 0),(rsums2.getD ((x2).toNat) 0),(cap0.getD ((i).toNat) TCall.d).fLn,(cap0.getD ((i).toNat) TCall.d).f_Beam⟩:Tberth_box) rIn hr3) (pc (fun hg:(!(!rIn))=true=>(pc o1 pn)) (pc (fun hg:(!(!rIn))=true=>(pc hg (pc hg (pc (c4 hg) (pc (c5 hg) pn))))) (pc (fun hg:(!(!rIn))=true=>(pc (show Sound Try.prog 34 [(.sl ((i).toNat - 0) (fun zi=>Tberth_box.cells (cap62.getD (addz 0 zi) Tberth_box.d))),(.fn (.func 35) [] [(.op 0 0 0),(.op 1 0 0)])] [(0,vO 4 [(aI (rsums.getD ((x).toNat) 0)),(aI (rsums2.getD ((x2).toNat) 0)),(aI ((cap0.getD ((i).toNat) TCall.d).fLn)),(aI ((cap0.getD ((i).toNat) TCall.d).f_Beam))]),(1,vO 6 (TDock.cells cap3))] 2 (aB rbox) [(0,vO 4 [(aI (rsums.getD ((x).toNat) 0)),(aI (rsums2.getD ((x2).toNat) 0)),(aI ((cap0.getD ((i).toNat) TCall.d).fLn)),(aI ((cap0.getD ((i).toNat) TCall.d).f_Beam))]),(1,vO 6 (TDock.cells cap3))] from (Sound.conv (g_slices_ContainsFunc_berth_box_berth_box_ok N ((cap62.take ((i).toNat)).drop 0) (⟨(rsums.getD ((x).toNat) 0),(rsums2.getD ((x2).toNat) 0),(cap0.getD ((i).toNat) TCall.d).fLn,(cap0.getD ((i).toNat) TCall.d).f_Beam⟩:Tberth_box) cap3 rbox (condT hr4 hg)) (.cons (Alike.sl (len_ext' cap62 0 ((i).toNat) c6) (fun zq hzq=>get_ext Tberth_box.cells Tberth_box.d cap62 0 ((i).toNat) zq hzq)) (.cons (Alike.refl _) .nil)))) (pc (show 0+((i).toNat - 0)≤cap62.length by have:=c6;omega) (pc hg (pc hg pn))))) (pc (fun hq:(!(!rIn))=true=>(pc hq pn)) pn))))))) ?_
   refine Runs.nC 0 61 h (fun hq5 h=>?_) (fun hq5 h=>?_)
   ·exact Runs.nW hE 1 [] (kp [0,1,3,4,5,6,10,22,23,24,32,33,34]) (kq [0,1,2,3,4,5,6,7,8,9,10]) 11 pn (g_berth_Place_1_J3_ok N _ _ _ _ _ _ _ _ _ _ _ _ hR_ ih hK_g_berth_Place_1_L1 _ _ h E hE)
   ·obtain ⟨c7,h⟩:=ifSome h
    refine Runs.nR hE 2 [] [] (kp [0,1,3,4,5,6,10,22,23,24,32,33,34]) (kq [0,1,2,3,4,5] ++ [(6,.var 6 [.osl ((cap62.set ((i).toNat) (⟨(rsums.getD ((x).toNat) 0),(rsums2.getD ((x2).toNat) 0),(cap0.getD ((i).toNat) TCall.d).fLn,(cap0.getD ((i).toNat) TCall.d).f_Beam⟩:Tberth_box)).length)]),(7,.arr 7 ((cap62.set ((i).toNat) (⟨(rsums.getD ((x).toNat) 0),(rsums2.getD ((x2).toNat) 0),(cap0.getD ((i).toNat) TCall.d).fLn,(cap0.getD ((i).toNat) TCall.d).f_Beam⟩:Tberth_box)).length) (fun zi=>Tberth_box.cells ((cap62.set ((i).toNat) (⟨(rsums.getD ((x).toNat) 0),(rsums2.getD ((x2).toNat) 0),(cap0.getD ((i).toNat) TCall.d).fLn,(cap0.getD ((i).toNat) TCall.d).f_Beam⟩:Tberth_box)).getD zi Tberth_box.d)))] ++ kq [8,9,10]) 571 (pc o1 (pc o1 (pc c7 (pc (ltOf c7) (pc (len_set0 cap62 ((i).toNat) (⟨(rsums.getD ((x).toNat) 0),(rsums2.getD ((x2).toNat) 0),(cap0.getD ((i).toNat) TCall.d).fLn,(cap0.getD ((i).toNat) TCall.d).f_Beam⟩:Tberth_box)) (pc (len_set0 cap62 ((i).toNat) (⟨(rsums.getD ((x).toNat) 0),(rsums2.getD ((x2).toNat) 0),(cap0.getD ((i).toNat) TCall.d).fLn,(cap0.getD ((i).toNat) TCall.d).f_Beam⟩:Tberth_box)) (pc (get_set0 Tberth_box.cells Tberth_box.d cap62 ((i).toNat) (⟨(rsums.getD ((x).toNat) 0),(rsums2.getD ((x2).toNat) 0),(cap0.getD ((i).toNat) TCall.d).fLn,(cap0.getD ((i).toNat) TCall.d).f_Beam⟩:Tberth_box)) pn))))))) ?_
    obtain ⟨rPlace1,hr5,h⟩:=bindSome h
    obtain ⟨c8,h⟩:=ifSome h
    refine Runs.nR hE 1 [(3,⟨[0,1,2,3,4,5,6,7,8],false,(aB rPlace1.1),[(0,vO 1 [(encL TCall.cells TCall.d cap0)]),(1,vN 1 [(.os 2 0 cap2.length)]),(2,aO 1 cI 0 cap2),(3,vO 6 (TDock.cells cap3)),(4,vN 1 [(.os 5 0 cap5.length)]),(5,aO 1 cI 0 cap5),(6,vN 1 [(.os 7 0 rPlace1.2.length)]),(7,aO 4 Tberth_box.cells Tberth_box.d rPlace1.2),(8,vN 1 [(.fn (.func 31) [] [(.op 0 0 0),(.op 1 0 0),(.op 3 0 0),(.op 4 0 0),(.op 6 0 0),(.op 8 0 0)])])],0,false,none⟩)] [] (kp [0,1,3,4,5,6,10,22,23,24,32,33,34,69]) (kq [0,1,2,3,4,5,6,7,8,9,10]) 635 (pc o1 (pc (show Sound Try.prog 31 [(aI (w64 (i+1))),(.op 0 0 0),(.op 1 0 0),(.op 3 0 0),(.op 4 0 0),(.op 6 0 0),(.op 8 0 0)] [(0,vO 1 [(encL TCall.cells TCall.d cap0)]),(1,vN 1 [(.os 2 0 cap2.length)]),(2,aO 1 cI 0 cap2),(3,vO 6 (TDock.cells cap3)),(4,vN 1 [(.os 5 0 cap5.length)]),(5,aO 1 cI 0 cap5),(6,vN 1 [(.os 7 0 ((cap62.set ((i).toNat) (⟨(rsums.getD ((x).toNat) 0),(rsums2.getD ((x2).toNat) 0),(cap0.getD ((i).toNat) TCall.d).fLn,(cap0.getD ((i).toNat) TCall.d).f_Beam⟩:Tberth_box)).length))]),(7,aO 4 Tberth_box.cells Tberth_box.d (cap62.set ((i).toNat) (⟨(rsums.getD ((x).toNat) 0),(rsums2.getD ((x2).toNat) 0),(cap0.getD ((i).toNat) TCall.d).fLn,(cap0.getD ((i).toNat) TCall.d).f_Beam⟩:Tberth_box))),(8,vN 1 [(.fn (.func 31) [] [(.op 0 0 0),(.op 1 0 0),(.op 3 0 0),(.op 4 0 0),(.op 6 0 0),(.op 8 0 0)])])] 9 (aB rPlace1.1) [(0,vO 1 [(encL TCall.cells TCall.d cap0)]),(1,vN 1 [(.os 2 0 cap2.length)]),(2,aO 1 cI 0 cap2),(3,vO 6 (TDock.cells cap3)),(4,vN 1 [(.os 5 0 cap5.length)]),(5,aO 1 cI 0 cap5),(6,vN 1 [(.os 7 0 rPlace1.2.length)]),(7,aO 4 Tberth_box.cells Tberth_box.d rPlace1.2),(8,vN 1 [(.fn (.func 31) [] [(.op 0 0 0),(.op 1 0 0),(.op 3 0 0),(.op 4 0 0),(.op 6 0 0),(.op 8 0 0)])])] from (hR_ (w64 (i+1)) cap0 cap2 cap3 cap5 (cap62.set ((i).toNat) (⟨(rsums.getD ((x).toNat) 0),(rsums2.getD ((x2).toNat) 0),(cap0.getD ((i).toNat) TCall.d).fLn,(cap0.getD ((i).toNat) TCall.d).f_Beam⟩:Tberth_box)) rPlace1 hr5)) pn)) ?_
    refine Runs.nC 0 69 h (fun hq6 h=>?_) (fun hq6 h=>?_)
    ·refine Runs.nR hE 1 [] [] (kp [8]) (kq [0,1,2,3,4,5,6,7,8]) 651 pn ?_
     obtain rfl:=Option.some.inj h
     exact Runs.nT hE 0 Try.f31 [] (kp [8]) (kq [0,1,2,3,4,5,6,7,8]) 651 pn [] pn
    ·exact Runs.nW hE 2 [] (kp [0,1,3,4,5,6,10,22,23,24,32,33,34]) (kq [0,1,2,3,4,5,6,7,8,9,10]) 11 pn (g_berth_Place_1_J3_ok N _ _ _ _ _ _ _ _ _ _ _ _ hR_ ih hK_g_berth_Place_1_L1 _ _ h E hE)
  ·refine Runs.nR hE 2 [] [] (kp [0,1,3,4,5,6,22,23,24]) (kq [0,1,2,3,4,5,6,7,8,9]) 59 pn ?_
   exact Runs.nW hE 1 [] (kp [0,1,3,4,5,6,22,23,24]) (kq [0,1,2,3,4,5,6,7,8,9]) 10 pn (hK_g_berth_Place_1_L1 _ _ _ h E hE)
theorem g_berth_Place_1_L1_ok (N:Nat) (i:Int) (cap0:List TCall) (cap2:List Int) (cap3:TDock) (cap5:List Int) (rsums:(List Int)) (R_:Int→(List TCall)→(List Int)→TDock→(List Int)→(List Tberth_box)→Option (Bool×(List Tberth_box)))
  (hR_:∀ (i:Int) (cap0:List TCall) (cap2:List Int) (cap3:TDock) (cap5:List Int) (cap7:List Tberth_box) (r:Bool×(List Tberth_box)),R_ i cap0 cap2 cap3 cap5 cap7=some r→Sound Try.prog 31 [(aI i),(.op 0 0 0),(.op 1 0 0),(.op 3 0 0),(.op 4 0 0),(.op 6 0 0),(.op 8 0 0)] [(0,vO 1 [(encL TCall.cells TCall.d cap0)]),(1,vN 1 [(.os 2 0 cap2.length)]),(2,aO 1 cI 0 cap2),(3,vO 6 (TDock.cells cap3)),(4,vN 1 [(.os 5 0 cap5.length)]),(5,aO 1 cI 0 cap5),(6,vN 1 [(.os 7 0 cap7.length)]),(7,aO 4 Tberth_box.cells Tberth_box.d cap7),(8,vN 1 [(.fn (.func 31) [] [(.op 0 0 0),(.op 1 0 0),(.op 3 0 0),(.op 4 0 0),(.op 6 0 0),(.op 8 0 0)])])] 9 (aB r.1) [(0,vO 1 [(encL TCall.cells TCall.d cap0)]),(1,vN 1 [(.os 2 0 cap2.length)]),(2,aO 1 cI 0 cap2),(3,vO 6 (TDock.cells cap3)),(4,vN 1 [(.os 5 0 cap5.length)]),(5,aO 1 cI 0 cap5),(6,vN 1 [(.os 7 0 r.2.length)]),(7,aO 4 Tberth_box.cells Tberth_box.d r.2),(8,vN 1 [(.fn (.func 31) [] [(.op 0 0 0),(.op 1 0 0),(.op 3 0 0),(.op 4 0 0),(.op 6 0 0),(.op 8 0 0)])])]) (fuel:Nat):g_berth_Place_1_L1_H N i cap0 cap2 cap3 cap5 rsums (g_berth_Place_1_L1 N i cap0 cap2 cap3 cap5 rsums R_ fuel):=by
 induction fuel with
 | zero=>intro _ _ r h;rw [g_berth_Place_1_L1.eq_1] at h;cases h
 | succ fuel ih =>
  intro cap6 x r h E hE
  rw [g_berth_Place_1_L1.eq_2] at h
  refine Runs.nR hE 1 [] [] (kp [0,1,3,4,5,6,22,23,24,25]) (kq [0,1,2,3,4,5,6,7,8,9]) 26 pn ?_
  refine Runs.nC 1 25 h (fun hq3 h=>?_) (fun hq3 h=>?_)
  ·obtain ⟨c,h⟩:=ifSome h
   refine Runs.nR hE 4 [] [] (kp [0,1,3,4,5,6,10,22,23,24]) (kq [0,1,2,3,4,5,6,7,8,9]) 74 (pc c (pc (ltOf c) pn)) ?_
   obtain ⟨rsums2,hr2,h⟩:=bindSome h
   refine Runs.nR hE 1 [(4,⟨[],false,(.os 0 0 rsums2.length),[(0,aO 1 cI 0 rsums2)],0,false,none⟩)] [] (kp [0,1,3,4,5,6,10,22,23,24,32,33,34]) (kq [0,1,2,3,4,5,6,7,8,9,138]) 186 (pc o1 (pc o1 (pc (g_berth_sums_ok N cap5 i cap3.f_Gap rsums2 hr2) (pc (show ∀ zi,zi < rsums2.length→AV.flatL (cI (rsums2.getD zi 0))=true from (fun _ _=>rfl)) (pc (z1 cap5.length) pn))))) ?_
   exact Runs.nW hE 2 [] (kp [0,1,3,4,5,6,10,22,23,24,32,33,34]) (kq [0,1,2,3,4,5,6,7,8,9] ++ [(10,.keep 138)]) 11 pn (g_berth_Place_1_L2_ok N _ _ _ _ _ _ _ _ _ _ hR_ ih N _ _ _ h E hE)
  ·refine Runs.nR hE 2 [] [] (kp [8]) (kq [0,1,2,3,4,5,6,7,8]) 42 pn ?_
   obtain rfl:=Option.some.inj h
   exact Runs.nT hE 0 Try.f31 [] (kp [8]) (kq [0,1,2,3,4,5,6,7,8]) 57 pn [] pn
theorem g_berth_Place_1_ok (N:Nat) (fuel:Nat):∀ (i:Int) (cap0:List TCall) (cap2:List Int) (cap3:TDock) (cap5:List Int) (cap7:List Tberth_box) (r:Bool×(List Tberth_box)),g_berth_Place_1 N fuel i cap0 cap2 cap3 cap5 cap7=some r→Sound Try.prog 31 [(aI i),(.op 0 0 0),(.op 1 0 0),(.op 3 0 0),(.op 4 0 0),(.op 6 0 0),(.op 8 0 0)] [(0,vO 1 [(encL TCall.cells TCall.d cap0)]),(1,vN 1 [(.os 2 0 cap2.length)]),(2,aO 1 cI 0 cap2),(3,vO 6 (TDock.cells cap3)),(4,vN 1 [(.os 5 0 cap5.length)]),(5,aO 1 cI 0 cap5),(6,vN 1 [(.os 7 0 cap7.length)]),(7,aO 4 Tberth_box.cells Tberth_box.d cap7),(8,vN 1 [(.fn (.func 31) [] [(.op 0 0 0),(.op 1 0 0),(.op 3 0 0),(.op 4 0 0),(.op 6 0 0),(.op 8 0 0)])])] 9 (aB r.1) [(0,vO 1 [(encL TCall.cells TCall.d cap0)]),(1,vN 1 [(.os 2 0 cap2.length)]),(2,aO 1 cI 0 cap2),(3,vO 6 (TDock.cells cap3)),(4,vN 1 [(.os 5 0 cap5.length)]),(5,aO 1 cI 0 cap5),(6,vN 1 [(.os 7 0 r.2.length)]),(7,aO 4 Tberth_box.cells Tberth_box.d r.2),(8,vN 1 [(.fn (.func 31) [] [(.op 0 0 0),(.op 1 0 0),(.op 3 0 0),(.op 4 0 0),(.op 6 0 0),(.op 8 0 0)])])]:=by
 induction fuel with
 | zero=>intro _ _ _ _ _ _ r h;rw [g_berth_Place_1.eq_1] at h;cases h
 | succ fuel ih =>
  intro i cap0 cap2 cap3 cap5 cap7 r h
  rw [g_berth_Place_1.eq_2] at h
  refine Sound.of_runs (fu:=Try.f31) (c:=C_118 1) (nt:=72) (by kernel_rfl) (by kernel_rfl) (by kernel_rfl) (by kernel_rfl) (fun hm=>absurd hm (by decide)) ?_
  intro E hE
  refine Runs.nR hE 1 [] [] (kp [0,1,2,3,4,5,6]) (kq [0,1,2,3,4,5,6,7,8]) 25 pn ?_
  refine Runs.nR hE 2 [] [] (kp [0,1,2,3,4,5,6,17]) (kq [0,1,2,3,4,5,6,7,8]) 89 (pc o1 pn) ?_
  refine Runs.nC 0 17 h (fun hq2 h=>?_) (fun hq2 h=>?_)
  ·refine Runs.nR hE 1 [] [] (kp [8]) (kq [0,1,2,3,4,5,6,7,8]) 105 pn ?_
   obtain rfl:=Option.some.inj h
   exact Runs.nT hE 0 Try.f31 [] (kp [8]) (kq [0,1,2,3,4,5,6,7,8]) 105 pn [] pn
  ·obtain ⟨rsums,hr,h⟩:=bindSome h
   refine Runs.nR hE 3 [(4,⟨[],false,(.os 0 0 rsums.length),[(0,aO 1 cI 0 rsums)],0,false,none⟩)] [] (kp [0,1,3,4,5,6,22,23,24]) (kq [0,1,2,3,4,5,6,7,8,153]) 201 (pc o1 (pc o1 (pc (g_berth_sums_ok N cap2 i cap3.f_Gap rsums hr) (pc (show ∀ zi,zi < rsums.length→AV.flatL (cI (rsums.getD zi 0))=true from (fun _ _=>rfl)) (pc (z1 cap2.length) pn))))) ?_
   exact Runs.nW hE 2 [] (kp [0,1,3,4,5,6,22,23,24]) (kq [0,1,2,3,4,5,6,7,8] ++ [(9,.keep 153)]) 10 pn (g_berth_Place_1_L1_ok N _ _ _ _ _ _ _ ih N _ _ _ h E hE)
noncomputable def C_117 (n:Nat):Code:=cat (bodyOf Try.f10) (pth n)
def g_berth_Place_L1_H (N:Nat) (d:TDock) (c:List TCall) (K:(List Int)→(List Int)→Int→Option ((List TSpot)×Int)):Prop:=∀ (lengths:List Int) (beams:List Int) (x:Int) (r:(List TSpot)×Int),K lengths beams x=some r→∀ E,EnvOk E 0→Runs Try.prog E 10 71 (SPost E [] (.tup [(encL TSpot.cells TSpot.d r.1),(aI r.2)])) [.code (C_117 500),.inLoop (C_117 500),.inBlock 0,.code (C_117 63)] ⟨[(2,(.op 0 0 0)),(3,(.op 1 0 0)),(7,(.op 2 0 0)),(8,(.op 4 0 0)),(25,(encL TCall.cells TCall.d c)),(26,(aI ((c.length:Nat):Int))),(27,(aI x))],[(0,vO 6 (TDock.cells d)),(1,vO 1 [(encL TCall.cells TCall.d c)]),(2,vN 1 [(.os 3 0 lengths.length)]),(3,aO 1 cI 0 lengths),(4,vN 1 [(.os 5 0 beams.length)]),(5,aO 1 cI 0 beams)],6⟩
def g_berth_Place_L2_H (N:Nat) (c:List TCall) (rPlace1:Bool×(List Tberth_box)) (K:(List TSpot)→Int→Option ((List TSpot)×Int)):Prop:=∀ (out:List TSpot) (x2:Int) (r:(List TSpot)×Int),K out x2=some r→∀ E,EnvOk E 0→Runs Try.prog E 10 71 (SPost E [] (.tup [(encL TSpot.cells TSpot.d r.1),(aI r.2)])) [.code (C_117 32756),.inLoop (C_117 32756),.inBlock 2,.code (C_117 4095)] ⟨[(3,(.op 0 0 0)),(13,(.os 1 0 out.length)),(49,(.os 2 0 rPlace1.2.length)),(50,(aI ((rPlace1.2.length:Nat):Int))),(51,(aI x2))],[(0,vO 1 [(encL TCall.cells TCall.d c)]),(1,aO 3 TSpot.cells TSpot.d out),(2,aO 4 Tberth_box.cells Tberth_box.d rPlace1.2)],3⟩
theorem g_berth_Place_L2_ok (N:Nat) (c:List TCall) (rPlace1:Bool×(List Tberth_box)) (fuel:Nat):g_berth_Place_L2_H N c rPlace1 (g_berth_Place_L2 N c rPlace1 fuel):=by
 induction fuel with
 | zero=>intro _ _ r h;rw [g_berth_Place_L2.eq_1] at h;cases h
 | succ fuel ih =>
  intro out x2 r h E hE
  rw [g_berth_Place_L2.eq_2] at h
  refine Runs.nR hE 1 [] [] (kp [3,13,49,50,51,52]) (kq [0,1,2]) 19 pn ?_
  refine Runs.nC 1 52 h (fun hq6 h=>?_) (fun hq6 h=>?_)
  ·obtain ⟨c7,h⟩:=ifSome h
   refine Runs.nR hE 4 [] [] (kp [3,13,14,15,49,50,51]) (kq [0,1,2,67]) 115 (pc c7 (pc (ltOf c7) (pc o1 pn))) ?_
   obtain ⟨c8,h⟩:=ifSome h
   obtain ⟨c9,h⟩:=ifSome h
   refine Runs.nR hE 0 [] [] (kp [3] ++ [(13,.osl ((out ++ ([(⟨(c.getD ((x2).toNat) TCall.d).f_Name,(rPlace1.2.getD ((x2).toNat) Tberth_box.d).f_x,(rPlace1.2.getD ((x2).toNat) Tberth_box.d).f_y⟩:TSpot)]:List TSpot)).length))] ++ kp [49,50,51]) (kq [0,2] ++ [(307,.arr 307 ((out ++ ([(⟨(c.getD ((x2).toNat) TCall.d).f_Name,(rPlace1.2.getD ((x2).toNat) Tberth_box.d).f_x,(rPlace1.2.getD ((x2).toNat) Tberth_box.d).f_y⟩:TSpot)]:List TSpot)).length) (fun zi=>TSpot.cells ((out ++ ([(⟨(c.getD ((x2).toNat) TCall.d).f_Name,(rPlace1.2.getD ((x2).toNat) Tberth_box.d).f_x,(rPlace1.2.getD ((x2).toNat) Tberth_box.d).f_y⟩:TSpot)]:List TSpot)).getD zi TSpot.d)))]) 339 (pc o1 (pc c8 (pc o1 (pc o1 (pc (Eq.refl out.length) (pc c9 (pc (z1 1) (pc (show ∀ zi,zi < 1→AV.oneL ((fun zi=>([[(aS ((c.getD ((x2).toNat) TCall.d).f_Name)),(aI ((rPlace1.2.getD ((x2).toNat) Tberth_box.d).f_x)),(aI ((rPlace1.2.getD ((x2).toNat) Tberth_box.d).f_y))]]:List (List AV)).getD zi []) (addz 0 zi))=true from (oneN rfl)) (pc (show (out.length+1)=(out ++ ([(⟨(c.getD ((x2).toNat) TCall.d).f_Name,(rPlace1.2.getD ((x2).toNat) Tberth_box.d).f_x,(rPlace1.2.getD ((x2).toNat) Tberth_box.d).f_y⟩:TSpot)]:List TSpot)).length from (len_app_raw rfl rfl)) (pc (show out.length+1=(out ++ ([(⟨(c.getD ((x2).toNat) TCall.d).f_Name,(rPlace1.2.getD ((x2).toNat) Tberth_box.d).f_x,(rPlace1.2.getD ((x2).toNat) Tberth_box.d).f_y⟩:TSpot)]:List TSpot)).length from (len_app_raw rfl rfl)) (pc (show ∀ zi,zi < (out ++ ([(⟨(c.getD ((x2).toNat) TCall.d).f_Name,(rPlace1.2.getD ((x2).toNat) Tberth_box.d).f_x,(rPlace1.2.getD ((x2).toNat) Tberth_box.d).f_y⟩:TSpot)]:List TSpot)).length→(fun zi=>TSpot.cells ((out ++ ([(⟨(c.getD ((x2).toNat) TCall.d).f_Name,(rPlace1.2.getD ((x2).toNat) Tberth_box.d).f_x,(rPlace1.2.getD ((x2).toNat) Tberth_box.d).f_y⟩:TSpot)]:List TSpot)).getD zi TSpot.d)) zi=((fun zm=>if zm < out.length then (fun zi=>TSpot.cells (out.getD zi TSpot.d)) zm else (fun zi=>([[(aS ((c.getD ((x2).toNat) TCall.d).f_Name)),(aI ((rPlace1.2.getD ((x2).toNat) Tberth_box.d).f_x)),(aI ((rPlace1.2.getD ((x2).toNat) Tberth_box.d).f_y))]]:List (List AV)).getD zi []) (zm - out.length))) zi from (get_app_raw TSpot.cells TSpot.d out ([(⟨(c.getD ((x2).toNat) TCall.d).f_Name,(rPlace1.2.getD ((x2).toNat) Tberth_box.d).f_x,(rPlace1.2.getD ((x2).toNat) Tberth_box.d).f_y⟩:TSpot)]:List TSpot) rfl (fun _ _=>rfl) (fun zq hzq=>get_chunk TSpot.cells TSpot.d ([(⟨(c.getD ((x2).toNat) TCall.d).f_Name,(rPlace1.2.getD ((x2).toNat) Tberth_box.d).f_x,(rPlace1.2.getD ((x2).toNat) Tberth_box.d).f_y⟩:TSpot)]:List TSpot) zq hzq))) pn))))))))))) ?_
   refine Runs.nR hE 1 [] [] (kp [3,13,49,50,51]) (kq [0,2,307]) 371 pn ?_
   exact Runs.nW hE 1 [] (kp [3,13,49,50,51]) (kq [0] ++ [(1,.keep 307)] ++ kq [2]) 3 pn (ih _ _ _ h E hE)
  ·refine Runs.nR hE 2 [] [] (kp [4,5]) (kq [1]) 67 pn ?_
   obtain rfl:=Option.some.inj h
   exact Runs.nT hE 0 Try.f10 [1] ([(4,.sl (out.length) (fun zi=>TSpot.cells (out.getD zi TSpot.d)))] ++ kp [5]) [] 67 (pc (Eq.refl out.length) (pc (z1 out.length) (pc (show ∀ zi,zi < out.length→(fun zi=>TSpot.cells (out.getD zi TSpot.d)) zi=(fun zi=>TSpot.cells (out.getD zi TSpot.d)) (addz 0 zi) from (fun _ _=>rfl)) pn))) [] pn
theorem g_berth_Place_L1_ok (N:Nat) (d:TDock) (c:List TCall) (fuel:Nat):g_berth_Place_L1_H N d c (g_berth_Place_L1 N d c fuel):=by
 induction fuel with
 | zero=>intro _ _ _ r h;rw [g_berth_Place_L1.eq_1] at h;cases h
 | succ fuel ih =>
  intro lengths beams x r h E hE
  rw [g_berth_Place_L1.eq_2] at h
  refine Runs.nR hE 1 [] [] (kp [2,3,7,8,25,26,27,28]) (kq [0,1,2,3,4,5]) 22 pn ?_
  refine Runs.nC 1 28 h (fun hq4 h=>?_) (fun hq4 h=>?_)
  ·obtain ⟨c2,h⟩:=ifSome h
   refine Runs.nR hE 4 [] [] (kp [2,3,7,8,10,25,26,27]) (kq [0,1,2,3,4,5,54]) 86 (pc c2 (pc o1 pn)) ?_
   obtain ⟨c3,h⟩:=ifSome h
   obtain ⟨c4,h⟩:=ifSome h
   refine Runs.nR hE 0 [] [] (kp [2,3,7,8,25,26,27]) (kq [0,1] ++ [(2,.var 2 [.osl ((lengths ++ ([(c.getD ((x).toNat) TCall.d).fLn]:List Int)).length)]),(4,.var 4 [.osl ((beams ++ ([(c.getD ((x).toNat) TCall.d).f_Beam]:List Int)).length)]),(150,.arr 150 ((lengths ++ ([(c.getD ((x).toNat) TCall.d).fLn]:List Int)).length) (fun zi=>cI ((lengths ++ ([(c.getD ((x).toNat) TCall.d).fLn]:List Int)).getD zi 0))),(230,.arr 230 ((beams ++ ([(c.getD ((x).toNat) TCall.d).f_Beam]:List Int)).length) (fun zi=>cI ((beams ++ ([(c.getD ((x).toNat) TCall.d).f_Beam]:List Int)).getD zi 0)))]) 278 (pc o1 (pc o1 (pc (Eq.refl lengths.length) (pc c3 (pc (z1 1) (pc (show ∀ zi,zi < 1→AV.oneL ((fun zi=>([[(aI ((c.getD ((x).toNat) TCall.d).fLn))]]:List (List AV)).getD zi []) (addz 0 zi))=true from (oneN rfl)) (pc o1 (pc o1 (pc (Eq.refl beams.length) (pc c4 (pc (z1 1) (pc (show ∀ zi,zi < 1→AV.oneL ((fun zi=>([[(aI ((c.getD ((x).toNat) TCall.d).f_Beam))]]:List (List AV)).getD zi []) (addz 0 zi))=true from (oneN rfl)) (pc o1 (pc o1 (pc (show (lengths.length+1)=(lengths ++ ([(c.getD ((x).toNat) TCall.d).fLn]:List Int)).length from (len_app_raw rfl rfl)) (pc (show (beams.length+1)=(beams ++ ([(c.getD ((x).toNat) TCall.d).f_Beam]:List Int)).length from (len_app_raw rfl rfl)) (pc (show lengths.length+1=(lengths ++ ([(c.getD ((x).toNat) TCall.d).fLn]:List Int)).length from (len_app_raw rfl rfl)) (pc (show ∀ zi,zi < (lengths ++ ([(c.getD ((x).toNat) TCall.d).fLn]:List Int)).length→(fun zi=>cI ((lengths ++ ([(c.getD ((x).toNat) TCall.d).fLn]:List Int)).getD zi 0)) zi=((fun zm=>if zm < lengths.length then (fun zi=>cI (lengths.getD zi 0)) zm else (fun zi=>([[(aI ((c.getD ((x).toNat) TCall.d).fLn))]]:List (List AV)).getD zi []) (zm - lengths.length))) zi from (get_app_raw cI 0 lengths ([(c.getD ((x).toNat) TCall.d).fLn]:List Int) rfl (fun _ _=>rfl) (fun zq hzq=>get_chunk cI 0 ([(c.getD ((x).toNat) TCall.d).fLn]:List Int) zq hzq))) (pc (show beams.length+1=(beams ++ ([(c.getD ((x).toNat) TCall.d).f_Beam]:List Int)).length from (len_app_raw rfl rfl)) (pc (show ∀ zi,zi < (beams ++ ([(c.getD ((x).toNat) TCall.d).f_Beam]:List Int)).length→(fun zi=>cI ((beams ++ ([(c.getD ((x).toNat) TCall.d).f_Beam]:List Int)).getD zi 0)) zi=((fun zm=>if zm < beams.length then (fun zi=>cI (beams.getD zi 0)) zm else (fun zi=>([[(aI ((c.getD ((x).toNat) TCall.d).f_Beam))]]:List (List AV)).getD zi []) (zm - beams.length))) zi from (get_app_raw cI 0 beams ([(c.getD ((x).toNat) TCall.d).f_Beam]:List Int) rfl (fun _ _=>rfl) (fun zq hzq=>get_chunk cI 0 ([(c.getD ((x).toNat) TCall.d).f_Beam]:List Int) zq hzq))) pn)))))))))))))))))))) ?_
   refine Runs.nR hE 1 [] [] (kp [2,3,7,8,25,26,27]) (kq [0,1,2,4,150,230]) 310 pn ?_
   exact Runs.nW hE 1 [] (kp [2,3,7,8,25,26,27]) (kq [0,1,2] ++ [(3,.keep 150)] ++ kq [4] ++ [(5,.keep 230)]) 6 pn (ih _ _ _ _ h E hE)
  ·obtain ⟨c5,h⟩:=ifSome h
   refine Runs.nR hE 2 [] [] (kp [2,3,7,8,11]) (kq [0,1,2,3,4,5] ++ [(54,.arr 54 ((List.replicate c.length Tberth_box.d:List Tberth_box).length) (fun zi=>Tberth_box.cells ((List.replicate c.length Tberth_box.d:List Tberth_box).getD zi Tberth_box.d))),(70,.var 70 [.osl ((List.replicate c.length Tberth_box.d:List Tberth_box).length)])]) 102 (pc o1 (pc (show 0≤((c.length:Nat):Int) from c5.1) (pc (show ((c.length:Nat):Int)≤((c.length:Nat):Int) from (Int.le_refl _)) (pc (show (32:Int) * ((c.length:Nat):Int)≤281474976710656 from c5.2.1) (pc (show ((c.length:Nat):Int)≤9223372036854775807 from c5.2.2) (pc o1 (pc (show c.length=(List.replicate c.length Tberth_box.d:List Tberth_box).length from (List.length_replicate).symm) (pc (show ∀ zi,zi < (List.replicate c.length Tberth_box.d:List Tberth_box).length→(fun zi=>Tberth_box.cells ((List.replicate c.length Tberth_box.d:List Tberth_box).getD zi Tberth_box.d)) zi=(fun _=>[(aI 0),(aI 0),(aI 0),(aI 0)]) zi from (fun zq hzq=>get_rep Tberth_box.cells Tberth_box.d Tberth_box.d c.length zq hzq)) (pc (show c.length=(List.replicate c.length Tberth_box.d:List Tberth_box).length from (List.length_replicate).symm) pn))))))))) ?_
   refine Runs.nR hE 1 [] [] (kp [2,3,7,8,11,12]) (kq [0,1,2,3,4,5,54,70,102]) 118 pn ?_
   refine Runs.nR hE 1 [] [] (kp [3,11,12]) (kq [0,1,2,3,4,5,54,70,102]) 150 (pc o1 pn) ?_
   obtain ⟨rPlace1,hr2,h⟩:=bindSome h
   obtain ⟨c6,h⟩:=ifSome h
   refine Runs.nR hE 2 [(1,⟨[1,2,3,0,4,5,70,54,102],false,(aB rPlace1.1),[(0,vO 1 [(encL TCall.cells TCall.d c)]),(1,vN 1 [(.os 2 0 lengths.length)]),(2,aO 1 cI 0 lengths),(3,vO 6 (TDock.cells d)),(4,vN 1 [(.os 5 0 beams.length)]),(5,aO 1 cI 0 beams),(6,vN 1 [(.os 7 0 rPlace1.2.length)]),(7,aO 4 Tberth_box.cells Tberth_box.d rPlace1.2),(8,vN 1 [(.fn (.func 31) [] [(.op 0 0 0),(.op 1 0 0),(.op 3 0 0),(.op 4 0 0),(.op 6 0 0),(.op 8 0 0)])])],0,false,none⟩)] [] (kp [3,11,48]) (kq [1,54,70]) 198 (pc o1 (pc (g_berth_Place_1_ok N N 0 c lengths d beams (List.replicate c.length Tberth_box.d:List Tberth_box) rPlace1 hr2) pn)) ?_
   refine Runs.nC 0 48 h (fun hq5 h=>?_) (fun hq5 h=>?_)
   ·refine Runs.nR hE 1 [] [] (kp [4,5]) [] 230 pn ?_
    obtain rfl:=Option.some.inj h
    exact Runs.nT hE 0 Try.f10 [] ([(4,.sl (([]:List TSpot).length) (fun zi=>TSpot.cells (([]:List TSpot).getD zi TSpot.d)))] ++ kp [5]) [] 230 (pc (Eq.refl 0) pn) [] pn
   ·refine Runs.nR hE 2 [] [] (kp [3,11,13]) (kq [1,54,70]) 214 pn ?_
    refine Runs.nR hE 2 [] [] (kp [3,13,49,50,51]) (kq [1,54]) 262 (pc o1 pn) ?_
    exact Runs.nW hE 2 [] (kp [3] ++ [(13,.nilos 1)] ++ kp [49,50,51]) [(0,.keep 1),(1,.nil 3 (fun zi=>TSpot.cells (([]:List TSpot).getD zi TSpot.d))),(2,.keep 54)] 3 pn (g_berth_Place_L2_ok N _ _ N _ _ _ h E hE)
theorem g_berth_Place_ok (N:Nat) (d:TDock) (c:List TCall) (r:(List TSpot)×Int) (h:g_berth_Place N d c=some r):Sound Try.prog 10 [(.agg (TDock.cells d)),(encL TCall.cells TCall.d c)] [] 0 (.tup [(encL TSpot.cells TSpot.d r.1),(aI r.2)]) []:=by
 unfold g_berth_Place at h
 refine Sound.of_runs (fu:=Try.f10) (c:=C_117 1) (nt:=71) (by kernel_rfl) (by kernel_rfl) (by kernel_rfl) (by kernel_rfl) (fun hm=>rfl) ?_
 intro E hE
 refine Runs.nR hE 1 [] [] (kp [2,3]) (kq [0,16]) 64 pn ?_
 obtain ⟨rboth,hr,h⟩:=bindSome h
 refine Runs.nR hE 2 [(2,⟨[],true,(aI rboth),[],0,false,none⟩)] [] (kp [2,3,6]) (kq [0,16]) 128 (pc o1 (pc o1 (pc (g_berth_both_ok N d c rboth hr) pn))) ?_
 refine Runs.nR hE 1 [] [] (kp [2,3,6,20]) (kq [0,16]) 160 pn ?_
 refine Runs.nC 0 20 h (fun hq2 h=>?_) (fun hq2 h=>?_)
 ·refine Runs.nR hE 1 [] [] (kp [4,5]) [] 208 pn ?_
  obtain rfl:=Option.some.inj h
  exact Runs.nT hE 0 Try.f10 [] ([(4,.sl (([]:List TSpot).length) (fun zi=>TSpot.cells (([]:List TSpot).getD zi TSpot.d)))] ++ kp [5]) [] 208 (pc (Eq.refl 0) pn) [] pn
 ·refine Runs.nR hE 3 [] [] (kp [2,3,24]) (kq [0,16]) 208 (pc o1 pn) ?_
  refine Runs.nC 0 24 h (fun hq3 h=>?_) (fun hq3 h=>?_)
  ·refine Runs.nR hE 1 [] [] (kp [4,5]) [] 240 pn ?_
   obtain rfl:=Option.some.inj h
   exact Runs.nT hE 0 Try.f10 [] ([(4,.sl (([]:List TSpot).length) (fun zi=>TSpot.cells (([]:List TSpot).getD zi TSpot.d)))] ++ kp [5]) [] 240 (pc (Eq.refl 0) pn) [] pn
  ·refine Runs.nR hE 2 [] [] (kp [2,3,7,8]) (kq [0,16,208,224]) 240 pn ?_
   refine Runs.nR hE 2 [] [] (kp [2,3,7,8,25,26,27]) (kq [0,16,208,224]) 288 (pc o1 pn) ?_
   exact Runs.nW hE 2 [] (kp [2,3,7,8,25,26,27]) (kq [0] ++ [(1,.keep 16),(2,.var 208 [.nilos 3]),(3,.nil 1 (fun zi=>cI (([]:List Int).getD zi 0))),(4,.var 224 [.nilos 5]),(5,.nil 1 (fun zi=>cI (([]:List Int).getD zi 0)))]) 6 pn (g_berth_Place_L1_ok N _ _ N _ _ _ _ h E hE)
noncomputable def C_127 (n:Nat):Code:=cat (bodyOf Try.f58) (pth n)
theorem g_w_Tide_ok (N:Nat) (m:List TMark) (minute:Int) (r:Int×Int) (h:g_w_Tide N m minute=some r):Sound Try.prog 58 [(encL TMark.cells TMark.d m),(aI minute)] [] 0 (.tup [(aI r.1),(aI r.2)]) []:=by
 unfold g_w_Tide at h
 refine Sound.of_runs (fu:=Try.f58) (c:=C_127 1) (nt:=23) (by kernel_rfl) (by kernel_rfl) (by kernel_rfl) (by kernel_rfl) (fun hm=>rfl) ?_
 intro E hE
 refine Runs.nR hE 1 [] [] (kp [0,1]) [] 32 pn ?_
 obtain ⟨rCheckSea,hr,h⟩:=bindSome h
 refine Runs.nR hE 2 [(1,⟨[],true,(aI rCheckSea),[],0,false,none⟩)] [] (kp [0,1,6]) [] 80 (pc (g_w_CheckSea_ok N m rCheckSea hr) pn) ?_
 refine Runs.nR hE 1 [] [] (kp [0,1,6,10]) [] 112 pn ?_
 refine Runs.nC 0 10 h (fun hq2 h=>?_) (fun hq2 h=>?_)
 ·refine Runs.nR hE 1 [] [] (kp [4,5]) [] 160 pn ?_
  obtain rfl:=Option.some.inj h
  exact Runs.nT hE 0 Try.f58 [] (kp [4,5]) [] 160 pn [] pn
 ·obtain ⟨rBt,hr2,h⟩:=bindSome h
  refine Runs.nR hE 4 [(1,⟨[],true,(aB rBt),[],0,false,none⟩)] [] (kp [0,1,12]) [] 176 (pc (g_w_between_ok N minute 0 1000000 rBt hr2) pn) ?_
  refine Runs.nC 0 12 h (fun hq3 h=>?_) (fun hq3 h=>?_)
  ·refine Runs.nR hE 1 [] [] (kp [4,5]) [] 208 pn ?_
   obtain rfl:=Option.some.inj h
   exact Runs.nT hE 0 Try.f58 [] (kp [4,5]) [] 208 pn [] pn
  ·refine Runs.nR hE 1 [] [] (kp [0,1,16]) [] 240 pn ?_
   refine Runs.nC 0 16 h (fun hq4 h=>?_) (fun hq4 h=>?_)
   ·refine Runs.nR hE 1 [] [] (kp [4,5]) [] 272 pn ?_
    obtain rfl:=Option.some.inj h
    exact Runs.nT hE 0 Try.f58 [] (kp [4,5]) [] 272 pn [] pn
   ·obtain ⟨rtide,hr3,h⟩:=bindSome h
    refine Runs.nR hE 3 [(2,⟨[],true,(aI rtide),[],0,false,none⟩)] [] (kp [4,5]) [] 320 (pc (g_w_tide_ok N m minute rtide hr3) pn) ?_
    obtain rfl:=Option.some.inj h
    exact Runs.nT hE 0 Try.f58 [] (kp [4,5]) [] 320 pn [] pn
noncomputable def C_126 (n:Nat):Code:=cat (bodyOf Try.f27) (pth n)
def g_keelblocktop_passes_L1_H (N:Nat) (y:TYard) (d:TDock) (c:TCall) (day:Int) (K:Int→Int→Option (Bool)):Prop:=∀ (run:Int) (k:Int) (r:Bool),K run k=some r→∀ E,EnvOk E 0→Runs Try.prog E 27 58 (SPost E [] (aB r)) [.code (C_126 116),.inLoop (C_126 116),.inBlock 0,.code (C_126 15)] ⟨[(3,(aI day)),(4,(.op 0 0 0)),(5,(.op 1 0 0)),(6,(.op 2 0 0)),(9,(aI run)),(10,(aI k))],[(0,vO 4 (TYard.cells y)),(1,vO 6 (TDock.cells d)),(2,vO 9 (TCall.cells c))],3⟩
def g_keelblocktop_passes_J2_H (N:Nat) (y:TYard) (d:TDock) (c:TCall) (day:Int) (k:Int) (K:Int→Option (Bool)):Prop:=∀ (run2:Int) (r:Bool),K run2=some r→∀ E,EnvOk E 0→Runs Try.prog E 27 58 (SPost E [] (aB r)) [.code (C_126 14926),.code (C_126 14927),.inBlock 1,.code (C_126 467),.inLoop (C_126 116),.inBlock 0,.code (C_126 15)] ⟨[(3,(aI day)),(4,(.op 0 0 0)),(5,(.op 1 0 0)),(6,(.op 2 0 0)),(9,(aI run2)),(10,(aI k))],[(0,vO 4 (TYard.cells y)),(1,vO 6 (TDock.cells d)),(2,vO 9 (TCall.cells c))],3⟩
theorem g_keelblocktop_passes_J2_ok (N:Nat) (y:TYard) (d:TDock) (c:TCall) (day:Int) (k:Int) (K_g_keelblocktop_passes_L1:Int→Int→Option (Bool)) (hK_g_keelblocktop_passes_L1:g_keelblocktop_passes_L1_H N y d c day K_g_keelblocktop_passes_L1):g_keelblocktop_passes_J2_H N y d c day k (g_keelblocktop_passes_J2 N y d c day k K_g_keelblocktop_passes_L1):=by
 intro run2 r h E hE
 unfold g_keelblocktop_passes_J2 at h
 refine Runs.nR hE 0 [] [] (kp [3,4,5,6,9,10,57]) (kq [0,1,2]) 35 pn ?_
 refine Runs.nC 0 57 h (fun hq5 h=>?_) (fun hq5 h=>?_)
 ·refine Runs.nR hE 1 [] [] (kp [8]) [] 51 pn ?_
  obtain rfl:=Option.some.inj h
  exact Runs.nT hE 0 Try.f27 [] (kp [8]) [] 51 pn [] pn
 ·refine Runs.nR hE 2 [] [] (kp [3,4,5,6,9,10]) (kq [0,1,2]) 83 pn ?_
  exact Runs.nW hE 1 [] (kp [3,4,5,6,9,10]) (kq [0,1,2]) 3 pn (hK_g_keelblocktop_passes_L1 _ _ _ h E hE)
theorem g_keelblocktop_passes_L1_ok (N:Nat) (y:TYard) (d:TDock) (c:TCall) (day:Int) (fuel:Nat):g_keelblocktop_passes_L1_H N y d c day (g_keelblocktop_passes_L1 N y d c day fuel):=by
 induction fuel with
 | zero=>intro _ _ r h;rw [g_keelblocktop_passes_L1.eq_1] at h;cases h
 | succ fuel ih =>
  intro run k r h E hE
  rw [g_keelblocktop_passes_L1.eq_2] at h
  obtain ⟨c2,h⟩:=ifSome h
  refine Runs.nR hE 2 [] [] (kp [3,4,5,6,9,10,32]) (kq [0,1,2]) 291 (pc (fun hg:(decide (k < (w64 ((w64 (1440 * day))+1440))))=true=>(pc hg (pc o1 pn))) (pc (fun hg:(decide (k < (w64 ((w64 (1440 * day))+1440))))=true=>(pc hg (pc o1 pn))) (pc (fun hg:(decide (k < (w64 ((w64 (1440 * day))+1440))))=true=>(pc hg pn)) (pc (fun hg:(decide (k < (w64 ((w64 (1440 * day))+1440))))=true=>(pc hg pn)) (pc (fun hg:(decide (k < (w64 ((w64 (1440 * day))+1440))))=true=>(pc hg (pc hg (pc (c2 hg) pn)))) (pc (fun hg:(decide (k < (w64 ((w64 (1440 * day))+1440))))=true=>(pc hg pn)) (pc (fun hg:(decide (k < (w64 ((w64 (1440 * day))+1440))))=true=>(pc hg pn)) (pc (fun hg:(decide (k < (w64 ((w64 (1440 * day))+1440))))=true=>(pc hg (pc hg pn))) (pc (fun hq:(decide (k < (w64 ((w64 (1440 * day))+1440))))=true=>(pc hq pn)) pn))))))))) ?_
  refine Runs.nC 0 32 h (fun hq2 h=>?_) (fun hq2 h=>?_)
  ·obtain ⟨rTide,hr,h⟩:=bindSome h
   refine Runs.nR hE 4 [(3,⟨[],true,(.tup [(aI rTide.1),(aI rTide.2)]),[],0,false,none⟩)] [] (kp [3,4,5,6,9,10,11,12]) (kq [0,1,2]) 435 (pc o1 (pc (g_w_Tide_ok N y.f_Sea k rTide hr) pn)) ?_
   refine Runs.nR hE 2 [] [] (kp [3,4,5,6,9,10,11,43]) (kq [0,1,2]) 467 pn ?_
   refine Runs.nC 0 43 h (fun hq3 h=>?_) (fun hq3 h=>?_)
   ·refine Runs.nR hE 1 [] [] (kp [8]) [] 483 pn ?_
    obtain rfl:=Option.some.inj h
    exact Runs.nT hE 0 Try.f27 [] (kp [8]) [] 483 pn [] pn
   ·refine Runs.nR hE 3 [] [] (kp [3,4,5,6,9,10,53]) (kq [0,1,2]) 627 (pc o1 (pc o1 (pc o1 pn))) ?_
    refine Runs.nC 0 53 h (fun hq4 h=>?_) (fun hq4 h=>?_)
    ·refine Runs.nR hE 0 [] [] (kp [3,4,5,6,9,10]) (kq [0,1,2]) 675 pn ?_
     exact Runs.nW hE 1 [] (kp [3,4,5,6,9,10]) (kq [0,1,2]) 3 pn (g_keelblocktop_passes_J2_ok N _ _ _ _ _ _ ih _ _ h E hE)
    ·refine Runs.nR hE 0 [] [] (kp [3,4,5,6,9,10]) (kq [0,1,2]) 643 pn ?_
     exact Runs.nW hE 1 [] (kp [3,4,5,6,9,10]) (kq [0,1,2]) 3 pn (g_keelblocktop_passes_J2_ok N _ _ _ _ _ _ ih _ _ h E hE)
  ·refine Runs.nR hE 2 [] [] (kp [8]) [] 307 pn ?_
   obtain rfl:=Option.some.inj h
   exact Runs.nT hE 0 Try.f27 [] (kp [8]) [] 307 pn [] pn
theorem g_keelblocktop_passes_ok (N:Nat) (y:TYard) (d:TDock) (c:TCall) (day:Int) (r:Bool) (h:g_keelblocktop_passes N y d c day=some r):Sound Try.prog 27 [(.agg (TYard.cells y)),(.agg (TDock.cells d)),(.agg (TCall.cells c)),(aI day)] [] 0 (aB r) []:=by
 unfold g_keelblocktop_passes at h
 refine Sound.of_runs (fu:=Try.f27) (c:=C_126 1) (nt:=58) (by kernel_rfl) (by kernel_rfl) (by kernel_rfl) (by kernel_rfl) (fun hm=>rfl) ?_
 intro E hE
 refine Runs.nR hE 1 [] [] (kp [3,4,5,6]) (kq [0,16,32]) 64 pn ?_
 refine Runs.nR hE 1 [] [] (kp [3,4,5,6,9]) (kq [0,16,32]) 80 pn ?_
 refine Runs.nR hE 2 [] [] (kp [3,4,5,6,9,10]) (kq [0,16,32]) 128 pn ?_
 exact Runs.nW hE 2 [] (kp [3,4,5,6,9,10]) (kq [0] ++ [(1,.keep 16),(2,.keep 32)]) 3 pn (g_keelblocktop_passes_L1_ok N _ _ _ _ N _ _ _ h E hE)
noncomputable def C_108 (n:Nat):Code:=cat (bodyOf Try.f7) (pth n)
def g_keelblocktop_TopBestDocking_L1_H (N:Nat) (y:TYard) (rBest:(List TStay)×Int×Int) (K:Int→Option (Bool)):Prop:=∀ (i:Int) (r:Bool),K i=some r→∀ E,EnvOk E 0→Runs Try.prog E 7 211 (SPost E [] (aB r)) [.code (C_108 1012),.inLoop (C_108 1012),.inBlock 0,.code (C_108 127)] ⟨[(1,(.op 0 0 0)),(3,(encL TStay.cells TStay.d rBest.1)),(4,(aI rBest.2.1)),(6,(aI i))],[(0,vO 4 (TYard.cells y))],1⟩
def g_keelblocktop_TopBestDocking_L2_H (N:Nat) (y:TYard) (rBest:(List TStay)×Int×Int) (K:(List TDock)→Int→Option (Bool)):Prop:=∀ (more:List TDock) (i2:Int) (r:Bool),K more i2=some r→∀ E,EnvOk E 0→Runs Try.prog E 7 211 (SPost E [] (aB r)) [.code (C_108 8180),.inLoop (C_108 8180),.inBlock 2,.code (C_108 1023)] ⟨[(1,(.op 0 0 0)),(4,(aI rBest.2.1)),(13,(.op 1 0 0)),(14,(aI i2))],[(0,vO 4 (TYard.cells y)),(1,vN 4 [(.os 2 0 more.length),(encL TCall.cells TCall.d y.f_Calls),(encL TMark.cells TMark.d y.f_Sea),(aI y.f_Last)]),(2,aO 6 TDock.cells TDock.d more)],3⟩
def g_keelblocktop_TopBestDocking_J3_H (N:Nat) (K:Option (Bool)):Prop:=∀ (r:Bool),K=some r→∀ E,EnvOk E 0→Runs Try.prog E 7 211 (SPost E [] (aB r)) [.code (C_108 16382),.code (C_108 16383)] ⟨[],[],0⟩
theorem g_keelblocktop_TopBestDocking_J3_ok (N:Nat):g_keelblocktop_TopBestDocking_J3_H N (g_keelblocktop_TopBestDocking_J3 N):=by
 intro r h E hE
 unfold g_keelblocktop_TopBestDocking_J3 at h
 obtain ⟨rwet3,hr14,h⟩:=bindSome h
 refine Runs.nR hE 0 [(0,⟨[],true,(aB rwet3),[],0,false,none⟩)] [] (kp [2]) [] 32 (pc (g_keelblocktop_wet_ok N rwet3 hr14) pn) ?_
 obtain rfl:=Option.some.inj h
 exact Runs.nT hE 0 Try.f7 [] (kp [2]) [] 48 pn [] pn
theorem g_keelblocktop_TopBestDocking_L2_ok (N:Nat) (y:TYard) (rBest:(List TStay)×Int×Int) (fuel:Nat):g_keelblocktop_TopBestDocking_L2_H N y rBest (g_keelblocktop_TopBestDocking_L2 N y rBest fuel):=by
 induction fuel with
 | zero=>intro _ _ r h;rw [g_keelblocktop_TopBestDocking_L2.eq_1] at h;cases h
 | succ fuel ih =>
  intro more i2 r h E hE
  rw [g_keelblocktop_TopBestDocking_L2.eq_2] at h
  refine Runs.nR hE 2 [] [] (kp [1,4,13,14,155]) (kq [0,1,2]) 83 (pc o1 pn) ?_
  refine Runs.nC 0 155 h (fun hq8 h=>?_) (fun hq8 h=>?_)
  ·obtain ⟨c9,h⟩:=ifSome h
   obtain ⟨c10,h⟩:=ifSome h
   refine Runs.nR hE 3 [] [] (kp [1,4,13,14]) (kq [0] ++ [(1,.var 1 [.osl ((more.set ((i2).toNat) (⟨((⟨#[109,111,114,101]⟩:ByteArray) ++ (strL ([(IntKind.u8.wrap ((w64 (97+i2))))]:List Int))),(more.getD ((i2).toNat) TDock.d).fLn,(more.getD ((i2).toNat) TDock.d).f_Width,(more.getD ((i2).toNat) TDock.d).f_Sill,(more.getD ((i2).toNat) TDock.d).f_Floor,(more.getD ((i2).toNat) TDock.d).f_Gap⟩:TDock)).length),.keep,.keep,.keep]),(2,.arr 2 ((more.set ((i2).toNat) (⟨((⟨#[109,111,114,101]⟩:ByteArray) ++ (strL ([(IntKind.u8.wrap ((w64 (97+i2))))]:List Int))),(more.getD ((i2).toNat) TDock.d).fLn,(more.getD ((i2).toNat) TDock.d).f_Width,(more.getD ((i2).toNat) TDock.d).f_Sill,(more.getD ((i2).toNat) TDock.d).f_Floor,(more.getD ((i2).toNat) TDock.d).f_Gap⟩:TDock)).length) (fun zi=>TDock.cells ((more.set ((i2).toNat) (⟨((⟨#[109,111,114,101]⟩:ByteArray) ++ (strL ([(IntKind.u8.wrap ((w64 (97+i2))))]:List Int))),(more.getD ((i2).toNat) TDock.d).fLn,(more.getD ((i2).toNat) TDock.d).f_Width,(more.getD ((i2).toNat) TDock.d).f_Sill,(more.getD ((i2).toNat) TDock.d).f_Floor,(more.getD ((i2).toNat) TDock.d).f_Gap⟩:TDock)).getD zi TDock.d)))]) 275 (pc o1 (pc (show ∀ zi,zi < 1→isU8 ((fun zi=>([[(.atom (.int .u8 (IntKind.u8.wrap ((w64 (97+i2))))))]]:List (List AV)).getD zi []) (addz 0 zi))=true from (u8N rfl)) (pc (z1 1) (pc (show ∀ zi,zi < 1→AV.oneL ((fun zi=>([[(.atom (.int .u8 (IntKind.u8.wrap ((w64 (97+i2))))))]]:List (List AV)).getD zi []) (addz 0 zi))=true from (oneN rfl)) (pc c9 (pc c10 (pc (ltOf c10) (pc (len_set0 more ((i2).toNat) (⟨((⟨#[109,111,114,101]⟩:ByteArray) ++ (strL ([(IntKind.u8.wrap ((w64 (97+i2))))]:List Int))),(more.getD ((i2).toNat) TDock.d).fLn,(more.getD ((i2).toNat) TDock.d).f_Width,(more.getD ((i2).toNat) TDock.d).f_Sill,(more.getD ((i2).toNat) TDock.d).f_Floor,(more.getD ((i2).toNat) TDock.d).f_Gap⟩:TDock)) (pc (len_set0 more ((i2).toNat) (⟨((⟨#[109,111,114,101]⟩:ByteArray) ++ (strL ([(IntKind.u8.wrap ((w64 (97+i2))))]:List Int))),(more.getD ((i2).toNat) TDock.d).fLn,(more.getD ((i2).toNat) TDock.d).f_Width,(more.getD ((i2).toNat) TDock.d).f_Sill,(more.getD ((i2).toNat) TDock.d).f_Floor,(more.getD ((i2).toNat) TDock.d).f_Gap⟩:TDock)) (pc (get_set0 TDock.cells TDock.d more ((i2).toNat) (⟨((⟨#[109,111,114,101]⟩:ByteArray) ++ (strL ([(IntKind.u8.wrap ((w64 (97+i2))))]:List Int))),(more.getD ((i2).toNat) TDock.d).fLn,(more.getD ((i2).toNat) TDock.d).f_Width,(more.getD ((i2).toNat) TDock.d).f_Sill,(more.getD ((i2).toNat) TDock.d).f_Floor,(more.getD ((i2).toNat) TDock.d).f_Gap⟩:TDock)) pn)))))))))) ?_
   refine Runs.nR hE 1 [] [] (kp [1,4,13,14]) (kq [0,1,2]) 323 pn ?_
   exact Runs.nW hE 1 [] (kp [1,4,13,14]) (kq [0,1,2]) 3 pn (ih _ _ _ h E hE)
  ·refine Runs.nX hE [2] (kp [1,4,13]) (kq [0] ++ [(1,.var 1 [.sl (more.length) (fun zi=>TDock.cells (more.getD zi TDock.d)),.keep,.keep,.keep])]) 83 (pc (Eq.refl more.length) (pc (z1 more.length) (pc (show ∀ zi,zi < more.length→(fun zi=>TDock.cells (more.getD zi TDock.d)) zi=(fun zi=>TDock.cells (more.getD zi TDock.d)) (addz 0 zi) from (fun _ _=>rfl)) pn))) ?_
   obtain ⟨rBest3,hr11,h⟩:=bindSome h
   refine Runs.nR hE 2 [(1,⟨[],true,(.tup [(encL TStay.cells TStay.d rBest3.1),(aI rBest3.2.1),(aI rBest3.2.2)]),[],0,false,none⟩)] [] (kp [1,4,13,16,17]) (kq [0,1]) 227 (pc o1 (pc (g_berth_Best_ok N (⟨more,y.f_Calls,y.f_Sea,y.f_Last⟩:TYard) rBest3 hr11) pn)) ?_
   obtain ⟨rCheckDocks,hr12,h⟩:=bindSome h
   refine Runs.nR hE 2 [(2,⟨[],true,(aI rCheckDocks),[],0,false,none⟩)] [] (kp [1,4,187]) (kq [0]) 435 (pc o1 (pc (g_r06_CheckDocks_ok N more rCheckDocks hr12) (pc (fun hg:(rCheckDocks == 0)=true=>(pc hg pn)) (pc (fun hg:((rCheckDocks == 0) && ((rCheckDocks == 0) && (!(rBest3.2.2 != 0))))=true=>(pc hg (pc hg pn))) (pc (fun hg:(rCheckDocks == 0)=true=>(pc hg (pc hg (pc (fun hq:(!(rBest3.2.2 != 0))=true=>(pc (show ((rCheckDocks == 0) && ((rCheckDocks == 0) && (!(rBest3.2.2 != 0))))=true from (andI' hg (andI' hg hq))) pn)) pn)))) (pc (fun hq:(rCheckDocks == 0)=true=>(pc hq pn)) pn)))))) ?_
   refine Runs.nC 0 187 h (fun hq9 h=>?_) (fun hq9 h=>?_)
   ·refine Runs.nR hE 1 [] [] (kp [2]) [] 451 pn ?_
    obtain rfl:=Option.some.inj h
    exact Runs.nT hE 0 Try.f7 [] (kp [2]) [] 451 pn [] pn
   ·refine Runs.nR hE 3 [] [] (kp [1,4,191]) (kq [0]) 499 (pc o1 pn) ?_
    refine Runs.nC 0 191 h (fun hq10 h=>?_) (fun hq10 h=>?_)
    ·refine Runs.nR hE 1 [] [] (kp [1,4,18]) (kq [0,515]) 547 (pc o1 (pc o1 pn)) ?_
     obtain ⟨c11,h⟩:=ifSome h
     refine Runs.nR hE 1 [] [] (kp [4,18]) [(515,.var 515 [.keep,.sl (((y.f_Calls.take y.f_Calls.length).drop 1).length) (fun zi=>TCall.cells (((y.f_Calls.take y.f_Calls.length).drop 1).getD zi TCall.d)),.keep,.keep])] 627 (pc o1 (pc c11 (pc (show 0≤(1:Int) by decide) (pc o1 (pc (show y.f_Calls.length - 1=((y.f_Calls.take y.f_Calls.length).drop 1).length from (len_ext' y.f_Calls 1 y.f_Calls.length c11)) (pc (show ∀ zi,zi < ((y.f_Calls.take y.f_Calls.length).drop 1).length→(fun zi=>TCall.cells (((y.f_Calls.take y.f_Calls.length).drop 1).getD zi TCall.d)) zi=(fun zi=>TCall.cells (y.f_Calls.getD (addz 1 zi) TCall.d)) zi from (fun zq hzq=>get_ext TCall.cells TCall.d y.f_Calls 1 y.f_Calls.length zq hzq)) pn)))))) ?_
     obtain ⟨rBest4,hr13,h⟩:=bindSome h
     refine Runs.nR hE 1 [(1,⟨[],true,(.tup [(encL TStay.cells TStay.d rBest4.1),(aI rBest4.2.1),(aI rBest4.2.2)]),[],0,false,none⟩)] [] (kp [4,20,21]) [] 771 (pc o1 (pc (g_berth_Best_ok N (⟨y.f_Docks,((y.f_Calls.take y.f_Calls.length).drop 1),y.f_Sea,y.f_Last⟩:TYard) rBest4 hr13) pn)) ?_
     refine Runs.nR hE 1 [] [] (kp [209]) [] 883 (pc (fun hg:(!(rBest4.2.2 != 0))=true=>(pc hg (pc hg pn))) (pc (fun hq:(!(rBest4.2.2 != 0))=true=>(pc hq pn)) pn)) ?_
     refine Runs.nC 0 209 h (fun hq11 h=>?_) (fun hq11 h=>?_)
     ·refine Runs.nR hE 1 [] [] (kp [2]) [] 899 pn ?_
      obtain rfl:=Option.some.inj h
      exact Runs.nT hE 0 Try.f7 [] (kp [2]) [] 899 pn [] pn
     ·exact Runs.nW hE 2 [] [] [] 0 pn (g_keelblocktop_TopBestDocking_J3_ok N _ h E hE)
    ·exact Runs.nW hE 2 [] [] [] 0 pn (g_keelblocktop_TopBestDocking_J3_ok N _ h E hE)
theorem g_keelblocktop_TopBestDocking_L1_ok (N:Nat) (y:TYard) (rBest:(List TStay)×Int×Int) (fuel:Nat):g_keelblocktop_TopBestDocking_L1_H N y rBest (g_keelblocktop_TopBestDocking_L1 N y rBest fuel):=by
 induction fuel with
 | zero=>intro _ r h;rw [g_keelblocktop_TopBestDocking_L1.eq_1] at h;cases h
 | succ fuel ih =>
  intro i r h E hE
  rw [g_keelblocktop_TopBestDocking_L1.eq_2] at h
  refine Runs.nR hE 2 [] [] (kp [1,3,4,6,53]) (kq [0]) 65 pn ?_
  refine Runs.nC 0 53 h (fun hq5 h=>?_) (fun hq5 h=>?_)
  ·obtain ⟨c,h⟩:=ifSome h
   obtain ⟨rCallOf,hr5,h⟩:=bindSome h
   obtain ⟨rDockOf,hr6,h⟩:=bindSome h
   refine Runs.nR hE 4 [(7,⟨[],true,(aI rCallOf),[],0,false,none⟩),(15,⟨[],true,(aI rDockOf),[],0,false,none⟩)] [] (kp [1,3,4,6,7,8]) (kq [0]) 353 (pc o1 (pc c (pc (g_r06_CallOf_ok N y.f_Calls ((rBest.1.getD ((i).toNat) TStay.d).f_Call) rCallOf hr5) (pc o1 (pc c (pc (g_r06_DockOf_ok N y.f_Docks ((rBest.1.getD ((i).toNat) TStay.d).f_Dock) rDockOf hr6) pn)))))) ?_
   refine Runs.nR hE 2 [] [] (kp [1,3,4,6,7,8,77]) (kq [0]) 449 (pc (fun hg:(!(decide (rCallOf < 0)))=true=>(pc hg pn)) (pc (fun hq:(!(decide (rCallOf < 0)))=true=>(pc hq pn)) pn)) ?_
   refine Runs.nC 0 77 h (fun hq6 h=>?_) (fun hq6 h=>?_)
   ·refine Runs.nR hE 1 [] [] (kp [2]) [] 465 pn ?_
    obtain rfl:=Option.some.inj h
    exact Runs.nT hE 0 Try.f7 [] (kp [2]) [] 465 pn [] pn
   ·obtain ⟨c2,h⟩:=ifSome h
    obtain ⟨c3,h⟩:=ifSome h
    refine Runs.nR hE 2 [] [] (kp [1,3,4,6,9,10]) (kq [0,609,625]) 673 (pc o1 (pc c2 (pc o1 (pc c3 (pc o1 (pc o1 pn)))))) ?_
    obtain ⟨rPlace,hr7,h⟩:=bindSome h
    refine Runs.nR hE 1 [(3,⟨[],true,(.tup [(encL TSpot.cells TSpot.d rPlace.1),(aI rPlace.2)]),[],0,true,none⟩)] [] (kp [1,3,4,6,9,10,11,12]) (kq [0,609,625]) 817 (pc o1 (pc o1 (pc (show Sound Try.prog 10 [(.agg (TDock.cells (y.f_Docks.getD ((rDockOf).toNat) TDock.d))),(.sl 1 (fun zi=>(fun zi=>([[(aS ((y.f_Calls.getD ((rCallOf).toNat) TCall.d).f_Name)),(aI ((y.f_Calls.getD ((rCallOf).toNat) TCall.d).fLn)),(aI ((y.f_Calls.getD ((rCallOf).toNat) TCall.d).f_Beam)),(aI ((y.f_Calls.getD ((rCallOf).toNat) TCall.d).f_Draught)),(aI ((y.f_Calls.getD ((rCallOf).toNat) TCall.d).f_Under)),(aI ((y.f_Calls.getD ((rCallOf).toNat) TCall.d).f_Arrive)),(aI ((y.f_Calls.getD ((rCallOf).toNat) TCall.d).f_Work)),(aI ((y.f_Calls.getD ((rCallOf).toNat) TCall.d).f_Due)),(aI ((y.f_Calls.getD ((rCallOf).toNat) TCall.d).f_Late))]]:List (List AV)).getD zi []) (addz 0 zi)))] [] 0 (.tup [(encL TSpot.cells TSpot.d rPlace.1),(aI rPlace.2)]) [] from (Sound.conv (g_berth_Place_ok N (y.f_Docks.getD ((rDockOf).toNat) TDock.d) ([(y.f_Calls.getD ((rCallOf).toNat) TCall.d)]:List TCall) rPlace hr7) (.cons (Alike.refl _) (.cons (Alike.sl rfl (fun zq hzq=>get_chunk TCall.cells TCall.d ([(y.f_Calls.getD ((rCallOf).toNat) TCall.d)]:List TCall) zq hzq)) .nil)))) (pc (z1 1) pn)))) ?_
    obtain ⟨c4,h⟩:=ifSome h
    obtain ⟨c5,h⟩:=ifSome h
    obtain ⟨rpasses,hr8,h⟩:=bindSome h
    obtain ⟨c6,h⟩:=ifSome h
    obtain ⟨rpasses2,hr9,h⟩:=bindSome h
    refine Runs.nR hE 1 [(26,⟨[],true,(aB rpasses),[],0,false,none⟩),(41,⟨[],true,(aB rpasses2),[],0,false,none⟩)] [] (kp [1,3,4,6,138]) (kq [0]) 1521 (pc (fun hg:(!(rPlace.2 != 0))=true=>(pc hg pn)) (pc (fun hg:(!(rPlace.2 != 0))=true=>(pc hg pn)) (pc (fun hq:(!(rPlace.2 != 0))=true=>(pc hq pn)) (pc (fun hg:(!(cond (rPlace.2 != 0) true (((rPlace.1.length:Nat):Int) != 1)))=true=>(pc hg (pc hg (pc (c4 hg) pn)))) (pc (fun hg:(!(cond (rPlace.2 != 0) true (((rPlace.1.length:Nat):Int) != 1)))=true=>(pc hg pn)) (pc (fun hg:(!(cond (rPlace.2 != 0) true (((rPlace.1.length:Nat):Int) != 1)))=true=>(pc hg pn)) (pc (fun hg:(!(cond (rPlace.2 != 0) true (((rPlace.1.length:Nat):Int) != 1)))=true=>(pc hg (pc o1 pn))) (pc (fun hg:(!(cond (rPlace.2 != 0) true (((rPlace.1.length:Nat):Int) != 1)))=true=>(pc hg (pc hg pn))) (pc (fun hq:(!(cond (rPlace.2 != 0) true (((rPlace.1.length:Nat):Int) != 1)))=true=>(pc hq pn)) (pc (fun hg:(!(cond (cond (rPlace.2 != 0) true (((rPlace.1.length:Nat):Int) != 1)) true (decide ((rBest.1.getD ((i).toNat) TStay.d).f_Day < (y.f_Calls.getD ((rCallOf).toNat) TCall.d).f_Arrive))))=true=>(pc o1 pn)) (pc (fun hg:(!(cond (cond (rPlace.2 != 0) true (((rPlace.1.length:Nat):Int) != 1)) true (decide ((rBest.1.getD ((i).toNat) TStay.d).f_Day < (y.f_Calls.getD ((rCallOf).toNat) TCall.d).f_Arrive))))=true=>(pc o1 pn)) (pc (fun hg:(!(cond (cond (rPlace.2 != 0) true (((rPlace.1.length:Nat):Int) != 1)) true (decide ((rBest.1.getD ((i).toNat) TStay.d).f_Day < (y.f_Calls.getD ((rCallOf).toNat) TCall.d).f_Arrive))))=true=>(pc o1 pn)) (pc (fun hg:(!(cond (cond (rPlace.2 != 0) true (((rPlace.1.length:Nat):Int) != 1)) true (decide ((rBest.1.getD ((i).toNat) TStay.d).f_Day < (y.f_Calls.getD ((rCallOf).toNat) TCall.d).f_Arrive))))=true=>(pc hg (pc hg (pc (c5 hg) pn)))) (pc (fun hg:(!(cond (cond (rPlace.2 != 0) true (((rPlace.1.length:Nat):Int) != 1)) true (decide ((rBest.1.getD ((i).toNat) TStay.d).f_Day < (y.f_Calls.getD ((rCallOf).toNat) TCall.d).f_Arrive))))=true=>(pc hg pn)) (pc (fun hg:(!(cond (cond (rPlace.2 != 0) true (((rPlace.1.length:Nat):Int) != 1)) true (decide ((rBest.1.getD ((i).toNat) TStay.d).f_Day < (y.f_Calls.getD ((rCallOf).toNat) TCall.d).f_Arrive))))=true=>(pc hg pn)) (pc (fun hg:(!(cond (cond (rPlace.2 != 0) true (((rPlace.1.length:Nat):Int) != 1)) true (decide ((rBest.1.getD ((i).toNat) TStay.d).f_Day < (y.f_Calls.getD ((rCallOf).toNat) TCall.d).f_Arrive))))=true=>(pc (g_keelblocktop_passes_ok N y (y.f_Docks.getD ((rDockOf).toNat) TDock.d) (y.f_Calls.getD ((rCallOf).toNat) TCall.d) ((rBest.1.getD ((i).toNat) TStay.d).f_Day) rpasses (condT hr8 hg)) (pc hg (pc hg (pc hg (pc hg pn)))))) (pc (fun hg:(!(cond (cond (rPlace.2 != 0) true (((rPlace.1.length:Nat):Int) != 1)) true (decide ((rBest.1.getD ((i).toNat) TStay.d).f_Day < (y.f_Calls.getD ((rCallOf).toNat) TCall.d).f_Arrive))))=true=>(pc hg pn)) (pc (fun hq:(!(cond (cond (rPlace.2 != 0) true (((rPlace.1.length:Nat):Int) != 1)) true (decide ((rBest.1.getD ((i).toNat) TStay.d).f_Day < (y.f_Calls.getD ((rCallOf).toNat) TCall.d).f_Arrive))))=true=>(pc hq pn)) (pc (fun hg:(!(cond (cond (cond (rPlace.2 != 0) true (((rPlace.1.length:Nat):Int) != 1)) true (decide ((rBest.1.getD ((i).toNat) TStay.d).f_Day < (y.f_Calls.getD ((rCallOf).toNat) TCall.d).f_Arrive))) true (!rpasses)))=true=>(pc o1 pn)) (pc (fun hg:(!(cond (cond (cond (rPlace.2 != 0) true (((rPlace.1.length:Nat):Int) != 1)) true (decide ((rBest.1.getD ((i).toNat) TStay.d).f_Day < (y.f_Calls.getD ((rCallOf).toNat) TCall.d).f_Arrive))) true (!rpasses)))=true=>(pc o1 pn)) (pc (fun hg:(!(cond (cond (cond (rPlace.2 != 0) true (((rPlace.1.length:Nat):Int) != 1)) true (decide ((rBest.1.getD ((i).toNat) TStay.d).f_Day < (y.f_Calls.getD ((rCallOf).toNat) TCall.d).f_Arrive))) true (!rpasses)))=true=>(pc o1 pn)) (pc (fun hg:(!(cond (cond (cond (rPlace.2 != 0) true (((rPlace.1.length:Nat):Int) != 1)) true (decide ((rBest.1.getD ((i).toNat) TStay.d).f_Day < (y.f_Calls.getD ((rCallOf).toNat) TCall.d).f_Arrive))) true (!rpasses)))=true=>(pc hg (pc hg (pc (c6 hg) pn)))) (pc (fun hg:(!(cond (cond (cond (rPlace.2 != 0) true (((rPlace.1.length:Nat):Int) != 1)) true (decide ((rBest.1.getD ((i).toNat) TStay.d).f_Day < (y.f_Calls.getD ((rCallOf).toNat) TCall.d).f_Arrive))) true (!rpasses)))=true=>(pc hg pn)) (pc (fun hg:(!(cond (cond (cond (rPlace.2 != 0) true (((rPlace.1.length:Nat):Int) != 1)) true (decide ((rBest.1.getD ((i).toNat) TStay.d).f_Day < (y.f_Calls.getD ((rCallOf).toNat) TCall.d).f_Arrive))) true (!rpasses)))=true=>(pc hg pn)) (pc (fun hg:(!(cond (cond (cond (rPlace.2 != 0) true (((rPlace.1.length:Nat):Int) != 1)) true (decide ((rBest.1.getD ((i).toNat) TStay.d).f_Day < (y.f_Calls.getD ((rCallOf).toNat) TCall.d).f_Arrive))) true (!rpasses)))=true=>(pc hg (pc o1 pn))) (pc (fun hg:(!(cond (cond (cond (rPlace.2 != 0) true (((rPlace.1.length:Nat):Int) != 1)) true (decide ((rBest.1.getD ((i).toNat) TStay.d).f_Day < (y.f_Calls.getD ((rCallOf).toNat) TCall.d).f_Arrive))) true (!rpasses)))=true=>(pc hg (pc hg pn))) (pc (fun hg:(!(cond (cond (cond (rPlace.2 != 0) true (((rPlace.1.length:Nat):Int) != 1)) true (decide ((rBest.1.getD ((i).toNat) TStay.d).f_Day < (y.f_Calls.getD ((rCallOf).toNat) TCall.d).f_Arrive))) true (!rpasses)))=true=>(pc (g_keelblocktop_passes_ok N y (y.f_Docks.getD ((rDockOf).toNat) TDock.d) (y.f_Calls.getD ((rCallOf).toNat) TCall.d) (w64 ((rBest.1.getD ((i).toNat) TStay.d).f_Day+(y.f_Calls.getD ((rCallOf).toNat) TCall.d).f_Work)) rpasses2 (condT hr9 hg)) (pc hg (pc hg (pc hg (pc hg pn)))))) (pc (fun hg:(!(cond (cond (cond (rPlace.2 != 0) true (((rPlace.1.length:Nat):Int) != 1)) true (decide ((rBest.1.getD ((i).toNat) TStay.d).f_Day < (y.f_Calls.getD ((rCallOf).toNat) TCall.d).f_Arrive))) true (!rpasses)))=true=>(pc hg pn)) (pc (fun hq:(!(cond (cond (cond (rPlace.2 != 0) true (((rPlace.1.length:Nat):Int) != 1)) true (decide ((rBest.1.getD ((i).toNat) TStay.d).f_Day < (y.f_Calls.getD ((rCallOf).toNat) TCall.d).f_Arrive))) true (!rpasses)))=true=>(pc hq pn)) pn))))))))))))))))))))))))))))) ?_
    refine Runs.nC 0 138 h (fun hq7 h=>?_) (fun hq7 h=>?_)
    ·refine Runs.nR hE 1 [] [] (kp [2]) [] 1537 pn ?_
     obtain rfl:=Option.some.inj h
     exact Runs.nT hE 0 Try.f7 [] (kp [2]) [] 1537 pn [] pn
    ·refine Runs.nR hE 2 [] [] (kp [1,3,4,6]) (kq [0]) 1569 pn ?_
     exact Runs.nW hE 1 [] (kp [1,3,4,6]) (kq [0]) 1 pn (ih _ _ h E hE)
  ·refine Runs.nR hE 2 [] [] (kp [1,4,13]) (kq [0,81]) 113 (pc o1 (pc o1 pn)) ?_
   obtain ⟨c7,h⟩:=ifSome h
   obtain ⟨c8,h⟩:=ifSome h
   refine Runs.nR hE 1 [] [] (kp [1,4,13]) (kq [0] ++ [(81,.var 81 [.osl (((([]:List TDock) ++ y.f_Docks) ++ y.f_Docks).length),.keep,.keep,.keep]),(209,.arr 209 (((([]:List TDock) ++ y.f_Docks) ++ y.f_Docks).length) (fun zi=>TDock.cells (((([]:List TDock) ++ y.f_Docks) ++ y.f_Docks).getD zi TDock.d)))]) 257 (pc o1 (pc (Eq.refl 0) (pc c7 (pc (show ∀ zi,zi < y.f_Docks.length→AV.oneL ((fun zi=>TDock.cells (y.f_Docks.getD zi TDock.d)) zi)=true from (fun _ _=>rfl)) (pc o1 (pc (Eq.refl (0+y.f_Docks.length)) (pc c8 (pc (show ∀ zi,zi < y.f_Docks.length→AV.oneL ((fun zi=>TDock.cells (y.f_Docks.getD zi TDock.d)) zi)=true from (fun _ _=>rfl)) (pc o1 (pc (show ((0+y.f_Docks.length)+y.f_Docks.length)=((([]:List TDock) ++ y.f_Docks) ++ y.f_Docks).length from (len_app_raw (len_app_raw rfl rfl) rfl)) (pc (show (0+y.f_Docks.length)+y.f_Docks.length=((([]:List TDock) ++ y.f_Docks) ++ y.f_Docks).length from (len_app_raw (len_app_raw rfl rfl) rfl)) (pc (show ∀ zi,zi < ((([]:List TDock) ++ y.f_Docks) ++ y.f_Docks).length→(fun zi=>TDock.cells (((([]:List TDock) ++ y.f_Docks) ++ y.f_Docks).getD zi TDock.d)) zi=((fun zm=>if zm < (0+y.f_Docks.length) then ((fun zm=>if zm < 0 then (fun _=>[]) zm else (fun zi=>TDock.cells (y.f_Docks.getD zi TDock.d)) (zm - 0))) zm else (fun zi=>TDock.cells (y.f_Docks.getD zi TDock.d)) (zm - (0+y.f_Docks.length)))) zi from (get_app_raw TDock.cells TDock.d (([]:List TDock) ++ y.f_Docks) y.f_Docks (len_app_raw rfl rfl) (get_app_raw TDock.cells TDock.d ([]:List TDock) y.f_Docks rfl (fun zq hzq=>absurd hzq (Nat.not_lt_zero _)) (fun _ _=>rfl)) (fun _ _=>rfl))) pn)))))))))))) ?_
   refine Runs.nR hE 2 [] [] (kp [1,4,13,14]) (kq [0,81,209]) 321 (pc o1 pn) ?_
   exact Runs.nW hE 2 [] (kp [1,4,13,14]) (kq [0] ++ [(1,.keep 81),(2,.keep 209)]) 3 pn (g_keelblocktop_TopBestDocking_L2_ok N _ _ N _ _ _ h E hE)
theorem g_keelblocktop_TopBestDocking_ok (N:Nat) (y:TYard) (r:Bool) (h:g_keelblocktop_TopBestDocking N y=some r):Sound Try.prog 7 [(.agg (TYard.cells y))] [] 0 (aB r) []:=by
 unfold g_keelblocktop_TopBestDocking at h
 refine Sound.of_runs (fu:=Try.f7) (c:=C_108 1) (nt:=211) (by kernel_rfl) (by kernel_rfl) (by kernel_rfl) (by kernel_rfl) (fun hm=>rfl) ?_
 intro E hE
 refine Runs.nR hE 1 [] [] (kp [1]) (kq [0]) 32 pn ?_
 obtain ⟨rcalmYard,hr,h⟩:=bindSome h
 refine Runs.nR hE 2 [(1,⟨[],true,(aB rcalmYard),[],0,false,none⟩)] [] (kp [1,24]) (kq [0]) 80 (pc o1 (pc (g_keelblocktop_calmYard_ok N y rcalmYard hr) pn)) ?_
 refine Runs.nC 0 24 h (fun hq2 h=>?_) (fun hq2 h=>?_)
 ·obtain ⟨rwet,hr2,h⟩:=bindSome h
  refine Runs.nR hE 1 [(0,⟨[],true,(aB rwet),[],0,false,none⟩)] [] (kp [2]) [] 112 (pc (g_keelblocktop_wet_ok N rwet hr2) pn) ?_
  obtain rfl:=Option.some.inj h
  exact Runs.nT hE 0 Try.f7 [] (kp [2]) [] 112 pn [] pn
 ·obtain ⟨rBest,hr3,h⟩:=bindSome h
  refine Runs.nR hE 2 [(1,⟨[],true,(.tup [(encL TStay.cells TStay.d rBest.1),(aI rBest.2.1),(aI rBest.2.2)]),[],0,false,none⟩)] [] (kp [1,3,4,5]) (kq [0]) 224 (pc o1 (pc (g_berth_Best_ok N y rBest hr3) pn)) ?_
  refine Runs.nR hE 2 [] [] (kp [1,3,4,5,33]) (kq [0]) 256 pn ?_
  refine Runs.nC 0 33 h (fun hq3 h=>?_) (fun hq3 h=>?_)
  ·obtain ⟨rwet2,hr4,h⟩:=bindSome h
   refine Runs.nR hE 1 [(8,⟨[],true,(aB rwet2),[],0,false,none⟩)] [] (kp [2]) [] 432 (pc (fun hg:(rBest.2.2 == 29)=true=>(pc hg pn)) (pc (fun hg:(rBest.2.2 == 29)=true=>(pc hg pn)) (pc (fun hq:(rBest.2.2 == 29)=true=>(pc hq pn)) (pc (fun hg:(cond (rBest.2.2 == 29) (((rBest.1.length:Nat):Int) == 0) false)=true=>(pc (g_keelblocktop_wet_ok N rwet2 (condT hr4 hg)) pn)) (pc (fun hq:(cond (rBest.2.2 == 29) (((rBest.1.length:Nat):Int) == 0) false)=true=>(pc hq pn)) pn))))) ?_
   obtain rfl:=Option.some.inj h
   exact Runs.nT hE 0 Try.f7 [] (kp [2]) [] 432 pn [] pn
  ·refine Runs.nR hE 3 [] [] (kp [1,3,4,49]) (kq [0]) 352 (pc o1 pn) ?_
   refine Runs.nC 0 49 h (fun hq4 h=>?_) (fun hq4 h=>?_)
   ·refine Runs.nR hE 1 [] [] (kp [2]) [] 368 pn ?_
    obtain rfl:=Option.some.inj h
    exact Runs.nT hE 0 Try.f7 [] (kp [2]) [] 368 pn [] pn
   ·refine Runs.nR hE 3 [] [] (kp [1,3,4,6]) (kq [0]) 368 pn ?_
    exact Runs.nW hE 2 [] (kp [1,3,4,6]) (kq [0]) 1 pn (g_keelblocktop_TopBestDocking_L1_ok N _ _ N _ _ h E hE)
end Go.Den
