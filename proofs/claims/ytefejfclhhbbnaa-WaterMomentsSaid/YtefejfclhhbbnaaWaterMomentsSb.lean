/- Each function of the program does what its Lean function computes (part 2). No conditions. -/
import Derived.Test.YtefejfclhhbbnaaWaterMomentsSa
import Derived.Test.YtefejfclhhbbnaaProg
set_option linter.unusedVariables false
set_option maxRecDepth 100000
namespace Go.Den
open Go.Ab Go.Proofs
noncomputable def C_40 (n:Nat):Code:=cat (bodyOf Try.f37) (pth n)
theorem g_e_negative_ok (N:Nat) (x:TRat) (r:TRat) (h:g_e_negative N x = some r):Sound Try.prog 37 [(.agg (TRat.cells x))] [] 0 (.agg (TRat.cells r)) []:=by
  unfold g_e_negative at h
  refine Sound.of_runs (fu:=Try.f37) (c:=C_40 1) (nt:=9) (by kernel_rfl) (by kernel_rfl) (by kernel_rfl) (by kernel_rfl) (fun hm=>rfl) ?_
  intro E hE
  refine Runs.sA 1 [.code (C_40 2),.code (C_40 3)] ?_
  refine Runs.sR hE ⟨[(1,(.op 0 0 0)),(2,(.op 16 0 0))],[(0,vO 4 (TRat.cells x)),(16,vO 4 [(aB false),.nil,(aB false),.nil])],32⟩ (C_40 2) [] [] (kp [1,2]) (kq [0,16]) 32 [] trivial ?_
  refine Runs.sA 1 [.code (C_40 6),.code (C_40 7)] ?_
  obtain ⟨ropposite,hr,h⟩:=bindSome h
  obtain ⟨rbelow,hr2,h⟩:=bindSome h
  obtain ⟨rfraction,hr3,h⟩:=bindSome h
  refine Runs.sR hE ⟨[(2,(.op 16 0 0))],[(16,vO 4 (TRat.cells rfraction))],144⟩ (C_40 6) [(2,⟨[],true,(.agg (TInt.cells ropposite)),[],0,false,none⟩),(4,⟨[],true,(.agg (TInt.cells rbelow)),[],0,false,none⟩),(5,⟨[],true,(.agg (TRat.cells rfraction)),[],0,false,none⟩)] [] (kp [2]) (kq [16]) 144 [0 < 1,Sound Try.prog 57 [(.agg (TInt.cells x.f_Num))] [] 0 (.agg (TInt.cells ropposite)) [],0 < 1,Sound Try.prog 54 [(.agg (TRat.cells x))] [] 0 (.agg (TInt.cells rbelow)) [],Sound Try.prog 50 [(.agg (TInt.cells ropposite)),(.agg (TInt.cells rbelow))] [] 0 (.agg (TRat.cells rfraction)) [],0 < 1] ⟨o1,(g_e_opposite_ok N x.f_Num ropposite hr),o1,(g_e_below_ok N x rbelow hr2),(g_e_fraction_ok N ropposite rbelow rfraction hr3),o1,trivial⟩ ?_
  obtain rfl:=Option.some.inj h
  refine Runs.sW hE ⟨[(2,(.op 16 0 0))],[(16,vO 4 (TRat.cells rfraction))],144⟩ [] (kp [2]) (kq [16]) 144 [] trivial ?_
  exact Runs.sT Try.f37 [16] [0 < 1] ⟨o1,trivial⟩
noncomputable def C_43 (n:Nat):Code:=cat (bodyOf Try.f55) (pth n)
theorem g_e_lowest_ok (N:Nat) (x:TRat) (r:TRat) (h:g_e_lowest N x = some r):Sound Try.prog 55 [(.agg (TRat.cells x))] [] 0 (.agg (TRat.cells r)) []:=by
  unfold g_e_lowest at h
  refine Sound.of_runs (fu:=Try.f55) (c:=C_43 1) (nt:=8) (by kernel_rfl) (by kernel_rfl) (by kernel_rfl) (by kernel_rfl) (fun hm=>rfl) ?_
  intro E hE
  refine Runs.sA 1 [.code (C_43 2),.code (C_43 3)] ?_
  refine Runs.sR hE ⟨[(1,(.op 0 0 0)),(2,(.op 16 0 0))],[(0,vO 4 (TRat.cells x)),(16,vO 4 [(aB false),.nil,(aB false),.nil])],32⟩ (C_43 2) [] [] (kp [1,2]) (kq [0,16]) 32 [] trivial ?_
  refine Runs.sA 1 [.code (C_43 6),.code (C_43 7)] ?_
  obtain ⟨rbelow,hr,h⟩:=bindSome h
  obtain ⟨rfraction,hr2,h⟩:=bindSome h
  refine Runs.sR hE ⟨[(2,(.op 16 0 0))],[(16,vO 4 (TRat.cells rfraction))],128⟩ (C_43 6) [(3,⟨[],true,(.agg (TInt.cells rbelow)),[],0,false,none⟩),(4,⟨[],true,(.agg (TRat.cells rfraction)),[],0,false,none⟩)] [] (kp [2]) (kq [16]) 128 [0 < 1,0 < 1,Sound Try.prog 54 [(.agg (TRat.cells x))] [] 0 (.agg (TInt.cells rbelow)) [],Sound Try.prog 50 [(.agg (TInt.cells x.f_Num)),(.agg (TInt.cells rbelow))] [] 0 (.agg (TRat.cells rfraction)) [],0 < 1] ⟨o1,o1,(g_e_below_ok N x rbelow hr),(g_e_fraction_ok N x.f_Num rbelow rfraction hr2),o1,trivial⟩ ?_
  obtain rfl:=Option.some.inj h
  refine Runs.sW hE ⟨[(2,(.op 16 0 0))],[(16,vO 4 (TRat.cells rfraction))],128⟩ [] (kp [2]) (kq [16]) 128 [] trivial ?_
  exact Runs.sT Try.f55 [16] [0 < 1] ⟨o1,trivial⟩
noncomputable def C_45 (n:Nat):Code:=cat (bodyOf Try.f66) (pth n)
theorem g_e_plus_J3_ok (N:Nat) (a2:List Int) (b2:List Int) (out:List Int) (x:Int) (K_g_e_plus_L2:(List Int)→Int→Int→Option ((List Int)))
    (hK_g_e_plus_L2:∀ (out:List Int) (carry:Int) (x:Int) (r:(List Int)),K_g_e_plus_L2 out carry x = some r→∀ E,EnvOk E 0→Runs Try.prog E 66 56 (SPost E [] (encL (cU .u16) 0 r)) [.code (C_45 500),.inLoop (C_45 500),.inBlock 0,.code (C_45 63)] ⟨[(1,(encL (cU .u16) 0 b2)),(5,(.os 0 0 out.length)),(6,(.atom (.int .u32 carry))),(20,(encL (cU .u16) 0 a2)),(21,(aI ((a2.length:Nat):Int))),(22,(aI x))],[(0,aO 1 (cU .u16) 0 out)],1⟩) (carry2:Int) (r:(List Int)) (h:g_e_plus_J3 N a2 b2 out x K_g_e_plus_L2 carry2 = some r):∀ E,EnvOk E 0→Runs Try.prog E 66 56 (SPost E [] (encL (cU .u16) 0 r)) [.code (C_45 128206),.code (C_45 128207),.inBlock 1,.code (C_45 4007),.inLoop (C_45 500),.inBlock 0,.code (C_45 63)] ⟨[(1,(encL (cU .u16) 0 b2)),(5,(.os 0 0 out.length)),(6,(.atom (.int .u32 carry2))),(20,(encL (cU .u16) 0 a2)),(21,(aI ((a2.length:Nat):Int))),(22,(aI x))],[(0,aO 1 (cU .u16) 0 out)],1⟩:=by
  intro E hE
  unfold g_e_plus_J3 at h
  obtain ⟨c4,h⟩:=ifSome h
  refine Runs.sR hE ⟨[(1,(encL (cU .u16) 0 b2)),(5,(.os 65 0 ((out ++ ([(IntKind.u16.wrap (carry2))]:List Int)).length))),(6,(.atom (.int .u32 carry2))),(20,(encL (cU .u16) 0 a2)),(21,(aI ((a2.length:Nat):Int))),(22,(aI x))],[(65,aO 1 (cU .u16) 0 (out ++ ([(IntKind.u16.wrap (carry2))]:List Int)))],97⟩ (C_45 128206) [] [] (kp [1] ++ [(5,.osl ((out ++ ([(IntKind.u16.wrap (carry2))]:List Int)).length))] ++ kp [6,20,21,22]) [(65,.arr 65 ((out ++ ([(IntKind.u16.wrap (carry2))]:List Int)).length) (fun zi=>(cU .u16) ((out ++ ([(IntKind.u16.wrap (carry2))]:List Int)).getD zi 0)))] 97 [out.length = out.length,(out.length+1) * 2≤140737488355328,0+1≤1,∀ zi,zi < 1→AV.oneL ((fun zi=>([[(.atom (.int .u16 (IntKind.u16.wrap (carry2))))]]:List (List AV)).getD zi []) (addz 0 zi)) = true,(out.length+1) = (out ++ ([(IntKind.u16.wrap (carry2))]:List Int)).length,out.length+1 = (out ++ ([(IntKind.u16.wrap (carry2))]:List Int)).length,∀ zi,zi < (out ++ ([(IntKind.u16.wrap (carry2))]:List Int)).length→(fun zi=>(cU .u16) ((out ++ ([(IntKind.u16.wrap (carry2))]:List Int)).getD zi 0)) zi = ((fun zm=>if zm < out.length then (fun zi=>(cU .u16) (out.getD zi 0)) zm else (fun zi=>([[(.atom (.int .u16 (IntKind.u16.wrap (carry2))))]]:List (List AV)).getD zi []) (zm - out.length))) zi] ⟨rfl,c4,z0,(oneN rfl),(len_app_raw rfl rfl),(len_app_raw rfl rfl),(get_app_raw (cU .u16) 0 out ([(IntKind.u16.wrap (carry2))]:List Int) rfl (fun _ _=>rfl) (fun zq hzq=>get_chunk (cU .u16) 0 ([(IntKind.u16.wrap (carry2))]:List Int) zq hzq)),trivial⟩ ?_
  refine Runs.sR hE ⟨[(1,(encL (cU .u16) 0 b2)),(5,(.os 65 0 ((out ++ ([(IntKind.u16.wrap (carry2))]:List Int)).length))),(6,(.atom (.int .u32 (shrI .u32 carry2 16)))),(20,(encL (cU .u16) 0 a2)),(21,(aI ((a2.length:Nat):Int))),(22,(aI x))],[(65,aO 1 (cU .u16) 0 (out ++ ([(IntKind.u16.wrap (carry2))]:List Int)))],145⟩ (C_45 128207) [] [] (kp [1,5,6,20,21,22]) (kq [65]) 145 [(0:Int)≤16] ⟨(by decide),trivial⟩ ?_
  refine Runs.sA 1 [.code (C_45 4007),.inLoop (C_45 500),.inBlock 0,.code (C_45 63)] ?_
  refine Runs.sR hE ⟨[(1,(encL (cU .u16) 0 b2)),(5,(.os 65 0 ((out ++ ([(IntKind.u16.wrap (carry2))]:List Int)).length))),(6,(.atom (.int .u32 (shrI .u32 carry2 16)))),(20,(encL (cU .u16) 0 a2)),(21,(aI ((a2.length:Nat):Int))),(22,(aI (w64 (x+1))))],[(65,aO 1 (cU .u16) 0 (out ++ ([(IntKind.u16.wrap (carry2))]:List Int)))],177⟩ (C_45 4007) [] [] (kp [1,5,6,20,21,22]) (kq [65]) 177 [] trivial ?_
  refine Runs.sA 1 [.code (C_45 500),.inLoop (C_45 500),.inBlock 0,.code (C_45 63)] ?_
  exact Runs.sW hE _ [] (kp [1,5,6,20,21,22]) [(0,.keep 65)] 1 [] trivial (hK_g_e_plus_L2 (out ++ ([(IntKind.u16.wrap (carry2))]:List Int)) (shrI .u32 carry2 16) (w64 (x+1)) _ h E hE)
theorem g_e_plus_L2_ok (N:Nat) (a2:List Int) (b2:List Int) (fuel:Nat):∀ (out:List Int) (carry:Int) (x:Int) (r:(List Int)),g_e_plus_L2 N a2 b2 fuel out carry x = some r→∀ E,EnvOk E 0→Runs Try.prog E 66 56 (SPost E [] (encL (cU .u16) 0 r)) [.code (C_45 500),.inLoop (C_45 500),.inBlock 0,.code (C_45 63)] ⟨[(1,(encL (cU .u16) 0 b2)),(5,(.os 0 0 out.length)),(6,(.atom (.int .u32 carry))),(20,(encL (cU .u16) 0 a2)),(21,(aI ((a2.length:Nat):Int))),(22,(aI x))],[(0,aO 1 (cU .u16) 0 out)],1⟩:=by
  induction fuel with
  | zero=>intro _ _ _ r h; rw [g_e_plus_L2.eq_1] at h; cases h
  | succ fuel ih =>
    intro out carry x r h E hE
    rw [g_e_plus_L2.eq_2] at h
    refine Runs.sA 1 [.code (C_45 1000),.code (C_45 1001),.inLoop (C_45 500),.inBlock 0,.code (C_45 63)] ?_
    refine Runs.sR hE ⟨[(1,(encL (cU .u16) 0 b2)),(5,(.os 0 0 out.length)),(6,(.atom (.int .u32 carry))),(20,(encL (cU .u16) 0 a2)),(21,(aI ((a2.length:Nat):Int))),(22,(aI x)),(23,(aB (decide (x < ((a2.length:Nat):Int)))))],[(0,aO 1 (cU .u16) 0 out)],17⟩ (C_45 1000) [] [] (kp [1,5,6,20,21,22,23]) (kq [0]) 17 [] trivial ?_
    refine Runs.sA 1 [.code (C_45 2002),.code (C_45 2003),.inLoop (C_45 500),.inBlock 0,.code (C_45 63)] ?_
    refine Runs.sC 23 (C_45 4004) (C_45 4005) (decide (x < ((a2.length:Nat):Int))) (fun hq3=>?_) (fun hq3=>?_)
    · have h:=condT h hq3
      refine Runs.sA 4 [.code (C_45 16024),.code (C_45 16025),.inBlock 1,.code (C_45 4007),.inLoop (C_45 500),.inBlock 0,.code (C_45 63)] ?_
      obtain ⟨c2,h⟩:=ifSome h
      refine Runs.sR hE ⟨[(1,(encL (cU .u16) 0 b2)),(5,(.os 0 0 out.length)),(6,(.atom (.int .u32 carry))),(7,(aI x)),(8,(.atom (.int .u16 (a2.getD ((x).toNat) 0)))),(20,(encL (cU .u16) 0 a2)),(21,(aI ((a2.length:Nat):Int))),(22,(aI x))],[(0,aO 1 (cU .u16) 0 out)],97⟩ (C_45 16024) [] [] (kp [1,5,6,7,8,20,21,22]) (kq [0]) 97 [0≤x∧x < ((a2.length:Nat):Int)] ⟨c2,trivial⟩ ?_
      refine Runs.sA 1 [.code (C_45 32050),.code (C_45 32051),.inBlock 1,.code (C_45 4007),.inLoop (C_45 500),.inBlock 0,.code (C_45 63)] ?_
      refine Runs.sR hE ⟨[(1,(encL (cU .u16) 0 b2)),(5,(.os 0 0 out.length)),(6,(.atom (.int .u32 (IntKind.u32.wrap (carry+(IntKind.u32.wrap ((a2.getD ((x).toNat) 0)))))))),(7,(aI x)),(20,(encL (cU .u16) 0 a2)),(21,(aI ((a2.length:Nat):Int))),(22,(aI x))],[(0,aO 1 (cU .u16) 0 out)],177⟩ (C_45 32050) [] [] (kp [1,5,6,7,20,21,22]) (kq [0]) 177 [] trivial ?_
      refine Runs.sA 2 [.code (C_45 128204),.code (C_45 128205),.code (C_45 64103),.inBlock 1,.code (C_45 4007),.inLoop (C_45 500),.inBlock 0,.code (C_45 63)] ?_
      refine Runs.sR hE ⟨[(1,(encL (cU .u16) 0 b2)),(5,(.os 0 0 out.length)),(6,(.atom (.int .u32 (IntKind.u32.wrap (carry+(IntKind.u32.wrap ((a2.getD ((x).toNat) 0)))))))),(7,(aI x)),(20,(encL (cU .u16) 0 a2)),(21,(aI ((a2.length:Nat):Int))),(22,(aI x)),(34,(aB (decide (x < ((b2.length:Nat):Int)))))],[(0,aO 1 (cU .u16) 0 out)],241⟩ (C_45 128204) [] [] (kp [1,5,6,7,20,21,22,34]) (kq [0]) 241 [] trivial ?_
      refine Runs.sC 34 (C_45 256410) (C_45 256411) (decide (x < ((b2.length:Nat):Int))) (fun hq4=>?_) (fun hq4=>?_)
      · have h:=condT h hq4
        obtain ⟨c3,h⟩:=ifSome h
        refine Runs.sR hE ⟨[(1,(encL (cU .u16) 0 b2)),(5,(.os 0 0 out.length)),(6,(.atom (.int .u32 (IntKind.u32.wrap ((IntKind.u32.wrap (carry+(IntKind.u32.wrap ((a2.getD ((x).toNat) 0)))))+(IntKind.u32.wrap ((b2.getD ((x).toNat) 0)))))))),(20,(encL (cU .u16) 0 a2)),(21,(aI ((a2.length:Nat):Int))),(22,(aI x))],[(0,aO 1 (cU .u16) 0 out)],369⟩ (C_45 256410) [] [] (kp [1,5,6,20,21,22]) (kq [0]) 369 [0≤x∧x < ((b2.length:Nat):Int)] ⟨c3,trivial⟩ ?_
        refine Runs.sA 1 [.code (C_45 128206),.code (C_45 128207),.inBlock 1,.code (C_45 4007),.inLoop (C_45 500),.inBlock 0,.code (C_45 63)] ?_
        exact Runs.sW hE _ [] (kp [1,5,6,20,21,22]) (kq [0]) 1 [] trivial (g_e_plus_J3_ok N a2 b2 out x (g_e_plus_L2 N a2 b2 fuel) ih (IntKind.u32.wrap ((IntKind.u32.wrap (carry+(IntKind.u32.wrap ((a2.getD ((x).toNat) 0)))))+(IntKind.u32.wrap ((b2.getD ((x).toNat) 0))))) _ h E hE)
      · have h:=condF h hq4
        refine Runs.sA 2 [.code (C_45 128206),.code (C_45 128207),.inBlock 1,.code (C_45 4007),.inLoop (C_45 500),.inBlock 0,.code (C_45 63)] ?_
        exact Runs.sW hE _ [] (kp [1,5,6,20,21,22]) (kq [0]) 1 [] trivial (g_e_plus_J3_ok N a2 b2 out x (g_e_plus_L2 N a2 b2 fuel) ih (IntKind.u32.wrap (carry+(IntKind.u32.wrap ((a2.getD ((x).toNat) 0))))) _ h E hE)
    · have h:=condF h hq3
      refine Runs.sA 2 [.code (C_45 126),.code (C_45 127)] ?_
      obtain ⟨c5,h⟩:=ifSome h
      obtain ⟨rtrim,hr,h⟩:=bindSome h
      refine Runs.sR hE ⟨[(4,(encL (cU .u16) 0 rtrim))],[],129⟩ (C_45 126) [(5,⟨[],true,(encL (cU .u16) 0 rtrim),[],0,true,none⟩)] [] (kp [4]) [] 129 [out.length = out.length,(out.length+1) * 2≤140737488355328,0+1≤1,∀ zi,zi < 1→AV.oneL ((fun zi=>([[(.atom (.int .u16 (IntKind.u16.wrap (carry))))]]:List (List AV)).getD zi []) (addz 0 zi)) = true,Sound Try.prog 61 [(.sl (out.length+1) (fun zi=>((fun zm=>if zm < out.length then (fun zi=>(cU .u16) (out.getD zi 0)) zm else (fun zi=>([[(.atom (.int .u16 (IntKind.u16.wrap (carry))))]]:List (List AV)).getD zi []) (zm - out.length))) (addz 0 zi)))] [] 0 (encL (cU .u16) 0 rtrim) [],0+(out.length+1)≤out.length+1] ⟨rfl,c5,z0,(oneN rfl),(Sound.conv (g_e_trim_ok N (out ++ ([(IntKind.u16.wrap (carry))]:List Int)) rtrim hr) (.cons (Alike.sl (len_app_raw rfl rfl) (get_app_raw (cU .u16) 0 out ([(IntKind.u16.wrap (carry))]:List Int) rfl (fun _ _=>rfl) (fun zq hzq=>get_chunk (cU .u16) 0 ([(IntKind.u16.wrap (carry))]:List Int) zq hzq))) .nil)),z0,trivial⟩ ?_
      obtain rfl:=Option.some.inj h
      refine Runs.sW hE ⟨[(4,(encL (cU .u16) 0 rtrim))],[],129⟩ [] (kp [4]) [] 129 [] trivial ?_
      exact Runs.sT Try.f66 [] [] trivial
theorem g_e_plus_J1_ok (N:Nat) (a2:List Int) (b2:List Int) (r:(List Int)) (h:g_e_plus_J1 N a2 b2 = some r):∀ E,EnvOk E 0→Runs Try.prog E 66 56 (SPost E [] (encL (cU .u16) 0 r)) [.code (C_45 14),.code (C_45 15)] ⟨[(0,(encL (cU .u16) 0 a2)),(1,(encL (cU .u16) 0 b2))],[],0⟩:=by
  intro E hE
  unfold g_e_plus_J1 at h
  obtain ⟨c,h⟩:=ifSome h
  refine Runs.sR hE ⟨[(0,(encL (cU .u16) 0 a2)),(1,(encL (cU .u16) 0 b2)),(5,(.os 48 0 ((List.replicate 0 0:List Int).length)))],[(48,aO 1 (cU .u16) 0 (List.replicate 0 0:List Int))],80⟩ (C_45 14) [] [] (kp [0,1] ++ [(5,.osl ((List.replicate 0 0:List Int).length))]) [(48,.arr 48 ((List.replicate 0 0:List Int).length) (fun zi=>(cU .u16) ((List.replicate 0 0:List Int).getD zi 0)))] 80 [0≤(0:Int),(0:Int)≤(w64 (((a2.length:Nat):Int)+1)),(2:Int) * (w64 (((a2.length:Nat):Int)+1))≤281474976710656,(w64 (((a2.length:Nat):Int)+1))≤9223372036854775807,0 = (List.replicate 0 0:List Int).length,0 = (List.replicate 0 0:List Int).length,∀ zi,zi < (List.replicate 0 0:List Int).length→(fun zi=>(cU .u16) ((List.replicate 0 0:List Int).getD zi 0)) zi = (fun _=>[(.atom (.int .u16 0))]) zi] ⟨c.1,c.2.2.2,c.2.1,c.2.2.1,(List.length_replicate).symm,(List.length_replicate).symm,(fun zq hzq=>get_rep (cU .u16) 0 0 0 zq hzq),trivial⟩ ?_
  refine Runs.sA 1 [.code (C_45 30),.code (C_45 31)] ?_
  refine Runs.sR hE ⟨[(0,(encL (cU .u16) 0 a2)),(1,(encL (cU .u16) 0 b2)),(5,(.os 48 0 ((List.replicate 0 0:List Int).length))),(6,(.atom (.int .u32 0)))],[(48,aO 1 (cU .u16) 0 (List.replicate 0 0:List Int))],96⟩ (C_45 30) [] [] (kp [0,1,5,6]) (kq [48]) 96 [] trivial ?_
  refine Runs.sA 2 [.code (C_45 124),.code (C_45 125),.code (C_45 63)] ?_
  refine Runs.sR hE ⟨[(1,(encL (cU .u16) 0 b2)),(5,(.os 48 0 ((List.replicate 0 0:List Int).length))),(6,(.atom (.int .u32 0))),(20,(encL (cU .u16) 0 a2)),(21,(aI ((a2.length:Nat):Int))),(22,(aI 0))],[(48,aO 1 (cU .u16) 0 (List.replicate 0 0:List Int))],144⟩ (C_45 124) [] [] (kp [1,5,6,20,21,22]) (kq [48]) 144 [] trivial ?_
  refine Runs.sA 2 [.code (C_45 500),.inLoop (C_45 500),.inBlock 0,.code (C_45 63)] ?_
  exact Runs.sW hE _ [] (kp [1,5,6,20,21,22]) [(0,.keep 48)] 1 [] trivial (g_e_plus_L2_ok N a2 b2 N (List.replicate 0 0:List Int) 0 0 _ h E hE)
theorem g_e_plus_ok (N:Nat) (a:List Int) (b:List Int) (r:(List Int)) (h:g_e_plus N a b = some r):Sound Try.prog 66 [(encL (cU .u16) 0 a),(encL (cU .u16) 0 b)] [] 0 (encL (cU .u16) 0 r) []:=by
  unfold g_e_plus at h
  refine Sound.of_runs (fu:=Try.f66) (c:=C_45 1) (nt:=56) (by kernel_rfl) (by kernel_rfl) (by kernel_rfl) (by kernel_rfl) (fun hm=>rfl) ?_
  intro E hE
  refine Runs.sA 1 [.code (C_45 2),.code (C_45 3)] ?_
  refine Runs.sR hE ⟨[(0,(encL (cU .u16) 0 a)),(1,(encL (cU .u16) 0 b))],[],16⟩ (C_45 2) [] [] (kp [0,1]) [] 16 [] trivial ?_
  refine Runs.sA 2 [.code (C_45 12),.code (C_45 13),.code (C_45 7)] ?_
  refine Runs.sR hE ⟨[(0,(encL (cU .u16) 0 a)),(1,(encL (cU .u16) 0 b)),(13,(aB (decide (((a.length:Nat):Int) < ((b.length:Nat):Int)))))],[],96⟩ (C_45 12) [] [] (kp [0,1,13]) [] 96 [] trivial ?_
  refine Runs.sC 13 (C_45 26) (C_45 27) (decide (((a.length:Nat):Int) < ((b.length:Nat):Int))) (fun hq2=>?_) (fun hq2=>?_)
  · have h:=condT h hq2
    refine Runs.sR hE ⟨[(0,(encL (cU .u16) 0 b)),(1,(encL (cU .u16) 0 a))],[],160⟩ (C_45 26) [] [] (kp [0,1]) [] 160 [] trivial ?_
    refine Runs.sA 1 [.code (C_45 14),.code (C_45 15)] ?_
    exact Runs.sW hE _ [] (kp [0,1]) [] 0 [] trivial (g_e_plus_J1_ok N b a _ h E hE)
  · have h:=condF h hq2
    refine Runs.sA 2 [.code (C_45 14),.code (C_45 15)] ?_
    exact Runs.sW hE _ [] (kp [0,1]) [] 0 [] trivial (g_e_plus_J1_ok N a b _ h E hE)
noncomputable def C_46 (n:Nat):Code:=cat (bodyOf Try.f68) (pth n)
theorem g_e_minus_J3_ok (N:Nat) (a:List Int) (b:List Int) (out:List Int) (x:Int) (y:Int) (K_g_e_minus_L1:(List Int)→Int→Int→Option ((List Int)))
    (hK_g_e_minus_L1:∀ (out:List Int) (borrow:Int) (x:Int) (r:(List Int)),K_g_e_minus_L1 out borrow x = some r→∀ E,EnvOk E 0→Runs Try.prog E 68 50 (SPost E [] (encL (cU .u16) 0 r)) [.code (C_46 244),.inLoop (C_46 244),.inBlock 0,.code (C_46 31)] ⟨[(1,(encL (cU .u16) 0 b)),(5,(.os 0 0 out.length)),(6,(.atom (.int .u32 borrow))),(13,(encL (cU .u16) 0 a)),(14,(aI ((a.length:Nat):Int))),(15,(aI x))],[(0,aO 1 (cU .u16) 0 out)],1⟩) (borrow2:Int) (r:(List Int)) (h:g_e_minus_J3 N a b out x y K_g_e_minus_L1 borrow2 = some r):∀ E,EnvOk E 0→Runs Try.prog E 68 50 (SPost E [] (encL (cU .u16) 0 r)) [.code (C_46 125343),.inBlock 1,.code (C_46 1959),.inLoop (C_46 244),.inBlock 0,.code (C_46 31)] ⟨[(1,(encL (cU .u16) 0 b)),(5,(.os 0 0 out.length)),(6,(.atom (.int .u32 borrow2))),(7,(aI x)),(8,(.atom (.int .u16 (a.getD ((x).toNat) 0)))),(9,(.atom (.int .u32 y))),(13,(encL (cU .u16) 0 a)),(14,(aI ((a.length:Nat):Int))),(15,(aI x))],[(0,aO 1 (cU .u16) 0 out)],1⟩:=by
  intro E hE
  unfold g_e_minus_J3 at h
  obtain ⟨c4,h⟩:=ifSome h
  refine Runs.sR hE ⟨[(1,(encL (cU .u16) 0 b)),(5,(.os 0 0 ((out.set ((x).toNat) (IntKind.u16.wrap ((IntKind.u32.wrap ((IntKind.u32.wrap ((IntKind.u32.wrap ((a.getD ((x).toNat) 0)))+(shlI .u32 borrow2 16))) - y))))).length))),(6,(.atom (.int .u32 borrow2))),(13,(encL (cU .u16) 0 a)),(14,(aI ((a.length:Nat):Int))),(15,(aI x))],[(0,aO 1 (cU .u16) 0 (out.set ((x).toNat) (IntKind.u16.wrap ((IntKind.u32.wrap ((IntKind.u32.wrap ((IntKind.u32.wrap ((a.getD ((x).toNat) 0)))+(shlI .u32 borrow2 16))) - y))))))],193⟩ (C_46 125343) [] [] (kp [1] ++ [(5,.osl ((out.set ((x).toNat) (IntKind.u16.wrap ((IntKind.u32.wrap ((IntKind.u32.wrap ((IntKind.u32.wrap ((a.getD ((x).toNat) 0)))+(shlI .u32 borrow2 16))) - y))))).length))] ++ kp [6,13,14,15]) [(0,.arr 0 ((out.set ((x).toNat) (IntKind.u16.wrap ((IntKind.u32.wrap ((IntKind.u32.wrap ((IntKind.u32.wrap ((a.getD ((x).toNat) 0)))+(shlI .u32 borrow2 16))) - y))))).length) (fun zi=>(cU .u16) ((out.set ((x).toNat) (IntKind.u16.wrap ((IntKind.u32.wrap ((IntKind.u32.wrap ((IntKind.u32.wrap ((a.getD ((x).toNat) 0)))+(shlI .u32 borrow2 16))) - y))))).getD zi 0)))] 193 [(0:Int)≤16,0≤x∧x < ((out.length:Nat):Int),(x).toNat < out.length,out.length = (out.set ((x).toNat) (IntKind.u16.wrap ((IntKind.u32.wrap ((IntKind.u32.wrap ((IntKind.u32.wrap ((a.getD ((x).toNat) 0)))+(shlI .u32 borrow2 16))) - y))))).length,out.length = (out.set ((x).toNat) (IntKind.u16.wrap ((IntKind.u32.wrap ((IntKind.u32.wrap ((IntKind.u32.wrap ((a.getD ((x).toNat) 0)))+(shlI .u32 borrow2 16))) - y))))).length,∀ zi,zi < (out.set ((x).toNat) (IntKind.u16.wrap ((IntKind.u32.wrap ((IntKind.u32.wrap ((IntKind.u32.wrap ((a.getD ((x).toNat) 0)))+(shlI .u32 borrow2 16))) - y))))).length→(fun zi=>(cU .u16) ((out.set ((x).toNat) (IntKind.u16.wrap ((IntKind.u32.wrap ((IntKind.u32.wrap ((IntKind.u32.wrap ((a.getD ((x).toNat) 0)))+(shlI .u32 borrow2 16))) - y))))).getD zi 0)) zi = ((fun zm=>if zm = (x).toNat then [(.atom (.int .u16 (IntKind.u16.wrap ((IntKind.u32.wrap ((IntKind.u32.wrap ((IntKind.u32.wrap ((a.getD ((x).toNat) 0)))+(shlI .u32 borrow2 16))) - y))))))] else (fun zi=>(cU .u16) (out.getD zi 0)) zm)) zi] ⟨(by decide),c4,(ltOf c4),(len_set_raw rfl),(len_set_raw rfl),(get_set_raw (cU .u16) 0 out ((x).toNat) (IntKind.u16.wrap ((IntKind.u32.wrap ((IntKind.u32.wrap ((IntKind.u32.wrap ((a.getD ((x).toNat) 0)))+(shlI .u32 borrow2 16))) - y)))) (fun _ _=>rfl)),trivial⟩ ?_
  refine Runs.sA 1 [.code (C_46 1959),.inLoop (C_46 244),.inBlock 0,.code (C_46 31)] ?_
  refine Runs.sR hE ⟨[(1,(encL (cU .u16) 0 b)),(5,(.os 0 0 ((out.set ((x).toNat) (IntKind.u16.wrap ((IntKind.u32.wrap ((IntKind.u32.wrap ((IntKind.u32.wrap ((a.getD ((x).toNat) 0)))+(shlI .u32 borrow2 16))) - y))))).length))),(6,(.atom (.int .u32 borrow2))),(13,(encL (cU .u16) 0 a)),(14,(aI ((a.length:Nat):Int))),(15,(aI (w64 (x+1))))],[(0,aO 1 (cU .u16) 0 (out.set ((x).toNat) (IntKind.u16.wrap ((IntKind.u32.wrap ((IntKind.u32.wrap ((IntKind.u32.wrap ((a.getD ((x).toNat) 0)))+(shlI .u32 borrow2 16))) - y))))))],225⟩ (C_46 1959) [] [] (kp [1,5,6,13,14,15]) (kq [0]) 225 [] trivial ?_
  refine Runs.sA 1 [.code (C_46 244),.inLoop (C_46 244),.inBlock 0,.code (C_46 31)] ?_
  exact Runs.sW hE _ [] (kp [1,5,6,13,14,15]) (kq [0]) 1 [] trivial (hK_g_e_minus_L1 (out.set ((x).toNat) (IntKind.u16.wrap ((IntKind.u32.wrap ((IntKind.u32.wrap ((IntKind.u32.wrap ((a.getD ((x).toNat) 0)))+(shlI .u32 borrow2 16))) - y))))) borrow2 (w64 (x+1)) _ h E hE)
theorem g_e_minus_J2_ok (N:Nat) (a:List Int) (b:List Int) (out:List Int) (x:Int) (K_g_e_minus_L1:(List Int)→Int→Int→Option ((List Int)))
    (hK_g_e_minus_L1:∀ (out:List Int) (borrow:Int) (x:Int) (r:(List Int)),K_g_e_minus_L1 out borrow x = some r→∀ E,EnvOk E 0→Runs Try.prog E 68 50 (SPost E [] (encL (cU .u16) 0 r)) [.code (C_46 244),.inLoop (C_46 244),.inBlock 0,.code (C_46 31)] ⟨[(1,(encL (cU .u16) 0 b)),(5,(.os 0 0 out.length)),(6,(.atom (.int .u32 borrow))),(13,(encL (cU .u16) 0 a)),(14,(aI ((a.length:Nat):Int))),(15,(aI x))],[(0,aO 1 (cU .u16) 0 out)],1⟩) (y:Int) (r:(List Int)) (h:g_e_minus_J2 N a b out x K_g_e_minus_L1 y = some r):∀ E,EnvOk E 0→Runs Try.prog E 68 50 (SPost E [] (encL (cU .u16) 0 r)) [.code (C_46 62670),.code (C_46 62671),.inBlock 1,.code (C_46 1959),.inLoop (C_46 244),.inBlock 0,.code (C_46 31)] ⟨[(1,(encL (cU .u16) 0 b)),(5,(.os 0 0 out.length)),(7,(aI x)),(8,(.atom (.int .u16 (a.getD ((x).toNat) 0)))),(9,(.atom (.int .u32 y))),(13,(encL (cU .u16) 0 a)),(14,(aI ((a.length:Nat):Int))),(15,(aI x))],[(0,aO 1 (cU .u16) 0 out)],1⟩:=by
  intro E hE
  unfold g_e_minus_J2 at h
  refine Runs.sR hE ⟨[(1,(encL (cU .u16) 0 b)),(5,(.os 0 0 out.length)),(6,(.atom (.int .u32 0))),(7,(aI x)),(8,(.atom (.int .u16 (a.getD ((x).toNat) 0)))),(9,(.atom (.int .u32 y))),(13,(encL (cU .u16) 0 a)),(14,(aI ((a.length:Nat):Int))),(15,(aI x))],[(0,aO 1 (cU .u16) 0 out)],17⟩ (C_46 62670) [] [] (kp [1,5,6,7,8,9,13,14,15]) (kq [0]) 17 [] trivial ?_
  refine Runs.sA 2 [.code (C_46 250684),.code (C_46 250685),.code (C_46 125343),.inBlock 1,.code (C_46 1959),.inLoop (C_46 244),.inBlock 0,.code (C_46 31)] ?_
  refine Runs.sR hE ⟨[(1,(encL (cU .u16) 0 b)),(5,(.os 0 0 out.length)),(6,(.atom (.int .u32 0))),(7,(aI x)),(8,(.atom (.int .u16 (a.getD ((x).toNat) 0)))),(9,(.atom (.int .u32 y))),(13,(encL (cU .u16) 0 a)),(14,(aI ((a.length:Nat):Int))),(15,(aI x)),(35,(aB (decide ((IntKind.u32.wrap ((a.getD ((x).toNat) 0))) < y))))],[(0,aO 1 (cU .u16) 0 out)],81⟩ (C_46 250684) [] [] (kp [1,5,6,7,8,9,13,14,15,35]) (kq [0]) 81 [] trivial ?_
  refine Runs.sC 35 (C_46 501370) (C_46 501371) (decide ((IntKind.u32.wrap ((a.getD ((x).toNat) 0))) < y)) (fun hq4=>?_) (fun hq4=>?_)
  · have h:=condT h hq4
    refine Runs.sR hE ⟨[(1,(encL (cU .u16) 0 b)),(5,(.os 0 0 out.length)),(6,(.atom (.int .u32 1))),(7,(aI x)),(8,(.atom (.int .u16 (a.getD ((x).toNat) 0)))),(9,(.atom (.int .u32 y))),(13,(encL (cU .u16) 0 a)),(14,(aI ((a.length:Nat):Int))),(15,(aI x))],[(0,aO 1 (cU .u16) 0 out)],97⟩ (C_46 501370) [] [] (kp [1,5,6,7,8,9,13,14,15]) (kq [0]) 97 [] trivial ?_
    exact Runs.sW hE _ [] (kp [1,5,6,7,8,9,13,14,15]) (kq [0]) 1 [] trivial (g_e_minus_J3_ok N a b out x y K_g_e_minus_L1 hK_g_e_minus_L1 1 _ h E hE)
  · have h:=condF h hq4
    refine Runs.sA 1 [.code (C_46 125343),.inBlock 1,.code (C_46 1959),.inLoop (C_46 244),.inBlock 0,.code (C_46 31)] ?_
    exact Runs.sW hE _ [] (kp [1,5,6,7,8,9,13,14,15]) (kq [0]) 1 [] trivial (g_e_minus_J3_ok N a b out x y K_g_e_minus_L1 hK_g_e_minus_L1 0 _ h E hE)
theorem g_e_minus_L1_ok (N:Nat) (a:List Int) (b:List Int) (fuel:Nat):∀ (out:List Int) (borrow:Int) (x:Int) (r:(List Int)),g_e_minus_L1 N a b fuel out borrow x = some r→∀ E,EnvOk E 0→Runs Try.prog E 68 50 (SPost E [] (encL (cU .u16) 0 r)) [.code (C_46 244),.inLoop (C_46 244),.inBlock 0,.code (C_46 31)] ⟨[(1,(encL (cU .u16) 0 b)),(5,(.os 0 0 out.length)),(6,(.atom (.int .u32 borrow))),(13,(encL (cU .u16) 0 a)),(14,(aI ((a.length:Nat):Int))),(15,(aI x))],[(0,aO 1 (cU .u16) 0 out)],1⟩:=by
  induction fuel with
  | zero=>intro _ _ _ r h; rw [g_e_minus_L1.eq_1] at h; cases h
  | succ fuel ih =>
    intro out borrow x r h E hE
    rw [g_e_minus_L1.eq_2] at h
    refine Runs.sA 1 [.code (C_46 488),.code (C_46 489),.inLoop (C_46 244),.inBlock 0,.code (C_46 31)] ?_
    refine Runs.sR hE ⟨[(1,(encL (cU .u16) 0 b)),(5,(.os 0 0 out.length)),(6,(.atom (.int .u32 borrow))),(13,(encL (cU .u16) 0 a)),(14,(aI ((a.length:Nat):Int))),(15,(aI x)),(16,(aB (decide (x < ((a.length:Nat):Int)))))],[(0,aO 1 (cU .u16) 0 out)],17⟩ (C_46 488) [] [] (kp [1,5,6,13,14,15,16]) (kq [0]) 17 [] trivial ?_
    refine Runs.sA 1 [.code (C_46 978),.code (C_46 979),.inLoop (C_46 244),.inBlock 0,.code (C_46 31)] ?_
    refine Runs.sC 16 (C_46 1956) (C_46 1957) (decide (x < ((a.length:Nat):Int))) (fun hq2=>?_) (fun hq2=>?_)
    · have h:=condT h hq2
      refine Runs.sA 4 [.code (C_46 7832),.code (C_46 7833),.inBlock 1,.code (C_46 1959),.inLoop (C_46 244),.inBlock 0,.code (C_46 31)] ?_
      obtain ⟨c2,h⟩:=ifSome h
      refine Runs.sR hE ⟨[(1,(encL (cU .u16) 0 b)),(5,(.os 0 0 out.length)),(6,(.atom (.int .u32 borrow))),(7,(aI x)),(8,(.atom (.int .u16 (a.getD ((x).toNat) 0)))),(13,(encL (cU .u16) 0 a)),(14,(aI ((a.length:Nat):Int))),(15,(aI x))],[(0,aO 1 (cU .u16) 0 out)],97⟩ (C_46 7832) [] [] (kp [1,5,6,7,8,13,14,15]) (kq [0]) 97 [0≤x∧x < ((a.length:Nat):Int)] ⟨c2,trivial⟩ ?_
      refine Runs.sA 1 [.code (C_46 15666),.code (C_46 15667),.inBlock 1,.code (C_46 1959),.inLoop (C_46 244),.inBlock 0,.code (C_46 31)] ?_
      refine Runs.sR hE ⟨[(1,(encL (cU .u16) 0 b)),(5,(.os 0 0 out.length)),(7,(aI x)),(8,(.atom (.int .u16 (a.getD ((x).toNat) 0)))),(9,(.atom (.int .u32 borrow))),(13,(encL (cU .u16) 0 a)),(14,(aI ((a.length:Nat):Int))),(15,(aI x))],[(0,aO 1 (cU .u16) 0 out)],129⟩ (C_46 15666) [] [] (kp [1,5,7,8,9,13,14,15]) (kq [0]) 129 [] trivial ?_
      refine Runs.sA 2 [.code (C_46 62668),.code (C_46 62669),.code (C_46 31335),.inBlock 1,.code (C_46 1959),.inLoop (C_46 244),.inBlock 0,.code (C_46 31)] ?_
      refine Runs.sR hE ⟨[(1,(encL (cU .u16) 0 b)),(5,(.os 0 0 out.length)),(7,(aI x)),(8,(.atom (.int .u16 (a.getD ((x).toNat) 0)))),(9,(.atom (.int .u32 borrow))),(13,(encL (cU .u16) 0 a)),(14,(aI ((a.length:Nat):Int))),(15,(aI x)),(24,(aB (decide (x < ((b.length:Nat):Int)))))],[(0,aO 1 (cU .u16) 0 out)],193⟩ (C_46 62668) [] [] (kp [1,5,7,8,9,13,14,15,24]) (kq [0]) 193 [] trivial ?_
      refine Runs.sC 24 (C_46 125338) (C_46 125339) (decide (x < ((b.length:Nat):Int))) (fun hq3=>?_) (fun hq3=>?_)
      · have h:=condT h hq3
        obtain ⟨c3,h⟩:=ifSome h
        refine Runs.sR hE ⟨[(1,(encL (cU .u16) 0 b)),(5,(.os 0 0 out.length)),(7,(aI x)),(8,(.atom (.int .u16 (a.getD ((x).toNat) 0)))),(9,(.atom (.int .u32 (IntKind.u32.wrap (borrow+(IntKind.u32.wrap ((b.getD ((x).toNat) 0)))))))),(13,(encL (cU .u16) 0 a)),(14,(aI ((a.length:Nat):Int))),(15,(aI x))],[(0,aO 1 (cU .u16) 0 out)],321⟩ (C_46 125338) [] [] (kp [1,5,7,8,9,13,14,15]) (kq [0]) 321 [0≤x∧x < ((b.length:Nat):Int)] ⟨c3,trivial⟩ ?_
        refine Runs.sA 1 [.code (C_46 62670),.code (C_46 62671),.inBlock 1,.code (C_46 1959),.inLoop (C_46 244),.inBlock 0,.code (C_46 31)] ?_
        exact Runs.sW hE _ [] (kp [1,5,7,8,9,13,14,15]) (kq [0]) 1 [] trivial (g_e_minus_J2_ok N a b out x (g_e_minus_L1 N a b fuel) ih (IntKind.u32.wrap (borrow+(IntKind.u32.wrap ((b.getD ((x).toNat) 0))))) _ h E hE)
      · have h:=condF h hq3
        refine Runs.sA 2 [.code (C_46 62670),.code (C_46 62671),.inBlock 1,.code (C_46 1959),.inLoop (C_46 244),.inBlock 0,.code (C_46 31)] ?_
        exact Runs.sW hE _ [] (kp [1,5,7,8,9,13,14,15]) (kq [0]) 1 [] trivial (g_e_minus_J2_ok N a b out x (g_e_minus_L1 N a b fuel) ih borrow _ h E hE)
    · have h:=condF h hq2
      refine Runs.sA 2 [.code (C_46 62),.code (C_46 63)] ?_
      obtain ⟨rtrim,hr,h⟩:=bindSome h
      refine Runs.sR hE ⟨[(4,(encL (cU .u16) 0 rtrim))],[],65⟩ (C_46 62) [(1,⟨[],true,(encL (cU .u16) 0 rtrim),[],0,true,none⟩)] [] (kp [4]) [] 65 [Sound Try.prog 61 [(encL (cU .u16) 0 out)] [] 0 (encL (cU .u16) 0 rtrim) [],0+out.length≤out.length] ⟨(g_e_trim_ok N out rtrim hr),z0,trivial⟩ ?_
      obtain rfl:=Option.some.inj h
      refine Runs.sW hE ⟨[(4,(encL (cU .u16) 0 rtrim))],[],65⟩ [] (kp [4]) [] 65 [] trivial ?_
      exact Runs.sT Try.f68 [] [] trivial
theorem g_e_minus_ok (N:Nat) (a:List Int) (b:List Int) (r:(List Int)) (h:g_e_minus N a b = some r):Sound Try.prog 68 [(encL (cU .u16) 0 a),(encL (cU .u16) 0 b)] [] 0 (encL (cU .u16) 0 r) []:=by
  unfold g_e_minus at h
  refine Sound.of_runs (fu:=Try.f68) (c:=C_46 1) (nt:=50) (by kernel_rfl) (by kernel_rfl) (by kernel_rfl) (by kernel_rfl) (fun hm=>rfl) ?_
  intro E hE
  refine Runs.sA 1 [.code (C_46 2),.code (C_46 3)] ?_
  refine Runs.sR hE ⟨[(0,(encL (cU .u16) 0 a)),(1,(encL (cU .u16) 0 b))],[],16⟩ (C_46 2) [] [] (kp [0,1]) [] 16 [] trivial ?_
  refine Runs.sA 1 [.code (C_46 6),.code (C_46 7)] ?_
  obtain ⟨c,h⟩:=ifSome h
  refine Runs.sR hE ⟨[(0,(encL (cU .u16) 0 a)),(1,(encL (cU .u16) 0 b)),(5,(.os 48 0 ((List.replicate a.length 0:List Int).length)))],[(48,aO 1 (cU .u16) 0 (List.replicate a.length 0:List Int))],80⟩ (C_46 6) [] [] (kp [0,1] ++ [(5,.osl ((List.replicate a.length 0:List Int).length))]) [(48,.arr 48 ((List.replicate a.length 0:List Int).length) (fun zi=>(cU .u16) ((List.replicate a.length 0:List Int).getD zi 0)))] 80 [0≤((a.length:Nat):Int),((a.length:Nat):Int)≤((a.length:Nat):Int),(2:Int) * ((a.length:Nat):Int)≤281474976710656,((a.length:Nat):Int)≤9223372036854775807,a.length = (List.replicate a.length 0:List Int).length,a.length = (List.replicate a.length 0:List Int).length,∀ zi,zi < (List.replicate a.length 0:List Int).length→(fun zi=>(cU .u16) ((List.replicate a.length 0:List Int).getD zi 0)) zi = (fun _=>[(.atom (.int .u16 0))]) zi] ⟨c.1,(Int.le_refl _),c.2.1,c.2.2,(List.length_replicate).symm,(List.length_replicate).symm,(fun zq hzq=>get_rep (cU .u16) 0 0 a.length zq hzq),trivial⟩ ?_
  refine Runs.sA 1 [.code (C_46 14),.code (C_46 15)] ?_
  refine Runs.sR hE ⟨[(0,(encL (cU .u16) 0 a)),(1,(encL (cU .u16) 0 b)),(5,(.os 48 0 ((List.replicate a.length 0:List Int).length))),(6,(.atom (.int .u32 0)))],[(48,aO 1 (cU .u16) 0 (List.replicate a.length 0:List Int))],96⟩ (C_46 14) [] [] (kp [0,1,5,6]) (kq [48]) 96 [] trivial ?_
  refine Runs.sA 2 [.code (C_46 60),.code (C_46 61),.code (C_46 31)] ?_
  refine Runs.sR hE ⟨[(1,(encL (cU .u16) 0 b)),(5,(.os 48 0 ((List.replicate a.length 0:List Int).length))),(6,(.atom (.int .u32 0))),(13,(encL (cU .u16) 0 a)),(14,(aI ((a.length:Nat):Int))),(15,(aI 0))],[(48,aO 1 (cU .u16) 0 (List.replicate a.length 0:List Int))],144⟩ (C_46 60) [] [] (kp [1,5,6,13,14,15]) (kq [48]) 144 [] trivial ?_
  refine Runs.sA 2 [.code (C_46 244),.inLoop (C_46 244),.inBlock 0,.code (C_46 31)] ?_
  exact Runs.sW hE _ [] (kp [1,5,6,13,14,15]) [(0,.keep 48)] 1 [] trivial (g_e_minus_L1_ok N a b N (List.replicate a.length 0:List Int) 0 0 _ h E hE)
noncomputable def C_44 (n:Nat):Code:=cat (bodyOf Try.f56) (pth n)
theorem g_e_Add_ok (N:Nat) (a:TInt) (b:TInt) (r:TInt) (h:g_e_Add N a b = some r):Sound Try.prog 56 [(.agg (TInt.cells a)),(.agg (TInt.cells b))] [] 0 (.agg (TInt.cells r)) []:=by
  unfold g_e_Add at h
  refine Sound.of_runs (fu:=Try.f56) (c:=C_44 1) (nt:=40) (by kernel_rfl) (by kernel_rfl) (by kernel_rfl) (by kernel_rfl) (fun hm=>rfl) ?_
  intro E hE
  refine Runs.sA 1 [.code (C_44 2),.code (C_44 3)] ?_
  refine Runs.sR hE ⟨[(2,(.op 0 0 0)),(3,(.op 16 0 0)),(4,(.op 32 0 0))],[(0,vO 2 (TInt.cells a)),(16,vO 2 (TInt.cells b)),(32,vO 2 [(aB false),.nil])],48⟩ (C_44 2) [] [] (kp [2,3,4]) (kq [0,16,32]) 48 [] trivial ?_
  refine Runs.sA 1 [.code (C_44 6),.code (C_44 7)] ?_
  obtain ⟨rtrim,hr,h⟩:=bindSome h
  obtain ⟨rtrim2,hr2,h⟩:=bindSome h
  refine Runs.sR hE ⟨[(2,(.op 0 0 0)),(3,(.op 16 0 0)),(4,(.op 32 0 0)),(5,(encL (cU .u16) 0 rtrim)),(6,(encL (cU .u16) 0 rtrim2))],[(0,vO 2 (TInt.cells a)),(16,vO 2 (TInt.cells b)),(32,vO 2 [(aB false),.nil])],176⟩ (C_44 6) [(2,⟨[],true,(encL (cU .u16) 0 rtrim),[],0,false,none⟩),(5,⟨[],true,(encL (cU .u16) 0 rtrim2),[],0,false,none⟩)] [] (kp [2,3,4,5,6]) (kq [0,16,32]) 176 [0 < 1,Sound Try.prog 61 [(encL (cU .u16) 0 a.f_Limbs)] [] 0 (encL (cU .u16) 0 rtrim) [],0 < 1,Sound Try.prog 61 [(encL (cU .u16) 0 b.f_Limbs)] [] 0 (encL (cU .u16) 0 rtrim2) []] ⟨o1,(g_e_trim_ok N a.f_Limbs rtrim hr),o1,(g_e_trim_ok N b.f_Limbs rtrim2 hr2),trivial⟩ ?_
  refine Runs.sA 2 [.code (C_44 28),.code (C_44 29),.code (C_44 15)] ?_
  refine Runs.sR hE ⟨[(2,(.op 0 0 0)),(3,(.op 16 0 0)),(4,(.op 32 0 0)),(5,(encL (cU .u16) 0 rtrim)),(6,(encL (cU .u16) 0 rtrim2)),(17,(aB (a.f_Neg == b.f_Neg)))],[(0,vO 2 (TInt.cells a)),(16,vO 2 (TInt.cells b)),(32,vO 2 [(aB false),.nil])],256⟩ (C_44 28) [] [] (kp [2,3,4,5,6,17]) (kq [0,16,32]) 256 [0 < 1,0 < 1] ⟨o1,o1,trivial⟩ ?_
  refine Runs.sC 17 (C_44 58) (C_44 59) (a.f_Neg == b.f_Neg) (fun hq2=>?_) (fun hq2=>?_)
  · have h:=condT h hq2
    refine Runs.sA 1 [.code (C_44 116),.code (C_44 117),.code (C_44 15)] ?_
    obtain ⟨rplus,hr3,h⟩:=bindSome h
    obtain ⟨rsigned,hr4,h⟩:=bindSome h
    refine Runs.sR hE ⟨[(4,(.op 32 0 0))],[(32,vO 2 (TInt.cells rsigned))],368⟩ (C_44 116) [(4,⟨[],true,(encL (cU .u16) 0 rplus),[],0,false,none⟩),(5,⟨[],true,(.agg (TInt.cells rsigned)),[],0,false,none⟩)] [] (kp [4]) (kq [32]) 368 [0 < 1,Sound Try.prog 66 [(encL (cU .u16) 0 rtrim),(encL (cU .u16) 0 rtrim2)] [] 0 (encL (cU .u16) 0 rplus) [],Sound Try.prog 51 [(aB a.f_Neg),(encL (cU .u16) 0 rplus)] [] 0 (.agg (TInt.cells rsigned)) [],0 < 1] ⟨o1,(g_e_plus_ok N rtrim rtrim2 rplus hr3),(g_e_signed_ok N a.f_Neg rplus rsigned hr4),o1,trivial⟩ ?_
    obtain rfl:=Option.some.inj h
    refine Runs.sW hE ⟨[(4,(.op 16 0 0))],[(16,vO 2 (TInt.cells rsigned))],368⟩ [] (kp [4]) [(16,.keep 32)] 368 [] trivial ?_
    exact Runs.sT Try.f56 [16] [0 < 1] ⟨o1,trivial⟩
  · have h:=condF h hq2
    refine Runs.sA 3 [.code (C_44 60),.code (C_44 61),.code (C_44 31)] ?_
    obtain ⟨rcompare,hr5,h⟩:=bindSome h
    refine Runs.sR hE ⟨[(2,(.op 0 0 0)),(3,(.op 16 0 0)),(4,(.op 32 0 0)),(5,(encL (cU .u16) 0 rtrim)),(6,(encL (cU .u16) 0 rtrim2)),(27,(aB (decide (rcompare ≥ 0))))],[(0,vO 2 (TInt.cells a)),(16,vO 2 (TInt.cells b)),(32,vO 2 [(aB false),.nil])],320⟩ (C_44 60) [(2,⟨[],true,(aI rcompare),[],0,false,none⟩)] [] (kp [2,3,4,5,6,27]) (kq [0,16,32]) 320 [Sound Try.prog 67 [(encL (cU .u16) 0 rtrim),(encL (cU .u16) 0 rtrim2)] [] 0 (aI rcompare) []] ⟨(g_e_compare_ok N rtrim rtrim2 rcompare hr5),trivial⟩ ?_
    refine Runs.sC 27 (C_44 122) (C_44 123) (decide (rcompare ≥ 0)) (fun hq3=>?_) (fun hq3=>?_)
    · have h:=condT h hq3
      refine Runs.sA 1 [.code (C_44 244),.code (C_44 245),.code (C_44 31)] ?_
      obtain ⟨rminus,hr6,h⟩:=bindSome h
      obtain ⟨rsigned2,hr7,h⟩:=bindSome h
      refine Runs.sR hE ⟨[(4,(.op 32 0 0))],[(32,vO 2 (TInt.cells rsigned2))],432⟩ (C_44 244) [(4,⟨[],true,(encL (cU .u16) 0 rminus),[],0,false,none⟩),(5,⟨[],true,(.agg (TInt.cells rsigned2)),[],0,false,none⟩)] [] (kp [4]) (kq [32]) 432 [0 < 1,Sound Try.prog 68 [(encL (cU .u16) 0 rtrim),(encL (cU .u16) 0 rtrim2)] [] 0 (encL (cU .u16) 0 rminus) [],Sound Try.prog 51 [(aB a.f_Neg),(encL (cU .u16) 0 rminus)] [] 0 (.agg (TInt.cells rsigned2)) [],0 < 1] ⟨o1,(g_e_minus_ok N rtrim rtrim2 rminus hr6),(g_e_signed_ok N a.f_Neg rminus rsigned2 hr7),o1,trivial⟩ ?_
      obtain rfl:=Option.some.inj h
      refine Runs.sW hE ⟨[(4,(.op 16 0 0))],[(16,vO 2 (TInt.cells rsigned2))],432⟩ [] (kp [4]) [(16,.keep 32)] 432 [] trivial ?_
      exact Runs.sT Try.f56 [16] [0 < 1] ⟨o1,trivial⟩
    · have h:=condF h hq3
      refine Runs.sA 2 [.code (C_44 62),.code (C_44 63)] ?_
      obtain ⟨rminus2,hr8,h⟩:=bindSome h
      obtain ⟨rsigned3,hr9,h⟩:=bindSome h
      refine Runs.sR hE ⟨[(4,(.op 32 0 0))],[(32,vO 2 (TInt.cells rsigned3))],432⟩ (C_44 62) [(4,⟨[],true,(encL (cU .u16) 0 rminus2),[],0,false,none⟩),(5,⟨[],true,(.agg (TInt.cells rsigned3)),[],0,false,none⟩)] [] (kp [4]) (kq [32]) 432 [0 < 1,Sound Try.prog 68 [(encL (cU .u16) 0 rtrim2),(encL (cU .u16) 0 rtrim)] [] 0 (encL (cU .u16) 0 rminus2) [],Sound Try.prog 51 [(aB b.f_Neg),(encL (cU .u16) 0 rminus2)] [] 0 (.agg (TInt.cells rsigned3)) [],0 < 1] ⟨o1,(g_e_minus_ok N rtrim2 rtrim rminus2 hr8),(g_e_signed_ok N b.f_Neg rminus2 rsigned3 hr9),o1,trivial⟩ ?_
      obtain rfl:=Option.some.inj h
      refine Runs.sW hE ⟨[(4,(.op 16 0 0))],[(16,vO 2 (TInt.cells rsigned3))],432⟩ [] (kp [4]) [(16,.keep 32)] 432 [] trivial ?_
      exact Runs.sT Try.f56 [16] [0 < 1] ⟨o1,trivial⟩
noncomputable def C_42 (n:Nat):Code:=cat (bodyOf Try.f36) (pth n)
theorem g_e_AddRat_ok (N:Nat) (x:TRat) (y:TRat) (r:TRat) (h:g_e_AddRat N x y = some r):Sound Try.prog 36 [(.agg (TRat.cells x)),(.agg (TRat.cells y))] [] 0 (.agg (TRat.cells r)) []:=by
  unfold g_e_AddRat at h
  refine Sound.of_runs (fu:=Try.f36) (c:=C_42 1) (nt:=32) (by kernel_rfl) (by kernel_rfl) (by kernel_rfl) (by kernel_rfl) (fun hm=>rfl) ?_
  intro E hE
  refine Runs.sA 1 [.code (C_42 2),.code (C_42 3)] ?_
  refine Runs.sR hE ⟨[(2,(.op 0 0 0)),(3,(.op 16 0 0)),(4,(.op 32 0 0))],[(0,vO 4 (TRat.cells x)),(16,vO 4 (TRat.cells y)),(32,vO 4 [(aB false),.nil,(aB false),.nil])],48⟩ (C_42 2) [] [] (kp [2,3,4]) (kq [0,16,32]) 48 [] trivial ?_
  refine Runs.sA 2 [.code (C_42 12),.code (C_42 13),.code (C_42 7)] ?_
  obtain ⟨risZero,hr,h⟩:=bindSome h
  refine Runs.sR hE ⟨[(2,(.op 0 0 0)),(3,(.op 16 0 0)),(4,(.op 32 0 0)),(8,(aB risZero))],[(0,vO 4 (TRat.cells x)),(16,vO 4 (TRat.cells y)),(32,vO 4 [(aB false),.nil,(aB false),.nil])],80⟩ (C_42 12) [(1,⟨[],true,(aB risZero),[],0,false,none⟩)] [] (kp [2,3,4,8]) (kq [0,16,32]) 80 [0 < 1,Sound Try.prog 48 [(.agg (TRat.cells x))] [] 0 (aB risZero) []] ⟨o1,(g_e_isZero_ok N x risZero hr),trivial⟩ ?_
  refine Runs.sC 8 (C_42 26) (C_42 27) risZero (fun hq2=>?_) (fun hq2=>?_)
  · have h:=condT h hq2
    refine Runs.sA 1 [.code (C_42 52),.code (C_42 53),.code (C_42 7)] ?_
    obtain ⟨rlowest,hr2,h⟩:=bindSome h
    refine Runs.sR hE ⟨[(4,(.op 32 0 0))],[(32,vO 4 (TRat.cells rlowest))],128⟩ (C_42 52) [(1,⟨[],true,(.agg (TRat.cells rlowest)),[],0,false,none⟩)] [] (kp [4]) (kq [32]) 128 [0 < 1,Sound Try.prog 55 [(.agg (TRat.cells y))] [] 0 (.agg (TRat.cells rlowest)) [],0 < 1] ⟨o1,(g_e_lowest_ok N y rlowest hr2),o1,trivial⟩ ?_
    obtain rfl:=Option.some.inj h
    refine Runs.sW hE ⟨[(4,(.op 16 0 0))],[(16,vO 4 (TRat.cells rlowest))],128⟩ [] (kp [4]) [(16,.keep 32)] 128 [] trivial ?_
    exact Runs.sT Try.f36 [16] [0 < 1] ⟨o1,trivial⟩
  · have h:=condF h hq2
    refine Runs.sA 3 [.code (C_42 28),.code (C_42 29),.code (C_42 15)] ?_
    obtain ⟨risZero2,hr3,h⟩:=bindSome h
    refine Runs.sR hE ⟨[(2,(.op 0 0 0)),(3,(.op 16 0 0)),(4,(.op 32 0 0)),(12,(aB risZero2))],[(0,vO 4 (TRat.cells x)),(16,vO 4 (TRat.cells y)),(32,vO 4 [(aB false),.nil,(aB false),.nil])],112⟩ (C_42 28) [(1,⟨[],true,(aB risZero2),[],0,false,none⟩)] [] (kp [2,3,4,12]) (kq [0,16,32]) 112 [0 < 1,Sound Try.prog 48 [(.agg (TRat.cells y))] [] 0 (aB risZero2) []] ⟨o1,(g_e_isZero_ok N y risZero2 hr3),trivial⟩ ?_
    refine Runs.sC 12 (C_42 58) (C_42 59) risZero2 (fun hq3=>?_) (fun hq3=>?_)
    · have h:=condT h hq3
      refine Runs.sA 1 [.code (C_42 116),.code (C_42 117),.code (C_42 15)] ?_
      obtain ⟨rlowest2,hr4,h⟩:=bindSome h
      refine Runs.sR hE ⟨[(4,(.op 32 0 0))],[(32,vO 4 (TRat.cells rlowest2))],160⟩ (C_42 116) [(1,⟨[],true,(.agg (TRat.cells rlowest2)),[],0,false,none⟩)] [] (kp [4]) (kq [32]) 160 [0 < 1,Sound Try.prog 55 [(.agg (TRat.cells x))] [] 0 (.agg (TRat.cells rlowest2)) [],0 < 1] ⟨o1,(g_e_lowest_ok N x rlowest2 hr4),o1,trivial⟩ ?_
      obtain rfl:=Option.some.inj h
      refine Runs.sW hE ⟨[(4,(.op 16 0 0))],[(16,vO 4 (TRat.cells rlowest2))],160⟩ [] (kp [4]) [(16,.keep 32)] 160 [] trivial ?_
      exact Runs.sT Try.f36 [16] [0 < 1] ⟨o1,trivial⟩
    · have h:=condF h hq3
      refine Runs.sA 2 [.code (C_42 30),.code (C_42 31)] ?_
      obtain ⟨rbelow,hr5,h⟩:=bindSome h
      obtain ⟨rbelow2,hr6,h⟩:=bindSome h
      refine Runs.sR hE ⟨[(2,(.op 0 0 0)),(3,(.op 16 0 0)),(4,(.op 32 0 0)),(5,(.op 176 0 0)),(6,(.op 192 0 0))],[(0,vO 4 (TRat.cells x)),(16,vO 4 (TRat.cells y)),(32,vO 4 [(aB false),.nil,(aB false),.nil]),(176,vO 2 (TInt.cells rbelow)),(192,vO 2 (TInt.cells rbelow2))],240⟩ (C_42 30) [(1,⟨[],true,(.agg (TInt.cells rbelow)),[],0,false,none⟩),(3,⟨[],true,(.agg (TInt.cells rbelow2)),[],0,false,none⟩)] [] (kp [2,3,4,5,6]) (kq [0,16,32,176,192]) 240 [0 < 1,Sound Try.prog 54 [(.agg (TRat.cells x))] [] 0 (.agg (TInt.cells rbelow)) [],0 < 1,Sound Try.prog 54 [(.agg (TRat.cells y))] [] 0 (.agg (TInt.cells rbelow2)) [],0 < 1,0 < 1] ⟨o1,(g_e_below_ok N x rbelow hr5),o1,(g_e_below_ok N y rbelow2 hr6),o1,o1,trivial⟩ ?_
      refine Runs.sA 1 [.code (C_42 62),.code (C_42 63)] ?_
      obtain ⟨rMul,hr7,h⟩:=bindSome h
      obtain ⟨rMul2,hr8,h⟩:=bindSome h
      obtain ⟨rAdd,hr9,h⟩:=bindSome h
      obtain ⟨rMul3,hr10,h⟩:=bindSome h
      obtain ⟨rfraction,hr11,h⟩:=bindSome h
      refine Runs.sR hE ⟨[(4,(.op 32 0 0))],[(32,vO 4 (TRat.cells rfraction))],464⟩ (C_42 62) [(3,⟨[],true,(.agg (TInt.cells rMul)),[],0,false,none⟩),(7,⟨[],true,(.agg (TInt.cells rMul2)),[],0,false,none⟩),(8,⟨[],true,(.agg (TInt.cells rAdd)),[],0,false,none⟩),(11,⟨[],true,(.agg (TInt.cells rMul3)),[],0,false,none⟩),(12,⟨[],true,(.agg (TRat.cells rfraction)),[],0,false,none⟩)] [] (kp [4]) (kq [32]) 464 [0 < 1,0 < 1,Sound Try.prog 53 [(.agg (TInt.cells x.f_Num)),(.agg (TInt.cells rbelow2))] [] 0 (.agg (TInt.cells rMul)) [],0 < 1,0 < 1,Sound Try.prog 53 [(.agg (TInt.cells y.f_Num)),(.agg (TInt.cells rbelow))] [] 0 (.agg (TInt.cells rMul2)) [],Sound Try.prog 56 [(.agg (TInt.cells rMul)),(.agg (TInt.cells rMul2))] [] 0 (.agg (TInt.cells rAdd)) [],0 < 1,0 < 1,Sound Try.prog 53 [(.agg (TInt.cells rbelow)),(.agg (TInt.cells rbelow2))] [] 0 (.agg (TInt.cells rMul3)) [],Sound Try.prog 50 [(.agg (TInt.cells rAdd)),(.agg (TInt.cells rMul3))] [] 0 (.agg (TRat.cells rfraction)) [],0 < 1] ⟨o1,o1,(g_e_Mul_ok N x.f_Num rbelow2 rMul hr7),o1,o1,(g_e_Mul_ok N y.f_Num rbelow rMul2 hr8),(g_e_Add_ok N rMul rMul2 rAdd hr9),o1,o1,(g_e_Mul_ok N rbelow rbelow2 rMul3 hr10),(g_e_fraction_ok N rAdd rMul3 rfraction hr11),o1,trivial⟩ ?_
      obtain rfl:=Option.some.inj h
      refine Runs.sW hE ⟨[(4,(.op 16 0 0))],[(16,vO 4 (TRat.cells rfraction))],464⟩ [] (kp [4]) [(16,.keep 32)] 464 [] trivial ?_
      exact Runs.sT Try.f36 [16] [0 < 1] ⟨o1,trivial⟩
noncomputable def C_39 (n:Nat):Code:=cat (bodyOf Try.f22) (pth n)
theorem g_e_SubRat_ok (N:Nat) (x:TRat) (y:TRat) (r:TRat) (h:g_e_SubRat N x y = some r):Sound Try.prog 22 [(.agg (TRat.cells x)),(.agg (TRat.cells y))] [] 0 (.agg (TRat.cells r)) []:=by
  unfold g_e_SubRat at h
  refine Sound.of_runs (fu:=Try.f22) (c:=C_39 1) (nt:=9) (by kernel_rfl) (by kernel_rfl) (by kernel_rfl) (by kernel_rfl) (fun hm=>rfl) ?_
  intro E hE
  refine Runs.sA 1 [.code (C_39 2),.code (C_39 3)] ?_
  refine Runs.sR hE ⟨[(2,(.op 0 0 0)),(3,(.op 16 0 0)),(4,(.op 32 0 0))],[(0,vO 4 (TRat.cells x)),(16,vO 4 (TRat.cells y)),(32,vO 4 [(aB false),.nil,(aB false),.nil])],48⟩ (C_39 2) [] [] (kp [2,3,4]) (kq [0,16,32]) 48 [] trivial ?_
  refine Runs.sA 1 [.code (C_39 6),.code (C_39 7)] ?_
  obtain ⟨rnegative,hr,h⟩:=bindSome h
  obtain ⟨rAddRat,hr2,h⟩:=bindSome h
  refine Runs.sR hE ⟨[(4,(.op 32 0 0))],[(32,vO 4 (TRat.cells rAddRat))],128⟩ (C_39 6) [(2,⟨[],true,(.agg (TRat.cells rnegative)),[],0,false,none⟩),(3,⟨[],true,(.agg (TRat.cells rAddRat)),[],0,false,none⟩)] [] (kp [4]) (kq [32]) 128 [0 < 1,0 < 1,Sound Try.prog 37 [(.agg (TRat.cells y))] [] 0 (.agg (TRat.cells rnegative)) [],Sound Try.prog 36 [(.agg (TRat.cells x)),(.agg (TRat.cells rnegative))] [] 0 (.agg (TRat.cells rAddRat)) [],0 < 1] ⟨o1,o1,(g_e_negative_ok N y rnegative hr),(g_e_AddRat_ok N x rnegative rAddRat hr2),o1,trivial⟩ ?_
  obtain rfl:=Option.some.inj h
  refine Runs.sW hE ⟨[(4,(.op 16 0 0))],[(16,vO 4 (TRat.cells rAddRat))],128⟩ [] (kp [4]) [(16,.keep 32)] 128 [] trivial ?_
  exact Runs.sT Try.f22 [16] [0 < 1] ⟨o1,trivial⟩
noncomputable def C_2 (n:Nat):Code:=cat (bodyOf Try.f7) (pth n)
theorem g_water_Float_ok (N:Nat) (p:TPontoon) (steps:List Int) (r:TPose × Int) (h:g_water_Float N p steps = some r):Sound Try.prog 7 [(.agg (TPontoon.cells p)),(encL cI 0 steps)] [] 0 (.tup [(.agg (TPose.cells r.1)),(aI r.2)]) []:=by
  unfold g_water_Float at h
  refine Sound.of_runs (fu:=Try.f7) (c:=C_2 1) (nt:=89) (by kernel_rfl) (by kernel_rfl) (by kernel_rfl) (by kernel_rfl) (fun hm=>rfl) ?_
  intro E hE
  refine Runs.sA 1 [.code (C_2 2),.code (C_2 3)] ?_
  refine Runs.sR hE ⟨[(1,(encL cI 0 steps)),(2,(.op 0 0 0)),(4,(.op 16 0 0))],[(0,vO 5 (TPontoon.cells p)),(16,vO 16 [(aB false),.nil,(aB false),.nil,(aB false),.nil,(aB false),.nil,(aB false),.nil,(aB false),.nil,(aB false),.nil,(aB false),.nil])],48⟩ (C_2 2) [] [] (kp [1,2,4]) (kq [0,16]) 48 [] trivial ?_
  refine Runs.sA 2 [.code (C_2 12),.code (C_2 13),.code (C_2 7)] ?_
  obtain ⟨rCheckPontoon,hr,h⟩:=bindSome h
  refine Runs.sR hE ⟨[(1,(encL cI 0 steps)),(2,(.op 0 0 0)),(4,(.op 16 0 0)),(6,(aI rCheckPontoon))],[(0,vO 5 (TPontoon.cells p)),(16,vO 16 [(aB false),.nil,(aB false),.nil,(aB false),.nil,(aB false),.nil,(aB false),.nil,(aB false),.nil,(aB false),.nil,(aB false),.nil])],96⟩ (C_2 12) [(1,⟨[],true,(aI rCheckPontoon),[],0,false,none⟩)] [] (kp [1,2,4,6]) (kq [0,16]) 96 [0 < 1,Sound Try.prog 6 [(.agg (TPontoon.cells p))] [] 0 (aI rCheckPontoon) []] ⟨o1,(g_water_CheckPontoon_ok N p rCheckPontoon hr),trivial⟩ ?_
  refine Runs.sA 1 [.code (C_2 26),.code (C_2 27),.code (C_2 7)] ?_
  refine Runs.sR hE ⟨[(1,(encL cI 0 steps)),(2,(.op 0 0 0)),(4,(.op 16 0 0)),(6,(aI rCheckPontoon)),(16,(aB (rCheckPontoon != 0)))],[(0,vO 5 (TPontoon.cells p)),(16,vO 16 [(aB false),.nil,(aB false),.nil,(aB false),.nil,(aB false),.nil,(aB false),.nil,(aB false),.nil,(aB false),.nil,(aB false),.nil])],128⟩ (C_2 26) [] [] (kp [1,2,4,6,16]) (kq [0,16]) 128 [] trivial ?_
  refine Runs.sC 16 (C_2 54) (C_2 55) (rCheckPontoon != 0) (fun hq2=>?_) (fun hq2=>?_)
  · have h:=condT h hq2
    refine Runs.sA 1 [.code (C_2 108),.code (C_2 109),.code (C_2 7)] ?_
    refine Runs.sR hE ⟨[(4,(.op 16 0 0)),(5,(aI rCheckPontoon))],[(16,vO 16 [(aB false),.nil,(aB false),.nil,(aB false),.nil,(aB false),.nil,(aB false),.nil,(aB false),.nil,(aB false),.nil,(aB false),.nil])],192⟩ (C_2 108) [] [] (kp [4,5]) (kq [16]) 192 [0 < 1] ⟨o1,trivial⟩ ?_
    obtain rfl:=Option.some.inj h
    refine Runs.sW hE ⟨[(4,(.op 16 0 0)),(5,(aI rCheckPontoon))],[(16,vO 16 [(aB false),(encL (cU .u16) 0 ([]:List Int)),(aB false),(encL (cU .u16) 0 ([]:List Int)),(aB false),(encL (cU .u16) 0 ([]:List Int)),(aB false),(encL (cU .u16) 0 ([]:List Int)),(aB false),(encL (cU .u16) 0 ([]:List Int)),(aB false),(encL (cU .u16) 0 ([]:List Int)),(aB false),(encL (cU .u16) 0 ([]:List Int)),(aB false),(encL (cU .u16) 0 ([]:List Int))])],192⟩ [] (kp [4,5]) [(16,.var 16 [.keep,.sl (([]:List Int).length) (fun zi=>(cU .u16) (([]:List Int).getD zi 0)),.keep,.sl (([]:List Int).length) (fun zi=>(cU .u16) (([]:List Int).getD zi 0)),.keep,.sl (([]:List Int).length) (fun zi=>(cU .u16) (([]:List Int).getD zi 0)),.keep,.sl (([]:List Int).length) (fun zi=>(cU .u16) (([]:List Int).getD zi 0)),.keep,.sl (([]:List Int).length) (fun zi=>(cU .u16) (([]:List Int).getD zi 0)),.keep,.sl (([]:List Int).length) (fun zi=>(cU .u16) (([]:List Int).getD zi 0)),.keep,.sl (([]:List Int).length) (fun zi=>(cU .u16) (([]:List Int).getD zi 0)),.keep,.sl (([]:List Int).length) (fun zi=>(cU .u16) (([]:List Int).getD zi 0))])] 192 [([]:List Int).length = 0,([]:List Int).length = 0,([]:List Int).length = 0,([]:List Int).length = 0,([]:List Int).length = 0,([]:List Int).length = 0,([]:List Int).length = 0,([]:List Int).length = 0] ⟨rfl,rfl,rfl,rfl,rfl,rfl,rfl,rfl,trivial⟩ ?_
    exact Runs.sT Try.f7 [16] [0 < 1] ⟨o1,trivial⟩
  · have h:=condF h hq2
    refine Runs.sA 2 [.code (C_2 14),.code (C_2 15)] ?_
    obtain ⟨rcheckSteps,hr2,h⟩:=bindSome h
    refine Runs.sR hE ⟨[(2,(.op 0 0 0)),(4,(.op 16 0 0)),(7,(.op 224 0 0)),(8,(aI rcheckSteps.2))],[(0,vO 5 (TPontoon.cells p)),(16,vO 16 [(aB false),.nil,(aB false),.nil,(aB false),.nil,(aB false),.nil,(aB false),.nil,(aB false),.nil,(aB false),.nil,(aB false),.nil]),(224,vO 6 (Twater_state.cells rcheckSteps.1))],272⟩ (C_2 14) [(2,⟨[],true,(.tup [(.agg (Twater_state.cells rcheckSteps.1)),(aI rcheckSteps.2)]),[],0,false,none⟩)] [] (kp [2,4,7,8]) (kq [0,16,224]) 272 [0 < 1,Sound Try.prog 18 [(.agg (TPontoon.cells p)),(encL cI 0 steps)] [] 0 (.tup [(.agg (Twater_state.cells rcheckSteps.1)),(aI rcheckSteps.2)]) [],0 < 1] ⟨o1,(g_water_checkSteps_ok N p steps rcheckSteps hr2),o1,trivial⟩ ?_
    refine Runs.sA 2 [.code (C_2 60),.code (C_2 61),.code (C_2 31)] ?_
    refine Runs.sR hE ⟨[(2,(.op 0 0 0)),(4,(.op 16 0 0)),(7,(.op 224 0 0)),(8,(aI rcheckSteps.2)),(26,(aB (rcheckSteps.2 != 0)))],[(0,vO 5 (TPontoon.cells p)),(16,vO 16 [(aB false),.nil,(aB false),.nil,(aB false),.nil,(aB false),.nil,(aB false),.nil,(aB false),.nil,(aB false),.nil,(aB false),.nil]),(224,vO 6 (Twater_state.cells rcheckSteps.1))],304⟩ (C_2 60) [] [] (kp [2,4,7,8,26]) (kq [0,16,224]) 304 [] trivial ?_
    refine Runs.sC 26 (C_2 122) (C_2 123) (rcheckSteps.2 != 0) (fun hq3=>?_) (fun hq3=>?_)
    · have h:=condT h hq3
      refine Runs.sA 1 [.code (C_2 244),.code (C_2 245),.code (C_2 31)] ?_
      refine Runs.sR hE ⟨[(4,(.op 16 0 0)),(5,(aI rcheckSteps.2))],[(16,vO 16 [(aB false),.nil,(aB false),.nil,(aB false),.nil,(aB false),.nil,(aB false),.nil,(aB false),.nil,(aB false),.nil,(aB false),.nil])],368⟩ (C_2 244) [] [] (kp [4,5]) (kq [16]) 368 [0 < 1] ⟨o1,trivial⟩ ?_
      obtain rfl:=Option.some.inj h
      refine Runs.sW hE ⟨[(4,(.op 16 0 0)),(5,(aI rcheckSteps.2))],[(16,vO 16 [(aB false),(encL (cU .u16) 0 ([]:List Int)),(aB false),(encL (cU .u16) 0 ([]:List Int)),(aB false),(encL (cU .u16) 0 ([]:List Int)),(aB false),(encL (cU .u16) 0 ([]:List Int)),(aB false),(encL (cU .u16) 0 ([]:List Int)),(aB false),(encL (cU .u16) 0 ([]:List Int)),(aB false),(encL (cU .u16) 0 ([]:List Int)),(aB false),(encL (cU .u16) 0 ([]:List Int))])],368⟩ [] (kp [4,5]) [(16,.var 16 [.keep,.sl (([]:List Int).length) (fun zi=>(cU .u16) (([]:List Int).getD zi 0)),.keep,.sl (([]:List Int).length) (fun zi=>(cU .u16) (([]:List Int).getD zi 0)),.keep,.sl (([]:List Int).length) (fun zi=>(cU .u16) (([]:List Int).getD zi 0)),.keep,.sl (([]:List Int).length) (fun zi=>(cU .u16) (([]:List Int).getD zi 0)),.keep,.sl (([]:List Int).length) (fun zi=>(cU .u16) (([]:List Int).getD zi 0)),.keep,.sl (([]:List Int).length) (fun zi=>(cU .u16) (([]:List Int).getD zi 0)),.keep,.sl (([]:List Int).length) (fun zi=>(cU .u16) (([]:List Int).getD zi 0)),.keep,.sl (([]:List Int).length) (fun zi=>(cU .u16) (([]:List Int).getD zi 0))])] 368 [([]:List Int).length = 0,([]:List Int).length = 0,([]:List Int).length = 0,([]:List Int).length = 0,([]:List Int).length = 0,([]:List Int).length = 0,([]:List Int).length = 0,([]:List Int).length = 0] ⟨rfl,rfl,rfl,rfl,rfl,rfl,rfl,rfl,trivial⟩ ?_
      exact Runs.sT Try.f7 [16] [0 < 1] ⟨o1,trivial⟩
    · have h:=condF h hq3
      refine Runs.sA 2 [.code (C_2 62),.code (C_2 63)] ?_
      obtain ⟨rsumOf,hr3,h⟩:=bindSome h
      refine Runs.sR hE ⟨[(2,(.op 0 0 0)),(4,(.op 16 0 0)),(9,(.op 352 0 0))],[(0,vO 5 (TPontoon.cells p)),(16,vO 16 [(aB false),.nil,(aB false),.nil,(aB false),.nil,(aB false),.nil,(aB false),.nil,(aB false),.nil,(aB false),.nil,(aB false),.nil]),(352,vO 4 (Twater_sums.cells rsumOf))],384⟩ (C_2 62) [(2,⟨[],true,(.agg (Twater_sums.cells rsumOf)),[],0,false,none⟩)] [] (kp [2,4,9]) (kq [0,16,352]) 384 [0 < 1,0 < 1,Sound Try.prog 19 [(.agg (TPontoon.cells p)),(.agg (Twater_state.cells rcheckSteps.1))] [] 0 (.agg (Twater_sums.cells rsumOf)) [],0 < 1] ⟨o1,o1,(g_water_sumOf_ok N p rcheckSteps.1 rsumOf hr3),o1,trivial⟩ ?_
      refine Runs.sA 1 [.code (C_2 126),.code (C_2 127)] ?_
      refine Runs.sR hE ⟨[(4,(.op 16 0 0)),(9,(.op 352 0 0)),(10,(aI p.f_Length)),(11,(aI p.f_Breadth)),(12,(aI p.f_Density))],[(16,vO 16 [(aB false),.nil,(aB false),.nil,(aB false),.nil,(aB false),.nil,(aB false),.nil,(aB false),.nil,(aB false),.nil,(aB false),.nil]),(352,vO 4 (Twater_sums.cells rsumOf))],528⟩ (C_2 126) [] [] (kp [4,9,10,11,12]) (kq [16,352]) 528 [0 < 1,0 < 1,0 < 1] ⟨o1,o1,o1,trivial⟩ ?_
      refine Runs.sA 1 [.code (C_2 254),.code (C_2 255)] ?_
      obtain ⟨rproduct,hr4,h⟩:=bindSome h
      obtain ⟨rproduct2,hr5,h⟩:=bindSome h
      obtain ⟨rquotient,hr6,h⟩:=bindSome h
      obtain ⟨rproduct3,hr7,h⟩:=bindSome h
      obtain ⟨rproduct4,hr8,h⟩:=bindSome h
      obtain ⟨rquotient2,hr9,h⟩:=bindSome h
      obtain ⟨rproduct5,hr10,h⟩:=bindSome h
      obtain ⟨rproduct6,hr11,h⟩:=bindSome h
      obtain ⟨rquotient3,hr12,h⟩:=bindSome h
      obtain ⟨rproduct7,hr13,h⟩:=bindSome h
      obtain ⟨rproduct8,hr14,h⟩:=bindSome h
      obtain ⟨rquotient4,hr15,h⟩:=bindSome h
      obtain ⟨rproduct9,hr16,h⟩:=bindSome h
      obtain ⟨rproduct10,hr17,h⟩:=bindSome h
      obtain ⟨rquotient5,hr18,h⟩:=bindSome h
      obtain ⟨rSubRat,hr19,h⟩:=bindSome h
      refine Runs.sR hE ⟨[(4,(.op 16 0 0)),(5,(aI 0))],[(16,vO 16 [(aB rquotient.f_Num.f_Neg),(encL (cU .u16) 0 rquotient.f_Num.f_Limbs),(aB rquotient.f_Den.f_Neg),(encL (cU .u16) 0 rquotient.f_Den.f_Limbs),(aB rquotient2.f_Num.f_Neg),(encL (cU .u16) 0 rquotient2.f_Num.f_Limbs),(aB rquotient2.f_Den.f_Neg),(encL (cU .u16) 0 rquotient2.f_Den.f_Limbs),(aB rquotient3.f_Num.f_Neg),(encL (cU .u16) 0 rquotient3.f_Num.f_Limbs),(aB rquotient3.f_Den.f_Neg),(encL (cU .u16) 0 rquotient3.f_Den.f_Limbs),(aB rSubRat.f_Num.f_Neg),(encL (cU .u16) 0 rSubRat.f_Num.f_Limbs),(aB rSubRat.f_Den.f_Neg),(encL (cU .u16) 0 rSubRat.f_Den.f_Limbs)])],1376⟩ (C_2 254) [(3,⟨[],true,(.agg (TRat.cells rproduct)),[],0,true,none⟩),(8,⟨[],true,(.agg (TRat.cells rproduct2)),[],0,true,none⟩),(9,⟨[],true,(.agg (TRat.cells rquotient)),[],0,false,none⟩),(13,⟨[],true,(.agg (TRat.cells rproduct3)),[],0,true,none⟩),(20,⟨[],true,(.agg (TRat.cells rproduct4)),[],0,true,none⟩),(21,⟨[],true,(.agg (TRat.cells rquotient2)),[],0,false,none⟩),(25,⟨[],true,(.agg (TRat.cells rproduct5)),[],0,true,none⟩),(32,⟨[],true,(.agg (TRat.cells rproduct6)),[],0,true,none⟩),(33,⟨[],true,(.agg (TRat.cells rquotient3)),[],0,false,none⟩),(37,⟨[],true,(.agg (TRat.cells rproduct7)),[],0,true,none⟩),(39,⟨[],true,(.agg (TRat.cells rproduct8)),[],0,true,none⟩),(40,⟨[],true,(.agg (TRat.cells rquotient4)),[],0,false,none⟩),(45,⟨[],true,(.agg (TRat.cells rproduct9)),[],0,true,none⟩),(47,⟨[],true,(.agg (TRat.cells rproduct10)),[],0,true,none⟩),(48,⟨[],true,(.agg (TRat.cells rquotient5)),[],0,false,none⟩),(49,⟨[],true,(.agg (TRat.cells rSubRat)),[],0,false,none⟩)] [] (kp [4,5]) (kq [16]) 1376 [0 < 1,Sound Try.prog 21 [(.sl 2 (fun zi=>(fun zi=>([[(aI 1000000000)],[(aI rsumOf.f_mass)]]:List (List AV)).getD zi []) (addz 0 zi)))] [] 0 (.agg (TRat.cells rproduct)) [],0+2≤2,Sound Try.prog 21 [(.sl 3 (fun zi=>(fun zi=>([[(aI p.f_Density)],[(aI p.f_Length)],[(aI p.f_Breadth)]]:List (List AV)).getD zi []) (addz 0 zi)))] [] 0 (.agg (TRat.cells rproduct2)) [],0+3≤3,Sound Try.prog 20 [(.agg (TRat.cells rproduct)),(.agg (TRat.cells rproduct2))] [] 0 (.agg (TRat.cells rquotient)) [],0 < 1,Sound Try.prog 21 [(.sl 2 (fun zi=>(fun zi=>([[(aI 12000000000)],[(aI rsumOf.f_x)]]:List (List AV)).getD zi []) (addz 0 zi)))] [] 0 (.agg (TRat.cells rproduct3)) [],0+2≤2,Sound Try.prog 21 [(.sl 5 (fun zi=>(fun zi=>([[(aI p.f_Density)],[(aI p.f_Breadth)],[(aI p.f_Length)],[(aI p.f_Length)],[(aI p.f_Length)]]:List (List AV)).getD zi []) (addz 0 zi)))] [] 0 (.agg (TRat.cells rproduct4)) [],0+5≤5,Sound Try.prog 20 [(.agg (TRat.cells rproduct3)),(.agg (TRat.cells rproduct4))] [] 0 (.agg (TRat.cells rquotient2)) [],0 < 1,Sound Try.prog 21 [(.sl 2 (fun zi=>(fun zi=>([[(aI 12000000000)],[(aI rsumOf.f_y)]]:List (List AV)).getD zi []) (addz 0 zi)))] [] 0 (.agg (TRat.cells rproduct5)) [],0+2≤2,Sound Try.prog 21 [(.sl 5 (fun zi=>(fun zi=>([[(aI p.f_Density)],[(aI p.f_Length)],[(aI p.f_Breadth)],[(aI p.f_Breadth)],[(aI p.f_Breadth)]]:List (List AV)).getD zi []) (addz 0 zi)))] [] 0 (.agg (TRat.cells rproduct6)) [],0+5≤5,Sound Try.prog 20 [(.agg (TRat.cells rproduct5)),(.agg (TRat.cells rproduct6))] [] 0 (.agg (TRat.cells rquotient3)) [],0 < 1,Sound Try.prog 21 [(.sl 1 (fun zi=>(fun zi=>([[(aI rsumOf.f_arm)]]:List (List AV)).getD zi []) (addz 0 zi)))] [] 0 (.agg (TRat.cells rproduct7)) [],0+1≤1,Sound Try.prog 21 [(.sl 1 (fun zi=>(fun zi=>([[(aI 2)]]:List (List AV)).getD zi []) (addz 0 zi)))] [] 0 (.agg (TRat.cells rproduct8)) [],0+1≤1,Sound Try.prog 20 [(.agg (TRat.cells rproduct7)),(.agg (TRat.cells rproduct8))] [] 0 (.agg (TRat.cells rquotient4)) [],0 < 1,Sound Try.prog 21 [(.sl 2 (fun zi=>(fun zi=>([[(aI rsumOf.f_mass)],[(aI p.f_Length)]]:List (List AV)).getD zi []) (addz 0 zi)))] [] 0 (.agg (TRat.cells rproduct9)) [],0+2≤2,Sound Try.prog 21 [(.sl 1 (fun zi=>(fun zi=>([[(aI 8)]]:List (List AV)).getD zi []) (addz 0 zi)))] [] 0 (.agg (TRat.cells rproduct10)) [],0+1≤1,Sound Try.prog 20 [(.agg (TRat.cells rproduct9)),(.agg (TRat.cells rproduct10))] [] 0 (.agg (TRat.cells rquotient5)) [],Sound Try.prog 22 [(.agg (TRat.cells rquotient4)),(.agg (TRat.cells rquotient5))] [] 0 (.agg (TRat.cells rSubRat)) [],0 < 1] ⟨o1,(Sound.conv (g_water_product_ok N ([1000000000,rsumOf.f_mass]:List Int) rproduct hr4) (.cons (Alike.sl rfl (fun zq hzq=>get_chunk cI 0 ([1000000000,rsumOf.f_mass]:List Int) zq hzq)) .nil)),z0,(Sound.conv (g_water_product_ok N ([p.f_Density,p.f_Length,p.f_Breadth]:List Int) rproduct2 hr5) (.cons (Alike.sl rfl (fun zq hzq=>get_chunk cI 0 ([p.f_Density,p.f_Length,p.f_Breadth]:List Int) zq hzq)) .nil)),z0,(g_water_quotient_ok N rproduct rproduct2 rquotient hr6),o1,(Sound.conv (g_water_product_ok N ([12000000000,rsumOf.f_x]:List Int) rproduct3 hr7) (.cons (Alike.sl rfl (fun zq hzq=>get_chunk cI 0 ([12000000000,rsumOf.f_x]:List Int) zq hzq)) .nil)),z0,(Sound.conv (g_water_product_ok N ([p.f_Density,p.f_Breadth,p.f_Length,p.f_Length,p.f_Length]:List Int) rproduct4 hr8) (.cons (Alike.sl rfl (fun zq hzq=>get_chunk cI 0 ([p.f_Density,p.f_Breadth,p.f_Length,p.f_Length,p.f_Length]:List Int) zq hzq)) .nil)),z0,(g_water_quotient_ok N rproduct3 rproduct4 rquotient2 hr9),o1,(Sound.conv (g_water_product_ok N ([12000000000,rsumOf.f_y]:List Int) rproduct5 hr10) (.cons (Alike.sl rfl (fun zq hzq=>get_chunk cI 0 ([12000000000,rsumOf.f_y]:List Int) zq hzq)) .nil)),z0,(Sound.conv (g_water_product_ok N ([p.f_Density,p.f_Length,p.f_Breadth,p.f_Breadth,p.f_Breadth]:List Int) rproduct6 hr11) (.cons (Alike.sl rfl (fun zq hzq=>get_chunk cI 0 ([p.f_Density,p.f_Length,p.f_Breadth,p.f_Breadth,p.f_Breadth]:List Int) zq hzq)) .nil)),z0,(g_water_quotient_ok N rproduct5 rproduct6 rquotient3 hr12),o1,(Sound.conv (g_water_product_ok N ([rsumOf.f_arm]:List Int) rproduct7 hr13) (.cons (Alike.sl rfl (fun zq hzq=>get_chunk cI 0 ([rsumOf.f_arm]:List Int) zq hzq)) .nil)),z0,(Sound.conv (g_water_product_ok N ([2]:List Int) rproduct8 hr14) (.cons (Alike.sl rfl (fun zq hzq=>get_chunk cI 0 ([2]:List Int) zq hzq)) .nil)),z0,(g_water_quotient_ok N rproduct7 rproduct8 rquotient4 hr15),o1,(Sound.conv (g_water_product_ok N ([rsumOf.f_mass,p.f_Length]:List Int) rproduct9 hr16) (.cons (Alike.sl rfl (fun zq hzq=>get_chunk cI 0 ([rsumOf.f_mass,p.f_Length]:List Int) zq hzq)) .nil)),z0,(Sound.conv (g_water_product_ok N ([8]:List Int) rproduct10 hr17) (.cons (Alike.sl rfl (fun zq hzq=>get_chunk cI 0 ([8]:List Int) zq hzq)) .nil)),z0,(g_water_quotient_ok N rproduct9 rproduct10 rquotient5 hr18),(g_e_SubRat_ok N rquotient4 rquotient5 rSubRat hr19),o1,trivial⟩ ?_
      obtain rfl:=Option.some.inj h
      refine Runs.sW hE ⟨[(4,(.op 16 0 0)),(5,(aI 0))],[(16,vO 16 [(aB rquotient.f_Num.f_Neg),(encL (cU .u16) 0 rquotient.f_Num.f_Limbs),(aB rquotient.f_Den.f_Neg),(encL (cU .u16) 0 rquotient.f_Den.f_Limbs),(aB rquotient2.f_Num.f_Neg),(encL (cU .u16) 0 rquotient2.f_Num.f_Limbs),(aB rquotient2.f_Den.f_Neg),(encL (cU .u16) 0 rquotient2.f_Den.f_Limbs),(aB rquotient3.f_Num.f_Neg),(encL (cU .u16) 0 rquotient3.f_Num.f_Limbs),(aB rquotient3.f_Den.f_Neg),(encL (cU .u16) 0 rquotient3.f_Den.f_Limbs),(aB rSubRat.f_Num.f_Neg),(encL (cU .u16) 0 rSubRat.f_Num.f_Limbs),(aB rSubRat.f_Den.f_Neg),(encL (cU .u16) 0 rSubRat.f_Den.f_Limbs)])],1376⟩ [] (kp [4,5]) (kq [16]) 1376 [] trivial ?_
      exact Runs.sT Try.f7 [16] [0 < 1] ⟨o1,trivial⟩
noncomputable def C_49 (n:Nat):Code:=cat (bodyOf Try.f47) (pth n)
theorem g_b_limbs_L1_ok (N:Nat) (fuel:Nat):∀ (n2:Int) (out:List Int) (r:(List Int)),g_b_limbs_L1 N fuel n2 out = some r→∀ E,EnvOk E 0→Runs Try.prog E 47 15 (SPost E [] (encL (cU .u16) 0 r)) [.code (C_49 56),.inLoop (C_49 56),.inBlock 0,.code (C_49 15)] ⟨[(0,(.atom (.int .u64 n2))),(3,(.os 0 0 out.length))],[(0,aO 1 (cU .u16) 0 out)],1⟩:=by
  induction fuel with
  | zero=>intro _ _ r h; rw [g_b_limbs_L1.eq_1] at h; cases h
  | succ fuel ih =>
    intro n2 out r h E hE
    rw [g_b_limbs_L1.eq_2] at h
    refine Runs.sA 2 [.code (C_49 224),.code (C_49 225),.code (C_49 113),.inLoop (C_49 56),.inBlock 0,.code (C_49 15)] ?_
    refine Runs.sR hE ⟨[(0,(.atom (.int .u64 n2))),(3,(.os 0 0 out.length)),(5,(aB (decide (n2 > 0))))],[(0,aO 1 (cU .u16) 0 out)],33⟩ (C_49 224) [] [] (kp [0,3,5]) (kq [0]) 33 [] trivial ?_
    refine Runs.sC 5 (C_49 450) (C_49 451) (decide (n2 > 0)) (fun hq2=>?_) (fun hq2=>?_)
    · have h:=condT h hq2
      refine Runs.sA 3 [.code (C_49 452),.inBlock 1,.code (C_49 227),.inLoop (C_49 56),.inBlock 0,.code (C_49 15)] ?_
      obtain ⟨c,h⟩:=ifSome h
      refine Runs.sR hE ⟨[(0,(.atom (.int .u64 n2))),(3,(.os 113 0 ((out ++ ([(IntKind.u16.wrap ((andI .u64 n2 65535)))]:List Int)).length)))],[(113,aO 1 (cU .u16) 0 (out ++ ([(IntKind.u16.wrap ((andI .u64 n2 65535)))]:List Int)))],145⟩ (C_49 452) [] [] (kp [0] ++ [(3,.osl ((out ++ ([(IntKind.u16.wrap ((andI .u64 n2 65535)))]:List Int)).length))]) [(113,.arr 113 ((out ++ ([(IntKind.u16.wrap ((andI .u64 n2 65535)))]:List Int)).length) (fun zi=>(cU .u16) ((out ++ ([(IntKind.u16.wrap ((andI .u64 n2 65535)))]:List Int)).getD zi 0)))] 145 [out.length = out.length,(out.length+1) * 2≤140737488355328,0+1≤1,∀ zi,zi < 1→AV.oneL ((fun zi=>([[(.atom (.int .u16 (IntKind.u16.wrap ((andI .u64 n2 65535)))))]]:List (List AV)).getD zi []) (addz 0 zi)) = true,(out.length+1) = (out ++ ([(IntKind.u16.wrap ((andI .u64 n2 65535)))]:List Int)).length,out.length+1 = (out ++ ([(IntKind.u16.wrap ((andI .u64 n2 65535)))]:List Int)).length,∀ zi,zi < (out ++ ([(IntKind.u16.wrap ((andI .u64 n2 65535)))]:List Int)).length→(fun zi=>(cU .u16) ((out ++ ([(IntKind.u16.wrap ((andI .u64 n2 65535)))]:List Int)).getD zi 0)) zi = ((fun zm=>if zm < out.length then (fun zi=>(cU .u16) (out.getD zi 0)) zm else (fun zi=>([[(.atom (.int .u16 (IntKind.u16.wrap ((andI .u64 n2 65535)))))]]:List (List AV)).getD zi []) (zm - out.length))) zi] ⟨rfl,c,z0,(oneN rfl),(len_app_raw rfl rfl),(len_app_raw rfl rfl),(get_app_raw (cU .u16) 0 out ([(IntKind.u16.wrap ((andI .u64 n2 65535)))]:List Int) rfl (fun _ _=>rfl) (fun zq hzq=>get_chunk (cU .u16) 0 ([(IntKind.u16.wrap ((andI .u64 n2 65535)))]:List Int) zq hzq)),trivial⟩ ?_
      refine Runs.sA 1 [.code (C_49 227),.inLoop (C_49 56),.inBlock 0,.code (C_49 15)] ?_
      refine Runs.sR hE ⟨[(0,(.atom (.int .u64 (shrI .u64 n2 16)))),(3,(.os 113 0 ((out ++ ([(IntKind.u16.wrap ((andI .u64 n2 65535)))]:List Int)).length)))],[(113,aO 1 (cU .u16) 0 (out ++ ([(IntKind.u16.wrap ((andI .u64 n2 65535)))]:List Int)))],193⟩ (C_49 227) [] [] (kp [0,3]) (kq [113]) 193 [(0:Int)≤16] ⟨(by decide),trivial⟩ ?_
      refine Runs.sA 1 [.code (C_49 56),.inLoop (C_49 56),.inBlock 0,.code (C_49 15)] ?_
      exact Runs.sW hE _ [] (kp [0,3]) [(0,.keep 113)] 1 [] trivial (ih (shrI .u64 n2 16) (out ++ ([(IntKind.u16.wrap ((andI .u64 n2 65535)))]:List Int)) _ h E hE)
    · have h:=condF h hq2
      refine Runs.sA 2 [.code (C_49 30),.code (C_49 31)] ?_
      refine Runs.sR hE ⟨[(2,(.os 0 0 out.length))],[(0,aO 1 (cU .u16) 0 out)],65⟩ (C_49 30) [] [] (kp [2]) (kq [0]) 65 [] trivial ?_
      obtain rfl:=Option.some.inj h
      refine Runs.sW hE ⟨[(2,(encL (cU .u16) 0 out))],[],65⟩ [0] [(2,.sl (out.length) (fun zi=>(cU .u16) (out.getD zi 0)))] [] 65 [out.length = out.length,0+out.length≤out.length,∀ zi,zi < out.length→(fun zi=>(cU .u16) (out.getD zi 0)) zi = (fun zi=>(cU .u16) (out.getD zi 0)) (addz 0 zi)] ⟨rfl,z0,(fun _ _=>rfl),trivial⟩ ?_
      exact Runs.sT Try.f47 [] [] trivial
theorem g_b_limbs_ok (N:Nat) (n:Int) (r:(List Int)) (h:g_b_limbs N n = some r):Sound Try.prog 47 [(.atom (.int .u64 n))] [] 0 (encL (cU .u16) 0 r) []:=by
  unfold g_b_limbs at h
  refine Sound.of_runs (fu:=Try.f47) (c:=C_49 1) (nt:=15) (by kernel_rfl) (by kernel_rfl) (by kernel_rfl) (by kernel_rfl) (fun hm=>rfl) ?_
  intro E hE
  refine Runs.sA 1 [.code (C_49 2),.code (C_49 3)] ?_
  refine Runs.sR hE ⟨[(0,(.atom (.int .u64 n)))],[],16⟩ (C_49 2) [] [] (kp [0]) [] 16 [] trivial ?_
  refine Runs.sA 1 [.code (C_49 6),.code (C_49 7)] ?_
  refine Runs.sR hE ⟨[(0,(.atom (.int .u64 n))),(3,.nil)],[],32⟩ (C_49 6) [] [] (kp [0,3]) [] 32 [] trivial ?_
  refine Runs.sA 3 [.code (C_49 56),.inLoop (C_49 56),.inBlock 0,.code (C_49 15)] ?_
  exact Runs.sW hE _ [] (kp [0] ++ [(3,.nilos 0)]) [(0,.nil 1 (fun zi=>(cU .u16) (([]:List Int).getD zi 0)))] 1 [] trivial (g_b_limbs_L1_ok N N n ([]:List Int) _ h E hE)
noncomputable def C_48 (n:Nat):Code:=cat (bodyOf Try.f29) (pth n)
theorem g_b_Z_ok (N:Nat) (n:Int) (r:TInt) (h:g_b_Z N n = some r):Sound Try.prog 29 [(aI n)] [] 0 (.agg (TInt.cells r)) []:=by
  unfold g_b_Z at h
  refine Sound.of_runs (fu:=Try.f29) (c:=C_48 1) (nt:=16) (by kernel_rfl) (by kernel_rfl) (by kernel_rfl) (by kernel_rfl) (fun hm=>rfl) ?_
  intro E hE
  refine Runs.sA 1 [.code (C_48 2),.code (C_48 3)] ?_
  refine Runs.sR hE ⟨[(0,(aI n)),(2,(.op 0 0 0))],[(0,vO 2 [(aB false),.nil])],16⟩ (C_48 2) [] [] (kp [0,2]) (kq [0]) 16 [] trivial ?_
  refine Runs.sA 2 [.code (C_48 12),.code (C_48 13),.code (C_48 7)] ?_
  refine Runs.sR hE ⟨[(0,(aI n)),(2,(.op 0 0 0)),(4,(aB (decide (n < 0))))],[(0,vO 2 [(aB false),.nil])],48⟩ (C_48 12) [] [] (kp [0,2,4]) (kq [0]) 48 [] trivial ?_
  refine Runs.sC 4 (C_48 26) (C_48 27) (decide (n < 0)) (fun hq2=>?_) (fun hq2=>?_)
  · have h:=condT h hq2
    refine Runs.sA 1 [.code (C_48 52),.code (C_48 53),.code (C_48 7)] ?_
    obtain ⟨rlimbs,hr,h⟩:=bindSome h
    refine Runs.sR hE ⟨[(2,(.op 0 0 0))],[(0,vO 2 [(aB true),(encL (cU .u16) 0 rlimbs)])],176⟩ (C_48 52) [(5,⟨[],true,(encL (cU .u16) 0 rlimbs),[],0,false,none⟩)] [] (kp [2]) (kq [0]) 176 [Sound Try.prog 47 [(.atom (.int .u64 (IntKind.u64.wrap ((IntKind.u64.wrap ((w64 (0 - (w64 (n+1))))))+1))))] [] 0 (encL (cU .u16) 0 rlimbs) [],0 < 1] ⟨(g_b_limbs_ok N (IntKind.u64.wrap ((IntKind.u64.wrap ((w64 (0 - (w64 (n+1))))))+1)) rlimbs hr),o1,trivial⟩ ?_
    obtain rfl:=Option.some.inj h
    refine Runs.sW hE ⟨[(2,(.op 16 0 0))],[(16,vO 2 [(aB true),(encL (cU .u16) 0 rlimbs)])],176⟩ [] (kp [2]) [(16,.keep 0)] 176 [] trivial ?_
    exact Runs.sT Try.f29 [16] [0 < 1] ⟨o1,trivial⟩
  · have h:=condF h hq2
    refine Runs.sA 2 [.code (C_48 14),.code (C_48 15)] ?_
    obtain ⟨rlimbs2,hr2,h⟩:=bindSome h
    refine Runs.sR hE ⟨[(2,(.op 0 0 0))],[(0,vO 2 [(aB false),(encL (cU .u16) 0 rlimbs2)])],128⟩ (C_48 14) [(2,⟨[],true,(encL (cU .u16) 0 rlimbs2),[],0,false,none⟩)] [] (kp [2]) (kq [0]) 128 [Sound Try.prog 47 [(.atom (.int .u64 (IntKind.u64.wrap (n))))] [] 0 (encL (cU .u16) 0 rlimbs2) [],0 < 1] ⟨(g_b_limbs_ok N (IntKind.u64.wrap (n)) rlimbs2 hr2),o1,trivial⟩ ?_
    obtain rfl:=Option.some.inj h
    refine Runs.sW hE ⟨[(2,(.op 16 0 0))],[(16,vO 2 [(aB false),(encL (cU .u16) 0 rlimbs2)])],128⟩ [] (kp [2]) [(16,.keep 0)] 128 [] trivial ?_
    exact Runs.sT Try.f29 [16] [0 < 1] ⟨o1,trivial⟩
noncomputable def C_47 (n:Nat):Code:=cat (bodyOf Try.f12) (pth n)
theorem g_b_W_ok (N:Nat) (n:Int) (r:TRat) (h:g_b_W N n = some r):Sound Try.prog 12 [(aI n)] [] 0 (.agg (TRat.cells r)) []:=by
  unfold g_b_W at h
  refine Sound.of_runs (fu:=Try.f12) (c:=C_47 1) (nt:=7) (by kernel_rfl) (by kernel_rfl) (by kernel_rfl) (by kernel_rfl) (fun hm=>rfl) ?_
  intro E hE
  refine Runs.sA 1 [.code (C_47 2),.code (C_47 3)] ?_
  refine Runs.sR hE ⟨[(0,(aI n)),(2,(.op 0 0 0))],[(0,vO 4 [(aB false),.nil,(aB false),.nil])],16⟩ (C_47 2) [] [] (kp [0,2]) (kq [0]) 16 [] trivial ?_
  refine Runs.sA 1 [.code (C_47 6),.code (C_47 7)] ?_
  obtain ⟨rZ,hr,h⟩:=bindSome h
  obtain ⟨rZ2,hr2,h⟩:=bindSome h
  refine Runs.sR hE ⟨[(2,(.op 0 0 0))],[(0,vO 4 [(aB rZ.f_Neg),(encL (cU .u16) 0 rZ.f_Limbs),(aB rZ2.f_Neg),(encL (cU .u16) 0 rZ2.f_Limbs)])],96⟩ (C_47 6) [(1,⟨[],true,(.agg (TInt.cells rZ)),[],0,false,none⟩),(2,⟨[],true,(.agg (TInt.cells rZ2)),[],0,false,none⟩)] [] (kp [2]) (kq [0]) 96 [Sound Try.prog 29 [(aI n)] [] 0 (.agg (TInt.cells rZ)) [],Sound Try.prog 29 [(aI 1)] [] 0 (.agg (TInt.cells rZ2)) [],0 < 1] ⟨(g_b_Z_ok N n rZ hr),(g_b_Z_ok N 1 rZ2 hr2),o1,trivial⟩ ?_
  obtain rfl:=Option.some.inj h
  refine Runs.sW hE ⟨[(2,(.op 16 0 0))],[(16,vO 4 [(aB rZ.f_Neg),(encL (cU .u16) 0 rZ.f_Limbs),(aB rZ2.f_Neg),(encL (cU .u16) 0 rZ2.f_Limbs)])],96⟩ [] (kp [2]) [(16,.keep 0)] 96 [] trivial ?_
  exact Runs.sT Try.f12 [16] [0 < 1] ⟨o1,trivial⟩
noncomputable def C_51 (n:Nat):Code:=cat (bodyOf Try.f28) (pth n)
theorem g_b_SameInt_L1_ok (N:Nat) (a:TInt) (b:TInt) (fuel:Nat):∀ (i:Int) (r:Bool),g_b_SameInt_L1 N a b fuel i = some r→∀ E,EnvOk E 0→Runs Try.prog E 28 38 (SPost E [] (aB r)) [.code (C_51 116),.inLoop (C_51 116),.inBlock 0,.code (C_51 15)] ⟨[(2,(.op 0 0 0)),(3,(.op 1 0 0)),(5,(aI i))],[(0,vO 2 (TInt.cells a)),(1,vO 2 (TInt.cells b))],2⟩:=by
  induction fuel with
  | zero=>intro _ r h; rw [g_b_SameInt_L1.eq_1] at h; cases h
  | succ fuel ih =>
    intro i r h E hE
    rw [g_b_SameInt_L1.eq_2] at h
    refine Runs.sA 2 [.code (C_51 464),.code (C_51 465),.code (C_51 233),.inLoop (C_51 116),.inBlock 0,.code (C_51 15)] ?_
    refine Runs.sR hE ⟨[(2,(.op 0 0 0)),(3,(.op 1 0 0)),(5,(aI i)),(24,(aB (decide (i < ((a.f_Limbs.length:Nat):Int)))))],[(0,vO 2 (TInt.cells a)),(1,vO 2 (TInt.cells b))],82⟩ (C_51 464) [] [] (kp [2,3,5,24]) (kq [0,1]) 82 [0 < 1] ⟨o1,trivial⟩ ?_
    refine Runs.sC 24 (C_51 930) (C_51 931) (decide (i < ((a.f_Limbs.length:Nat):Int))) (fun hq3=>?_) (fun hq3=>?_)
    · have h:=condT h hq3
      refine Runs.sA 4 [.code (C_51 1864),.code (C_51 1865),.inBlock 1,.code (C_51 467),.inLoop (C_51 116),.inBlock 0,.code (C_51 15)] ?_
      obtain ⟨c,h⟩:=ifSome h
      obtain ⟨c2,h⟩:=ifSome h
      refine Runs.sR hE ⟨[(2,(.op 0 0 0)),(3,(.op 1 0 0)),(5,(aI i)),(37,(aB ((a.f_Limbs.getD ((i).toNat) 0) != (b.f_Limbs.getD ((i).toNat) 0))))],[(0,vO 2 (TInt.cells a)),(1,vO 2 (TInt.cells b))],258⟩ (C_51 1864) [] [] (kp [2,3,5,37]) (kq [0,1]) 258 [0 < 1,0≤i∧i < ((a.f_Limbs.length:Nat):Int),0 < 1,0≤i∧i < ((b.f_Limbs.length:Nat):Int)] ⟨o1,c,o1,c2,trivial⟩ ?_
      refine Runs.sC 37 (C_51 3730) (C_51 3731) ((a.f_Limbs.getD ((i).toNat) 0) != (b.f_Limbs.getD ((i).toNat) 0)) (fun hq4=>?_) (fun hq4=>?_)
      · have h:=condT h hq4
        refine Runs.sA 1 [.code (C_51 7460),.code (C_51 7461),.inBlock 1,.code (C_51 467),.inLoop (C_51 116),.inBlock 0,.code (C_51 15)] ?_
        refine Runs.sR hE ⟨[(4,(aB false))],[],274⟩ (C_51 7460) [] [] (kp [4]) [] 274 [] trivial ?_
        obtain rfl:=Option.some.inj h
        refine Runs.sW hE ⟨[(4,(aB false))],[],274⟩ [] (kp [4]) [] 274 [] trivial ?_
        exact Runs.sT Try.f28 [] [] trivial
      · have h:=condF h hq4
        refine Runs.sA 2 [.code (C_51 467),.inLoop (C_51 116),.inBlock 0,.code (C_51 15)] ?_
        refine Runs.sR hE ⟨[(2,(.op 0 0 0)),(3,(.op 1 0 0)),(5,(aI (w64 (i+1))))],[(0,vO 2 (TInt.cells a)),(1,vO 2 (TInt.cells b))],306⟩ (C_51 467) [] [] (kp [2,3,5]) (kq [0,1]) 306 [] trivial ?_
        refine Runs.sA 1 [.code (C_51 116),.inLoop (C_51 116),.inBlock 0,.code (C_51 15)] ?_
        exact Runs.sW hE _ [] (kp [2,3,5]) (kq [0,1]) 2 [] trivial (ih (w64 (i+1)) _ h E hE)
    · have h:=condF h hq3
      refine Runs.sA 2 [.code (C_51 30),.code (C_51 31)] ?_
      refine Runs.sR hE ⟨[(4,(aB true))],[],98⟩ (C_51 30) [] [] (kp [4]) [] 98 [] trivial ?_
      obtain rfl:=Option.some.inj h
      refine Runs.sW hE ⟨[(4,(aB true))],[],98⟩ [] (kp [4]) [] 98 [] trivial ?_
      exact Runs.sT Try.f28 [] [] trivial
theorem g_b_SameInt_ok (N:Nat) (a:TInt) (b:TInt) (r:Bool) (h:g_b_SameInt N a b = some r):Sound Try.prog 28 [(.agg (TInt.cells a)),(.agg (TInt.cells b))] [] 0 (aB r) []:=by
  unfold g_b_SameInt at h
  refine Sound.of_runs (fu:=Try.f28) (c:=C_51 1) (nt:=38) (by kernel_rfl) (by kernel_rfl) (by kernel_rfl) (by kernel_rfl) (fun hm=>rfl) ?_
  intro E hE
  refine Runs.sA 1 [.code (C_51 2),.code (C_51 3)] ?_
  refine Runs.sR hE ⟨[(2,(.op 0 0 0)),(3,(.op 16 0 0))],[(0,vO 2 (TInt.cells a)),(16,vO 2 (TInt.cells b))],48⟩ (C_51 2) [] [] (kp [2,3]) (kq [0,16]) 48 [] trivial ?_
  refine Runs.sA 2 [.code (C_51 12),.code (C_51 13),.code (C_51 7)] ?_
  refine Runs.sR hE ⟨[(2,(.op 0 0 0)),(3,(.op 16 0 0)),(19,(aB (cond (!(a.f_Neg == b.f_Neg)) true (((a.f_Limbs.length:Nat):Int) != ((b.f_Limbs.length:Nat):Int)))))],[(0,vO 2 (TInt.cells a)),(16,vO 2 (TInt.cells b))],272⟩ (C_51 12) [] [] (kp [2,3,19]) (kq [0,16]) 272 [0 < 1,0 < 1,(!(!(a.f_Neg == b.f_Neg))) = true→AllP [(!(!(a.f_Neg == b.f_Neg))) = true,0 < 1],(!(!(a.f_Neg == b.f_Neg))) = true→AllP [(!(!(a.f_Neg == b.f_Neg))) = true],(!(!(a.f_Neg == b.f_Neg))) = true→AllP [(!(!(a.f_Neg == b.f_Neg))) = true,0 < 1],(!(!(a.f_Neg == b.f_Neg))) = true→AllP [(!(!(a.f_Neg == b.f_Neg))) = true],(!(!(a.f_Neg == b.f_Neg))) = true→AllP [(!(!(a.f_Neg == b.f_Neg))) = true,(!(!(a.f_Neg == b.f_Neg))) = true],(!(!(a.f_Neg == b.f_Neg))) = true→AllP [(!(!(a.f_Neg == b.f_Neg))) = true]] ⟨o1,o1,(fun hg=>⟨hg,o1,trivial⟩),(fun hg=>⟨hg,trivial⟩),(fun hg=>⟨hg,o1,trivial⟩),(fun hg=>⟨hg,trivial⟩),(fun hg=>⟨hg,hg,trivial⟩),(fun hq=>⟨hq,trivial⟩),trivial⟩ ?_
  refine Runs.sC 19 (C_51 26) (C_51 27) (cond (!(a.f_Neg == b.f_Neg)) true (((a.f_Limbs.length:Nat):Int) != ((b.f_Limbs.length:Nat):Int))) (fun hq2=>?_) (fun hq2=>?_)
  · have h:=condT h hq2
    refine Runs.sA 1 [.code (C_51 52),.code (C_51 53),.code (C_51 7)] ?_
    refine Runs.sR hE ⟨[(4,(aB false))],[],288⟩ (C_51 52) [] [] (kp [4]) [] 288 [] trivial ?_
    obtain rfl:=Option.some.inj h
    refine Runs.sW hE ⟨[(4,(aB false))],[],288⟩ [] (kp [4]) [] 288 [] trivial ?_
    exact Runs.sT Try.f28 [] [] trivial
  · have h:=condF h hq2
    refine Runs.sA 3 [.code (C_51 28),.code (C_51 29),.code (C_51 15)] ?_
    refine Runs.sR hE ⟨[(2,(.op 0 0 0)),(3,(.op 16 0 0)),(5,(aI 0))],[(0,vO 2 (TInt.cells a)),(16,vO 2 (TInt.cells b))],288⟩ (C_51 28) [] [] (kp [2,3,5]) (kq [0,16]) 288 [] trivial ?_
    refine Runs.sA 2 [.code (C_51 116),.inLoop (C_51 116),.inBlock 0,.code (C_51 15)] ?_
    exact Runs.sW hE _ [] (kp [2,3,5]) (kq [0] ++ [(1,.keep 16)]) 2 [] trivial (g_b_SameInt_L1_ok N a b N 0 _ h E hE)
noncomputable def C_50 (n:Nat):Code:=cat (bodyOf Try.f11) (pth n)
theorem g_b_SameRat_ok (N:Nat) (a:TRat) (b:TRat) (r:Bool) (h:g_b_SameRat N a b = some r):Sound Try.prog 11 [(.agg (TRat.cells a)),(.agg (TRat.cells b))] [] 0 (aB r) []:=by
  unfold g_b_SameRat at h
  refine Sound.of_runs (fu:=Try.f11) (c:=C_50 1) (nt:=17) (by kernel_rfl) (by kernel_rfl) (by kernel_rfl) (by kernel_rfl) (fun hm=>rfl) ?_
  intro E hE
  refine Runs.sA 1 [.code (C_50 2),.code (C_50 3)] ?_
  refine Runs.sR hE ⟨[(2,(.op 0 0 0)),(3,(.op 16 0 0))],[(0,vO 4 (TRat.cells a)),(16,vO 4 (TRat.cells b))],48⟩ (C_50 2) [] [] (kp [2,3]) (kq [0,16]) 48 [] trivial ?_
  refine Runs.sA 1 [.code (C_50 6),.code (C_50 7)] ?_
  obtain ⟨rSameInt,hr,h⟩:=bindSome h
  obtain ⟨rSameInt2,hr2,h⟩:=bindSome h
  refine Runs.sR hE ⟨[(4,(aB (cond rSameInt rSameInt2 false)))],[],256⟩ (C_50 6) [(4,⟨[],true,(aB rSameInt),[],0,false,none⟩),(10,⟨[],true,(aB rSameInt2),[],0,false,none⟩)] [] (kp [4]) [] 256 [0 < 1,0 < 1,Sound Try.prog 28 [(.agg (TInt.cells a.f_Num)),(.agg (TInt.cells b.f_Num))] [] 0 (aB rSameInt) [],rSameInt = true→AllP [rSameInt = true,0 < 1],rSameInt = true→AllP [rSameInt = true,0 < 1],rSameInt = true→AllP [Sound Try.prog 28 [(.agg (TInt.cells a.f_Den)),(.agg (TInt.cells b.f_Den))] [] 0 (aB rSameInt2) [],rSameInt = true,rSameInt = true],rSameInt = true→AllP [rSameInt = true]] ⟨o1,o1,(g_b_SameInt_ok N a.f_Num b.f_Num rSameInt hr),(fun hg=>⟨hg,o1,trivial⟩),(fun hg=>⟨hg,o1,trivial⟩),(fun hg=>⟨(g_b_SameInt_ok N a.f_Den b.f_Den rSameInt2 (condT hr2 hg)),hg,hg,trivial⟩),(fun hq=>⟨hq,trivial⟩),trivial⟩ ?_
  obtain rfl:=Option.some.inj h
  refine Runs.sW hE ⟨[(4,(aB (cond rSameInt rSameInt2 false)))],[],256⟩ [] (kp [4]) [] 256 [] trivial ?_
  exact Runs.sT Try.f11 [] [] trivial
noncomputable def C_1 (n:Nat):Code:=cat (bodyOf Try.f4) (pth n)
theorem g_w05_afloat_ok (N:Nat) (r:Bool) (h:g_w05_afloat N = some r):Sound Try.prog 4 [] [] 0 (aB r) []:=by
  unfold g_w05_afloat at h
  refine Sound.of_runs (fu:=Try.f4) (c:=C_1 1) (nt:=26) (by kernel_rfl) (by kernel_rfl) (by kernel_rfl) (by kernel_rfl) (fun hm=>rfl) ?_
  intro E hE
  refine Runs.sA 1 [.code (C_1 2),.code (C_1 3)] ?_
  refine Runs.sR hE ⟨[],[],16⟩ (C_1 2) [] [] [] [] 16 [] trivial ?_
  refine Runs.sA 1 [.code (C_1 6),.code (C_1 7)] ?_
  refine Runs.sR hE ⟨[(1,(.op 64 0 0))],[(32,aO 3 TPointMass.cells TPointMass.d ([(⟨0,0,2000000⟩:TPointMass)]:List TPointMass)),(64,vN 5 [(aI 100000),(aI 20000),(aI 1000),(.os 32 0 (([(⟨0,0,2000000⟩:TPointMass)]:List TPointMass).length)),.nil])],96⟩ (C_1 6) [] [] (kp [1]) [(32,.arr 32 (([(⟨0,0,2000000⟩:TPointMass)]:List TPointMass).length) (fun zi=>TPointMass.cells (([(⟨0,0,2000000⟩:TPointMass)]:List TPointMass).getD zi TPointMass.d))),(64,.var 64 [.keep,.keep,.keep,.osl (([(⟨0,0,2000000⟩:TPointMass)]:List TPointMass).length),.keep])] 96 [0 < 1,1 = ([(⟨0,0,2000000⟩:TPointMass)]:List TPointMass).length,∀ zi,zi < ([(⟨0,0,2000000⟩:TPointMass)]:List TPointMass).length→(fun zi=>TPointMass.cells (([(⟨0,0,2000000⟩:TPointMass)]:List TPointMass).getD zi TPointMass.d)) zi = (fun zi=>([[(aI 0),(aI 0),(aI 2000000)]]:List (List AV)).getD zi []) zi,1 = ([(⟨0,0,2000000⟩:TPointMass)]:List TPointMass).length] ⟨o1,rfl,(fun zq hzq=>get_chunk TPointMass.cells TPointMass.d ([(⟨0,0,2000000⟩:TPointMass)]:List TPointMass) zq hzq),rfl,trivial⟩ ?_
  refine Runs.sA 1 [.code (C_1 14),.code (C_1 15)] ?_
  obtain ⟨rFloat,hr,h⟩:=bindSome h
  refine Runs.sR hE ⟨[(2,(.op 176 0 0)),(3,(aI rFloat.2))],[(176,vO 16 (TPose.cells rFloat.1))],224⟩ (C_1 14) [(1,⟨[],true,(.tup [(.agg (TPose.cells rFloat.1)),(aI rFloat.2)]),[],0,true,none⟩)] [] (kp [2,3]) (kq [176]) 224 [0 < 1,Sound Try.prog 7 [(.agg [(aI 100000),(aI 20000),(aI 1000),(encL TPointMass.cells TPointMass.d ([(⟨0,0,2000000⟩:TPointMass)]:List TPointMass)),.nil]),.nil] [] 0 (.tup [(.agg (TPose.cells rFloat.1)),(aI rFloat.2)]) [],0+([(⟨0,0,2000000⟩:TPointMass)]:List TPointMass).length≤([(⟨0,0,2000000⟩:TPointMass)]:List TPointMass).length,0 < 1] ⟨o1,(Sound.conv (g_water_Float_ok N (⟨100000,20000,1000,([(⟨0,0,2000000⟩:TPointMass)]:List TPointMass),([]:List TTank)⟩:TPontoon) ([]:List Int) rFloat hr) (.cons (Alike.agg (.cons (Alike.refl _) (.cons (Alike.refl _) (.cons (Alike.refl _) (.cons (Alike.refl _) (.cons Alike.nil .nil)))))) (.cons Alike.nil .nil))),z0,o1,trivial⟩ ?_
  refine Runs.sA 1 [.code (C_1 30),.code (C_1 31)] ?_
  obtain ⟨rW,hr2,h⟩:=bindSome h
  obtain ⟨rSameRat,hr3,h⟩:=bindSome h
  obtain ⟨rW2,hr4,h⟩:=bindSome h
  obtain ⟨rSameRat2,hr5,h⟩:=bindSome h
  refine Runs.sR hE ⟨[(0,(aB (cond (cond (rFloat.2 == 0) rSameRat false) rSameRat2 false)))],[],464⟩ (C_1 30) [(5,⟨[],true,(.agg (TRat.cells rW)),[],0,false,none⟩),(6,⟨[],true,(aB rSameRat),[],0,false,none⟩),(11,⟨[],true,(.agg (TRat.cells rW2)),[],0,false,none⟩),(12,⟨[],true,(aB rSameRat2),[],0,false,none⟩)] [] (kp [0]) [] 464 [(rFloat.2 == 0) = true→AllP [(rFloat.2 == 0) = true,0 < 1],(rFloat.2 == 0) = true→AllP [Sound Try.prog 12 [(aI 1000)] [] 0 (.agg (TRat.cells rW)) []],(rFloat.2 == 0) = true→AllP [Sound Try.prog 11 [(.agg (TRat.cells rFloat.1.f_Draught)),(.agg (TRat.cells rW))] [] 0 (aB rSameRat) [],(rFloat.2 == 0) = true,(rFloat.2 == 0) = true],(rFloat.2 == 0) = true→AllP [(rFloat.2 == 0) = true],(cond (rFloat.2 == 0) rSameRat false) = true→AllP [(cond (rFloat.2 == 0) rSameRat false) = true,0 < 1],(cond (rFloat.2 == 0) rSameRat false) = true→AllP [Sound Try.prog 12 [(aI (-25000000000))] [] 0 (.agg (TRat.cells rW2)) []],(cond (rFloat.2 == 0) rSameRat false) = true→AllP [Sound Try.prog 11 [(.agg (TRat.cells rFloat.1.f_Hog)),(.agg (TRat.cells rW2))] [] 0 (aB rSameRat2) [],(cond (rFloat.2 == 0) rSameRat false) = true,(cond (rFloat.2 == 0) rSameRat false) = true],(cond (rFloat.2 == 0) rSameRat false) = true→AllP [(cond (rFloat.2 == 0) rSameRat false) = true]] ⟨(fun hg=>⟨hg,o1,trivial⟩),(fun hg=>⟨(g_b_W_ok N 1000 rW (condT hr2 hg)),trivial⟩),(fun hg=>⟨(g_b_SameRat_ok N rFloat.1.f_Draught rW rSameRat (condT hr3 hg)),hg,hg,trivial⟩),(fun hq=>⟨hq,trivial⟩),(fun hg=>⟨hg,o1,trivial⟩),(fun hg=>⟨(g_b_W_ok N (-25000000000) rW2 (condT hr4 hg)),trivial⟩),(fun hg=>⟨(g_b_SameRat_ok N rFloat.1.f_Hog rW2 rSameRat2 (condT hr5 hg)),hg,hg,trivial⟩),(fun hq=>⟨hq,trivial⟩),trivial⟩ ?_
  obtain rfl:=Option.some.inj h
  refine Runs.sW hE ⟨[(0,(aB (cond (cond (rFloat.2 == 0) rSameRat false) rSameRat2 false)))],[],464⟩ [] (kp [0]) [] 464 [] trivial ?_
  exact Runs.sT Try.f4 [] [] trivial
noncomputable def C_52 (n:Nat):Code:=cat (bodyOf Try.f5) (pth n)
theorem g_w05_fewMasses_L1_ok (N:Nat) (p:TPontoon) (fuel:Nat):∀ (i:Int) (r:Bool),g_w05_fewMasses_L1 N p fuel i = some r→∀ E,EnvOk E 0→Runs Try.prog E 5 29 (SPost E [] (aB r)) [.code (C_52 116),.inLoop (C_52 116),.inBlock 0,.code (C_52 15)] ⟨[(1,(.op 0 0 0)),(3,(aI i))],[(0,vO 5 (TPontoon.cells p))],1⟩:=by
  induction fuel with
  | zero=>intro _ r h; rw [g_w05_fewMasses_L1.eq_1] at h; cases h
  | succ fuel ih =>
    intro i r h E hE
    rw [g_w05_fewMasses_L1.eq_2] at h
    refine Runs.sA 2 [.code (C_52 464),.code (C_52 465),.code (C_52 233),.inLoop (C_52 116),.inBlock 0,.code (C_52 15)] ?_
    refine Runs.sR hE ⟨[(1,(.op 0 0 0)),(3,(aI i)),(18,(aB (decide (i < ((p.f_Tanks.length:Nat):Int)))))],[(0,vO 5 (TPontoon.cells p))],81⟩ (C_52 464) [] [] (kp [1,3,18]) (kq [0]) 81 [0 < 1] ⟨o1,trivial⟩ ?_
    refine Runs.sC 18 (C_52 930) (C_52 931) (decide (i < ((p.f_Tanks.length:Nat):Int))) (fun hq3=>?_) (fun hq3=>?_)
    · have h:=condT h hq3
      refine Runs.sA 4 [.code (C_52 1864),.code (C_52 1865),.inBlock 1,.code (C_52 467),.inLoop (C_52 116),.inBlock 0,.code (C_52 15)] ?_
      obtain ⟨c,h⟩:=ifSome h
      refine Runs.sR hE ⟨[(1,(.op 0 0 0)),(3,(aI i)),(28,(aB (decide (((((p.f_Tanks.getD ((i).toNat) TTank.d).f_Name).size:Nat):Int) > 40))))],[(0,vO 5 (TPontoon.cells p))],209⟩ (C_52 1864) [] [] (kp [1,3,28]) (kq [0]) 209 [0 < 1,0≤i∧i < ((p.f_Tanks.length:Nat):Int)] ⟨o1,c,trivial⟩ ?_
      refine Runs.sC 28 (C_52 3730) (C_52 3731) (decide (((((p.f_Tanks.getD ((i).toNat) TTank.d).f_Name).size:Nat):Int) > 40)) (fun hq4=>?_) (fun hq4=>?_)
      · have h:=condT h hq4
        refine Runs.sA 1 [.code (C_52 7460),.code (C_52 7461),.inBlock 1,.code (C_52 467),.inLoop (C_52 116),.inBlock 0,.code (C_52 15)] ?_
        refine Runs.sR hE ⟨[(2,(aB false))],[],225⟩ (C_52 7460) [] [] (kp [2]) [] 225 [] trivial ?_
        obtain rfl:=Option.some.inj h
        refine Runs.sW hE ⟨[(2,(aB false))],[],225⟩ [] (kp [2]) [] 225 [] trivial ?_
        exact Runs.sT Try.f5 [] [] trivial
      · have h:=condF h hq4
        refine Runs.sA 2 [.code (C_52 467),.inLoop (C_52 116),.inBlock 0,.code (C_52 15)] ?_
        refine Runs.sR hE ⟨[(1,(.op 0 0 0)),(3,(aI (w64 (i+1))))],[(0,vO 5 (TPontoon.cells p))],257⟩ (C_52 467) [] [] (kp [1,3]) (kq [0]) 257 [] trivial ?_
        refine Runs.sA 1 [.code (C_52 116),.inLoop (C_52 116),.inBlock 0,.code (C_52 15)] ?_
        exact Runs.sW hE _ [] (kp [1,3]) (kq [0]) 1 [] trivial (ih (w64 (i+1)) _ h E hE)
    · have h:=condF h hq3
      refine Runs.sA 2 [.code (C_52 30),.code (C_52 31)] ?_
      refine Runs.sR hE ⟨[(2,(aB true))],[],97⟩ (C_52 30) [] [] (kp [2]) [] 97 [] trivial ?_
      obtain rfl:=Option.some.inj h
      refine Runs.sW hE ⟨[(2,(aB true))],[],97⟩ [] (kp [2]) [] 97 [] trivial ?_
      exact Runs.sT Try.f5 [] [] trivial
theorem g_w05_fewMasses_ok (N:Nat) (p:TPontoon) (r:Bool) (h:g_w05_fewMasses N p = some r):Sound Try.prog 5 [(.agg (TPontoon.cells p))] [] 0 (aB r) []:=by
  unfold g_w05_fewMasses at h
  refine Sound.of_runs (fu:=Try.f5) (c:=C_52 1) (nt:=29) (by kernel_rfl) (by kernel_rfl) (by kernel_rfl) (by kernel_rfl) (fun hm=>rfl) ?_
  intro E hE
  refine Runs.sA 1 [.code (C_52 2),.code (C_52 3)] ?_
  refine Runs.sR hE ⟨[(1,(.op 0 0 0))],[(0,vO 5 (TPontoon.cells p))],32⟩ (C_52 2) [] [] (kp [1]) (kq [0]) 32 [] trivial ?_
  refine Runs.sA 2 [.code (C_52 12),.code (C_52 13),.code (C_52 7)] ?_
  refine Runs.sR hE ⟨[(1,(.op 0 0 0)),(13,(aB (cond (decide (((p.f_Masses.length:Nat):Int) > 25)) true (decide (((p.f_Tanks.length:Nat):Int) > 10)))))],[(0,vO 5 (TPontoon.cells p))],192⟩ (C_52 12) [] [] (kp [1,13]) (kq [0]) 192 [0 < 1,(!(decide (((p.f_Masses.length:Nat):Int) > 25))) = true→AllP [(!(decide (((p.f_Masses.length:Nat):Int) > 25))) = true,0 < 1],(!(decide (((p.f_Masses.length:Nat):Int) > 25))) = true→AllP [(!(decide (((p.f_Masses.length:Nat):Int) > 25))) = true],(!(decide (((p.f_Masses.length:Nat):Int) > 25))) = true→AllP [(!(decide (((p.f_Masses.length:Nat):Int) > 25))) = true],(!(decide (((p.f_Masses.length:Nat):Int) > 25))) = true→AllP [(!(decide (((p.f_Masses.length:Nat):Int) > 25))) = true]] ⟨o1,(fun hg=>⟨hg,o1,trivial⟩),(fun hg=>⟨hg,trivial⟩),(fun hg=>⟨hg,trivial⟩),(fun hq=>⟨hq,trivial⟩),trivial⟩ ?_
  refine Runs.sC 13 (C_52 26) (C_52 27) (cond (decide (((p.f_Masses.length:Nat):Int) > 25)) true (decide (((p.f_Tanks.length:Nat):Int) > 10))) (fun hq2=>?_) (fun hq2=>?_)
  · have h:=condT h hq2
    refine Runs.sA 1 [.code (C_52 52),.code (C_52 53),.code (C_52 7)] ?_
    refine Runs.sR hE ⟨[(2,(aB false))],[],208⟩ (C_52 52) [] [] (kp [2]) [] 208 [] trivial ?_
    obtain rfl:=Option.some.inj h
    refine Runs.sW hE ⟨[(2,(aB false))],[],208⟩ [] (kp [2]) [] 208 [] trivial ?_
    exact Runs.sT Try.f5 [] [] trivial
  · have h:=condF h hq2
    refine Runs.sA 3 [.code (C_52 28),.code (C_52 29),.code (C_52 15)] ?_
    refine Runs.sR hE ⟨[(1,(.op 0 0 0)),(3,(aI 0))],[(0,vO 5 (TPontoon.cells p))],208⟩ (C_52 28) [] [] (kp [1,3]) (kq [0]) 208 [] trivial ?_
    refine Runs.sA 2 [.code (C_52 116),.inLoop (C_52 116),.inBlock 0,.code (C_52 15)] ?_
    exact Runs.sW hE _ [] (kp [1,3]) (kq [0]) 1 [] trivial (g_w05_fewMasses_L1_ok N p N 0 _ h E hE)
noncomputable def C_57 (n:Nat):Code:=cat (bodyOf Try.f58) (pth n)
theorem g_r01_trim_L1_ok (N:Nat) (a:List Int) (fuel:Nat):∀ (n:Int) (r:(List Int)),g_r01_trim_L1 N a fuel n = some r→∀ E,EnvOk E 0→Runs Try.prog E 58 23 (SPost E [] (encL cI 0 r)) [.code (C_57 56),.inLoop (C_57 56),.inBlock 0,.code (C_57 15)] ⟨[(0,(encL cI 0 a)),(3,(aI n))],[],0⟩:=by
  induction fuel with
  | zero=>intro _ r h; rw [g_r01_trim_L1.eq_1] at h; cases h
  | succ fuel ih =>
    intro n r h E hE
    rw [g_r01_trim_L1.eq_2] at h
    refine Runs.sA 2 [.code (C_57 224),.code (C_57 225),.code (C_57 113),.inLoop (C_57 56),.inBlock 0,.code (C_57 15)] ?_
    obtain ⟨c,h⟩:=ifSome h
    refine Runs.sR hE ⟨[(0,(encL cI 0 a)),(3,(aI n)),(15,(aB (cond (decide (n > 0)) ((a.getD ((w64 (n - 1)).toNat) 0) == 0) false)))],[],160⟩ (C_57 224) [] [] (kp [0,3,15]) [] 160 [(decide (n > 0)) = true→AllP [(decide (n > 0)) = true],(decide (n > 0)) = true→AllP [(decide (n > 0)) = true,(decide (n > 0)) = true,0≤(w64 (n - 1))∧(w64 (n - 1)) < ((a.length:Nat):Int)],(decide (n > 0)) = true→AllP [(decide (n > 0)) = true],(decide (n > 0)) = true→AllP [(decide (n > 0)) = true],(decide (n > 0)) = true→AllP [(decide (n > 0)) = true]] ⟨(fun hg=>⟨hg,trivial⟩),(fun hg=>⟨hg,hg,(c hg),trivial⟩),(fun hg=>⟨hg,trivial⟩),(fun hg=>⟨hg,trivial⟩),(fun hq=>⟨hq,trivial⟩),trivial⟩ ?_
    refine Runs.sC 15 (C_57 450) (C_57 451) (cond (decide (n > 0)) ((a.getD ((w64 (n - 1)).toNat) 0) == 0) false) (fun hq2=>?_) (fun hq2=>?_)
    · have h:=condT h hq2
      refine Runs.sA 2 [.code (C_57 226),.inBlock 1,.inLoop (C_57 56),.inBlock 0,.code (C_57 15)] ?_
      refine Runs.sR hE ⟨[(0,(encL cI 0 a)),(3,(aI (w64 (n - 1))))],[],208⟩ (C_57 226) [] [] (kp [0,3]) [] 208 [] trivial ?_
      refine Runs.sA 2 [.code (C_57 56),.inLoop (C_57 56),.inBlock 0,.code (C_57 15)] ?_
      exact Runs.sW hE _ [] (kp [0,3]) [] 0 [] trivial (ih (w64 (n - 1)) _ h E hE)
    · have h:=condF h hq2
      refine Runs.sA 2 [.code (C_57 30),.code (C_57 31)] ?_
      obtain ⟨c2,h⟩:=ifSome h
      obtain ⟨c3,h⟩:=ifSome h
      obtain ⟨c4,h⟩:=ifSome h
      refine Runs.sR hE ⟨[(2,(.os 224 0 ((([]:List Int) ++ ((a.take ((n).toNat)).drop 0)).length)))],[(224,aO 1 cI 0 (([]:List Int) ++ ((a.take ((n).toNat)).drop 0)))],256⟩ (C_57 30) [] [] [(2,.osl ((([]:List Int) ++ ((a.take ((n).toNat)).drop 0)).length))] [(224,.arr 224 ((([]:List Int) ++ ((a.take ((n).toNat)).drop 0)).length) (fun zi=>cI ((([]:List Int) ++ ((a.take ((n).toNat)).drop 0)).getD zi 0)))] 256 [0≤(n).toNat∧(n).toNat≤a.length,0≤n,0 = 0,(0+(n).toNat - 0) * 8≤140737488355328,∀ zi,zi < (n).toNat - 0→AV.oneL ((fun zi=>cI (a.getD (addz 0 zi) 0)) zi) = true,(0+(n).toNat - 0) = (([]:List Int) ++ ((a.take ((n).toNat)).drop 0)).length,0+(n).toNat - 0 = (([]:List Int) ++ ((a.take ((n).toNat)).drop 0)).length,∀ zi,zi < (([]:List Int) ++ ((a.take ((n).toNat)).drop 0)).length→(fun zi=>cI ((([]:List Int) ++ ((a.take ((n).toNat)).drop 0)).getD zi 0)) zi = ((fun zm=>if zm < 0 then (fun _=>[]) zm else (fun zi=>cI (a.getD (addz 0 zi) 0)) (zm - 0))) zi] ⟨c2,c3,rfl,c4,(fun _ _=>rfl),(len_app_raw rfl (len_ext' a 0 ((n).toNat) c2)),(len_app_raw rfl (len_ext' a 0 ((n).toNat) c2)),(get_app_raw cI 0 ([]:List Int) ((a.take ((n).toNat)).drop 0) rfl (fun zq hzq=>absurd hzq (Nat.not_lt_zero _)) (fun zq hzq=>get_ext cI 0 a 0 ((n).toNat) zq hzq)),trivial⟩ ?_
      obtain rfl:=Option.some.inj h
      refine Runs.sW hE ⟨[(2,(encL cI 0 (([]:List Int) ++ ((a.take ((n).toNat)).drop 0))))],[],256⟩ [224] [(2,.sl ((([]:List Int) ++ ((a.take ((n).toNat)).drop 0)).length) (fun zi=>cI ((([]:List Int) ++ ((a.take ((n).toNat)).drop 0)).getD zi 0)))] [] 256 [(([]:List Int) ++ ((a.take ((n).toNat)).drop 0)).length = (([]:List Int) ++ ((a.take ((n).toNat)).drop 0)).length,0+(([]:List Int) ++ ((a.take ((n).toNat)).drop 0)).length≤(([]:List Int) ++ ((a.take ((n).toNat)).drop 0)).length,∀ zi,zi < (([]:List Int) ++ ((a.take ((n).toNat)).drop 0)).length→(fun zi=>cI ((([]:List Int) ++ ((a.take ((n).toNat)).drop 0)).getD zi 0)) zi = (fun zi=>cI ((([]:List Int) ++ ((a.take ((n).toNat)).drop 0)).getD zi 0)) (addz 0 zi)] ⟨rfl,z0,(fun _ _=>rfl),trivial⟩ ?_
      exact Runs.sT Try.f58 [] [] trivial
theorem g_r01_trim_ok (N:Nat) (a:List Int) (r:(List Int)) (h:g_r01_trim N a = some r):Sound Try.prog 58 [(encL cI 0 a)] [] 0 (encL cI 0 r) []:=by
  unfold g_r01_trim at h
  refine Sound.of_runs (fu:=Try.f58) (c:=C_57 1) (nt:=23) (by kernel_rfl) (by kernel_rfl) (by kernel_rfl) (by kernel_rfl) (fun hm=>rfl) ?_
  intro E hE
  refine Runs.sA 1 [.code (C_57 2),.code (C_57 3)] ?_
  refine Runs.sR hE ⟨[(0,(encL cI 0 a))],[],16⟩ (C_57 2) [] [] (kp [0]) [] 16 [] trivial ?_
  refine Runs.sA 1 [.code (C_57 6),.code (C_57 7)] ?_
  refine Runs.sR hE ⟨[(0,(encL cI 0 a)),(3,(aI ((a.length:Nat):Int)))],[],64⟩ (C_57 6) [] [] (kp [0,3]) [] 64 [] trivial ?_
  refine Runs.sA 3 [.code (C_57 56),.inLoop (C_57 56),.inBlock 0,.code (C_57 15)] ?_
  exact Runs.sW hE _ [] (kp [0,3]) [] 0 [] trivial (g_r01_trim_L1_ok N a N ((a.length:Nat):Int) _ h E hE)
noncomputable def C_56 (n:Nat):Code:=cat (bodyOf Try.f38) (pth n)
theorem g_r01_read_L1_ok (N:Nat) (l:List Int) (fuel:Nat):∀ (a:List Int) (i:Int) (r:(List Int)),g_r01_read_L1 N l fuel a i = some r→∀ E,EnvOk E 0→Runs Try.prog E 38 21 (SPost E [] (encL cI 0 r)) [.code (C_56 116),.inLoop (C_56 116),.inBlock 0,.code (C_56 15)] ⟨[(0,(encL (cU .u16) 0 l)),(3,(.os 0 0 a.length)),(4,(aI i))],[(0,aO 1 cI 0 a)],1⟩:=by
  induction fuel with
  | zero=>intro _ _ r h; rw [g_r01_read_L1.eq_1] at h; cases h
  | succ fuel ih =>
    intro a i r h E hE
    rw [g_r01_read_L1.eq_2] at h
    refine Runs.sA 2 [.code (C_56 464),.code (C_56 465),.code (C_56 233),.inLoop (C_56 116),.inBlock 0,.code (C_56 15)] ?_
    refine Runs.sR hE ⟨[(0,(encL (cU .u16) 0 l)),(3,(.os 0 0 a.length)),(4,(aI i)),(8,(aB (decide (i < ((l.length:Nat):Int)))))],[(0,aO 1 cI 0 a)],65⟩ (C_56 464) [] [] (kp [0,3,4,8]) (kq [0]) 65 [] trivial ?_
    refine Runs.sC 8 (C_56 930) (C_56 931) (decide (i < ((l.length:Nat):Int))) (fun hq2=>?_) (fun hq2=>?_)
    · have h:=condT h hq2
      refine Runs.sA 3 [.code (C_56 932),.inBlock 1,.code (C_56 467),.inLoop (C_56 116),.inBlock 0,.code (C_56 15)] ?_
      obtain ⟨c,h⟩:=ifSome h
      obtain ⟨c2,h⟩:=ifSome h
      refine Runs.sR hE ⟨[(0,(encL (cU .u16) 0 l)),(3,(.os 177 0 ((a ++ ([(w64 ((l.getD ((i).toNat) 0)))]:List Int)).length))),(4,(aI i))],[(177,aO 1 cI 0 (a ++ ([(w64 ((l.getD ((i).toNat) 0)))]:List Int)))],209⟩ (C_56 932) [] [] (kp [0] ++ [(3,.osl ((a ++ ([(w64 ((l.getD ((i).toNat) 0)))]:List Int)).length))] ++ kp [4]) [(177,.arr 177 ((a ++ ([(w64 ((l.getD ((i).toNat) 0)))]:List Int)).length) (fun zi=>cI ((a ++ ([(w64 ((l.getD ((i).toNat) 0)))]:List Int)).getD zi 0)))] 209 [0≤i∧i < ((l.length:Nat):Int),a.length = a.length,(a.length+1) * 8≤140737488355328,0+1≤1,∀ zi,zi < 1→AV.oneL ((fun zi=>([[(aI (w64 ((l.getD ((i).toNat) 0))))]]:List (List AV)).getD zi []) (addz 0 zi)) = true,(a.length+1) = (a ++ ([(w64 ((l.getD ((i).toNat) 0)))]:List Int)).length,a.length+1 = (a ++ ([(w64 ((l.getD ((i).toNat) 0)))]:List Int)).length,∀ zi,zi < (a ++ ([(w64 ((l.getD ((i).toNat) 0)))]:List Int)).length→(fun zi=>cI ((a ++ ([(w64 ((l.getD ((i).toNat) 0)))]:List Int)).getD zi 0)) zi = ((fun zm=>if zm < a.length then (fun zi=>cI (a.getD zi 0)) zm else (fun zi=>([[(aI (w64 ((l.getD ((i).toNat) 0))))]]:List (List AV)).getD zi []) (zm - a.length))) zi] ⟨c,rfl,c2,z0,(oneN rfl),(len_app_raw rfl rfl),(len_app_raw rfl rfl),(get_app_raw cI 0 a ([(w64 ((l.getD ((i).toNat) 0)))]:List Int) rfl (fun _ _=>rfl) (fun zq hzq=>get_chunk cI 0 ([(w64 ((l.getD ((i).toNat) 0)))]:List Int) zq hzq)),trivial⟩ ?_
      refine Runs.sA 1 [.code (C_56 467),.inLoop (C_56 116),.inBlock 0,.code (C_56 15)] ?_
      refine Runs.sR hE ⟨[(0,(encL (cU .u16) 0 l)),(3,(.os 177 0 ((a ++ ([(w64 ((l.getD ((i).toNat) 0)))]:List Int)).length))),(4,(aI (w64 (i+1))))],[(177,aO 1 cI 0 (a ++ ([(w64 ((l.getD ((i).toNat) 0)))]:List Int)))],257⟩ (C_56 467) [] [] (kp [0,3,4]) (kq [177]) 257 [] trivial ?_
      refine Runs.sA 1 [.code (C_56 116),.inLoop (C_56 116),.inBlock 0,.code (C_56 15)] ?_
      exact Runs.sW hE _ [] (kp [0,3,4]) [(0,.keep 177)] 1 [] trivial (ih (a ++ ([(w64 ((l.getD ((i).toNat) 0)))]:List Int)) (w64 (i+1)) _ h E hE)
    · have h:=condF h hq2
      refine Runs.sA 2 [.code (C_56 30),.code (C_56 31)] ?_
      obtain ⟨rtrim,hr,h⟩:=bindSome h
      refine Runs.sR hE ⟨[(2,(encL cI 0 rtrim))],[],113⟩ (C_56 30) [(1,⟨[],true,(encL cI 0 rtrim),[],0,true,none⟩)] [] (kp [2]) [] 113 [Sound Try.prog 58 [(encL cI 0 a)] [] 0 (encL cI 0 rtrim) [],0+a.length≤a.length] ⟨(g_r01_trim_ok N a rtrim hr),z0,trivial⟩ ?_
      obtain rfl:=Option.some.inj h
      refine Runs.sW hE ⟨[(2,(encL cI 0 rtrim))],[],113⟩ [] (kp [2]) [] 113 [] trivial ?_
      exact Runs.sT Try.f38 [] [] trivial
theorem g_r01_read_ok (N:Nat) (l:List Int) (r:(List Int)) (h:g_r01_read N l = some r):Sound Try.prog 38 [(encL (cU .u16) 0 l)] [] 0 (encL cI 0 r) []:=by
  unfold g_r01_read at h
  refine Sound.of_runs (fu:=Try.f38) (c:=C_56 1) (nt:=21) (by kernel_rfl) (by kernel_rfl) (by kernel_rfl) (by kernel_rfl) (fun hm=>rfl) ?_
  intro E hE
  refine Runs.sA 1 [.code (C_56 2),.code (C_56 3)] ?_
  refine Runs.sR hE ⟨[(0,(encL (cU .u16) 0 l))],[],16⟩ (C_56 2) [] [] (kp [0]) [] 16 [] trivial ?_
  refine Runs.sA 1 [.code (C_56 6),.code (C_56 7)] ?_
  refine Runs.sR hE ⟨[(0,(encL (cU .u16) 0 l)),(3,.nil)],[],32⟩ (C_56 6) [] [] (kp [0,3]) [] 32 [] trivial ?_
  refine Runs.sA 2 [.code (C_56 28),.code (C_56 29),.code (C_56 15)] ?_
  refine Runs.sR hE ⟨[(0,(encL (cU .u16) 0 l)),(3,.nil),(4,(aI 0))],[],48⟩ (C_56 28) [] [] (kp [0,3,4]) [] 48 [] trivial ?_
  refine Runs.sA 2 [.code (C_56 116),.inLoop (C_56 116),.inBlock 0,.code (C_56 15)] ?_
  exact Runs.sW hE _ [] (kp [0] ++ [(3,.nilos 0)] ++ kp [4]) [(0,.nil 1 (fun zi=>cI (([]:List Int).getD zi 0)))] 1 [] trivial (g_r01_read_L1_ok N l N ([]:List Int) 0 _ h E hE)
noncomputable def C_58 (n:Nat):Code:=cat (bodyOf Try.f39) (pth n)
theorem g_r01_made_L1_ok (N:Nat) (neg:Bool) (a:List Int) (fuel:Nat):∀ (x:List Int) (i:Int) (r:TInt),g_r01_made_L1 N neg a fuel x i = some r→∀ E,EnvOk E 0→Runs Try.prog E 39 31 (SPost E [] (.agg (TInt.cells r))) [.code (C_58 116),.inLoop (C_58 116),.inBlock 0,.code (C_58 15)] ⟨[(1,(encL cI 0 a)),(4,(.op 0 0 0)),(5,(.op 1 0 0)),(6,(aI i))],[(0,vO 2 [(aB false),.nil]),(1,vN 2 [(aB (cond neg (decide (((a.length:Nat):Int) > 0)) false)),(.os 2 0 x.length)]),(2,aO 1 (cU .u16) 0 x)],3⟩:=by
  induction fuel with
  | zero=>intro _ _ r h; rw [g_r01_made_L1.eq_1] at h; cases h
  | succ fuel ih =>
    intro x i r h E hE
    rw [g_r01_made_L1.eq_2] at h
    refine Runs.sA 2 [.code (C_58 464),.code (C_58 465),.code (C_58 233),.inLoop (C_58 116),.inBlock 0,.code (C_58 15)] ?_
    refine Runs.sR hE ⟨[(1,(encL cI 0 a)),(4,(.op 0 0 0)),(5,(.op 1 0 0)),(6,(aI i)),(17,(aB (decide (i < ((a.length:Nat):Int)))))],[(0,vO 2 [(aB false),.nil]),(1,vN 2 [(aB (cond neg (decide (((a.length:Nat):Int) > 0)) false)),(.os 2 0 x.length)]),(2,aO 1 (cU .u16) 0 x)],67⟩ (C_58 464) [] [] (kp [1,4,5,6,17]) (kq [0,1,2]) 67 [] trivial ?_
    refine Runs.sC 17 (C_58 930) (C_58 931) (decide (i < ((a.length:Nat):Int))) (fun hq2=>?_) (fun hq2=>?_)
    · have h:=condT h hq2
      refine Runs.sA 3 [.code (C_58 932),.inBlock 1,.code (C_58 467),.inLoop (C_58 116),.inBlock 0,.code (C_58 15)] ?_
      obtain ⟨c,h⟩:=ifSome h
      obtain ⟨c2,h⟩:=ifSome h
      refine Runs.sR hE ⟨[(1,(encL cI 0 a)),(4,(.op 0 0 0)),(5,(.op 1 0 0)),(6,(aI i))],[(0,vO 2 [(aB false),.nil]),(1,vN 2 [(aB (cond neg (decide (((a.length:Nat):Int) > 0)) false)),(.os 195 0 ((x ++ ([(IntKind.u16.wrap ((a.getD ((i).toNat) 0)))]:List Int)).length))]),(195,aO 1 (cU .u16) 0 (x ++ ([(IntKind.u16.wrap ((a.getD ((i).toNat) 0)))]:List Int)))],243⟩ (C_58 932) [] [] (kp [1,4,5,6]) (kq [0] ++ [(1,.var 1 [.keep,.osl ((x ++ ([(IntKind.u16.wrap ((a.getD ((i).toNat) 0)))]:List Int)).length)]),(195,.arr 195 ((x ++ ([(IntKind.u16.wrap ((a.getD ((i).toNat) 0)))]:List Int)).length) (fun zi=>(cU .u16) ((x ++ ([(IntKind.u16.wrap ((a.getD ((i).toNat) 0)))]:List Int)).getD zi 0)))]) 243 [0 < 1,0≤i∧i < ((a.length:Nat):Int),x.length = x.length,(x.length+1) * 2≤140737488355328,0+1≤1,∀ zi,zi < 1→AV.oneL ((fun zi=>([[(.atom (.int .u16 (IntKind.u16.wrap ((a.getD ((i).toNat) 0)))))]]:List (List AV)).getD zi []) (addz 0 zi)) = true,0 < 1,(x.length+1) = (x ++ ([(IntKind.u16.wrap ((a.getD ((i).toNat) 0)))]:List Int)).length,x.length+1 = (x ++ ([(IntKind.u16.wrap ((a.getD ((i).toNat) 0)))]:List Int)).length,∀ zi,zi < (x ++ ([(IntKind.u16.wrap ((a.getD ((i).toNat) 0)))]:List Int)).length→(fun zi=>(cU .u16) ((x ++ ([(IntKind.u16.wrap ((a.getD ((i).toNat) 0)))]:List Int)).getD zi 0)) zi = ((fun zm=>if zm < x.length then (fun zi=>(cU .u16) (x.getD zi 0)) zm else (fun zi=>([[(.atom (.int .u16 (IntKind.u16.wrap ((a.getD ((i).toNat) 0)))))]]:List (List AV)).getD zi []) (zm - x.length))) zi] ⟨o1,c,rfl,c2,z0,(oneN rfl),o1,(len_app_raw rfl rfl),(len_app_raw rfl rfl),(get_app_raw (cU .u16) 0 x ([(IntKind.u16.wrap ((a.getD ((i).toNat) 0)))]:List Int) rfl (fun _ _=>rfl) (fun zq hzq=>get_chunk (cU .u16) 0 ([(IntKind.u16.wrap ((a.getD ((i).toNat) 0)))]:List Int) zq hzq)),trivial⟩ ?_
      refine Runs.sA 1 [.code (C_58 467),.inLoop (C_58 116),.inBlock 0,.code (C_58 15)] ?_
      refine Runs.sR hE ⟨[(1,(encL cI 0 a)),(4,(.op 0 0 0)),(5,(.op 1 0 0)),(6,(aI (w64 (i+1))))],[(0,vO 2 [(aB false),.nil]),(1,vN 2 [(aB (cond neg (decide (((a.length:Nat):Int) > 0)) false)),(.os 195 0 ((x ++ ([(IntKind.u16.wrap ((a.getD ((i).toNat) 0)))]:List Int)).length))]),(195,aO 1 (cU .u16) 0 (x ++ ([(IntKind.u16.wrap ((a.getD ((i).toNat) 0)))]:List Int)))],291⟩ (C_58 467) [] [] (kp [1,4,5,6]) (kq [0,1,195]) 291 [] trivial ?_
      refine Runs.sA 1 [.code (C_58 116),.inLoop (C_58 116),.inBlock 0,.code (C_58 15)] ?_
      exact Runs.sW hE _ [] (kp [1,4,5,6]) (kq [0,1] ++ [(2,.keep 195)]) 3 [] trivial (ih (x ++ ([(IntKind.u16.wrap ((a.getD ((i).toNat) 0)))]:List Int)) (w64 (i+1)) _ h E hE)
    · have h:=condF h hq2
      refine Runs.sA 2 [.code (C_58 30),.code (C_58 31)] ?_
      refine Runs.sR hE ⟨[(4,(.op 0 0 0))],[(0,vN 2 [(aB (cond neg (decide (((a.length:Nat):Int) > 0)) false)),(.os 2 0 x.length)]),(2,aO 1 (cU .u16) 0 x)],99⟩ (C_58 30) [] [] (kp [4]) (kq [0,2]) 99 [0 < 1,0 < 1] ⟨o1,o1,trivial⟩ ?_
      obtain rfl:=Option.some.inj h
      refine Runs.sW hE ⟨[(4,(.op 16 0 0))],[(16,vO 2 [(aB (cond neg (decide (((a.length:Nat):Int) > 0)) false)),(encL (cU .u16) 0 x)])],99⟩ [2] (kp [4]) [(16,.var 0 [.keep,.sl (x.length) (fun zi=>(cU .u16) (x.getD zi 0))])] 99 [x.length = x.length,0+x.length≤x.length,∀ zi,zi < x.length→(fun zi=>(cU .u16) (x.getD zi 0)) zi = (fun zi=>(cU .u16) (x.getD zi 0)) (addz 0 zi)] ⟨rfl,z0,(fun _ _=>rfl),trivial⟩ ?_
      exact Runs.sT Try.f39 [16] [0 < 1] ⟨o1,trivial⟩
theorem g_r01_made_ok (N:Nat) (neg:Bool) (a:List Int) (r:TInt) (h:g_r01_made N neg a = some r):Sound Try.prog 39 [(aB neg),(encL cI 0 a)] [] 0 (.agg (TInt.cells r)) []:=by
  unfold g_r01_made at h
  refine Sound.of_runs (fu:=Try.f39) (c:=C_58 1) (nt:=31) (by kernel_rfl) (by kernel_rfl) (by kernel_rfl) (by kernel_rfl) (fun hm=>rfl) ?_
  intro E hE
  refine Runs.sA 1 [.code (C_58 2),.code (C_58 3)] ?_
  refine Runs.sR hE ⟨[(0,(aB neg)),(1,(encL cI 0 a)),(4,(.op 0 0 0))],[(0,vO 2 [(aB false),.nil])],16⟩ (C_58 2) [] [] (kp [0,1,4]) (kq [0]) 16 [] trivial ?_
  refine Runs.sA 1 [.code (C_58 6),.code (C_58 7)] ?_
  refine Runs.sR hE ⟨[(1,(encL cI 0 a)),(4,(.op 0 0 0)),(5,(.op 128 0 0))],[(0,vO 2 [(aB false),.nil]),(128,vO 2 [(aB (cond neg (decide (((a.length:Nat):Int) > 0)) false)),.nil])],160⟩ (C_58 6) [] [] (kp [1,4,5]) (kq [0,128]) 160 [neg = true→AllP [neg = true],neg = true→AllP [neg = true],neg = true→AllP [neg = true],0 < 1] ⟨(fun hg=>⟨hg,trivial⟩),(fun hg=>⟨hg,trivial⟩),(fun hq=>⟨hq,trivial⟩),o1,trivial⟩ ?_
  refine Runs.sA 2 [.code (C_58 28),.code (C_58 29),.code (C_58 15)] ?_
  refine Runs.sR hE ⟨[(1,(encL cI 0 a)),(4,(.op 0 0 0)),(5,(.op 128 0 0)),(6,(aI 0))],[(0,vO 2 [(aB false),.nil]),(128,vO 2 [(aB (cond neg (decide (((a.length:Nat):Int) > 0)) false)),.nil])],176⟩ (C_58 28) [] [] (kp [1,4,5,6]) (kq [0,128]) 176 [] trivial ?_
  refine Runs.sA 2 [.code (C_58 116),.inLoop (C_58 116),.inBlock 0,.code (C_58 15)] ?_
  exact Runs.sW hE _ [] (kp [1,4,5,6]) (kq [0] ++ [(1,.var 128 [.keep,.nilos 2]),(2,.nil 1 (fun zi=>(cU .u16) (([]:List Int).getD zi 0)))]) 3 [] trivial (g_r01_made_L1_ok N neg a N ([]:List Int) 0 _ h E hE)
noncomputable def C_59 (n:Nat):Code:=cat (bodyOf Try.f40) (pth n)
theorem g_r01_Of_L1_ok (N:Nat) (n:Int) (fuel:Nat):∀ (a:List Int) (u:Int) (r:TInt),g_r01_Of_L1 N n fuel a u = some r→∀ E,EnvOk E 0→Runs Try.prog E 40 25 (SPost E [] (.agg (TInt.cells r))) [.code (C_59 248),.inLoop (C_59 248),.inBlock 0,.code (C_59 63)] ⟨[(0,(aI n)),(2,(.op 0 0 0)),(3,(.os 1 0 a.length)),(4,(.atom (.int .u64 u)))],[(0,vO 2 [(aB false),.nil]),(1,aO 1 cI 0 a)],2⟩:=by
  induction fuel with
  | zero=>intro _ _ r h; rw [g_r01_Of_L1.eq_1] at h; cases h
  | succ fuel ih =>
    intro a u r h E hE
    rw [g_r01_Of_L1.eq_2] at h
    refine Runs.sA 2 [.code (C_59 992),.code (C_59 993),.code (C_59 497),.inLoop (C_59 248),.inBlock 0,.code (C_59 63)] ?_
    refine Runs.sR hE ⟨[(0,(aI n)),(2,(.op 0 0 0)),(3,(.os 1 0 a.length)),(4,(.atom (.int .u64 u))),(12,(aB (decide (u > 0))))],[(0,vO 2 [(aB false),.nil]),(1,aO 1 cI 0 a)],34⟩ (C_59 992) [] [] (kp [0,2,3,4,12]) (kq [0,1]) 34 [] trivial ?_
    refine Runs.sC 12 (C_59 1986) (C_59 1987) (decide (u > 0)) (fun hq3=>?_) (fun hq3=>?_)
    · have h:=condT h hq3
      refine Runs.sA 3 [.code (C_59 1988),.inBlock 1,.code (C_59 995),.inLoop (C_59 248),.inBlock 0,.code (C_59 63)] ?_
      obtain ⟨c,h⟩:=ifSome h
      refine Runs.sR hE ⟨[(0,(aI n)),(2,(.op 0 0 0)),(3,(.os 114 0 ((a ++ ([(w64 ((u.tmod 65536)))]:List Int)).length))),(4,(.atom (.int .u64 u)))],[(0,vO 2 [(aB false),.nil]),(114,aO 1 cI 0 (a ++ ([(w64 ((u.tmod 65536)))]:List Int)))],146⟩ (C_59 1988) [] [] (kp [0,2] ++ [(3,.osl ((a ++ ([(w64 ((u.tmod 65536)))]:List Int)).length))] ++ kp [4]) (kq [0] ++ [(114,.arr 114 ((a ++ ([(w64 ((u.tmod 65536)))]:List Int)).length) (fun zi=>cI ((a ++ ([(w64 ((u.tmod 65536)))]:List Int)).getD zi 0)))]) 146 [(65536:Int) ≠ 0,a.length = a.length,(a.length+1) * 8≤140737488355328,0+1≤1,∀ zi,zi < 1→AV.oneL ((fun zi=>([[(aI (w64 ((u.tmod 65536))))]]:List (List AV)).getD zi []) (addz 0 zi)) = true,(a.length+1) = (a ++ ([(w64 ((u.tmod 65536)))]:List Int)).length,a.length+1 = (a ++ ([(w64 ((u.tmod 65536)))]:List Int)).length,∀ zi,zi < (a ++ ([(w64 ((u.tmod 65536)))]:List Int)).length→(fun zi=>cI ((a ++ ([(w64 ((u.tmod 65536)))]:List Int)).getD zi 0)) zi = ((fun zm=>if zm < a.length then (fun zi=>cI (a.getD zi 0)) zm else (fun zi=>([[(aI (w64 ((u.tmod 65536))))]]:List (List AV)).getD zi []) (zm - a.length))) zi] ⟨(by decide),rfl,c,z0,(oneN rfl),(len_app_raw rfl rfl),(len_app_raw rfl rfl),(get_app_raw cI 0 a ([(w64 ((u.tmod 65536)))]:List Int) rfl (fun _ _=>rfl) (fun zq hzq=>get_chunk cI 0 ([(w64 ((u.tmod 65536)))]:List Int) zq hzq)),trivial⟩ ?_
      refine Runs.sA 1 [.code (C_59 995),.inLoop (C_59 248),.inBlock 0,.code (C_59 63)] ?_
      refine Runs.sR hE ⟨[(0,(aI n)),(2,(.op 0 0 0)),(3,(.os 114 0 ((a ++ ([(w64 ((u.tmod 65536)))]:List Int)).length))),(4,(.atom (.int .u64 (IntKind.u64.wrap (u.tdiv 65536)))))],[(0,vO 2 [(aB false),.nil]),(114,aO 1 cI 0 (a ++ ([(w64 ((u.tmod 65536)))]:List Int)))],194⟩ (C_59 995) [] [] (kp [0,2,3,4]) (kq [0,114]) 194 [(65536:Int) ≠ 0] ⟨(by decide),trivial⟩ ?_
      refine Runs.sA 1 [.code (C_59 248),.inLoop (C_59 248),.inBlock 0,.code (C_59 63)] ?_
      exact Runs.sW hE _ [] (kp [0,2,3,4]) (kq [0] ++ [(1,.keep 114)]) 2 [] trivial (ih (a ++ ([(w64 ((u.tmod 65536)))]:List Int)) (IntKind.u64.wrap (u.tdiv 65536)) _ h E hE)
    · have h:=condF h hq3
      refine Runs.sA 2 [.code (C_59 126),.code (C_59 127)] ?_
      obtain ⟨rmade,hr,h⟩:=bindSome h
      refine Runs.sR hE ⟨[(2,(.op 0 0 0))],[(0,vO 2 (TInt.cells rmade))],114⟩ (C_59 126) [(3,⟨[],true,(.agg (TInt.cells rmade)),[],0,true,none⟩)] [] (kp [2]) (kq [0]) 114 [Sound Try.prog 39 [(aB (decide (n < 0))),(encL cI 0 a)] [] 0 (.agg (TInt.cells rmade)) [],0+a.length≤a.length,0 < 1] ⟨(g_r01_made_ok N (decide (n < 0)) a rmade hr),z0,o1,trivial⟩ ?_
      obtain rfl:=Option.some.inj h
      refine Runs.sW hE ⟨[(2,(.op 16 0 0))],[(16,vO 2 (TInt.cells rmade))],114⟩ [] (kp [2]) [(16,.keep 0)] 114 [] trivial ?_
      exact Runs.sT Try.f40 [16] [0 < 1] ⟨o1,trivial⟩
theorem g_r01_Of_ok (N:Nat) (n:Int) (r:TInt) (h:g_r01_Of N n = some r):Sound Try.prog 40 [(aI n)] [] 0 (.agg (TInt.cells r)) []:=by
  unfold g_r01_Of at h
  refine Sound.of_runs (fu:=Try.f40) (c:=C_59 1) (nt:=25) (by kernel_rfl) (by kernel_rfl) (by kernel_rfl) (by kernel_rfl) (fun hm=>rfl) ?_
  intro E hE
  refine Runs.sA 1 [.code (C_59 2),.code (C_59 3)] ?_
  refine Runs.sR hE ⟨[(0,(aI n)),(2,(.op 0 0 0))],[(0,vO 2 [(aB false),.nil])],16⟩ (C_59 2) [] [] (kp [0,2]) (kq [0]) 16 [] trivial ?_
  refine Runs.sA 1 [.code (C_59 6),.code (C_59 7)] ?_
  refine Runs.sR hE ⟨[(0,(aI n)),(2,(.op 0 0 0)),(3,.nil)],[(0,vO 2 [(aB false),.nil])],32⟩ (C_59 6) [] [] (kp [0,2,3]) (kq [0]) 32 [] trivial ?_
  refine Runs.sA 1 [.code (C_59 14),.code (C_59 15)] ?_
  refine Runs.sR hE ⟨[(0,(aI n)),(2,(.op 0 0 0)),(3,.nil),(4,(.atom (.int .u64 (IntKind.u64.wrap (n)))))],[(0,vO 2 [(aB false),.nil])],80⟩ (C_59 14) [] [] (kp [0,2,3,4]) (kq [0]) 80 [] trivial ?_
  refine Runs.sA 2 [.code (C_59 60),.code (C_59 61),.code (C_59 31)] ?_
  refine Runs.sR hE ⟨[(0,(aI n)),(2,(.op 0 0 0)),(3,.nil),(4,(.atom (.int .u64 (IntKind.u64.wrap (n))))),(8,(aB (decide (n < 0))))],[(0,vO 2 [(aB false),.nil])],112⟩ (C_59 60) [] [] (kp [0,2,3,4,8]) (kq [0]) 112 [] trivial ?_
  refine Runs.sC 8 (C_59 122) (C_59 123) (decide (n < 0)) (fun hq2=>?_) (fun hq2=>?_)
  · have h:=condT h hq2
    refine Runs.sR hE ⟨[(0,(aI n)),(2,(.op 0 0 0)),(3,.nil),(4,(.atom (.int .u64 (IntKind.u64.wrap (0 - (IntKind.u64.wrap (n)))))))],[(0,vO 2 [(aB false),.nil])],160⟩ (C_59 122) [] [] (kp [0,2,3,4]) (kq [0]) 160 [] trivial ?_
    refine Runs.sA 3 [.code (C_59 248),.inLoop (C_59 248),.inBlock 0,.code (C_59 63)] ?_
    exact Runs.sW hE _ [] (kp [0,2] ++ [(3,.nilos 1)] ++ kp [4]) (kq [0] ++ [(1,.nil 1 (fun zi=>cI (([]:List Int).getD zi 0)))]) 2 [] trivial (g_r01_Of_L1_ok N n N ([]:List Int) (IntKind.u64.wrap (0 - (IntKind.u64.wrap (n)))) _ h E hE)
  · have h:=condF h hq2
    refine Runs.sA 4 [.code (C_59 248),.inLoop (C_59 248),.inBlock 0,.code (C_59 63)] ?_
    exact Runs.sW hE _ [] (kp [0,2] ++ [(3,.nilos 1)] ++ kp [4]) (kq [0] ++ [(1,.nil 1 (fun zi=>cI (([]:List Int).getD zi 0)))]) 2 [] trivial (g_r01_Of_L1_ok N n N ([]:List Int) (IntKind.u64.wrap (n)) _ h E hE)
noncomputable def C_63 (n:Nat):Code:=cat (bodyOf Try.f59) (pth n)
theorem g_r01_digit_ok (N:Nat) (a:List Int) (i:Int) (r:Int) (h:g_r01_digit N a i = some r):Sound Try.prog 59 [(encL cI 0 a),(aI i)] [] 0 (aI r) []:=by
  unfold g_r01_digit at h
  refine Sound.of_runs (fu:=Try.f59) (c:=C_63 1) (nt:=13) (by kernel_rfl) (by kernel_rfl) (by kernel_rfl) (by kernel_rfl) (fun hm=>rfl) ?_
  intro E hE
  refine Runs.sA 1 [.code (C_63 2),.code (C_63 3)] ?_
  refine Runs.sR hE ⟨[(0,(encL cI 0 a)),(1,(aI i))],[],16⟩ (C_63 2) [] [] (kp [0,1]) [] 16 [] trivial ?_
  refine Runs.sA 2 [.code (C_63 12),.code (C_63 13),.code (C_63 7)] ?_
  refine Runs.sR hE ⟨[(0,(encL cI 0 a)),(1,(aI i)),(8,(aB (decide (i < ((a.length:Nat):Int)))))],[],80⟩ (C_63 12) [] [] (kp [0,1,8]) [] 80 [] trivial ?_
  refine Runs.sC 8 (C_63 26) (C_63 27) (decide (i < ((a.length:Nat):Int))) (fun hq2=>?_) (fun hq2=>?_)
  · have h:=condT h hq2
    refine Runs.sA 1 [.code (C_63 52),.code (C_63 53),.code (C_63 7)] ?_
    obtain ⟨c,h⟩:=ifSome h
    refine Runs.sR hE ⟨[(4,(aI (a.getD ((i).toNat) 0)))],[],160⟩ (C_63 52) [] [] (kp [4]) [] 160 [0≤i∧i < ((a.length:Nat):Int)] ⟨c,trivial⟩ ?_
    obtain rfl:=Option.some.inj h
    refine Runs.sW hE ⟨[(4,(aI (a.getD ((i).toNat) 0)))],[],160⟩ [] (kp [4]) [] 160 [] trivial ?_
    exact Runs.sT Try.f59 [] [] trivial
  · have h:=condF h hq2
    refine Runs.sA 2 [.code (C_63 14),.code (C_63 15)] ?_
    refine Runs.sR hE ⟨[(4,(aI 0))],[],96⟩ (C_63 14) [] [] (kp [4]) [] 96 [] trivial ?_
    obtain rfl:=Option.some.inj h
    refine Runs.sW hE ⟨[(4,(aI 0))],[],96⟩ [] (kp [4]) [] 96 [] trivial ?_
    exact Runs.sT Try.f59 [] [] trivial
noncomputable def C_62 (n:Nat):Code:=cat (bodyOf Try.f46) (pth n)
theorem g_r01_times_L2_ok (N:Nat) (a:List Int) (b:List Int) (i:Int) (K_g_r01_times_L1:(List Int)→Int→Option ((List Int)))
    (hK_g_r01_times_L1:∀ (out:List Int) (i:Int) (r:(List Int)),K_g_r01_times_L1 out i = some r→∀ E,EnvOk E 0→Runs Try.prog E 46 61 (SPost E [] (encL cI 0 r)) [.code (C_62 116),.inLoop (C_62 116),.inBlock 0,.code (C_62 15)] ⟨[(0,(encL cI 0 a)),(1,(encL cI 0 b)),(5,(.os 0 0 out.length)),(6,(aI i))],[(0,aO 1 cI 0 out)],1⟩) (fuel:Nat):∀ (out2:List Int) (carry:Int) (k:Int) (r:(List Int)),g_r01_times_L2 N a b i K_g_r01_times_L1 fuel out2 carry k = some r→∀ E,EnvOk E 0→Runs Try.prog E 46 61 (SPost E [] (encL cI 0 r)) [.code (C_62 14924),.inLoop (C_62 14924),.inBlock 2,.inBlock 1,.code (C_62 467),.inLoop (C_62 116),.inBlock 0,.code (C_62 15)] ⟨[(0,(encL cI 0 a)),(1,(encL cI 0 b)),(5,(.os 0 0 out2.length)),(6,(aI i)),(7,(aI carry)),(8,(aI k))],[(0,aO 1 cI 0 out2)],1⟩:=by
  induction fuel with
  | zero=>intro _ _ _ r h; rw [g_r01_times_L2.eq_1] at h; cases h
  | succ fuel ih =>
    intro out2 carry k r h E hE
    rw [g_r01_times_L2.eq_2] at h
    refine Runs.sA 2 [.code (C_62 59696),.code (C_62 59697),.code (C_62 29849),.inLoop (C_62 14924),.inBlock 2,.inBlock 1,.code (C_62 467),.inLoop (C_62 116),.inBlock 0,.code (C_62 15)] ?_
    refine Runs.sR hE ⟨[(0,(encL cI 0 a)),(1,(encL cI 0 b)),(5,(.os 0 0 out2.length)),(6,(aI i)),(7,(aI carry)),(8,(aI k)),(30,(aB (cond (decide (k < ((b.length:Nat):Int))) true (decide (carry > 0)))))],[(0,aO 1 cI 0 out2)],129⟩ (C_62 59696) [] [] (kp [0,1,5,6,7,8,30]) (kq [0]) 129 [(!(decide (k < ((b.length:Nat):Int)))) = true→AllP [(!(decide (k < ((b.length:Nat):Int)))) = true],(!(decide (k < ((b.length:Nat):Int)))) = true→AllP [(!(decide (k < ((b.length:Nat):Int)))) = true]] ⟨(fun hg=>⟨hg,trivial⟩),(fun hq=>⟨hq,trivial⟩),trivial⟩ ?_
    refine Runs.sC 30 (C_62 119394) (C_62 119395) (cond (decide (k < ((b.length:Nat):Int))) true (decide (carry > 0))) (fun hq3=>?_) (fun hq3=>?_)
    · have h:=condT h hq3
      refine Runs.sA 4 [.code (C_62 238792),.code (C_62 238793),.inBlock 3,.code (C_62 59699),.inLoop (C_62 14924),.inBlock 2,.inBlock 1,.code (C_62 467),.inLoop (C_62 116),.inBlock 0,.code (C_62 15)] ?_
      obtain ⟨c2,h⟩:=ifSome h
      obtain ⟨c3,h⟩:=ifSome h
      obtain ⟨rdigit,hr,h⟩:=bindSome h
      refine Runs.sR hE ⟨[(0,(encL cI 0 a)),(1,(encL cI 0 b)),(5,(.os 0 0 out2.length)),(6,(aI i)),(8,(aI k)),(9,(aI (w64 ((w64 ((out2.getD ((w64 (i+k)).toNat) 0)+(w64 ((a.getD ((i).toNat) 0) * rdigit))))+carry))))],[(0,aO 1 cI 0 out2)],417⟩ (C_62 238792) [(12,⟨[],true,(aI rdigit),[],0,false,none⟩)] [] (kp [0,1,5,6,8,9]) (kq [0]) 417 [0≤(w64 (i+k))∧(w64 (i+k)) < ((out2.length:Nat):Int),(w64 (i+k)).toNat < out2.length,0≤i∧i < ((a.length:Nat):Int),Sound Try.prog 59 [(encL cI 0 b),(aI k)] [] 0 (aI rdigit) []] ⟨c2,(ltOf c2),c3,(g_r01_digit_ok N b k rdigit hr),trivial⟩ ?_
      refine Runs.sA 1 [.code (C_62 477586),.code (C_62 477587),.inBlock 3,.code (C_62 59699),.inLoop (C_62 14924),.inBlock 2,.inBlock 1,.code (C_62 467),.inLoop (C_62 116),.inBlock 0,.code (C_62 15)] ?_
      refine Runs.sR hE ⟨[(0,(encL cI 0 a)),(1,(encL cI 0 b)),(5,(.os 0 0 ((out2.set ((w64 (i+k)).toNat) ((w64 ((w64 ((out2.getD ((w64 (i+k)).toNat) 0)+(w64 ((a.getD ((i).toNat) 0) * rdigit))))+carry)).tmod 65536)).length))),(6,(aI i)),(8,(aI k)),(9,(aI (w64 ((w64 ((out2.getD ((w64 (i+k)).toNat) 0)+(w64 ((a.getD ((i).toNat) 0) * rdigit))))+carry))))],[(0,aO 1 cI 0 (out2.set ((w64 (i+k)).toNat) ((w64 ((w64 ((out2.getD ((w64 (i+k)).toNat) 0)+(w64 ((a.getD ((i).toNat) 0) * rdigit))))+carry)).tmod 65536)))],545⟩ (C_62 477586) [] [] (kp [0,1] ++ [(5,.osl ((out2.set ((w64 (i+k)).toNat) ((w64 ((w64 ((out2.getD ((w64 (i+k)).toNat) 0)+(w64 ((a.getD ((i).toNat) 0) * rdigit))))+carry)).tmod 65536)).length))] ++ kp [6,8,9]) [(0,.arr 0 ((out2.set ((w64 (i+k)).toNat) ((w64 ((w64 ((out2.getD ((w64 (i+k)).toNat) 0)+(w64 ((a.getD ((i).toNat) 0) * rdigit))))+carry)).tmod 65536)).length) (fun zi=>cI ((out2.set ((w64 (i+k)).toNat) ((w64 ((w64 ((out2.getD ((w64 (i+k)).toNat) 0)+(w64 ((a.getD ((i).toNat) 0) * rdigit))))+carry)).tmod 65536)).getD zi 0)))] 545 [(65536:Int) ≠ 0,0≤(w64 (i+k))∧(w64 (i+k)) < ((out2.length:Nat):Int),(w64 (i+k)).toNat < out2.length,out2.length = (out2.set ((w64 (i+k)).toNat) ((w64 ((w64 ((out2.getD ((w64 (i+k)).toNat) 0)+(w64 ((a.getD ((i).toNat) 0) * rdigit))))+carry)).tmod 65536)).length,out2.length = (out2.set ((w64 (i+k)).toNat) ((w64 ((w64 ((out2.getD ((w64 (i+k)).toNat) 0)+(w64 ((a.getD ((i).toNat) 0) * rdigit))))+carry)).tmod 65536)).length,∀ zi,zi < (out2.set ((w64 (i+k)).toNat) ((w64 ((w64 ((out2.getD ((w64 (i+k)).toNat) 0)+(w64 ((a.getD ((i).toNat) 0) * rdigit))))+carry)).tmod 65536)).length→(fun zi=>cI ((out2.set ((w64 (i+k)).toNat) ((w64 ((w64 ((out2.getD ((w64 (i+k)).toNat) 0)+(w64 ((a.getD ((i).toNat) 0) * rdigit))))+carry)).tmod 65536)).getD zi 0)) zi = ((fun zm=>if zm = (w64 (i+k)).toNat then [(aI ((w64 ((w64 ((out2.getD ((w64 (i+k)).toNat) 0)+(w64 ((a.getD ((i).toNat) 0) * rdigit))))+carry)).tmod 65536))] else (fun zi=>cI (out2.getD zi 0)) zm)) zi] ⟨(by decide),c2,(ltOf c2),(len_set_raw rfl),(len_set_raw rfl),(get_set_raw cI 0 out2 ((w64 (i+k)).toNat) ((w64 ((w64 ((out2.getD ((w64 (i+k)).toNat) 0)+(w64 ((a.getD ((i).toNat) 0) * rdigit))))+carry)).tmod 65536) (fun _ _=>rfl)),trivial⟩ ?_
      refine Runs.sR hE ⟨[(0,(encL cI 0 a)),(1,(encL cI 0 b)),(5,(.os 0 0 ((out2.set ((w64 (i+k)).toNat) ((w64 ((w64 ((out2.getD ((w64 (i+k)).toNat) 0)+(w64 ((a.getD ((i).toNat) 0) * rdigit))))+carry)).tmod 65536)).length))),(6,(aI i)),(7,(aI (w64 ((w64 ((w64 ((out2.getD ((w64 (i+k)).toNat) 0)+(w64 ((a.getD ((i).toNat) 0) * rdigit))))+carry)).tdiv 65536)))),(8,(aI k))],[(0,aO 1 cI 0 (out2.set ((w64 (i+k)).toNat) ((w64 ((w64 ((out2.getD ((w64 (i+k)).toNat) 0)+(w64 ((a.getD ((i).toNat) 0) * rdigit))))+carry)).tmod 65536)))],593⟩ (C_62 477587) [] [] (kp [0,1,5,6,7,8]) (kq [0]) 593 [(65536:Int) ≠ 0] ⟨(by decide),trivial⟩ ?_
      refine Runs.sA 1 [.code (C_62 59699),.inLoop (C_62 14924),.inBlock 2,.inBlock 1,.code (C_62 467),.inLoop (C_62 116),.inBlock 0,.code (C_62 15)] ?_
      refine Runs.sR hE ⟨[(0,(encL cI 0 a)),(1,(encL cI 0 b)),(5,(.os 0 0 ((out2.set ((w64 (i+k)).toNat) ((w64 ((w64 ((out2.getD ((w64 (i+k)).toNat) 0)+(w64 ((a.getD ((i).toNat) 0) * rdigit))))+carry)).tmod 65536)).length))),(6,(aI i)),(7,(aI (w64 ((w64 ((w64 ((out2.getD ((w64 (i+k)).toNat) 0)+(w64 ((a.getD ((i).toNat) 0) * rdigit))))+carry)).tdiv 65536)))),(8,(aI (w64 (k+1))))],[(0,aO 1 cI 0 (out2.set ((w64 (i+k)).toNat) ((w64 ((w64 ((out2.getD ((w64 (i+k)).toNat) 0)+(w64 ((a.getD ((i).toNat) 0) * rdigit))))+carry)).tmod 65536)))],641⟩ (C_62 59699) [] [] (kp [0,1,5,6,7,8]) (kq [0]) 641 [] trivial ?_
      refine Runs.sA 1 [.code (C_62 14924),.inLoop (C_62 14924),.inBlock 2,.inBlock 1,.code (C_62 467),.inLoop (C_62 116),.inBlock 0,.code (C_62 15)] ?_
      exact Runs.sW hE _ [] (kp [0,1,5,6,7,8]) (kq [0]) 1 [] trivial (ih (out2.set ((w64 (i+k)).toNat) ((w64 ((w64 ((out2.getD ((w64 (i+k)).toNat) 0)+(w64 ((a.getD ((i).toNat) 0) * rdigit))))+carry)).tmod 65536)) (w64 ((w64 ((w64 ((out2.getD ((w64 (i+k)).toNat) 0)+(w64 ((a.getD ((i).toNat) 0) * rdigit))))+carry)).tdiv 65536)) (w64 (k+1)) _ h E hE)
    · have h:=condF h hq3
      refine Runs.sA 2 [.code (C_62 467),.inLoop (C_62 116),.inBlock 0,.code (C_62 15)] ?_
      refine Runs.sR hE ⟨[(0,(encL cI 0 a)),(1,(encL cI 0 b)),(5,(.os 0 0 out2.length)),(6,(aI (w64 (i+1))))],[(0,aO 1 cI 0 out2)],177⟩ (C_62 467) [] [] (kp [0,1,5,6]) (kq [0]) 177 [] trivial ?_
      refine Runs.sA 1 [.code (C_62 116),.inLoop (C_62 116),.inBlock 0,.code (C_62 15)] ?_
      exact Runs.sW hE _ [] (kp [0,1,5,6]) (kq [0]) 1 [] trivial (hK_g_r01_times_L1 out2 (w64 (i+1)) _ h E hE)
theorem g_r01_times_L1_ok (N:Nat) (a:List Int) (b:List Int) (fuel:Nat):∀ (out:List Int) (i:Int) (r:(List Int)),g_r01_times_L1 N a b fuel out i = some r→∀ E,EnvOk E 0→Runs Try.prog E 46 61 (SPost E [] (encL cI 0 r)) [.code (C_62 116),.inLoop (C_62 116),.inBlock 0,.code (C_62 15)] ⟨[(0,(encL cI 0 a)),(1,(encL cI 0 b)),(5,(.os 0 0 out.length)),(6,(aI i))],[(0,aO 1 cI 0 out)],1⟩:=by
  induction fuel with
  | zero=>intro _ _ r h; rw [g_r01_times_L1.eq_1] at h; cases h
  | succ fuel ih =>
    intro out i r h E hE
    rw [g_r01_times_L1.eq_2] at h
    refine Runs.sA 2 [.code (C_62 464),.code (C_62 465),.code (C_62 233),.inLoop (C_62 116),.inBlock 0,.code (C_62 15)] ?_
    refine Runs.sR hE ⟨[(0,(encL cI 0 a)),(1,(encL cI 0 b)),(5,(.os 0 0 out.length)),(6,(aI i)),(20,(aB (decide (i < ((a.length:Nat):Int)))))],[(0,aO 1 cI 0 out)],65⟩ (C_62 464) [] [] (kp [0,1,5,6,20]) (kq [0]) 65 [] trivial ?_
    refine Runs.sC 20 (C_62 930) (C_62 931) (decide (i < ((a.length:Nat):Int))) (fun hq2=>?_) (fun hq2=>?_)
    · have h:=condT h hq2
      refine Runs.sA 4 [.code (C_62 1864),.code (C_62 1865),.inBlock 1,.code (C_62 467),.inLoop (C_62 116),.inBlock 0,.code (C_62 15)] ?_
      refine Runs.sR hE ⟨[(0,(encL cI 0 a)),(1,(encL cI 0 b)),(5,(.os 0 0 out.length)),(6,(aI i)),(7,(aI 0))],[(0,aO 1 cI 0 out)],81⟩ (C_62 1864) [] [] (kp [0,1,5,6,7]) (kq [0]) 81 [] trivial ?_
      refine Runs.sA 1 [.code (C_62 3730),.code (C_62 3731),.inBlock 1,.code (C_62 467),.inLoop (C_62 116),.inBlock 0,.code (C_62 15)] ?_
      refine Runs.sR hE ⟨[(0,(encL cI 0 a)),(1,(encL cI 0 b)),(5,(.os 0 0 out.length)),(6,(aI i)),(7,(aI 0)),(8,(aI 0))],[(0,aO 1 cI 0 out)],97⟩ (C_62 3730) [] [] (kp [0,1,5,6,7,8]) (kq [0]) 97 [] trivial ?_
      refine Runs.sA 2 [.code (C_62 14924),.inLoop (C_62 14924),.inBlock 2,.inBlock 1,.code (C_62 467),.inLoop (C_62 116),.inBlock 0,.code (C_62 15)] ?_
      exact Runs.sW hE _ [] (kp [0,1,5,6,7,8]) (kq [0]) 1 [] trivial (g_r01_times_L2_ok N a b i (g_r01_times_L1 N a b fuel) ih N out 0 0 _ h E hE)
    · have h:=condF h hq2
      refine Runs.sA 2 [.code (C_62 30),.code (C_62 31)] ?_
      obtain ⟨rtrim,hr2,h⟩:=bindSome h
      refine Runs.sR hE ⟨[(4,(encL cI 0 rtrim))],[],113⟩ (C_62 30) [(1,⟨[],true,(encL cI 0 rtrim),[],0,true,none⟩)] [] (kp [4]) [] 113 [Sound Try.prog 58 [(encL cI 0 out)] [] 0 (encL cI 0 rtrim) [],0+out.length≤out.length] ⟨(g_r01_trim_ok N out rtrim hr2),z0,trivial⟩ ?_
      obtain rfl:=Option.some.inj h
      refine Runs.sW hE ⟨[(4,(encL cI 0 rtrim))],[],113⟩ [] (kp [4]) [] 113 [] trivial ?_
      exact Runs.sT Try.f46 [] [] trivial
theorem g_r01_times_ok (N:Nat) (a:List Int) (b:List Int) (r:(List Int)) (h:g_r01_times N a b = some r):Sound Try.prog 46 [(encL cI 0 a),(encL cI 0 b)] [] 0 (encL cI 0 r) []:=by
  unfold g_r01_times at h
  refine Sound.of_runs (fu:=Try.f46) (c:=C_62 1) (nt:=61) (by kernel_rfl) (by kernel_rfl) (by kernel_rfl) (by kernel_rfl) (fun hm=>rfl) ?_
  intro E hE
  refine Runs.sA 1 [.code (C_62 2),.code (C_62 3)] ?_
  refine Runs.sR hE ⟨[(0,(encL cI 0 a)),(1,(encL cI 0 b))],[],16⟩ (C_62 2) [] [] (kp [0,1]) [] 16 [] trivial ?_
  refine Runs.sA 1 [.code (C_62 6),.code (C_62 7)] ?_
  obtain ⟨c,h⟩:=ifSome h
  refine Runs.sR hE ⟨[(0,(encL cI 0 a)),(1,(encL cI 0 b)),(5,(.os 112 0 ((List.replicate ((w64 ((w64 (((a.length:Nat):Int)+((b.length:Nat):Int)))+1)).toNat) 0:List Int).length)))],[(112,aO 1 cI 0 (List.replicate ((w64 ((w64 (((a.length:Nat):Int)+((b.length:Nat):Int)))+1)).toNat) 0:List Int))],144⟩ (C_62 6) [] [] (kp [0,1] ++ [(5,.osl ((List.replicate ((w64 ((w64 (((a.length:Nat):Int)+((b.length:Nat):Int)))+1)).toNat) 0:List Int).length))]) [(112,.arr 112 ((List.replicate ((w64 ((w64 (((a.length:Nat):Int)+((b.length:Nat):Int)))+1)).toNat) 0:List Int).length) (fun zi=>cI ((List.replicate ((w64 ((w64 (((a.length:Nat):Int)+((b.length:Nat):Int)))+1)).toNat) 0:List Int).getD zi 0)))] 144 [0≤(w64 ((w64 (((a.length:Nat):Int)+((b.length:Nat):Int)))+1)),(w64 ((w64 (((a.length:Nat):Int)+((b.length:Nat):Int)))+1))≤(w64 ((w64 (((a.length:Nat):Int)+((b.length:Nat):Int)))+1)),(8:Int) * (w64 ((w64 (((a.length:Nat):Int)+((b.length:Nat):Int)))+1))≤281474976710656,(w64 ((w64 (((a.length:Nat):Int)+((b.length:Nat):Int)))+1))≤9223372036854775807,(w64 ((w64 (((a.length:Nat):Int)+((b.length:Nat):Int)))+1)).toNat = (List.replicate ((w64 ((w64 (((a.length:Nat):Int)+((b.length:Nat):Int)))+1)).toNat) 0:List Int).length,(w64 ((w64 (((a.length:Nat):Int)+((b.length:Nat):Int)))+1)).toNat = (List.replicate ((w64 ((w64 (((a.length:Nat):Int)+((b.length:Nat):Int)))+1)).toNat) 0:List Int).length,∀ zi,zi < (List.replicate ((w64 ((w64 (((a.length:Nat):Int)+((b.length:Nat):Int)))+1)).toNat) 0:List Int).length→(fun zi=>cI ((List.replicate ((w64 ((w64 (((a.length:Nat):Int)+((b.length:Nat):Int)))+1)).toNat) 0:List Int).getD zi 0)) zi = (fun _=>[(aI 0)]) zi] ⟨c.1,(Int.le_refl _),c.2.1,c.2.2,(List.length_replicate).symm,(List.length_replicate).symm,(fun zq hzq=>get_rep cI 0 0 ((w64 ((w64 (((a.length:Nat):Int)+((b.length:Nat):Int)))+1)).toNat) zq hzq),trivial⟩ ?_
  refine Runs.sA 2 [.code (C_62 28),.code (C_62 29),.code (C_62 15)] ?_
  refine Runs.sR hE ⟨[(0,(encL cI 0 a)),(1,(encL cI 0 b)),(5,(.os 112 0 ((List.replicate ((w64 ((w64 (((a.length:Nat):Int)+((b.length:Nat):Int)))+1)).toNat) 0:List Int).length))),(6,(aI 0))],[(112,aO 1 cI 0 (List.replicate ((w64 ((w64 (((a.length:Nat):Int)+((b.length:Nat):Int)))+1)).toNat) 0:List Int))],160⟩ (C_62 28) [] [] (kp [0,1,5,6]) (kq [112]) 160 [] trivial ?_
  refine Runs.sA 2 [.code (C_62 116),.inLoop (C_62 116),.inBlock 0,.code (C_62 15)] ?_
  exact Runs.sW hE _ [] (kp [0,1,5,6]) [(0,.keep 112)] 1 [] trivial (g_r01_times_L1_ok N a b N (List.replicate ((w64 ((w64 (((a.length:Nat):Int)+((b.length:Nat):Int)))+1)).toNat) 0:List Int) 0 _ h E hE)
noncomputable def C_64 (n:Nat):Code:=cat (bodyOf Try.f44) (pth n)
theorem g_r01_compare_L1_ok (N:Nat) (a:List Int) (b:List Int) (fuel:Nat):∀ (i:Int) (r:Int),g_r01_compare_L1 N a b fuel i = some r→∀ E,EnvOk E 0→Runs Try.prog E 44 41 (SPost E [] (aI r)) [.code (C_64 116),.inLoop (C_64 116),.inBlock 0,.code (C_64 15)] ⟨[(0,(encL cI 0 a)),(1,(encL cI 0 b)),(5,(aI i))],[],0⟩:=by
  induction fuel with
  | zero=>intro _ r h; rw [g_r01_compare_L1.eq_1] at h; cases h
  | succ fuel ih =>
    intro i r h E hE
    rw [g_r01_compare_L1.eq_2] at h
    refine Runs.sA 2 [.code (C_64 464),.code (C_64 465),.code (C_64 233),.inLoop (C_64 116),.inBlock 0,.code (C_64 15)] ?_
    refine Runs.sR hE ⟨[(0,(encL cI 0 a)),(1,(encL cI 0 b)),(5,(aI i)),(20,(aB (decide (i ≥ 0))))],[],32⟩ (C_64 464) [] [] (kp [0,1,5,20]) [] 32 [] trivial ?_
    refine Runs.sC 20 (C_64 930) (C_64 931) (decide (i ≥ 0)) (fun hq3=>?_) (fun hq3=>?_)
    · have h:=condT h hq3
      refine Runs.sA 4 [.code (C_64 1864),.code (C_64 1865),.inBlock 1,.code (C_64 467),.inLoop (C_64 116),.inBlock 0,.code (C_64 15)] ?_
      obtain ⟨c,h⟩:=ifSome h
      obtain ⟨c2,h⟩:=ifSome h
      refine Runs.sR hE ⟨[(0,(encL cI 0 a)),(1,(encL cI 0 b)),(5,(aI i)),(31,(aB ((a.getD ((i).toNat) 0) != (b.getD ((i).toNat) 0))))],[],176⟩ (C_64 1864) [] [] (kp [0,1,5,31]) [] 176 [0≤i∧i < ((a.length:Nat):Int),0≤i∧i < ((b.length:Nat):Int)] ⟨c,c2,trivial⟩ ?_
      refine Runs.sC 31 (C_64 3730) (C_64 3731) ((a.getD ((i).toNat) 0) != (b.getD ((i).toNat) 0)) (fun hq4=>?_) (fun hq4=>?_)
      · have h:=condT h hq4
        refine Runs.sA 1 [.code (C_64 7460),.code (C_64 7461),.inBlock 1,.code (C_64 467),.inLoop (C_64 116),.inBlock 0,.code (C_64 15)] ?_
        refine Runs.sR hE ⟨[(4,(aI (w64 ((a.getD ((i).toNat) 0) - (b.getD ((i).toNat) 0)))))],[],336⟩ (C_64 7460) [] [] (kp [4]) [] 336 [0≤i∧i < ((a.length:Nat):Int),0≤i∧i < ((b.length:Nat):Int)] ⟨c,c2,trivial⟩ ?_
        obtain rfl:=Option.some.inj h
        refine Runs.sW hE ⟨[(4,(aI (w64 ((a.getD ((i).toNat) 0) - (b.getD ((i).toNat) 0)))))],[],336⟩ [] (kp [4]) [] 336 [] trivial ?_
        exact Runs.sT Try.f44 [] [] trivial
      · have h:=condF h hq4
        refine Runs.sA 2 [.code (C_64 467),.inLoop (C_64 116),.inBlock 0,.code (C_64 15)] ?_
        refine Runs.sR hE ⟨[(0,(encL cI 0 a)),(1,(encL cI 0 b)),(5,(aI (w64 (i - 1))))],[],224⟩ (C_64 467) [] [] (kp [0,1,5]) [] 224 [] trivial ?_
        refine Runs.sA 1 [.code (C_64 116),.inLoop (C_64 116),.inBlock 0,.code (C_64 15)] ?_
        exact Runs.sW hE _ [] (kp [0,1,5]) [] 0 [] trivial (ih (w64 (i - 1)) _ h E hE)
    · have h:=condF h hq3
      refine Runs.sA 2 [.code (C_64 30),.code (C_64 31)] ?_
      refine Runs.sR hE ⟨[(4,(aI 0))],[],48⟩ (C_64 30) [] [] (kp [4]) [] 48 [] trivial ?_
      obtain rfl:=Option.some.inj h
      refine Runs.sW hE ⟨[(4,(aI 0))],[],48⟩ [] (kp [4]) [] 48 [] trivial ?_
      exact Runs.sT Try.f44 [] [] trivial
theorem g_r01_compare_ok (N:Nat) (a:List Int) (b:List Int) (r:Int) (h:g_r01_compare N a b = some r):Sound Try.prog 44 [(encL cI 0 a),(encL cI 0 b)] [] 0 (aI r) []:=by
  unfold g_r01_compare at h
  refine Sound.of_runs (fu:=Try.f44) (c:=C_64 1) (nt:=41) (by kernel_rfl) (by kernel_rfl) (by kernel_rfl) (by kernel_rfl) (fun hm=>rfl) ?_
  intro E hE
  refine Runs.sA 1 [.code (C_64 2),.code (C_64 3)] ?_
  refine Runs.sR hE ⟨[(0,(encL cI 0 a)),(1,(encL cI 0 b))],[],16⟩ (C_64 2) [] [] (kp [0,1]) [] 16 [] trivial ?_
  refine Runs.sA 2 [.code (C_64 12),.code (C_64 13),.code (C_64 7)] ?_
  refine Runs.sR hE ⟨[(0,(encL cI 0 a)),(1,(encL cI 0 b)),(10,(aB (((a.length:Nat):Int) != ((b.length:Nat):Int))))],[],96⟩ (C_64 12) [] [] (kp [0,1,10]) [] 96 [] trivial ?_
  refine Runs.sC 10 (C_64 26) (C_64 27) (((a.length:Nat):Int) != ((b.length:Nat):Int)) (fun hq2=>?_) (fun hq2=>?_)
  · have h:=condT h hq2
    refine Runs.sA 1 [.code (C_64 52),.code (C_64 53),.code (C_64 7)] ?_
    refine Runs.sR hE ⟨[(4,(aI (w64 (((a.length:Nat):Int) - ((b.length:Nat):Int)))))],[],192⟩ (C_64 52) [] [] (kp [4]) [] 192 [] trivial ?_
    obtain rfl:=Option.some.inj h
    refine Runs.sW hE ⟨[(4,(aI (w64 (((a.length:Nat):Int) - ((b.length:Nat):Int)))))],[],192⟩ [] (kp [4]) [] 192 [] trivial ?_
    exact Runs.sT Try.f44 [] [] trivial
  · have h:=condF h hq2
    refine Runs.sA 3 [.code (C_64 28),.code (C_64 29),.code (C_64 15)] ?_
    refine Runs.sR hE ⟨[(0,(encL cI 0 a)),(1,(encL cI 0 b)),(5,(aI (w64 (((a.length:Nat):Int) - 1))))],[],160⟩ (C_64 28) [] [] (kp [0,1,5]) [] 160 [] trivial ?_
    refine Runs.sA 2 [.code (C_64 116),.inLoop (C_64 116),.inBlock 0,.code (C_64 15)] ?_
    exact Runs.sW hE _ [] (kp [0,1,5]) [] 0 [] trivial (g_r01_compare_L1_ok N a b N (w64 (((a.length:Nat):Int) - 1)) _ h E hE)
noncomputable def C_65 (n:Nat):Code:=cat (bodyOf Try.f45) (pth n)
theorem g_r01_minus_J2_ok (N:Nat) (a:List Int) (b:List Int) (out:List Int) (i:Int) (K_g_r01_minus_L1:(List Int)→Int→Int→Option ((List Int)))
    (hK_g_r01_minus_L1:∀ (out:List Int) (borrow:Int) (i:Int) (r:(List Int)),K_g_r01_minus_L1 out borrow i = some r→∀ E,EnvOk E 0→Runs Try.prog E 45 35 (SPost E [] (encL cI 0 r)) [.code (C_65 244),.inLoop (C_65 244),.inBlock 0,.code (C_65 31)] ⟨[(0,(encL cI 0 a)),(1,(encL cI 0 b)),(5,(.os 0 0 out.length)),(6,(aI borrow)),(7,(aI i))],[(0,aO 1 cI 0 out)],1⟩) (borrow2:Int) (s:Int) (r:(List Int)) (h:g_r01_minus_J2 N a b out i K_g_r01_minus_L1 borrow2 s = some r):∀ E,EnvOk E 0→Runs Try.prog E 45 35 (SPost E [] (encL cI 0 r)) [.code (C_65 15655),.inBlock 1,.code (C_65 979),.inLoop (C_65 244),.inBlock 0,.code (C_65 31)] ⟨[(0,(encL cI 0 a)),(1,(encL cI 0 b)),(5,(.os 0 0 out.length)),(6,(aI borrow2)),(7,(aI i)),(8,(aI s))],[(0,aO 1 cI 0 out)],1⟩:=by
  intro E hE
  unfold g_r01_minus_J2 at h
  obtain ⟨c2,h⟩:=ifSome h
  refine Runs.sR hE ⟨[(0,(encL cI 0 a)),(1,(encL cI 0 b)),(5,(.os 49 0 ((out ++ ([s]:List Int)).length))),(6,(aI borrow2)),(7,(aI i))],[(49,aO 1 cI 0 (out ++ ([s]:List Int)))],81⟩ (C_65 15655) [] [] (kp [0,1] ++ [(5,.osl ((out ++ ([s]:List Int)).length))] ++ kp [6,7]) [(49,.arr 49 ((out ++ ([s]:List Int)).length) (fun zi=>cI ((out ++ ([s]:List Int)).getD zi 0)))] 81 [out.length = out.length,(out.length+1) * 8≤140737488355328,0+1≤1,∀ zi,zi < 1→AV.oneL ((fun zi=>([[(aI s)]]:List (List AV)).getD zi []) (addz 0 zi)) = true,(out.length+1) = (out ++ ([s]:List Int)).length,out.length+1 = (out ++ ([s]:List Int)).length,∀ zi,zi < (out ++ ([s]:List Int)).length→(fun zi=>cI ((out ++ ([s]:List Int)).getD zi 0)) zi = ((fun zm=>if zm < out.length then (fun zi=>cI (out.getD zi 0)) zm else (fun zi=>([[(aI s)]]:List (List AV)).getD zi []) (zm - out.length))) zi] ⟨rfl,c2,z0,(oneN rfl),(len_app_raw rfl rfl),(len_app_raw rfl rfl),(get_app_raw cI 0 out ([s]:List Int) rfl (fun _ _=>rfl) (fun zq hzq=>get_chunk cI 0 ([s]:List Int) zq hzq)),trivial⟩ ?_
  refine Runs.sA 1 [.code (C_65 979),.inLoop (C_65 244),.inBlock 0,.code (C_65 31)] ?_
  refine Runs.sR hE ⟨[(0,(encL cI 0 a)),(1,(encL cI 0 b)),(5,(.os 49 0 ((out ++ ([s]:List Int)).length))),(6,(aI borrow2)),(7,(aI (w64 (i+1))))],[(49,aO 1 cI 0 (out ++ ([s]:List Int)))],129⟩ (C_65 979) [] [] (kp [0,1,5,6,7]) (kq [49]) 129 [] trivial ?_
  refine Runs.sA 1 [.code (C_65 244),.inLoop (C_65 244),.inBlock 0,.code (C_65 31)] ?_
  exact Runs.sW hE _ [] (kp [0,1,5,6,7]) [(0,.keep 49)] 1 [] trivial (hK_g_r01_minus_L1 (out ++ ([s]:List Int)) borrow2 (w64 (i+1)) _ h E hE)
theorem g_r01_minus_L1_ok (N:Nat) (a:List Int) (b:List Int) (fuel:Nat):∀ (out:List Int) (borrow:Int) (i:Int) (r:(List Int)),g_r01_minus_L1 N a b fuel out borrow i = some r→∀ E,EnvOk E 0→Runs Try.prog E 45 35 (SPost E [] (encL cI 0 r)) [.code (C_65 244),.inLoop (C_65 244),.inBlock 0,.code (C_65 31)] ⟨[(0,(encL cI 0 a)),(1,(encL cI 0 b)),(5,(.os 0 0 out.length)),(6,(aI borrow)),(7,(aI i))],[(0,aO 1 cI 0 out)],1⟩:=by
  induction fuel with
  | zero=>intro _ _ _ r h; rw [g_r01_minus_L1.eq_1] at h; cases h
  | succ fuel ih =>
    intro out borrow i r h E hE
    rw [g_r01_minus_L1.eq_2] at h
    refine Runs.sA 2 [.code (C_65 976),.code (C_65 977),.code (C_65 489),.inLoop (C_65 244),.inBlock 0,.code (C_65 31)] ?_
    refine Runs.sR hE ⟨[(0,(encL cI 0 a)),(1,(encL cI 0 b)),(5,(.os 0 0 out.length)),(6,(aI borrow)),(7,(aI i)),(12,(aB (decide (i < ((a.length:Nat):Int)))))],[(0,aO 1 cI 0 out)],65⟩ (C_65 976) [] [] (kp [0,1,5,6,7,12]) (kq [0]) 65 [] trivial ?_
    refine Runs.sC 12 (C_65 1954) (C_65 1955) (decide (i < ((a.length:Nat):Int))) (fun hq2=>?_) (fun hq2=>?_)
    · have h:=condT h hq2
      refine Runs.sA 4 [.code (C_65 3912),.code (C_65 3913),.inBlock 1,.code (C_65 979),.inLoop (C_65 244),.inBlock 0,.code (C_65 31)] ?_
      obtain ⟨c,h⟩:=ifSome h
      obtain ⟨rdigit,hr,h⟩:=bindSome h
      refine Runs.sR hE ⟨[(0,(encL cI 0 a)),(1,(encL cI 0 b)),(5,(.os 0 0 out.length)),(7,(aI i)),(8,(aI (w64 ((w64 ((a.getD ((i).toNat) 0) - rdigit)) - borrow))))],[(0,aO 1 cI 0 out)],241⟩ (C_65 3912) [(6,⟨[],true,(aI rdigit),[],0,false,none⟩)] [] (kp [0,1,5,7,8]) (kq [0]) 241 [0≤i∧i < ((a.length:Nat):Int),Sound Try.prog 59 [(encL cI 0 b),(aI i)] [] 0 (aI rdigit) []] ⟨c,(g_r01_digit_ok N b i rdigit hr),trivial⟩ ?_
      refine Runs.sA 1 [.code (C_65 7826),.code (C_65 7827),.inBlock 1,.code (C_65 979),.inLoop (C_65 244),.inBlock 0,.code (C_65 31)] ?_
      refine Runs.sR hE ⟨[(0,(encL cI 0 a)),(1,(encL cI 0 b)),(5,(.os 0 0 out.length)),(6,(aI 0)),(7,(aI i)),(8,(aI (w64 ((w64 ((a.getD ((i).toNat) 0) - rdigit)) - borrow))))],[(0,aO 1 cI 0 out)],257⟩ (C_65 7826) [] [] (kp [0,1,5,6,7,8]) (kq [0]) 257 [] trivial ?_
      refine Runs.sA 2 [.code (C_65 31308),.code (C_65 31309),.code (C_65 15655),.inBlock 1,.code (C_65 979),.inLoop (C_65 244),.inBlock 0,.code (C_65 31)] ?_
      refine Runs.sR hE ⟨[(0,(encL cI 0 a)),(1,(encL cI 0 b)),(5,(.os 0 0 out.length)),(6,(aI 0)),(7,(aI i)),(8,(aI (w64 ((w64 ((a.getD ((i).toNat) 0) - rdigit)) - borrow)))),(26,(aB (decide ((w64 ((w64 ((a.getD ((i).toNat) 0) - rdigit)) - borrow)) < 0))))],[(0,aO 1 cI 0 out)],289⟩ (C_65 31308) [] [] (kp [0,1,5,6,7,8,26]) (kq [0]) 289 [] trivial ?_
      refine Runs.sC 26 (C_65 62618) (C_65 62619) (decide ((w64 ((w64 ((a.getD ((i).toNat) 0) - rdigit)) - borrow)) < 0)) (fun hq3=>?_) (fun hq3=>?_)
      · have h:=condT h hq3
        refine Runs.sA 1 [.code (C_65 125236),.code (C_65 125237),.code (C_65 15655),.inBlock 1,.code (C_65 979),.inLoop (C_65 244),.inBlock 0,.code (C_65 31)] ?_
        refine Runs.sR hE ⟨[(0,(encL cI 0 a)),(1,(encL cI 0 b)),(5,(.os 0 0 out.length)),(7,(aI i)),(8,(aI (w64 ((w64 ((w64 ((a.getD ((i).toNat) 0) - rdigit)) - borrow))+65536))))],[(0,aO 1 cI 0 out)],337⟩ (C_65 125236) [] [] (kp [0,1,5,7,8]) (kq [0]) 337 [] trivial ?_
        refine Runs.sR hE ⟨[(0,(encL cI 0 a)),(1,(encL cI 0 b)),(5,(.os 0 0 out.length)),(6,(aI 1)),(7,(aI i)),(8,(aI (w64 ((w64 ((w64 ((a.getD ((i).toNat) 0) - rdigit)) - borrow))+65536))))],[(0,aO 1 cI 0 out)],353⟩ (C_65 125237) [] [] (kp [0,1,5,6,7,8]) (kq [0]) 353 [] trivial ?_
        exact Runs.sW hE _ [] (kp [0,1,5,6,7,8]) (kq [0]) 1 [] trivial (g_r01_minus_J2_ok N a b out i (g_r01_minus_L1 N a b fuel) ih 1 (w64 ((w64 ((w64 ((a.getD ((i).toNat) 0) - rdigit)) - borrow))+65536)) _ h E hE)
      · have h:=condF h hq3
        refine Runs.sA 1 [.code (C_65 15655),.inBlock 1,.code (C_65 979),.inLoop (C_65 244),.inBlock 0,.code (C_65 31)] ?_
        exact Runs.sW hE _ [] (kp [0,1,5,6,7,8]) (kq [0]) 1 [] trivial (g_r01_minus_J2_ok N a b out i (g_r01_minus_L1 N a b fuel) ih 0 (w64 ((w64 ((a.getD ((i).toNat) 0) - rdigit)) - borrow)) _ h E hE)
    · have h:=condF h hq2
      refine Runs.sA 2 [.code (C_65 62),.code (C_65 63)] ?_
      obtain ⟨rtrim,hr2,h⟩:=bindSome h
      refine Runs.sR hE ⟨[(4,(encL cI 0 rtrim))],[],113⟩ (C_65 62) [(1,⟨[],true,(encL cI 0 rtrim),[],0,true,none⟩)] [] (kp [4]) [] 113 [Sound Try.prog 58 [(encL cI 0 out)] [] 0 (encL cI 0 rtrim) [],0+out.length≤out.length] ⟨(g_r01_trim_ok N out rtrim hr2),z0,trivial⟩ ?_
      obtain rfl:=Option.some.inj h
      refine Runs.sW hE ⟨[(4,(encL cI 0 rtrim))],[],113⟩ [] (kp [4]) [] 113 [] trivial ?_
      exact Runs.sT Try.f45 [] [] trivial
theorem g_r01_minus_ok (N:Nat) (a:List Int) (b:List Int) (r:(List Int)) (h:g_r01_minus N a b = some r):Sound Try.prog 45 [(encL cI 0 a),(encL cI 0 b)] [] 0 (encL cI 0 r) []:=by
  unfold g_r01_minus at h
  refine Sound.of_runs (fu:=Try.f45) (c:=C_65 1) (nt:=35) (by kernel_rfl) (by kernel_rfl) (by kernel_rfl) (by kernel_rfl) (fun hm=>rfl) ?_
  intro E hE
  refine Runs.sA 1 [.code (C_65 2),.code (C_65 3)] ?_
  refine Runs.sR hE ⟨[(0,(encL cI 0 a)),(1,(encL cI 0 b))],[],16⟩ (C_65 2) [] [] (kp [0,1]) [] 16 [] trivial ?_
  refine Runs.sA 1 [.code (C_65 6),.code (C_65 7)] ?_
  refine Runs.sR hE ⟨[(0,(encL cI 0 a)),(1,(encL cI 0 b)),(5,.nil)],[],32⟩ (C_65 6) [] [] (kp [0,1,5]) [] 32 [] trivial ?_
  refine Runs.sA 1 [.code (C_65 14),.code (C_65 15)] ?_
  refine Runs.sR hE ⟨[(0,(encL cI 0 a)),(1,(encL cI 0 b)),(5,.nil),(6,(aI 0))],[],48⟩ (C_65 14) [] [] (kp [0,1,5,6]) [] 48 [] trivial ?_
  refine Runs.sA 2 [.code (C_65 60),.code (C_65 61),.code (C_65 31)] ?_
  refine Runs.sR hE ⟨[(0,(encL cI 0 a)),(1,(encL cI 0 b)),(5,.nil),(6,(aI 0)),(7,(aI 0))],[],64⟩ (C_65 60) [] [] (kp [0,1,5,6,7]) [] 64 [] trivial ?_
  refine Runs.sA 2 [.code (C_65 244),.inLoop (C_65 244),.inBlock 0,.code (C_65 31)] ?_
  exact Runs.sW hE _ [] (kp [0,1] ++ [(5,.nilos 0)] ++ kp [6,7]) [(0,.nil 1 (fun zi=>cI (([]:List Int).getD zi 0)))] 1 [] trivial (g_r01_minus_L1_ok N a b N ([]:List Int) 0 0 _ h E hE)
noncomputable def C_61 (n:Nat):Code:=cat (bodyOf Try.f42) (pth n)
theorem g_r01_over_J3_ok (N:Nat) (a:List Int) (b:List Int) (q:List Int) (i:Int) (lo:Int) (K_g_r01_over_L1:(List Int)→(List Int)→Int→Option ((List Int) × (List Int)))
    (hK_g_r01_over_L1:∀ (rest:List Int) (q:List Int) (i:Int) (r:(List Int) × (List Int)),K_g_r01_over_L1 rest q i = some r→∀ E,EnvOk E 0→Runs Try.prog E 42 63 (SPost E [] (.tup [(encL cI 0 r.1),(encL cI 0 r.2)])) [.code (C_61 244),.inLoop (C_61 244),.inBlock 0,.code (C_61 31)] ⟨[(0,(encL cI 0 a)),(1,(encL cI 0 b)),(6,(encL cI 0 rest)),(7,(.os 0 0 q.length)),(8,(aI i))],[(0,aO 1 cI 0 q)],1⟩) (rest2:List Int) (r:(List Int) × (List Int)) (h:g_r01_over_J3 N a b q i lo K_g_r01_over_L1 rest2 = some r):∀ E,EnvOk E 0→Runs Try.prog E 42 63 (SPost E [] (.tup [(encL cI 0 r.1),(encL cI 0 r.2)])) [.code (C_61 979),.inLoop (C_61 244),.inBlock 0,.code (C_61 31)] ⟨[(0,(encL cI 0 a)),(1,(encL cI 0 b)),(6,(encL cI 0 rest2)),(7,(.os 0 0 ((q.set ((i).toNat) lo).length))),(8,(aI i))],[(0,aO 1 cI 0 (q.set ((i).toNat) lo))],1⟩:=by
  intro E hE
  unfold g_r01_over_J3 at h
  refine Runs.sR hE ⟨[(0,(encL cI 0 a)),(1,(encL cI 0 b)),(6,(encL cI 0 rest2)),(7,(.os 0 0 ((q.set ((i).toNat) lo).length))),(8,(aI (w64 (i - 1))))],[(0,aO 1 cI 0 (q.set ((i).toNat) lo))],49⟩ (C_61 979) [] [] (kp [0,1,6,7,8]) (kq [0]) 49 [] trivial ?_
  refine Runs.sA 1 [.code (C_61 244),.inLoop (C_61 244),.inBlock 0,.code (C_61 31)] ?_
  exact Runs.sW hE _ [] (kp [0,1,6,7,8]) (kq [0]) 1 [] trivial (hK_g_r01_over_L1 rest2 (q.set ((i).toNat) lo) (w64 (i - 1)) _ h E hE)
theorem g_r01_over_L2_ok (N:Nat) (a:List Int) (b:List Int) (q:List Int) (i:Int) (rtrim:(List Int)) (K_g_r01_over_L1:(List Int)→(List Int)→Int→Option ((List Int) × (List Int)))
    (hK_g_r01_over_L1:∀ (rest:List Int) (q:List Int) (i:Int) (r:(List Int) × (List Int)),K_g_r01_over_L1 rest q i = some r→∀ E,EnvOk E 0→Runs Try.prog E 42 63 (SPost E [] (.tup [(encL cI 0 r.1),(encL cI 0 r.2)])) [.code (C_61 244),.inLoop (C_61 244),.inBlock 0,.code (C_61 31)] ⟨[(0,(encL cI 0 a)),(1,(encL cI 0 b)),(6,(encL cI 0 rest)),(7,(.os 0 0 q.length)),(8,(aI i))],[(0,aO 1 cI 0 q)],1⟩) (fuel:Nat):∀ (lo:Int) (hi:Int) (r:(List Int) × (List Int)),g_r01_over_L2 N a b q i rtrim K_g_r01_over_L1 fuel lo hi = some r→∀ E,EnvOk E 0→Runs Try.prog E 42 63 (SPost E [] (.tup [(encL cI 0 r.1),(encL cI 0 r.2)])) [.code (C_61 62616),.inLoop (C_61 62616),.inBlock 2,.code (C_61 15655),.inBlock 1,.code (C_61 979),.inLoop (C_61 244),.inBlock 0,.code (C_61 31)] ⟨[(0,(encL cI 0 a)),(1,(encL cI 0 b)),(6,(encL cI 0 rtrim)),(7,(.os 0 0 q.length)),(8,(aI i)),(9,(aI lo)),(10,(aI hi))],[(0,aO 1 cI 0 q)],1⟩:=by
  induction fuel with
  | zero=>intro _ _ r h; rw [g_r01_over_L2.eq_1] at h; cases h
  | succ fuel ih =>
    intro lo hi r h E hE
    rw [g_r01_over_L2.eq_2] at h
    refine Runs.sA 2 [.code (C_61 250464),.code (C_61 250465),.code (C_61 125233),.inLoop (C_61 62616),.inBlock 2,.code (C_61 15655),.inBlock 1,.code (C_61 979),.inLoop (C_61 244),.inBlock 0,.code (C_61 31)] ?_
    refine Runs.sR hE ⟨[(0,(encL cI 0 a)),(1,(encL cI 0 b)),(6,(encL cI 0 rtrim)),(7,(.os 0 0 q.length)),(8,(aI i)),(9,(aI lo)),(10,(aI hi)),(32,(aB (decide (lo < hi))))],[(0,aO 1 cI 0 q)],49⟩ (C_61 250464) [] [] (kp [0,1,6,7,8,9,10,32]) (kq [0]) 49 [] trivial ?_
    refine Runs.sC 32 (C_61 500930) (C_61 500931) (decide (lo < hi)) (fun hq3=>?_) (fun hq3=>?_)
    · have h:=condT h hq3
      refine Runs.sA 3 [.code (C_61 500932),.code (C_61 500933),.inBlock 3,.inLoop (C_61 62616),.inBlock 2,.code (C_61 15655),.inBlock 1,.code (C_61 979),.inLoop (C_61 244),.inBlock 0,.code (C_61 31)] ?_
      refine Runs.sR hE ⟨[(0,(encL cI 0 a)),(1,(encL cI 0 b)),(6,(encL cI 0 rtrim)),(7,(.os 0 0 q.length)),(8,(aI i)),(9,(aI lo)),(10,(aI hi)),(11,(aI (w64 ((w64 ((w64 (lo+hi))+1)).tdiv 2))))],[(0,aO 1 cI 0 q)],145⟩ (C_61 500932) [] [] (kp [0,1,6,7,8,9,10,11]) (kq [0]) 145 [(2:Int) ≠ 0] ⟨(by decide),trivial⟩ ?_
      refine Runs.sA 1 [.code (C_61 1001866),.code (C_61 1001867),.inBlock 3,.inLoop (C_61 62616),.inBlock 2,.code (C_61 15655),.inBlock 1,.code (C_61 979),.inLoop (C_61 244),.inBlock 0,.code (C_61 31)] ?_
      obtain ⟨rtimes,hr2,h⟩:=bindSome h
      obtain ⟨rcompare,hr3,h⟩:=bindSome h
      refine Runs.sR hE ⟨[(0,(encL cI 0 a)),(1,(encL cI 0 b)),(6,(encL cI 0 rtrim)),(7,(.os 0 0 q.length)),(8,(aI i)),(9,(aI lo)),(10,(aI hi)),(11,(aI (w64 ((w64 ((w64 (lo+hi))+1)).tdiv 2)))),(44,(aB (decide (rcompare≤0))))],[(0,aO 1 cI 0 q)],257⟩ (C_61 1001866) [(3,⟨[],true,(encL cI 0 rtimes),[],0,true,none⟩),(5,⟨[],true,(aI rcompare),[],0,false,none⟩)] [] (kp [0,1,6,7,8,9,10,11,44]) (kq [0]) 257 [Sound Try.prog 46 [(encL cI 0 b),(.sl 1 (fun zi=>(fun zi=>([[(aI (w64 ((w64 ((w64 (lo+hi))+1)).tdiv 2)))]]:List (List AV)).getD zi []) (addz 0 zi)))] [] 0 (encL cI 0 rtimes) [],0+1≤1,Sound Try.prog 44 [(encL cI 0 rtimes),(encL cI 0 rtrim)] [] 0 (aI rcompare) []] ⟨(Sound.conv (g_r01_times_ok N b ([(w64 ((w64 ((w64 (lo+hi))+1)).tdiv 2))]:List Int) rtimes hr2) (.cons (Alike.refl _) (.cons (Alike.sl rfl (fun zq hzq=>get_chunk cI 0 ([(w64 ((w64 ((w64 (lo+hi))+1)).tdiv 2))]:List Int) zq hzq)) .nil))),z0,(g_r01_compare_ok N rtimes rtrim rcompare hr3),trivial⟩ ?_
      refine Runs.sC 44 (C_61 2003734) (C_61 2003735) (decide (rcompare≤0)) (fun hq4=>?_) (fun hq4=>?_)
      · have h:=condT h hq4
        refine Runs.sR hE ⟨[(0,(encL cI 0 a)),(1,(encL cI 0 b)),(6,(encL cI 0 rtrim)),(7,(.os 0 0 q.length)),(8,(aI i)),(9,(aI (w64 ((w64 ((w64 (lo+hi))+1)).tdiv 2)))),(10,(aI hi))],[(0,aO 1 cI 0 q)],289⟩ (C_61 2003734) [] [] (kp [0,1,6,7,8,9,10]) (kq [0]) 289 [] trivial ?_
        refine Runs.sA 2 [.code (C_61 62616),.inLoop (C_61 62616),.inBlock 2,.code (C_61 15655),.inBlock 1,.code (C_61 979),.inLoop (C_61 244),.inBlock 0,.code (C_61 31)] ?_
        exact Runs.sW hE _ [] (kp [0,1,6,7,8,9,10]) (kq [0]) 1 [] trivial (ih (w64 ((w64 ((w64 (lo+hi))+1)).tdiv 2)) hi _ h E hE)
      · have h:=condF h hq4
        refine Runs.sR hE ⟨[(0,(encL cI 0 a)),(1,(encL cI 0 b)),(6,(encL cI 0 rtrim)),(7,(.os 0 0 q.length)),(8,(aI i)),(9,(aI lo)),(10,(aI (w64 ((w64 ((w64 ((w64 (lo+hi))+1)).tdiv 2)) - 1))))],[(0,aO 1 cI 0 q)],305⟩ (C_61 2003735) [] [] (kp [0,1,6,7,8,9,10]) (kq [0]) 305 [] trivial ?_
        refine Runs.sA 2 [.code (C_61 62616),.inLoop (C_61 62616),.inBlock 2,.code (C_61 15655),.inBlock 1,.code (C_61 979),.inLoop (C_61 244),.inBlock 0,.code (C_61 31)] ?_
        exact Runs.sW hE _ [] (kp [0,1,6,7,8,9,10]) (kq [0]) 1 [] trivial (ih lo (w64 ((w64 ((w64 ((w64 (lo+hi))+1)).tdiv 2)) - 1)) _ h E hE)
    · have h:=condF h hq3
      refine Runs.sA 2 [.code (C_61 31310),.code (C_61 31311),.inBlock 1,.code (C_61 979),.inLoop (C_61 244),.inBlock 0,.code (C_61 31)] ?_
      obtain ⟨c4,h⟩:=ifSome h
      refine Runs.sR hE ⟨[(0,(encL cI 0 a)),(1,(encL cI 0 b)),(6,(encL cI 0 rtrim)),(7,(.os 0 0 ((q.set ((i).toNat) lo).length))),(8,(aI i)),(9,(aI lo))],[(0,aO 1 cI 0 (q.set ((i).toNat) lo))],129⟩ (C_61 31310) [] [] (kp [0,1,6] ++ [(7,.osl ((q.set ((i).toNat) lo).length))] ++ kp [8,9]) [(0,.arr 0 ((q.set ((i).toNat) lo).length) (fun zi=>cI ((q.set ((i).toNat) lo).getD zi 0)))] 129 [0≤i∧i < ((q.length:Nat):Int),(i).toNat < q.length,q.length = (q.set ((i).toNat) lo).length,q.length = (q.set ((i).toNat) lo).length,∀ zi,zi < (q.set ((i).toNat) lo).length→(fun zi=>cI ((q.set ((i).toNat) lo).getD zi 0)) zi = ((fun zm=>if zm = (i).toNat then [(aI lo)] else (fun zi=>cI (q.getD zi 0)) zm)) zi] ⟨c4,(ltOf c4),(len_set_raw rfl),(len_set_raw rfl),(get_set_raw cI 0 q ((i).toNat) lo (fun _ _=>rfl)),trivial⟩ ?_
      refine Runs.sA 1 [.code (C_61 62622),.code (C_61 62623),.inBlock 1,.code (C_61 979),.inLoop (C_61 244),.inBlock 0,.code (C_61 31)] ?_
      refine Runs.sR hE ⟨[(0,(encL cI 0 a)),(1,(encL cI 0 b)),(6,(encL cI 0 rtrim)),(7,(.os 0 0 ((q.set ((i).toNat) lo).length))),(8,(aI i)),(9,(aI lo)),(53,(aB (decide (lo > 0))))],[(0,aO 1 cI 0 (q.set ((i).toNat) lo))],161⟩ (C_61 62622) [] [] (kp [0,1,6,7,8,9,53]) (kq [0]) 161 [] trivial ?_
      refine Runs.sC 53 (C_61 125246) (C_61 125247) (decide (lo > 0)) (fun hq5=>?_) (fun hq5=>?_)
      · have h:=condT h hq5
        obtain ⟨rtimes2,hr4,h⟩:=bindSome h
        obtain ⟨rminus,hr5,h⟩:=bindSome h
        refine Runs.sR hE ⟨[(0,(encL cI 0 a)),(1,(encL cI 0 b)),(6,(encL cI 0 rminus)),(7,(.os 0 0 ((q.set ((i).toNat) lo).length))),(8,(aI i))],[(0,aO 1 cI 0 (q.set ((i).toNat) lo))],273⟩ (C_61 125246) [(4,⟨[],true,(encL cI 0 rtimes2),[],0,true,none⟩),(5,⟨[],true,(encL cI 0 rminus),[],0,false,none⟩)] [] (kp [0,1,6,7,8]) (kq [0]) 273 [Sound Try.prog 46 [(encL cI 0 b),(.sl 1 (fun zi=>(fun zi=>([[(aI lo)]]:List (List AV)).getD zi []) (addz 0 zi)))] [] 0 (encL cI 0 rtimes2) [],0+1≤1,Sound Try.prog 45 [(encL cI 0 rtrim),(encL cI 0 rtimes2)] [] 0 (encL cI 0 rminus) []] ⟨(Sound.conv (g_r01_times_ok N b ([lo]:List Int) rtimes2 hr4) (.cons (Alike.refl _) (.cons (Alike.sl rfl (fun zq hzq=>get_chunk cI 0 ([lo]:List Int) zq hzq)) .nil))),z0,(g_r01_minus_ok N rtrim rtimes2 rminus hr5),trivial⟩ ?_
        refine Runs.sA 1 [.code (C_61 979),.inLoop (C_61 244),.inBlock 0,.code (C_61 31)] ?_
        exact Runs.sW hE _ [] (kp [0,1,6,7,8]) (kq [0]) 1 [] trivial (g_r01_over_J3_ok N a b q i lo K_g_r01_over_L1 hK_g_r01_over_L1 rminus _ h E hE)
      · have h:=condF h hq5
        refine Runs.sA 2 [.code (C_61 979),.inLoop (C_61 244),.inBlock 0,.code (C_61 31)] ?_
        exact Runs.sW hE _ [] (kp [0,1,6,7,8]) (kq [0]) 1 [] trivial (g_r01_over_J3_ok N a b q i lo K_g_r01_over_L1 hK_g_r01_over_L1 rtrim _ h E hE)
theorem g_r01_over_L1_ok (N:Nat) (a:List Int) (b:List Int) (fuel:Nat):∀ (rest:List Int) (q:List Int) (i:Int) (r:(List Int) × (List Int)),g_r01_over_L1 N a b fuel rest q i = some r→∀ E,EnvOk E 0→Runs Try.prog E 42 63 (SPost E [] (.tup [(encL cI 0 r.1),(encL cI 0 r.2)])) [.code (C_61 244),.inLoop (C_61 244),.inBlock 0,.code (C_61 31)] ⟨[(0,(encL cI 0 a)),(1,(encL cI 0 b)),(6,(encL cI 0 rest)),(7,(.os 0 0 q.length)),(8,(aI i))],[(0,aO 1 cI 0 q)],1⟩:=by
  induction fuel with
  | zero=>intro _ _ _ r h; rw [g_r01_over_L1.eq_1] at h; cases h
  | succ fuel ih =>
    intro rest q i r h E hE
    rw [g_r01_over_L1.eq_2] at h
    refine Runs.sA 2 [.code (C_61 976),.code (C_61 977),.code (C_61 489),.inLoop (C_61 244),.inBlock 0,.code (C_61 31)] ?_
    refine Runs.sR hE ⟨[(0,(encL cI 0 a)),(1,(encL cI 0 b)),(6,(encL cI 0 rest)),(7,(.os 0 0 q.length)),(8,(aI i)),(19,(aB (decide (i ≥ 0))))],[(0,aO 1 cI 0 q)],33⟩ (C_61 976) [] [] (kp [0,1,6,7,8,19]) (kq [0]) 33 [] trivial ?_
    refine Runs.sC 19 (C_61 1954) (C_61 1955) (decide (i ≥ 0)) (fun hq2=>?_) (fun hq2=>?_)
    · have h:=condT h hq2
      refine Runs.sA 4 [.code (C_61 3912),.code (C_61 3913),.inBlock 1,.code (C_61 979),.inLoop (C_61 244),.inBlock 0,.code (C_61 31)] ?_
      obtain ⟨c2,h⟩:=ifSome h
      obtain ⟨c3,h⟩:=ifSome h
      obtain ⟨rtrim,hr,h⟩:=bindSome h
      refine Runs.sR hE ⟨[(0,(encL cI 0 a)),(1,(encL cI 0 b)),(6,(encL cI 0 rtrim)),(7,(.os 0 0 q.length)),(8,(aI i))],[(0,aO 1 cI 0 q)],177⟩ (C_61 3912) [(7,⟨[],true,(encL cI 0 rtrim),[],0,true,none⟩)] [] (kp [0,1,6,7,8]) (kq [0]) 177 [0≤i∧i < ((a.length:Nat):Int),1 = 1,(1+rest.length) * 8≤140737488355328,∀ zi,zi < rest.length→AV.oneL ((fun zi=>cI (rest.getD zi 0)) zi) = true,Sound Try.prog 58 [(.sl (1+rest.length) (fun zi=>((fun zm=>if zm < 1 then (fun zi=>([[(aI (a.getD ((i).toNat) 0))]]:List (List AV)).getD zi []) zm else (fun zi=>cI (rest.getD zi 0)) (zm - 1))) (addz 0 zi)))] [] 0 (encL cI 0 rtrim) [],0+(1+rest.length)≤1+rest.length] ⟨c2,rfl,c3,(fun _ _=>rfl),(Sound.conv (g_r01_trim_ok N (([(a.getD ((i).toNat) 0)]:List Int) ++ rest) rtrim hr) (.cons (Alike.sl (len_app_raw rfl rfl) (get_app_raw cI 0 ([(a.getD ((i).toNat) 0)]:List Int) rest rfl (fun zq hzq=>get_chunk cI 0 ([(a.getD ((i).toNat) 0)]:List Int) zq hzq) (fun _ _=>rfl))) .nil)),z0,trivial⟩ ?_
      refine Runs.sA 1 [.code (C_61 7826),.code (C_61 7827),.inBlock 1,.code (C_61 979),.inLoop (C_61 244),.inBlock 0,.code (C_61 31)] ?_
      refine Runs.sR hE ⟨[(0,(encL cI 0 a)),(1,(encL cI 0 b)),(6,(encL cI 0 rtrim)),(7,(.os 0 0 q.length)),(8,(aI i)),(9,(aI 0)),(10,(aI 65535))],[(0,aO 1 cI 0 q)],209⟩ (C_61 7826) [] [] (kp [0,1,6,7,8,9,10]) (kq [0]) 209 [] trivial ?_
      refine Runs.sA 3 [.code (C_61 62616),.inLoop (C_61 62616),.inBlock 2,.code (C_61 15655),.inBlock 1,.code (C_61 979),.inLoop (C_61 244),.inBlock 0,.code (C_61 31)] ?_
      exact Runs.sW hE _ [] (kp [0,1,6,7,8,9,10]) (kq [0]) 1 [] trivial (g_r01_over_L2_ok N a b q i rtrim (g_r01_over_L1 N a b fuel) ih N 0 65535 _ h E hE)
    · have h:=condF h hq2
      refine Runs.sA 2 [.code (C_61 62),.code (C_61 63)] ?_
      obtain ⟨rtrim2,hr6,h⟩:=bindSome h
      refine Runs.sR hE ⟨[(4,(encL cI 0 rtrim2)),(5,(encL cI 0 rest))],[],113⟩ (C_61 62) [(1,⟨[],true,(encL cI 0 rtrim2),[],0,true,none⟩)] [] (kp [4,5]) [] 113 [Sound Try.prog 58 [(encL cI 0 q)] [] 0 (encL cI 0 rtrim2) [],0+q.length≤q.length] ⟨(g_r01_trim_ok N q rtrim2 hr6),z0,trivial⟩ ?_
      obtain rfl:=Option.some.inj h
      refine Runs.sW hE ⟨[(4,(encL cI 0 rtrim2)),(5,(encL cI 0 rest))],[],113⟩ [] (kp [4,5]) [] 113 [] trivial ?_
      exact Runs.sT Try.f42 [] [] trivial
theorem g_r01_over_ok (N:Nat) (a:List Int) (b:List Int) (r:(List Int) × (List Int)) (h:g_r01_over N a b = some r):Sound Try.prog 42 [(encL cI 0 a),(encL cI 0 b)] [] 0 (.tup [(encL cI 0 r.1),(encL cI 0 r.2)]) []:=by
  unfold g_r01_over at h
  refine Sound.of_runs (fu:=Try.f42) (c:=C_61 1) (nt:=63) (by kernel_rfl) (by kernel_rfl) (by kernel_rfl) (by kernel_rfl) (fun hm=>rfl) ?_
  intro E hE
  refine Runs.sA 1 [.code (C_61 2),.code (C_61 3)] ?_
  refine Runs.sR hE ⟨[(0,(encL cI 0 a)),(1,(encL cI 0 b))],[],32⟩ (C_61 2) [] [] (kp [0,1]) [] 32 [] trivial ?_
  refine Runs.sA 1 [.code (C_61 6),.code (C_61 7)] ?_
  refine Runs.sR hE ⟨[(0,(encL cI 0 a)),(1,(encL cI 0 b)),(6,.nil)],[],48⟩ (C_61 6) [] [] (kp [0,1,6]) [] 48 [] trivial ?_
  refine Runs.sA 1 [.code (C_61 14),.code (C_61 15)] ?_
  obtain ⟨c,h⟩:=ifSome h
  refine Runs.sR hE ⟨[(0,(encL cI 0 a)),(1,(encL cI 0 b)),(6,.nil),(7,(.os 80 0 ((List.replicate a.length 0:List Int).length)))],[(80,aO 1 cI 0 (List.replicate a.length 0:List Int))],112⟩ (C_61 14) [] [] (kp [0,1,6] ++ [(7,.osl ((List.replicate a.length 0:List Int).length))]) [(80,.arr 80 ((List.replicate a.length 0:List Int).length) (fun zi=>cI ((List.replicate a.length 0:List Int).getD zi 0)))] 112 [0≤((a.length:Nat):Int),((a.length:Nat):Int)≤((a.length:Nat):Int),(8:Int) * ((a.length:Nat):Int)≤281474976710656,((a.length:Nat):Int)≤9223372036854775807,a.length = (List.replicate a.length 0:List Int).length,a.length = (List.replicate a.length 0:List Int).length,∀ zi,zi < (List.replicate a.length 0:List Int).length→(fun zi=>cI ((List.replicate a.length 0:List Int).getD zi 0)) zi = (fun _=>[(aI 0)]) zi] ⟨c.1,(Int.le_refl _),c.2.1,c.2.2,(List.length_replicate).symm,(List.length_replicate).symm,(fun zq hzq=>get_rep cI 0 0 a.length zq hzq),trivial⟩ ?_
  refine Runs.sA 2 [.code (C_61 60),.code (C_61 61),.code (C_61 31)] ?_
  refine Runs.sR hE ⟨[(0,(encL cI 0 a)),(1,(encL cI 0 b)),(6,.nil),(7,(.os 80 0 ((List.replicate a.length 0:List Int).length))),(8,(aI (w64 (((a.length:Nat):Int) - 1))))],[(80,aO 1 cI 0 (List.replicate a.length 0:List Int))],176⟩ (C_61 60) [] [] (kp [0,1,6,7,8]) (kq [80]) 176 [] trivial ?_
  refine Runs.sA 2 [.code (C_61 244),.inLoop (C_61 244),.inBlock 0,.code (C_61 31)] ?_
  exact Runs.sW hE _ [] (kp [0,1] ++ [(6,.sl (([]:List Int).length) (fun zi=>cI (([]:List Int).getD zi 0)))] ++ kp [7,8]) [(0,.keep 80)] 1 [([]:List Int).length = 0] ⟨rfl,trivial⟩ (g_r01_over_L1_ok N a b N ([]:List Int) (List.replicate a.length 0:List Int) (w64 (((a.length:Nat):Int) - 1)) _ h E hE)
noncomputable def C_60 (n:Nat):Code:=cat (bodyOf Try.f41) (pth n)
theorem g_r01_gcd_L1_ok (N:Nat) (fuel:Nat):∀ (a2:List Int) (b2:List Int) (r:(List Int)),g_r01_gcd_L1 N fuel a2 b2 = some r→∀ E,EnvOk E 0→Runs Try.prog E 41 19 (SPost E [] (encL cI 0 r)) [.code (C_60 24),.inLoop (C_60 24),.inBlock 0,.code (C_60 7)] ⟨[(0,(encL cI 0 a2)),(1,(encL cI 0 b2))],[],0⟩:=by
  induction fuel with
  | zero=>intro _ _ r h; rw [g_r01_gcd_L1.eq_1] at h; cases h
  | succ fuel ih =>
    intro a2 b2 r h E hE
    rw [g_r01_gcd_L1.eq_2] at h
    refine Runs.sA 2 [.code (C_60 96),.code (C_60 97),.code (C_60 49),.inLoop (C_60 24),.inBlock 0,.code (C_60 7)] ?_
    refine Runs.sR hE ⟨[(0,(encL cI 0 a2)),(1,(encL cI 0 b2)),(9,(aB (decide (((b2.length:Nat):Int) > 0))))],[],48⟩ (C_60 96) [] [] (kp [0,1,9]) [] 48 [] trivial ?_
    refine Runs.sC 9 (C_60 194) (C_60 195) (decide (((b2.length:Nat):Int) > 0)) (fun hq2=>?_) (fun hq2=>?_)
    · have h:=condT h hq2
      refine Runs.sA 3 [.code (C_60 196),.code (C_60 197),.inBlock 1,.inLoop (C_60 24),.inBlock 0,.code (C_60 7)] ?_
      obtain ⟨rover,hr,h⟩:=bindSome h
      refine Runs.sR hE ⟨[(1,(encL cI 0 b2)),(6,(encL cI 0 rover.2))],[],176⟩ (C_60 196) [(2,⟨[],true,(.tup [(encL cI 0 rover.1),(encL cI 0 rover.2)]),[],0,false,none⟩)] [] (kp [1,6]) [] 176 [Sound Try.prog 42 [(encL cI 0 a2),(encL cI 0 b2)] [] 0 (.tup [(encL cI 0 rover.1),(encL cI 0 rover.2)]) []] ⟨(g_r01_over_ok N a2 b2 rover hr),trivial⟩ ?_
      refine Runs.sR hE ⟨[(0,(encL cI 0 b2)),(1,(encL cI 0 rover.2))],[],240⟩ (C_60 197) [] [] (kp [0,1]) [] 240 [] trivial ?_
      refine Runs.sA 2 [.code (C_60 24),.inLoop (C_60 24),.inBlock 0,.code (C_60 7)] ?_
      exact Runs.sW hE _ [] (kp [0,1]) [] 0 [] trivial (ih b2 rover.2 _ h E hE)
    · have h:=condF h hq2
      refine Runs.sA 2 [.code (C_60 14),.code (C_60 15)] ?_
      refine Runs.sR hE ⟨[(4,(encL cI 0 a2))],[],80⟩ (C_60 14) [] [] (kp [4]) [] 80 [] trivial ?_
      obtain rfl:=Option.some.inj h
      refine Runs.sW hE ⟨[(4,(encL cI 0 a2))],[],80⟩ [] (kp [4]) [] 80 [] trivial ?_
      exact Runs.sT Try.f41 [] [] trivial
theorem g_r01_gcd_ok (N:Nat) (a:List Int) (b:List Int) (r:(List Int)) (h:g_r01_gcd N a b = some r):Sound Try.prog 41 [(encL cI 0 a),(encL cI 0 b)] [] 0 (encL cI 0 r) []:=by
  unfold g_r01_gcd at h
  refine Sound.of_runs (fu:=Try.f41) (c:=C_60 1) (nt:=19) (by kernel_rfl) (by kernel_rfl) (by kernel_rfl) (by kernel_rfl) (fun hm=>rfl) ?_
  intro E hE
  refine Runs.sA 1 [.code (C_60 2),.code (C_60 3)] ?_
  refine Runs.sR hE ⟨[(0,(encL cI 0 a)),(1,(encL cI 0 b))],[],16⟩ (C_60 2) [] [] (kp [0,1]) [] 16 [] trivial ?_
  refine Runs.sA 3 [.code (C_60 24),.inLoop (C_60 24),.inBlock 0,.code (C_60 7)] ?_
  exact Runs.sW hE _ [] (kp [0,1]) [] 0 [] trivial (g_r01_gcd_L1_ok N N a b _ h E hE)
noncomputable def C_55 (n:Nat):Code:=cat (bodyOf Try.f24) (pth n)
theorem g_r01_Over_ok (N:Nat) (a:TInt) (b:TInt) (r:TRat) (h:g_r01_Over N a b = some r):Sound Try.prog 24 [(.agg (TInt.cells a)),(.agg (TInt.cells b))] [] 0 (.agg (TRat.cells r)) []:=by
  unfold g_r01_Over at h
  refine Sound.of_runs (fu:=Try.f24) (c:=C_55 1) (nt:=52) (by kernel_rfl) (by kernel_rfl) (by kernel_rfl) (by kernel_rfl) (fun hm=>rfl) ?_
  intro E hE
  refine Runs.sA 1 [.code (C_55 2),.code (C_55 3)] ?_
  refine Runs.sR hE ⟨[(2,(.op 0 0 0)),(3,(.op 16 0 0)),(4,(.op 32 0 0))],[(0,vO 2 (TInt.cells a)),(16,vO 2 (TInt.cells b)),(32,vO 4 [(aB false),.nil,(aB false),.nil])],48⟩ (C_55 2) [] [] (kp [2,3,4]) (kq [0,16,32]) 48 [] trivial ?_
  refine Runs.sA 1 [.code (C_55 6),.code (C_55 7)] ?_
  obtain ⟨rread,hr,h⟩:=bindSome h
  obtain ⟨rread2,hr2,h⟩:=bindSome h
  refine Runs.sR hE ⟨[(2,(.op 0 0 0)),(3,(.op 16 0 0)),(4,(.op 32 0 0)),(5,(encL cI 0 rread)),(6,(encL cI 0 rread2))],[(0,vO 2 (TInt.cells a)),(16,vO 2 (TInt.cells b)),(32,vO 4 [(aB false),.nil,(aB false),.nil])],176⟩ (C_55 6) [(2,⟨[],true,(encL cI 0 rread),[],0,false,none⟩),(5,⟨[],true,(encL cI 0 rread2),[],0,false,none⟩)] [] (kp [2,3,4,5,6]) (kq [0,16,32]) 176 [0 < 1,Sound Try.prog 38 [(encL (cU .u16) 0 a.f_Limbs)] [] 0 (encL cI 0 rread) [],0 < 1,Sound Try.prog 38 [(encL (cU .u16) 0 b.f_Limbs)] [] 0 (encL cI 0 rread2) []] ⟨o1,(g_r01_read_ok N a.f_Limbs rread hr),o1,(g_r01_read_ok N b.f_Limbs rread2 hr2),trivial⟩ ?_
  refine Runs.sA 2 [.code (C_55 28),.code (C_55 29),.code (C_55 15)] ?_
  refine Runs.sR hE ⟨[(2,(.op 0 0 0)),(3,(.op 16 0 0)),(4,(.op 32 0 0)),(5,(encL cI 0 rread)),(6,(encL cI 0 rread2)),(20,(aB (((rread2.length:Nat):Int) == 0)))],[(0,vO 2 (TInt.cells a)),(16,vO 2 (TInt.cells b)),(32,vO 4 [(aB false),.nil,(aB false),.nil])],224⟩ (C_55 28) [] [] (kp [2,3,4,5,6,20]) (kq [0,16,32]) 224 [] trivial ?_
  refine Runs.sC 20 (C_55 58) (C_55 59) (((rread2.length:Nat):Int) == 0) (fun hq2=>?_) (fun hq2=>?_)
  · have h:=condT h hq2
    refine Runs.sA 1 [.code (C_55 116),.code (C_55 117),.code (C_55 15)] ?_
    obtain ⟨rmade,hr3,h⟩:=bindSome h
    obtain ⟨rOf,hr4,h⟩:=bindSome h
    refine Runs.sR hE ⟨[(4,(.op 32 0 0))],[(32,vO 4 [(aB rmade.f_Neg),(encL (cU .u16) 0 rmade.f_Limbs),(aB rOf.f_Neg),(encL (cU .u16) 0 rOf.f_Limbs)])],336⟩ (C_55 116) [(3,⟨[],true,(.agg (TInt.cells rmade)),[],0,false,none⟩),(4,⟨[],true,(.agg (TInt.cells rOf)),[],0,false,none⟩)] [] (kp [4]) (kq [32]) 336 [0 < 1,Sound Try.prog 39 [(aB a.f_Neg),(encL cI 0 rread)] [] 0 (.agg (TInt.cells rmade)) [],Sound Try.prog 40 [(aI 1)] [] 0 (.agg (TInt.cells rOf)) [],0 < 1] ⟨o1,(g_r01_made_ok N a.f_Neg rread rmade hr3),(g_r01_Of_ok N 1 rOf hr4),o1,trivial⟩ ?_
    obtain rfl:=Option.some.inj h
    refine Runs.sW hE ⟨[(4,(.op 16 0 0))],[(16,vO 4 [(aB rmade.f_Neg),(encL (cU .u16) 0 rmade.f_Limbs),(aB rOf.f_Neg),(encL (cU .u16) 0 rOf.f_Limbs)])],336⟩ [] (kp [4]) [(16,.keep 32)] 336 [] trivial ?_
    exact Runs.sT Try.f24 [16] [0 < 1] ⟨o1,trivial⟩
  · have h:=condF h hq2
    refine Runs.sA 2 [.code (C_55 30),.code (C_55 31)] ?_
    obtain ⟨rgcd,hr5,h⟩:=bindSome h
    refine Runs.sR hE ⟨[(2,(.op 0 0 0)),(3,(.op 16 0 0)),(4,(.op 32 0 0)),(5,(encL cI 0 rread)),(6,(encL cI 0 rread2)),(7,(encL cI 0 rgcd))],[(0,vO 2 (TInt.cells a)),(16,vO 2 (TInt.cells b)),(32,vO 4 [(aB false),.nil,(aB false),.nil])],288⟩ (C_55 30) [(2,⟨[],true,(encL cI 0 rgcd),[],0,false,none⟩)] [] (kp [2,3,4,5,6,7]) (kq [0,16,32]) 288 [Sound Try.prog 41 [(encL cI 0 rread),(encL cI 0 rread2)] [] 0 (encL cI 0 rgcd) []] ⟨(g_r01_gcd_ok N rread rread2 rgcd hr5),trivial⟩ ?_
    refine Runs.sA 1 [.code (C_55 62),.code (C_55 63)] ?_
    obtain ⟨rover,hr6,h⟩:=bindSome h
    refine Runs.sR hE ⟨[(2,(.op 0 0 0)),(3,(.op 16 0 0)),(4,(.op 32 0 0)),(6,(encL cI 0 rread2)),(7,(encL cI 0 rgcd)),(8,(encL cI 0 rover.1))],[(0,vO 2 (TInt.cells a)),(16,vO 2 (TInt.cells b)),(32,vO 4 [(aB false),.nil,(aB false),.nil])],416⟩ (C_55 62) [(2,⟨[],true,(.tup [(encL cI 0 rover.1),(encL cI 0 rover.2)]),[],0,false,none⟩)] [] (kp [2,3,4,6,7,8]) (kq [0,16,32]) 416 [Sound Try.prog 42 [(encL cI 0 rread),(encL cI 0 rgcd)] [] 0 (.tup [(encL cI 0 rover.1),(encL cI 0 rover.2)]) []] ⟨(g_r01_over_ok N rread rgcd rover hr6),trivial⟩ ?_
    refine Runs.sA 1 [.code (C_55 126),.code (C_55 127)] ?_
    obtain ⟨rover2,hr7,h⟩:=bindSome h
    refine Runs.sR hE ⟨[(2,(.op 0 0 0)),(3,(.op 16 0 0)),(4,(.op 32 0 0)),(8,(encL cI 0 rover.1)),(10,(encL cI 0 rover2.1))],[(0,vO 2 (TInt.cells a)),(16,vO 2 (TInt.cells b)),(32,vO 4 [(aB false),.nil,(aB false),.nil])],544⟩ (C_55 126) [(2,⟨[],true,(.tup [(encL cI 0 rover2.1),(encL cI 0 rover2.2)]),[],0,false,none⟩)] [] (kp [2,3,4,8,10]) (kq [0,16,32]) 544 [Sound Try.prog 42 [(encL cI 0 rread2),(encL cI 0 rgcd)] [] 0 (.tup [(encL cI 0 rover2.1),(encL cI 0 rover2.2)]) []] ⟨(g_r01_over_ok N rread2 rgcd rover2 hr7),trivial⟩ ?_
    refine Runs.sA 1 [.code (C_55 254),.code (C_55 255)] ?_
    obtain ⟨rmade2,hr8,h⟩:=bindSome h
    obtain ⟨rmade3,hr9,h⟩:=bindSome h
    refine Runs.sR hE ⟨[(4,(.op 32 0 0))],[(32,vO 4 [(aB rmade2.f_Neg),(encL (cU .u16) 0 rmade2.f_Limbs),(aB rmade3.f_Neg),(encL (cU .u16) 0 rmade3.f_Limbs)])],720⟩ (C_55 254) [(6,⟨[],true,(.agg (TInt.cells rmade2)),[],0,false,none⟩),(8,⟨[],true,(.agg (TInt.cells rmade3)),[],0,false,none⟩)] [] (kp [4]) (kq [32]) 720 [0 < 1,0 < 1,Sound Try.prog 39 [(aB (!(a.f_Neg == b.f_Neg))),(encL cI 0 rover.1)] [] 0 (.agg (TInt.cells rmade2)) [],Sound Try.prog 39 [(aB false),(encL cI 0 rover2.1)] [] 0 (.agg (TInt.cells rmade3)) [],0 < 1] ⟨o1,o1,(g_r01_made_ok N (!(a.f_Neg == b.f_Neg)) rover.1 rmade2 hr8),(g_r01_made_ok N false rover2.1 rmade3 hr9),o1,trivial⟩ ?_
    obtain rfl:=Option.some.inj h
    refine Runs.sW hE ⟨[(4,(.op 16 0 0))],[(16,vO 4 [(aB rmade2.f_Neg),(encL (cU .u16) 0 rmade2.f_Limbs),(aB rmade3.f_Neg),(encL (cU .u16) 0 rmade3.f_Limbs)])],720⟩ [] (kp [4]) [(16,.keep 32)] 720 [] trivial ?_
    exact Runs.sT Try.f24 [16] [0 < 1] ⟨o1,trivial⟩
noncomputable def C_54 (n:Nat):Code:=cat (bodyOf Try.f23) (pth n)
theorem g_r01_NormRat_ok (N:Nat) (x:TRat) (r:TRat) (h:g_r01_NormRat N x = some r):Sound Try.prog 23 [(.agg (TRat.cells x))] [] 0 (.agg (TRat.cells r)) []:=by
  unfold g_r01_NormRat at h
  refine Sound.of_runs (fu:=Try.f23) (c:=C_54 1) (nt:=8) (by kernel_rfl) (by kernel_rfl) (by kernel_rfl) (by kernel_rfl) (fun hm=>rfl) ?_
  intro E hE
  refine Runs.sA 1 [.code (C_54 2),.code (C_54 3)] ?_
  refine Runs.sR hE ⟨[(1,(.op 0 0 0)),(2,(.op 16 0 0))],[(0,vO 4 (TRat.cells x)),(16,vO 4 [(aB false),.nil,(aB false),.nil])],32⟩ (C_54 2) [] [] (kp [1,2]) (kq [0,16]) 32 [] trivial ?_
  refine Runs.sA 1 [.code (C_54 6),.code (C_54 7)] ?_
  obtain ⟨rOver,hr,h⟩:=bindSome h
  refine Runs.sR hE ⟨[(2,(.op 16 0 0))],[(16,vO 4 (TRat.cells rOver))],128⟩ (C_54 6) [(4,⟨[],true,(.agg (TRat.cells rOver)),[],0,false,none⟩)] [] (kp [2]) (kq [16]) 128 [0 < 1,0 < 1,Sound Try.prog 24 [(.agg (TInt.cells x.f_Num)),(.agg (TInt.cells x.f_Den))] [] 0 (.agg (TRat.cells rOver)) [],0 < 1] ⟨o1,o1,(g_r01_Over_ok N x.f_Num x.f_Den rOver hr),o1,trivial⟩ ?_
  obtain rfl:=Option.some.inj h
  refine Runs.sW hE ⟨[(2,(.op 16 0 0))],[(16,vO 4 (TRat.cells rOver))],128⟩ [] (kp [2]) (kq [16]) 128 [] trivial ?_
  exact Runs.sT Try.f23 [16] [0 < 1] ⟨o1,trivial⟩
noncomputable def C_66 (n:Nat):Code:=cat (bodyOf Try.f26) (pth n)
theorem g_r01_Mul_ok (N:Nat) (a:TInt) (b:TInt) (r:TInt) (h:g_r01_Mul N a b = some r):Sound Try.prog 26 [(.agg (TInt.cells a)),(.agg (TInt.cells b))] [] 0 (.agg (TInt.cells r)) []:=by
  unfold g_r01_Mul at h
  refine Sound.of_runs (fu:=Try.f26) (c:=C_66 1) (nt:=18) (by kernel_rfl) (by kernel_rfl) (by kernel_rfl) (by kernel_rfl) (fun hm=>rfl) ?_
  intro E hE
  refine Runs.sA 1 [.code (C_66 2),.code (C_66 3)] ?_
  refine Runs.sR hE ⟨[(2,(.op 0 0 0)),(3,(.op 16 0 0)),(4,(.op 32 0 0))],[(0,vO 2 (TInt.cells a)),(16,vO 2 (TInt.cells b)),(32,vO 2 [(aB false),.nil])],48⟩ (C_66 2) [] [] (kp [2,3,4]) (kq [0,16,32]) 48 [] trivial ?_
  refine Runs.sA 1 [.code (C_66 6),.code (C_66 7)] ?_
  obtain ⟨rread,hr,h⟩:=bindSome h
  obtain ⟨rread2,hr2,h⟩:=bindSome h
  obtain ⟨rtimes,hr3,h⟩:=bindSome h
  obtain ⟨rmade,hr4,h⟩:=bindSome h
  refine Runs.sR hE ⟨[(4,(.op 32 0 0))],[(32,vO 2 (TInt.cells rmade))],272⟩ (C_66 6) [(7,⟨[],true,(encL cI 0 rread),[],0,false,none⟩),(10,⟨[],true,(encL cI 0 rread2),[],0,false,none⟩),(11,⟨[],true,(encL cI 0 rtimes),[],0,false,none⟩),(12,⟨[],true,(.agg (TInt.cells rmade)),[],0,false,none⟩)] [] (kp [4]) (kq [32]) 272 [0 < 1,0 < 1,0 < 1,Sound Try.prog 38 [(encL (cU .u16) 0 a.f_Limbs)] [] 0 (encL cI 0 rread) [],0 < 1,Sound Try.prog 38 [(encL (cU .u16) 0 b.f_Limbs)] [] 0 (encL cI 0 rread2) [],Sound Try.prog 46 [(encL cI 0 rread),(encL cI 0 rread2)] [] 0 (encL cI 0 rtimes) [],Sound Try.prog 39 [(aB (!(a.f_Neg == b.f_Neg))),(encL cI 0 rtimes)] [] 0 (.agg (TInt.cells rmade)) [],0 < 1] ⟨o1,o1,o1,(g_r01_read_ok N a.f_Limbs rread hr),o1,(g_r01_read_ok N b.f_Limbs rread2 hr2),(g_r01_times_ok N rread rread2 rtimes hr3),(g_r01_made_ok N (!(a.f_Neg == b.f_Neg)) rtimes rmade hr4),o1,trivial⟩ ?_
  obtain rfl:=Option.some.inj h
  refine Runs.sW hE ⟨[(4,(.op 16 0 0))],[(16,vO 2 (TInt.cells rmade))],272⟩ [] (kp [4]) [(16,.keep 32)] 272 [] trivial ?_
  exact Runs.sT Try.f26 [16] [0 < 1] ⟨o1,trivial⟩
noncomputable def C_68 (n:Nat):Code:=cat (bodyOf Try.f43) (pth n)
theorem g_r01_plus_L1_ok (N:Nat) (a:List Int) (b:List Int) (fuel:Nat):∀ (out:List Int) (carry:Int) (i:Int) (r:(List Int)),g_r01_plus_L1 N a b fuel out carry i = some r→∀ E,EnvOk E 0→Runs Try.prog E 43 43 (SPost E [] (encL cI 0 r)) [.code (C_68 244),.inLoop (C_68 244),.inBlock 0,.code (C_68 31)] ⟨[(0,(encL cI 0 a)),(1,(encL cI 0 b)),(5,(.os 0 0 out.length)),(6,(aI carry)),(7,(aI i))],[(0,aO 1 cI 0 out)],1⟩:=by
  induction fuel with
  | zero=>intro _ _ _ r h; rw [g_r01_plus_L1.eq_1] at h; cases h
  | succ fuel ih =>
    intro out carry i r h E hE
    rw [g_r01_plus_L1.eq_2] at h
    refine Runs.sA 2 [.code (C_68 976),.code (C_68 977),.code (C_68 489),.inLoop (C_68 244),.inBlock 0,.code (C_68 31)] ?_
    refine Runs.sR hE ⟨[(0,(encL cI 0 a)),(1,(encL cI 0 b)),(5,(.os 0 0 out.length)),(6,(aI carry)),(7,(aI i)),(22,(aB (cond (cond (decide (i < ((a.length:Nat):Int))) true (decide (i < ((b.length:Nat):Int)))) true (decide (carry > 0)))))],[(0,aO 1 cI 0 out)],225⟩ (C_68 976) [] [] (kp [0,1,5,6,7,22]) (kq [0]) 225 [(!(decide (i < ((a.length:Nat):Int)))) = true→AllP [(!(decide (i < ((a.length:Nat):Int)))) = true],(!(decide (i < ((a.length:Nat):Int)))) = true→AllP [(!(decide (i < ((a.length:Nat):Int)))) = true,(!(decide (i < ((a.length:Nat):Int)))) = true],(!(decide (i < ((a.length:Nat):Int)))) = true→AllP [(!(decide (i < ((a.length:Nat):Int)))) = true],(!(cond (decide (i < ((a.length:Nat):Int))) true (decide (i < ((b.length:Nat):Int))))) = true→AllP [(!(cond (decide (i < ((a.length:Nat):Int))) true (decide (i < ((b.length:Nat):Int))))) = true],(!(cond (decide (i < ((a.length:Nat):Int))) true (decide (i < ((b.length:Nat):Int))))) = true→AllP [(!(cond (decide (i < ((a.length:Nat):Int))) true (decide (i < ((b.length:Nat):Int))))) = true]] ⟨(fun hg=>⟨hg,trivial⟩),(fun hg=>⟨hg,hg,trivial⟩),(fun hq=>⟨hq,trivial⟩),(fun hg=>⟨hg,trivial⟩),(fun hq=>⟨hq,trivial⟩),trivial⟩ ?_
    refine Runs.sC 22 (C_68 1954) (C_68 1955) (cond (cond (decide (i < ((a.length:Nat):Int))) true (decide (i < ((b.length:Nat):Int)))) true (decide (carry > 0))) (fun hq2=>?_) (fun hq2=>?_)
    · have h:=condT h hq2
      refine Runs.sA 4 [.code (C_68 3912),.code (C_68 3913),.inBlock 1,.code (C_68 979),.inLoop (C_68 244),.inBlock 0,.code (C_68 31)] ?_
      obtain ⟨rdigit,hr,h⟩:=bindSome h
      obtain ⟨rdigit2,hr2,h⟩:=bindSome h
      refine Runs.sR hE ⟨[(0,(encL cI 0 a)),(1,(encL cI 0 b)),(5,(.os 0 0 out.length)),(7,(aI i)),(8,(aI (w64 ((w64 (rdigit+rdigit2))+carry))))],[(0,aO 1 cI 0 out)],385⟩ (C_68 3912) [(2,⟨[],true,(aI rdigit),[],0,false,none⟩),(5,⟨[],true,(aI rdigit2),[],0,false,none⟩)] [] (kp [0,1,5,7,8]) (kq [0]) 385 [Sound Try.prog 59 [(encL cI 0 a),(aI i)] [] 0 (aI rdigit) [],Sound Try.prog 59 [(encL cI 0 b),(aI i)] [] 0 (aI rdigit2) []] ⟨(g_r01_digit_ok N a i rdigit hr),(g_r01_digit_ok N b i rdigit2 hr2),trivial⟩ ?_
      refine Runs.sA 1 [.code (C_68 7826),.code (C_68 7827),.inBlock 1,.code (C_68 979),.inLoop (C_68 244),.inBlock 0,.code (C_68 31)] ?_
      obtain ⟨c,h⟩:=ifSome h
      refine Runs.sR hE ⟨[(0,(encL cI 0 a)),(1,(encL cI 0 b)),(5,(.os 449 0 ((out ++ ([((w64 ((w64 (rdigit+rdigit2))+carry)).tmod 65536)]:List Int)).length))),(7,(aI i)),(8,(aI (w64 ((w64 (rdigit+rdigit2))+carry))))],[(449,aO 1 cI 0 (out ++ ([((w64 ((w64 (rdigit+rdigit2))+carry)).tmod 65536)]:List Int)))],481⟩ (C_68 7826) [] [] (kp [0,1] ++ [(5,.osl ((out ++ ([((w64 ((w64 (rdigit+rdigit2))+carry)).tmod 65536)]:List Int)).length))] ++ kp [7,8]) [(449,.arr 449 ((out ++ ([((w64 ((w64 (rdigit+rdigit2))+carry)).tmod 65536)]:List Int)).length) (fun zi=>cI ((out ++ ([((w64 ((w64 (rdigit+rdigit2))+carry)).tmod 65536)]:List Int)).getD zi 0)))] 481 [(65536:Int) ≠ 0,out.length = out.length,(out.length+1) * 8≤140737488355328,0+1≤1,∀ zi,zi < 1→AV.oneL ((fun zi=>([[(aI ((w64 ((w64 (rdigit+rdigit2))+carry)).tmod 65536))]]:List (List AV)).getD zi []) (addz 0 zi)) = true,(out.length+1) = (out ++ ([((w64 ((w64 (rdigit+rdigit2))+carry)).tmod 65536)]:List Int)).length,out.length+1 = (out ++ ([((w64 ((w64 (rdigit+rdigit2))+carry)).tmod 65536)]:List Int)).length,∀ zi,zi < (out ++ ([((w64 ((w64 (rdigit+rdigit2))+carry)).tmod 65536)]:List Int)).length→(fun zi=>cI ((out ++ ([((w64 ((w64 (rdigit+rdigit2))+carry)).tmod 65536)]:List Int)).getD zi 0)) zi = ((fun zm=>if zm < out.length then (fun zi=>cI (out.getD zi 0)) zm else (fun zi=>([[(aI ((w64 ((w64 (rdigit+rdigit2))+carry)).tmod 65536))]]:List (List AV)).getD zi []) (zm - out.length))) zi] ⟨(by decide),rfl,c,z0,(oneN rfl),(len_app_raw rfl rfl),(len_app_raw rfl rfl),(get_app_raw cI 0 out ([((w64 ((w64 (rdigit+rdigit2))+carry)).tmod 65536)]:List Int) rfl (fun _ _=>rfl) (fun zq hzq=>get_chunk cI 0 ([((w64 ((w64 (rdigit+rdigit2))+carry)).tmod 65536)]:List Int) zq hzq)),trivial⟩ ?_
      refine Runs.sR hE ⟨[(0,(encL cI 0 a)),(1,(encL cI 0 b)),(5,(.os 449 0 ((out ++ ([((w64 ((w64 (rdigit+rdigit2))+carry)).tmod 65536)]:List Int)).length))),(6,(aI (w64 ((w64 ((w64 (rdigit+rdigit2))+carry)).tdiv 65536)))),(7,(aI i))],[(449,aO 1 cI 0 (out ++ ([((w64 ((w64 (rdigit+rdigit2))+carry)).tmod 65536)]:List Int)))],529⟩ (C_68 7827) [] [] (kp [0,1,5,6,7]) (kq [449]) 529 [(65536:Int) ≠ 0] ⟨(by decide),trivial⟩ ?_
      refine Runs.sA 1 [.code (C_68 979),.inLoop (C_68 244),.inBlock 0,.code (C_68 31)] ?_
      refine Runs.sR hE ⟨[(0,(encL cI 0 a)),(1,(encL cI 0 b)),(5,(.os 449 0 ((out ++ ([((w64 ((w64 (rdigit+rdigit2))+carry)).tmod 65536)]:List Int)).length))),(6,(aI (w64 ((w64 ((w64 (rdigit+rdigit2))+carry)).tdiv 65536)))),(7,(aI (w64 (i+1))))],[(449,aO 1 cI 0 (out ++ ([((w64 ((w64 (rdigit+rdigit2))+carry)).tmod 65536)]:List Int)))],577⟩ (C_68 979) [] [] (kp [0,1,5,6,7]) (kq [449]) 577 [] trivial ?_
      refine Runs.sA 1 [.code (C_68 244),.inLoop (C_68 244),.inBlock 0,.code (C_68 31)] ?_
      exact Runs.sW hE _ [] (kp [0,1,5,6,7]) [(0,.keep 449)] 1 [] trivial (ih (out ++ ([((w64 ((w64 (rdigit+rdigit2))+carry)).tmod 65536)]:List Int)) (w64 ((w64 ((w64 (rdigit+rdigit2))+carry)).tdiv 65536)) (w64 (i+1)) _ h E hE)
    · have h:=condF h hq2
      refine Runs.sA 2 [.code (C_68 62),.code (C_68 63)] ?_
      obtain ⟨rtrim,hr3,h⟩:=bindSome h
      refine Runs.sR hE ⟨[(4,(encL cI 0 rtrim))],[],273⟩ (C_68 62) [(1,⟨[],true,(encL cI 0 rtrim),[],0,true,none⟩)] [] (kp [4]) [] 273 [Sound Try.prog 58 [(encL cI 0 out)] [] 0 (encL cI 0 rtrim) [],0+out.length≤out.length] ⟨(g_r01_trim_ok N out rtrim hr3),z0,trivial⟩ ?_
      obtain rfl:=Option.some.inj h
      refine Runs.sW hE ⟨[(4,(encL cI 0 rtrim))],[],273⟩ [] (kp [4]) [] 273 [] trivial ?_
      exact Runs.sT Try.f43 [] [] trivial
theorem g_r01_plus_ok (N:Nat) (a:List Int) (b:List Int) (r:(List Int)) (h:g_r01_plus N a b = some r):Sound Try.prog 43 [(encL cI 0 a),(encL cI 0 b)] [] 0 (encL cI 0 r) []:=by
  unfold g_r01_plus at h
  refine Sound.of_runs (fu:=Try.f43) (c:=C_68 1) (nt:=43) (by kernel_rfl) (by kernel_rfl) (by kernel_rfl) (by kernel_rfl) (fun hm=>rfl) ?_
  intro E hE
  refine Runs.sA 1 [.code (C_68 2),.code (C_68 3)] ?_
  refine Runs.sR hE ⟨[(0,(encL cI 0 a)),(1,(encL cI 0 b))],[],16⟩ (C_68 2) [] [] (kp [0,1]) [] 16 [] trivial ?_
  refine Runs.sA 1 [.code (C_68 6),.code (C_68 7)] ?_
  refine Runs.sR hE ⟨[(0,(encL cI 0 a)),(1,(encL cI 0 b)),(5,.nil)],[],32⟩ (C_68 6) [] [] (kp [0,1,5]) [] 32 [] trivial ?_
  refine Runs.sA 1 [.code (C_68 14),.code (C_68 15)] ?_
  refine Runs.sR hE ⟨[(0,(encL cI 0 a)),(1,(encL cI 0 b)),(5,.nil),(6,(aI 0))],[],48⟩ (C_68 14) [] [] (kp [0,1,5,6]) [] 48 [] trivial ?_
  refine Runs.sA 2 [.code (C_68 60),.code (C_68 61),.code (C_68 31)] ?_
  refine Runs.sR hE ⟨[(0,(encL cI 0 a)),(1,(encL cI 0 b)),(5,.nil),(6,(aI 0)),(7,(aI 0))],[],64⟩ (C_68 60) [] [] (kp [0,1,5,6,7]) [] 64 [] trivial ?_
  refine Runs.sA 2 [.code (C_68 244),.inLoop (C_68 244),.inBlock 0,.code (C_68 31)] ?_
  exact Runs.sW hE _ [] (kp [0,1] ++ [(5,.nilos 0)] ++ kp [6,7]) [(0,.nil 1 (fun zi=>cI (([]:List Int).getD zi 0)))] 1 [] trivial (g_r01_plus_L1_ok N a b N ([]:List Int) 0 0 _ h E hE)
noncomputable def C_67 (n:Nat):Code:=cat (bodyOf Try.f25) (pth n)
theorem g_r01_Add_ok (N:Nat) (a:TInt) (b:TInt) (r:TInt) (h:g_r01_Add N a b = some r):Sound Try.prog 25 [(.agg (TInt.cells a)),(.agg (TInt.cells b))] [] 0 (.agg (TInt.cells r)) []:=by
  unfold g_r01_Add at h
  refine Sound.of_runs (fu:=Try.f25) (c:=C_67 1) (nt:=40) (by kernel_rfl) (by kernel_rfl) (by kernel_rfl) (by kernel_rfl) (fun hm=>rfl) ?_
  intro E hE
  refine Runs.sA 1 [.code (C_67 2),.code (C_67 3)] ?_
  refine Runs.sR hE ⟨[(2,(.op 0 0 0)),(3,(.op 16 0 0)),(4,(.op 32 0 0))],[(0,vO 2 (TInt.cells a)),(16,vO 2 (TInt.cells b)),(32,vO 2 [(aB false),.nil])],48⟩ (C_67 2) [] [] (kp [2,3,4]) (kq [0,16,32]) 48 [] trivial ?_
  refine Runs.sA 1 [.code (C_67 6),.code (C_67 7)] ?_
  obtain ⟨rread,hr,h⟩:=bindSome h
  obtain ⟨rread2,hr2,h⟩:=bindSome h
  refine Runs.sR hE ⟨[(2,(.op 0 0 0)),(3,(.op 16 0 0)),(4,(.op 32 0 0)),(5,(encL cI 0 rread)),(6,(encL cI 0 rread2))],[(0,vO 2 (TInt.cells a)),(16,vO 2 (TInt.cells b)),(32,vO 2 [(aB false),.nil])],176⟩ (C_67 6) [(2,⟨[],true,(encL cI 0 rread),[],0,false,none⟩),(5,⟨[],true,(encL cI 0 rread2),[],0,false,none⟩)] [] (kp [2,3,4,5,6]) (kq [0,16,32]) 176 [0 < 1,Sound Try.prog 38 [(encL (cU .u16) 0 a.f_Limbs)] [] 0 (encL cI 0 rread) [],0 < 1,Sound Try.prog 38 [(encL (cU .u16) 0 b.f_Limbs)] [] 0 (encL cI 0 rread2) []] ⟨o1,(g_r01_read_ok N a.f_Limbs rread hr),o1,(g_r01_read_ok N b.f_Limbs rread2 hr2),trivial⟩ ?_
  refine Runs.sA 2 [.code (C_67 28),.code (C_67 29),.code (C_67 15)] ?_
  refine Runs.sR hE ⟨[(2,(.op 0 0 0)),(3,(.op 16 0 0)),(4,(.op 32 0 0)),(5,(encL cI 0 rread)),(6,(encL cI 0 rread2)),(17,(aB (a.f_Neg == b.f_Neg)))],[(0,vO 2 (TInt.cells a)),(16,vO 2 (TInt.cells b)),(32,vO 2 [(aB false),.nil])],256⟩ (C_67 28) [] [] (kp [2,3,4,5,6,17]) (kq [0,16,32]) 256 [0 < 1,0 < 1] ⟨o1,o1,trivial⟩ ?_
  refine Runs.sC 17 (C_67 58) (C_67 59) (a.f_Neg == b.f_Neg) (fun hq2=>?_) (fun hq2=>?_)
  · have h:=condT h hq2
    refine Runs.sA 1 [.code (C_67 116),.code (C_67 117),.code (C_67 15)] ?_
    obtain ⟨rplus,hr3,h⟩:=bindSome h
    obtain ⟨rmade,hr4,h⟩:=bindSome h
    refine Runs.sR hE ⟨[(4,(.op 32 0 0))],[(32,vO 2 (TInt.cells rmade))],368⟩ (C_67 116) [(4,⟨[],true,(encL cI 0 rplus),[],0,false,none⟩),(5,⟨[],true,(.agg (TInt.cells rmade)),[],0,false,none⟩)] [] (kp [4]) (kq [32]) 368 [0 < 1,Sound Try.prog 43 [(encL cI 0 rread),(encL cI 0 rread2)] [] 0 (encL cI 0 rplus) [],Sound Try.prog 39 [(aB a.f_Neg),(encL cI 0 rplus)] [] 0 (.agg (TInt.cells rmade)) [],0 < 1] ⟨o1,(g_r01_plus_ok N rread rread2 rplus hr3),(g_r01_made_ok N a.f_Neg rplus rmade hr4),o1,trivial⟩ ?_
    obtain rfl:=Option.some.inj h
    refine Runs.sW hE ⟨[(4,(.op 16 0 0))],[(16,vO 2 (TInt.cells rmade))],368⟩ [] (kp [4]) [(16,.keep 32)] 368 [] trivial ?_
    exact Runs.sT Try.f25 [16] [0 < 1] ⟨o1,trivial⟩
  · have h:=condF h hq2
    refine Runs.sA 3 [.code (C_67 60),.code (C_67 61),.code (C_67 31)] ?_
    obtain ⟨rcompare,hr5,h⟩:=bindSome h
    refine Runs.sR hE ⟨[(2,(.op 0 0 0)),(3,(.op 16 0 0)),(4,(.op 32 0 0)),(5,(encL cI 0 rread)),(6,(encL cI 0 rread2)),(27,(aB (decide (rcompare ≥ 0))))],[(0,vO 2 (TInt.cells a)),(16,vO 2 (TInt.cells b)),(32,vO 2 [(aB false),.nil])],320⟩ (C_67 60) [(2,⟨[],true,(aI rcompare),[],0,false,none⟩)] [] (kp [2,3,4,5,6,27]) (kq [0,16,32]) 320 [Sound Try.prog 44 [(encL cI 0 rread),(encL cI 0 rread2)] [] 0 (aI rcompare) []] ⟨(g_r01_compare_ok N rread rread2 rcompare hr5),trivial⟩ ?_
    refine Runs.sC 27 (C_67 122) (C_67 123) (decide (rcompare ≥ 0)) (fun hq3=>?_) (fun hq3=>?_)
    · have h:=condT h hq3
      refine Runs.sA 1 [.code (C_67 244),.code (C_67 245),.code (C_67 31)] ?_
      obtain ⟨rminus,hr6,h⟩:=bindSome h
      obtain ⟨rmade2,hr7,h⟩:=bindSome h
      refine Runs.sR hE ⟨[(4,(.op 32 0 0))],[(32,vO 2 (TInt.cells rmade2))],432⟩ (C_67 244) [(4,⟨[],true,(encL cI 0 rminus),[],0,false,none⟩),(5,⟨[],true,(.agg (TInt.cells rmade2)),[],0,false,none⟩)] [] (kp [4]) (kq [32]) 432 [0 < 1,Sound Try.prog 45 [(encL cI 0 rread),(encL cI 0 rread2)] [] 0 (encL cI 0 rminus) [],Sound Try.prog 39 [(aB a.f_Neg),(encL cI 0 rminus)] [] 0 (.agg (TInt.cells rmade2)) [],0 < 1] ⟨o1,(g_r01_minus_ok N rread rread2 rminus hr6),(g_r01_made_ok N a.f_Neg rminus rmade2 hr7),o1,trivial⟩ ?_
      obtain rfl:=Option.some.inj h
      refine Runs.sW hE ⟨[(4,(.op 16 0 0))],[(16,vO 2 (TInt.cells rmade2))],432⟩ [] (kp [4]) [(16,.keep 32)] 432 [] trivial ?_
      exact Runs.sT Try.f25 [16] [0 < 1] ⟨o1,trivial⟩
    · have h:=condF h hq3
      refine Runs.sA 2 [.code (C_67 62),.code (C_67 63)] ?_
      obtain ⟨rminus2,hr8,h⟩:=bindSome h
      obtain ⟨rmade3,hr9,h⟩:=bindSome h
      refine Runs.sR hE ⟨[(4,(.op 32 0 0))],[(32,vO 2 (TInt.cells rmade3))],432⟩ (C_67 62) [(4,⟨[],true,(encL cI 0 rminus2),[],0,false,none⟩),(5,⟨[],true,(.agg (TInt.cells rmade3)),[],0,false,none⟩)] [] (kp [4]) (kq [32]) 432 [0 < 1,Sound Try.prog 45 [(encL cI 0 rread2),(encL cI 0 rread)] [] 0 (encL cI 0 rminus2) [],Sound Try.prog 39 [(aB b.f_Neg),(encL cI 0 rminus2)] [] 0 (.agg (TInt.cells rmade3)) [],0 < 1] ⟨o1,(g_r01_minus_ok N rread2 rread rminus2 hr8),(g_r01_made_ok N b.f_Neg rminus2 rmade3 hr9),o1,trivial⟩ ?_
      obtain rfl:=Option.some.inj h
      refine Runs.sW hE ⟨[(4,(.op 16 0 0))],[(16,vO 2 (TInt.cells rmade3))],432⟩ [] (kp [4]) [(16,.keep 32)] 432 [] trivial ?_
      exact Runs.sT Try.f25 [16] [0 < 1] ⟨o1,trivial⟩
noncomputable def C_53 (n:Nat):Code:=cat (bodyOf Try.f8) (pth n)
theorem g_r01_AddRat_ok (N:Nat) (x:TRat) (y:TRat) (r:TRat) (h:g_r01_AddRat N x y = some r):Sound Try.prog 8 [(.agg (TRat.cells x)),(.agg (TRat.cells y))] [] 0 (.agg (TRat.cells r)) []:=by
  unfold g_r01_AddRat at h
  refine Sound.of_runs (fu:=Try.f8) (c:=C_53 1) (nt:=28) (by kernel_rfl) (by kernel_rfl) (by kernel_rfl) (by kernel_rfl) (fun hm=>rfl) ?_
  intro E hE
  refine Runs.sA 1 [.code (C_53 2),.code (C_53 3)] ?_
  refine Runs.sR hE ⟨[(2,(.op 0 0 0)),(3,(.op 16 0 0)),(4,(.op 32 0 0))],[(0,vO 4 (TRat.cells x)),(16,vO 4 (TRat.cells y)),(32,vO 4 [(aB false),.nil,(aB false),.nil])],48⟩ (C_53 2) [] [] (kp [2,3,4]) (kq [0,16,32]) 48 [] trivial ?_
  refine Runs.sA 1 [.code (C_53 6),.code (C_53 7)] ?_
  obtain ⟨rNormRat,hr,h⟩:=bindSome h
  obtain ⟨rNormRat2,hr2,h⟩:=bindSome h
  refine Runs.sR hE ⟨[(4,(.op 32 0 0)),(5,(.op 112 0 0)),(6,(.op 128 0 0))],[(32,vO 4 [(aB false),.nil,(aB false),.nil]),(112,vO 4 (TRat.cells rNormRat)),(128,vO 4 (TRat.cells rNormRat2))],176⟩ (C_53 6) [(1,⟨[],true,(.agg (TRat.cells rNormRat)),[],0,false,none⟩),(3,⟨[],true,(.agg (TRat.cells rNormRat2)),[],0,false,none⟩)] [] (kp [4,5,6]) (kq [32,112,128]) 176 [0 < 1,Sound Try.prog 23 [(.agg (TRat.cells x))] [] 0 (.agg (TRat.cells rNormRat)) [],0 < 1,Sound Try.prog 23 [(.agg (TRat.cells y))] [] 0 (.agg (TRat.cells rNormRat2)) [],0 < 1,0 < 1] ⟨o1,(g_r01_NormRat_ok N x rNormRat hr),o1,(g_r01_NormRat_ok N y rNormRat2 hr2),o1,o1,trivial⟩ ?_
  refine Runs.sA 1 [.code (C_53 14),.code (C_53 15)] ?_
  obtain ⟨rMul,hr3,h⟩:=bindSome h
  obtain ⟨rMul2,hr4,h⟩:=bindSome h
  obtain ⟨rAdd,hr5,h⟩:=bindSome h
  obtain ⟨rMul3,hr6,h⟩:=bindSome h
  obtain ⟨rOver,hr7,h⟩:=bindSome h
  refine Runs.sR hE ⟨[(4,(.op 32 0 0))],[(32,vO 4 (TRat.cells rOver))],464⟩ (C_53 14) [(4,⟨[],true,(.agg (TInt.cells rMul)),[],0,false,none⟩),(9,⟨[],true,(.agg (TInt.cells rMul2)),[],0,false,none⟩),(10,⟨[],true,(.agg (TInt.cells rAdd)),[],0,false,none⟩),(15,⟨[],true,(.agg (TInt.cells rMul3)),[],0,false,none⟩),(16,⟨[],true,(.agg (TRat.cells rOver)),[],0,false,none⟩)] [] (kp [4]) (kq [32]) 464 [0 < 1,0 < 1,Sound Try.prog 26 [(.agg (TInt.cells rNormRat.f_Num)),(.agg (TInt.cells rNormRat2.f_Den))] [] 0 (.agg (TInt.cells rMul)) [],0 < 1,0 < 1,Sound Try.prog 26 [(.agg (TInt.cells rNormRat2.f_Num)),(.agg (TInt.cells rNormRat.f_Den))] [] 0 (.agg (TInt.cells rMul2)) [],Sound Try.prog 25 [(.agg (TInt.cells rMul)),(.agg (TInt.cells rMul2))] [] 0 (.agg (TInt.cells rAdd)) [],0 < 1,0 < 1,Sound Try.prog 26 [(.agg (TInt.cells rNormRat.f_Den)),(.agg (TInt.cells rNormRat2.f_Den))] [] 0 (.agg (TInt.cells rMul3)) [],Sound Try.prog 24 [(.agg (TInt.cells rAdd)),(.agg (TInt.cells rMul3))] [] 0 (.agg (TRat.cells rOver)) [],0 < 1] ⟨o1,o1,(g_r01_Mul_ok N rNormRat.f_Num rNormRat2.f_Den rMul hr3),o1,o1,(g_r01_Mul_ok N rNormRat2.f_Num rNormRat.f_Den rMul2 hr4),(g_r01_Add_ok N rMul rMul2 rAdd hr5),o1,o1,(g_r01_Mul_ok N rNormRat.f_Den rNormRat2.f_Den rMul3 hr6),(g_r01_Over_ok N rAdd rMul3 rOver hr7),o1,trivial⟩ ?_
  obtain rfl:=Option.some.inj h
  refine Runs.sW hE ⟨[(4,(.op 16 0 0))],[(16,vO 4 (TRat.cells rOver))],464⟩ [] (kp [4]) [(16,.keep 32)] 464 [] trivial ?_
  exact Runs.sT Try.f8 [16] [0 < 1] ⟨o1,trivial⟩
noncomputable def C_69 (n:Nat):Code:=cat (bodyOf Try.f9) (pth n)
theorem g_w05_samePose_ok (N:Nat) (a:TPose) (b:TPose) (r:Bool) (h:g_w05_samePose N a b = some r):Sound Try.prog 9 [(.agg (TPose.cells a)),(.agg (TPose.cells b))] [] 0 (aB r) []:=by
  unfold g_w05_samePose at h
  refine Sound.of_runs (fu:=Try.f9) (c:=C_69 1) (nt:=31) (by kernel_rfl) (by kernel_rfl) (by kernel_rfl) (by kernel_rfl) (fun hm=>rfl) ?_
  intro E hE
  refine Runs.sA 1 [.code (C_69 2),.code (C_69 3)] ?_
  refine Runs.sR hE ⟨[(2,(.op 0 0 0)),(3,(.op 16 0 0))],[(0,vO 16 (TPose.cells a)),(16,vO 16 (TPose.cells b))],48⟩ (C_69 2) [] [] (kp [2,3]) (kq [0,16]) 48 [] trivial ?_
  refine Runs.sA 1 [.code (C_69 6),.code (C_69 7)] ?_
  obtain ⟨rSameRat,hr,h⟩:=bindSome h
  obtain ⟨rSameRat2,hr2,h⟩:=bindSome h
  obtain ⟨rSameRat3,hr3,h⟩:=bindSome h
  obtain ⟨rSameRat4,hr4,h⟩:=bindSome h
  refine Runs.sR hE ⟨[(4,(aB (cond (cond (cond rSameRat rSameRat2 false) rSameRat3 false) rSameRat4 false)))],[],480⟩ (C_69 6) [(4,⟨[],true,(aB rSameRat),[],0,false,none⟩),(10,⟨[],true,(aB rSameRat2),[],0,false,none⟩),(17,⟨[],true,(aB rSameRat3),[],0,false,none⟩),(24,⟨[],true,(aB rSameRat4),[],0,false,none⟩)] [] (kp [4]) [] 480 [0 < 1,0 < 1,Sound Try.prog 11 [(.agg (TRat.cells a.f_Draught)),(.agg (TRat.cells b.f_Draught))] [] 0 (aB rSameRat) [],rSameRat = true→AllP [rSameRat = true,0 < 1],rSameRat = true→AllP [rSameRat = true,0 < 1],rSameRat = true→AllP [Sound Try.prog 11 [(.agg (TRat.cells a.f_Trim)),(.agg (TRat.cells b.f_Trim))] [] 0 (aB rSameRat2) [],rSameRat = true,rSameRat = true],rSameRat = true→AllP [rSameRat = true],(cond rSameRat rSameRat2 false) = true→AllP [(cond rSameRat rSameRat2 false) = true,0 < 1],(cond rSameRat rSameRat2 false) = true→AllP [(cond rSameRat rSameRat2 false) = true,0 < 1],(cond rSameRat rSameRat2 false) = true→AllP [Sound Try.prog 11 [(.agg (TRat.cells a.f_Heel)),(.agg (TRat.cells b.f_Heel))] [] 0 (aB rSameRat3) [],(cond rSameRat rSameRat2 false) = true,(cond rSameRat rSameRat2 false) = true],(cond rSameRat rSameRat2 false) = true→AllP [(cond rSameRat rSameRat2 false) = true],(cond (cond rSameRat rSameRat2 false) rSameRat3 false) = true→AllP [(cond (cond rSameRat rSameRat2 false) rSameRat3 false) = true,0 < 1],(cond (cond rSameRat rSameRat2 false) rSameRat3 false) = true→AllP [(cond (cond rSameRat rSameRat2 false) rSameRat3 false) = true,0 < 1],(cond (cond rSameRat rSameRat2 false) rSameRat3 false) = true→AllP [Sound Try.prog 11 [(.agg (TRat.cells a.f_Hog)),(.agg (TRat.cells b.f_Hog))] [] 0 (aB rSameRat4) [],(cond (cond rSameRat rSameRat2 false) rSameRat3 false) = true,(cond (cond rSameRat rSameRat2 false) rSameRat3 false) = true],(cond (cond rSameRat rSameRat2 false) rSameRat3 false) = true→AllP [(cond (cond rSameRat rSameRat2 false) rSameRat3 false) = true]] ⟨o1,o1,(g_b_SameRat_ok N a.f_Draught b.f_Draught rSameRat hr),(fun hg=>⟨hg,o1,trivial⟩),(fun hg=>⟨hg,o1,trivial⟩),(fun hg=>⟨(g_b_SameRat_ok N a.f_Trim b.f_Trim rSameRat2 (condT hr2 hg)),hg,hg,trivial⟩),(fun hq=>⟨hq,trivial⟩),(fun hg=>⟨hg,o1,trivial⟩),(fun hg=>⟨hg,o1,trivial⟩),(fun hg=>⟨(g_b_SameRat_ok N a.f_Heel b.f_Heel rSameRat3 (condT hr3 hg)),hg,hg,trivial⟩),(fun hq=>⟨hq,trivial⟩),(fun hg=>⟨hg,o1,trivial⟩),(fun hg=>⟨hg,o1,trivial⟩),(fun hg=>⟨(g_b_SameRat_ok N a.f_Hog b.f_Hog rSameRat4 (condT hr4 hg)),hg,hg,trivial⟩),(fun hq=>⟨hq,trivial⟩),trivial⟩ ?_
  obtain rfl:=Option.some.inj h
  refine Runs.sW hE ⟨[(4,(aB (cond (cond (cond rSameRat rSameRat2 false) rSameRat3 false) rSameRat4 false)))],[],480⟩ [] (kp [4]) [] 480 [] trivial ?_
  exact Runs.sT Try.f9 [] [] trivial
noncomputable def C_71 (n:Nat):Code:=cat (bodyOf Try.f27) (pth n)
theorem g_r01_Sign_ok (N:Nat) (a:TInt) (r:Int) (h:g_r01_Sign N a = some r):Sound Try.prog 27 [(.agg (TInt.cells a))] [] 0 (aI r) []:=by
  unfold g_r01_Sign at h
  refine Sound.of_runs (fu:=Try.f27) (c:=C_71 1) (nt:=10) (by kernel_rfl) (by kernel_rfl) (by kernel_rfl) (by kernel_rfl) (fun hm=>rfl) ?_
  intro E hE
  refine Runs.sA 1 [.code (C_71 2),.code (C_71 3)] ?_
  refine Runs.sR hE ⟨[(1,(.op 0 0 0))],[(0,vO 2 (TInt.cells a))],32⟩ (C_71 2) [] [] (kp [1]) (kq [0]) 32 [] trivial ?_
  refine Runs.sA 2 [.code (C_71 12),.code (C_71 13),.code (C_71 7)] ?_
  obtain ⟨rread,hr,h⟩:=bindSome h
  refine Runs.sR hE ⟨[(1,(.op 0 0 0)),(7,(aB (((rread.length:Nat):Int) == 0)))],[(0,vO 2 (TInt.cells a))],112⟩ (C_71 12) [(2,⟨[],true,(encL cI 0 rread),[],0,false,none⟩)] [] (kp [1,7]) (kq [0]) 112 [0 < 1,Sound Try.prog 38 [(encL (cU .u16) 0 a.f_Limbs)] [] 0 (encL cI 0 rread) []] ⟨o1,(g_r01_read_ok N a.f_Limbs rread hr),trivial⟩ ?_
  refine Runs.sC 7 (C_71 26) (C_71 27) (((rread.length:Nat):Int) == 0) (fun hq2=>?_) (fun hq2=>?_)
  · have h:=condT h hq2
    refine Runs.sA 1 [.code (C_71 52),.code (C_71 53),.code (C_71 7)] ?_
    refine Runs.sR hE ⟨[(2,(aI 0))],[],128⟩ (C_71 52) [] [] (kp [2]) [] 128 [] trivial ?_
    obtain rfl:=Option.some.inj h
    refine Runs.sW hE ⟨[(2,(aI 0))],[],128⟩ [] (kp [2]) [] 128 [] trivial ?_
    exact Runs.sT Try.f27 [] [] trivial
  · have h:=condF h hq2
    refine Runs.sA 3 [.code (C_71 28),.code (C_71 29),.code (C_71 15)] ?_
    refine Runs.sR hE ⟨[(9,(aB a.f_Neg))],[],144⟩ (C_71 28) [] [] (kp [9]) [] 144 [0 < 1] ⟨o1,trivial⟩ ?_
    refine Runs.sC 9 (C_71 58) (C_71 59) a.f_Neg (fun hq3=>?_) (fun hq3=>?_)
    · have h:=condT h hq3
      refine Runs.sA 1 [.code (C_71 116),.code (C_71 117),.code (C_71 15)] ?_
      refine Runs.sR hE ⟨[(2,(aI (-1)))],[],160⟩ (C_71 116) [] [] (kp [2]) [] 160 [] trivial ?_
      obtain rfl:=Option.some.inj h
      refine Runs.sW hE ⟨[(2,(aI (-1)))],[],160⟩ [] (kp [2]) [] 160 [] trivial ?_
      exact Runs.sT Try.f27 [] [] trivial
    · have h:=condF h hq3
      refine Runs.sA 2 [.code (C_71 30),.code (C_71 31)] ?_
      refine Runs.sR hE ⟨[(2,(aI 1))],[],160⟩ (C_71 30) [] [] (kp [2]) [] 160 [] trivial ?_
      obtain rfl:=Option.some.inj h
      refine Runs.sW hE ⟨[(2,(aI 1))],[],160⟩ [] (kp [2]) [] 160 [] trivial ?_
      exact Runs.sT Try.f27 [] [] trivial
noncomputable def C_70 (n:Nat):Code:=cat (bodyOf Try.f10) (pth n)
theorem g_r01_SignRat_ok (N:Nat) (x:TRat) (r:Int) (h:g_r01_SignRat N x = some r):Sound Try.prog 10 [(.agg (TRat.cells x))] [] 0 (aI r) []:=by
  unfold g_r01_SignRat at h
  refine Sound.of_runs (fu:=Try.f10) (c:=C_70 1) (nt:=7) (by kernel_rfl) (by kernel_rfl) (by kernel_rfl) (by kernel_rfl) (fun hm=>rfl) ?_
  intro E hE
  refine Runs.sA 1 [.code (C_70 2),.code (C_70 3)] ?_
  refine Runs.sR hE ⟨[(1,(.op 0 0 0))],[(0,vO 4 (TRat.cells x))],32⟩ (C_70 2) [] [] (kp [1]) (kq [0]) 32 [] trivial ?_
  refine Runs.sA 1 [.code (C_70 6),.code (C_70 7)] ?_
  obtain ⟨rNormRat,hr,h⟩:=bindSome h
  obtain ⟨rSign,hr2,h⟩:=bindSome h
  refine Runs.sR hE ⟨[(2,(aI rSign))],[],112⟩ (C_70 6) [(1,⟨[],true,(.agg (TRat.cells rNormRat)),[],0,false,none⟩),(3,⟨[],true,(aI rSign),[],0,false,none⟩)] [] (kp [2]) [] 112 [0 < 1,Sound Try.prog 23 [(.agg (TRat.cells x))] [] 0 (.agg (TRat.cells rNormRat)) [],Sound Try.prog 27 [(.agg (TInt.cells rNormRat.f_Num))] [] 0 (aI rSign) []] ⟨o1,(g_r01_NormRat_ok N x rNormRat hr),(g_r01_Sign_ok N rNormRat.f_Num rSign hr2),trivial⟩ ?_
  obtain rfl:=Option.some.inj h
  refine Runs.sW hE ⟨[(2,(aI rSign))],[],112⟩ [] (kp [2]) [] 112 [] trivial ?_
  exact Runs.sT Try.f10 [] [] trivial
noncomputable def C_0 (n:Nat):Code:=cat (bodyOf Try.f3) (pth n)
theorem g_w05_WaterMoments_ok (N:Nat) (p:TPontoon) (more:List TPointMass) (r:Bool) (h:g_w05_WaterMoments N p more = some r):Sound Try.prog 3 [(.agg (TPontoon.cells p)),(encL TPointMass.cells TPointMass.d more)] [] 0 (aB r) []:=by
  unfold g_w05_WaterMoments at h
  refine Sound.of_runs (fu:=Try.f3) (c:=C_0 1) (nt:=141) (by kernel_rfl) (by kernel_rfl) (by kernel_rfl) (by kernel_rfl) (fun hm=>rfl) ?_
  intro E hE
  refine Runs.sA 1 [.code (C_0 2),.code (C_0 3)] ?_
  refine Runs.sR hE ⟨[(1,(encL TPointMass.cells TPointMass.d more)),(2,(.op 0 0 0))],[(0,vO 5 (TPontoon.cells p))],32⟩ (C_0 2) [] [] (kp [1,2]) (kq [0]) 32 [] trivial ?_
  refine Runs.sA 2 [.code (C_0 12),.code (C_0 13),.code (C_0 7)] ?_
  obtain ⟨rafloat,hr,h⟩:=bindSome h
  refine Runs.sR hE ⟨[(1,(encL TPointMass.cells TPointMass.d more)),(2,(.op 0 0 0)),(16,(aB (!rafloat)))],[(0,vO 5 (TPontoon.cells p))],64⟩ (C_0 12) [(0,⟨[],true,(aB rafloat),[],0,false,none⟩)] [] (kp [1,2,16]) (kq [0]) 64 [Sound Try.prog 4 [] [] 0 (aB rafloat) []] ⟨(g_w05_afloat_ok N rafloat hr),trivial⟩ ?_
  refine Runs.sC 16 (C_0 26) (C_0 27) (!rafloat) (fun hq2=>?_) (fun hq2=>?_)
  · have h:=condT h hq2
    refine Runs.sA 1 [.code (C_0 52),.code (C_0 53),.code (C_0 7)] ?_
    refine Runs.sR hE ⟨[(4,(aB false))],[],80⟩ (C_0 52) [] [] (kp [4]) [] 80 [] trivial ?_
    obtain rfl:=Option.some.inj h
    refine Runs.sW hE ⟨[(4,(aB false))],[],80⟩ [] (kp [4]) [] 80 [] trivial ?_
    exact Runs.sT Try.f3 [] [] trivial
  · have h:=condF h hq2
    refine Runs.sA 3 [.code (C_0 28),.code (C_0 29),.code (C_0 15)] ?_
    obtain ⟨rfewMasses,hr2,h⟩:=bindSome h
    obtain ⟨rCheckPontoon,hr3,h⟩:=bindSome h
    refine Runs.sR hE ⟨[(1,(encL TPointMass.cells TPointMass.d more)),(2,(.op 0 0 0)),(39,(aB (cond (cond (cond (!rfewMasses) true (decide (((p.f_Tanks.length:Nat):Int) > 0))) true (decide ((w64 (((p.f_Masses.length:Nat):Int)+((more.length:Nat):Int))) > 20))) true (rCheckPontoon != 0))))],[(0,vO 5 (TPontoon.cells p))],432⟩ (C_0 28) [(1,⟨[],true,(aB rfewMasses),[],0,false,none⟩),(20,⟨[],true,(aI rCheckPontoon),[],0,false,none⟩)] [] (kp [1,2,39]) (kq [0]) 432 [0 < 1,Sound Try.prog 5 [(.agg (TPontoon.cells p))] [] 0 (aB rfewMasses) [],(!(!rfewMasses)) = true→AllP [(!(!rfewMasses)) = true,0 < 1],(!(!rfewMasses)) = true→AllP [(!(!rfewMasses)) = true],(!(!rfewMasses)) = true→AllP [(!(!rfewMasses)) = true],(!(!rfewMasses)) = true→AllP [(!(!rfewMasses)) = true],(!(cond (!rfewMasses) true (decide (((p.f_Tanks.length:Nat):Int) > 0)))) = true→AllP [(!(cond (!rfewMasses) true (decide (((p.f_Tanks.length:Nat):Int) > 0)))) = true,0 < 1],(!(cond (!rfewMasses) true (decide (((p.f_Tanks.length:Nat):Int) > 0)))) = true→AllP [(!(cond (!rfewMasses) true (decide (((p.f_Tanks.length:Nat):Int) > 0)))) = true],(!(cond (!rfewMasses) true (decide (((p.f_Tanks.length:Nat):Int) > 0)))) = true→AllP [(!(cond (!rfewMasses) true (decide (((p.f_Tanks.length:Nat):Int) > 0)))) = true],(!(cond (!rfewMasses) true (decide (((p.f_Tanks.length:Nat):Int) > 0)))) = true→AllP [(!(cond (!rfewMasses) true (decide (((p.f_Tanks.length:Nat):Int) > 0)))) = true,(!(cond (!rfewMasses) true (decide (((p.f_Tanks.length:Nat):Int) > 0)))) = true],(!(cond (!rfewMasses) true (decide (((p.f_Tanks.length:Nat):Int) > 0)))) = true→AllP [(!(cond (!rfewMasses) true (decide (((p.f_Tanks.length:Nat):Int) > 0)))) = true],(!(cond (!rfewMasses) true (decide (((p.f_Tanks.length:Nat):Int) > 0)))) = true→AllP [(!(cond (!rfewMasses) true (decide (((p.f_Tanks.length:Nat):Int) > 0)))) = true],(!(cond (cond (!rfewMasses) true (decide (((p.f_Tanks.length:Nat):Int) > 0))) true (decide ((w64 (((p.f_Masses.length:Nat):Int)+((more.length:Nat):Int))) > 20)))) = true→AllP [0 < 1],(!(cond (cond (!rfewMasses) true (decide (((p.f_Tanks.length:Nat):Int) > 0))) true (decide ((w64 (((p.f_Masses.length:Nat):Int)+((more.length:Nat):Int))) > 20)))) = true→AllP [Sound Try.prog 6 [(.agg (TPontoon.cells p))] [] 0 (aI rCheckPontoon) [],(!(cond (cond (!rfewMasses) true (decide (((p.f_Tanks.length:Nat):Int) > 0))) true (decide ((w64 (((p.f_Masses.length:Nat):Int)+((more.length:Nat):Int))) > 20)))) = true],(!(cond (cond (!rfewMasses) true (decide (((p.f_Tanks.length:Nat):Int) > 0))) true (decide ((w64 (((p.f_Masses.length:Nat):Int)+((more.length:Nat):Int))) > 20)))) = true→AllP [(!(cond (cond (!rfewMasses) true (decide (((p.f_Tanks.length:Nat):Int) > 0))) true (decide ((w64 (((p.f_Masses.length:Nat):Int)+((more.length:Nat):Int))) > 20)))) = true],(!(cond (cond (!rfewMasses) true (decide (((p.f_Tanks.length:Nat):Int) > 0))) true (decide ((w64 (((p.f_Masses.length:Nat):Int)+((more.length:Nat):Int))) > 20)))) = true→AllP [(!(cond (cond (!rfewMasses) true (decide (((p.f_Tanks.length:Nat):Int) > 0))) true (decide ((w64 (((p.f_Masses.length:Nat):Int)+((more.length:Nat):Int))) > 20)))) = true]] ⟨o1,(g_w05_fewMasses_ok N p rfewMasses hr2),(fun hg=>⟨hg,o1,trivial⟩),(fun hg=>⟨hg,trivial⟩),(fun hg=>⟨hg,trivial⟩),(fun hq=>⟨hq,trivial⟩),(fun hg=>⟨hg,o1,trivial⟩),(fun hg=>⟨hg,trivial⟩),(fun hg=>⟨hg,trivial⟩),(fun hg=>⟨hg,hg,trivial⟩),(fun hg=>⟨hg,trivial⟩),(fun hq=>⟨hq,trivial⟩),(fun hg=>⟨o1,trivial⟩),(fun hg=>⟨(g_water_CheckPontoon_ok N p rCheckPontoon (condT hr3 hg)),hg,trivial⟩),(fun hg=>⟨hg,trivial⟩),(fun hq=>⟨hq,trivial⟩),trivial⟩ ?_
    refine Runs.sC 39 (C_0 58) (C_0 59) (cond (cond (cond (!rfewMasses) true (decide (((p.f_Tanks.length:Nat):Int) > 0))) true (decide ((w64 (((p.f_Masses.length:Nat):Int)+((more.length:Nat):Int))) > 20))) true (rCheckPontoon != 0)) (fun hq3=>?_) (fun hq3=>?_)
    · have h:=condT h hq3
      refine Runs.sA 1 [.code (C_0 116),.code (C_0 117),.code (C_0 15)] ?_
      refine Runs.sR hE ⟨[(4,(aB true))],[],448⟩ (C_0 116) [] [] (kp [4]) [] 448 [] trivial ?_
      obtain rfl:=Option.some.inj h
      refine Runs.sW hE ⟨[(4,(aB true))],[],448⟩ [] (kp [4]) [] 448 [] trivial ?_
      exact Runs.sT Try.f3 [] [] trivial
    · have h:=condF h hq3
      refine Runs.sA 2 [.code (C_0 30),.code (C_0 31)] ?_
      refine Runs.sR hE ⟨[(1,(encL TPointMass.cells TPointMass.d more)),(2,(.op 0 0 0)),(5,(.op 464 0 0)),(6,(.op 480 0 0))],[(0,vO 5 (TPontoon.cells p)),(464,vO 5 (TPontoon.cells p)),(480,vO 5 (TPontoon.cells p))],528⟩ (C_0 30) [] [] (kp [1,2,5,6]) (kq [0,464,480]) 528 [0 < 1,0 < 1,0 < 1,0 < 1] ⟨o1,o1,o1,o1,trivial⟩ ?_
      refine Runs.sA 1 [.code (C_0 62),.code (C_0 63)] ?_
      refine Runs.sR hE ⟨[(1,(encL TPointMass.cells TPointMass.d more)),(2,(.op 0 0 0)),(5,(.op 464 0 0)),(6,(.op 480 0 0))],[(0,vO 5 (TPontoon.cells p)),(464,vO 5 [(aI p.f_Length),(aI p.f_Breadth),(aI p.f_Density),(encL TPointMass.cells TPointMass.d more),(encL TTank.cells TTank.d p.f_Tanks)]),(480,vO 5 (TPontoon.cells p))],576⟩ (C_0 62) [] [] (kp [1,2,5,6]) (kq [0,464,480]) 576 [0 < 1] ⟨o1,trivial⟩ ?_
      refine Runs.sA 1 [.code (C_0 126),.code (C_0 127)] ?_
      obtain ⟨c,h⟩:=ifSome h
      obtain ⟨c2,h⟩:=ifSome h
      refine Runs.sR hE ⟨[(2,(.op 0 0 0)),(5,(.op 464 0 0)),(6,(.op 480 0 0))],[(0,vO 5 (TPontoon.cells p)),(464,vO 5 [(aI p.f_Length),(aI p.f_Breadth),(aI p.f_Density),(encL TPointMass.cells TPointMass.d more),(encL TTank.cells TTank.d p.f_Tanks)]),(480,vN 5 [(aI p.f_Length),(aI p.f_Breadth),(aI p.f_Density),(.os 656 0 (((([]:List TPointMass) ++ p.f_Masses) ++ more).length)),(encL TTank.cells TTank.d p.f_Tanks)]),(656,aO 3 TPointMass.cells TPointMass.d ((([]:List TPointMass) ++ p.f_Masses) ++ more))],704⟩ (C_0 126) [] [] (kp [2,5,6]) (kq [0,464] ++ [(480,.var 480 [.keep,.keep,.keep,.osl (((([]:List TPointMass) ++ p.f_Masses) ++ more).length),.keep]),(656,.arr 656 (((([]:List TPointMass) ++ p.f_Masses) ++ more).length) (fun zi=>TPointMass.cells (((([]:List TPointMass) ++ p.f_Masses) ++ more).getD zi TPointMass.d)))]) 704 [0 < 1,0 = 0,(0+p.f_Masses.length) * 24≤140737488355328,∀ zi,zi < p.f_Masses.length→AV.oneL ((fun zi=>TPointMass.cells (p.f_Masses.getD zi TPointMass.d)) zi) = true,(0+p.f_Masses.length) = 0+p.f_Masses.length,((0+p.f_Masses.length)+more.length) * 24≤140737488355328,∀ zi,zi < more.length→AV.oneL ((fun zi=>TPointMass.cells (more.getD zi TPointMass.d)) zi) = true,0 < 1,((0+p.f_Masses.length)+more.length) = ((([]:List TPointMass) ++ p.f_Masses) ++ more).length,(0+p.f_Masses.length)+more.length = ((([]:List TPointMass) ++ p.f_Masses) ++ more).length,∀ zi,zi < ((([]:List TPointMass) ++ p.f_Masses) ++ more).length→(fun zi=>TPointMass.cells (((([]:List TPointMass) ++ p.f_Masses) ++ more).getD zi TPointMass.d)) zi = ((fun zm=>if zm < (0+p.f_Masses.length) then ((fun zm=>if zm < 0 then (fun _=>[]) zm else (fun zi=>TPointMass.cells (p.f_Masses.getD zi TPointMass.d)) (zm - 0))) zm else (fun zi=>TPointMass.cells (more.getD zi TPointMass.d)) (zm - (0+p.f_Masses.length)))) zi] ⟨o1,rfl,c,(fun _ _=>rfl),rfl,c2,(fun _ _=>rfl),o1,(len_app_raw (len_app_raw rfl rfl) rfl),(len_app_raw (len_app_raw rfl rfl) rfl),(get_app_raw TPointMass.cells TPointMass.d (([]:List TPointMass) ++ p.f_Masses) more (len_app_raw rfl rfl) (get_app_raw TPointMass.cells TPointMass.d ([]:List TPointMass) p.f_Masses rfl (fun zq hzq=>absurd hzq (Nat.not_lt_zero _)) (fun _ _=>rfl)) (fun _ _=>rfl)),trivial⟩ ?_
      refine Runs.sA 1 [.code (C_0 254),.code (C_0 255)] ?_
      obtain ⟨rFloat,hr4,h⟩:=bindSome h
      refine Runs.sR hE ⟨[(5,(.op 464 0 0)),(6,(.op 480 0 0)),(7,(.op 784 0 0)),(8,(aI rFloat.2))],[(464,vO 5 [(aI p.f_Length),(aI p.f_Breadth),(aI p.f_Density),(encL TPointMass.cells TPointMass.d more),(encL TTank.cells TTank.d p.f_Tanks)]),(480,vN 5 [(aI p.f_Length),(aI p.f_Breadth),(aI p.f_Density),(.os 656 0 (((([]:List TPointMass) ++ p.f_Masses) ++ more).length)),(encL TTank.cells TTank.d p.f_Tanks)]),(656,aO 3 TPointMass.cells TPointMass.d ((([]:List TPointMass) ++ p.f_Masses) ++ more)),(784,vO 16 (TPose.cells rFloat.1))],832⟩ (C_0 254) [(1,⟨[],true,(.tup [(.agg (TPose.cells rFloat.1)),(aI rFloat.2)]),[],0,false,none⟩)] [] (kp [5,6,7,8]) (kq [464,480,656,784]) 832 [0 < 1,Sound Try.prog 7 [(.agg (TPontoon.cells p)),.nil] [] 0 (.tup [(.agg (TPose.cells rFloat.1)),(aI rFloat.2)]) [],0 < 1] ⟨o1,(Sound.conv (g_water_Float_ok N p ([]:List Int) rFloat hr4) (.cons (Alike.refl _) (.cons Alike.nil .nil))),o1,trivial⟩ ?_
      refine Runs.sA 1 [.code (C_0 510),.code (C_0 511)] ?_
      obtain ⟨rFloat2,hr5,h⟩:=bindSome h
      refine Runs.sR hE ⟨[(5,(.op 464 0 0)),(6,(.op 480 0 0)),(7,(.op 784 0 0)),(8,(aI rFloat.2)),(9,(.op 912 0 0)),(10,(aI rFloat2.2))],[(464,vO 5 [(aI p.f_Length),(aI p.f_Breadth),(aI p.f_Density),(encL TPointMass.cells TPointMass.d more),(encL TTank.cells TTank.d p.f_Tanks)]),(480,vN 5 [(aI p.f_Length),(aI p.f_Breadth),(aI p.f_Density),(.os 656 0 (((([]:List TPointMass) ++ p.f_Masses) ++ more).length)),(encL TTank.cells TTank.d p.f_Tanks)]),(656,aO 3 TPointMass.cells TPointMass.d ((([]:List TPointMass) ++ p.f_Masses) ++ more)),(784,vO 16 (TPose.cells rFloat.1)),(912,vO 16 (TPose.cells rFloat2.1))],960⟩ (C_0 510) [(1,⟨[],true,(.tup [(.agg (TPose.cells rFloat2.1)),(aI rFloat2.2)]),[],0,false,none⟩)] [] (kp [5,6,7,8,9,10]) (kq [464,480,656,784,912]) 960 [0 < 1,Sound Try.prog 7 [(.agg [(aI p.f_Length),(aI p.f_Breadth),(aI p.f_Density),(encL TPointMass.cells TPointMass.d more),(encL TTank.cells TTank.d p.f_Tanks)]),.nil] [] 0 (.tup [(.agg (TPose.cells rFloat2.1)),(aI rFloat2.2)]) [],0 < 1] ⟨o1,(Sound.conv (g_water_Float_ok N (⟨p.f_Length,p.f_Breadth,p.f_Density,more,p.f_Tanks⟩:TPontoon) ([]:List Int) rFloat2 hr5) (.cons (Alike.refl _) (.cons Alike.nil .nil))),o1,trivial⟩ ?_
      refine Runs.sA 1 [.code (C_0 1022),.code (C_0 1023)] ?_
      obtain ⟨rFloat3,hr6,h⟩:=bindSome h
      refine Runs.sR hE ⟨[(5,(.op 464 0 0)),(7,(.op 784 0 0)),(8,(aI rFloat.2)),(9,(.op 912 0 0)),(10,(aI rFloat2.2)),(11,(.op 1040 0 0)),(12,(aI rFloat3.2))],[(464,vO 5 [(aI p.f_Length),(aI p.f_Breadth),(aI p.f_Density),(encL TPointMass.cells TPointMass.d more),(encL TTank.cells TTank.d p.f_Tanks)]),(784,vO 16 (TPose.cells rFloat.1)),(912,vO 16 (TPose.cells rFloat2.1)),(1040,vO 16 (TPose.cells rFloat3.1))],1088⟩ (C_0 1022) [(1,⟨[],true,(.tup [(.agg (TPose.cells rFloat3.1)),(aI rFloat3.2)]),[],0,true,none⟩)] [] (kp [5,7,8,9,10,11,12]) (kq [464,784,912,1040]) 1088 [0 < 1,Sound Try.prog 7 [(.agg [(aI p.f_Length),(aI p.f_Breadth),(aI p.f_Density),(encL TPointMass.cells TPointMass.d ((([]:List TPointMass) ++ p.f_Masses) ++ more)),(encL TTank.cells TTank.d p.f_Tanks)]),.nil] [] 0 (.tup [(.agg (TPose.cells rFloat3.1)),(aI rFloat3.2)]) [],0+((([]:List TPointMass) ++ p.f_Masses) ++ more).length≤((([]:List TPointMass) ++ p.f_Masses) ++ more).length,0 < 1] ⟨o1,(Sound.conv (g_water_Float_ok N (⟨p.f_Length,p.f_Breadth,p.f_Density,((([]:List TPointMass) ++ p.f_Masses) ++ more),p.f_Tanks⟩:TPontoon) ([]:List Int) rFloat3 hr6) (.cons (Alike.refl _) (.cons Alike.nil .nil))),z0,o1,trivial⟩ ?_
      refine Runs.sA 2 [.code (C_0 4092),.code (C_0 4093),.code (C_0 2047)] ?_
      refine Runs.sR hE ⟨[(5,(.op 464 0 0)),(7,(.op 784 0 0)),(8,(aI rFloat.2)),(9,(.op 912 0 0)),(10,(aI rFloat2.2)),(11,(.op 1040 0 0)),(12,(aI rFloat3.2)),(67,(aB (rFloat2.2 != 0)))],[(464,vO 5 [(aI p.f_Length),(aI p.f_Breadth),(aI p.f_Density),(encL TPointMass.cells TPointMass.d more),(encL TTank.cells TTank.d p.f_Tanks)]),(784,vO 16 (TPose.cells rFloat.1)),(912,vO 16 (TPose.cells rFloat2.1)),(1040,vO 16 (TPose.cells rFloat3.1))],1120⟩ (C_0 4092) [] [] (kp [5,7,8,9,10,11,12,67]) (kq [464,784,912,1040]) 1120 [] trivial ?_
      refine Runs.sC 67 (C_0 8186) (C_0 8187) (rFloat2.2 != 0) (fun hq4=>?_) (fun hq4=>?_)
      · have h:=condT h hq4
        refine Runs.sA 1 [.code (C_0 16372),.code (C_0 16373),.code (C_0 2047)] ?_
        refine Runs.sR hE ⟨[(4,(aB (cond (rFloat2.2 == 2) (rFloat3.2 == 2) false)))],[],1232⟩ (C_0 16372) [] [] (kp [4]) [] 1232 [(rFloat2.2 == 2) = true→AllP [(rFloat2.2 == 2) = true],(rFloat2.2 == 2) = true→AllP [(rFloat2.2 == 2) = true]] ⟨(fun hg=>⟨hg,trivial⟩),(fun hq=>⟨hq,trivial⟩),trivial⟩ ?_
        obtain rfl:=Option.some.inj h
        refine Runs.sW hE ⟨[(4,(aB (cond (rFloat2.2 == 2) (rFloat3.2 == 2) false)))],[],1232⟩ [] (kp [4]) [] 1232 [] trivial ?_
        exact Runs.sT Try.f3 [] [] trivial
      · have h:=condF h hq4
        refine Runs.sA 2 [.code (C_0 4094),.code (C_0 4095)] ?_
        obtain ⟨rAddRat,hr7,h⟩:=bindSome h
        obtain ⟨rAddRat2,hr8,h⟩:=bindSome h
        obtain ⟨rAddRat3,hr9,h⟩:=bindSome h
        obtain ⟨rAddRat4,hr10,h⟩:=bindSome h
        refine Runs.sR hE ⟨[(5,(.op 464 0 0)),(8,(aI rFloat.2)),(11,(.op 1040 0 0)),(12,(aI rFloat3.2)),(13,(.op 1456 0 0))],[(464,vO 5 [(aI p.f_Length),(aI p.f_Breadth),(aI p.f_Density),(encL TPointMass.cells TPointMass.d more),(encL TTank.cells TTank.d p.f_Tanks)]),(1040,vO 16 (TPose.cells rFloat3.1)),(1456,vO 16 [(aB rAddRat.f_Num.f_Neg),(encL (cU .u16) 0 rAddRat.f_Num.f_Limbs),(aB rAddRat.f_Den.f_Neg),(encL (cU .u16) 0 rAddRat.f_Den.f_Limbs),(aB rAddRat2.f_Num.f_Neg),(encL (cU .u16) 0 rAddRat2.f_Num.f_Limbs),(aB rAddRat2.f_Den.f_Neg),(encL (cU .u16) 0 rAddRat2.f_Den.f_Limbs),(aB rAddRat3.f_Num.f_Neg),(encL (cU .u16) 0 rAddRat3.f_Num.f_Limbs),(aB rAddRat3.f_Den.f_Neg),(encL (cU .u16) 0 rAddRat3.f_Den.f_Limbs),(aB rAddRat4.f_Num.f_Neg),(encL (cU .u16) 0 rAddRat4.f_Num.f_Limbs),(aB rAddRat4.f_Den.f_Neg),(encL (cU .u16) 0 rAddRat4.f_Den.f_Limbs)])],1488⟩ (C_0 4094) [(4,⟨[],true,(.agg (TRat.cells rAddRat)),[],0,false,none⟩),(9,⟨[],true,(.agg (TRat.cells rAddRat2)),[],0,false,none⟩),(14,⟨[],true,(.agg (TRat.cells rAddRat3)),[],0,false,none⟩),(19,⟨[],true,(.agg (TRat.cells rAddRat4)),[],0,false,none⟩)] [] (kp [5,8,11,12,13]) (kq [464,1040,1456]) 1488 [0 < 1,0 < 1,Sound Try.prog 8 [(.agg (TRat.cells rFloat.1.f_Draught)),(.agg (TRat.cells rFloat2.1.f_Draught))] [] 0 (.agg (TRat.cells rAddRat)) [],0 < 1,0 < 1,Sound Try.prog 8 [(.agg (TRat.cells rFloat.1.f_Trim)),(.agg (TRat.cells rFloat2.1.f_Trim))] [] 0 (.agg (TRat.cells rAddRat2)) [],0 < 1,0 < 1,Sound Try.prog 8 [(.agg (TRat.cells rFloat.1.f_Heel)),(.agg (TRat.cells rFloat2.1.f_Heel))] [] 0 (.agg (TRat.cells rAddRat3)) [],0 < 1,0 < 1,Sound Try.prog 8 [(.agg (TRat.cells rFloat.1.f_Hog)),(.agg (TRat.cells rFloat2.1.f_Hog))] [] 0 (.agg (TRat.cells rAddRat4)) [],0 < 1] ⟨o1,o1,(g_r01_AddRat_ok N rFloat.1.f_Draught rFloat2.1.f_Draught rAddRat hr7),o1,o1,(g_r01_AddRat_ok N rFloat.1.f_Trim rFloat2.1.f_Trim rAddRat2 hr8),o1,o1,(g_r01_AddRat_ok N rFloat.1.f_Heel rFloat2.1.f_Heel rAddRat3 hr9),o1,o1,(g_r01_AddRat_ok N rFloat.1.f_Hog rFloat2.1.f_Hog rAddRat4 hr10),o1,trivial⟩ ?_
        refine Runs.sA 2 [.code (C_0 16380),.code (C_0 16381),.code (C_0 8191)] ?_
        obtain ⟨rsamePose,hr11,h⟩:=bindSome h
        refine Runs.sR hE ⟨[(5,(.op 464 0 0)),(106,(aB (cond (cond (rFloat.2 != 0) true (rFloat3.2 != 0)) true (!rsamePose))))],[(464,vO 5 [(aI p.f_Length),(aI p.f_Breadth),(aI p.f_Density),(encL TPointMass.cells TPointMass.d more),(encL TTank.cells TTank.d p.f_Tanks)])],1680⟩ (C_0 16380) [(9,⟨[],true,(aB rsamePose),[],0,false,none⟩)] [] (kp [5,106]) (kq [464]) 1680 [(!(rFloat.2 != 0)) = true→AllP [(!(rFloat.2 != 0)) = true],(!(rFloat.2 != 0)) = true→AllP [(!(rFloat.2 != 0)) = true],(!(cond (rFloat.2 != 0) true (rFloat3.2 != 0))) = true→AllP [0 < 1],(!(cond (rFloat.2 != 0) true (rFloat3.2 != 0))) = true→AllP [0 < 1],(!(cond (rFloat.2 != 0) true (rFloat3.2 != 0))) = true→AllP [Sound Try.prog 9 [(.agg (TPose.cells rFloat3.1)),(.agg [(aB rAddRat.f_Num.f_Neg),(encL (cU .u16) 0 rAddRat.f_Num.f_Limbs),(aB rAddRat.f_Den.f_Neg),(encL (cU .u16) 0 rAddRat.f_Den.f_Limbs),(aB rAddRat2.f_Num.f_Neg),(encL (cU .u16) 0 rAddRat2.f_Num.f_Limbs),(aB rAddRat2.f_Den.f_Neg),(encL (cU .u16) 0 rAddRat2.f_Den.f_Limbs),(aB rAddRat3.f_Num.f_Neg),(encL (cU .u16) 0 rAddRat3.f_Num.f_Limbs),(aB rAddRat3.f_Den.f_Neg),(encL (cU .u16) 0 rAddRat3.f_Den.f_Limbs),(aB rAddRat4.f_Num.f_Neg),(encL (cU .u16) 0 rAddRat4.f_Num.f_Limbs),(aB rAddRat4.f_Den.f_Neg),(encL (cU .u16) 0 rAddRat4.f_Den.f_Limbs)])] [] 0 (aB rsamePose) [],(!(cond (rFloat.2 != 0) true (rFloat3.2 != 0))) = true,(!(cond (rFloat.2 != 0) true (rFloat3.2 != 0))) = true],(!(cond (rFloat.2 != 0) true (rFloat3.2 != 0))) = true→AllP [(!(cond (rFloat.2 != 0) true (rFloat3.2 != 0))) = true],(!(cond (rFloat.2 != 0) true (rFloat3.2 != 0))) = true→AllP [(!(cond (rFloat.2 != 0) true (rFloat3.2 != 0))) = true]] ⟨(fun hg=>⟨hg,trivial⟩),(fun hq=>⟨hq,trivial⟩),(fun hg=>⟨o1,trivial⟩),(fun hg=>⟨o1,trivial⟩),(fun hg=>⟨(g_w05_samePose_ok N rFloat3.1 (⟨rAddRat,rAddRat2,rAddRat3,rAddRat4⟩:TPose) rsamePose (condT hr11 hg)),hg,hg,trivial⟩),(fun hg=>⟨hg,trivial⟩),(fun hq=>⟨hq,trivial⟩),trivial⟩ ?_
        refine Runs.sC 106 (C_0 32762) (C_0 32763) (cond (cond (rFloat.2 != 0) true (rFloat3.2 != 0)) true (!rsamePose)) (fun hq5=>?_) (fun hq5=>?_)
        · have h:=condT h hq5
          refine Runs.sA 1 [.code (C_0 65524),.code (C_0 65525),.code (C_0 8191)] ?_
          refine Runs.sR hE ⟨[(4,(aB false))],[],1696⟩ (C_0 65524) [] [] (kp [4]) [] 1696 [] trivial ?_
          obtain rfl:=Option.some.inj h
          refine Runs.sW hE ⟨[(4,(aB false))],[],1696⟩ [] (kp [4]) [] 1696 [] trivial ?_
          exact Runs.sT Try.f3 [] [] trivial
        · have h:=condF h hq5
          refine Runs.sA 2 [.code (C_0 16382),.code (C_0 16383)] ?_
          refine Runs.sR hE ⟨[(5,(.op 464 0 0))],[(464,vN 5 [(aI p.f_Length),(aI p.f_Breadth),(aI p.f_Density),(.os 1696 0 (([(⟨0,0,7⟩:TPointMass)]:List TPointMass).length)),(encL TTank.cells TTank.d p.f_Tanks)]),(1696,aO 3 TPointMass.cells TPointMass.d ([(⟨0,0,7⟩:TPointMass)]:List TPointMass))],1744⟩ (C_0 16382) [] [] (kp [5]) [(464,.var 464 [.keep,.keep,.keep,.osl (([(⟨0,0,7⟩:TPointMass)]:List TPointMass).length),.keep]),(1696,.arr 1696 (([(⟨0,0,7⟩:TPointMass)]:List TPointMass).length) (fun zi=>TPointMass.cells (([(⟨0,0,7⟩:TPointMass)]:List TPointMass).getD zi TPointMass.d)))] 1744 [0 < 1,1 = ([(⟨0,0,7⟩:TPointMass)]:List TPointMass).length,1 = ([(⟨0,0,7⟩:TPointMass)]:List TPointMass).length,∀ zi,zi < ([(⟨0,0,7⟩:TPointMass)]:List TPointMass).length→(fun zi=>TPointMass.cells (([(⟨0,0,7⟩:TPointMass)]:List TPointMass).getD zi TPointMass.d)) zi = (fun zi=>([[(aI 0),(aI 0),(aI 7)]]:List (List AV)).getD zi []) zi] ⟨o1,rfl,rfl,(fun zq hzq=>get_chunk TPointMass.cells TPointMass.d ([(⟨0,0,7⟩:TPointMass)]:List TPointMass) zq hzq),trivial⟩ ?_
          refine Runs.sA 1 [.code (C_0 32766),.code (C_0 32767)] ?_
          obtain ⟨rFloat4,hr12,h⟩:=bindSome h
          refine Runs.sR hE ⟨[(8,(aI rFloat4.2)),(14,(.op 1824 0 0))],[(1824,vO 16 (TPose.cells rFloat4.1))],1872⟩ (C_0 32766) [(1,⟨[],true,(.tup [(.agg (TPose.cells rFloat4.1)),(aI rFloat4.2)]),[],0,true,none⟩)] [] (kp [8,14]) (kq [1824]) 1872 [0 < 1,Sound Try.prog 7 [(.agg [(aI p.f_Length),(aI p.f_Breadth),(aI p.f_Density),(encL TPointMass.cells TPointMass.d ([(⟨0,0,7⟩:TPointMass)]:List TPointMass)),(encL TTank.cells TTank.d p.f_Tanks)]),.nil] [] 0 (.tup [(.agg (TPose.cells rFloat4.1)),(aI rFloat4.2)]) [],0+([(⟨0,0,7⟩:TPointMass)]:List TPointMass).length≤([(⟨0,0,7⟩:TPointMass)]:List TPointMass).length,0 < 1] ⟨o1,(Sound.conv (g_water_Float_ok N (⟨p.f_Length,p.f_Breadth,p.f_Density,([(⟨0,0,7⟩:TPointMass)]:List TPointMass),p.f_Tanks⟩:TPontoon) ([]:List Int) rFloat4 hr12) (.cons (Alike.refl _) (.cons Alike.nil .nil))),z0,o1,trivial⟩ ?_
          refine Runs.sA 1 [.code (C_0 65534),.code (C_0 65535)] ?_
          obtain ⟨rSignRat,hr13,h⟩:=bindSome h
          obtain ⟨rSignRat2,hr14,h⟩:=bindSome h
          obtain ⟨rSignRat3,hr15,h⟩:=bindSome h
          obtain ⟨rSignRat4,hr16,h⟩:=bindSome h
          refine Runs.sR hE ⟨[(4,(aB (cond (cond (cond (cond (rFloat4.2 == 0) (rSignRat == 0) false) (rSignRat2 == 0) false) (decide (rSignRat3 < 0)) false) (decide (rSignRat4 > 0)) false)))],[],2304⟩ (C_0 65534) [(5,⟨[],true,(aI rSignRat),[],0,false,none⟩),(11,⟨[],true,(aI rSignRat2),[],0,false,none⟩),(17,⟨[],true,(aI rSignRat3),[],0,false,none⟩),(23,⟨[],true,(aI rSignRat4),[],0,false,none⟩)] [] (kp [4]) [] 2304 [(rFloat4.2 == 0) = true→AllP [(rFloat4.2 == 0) = true,0 < 1],(rFloat4.2 == 0) = true→AllP [Sound Try.prog 10 [(.agg (TRat.cells rFloat4.1.f_Trim))] [] 0 (aI rSignRat) [],(rFloat4.2 == 0) = true],(rFloat4.2 == 0) = true→AllP [(rFloat4.2 == 0) = true],(rFloat4.2 == 0) = true→AllP [(rFloat4.2 == 0) = true],(cond (rFloat4.2 == 0) (rSignRat == 0) false) = true→AllP [(cond (rFloat4.2 == 0) (rSignRat == 0) false) = true,0 < 1],(cond (rFloat4.2 == 0) (rSignRat == 0) false) = true→AllP [Sound Try.prog 10 [(.agg (TRat.cells rFloat4.1.f_Heel))] [] 0 (aI rSignRat2) [],(cond (rFloat4.2 == 0) (rSignRat == 0) false) = true],(cond (rFloat4.2 == 0) (rSignRat == 0) false) = true→AllP [(cond (rFloat4.2 == 0) (rSignRat == 0) false) = true],(cond (rFloat4.2 == 0) (rSignRat == 0) false) = true→AllP [(cond (rFloat4.2 == 0) (rSignRat == 0) false) = true],(cond (cond (rFloat4.2 == 0) (rSignRat == 0) false) (rSignRat2 == 0) false) = true→AllP [(cond (cond (rFloat4.2 == 0) (rSignRat == 0) false) (rSignRat2 == 0) false) = true,0 < 1],(cond (cond (rFloat4.2 == 0) (rSignRat == 0) false) (rSignRat2 == 0) false) = true→AllP [Sound Try.prog 10 [(.agg (TRat.cells rFloat4.1.f_Hog))] [] 0 (aI rSignRat3) [],(cond (cond (rFloat4.2 == 0) (rSignRat == 0) false) (rSignRat2 == 0) false) = true],(cond (cond (rFloat4.2 == 0) (rSignRat == 0) false) (rSignRat2 == 0) false) = true→AllP [(cond (cond (rFloat4.2 == 0) (rSignRat == 0) false) (rSignRat2 == 0) false) = true],(cond (cond (rFloat4.2 == 0) (rSignRat == 0) false) (rSignRat2 == 0) false) = true→AllP [(cond (cond (rFloat4.2 == 0) (rSignRat == 0) false) (rSignRat2 == 0) false) = true],(cond (cond (cond (rFloat4.2 == 0) (rSignRat == 0) false) (rSignRat2 == 0) false) (decide (rSignRat3 < 0)) false) = true→AllP [(cond (cond (cond (rFloat4.2 == 0) (rSignRat == 0) false) (rSignRat2 == 0) false) (decide (rSignRat3 < 0)) false) = true,0 < 1],(cond (cond (cond (rFloat4.2 == 0) (rSignRat == 0) false) (rSignRat2 == 0) false) (decide (rSignRat3 < 0)) false) = true→AllP [Sound Try.prog 10 [(.agg (TRat.cells rFloat4.1.f_Draught))] [] 0 (aI rSignRat4) [],(cond (cond (cond (rFloat4.2 == 0) (rSignRat == 0) false) (rSignRat2 == 0) false) (decide (rSignRat3 < 0)) false) = true],(cond (cond (cond (rFloat4.2 == 0) (rSignRat == 0) false) (rSignRat2 == 0) false) (decide (rSignRat3 < 0)) false) = true→AllP [(cond (cond (cond (rFloat4.2 == 0) (rSignRat == 0) false) (rSignRat2 == 0) false) (decide (rSignRat3 < 0)) false) = true],(cond (cond (cond (rFloat4.2 == 0) (rSignRat == 0) false) (rSignRat2 == 0) false) (decide (rSignRat3 < 0)) false) = true→AllP [(cond (cond (cond (rFloat4.2 == 0) (rSignRat == 0) false) (rSignRat2 == 0) false) (decide (rSignRat3 < 0)) false) = true]] ⟨(fun hg=>⟨hg,o1,trivial⟩),(fun hg=>⟨(g_r01_SignRat_ok N rFloat4.1.f_Trim rSignRat (condT hr13 hg)),hg,trivial⟩),(fun hg=>⟨hg,trivial⟩),(fun hq=>⟨hq,trivial⟩),(fun hg=>⟨hg,o1,trivial⟩),(fun hg=>⟨(g_r01_SignRat_ok N rFloat4.1.f_Heel rSignRat2 (condT hr14 hg)),hg,trivial⟩),(fun hg=>⟨hg,trivial⟩),(fun hq=>⟨hq,trivial⟩),(fun hg=>⟨hg,o1,trivial⟩),(fun hg=>⟨(g_r01_SignRat_ok N rFloat4.1.f_Hog rSignRat3 (condT hr15 hg)),hg,trivial⟩),(fun hg=>⟨hg,trivial⟩),(fun hq=>⟨hq,trivial⟩),(fun hg=>⟨hg,o1,trivial⟩),(fun hg=>⟨(g_r01_SignRat_ok N rFloat4.1.f_Draught rSignRat4 (condT hr16 hg)),hg,trivial⟩),(fun hg=>⟨hg,trivial⟩),(fun hq=>⟨hq,trivial⟩),trivial⟩ ?_
          obtain rfl:=Option.some.inj h
          refine Runs.sW hE ⟨[(4,(aB (cond (cond (cond (cond (rFloat4.2 == 0) (rSignRat == 0) false) (rSignRat2 == 0) false) (decide (rSignRat3 < 0)) false) (decide (rSignRat4 > 0)) false)))],[],2304⟩ [] (kp [4]) [] 2304 [] trivial ?_
          exact Runs.sT Try.f3 [] [] trivial
end Go.Den
