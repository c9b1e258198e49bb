/- Each function of the program does what its Lean function computes (part 2). No conditions. -/
import Derived.Test.YtkkolmlgedjmnaaBerthMooringsSa
import Derived.Test.YtkkolmlgedjmnaaProg
set_option linter.unusedVariables false
set_option maxRecDepth 100000
namespace Go.Den
open Go.Ab Go.Proofs
noncomputable def C_52 (n:Nat):Code:=cat (bodyOf Try.f117) (pth n)
theorem g_e_minus_J3_ok (N:Nat) (a:List Int) (b:List Int) (out:List Int) (x:Int) (y:Int) (K_g_e_minus_L1:(List Int)→Int→Int→Option ((List Int)))
    (hK_g_e_minus_L1:∀ (out:List Int) (borrow:Int) (x:Int) (r:(List Int)),K_g_e_minus_L1 out borrow x = some r→∀ E,EnvOk E 0→Runs Try.prog E 117 50 (SPost E [] (encL (cU .u16) 0 r)) [.code (C_52 244),.inLoop (C_52 244),.inBlock 0,.code (C_52 31)] ⟨[(1,(encL (cU .u16) 0 b)),(5,(.os 0 0 out.length)),(6,(.atom (.int .u32 borrow))),(13,(encL (cU .u16) 0 a)),(14,(aI ((a.length:Nat):Int))),(15,(aI x))],[(0,aO 1 (cU .u16) 0 out)],1⟩) (borrow2:Int) (r:(List Int)) (h:g_e_minus_J3 N a b out x y K_g_e_minus_L1 borrow2 = some r):∀ E,EnvOk E 0→Runs Try.prog E 117 50 (SPost E [] (encL (cU .u16) 0 r)) [.code (C_52 125343),.inBlock 1,.code (C_52 1959),.inLoop (C_52 244),.inBlock 0,.code (C_52 31)] ⟨[(1,(encL (cU .u16) 0 b)),(5,(.os 0 0 out.length)),(6,(.atom (.int .u32 borrow2))),(7,(aI x)),(8,(.atom (.int .u16 (a.getD ((x).toNat) 0)))),(9,(.atom (.int .u32 y))),(13,(encL (cU .u16) 0 a)),(14,(aI ((a.length:Nat):Int))),(15,(aI x))],[(0,aO 1 (cU .u16) 0 out)],1⟩:=by
  intro E hE
  unfold g_e_minus_J3 at h
  obtain ⟨c4,h⟩:=ifSome h
  refine Runs.sR hE ⟨[(1,(encL (cU .u16) 0 b)),(5,(.os 0 0 ((out.set ((x).toNat) (IntKind.u16.wrap ((IntKind.u32.wrap ((IntKind.u32.wrap ((IntKind.u32.wrap ((a.getD ((x).toNat) 0)))+(shlI .u32 borrow2 16))) - y))))).length))),(6,(.atom (.int .u32 borrow2))),(13,(encL (cU .u16) 0 a)),(14,(aI ((a.length:Nat):Int))),(15,(aI x))],[(0,aO 1 (cU .u16) 0 (out.set ((x).toNat) (IntKind.u16.wrap ((IntKind.u32.wrap ((IntKind.u32.wrap ((IntKind.u32.wrap ((a.getD ((x).toNat) 0)))+(shlI .u32 borrow2 16))) - y))))))],193⟩ (C_52 125343) [] [] (kp [1] ++ [(5,.osl ((out.set ((x).toNat) (IntKind.u16.wrap ((IntKind.u32.wrap ((IntKind.u32.wrap ((IntKind.u32.wrap ((a.getD ((x).toNat) 0)))+(shlI .u32 borrow2 16))) - y))))).length))] ++ kp [6,13,14,15]) [(0,.arr 0 ((out.set ((x).toNat) (IntKind.u16.wrap ((IntKind.u32.wrap ((IntKind.u32.wrap ((IntKind.u32.wrap ((a.getD ((x).toNat) 0)))+(shlI .u32 borrow2 16))) - y))))).length) (fun zi=>(cU .u16) ((out.set ((x).toNat) (IntKind.u16.wrap ((IntKind.u32.wrap ((IntKind.u32.wrap ((IntKind.u32.wrap ((a.getD ((x).toNat) 0)))+(shlI .u32 borrow2 16))) - y))))).getD zi 0)))] 193 [(0:Int)≤16,0≤x∧x < ((out.length:Nat):Int),(x).toNat < out.length,out.length = (out.set ((x).toNat) (IntKind.u16.wrap ((IntKind.u32.wrap ((IntKind.u32.wrap ((IntKind.u32.wrap ((a.getD ((x).toNat) 0)))+(shlI .u32 borrow2 16))) - y))))).length,out.length = (out.set ((x).toNat) (IntKind.u16.wrap ((IntKind.u32.wrap ((IntKind.u32.wrap ((IntKind.u32.wrap ((a.getD ((x).toNat) 0)))+(shlI .u32 borrow2 16))) - y))))).length,∀ zi,zi < (out.set ((x).toNat) (IntKind.u16.wrap ((IntKind.u32.wrap ((IntKind.u32.wrap ((IntKind.u32.wrap ((a.getD ((x).toNat) 0)))+(shlI .u32 borrow2 16))) - y))))).length→(fun zi=>(cU .u16) ((out.set ((x).toNat) (IntKind.u16.wrap ((IntKind.u32.wrap ((IntKind.u32.wrap ((IntKind.u32.wrap ((a.getD ((x).toNat) 0)))+(shlI .u32 borrow2 16))) - y))))).getD zi 0)) zi = ((fun zm=>if zm = (x).toNat then [(.atom (.int .u16 (IntKind.u16.wrap ((IntKind.u32.wrap ((IntKind.u32.wrap ((IntKind.u32.wrap ((a.getD ((x).toNat) 0)))+(shlI .u32 borrow2 16))) - y))))))] else (fun zi=>(cU .u16) (out.getD zi 0)) zm)) zi] ⟨(by decide),c4,(ltOf c4),(len_set_raw rfl),(len_set_raw rfl),(get_set_raw (cU .u16) 0 out ((x).toNat) (IntKind.u16.wrap ((IntKind.u32.wrap ((IntKind.u32.wrap ((IntKind.u32.wrap ((a.getD ((x).toNat) 0)))+(shlI .u32 borrow2 16))) - y)))) (fun _ _=>rfl)),trivial⟩ ?_
  refine Runs.sA 1 [.code (C_52 1959),.inLoop (C_52 244),.inBlock 0,.code (C_52 31)] ?_
  refine Runs.sR hE ⟨[(1,(encL (cU .u16) 0 b)),(5,(.os 0 0 ((out.set ((x).toNat) (IntKind.u16.wrap ((IntKind.u32.wrap ((IntKind.u32.wrap ((IntKind.u32.wrap ((a.getD ((x).toNat) 0)))+(shlI .u32 borrow2 16))) - y))))).length))),(6,(.atom (.int .u32 borrow2))),(13,(encL (cU .u16) 0 a)),(14,(aI ((a.length:Nat):Int))),(15,(aI (w64 (x+1))))],[(0,aO 1 (cU .u16) 0 (out.set ((x).toNat) (IntKind.u16.wrap ((IntKind.u32.wrap ((IntKind.u32.wrap ((IntKind.u32.wrap ((a.getD ((x).toNat) 0)))+(shlI .u32 borrow2 16))) - y))))))],225⟩ (C_52 1959) [] [] (kp [1,5,6,13,14,15]) (kq [0]) 225 [] trivial ?_
  refine Runs.sA 1 [.code (C_52 244),.inLoop (C_52 244),.inBlock 0,.code (C_52 31)] ?_
  exact Runs.sW hE _ [] (kp [1,5,6,13,14,15]) (kq [0]) 1 [] trivial (hK_g_e_minus_L1 (out.set ((x).toNat) (IntKind.u16.wrap ((IntKind.u32.wrap ((IntKind.u32.wrap ((IntKind.u32.wrap ((a.getD ((x).toNat) 0)))+(shlI .u32 borrow2 16))) - y))))) borrow2 (w64 (x+1)) _ h E hE)
theorem g_e_minus_J2_ok (N:Nat) (a:List Int) (b:List Int) (out:List Int) (x:Int) (K_g_e_minus_L1:(List Int)→Int→Int→Option ((List Int)))
    (hK_g_e_minus_L1:∀ (out:List Int) (borrow:Int) (x:Int) (r:(List Int)),K_g_e_minus_L1 out borrow x = some r→∀ E,EnvOk E 0→Runs Try.prog E 117 50 (SPost E [] (encL (cU .u16) 0 r)) [.code (C_52 244),.inLoop (C_52 244),.inBlock 0,.code (C_52 31)] ⟨[(1,(encL (cU .u16) 0 b)),(5,(.os 0 0 out.length)),(6,(.atom (.int .u32 borrow))),(13,(encL (cU .u16) 0 a)),(14,(aI ((a.length:Nat):Int))),(15,(aI x))],[(0,aO 1 (cU .u16) 0 out)],1⟩) (y:Int) (r:(List Int)) (h:g_e_minus_J2 N a b out x K_g_e_minus_L1 y = some r):∀ E,EnvOk E 0→Runs Try.prog E 117 50 (SPost E [] (encL (cU .u16) 0 r)) [.code (C_52 62670),.code (C_52 62671),.inBlock 1,.code (C_52 1959),.inLoop (C_52 244),.inBlock 0,.code (C_52 31)] ⟨[(1,(encL (cU .u16) 0 b)),(5,(.os 0 0 out.length)),(7,(aI x)),(8,(.atom (.int .u16 (a.getD ((x).toNat) 0)))),(9,(.atom (.int .u32 y))),(13,(encL (cU .u16) 0 a)),(14,(aI ((a.length:Nat):Int))),(15,(aI x))],[(0,aO 1 (cU .u16) 0 out)],1⟩:=by
  intro E hE
  unfold g_e_minus_J2 at h
  refine Runs.sR hE ⟨[(1,(encL (cU .u16) 0 b)),(5,(.os 0 0 out.length)),(6,(.atom (.int .u32 0))),(7,(aI x)),(8,(.atom (.int .u16 (a.getD ((x).toNat) 0)))),(9,(.atom (.int .u32 y))),(13,(encL (cU .u16) 0 a)),(14,(aI ((a.length:Nat):Int))),(15,(aI x))],[(0,aO 1 (cU .u16) 0 out)],17⟩ (C_52 62670) [] [] (kp [1,5,6,7,8,9,13,14,15]) (kq [0]) 17 [] trivial ?_
  refine Runs.sA 2 [.code (C_52 250684),.code (C_52 250685),.code (C_52 125343),.inBlock 1,.code (C_52 1959),.inLoop (C_52 244),.inBlock 0,.code (C_52 31)] ?_
  refine Runs.sR hE ⟨[(1,(encL (cU .u16) 0 b)),(5,(.os 0 0 out.length)),(6,(.atom (.int .u32 0))),(7,(aI x)),(8,(.atom (.int .u16 (a.getD ((x).toNat) 0)))),(9,(.atom (.int .u32 y))),(13,(encL (cU .u16) 0 a)),(14,(aI ((a.length:Nat):Int))),(15,(aI x)),(35,(aB (decide ((IntKind.u32.wrap ((a.getD ((x).toNat) 0))) < y))))],[(0,aO 1 (cU .u16) 0 out)],81⟩ (C_52 250684) [] [] (kp [1,5,6,7,8,9,13,14,15,35]) (kq [0]) 81 [] trivial ?_
  refine Runs.sC 35 (C_52 501370) (C_52 501371) (decide ((IntKind.u32.wrap ((a.getD ((x).toNat) 0))) < y)) (fun hq4=>?_) (fun hq4=>?_)
  · have h:=condT h hq4
    refine Runs.sR hE ⟨[(1,(encL (cU .u16) 0 b)),(5,(.os 0 0 out.length)),(6,(.atom (.int .u32 1))),(7,(aI x)),(8,(.atom (.int .u16 (a.getD ((x).toNat) 0)))),(9,(.atom (.int .u32 y))),(13,(encL (cU .u16) 0 a)),(14,(aI ((a.length:Nat):Int))),(15,(aI x))],[(0,aO 1 (cU .u16) 0 out)],97⟩ (C_52 501370) [] [] (kp [1,5,6,7,8,9,13,14,15]) (kq [0]) 97 [] trivial ?_
    exact Runs.sW hE _ [] (kp [1,5,6,7,8,9,13,14,15]) (kq [0]) 1 [] trivial (g_e_minus_J3_ok N a b out x y K_g_e_minus_L1 hK_g_e_minus_L1 1 _ h E hE)
  · have h:=condF h hq4
    refine Runs.sA 1 [.code (C_52 125343),.inBlock 1,.code (C_52 1959),.inLoop (C_52 244),.inBlock 0,.code (C_52 31)] ?_
    exact Runs.sW hE _ [] (kp [1,5,6,7,8,9,13,14,15]) (kq [0]) 1 [] trivial (g_e_minus_J3_ok N a b out x y K_g_e_minus_L1 hK_g_e_minus_L1 0 _ h E hE)
theorem g_e_minus_L1_ok (N:Nat) (a:List Int) (b:List Int) (fuel:Nat):∀ (out:List Int) (borrow:Int) (x:Int) (r:(List Int)),g_e_minus_L1 N a b fuel out borrow x = some r→∀ E,EnvOk E 0→Runs Try.prog E 117 50 (SPost E [] (encL (cU .u16) 0 r)) [.code (C_52 244),.inLoop (C_52 244),.inBlock 0,.code (C_52 31)] ⟨[(1,(encL (cU .u16) 0 b)),(5,(.os 0 0 out.length)),(6,(.atom (.int .u32 borrow))),(13,(encL (cU .u16) 0 a)),(14,(aI ((a.length:Nat):Int))),(15,(aI x))],[(0,aO 1 (cU .u16) 0 out)],1⟩:=by
  induction fuel with
  | zero=>intro _ _ _ r h; rw [g_e_minus_L1.eq_1] at h; cases h
  | succ fuel ih =>
    intro out borrow x r h E hE
    rw [g_e_minus_L1.eq_2] at h
    refine Runs.sA 1 [.code (C_52 488),.code (C_52 489),.inLoop (C_52 244),.inBlock 0,.code (C_52 31)] ?_
    refine Runs.sR hE ⟨[(1,(encL (cU .u16) 0 b)),(5,(.os 0 0 out.length)),(6,(.atom (.int .u32 borrow))),(13,(encL (cU .u16) 0 a)),(14,(aI ((a.length:Nat):Int))),(15,(aI x)),(16,(aB (decide (x < ((a.length:Nat):Int)))))],[(0,aO 1 (cU .u16) 0 out)],17⟩ (C_52 488) [] [] (kp [1,5,6,13,14,15,16]) (kq [0]) 17 [] trivial ?_
    refine Runs.sA 1 [.code (C_52 978),.code (C_52 979),.inLoop (C_52 244),.inBlock 0,.code (C_52 31)] ?_
    refine Runs.sC 16 (C_52 1956) (C_52 1957) (decide (x < ((a.length:Nat):Int))) (fun hq2=>?_) (fun hq2=>?_)
    · have h:=condT h hq2
      refine Runs.sA 4 [.code (C_52 7832),.code (C_52 7833),.inBlock 1,.code (C_52 1959),.inLoop (C_52 244),.inBlock 0,.code (C_52 31)] ?_
      obtain ⟨c2,h⟩:=ifSome h
      refine Runs.sR hE ⟨[(1,(encL (cU .u16) 0 b)),(5,(.os 0 0 out.length)),(6,(.atom (.int .u32 borrow))),(7,(aI x)),(8,(.atom (.int .u16 (a.getD ((x).toNat) 0)))),(13,(encL (cU .u16) 0 a)),(14,(aI ((a.length:Nat):Int))),(15,(aI x))],[(0,aO 1 (cU .u16) 0 out)],97⟩ (C_52 7832) [] [] (kp [1,5,6,7,8,13,14,15]) (kq [0]) 97 [0≤x∧x < ((a.length:Nat):Int)] ⟨c2,trivial⟩ ?_
      refine Runs.sA 1 [.code (C_52 15666),.code (C_52 15667),.inBlock 1,.code (C_52 1959),.inLoop (C_52 244),.inBlock 0,.code (C_52 31)] ?_
      refine Runs.sR hE ⟨[(1,(encL (cU .u16) 0 b)),(5,(.os 0 0 out.length)),(7,(aI x)),(8,(.atom (.int .u16 (a.getD ((x).toNat) 0)))),(9,(.atom (.int .u32 borrow))),(13,(encL (cU .u16) 0 a)),(14,(aI ((a.length:Nat):Int))),(15,(aI x))],[(0,aO 1 (cU .u16) 0 out)],129⟩ (C_52 15666) [] [] (kp [1,5,7,8,9,13,14,15]) (kq [0]) 129 [] trivial ?_
      refine Runs.sA 2 [.code (C_52 62668),.code (C_52 62669),.code (C_52 31335),.inBlock 1,.code (C_52 1959),.inLoop (C_52 244),.inBlock 0,.code (C_52 31)] ?_
      refine Runs.sR hE ⟨[(1,(encL (cU .u16) 0 b)),(5,(.os 0 0 out.length)),(7,(aI x)),(8,(.atom (.int .u16 (a.getD ((x).toNat) 0)))),(9,(.atom (.int .u32 borrow))),(13,(encL (cU .u16) 0 a)),(14,(aI ((a.length:Nat):Int))),(15,(aI x)),(24,(aB (decide (x < ((b.length:Nat):Int)))))],[(0,aO 1 (cU .u16) 0 out)],193⟩ (C_52 62668) [] [] (kp [1,5,7,8,9,13,14,15,24]) (kq [0]) 193 [] trivial ?_
      refine Runs.sC 24 (C_52 125338) (C_52 125339) (decide (x < ((b.length:Nat):Int))) (fun hq3=>?_) (fun hq3=>?_)
      · have h:=condT h hq3
        obtain ⟨c3,h⟩:=ifSome h
        refine Runs.sR hE ⟨[(1,(encL (cU .u16) 0 b)),(5,(.os 0 0 out.length)),(7,(aI x)),(8,(.atom (.int .u16 (a.getD ((x).toNat) 0)))),(9,(.atom (.int .u32 (IntKind.u32.wrap (borrow+(IntKind.u32.wrap ((b.getD ((x).toNat) 0)))))))),(13,(encL (cU .u16) 0 a)),(14,(aI ((a.length:Nat):Int))),(15,(aI x))],[(0,aO 1 (cU .u16) 0 out)],321⟩ (C_52 125338) [] [] (kp [1,5,7,8,9,13,14,15]) (kq [0]) 321 [0≤x∧x < ((b.length:Nat):Int)] ⟨c3,trivial⟩ ?_
        refine Runs.sA 1 [.code (C_52 62670),.code (C_52 62671),.inBlock 1,.code (C_52 1959),.inLoop (C_52 244),.inBlock 0,.code (C_52 31)] ?_
        exact Runs.sW hE _ [] (kp [1,5,7,8,9,13,14,15]) (kq [0]) 1 [] trivial (g_e_minus_J2_ok N a b out x (g_e_minus_L1 N a b fuel) ih (IntKind.u32.wrap (borrow+(IntKind.u32.wrap ((b.getD ((x).toNat) 0))))) _ h E hE)
      · have h:=condF h hq3
        refine Runs.sA 2 [.code (C_52 62670),.code (C_52 62671),.inBlock 1,.code (C_52 1959),.inLoop (C_52 244),.inBlock 0,.code (C_52 31)] ?_
        exact Runs.sW hE _ [] (kp [1,5,7,8,9,13,14,15]) (kq [0]) 1 [] trivial (g_e_minus_J2_ok N a b out x (g_e_minus_L1 N a b fuel) ih borrow _ h E hE)
    · have h:=condF h hq2
      refine Runs.sA 2 [.code (C_52 62),.code (C_52 63)] ?_
      obtain ⟨rtrim,hr,h⟩:=bindSome h
      refine Runs.sR hE ⟨[(4,(encL (cU .u16) 0 rtrim))],[],65⟩ (C_52 62) [(1,⟨[],true,(encL (cU .u16) 0 rtrim),[],0,true,none⟩)] [] (kp [4]) [] 65 [Sound Try.prog 112 [(encL (cU .u16) 0 out)] [] 0 (encL (cU .u16) 0 rtrim) [],0+out.length≤out.length] ⟨(g_e_trim_ok N out rtrim hr),z0,trivial⟩ ?_
      obtain rfl:=Option.some.inj h
      refine Runs.sW hE ⟨[(4,(encL (cU .u16) 0 rtrim))],[],65⟩ [] (kp [4]) [] 65 [] trivial ?_
      exact Runs.sT Try.f117 [] [] trivial
theorem g_e_minus_ok (N:Nat) (a:List Int) (b:List Int) (r:(List Int)) (h:g_e_minus N a b = some r):Sound Try.prog 117 [(encL (cU .u16) 0 a),(encL (cU .u16) 0 b)] [] 0 (encL (cU .u16) 0 r) []:=by
  unfold g_e_minus at h
  refine Sound.of_runs (fu:=Try.f117) (c:=C_52 1) (nt:=50) (by kernel_rfl) (by kernel_rfl) (by kernel_rfl) (by kernel_rfl) (fun hm=>rfl) ?_
  intro E hE
  refine Runs.sA 1 [.code (C_52 2),.code (C_52 3)] ?_
  refine Runs.sR hE ⟨[(0,(encL (cU .u16) 0 a)),(1,(encL (cU .u16) 0 b))],[],16⟩ (C_52 2) [] [] (kp [0,1]) [] 16 [] trivial ?_
  refine Runs.sA 1 [.code (C_52 6),.code (C_52 7)] ?_
  obtain ⟨c,h⟩:=ifSome h
  refine Runs.sR hE ⟨[(0,(encL (cU .u16) 0 a)),(1,(encL (cU .u16) 0 b)),(5,(.os 48 0 ((List.replicate a.length 0:List Int).length)))],[(48,aO 1 (cU .u16) 0 (List.replicate a.length 0:List Int))],80⟩ (C_52 6) [] [] (kp [0,1] ++ [(5,.osl ((List.replicate a.length 0:List Int).length))]) [(48,.arr 48 ((List.replicate a.length 0:List Int).length) (fun zi=>(cU .u16) ((List.replicate a.length 0:List Int).getD zi 0)))] 80 [0≤((a.length:Nat):Int),((a.length:Nat):Int)≤((a.length:Nat):Int),(2:Int) * ((a.length:Nat):Int)≤281474976710656,((a.length:Nat):Int)≤9223372036854775807,a.length = (List.replicate a.length 0:List Int).length,a.length = (List.replicate a.length 0:List Int).length,∀ zi,zi < (List.replicate a.length 0:List Int).length→(fun zi=>(cU .u16) ((List.replicate a.length 0:List Int).getD zi 0)) zi = (fun _=>[(.atom (.int .u16 0))]) zi] ⟨c.1,(Int.le_refl _),c.2.1,c.2.2,(List.length_replicate).symm,(List.length_replicate).symm,(fun zq hzq=>get_rep (cU .u16) 0 0 a.length zq hzq),trivial⟩ ?_
  refine Runs.sA 1 [.code (C_52 14),.code (C_52 15)] ?_
  refine Runs.sR hE ⟨[(0,(encL (cU .u16) 0 a)),(1,(encL (cU .u16) 0 b)),(5,(.os 48 0 ((List.replicate a.length 0:List Int).length))),(6,(.atom (.int .u32 0)))],[(48,aO 1 (cU .u16) 0 (List.replicate a.length 0:List Int))],96⟩ (C_52 14) [] [] (kp [0,1,5,6]) (kq [48]) 96 [] trivial ?_
  refine Runs.sA 2 [.code (C_52 60),.code (C_52 61),.code (C_52 31)] ?_
  refine Runs.sR hE ⟨[(1,(encL (cU .u16) 0 b)),(5,(.os 48 0 ((List.replicate a.length 0:List Int).length))),(6,(.atom (.int .u32 0))),(13,(encL (cU .u16) 0 a)),(14,(aI ((a.length:Nat):Int))),(15,(aI 0))],[(48,aO 1 (cU .u16) 0 (List.replicate a.length 0:List Int))],144⟩ (C_52 60) [] [] (kp [1,5,6,13,14,15]) (kq [48]) 144 [] trivial ?_
  refine Runs.sA 2 [.code (C_52 244),.inLoop (C_52 244),.inBlock 0,.code (C_52 31)] ?_
  exact Runs.sW hE _ [] (kp [1,5,6,13,14,15]) [(0,.keep 48)] 1 [] trivial (g_e_minus_L1_ok N a b N (List.replicate a.length 0:List Int) 0 0 _ h E hE)
noncomputable def C_50 (n:Nat):Code:=cat (bodyOf Try.f87) (pth n)
theorem g_e_Add_ok (N:Nat) (a:TInt) (b:TInt) (r:TInt) (h:g_e_Add N a b = some r):Sound Try.prog 87 [(.agg (TInt.cells a)),(.agg (TInt.cells b))] [] 0 (.agg (TInt.cells r)) []:=by
  unfold g_e_Add at h
  refine Sound.of_runs (fu:=Try.f87) (c:=C_50 1) (nt:=40) (by kernel_rfl) (by kernel_rfl) (by kernel_rfl) (by kernel_rfl) (fun hm=>rfl) ?_
  intro E hE
  refine Runs.sA 1 [.code (C_50 2),.code (C_50 3)] ?_
  refine Runs.sR hE ⟨[(2,(.op 0 0 0)),(3,(.op 16 0 0)),(4,(.op 32 0 0))],[(0,vO 2 (TInt.cells a)),(16,vO 2 (TInt.cells b)),(32,vO 2 [(aB false),.nil])],48⟩ (C_50 2) [] [] (kp [2,3,4]) (kq [0,16,32]) 48 [] trivial ?_
  refine Runs.sA 1 [.code (C_50 6),.code (C_50 7)] ?_
  obtain ⟨rtrim,hr,h⟩:=bindSome h
  obtain ⟨rtrim2,hr2,h⟩:=bindSome h
  refine Runs.sR hE ⟨[(2,(.op 0 0 0)),(3,(.op 16 0 0)),(4,(.op 32 0 0)),(5,(encL (cU .u16) 0 rtrim)),(6,(encL (cU .u16) 0 rtrim2))],[(0,vO 2 (TInt.cells a)),(16,vO 2 (TInt.cells b)),(32,vO 2 [(aB false),.nil])],176⟩ (C_50 6) [(2,⟨[],true,(encL (cU .u16) 0 rtrim),[],0,false,none⟩),(5,⟨[],true,(encL (cU .u16) 0 rtrim2),[],0,false,none⟩)] [] (kp [2,3,4,5,6]) (kq [0,16,32]) 176 [0 < 1,Sound Try.prog 112 [(encL (cU .u16) 0 a.f_Limbs)] [] 0 (encL (cU .u16) 0 rtrim) [],0 < 1,Sound Try.prog 112 [(encL (cU .u16) 0 b.f_Limbs)] [] 0 (encL (cU .u16) 0 rtrim2) []] ⟨o1,(g_e_trim_ok N a.f_Limbs rtrim hr),o1,(g_e_trim_ok N b.f_Limbs rtrim2 hr2),trivial⟩ ?_
  refine Runs.sA 2 [.code (C_50 28),.code (C_50 29),.code (C_50 15)] ?_
  refine Runs.sR hE ⟨[(2,(.op 0 0 0)),(3,(.op 16 0 0)),(4,(.op 32 0 0)),(5,(encL (cU .u16) 0 rtrim)),(6,(encL (cU .u16) 0 rtrim2)),(17,(aB (a.f_Neg == b.f_Neg)))],[(0,vO 2 (TInt.cells a)),(16,vO 2 (TInt.cells b)),(32,vO 2 [(aB false),.nil])],256⟩ (C_50 28) [] [] (kp [2,3,4,5,6,17]) (kq [0,16,32]) 256 [0 < 1,0 < 1] ⟨o1,o1,trivial⟩ ?_
  refine Runs.sC 17 (C_50 58) (C_50 59) (a.f_Neg == b.f_Neg) (fun hq2=>?_) (fun hq2=>?_)
  · have h:=condT h hq2
    refine Runs.sA 1 [.code (C_50 116),.code (C_50 117),.code (C_50 15)] ?_
    obtain ⟨rplus,hr3,h⟩:=bindSome h
    obtain ⟨rsigned,hr4,h⟩:=bindSome h
    refine Runs.sR hE ⟨[(4,(.op 32 0 0))],[(32,vO 2 (TInt.cells rsigned))],368⟩ (C_50 116) [(4,⟨[],true,(encL (cU .u16) 0 rplus),[],0,false,none⟩),(5,⟨[],true,(.agg (TInt.cells rsigned)),[],0,false,none⟩)] [] (kp [4]) (kq [32]) 368 [0 < 1,Sound Try.prog 115 [(encL (cU .u16) 0 rtrim),(encL (cU .u16) 0 rtrim2)] [] 0 (encL (cU .u16) 0 rplus) [],Sound Try.prog 110 [(aB a.f_Neg),(encL (cU .u16) 0 rplus)] [] 0 (.agg (TInt.cells rsigned)) [],0 < 1] ⟨o1,(g_e_plus_ok N rtrim rtrim2 rplus hr3),(g_e_signed_ok N a.f_Neg rplus rsigned hr4),o1,trivial⟩ ?_
    obtain rfl:=Option.some.inj h
    refine Runs.sW hE ⟨[(4,(.op 16 0 0))],[(16,vO 2 (TInt.cells rsigned))],368⟩ [] (kp [4]) [(16,.keep 32)] 368 [] trivial ?_
    exact Runs.sT Try.f87 [16] [0 < 1] ⟨o1,trivial⟩
  · have h:=condF h hq2
    refine Runs.sA 3 [.code (C_50 60),.code (C_50 61),.code (C_50 31)] ?_
    obtain ⟨rcompare,hr5,h⟩:=bindSome h
    refine Runs.sR hE ⟨[(2,(.op 0 0 0)),(3,(.op 16 0 0)),(4,(.op 32 0 0)),(5,(encL (cU .u16) 0 rtrim)),(6,(encL (cU .u16) 0 rtrim2)),(27,(aB (decide (rcompare ≥ 0))))],[(0,vO 2 (TInt.cells a)),(16,vO 2 (TInt.cells b)),(32,vO 2 [(aB false),.nil])],320⟩ (C_50 60) [(2,⟨[],true,(aI rcompare),[],0,false,none⟩)] [] (kp [2,3,4,5,6,27]) (kq [0,16,32]) 320 [Sound Try.prog 116 [(encL (cU .u16) 0 rtrim),(encL (cU .u16) 0 rtrim2)] [] 0 (aI rcompare) []] ⟨(g_e_compare_ok N rtrim rtrim2 rcompare hr5),trivial⟩ ?_
    refine Runs.sC 27 (C_50 122) (C_50 123) (decide (rcompare ≥ 0)) (fun hq3=>?_) (fun hq3=>?_)
    · have h:=condT h hq3
      refine Runs.sA 1 [.code (C_50 244),.code (C_50 245),.code (C_50 31)] ?_
      obtain ⟨rminus,hr6,h⟩:=bindSome h
      obtain ⟨rsigned2,hr7,h⟩:=bindSome h
      refine Runs.sR hE ⟨[(4,(.op 32 0 0))],[(32,vO 2 (TInt.cells rsigned2))],432⟩ (C_50 244) [(4,⟨[],true,(encL (cU .u16) 0 rminus),[],0,false,none⟩),(5,⟨[],true,(.agg (TInt.cells rsigned2)),[],0,false,none⟩)] [] (kp [4]) (kq [32]) 432 [0 < 1,Sound Try.prog 117 [(encL (cU .u16) 0 rtrim),(encL (cU .u16) 0 rtrim2)] [] 0 (encL (cU .u16) 0 rminus) [],Sound Try.prog 110 [(aB a.f_Neg),(encL (cU .u16) 0 rminus)] [] 0 (.agg (TInt.cells rsigned2)) [],0 < 1] ⟨o1,(g_e_minus_ok N rtrim rtrim2 rminus hr6),(g_e_signed_ok N a.f_Neg rminus rsigned2 hr7),o1,trivial⟩ ?_
      obtain rfl:=Option.some.inj h
      refine Runs.sW hE ⟨[(4,(.op 16 0 0))],[(16,vO 2 (TInt.cells rsigned2))],432⟩ [] (kp [4]) [(16,.keep 32)] 432 [] trivial ?_
      exact Runs.sT Try.f87 [16] [0 < 1] ⟨o1,trivial⟩
    · have h:=condF h hq3
      refine Runs.sA 2 [.code (C_50 62),.code (C_50 63)] ?_
      obtain ⟨rminus2,hr8,h⟩:=bindSome h
      obtain ⟨rsigned3,hr9,h⟩:=bindSome h
      refine Runs.sR hE ⟨[(4,(.op 32 0 0))],[(32,vO 2 (TInt.cells rsigned3))],432⟩ (C_50 62) [(4,⟨[],true,(encL (cU .u16) 0 rminus2),[],0,false,none⟩),(5,⟨[],true,(.agg (TInt.cells rsigned3)),[],0,false,none⟩)] [] (kp [4]) (kq [32]) 432 [0 < 1,Sound Try.prog 117 [(encL (cU .u16) 0 rtrim2),(encL (cU .u16) 0 rtrim)] [] 0 (encL (cU .u16) 0 rminus2) [],Sound Try.prog 110 [(aB b.f_Neg),(encL (cU .u16) 0 rminus2)] [] 0 (.agg (TInt.cells rsigned3)) [],0 < 1] ⟨o1,(g_e_minus_ok N rtrim2 rtrim rminus2 hr8),(g_e_signed_ok N b.f_Neg rminus2 rsigned3 hr9),o1,trivial⟩ ?_
      obtain rfl:=Option.some.inj h
      refine Runs.sW hE ⟨[(4,(.op 16 0 0))],[(16,vO 2 (TInt.cells rsigned3))],432⟩ [] (kp [4]) [(16,.keep 32)] 432 [] trivial ?_
      exact Runs.sT Try.f87 [16] [0 < 1] ⟨o1,trivial⟩
noncomputable def C_45 (n:Nat):Code:=cat (bodyOf Try.f49) (pth n)
theorem g_e_AddRat_ok (N:Nat) (x:TRat) (y:TRat) (r:TRat) (h:g_e_AddRat N x y = some r):Sound Try.prog 49 [(.agg (TRat.cells x)),(.agg (TRat.cells y))] [] 0 (.agg (TRat.cells r)) []:=by
  unfold g_e_AddRat at h
  refine Sound.of_runs (fu:=Try.f49) (c:=C_45 1) (nt:=32) (by kernel_rfl) (by kernel_rfl) (by kernel_rfl) (by kernel_rfl) (fun hm=>rfl) ?_
  intro E hE
  refine Runs.sA 1 [.code (C_45 2),.code (C_45 3)] ?_
  refine Runs.sR hE ⟨[(2,(.op 0 0 0)),(3,(.op 16 0 0)),(4,(.op 32 0 0))],[(0,vO 4 (TRat.cells x)),(16,vO 4 (TRat.cells y)),(32,vO 4 [(aB false),.nil,(aB false),.nil])],48⟩ (C_45 2) [] [] (kp [2,3,4]) (kq [0,16,32]) 48 [] trivial ?_
  refine Runs.sA 2 [.code (C_45 12),.code (C_45 13),.code (C_45 7)] ?_
  obtain ⟨risZero,hr,h⟩:=bindSome h
  refine Runs.sR hE ⟨[(2,(.op 0 0 0)),(3,(.op 16 0 0)),(4,(.op 32 0 0)),(8,(aB risZero))],[(0,vO 4 (TRat.cells x)),(16,vO 4 (TRat.cells y)),(32,vO 4 [(aB false),.nil,(aB false),.nil])],80⟩ (C_45 12) [(1,⟨[],true,(aB risZero),[],0,false,none⟩)] [] (kp [2,3,4,8]) (kq [0,16,32]) 80 [0 < 1,Sound Try.prog 83 [(.agg (TRat.cells x))] [] 0 (aB risZero) []] ⟨o1,(g_e_isZero_ok N x risZero hr),trivial⟩ ?_
  refine Runs.sC 8 (C_45 26) (C_45 27) risZero (fun hq2=>?_) (fun hq2=>?_)
  · have h:=condT h hq2
    refine Runs.sA 1 [.code (C_45 52),.code (C_45 53),.code (C_45 7)] ?_
    obtain ⟨rlowest,hr2,h⟩:=bindSome h
    refine Runs.sR hE ⟨[(4,(.op 32 0 0))],[(32,vO 4 (TRat.cells rlowest))],128⟩ (C_45 52) [(1,⟨[],true,(.agg (TRat.cells rlowest)),[],0,false,none⟩)] [] (kp [4]) (kq [32]) 128 [0 < 1,Sound Try.prog 84 [(.agg (TRat.cells y))] [] 0 (.agg (TRat.cells rlowest)) [],0 < 1] ⟨o1,(g_e_lowest_ok N y rlowest hr2),o1,trivial⟩ ?_
    obtain rfl:=Option.some.inj h
    refine Runs.sW hE ⟨[(4,(.op 16 0 0))],[(16,vO 4 (TRat.cells rlowest))],128⟩ [] (kp [4]) [(16,.keep 32)] 128 [] trivial ?_
    exact Runs.sT Try.f49 [16] [0 < 1] ⟨o1,trivial⟩
  · have h:=condF h hq2
    refine Runs.sA 3 [.code (C_45 28),.code (C_45 29),.code (C_45 15)] ?_
    obtain ⟨risZero2,hr3,h⟩:=bindSome h
    refine Runs.sR hE ⟨[(2,(.op 0 0 0)),(3,(.op 16 0 0)),(4,(.op 32 0 0)),(12,(aB risZero2))],[(0,vO 4 (TRat.cells x)),(16,vO 4 (TRat.cells y)),(32,vO 4 [(aB false),.nil,(aB false),.nil])],112⟩ (C_45 28) [(1,⟨[],true,(aB risZero2),[],0,false,none⟩)] [] (kp [2,3,4,12]) (kq [0,16,32]) 112 [0 < 1,Sound Try.prog 83 [(.agg (TRat.cells y))] [] 0 (aB risZero2) []] ⟨o1,(g_e_isZero_ok N y risZero2 hr3),trivial⟩ ?_
    refine Runs.sC 12 (C_45 58) (C_45 59) risZero2 (fun hq3=>?_) (fun hq3=>?_)
    · have h:=condT h hq3
      refine Runs.sA 1 [.code (C_45 116),.code (C_45 117),.code (C_45 15)] ?_
      obtain ⟨rlowest2,hr4,h⟩:=bindSome h
      refine Runs.sR hE ⟨[(4,(.op 32 0 0))],[(32,vO 4 (TRat.cells rlowest2))],160⟩ (C_45 116) [(1,⟨[],true,(.agg (TRat.cells rlowest2)),[],0,false,none⟩)] [] (kp [4]) (kq [32]) 160 [0 < 1,Sound Try.prog 84 [(.agg (TRat.cells x))] [] 0 (.agg (TRat.cells rlowest2)) [],0 < 1] ⟨o1,(g_e_lowest_ok N x rlowest2 hr4),o1,trivial⟩ ?_
      obtain rfl:=Option.some.inj h
      refine Runs.sW hE ⟨[(4,(.op 16 0 0))],[(16,vO 4 (TRat.cells rlowest2))],160⟩ [] (kp [4]) [(16,.keep 32)] 160 [] trivial ?_
      exact Runs.sT Try.f49 [16] [0 < 1] ⟨o1,trivial⟩
    · have h:=condF h hq3
      refine Runs.sA 2 [.code (C_45 30),.code (C_45 31)] ?_
      obtain ⟨rbelow,hr5,h⟩:=bindSome h
      obtain ⟨rbelow2,hr6,h⟩:=bindSome h
      refine Runs.sR hE ⟨[(2,(.op 0 0 0)),(3,(.op 16 0 0)),(4,(.op 32 0 0)),(5,(.op 176 0 0)),(6,(.op 192 0 0))],[(0,vO 4 (TRat.cells x)),(16,vO 4 (TRat.cells y)),(32,vO 4 [(aB false),.nil,(aB false),.nil]),(176,vO 2 (TInt.cells rbelow)),(192,vO 2 (TInt.cells rbelow2))],240⟩ (C_45 30) [(1,⟨[],true,(.agg (TInt.cells rbelow)),[],0,false,none⟩),(3,⟨[],true,(.agg (TInt.cells rbelow2)),[],0,false,none⟩)] [] (kp [2,3,4,5,6]) (kq [0,16,32,176,192]) 240 [0 < 1,Sound Try.prog 85 [(.agg (TRat.cells x))] [] 0 (.agg (TInt.cells rbelow)) [],0 < 1,Sound Try.prog 85 [(.agg (TRat.cells y))] [] 0 (.agg (TInt.cells rbelow2)) [],0 < 1,0 < 1] ⟨o1,(g_e_below_ok N x rbelow hr5),o1,(g_e_below_ok N y rbelow2 hr6),o1,o1,trivial⟩ ?_
      refine Runs.sA 1 [.code (C_45 62),.code (C_45 63)] ?_
      obtain ⟨rMul,hr7,h⟩:=bindSome h
      obtain ⟨rMul2,hr8,h⟩:=bindSome h
      obtain ⟨rAdd,hr9,h⟩:=bindSome h
      obtain ⟨rMul3,hr10,h⟩:=bindSome h
      obtain ⟨rfraction,hr11,h⟩:=bindSome h
      refine Runs.sR hE ⟨[(4,(.op 32 0 0))],[(32,vO 4 (TRat.cells rfraction))],464⟩ (C_45 62) [(3,⟨[],true,(.agg (TInt.cells rMul)),[],0,false,none⟩),(7,⟨[],true,(.agg (TInt.cells rMul2)),[],0,false,none⟩),(8,⟨[],true,(.agg (TInt.cells rAdd)),[],0,false,none⟩),(11,⟨[],true,(.agg (TInt.cells rMul3)),[],0,false,none⟩),(12,⟨[],true,(.agg (TRat.cells rfraction)),[],0,false,none⟩)] [] (kp [4]) (kq [32]) 464 [0 < 1,0 < 1,Sound Try.prog 88 [(.agg (TInt.cells x.f_Num)),(.agg (TInt.cells rbelow2))] [] 0 (.agg (TInt.cells rMul)) [],0 < 1,0 < 1,Sound Try.prog 88 [(.agg (TInt.cells y.f_Num)),(.agg (TInt.cells rbelow))] [] 0 (.agg (TInt.cells rMul2)) [],Sound Try.prog 87 [(.agg (TInt.cells rMul)),(.agg (TInt.cells rMul2))] [] 0 (.agg (TInt.cells rAdd)) [],0 < 1,0 < 1,Sound Try.prog 88 [(.agg (TInt.cells rbelow)),(.agg (TInt.cells rbelow2))] [] 0 (.agg (TInt.cells rMul3)) [],Sound Try.prog 86 [(.agg (TInt.cells rAdd)),(.agg (TInt.cells rMul3))] [] 0 (.agg (TRat.cells rfraction)) [],0 < 1] ⟨o1,o1,(g_e_Mul_ok N x.f_Num rbelow2 rMul hr7),o1,o1,(g_e_Mul_ok N y.f_Num rbelow rMul2 hr8),(g_e_Add_ok N rMul rMul2 rAdd hr9),o1,o1,(g_e_Mul_ok N rbelow rbelow2 rMul3 hr10),(g_e_fraction_ok N rAdd rMul3 rfraction hr11),o1,trivial⟩ ?_
      obtain rfl:=Option.some.inj h
      refine Runs.sW hE ⟨[(4,(.op 16 0 0))],[(16,vO 4 (TRat.cells rfraction))],464⟩ [] (kp [4]) [(16,.keep 32)] 464 [] trivial ?_
      exact Runs.sT Try.f49 [16] [0 < 1] ⟨o1,trivial⟩
noncomputable def C_40 (n:Nat):Code:=cat (bodyOf Try.f67) (pth n)
theorem g_e_SubRat_ok (N:Nat) (x:TRat) (y:TRat) (r:TRat) (h:g_e_SubRat N x y = some r):Sound Try.prog 67 [(.agg (TRat.cells x)),(.agg (TRat.cells y))] [] 0 (.agg (TRat.cells r)) []:=by
  unfold g_e_SubRat at h
  refine Sound.of_runs (fu:=Try.f67) (c:=C_40 1) (nt:=9) (by kernel_rfl) (by kernel_rfl) (by kernel_rfl) (by kernel_rfl) (fun hm=>rfl) ?_
  intro E hE
  refine Runs.sA 1 [.code (C_40 2),.code (C_40 3)] ?_
  refine Runs.sR hE ⟨[(2,(.op 0 0 0)),(3,(.op 16 0 0)),(4,(.op 32 0 0))],[(0,vO 4 (TRat.cells x)),(16,vO 4 (TRat.cells y)),(32,vO 4 [(aB false),.nil,(aB false),.nil])],48⟩ (C_40 2) [] [] (kp [2,3,4]) (kq [0,16,32]) 48 [] trivial ?_
  refine Runs.sA 1 [.code (C_40 6),.code (C_40 7)] ?_
  obtain ⟨rnegative,hr,h⟩:=bindSome h
  obtain ⟨rAddRat,hr2,h⟩:=bindSome h
  refine Runs.sR hE ⟨[(4,(.op 32 0 0))],[(32,vO 4 (TRat.cells rAddRat))],128⟩ (C_40 6) [(2,⟨[],true,(.agg (TRat.cells rnegative)),[],0,false,none⟩),(3,⟨[],true,(.agg (TRat.cells rAddRat)),[],0,false,none⟩)] [] (kp [4]) (kq [32]) 128 [0 < 1,0 < 1,Sound Try.prog 104 [(.agg (TRat.cells y))] [] 0 (.agg (TRat.cells rnegative)) [],Sound Try.prog 49 [(.agg (TRat.cells x)),(.agg (TRat.cells rnegative))] [] 0 (.agg (TRat.cells rAddRat)) [],0 < 1] ⟨o1,o1,(g_e_negative_ok N y rnegative hr),(g_e_AddRat_ok N x rnegative rAddRat hr2),o1,trivial⟩ ?_
  obtain rfl:=Option.some.inj h
  refine Runs.sW hE ⟨[(4,(.op 16 0 0))],[(16,vO 4 (TRat.cells rAddRat))],128⟩ [] (kp [4]) [(16,.keep 32)] 128 [] trivial ?_
  exact Runs.sT Try.f67 [16] [0 < 1] ⟨o1,trivial⟩
noncomputable def C_53 (n:Nat):Code:=cat (bodyOf Try.f79) (pth n)
theorem g_e_signOf_ok (N:Nat) (x:TRat) (r:Int) (h:g_e_signOf N x = some r):Sound Try.prog 79 [(.agg (TRat.cells x))] [] 0 (aI r) []:=by
  unfold g_e_signOf at h
  refine Sound.of_runs (fu:=Try.f79) (c:=C_53 1) (nt:=10) (by kernel_rfl) (by kernel_rfl) (by kernel_rfl) (by kernel_rfl) (fun hm=>rfl) ?_
  intro E hE
  refine Runs.sA 1 [.code (C_53 2),.code (C_53 3)] ?_
  refine Runs.sR hE ⟨[(1,(.op 0 0 0))],[(0,vO 4 (TRat.cells x))],32⟩ (C_53 2) [] [] (kp [1]) (kq [0]) 32 [] trivial ?_
  refine Runs.sA 1 [.code (C_53 6),.code (C_53 7)] ?_
  obtain ⟨rsign,hr,h⟩:=bindSome h
  obtain ⟨rbelow,hr2,h⟩:=bindSome h
  obtain ⟨rsign2,hr3,h⟩:=bindSome h
  refine Runs.sR hE ⟨[(2,(aI (w64 (rsign * rsign2))))],[],160⟩ (C_53 6) [(2,⟨[],true,(aI rsign),[],0,false,none⟩),(4,⟨[],true,(.agg (TInt.cells rbelow)),[],0,false,none⟩),(5,⟨[],true,(aI rsign2),[],0,false,none⟩)] [] (kp [2]) [] 160 [0 < 1,Sound Try.prog 109 [(.agg (TInt.cells x.f_Num))] [] 0 (aI rsign) [],0 < 1,Sound Try.prog 85 [(.agg (TRat.cells x))] [] 0 (.agg (TInt.cells rbelow)) [],Sound Try.prog 109 [(.agg (TInt.cells rbelow))] [] 0 (aI rsign2) []] ⟨o1,(g_e_sign_ok N x.f_Num rsign hr),o1,(g_e_below_ok N x rbelow hr2),(g_e_sign_ok N rbelow rsign2 hr3),trivial⟩ ?_
  obtain rfl:=Option.some.inj h
  refine Runs.sW hE ⟨[(2,(aI (w64 (rsign * rsign2))))],[],160⟩ [] (kp [2]) [] 160 [] trivial ?_
  exact Runs.sT Try.f79 [] [] trivial
noncomputable def C_39 (n:Nat):Code:=cat (bodyOf Try.f46) (pth n)
theorem g_e_CmpRat_ok (N:Nat) (x:TRat) (y:TRat) (r:Int) (h:g_e_CmpRat N x y = some r):Sound Try.prog 46 [(.agg (TRat.cells x)),(.agg (TRat.cells y))] [] 0 (aI r) []:=by
  unfold g_e_CmpRat at h
  refine Sound.of_runs (fu:=Try.f46) (c:=C_39 1) (nt:=9) (by kernel_rfl) (by kernel_rfl) (by kernel_rfl) (by kernel_rfl) (fun hm=>rfl) ?_
  intro E hE
  refine Runs.sA 1 [.code (C_39 2),.code (C_39 3)] ?_
  refine Runs.sR hE ⟨[(2,(.op 0 0 0)),(3,(.op 16 0 0))],[(0,vO 4 (TRat.cells x)),(16,vO 4 (TRat.cells y))],48⟩ (C_39 2) [] [] (kp [2,3]) (kq [0,16]) 48 [] trivial ?_
  refine Runs.sA 1 [.code (C_39 6),.code (C_39 7)] ?_
  obtain ⟨rSubRat,hr,h⟩:=bindSome h
  obtain ⟨rsignOf,hr2,h⟩:=bindSome h
  refine Runs.sR hE ⟨[(4,(aI rsignOf))],[],128⟩ (C_39 6) [(2,⟨[],true,(.agg (TRat.cells rSubRat)),[],0,false,none⟩),(3,⟨[],true,(aI rsignOf),[],0,false,none⟩)] [] (kp [4]) [] 128 [0 < 1,0 < 1,Sound Try.prog 67 [(.agg (TRat.cells x)),(.agg (TRat.cells y))] [] 0 (.agg (TRat.cells rSubRat)) [],Sound Try.prog 79 [(.agg (TRat.cells rSubRat))] [] 0 (aI rsignOf) []] ⟨o1,o1,(g_e_SubRat_ok N x y rSubRat hr),(g_e_signOf_ok N rSubRat rsignOf hr2),trivial⟩ ?_
  obtain rfl:=Option.some.inj h
  refine Runs.sW hE ⟨[(4,(aI rsignOf))],[],128⟩ [] (kp [4]) [] 128 [] trivial ?_
  exact Runs.sT Try.f46 [] [] trivial
noncomputable def C_55 (n:Nat):Code:=cat (bodyOf Try.f82) (pth n)
theorem g_e_Ratio_ok (N:Nat) (a:Int) (b:Int) (r:TRat × Int) (h:g_e_Ratio N a b = some r):Sound Try.prog 82 [(aI a),(aI b)] [] 0 (.tup [(.agg (TRat.cells r.1)),(aI r.2)]) []:=by
  unfold g_e_Ratio at h
  refine Sound.of_runs (fu:=Try.f82) (c:=C_55 1) (nt:=14) (by kernel_rfl) (by kernel_rfl) (by kernel_rfl) (by kernel_rfl) (fun hm=>rfl) ?_
  intro E hE
  refine Runs.sA 1 [.code (C_55 2),.code (C_55 3)] ?_
  refine Runs.sR hE ⟨[(0,(aI a)),(1,(aI b)),(4,(.op 0 0 0))],[(0,vO 4 [(aB false),.nil,(aB false),.nil])],32⟩ (C_55 2) [] [] (kp [0,1,4]) (kq [0]) 32 [] trivial ?_
  refine Runs.sA 2 [.code (C_55 12),.code (C_55 13),.code (C_55 7)] ?_
  refine Runs.sR hE ⟨[(0,(aI a)),(1,(aI b)),(4,(.op 0 0 0)),(7,(aB (b == 0)))],[(0,vO 4 [(aB false),.nil,(aB false),.nil])],64⟩ (C_55 12) [] [] (kp [0,1,4,7]) (kq [0]) 64 [] trivial ?_
  refine Runs.sC 7 (C_55 26) (C_55 27) (b == 0) (fun hq2=>?_) (fun hq2=>?_)
  · have h:=condT h hq2
    refine Runs.sA 1 [.code (C_55 52),.code (C_55 53),.code (C_55 7)] ?_
    refine Runs.sR hE ⟨[(4,(.op 0 0 0)),(5,(aI 9))],[(0,vO 4 [(aB false),.nil,(aB false),.nil])],112⟩ (C_55 52) [] [] (kp [4,5]) (kq [0]) 112 [0 < 1] ⟨o1,trivial⟩ ?_
    obtain rfl:=Option.some.inj h
    refine Runs.sW hE ⟨[(4,(.op 16 0 0)),(5,(aI 9))],[(16,vO 4 [(aB false),(encL (cU .u16) 0 ([]:List Int)),(aB false),(encL (cU .u16) 0 ([]:List Int))])],112⟩ [] (kp [4,5]) [(16,.var 0 [.keep,.sl (([]:List Int).length) (fun zi=>(cU .u16) (([]:List Int).getD zi 0)),.keep,.sl (([]:List Int).length) (fun zi=>(cU .u16) (([]:List Int).getD zi 0))])] 112 [([]:List Int).length = 0,([]:List Int).length = 0] ⟨rfl,rfl,trivial⟩ ?_
    exact Runs.sT Try.f82 [16] [0 < 1] ⟨o1,trivial⟩
  · have h:=condF h hq2
    refine Runs.sA 2 [.code (C_55 14),.code (C_55 15)] ?_
    obtain ⟨rOf,hr,h⟩:=bindSome h
    obtain ⟨rOf2,hr2,h⟩:=bindSome h
    obtain ⟨rfraction,hr3,h⟩:=bindSome h
    refine Runs.sR hE ⟨[(4,(.op 0 0 0)),(5,(aI 0))],[(0,vO 4 (TRat.cells rfraction))],176⟩ (C_55 14) [(1,⟨[],true,(.agg (TInt.cells rOf)),[],0,false,none⟩),(3,⟨[],true,(.agg (TInt.cells rOf2)),[],0,false,none⟩),(4,⟨[],true,(.agg (TRat.cells rfraction)),[],0,false,none⟩)] [] (kp [4,5]) (kq [0]) 176 [Sound Try.prog 81 [(aI a)] [] 0 (.agg (TInt.cells rOf)) [],Sound Try.prog 81 [(aI b)] [] 0 (.agg (TInt.cells rOf2)) [],Sound Try.prog 86 [(.agg (TInt.cells rOf)),(.agg (TInt.cells rOf2))] [] 0 (.agg (TRat.cells rfraction)) [],0 < 1] ⟨(g_e_Of_ok N a rOf hr),(g_e_Of_ok N b rOf2 hr2),(g_e_fraction_ok N rOf rOf2 rfraction hr3),o1,trivial⟩ ?_
    obtain rfl:=Option.some.inj h
    refine Runs.sW hE ⟨[(4,(.op 16 0 0)),(5,(aI 0))],[(16,vO 4 (TRat.cells rfraction))],176⟩ [] (kp [4,5]) [(16,.keep 0)] 176 [] trivial ?_
    exact Runs.sT Try.f82 [16] [0 < 1] ⟨o1,trivial⟩
noncomputable def C_56 (n:Nat):Code:=cat (bodyOf Try.f50) (pth n)
theorem g_e_MulRat_ok (N:Nat) (x:TRat) (y:TRat) (r:TRat) (h:g_e_MulRat N x y = some r):Sound Try.prog 50 [(.agg (TRat.cells x)),(.agg (TRat.cells y))] [] 0 (.agg (TRat.cells r)) []:=by
  unfold g_e_MulRat at h
  refine Sound.of_runs (fu:=Try.f50) (c:=C_56 1) (nt:=16) (by kernel_rfl) (by kernel_rfl) (by kernel_rfl) (by kernel_rfl) (fun hm=>rfl) ?_
  intro E hE
  refine Runs.sA 1 [.code (C_56 2),.code (C_56 3)] ?_
  refine Runs.sR hE ⟨[(2,(.op 0 0 0)),(3,(.op 16 0 0)),(4,(.op 32 0 0))],[(0,vO 4 (TRat.cells x)),(16,vO 4 (TRat.cells y)),(32,vO 4 [(aB false),.nil,(aB false),.nil])],48⟩ (C_56 2) [] [] (kp [2,3,4]) (kq [0,16,32]) 48 [] trivial ?_
  refine Runs.sA 1 [.code (C_56 6),.code (C_56 7)] ?_
  obtain ⟨rMul,hr,h⟩:=bindSome h
  obtain ⟨rbelow,hr2,h⟩:=bindSome h
  obtain ⟨rbelow2,hr3,h⟩:=bindSome h
  obtain ⟨rMul2,hr4,h⟩:=bindSome h
  obtain ⟨rfraction,hr5,h⟩:=bindSome h
  refine Runs.sR hE ⟨[(4,(.op 32 0 0))],[(32,vO 4 (TRat.cells rfraction))],240⟩ (C_56 6) [(4,⟨[],true,(.agg (TInt.cells rMul)),[],0,false,none⟩),(6,⟨[],true,(.agg (TInt.cells rbelow)),[],0,false,none⟩),(8,⟨[],true,(.agg (TInt.cells rbelow2)),[],0,false,none⟩),(9,⟨[],true,(.agg (TInt.cells rMul2)),[],0,false,none⟩),(10,⟨[],true,(.agg (TRat.cells rfraction)),[],0,false,none⟩)] [] (kp [4]) (kq [32]) 240 [0 < 1,0 < 1,Sound Try.prog 88 [(.agg (TInt.cells x.f_Num)),(.agg (TInt.cells y.f_Num))] [] 0 (.agg (TInt.cells rMul)) [],0 < 1,Sound Try.prog 85 [(.agg (TRat.cells x))] [] 0 (.agg (TInt.cells rbelow)) [],0 < 1,Sound Try.prog 85 [(.agg (TRat.cells y))] [] 0 (.agg (TInt.cells rbelow2)) [],Sound Try.prog 88 [(.agg (TInt.cells rbelow)),(.agg (TInt.cells rbelow2))] [] 0 (.agg (TInt.cells rMul2)) [],Sound Try.prog 86 [(.agg (TInt.cells rMul)),(.agg (TInt.cells rMul2))] [] 0 (.agg (TRat.cells rfraction)) [],0 < 1] ⟨o1,o1,(g_e_Mul_ok N x.f_Num y.f_Num rMul hr),o1,(g_e_below_ok N x rbelow hr2),o1,(g_e_below_ok N y rbelow2 hr3),(g_e_Mul_ok N rbelow rbelow2 rMul2 hr4),(g_e_fraction_ok N rMul rMul2 rfraction hr5),o1,trivial⟩ ?_
  obtain rfl:=Option.some.inj h
  refine Runs.sW hE ⟨[(4,(.op 16 0 0))],[(16,vO 4 (TRat.cells rfraction))],240⟩ [] (kp [4]) [(16,.keep 32)] 240 [] trivial ?_
  exact Runs.sT Try.f50 [16] [0 < 1] ⟨o1,trivial⟩
noncomputable def C_54 (n:Nat):Code:=cat (bodyOf Try.f48) (pth n)
theorem g_berth_pull_ok (N:Nat) (l:TLine) (r:TS__3_api_Rat) (h:g_berth_pull N l = some r):Sound Try.prog 48 [(.agg (TLine.cells l))] [] 0 (.agg (TS__3_api_Rat.cells r)) []:=by
  unfold g_berth_pull at h
  refine Sound.of_runs (fu:=Try.f48) (c:=C_54 1) (nt:=47) (by kernel_rfl) (by kernel_rfl) (by kernel_rfl) (by kernel_rfl) (fun hm=>rfl) ?_
  intro E hE
  refine Runs.sA 1 [.code (C_54 2),.code (C_54 3)] ?_
  refine Runs.sR hE ⟨[(1,(.op 0 0 0)),(2,(.op 16 0 0))],[(0,vO 6 (TLine.cells l)),(16,vO 12 [(aB false),.nil,(aB false),.nil,(aB false),.nil,(aB false),.nil,(aB false),.nil,(aB false),.nil])],32⟩ (C_54 2) [] [] (kp [1,2]) (kq [0,16]) 32 [] trivial ?_
  refine Runs.sA 1 [.code (C_54 6),.code (C_54 7)] ?_
  obtain ⟨rspan,hr,h⟩:=bindSome h
  obtain ⟨rRatio,hr2,h⟩:=bindSome h
  refine Runs.sR hE ⟨[(1,(.op 0 0 0)),(2,(.op 16 0 0)),(3,(.op 160 0 0))],[(0,vO 6 (TLine.cells l)),(16,vO 12 [(aB false),.nil,(aB false),.nil,(aB false),.nil,(aB false),.nil,(aB false),.nil,(aB false),.nil]),(160,vO 4 (TRat.cells rRatio.1))],208⟩ (C_54 6) [(3,⟨[],true,(aI rspan),[],0,false,none⟩),(4,⟨[],true,(.tup [(.agg (TRat.cells rRatio.1)),(aI rRatio.2)]),[],0,false,none⟩)] [] (kp [1,2,3]) (kq [0,16,160]) 208 [0 < 1,0 < 1,Sound Try.prog 38 [(.agg (TLine.cells l))] [] 0 (aI rspan) [],Sound Try.prog 82 [(aI l.f_Most),(aI rspan)] [] 0 (.tup [(.agg (TRat.cells rRatio.1)),(aI rRatio.2)]) [],0 < 1] ⟨o1,o1,(g_berth_span_ok N l rspan hr),(g_e_Ratio_ok N l.f_Most rspan rRatio hr2),o1,trivial⟩ ?_
  refine Runs.sA 1 [.code (C_54 14),.code (C_54 15)] ?_
  obtain ⟨rwhole,hr3,h⟩:=bindSome h
  obtain ⟨rMulRat,hr4,h⟩:=bindSome h
  obtain ⟨rwhole2,hr5,h⟩:=bindSome h
  obtain ⟨rMulRat2,hr6,h⟩:=bindSome h
  refine Runs.sR hE ⟨[(1,(.op 0 0 0)),(2,(.op 16 0 0)),(5,(.op 464 0 0)),(6,(.op 480 0 0))],[(0,vO 6 (TLine.cells l)),(16,vO 12 [(aB false),.nil,(aB false),.nil,(aB false),.nil,(aB false),.nil,(aB false),.nil,(aB false),.nil]),(464,vO 4 (TRat.cells rMulRat)),(480,vO 4 (TRat.cells rMulRat2))],528⟩ (C_54 14) [(6,⟨[],true,(.agg (TRat.cells rwhole)),[],0,false,none⟩),(7,⟨[],true,(.agg (TRat.cells rMulRat)),[],0,false,none⟩),(14,⟨[],true,(.agg (TRat.cells rwhole2)),[],0,false,none⟩),(15,⟨[],true,(.agg (TRat.cells rMulRat2)),[],0,false,none⟩)] [] (kp [1,2,5,6]) (kq [0,16,464,480]) 528 [0 < 1,0 < 1,0 < 1,Sound Try.prog 47 [(aI (w64 (l.f_ToX - l.f_X)))] [] 0 (.agg (TRat.cells rwhole)) [],Sound Try.prog 50 [(.agg (TRat.cells rRatio.1)),(.agg (TRat.cells rwhole))] [] 0 (.agg (TRat.cells rMulRat)) [],0 < 1,0 < 1,0 < 1,Sound Try.prog 47 [(aI (w64 (l.f_ToY - l.f_Y)))] [] 0 (.agg (TRat.cells rwhole2)) [],Sound Try.prog 50 [(.agg (TRat.cells rRatio.1)),(.agg (TRat.cells rwhole2))] [] 0 (.agg (TRat.cells rMulRat2)) [],0 < 1,0 < 1] ⟨o1,o1,o1,(g_berth_whole_ok N (w64 (l.f_ToX - l.f_X)) rwhole hr3),(g_e_MulRat_ok N rRatio.1 rwhole rMulRat hr4),o1,o1,o1,(g_berth_whole_ok N (w64 (l.f_ToY - l.f_Y)) rwhole2 hr5),(g_e_MulRat_ok N rRatio.1 rwhole2 rMulRat2 hr6),o1,o1,trivial⟩ ?_
  refine Runs.sA 1 [.code (C_54 30),.code (C_54 31)] ?_
  obtain ⟨rwhole3,hr7,h⟩:=bindSome h
  obtain ⟨rMulRat3,hr8,h⟩:=bindSome h
  obtain ⟨rwhole4,hr9,h⟩:=bindSome h
  obtain ⟨rMulRat4,hr10,h⟩:=bindSome h
  obtain ⟨rSubRat,hr11,h⟩:=bindSome h
  refine Runs.sR hE ⟨[(2,(.op 16 0 0)),(5,(.op 464 0 0)),(6,(.op 480 0 0)),(7,(.op 704 0 0))],[(16,vO 12 [(aB false),.nil,(aB false),.nil,(aB false),.nil,(aB false),.nil,(aB false),.nil,(aB false),.nil]),(464,vO 4 (TRat.cells rMulRat)),(480,vO 4 (TRat.cells rMulRat2)),(704,vO 4 (TRat.cells rSubRat))],736⟩ (C_54 30) [(2,⟨[],true,(.agg (TRat.cells rwhole3)),[],0,false,none⟩),(4,⟨[],true,(.agg (TRat.cells rMulRat3)),[],0,false,none⟩),(7,⟨[],true,(.agg (TRat.cells rwhole4)),[],0,false,none⟩),(9,⟨[],true,(.agg (TRat.cells rMulRat4)),[],0,false,none⟩),(10,⟨[],true,(.agg (TRat.cells rSubRat)),[],0,false,none⟩)] [] (kp [2,5,6,7]) (kq [16,464,480,704]) 736 [0 < 1,Sound Try.prog 47 [(aI l.f_X)] [] 0 (.agg (TRat.cells rwhole3)) [],0 < 1,Sound Try.prog 50 [(.agg (TRat.cells rwhole3)),(.agg (TRat.cells rMulRat2))] [] 0 (.agg (TRat.cells rMulRat3)) [],0 < 1,Sound Try.prog 47 [(aI l.f_Y)] [] 0 (.agg (TRat.cells rwhole4)) [],0 < 1,Sound Try.prog 50 [(.agg (TRat.cells rwhole4)),(.agg (TRat.cells rMulRat))] [] 0 (.agg (TRat.cells rMulRat4)) [],Sound Try.prog 67 [(.agg (TRat.cells rMulRat3)),(.agg (TRat.cells rMulRat4))] [] 0 (.agg (TRat.cells rSubRat)) [],0 < 1] ⟨o1,(g_berth_whole_ok N l.f_X rwhole3 hr7),o1,(g_e_MulRat_ok N rwhole3 rMulRat2 rMulRat3 hr8),o1,(g_berth_whole_ok N l.f_Y rwhole4 hr9),o1,(g_e_MulRat_ok N rwhole4 rMulRat rMulRat4 hr10),(g_e_SubRat_ok N rMulRat3 rMulRat4 rSubRat hr11),o1,trivial⟩ ?_
  refine Runs.sA 1 [.code (C_54 62),.code (C_54 63)] ?_
  refine Runs.sR hE ⟨[(2,(.op 16 0 0))],[(16,vO 12 [(aB rMulRat.f_Num.f_Neg),(encL (cU .u16) 0 rMulRat.f_Num.f_Limbs),(aB rMulRat.f_Den.f_Neg),(encL (cU .u16) 0 rMulRat.f_Den.f_Limbs),(aB rMulRat2.f_Num.f_Neg),(encL (cU .u16) 0 rMulRat2.f_Num.f_Limbs),(aB rMulRat2.f_Den.f_Neg),(encL (cU .u16) 0 rMulRat2.f_Den.f_Limbs),(aB rSubRat.f_Num.f_Neg),(encL (cU .u16) 0 rSubRat.f_Num.f_Limbs),(aB rSubRat.f_Den.f_Neg),(encL (cU .u16) 0 rSubRat.f_Den.f_Limbs)])],816⟩ (C_54 62) [] [] (kp [2]) (kq [16]) 816 [0 < 1,0 < 1,0 < 1,0 < 1] ⟨o1,o1,o1,o1,trivial⟩ ?_
  obtain rfl:=Option.some.inj h
  refine Runs.sW hE ⟨[(2,(.op 16 0 0))],[(16,vO 12 [(aB rMulRat.f_Num.f_Neg),(encL (cU .u16) 0 rMulRat.f_Num.f_Limbs),(aB rMulRat.f_Den.f_Neg),(encL (cU .u16) 0 rMulRat.f_Den.f_Limbs),(aB rMulRat2.f_Num.f_Neg),(encL (cU .u16) 0 rMulRat2.f_Num.f_Limbs),(aB rMulRat2.f_Den.f_Neg),(encL (cU .u16) 0 rMulRat2.f_Den.f_Limbs),(aB rSubRat.f_Num.f_Neg),(encL (cU .u16) 0 rSubRat.f_Num.f_Limbs),(aB rSubRat.f_Den.f_Neg),(encL (cU .u16) 0 rSubRat.f_Den.f_Limbs)])],816⟩ [] (kp [2]) (kq [16]) 816 [] trivial ?_
  exact Runs.sT Try.f48 [16] [0 < 1] ⟨o1,trivial⟩
noncomputable def C_20 (n:Nat):Code:=cat (bodyOf Try.f20) (pth n)
theorem g_berth_holds_L1_ok (N:Nat) (l:List TLine) (parts:List TRat) (fuel:Nat):∀ (sum:TS__3_api_Rat) (x:Int) (r:Bool),g_berth_holds_L1 N l parts fuel sum x = some r→∀ E,EnvOk E 0→Runs Try.prog E 20 68 (SPost E [] (aB r)) [.code (C_20 116),.inLoop (C_20 116),.inBlock 0,.code (C_20 15)] ⟨[(2,(encL TRat.cells TRat.d parts)),(7,(.op 0 0 0)),(16,(encL TLine.cells TLine.d l)),(17,(aI ((l.length:Nat):Int))),(18,(aI x))],[(0,vO 12 (TS__3_api_Rat.cells sum))],1⟩:=by
  induction fuel with
  | zero=>intro _ _ r h; rw [g_berth_holds_L1.eq_1] at h; cases h
  | succ fuel ih =>
    intro sum x r h E hE
    rw [g_berth_holds_L1.eq_2] at h
    refine Runs.sA 1 [.code (C_20 232),.code (C_20 233),.inLoop (C_20 116),.inBlock 0,.code (C_20 15)] ?_
    refine Runs.sR hE ⟨[(2,(encL TRat.cells TRat.d parts)),(7,(.op 0 0 0)),(16,(encL TLine.cells TLine.d l)),(17,(aI ((l.length:Nat):Int))),(18,(aI x)),(19,(aB (decide (x < ((l.length:Nat):Int)))))],[(0,vO 12 (TS__3_api_Rat.cells sum))],17⟩ (C_20 232) [] [] (kp [2,7,16,17,18,19]) (kq [0]) 17 [] trivial ?_
    refine Runs.sA 1 [.code (C_20 466),.code (C_20 467),.inLoop (C_20 116),.inBlock 0,.code (C_20 15)] ?_
    refine Runs.sC 19 (C_20 932) (C_20 933) (decide (x < ((l.length:Nat):Int))) (fun hq2=>?_) (fun hq2=>?_)
    · have h:=condT h hq2
      refine Runs.sA 4 [.code (C_20 3736),.code (C_20 3737),.inBlock 1,.code (C_20 935),.inLoop (C_20 116),.inBlock 0,.code (C_20 15)] ?_
      obtain ⟨c,h⟩:=ifSome h
      refine Runs.sR hE ⟨[(2,(encL TRat.cells TRat.d parts)),(7,(.op 0 0 0)),(8,(aI x)),(9,(.op 65 0 0)),(16,(encL TLine.cells TLine.d l)),(17,(aI ((l.length:Nat):Int))),(18,(aI x))],[(0,vO 12 (TS__3_api_Rat.cells sum)),(65,vO 6 (TLine.cells (l.getD ((x).toNat) TLine.d)))],113⟩ (C_20 3736) [] [] (kp [2,7,8,9,16,17,18]) (kq [0,65]) 113 [0≤x∧x < ((l.length:Nat):Int),0 < 1] ⟨c,o1,trivial⟩ ?_
      refine Runs.sA 2 [.code (C_20 14948),.code (C_20 14949),.code (C_20 7475),.inBlock 1,.code (C_20 935),.inLoop (C_20 116),.inBlock 0,.code (C_20 15)] ?_
      obtain ⟨c2,h⟩:=ifSome h
      obtain ⟨rCmpRat,hr2,h⟩:=bindSome h
      obtain ⟨c3,h⟩:=ifSome h
      obtain ⟨rwhole,hr3,h⟩:=bindSome h
      obtain ⟨rCmpRat2,hr4,h⟩:=bindSome h
      refine Runs.sR hE ⟨[(2,(encL TRat.cells TRat.d parts)),(7,(.op 0 0 0)),(8,(aI x)),(9,(.op 65 0 0)),(16,(encL TLine.cells TLine.d l)),(17,(aI ((l.length:Nat):Int))),(18,(aI x)),(38,(aB (cond (decide (rCmpRat < 0)) true (decide (rCmpRat2 > 0)))))],[(0,vO 12 (TS__3_api_Rat.cells sum)),(65,vO 6 (TLine.cells (l.getD ((x).toNat) TLine.d)))],369⟩ (C_20 14948) [(5,⟨[],true,(aI rCmpRat),[],0,false,none⟩),(12,⟨[],true,(.agg (TRat.cells rwhole)),[],0,false,none⟩),(13,⟨[],true,(aI rCmpRat2),[],0,false,none⟩)] [] (kp [2,7,8,9,16,17,18,38]) (kq [0,65]) 369 [0≤x∧x < ((parts.length:Nat):Int),Sound Try.prog 46 [(.agg [(aB (((parts.getD ((x).toNat) TRat.d).f_Num).f_Neg)),(encL (cU .u16) 0 (((parts.getD ((x).toNat) TRat.d).f_Num).f_Limbs)),(aB (((parts.getD ((x).toNat) TRat.d).f_Den).f_Neg)),(encL (cU .u16) 0 (((parts.getD ((x).toNat) TRat.d).f_Den).f_Limbs))]),(.agg [(aB false),.nil,(aB false),.nil])] [] 0 (aI rCmpRat) [],(!(decide (rCmpRat < 0))) = true→AllP [(!(decide (rCmpRat < 0))) = true,(!(decide (rCmpRat < 0))) = true,0≤x∧x < ((parts.length:Nat):Int)],(!(decide (rCmpRat < 0))) = true→AllP [(!(decide (rCmpRat < 0))) = true],(!(decide (rCmpRat < 0))) = true→AllP [Sound Try.prog 47 [(aI 1)] [] 0 (.agg (TRat.cells rwhole)) []],(!(decide (rCmpRat < 0))) = true→AllP [Sound Try.prog 46 [(.agg [(aB (((parts.getD ((x).toNat) TRat.d).f_Num).f_Neg)),(encL (cU .u16) 0 (((parts.getD ((x).toNat) TRat.d).f_Num).f_Limbs)),(aB (((parts.getD ((x).toNat) TRat.d).f_Den).f_Neg)),(encL (cU .u16) 0 (((parts.getD ((x).toNat) TRat.d).f_Den).f_Limbs))]),(.agg (TRat.cells rwhole))] [] 0 (aI rCmpRat2) [],(!(decide (rCmpRat < 0))) = true,(!(decide (rCmpRat < 0))) = true],(!(decide (rCmpRat < 0))) = true→AllP [(!(decide (rCmpRat < 0))) = true],(!(decide (rCmpRat < 0))) = true→AllP [(!(decide (rCmpRat < 0))) = true]] ⟨c2,(Sound.conv (g_e_CmpRat_ok N (⟨((parts.getD ((x).toNat) TRat.d).f_Num),((parts.getD ((x).toNat) TRat.d).f_Den)⟩:TRat) (⟨(⟨false,([]:List Int)⟩:TInt),(⟨false,([]:List Int)⟩:TInt)⟩:TRat) rCmpRat hr2) (.cons (Alike.refl _) (.cons (Alike.agg (.cons (Alike.refl _) (.cons Alike.nil (.cons (Alike.refl _) (.cons Alike.nil .nil))))) .nil))),(fun hg=>⟨hg,hg,(c3 hg),trivial⟩),(fun hg=>⟨hg,trivial⟩),(fun hg=>⟨(g_berth_whole_ok N 1 rwhole (condT hr3 hg)),trivial⟩),(fun hg=>⟨(g_e_CmpRat_ok N (⟨((parts.getD ((x).toNat) TRat.d).f_Num),((parts.getD ((x).toNat) TRat.d).f_Den)⟩:TRat) rwhole rCmpRat2 (condT hr4 hg)),hg,hg,trivial⟩),(fun hg=>⟨hg,trivial⟩),(fun hq=>⟨hq,trivial⟩),trivial⟩ ?_
      refine Runs.sC 38 (C_20 29898) (C_20 29899) (cond (decide (rCmpRat < 0)) true (decide (rCmpRat2 > 0))) (fun hq3=>?_) (fun hq3=>?_)
      · have h:=condT h hq3
        refine Runs.sA 1 [.code (C_20 59796),.code (C_20 59797),.code (C_20 7475),.inBlock 1,.code (C_20 935),.inLoop (C_20 116),.inBlock 0,.code (C_20 15)] ?_
        refine Runs.sR hE ⟨[(6,(aB false))],[],385⟩ (C_20 59796) [] [] (kp [6]) [] 385 [] trivial ?_
        obtain rfl:=Option.some.inj h
        refine Runs.sW hE ⟨[(6,(aB false))],[],385⟩ [] (kp [6]) [] 385 [] trivial ?_
        exact Runs.sT Try.f20 [] [] trivial
      · have h:=condF h hq3
        refine Runs.sA 2 [.code (C_20 14950),.code (C_20 14951),.inBlock 1,.code (C_20 935),.inLoop (C_20 116),.inBlock 0,.code (C_20 15)] ?_
        obtain ⟨rpull,hr5,h⟩:=bindSome h
        refine Runs.sR hE ⟨[(2,(encL TRat.cells TRat.d parts)),(7,(.op 0 0 0)),(8,(aI x)),(16,(encL TLine.cells TLine.d l)),(17,(aI ((l.length:Nat):Int))),(18,(aI x)),(40,(.agg (TS__3_api_Rat.cells rpull))),(41,(aI 0))],[(0,vO 12 (TS__3_api_Rat.cells sum))],417⟩ (C_20 14950) [(1,⟨[],true,(.agg (TS__3_api_Rat.cells rpull)),[],0,false,none⟩)] [] (kp [2,7,8,16,17,18,40,41]) (kq [0]) 417 [0 < 1,Sound Try.prog 48 [(.agg (TLine.cells (l.getD ((x).toNat) TLine.d)))] [] 0 (.agg (TS__3_api_Rat.cells rpull)) []] ⟨o1,(g_berth_pull_ok N (l.getD ((x).toNat) TLine.d) rpull hr5),trivial⟩ ?_
        refine Runs.sA 3 [.code (C_20 119608),.code (C_20 119609),.inLoop (C_20 59804),.inBlock 2,.inBlock 1,.code (C_20 935),.inLoop (C_20 116),.inBlock 0,.code (C_20 15)] ?_
        refine Runs.sR hE ⟨[(2,(encL TRat.cells TRat.d parts)),(7,(.op 0 0 0)),(8,(aI x)),(16,(encL TLine.cells TLine.d l)),(17,(aI ((l.length:Nat):Int))),(18,(aI x)),(40,(.agg (TS__3_api_Rat.cells rpull))),(41,(aI 0)),(42,(aB true))],[(0,vO 12 (TS__3_api_Rat.cells sum))],433⟩ (C_20 119608) [] [] (kp [2,7,8,16,17,18,40,41,42]) (kq [0]) 433 [] trivial ?_
        refine Runs.sA 1 [.code (C_20 239218),.code (C_20 239219),.inLoop (C_20 59804),.inBlock 2,.inBlock 1,.code (C_20 935),.inLoop (C_20 116),.inBlock 0,.code (C_20 15)] ?_
        refine Runs.sC 42 (C_20 478436) (C_20 478437) true (fun _=>?_) (fun hq=>absurd hq (by decide)) 
        refine Runs.sA 4 [.code (C_20 1913752),.code (C_20 1913753),.inBlock 3,.code (C_20 478439),.inLoop (C_20 59804),.inBlock 2,.inBlock 1,.code (C_20 935),.inLoop (C_20 116),.inBlock 0,.code (C_20 15)] ?_
        refine Runs.sR hE ⟨[(2,(encL TRat.cells TRat.d parts)),(7,(.op 0 0 0)),(8,(aI x)),(10,(aI 0)),(11,(.op 465 0 0)),(16,(encL TLine.cells TLine.d l)),(17,(aI ((l.length:Nat):Int))),(18,(aI x)),(40,(.agg (TS__3_api_Rat.cells rpull))),(41,(aI 0))],[(0,vO 12 (TS__3_api_Rat.cells sum)),(465,vO 4 (TRat.cells rpull.e0))],513⟩ (C_20 1913752) [] [] (kp [2,7,8,10,11,16,17,18,40,41]) (kq [0,465]) 513 [0≤(0:Int)∧(0:Int) < ((3:Nat):Int),0 < 1] ⟨(by decide),o1,trivial⟩ ?_
        obtain ⟨rMulRat,hr6,h⟩:=bindSome h
        obtain ⟨rAddRat,hr7,h⟩:=bindSome h
        refine Runs.sR hE ⟨[(2,(encL TRat.cells TRat.d parts)),(7,(.op 0 0 0)),(8,(aI x)),(16,(encL TLine.cells TLine.d l)),(17,(aI ((l.length:Nat):Int))),(18,(aI x)),(40,(.agg (TS__3_api_Rat.cells rpull))),(41,(aI 0))],[(0,vO 12 [(aB rAddRat.f_Num.f_Neg),(encL (cU .u16) 0 rAddRat.f_Num.f_Limbs),(aB rAddRat.f_Den.f_Neg),(encL (cU .u16) 0 rAddRat.f_Den.f_Limbs),(aB sum.e1.f_Num.f_Neg),(encL (cU .u16) 0 sum.e1.f_Num.f_Limbs),(aB sum.e1.f_Den.f_Neg),(encL (cU .u16) 0 sum.e1.f_Den.f_Limbs),(aB sum.e2.f_Num.f_Neg),(encL (cU .u16) 0 sum.e2.f_Num.f_Limbs),(aB sum.e2.f_Den.f_Neg),(encL (cU .u16) 0 sum.e2.f_Den.f_Limbs)])],721⟩ (C_20 1913753) [(9,⟨[],true,(.agg (TRat.cells rMulRat)),[],0,false,none⟩),(10,⟨[],true,(.agg (TRat.cells rAddRat)),[],0,false,none⟩)] [] (kp [2,7,8,16,17,18,40,41]) (kq [0]) 721 [0≤(0:Int)∧(0:Int) < 3,0 < 1,0≤x∧x < ((parts.length:Nat):Int),0 < 1,Sound Try.prog 50 [(.agg [(aB (((parts.getD ((x).toNat) TRat.d).f_Num).f_Neg)),(encL (cU .u16) 0 (((parts.getD ((x).toNat) TRat.d).f_Num).f_Limbs)),(aB (((parts.getD ((x).toNat) TRat.d).f_Den).f_Neg)),(encL (cU .u16) 0 (((parts.getD ((x).toNat) TRat.d).f_Den).f_Limbs))]),(.agg (TRat.cells rpull.e0))] [] 0 (.agg (TRat.cells rMulRat)) [],Sound Try.prog 49 [(.agg (TRat.cells sum.e0)),(.agg (TRat.cells rMulRat))] [] 0 (.agg (TRat.cells rAddRat)) [],0≤(0:Int)∧(0:Int) < 3,0 < 1] ⟨(by decide),o1,c2,o1,(g_e_MulRat_ok N (⟨((parts.getD ((x).toNat) TRat.d).f_Num),((parts.getD ((x).toNat) TRat.d).f_Den)⟩:TRat) rpull.e0 rMulRat hr6),(g_e_AddRat_ok N sum.e0 rMulRat rAddRat hr7),(by decide),o1,trivial⟩ ?_
        refine Runs.sA 1 [.code (C_20 478439),.inLoop (C_20 59804),.inBlock 2,.inBlock 1,.code (C_20 935),.inLoop (C_20 116),.inBlock 0,.code (C_20 15)] ?_
        refine Runs.sR hE ⟨[(2,(encL TRat.cells TRat.d parts)),(7,(.op 0 0 0)),(8,(aI x)),(16,(encL TLine.cells TLine.d l)),(17,(aI ((l.length:Nat):Int))),(18,(aI x)),(40,(.agg (TS__3_api_Rat.cells rpull))),(41,(aI 1))],[(0,vO 12 [(aB rAddRat.f_Num.f_Neg),(encL (cU .u16) 0 rAddRat.f_Num.f_Limbs),(aB rAddRat.f_Den.f_Neg),(encL (cU .u16) 0 rAddRat.f_Den.f_Limbs),(aB sum.e1.f_Num.f_Neg),(encL (cU .u16) 0 sum.e1.f_Num.f_Limbs),(aB sum.e1.f_Den.f_Neg),(encL (cU .u16) 0 sum.e1.f_Den.f_Limbs),(aB sum.e2.f_Num.f_Neg),(encL (cU .u16) 0 sum.e2.f_Num.f_Limbs),(aB sum.e2.f_Den.f_Neg),(encL (cU .u16) 0 sum.e2.f_Den.f_Limbs)])],753⟩ (C_20 478439) [] [] (kp [2,7,8,16,17,18,40,41]) (kq [0]) 753 [] trivial ?_
        refine Runs.sA 2 [.code (C_20 119608),.code (C_20 119609),.inLoop (C_20 59804),.inBlock 2,.inBlock 1,.code (C_20 935),.inLoop (C_20 116),.inBlock 0,.code (C_20 15)] ?_
        refine Runs.sR hE ⟨[(2,(encL TRat.cells TRat.d parts)),(7,(.op 0 0 0)),(8,(aI x)),(16,(encL TLine.cells TLine.d l)),(17,(aI ((l.length:Nat):Int))),(18,(aI x)),(40,(.agg (TS__3_api_Rat.cells rpull))),(41,(aI 1)),(42,(aB true))],[(0,vO 12 [(aB rAddRat.f_Num.f_Neg),(encL (cU .u16) 0 rAddRat.f_Num.f_Limbs),(aB rAddRat.f_Den.f_Neg),(encL (cU .u16) 0 rAddRat.f_Den.f_Limbs),(aB sum.e1.f_Num.f_Neg),(encL (cU .u16) 0 sum.e1.f_Num.f_Limbs),(aB sum.e1.f_Den.f_Neg),(encL (cU .u16) 0 sum.e1.f_Den.f_Limbs),(aB sum.e2.f_Num.f_Neg),(encL (cU .u16) 0 sum.e2.f_Num.f_Limbs),(aB sum.e2.f_Den.f_Neg),(encL (cU .u16) 0 sum.e2.f_Den.f_Limbs)])],769⟩ (C_20 119608) [] [] (kp [2,7,8,16,17,18,40,41,42]) (kq [0]) 769 [] trivial ?_
        refine Runs.sA 1 [.code (C_20 239218),.code (C_20 239219),.inLoop (C_20 59804),.inBlock 2,.inBlock 1,.code (C_20 935),.inLoop (C_20 116),.inBlock 0,.code (C_20 15)] ?_
        refine Runs.sC 42 (C_20 478436) (C_20 478437) true (fun _=>?_) (fun hq=>absurd hq (by decide)) 
        refine Runs.sA 4 [.code (C_20 1913752),.code (C_20 1913753),.inBlock 3,.code (C_20 478439),.inLoop (C_20 59804),.inBlock 2,.inBlock 1,.code (C_20 935),.inLoop (C_20 116),.inBlock 0,.code (C_20 15)] ?_
        refine Runs.sR hE ⟨[(2,(encL TRat.cells TRat.d parts)),(7,(.op 0 0 0)),(8,(aI x)),(10,(aI 1)),(11,(.op 801 0 0)),(16,(encL TLine.cells TLine.d l)),(17,(aI ((l.length:Nat):Int))),(18,(aI x)),(40,(.agg (TS__3_api_Rat.cells rpull))),(41,(aI 1))],[(0,vO 12 [(aB rAddRat.f_Num.f_Neg),(encL (cU .u16) 0 rAddRat.f_Num.f_Limbs),(aB rAddRat.f_Den.f_Neg),(encL (cU .u16) 0 rAddRat.f_Den.f_Limbs),(aB sum.e1.f_Num.f_Neg),(encL (cU .u16) 0 sum.e1.f_Num.f_Limbs),(aB sum.e1.f_Den.f_Neg),(encL (cU .u16) 0 sum.e1.f_Den.f_Limbs),(aB sum.e2.f_Num.f_Neg),(encL (cU .u16) 0 sum.e2.f_Num.f_Limbs),(aB sum.e2.f_Den.f_Neg),(encL (cU .u16) 0 sum.e2.f_Den.f_Limbs)]),(801,vO 4 (TRat.cells rpull.e1))],849⟩ (C_20 1913752) [] [] (kp [2,7,8,10,11,16,17,18,40,41]) (kq [0,801]) 849 [0≤(1:Int)∧(1:Int) < ((3:Nat):Int),0 < 1] ⟨(by decide),o1,trivial⟩ ?_
        obtain ⟨rMulRat2,hr8,h⟩:=bindSome h
        obtain ⟨rAddRat2,hr9,h⟩:=bindSome h
        refine Runs.sR hE ⟨[(2,(encL TRat.cells TRat.d parts)),(7,(.op 0 0 0)),(8,(aI x)),(16,(encL TLine.cells TLine.d l)),(17,(aI ((l.length:Nat):Int))),(18,(aI x)),(40,(.agg (TS__3_api_Rat.cells rpull))),(41,(aI 1))],[(0,vO 12 [(aB rAddRat.f_Num.f_Neg),(encL (cU .u16) 0 rAddRat.f_Num.f_Limbs),(aB rAddRat.f_Den.f_Neg),(encL (cU .u16) 0 rAddRat.f_Den.f_Limbs),(aB rAddRat2.f_Num.f_Neg),(encL (cU .u16) 0 rAddRat2.f_Num.f_Limbs),(aB rAddRat2.f_Den.f_Neg),(encL (cU .u16) 0 rAddRat2.f_Den.f_Limbs),(aB sum.e2.f_Num.f_Neg),(encL (cU .u16) 0 sum.e2.f_Num.f_Limbs),(aB sum.e2.f_Den.f_Neg),(encL (cU .u16) 0 sum.e2.f_Den.f_Limbs)])],1057⟩ (C_20 1913753) [(9,⟨[],true,(.agg (TRat.cells rMulRat2)),[],0,false,none⟩),(10,⟨[],true,(.agg (TRat.cells rAddRat2)),[],0,false,none⟩)] [] (kp [2,7,8,16,17,18,40,41]) (kq [0]) 1057 [0≤(1:Int)∧(1:Int) < 3,0 < 1,0≤x∧x < ((parts.length:Nat):Int),0 < 1,Sound Try.prog 50 [(.agg [(aB (((parts.getD ((x).toNat) TRat.d).f_Num).f_Neg)),(encL (cU .u16) 0 (((parts.getD ((x).toNat) TRat.d).f_Num).f_Limbs)),(aB (((parts.getD ((x).toNat) TRat.d).f_Den).f_Neg)),(encL (cU .u16) 0 (((parts.getD ((x).toNat) TRat.d).f_Den).f_Limbs))]),(.agg (TRat.cells rpull.e1))] [] 0 (.agg (TRat.cells rMulRat2)) [],Sound Try.prog 49 [(.agg (TRat.cells sum.e1)),(.agg (TRat.cells rMulRat2))] [] 0 (.agg (TRat.cells rAddRat2)) [],0≤(1:Int)∧(1:Int) < 3,0 < 1] ⟨(by decide),o1,c2,o1,(g_e_MulRat_ok N (⟨((parts.getD ((x).toNat) TRat.d).f_Num),((parts.getD ((x).toNat) TRat.d).f_Den)⟩:TRat) rpull.e1 rMulRat2 hr8),(g_e_AddRat_ok N sum.e1 rMulRat2 rAddRat2 hr9),(by decide),o1,trivial⟩ ?_
        refine Runs.sA 1 [.code (C_20 478439),.inLoop (C_20 59804),.inBlock 2,.inBlock 1,.code (C_20 935),.inLoop (C_20 116),.inBlock 0,.code (C_20 15)] ?_
        refine Runs.sR hE ⟨[(2,(encL TRat.cells TRat.d parts)),(7,(.op 0 0 0)),(8,(aI x)),(16,(encL TLine.cells TLine.d l)),(17,(aI ((l.length:Nat):Int))),(18,(aI x)),(40,(.agg (TS__3_api_Rat.cells rpull))),(41,(aI 2))],[(0,vO 12 [(aB rAddRat.f_Num.f_Neg),(encL (cU .u16) 0 rAddRat.f_Num.f_Limbs),(aB rAddRat.f_Den.f_Neg),(encL (cU .u16) 0 rAddRat.f_Den.f_Limbs),(aB rAddRat2.f_Num.f_Neg),(encL (cU .u16) 0 rAddRat2.f_Num.f_Limbs),(aB rAddRat2.f_Den.f_Neg),(encL (cU .u16) 0 rAddRat2.f_Den.f_Limbs),(aB sum.e2.f_Num.f_Neg),(encL (cU .u16) 0 sum.e2.f_Num.f_Limbs),(aB sum.e2.f_Den.f_Neg),(encL (cU .u16) 0 sum.e2.f_Den.f_Limbs)])],1089⟩ (C_20 478439) [] [] (kp [2,7,8,16,17,18,40,41]) (kq [0]) 1089 [] trivial ?_
        refine Runs.sA 2 [.code (C_20 119608),.code (C_20 119609),.inLoop (C_20 59804),.inBlock 2,.inBlock 1,.code (C_20 935),.inLoop (C_20 116),.inBlock 0,.code (C_20 15)] ?_
        refine Runs.sR hE ⟨[(2,(encL TRat.cells TRat.d parts)),(7,(.op 0 0 0)),(8,(aI x)),(16,(encL TLine.cells TLine.d l)),(17,(aI ((l.length:Nat):Int))),(18,(aI x)),(40,(.agg (TS__3_api_Rat.cells rpull))),(41,(aI 2)),(42,(aB true))],[(0,vO 12 [(aB rAddRat.f_Num.f_Neg),(encL (cU .u16) 0 rAddRat.f_Num.f_Limbs),(aB rAddRat.f_Den.f_Neg),(encL (cU .u16) 0 rAddRat.f_Den.f_Limbs),(aB rAddRat2.f_Num.f_Neg),(encL (cU .u16) 0 rAddRat2.f_Num.f_Limbs),(aB rAddRat2.f_Den.f_Neg),(encL (cU .u16) 0 rAddRat2.f_Den.f_Limbs),(aB sum.e2.f_Num.f_Neg),(encL (cU .u16) 0 sum.e2.f_Num.f_Limbs),(aB sum.e2.f_Den.f_Neg),(encL (cU .u16) 0 sum.e2.f_Den.f_Limbs)])],1105⟩ (C_20 119608) [] [] (kp [2,7,8,16,17,18,40,41,42]) (kq [0]) 1105 [] trivial ?_
        refine Runs.sA 1 [.code (C_20 239218),.code (C_20 239219),.inLoop (C_20 59804),.inBlock 2,.inBlock 1,.code (C_20 935),.inLoop (C_20 116),.inBlock 0,.code (C_20 15)] ?_
        refine Runs.sC 42 (C_20 478436) (C_20 478437) true (fun _=>?_) (fun hq=>absurd hq (by decide)) 
        refine Runs.sA 4 [.code (C_20 1913752),.code (C_20 1913753),.inBlock 3,.code (C_20 478439),.inLoop (C_20 59804),.inBlock 2,.inBlock 1,.code (C_20 935),.inLoop (C_20 116),.inBlock 0,.code (C_20 15)] ?_
        refine Runs.sR hE ⟨[(2,(encL TRat.cells TRat.d parts)),(7,(.op 0 0 0)),(8,(aI x)),(10,(aI 2)),(11,(.op 1137 0 0)),(16,(encL TLine.cells TLine.d l)),(17,(aI ((l.length:Nat):Int))),(18,(aI x)),(40,(.agg (TS__3_api_Rat.cells rpull))),(41,(aI 2))],[(0,vO 12 [(aB rAddRat.f_Num.f_Neg),(encL (cU .u16) 0 rAddRat.f_Num.f_Limbs),(aB rAddRat.f_Den.f_Neg),(encL (cU .u16) 0 rAddRat.f_Den.f_Limbs),(aB rAddRat2.f_Num.f_Neg),(encL (cU .u16) 0 rAddRat2.f_Num.f_Limbs),(aB rAddRat2.f_Den.f_Neg),(encL (cU .u16) 0 rAddRat2.f_Den.f_Limbs),(aB sum.e2.f_Num.f_Neg),(encL (cU .u16) 0 sum.e2.f_Num.f_Limbs),(aB sum.e2.f_Den.f_Neg),(encL (cU .u16) 0 sum.e2.f_Den.f_Limbs)]),(1137,vO 4 (TRat.cells rpull.e2))],1185⟩ (C_20 1913752) [] [] (kp [2,7,8,10,11,16,17,18,40,41]) (kq [0,1137]) 1185 [0≤(2:Int)∧(2:Int) < ((3:Nat):Int),0 < 1] ⟨(by decide),o1,trivial⟩ ?_
        obtain ⟨rMulRat3,hr10,h⟩:=bindSome h
        obtain ⟨rAddRat3,hr11,h⟩:=bindSome h
        refine Runs.sR hE ⟨[(2,(encL TRat.cells TRat.d parts)),(7,(.op 0 0 0)),(8,(aI x)),(16,(encL TLine.cells TLine.d l)),(17,(aI ((l.length:Nat):Int))),(18,(aI x)),(40,(.agg (TS__3_api_Rat.cells rpull))),(41,(aI 2))],[(0,vO 12 [(aB rAddRat.f_Num.f_Neg),(encL (cU .u16) 0 rAddRat.f_Num.f_Limbs),(aB rAddRat.f_Den.f_Neg),(encL (cU .u16) 0 rAddRat.f_Den.f_Limbs),(aB rAddRat2.f_Num.f_Neg),(encL (cU .u16) 0 rAddRat2.f_Num.f_Limbs),(aB rAddRat2.f_Den.f_Neg),(encL (cU .u16) 0 rAddRat2.f_Den.f_Limbs),(aB rAddRat3.f_Num.f_Neg),(encL (cU .u16) 0 rAddRat3.f_Num.f_Limbs),(aB rAddRat3.f_Den.f_Neg),(encL (cU .u16) 0 rAddRat3.f_Den.f_Limbs)])],1393⟩ (C_20 1913753) [(9,⟨[],true,(.agg (TRat.cells rMulRat3)),[],0,false,none⟩),(10,⟨[],true,(.agg (TRat.cells rAddRat3)),[],0,false,none⟩)] [] (kp [2,7,8,16,17,18,40,41]) (kq [0]) 1393 [0≤(2:Int)∧(2:Int) < 3,0 < 1,0≤x∧x < ((parts.length:Nat):Int),0 < 1,Sound Try.prog 50 [(.agg [(aB (((parts.getD ((x).toNat) TRat.d).f_Num).f_Neg)),(encL (cU .u16) 0 (((parts.getD ((x).toNat) TRat.d).f_Num).f_Limbs)),(aB (((parts.getD ((x).toNat) TRat.d).f_Den).f_Neg)),(encL (cU .u16) 0 (((parts.getD ((x).toNat) TRat.d).f_Den).f_Limbs))]),(.agg (TRat.cells rpull.e2))] [] 0 (.agg (TRat.cells rMulRat3)) [],Sound Try.prog 49 [(.agg (TRat.cells sum.e2)),(.agg (TRat.cells rMulRat3))] [] 0 (.agg (TRat.cells rAddRat3)) [],0≤(2:Int)∧(2:Int) < 3,0 < 1] ⟨(by decide),o1,c2,o1,(g_e_MulRat_ok N (⟨((parts.getD ((x).toNat) TRat.d).f_Num),((parts.getD ((x).toNat) TRat.d).f_Den)⟩:TRat) rpull.e2 rMulRat3 hr10),(g_e_AddRat_ok N sum.e2 rMulRat3 rAddRat3 hr11),(by decide),o1,trivial⟩ ?_
        refine Runs.sA 1 [.code (C_20 478439),.inLoop (C_20 59804),.inBlock 2,.inBlock 1,.code (C_20 935),.inLoop (C_20 116),.inBlock 0,.code (C_20 15)] ?_
        refine Runs.sR hE ⟨[(2,(encL TRat.cells TRat.d parts)),(7,(.op 0 0 0)),(8,(aI x)),(16,(encL TLine.cells TLine.d l)),(17,(aI ((l.length:Nat):Int))),(18,(aI x)),(40,(.agg (TS__3_api_Rat.cells rpull))),(41,(aI 3))],[(0,vO 12 [(aB rAddRat.f_Num.f_Neg),(encL (cU .u16) 0 rAddRat.f_Num.f_Limbs),(aB rAddRat.f_Den.f_Neg),(encL (cU .u16) 0 rAddRat.f_Den.f_Limbs),(aB rAddRat2.f_Num.f_Neg),(encL (cU .u16) 0 rAddRat2.f_Num.f_Limbs),(aB rAddRat2.f_Den.f_Neg),(encL (cU .u16) 0 rAddRat2.f_Den.f_Limbs),(aB rAddRat3.f_Num.f_Neg),(encL (cU .u16) 0 rAddRat3.f_Num.f_Limbs),(aB rAddRat3.f_Den.f_Neg),(encL (cU .u16) 0 rAddRat3.f_Den.f_Limbs)])],1425⟩ (C_20 478439) [] [] (kp [2,7,8,16,17,18,40,41]) (kq [0]) 1425 [] trivial ?_
        refine Runs.sA 2 [.code (C_20 119608),.code (C_20 119609),.inLoop (C_20 59804),.inBlock 2,.inBlock 1,.code (C_20 935),.inLoop (C_20 116),.inBlock 0,.code (C_20 15)] ?_
        refine Runs.sR hE ⟨[(2,(encL TRat.cells TRat.d parts)),(7,(.op 0 0 0)),(8,(aI x)),(16,(encL TLine.cells TLine.d l)),(17,(aI ((l.length:Nat):Int))),(18,(aI x)),(40,(.agg (TS__3_api_Rat.cells rpull))),(41,(aI 3)),(42,(aB false))],[(0,vO 12 [(aB rAddRat.f_Num.f_Neg),(encL (cU .u16) 0 rAddRat.f_Num.f_Limbs),(aB rAddRat.f_Den.f_Neg),(encL (cU .u16) 0 rAddRat.f_Den.f_Limbs),(aB rAddRat2.f_Num.f_Neg),(encL (cU .u16) 0 rAddRat2.f_Num.f_Limbs),(aB rAddRat2.f_Den.f_Neg),(encL (cU .u16) 0 rAddRat2.f_Den.f_Limbs),(aB rAddRat3.f_Num.f_Neg),(encL (cU .u16) 0 rAddRat3.f_Num.f_Limbs),(aB rAddRat3.f_Den.f_Neg),(encL (cU .u16) 0 rAddRat3.f_Den.f_Limbs)])],1441⟩ (C_20 119608) [] [] (kp [2,7,8,16,17,18,40,41,42]) (kq [0]) 1441 [] trivial ?_
        refine Runs.sA 1 [.code (C_20 239218),.code (C_20 239219),.inLoop (C_20 59804),.inBlock 2,.inBlock 1,.code (C_20 935),.inLoop (C_20 116),.inBlock 0,.code (C_20 15)] ?_
        refine Runs.sC 42 (C_20 478436) (C_20 478437) false (fun hq=>absurd hq (by decide)) (fun _=>?_) 
        refine Runs.sA 2 [.code (C_20 935),.inLoop (C_20 116),.inBlock 0,.code (C_20 15)] ?_
        refine Runs.sR hE ⟨[(2,(encL TRat.cells TRat.d parts)),(7,(.op 0 0 0)),(16,(encL TLine.cells TLine.d l)),(17,(aI ((l.length:Nat):Int))),(18,(aI (w64 (x+1))))],[(0,vO 12 [(aB rAddRat.f_Num.f_Neg),(encL (cU .u16) 0 rAddRat.f_Num.f_Limbs),(aB rAddRat.f_Den.f_Neg),(encL (cU .u16) 0 rAddRat.f_Den.f_Limbs),(aB rAddRat2.f_Num.f_Neg),(encL (cU .u16) 0 rAddRat2.f_Num.f_Limbs),(aB rAddRat2.f_Den.f_Neg),(encL (cU .u16) 0 rAddRat2.f_Den.f_Limbs),(aB rAddRat3.f_Num.f_Neg),(encL (cU .u16) 0 rAddRat3.f_Num.f_Limbs),(aB rAddRat3.f_Den.f_Neg),(encL (cU .u16) 0 rAddRat3.f_Den.f_Limbs)])],1473⟩ (C_20 935) [] [] (kp [2,7,16,17,18]) (kq [0]) 1473 [] trivial ?_
        refine Runs.sA 1 [.code (C_20 116),.inLoop (C_20 116),.inBlock 0,.code (C_20 15)] ?_
        exact Runs.sW hE _ [] (kp [2,7,16,17,18]) (kq [0]) 1 [] trivial (ih (⟨rAddRat,rAddRat2,rAddRat3⟩:TS__3_api_Rat) (w64 (x+1)) _ h E hE)
    · have h:=condF h hq2
      refine Runs.sA 3 [.code (C_20 60),.code (C_20 61),.code (C_20 31)] ?_
      refine Runs.sR hE ⟨[(59,(.agg (TS__3_api_Rat.cells sum))),(60,(aI 0))],[],49⟩ (C_20 60) [] [] (kp [59,60]) [] 49 [0 < 1] ⟨o1,trivial⟩ ?_
      refine Runs.sA 3 [.code (C_20 488),.code (C_20 489),.inLoop (C_20 244),.inBlock 4,.code (C_20 31)] ?_
      refine Runs.sR hE ⟨[(59,(.agg (TS__3_api_Rat.cells sum))),(60,(aI 0)),(61,(aB true))],[],65⟩ (C_20 488) [] [] (kp [59,60,61]) [] 65 [] trivial ?_
      refine Runs.sA 1 [.code (C_20 978),.code (C_20 979),.inLoop (C_20 244),.inBlock 4,.code (C_20 31)] ?_
      refine Runs.sC 61 (C_20 1956) (C_20 1957) true (fun _=>?_) (fun hq=>absurd hq (by decide)) 
      refine Runs.sA 4 [.code (C_20 7832),.code (C_20 7833),.inBlock 5,.code (C_20 1959),.inLoop (C_20 244),.inBlock 4,.code (C_20 31)] ?_
      refine Runs.sR hE ⟨[(13,(.op 81 0 0)),(59,(.agg (TS__3_api_Rat.cells sum))),(60,(aI 0))],[(81,vO 4 (TRat.cells sum.e0))],113⟩ (C_20 7832) [] [] (kp [13,59,60]) (kq [81]) 113 [0≤(0:Int)∧(0:Int) < ((3:Nat):Int),0 < 1] ⟨(by decide),o1,trivial⟩ ?_
      refine Runs.sA 1 [.code (C_20 15666),.code (C_20 15667),.inBlock 5,.code (C_20 1959),.inLoop (C_20 244),.inBlock 4,.code (C_20 31)] ?_
      obtain ⟨rCmpRat3,hr12,h⟩:=bindSome h
      refine Runs.sR hE ⟨[(59,(.agg (TS__3_api_Rat.cells sum))),(60,(aI 0)),(66,(aB (rCmpRat3 != 0)))],[],177⟩ (C_20 15666) [(2,⟨[],true,(aI rCmpRat3),[],0,false,none⟩)] [] (kp [59,60,66]) [] 177 [0 < 1,Sound Try.prog 46 [(.agg (TRat.cells sum.e0)),(.agg [(aB false),.nil,(aB false),.nil])] [] 0 (aI rCmpRat3) []] ⟨o1,(Sound.conv (g_e_CmpRat_ok N sum.e0 (⟨(⟨false,([]:List Int)⟩:TInt),(⟨false,([]:List Int)⟩:TInt)⟩:TRat) rCmpRat3 hr12) (.cons (Alike.refl _) (.cons (Alike.agg (.cons (Alike.refl _) (.cons Alike.nil (.cons (Alike.refl _) (.cons Alike.nil .nil))))) .nil))),trivial⟩ ?_
      refine Runs.sC 66 (C_20 31334) (C_20 31335) (rCmpRat3 != 0) (fun hq4=>?_) (fun hq4=>?_)
      · have h:=condT h hq4
        refine Runs.sA 1 [.code (C_20 62668),.code (C_20 62669),.inBlock 5,.code (C_20 1959),.inLoop (C_20 244),.inBlock 4,.code (C_20 31)] ?_
        refine Runs.sR hE ⟨[(6,(aB false))],[],193⟩ (C_20 62668) [] [] (kp [6]) [] 193 [] trivial ?_
        obtain rfl:=Option.some.inj h
        refine Runs.sW hE ⟨[(6,(aB false))],[],193⟩ [] (kp [6]) [] 193 [] trivial ?_
        exact Runs.sT Try.f20 [] [] trivial
      · have h:=condF h hq4
        refine Runs.sA 2 [.code (C_20 1959),.inLoop (C_20 244),.inBlock 4,.code (C_20 31)] ?_
        refine Runs.sR hE ⟨[(59,(.agg (TS__3_api_Rat.cells sum))),(60,(aI 1))],[],209⟩ (C_20 1959) [] [] (kp [59,60]) [] 209 [] trivial ?_
        refine Runs.sA 2 [.code (C_20 488),.code (C_20 489),.inLoop (C_20 244),.inBlock 4,.code (C_20 31)] ?_
        refine Runs.sR hE ⟨[(59,(.agg (TS__3_api_Rat.cells sum))),(60,(aI 1)),(61,(aB true))],[],225⟩ (C_20 488) [] [] (kp [59,60,61]) [] 225 [] trivial ?_
        refine Runs.sA 1 [.code (C_20 978),.code (C_20 979),.inLoop (C_20 244),.inBlock 4,.code (C_20 31)] ?_
        refine Runs.sC 61 (C_20 1956) (C_20 1957) true (fun _=>?_) (fun hq=>absurd hq (by decide)) 
        refine Runs.sA 4 [.code (C_20 7832),.code (C_20 7833),.inBlock 5,.code (C_20 1959),.inLoop (C_20 244),.inBlock 4,.code (C_20 31)] ?_
        refine Runs.sR hE ⟨[(13,(.op 241 0 0)),(59,(.agg (TS__3_api_Rat.cells sum))),(60,(aI 1))],[(241,vO 4 (TRat.cells sum.e1))],273⟩ (C_20 7832) [] [] (kp [13,59,60]) (kq [241]) 273 [0≤(1:Int)∧(1:Int) < ((3:Nat):Int),0 < 1] ⟨(by decide),o1,trivial⟩ ?_
        refine Runs.sA 1 [.code (C_20 15666),.code (C_20 15667),.inBlock 5,.code (C_20 1959),.inLoop (C_20 244),.inBlock 4,.code (C_20 31)] ?_
        obtain ⟨rCmpRat4,hr13,h⟩:=bindSome h
        refine Runs.sR hE ⟨[(59,(.agg (TS__3_api_Rat.cells sum))),(60,(aI 1)),(66,(aB (rCmpRat4 != 0)))],[],337⟩ (C_20 15666) [(2,⟨[],true,(aI rCmpRat4),[],0,false,none⟩)] [] (kp [59,60,66]) [] 337 [0 < 1,Sound Try.prog 46 [(.agg (TRat.cells sum.e1)),(.agg [(aB false),.nil,(aB false),.nil])] [] 0 (aI rCmpRat4) []] ⟨o1,(Sound.conv (g_e_CmpRat_ok N sum.e1 (⟨(⟨false,([]:List Int)⟩:TInt),(⟨false,([]:List Int)⟩:TInt)⟩:TRat) rCmpRat4 hr13) (.cons (Alike.refl _) (.cons (Alike.agg (.cons (Alike.refl _) (.cons Alike.nil (.cons (Alike.refl _) (.cons Alike.nil .nil))))) .nil))),trivial⟩ ?_
        refine Runs.sC 66 (C_20 31334) (C_20 31335) (rCmpRat4 != 0) (fun hq5=>?_) (fun hq5=>?_)
        · have h:=condT h hq5
          refine Runs.sA 1 [.code (C_20 62668),.code (C_20 62669),.inBlock 5,.code (C_20 1959),.inLoop (C_20 244),.inBlock 4,.code (C_20 31)] ?_
          refine Runs.sR hE ⟨[(6,(aB false))],[],353⟩ (C_20 62668) [] [] (kp [6]) [] 353 [] trivial ?_
          obtain rfl:=Option.some.inj h
          refine Runs.sW hE ⟨[(6,(aB false))],[],353⟩ [] (kp [6]) [] 353 [] trivial ?_
          exact Runs.sT Try.f20 [] [] trivial
        · have h:=condF h hq5
          refine Runs.sA 2 [.code (C_20 1959),.inLoop (C_20 244),.inBlock 4,.code (C_20 31)] ?_
          refine Runs.sR hE ⟨[(59,(.agg (TS__3_api_Rat.cells sum))),(60,(aI 2))],[],369⟩ (C_20 1959) [] [] (kp [59,60]) [] 369 [] trivial ?_
          refine Runs.sA 2 [.code (C_20 488),.code (C_20 489),.inLoop (C_20 244),.inBlock 4,.code (C_20 31)] ?_
          refine Runs.sR hE ⟨[(59,(.agg (TS__3_api_Rat.cells sum))),(60,(aI 2)),(61,(aB true))],[],385⟩ (C_20 488) [] [] (kp [59,60,61]) [] 385 [] trivial ?_
          refine Runs.sA 1 [.code (C_20 978),.code (C_20 979),.inLoop (C_20 244),.inBlock 4,.code (C_20 31)] ?_
          refine Runs.sC 61 (C_20 1956) (C_20 1957) true (fun _=>?_) (fun hq=>absurd hq (by decide)) 
          refine Runs.sA 4 [.code (C_20 7832),.code (C_20 7833),.inBlock 5,.code (C_20 1959),.inLoop (C_20 244),.inBlock 4,.code (C_20 31)] ?_
          refine Runs.sR hE ⟨[(13,(.op 401 0 0)),(59,(.agg (TS__3_api_Rat.cells sum))),(60,(aI 2))],[(401,vO 4 (TRat.cells sum.e2))],433⟩ (C_20 7832) [] [] (kp [13,59,60]) (kq [401]) 433 [0≤(2:Int)∧(2:Int) < ((3:Nat):Int),0 < 1] ⟨(by decide),o1,trivial⟩ ?_
          refine Runs.sA 1 [.code (C_20 15666),.code (C_20 15667),.inBlock 5,.code (C_20 1959),.inLoop (C_20 244),.inBlock 4,.code (C_20 31)] ?_
          obtain ⟨rCmpRat5,hr14,h⟩:=bindSome h
          refine Runs.sR hE ⟨[(59,(.agg (TS__3_api_Rat.cells sum))),(60,(aI 2)),(66,(aB (rCmpRat5 != 0)))],[],497⟩ (C_20 15666) [(2,⟨[],true,(aI rCmpRat5),[],0,false,none⟩)] [] (kp [59,60,66]) [] 497 [0 < 1,Sound Try.prog 46 [(.agg (TRat.cells sum.e2)),(.agg [(aB false),.nil,(aB false),.nil])] [] 0 (aI rCmpRat5) []] ⟨o1,(Sound.conv (g_e_CmpRat_ok N sum.e2 (⟨(⟨false,([]:List Int)⟩:TInt),(⟨false,([]:List Int)⟩:TInt)⟩:TRat) rCmpRat5 hr14) (.cons (Alike.refl _) (.cons (Alike.agg (.cons (Alike.refl _) (.cons Alike.nil (.cons (Alike.refl _) (.cons Alike.nil .nil))))) .nil))),trivial⟩ ?_
          refine Runs.sC 66 (C_20 31334) (C_20 31335) (rCmpRat5 != 0) (fun hq6=>?_) (fun hq6=>?_)
          · have h:=condT h hq6
            refine Runs.sA 1 [.code (C_20 62668),.code (C_20 62669),.inBlock 5,.code (C_20 1959),.inLoop (C_20 244),.inBlock 4,.code (C_20 31)] ?_
            refine Runs.sR hE ⟨[(6,(aB false))],[],513⟩ (C_20 62668) [] [] (kp [6]) [] 513 [] trivial ?_
            obtain rfl:=Option.some.inj h
            refine Runs.sW hE ⟨[(6,(aB false))],[],513⟩ [] (kp [6]) [] 513 [] trivial ?_
            exact Runs.sT Try.f20 [] [] trivial
          · have h:=condF h hq6
            refine Runs.sA 2 [.code (C_20 1959),.inLoop (C_20 244),.inBlock 4,.code (C_20 31)] ?_
            refine Runs.sR hE ⟨[(59,(.agg (TS__3_api_Rat.cells sum))),(60,(aI 3))],[],529⟩ (C_20 1959) [] [] (kp [59,60]) [] 529 [] trivial ?_
            refine Runs.sA 2 [.code (C_20 488),.code (C_20 489),.inLoop (C_20 244),.inBlock 4,.code (C_20 31)] ?_
            refine Runs.sR hE ⟨[(59,(.agg (TS__3_api_Rat.cells sum))),(60,(aI 3)),(61,(aB false))],[],545⟩ (C_20 488) [] [] (kp [59,60,61]) [] 545 [] trivial ?_
            refine Runs.sA 1 [.code (C_20 978),.code (C_20 979),.inLoop (C_20 244),.inBlock 4,.code (C_20 31)] ?_
            refine Runs.sC 61 (C_20 1956) (C_20 1957) false (fun hq=>absurd hq (by decide)) (fun _=>?_) 
            refine Runs.sA 2 [.code (C_20 62),.code (C_20 63)] ?_
            refine Runs.sR hE ⟨[(6,(aB true))],[],561⟩ (C_20 62) [] [] (kp [6]) [] 561 [] trivial ?_
            obtain rfl:=Option.some.inj h
            refine Runs.sW hE ⟨[(6,(aB true))],[],561⟩ [] (kp [6]) [] 561 [] trivial ?_
            exact Runs.sT Try.f20 [] [] trivial
theorem g_berth_holds_ok (N:Nat) (l:List TLine) (w:TWind) (parts:List TRat) (r:Bool) (h:g_berth_holds N l w parts = some r):Sound Try.prog 20 [(encL TLine.cells TLine.d l),(.agg (TWind.cells w)),(encL TRat.cells TRat.d parts)] [] 0 (aB r) []:=by
  unfold g_berth_holds at h
  refine Sound.of_runs (fu:=Try.f20) (c:=C_20 1) (nt:=68) (by kernel_rfl) (by kernel_rfl) (by kernel_rfl) (by kernel_rfl) (fun hm=>rfl) ?_
  intro E hE
  refine Runs.sA 1 [.code (C_20 2),.code (C_20 3)] ?_
  refine Runs.sR hE ⟨[(0,(encL TLine.cells TLine.d l)),(2,(encL TRat.cells TRat.d parts)),(4,(.op 0 0 0))],[(0,vO 3 (TWind.cells w))],32⟩ (C_20 2) [] [] (kp [0,2,4]) (kq [0]) 32 [] trivial ?_
  refine Runs.sA 1 [.code (C_20 6),.code (C_20 7)] ?_
  obtain ⟨rblows,hr,h⟩:=bindSome h
  refine Runs.sR hE ⟨[(0,(encL TLine.cells TLine.d l)),(2,(encL TRat.cells TRat.d parts)),(7,(.op 64 0 0))],[(64,vO 12 (TS__3_api_Rat.cells rblows))],96⟩ (C_20 6) [(1,⟨[],true,(.agg (TS__3_api_Rat.cells rblows)),[],0,false,none⟩)] [] (kp [0,2,7]) (kq [64]) 96 [0 < 1,Sound Try.prog 45 [(.agg (TWind.cells w))] [] 0 (.agg (TS__3_api_Rat.cells rblows)) [],0 < 1] ⟨o1,(g_berth_blows_ok N w rblows hr),o1,trivial⟩ ?_
  refine Runs.sA 2 [.code (C_20 28),.code (C_20 29),.code (C_20 15)] ?_
  refine Runs.sR hE ⟨[(2,(encL TRat.cells TRat.d parts)),(7,(.op 64 0 0)),(16,(encL TLine.cells TLine.d l)),(17,(aI ((l.length:Nat):Int))),(18,(aI 0))],[(64,vO 12 (TS__3_api_Rat.cells rblows))],144⟩ (C_20 28) [] [] (kp [2,7,16,17,18]) (kq [64]) 144 [] trivial ?_
  refine Runs.sA 2 [.code (C_20 116),.inLoop (C_20 116),.inBlock 0,.code (C_20 15)] ?_
  exact Runs.sW hE _ [] (kp [2,7,16,17,18]) [(0,.keep 64)] 1 [] trivial (g_berth_holds_L1_ok N l parts N rblows 0 _ h E hE)
noncomputable def C_58 (n:Nat):Code:=cat (bodyOf Try.f51) (pth n)
theorem g_berth_proves_1_ok (N:Nat) (f:TS__3_api_Rat) (cap0:List TRat) (r:TRat) (h:g_berth_proves_1 N f cap0 = some r):Sound Try.prog 51 [(.agg (TS__3_api_Rat.cells f)),(.op 0 0 0)] [(0,vO 1 [(encL TRat.cells TRat.d cap0)])] 1 (.agg (TRat.cells r)) [(0,vO 1 [(encL TRat.cells TRat.d cap0)])]:=by
  unfold g_berth_proves_1 at h
  refine Sound.of_runs (fu:=Try.f51) (c:=C_58 1) (nt:=22) (by kernel_rfl) (by kernel_rfl) (by kernel_rfl) (by kernel_rfl) (fun hm=>absurd hm (by decide)) ?_
  intro E hE
  refine Runs.sA 1 [.code (C_58 2),.code (C_58 3)] ?_
  refine Runs.sR hE ⟨[(1,(.op 0 0 0)),(2,(.op 1 0 0)),(3,(.op 17 0 0))],[(0,vO 1 [(encL TRat.cells TRat.d cap0)]),(1,vO 12 (TS__3_api_Rat.cells f)),(17,vO 4 [(aB false),.nil,(aB false),.nil])],33⟩ (C_58 2) [] [] (kp [1,2,3]) (kq [0,1,17]) 33 [] trivial ?_
  refine Runs.sA 1 [.code (C_58 6),.code (C_58 7)] ?_
  obtain ⟨rwhole,hr,h⟩:=bindSome h
  refine Runs.sR hE ⟨[(1,(.op 0 0 0)),(2,(.op 1 0 0)),(3,(.op 17 0 0)),(4,(.op 49 0 0))],[(0,vO 1 [(encL TRat.cells TRat.d cap0)]),(1,vO 12 (TS__3_api_Rat.cells f)),(17,vO 4 [(aB false),.nil,(aB false),.nil]),(49,vO 4 (TRat.cells rwhole))],81⟩ (C_58 6) [(0,⟨[],true,(.agg (TRat.cells rwhole)),[],0,false,none⟩)] [] (kp [1,2,3,4]) (kq [0,1,17,49]) 81 [Sound Try.prog 47 [(aI 0)] [] 0 (.agg (TRat.cells rwhole)) [],0 < 1] ⟨(g_berth_whole_ok N 0 rwhole hr),o1,trivial⟩ ?_
  refine Runs.sA 2 [.code (C_58 28),.code (C_58 29),.code (C_58 15)] ?_
  refine Runs.sR hE ⟨[(1,(.op 0 0 0)),(2,(.op 1 0 0)),(3,(.op 17 0 0)),(4,(.op 49 0 0)),(7,(aI 0))],[(0,vO 1 [(encL TRat.cells TRat.d cap0)]),(1,vO 12 (TS__3_api_Rat.cells f)),(17,vO 4 [(aB false),.nil,(aB false),.nil]),(49,vO 4 (TRat.cells rwhole))],97⟩ (C_58 28) [] [] (kp [1,2,3,4,7]) (kq [0,1,17,49]) 97 [] trivial ?_
  refine Runs.sA 3 [.code (C_58 232),.code (C_58 233),.inLoop (C_58 116),.inBlock 0,.code (C_58 15)] ?_
  refine Runs.sR hE ⟨[(1,(.op 0 0 0)),(2,(.op 1 0 0)),(3,(.op 17 0 0)),(4,(.op 49 0 0)),(7,(aI 0)),(8,(aB true))],[(0,vO 1 [(encL TRat.cells TRat.d cap0)]),(1,vO 12 (TS__3_api_Rat.cells f)),(17,vO 4 [(aB false),.nil,(aB false),.nil]),(49,vO 4 (TRat.cells rwhole))],113⟩ (C_58 232) [] [] (kp [1,2,3,4,7,8]) (kq [0,1,17,49]) 113 [] trivial ?_
  refine Runs.sA 1 [.code (C_58 466),.code (C_58 467),.inLoop (C_58 116),.inBlock 0,.code (C_58 15)] ?_
  refine Runs.sC 8 (C_58 932) (C_58 933) true (fun _=>?_) (fun hq=>absurd hq (by decide)) 
  refine Runs.sA 4 [.code (C_58 3736),.code (C_58 3737),.inBlock 1,.code (C_58 935),.inLoop (C_58 116),.inBlock 0,.code (C_58 15)] ?_
  refine Runs.sR hE ⟨[(1,(.op 0 0 0)),(2,(.op 1 0 0)),(3,(.op 17 0 0)),(4,(.op 49 0 0)),(5,(aI 0)),(7,(aI 0))],[(0,vO 1 [(encL TRat.cells TRat.d cap0)]),(1,vO 12 (TS__3_api_Rat.cells f)),(17,vO 4 [(aB false),.nil,(aB false),.nil]),(49,vO 4 (TRat.cells rwhole))],145⟩ (C_58 3736) [] [] (kp [1,2,3,4,5,7]) (kq [0,1,17,49]) 145 [] trivial ?_
  obtain ⟨c,h⟩:=ifSome h
  obtain ⟨rMulRat,hr2,h⟩:=bindSome h
  obtain ⟨rAddRat,hr3,h⟩:=bindSome h
  refine Runs.sR hE ⟨[(1,(.op 0 0 0)),(2,(.op 1 0 0)),(3,(.op 17 0 0)),(4,(.op 49 0 0)),(7,(aI 0))],[(0,vO 1 [(encL TRat.cells TRat.d cap0)]),(1,vO 12 (TS__3_api_Rat.cells f)),(17,vO 4 [(aB false),.nil,(aB false),.nil]),(49,vO 4 (TRat.cells rAddRat))],321⟩ (C_58 3737) [(8,⟨[],true,(.agg (TRat.cells rMulRat)),[],0,false,none⟩),(9,⟨[],true,(.agg (TRat.cells rAddRat)),[],0,false,none⟩)] [] (kp [1,2,3,4,7]) (kq [0,1,17,49]) 321 [0 < 1,0 < 1,0≤(0:Int)∧0 < ((cap0.length:Nat):Int),0≤(0:Int)∧(0:Int) < 3,0 < 1,Sound Try.prog 50 [(.agg [(aB (((cap0.getD 0 TRat.d).f_Num).f_Neg)),(encL (cU .u16) 0 (((cap0.getD 0 TRat.d).f_Num).f_Limbs)),(aB (((cap0.getD 0 TRat.d).f_Den).f_Neg)),(encL (cU .u16) 0 (((cap0.getD 0 TRat.d).f_Den).f_Limbs))]),(.agg (TRat.cells f.e0))] [] 0 (.agg (TRat.cells rMulRat)) [],Sound Try.prog 49 [(.agg (TRat.cells rwhole)),(.agg (TRat.cells rMulRat))] [] 0 (.agg (TRat.cells rAddRat)) [],0 < 1] ⟨o1,o1,c,(by decide),o1,(g_e_MulRat_ok N (⟨((cap0.getD 0 TRat.d).f_Num),((cap0.getD 0 TRat.d).f_Den)⟩:TRat) f.e0 rMulRat hr2),(g_e_AddRat_ok N rwhole rMulRat rAddRat hr3),o1,trivial⟩ ?_
  refine Runs.sA 1 [.code (C_58 935),.inLoop (C_58 116),.inBlock 0,.code (C_58 15)] ?_
  refine Runs.sR hE ⟨[(1,(.op 0 0 0)),(2,(.op 1 0 0)),(3,(.op 17 0 0)),(4,(.op 49 0 0)),(7,(aI 1))],[(0,vO 1 [(encL TRat.cells TRat.d cap0)]),(1,vO 12 (TS__3_api_Rat.cells f)),(17,vO 4 [(aB false),.nil,(aB false),.nil]),(49,vO 4 (TRat.cells rAddRat))],353⟩ (C_58 935) [] [] (kp [1,2,3,4,7]) (kq [0,1,17,49]) 353 [] trivial ?_
  refine Runs.sA 2 [.code (C_58 232),.code (C_58 233),.inLoop (C_58 116),.inBlock 0,.code (C_58 15)] ?_
  refine Runs.sR hE ⟨[(1,(.op 0 0 0)),(2,(.op 1 0 0)),(3,(.op 17 0 0)),(4,(.op 49 0 0)),(7,(aI 1)),(8,(aB true))],[(0,vO 1 [(encL TRat.cells TRat.d cap0)]),(1,vO 12 (TS__3_api_Rat.cells f)),(17,vO 4 [(aB false),.nil,(aB false),.nil]),(49,vO 4 (TRat.cells rAddRat))],369⟩ (C_58 232) [] [] (kp [1,2,3,4,7,8]) (kq [0,1,17,49]) 369 [] trivial ?_
  refine Runs.sA 1 [.code (C_58 466),.code (C_58 467),.inLoop (C_58 116),.inBlock 0,.code (C_58 15)] ?_
  refine Runs.sC 8 (C_58 932) (C_58 933) true (fun _=>?_) (fun hq=>absurd hq (by decide)) 
  refine Runs.sA 4 [.code (C_58 3736),.code (C_58 3737),.inBlock 1,.code (C_58 935),.inLoop (C_58 116),.inBlock 0,.code (C_58 15)] ?_
  refine Runs.sR hE ⟨[(1,(.op 0 0 0)),(2,(.op 1 0 0)),(3,(.op 17 0 0)),(4,(.op 49 0 0)),(5,(aI 1)),(7,(aI 1))],[(0,vO 1 [(encL TRat.cells TRat.d cap0)]),(1,vO 12 (TS__3_api_Rat.cells f)),(17,vO 4 [(aB false),.nil,(aB false),.nil]),(49,vO 4 (TRat.cells rAddRat))],401⟩ (C_58 3736) [] [] (kp [1,2,3,4,5,7]) (kq [0,1,17,49]) 401 [] trivial ?_
  obtain ⟨c2,h⟩:=ifSome h
  obtain ⟨rMulRat2,hr4,h⟩:=bindSome h
  obtain ⟨rAddRat2,hr5,h⟩:=bindSome h
  refine Runs.sR hE ⟨[(1,(.op 0 0 0)),(2,(.op 1 0 0)),(3,(.op 17 0 0)),(4,(.op 49 0 0)),(7,(aI 1))],[(0,vO 1 [(encL TRat.cells TRat.d cap0)]),(1,vO 12 (TS__3_api_Rat.cells f)),(17,vO 4 [(aB false),.nil,(aB false),.nil]),(49,vO 4 (TRat.cells rAddRat2))],577⟩ (C_58 3737) [(8,⟨[],true,(.agg (TRat.cells rMulRat2)),[],0,false,none⟩),(9,⟨[],true,(.agg (TRat.cells rAddRat2)),[],0,false,none⟩)] [] (kp [1,2,3,4,7]) (kq [0,1,17,49]) 577 [0 < 1,0 < 1,0≤(1:Int)∧1 < ((cap0.length:Nat):Int),0≤(1:Int)∧(1:Int) < 3,0 < 1,Sound Try.prog 50 [(.agg [(aB (((cap0.getD 1 TRat.d).f_Num).f_Neg)),(encL (cU .u16) 0 (((cap0.getD 1 TRat.d).f_Num).f_Limbs)),(aB (((cap0.getD 1 TRat.d).f_Den).f_Neg)),(encL (cU .u16) 0 (((cap0.getD 1 TRat.d).f_Den).f_Limbs))]),(.agg (TRat.cells f.e1))] [] 0 (.agg (TRat.cells rMulRat2)) [],Sound Try.prog 49 [(.agg (TRat.cells rAddRat)),(.agg (TRat.cells rMulRat2))] [] 0 (.agg (TRat.cells rAddRat2)) [],0 < 1] ⟨o1,o1,c2,(by decide),o1,(g_e_MulRat_ok N (⟨((cap0.getD 1 TRat.d).f_Num),((cap0.getD 1 TRat.d).f_Den)⟩:TRat) f.e1 rMulRat2 hr4),(g_e_AddRat_ok N rAddRat rMulRat2 rAddRat2 hr5),o1,trivial⟩ ?_
  refine Runs.sA 1 [.code (C_58 935),.inLoop (C_58 116),.inBlock 0,.code (C_58 15)] ?_
  refine Runs.sR hE ⟨[(1,(.op 0 0 0)),(2,(.op 1 0 0)),(3,(.op 17 0 0)),(4,(.op 49 0 0)),(7,(aI 2))],[(0,vO 1 [(encL TRat.cells TRat.d cap0)]),(1,vO 12 (TS__3_api_Rat.cells f)),(17,vO 4 [(aB false),.nil,(aB false),.nil]),(49,vO 4 (TRat.cells rAddRat2))],609⟩ (C_58 935) [] [] (kp [1,2,3,4,7]) (kq [0,1,17,49]) 609 [] trivial ?_
  refine Runs.sA 2 [.code (C_58 232),.code (C_58 233),.inLoop (C_58 116),.inBlock 0,.code (C_58 15)] ?_
  refine Runs.sR hE ⟨[(1,(.op 0 0 0)),(2,(.op 1 0 0)),(3,(.op 17 0 0)),(4,(.op 49 0 0)),(7,(aI 2)),(8,(aB true))],[(0,vO 1 [(encL TRat.cells TRat.d cap0)]),(1,vO 12 (TS__3_api_Rat.cells f)),(17,vO 4 [(aB false),.nil,(aB false),.nil]),(49,vO 4 (TRat.cells rAddRat2))],625⟩ (C_58 232) [] [] (kp [1,2,3,4,7,8]) (kq [0,1,17,49]) 625 [] trivial ?_
  refine Runs.sA 1 [.code (C_58 466),.code (C_58 467),.inLoop (C_58 116),.inBlock 0,.code (C_58 15)] ?_
  refine Runs.sC 8 (C_58 932) (C_58 933) true (fun _=>?_) (fun hq=>absurd hq (by decide)) 
  refine Runs.sA 4 [.code (C_58 3736),.code (C_58 3737),.inBlock 1,.code (C_58 935),.inLoop (C_58 116),.inBlock 0,.code (C_58 15)] ?_
  refine Runs.sR hE ⟨[(1,(.op 0 0 0)),(2,(.op 1 0 0)),(3,(.op 17 0 0)),(4,(.op 49 0 0)),(5,(aI 2)),(7,(aI 2))],[(0,vO 1 [(encL TRat.cells TRat.d cap0)]),(1,vO 12 (TS__3_api_Rat.cells f)),(17,vO 4 [(aB false),.nil,(aB false),.nil]),(49,vO 4 (TRat.cells rAddRat2))],657⟩ (C_58 3736) [] [] (kp [1,2,3,4,5,7]) (kq [0,1,17,49]) 657 [] trivial ?_
  obtain ⟨c3,h⟩:=ifSome h
  obtain ⟨rMulRat3,hr6,h⟩:=bindSome h
  obtain ⟨rAddRat3,hr7,h⟩:=bindSome h
  refine Runs.sR hE ⟨[(1,(.op 0 0 0)),(2,(.op 1 0 0)),(3,(.op 17 0 0)),(4,(.op 49 0 0)),(7,(aI 2))],[(0,vO 1 [(encL TRat.cells TRat.d cap0)]),(1,vO 12 (TS__3_api_Rat.cells f)),(17,vO 4 [(aB false),.nil,(aB false),.nil]),(49,vO 4 (TRat.cells rAddRat3))],833⟩ (C_58 3737) [(8,⟨[],true,(.agg (TRat.cells rMulRat3)),[],0,false,none⟩),(9,⟨[],true,(.agg (TRat.cells rAddRat3)),[],0,false,none⟩)] [] (kp [1,2,3,4,7]) (kq [0,1,17,49]) 833 [0 < 1,0 < 1,0≤(2:Int)∧2 < ((cap0.length:Nat):Int),0≤(2:Int)∧(2:Int) < 3,0 < 1,Sound Try.prog 50 [(.agg [(aB (((cap0.getD 2 TRat.d).f_Num).f_Neg)),(encL (cU .u16) 0 (((cap0.getD 2 TRat.d).f_Num).f_Limbs)),(aB (((cap0.getD 2 TRat.d).f_Den).f_Neg)),(encL (cU .u16) 0 (((cap0.getD 2 TRat.d).f_Den).f_Limbs))]),(.agg (TRat.cells f.e2))] [] 0 (.agg (TRat.cells rMulRat3)) [],Sound Try.prog 49 [(.agg (TRat.cells rAddRat2)),(.agg (TRat.cells rMulRat3))] [] 0 (.agg (TRat.cells rAddRat3)) [],0 < 1] ⟨o1,o1,c3,(by decide),o1,(g_e_MulRat_ok N (⟨((cap0.getD 2 TRat.d).f_Num),((cap0.getD 2 TRat.d).f_Den)⟩:TRat) f.e2 rMulRat3 hr6),(g_e_AddRat_ok N rAddRat2 rMulRat3 rAddRat3 hr7),o1,trivial⟩ ?_
  refine Runs.sA 1 [.code (C_58 935),.inLoop (C_58 116),.inBlock 0,.code (C_58 15)] ?_
  refine Runs.sR hE ⟨[(1,(.op 0 0 0)),(2,(.op 1 0 0)),(3,(.op 17 0 0)),(4,(.op 49 0 0)),(7,(aI 3))],[(0,vO 1 [(encL TRat.cells TRat.d cap0)]),(1,vO 12 (TS__3_api_Rat.cells f)),(17,vO 4 [(aB false),.nil,(aB false),.nil]),(49,vO 4 (TRat.cells rAddRat3))],865⟩ (C_58 935) [] [] (kp [1,2,3,4,7]) (kq [0,1,17,49]) 865 [] trivial ?_
  refine Runs.sA 2 [.code (C_58 232),.code (C_58 233),.inLoop (C_58 116),.inBlock 0,.code (C_58 15)] ?_
  refine Runs.sR hE ⟨[(1,(.op 0 0 0)),(2,(.op 1 0 0)),(3,(.op 17 0 0)),(4,(.op 49 0 0)),(7,(aI 3)),(8,(aB false))],[(0,vO 1 [(encL TRat.cells TRat.d cap0)]),(1,vO 12 (TS__3_api_Rat.cells f)),(17,vO 4 [(aB false),.nil,(aB false),.nil]),(49,vO 4 (TRat.cells rAddRat3))],881⟩ (C_58 232) [] [] (kp [1,2,3,4,7,8]) (kq [0,1,17,49]) 881 [] trivial ?_
  refine Runs.sA 1 [.code (C_58 466),.code (C_58 467),.inLoop (C_58 116),.inBlock 0,.code (C_58 15)] ?_
  refine Runs.sC 8 (C_58 932) (C_58 933) false (fun hq=>absurd hq (by decide)) (fun _=>?_) 
  refine Runs.sA 2 [.code (C_58 30),.code (C_58 31)] ?_
  refine Runs.sR hE ⟨[(3,(.op 17 0 0))],[(0,vO 1 [(encL TRat.cells TRat.d cap0)]),(17,vO 4 (TRat.cells rAddRat3))],913⟩ (C_58 30) [] [] (kp [3]) (kq [0,17]) 913 [0 < 1,0 < 1] ⟨o1,o1,trivial⟩ ?_
  obtain rfl:=Option.some.inj h
  refine Runs.sW hE ⟨[(3,(.op 17 0 0))],[(0,vO 1 [(encL TRat.cells TRat.d cap0)]),(17,vO 4 (TRat.cells rAddRat3))],913⟩ [] (kp [3]) (kq [0,17]) 913 [] trivial ?_
  exact Runs.sT Try.f51 [17] [0 < 1] ⟨o1,trivial⟩
noncomputable def C_57 (n:Nat):Code:=cat (bodyOf Try.f21) (pth n)
theorem g_berth_proves_J2_ok (N:Nat) (l:List TLine) (proof:List TRat) (x:Int) (K_g_berth_proves_L1:TRat→Int→Option (Bool))
    (hK_g_berth_proves_L1:∀ (sum:TRat) (x:Int) (r:Bool),K_g_berth_proves_L1 sum x = some r→∀ E,EnvOk E 0→Runs Try.prog E 21 39 (SPost E [] (aB r)) [.code (C_57 244),.inLoop (C_57 244),.inBlock 0,.code (C_57 31)] ⟨[(7,(.fn (.func 51) [] [(.op 0 0 0)])),(8,(.op 1 0 0)),(17,(encL TLine.cells TLine.d l)),(18,(aI ((l.length:Nat):Int))),(19,(aI x))],[(0,vO 1 [(encL TRat.cells TRat.d proof)]),(1,vO 4 (TRat.cells sum))],2⟩) (sum2:TRat) (r:Bool) (h:g_berth_proves_J2 N l proof x K_g_berth_proves_L1 sum2 = some r):∀ E,EnvOk E 0→Runs Try.prog E 21 39 (SPost E [] (aB r)) [.code (C_57 1959),.inLoop (C_57 244),.inBlock 0,.code (C_57 31)] ⟨[(7,(.fn (.func 51) [] [(.op 0 0 0)])),(8,(.op 1 0 0)),(17,(encL TLine.cells TLine.d l)),(18,(aI ((l.length:Nat):Int))),(19,(aI x))],[(0,vO 1 [(encL TRat.cells TRat.d proof)]),(1,vO 4 (TRat.cells sum2))],2⟩:=by
  intro E hE
  unfold g_berth_proves_J2 at h
  refine Runs.sR hE ⟨[(7,(.fn (.func 51) [] [(.op 0 0 0)])),(8,(.op 1 0 0)),(17,(encL TLine.cells TLine.d l)),(18,(aI ((l.length:Nat):Int))),(19,(aI (w64 (x+1))))],[(0,vO 1 [(encL TRat.cells TRat.d proof)]),(1,vO 4 (TRat.cells sum2))],34⟩ (C_57 1959) [] [] (kp [7,8,17,18,19]) (kq [0,1]) 34 [] trivial ?_
  refine Runs.sA 1 [.code (C_57 244),.inLoop (C_57 244),.inBlock 0,.code (C_57 31)] ?_
  exact Runs.sW hE _ [] (kp [7,8,17,18,19]) (kq [0,1]) 2 [] trivial (hK_g_berth_proves_L1 sum2 (w64 (x+1)) _ h E hE)
theorem g_berth_proves_L1_ok (N:Nat) (l:List TLine) (proof:List TRat) (fuel:Nat):∀ (sum:TRat) (x:Int) (r:Bool),g_berth_proves_L1 N l proof fuel sum x = some r→∀ E,EnvOk E 0→Runs Try.prog E 21 39 (SPost E [] (aB r)) [.code (C_57 244),.inLoop (C_57 244),.inBlock 0,.code (C_57 31)] ⟨[(7,(.fn (.func 51) [] [(.op 0 0 0)])),(8,(.op 1 0 0)),(17,(encL TLine.cells TLine.d l)),(18,(aI ((l.length:Nat):Int))),(19,(aI x))],[(0,vO 1 [(encL TRat.cells TRat.d proof)]),(1,vO 4 (TRat.cells sum))],2⟩:=by
  induction fuel with
  | zero=>intro _ _ r h; rw [g_berth_proves_L1.eq_1] at h; cases h
  | succ fuel ih =>
    intro sum x r h E hE
    rw [g_berth_proves_L1.eq_2] at h
    refine Runs.sA 1 [.code (C_57 488),.code (C_57 489),.inLoop (C_57 244),.inBlock 0,.code (C_57 31)] ?_
    refine Runs.sR hE ⟨[(7,(.fn (.func 51) [] [(.op 0 0 0)])),(8,(.op 1 0 0)),(17,(encL TLine.cells TLine.d l)),(18,(aI ((l.length:Nat):Int))),(19,(aI x)),(20,(aB (decide (x < ((l.length:Nat):Int)))))],[(0,vO 1 [(encL TRat.cells TRat.d proof)]),(1,vO 4 (TRat.cells sum))],18⟩ (C_57 488) [] [] (kp [7,8,17,18,19,20]) (kq [0,1]) 18 [] trivial ?_
    refine Runs.sA 1 [.code (C_57 978),.code (C_57 979),.inLoop (C_57 244),.inBlock 0,.code (C_57 31)] ?_
    refine Runs.sC 20 (C_57 1956) (C_57 1957) (decide (x < ((l.length:Nat):Int))) (fun hq2=>?_) (fun hq2=>?_)
    · have h:=condT h hq2
      refine Runs.sA 4 [.code (C_57 7832),.code (C_57 7833),.inBlock 1,.code (C_57 1959),.inLoop (C_57 244),.inBlock 0,.code (C_57 31)] ?_
      obtain ⟨c,h⟩:=ifSome h
      refine Runs.sR hE ⟨[(7,(.fn (.func 51) [] [(.op 0 0 0)])),(8,(.op 1 0 0)),(10,(.op 50 0 0)),(17,(encL TLine.cells TLine.d l)),(18,(aI ((l.length:Nat):Int))),(19,(aI x))],[(0,vO 1 [(encL TRat.cells TRat.d proof)]),(1,vO 4 (TRat.cells sum)),(50,vO 6 (TLine.cells (l.getD ((x).toNat) TLine.d)))],82⟩ (C_57 7832) [] [] (kp [7,8,10,17,18,19]) (kq [0,1,50]) 82 [0≤x∧x < ((l.length:Nat):Int),0 < 1] ⟨c,o1,trivial⟩ ?_
      refine Runs.sA 1 [.code (C_57 15666),.code (C_57 15667),.inBlock 1,.code (C_57 1959),.inLoop (C_57 244),.inBlock 0,.code (C_57 31)] ?_
      obtain ⟨rpull,hr3,h⟩:=bindSome h
      obtain ⟨rproves12,hr4,h⟩:=bindSome h
      refine Runs.sR hE ⟨[(7,(.fn (.func 51) [] [(.op 0 0 0)])),(8,(.op 1 0 0)),(11,(.op 146 0 0)),(17,(encL TLine.cells TLine.d l)),(18,(aI ((l.length:Nat):Int))),(19,(aI x))],[(0,vO 1 [(encL TRat.cells TRat.d proof)]),(1,vO 4 (TRat.cells sum)),(146,vO 4 (TRat.cells rproves12))],178⟩ (C_57 15666) [(2,⟨[],true,(.agg (TS__3_api_Rat.cells rpull)),[],0,false,none⟩),(3,⟨[0],true,(.agg (TRat.cells rproves12)),[],0,false,none⟩)] [] (kp [7,8,11,17,18,19]) (kq [0,1,146]) 178 [0 < 1,Sound Try.prog 48 [(.agg (TLine.cells (l.getD ((x).toNat) TLine.d)))] [] 0 (.agg (TS__3_api_Rat.cells rpull)) [],Sound Try.prog 51 [(.agg (TS__3_api_Rat.cells rpull)),(.op 0 0 0)] [(0,vO 1 [(encL TRat.cells TRat.d proof)])] 1 (.agg (TRat.cells rproves12)) [(0,vO 1 [(encL TRat.cells TRat.d proof)])],0 < 1] ⟨o1,(g_berth_pull_ok N (l.getD ((x).toNat) TLine.d) rpull hr3),(g_berth_proves_1_ok N rpull proof rproves12 hr4),o1,trivial⟩ ?_
      refine Runs.sA 1 [.code (C_57 31334),.code (C_57 31335),.inBlock 1,.code (C_57 1959),.inLoop (C_57 244),.inBlock 0,.code (C_57 31)] ?_
      obtain ⟨rCmpRat,hr5,h⟩:=bindSome h
      refine Runs.sR hE ⟨[(7,(.fn (.func 51) [] [(.op 0 0 0)])),(8,(.op 1 0 0)),(11,(.op 146 0 0)),(17,(encL TLine.cells TLine.d l)),(18,(aI ((l.length:Nat):Int))),(19,(aI x)),(30,(aB (decide (rCmpRat > 0))))],[(0,vO 1 [(encL TRat.cells TRat.d proof)]),(1,vO 4 (TRat.cells sum)),(146,vO 4 (TRat.cells rproves12))],242⟩ (C_57 31334) [(2,⟨[],true,(aI rCmpRat),[],0,false,none⟩)] [] (kp [7,8,11,17,18,19,30]) (kq [0,1,146]) 242 [0 < 1,Sound Try.prog 46 [(.agg (TRat.cells rproves12)),(.agg [(aB false),.nil,(aB false),.nil])] [] 0 (aI rCmpRat) []] ⟨o1,(Sound.conv (g_e_CmpRat_ok N rproves12 (⟨(⟨false,([]:List Int)⟩:TInt),(⟨false,([]:List Int)⟩:TInt)⟩:TRat) rCmpRat hr5) (.cons (Alike.refl _) (.cons (Alike.agg (.cons (Alike.refl _) (.cons Alike.nil (.cons (Alike.refl _) (.cons Alike.nil .nil))))) .nil))),trivial⟩ ?_
      refine Runs.sC 30 (C_57 62670) (C_57 62671) (decide (rCmpRat > 0)) (fun hq3=>?_) (fun hq3=>?_)
      · have h:=condT h hq3
        obtain ⟨rAddRat,hr6,h⟩:=bindSome h
        refine Runs.sR hE ⟨[(7,(.fn (.func 51) [] [(.op 0 0 0)])),(8,(.op 1 0 0)),(17,(encL TLine.cells TLine.d l)),(18,(aI ((l.length:Nat):Int))),(19,(aI x))],[(0,vO 1 [(encL TRat.cells TRat.d proof)]),(1,vO 4 (TRat.cells rAddRat))],306⟩ (C_57 62670) [(2,⟨[],true,(.agg (TRat.cells rAddRat)),[],0,false,none⟩)] [] (kp [7,8,17,18,19]) (kq [0,1]) 306 [0 < 1,0 < 1,Sound Try.prog 49 [(.agg (TRat.cells sum)),(.agg (TRat.cells rproves12))] [] 0 (.agg (TRat.cells rAddRat)) [],0 < 1] ⟨o1,o1,(g_e_AddRat_ok N sum rproves12 rAddRat hr6),o1,trivial⟩ ?_
        refine Runs.sA 1 [.code (C_57 1959),.inLoop (C_57 244),.inBlock 0,.code (C_57 31)] ?_
        exact Runs.sW hE _ [] (kp [7,8,17,18,19]) (kq [0,1]) 2 [] trivial (g_berth_proves_J2_ok N l proof x (g_berth_proves_L1 N l proof fuel) ih rAddRat _ h E hE)
      · have h:=condF h hq3
        refine Runs.sA 2 [.code (C_57 1959),.inLoop (C_57 244),.inBlock 0,.code (C_57 31)] ?_
        exact Runs.sW hE _ [] (kp [7,8,17,18,19]) (kq [0,1]) 2 [] trivial (g_berth_proves_J2_ok N l proof x (g_berth_proves_L1 N l proof fuel) ih sum _ h E hE)
    · have h:=condF h hq2
      refine Runs.sA 2 [.code (C_57 62),.code (C_57 63)] ?_
      obtain ⟨rCmpRat2,hr7,h⟩:=bindSome h
      refine Runs.sR hE ⟨[(6,(aB (decide (rCmpRat2 < 0))))],[],98⟩ (C_57 62) [(2,⟨[],true,(aI rCmpRat2),[],0,false,none⟩)] [] (kp [6]) [] 98 [0 < 1,Sound Try.prog 46 [(.agg (TRat.cells sum)),(.agg [(aB false),.nil,(aB false),.nil])] [] 0 (aI rCmpRat2) []] ⟨o1,(Sound.conv (g_e_CmpRat_ok N sum (⟨(⟨false,([]:List Int)⟩:TInt),(⟨false,([]:List Int)⟩:TInt)⟩:TRat) rCmpRat2 hr7) (.cons (Alike.refl _) (.cons (Alike.agg (.cons (Alike.refl _) (.cons Alike.nil (.cons (Alike.refl _) (.cons Alike.nil .nil))))) .nil))),trivial⟩ ?_
      obtain rfl:=Option.some.inj h
      refine Runs.sW hE ⟨[(6,(aB (decide (rCmpRat2 < 0))))],[],98⟩ [] (kp [6]) [] 98 [] trivial ?_
      exact Runs.sT Try.f21 [] [] trivial
theorem g_berth_proves_ok (N:Nat) (l:List TLine) (w:TWind) (proof:List TRat) (r:Bool) (h:g_berth_proves N l w proof = some r):Sound Try.prog 21 [(encL TLine.cells TLine.d l),(.agg (TWind.cells w)),(encL TRat.cells TRat.d proof)] [] 0 (aB r) []:=by
  unfold g_berth_proves at h
  refine Sound.of_runs (fu:=Try.f21) (c:=C_57 1) (nt:=39) (by kernel_rfl) (by kernel_rfl) (by kernel_rfl) (by kernel_rfl) (fun hm=>rfl) ?_
  intro E hE
  refine Runs.sA 1 [.code (C_57 2),.code (C_57 3)] ?_
  refine Runs.sR hE ⟨[(0,(encL TLine.cells TLine.d l)),(4,(.op 0 0 0)),(5,(.op 16 0 0))],[(0,vO 3 (TWind.cells w)),(16,vO 1 [(encL TRat.cells TRat.d proof)])],48⟩ (C_57 2) [] [] (kp [0,4,5]) (kq [0,16]) 48 [] trivial ?_
  refine Runs.sA 1 [.code (C_57 6),.code (C_57 7)] ?_
  refine Runs.sR hE ⟨[(0,(encL TLine.cells TLine.d l)),(4,(.op 0 0 0)),(7,(.fn (.func 51) [] [(.op 16 0 0)]))],[(0,vO 3 (TWind.cells w)),(16,vO 1 [(encL TRat.cells TRat.d proof)])],80⟩ (C_57 6) [] [] (kp [0,4,7]) (kq [0,16]) 80 [] trivial ?_
  refine Runs.sA 1 [.code (C_57 14),.code (C_57 15)] ?_
  obtain ⟨rblows,hr,h⟩:=bindSome h
  obtain ⟨rproves1,hr2,h⟩:=bindSome h
  refine Runs.sR hE ⟨[(0,(encL TLine.cells TLine.d l)),(7,(.fn (.func 51) [] [(.op 16 0 0)])),(8,(.op 144 0 0))],[(16,vO 1 [(encL TRat.cells TRat.d proof)]),(144,vO 4 (TRat.cells rproves1))],176⟩ (C_57 14) [(2,⟨[],true,(.agg (TS__3_api_Rat.cells rblows)),[],0,false,none⟩),(3,⟨[16],true,(.agg (TRat.cells rproves1)),[],0,false,none⟩)] [] (kp [0,7,8]) (kq [16,144]) 176 [0 < 1,Sound Try.prog 45 [(.agg (TWind.cells w))] [] 0 (.agg (TS__3_api_Rat.cells rblows)) [],Sound Try.prog 51 [(.agg (TS__3_api_Rat.cells rblows)),(.op 0 0 0)] [(0,vO 1 [(encL TRat.cells TRat.d proof)])] 1 (.agg (TRat.cells rproves1)) [(0,vO 1 [(encL TRat.cells TRat.d proof)])],0 < 1] ⟨o1,(g_berth_blows_ok N w rblows hr),(g_berth_proves_1_ok N rblows proof rproves1 hr2),o1,trivial⟩ ?_
  refine Runs.sA 2 [.code (C_57 60),.code (C_57 61),.code (C_57 31)] ?_
  refine Runs.sR hE ⟨[(7,(.fn (.func 51) [] [(.op 16 0 0)])),(8,(.op 144 0 0)),(17,(encL TLine.cells TLine.d l)),(18,(aI ((l.length:Nat):Int))),(19,(aI 0))],[(16,vO 1 [(encL TRat.cells TRat.d proof)]),(144,vO 4 (TRat.cells rproves1))],224⟩ (C_57 60) [] [] (kp [7,8,17,18,19]) (kq [16,144]) 224 [] trivial ?_
  refine Runs.sA 2 [.code (C_57 244),.inLoop (C_57 244),.inBlock 0,.code (C_57 31)] ?_
  exact Runs.sW hE _ [] (kp [7,8,17,18,19]) [(0,.keep 16),(1,.keep 144)] 2 [] trivial (g_berth_proves_L1_ok N l proof N rproves1 0 _ h E hE)
noncomputable def C_17 (n:Nat):Code:=cat (bodyOf Try.f8) (pth n)
theorem g_berth_CheckMooring_ok (N:Nat) (l:List TLine) (w:TWind) (m:TMooring) (r:Int) (h:g_berth_CheckMooring N l w m = some r):Sound Try.prog 8 [(encL TLine.cells TLine.d l),(.agg (TWind.cells w)),(.agg (TMooring.cells m))] [] 0 (aI r) []:=by
  unfold g_berth_CheckMooring at h
  refine Sound.of_runs (fu:=Try.f8) (c:=C_17 1) (nt:=63) (by kernel_rfl) (by kernel_rfl) (by kernel_rfl) (by kernel_rfl) (fun hm=>rfl) ?_
  intro E hE
  refine Runs.sA 1 [.code (C_17 2),.code (C_17 3)] ?_
  refine Runs.sR hE ⟨[(0,(encL TLine.cells TLine.d l)),(4,(.op 0 0 0)),(5,(.op 16 0 0))],[(0,vO 3 (TWind.cells w)),(16,vO 3 (TMooring.cells m))],48⟩ (C_17 2) [] [] (kp [0,4,5]) (kq [0,16]) 48 [] trivial ?_
  refine Runs.sA 2 [.code (C_17 12),.code (C_17 13),.code (C_17 7)] ?_
  obtain ⟨rCheckLines,hr,h⟩:=bindSome h
  refine Runs.sR hE ⟨[(0,(encL TLine.cells TLine.d l)),(4,(.op 0 0 0)),(5,(.op 16 0 0)),(7,(aI rCheckLines))],[(0,vO 3 (TWind.cells w)),(16,vO 3 (TMooring.cells m))],96⟩ (C_17 12) [(1,⟨[],true,(aI rCheckLines),[],0,false,none⟩)] [] (kp [0,4,5,7]) (kq [0,16]) 96 [Sound Try.prog 18 [(encL TLine.cells TLine.d l)] [] 0 (aI rCheckLines) []] ⟨(g_berth_CheckLines_ok N l rCheckLines hr),trivial⟩ ?_
  refine Runs.sA 1 [.code (C_17 26),.code (C_17 27),.code (C_17 7)] ?_
  refine Runs.sR hE ⟨[(0,(encL TLine.cells TLine.d l)),(4,(.op 0 0 0)),(5,(.op 16 0 0)),(7,(aI rCheckLines)),(12,(aB (rCheckLines != 0)))],[(0,vO 3 (TWind.cells w)),(16,vO 3 (TMooring.cells m))],128⟩ (C_17 26) [] [] (kp [0,4,5,7,12]) (kq [0,16]) 128 [] trivial ?_
  refine Runs.sC 12 (C_17 54) (C_17 55) (rCheckLines != 0) (fun hq2=>?_) (fun hq2=>?_)
  · have h:=condT h hq2
    refine Runs.sA 1 [.code (C_17 108),.code (C_17 109),.code (C_17 7)] ?_
    refine Runs.sR hE ⟨[(6,(aI rCheckLines))],[],160⟩ (C_17 108) [] [] (kp [6]) [] 160 [] trivial ?_
    obtain rfl:=Option.some.inj h
    refine Runs.sW hE ⟨[(6,(aI rCheckLines))],[],160⟩ [] (kp [6]) [] 160 [] trivial ?_
    exact Runs.sT Try.f8 [] [] trivial
  · have h:=condF h hq2
    refine Runs.sA 3 [.code (C_17 28),.code (C_17 29),.code (C_17 15)] ?_
    obtain ⟨rcheckWind,hr2,h⟩:=bindSome h
    refine Runs.sR hE ⟨[(0,(encL TLine.cells TLine.d l)),(4,(.op 0 0 0)),(5,(.op 16 0 0)),(8,(aI rcheckWind))],[(0,vO 3 (TWind.cells w)),(16,vO 3 (TMooring.cells m))],176⟩ (C_17 28) [(1,⟨[],true,(aI rcheckWind),[],0,false,none⟩)] [] (kp [0,4,5,8]) (kq [0,16]) 176 [0 < 1,Sound Try.prog 19 [(.agg (TWind.cells w))] [] 0 (aI rcheckWind) []] ⟨o1,(g_berth_checkWind_ok N w rcheckWind hr2),trivial⟩ ?_
    refine Runs.sA 1 [.code (C_17 58),.code (C_17 59),.code (C_17 15)] ?_
    refine Runs.sR hE ⟨[(0,(encL TLine.cells TLine.d l)),(4,(.op 0 0 0)),(5,(.op 16 0 0)),(8,(aI rcheckWind)),(17,(aB (rcheckWind != 0)))],[(0,vO 3 (TWind.cells w)),(16,vO 3 (TMooring.cells m))],208⟩ (C_17 58) [] [] (kp [0,4,5,8,17]) (kq [0,16]) 208 [] trivial ?_
    refine Runs.sC 17 (C_17 118) (C_17 119) (rcheckWind != 0) (fun hq3=>?_) (fun hq3=>?_)
    · have h:=condT h hq3
      refine Runs.sA 1 [.code (C_17 236),.code (C_17 237),.code (C_17 15)] ?_
      refine Runs.sR hE ⟨[(6,(aI rcheckWind))],[],240⟩ (C_17 236) [] [] (kp [6]) [] 240 [] trivial ?_
      obtain rfl:=Option.some.inj h
      refine Runs.sW hE ⟨[(6,(aI rcheckWind))],[],240⟩ [] (kp [6]) [] 240 [] trivial ?_
      exact Runs.sT Try.f8 [] [] trivial
    · have h:=condF h hq3
      refine Runs.sA 3 [.code (C_17 60),.code (C_17 61),.code (C_17 31)] ?_
      refine Runs.sR hE ⟨[(0,(encL TLine.cells TLine.d l)),(4,(.op 0 0 0)),(5,(.op 16 0 0)),(39,(aB (cond (cond m.f_Holds (((m.f_Parts.length:Nat):Int) != ((l.length:Nat):Int)) false) true (cond (!m.f_Holds) (((m.f_Proof.length:Nat):Int) != 3) false))))],[(0,vO 3 (TWind.cells w)),(16,vO 3 (TMooring.cells m))],544⟩ (C_17 60) [] [] (kp [0,4,5,39]) (kq [0,16]) 544 [0 < 1,m.f_Holds = true→AllP [m.f_Holds = true,0 < 1],m.f_Holds = true→AllP [m.f_Holds = true],m.f_Holds = true→AllP [m.f_Holds = true],m.f_Holds = true→AllP [m.f_Holds = true,m.f_Holds = true],m.f_Holds = true→AllP [m.f_Holds = true],(!(cond m.f_Holds (((m.f_Parts.length:Nat):Int) != ((l.length:Nat):Int)) false)) = true→AllP [(!(cond m.f_Holds (((m.f_Parts.length:Nat):Int) != ((l.length:Nat):Int)) false)) = true,0 < 1],(!(cond m.f_Holds (((m.f_Parts.length:Nat):Int) != ((l.length:Nat):Int)) false)) = true→AllP [(!(cond m.f_Holds (((m.f_Parts.length:Nat):Int) != ((l.length:Nat):Int)) false)) = true],((!(cond m.f_Holds (((m.f_Parts.length:Nat):Int) != ((l.length:Nat):Int)) false)) && ((!(cond m.f_Holds (((m.f_Parts.length:Nat):Int) != ((l.length:Nat):Int)) false)) && (!m.f_Holds))) = true→AllP [((!(cond m.f_Holds (((m.f_Parts.length:Nat):Int) != ((l.length:Nat):Int)) false)) && ((!(cond m.f_Holds (((m.f_Parts.length:Nat):Int) != ((l.length:Nat):Int)) false)) && (!m.f_Holds))) = true,0 < 1],((!(cond m.f_Holds (((m.f_Parts.length:Nat):Int) != ((l.length:Nat):Int)) false)) && ((!(cond m.f_Holds (((m.f_Parts.length:Nat):Int) != ((l.length:Nat):Int)) false)) && (!m.f_Holds))) = true→AllP [((!(cond m.f_Holds (((m.f_Parts.length:Nat):Int) != ((l.length:Nat):Int)) false)) && ((!(cond m.f_Holds (((m.f_Parts.length:Nat):Int) != ((l.length:Nat):Int)) false)) && (!m.f_Holds))) = true],((!(cond m.f_Holds (((m.f_Parts.length:Nat):Int) != ((l.length:Nat):Int)) false)) && ((!(cond m.f_Holds (((m.f_Parts.length:Nat):Int) != ((l.length:Nat):Int)) false)) && (!m.f_Holds))) = true→AllP [((!(cond m.f_Holds (((m.f_Parts.length:Nat):Int) != ((l.length:Nat):Int)) false)) && ((!(cond m.f_Holds (((m.f_Parts.length:Nat):Int) != ((l.length:Nat):Int)) false)) && (!m.f_Holds))) = true],(!(cond m.f_Holds (((m.f_Parts.length:Nat):Int) != ((l.length:Nat):Int)) false)) = true→AllP [(!(cond m.f_Holds (((m.f_Parts.length:Nat):Int) != ((l.length:Nat):Int)) false)) = true,(!(cond m.f_Holds (((m.f_Parts.length:Nat):Int) != ((l.length:Nat):Int)) false)) = true,(!m.f_Holds) = true→AllP [((!(cond m.f_Holds (((m.f_Parts.length:Nat):Int) != ((l.length:Nat):Int)) false)) && ((!(cond m.f_Holds (((m.f_Parts.length:Nat):Int) != ((l.length:Nat):Int)) false)) && (!m.f_Holds))) = true]],(!(cond m.f_Holds (((m.f_Parts.length:Nat):Int) != ((l.length:Nat):Int)) false)) = true→AllP [(!(cond m.f_Holds (((m.f_Parts.length:Nat):Int) != ((l.length:Nat):Int)) false)) = true]] ⟨o1,(fun hg=>⟨hg,o1,trivial⟩),(fun hg=>⟨hg,trivial⟩),(fun hg=>⟨hg,trivial⟩),(fun hg=>⟨hg,hg,trivial⟩),(fun hq=>⟨hq,trivial⟩),(fun hg=>⟨hg,o1,trivial⟩),(fun hg=>⟨hg,trivial⟩),(fun hg=>⟨hg,o1,trivial⟩),(fun hg=>⟨hg,trivial⟩),(fun hg=>⟨hg,trivial⟩),(fun hg=>⟨hg,hg,(fun hq=>⟨(andI' hg (andI' hg hq)),trivial⟩),trivial⟩),(fun hq=>⟨hq,trivial⟩),trivial⟩ ?_
      refine Runs.sC 39 (C_17 122) (C_17 123) (cond (cond m.f_Holds (((m.f_Parts.length:Nat):Int) != ((l.length:Nat):Int)) false) true (cond (!m.f_Holds) (((m.f_Proof.length:Nat):Int) != 3) false)) (fun hq4=>?_) (fun hq4=>?_)
      · have h:=condT h hq4
        refine Runs.sA 1 [.code (C_17 244),.code (C_17 245),.code (C_17 31)] ?_
        refine Runs.sR hE ⟨[(6,(aI 11))],[],560⟩ (C_17 244) [] [] (kp [6]) [] 560 [] trivial ?_
        obtain rfl:=Option.some.inj h
        refine Runs.sW hE ⟨[(6,(aI 11))],[],560⟩ [] (kp [6]) [] 560 [] trivial ?_
        exact Runs.sT Try.f8 [] [] trivial
      · have h:=condF h hq4
        refine Runs.sA 3 [.code (C_17 124),.code (C_17 125),.code (C_17 63)] ?_
        obtain ⟨rholds,hr3,h⟩:=bindSome h
        obtain ⟨rproves,hr4,h⟩:=bindSome h
        refine Runs.sR hE ⟨[(62,(aB (cond (cond m.f_Holds (!rholds) false) true (cond (!m.f_Holds) (!rproves) false))))],[],912⟩ (C_17 124) [(7,⟨[],true,(aB rholds),[],0,false,none⟩),(19,⟨[],true,(aB rproves),[],0,false,none⟩)] [] (kp [62]) [] 912 [0 < 1,m.f_Holds = true→AllP [0 < 1],m.f_Holds = true→AllP [m.f_Holds = true,0 < 1],m.f_Holds = true→AllP [Sound Try.prog 20 [(encL TLine.cells TLine.d l),(.agg (TWind.cells w)),(encL TRat.cells TRat.d m.f_Parts)] [] 0 (aB rholds) [],m.f_Holds = true,m.f_Holds = true,m.f_Holds = true],m.f_Holds = true→AllP [m.f_Holds = true],m.f_Holds = true→AllP [m.f_Holds = true],(!(cond m.f_Holds (!rholds) false)) = true→AllP [(!(cond m.f_Holds (!rholds) false)) = true,0 < 1],(!(cond m.f_Holds (!rholds) false)) = true→AllP [(!(cond m.f_Holds (!rholds) false)) = true],((!(cond m.f_Holds (!rholds) false)) && ((!(cond m.f_Holds (!rholds) false)) && (!m.f_Holds))) = true→AllP [0 < 1],((!(cond m.f_Holds (!rholds) false)) && ((!(cond m.f_Holds (!rholds) false)) && (!m.f_Holds))) = true→AllP [((!(cond m.f_Holds (!rholds) false)) && ((!(cond m.f_Holds (!rholds) false)) && (!m.f_Holds))) = true,0 < 1],((!(cond m.f_Holds (!rholds) false)) && ((!(cond m.f_Holds (!rholds) false)) && (!m.f_Holds))) = true→AllP [Sound Try.prog 21 [(encL TLine.cells TLine.d l),(.agg (TWind.cells w)),(encL TRat.cells TRat.d m.f_Proof)] [] 0 (aB rproves) [],((!(cond m.f_Holds (!rholds) false)) && ((!(cond m.f_Holds (!rholds) false)) && (!m.f_Holds))) = true,((!(cond m.f_Holds (!rholds) false)) && ((!(cond m.f_Holds (!rholds) false)) && (!m.f_Holds))) = true,((!(cond m.f_Holds (!rholds) false)) && ((!(cond m.f_Holds (!rholds) false)) && (!m.f_Holds))) = true],((!(cond m.f_Holds (!rholds) false)) && ((!(cond m.f_Holds (!rholds) false)) && (!m.f_Holds))) = true→AllP [((!(cond m.f_Holds (!rholds) false)) && ((!(cond m.f_Holds (!rholds) false)) && (!m.f_Holds))) = true],(!(cond m.f_Holds (!rholds) false)) = true→AllP [(!(cond m.f_Holds (!rholds) false)) = true,(!(cond m.f_Holds (!rholds) false)) = true,(!m.f_Holds) = true→AllP [((!(cond m.f_Holds (!rholds) false)) && ((!(cond m.f_Holds (!rholds) false)) && (!m.f_Holds))) = true]],(!(cond m.f_Holds (!rholds) false)) = true→AllP [(!(cond m.f_Holds (!rholds) false)) = true]] ⟨o1,(fun hg=>⟨o1,trivial⟩),(fun hg=>⟨hg,o1,trivial⟩),(fun hg=>⟨(g_berth_holds_ok N l w m.f_Parts rholds (condT hr3 hg)),hg,hg,hg,trivial⟩),(fun hg=>⟨hg,trivial⟩),(fun hq=>⟨hq,trivial⟩),(fun hg=>⟨hg,o1,trivial⟩),(fun hg=>⟨hg,trivial⟩),(fun hg=>⟨o1,trivial⟩),(fun hg=>⟨hg,o1,trivial⟩),(fun hg=>⟨(g_berth_proves_ok N l w m.f_Proof rproves (condT hr4 hg)),hg,hg,hg,trivial⟩),(fun hg=>⟨hg,trivial⟩),(fun hg=>⟨hg,hg,(fun hq=>⟨(andI' hg (andI' hg hq)),trivial⟩),trivial⟩),(fun hq=>⟨hq,trivial⟩),trivial⟩ ?_
        refine Runs.sC 62 (C_17 250) (C_17 251) (cond (cond m.f_Holds (!rholds) false) true (cond (!m.f_Holds) (!rproves) false)) (fun hq5=>?_) (fun hq5=>?_)
        · have h:=condT h hq5
          refine Runs.sA 1 [.code (C_17 500),.code (C_17 501),.code (C_17 63)] ?_
          refine Runs.sR hE ⟨[(6,(aI 24))],[],928⟩ (C_17 500) [] [] (kp [6]) [] 928 [] trivial ?_
          obtain rfl:=Option.some.inj h
          refine Runs.sW hE ⟨[(6,(aI 24))],[],928⟩ [] (kp [6]) [] 928 [] trivial ?_
          exact Runs.sT Try.f8 [] [] trivial
        · have h:=condF h hq5
          refine Runs.sA 2 [.code (C_17 126),.code (C_17 127)] ?_
          refine Runs.sR hE ⟨[(6,(aI 0))],[],928⟩ (C_17 126) [] [] (kp [6]) [] 928 [] trivial ?_
          obtain rfl:=Option.some.inj h
          refine Runs.sW hE ⟨[(6,(aI 0))],[],928⟩ [] (kp [6]) [] 928 [] trivial ?_
          exact Runs.sT Try.f8 [] [] trivial
noncomputable def C_61 (n:Nat):Code:=cat (bodyOf Try.f31) (pth n)
theorem g_b_IsName_L1_ok (N:Nat) (s:ByteArray) (fuel:Nat):∀ (i:Int) (r:Bool),g_b_IsName_L1 N s fuel i = some r→∀ E,EnvOk E 0→Runs Try.prog E 31 55 (SPost E [] (aB r)) [.code (C_61 116),.inLoop (C_61 116),.inBlock 0,.code (C_61 15)] ⟨[(0,(aS s)),(3,(aI i))],[],0⟩:=by
  induction fuel with
  | zero=>intro _ r h; rw [g_b_IsName_L1.eq_1] at h; cases h
  | succ fuel ih =>
    intro i r h E hE
    rw [g_b_IsName_L1.eq_2] at h
    refine Runs.sA 2 [.code (C_61 464),.code (C_61 465),.code (C_61 233),.inLoop (C_61 116),.inBlock 0,.code (C_61 15)] ?_
    refine Runs.sR hE ⟨[(0,(aS s)),(3,(aI i)),(17,(aB (decide (i < ((s.size:Nat):Int)))))],[],64⟩ (C_61 464) [] [] (kp [0,3,17]) [] 64 [] trivial ?_
    refine Runs.sC 17 (C_61 930) (C_61 931) (decide (i < ((s.size:Nat):Int))) (fun hq3=>?_) (fun hq3=>?_)
    · have h:=condT h hq3
      refine Runs.sA 4 [.code (C_61 1864),.code (C_61 1865),.inBlock 1,.code (C_61 467),.inLoop (C_61 116),.inBlock 0,.code (C_61 15)] ?_
      obtain ⟨c,h⟩:=ifSome h
      refine Runs.sR hE ⟨[(0,(aS s)),(3,(aI i)),(4,(.atom (.int .u8 (byteAt s ((i).toNat)))))],[],128⟩ (C_61 1864) [] [] (kp [0,3,4]) [] 128 [0≤i∧i < ((s.size:Nat):Int)] ⟨c,trivial⟩ ?_
      refine Runs.sA 1 [.code (C_61 3730),.code (C_61 3731),.inBlock 1,.code (C_61 467),.inLoop (C_61 116),.inBlock 0,.code (C_61 15)] ?_
      refine Runs.sR hE ⟨[(0,(aS s)),(3,(aI i)),(4,(.atom (.int .u8 (byteAt s ((i).toNat))))),(5,(aB (cond (cond (decide ((byteAt s ((i).toNat)) ≥ 97)) (decide ((byteAt s ((i).toNat))≤122)) false) true (cond (decide ((byteAt s ((i).toNat)) ≥ 65)) (decide ((byteAt s ((i).toNat))≤90)) false))))],[],368⟩ (C_61 3730) [] [] (kp [0,3,4,5]) [] 368 [(decide ((byteAt s ((i).toNat)) ≥ 97)) = true→AllP [(decide ((byteAt s ((i).toNat)) ≥ 97)) = true],(decide ((byteAt s ((i).toNat)) ≥ 97)) = true→AllP [(decide ((byteAt s ((i).toNat)) ≥ 97)) = true],(!(cond (decide ((byteAt s ((i).toNat)) ≥ 97)) (decide ((byteAt s ((i).toNat))≤122)) false)) = true→AllP [(!(cond (decide ((byteAt s ((i).toNat)) ≥ 97)) (decide ((byteAt s ((i).toNat))≤122)) false)) = true],((!(cond (decide ((byteAt s ((i).toNat)) ≥ 97)) (decide ((byteAt s ((i).toNat))≤122)) false)) && ((!(cond (decide ((byteAt s ((i).toNat)) ≥ 97)) (decide ((byteAt s ((i).toNat))≤122)) false)) && (decide ((byteAt s ((i).toNat)) ≥ 65)))) = true→AllP [((!(cond (decide ((byteAt s ((i).toNat)) ≥ 97)) (decide ((byteAt s ((i).toNat))≤122)) false)) && ((!(cond (decide ((byteAt s ((i).toNat)) ≥ 97)) (decide ((byteAt s ((i).toNat))≤122)) false)) && (decide ((byteAt s ((i).toNat)) ≥ 65)))) = true],(!(cond (decide ((byteAt s ((i).toNat)) ≥ 97)) (decide ((byteAt s ((i).toNat))≤122)) false)) = true→AllP [(!(cond (decide ((byteAt s ((i).toNat)) ≥ 97)) (decide ((byteAt s ((i).toNat))≤122)) false)) = true,(!(cond (decide ((byteAt s ((i).toNat)) ≥ 97)) (decide ((byteAt s ((i).toNat))≤122)) false)) = true,(decide ((byteAt s ((i).toNat)) ≥ 65)) = true→AllP [((!(cond (decide ((byteAt s ((i).toNat)) ≥ 97)) (decide ((byteAt s ((i).toNat))≤122)) false)) && ((!(cond (decide ((byteAt s ((i).toNat)) ≥ 97)) (decide ((byteAt s ((i).toNat))≤122)) false)) && (decide ((byteAt s ((i).toNat)) ≥ 65)))) = true]],(!(cond (decide ((byteAt s ((i).toNat)) ≥ 97)) (decide ((byteAt s ((i).toNat))≤122)) false)) = true→AllP [(!(cond (decide ((byteAt s ((i).toNat)) ≥ 97)) (decide ((byteAt s ((i).toNat))≤122)) false)) = true]] ⟨(fun hg=>⟨hg,trivial⟩),(fun hq=>⟨hq,trivial⟩),(fun hg=>⟨hg,trivial⟩),(fun hg=>⟨hg,trivial⟩),(fun hg=>⟨hg,hg,(fun hq=>⟨(andI' hg (andI' hg hq)),trivial⟩),trivial⟩),(fun hq=>⟨hq,trivial⟩),trivial⟩ ?_
      refine Runs.sA 1 [.code (C_61 7462),.code (C_61 7463),.inBlock 1,.code (C_61 467),.inLoop (C_61 116),.inBlock 0,.code (C_61 15)] ?_
      refine Runs.sR hE ⟨[(0,(aS s)),(3,(aI i)),(54,(aB (cond (!(cond (cond (decide ((byteAt s ((i).toNat)) ≥ 97)) (decide ((byteAt s ((i).toNat))≤122)) false) true (cond (decide ((byteAt s ((i).toNat)) ≥ 65)) (decide ((byteAt s ((i).toNat))≤90)) false))) (cond (i == 0) true (cond ((byteAt s ((i).toNat)) != 45) (cond (decide ((byteAt s ((i).toNat)) < 48)) true (decide ((byteAt s ((i).toNat)) > 57))) false)) false)))],[],656⟩ (C_61 7462) [] [] (kp [0,3,54]) [] 656 [(!(cond (cond (decide ((byteAt s ((i).toNat)) ≥ 97)) (decide ((byteAt s ((i).toNat))≤122)) false) true (cond (decide ((byteAt s ((i).toNat)) ≥ 65)) (decide ((byteAt s ((i).toNat))≤90)) false))) = true→AllP [(!(cond (cond (decide ((byteAt s ((i).toNat)) ≥ 97)) (decide ((byteAt s ((i).toNat))≤122)) false) true (cond (decide ((byteAt s ((i).toNat)) ≥ 65)) (decide ((byteAt s ((i).toNat))≤90)) false))) = true],((!(cond (cond (decide ((byteAt s ((i).toNat)) ≥ 97)) (decide ((byteAt s ((i).toNat))≤122)) false) true (cond (decide ((byteAt s ((i).toNat)) ≥ 65)) (decide ((byteAt s ((i).toNat))≤90)) false))) && ((!(cond (cond (decide ((byteAt s ((i).toNat)) ≥ 97)) (decide ((byteAt s ((i).toNat))≤122)) false) true (cond (decide ((byteAt s ((i).toNat)) ≥ 65)) (decide ((byteAt s ((i).toNat))≤90)) false))) && (!(i == 0)))) = true→AllP [((!(cond (cond (decide ((byteAt s ((i).toNat)) ≥ 97)) (decide ((byteAt s ((i).toNat))≤122)) false) true (cond (decide ((byteAt s ((i).toNat)) ≥ 65)) (decide ((byteAt s ((i).toNat))≤90)) false))) && ((!(cond (cond (decide ((byteAt s ((i).toNat)) ≥ 97)) (decide ((byteAt s ((i).toNat))≤122)) false) true (cond (decide ((byteAt s ((i).toNat)) ≥ 65)) (decide ((byteAt s ((i).toNat))≤90)) false))) && (!(i == 0)))) = true],(((!(cond (cond (decide ((byteAt s ((i).toNat)) ≥ 97)) (decide ((byteAt s ((i).toNat))≤122)) false) true (cond (decide ((byteAt s ((i).toNat)) ≥ 65)) (decide ((byteAt s ((i).toNat))≤90)) false))) && ((!(cond (cond (decide ((byteAt s ((i).toNat)) ≥ 97)) (decide ((byteAt s ((i).toNat))≤122)) false) true (cond (decide ((byteAt s ((i).toNat)) ≥ 65)) (decide ((byteAt s ((i).toNat))≤90)) false))) && (!(i == 0)))) && (((!(cond (cond (decide ((byteAt s ((i).toNat)) ≥ 97)) (decide ((byteAt s ((i).toNat))≤122)) false) true (cond (decide ((byteAt s ((i).toNat)) ≥ 65)) (decide ((byteAt s ((i).toNat))≤90)) false))) && ((!(cond (cond (decide ((byteAt s ((i).toNat)) ≥ 97)) (decide ((byteAt s ((i).toNat))≤122)) false) true (cond (decide ((byteAt s ((i).toNat)) ≥ 65)) (decide ((byteAt s ((i).toNat))≤90)) false))) && (!(i == 0)))) && ((byteAt s ((i).toNat)) != 45))) = true→AllP [(((!(cond (cond (decide ((byteAt s ((i).toNat)) ≥ 97)) (decide ((byteAt s ((i).toNat))≤122)) false) true (cond (decide ((byteAt s ((i).toNat)) ≥ 65)) (decide ((byteAt s ((i).toNat))≤90)) false))) && ((!(cond (cond (decide ((byteAt s ((i).toNat)) ≥ 97)) (decide ((byteAt s ((i).toNat))≤122)) false) true (cond (decide ((byteAt s ((i).toNat)) ≥ 65)) (decide ((byteAt s ((i).toNat))≤90)) false))) && (!(i == 0)))) && (((!(cond (cond (decide ((byteAt s ((i).toNat)) ≥ 97)) (decide ((byteAt s ((i).toNat))≤122)) false) true (cond (decide ((byteAt s ((i).toNat)) ≥ 65)) (decide ((byteAt s ((i).toNat))≤90)) false))) && ((!(cond (cond (decide ((byteAt s ((i).toNat)) ≥ 97)) (decide ((byteAt s ((i).toNat))≤122)) false) true (cond (decide ((byteAt s ((i).toNat)) ≥ 65)) (decide ((byteAt s ((i).toNat))≤90)) false))) && (!(i == 0)))) && ((byteAt s ((i).toNat)) != 45))) = true],((((!(cond (cond (decide ((byteAt s ((i).toNat)) ≥ 97)) (decide ((byteAt s ((i).toNat))≤122)) false) true (cond (decide ((byteAt s ((i).toNat)) ≥ 65)) (decide ((byteAt s ((i).toNat))≤90)) false))) && ((!(cond (cond (decide ((byteAt s ((i).toNat)) ≥ 97)) (decide ((byteAt s ((i).toNat))≤122)) false) true (cond (decide ((byteAt s ((i).toNat)) ≥ 65)) (decide ((byteAt s ((i).toNat))≤90)) false))) && (!(i == 0)))) && (((!(cond (cond (decide ((byteAt s ((i).toNat)) ≥ 97)) (decide ((byteAt s ((i).toNat))≤122)) false) true (cond (decide ((byteAt s ((i).toNat)) ≥ 65)) (decide ((byteAt s ((i).toNat))≤90)) false))) && ((!(cond (cond (decide ((byteAt s ((i).toNat)) ≥ 97)) (decide ((byteAt s ((i).toNat))≤122)) false) true (cond (decide ((byteAt s ((i).toNat)) ≥ 65)) (decide ((byteAt s ((i).toNat))≤90)) false))) && (!(i == 0)))) && ((byteAt s ((i).toNat)) != 45))) && ((((!(cond (cond (decide ((byteAt s ((i).toNat)) ≥ 97)) (decide ((byteAt s ((i).toNat))≤122)) false) true (cond (decide ((byteAt s ((i).toNat)) ≥ 65)) (decide ((byteAt s ((i).toNat))≤90)) false))) && ((!(cond (cond (decide ((byteAt s ((i).toNat)) ≥ 97)) (decide ((byteAt s ((i).toNat))≤122)) false) true (cond (decide ((byteAt s ((i).toNat)) ≥ 65)) (decide ((byteAt s ((i).toNat))≤90)) false))) && (!(i == 0)))) && (((!(cond (cond (decide ((byteAt s ((i).toNat)) ≥ 97)) (decide ((byteAt s ((i).toNat))≤122)) false) true (cond (decide ((byteAt s ((i).toNat)) ≥ 65)) (decide ((byteAt s ((i).toNat))≤90)) false))) && ((!(cond (cond (decide ((byteAt s ((i).toNat)) ≥ 97)) (decide ((byteAt s ((i).toNat))≤122)) false) true (cond (decide ((byteAt s ((i).toNat)) ≥ 65)) (decide ((byteAt s ((i).toNat))≤90)) false))) && (!(i == 0)))) && ((byteAt s ((i).toNat)) != 45))) && (!(decide ((byteAt s ((i).toNat)) < 48))))) = true→AllP [((((!(cond (cond (decide ((byteAt s ((i).toNat)) ≥ 97)) (decide ((byteAt s ((i).toNat))≤122)) false) true (cond (decide ((byteAt s ((i).toNat)) ≥ 65)) (decide ((byteAt s ((i).toNat))≤90)) false))) && ((!(cond (cond (decide ((byteAt s ((i).toNat)) ≥ 97)) (decide ((byteAt s ((i).toNat))≤122)) false) true (cond (decide ((byteAt s ((i).toNat)) ≥ 65)) (decide ((byteAt s ((i).toNat))≤90)) false))) && (!(i == 0)))) && (((!(cond (cond (decide ((byteAt s ((i).toNat)) ≥ 97)) (decide ((byteAt s ((i).toNat))≤122)) false) true (cond (decide ((byteAt s ((i).toNat)) ≥ 65)) (decide ((byteAt s ((i).toNat))≤90)) false))) && ((!(cond (cond (decide ((byteAt s ((i).toNat)) ≥ 97)) (decide ((byteAt s ((i).toNat))≤122)) false) true (cond (decide ((byteAt s ((i).toNat)) ≥ 65)) (decide ((byteAt s ((i).toNat))≤90)) false))) && (!(i == 0)))) && ((byteAt s ((i).toNat)) != 45))) && ((((!(cond (cond (decide ((byteAt s ((i).toNat)) ≥ 97)) (decide ((byteAt s ((i).toNat))≤122)) false) true (cond (decide ((byteAt s ((i).toNat)) ≥ 65)) (decide ((byteAt s ((i).toNat))≤90)) false))) && ((!(cond (cond (decide ((byteAt s ((i).toNat)) ≥ 97)) (decide ((byteAt s ((i).toNat))≤122)) false) true (cond (decide ((byteAt s ((i).toNat)) ≥ 65)) (decide ((byteAt s ((i).toNat))≤90)) false))) && (!(i == 0)))) && (((!(cond (cond (decide ((byteAt s ((i).toNat)) ≥ 97)) (decide ((byteAt s ((i).toNat))≤122)) false) true (cond (decide ((byteAt s ((i).toNat)) ≥ 65)) (decide ((byteAt s ((i).toNat))≤90)) false))) && ((!(cond (cond (decide ((byteAt s ((i).toNat)) ≥ 97)) (decide ((byteAt s ((i).toNat))≤122)) false) true (cond (decide ((byteAt s ((i).toNat)) ≥ 65)) (decide ((byteAt s ((i).toNat))≤90)) false))) && (!(i == 0)))) && ((byteAt s ((i).toNat)) != 45))) && (!(decide ((byteAt s ((i).toNat)) < 48))))) = true],(((!(cond (cond (decide ((byteAt s ((i).toNat)) ≥ 97)) (decide ((byteAt s ((i).toNat))≤122)) false) true (cond (decide ((byteAt s ((i).toNat)) ≥ 65)) (decide ((byteAt s ((i).toNat))≤90)) false))) && ((!(cond (cond (decide ((byteAt s ((i).toNat)) ≥ 97)) (decide ((byteAt s ((i).toNat))≤122)) false) true (cond (decide ((byteAt s ((i).toNat)) ≥ 65)) (decide ((byteAt s ((i).toNat))≤90)) false))) && (!(i == 0)))) && (((!(cond (cond (decide ((byteAt s ((i).toNat)) ≥ 97)) (decide ((byteAt s ((i).toNat))≤122)) false) true (cond (decide ((byteAt s ((i).toNat)) ≥ 65)) (decide ((byteAt s ((i).toNat))≤90)) false))) && ((!(cond (cond (decide ((byteAt s ((i).toNat)) ≥ 97)) (decide ((byteAt s ((i).toNat))≤122)) false) true (cond (decide ((byteAt s ((i).toNat)) ≥ 65)) (decide ((byteAt s ((i).toNat))≤90)) false))) && (!(i == 0)))) && ((byteAt s ((i).toNat)) != 45))) = true→AllP [(((!(cond (cond (decide ((byteAt s ((i).toNat)) ≥ 97)) (decide ((byteAt s ((i).toNat))≤122)) false) true (cond (decide ((byteAt s ((i).toNat)) ≥ 65)) (decide ((byteAt s ((i).toNat))≤90)) false))) && ((!(cond (cond (decide ((byteAt s ((i).toNat)) ≥ 97)) (decide ((byteAt s ((i).toNat))≤122)) false) true (cond (decide ((byteAt s ((i).toNat)) ≥ 65)) (decide ((byteAt s ((i).toNat))≤90)) false))) && (!(i == 0)))) && (((!(cond (cond (decide ((byteAt s ((i).toNat)) ≥ 97)) (decide ((byteAt s ((i).toNat))≤122)) false) true (cond (decide ((byteAt s ((i).toNat)) ≥ 65)) (decide ((byteAt s ((i).toNat))≤90)) false))) && ((!(cond (cond (decide ((byteAt s ((i).toNat)) ≥ 97)) (decide ((byteAt s ((i).toNat))≤122)) false) true (cond (decide ((byteAt s ((i).toNat)) ≥ 65)) (decide ((byteAt s ((i).toNat))≤90)) false))) && (!(i == 0)))) && ((byteAt s ((i).toNat)) != 45))) = true,(((!(cond (cond (decide ((byteAt s ((i).toNat)) ≥ 97)) (decide ((byteAt s ((i).toNat))≤122)) false) true (cond (decide ((byteAt s ((i).toNat)) ≥ 65)) (decide ((byteAt s ((i).toNat))≤90)) false))) && ((!(cond (cond (decide ((byteAt s ((i).toNat)) ≥ 97)) (decide ((byteAt s ((i).toNat))≤122)) false) true (cond (decide ((byteAt s ((i).toNat)) ≥ 65)) (decide ((byteAt s ((i).toNat))≤90)) false))) && (!(i == 0)))) && (((!(cond (cond (decide ((byteAt s ((i).toNat)) ≥ 97)) (decide ((byteAt s ((i).toNat))≤122)) false) true (cond (decide ((byteAt s ((i).toNat)) ≥ 65)) (decide ((byteAt s ((i).toNat))≤90)) false))) && ((!(cond (cond (decide ((byteAt s ((i).toNat)) ≥ 97)) (decide ((byteAt s ((i).toNat))≤122)) false) true (cond (decide ((byteAt s ((i).toNat)) ≥ 65)) (decide ((byteAt s ((i).toNat))≤90)) false))) && (!(i == 0)))) && ((byteAt s ((i).toNat)) != 45))) = true,(!(decide ((byteAt s ((i).toNat)) < 48))) = true→AllP [((((!(cond (cond (decide ((byteAt s ((i).toNat)) ≥ 97)) (decide ((byteAt s ((i).toNat))≤122)) false) true (cond (decide ((byteAt s ((i).toNat)) ≥ 65)) (decide ((byteAt s ((i).toNat))≤90)) false))) && ((!(cond (cond (decide ((byteAt s ((i).toNat)) ≥ 97)) (decide ((byteAt s ((i).toNat))≤122)) false) true (cond (decide ((byteAt s ((i).toNat)) ≥ 65)) (decide ((byteAt s ((i).toNat))≤90)) false))) && (!(i == 0)))) && (((!(cond (cond (decide ((byteAt s ((i).toNat)) ≥ 97)) (decide ((byteAt s ((i).toNat))≤122)) false) true (cond (decide ((byteAt s ((i).toNat)) ≥ 65)) (decide ((byteAt s ((i).toNat))≤90)) false))) && ((!(cond (cond (decide ((byteAt s ((i).toNat)) ≥ 97)) (decide ((byteAt s ((i).toNat))≤122)) false) true (cond (decide ((byteAt s ((i).toNat)) ≥ 65)) (decide ((byteAt s ((i).toNat))≤90)) false))) && (!(i == 0)))) && ((byteAt s ((i).toNat)) != 45))) && ((((!(cond (cond (decide ((byteAt s ((i).toNat)) ≥ 97)) (decide ((byteAt s ((i).toNat))≤122)) false) true (cond (decide ((byteAt s ((i).toNat)) ≥ 65)) (decide ((byteAt s ((i).toNat))≤90)) false))) && ((!(cond (cond (decide ((byteAt s ((i).toNat)) ≥ 97)) (decide ((byteAt s ((i).toNat))≤122)) false) true (cond (decide ((byteAt s ((i).toNat)) ≥ 65)) (decide ((byteAt s ((i).toNat))≤90)) false))) && (!(i == 0)))) && (((!(cond (cond (decide ((byteAt s ((i).toNat)) ≥ 97)) (decide ((byteAt s ((i).toNat))≤122)) false) true (cond (decide ((byteAt s ((i).toNat)) ≥ 65)) (decide ((byteAt s ((i).toNat))≤90)) false))) && ((!(cond (cond (decide ((byteAt s ((i).toNat)) ≥ 97)) (decide ((byteAt s ((i).toNat))≤122)) false) true (cond (decide ((byteAt s ((i).toNat)) ≥ 65)) (decide ((byteAt s ((i).toNat))≤90)) false))) && (!(i == 0)))) && ((byteAt s ((i).toNat)) != 45))) && (!(decide ((byteAt s ((i).toNat)) < 48))))) = true]],((!(cond (cond (decide ((byteAt s ((i).toNat)) ≥ 97)) (decide ((byteAt s ((i).toNat))≤122)) false) true (cond (decide ((byteAt s ((i).toNat)) ≥ 65)) (decide ((byteAt s ((i).toNat))≤90)) false))) && ((!(cond (cond (decide ((byteAt s ((i).toNat)) ≥ 97)) (decide ((byteAt s ((i).toNat))≤122)) false) true (cond (decide ((byteAt s ((i).toNat)) ≥ 65)) (decide ((byteAt s ((i).toNat))≤90)) false))) && (!(i == 0)))) = true→AllP [((!(cond (cond (decide ((byteAt s ((i).toNat)) ≥ 97)) (decide ((byteAt s ((i).toNat))≤122)) false) true (cond (decide ((byteAt s ((i).toNat)) ≥ 65)) (decide ((byteAt s ((i).toNat))≤90)) false))) && ((!(cond (cond (decide ((byteAt s ((i).toNat)) ≥ 97)) (decide ((byteAt s ((i).toNat))≤122)) false) true (cond (decide ((byteAt s ((i).toNat)) ≥ 65)) (decide ((byteAt s ((i).toNat))≤90)) false))) && (!(i == 0)))) = true,((!(cond (cond (decide ((byteAt s ((i).toNat)) ≥ 97)) (decide ((byteAt s ((i).toNat))≤122)) false) true (cond (decide ((byteAt s ((i).toNat)) ≥ 65)) (decide ((byteAt s ((i).toNat))≤90)) false))) && ((!(cond (cond (decide ((byteAt s ((i).toNat)) ≥ 97)) (decide ((byteAt s ((i).toNat))≤122)) false) true (cond (decide ((byteAt s ((i).toNat)) ≥ 65)) (decide ((byteAt s ((i).toNat))≤90)) false))) && (!(i == 0)))) = true,((byteAt s ((i).toNat)) != 45) = true→AllP [(((!(cond (cond (decide ((byteAt s ((i).toNat)) ≥ 97)) (decide ((byteAt s ((i).toNat))≤122)) false) true (cond (decide ((byteAt s ((i).toNat)) ≥ 65)) (decide ((byteAt s ((i).toNat))≤90)) false))) && ((!(cond (cond (decide ((byteAt s ((i).toNat)) ≥ 97)) (decide ((byteAt s ((i).toNat))≤122)) false) true (cond (decide ((byteAt s ((i).toNat)) ≥ 65)) (decide ((byteAt s ((i).toNat))≤90)) false))) && (!(i == 0)))) && (((!(cond (cond (decide ((byteAt s ((i).toNat)) ≥ 97)) (decide ((byteAt s ((i).toNat))≤122)) false) true (cond (decide ((byteAt s ((i).toNat)) ≥ 65)) (decide ((byteAt s ((i).toNat))≤90)) false))) && ((!(cond (cond (decide ((byteAt s ((i).toNat)) ≥ 97)) (decide ((byteAt s ((i).toNat))≤122)) false) true (cond (decide ((byteAt s ((i).toNat)) ≥ 65)) (decide ((byteAt s ((i).toNat))≤90)) false))) && (!(i == 0)))) && ((byteAt s ((i).toNat)) != 45))) = true]],(!(cond (cond (decide ((byteAt s ((i).toNat)) ≥ 97)) (decide ((byteAt s ((i).toNat))≤122)) false) true (cond (decide ((byteAt s ((i).toNat)) ≥ 65)) (decide ((byteAt s ((i).toNat))≤90)) false))) = true→AllP [(!(cond (cond (decide ((byteAt s ((i).toNat)) ≥ 97)) (decide ((byteAt s ((i).toNat))≤122)) false) true (cond (decide ((byteAt s ((i).toNat)) ≥ 65)) (decide ((byteAt s ((i).toNat))≤90)) false))) = true,(!(cond (cond (decide ((byteAt s ((i).toNat)) ≥ 97)) (decide ((byteAt s ((i).toNat))≤122)) false) true (cond (decide ((byteAt s ((i).toNat)) ≥ 65)) (decide ((byteAt s ((i).toNat))≤90)) false))) = true,(!(i == 0)) = true→AllP [((!(cond (cond (decide ((byteAt s ((i).toNat)) ≥ 97)) (decide ((byteAt s ((i).toNat))≤122)) false) true (cond (decide ((byteAt s ((i).toNat)) ≥ 65)) (decide ((byteAt s ((i).toNat))≤90)) false))) && ((!(cond (cond (decide ((byteAt s ((i).toNat)) ≥ 97)) (decide ((byteAt s ((i).toNat))≤122)) false) true (cond (decide ((byteAt s ((i).toNat)) ≥ 65)) (decide ((byteAt s ((i).toNat))≤90)) false))) && (!(i == 0)))) = true]],(!(cond (cond (decide ((byteAt s ((i).toNat)) ≥ 97)) (decide ((byteAt s ((i).toNat))≤122)) false) true (cond (decide ((byteAt s ((i).toNat)) ≥ 65)) (decide ((byteAt s ((i).toNat))≤90)) false))) = true→AllP [(!(cond (cond (decide ((byteAt s ((i).toNat)) ≥ 97)) (decide ((byteAt s ((i).toNat))≤122)) false) true (cond (decide ((byteAt s ((i).toNat)) ≥ 65)) (decide ((byteAt s ((i).toNat))≤90)) false))) = true]] ⟨(fun hg=>⟨hg,trivial⟩),(fun hg=>⟨hg,trivial⟩),(fun hg=>⟨hg,trivial⟩),(fun hg=>⟨hg,trivial⟩),(fun hg=>⟨hg,hg,(fun hq=>⟨(andI' hg (andI' hg hq)),trivial⟩),trivial⟩),(fun hg=>⟨hg,hg,(fun hq=>⟨(andI' hg (andI' hg hq)),trivial⟩),trivial⟩),(fun hg=>⟨hg,hg,(fun hq=>⟨(andI' hg (andI' hg hq)),trivial⟩),trivial⟩),(fun hq=>⟨hq,trivial⟩),trivial⟩ ?_
      refine Runs.sC 54 (C_61 14926) (C_61 14927) (cond (!(cond (cond (decide ((byteAt s ((i).toNat)) ≥ 97)) (decide ((byteAt s ((i).toNat))≤122)) false) true (cond (decide ((byteAt s ((i).toNat)) ≥ 65)) (decide ((byteAt s ((i).toNat))≤90)) false))) (cond (i == 0) true (cond ((byteAt s ((i).toNat)) != 45) (cond (decide ((byteAt s ((i).toNat)) < 48)) true (decide ((byteAt s ((i).toNat)) > 57))) false)) false) (fun hq4=>?_) (fun hq4=>?_)
      · have h:=condT h hq4
        refine Runs.sA 1 [.code (C_61 29852),.code (C_61 29853),.inBlock 1,.code (C_61 467),.inLoop (C_61 116),.inBlock 0,.code (C_61 15)] ?_
        refine Runs.sR hE ⟨[(2,(aB false))],[],672⟩ (C_61 29852) [] [] (kp [2]) [] 672 [] trivial ?_
        obtain rfl:=Option.some.inj h
        refine Runs.sW hE ⟨[(2,(aB false))],[],672⟩ [] (kp [2]) [] 672 [] trivial ?_
        exact Runs.sT Try.f31 [] [] trivial
      · have h:=condF h hq4
        refine Runs.sA 2 [.code (C_61 467),.inLoop (C_61 116),.inBlock 0,.code (C_61 15)] ?_
        refine Runs.sR hE ⟨[(0,(aS s)),(3,(aI (w64 (i+1))))],[],704⟩ (C_61 467) [] [] (kp [0,3]) [] 704 [] trivial ?_
        refine Runs.sA 1 [.code (C_61 116),.inLoop (C_61 116),.inBlock 0,.code (C_61 15)] ?_
        exact Runs.sW hE _ [] (kp [0,3]) [] 0 [] trivial (ih (w64 (i+1)) _ h E hE)
    · have h:=condF h hq3
      refine Runs.sA 2 [.code (C_61 30),.code (C_61 31)] ?_
      refine Runs.sR hE ⟨[(2,(aB true))],[],80⟩ (C_61 30) [] [] (kp [2]) [] 80 [] trivial ?_
      obtain rfl:=Option.some.inj h
      refine Runs.sW hE ⟨[(2,(aB true))],[],80⟩ [] (kp [2]) [] 80 [] trivial ?_
      exact Runs.sT Try.f31 [] [] trivial
theorem g_b_IsName_ok (N:Nat) (s:ByteArray) (r:Bool) (h:g_b_IsName N s = some r):Sound Try.prog 31 [(aS s)] [] 0 (aB r) []:=by
  unfold g_b_IsName at h
  refine Sound.of_runs (fu:=Try.f31) (c:=C_61 1) (nt:=55) (by kernel_rfl) (by kernel_rfl) (by kernel_rfl) (by kernel_rfl) (fun hm=>rfl) ?_
  intro E hE
  refine Runs.sA 1 [.code (C_61 2),.code (C_61 3)] ?_
  refine Runs.sR hE ⟨[(0,(aS s))],[],16⟩ (C_61 2) [] [] (kp [0]) [] 16 [] trivial ?_
  refine Runs.sA 2 [.code (C_61 12),.code (C_61 13),.code (C_61 7)] ?_
  refine Runs.sR hE ⟨[(0,(aS s)),(13,(aB (cond (decide (((s.size:Nat):Int) < 1)) true (decide (((s.size:Nat):Int) > 12)))))],[],144⟩ (C_61 12) [] [] (kp [0,13]) [] 144 [(!(decide (((s.size:Nat):Int) < 1))) = true→AllP [(!(decide (((s.size:Nat):Int) < 1))) = true],(!(decide (((s.size:Nat):Int) < 1))) = true→AllP [(!(decide (((s.size:Nat):Int) < 1))) = true],(!(decide (((s.size:Nat):Int) < 1))) = true→AllP [(!(decide (((s.size:Nat):Int) < 1))) = true]] ⟨(fun hg=>⟨hg,trivial⟩),(fun hg=>⟨hg,trivial⟩),(fun hq=>⟨hq,trivial⟩),trivial⟩ ?_
  refine Runs.sC 13 (C_61 26) (C_61 27) (cond (decide (((s.size:Nat):Int) < 1)) true (decide (((s.size:Nat):Int) > 12))) (fun hq2=>?_) (fun hq2=>?_)
  · have h:=condT h hq2
    refine Runs.sA 1 [.code (C_61 52),.code (C_61 53),.code (C_61 7)] ?_
    refine Runs.sR hE ⟨[(2,(aB false))],[],160⟩ (C_61 52) [] [] (kp [2]) [] 160 [] trivial ?_
    obtain rfl:=Option.some.inj h
    refine Runs.sW hE ⟨[(2,(aB false))],[],160⟩ [] (kp [2]) [] 160 [] trivial ?_
    exact Runs.sT Try.f31 [] [] trivial
  · have h:=condF h hq2
    refine Runs.sA 3 [.code (C_61 28),.code (C_61 29),.code (C_61 15)] ?_
    refine Runs.sR hE ⟨[(0,(aS s)),(3,(aI 0))],[],160⟩ (C_61 28) [] [] (kp [0,3]) [] 160 [] trivial ?_
    refine Runs.sA 2 [.code (C_61 116),.inLoop (C_61 116),.inBlock 0,.code (C_61 15)] ?_
    exact Runs.sW hE _ [] (kp [0,3]) [] 0 [] trivial (g_b_IsName_L1_ok N s N 0 _ h E hE)
noncomputable def C_63 (n:Nat):Code:=cat (bodyOf Try.f53) (pth n)
theorem g_r06_inside_ok (N:Nat) (n:Int) (low:Int) (high:Int) (r:Bool) (h:g_r06_inside N n low high = some r):Sound Try.prog 53 [(aI n),(aI low),(aI high)] [] 0 (aB r) []:=by
  unfold g_r06_inside at h
  refine Sound.of_runs (fu:=Try.f53) (c:=C_63 1) (nt:=15) (by kernel_rfl) (by kernel_rfl) (by kernel_rfl) (by kernel_rfl) (fun hm=>rfl) ?_
  intro E hE
  refine Runs.sA 1 [.code (C_63 2),.code (C_63 3)] ?_
  refine Runs.sR hE ⟨[(0,(aI n)),(1,(aI low)),(2,(aI high))],[],16⟩ (C_63 2) [] [] (kp [0,1,2]) [] 16 [] trivial ?_
  refine Runs.sA 1 [.code (C_63 6),.code (C_63 7)] ?_
  refine Runs.sR hE ⟨[(6,(aB (cond (decide (n ≥ low)) (decide (n≤high)) false)))],[],160⟩ (C_63 6) [] [] (kp [6]) [] 160 [(decide (n ≥ low)) = true→AllP [(decide (n ≥ low)) = true,(decide (n ≥ low)) = true],(decide (n ≥ low)) = true→AllP [(decide (n ≥ low)) = true]] ⟨(fun hg=>⟨hg,hg,trivial⟩),(fun hq=>⟨hq,trivial⟩),trivial⟩ ?_
  obtain rfl:=Option.some.inj h
  refine Runs.sW hE ⟨[(6,(aB (cond (decide (n ≥ low)) (decide (n≤high)) false)))],[],160⟩ [] (kp [6]) [] 160 [] trivial ?_
  exact Runs.sT Try.f53 [] [] trivial
noncomputable def C_62 (n:Nat):Code:=cat (bodyOf Try.f52) (pth n)
theorem g_r06_checkLine_ok (N:Nat) (l:TLine) (r:Int) (h:g_r06_checkLine N l = some r):Sound Try.prog 52 [(.agg (TLine.cells l))] [] 0 (aI r) []:=by
  unfold g_r06_checkLine at h
  refine Sound.of_runs (fu:=Try.f52) (c:=C_62 1) (nt:=43) (by kernel_rfl) (by kernel_rfl) (by kernel_rfl) (by kernel_rfl) (fun hm=>rfl) ?_
  intro E hE
  refine Runs.sA 1 [.code (C_62 2),.code (C_62 3)] ?_
  refine Runs.sR hE ⟨[(1,(.op 0 0 0))],[(0,vO 6 (TLine.cells l))],32⟩ (C_62 2) [] [] (kp [1]) (kq [0]) 32 [] trivial ?_
  refine Runs.sA 2 [.code (C_62 12),.code (C_62 13),.code (C_62 7)] ?_
  obtain ⟨rinside,hr,h⟩:=bindSome h
  obtain ⟨rinside2,hr2,h⟩:=bindSome h
  obtain ⟨rinside3,hr3,h⟩:=bindSome h
  obtain ⟨rinside4,hr4,h⟩:=bindSome h
  obtain ⟨rinside5,hr5,h⟩:=bindSome h
  refine Runs.sR hE ⟨[(1,(.op 0 0 0)),(30,(aB (cond (cond (cond (cond (!rinside) true (!rinside2)) true (!rinside3)) true (!rinside4)) true (!rinside5))))],[(0,vO 6 (TLine.cells l))],480⟩ (C_62 12) [(2,⟨[],true,(aB rinside),[],0,false,none⟩),(7,⟨[],true,(aB rinside2),[],0,false,none⟩),(13,⟨[],true,(aB rinside3),[],0,false,none⟩),(19,⟨[],true,(aB rinside4),[],0,false,none⟩),(25,⟨[],true,(aB rinside5),[],0,false,none⟩)] [] (kp [1,30]) (kq [0]) 480 [0 < 1,Sound Try.prog 53 [(aI l.f_X),(aI (-1000000)),(aI 1000000)] [] 0 (aB rinside) [],(!(!rinside)) = true→AllP [(!(!rinside)) = true,0 < 1],(!(!rinside)) = true→AllP [Sound Try.prog 53 [(aI l.f_Y),(aI (-1000000)),(aI 1000000)] [] 0 (aB rinside2) [],(!(!rinside)) = true],(!(!rinside)) = true→AllP [(!(!rinside)) = true],(!(!rinside)) = true→AllP [(!(!rinside)) = true],(!(cond (!rinside) true (!rinside2))) = true→AllP [(!(cond (!rinside) true (!rinside2))) = true,0 < 1],(!(cond (!rinside) true (!rinside2))) = true→AllP [Sound Try.prog 53 [(aI l.f_ToX),(aI (-1000000)),(aI 1000000)] [] 0 (aB rinside3) [],(!(cond (!rinside) true (!rinside2))) = true],(!(cond (!rinside) true (!rinside2))) = true→AllP [(!(cond (!rinside) true (!rinside2))) = true],(!(cond (!rinside) true (!rinside2))) = true→AllP [(!(cond (!rinside) true (!rinside2))) = true],(!(cond (cond (!rinside) true (!rinside2)) true (!rinside3))) = true→AllP [(!(cond (cond (!rinside) true (!rinside2)) true (!rinside3))) = true,0 < 1],(!(cond (cond (!rinside) true (!rinside2)) true (!rinside3))) = true→AllP [Sound Try.prog 53 [(aI l.f_ToY),(aI (-1000000)),(aI 1000000)] [] 0 (aB rinside4) [],(!(cond (cond (!rinside) true (!rinside2)) true (!rinside3))) = true],(!(cond (cond (!rinside) true (!rinside2)) true (!rinside3))) = true→AllP [(!(cond (cond (!rinside) true (!rinside2)) true (!rinside3))) = true],(!(cond (cond (!rinside) true (!rinside2)) true (!rinside3))) = true→AllP [(!(cond (cond (!rinside) true (!rinside2)) true (!rinside3))) = true],(!(cond (cond (cond (!rinside) true (!rinside2)) true (!rinside3)) true (!rinside4))) = true→AllP [(!(cond (cond (cond (!rinside) true (!rinside2)) true (!rinside3)) true (!rinside4))) = true,0 < 1],(!(cond (cond (cond (!rinside) true (!rinside2)) true (!rinside3)) true (!rinside4))) = true→AllP [Sound Try.prog 53 [(aI l.f_Most),(aI 1),(aI 1000000000)] [] 0 (aB rinside5) [],(!(cond (cond (cond (!rinside) true (!rinside2)) true (!rinside3)) true (!rinside4))) = true],(!(cond (cond (cond (!rinside) true (!rinside2)) true (!rinside3)) true (!rinside4))) = true→AllP [(!(cond (cond (cond (!rinside) true (!rinside2)) true (!rinside3)) true (!rinside4))) = true],(!(cond (cond (cond (!rinside) true (!rinside2)) true (!rinside3)) true (!rinside4))) = true→AllP [(!(cond (cond (cond (!rinside) true (!rinside2)) true (!rinside3)) true (!rinside4))) = true]] ⟨o1,(g_r06_inside_ok N l.f_X (-1000000) 1000000 rinside hr),(fun hg=>⟨hg,o1,trivial⟩),(fun hg=>⟨(g_r06_inside_ok N l.f_Y (-1000000) 1000000 rinside2 (condT hr2 hg)),hg,trivial⟩),(fun hg=>⟨hg,trivial⟩),(fun hq=>⟨hq,trivial⟩),(fun hg=>⟨hg,o1,trivial⟩),(fun hg=>⟨(g_r06_inside_ok N l.f_ToX (-1000000) 1000000 rinside3 (condT hr3 hg)),hg,trivial⟩),(fun hg=>⟨hg,trivial⟩),(fun hq=>⟨hq,trivial⟩),(fun hg=>⟨hg,o1,trivial⟩),(fun hg=>⟨(g_r06_inside_ok N l.f_ToY (-1000000) 1000000 rinside4 (condT hr4 hg)),hg,trivial⟩),(fun hg=>⟨hg,trivial⟩),(fun hq=>⟨hq,trivial⟩),(fun hg=>⟨hg,o1,trivial⟩),(fun hg=>⟨(g_r06_inside_ok N l.f_Most 1 1000000000 rinside5 (condT hr5 hg)),hg,trivial⟩),(fun hg=>⟨hg,trivial⟩),(fun hq=>⟨hq,trivial⟩),trivial⟩ ?_
  refine Runs.sC 30 (C_62 26) (C_62 27) (cond (cond (cond (cond (!rinside) true (!rinside2)) true (!rinside3)) true (!rinside4)) true (!rinside5)) (fun hq2=>?_) (fun hq2=>?_)
  · have h:=condT h hq2
    refine Runs.sA 1 [.code (C_62 52),.code (C_62 53),.code (C_62 7)] ?_
    refine Runs.sR hE ⟨[(2,(aI 2))],[],496⟩ (C_62 52) [] [] (kp [2]) [] 496 [] trivial ?_
    obtain rfl:=Option.some.inj h
    refine Runs.sW hE ⟨[(2,(aI 2))],[],496⟩ [] (kp [2]) [] 496 [] trivial ?_
    exact Runs.sT Try.f52 [] [] trivial
  · have h:=condF h hq2
    refine Runs.sA 3 [.code (C_62 28),.code (C_62 29),.code (C_62 15)] ?_
    refine Runs.sR hE ⟨[(42,(aB (cond (l.f_X == l.f_ToX) (l.f_Y == l.f_ToY) false)))],[],672⟩ (C_62 28) [] [] (kp [42]) [] 672 [0 < 1,0 < 1,(l.f_X == l.f_ToX) = true→AllP [(l.f_X == l.f_ToX) = true,0 < 1],(l.f_X == l.f_ToX) = true→AllP [(l.f_X == l.f_ToX) = true,0 < 1],(l.f_X == l.f_ToX) = true→AllP [(l.f_X == l.f_ToX) = true,(l.f_X == l.f_ToX) = true],(l.f_X == l.f_ToX) = true→AllP [(l.f_X == l.f_ToX) = true]] ⟨o1,o1,(fun hg=>⟨hg,o1,trivial⟩),(fun hg=>⟨hg,o1,trivial⟩),(fun hg=>⟨hg,hg,trivial⟩),(fun hq=>⟨hq,trivial⟩),trivial⟩ ?_
    refine Runs.sC 42 (C_62 58) (C_62 59) (cond (l.f_X == l.f_ToX) (l.f_Y == l.f_ToY) false) (fun hq3=>?_) (fun hq3=>?_)
    · have h:=condT h hq3
      refine Runs.sA 1 [.code (C_62 116),.code (C_62 117),.code (C_62 15)] ?_
      refine Runs.sR hE ⟨[(2,(aI 9))],[],688⟩ (C_62 116) [] [] (kp [2]) [] 688 [] trivial ?_
      obtain rfl:=Option.some.inj h
      refine Runs.sW hE ⟨[(2,(aI 9))],[],688⟩ [] (kp [2]) [] 688 [] trivial ?_
      exact Runs.sT Try.f52 [] [] trivial
    · have h:=condF h hq3
      refine Runs.sA 2 [.code (C_62 30),.code (C_62 31)] ?_
      refine Runs.sR hE ⟨[(2,(aI 0))],[],688⟩ (C_62 30) [] [] (kp [2]) [] 688 [] trivial ?_
      obtain rfl:=Option.some.inj h
      refine Runs.sW hE ⟨[(2,(aI 0))],[],688⟩ [] (kp [2]) [] 688 [] trivial ?_
      exact Runs.sT Try.f52 [] [] trivial
noncomputable def C_60 (n:Nat):Code:=cat (bodyOf Try.f22) (pth n)
theorem g_r06_CheckLines_L2_ok (N:Nat) (l:List TLine) (i:Int) (K_g_r06_CheckLines_L1:Int→Option (Int))
    (hK_g_r06_CheckLines_L1:∀ (i:Int) (r:Int),K_g_r06_CheckLines_L1 i = some r→∀ E,EnvOk E 0→Runs Try.prog E 22 46 (SPost E [] (aI r)) [.code (C_60 116),.inLoop (C_60 116),.inBlock 0,.code (C_60 15)] ⟨[(0,(encL TLine.cells TLine.d l)),(3,(aI i))],[],0⟩) (fuel:Nat):∀ (k:Int) (r:Int),g_r06_CheckLines_L2 N l i K_g_r06_CheckLines_L1 fuel k = some r→∀ E,EnvOk E 0→Runs Try.prog E 22 46 (SPost E [] (aI r)) [.code (C_60 29844),.inLoop (C_60 29844),.inBlock 2,.code (C_60 3731),.inBlock 1,.code (C_60 467),.inLoop (C_60 116),.inBlock 0,.code (C_60 15)] ⟨[(0,(encL TLine.cells TLine.d l)),(3,(aI i)),(4,(aI k))],[],0⟩:=by
  induction fuel with
  | zero=>intro _ r h; rw [g_r06_CheckLines_L2.eq_1] at h; cases h
  | succ fuel ih =>
    intro k r h E hE
    rw [g_r06_CheckLines_L2.eq_2] at h
    refine Runs.sA 2 [.code (C_60 119376),.code (C_60 119377),.code (C_60 59689),.inLoop (C_60 29844),.inBlock 2,.code (C_60 3731),.inBlock 1,.code (C_60 467),.inLoop (C_60 116),.inBlock 0,.code (C_60 15)] ?_
    refine Runs.sR hE ⟨[(0,(encL TLine.cells TLine.d l)),(3,(aI i)),(4,(aI k)),(24,(aB (decide (k < i))))],[],48⟩ (C_60 119376) [] [] (kp [0,3,4,24]) [] 48 [] trivial ?_
    refine Runs.sC 24 (C_60 238754) (C_60 238755) (decide (k < i)) (fun hq5=>?_) (fun hq5=>?_)
    · have h:=condT h hq5
      refine Runs.sA 4 [.code (C_60 477512),.code (C_60 477513),.inBlock 3,.code (C_60 119379),.inLoop (C_60 29844),.inBlock 2,.code (C_60 3731),.inBlock 1,.code (C_60 467),.inLoop (C_60 116),.inBlock 0,.code (C_60 15)] ?_
      obtain ⟨c2,h⟩:=ifSome h
      obtain ⟨c3,h⟩:=ifSome h
      refine Runs.sR hE ⟨[(0,(encL TLine.cells TLine.d l)),(3,(aI i)),(4,(aI k)),(37,(aB (streq ((l.getD ((k).toNat) TLine.d).f_Name) ((l.getD ((i).toNat) TLine.d).f_Name))))],[],224⟩ (C_60 477512) [] [] (kp [0,3,4,37]) [] 224 [0≤k∧k < ((l.length:Nat):Int),0≤i∧i < ((l.length:Nat):Int)] ⟨c2,c3,trivial⟩ ?_
      refine Runs.sC 37 (C_60 955026) (C_60 955027) (streq ((l.getD ((k).toNat) TLine.d).f_Name) ((l.getD ((i).toNat) TLine.d).f_Name)) (fun hq6=>?_) (fun hq6=>?_)
      · have h:=condT h hq6
        refine Runs.sA 1 [.code (C_60 1910052),.code (C_60 1910053),.inBlock 3,.code (C_60 119379),.inLoop (C_60 29844),.inBlock 2,.code (C_60 3731),.inBlock 1,.code (C_60 467),.inLoop (C_60 116),.inBlock 0,.code (C_60 15)] ?_
        refine Runs.sR hE ⟨[(2,(aI 5))],[],240⟩ (C_60 1910052) [] [] (kp [2]) [] 240 [] trivial ?_
        obtain rfl:=Option.some.inj h
        refine Runs.sW hE ⟨[(2,(aI 5))],[],240⟩ [] (kp [2]) [] 240 [] trivial ?_
        exact Runs.sT Try.f22 [] [] trivial
      · have h:=condF h hq6
        refine Runs.sA 2 [.code (C_60 119379),.inLoop (C_60 29844),.inBlock 2,.code (C_60 3731),.inBlock 1,.code (C_60 467),.inLoop (C_60 116),.inBlock 0,.code (C_60 15)] ?_
        refine Runs.sR hE ⟨[(0,(encL TLine.cells TLine.d l)),(3,(aI i)),(4,(aI (w64 (k+1))))],[],272⟩ (C_60 119379) [] [] (kp [0,3,4]) [] 272 [] trivial ?_
        refine Runs.sA 1 [.code (C_60 29844),.inLoop (C_60 29844),.inBlock 2,.code (C_60 3731),.inBlock 1,.code (C_60 467),.inLoop (C_60 116),.inBlock 0,.code (C_60 15)] ?_
        exact Runs.sW hE _ [] (kp [0,3,4]) [] 0 [] trivial (ih (w64 (k+1)) _ h E hE)
    · have h:=condF h hq5
      refine Runs.sA 2 [.code (C_60 7462),.code (C_60 7463),.inBlock 1,.code (C_60 467),.inLoop (C_60 116),.inBlock 0,.code (C_60 15)] ?_
      obtain ⟨c4,h⟩:=ifSome h
      obtain ⟨rcheckLine,hr2,h⟩:=bindSome h
      refine Runs.sR hE ⟨[(0,(encL TLine.cells TLine.d l)),(3,(aI i)),(5,(aI rcheckLine))],[],144⟩ (C_60 7462) [(4,⟨[],true,(aI rcheckLine),[],0,false,none⟩)] [] (kp [0,3,5]) [] 144 [0≤i∧i < ((l.length:Nat):Int),Sound Try.prog 52 [(.agg (TLine.cells (l.getD ((i).toNat) TLine.d)))] [] 0 (aI rcheckLine) []] ⟨c4,(g_r06_checkLine_ok N (l.getD ((i).toNat) TLine.d) rcheckLine hr2),trivial⟩ ?_
      refine Runs.sA 1 [.code (C_60 14926),.code (C_60 14927),.inBlock 1,.code (C_60 467),.inLoop (C_60 116),.inBlock 0,.code (C_60 15)] ?_
      refine Runs.sR hE ⟨[(0,(encL TLine.cells TLine.d l)),(3,(aI i)),(5,(aI rcheckLine)),(44,(aB (rcheckLine != 0)))],[],176⟩ (C_60 14926) [] [] (kp [0,3,5,44]) [] 176 [] trivial ?_
      refine Runs.sC 44 (C_60 29854) (C_60 29855) (rcheckLine != 0) (fun hq7=>?_) (fun hq7=>?_)
      · have h:=condT h hq7
        refine Runs.sA 1 [.code (C_60 59708),.code (C_60 59709),.inBlock 1,.code (C_60 467),.inLoop (C_60 116),.inBlock 0,.code (C_60 15)] ?_
        refine Runs.sR hE ⟨[(2,(aI rcheckLine))],[],208⟩ (C_60 59708) [] [] (kp [2]) [] 208 [] trivial ?_
        obtain rfl:=Option.some.inj h
        refine Runs.sW hE ⟨[(2,(aI rcheckLine))],[],208⟩ [] (kp [2]) [] 208 [] trivial ?_
        exact Runs.sT Try.f22 [] [] trivial
      · have h:=condF h hq7
        refine Runs.sA 2 [.code (C_60 467),.inLoop (C_60 116),.inBlock 0,.code (C_60 15)] ?_
        refine Runs.sR hE ⟨[(0,(encL TLine.cells TLine.d l)),(3,(aI (w64 (i+1))))],[],224⟩ (C_60 467) [] [] (kp [0,3]) [] 224 [] trivial ?_
        refine Runs.sA 1 [.code (C_60 116),.inLoop (C_60 116),.inBlock 0,.code (C_60 15)] ?_
        exact Runs.sW hE _ [] (kp [0,3]) [] 0 [] trivial (hK_g_r06_CheckLines_L1 (w64 (i+1)) _ h E hE)
theorem g_r06_CheckLines_L1_ok (N:Nat) (l:List TLine) (fuel:Nat):∀ (i:Int) (r:Int),g_r06_CheckLines_L1 N l fuel i = some r→∀ E,EnvOk E 0→Runs Try.prog E 22 46 (SPost E [] (aI r)) [.code (C_60 116),.inLoop (C_60 116),.inBlock 0,.code (C_60 15)] ⟨[(0,(encL TLine.cells TLine.d l)),(3,(aI i))],[],0⟩:=by
  induction fuel with
  | zero=>intro _ r h; rw [g_r06_CheckLines_L1.eq_1] at h; cases h
  | succ fuel ih =>
    intro i r h E hE
    rw [g_r06_CheckLines_L1.eq_2] at h
    refine Runs.sA 2 [.code (C_60 464),.code (C_60 465),.code (C_60 233),.inLoop (C_60 116),.inBlock 0,.code (C_60 15)] ?_
    refine Runs.sR hE ⟨[(0,(encL TLine.cells TLine.d l)),(3,(aI i)),(12,(aB (decide (i < ((l.length:Nat):Int)))))],[],64⟩ (C_60 464) [] [] (kp [0,3,12]) [] 64 [] trivial ?_
    refine Runs.sC 12 (C_60 930) (C_60 931) (decide (i < ((l.length:Nat):Int))) (fun hq3=>?_) (fun hq3=>?_)
    · have h:=condT h hq3
      refine Runs.sA 5 [.code (C_60 3728),.code (C_60 3729),.code (C_60 1865),.inBlock 1,.code (C_60 467),.inLoop (C_60 116),.inBlock 0,.code (C_60 15)] ?_
      obtain ⟨c,h⟩:=ifSome h
      obtain ⟨rIsName,hr,h⟩:=bindSome h
      refine Runs.sR hE ⟨[(0,(encL TLine.cells TLine.d l)),(3,(aI i)),(21,(aB (!rIsName)))],[],176⟩ (C_60 3728) [(5,⟨[],true,(aB rIsName),[],0,false,none⟩)] [] (kp [0,3,21]) [] 176 [0≤i∧i < ((l.length:Nat):Int),Sound Try.prog 31 [(aS ((l.getD ((i).toNat) TLine.d).f_Name))] [] 0 (aB rIsName) []] ⟨c,(g_b_IsName_ok N ((l.getD ((i).toNat) TLine.d).f_Name) rIsName hr),trivial⟩ ?_
      refine Runs.sC 21 (C_60 7458) (C_60 7459) (!rIsName) (fun hq4=>?_) (fun hq4=>?_)
      · have h:=condT h hq4
        refine Runs.sA 1 [.code (C_60 14916),.code (C_60 14917),.code (C_60 1865),.inBlock 1,.code (C_60 467),.inLoop (C_60 116),.inBlock 0,.code (C_60 15)] ?_
        refine Runs.sR hE ⟨[(2,(aI 4))],[],192⟩ (C_60 14916) [] [] (kp [2]) [] 192 [] trivial ?_
        obtain rfl:=Option.some.inj h
        refine Runs.sW hE ⟨[(2,(aI 4))],[],192⟩ [] (kp [2]) [] 192 [] trivial ?_
        exact Runs.sT Try.f22 [] [] trivial
      · have h:=condF h hq4
        refine Runs.sA 3 [.code (C_60 7460),.code (C_60 7461),.code (C_60 3731),.inBlock 1,.code (C_60 467),.inLoop (C_60 116),.inBlock 0,.code (C_60 15)] ?_
        refine Runs.sR hE ⟨[(0,(encL TLine.cells TLine.d l)),(3,(aI i)),(4,(aI 0))],[],192⟩ (C_60 7460) [] [] (kp [0,3,4]) [] 192 [] trivial ?_
        refine Runs.sA 2 [.code (C_60 29844),.inLoop (C_60 29844),.inBlock 2,.code (C_60 3731),.inBlock 1,.code (C_60 467),.inLoop (C_60 116),.inBlock 0,.code (C_60 15)] ?_
        exact Runs.sW hE _ [] (kp [0,3,4]) [] 0 [] trivial (g_r06_CheckLines_L2_ok N l i (g_r06_CheckLines_L1 N l fuel) ih N 0 _ h E hE)
    · have h:=condF h hq3
      refine Runs.sA 2 [.code (C_60 30),.code (C_60 31)] ?_
      refine Runs.sR hE ⟨[(2,(aI 0))],[],80⟩ (C_60 30) [] [] (kp [2]) [] 80 [] trivial ?_
      obtain rfl:=Option.some.inj h
      refine Runs.sW hE ⟨[(2,(aI 0))],[],80⟩ [] (kp [2]) [] 80 [] trivial ?_
      exact Runs.sT Try.f22 [] [] trivial
theorem g_r06_CheckLines_ok (N:Nat) (l:List TLine) (r:Int) (h:g_r06_CheckLines N l = some r):Sound Try.prog 22 [(encL TLine.cells TLine.d l)] [] 0 (aI r) []:=by
  unfold g_r06_CheckLines at h
  refine Sound.of_runs (fu:=Try.f22) (c:=C_60 1) (nt:=46) (by kernel_rfl) (by kernel_rfl) (by kernel_rfl) (by kernel_rfl) (fun hm=>rfl) ?_
  intro E hE
  refine Runs.sA 1 [.code (C_60 2),.code (C_60 3)] ?_
  refine Runs.sR hE ⟨[(0,(encL TLine.cells TLine.d l))],[],16⟩ (C_60 2) [] [] (kp [0]) [] 16 [] trivial ?_
  refine Runs.sA 2 [.code (C_60 12),.code (C_60 13),.code (C_60 7)] ?_
  refine Runs.sR hE ⟨[(0,(encL TLine.cells TLine.d l)),(8,(aB (decide (((l.length:Nat):Int) > 12))))],[],64⟩ (C_60 12) [] [] (kp [0,8]) [] 64 [] trivial ?_
  refine Runs.sC 8 (C_60 26) (C_60 27) (decide (((l.length:Nat):Int) > 12)) (fun hq2=>?_) (fun hq2=>?_)
  · have h:=condT h hq2
    refine Runs.sA 1 [.code (C_60 52),.code (C_60 53),.code (C_60 7)] ?_
    refine Runs.sR hE ⟨[(2,(aI 8))],[],80⟩ (C_60 52) [] [] (kp [2]) [] 80 [] trivial ?_
    obtain rfl:=Option.some.inj h
    refine Runs.sW hE ⟨[(2,(aI 8))],[],80⟩ [] (kp [2]) [] 80 [] trivial ?_
    exact Runs.sT Try.f22 [] [] trivial
  · have h:=condF h hq2
    refine Runs.sA 3 [.code (C_60 28),.code (C_60 29),.code (C_60 15)] ?_
    refine Runs.sR hE ⟨[(0,(encL TLine.cells TLine.d l)),(3,(aI 0))],[],80⟩ (C_60 28) [] [] (kp [0,3]) [] 80 [] trivial ?_
    refine Runs.sA 2 [.code (C_60 116),.inLoop (C_60 116),.inBlock 0,.code (C_60 15)] ?_
    exact Runs.sW hE _ [] (kp [0,3]) [] 0 [] trivial (g_r06_CheckLines_L1_ok N l N 0 _ h E hE)
noncomputable def C_64 (n:Nat):Code:=cat (bodyOf Try.f23) (pth n)
theorem g_r06_CheckWind_ok (N:Nat) (w:TWind) (r:Int) (h:g_r06_CheckWind N w = some r):Sound Try.prog 23 [(.agg (TWind.cells w))] [] 0 (aI r) []:=by
  unfold g_r06_CheckWind at h
  refine Sound.of_runs (fu:=Try.f23) (c:=C_64 1) (nt:=19) (by kernel_rfl) (by kernel_rfl) (by kernel_rfl) (by kernel_rfl) (fun hm=>rfl) ?_
  intro E hE
  refine Runs.sA 1 [.code (C_64 2),.code (C_64 3)] ?_
  refine Runs.sR hE ⟨[(1,(.op 0 0 0))],[(0,vO 3 (TWind.cells w))],32⟩ (C_64 2) [] [] (kp [1]) (kq [0]) 32 [] trivial ?_
  refine Runs.sA 2 [.code (C_64 12),.code (C_64 13),.code (C_64 7)] ?_
  obtain ⟨rinside,hr,h⟩:=bindSome h
  obtain ⟨rinside2,hr2,h⟩:=bindSome h
  obtain ⟨rinside3,hr3,h⟩:=bindSome h
  refine Runs.sR hE ⟨[(18,(aB (cond (cond (!rinside) true (!rinside2)) true (!rinside3))))],[],288⟩ (C_64 12) [(2,⟨[],true,(aB rinside),[],0,false,none⟩),(7,⟨[],true,(aB rinside2),[],0,false,none⟩),(13,⟨[],true,(aB rinside3),[],0,false,none⟩)] [] (kp [18]) [] 288 [0 < 1,Sound Try.prog 53 [(aI w.f_X),(aI (-1000000000)),(aI 1000000000)] [] 0 (aB rinside) [],(!(!rinside)) = true→AllP [(!(!rinside)) = true,0 < 1],(!(!rinside)) = true→AllP [Sound Try.prog 53 [(aI w.f_Y),(aI (-1000000000)),(aI 1000000000)] [] 0 (aB rinside2) [],(!(!rinside)) = true],(!(!rinside)) = true→AllP [(!(!rinside)) = true],(!(!rinside)) = true→AllP [(!(!rinside)) = true],(!(cond (!rinside) true (!rinside2))) = true→AllP [(!(cond (!rinside) true (!rinside2))) = true,0 < 1],(!(cond (!rinside) true (!rinside2))) = true→AllP [Sound Try.prog 53 [(aI w.f_Turn),(aI (-1000000000000000)),(aI 1000000000000000)] [] 0 (aB rinside3) [],(!(cond (!rinside) true (!rinside2))) = true],(!(cond (!rinside) true (!rinside2))) = true→AllP [(!(cond (!rinside) true (!rinside2))) = true],(!(cond (!rinside) true (!rinside2))) = true→AllP [(!(cond (!rinside) true (!rinside2))) = true]] ⟨o1,(g_r06_inside_ok N w.f_X (-1000000000) 1000000000 rinside hr),(fun hg=>⟨hg,o1,trivial⟩),(fun hg=>⟨(g_r06_inside_ok N w.f_Y (-1000000000) 1000000000 rinside2 (condT hr2 hg)),hg,trivial⟩),(fun hg=>⟨hg,trivial⟩),(fun hq=>⟨hq,trivial⟩),(fun hg=>⟨hg,o1,trivial⟩),(fun hg=>⟨(g_r06_inside_ok N w.f_Turn (-1000000000000000) 1000000000000000 rinside3 (condT hr3 hg)),hg,trivial⟩),(fun hg=>⟨hg,trivial⟩),(fun hq=>⟨hq,trivial⟩),trivial⟩ ?_
  refine Runs.sC 18 (C_64 26) (C_64 27) (cond (cond (!rinside) true (!rinside2)) true (!rinside3)) (fun hq2=>?_) (fun hq2=>?_)
  · have h:=condT h hq2
    refine Runs.sA 1 [.code (C_64 52),.code (C_64 53),.code (C_64 7)] ?_
    refine Runs.sR hE ⟨[(2,(aI 2))],[],304⟩ (C_64 52) [] [] (kp [2]) [] 304 [] trivial ?_
    obtain rfl:=Option.some.inj h
    refine Runs.sW hE ⟨[(2,(aI 2))],[],304⟩ [] (kp [2]) [] 304 [] trivial ?_
    exact Runs.sT Try.f23 [] [] trivial
  · have h:=condF h hq2
    refine Runs.sA 2 [.code (C_64 14),.code (C_64 15)] ?_
    refine Runs.sR hE ⟨[(2,(aI 0))],[],304⟩ (C_64 14) [] [] (kp [2]) [] 304 [] trivial ?_
    obtain rfl:=Option.some.inj h
    refine Runs.sW hE ⟨[(2,(aI 0))],[],304⟩ [] (kp [2]) [] 304 [] trivial ?_
    exact Runs.sT Try.f23 [] [] trivial
noncomputable def C_69 (n:Nat):Code:=cat (bodyOf Try.f121) (pth n)
theorem g_r01_made_L1_ok (N:Nat) (neg:Bool) (a:List Int) (fuel:Nat):∀ (x:List Int) (i:Int) (r:TInt),g_r01_made_L1 N neg a fuel x i = some r→∀ E,EnvOk E 0→Runs Try.prog E 121 31 (SPost E [] (.agg (TInt.cells r))) [.code (C_69 116),.inLoop (C_69 116),.inBlock 0,.code (C_69 15)] ⟨[(1,(encL cI 0 a)),(4,(.op 0 0 0)),(5,(.op 1 0 0)),(6,(aI i))],[(0,vO 2 [(aB false),.nil]),(1,vN 2 [(aB (cond neg (decide (((a.length:Nat):Int) > 0)) false)),(.os 2 0 x.length)]),(2,aO 1 (cU .u16) 0 x)],3⟩:=by
  induction fuel with
  | zero=>intro _ _ r h; rw [g_r01_made_L1.eq_1] at h; cases h
  | succ fuel ih =>
    intro x i r h E hE
    rw [g_r01_made_L1.eq_2] at h
    refine Runs.sA 2 [.code (C_69 464),.code (C_69 465),.code (C_69 233),.inLoop (C_69 116),.inBlock 0,.code (C_69 15)] ?_
    refine Runs.sR hE ⟨[(1,(encL cI 0 a)),(4,(.op 0 0 0)),(5,(.op 1 0 0)),(6,(aI i)),(17,(aB (decide (i < ((a.length:Nat):Int)))))],[(0,vO 2 [(aB false),.nil]),(1,vN 2 [(aB (cond neg (decide (((a.length:Nat):Int) > 0)) false)),(.os 2 0 x.length)]),(2,aO 1 (cU .u16) 0 x)],67⟩ (C_69 464) [] [] (kp [1,4,5,6,17]) (kq [0,1,2]) 67 [] trivial ?_
    refine Runs.sC 17 (C_69 930) (C_69 931) (decide (i < ((a.length:Nat):Int))) (fun hq2=>?_) (fun hq2=>?_)
    · have h:=condT h hq2
      refine Runs.sA 3 [.code (C_69 932),.inBlock 1,.code (C_69 467),.inLoop (C_69 116),.inBlock 0,.code (C_69 15)] ?_
      obtain ⟨c,h⟩:=ifSome h
      obtain ⟨c2,h⟩:=ifSome h
      refine Runs.sR hE ⟨[(1,(encL cI 0 a)),(4,(.op 0 0 0)),(5,(.op 1 0 0)),(6,(aI i))],[(0,vO 2 [(aB false),.nil]),(1,vN 2 [(aB (cond neg (decide (((a.length:Nat):Int) > 0)) false)),(.os 195 0 ((x ++ ([(IntKind.u16.wrap ((a.getD ((i).toNat) 0)))]:List Int)).length))]),(195,aO 1 (cU .u16) 0 (x ++ ([(IntKind.u16.wrap ((a.getD ((i).toNat) 0)))]:List Int)))],243⟩ (C_69 932) [] [] (kp [1,4,5,6]) (kq [0] ++ [(1,.var 1 [.keep,.osl ((x ++ ([(IntKind.u16.wrap ((a.getD ((i).toNat) 0)))]:List Int)).length)]),(195,.arr 195 ((x ++ ([(IntKind.u16.wrap ((a.getD ((i).toNat) 0)))]:List Int)).length) (fun zi=>(cU .u16) ((x ++ ([(IntKind.u16.wrap ((a.getD ((i).toNat) 0)))]:List Int)).getD zi 0)))]) 243 [0 < 1,0≤i∧i < ((a.length:Nat):Int),x.length = x.length,(x.length+1) * 2≤140737488355328,0+1≤1,∀ zi,zi < 1→AV.oneL ((fun zi=>([[(.atom (.int .u16 (IntKind.u16.wrap ((a.getD ((i).toNat) 0)))))]]:List (List AV)).getD zi []) (addz 0 zi)) = true,0 < 1,(x.length+1) = (x ++ ([(IntKind.u16.wrap ((a.getD ((i).toNat) 0)))]:List Int)).length,x.length+1 = (x ++ ([(IntKind.u16.wrap ((a.getD ((i).toNat) 0)))]:List Int)).length,∀ zi,zi < (x ++ ([(IntKind.u16.wrap ((a.getD ((i).toNat) 0)))]:List Int)).length→(fun zi=>(cU .u16) ((x ++ ([(IntKind.u16.wrap ((a.getD ((i).toNat) 0)))]:List Int)).getD zi 0)) zi = ((fun zm=>if zm < x.length then (fun zi=>(cU .u16) (x.getD zi 0)) zm else (fun zi=>([[(.atom (.int .u16 (IntKind.u16.wrap ((a.getD ((i).toNat) 0)))))]]:List (List AV)).getD zi []) (zm - x.length))) zi] ⟨o1,c,rfl,c2,z0,(oneN rfl),o1,(len_app_raw rfl rfl),(len_app_raw rfl rfl),(get_app_raw (cU .u16) 0 x ([(IntKind.u16.wrap ((a.getD ((i).toNat) 0)))]:List Int) rfl (fun _ _=>rfl) (fun zq hzq=>get_chunk (cU .u16) 0 ([(IntKind.u16.wrap ((a.getD ((i).toNat) 0)))]:List Int) zq hzq)),trivial⟩ ?_
      refine Runs.sA 1 [.code (C_69 467),.inLoop (C_69 116),.inBlock 0,.code (C_69 15)] ?_
      refine Runs.sR hE ⟨[(1,(encL cI 0 a)),(4,(.op 0 0 0)),(5,(.op 1 0 0)),(6,(aI (w64 (i+1))))],[(0,vO 2 [(aB false),.nil]),(1,vN 2 [(aB (cond neg (decide (((a.length:Nat):Int) > 0)) false)),(.os 195 0 ((x ++ ([(IntKind.u16.wrap ((a.getD ((i).toNat) 0)))]:List Int)).length))]),(195,aO 1 (cU .u16) 0 (x ++ ([(IntKind.u16.wrap ((a.getD ((i).toNat) 0)))]:List Int)))],291⟩ (C_69 467) [] [] (kp [1,4,5,6]) (kq [0,1,195]) 291 [] trivial ?_
      refine Runs.sA 1 [.code (C_69 116),.inLoop (C_69 116),.inBlock 0,.code (C_69 15)] ?_
      exact Runs.sW hE _ [] (kp [1,4,5,6]) (kq [0,1] ++ [(2,.keep 195)]) 3 [] trivial (ih (x ++ ([(IntKind.u16.wrap ((a.getD ((i).toNat) 0)))]:List Int)) (w64 (i+1)) _ h E hE)
    · have h:=condF h hq2
      refine Runs.sA 2 [.code (C_69 30),.code (C_69 31)] ?_
      refine Runs.sR hE ⟨[(4,(.op 0 0 0))],[(0,vN 2 [(aB (cond neg (decide (((a.length:Nat):Int) > 0)) false)),(.os 2 0 x.length)]),(2,aO 1 (cU .u16) 0 x)],99⟩ (C_69 30) [] [] (kp [4]) (kq [0,2]) 99 [0 < 1,0 < 1] ⟨o1,o1,trivial⟩ ?_
      obtain rfl:=Option.some.inj h
      refine Runs.sW hE ⟨[(4,(.op 16 0 0))],[(16,vO 2 [(aB (cond neg (decide (((a.length:Nat):Int) > 0)) false)),(encL (cU .u16) 0 x)])],99⟩ [2] (kp [4]) [(16,.var 0 [.keep,.sl (x.length) (fun zi=>(cU .u16) (x.getD zi 0))])] 99 [x.length = x.length,0+x.length≤x.length,∀ zi,zi < x.length→(fun zi=>(cU .u16) (x.getD zi 0)) zi = (fun zi=>(cU .u16) (x.getD zi 0)) (addz 0 zi)] ⟨rfl,z0,(fun _ _=>rfl),trivial⟩ ?_
      exact Runs.sT Try.f121 [16] [0 < 1] ⟨o1,trivial⟩
theorem g_r01_made_ok (N:Nat) (neg:Bool) (a:List Int) (r:TInt) (h:g_r01_made N neg a = some r):Sound Try.prog 121 [(aB neg),(encL cI 0 a)] [] 0 (.agg (TInt.cells r)) []:=by
  unfold g_r01_made at h
  refine Sound.of_runs (fu:=Try.f121) (c:=C_69 1) (nt:=31) (by kernel_rfl) (by kernel_rfl) (by kernel_rfl) (by kernel_rfl) (fun hm=>rfl) ?_
  intro E hE
  refine Runs.sA 1 [.code (C_69 2),.code (C_69 3)] ?_
  refine Runs.sR hE ⟨[(0,(aB neg)),(1,(encL cI 0 a)),(4,(.op 0 0 0))],[(0,vO 2 [(aB false),.nil])],16⟩ (C_69 2) [] [] (kp [0,1,4]) (kq [0]) 16 [] trivial ?_
  refine Runs.sA 1 [.code (C_69 6),.code (C_69 7)] ?_
  refine Runs.sR hE ⟨[(1,(encL cI 0 a)),(4,(.op 0 0 0)),(5,(.op 128 0 0))],[(0,vO 2 [(aB false),.nil]),(128,vO 2 [(aB (cond neg (decide (((a.length:Nat):Int) > 0)) false)),.nil])],160⟩ (C_69 6) [] [] (kp [1,4,5]) (kq [0,128]) 160 [neg = true→AllP [neg = true],neg = true→AllP [neg = true],neg = true→AllP [neg = true],0 < 1] ⟨(fun hg=>⟨hg,trivial⟩),(fun hg=>⟨hg,trivial⟩),(fun hq=>⟨hq,trivial⟩),o1,trivial⟩ ?_
  refine Runs.sA 2 [.code (C_69 28),.code (C_69 29),.code (C_69 15)] ?_
  refine Runs.sR hE ⟨[(1,(encL cI 0 a)),(4,(.op 0 0 0)),(5,(.op 128 0 0)),(6,(aI 0))],[(0,vO 2 [(aB false),.nil]),(128,vO 2 [(aB (cond neg (decide (((a.length:Nat):Int) > 0)) false)),.nil])],176⟩ (C_69 28) [] [] (kp [1,4,5,6]) (kq [0,128]) 176 [] trivial ?_
  refine Runs.sA 2 [.code (C_69 116),.inLoop (C_69 116),.inBlock 0,.code (C_69 15)] ?_
  exact Runs.sW hE _ [] (kp [1,4,5,6]) (kq [0] ++ [(1,.var 128 [.keep,.nilos 2]),(2,.nil 1 (fun zi=>(cU .u16) (([]:List Int).getD zi 0)))]) 3 [] trivial (g_r01_made_L1_ok N neg a N ([]:List Int) 0 _ h E hE)
noncomputable def C_68 (n:Nat):Code:=cat (bodyOf Try.f92) (pth n)
theorem g_r01_Of_L1_ok (N:Nat) (n:Int) (fuel:Nat):∀ (a:List Int) (u:Int) (r:TInt),g_r01_Of_L1 N n fuel a u = some r→∀ E,EnvOk E 0→Runs Try.prog E 92 25 (SPost E [] (.agg (TInt.cells r))) [.code (C_68 248),.inLoop (C_68 248),.inBlock 0,.code (C_68 63)] ⟨[(0,(aI n)),(2,(.op 0 0 0)),(3,(.os 1 0 a.length)),(4,(.atom (.int .u64 u)))],[(0,vO 2 [(aB false),.nil]),(1,aO 1 cI 0 a)],2⟩:=by
  induction fuel with
  | zero=>intro _ _ r h; rw [g_r01_Of_L1.eq_1] at h; cases h
  | succ fuel ih =>
    intro a u r h E hE
    rw [g_r01_Of_L1.eq_2] at h
    refine Runs.sA 2 [.code (C_68 992),.code (C_68 993),.code (C_68 497),.inLoop (C_68 248),.inBlock 0,.code (C_68 63)] ?_
    refine Runs.sR hE ⟨[(0,(aI n)),(2,(.op 0 0 0)),(3,(.os 1 0 a.length)),(4,(.atom (.int .u64 u))),(12,(aB (decide (u > 0))))],[(0,vO 2 [(aB false),.nil]),(1,aO 1 cI 0 a)],34⟩ (C_68 992) [] [] (kp [0,2,3,4,12]) (kq [0,1]) 34 [] trivial ?_
    refine Runs.sC 12 (C_68 1986) (C_68 1987) (decide (u > 0)) (fun hq3=>?_) (fun hq3=>?_)
    · have h:=condT h hq3
      refine Runs.sA 3 [.code (C_68 1988),.inBlock 1,.code (C_68 995),.inLoop (C_68 248),.inBlock 0,.code (C_68 63)] ?_
      obtain ⟨c,h⟩:=ifSome h
      refine Runs.sR hE ⟨[(0,(aI n)),(2,(.op 0 0 0)),(3,(.os 114 0 ((a ++ ([(w64 ((u.tmod 65536)))]:List Int)).length))),(4,(.atom (.int .u64 u)))],[(0,vO 2 [(aB false),.nil]),(114,aO 1 cI 0 (a ++ ([(w64 ((u.tmod 65536)))]:List Int)))],146⟩ (C_68 1988) [] [] (kp [0,2] ++ [(3,.osl ((a ++ ([(w64 ((u.tmod 65536)))]:List Int)).length))] ++ kp [4]) (kq [0] ++ [(114,.arr 114 ((a ++ ([(w64 ((u.tmod 65536)))]:List Int)).length) (fun zi=>cI ((a ++ ([(w64 ((u.tmod 65536)))]:List Int)).getD zi 0)))]) 146 [(65536:Int) ≠ 0,a.length = a.length,(a.length+1) * 8≤140737488355328,0+1≤1,∀ zi,zi < 1→AV.oneL ((fun zi=>([[(aI (w64 ((u.tmod 65536))))]]:List (List AV)).getD zi []) (addz 0 zi)) = true,(a.length+1) = (a ++ ([(w64 ((u.tmod 65536)))]:List Int)).length,a.length+1 = (a ++ ([(w64 ((u.tmod 65536)))]:List Int)).length,∀ zi,zi < (a ++ ([(w64 ((u.tmod 65536)))]:List Int)).length→(fun zi=>cI ((a ++ ([(w64 ((u.tmod 65536)))]:List Int)).getD zi 0)) zi = ((fun zm=>if zm < a.length then (fun zi=>cI (a.getD zi 0)) zm else (fun zi=>([[(aI (w64 ((u.tmod 65536))))]]:List (List AV)).getD zi []) (zm - a.length))) zi] ⟨(by decide),rfl,c,z0,(oneN rfl),(len_app_raw rfl rfl),(len_app_raw rfl rfl),(get_app_raw cI 0 a ([(w64 ((u.tmod 65536)))]:List Int) rfl (fun _ _=>rfl) (fun zq hzq=>get_chunk cI 0 ([(w64 ((u.tmod 65536)))]:List Int) zq hzq)),trivial⟩ ?_
      refine Runs.sA 1 [.code (C_68 995),.inLoop (C_68 248),.inBlock 0,.code (C_68 63)] ?_
      refine Runs.sR hE ⟨[(0,(aI n)),(2,(.op 0 0 0)),(3,(.os 114 0 ((a ++ ([(w64 ((u.tmod 65536)))]:List Int)).length))),(4,(.atom (.int .u64 (IntKind.u64.wrap (u.tdiv 65536)))))],[(0,vO 2 [(aB false),.nil]),(114,aO 1 cI 0 (a ++ ([(w64 ((u.tmod 65536)))]:List Int)))],194⟩ (C_68 995) [] [] (kp [0,2,3,4]) (kq [0,114]) 194 [(65536:Int) ≠ 0] ⟨(by decide),trivial⟩ ?_
      refine Runs.sA 1 [.code (C_68 248),.inLoop (C_68 248),.inBlock 0,.code (C_68 63)] ?_
      exact Runs.sW hE _ [] (kp [0,2,3,4]) (kq [0] ++ [(1,.keep 114)]) 2 [] trivial (ih (a ++ ([(w64 ((u.tmod 65536)))]:List Int)) (IntKind.u64.wrap (u.tdiv 65536)) _ h E hE)
    · have h:=condF h hq3
      refine Runs.sA 2 [.code (C_68 126),.code (C_68 127)] ?_
      obtain ⟨rmade,hr,h⟩:=bindSome h
      refine Runs.sR hE ⟨[(2,(.op 0 0 0))],[(0,vO 2 (TInt.cells rmade))],114⟩ (C_68 126) [(3,⟨[],true,(.agg (TInt.cells rmade)),[],0,true,none⟩)] [] (kp [2]) (kq [0]) 114 [Sound Try.prog 121 [(aB (decide (n < 0))),(encL cI 0 a)] [] 0 (.agg (TInt.cells rmade)) [],0+a.length≤a.length,0 < 1] ⟨(g_r01_made_ok N (decide (n < 0)) a rmade hr),z0,o1,trivial⟩ ?_
      obtain rfl:=Option.some.inj h
      refine Runs.sW hE ⟨[(2,(.op 16 0 0))],[(16,vO 2 (TInt.cells rmade))],114⟩ [] (kp [2]) [(16,.keep 0)] 114 [] trivial ?_
      exact Runs.sT Try.f92 [16] [0 < 1] ⟨o1,trivial⟩
theorem g_r01_Of_ok (N:Nat) (n:Int) (r:TInt) (h:g_r01_Of N n = some r):Sound Try.prog 92 [(aI n)] [] 0 (.agg (TInt.cells r)) []:=by
  unfold g_r01_Of at h
  refine Sound.of_runs (fu:=Try.f92) (c:=C_68 1) (nt:=25) (by kernel_rfl) (by kernel_rfl) (by kernel_rfl) (by kernel_rfl) (fun hm=>rfl) ?_
  intro E hE
  refine Runs.sA 1 [.code (C_68 2),.code (C_68 3)] ?_
  refine Runs.sR hE ⟨[(0,(aI n)),(2,(.op 0 0 0))],[(0,vO 2 [(aB false),.nil])],16⟩ (C_68 2) [] [] (kp [0,2]) (kq [0]) 16 [] trivial ?_
  refine Runs.sA 1 [.code (C_68 6),.code (C_68 7)] ?_
  refine Runs.sR hE ⟨[(0,(aI n)),(2,(.op 0 0 0)),(3,.nil)],[(0,vO 2 [(aB false),.nil])],32⟩ (C_68 6) [] [] (kp [0,2,3]) (kq [0]) 32 [] trivial ?_
  refine Runs.sA 1 [.code (C_68 14),.code (C_68 15)] ?_
  refine Runs.sR hE ⟨[(0,(aI n)),(2,(.op 0 0 0)),(3,.nil),(4,(.atom (.int .u64 (IntKind.u64.wrap (n)))))],[(0,vO 2 [(aB false),.nil])],80⟩ (C_68 14) [] [] (kp [0,2,3,4]) (kq [0]) 80 [] trivial ?_
  refine Runs.sA 2 [.code (C_68 60),.code (C_68 61),.code (C_68 31)] ?_
  refine Runs.sR hE ⟨[(0,(aI n)),(2,(.op 0 0 0)),(3,.nil),(4,(.atom (.int .u64 (IntKind.u64.wrap (n))))),(8,(aB (decide (n < 0))))],[(0,vO 2 [(aB false),.nil])],112⟩ (C_68 60) [] [] (kp [0,2,3,4,8]) (kq [0]) 112 [] trivial ?_
  refine Runs.sC 8 (C_68 122) (C_68 123) (decide (n < 0)) (fun hq2=>?_) (fun hq2=>?_)
  · have h:=condT h hq2
    refine Runs.sR hE ⟨[(0,(aI n)),(2,(.op 0 0 0)),(3,.nil),(4,(.atom (.int .u64 (IntKind.u64.wrap (0 - (IntKind.u64.wrap (n)))))))],[(0,vO 2 [(aB false),.nil])],160⟩ (C_68 122) [] [] (kp [0,2,3,4]) (kq [0]) 160 [] trivial ?_
    refine Runs.sA 3 [.code (C_68 248),.inLoop (C_68 248),.inBlock 0,.code (C_68 63)] ?_
    exact Runs.sW hE _ [] (kp [0,2] ++ [(3,.nilos 1)] ++ kp [4]) (kq [0] ++ [(1,.nil 1 (fun zi=>cI (([]:List Int).getD zi 0)))]) 2 [] trivial (g_r01_Of_L1_ok N n N ([]:List Int) (IntKind.u64.wrap (0 - (IntKind.u64.wrap (n)))) _ h E hE)
  · have h:=condF h hq2
    refine Runs.sA 4 [.code (C_68 248),.inLoop (C_68 248),.inBlock 0,.code (C_68 63)] ?_
    exact Runs.sW hE _ [] (kp [0,2] ++ [(3,.nilos 1)] ++ kp [4]) (kq [0] ++ [(1,.nil 1 (fun zi=>cI (([]:List Int).getD zi 0)))]) 2 [] trivial (g_r01_Of_L1_ok N n N ([]:List Int) (IntKind.u64.wrap (n)) _ h E hE)
noncomputable def C_67 (n:Nat):Code:=cat (bodyOf Try.f57) (pth n)
theorem g_r01_Q_ok (N:Nat) (n:Int) (r:TRat) (h:g_r01_Q N n = some r):Sound Try.prog 57 [(aI n)] [] 0 (.agg (TRat.cells r)) []:=by
  unfold g_r01_Q at h
  refine Sound.of_runs (fu:=Try.f57) (c:=C_67 1) (nt:=7) (by kernel_rfl) (by kernel_rfl) (by kernel_rfl) (by kernel_rfl) (fun hm=>rfl) ?_
  intro E hE
  refine Runs.sA 1 [.code (C_67 2),.code (C_67 3)] ?_
  refine Runs.sR hE ⟨[(0,(aI n)),(2,(.op 0 0 0))],[(0,vO 4 [(aB false),.nil,(aB false),.nil])],16⟩ (C_67 2) [] [] (kp [0,2]) (kq [0]) 16 [] trivial ?_
  refine Runs.sA 1 [.code (C_67 6),.code (C_67 7)] ?_
  obtain ⟨rOf,hr,h⟩:=bindSome h
  obtain ⟨rOf2,hr2,h⟩:=bindSome h
  refine Runs.sR hE ⟨[(2,(.op 0 0 0))],[(0,vO 4 [(aB rOf.f_Neg),(encL (cU .u16) 0 rOf.f_Limbs),(aB rOf2.f_Neg),(encL (cU .u16) 0 rOf2.f_Limbs)])],96⟩ (C_67 6) [(1,⟨[],true,(.agg (TInt.cells rOf)),[],0,false,none⟩),(2,⟨[],true,(.agg (TInt.cells rOf2)),[],0,false,none⟩)] [] (kp [2]) (kq [0]) 96 [Sound Try.prog 92 [(aI n)] [] 0 (.agg (TInt.cells rOf)) [],Sound Try.prog 92 [(aI 1)] [] 0 (.agg (TInt.cells rOf2)) [],0 < 1] ⟨(g_r01_Of_ok N n rOf hr),(g_r01_Of_ok N 1 rOf2 hr2),o1,trivial⟩ ?_
  obtain rfl:=Option.some.inj h
  refine Runs.sW hE ⟨[(2,(.op 16 0 0))],[(16,vO 4 [(aB rOf.f_Neg),(encL (cU .u16) 0 rOf.f_Limbs),(aB rOf2.f_Neg),(encL (cU .u16) 0 rOf2.f_Limbs)])],96⟩ [] (kp [2]) [(16,.keep 0)] 96 [] trivial ?_
  exact Runs.sT Try.f57 [16] [0 < 1] ⟨o1,trivial⟩
noncomputable def C_66 (n:Nat):Code:=cat (bodyOf Try.f54) (pth n)
theorem g_r06_three_ok (N:Nat) (w:TWind) (r:TS__3_api_Rat) (h:g_r06_three N w = some r):Sound Try.prog 54 [(.agg (TWind.cells w))] [] 0 (.agg (TS__3_api_Rat.cells r)) []:=by
  unfold g_r06_three at h
  refine Sound.of_runs (fu:=Try.f54) (c:=C_66 1) (nt:=13) (by kernel_rfl) (by kernel_rfl) (by kernel_rfl) (by kernel_rfl) (fun hm=>rfl) ?_
  intro E hE
  refine Runs.sA 1 [.code (C_66 2),.code (C_66 3)] ?_
  refine Runs.sR hE ⟨[(1,(.op 0 0 0)),(2,(.op 16 0 0))],[(0,vO 3 (TWind.cells w)),(16,vO 12 [(aB false),.nil,(aB false),.nil,(aB false),.nil,(aB false),.nil,(aB false),.nil,(aB false),.nil])],32⟩ (C_66 2) [] [] (kp [1,2]) (kq [0,16]) 32 [] trivial ?_
  refine Runs.sA 1 [.code (C_66 6),.code (C_66 7)] ?_
  obtain ⟨rQ,hr,h⟩:=bindSome h
  obtain ⟨rQ2,hr2,h⟩:=bindSome h
  obtain ⟨rQ3,hr3,h⟩:=bindSome h
  refine Runs.sR hE ⟨[(2,(.op 16 0 0))],[(16,vO 12 [(aB rQ.f_Num.f_Neg),(encL (cU .u16) 0 rQ.f_Num.f_Limbs),(aB rQ.f_Den.f_Neg),(encL (cU .u16) 0 rQ.f_Den.f_Limbs),(aB rQ2.f_Num.f_Neg),(encL (cU .u16) 0 rQ2.f_Num.f_Limbs),(aB rQ2.f_Den.f_Neg),(encL (cU .u16) 0 rQ2.f_Den.f_Limbs),(aB rQ3.f_Num.f_Neg),(encL (cU .u16) 0 rQ3.f_Num.f_Limbs),(aB rQ3.f_Den.f_Neg),(encL (cU .u16) 0 rQ3.f_Den.f_Limbs)])],208⟩ (C_66 6) [(2,⟨[],true,(.agg (TRat.cells rQ)),[],0,false,none⟩),(5,⟨[],true,(.agg (TRat.cells rQ2)),[],0,false,none⟩),(8,⟨[],true,(.agg (TRat.cells rQ3)),[],0,false,none⟩)] [] (kp [2]) (kq [16]) 208 [0 < 1,Sound Try.prog 57 [(aI w.f_X)] [] 0 (.agg (TRat.cells rQ)) [],0 < 1,Sound Try.prog 57 [(aI w.f_Y)] [] 0 (.agg (TRat.cells rQ2)) [],0 < 1,Sound Try.prog 57 [(aI w.f_Turn)] [] 0 (.agg (TRat.cells rQ3)) [],0 < 1] ⟨o1,(g_r01_Q_ok N w.f_X rQ hr),o1,(g_r01_Q_ok N w.f_Y rQ2 hr2),o1,(g_r01_Q_ok N w.f_Turn rQ3 hr3),o1,trivial⟩ ?_
  obtain rfl:=Option.some.inj h
  refine Runs.sW hE ⟨[(2,(.op 16 0 0))],[(16,vO 12 [(aB rQ.f_Num.f_Neg),(encL (cU .u16) 0 rQ.f_Num.f_Limbs),(aB rQ.f_Den.f_Neg),(encL (cU .u16) 0 rQ.f_Den.f_Limbs),(aB rQ2.f_Num.f_Neg),(encL (cU .u16) 0 rQ2.f_Num.f_Limbs),(aB rQ2.f_Den.f_Neg),(encL (cU .u16) 0 rQ2.f_Den.f_Limbs),(aB rQ3.f_Num.f_Neg),(encL (cU .u16) 0 rQ3.f_Num.f_Limbs),(aB rQ3.f_Den.f_Neg),(encL (cU .u16) 0 rQ3.f_Den.f_Limbs)])],208⟩ [] (kp [2]) (kq [16]) 208 [] trivial ?_
  exact Runs.sT Try.f54 [16] [0 < 1] ⟨o1,trivial⟩
noncomputable def C_74 (n:Nat):Code:=cat (bodyOf Try.f139) (pth n)
theorem g_r01_trim_L1_ok (N:Nat) (a:List Int) (fuel:Nat):∀ (n:Int) (r:(List Int)),g_r01_trim_L1 N a fuel n = some r→∀ E,EnvOk E 0→Runs Try.prog E 139 23 (SPost E [] (encL cI 0 r)) [.code (C_74 56),.inLoop (C_74 56),.inBlock 0,.code (C_74 15)] ⟨[(0,(encL cI 0 a)),(3,(aI n))],[],0⟩:=by
  induction fuel with
  | zero=>intro _ r h; rw [g_r01_trim_L1.eq_1] at h; cases h
  | succ fuel ih =>
    intro n r h E hE
    rw [g_r01_trim_L1.eq_2] at h
    refine Runs.sA 2 [.code (C_74 224),.code (C_74 225),.code (C_74 113),.inLoop (C_74 56),.inBlock 0,.code (C_74 15)] ?_
    obtain ⟨c,h⟩:=ifSome h
    refine Runs.sR hE ⟨[(0,(encL cI 0 a)),(3,(aI n)),(15,(aB (cond (decide (n > 0)) ((a.getD ((w64 (n - 1)).toNat) 0) == 0) false)))],[],160⟩ (C_74 224) [] [] (kp [0,3,15]) [] 160 [(decide (n > 0)) = true→AllP [(decide (n > 0)) = true],(decide (n > 0)) = true→AllP [(decide (n > 0)) = true,(decide (n > 0)) = true,0≤(w64 (n - 1))∧(w64 (n - 1)) < ((a.length:Nat):Int)],(decide (n > 0)) = true→AllP [(decide (n > 0)) = true],(decide (n > 0)) = true→AllP [(decide (n > 0)) = true],(decide (n > 0)) = true→AllP [(decide (n > 0)) = true]] ⟨(fun hg=>⟨hg,trivial⟩),(fun hg=>⟨hg,hg,(c hg),trivial⟩),(fun hg=>⟨hg,trivial⟩),(fun hg=>⟨hg,trivial⟩),(fun hq=>⟨hq,trivial⟩),trivial⟩ ?_
    refine Runs.sC 15 (C_74 450) (C_74 451) (cond (decide (n > 0)) ((a.getD ((w64 (n - 1)).toNat) 0) == 0) false) (fun hq2=>?_) (fun hq2=>?_)
    · have h:=condT h hq2
      refine Runs.sA 2 [.code (C_74 226),.inBlock 1,.inLoop (C_74 56),.inBlock 0,.code (C_74 15)] ?_
      refine Runs.sR hE ⟨[(0,(encL cI 0 a)),(3,(aI (w64 (n - 1))))],[],208⟩ (C_74 226) [] [] (kp [0,3]) [] 208 [] trivial ?_
      refine Runs.sA 2 [.code (C_74 56),.inLoop (C_74 56),.inBlock 0,.code (C_74 15)] ?_
      exact Runs.sW hE _ [] (kp [0,3]) [] 0 [] trivial (ih (w64 (n - 1)) _ h E hE)
    · have h:=condF h hq2
      refine Runs.sA 2 [.code (C_74 30),.code (C_74 31)] ?_
      obtain ⟨c2,h⟩:=ifSome h
      obtain ⟨c3,h⟩:=ifSome h
      obtain ⟨c4,h⟩:=ifSome h
      refine Runs.sR hE ⟨[(2,(.os 224 0 ((([]:List Int) ++ ((a.take ((n).toNat)).drop 0)).length)))],[(224,aO 1 cI 0 (([]:List Int) ++ ((a.take ((n).toNat)).drop 0)))],256⟩ (C_74 30) [] [] [(2,.osl ((([]:List Int) ++ ((a.take ((n).toNat)).drop 0)).length))] [(224,.arr 224 ((([]:List Int) ++ ((a.take ((n).toNat)).drop 0)).length) (fun zi=>cI ((([]:List Int) ++ ((a.take ((n).toNat)).drop 0)).getD zi 0)))] 256 [0≤(n).toNat∧(n).toNat≤a.length,0≤n,0 = 0,(0+(n).toNat - 0) * 8≤140737488355328,∀ zi,zi < (n).toNat - 0→AV.oneL ((fun zi=>cI (a.getD (addz 0 zi) 0)) zi) = true,(0+(n).toNat - 0) = (([]:List Int) ++ ((a.take ((n).toNat)).drop 0)).length,0+(n).toNat - 0 = (([]:List Int) ++ ((a.take ((n).toNat)).drop 0)).length,∀ zi,zi < (([]:List Int) ++ ((a.take ((n).toNat)).drop 0)).length→(fun zi=>cI ((([]:List Int) ++ ((a.take ((n).toNat)).drop 0)).getD zi 0)) zi = ((fun zm=>if zm < 0 then (fun _=>[]) zm else (fun zi=>cI (a.getD (addz 0 zi) 0)) (zm - 0))) zi] ⟨c2,c3,rfl,c4,(fun _ _=>rfl),(len_app_raw rfl (len_ext' a 0 ((n).toNat) c2)),(len_app_raw rfl (len_ext' a 0 ((n).toNat) c2)),(get_app_raw cI 0 ([]:List Int) ((a.take ((n).toNat)).drop 0) rfl (fun zq hzq=>absurd hzq (Nat.not_lt_zero _)) (fun zq hzq=>get_ext cI 0 a 0 ((n).toNat) zq hzq)),trivial⟩ ?_
      obtain rfl:=Option.some.inj h
      refine Runs.sW hE ⟨[(2,(encL cI 0 (([]:List Int) ++ ((a.take ((n).toNat)).drop 0))))],[],256⟩ [224] [(2,.sl ((([]:List Int) ++ ((a.take ((n).toNat)).drop 0)).length) (fun zi=>cI ((([]:List Int) ++ ((a.take ((n).toNat)).drop 0)).getD zi 0)))] [] 256 [(([]:List Int) ++ ((a.take ((n).toNat)).drop 0)).length = (([]:List Int) ++ ((a.take ((n).toNat)).drop 0)).length,0+(([]:List Int) ++ ((a.take ((n).toNat)).drop 0)).length≤(([]:List Int) ++ ((a.take ((n).toNat)).drop 0)).length,∀ zi,zi < (([]:List Int) ++ ((a.take ((n).toNat)).drop 0)).length→(fun zi=>cI ((([]:List Int) ++ ((a.take ((n).toNat)).drop 0)).getD zi 0)) zi = (fun zi=>cI ((([]:List Int) ++ ((a.take ((n).toNat)).drop 0)).getD zi 0)) (addz 0 zi)] ⟨rfl,z0,(fun _ _=>rfl),trivial⟩ ?_
      exact Runs.sT Try.f139 [] [] trivial
theorem g_r01_trim_ok (N:Nat) (a:List Int) (r:(List Int)) (h:g_r01_trim N a = some r):Sound Try.prog 139 [(encL cI 0 a)] [] 0 (encL cI 0 r) []:=by
  unfold g_r01_trim at h
  refine Sound.of_runs (fu:=Try.f139) (c:=C_74 1) (nt:=23) (by kernel_rfl) (by kernel_rfl) (by kernel_rfl) (by kernel_rfl) (fun hm=>rfl) ?_
  intro E hE
  refine Runs.sA 1 [.code (C_74 2),.code (C_74 3)] ?_
  refine Runs.sR hE ⟨[(0,(encL cI 0 a))],[],16⟩ (C_74 2) [] [] (kp [0]) [] 16 [] trivial ?_
  refine Runs.sA 1 [.code (C_74 6),.code (C_74 7)] ?_
  refine Runs.sR hE ⟨[(0,(encL cI 0 a)),(3,(aI ((a.length:Nat):Int)))],[],64⟩ (C_74 6) [] [] (kp [0,3]) [] 64 [] trivial ?_
  refine Runs.sA 3 [.code (C_74 56),.inLoop (C_74 56),.inBlock 0,.code (C_74 15)] ?_
  exact Runs.sW hE _ [] (kp [0,3]) [] 0 [] trivial (g_r01_trim_L1_ok N a N ((a.length:Nat):Int) _ h E hE)
noncomputable def C_73 (n:Nat):Code:=cat (bodyOf Try.f119) (pth n)
theorem g_r01_read_L1_ok (N:Nat) (l:List Int) (fuel:Nat):∀ (a:List Int) (i:Int) (r:(List Int)),g_r01_read_L1 N l fuel a i = some r→∀ E,EnvOk E 0→Runs Try.prog E 119 21 (SPost E [] (encL cI 0 r)) [.code (C_73 116),.inLoop (C_73 116),.inBlock 0,.code (C_73 15)] ⟨[(0,(encL (cU .u16) 0 l)),(3,(.os 0 0 a.length)),(4,(aI i))],[(0,aO 1 cI 0 a)],1⟩:=by
  induction fuel with
  | zero=>intro _ _ r h; rw [g_r01_read_L1.eq_1] at h; cases h
  | succ fuel ih =>
    intro a i r h E hE
    rw [g_r01_read_L1.eq_2] at h
    refine Runs.sA 2 [.code (C_73 464),.code (C_73 465),.code (C_73 233),.inLoop (C_73 116),.inBlock 0,.code (C_73 15)] ?_
    refine Runs.sR hE ⟨[(0,(encL (cU .u16) 0 l)),(3,(.os 0 0 a.length)),(4,(aI i)),(8,(aB (decide (i < ((l.length:Nat):Int)))))],[(0,aO 1 cI 0 a)],65⟩ (C_73 464) [] [] (kp [0,3,4,8]) (kq [0]) 65 [] trivial ?_
    refine Runs.sC 8 (C_73 930) (C_73 931) (decide (i < ((l.length:Nat):Int))) (fun hq2=>?_) (fun hq2=>?_)
    · have h:=condT h hq2
      refine Runs.sA 3 [.code (C_73 932),.inBlock 1,.code (C_73 467),.inLoop (C_73 116),.inBlock 0,.code (C_73 15)] ?_
      obtain ⟨c,h⟩:=ifSome h
      obtain ⟨c2,h⟩:=ifSome h
      refine Runs.sR hE ⟨[(0,(encL (cU .u16) 0 l)),(3,(.os 177 0 ((a ++ ([(w64 ((l.getD ((i).toNat) 0)))]:List Int)).length))),(4,(aI i))],[(177,aO 1 cI 0 (a ++ ([(w64 ((l.getD ((i).toNat) 0)))]:List Int)))],209⟩ (C_73 932) [] [] (kp [0] ++ [(3,.osl ((a ++ ([(w64 ((l.getD ((i).toNat) 0)))]:List Int)).length))] ++ kp [4]) [(177,.arr 177 ((a ++ ([(w64 ((l.getD ((i).toNat) 0)))]:List Int)).length) (fun zi=>cI ((a ++ ([(w64 ((l.getD ((i).toNat) 0)))]:List Int)).getD zi 0)))] 209 [0≤i∧i < ((l.length:Nat):Int),a.length = a.length,(a.length+1) * 8≤140737488355328,0+1≤1,∀ zi,zi < 1→AV.oneL ((fun zi=>([[(aI (w64 ((l.getD ((i).toNat) 0))))]]:List (List AV)).getD zi []) (addz 0 zi)) = true,(a.length+1) = (a ++ ([(w64 ((l.getD ((i).toNat) 0)))]:List Int)).length,a.length+1 = (a ++ ([(w64 ((l.getD ((i).toNat) 0)))]:List Int)).length,∀ zi,zi < (a ++ ([(w64 ((l.getD ((i).toNat) 0)))]:List Int)).length→(fun zi=>cI ((a ++ ([(w64 ((l.getD ((i).toNat) 0)))]:List Int)).getD zi 0)) zi = ((fun zm=>if zm < a.length then (fun zi=>cI (a.getD zi 0)) zm else (fun zi=>([[(aI (w64 ((l.getD ((i).toNat) 0))))]]:List (List AV)).getD zi []) (zm - a.length))) zi] ⟨c,rfl,c2,z0,(oneN rfl),(len_app_raw rfl rfl),(len_app_raw rfl rfl),(get_app_raw cI 0 a ([(w64 ((l.getD ((i).toNat) 0)))]:List Int) rfl (fun _ _=>rfl) (fun zq hzq=>get_chunk cI 0 ([(w64 ((l.getD ((i).toNat) 0)))]:List Int) zq hzq)),trivial⟩ ?_
      refine Runs.sA 1 [.code (C_73 467),.inLoop (C_73 116),.inBlock 0,.code (C_73 15)] ?_
      refine Runs.sR hE ⟨[(0,(encL (cU .u16) 0 l)),(3,(.os 177 0 ((a ++ ([(w64 ((l.getD ((i).toNat) 0)))]:List Int)).length))),(4,(aI (w64 (i+1))))],[(177,aO 1 cI 0 (a ++ ([(w64 ((l.getD ((i).toNat) 0)))]:List Int)))],257⟩ (C_73 467) [] [] (kp [0,3,4]) (kq [177]) 257 [] trivial ?_
      refine Runs.sA 1 [.code (C_73 116),.inLoop (C_73 116),.inBlock 0,.code (C_73 15)] ?_
      exact Runs.sW hE _ [] (kp [0,3,4]) [(0,.keep 177)] 1 [] trivial (ih (a ++ ([(w64 ((l.getD ((i).toNat) 0)))]:List Int)) (w64 (i+1)) _ h E hE)
    · have h:=condF h hq2
      refine Runs.sA 2 [.code (C_73 30),.code (C_73 31)] ?_
      obtain ⟨rtrim,hr,h⟩:=bindSome h
      refine Runs.sR hE ⟨[(2,(encL cI 0 rtrim))],[],113⟩ (C_73 30) [(1,⟨[],true,(encL cI 0 rtrim),[],0,true,none⟩)] [] (kp [2]) [] 113 [Sound Try.prog 139 [(encL cI 0 a)] [] 0 (encL cI 0 rtrim) [],0+a.length≤a.length] ⟨(g_r01_trim_ok N a rtrim hr),z0,trivial⟩ ?_
      obtain rfl:=Option.some.inj h
      refine Runs.sW hE ⟨[(2,(encL cI 0 rtrim))],[],113⟩ [] (kp [2]) [] 113 [] trivial ?_
      exact Runs.sT Try.f119 [] [] trivial
theorem g_r01_read_ok (N:Nat) (l:List Int) (r:(List Int)) (h:g_r01_read N l = some r):Sound Try.prog 119 [(encL (cU .u16) 0 l)] [] 0 (encL cI 0 r) []:=by
  unfold g_r01_read at h
  refine Sound.of_runs (fu:=Try.f119) (c:=C_73 1) (nt:=21) (by kernel_rfl) (by kernel_rfl) (by kernel_rfl) (by kernel_rfl) (fun hm=>rfl) ?_
  intro E hE
  refine Runs.sA 1 [.code (C_73 2),.code (C_73 3)] ?_
  refine Runs.sR hE ⟨[(0,(encL (cU .u16) 0 l))],[],16⟩ (C_73 2) [] [] (kp [0]) [] 16 [] trivial ?_
  refine Runs.sA 1 [.code (C_73 6),.code (C_73 7)] ?_
  refine Runs.sR hE ⟨[(0,(encL (cU .u16) 0 l)),(3,.nil)],[],32⟩ (C_73 6) [] [] (kp [0,3]) [] 32 [] trivial ?_
  refine Runs.sA 2 [.code (C_73 28),.code (C_73 29),.code (C_73 15)] ?_
  refine Runs.sR hE ⟨[(0,(encL (cU .u16) 0 l)),(3,.nil),(4,(aI 0))],[],48⟩ (C_73 28) [] [] (kp [0,3,4]) [] 48 [] trivial ?_
  refine Runs.sA 2 [.code (C_73 116),.inLoop (C_73 116),.inBlock 0,.code (C_73 15)] ?_
  exact Runs.sW hE _ [] (kp [0] ++ [(3,.nilos 0)] ++ kp [4]) [(0,.nil 1 (fun zi=>cI (([]:List Int).getD zi 0)))] 1 [] trivial (g_r01_read_L1_ok N l N ([]:List Int) 0 _ h E hE)
noncomputable def C_78 (n:Nat):Code:=cat (bodyOf Try.f141) (pth n)
theorem g_r01_digit_ok (N:Nat) (a:List Int) (i:Int) (r:Int) (h:g_r01_digit N a i = some r):Sound Try.prog 141 [(encL cI 0 a),(aI i)] [] 0 (aI r) []:=by
  unfold g_r01_digit at h
  refine Sound.of_runs (fu:=Try.f141) (c:=C_78 1) (nt:=13) (by kernel_rfl) (by kernel_rfl) (by kernel_rfl) (by kernel_rfl) (fun hm=>rfl) ?_
  intro E hE
  refine Runs.sA 1 [.code (C_78 2),.code (C_78 3)] ?_
  refine Runs.sR hE ⟨[(0,(encL cI 0 a)),(1,(aI i))],[],16⟩ (C_78 2) [] [] (kp [0,1]) [] 16 [] trivial ?_
  refine Runs.sA 2 [.code (C_78 12),.code (C_78 13),.code (C_78 7)] ?_
  refine Runs.sR hE ⟨[(0,(encL cI 0 a)),(1,(aI i)),(8,(aB (decide (i < ((a.length:Nat):Int)))))],[],80⟩ (C_78 12) [] [] (kp [0,1,8]) [] 80 [] trivial ?_
  refine Runs.sC 8 (C_78 26) (C_78 27) (decide (i < ((a.length:Nat):Int))) (fun hq2=>?_) (fun hq2=>?_)
  · have h:=condT h hq2
    refine Runs.sA 1 [.code (C_78 52),.code (C_78 53),.code (C_78 7)] ?_
    obtain ⟨c,h⟩:=ifSome h
    refine Runs.sR hE ⟨[(4,(aI (a.getD ((i).toNat) 0)))],[],160⟩ (C_78 52) [] [] (kp [4]) [] 160 [0≤i∧i < ((a.length:Nat):Int)] ⟨c,trivial⟩ ?_
    obtain rfl:=Option.some.inj h
    refine Runs.sW hE ⟨[(4,(aI (a.getD ((i).toNat) 0)))],[],160⟩ [] (kp [4]) [] 160 [] trivial ?_
    exact Runs.sT Try.f141 [] [] trivial
  · have h:=condF h hq2
    refine Runs.sA 2 [.code (C_78 14),.code (C_78 15)] ?_
    refine Runs.sR hE ⟨[(4,(aI 0))],[],96⟩ (C_78 14) [] [] (kp [4]) [] 96 [] trivial ?_
    obtain rfl:=Option.some.inj h
    refine Runs.sW hE ⟨[(4,(aI 0))],[],96⟩ [] (kp [4]) [] 96 [] trivial ?_
    exact Runs.sT Try.f141 [] [] trivial
noncomputable def C_77 (n:Nat):Code:=cat (bodyOf Try.f127) (pth n)
theorem g_r01_times_L2_ok (N:Nat) (a:List Int) (b:List Int) (i:Int) (K_g_r01_times_L1:(List Int)→Int→Option ((List Int)))
    (hK_g_r01_times_L1:∀ (out:List Int) (i:Int) (r:(List Int)),K_g_r01_times_L1 out i = some r→∀ E,EnvOk E 0→Runs Try.prog E 127 61 (SPost E [] (encL cI 0 r)) [.code (C_77 116),.inLoop (C_77 116),.inBlock 0,.code (C_77 15)] ⟨[(0,(encL cI 0 a)),(1,(encL cI 0 b)),(5,(.os 0 0 out.length)),(6,(aI i))],[(0,aO 1 cI 0 out)],1⟩) (fuel:Nat):∀ (out2:List Int) (carry:Int) (k:Int) (r:(List Int)),g_r01_times_L2 N a b i K_g_r01_times_L1 fuel out2 carry k = some r→∀ E,EnvOk E 0→Runs Try.prog E 127 61 (SPost E [] (encL cI 0 r)) [.code (C_77 14924),.inLoop (C_77 14924),.inBlock 2,.inBlock 1,.code (C_77 467),.inLoop (C_77 116),.inBlock 0,.code (C_77 15)] ⟨[(0,(encL cI 0 a)),(1,(encL cI 0 b)),(5,(.os 0 0 out2.length)),(6,(aI i)),(7,(aI carry)),(8,(aI k))],[(0,aO 1 cI 0 out2)],1⟩:=by
  induction fuel with
  | zero=>intro _ _ _ r h; rw [g_r01_times_L2.eq_1] at h; cases h
  | succ fuel ih =>
    intro out2 carry k r h E hE
    rw [g_r01_times_L2.eq_2] at h
    refine Runs.sA 2 [.code (C_77 59696),.code (C_77 59697),.code (C_77 29849),.inLoop (C_77 14924),.inBlock 2,.inBlock 1,.code (C_77 467),.inLoop (C_77 116),.inBlock 0,.code (C_77 15)] ?_
    refine Runs.sR hE ⟨[(0,(encL cI 0 a)),(1,(encL cI 0 b)),(5,(.os 0 0 out2.length)),(6,(aI i)),(7,(aI carry)),(8,(aI k)),(30,(aB (cond (decide (k < ((b.length:Nat):Int))) true (decide (carry > 0)))))],[(0,aO 1 cI 0 out2)],129⟩ (C_77 59696) [] [] (kp [0,1,5,6,7,8,30]) (kq [0]) 129 [(!(decide (k < ((b.length:Nat):Int)))) = true→AllP [(!(decide (k < ((b.length:Nat):Int)))) = true],(!(decide (k < ((b.length:Nat):Int)))) = true→AllP [(!(decide (k < ((b.length:Nat):Int)))) = true]] ⟨(fun hg=>⟨hg,trivial⟩),(fun hq=>⟨hq,trivial⟩),trivial⟩ ?_
    refine Runs.sC 30 (C_77 119394) (C_77 119395) (cond (decide (k < ((b.length:Nat):Int))) true (decide (carry > 0))) (fun hq3=>?_) (fun hq3=>?_)
    · have h:=condT h hq3
      refine Runs.sA 4 [.code (C_77 238792),.code (C_77 238793),.inBlock 3,.code (C_77 59699),.inLoop (C_77 14924),.inBlock 2,.inBlock 1,.code (C_77 467),.inLoop (C_77 116),.inBlock 0,.code (C_77 15)] ?_
      obtain ⟨c2,h⟩:=ifSome h
      obtain ⟨c3,h⟩:=ifSome h
      obtain ⟨rdigit,hr,h⟩:=bindSome h
      refine Runs.sR hE ⟨[(0,(encL cI 0 a)),(1,(encL cI 0 b)),(5,(.os 0 0 out2.length)),(6,(aI i)),(8,(aI k)),(9,(aI (w64 ((w64 ((out2.getD ((w64 (i+k)).toNat) 0)+(w64 ((a.getD ((i).toNat) 0) * rdigit))))+carry))))],[(0,aO 1 cI 0 out2)],417⟩ (C_77 238792) [(12,⟨[],true,(aI rdigit),[],0,false,none⟩)] [] (kp [0,1,5,6,8,9]) (kq [0]) 417 [0≤(w64 (i+k))∧(w64 (i+k)) < ((out2.length:Nat):Int),(w64 (i+k)).toNat < out2.length,0≤i∧i < ((a.length:Nat):Int),Sound Try.prog 141 [(encL cI 0 b),(aI k)] [] 0 (aI rdigit) []] ⟨c2,(ltOf c2),c3,(g_r01_digit_ok N b k rdigit hr),trivial⟩ ?_
      refine Runs.sA 1 [.code (C_77 477586),.code (C_77 477587),.inBlock 3,.code (C_77 59699),.inLoop (C_77 14924),.inBlock 2,.inBlock 1,.code (C_77 467),.inLoop (C_77 116),.inBlock 0,.code (C_77 15)] ?_
      refine Runs.sR hE ⟨[(0,(encL cI 0 a)),(1,(encL cI 0 b)),(5,(.os 0 0 ((out2.set ((w64 (i+k)).toNat) ((w64 ((w64 ((out2.getD ((w64 (i+k)).toNat) 0)+(w64 ((a.getD ((i).toNat) 0) * rdigit))))+carry)).tmod 65536)).length))),(6,(aI i)),(8,(aI k)),(9,(aI (w64 ((w64 ((out2.getD ((w64 (i+k)).toNat) 0)+(w64 ((a.getD ((i).toNat) 0) * rdigit))))+carry))))],[(0,aO 1 cI 0 (out2.set ((w64 (i+k)).toNat) ((w64 ((w64 ((out2.getD ((w64 (i+k)).toNat) 0)+(w64 ((a.getD ((i).toNat) 0) * rdigit))))+carry)).tmod 65536)))],545⟩ (C_77 477586) [] [] (kp [0,1] ++ [(5,.osl ((out2.set ((w64 (i+k)).toNat) ((w64 ((w64 ((out2.getD ((w64 (i+k)).toNat) 0)+(w64 ((a.getD ((i).toNat) 0) * rdigit))))+carry)).tmod 65536)).length))] ++ kp [6,8,9]) [(0,.arr 0 ((out2.set ((w64 (i+k)).toNat) ((w64 ((w64 ((out2.getD ((w64 (i+k)).toNat) 0)+(w64 ((a.getD ((i).toNat) 0) * rdigit))))+carry)).tmod 65536)).length) (fun zi=>cI ((out2.set ((w64 (i+k)).toNat) ((w64 ((w64 ((out2.getD ((w64 (i+k)).toNat) 0)+(w64 ((a.getD ((i).toNat) 0) * rdigit))))+carry)).tmod 65536)).getD zi 0)))] 545 [(65536:Int) ≠ 0,0≤(w64 (i+k))∧(w64 (i+k)) < ((out2.length:Nat):Int),(w64 (i+k)).toNat < out2.length,out2.length = (out2.set ((w64 (i+k)).toNat) ((w64 ((w64 ((out2.getD ((w64 (i+k)).toNat) 0)+(w64 ((a.getD ((i).toNat) 0) * rdigit))))+carry)).tmod 65536)).length,out2.length = (out2.set ((w64 (i+k)).toNat) ((w64 ((w64 ((out2.getD ((w64 (i+k)).toNat) 0)+(w64 ((a.getD ((i).toNat) 0) * rdigit))))+carry)).tmod 65536)).length,∀ zi,zi < (out2.set ((w64 (i+k)).toNat) ((w64 ((w64 ((out2.getD ((w64 (i+k)).toNat) 0)+(w64 ((a.getD ((i).toNat) 0) * rdigit))))+carry)).tmod 65536)).length→(fun zi=>cI ((out2.set ((w64 (i+k)).toNat) ((w64 ((w64 ((out2.getD ((w64 (i+k)).toNat) 0)+(w64 ((a.getD ((i).toNat) 0) * rdigit))))+carry)).tmod 65536)).getD zi 0)) zi = ((fun zm=>if zm = (w64 (i+k)).toNat then [(aI ((w64 ((w64 ((out2.getD ((w64 (i+k)).toNat) 0)+(w64 ((a.getD ((i).toNat) 0) * rdigit))))+carry)).tmod 65536))] else (fun zi=>cI (out2.getD zi 0)) zm)) zi] ⟨(by decide),c2,(ltOf c2),(len_set_raw rfl),(len_set_raw rfl),(get_set_raw cI 0 out2 ((w64 (i+k)).toNat) ((w64 ((w64 ((out2.getD ((w64 (i+k)).toNat) 0)+(w64 ((a.getD ((i).toNat) 0) * rdigit))))+carry)).tmod 65536) (fun _ _=>rfl)),trivial⟩ ?_
      refine Runs.sR hE ⟨[(0,(encL cI 0 a)),(1,(encL cI 0 b)),(5,(.os 0 0 ((out2.set ((w64 (i+k)).toNat) ((w64 ((w64 ((out2.getD ((w64 (i+k)).toNat) 0)+(w64 ((a.getD ((i).toNat) 0) * rdigit))))+carry)).tmod 65536)).length))),(6,(aI i)),(7,(aI (w64 ((w64 ((w64 ((out2.getD ((w64 (i+k)).toNat) 0)+(w64 ((a.getD ((i).toNat) 0) * rdigit))))+carry)).tdiv 65536)))),(8,(aI k))],[(0,aO 1 cI 0 (out2.set ((w64 (i+k)).toNat) ((w64 ((w64 ((out2.getD ((w64 (i+k)).toNat) 0)+(w64 ((a.getD ((i).toNat) 0) * rdigit))))+carry)).tmod 65536)))],593⟩ (C_77 477587) [] [] (kp [0,1,5,6,7,8]) (kq [0]) 593 [(65536:Int) ≠ 0] ⟨(by decide),trivial⟩ ?_
      refine Runs.sA 1 [.code (C_77 59699),.inLoop (C_77 14924),.inBlock 2,.inBlock 1,.code (C_77 467),.inLoop (C_77 116),.inBlock 0,.code (C_77 15)] ?_
      refine Runs.sR hE ⟨[(0,(encL cI 0 a)),(1,(encL cI 0 b)),(5,(.os 0 0 ((out2.set ((w64 (i+k)).toNat) ((w64 ((w64 ((out2.getD ((w64 (i+k)).toNat) 0)+(w64 ((a.getD ((i).toNat) 0) * rdigit))))+carry)).tmod 65536)).length))),(6,(aI i)),(7,(aI (w64 ((w64 ((w64 ((out2.getD ((w64 (i+k)).toNat) 0)+(w64 ((a.getD ((i).toNat) 0) * rdigit))))+carry)).tdiv 65536)))),(8,(aI (w64 (k+1))))],[(0,aO 1 cI 0 (out2.set ((w64 (i+k)).toNat) ((w64 ((w64 ((out2.getD ((w64 (i+k)).toNat) 0)+(w64 ((a.getD ((i).toNat) 0) * rdigit))))+carry)).tmod 65536)))],641⟩ (C_77 59699) [] [] (kp [0,1,5,6,7,8]) (kq [0]) 641 [] trivial ?_
      refine Runs.sA 1 [.code (C_77 14924),.inLoop (C_77 14924),.inBlock 2,.inBlock 1,.code (C_77 467),.inLoop (C_77 116),.inBlock 0,.code (C_77 15)] ?_
      exact Runs.sW hE _ [] (kp [0,1,5,6,7,8]) (kq [0]) 1 [] trivial (ih (out2.set ((w64 (i+k)).toNat) ((w64 ((w64 ((out2.getD ((w64 (i+k)).toNat) 0)+(w64 ((a.getD ((i).toNat) 0) * rdigit))))+carry)).tmod 65536)) (w64 ((w64 ((w64 ((out2.getD ((w64 (i+k)).toNat) 0)+(w64 ((a.getD ((i).toNat) 0) * rdigit))))+carry)).tdiv 65536)) (w64 (k+1)) _ h E hE)
    · have h:=condF h hq3
      refine Runs.sA 2 [.code (C_77 467),.inLoop (C_77 116),.inBlock 0,.code (C_77 15)] ?_
      refine Runs.sR hE ⟨[(0,(encL cI 0 a)),(1,(encL cI 0 b)),(5,(.os 0 0 out2.length)),(6,(aI (w64 (i+1))))],[(0,aO 1 cI 0 out2)],177⟩ (C_77 467) [] [] (kp [0,1,5,6]) (kq [0]) 177 [] trivial ?_
      refine Runs.sA 1 [.code (C_77 116),.inLoop (C_77 116),.inBlock 0,.code (C_77 15)] ?_
      exact Runs.sW hE _ [] (kp [0,1,5,6]) (kq [0]) 1 [] trivial (hK_g_r01_times_L1 out2 (w64 (i+1)) _ h E hE)
theorem g_r01_times_L1_ok (N:Nat) (a:List Int) (b:List Int) (fuel:Nat):∀ (out:List Int) (i:Int) (r:(List Int)),g_r01_times_L1 N a b fuel out i = some r→∀ E,EnvOk E 0→Runs Try.prog E 127 61 (SPost E [] (encL cI 0 r)) [.code (C_77 116),.inLoop (C_77 116),.inBlock 0,.code (C_77 15)] ⟨[(0,(encL cI 0 a)),(1,(encL cI 0 b)),(5,(.os 0 0 out.length)),(6,(aI i))],[(0,aO 1 cI 0 out)],1⟩:=by
  induction fuel with
  | zero=>intro _ _ r h; rw [g_r01_times_L1.eq_1] at h; cases h
  | succ fuel ih =>
    intro out i r h E hE
    rw [g_r01_times_L1.eq_2] at h
    refine Runs.sA 2 [.code (C_77 464),.code (C_77 465),.code (C_77 233),.inLoop (C_77 116),.inBlock 0,.code (C_77 15)] ?_
    refine Runs.sR hE ⟨[(0,(encL cI 0 a)),(1,(encL cI 0 b)),(5,(.os 0 0 out.length)),(6,(aI i)),(20,(aB (decide (i < ((a.length:Nat):Int)))))],[(0,aO 1 cI 0 out)],65⟩ (C_77 464) [] [] (kp [0,1,5,6,20]) (kq [0]) 65 [] trivial ?_
    refine Runs.sC 20 (C_77 930) (C_77 931) (decide (i < ((a.length:Nat):Int))) (fun hq2=>?_) (fun hq2=>?_)
    · have h:=condT h hq2
      refine Runs.sA 4 [.code (C_77 1864),.code (C_77 1865),.inBlock 1,.code (C_77 467),.inLoop (C_77 116),.inBlock 0,.code (C_77 15)] ?_
      refine Runs.sR hE ⟨[(0,(encL cI 0 a)),(1,(encL cI 0 b)),(5,(.os 0 0 out.length)),(6,(aI i)),(7,(aI 0))],[(0,aO 1 cI 0 out)],81⟩ (C_77 1864) [] [] (kp [0,1,5,6,7]) (kq [0]) 81 [] trivial ?_
      refine Runs.sA 1 [.code (C_77 3730),.code (C_77 3731),.inBlock 1,.code (C_77 467),.inLoop (C_77 116),.inBlock 0,.code (C_77 15)] ?_
      refine Runs.sR hE ⟨[(0,(encL cI 0 a)),(1,(encL cI 0 b)),(5,(.os 0 0 out.length)),(6,(aI i)),(7,(aI 0)),(8,(aI 0))],[(0,aO 1 cI 0 out)],97⟩ (C_77 3730) [] [] (kp [0,1,5,6,7,8]) (kq [0]) 97 [] trivial ?_
      refine Runs.sA 2 [.code (C_77 14924),.inLoop (C_77 14924),.inBlock 2,.inBlock 1,.code (C_77 467),.inLoop (C_77 116),.inBlock 0,.code (C_77 15)] ?_
      exact Runs.sW hE _ [] (kp [0,1,5,6,7,8]) (kq [0]) 1 [] trivial (g_r01_times_L2_ok N a b i (g_r01_times_L1 N a b fuel) ih N out 0 0 _ h E hE)
    · have h:=condF h hq2
      refine Runs.sA 2 [.code (C_77 30),.code (C_77 31)] ?_
      obtain ⟨rtrim,hr2,h⟩:=bindSome h
      refine Runs.sR hE ⟨[(4,(encL cI 0 rtrim))],[],113⟩ (C_77 30) [(1,⟨[],true,(encL cI 0 rtrim),[],0,true,none⟩)] [] (kp [4]) [] 113 [Sound Try.prog 139 [(encL cI 0 out)] [] 0 (encL cI 0 rtrim) [],0+out.length≤out.length] ⟨(g_r01_trim_ok N out rtrim hr2),z0,trivial⟩ ?_
      obtain rfl:=Option.some.inj h
      refine Runs.sW hE ⟨[(4,(encL cI 0 rtrim))],[],113⟩ [] (kp [4]) [] 113 [] trivial ?_
      exact Runs.sT Try.f127 [] [] trivial
theorem g_r01_times_ok (N:Nat) (a:List Int) (b:List Int) (r:(List Int)) (h:g_r01_times N a b = some r):Sound Try.prog 127 [(encL cI 0 a),(encL cI 0 b)] [] 0 (encL cI 0 r) []:=by
  unfold g_r01_times at h
  refine Sound.of_runs (fu:=Try.f127) (c:=C_77 1) (nt:=61) (by kernel_rfl) (by kernel_rfl) (by kernel_rfl) (by kernel_rfl) (fun hm=>rfl) ?_
  intro E hE
  refine Runs.sA 1 [.code (C_77 2),.code (C_77 3)] ?_
  refine Runs.sR hE ⟨[(0,(encL cI 0 a)),(1,(encL cI 0 b))],[],16⟩ (C_77 2) [] [] (kp [0,1]) [] 16 [] trivial ?_
  refine Runs.sA 1 [.code (C_77 6),.code (C_77 7)] ?_
  obtain ⟨c,h⟩:=ifSome h
  refine Runs.sR hE ⟨[(0,(encL cI 0 a)),(1,(encL cI 0 b)),(5,(.os 112 0 ((List.replicate ((w64 ((w64 (((a.length:Nat):Int)+((b.length:Nat):Int)))+1)).toNat) 0:List Int).length)))],[(112,aO 1 cI 0 (List.replicate ((w64 ((w64 (((a.length:Nat):Int)+((b.length:Nat):Int)))+1)).toNat) 0:List Int))],144⟩ (C_77 6) [] [] (kp [0,1] ++ [(5,.osl ((List.replicate ((w64 ((w64 (((a.length:Nat):Int)+((b.length:Nat):Int)))+1)).toNat) 0:List Int).length))]) [(112,.arr 112 ((List.replicate ((w64 ((w64 (((a.length:Nat):Int)+((b.length:Nat):Int)))+1)).toNat) 0:List Int).length) (fun zi=>cI ((List.replicate ((w64 ((w64 (((a.length:Nat):Int)+((b.length:Nat):Int)))+1)).toNat) 0:List Int).getD zi 0)))] 144 [0≤(w64 ((w64 (((a.length:Nat):Int)+((b.length:Nat):Int)))+1)),(w64 ((w64 (((a.length:Nat):Int)+((b.length:Nat):Int)))+1))≤(w64 ((w64 (((a.length:Nat):Int)+((b.length:Nat):Int)))+1)),(8:Int) * (w64 ((w64 (((a.length:Nat):Int)+((b.length:Nat):Int)))+1))≤281474976710656,(w64 ((w64 (((a.length:Nat):Int)+((b.length:Nat):Int)))+1))≤9223372036854775807,(w64 ((w64 (((a.length:Nat):Int)+((b.length:Nat):Int)))+1)).toNat = (List.replicate ((w64 ((w64 (((a.length:Nat):Int)+((b.length:Nat):Int)))+1)).toNat) 0:List Int).length,(w64 ((w64 (((a.length:Nat):Int)+((b.length:Nat):Int)))+1)).toNat = (List.replicate ((w64 ((w64 (((a.length:Nat):Int)+((b.length:Nat):Int)))+1)).toNat) 0:List Int).length,∀ zi,zi < (List.replicate ((w64 ((w64 (((a.length:Nat):Int)+((b.length:Nat):Int)))+1)).toNat) 0:List Int).length→(fun zi=>cI ((List.replicate ((w64 ((w64 (((a.length:Nat):Int)+((b.length:Nat):Int)))+1)).toNat) 0:List Int).getD zi 0)) zi = (fun _=>[(aI 0)]) zi] ⟨c.1,(Int.le_refl _),c.2.1,c.2.2,(List.length_replicate).symm,(List.length_replicate).symm,(fun zq hzq=>get_rep cI 0 0 ((w64 ((w64 (((a.length:Nat):Int)+((b.length:Nat):Int)))+1)).toNat) zq hzq),trivial⟩ ?_
  refine Runs.sA 2 [.code (C_77 28),.code (C_77 29),.code (C_77 15)] ?_
  refine Runs.sR hE ⟨[(0,(encL cI 0 a)),(1,(encL cI 0 b)),(5,(.os 112 0 ((List.replicate ((w64 ((w64 (((a.length:Nat):Int)+((b.length:Nat):Int)))+1)).toNat) 0:List Int).length))),(6,(aI 0))],[(112,aO 1 cI 0 (List.replicate ((w64 ((w64 (((a.length:Nat):Int)+((b.length:Nat):Int)))+1)).toNat) 0:List Int))],160⟩ (C_77 28) [] [] (kp [0,1,5,6]) (kq [112]) 160 [] trivial ?_
  refine Runs.sA 2 [.code (C_77 116),.inLoop (C_77 116),.inBlock 0,.code (C_77 15)] ?_
  exact Runs.sW hE _ [] (kp [0,1,5,6]) [(0,.keep 112)] 1 [] trivial (g_r01_times_L1_ok N a b N (List.replicate ((w64 ((w64 (((a.length:Nat):Int)+((b.length:Nat):Int)))+1)).toNat) 0:List Int) 0 _ h E hE)
noncomputable def C_79 (n:Nat):Code:=cat (bodyOf Try.f125) (pth n)
theorem g_r01_compare_L1_ok (N:Nat) (a:List Int) (b:List Int) (fuel:Nat):∀ (i:Int) (r:Int),g_r01_compare_L1 N a b fuel i = some r→∀ E,EnvOk E 0→Runs Try.prog E 125 41 (SPost E [] (aI r)) [.code (C_79 116),.inLoop (C_79 116),.inBlock 0,.code (C_79 15)] ⟨[(0,(encL cI 0 a)),(1,(encL cI 0 b)),(5,(aI i))],[],0⟩:=by
  induction fuel with
  | zero=>intro _ r h; rw [g_r01_compare_L1.eq_1] at h; cases h
  | succ fuel ih =>
    intro i r h E hE
    rw [g_r01_compare_L1.eq_2] at h
    refine Runs.sA 2 [.code (C_79 464),.code (C_79 465),.code (C_79 233),.inLoop (C_79 116),.inBlock 0,.code (C_79 15)] ?_
    refine Runs.sR hE ⟨[(0,(encL cI 0 a)),(1,(encL cI 0 b)),(5,(aI i)),(20,(aB (decide (i ≥ 0))))],[],32⟩ (C_79 464) [] [] (kp [0,1,5,20]) [] 32 [] trivial ?_
    refine Runs.sC 20 (C_79 930) (C_79 931) (decide (i ≥ 0)) (fun hq3=>?_) (fun hq3=>?_)
    · have h:=condT h hq3
      refine Runs.sA 4 [.code (C_79 1864),.code (C_79 1865),.inBlock 1,.code (C_79 467),.inLoop (C_79 116),.inBlock 0,.code (C_79 15)] ?_
      obtain ⟨c,h⟩:=ifSome h
      obtain ⟨c2,h⟩:=ifSome h
      refine Runs.sR hE ⟨[(0,(encL cI 0 a)),(1,(encL cI 0 b)),(5,(aI i)),(31,(aB ((a.getD ((i).toNat) 0) != (b.getD ((i).toNat) 0))))],[],176⟩ (C_79 1864) [] [] (kp [0,1,5,31]) [] 176 [0≤i∧i < ((a.length:Nat):Int),0≤i∧i < ((b.length:Nat):Int)] ⟨c,c2,trivial⟩ ?_
      refine Runs.sC 31 (C_79 3730) (C_79 3731) ((a.getD ((i).toNat) 0) != (b.getD ((i).toNat) 0)) (fun hq4=>?_) (fun hq4=>?_)
      · have h:=condT h hq4
        refine Runs.sA 1 [.code (C_79 7460),.code (C_79 7461),.inBlock 1,.code (C_79 467),.inLoop (C_79 116),.inBlock 0,.code (C_79 15)] ?_
        refine Runs.sR hE ⟨[(4,(aI (w64 ((a.getD ((i).toNat) 0) - (b.getD ((i).toNat) 0)))))],[],336⟩ (C_79 7460) [] [] (kp [4]) [] 336 [0≤i∧i < ((a.length:Nat):Int),0≤i∧i < ((b.length:Nat):Int)] ⟨c,c2,trivial⟩ ?_
        obtain rfl:=Option.some.inj h
        refine Runs.sW hE ⟨[(4,(aI (w64 ((a.getD ((i).toNat) 0) - (b.getD ((i).toNat) 0)))))],[],336⟩ [] (kp [4]) [] 336 [] trivial ?_
        exact Runs.sT Try.f125 [] [] trivial
      · have h:=condF h hq4
        refine Runs.sA 2 [.code (C_79 467),.inLoop (C_79 116),.inBlock 0,.code (C_79 15)] ?_
        refine Runs.sR hE ⟨[(0,(encL cI 0 a)),(1,(encL cI 0 b)),(5,(aI (w64 (i - 1))))],[],224⟩ (C_79 467) [] [] (kp [0,1,5]) [] 224 [] trivial ?_
        refine Runs.sA 1 [.code (C_79 116),.inLoop (C_79 116),.inBlock 0,.code (C_79 15)] ?_
        exact Runs.sW hE _ [] (kp [0,1,5]) [] 0 [] trivial (ih (w64 (i - 1)) _ h E hE)
    · have h:=condF h hq3
      refine Runs.sA 2 [.code (C_79 30),.code (C_79 31)] ?_
      refine Runs.sR hE ⟨[(4,(aI 0))],[],48⟩ (C_79 30) [] [] (kp [4]) [] 48 [] trivial ?_
      obtain rfl:=Option.some.inj h
      refine Runs.sW hE ⟨[(4,(aI 0))],[],48⟩ [] (kp [4]) [] 48 [] trivial ?_
      exact Runs.sT Try.f125 [] [] trivial
theorem g_r01_compare_ok (N:Nat) (a:List Int) (b:List Int) (r:Int) (h:g_r01_compare N a b = some r):Sound Try.prog 125 [(encL cI 0 a),(encL cI 0 b)] [] 0 (aI r) []:=by
  unfold g_r01_compare at h
  refine Sound.of_runs (fu:=Try.f125) (c:=C_79 1) (nt:=41) (by kernel_rfl) (by kernel_rfl) (by kernel_rfl) (by kernel_rfl) (fun hm=>rfl) ?_
  intro E hE
  refine Runs.sA 1 [.code (C_79 2),.code (C_79 3)] ?_
  refine Runs.sR hE ⟨[(0,(encL cI 0 a)),(1,(encL cI 0 b))],[],16⟩ (C_79 2) [] [] (kp [0,1]) [] 16 [] trivial ?_
  refine Runs.sA 2 [.code (C_79 12),.code (C_79 13),.code (C_79 7)] ?_
  refine Runs.sR hE ⟨[(0,(encL cI 0 a)),(1,(encL cI 0 b)),(10,(aB (((a.length:Nat):Int) != ((b.length:Nat):Int))))],[],96⟩ (C_79 12) [] [] (kp [0,1,10]) [] 96 [] trivial ?_
  refine Runs.sC 10 (C_79 26) (C_79 27) (((a.length:Nat):Int) != ((b.length:Nat):Int)) (fun hq2=>?_) (fun hq2=>?_)
  · have h:=condT h hq2
    refine Runs.sA 1 [.code (C_79 52),.code (C_79 53),.code (C_79 7)] ?_
    refine Runs.sR hE ⟨[(4,(aI (w64 (((a.length:Nat):Int) - ((b.length:Nat):Int)))))],[],192⟩ (C_79 52) [] [] (kp [4]) [] 192 [] trivial ?_
    obtain rfl:=Option.some.inj h
    refine Runs.sW hE ⟨[(4,(aI (w64 (((a.length:Nat):Int) - ((b.length:Nat):Int)))))],[],192⟩ [] (kp [4]) [] 192 [] trivial ?_
    exact Runs.sT Try.f125 [] [] trivial
  · have h:=condF h hq2
    refine Runs.sA 3 [.code (C_79 28),.code (C_79 29),.code (C_79 15)] ?_
    refine Runs.sR hE ⟨[(0,(encL cI 0 a)),(1,(encL cI 0 b)),(5,(aI (w64 (((a.length:Nat):Int) - 1))))],[],160⟩ (C_79 28) [] [] (kp [0,1,5]) [] 160 [] trivial ?_
    refine Runs.sA 2 [.code (C_79 116),.inLoop (C_79 116),.inBlock 0,.code (C_79 15)] ?_
    exact Runs.sW hE _ [] (kp [0,1,5]) [] 0 [] trivial (g_r01_compare_L1_ok N a b N (w64 (((a.length:Nat):Int) - 1)) _ h E hE)
noncomputable def C_80 (n:Nat):Code:=cat (bodyOf Try.f126) (pth n)
theorem g_r01_minus_J2_ok (N:Nat) (a:List Int) (b:List Int) (out:List Int) (i:Int) (K_g_r01_minus_L1:(List Int)→Int→Int→Option ((List Int)))
    (hK_g_r01_minus_L1:∀ (out:List Int) (borrow:Int) (i:Int) (r:(List Int)),K_g_r01_minus_L1 out borrow i = some r→∀ E,EnvOk E 0→Runs Try.prog E 126 35 (SPost E [] (encL cI 0 r)) [.code (C_80 244),.inLoop (C_80 244),.inBlock 0,.code (C_80 31)] ⟨[(0,(encL cI 0 a)),(1,(encL cI 0 b)),(5,(.os 0 0 out.length)),(6,(aI borrow)),(7,(aI i))],[(0,aO 1 cI 0 out)],1⟩) (borrow2:Int) (s:Int) (r:(List Int)) (h:g_r01_minus_J2 N a b out i K_g_r01_minus_L1 borrow2 s = some r):∀ E,EnvOk E 0→Runs Try.prog E 126 35 (SPost E [] (encL cI 0 r)) [.code (C_80 15655),.inBlock 1,.code (C_80 979),.inLoop (C_80 244),.inBlock 0,.code (C_80 31)] ⟨[(0,(encL cI 0 a)),(1,(encL cI 0 b)),(5,(.os 0 0 out.length)),(6,(aI borrow2)),(7,(aI i)),(8,(aI s))],[(0,aO 1 cI 0 out)],1⟩:=by
  intro E hE
  unfold g_r01_minus_J2 at h
  obtain ⟨c2,h⟩:=ifSome h
  refine Runs.sR hE ⟨[(0,(encL cI 0 a)),(1,(encL cI 0 b)),(5,(.os 49 0 ((out ++ ([s]:List Int)).length))),(6,(aI borrow2)),(7,(aI i))],[(49,aO 1 cI 0 (out ++ ([s]:List Int)))],81⟩ (C_80 15655) [] [] (kp [0,1] ++ [(5,.osl ((out ++ ([s]:List Int)).length))] ++ kp [6,7]) [(49,.arr 49 ((out ++ ([s]:List Int)).length) (fun zi=>cI ((out ++ ([s]:List Int)).getD zi 0)))] 81 [out.length = out.length,(out.length+1) * 8≤140737488355328,0+1≤1,∀ zi,zi < 1→AV.oneL ((fun zi=>([[(aI s)]]:List (List AV)).getD zi []) (addz 0 zi)) = true,(out.length+1) = (out ++ ([s]:List Int)).length,out.length+1 = (out ++ ([s]:List Int)).length,∀ zi,zi < (out ++ ([s]:List Int)).length→(fun zi=>cI ((out ++ ([s]:List Int)).getD zi 0)) zi = ((fun zm=>if zm < out.length then (fun zi=>cI (out.getD zi 0)) zm else (fun zi=>([[(aI s)]]:List (List AV)).getD zi []) (zm - out.length))) zi] ⟨rfl,c2,z0,(oneN rfl),(len_app_raw rfl rfl),(len_app_raw rfl rfl),(get_app_raw cI 0 out ([s]:List Int) rfl (fun _ _=>rfl) (fun zq hzq=>get_chunk cI 0 ([s]:List Int) zq hzq)),trivial⟩ ?_
  refine Runs.sA 1 [.code (C_80 979),.inLoop (C_80 244),.inBlock 0,.code (C_80 31)] ?_
  refine Runs.sR hE ⟨[(0,(encL cI 0 a)),(1,(encL cI 0 b)),(5,(.os 49 0 ((out ++ ([s]:List Int)).length))),(6,(aI borrow2)),(7,(aI (w64 (i+1))))],[(49,aO 1 cI 0 (out ++ ([s]:List Int)))],129⟩ (C_80 979) [] [] (kp [0,1,5,6,7]) (kq [49]) 129 [] trivial ?_
  refine Runs.sA 1 [.code (C_80 244),.inLoop (C_80 244),.inBlock 0,.code (C_80 31)] ?_
  exact Runs.sW hE _ [] (kp [0,1,5,6,7]) [(0,.keep 49)] 1 [] trivial (hK_g_r01_minus_L1 (out ++ ([s]:List Int)) borrow2 (w64 (i+1)) _ h E hE)
theorem g_r01_minus_L1_ok (N:Nat) (a:List Int) (b:List Int) (fuel:Nat):∀ (out:List Int) (borrow:Int) (i:Int) (r:(List Int)),g_r01_minus_L1 N a b fuel out borrow i = some r→∀ E,EnvOk E 0→Runs Try.prog E 126 35 (SPost E [] (encL cI 0 r)) [.code (C_80 244),.inLoop (C_80 244),.inBlock 0,.code (C_80 31)] ⟨[(0,(encL cI 0 a)),(1,(encL cI 0 b)),(5,(.os 0 0 out.length)),(6,(aI borrow)),(7,(aI i))],[(0,aO 1 cI 0 out)],1⟩:=by
  induction fuel with
  | zero=>intro _ _ _ r h; rw [g_r01_minus_L1.eq_1] at h; cases h
  | succ fuel ih =>
    intro out borrow i r h E hE
    rw [g_r01_minus_L1.eq_2] at h
    refine Runs.sA 2 [.code (C_80 976),.code (C_80 977),.code (C_80 489),.inLoop (C_80 244),.inBlock 0,.code (C_80 31)] ?_
    refine Runs.sR hE ⟨[(0,(encL cI 0 a)),(1,(encL cI 0 b)),(5,(.os 0 0 out.length)),(6,(aI borrow)),(7,(aI i)),(12,(aB (decide (i < ((a.length:Nat):Int)))))],[(0,aO 1 cI 0 out)],65⟩ (C_80 976) [] [] (kp [0,1,5,6,7,12]) (kq [0]) 65 [] trivial ?_
    refine Runs.sC 12 (C_80 1954) (C_80 1955) (decide (i < ((a.length:Nat):Int))) (fun hq2=>?_) (fun hq2=>?_)
    · have h:=condT h hq2
      refine Runs.sA 4 [.code (C_80 3912),.code (C_80 3913),.inBlock 1,.code (C_80 979),.inLoop (C_80 244),.inBlock 0,.code (C_80 31)] ?_
      obtain ⟨c,h⟩:=ifSome h
      obtain ⟨rdigit,hr,h⟩:=bindSome h
      refine Runs.sR hE ⟨[(0,(encL cI 0 a)),(1,(encL cI 0 b)),(5,(.os 0 0 out.length)),(7,(aI i)),(8,(aI (w64 ((w64 ((a.getD ((i).toNat) 0) - rdigit)) - borrow))))],[(0,aO 1 cI 0 out)],241⟩ (C_80 3912) [(6,⟨[],true,(aI rdigit),[],0,false,none⟩)] [] (kp [0,1,5,7,8]) (kq [0]) 241 [0≤i∧i < ((a.length:Nat):Int),Sound Try.prog 141 [(encL cI 0 b),(aI i)] [] 0 (aI rdigit) []] ⟨c,(g_r01_digit_ok N b i rdigit hr),trivial⟩ ?_
      refine Runs.sA 1 [.code (C_80 7826),.code (C_80 7827),.inBlock 1,.code (C_80 979),.inLoop (C_80 244),.inBlock 0,.code (C_80 31)] ?_
      refine Runs.sR hE ⟨[(0,(encL cI 0 a)),(1,(encL cI 0 b)),(5,(.os 0 0 out.length)),(6,(aI 0)),(7,(aI i)),(8,(aI (w64 ((w64 ((a.getD ((i).toNat) 0) - rdigit)) - borrow))))],[(0,aO 1 cI 0 out)],257⟩ (C_80 7826) [] [] (kp [0,1,5,6,7,8]) (kq [0]) 257 [] trivial ?_
      refine Runs.sA 2 [.code (C_80 31308),.code (C_80 31309),.code (C_80 15655),.inBlock 1,.code (C_80 979),.inLoop (C_80 244),.inBlock 0,.code (C_80 31)] ?_
      refine Runs.sR hE ⟨[(0,(encL cI 0 a)),(1,(encL cI 0 b)),(5,(.os 0 0 out.length)),(6,(aI 0)),(7,(aI i)),(8,(aI (w64 ((w64 ((a.getD ((i).toNat) 0) - rdigit)) - borrow)))),(26,(aB (decide ((w64 ((w64 ((a.getD ((i).toNat) 0) - rdigit)) - borrow)) < 0))))],[(0,aO 1 cI 0 out)],289⟩ (C_80 31308) [] [] (kp [0,1,5,6,7,8,26]) (kq [0]) 289 [] trivial ?_
      refine Runs.sC 26 (C_80 62618) (C_80 62619) (decide ((w64 ((w64 ((a.getD ((i).toNat) 0) - rdigit)) - borrow)) < 0)) (fun hq3=>?_) (fun hq3=>?_)
      · have h:=condT h hq3
        refine Runs.sA 1 [.code (C_80 125236),.code (C_80 125237),.code (C_80 15655),.inBlock 1,.code (C_80 979),.inLoop (C_80 244),.inBlock 0,.code (C_80 31)] ?_
        refine Runs.sR hE ⟨[(0,(encL cI 0 a)),(1,(encL cI 0 b)),(5,(.os 0 0 out.length)),(7,(aI i)),(8,(aI (w64 ((w64 ((w64 ((a.getD ((i).toNat) 0) - rdigit)) - borrow))+65536))))],[(0,aO 1 cI 0 out)],337⟩ (C_80 125236) [] [] (kp [0,1,5,7,8]) (kq [0]) 337 [] trivial ?_
        refine Runs.sR hE ⟨[(0,(encL cI 0 a)),(1,(encL cI 0 b)),(5,(.os 0 0 out.length)),(6,(aI 1)),(7,(aI i)),(8,(aI (w64 ((w64 ((w64 ((a.getD ((i).toNat) 0) - rdigit)) - borrow))+65536))))],[(0,aO 1 cI 0 out)],353⟩ (C_80 125237) [] [] (kp [0,1,5,6,7,8]) (kq [0]) 353 [] trivial ?_
        exact Runs.sW hE _ [] (kp [0,1,5,6,7,8]) (kq [0]) 1 [] trivial (g_r01_minus_J2_ok N a b out i (g_r01_minus_L1 N a b fuel) ih 1 (w64 ((w64 ((w64 ((a.getD ((i).toNat) 0) - rdigit)) - borrow))+65536)) _ h E hE)
      · have h:=condF h hq3
        refine Runs.sA 1 [.code (C_80 15655),.inBlock 1,.code (C_80 979),.inLoop (C_80 244),.inBlock 0,.code (C_80 31)] ?_
        exact Runs.sW hE _ [] (kp [0,1,5,6,7,8]) (kq [0]) 1 [] trivial (g_r01_minus_J2_ok N a b out i (g_r01_minus_L1 N a b fuel) ih 0 (w64 ((w64 ((a.getD ((i).toNat) 0) - rdigit)) - borrow)) _ h E hE)
    · have h:=condF h hq2
      refine Runs.sA 2 [.code (C_80 62),.code (C_80 63)] ?_
      obtain ⟨rtrim,hr2,h⟩:=bindSome h
      refine Runs.sR hE ⟨[(4,(encL cI 0 rtrim))],[],113⟩ (C_80 62) [(1,⟨[],true,(encL cI 0 rtrim),[],0,true,none⟩)] [] (kp [4]) [] 113 [Sound Try.prog 139 [(encL cI 0 out)] [] 0 (encL cI 0 rtrim) [],0+out.length≤out.length] ⟨(g_r01_trim_ok N out rtrim hr2),z0,trivial⟩ ?_
      obtain rfl:=Option.some.inj h
      refine Runs.sW hE ⟨[(4,(encL cI 0 rtrim))],[],113⟩ [] (kp [4]) [] 113 [] trivial ?_
      exact Runs.sT Try.f126 [] [] trivial
theorem g_r01_minus_ok (N:Nat) (a:List Int) (b:List Int) (r:(List Int)) (h:g_r01_minus N a b = some r):Sound Try.prog 126 [(encL cI 0 a),(encL cI 0 b)] [] 0 (encL cI 0 r) []:=by
  unfold g_r01_minus at h
  refine Sound.of_runs (fu:=Try.f126) (c:=C_80 1) (nt:=35) (by kernel_rfl) (by kernel_rfl) (by kernel_rfl) (by kernel_rfl) (fun hm=>rfl) ?_
  intro E hE
  refine Runs.sA 1 [.code (C_80 2),.code (C_80 3)] ?_
  refine Runs.sR hE ⟨[(0,(encL cI 0 a)),(1,(encL cI 0 b))],[],16⟩ (C_80 2) [] [] (kp [0,1]) [] 16 [] trivial ?_
  refine Runs.sA 1 [.code (C_80 6),.code (C_80 7)] ?_
  refine Runs.sR hE ⟨[(0,(encL cI 0 a)),(1,(encL cI 0 b)),(5,.nil)],[],32⟩ (C_80 6) [] [] (kp [0,1,5]) [] 32 [] trivial ?_
  refine Runs.sA 1 [.code (C_80 14),.code (C_80 15)] ?_
  refine Runs.sR hE ⟨[(0,(encL cI 0 a)),(1,(encL cI 0 b)),(5,.nil),(6,(aI 0))],[],48⟩ (C_80 14) [] [] (kp [0,1,5,6]) [] 48 [] trivial ?_
  refine Runs.sA 2 [.code (C_80 60),.code (C_80 61),.code (C_80 31)] ?_
  refine Runs.sR hE ⟨[(0,(encL cI 0 a)),(1,(encL cI 0 b)),(5,.nil),(6,(aI 0)),(7,(aI 0))],[],64⟩ (C_80 60) [] [] (kp [0,1,5,6,7]) [] 64 [] trivial ?_
  refine Runs.sA 2 [.code (C_80 244),.inLoop (C_80 244),.inBlock 0,.code (C_80 31)] ?_
  exact Runs.sW hE _ [] (kp [0,1] ++ [(5,.nilos 0)] ++ kp [6,7]) [(0,.nil 1 (fun zi=>cI (([]:List Int).getD zi 0)))] 1 [] trivial (g_r01_minus_L1_ok N a b N ([]:List Int) 0 0 _ h E hE)
noncomputable def C_76 (n:Nat):Code:=cat (bodyOf Try.f123) (pth n)
theorem g_r01_over_J3_ok (N:Nat) (a:List Int) (b:List Int) (q:List Int) (i:Int) (lo:Int) (K_g_r01_over_L1:(List Int)→(List Int)→Int→Option ((List Int) × (List Int)))
    (hK_g_r01_over_L1:∀ (rest:List Int) (q:List Int) (i:Int) (r:(List Int) × (List Int)),K_g_r01_over_L1 rest q i = some r→∀ E,EnvOk E 0→Runs Try.prog E 123 63 (SPost E [] (.tup [(encL cI 0 r.1),(encL cI 0 r.2)])) [.code (C_76 244),.inLoop (C_76 244),.inBlock 0,.code (C_76 31)] ⟨[(0,(encL cI 0 a)),(1,(encL cI 0 b)),(6,(encL cI 0 rest)),(7,(.os 0 0 q.length)),(8,(aI i))],[(0,aO 1 cI 0 q)],1⟩) (rest2:List Int) (r:(List Int) × (List Int)) (h:g_r01_over_J3 N a b q i lo K_g_r01_over_L1 rest2 = some r):∀ E,EnvOk E 0→Runs Try.prog E 123 63 (SPost E [] (.tup [(encL cI 0 r.1),(encL cI 0 r.2)])) [.code (C_76 979),.inLoop (C_76 244),.inBlock 0,.code (C_76 31)] ⟨[(0,(encL cI 0 a)),(1,(encL cI 0 b)),(6,(encL cI 0 rest2)),(7,(.os 0 0 ((q.set ((i).toNat) lo).length))),(8,(aI i))],[(0,aO 1 cI 0 (q.set ((i).toNat) lo))],1⟩:=by
  intro E hE
  unfold g_r01_over_J3 at h
  refine Runs.sR hE ⟨[(0,(encL cI 0 a)),(1,(encL cI 0 b)),(6,(encL cI 0 rest2)),(7,(.os 0 0 ((q.set ((i).toNat) lo).length))),(8,(aI (w64 (i - 1))))],[(0,aO 1 cI 0 (q.set ((i).toNat) lo))],49⟩ (C_76 979) [] [] (kp [0,1,6,7,8]) (kq [0]) 49 [] trivial ?_
  refine Runs.sA 1 [.code (C_76 244),.inLoop (C_76 244),.inBlock 0,.code (C_76 31)] ?_
  exact Runs.sW hE _ [] (kp [0,1,6,7,8]) (kq [0]) 1 [] trivial (hK_g_r01_over_L1 rest2 (q.set ((i).toNat) lo) (w64 (i - 1)) _ h E hE)
theorem g_r01_over_L2_ok (N:Nat) (a:List Int) (b:List Int) (q:List Int) (i:Int) (rtrim:(List Int)) (K_g_r01_over_L1:(List Int)→(List Int)→Int→Option ((List Int) × (List Int)))
    (hK_g_r01_over_L1:∀ (rest:List Int) (q:List Int) (i:Int) (r:(List Int) × (List Int)),K_g_r01_over_L1 rest q i = some r→∀ E,EnvOk E 0→Runs Try.prog E 123 63 (SPost E [] (.tup [(encL cI 0 r.1),(encL cI 0 r.2)])) [.code (C_76 244),.inLoop (C_76 244),.inBlock 0,.code (C_76 31)] ⟨[(0,(encL cI 0 a)),(1,(encL cI 0 b)),(6,(encL cI 0 rest)),(7,(.os 0 0 q.length)),(8,(aI i))],[(0,aO 1 cI 0 q)],1⟩) (fuel:Nat):∀ (lo:Int) (hi:Int) (r:(List Int) × (List Int)),g_r01_over_L2 N a b q i rtrim K_g_r01_over_L1 fuel lo hi = some r→∀ E,EnvOk E 0→Runs Try.prog E 123 63 (SPost E [] (.tup [(encL cI 0 r.1),(encL cI 0 r.2)])) [.code (C_76 62616),.inLoop (C_76 62616),.inBlock 2,.code (C_76 15655),.inBlock 1,.code (C_76 979),.inLoop (C_76 244),.inBlock 0,.code (C_76 31)] ⟨[(0,(encL cI 0 a)),(1,(encL cI 0 b)),(6,(encL cI 0 rtrim)),(7,(.os 0 0 q.length)),(8,(aI i)),(9,(aI lo)),(10,(aI hi))],[(0,aO 1 cI 0 q)],1⟩:=by
  induction fuel with
  | zero=>intro _ _ r h; rw [g_r01_over_L2.eq_1] at h; cases h
  | succ fuel ih =>
    intro lo hi r h E hE
    rw [g_r01_over_L2.eq_2] at h
    refine Runs.sA 2 [.code (C_76 250464),.code (C_76 250465),.code (C_76 125233),.inLoop (C_76 62616),.inBlock 2,.code (C_76 15655),.inBlock 1,.code (C_76 979),.inLoop (C_76 244),.inBlock 0,.code (C_76 31)] ?_
    refine Runs.sR hE ⟨[(0,(encL cI 0 a)),(1,(encL cI 0 b)),(6,(encL cI 0 rtrim)),(7,(.os 0 0 q.length)),(8,(aI i)),(9,(aI lo)),(10,(aI hi)),(32,(aB (decide (lo < hi))))],[(0,aO 1 cI 0 q)],49⟩ (C_76 250464) [] [] (kp [0,1,6,7,8,9,10,32]) (kq [0]) 49 [] trivial ?_
    refine Runs.sC 32 (C_76 500930) (C_76 500931) (decide (lo < hi)) (fun hq3=>?_) (fun hq3=>?_)
    · have h:=condT h hq3
      refine Runs.sA 3 [.code (C_76 500932),.code (C_76 500933),.inBlock 3,.inLoop (C_76 62616),.inBlock 2,.code (C_76 15655),.inBlock 1,.code (C_76 979),.inLoop (C_76 244),.inBlock 0,.code (C_76 31)] ?_
      refine Runs.sR hE ⟨[(0,(encL cI 0 a)),(1,(encL cI 0 b)),(6,(encL cI 0 rtrim)),(7,(.os 0 0 q.length)),(8,(aI i)),(9,(aI lo)),(10,(aI hi)),(11,(aI (w64 ((w64 ((w64 (lo+hi))+1)).tdiv 2))))],[(0,aO 1 cI 0 q)],145⟩ (C_76 500932) [] [] (kp [0,1,6,7,8,9,10,11]) (kq [0]) 145 [(2:Int) ≠ 0] ⟨(by decide),trivial⟩ ?_
      refine Runs.sA 1 [.code (C_76 1001866),.code (C_76 1001867),.inBlock 3,.inLoop (C_76 62616),.inBlock 2,.code (C_76 15655),.inBlock 1,.code (C_76 979),.inLoop (C_76 244),.inBlock 0,.code (C_76 31)] ?_
      obtain ⟨rtimes,hr2,h⟩:=bindSome h
      obtain ⟨rcompare,hr3,h⟩:=bindSome h
      refine Runs.sR hE ⟨[(0,(encL cI 0 a)),(1,(encL cI 0 b)),(6,(encL cI 0 rtrim)),(7,(.os 0 0 q.length)),(8,(aI i)),(9,(aI lo)),(10,(aI hi)),(11,(aI (w64 ((w64 ((w64 (lo+hi))+1)).tdiv 2)))),(44,(aB (decide (rcompare≤0))))],[(0,aO 1 cI 0 q)],257⟩ (C_76 1001866) [(3,⟨[],true,(encL cI 0 rtimes),[],0,true,none⟩),(5,⟨[],true,(aI rcompare),[],0,false,none⟩)] [] (kp [0,1,6,7,8,9,10,11,44]) (kq [0]) 257 [Sound Try.prog 127 [(encL cI 0 b),(.sl 1 (fun zi=>(fun zi=>([[(aI (w64 ((w64 ((w64 (lo+hi))+1)).tdiv 2)))]]:List (List AV)).getD zi []) (addz 0 zi)))] [] 0 (encL cI 0 rtimes) [],0+1≤1,Sound Try.prog 125 [(encL cI 0 rtimes),(encL cI 0 rtrim)] [] 0 (aI rcompare) []] ⟨(Sound.conv (g_r01_times_ok N b ([(w64 ((w64 ((w64 (lo+hi))+1)).tdiv 2))]:List Int) rtimes hr2) (.cons (Alike.refl _) (.cons (Alike.sl rfl (fun zq hzq=>get_chunk cI 0 ([(w64 ((w64 ((w64 (lo+hi))+1)).tdiv 2))]:List Int) zq hzq)) .nil))),z0,(g_r01_compare_ok N rtimes rtrim rcompare hr3),trivial⟩ ?_
      refine Runs.sC 44 (C_76 2003734) (C_76 2003735) (decide (rcompare≤0)) (fun hq4=>?_) (fun hq4=>?_)
      · have h:=condT h hq4
        refine Runs.sR hE ⟨[(0,(encL cI 0 a)),(1,(encL cI 0 b)),(6,(encL cI 0 rtrim)),(7,(.os 0 0 q.length)),(8,(aI i)),(9,(aI (w64 ((w64 ((w64 (lo+hi))+1)).tdiv 2)))),(10,(aI hi))],[(0,aO 1 cI 0 q)],289⟩ (C_76 2003734) [] [] (kp [0,1,6,7,8,9,10]) (kq [0]) 289 [] trivial ?_
        refine Runs.sA 2 [.code (C_76 62616),.inLoop (C_76 62616),.inBlock 2,.code (C_76 15655),.inBlock 1,.code (C_76 979),.inLoop (C_76 244),.inBlock 0,.code (C_76 31)] ?_
        exact Runs.sW hE _ [] (kp [0,1,6,7,8,9,10]) (kq [0]) 1 [] trivial (ih (w64 ((w64 ((w64 (lo+hi))+1)).tdiv 2)) hi _ h E hE)
      · have h:=condF h hq4
        refine Runs.sR hE ⟨[(0,(encL cI 0 a)),(1,(encL cI 0 b)),(6,(encL cI 0 rtrim)),(7,(.os 0 0 q.length)),(8,(aI i)),(9,(aI lo)),(10,(aI (w64 ((w64 ((w64 ((w64 (lo+hi))+1)).tdiv 2)) - 1))))],[(0,aO 1 cI 0 q)],305⟩ (C_76 2003735) [] [] (kp [0,1,6,7,8,9,10]) (kq [0]) 305 [] trivial ?_
        refine Runs.sA 2 [.code (C_76 62616),.inLoop (C_76 62616),.inBlock 2,.code (C_76 15655),.inBlock 1,.code (C_76 979),.inLoop (C_76 244),.inBlock 0,.code (C_76 31)] ?_
        exact Runs.sW hE _ [] (kp [0,1,6,7,8,9,10]) (kq [0]) 1 [] trivial (ih lo (w64 ((w64 ((w64 ((w64 (lo+hi))+1)).tdiv 2)) - 1)) _ h E hE)
    · have h:=condF h hq3
      refine Runs.sA 2 [.code (C_76 31310),.code (C_76 31311),.inBlock 1,.code (C_76 979),.inLoop (C_76 244),.inBlock 0,.code (C_76 31)] ?_
      obtain ⟨c4,h⟩:=ifSome h
      refine Runs.sR hE ⟨[(0,(encL cI 0 a)),(1,(encL cI 0 b)),(6,(encL cI 0 rtrim)),(7,(.os 0 0 ((q.set ((i).toNat) lo).length))),(8,(aI i)),(9,(aI lo))],[(0,aO 1 cI 0 (q.set ((i).toNat) lo))],129⟩ (C_76 31310) [] [] (kp [0,1,6] ++ [(7,.osl ((q.set ((i).toNat) lo).length))] ++ kp [8,9]) [(0,.arr 0 ((q.set ((i).toNat) lo).length) (fun zi=>cI ((q.set ((i).toNat) lo).getD zi 0)))] 129 [0≤i∧i < ((q.length:Nat):Int),(i).toNat < q.length,q.length = (q.set ((i).toNat) lo).length,q.length = (q.set ((i).toNat) lo).length,∀ zi,zi < (q.set ((i).toNat) lo).length→(fun zi=>cI ((q.set ((i).toNat) lo).getD zi 0)) zi = ((fun zm=>if zm = (i).toNat then [(aI lo)] else (fun zi=>cI (q.getD zi 0)) zm)) zi] ⟨c4,(ltOf c4),(len_set_raw rfl),(len_set_raw rfl),(get_set_raw cI 0 q ((i).toNat) lo (fun _ _=>rfl)),trivial⟩ ?_
      refine Runs.sA 1 [.code (C_76 62622),.code (C_76 62623),.inBlock 1,.code (C_76 979),.inLoop (C_76 244),.inBlock 0,.code (C_76 31)] ?_
      refine Runs.sR hE ⟨[(0,(encL cI 0 a)),(1,(encL cI 0 b)),(6,(encL cI 0 rtrim)),(7,(.os 0 0 ((q.set ((i).toNat) lo).length))),(8,(aI i)),(9,(aI lo)),(53,(aB (decide (lo > 0))))],[(0,aO 1 cI 0 (q.set ((i).toNat) lo))],161⟩ (C_76 62622) [] [] (kp [0,1,6,7,8,9,53]) (kq [0]) 161 [] trivial ?_
      refine Runs.sC 53 (C_76 125246) (C_76 125247) (decide (lo > 0)) (fun hq5=>?_) (fun hq5=>?_)
      · have h:=condT h hq5
        obtain ⟨rtimes2,hr4,h⟩:=bindSome h
        obtain ⟨rminus,hr5,h⟩:=bindSome h
        refine Runs.sR hE ⟨[(0,(encL cI 0 a)),(1,(encL cI 0 b)),(6,(encL cI 0 rminus)),(7,(.os 0 0 ((q.set ((i).toNat) lo).length))),(8,(aI i))],[(0,aO 1 cI 0 (q.set ((i).toNat) lo))],273⟩ (C_76 125246) [(4,⟨[],true,(encL cI 0 rtimes2),[],0,true,none⟩),(5,⟨[],true,(encL cI 0 rminus),[],0,false,none⟩)] [] (kp [0,1,6,7,8]) (kq [0]) 273 [Sound Try.prog 127 [(encL cI 0 b),(.sl 1 (fun zi=>(fun zi=>([[(aI lo)]]:List (List AV)).getD zi []) (addz 0 zi)))] [] 0 (encL cI 0 rtimes2) [],0+1≤1,Sound Try.prog 126 [(encL cI 0 rtrim),(encL cI 0 rtimes2)] [] 0 (encL cI 0 rminus) []] ⟨(Sound.conv (g_r01_times_ok N b ([lo]:List Int) rtimes2 hr4) (.cons (Alike.refl _) (.cons (Alike.sl rfl (fun zq hzq=>get_chunk cI 0 ([lo]:List Int) zq hzq)) .nil))),z0,(g_r01_minus_ok N rtrim rtimes2 rminus hr5),trivial⟩ ?_
        refine Runs.sA 1 [.code (C_76 979),.inLoop (C_76 244),.inBlock 0,.code (C_76 31)] ?_
        exact Runs.sW hE _ [] (kp [0,1,6,7,8]) (kq [0]) 1 [] trivial (g_r01_over_J3_ok N a b q i lo K_g_r01_over_L1 hK_g_r01_over_L1 rminus _ h E hE)
      · have h:=condF h hq5
        refine Runs.sA 2 [.code (C_76 979),.inLoop (C_76 244),.inBlock 0,.code (C_76 31)] ?_
        exact Runs.sW hE _ [] (kp [0,1,6,7,8]) (kq [0]) 1 [] trivial (g_r01_over_J3_ok N a b q i lo K_g_r01_over_L1 hK_g_r01_over_L1 rtrim _ h E hE)
theorem g_r01_over_L1_ok (N:Nat) (a:List Int) (b:List Int) (fuel:Nat):∀ (rest:List Int) (q:List Int) (i:Int) (r:(List Int) × (List Int)),g_r01_over_L1 N a b fuel rest q i = some r→∀ E,EnvOk E 0→Runs Try.prog E 123 63 (SPost E [] (.tup [(encL cI 0 r.1),(encL cI 0 r.2)])) [.code (C_76 244),.inLoop (C_76 244),.inBlock 0,.code (C_76 31)] ⟨[(0,(encL cI 0 a)),(1,(encL cI 0 b)),(6,(encL cI 0 rest)),(7,(.os 0 0 q.length)),(8,(aI i))],[(0,aO 1 cI 0 q)],1⟩:=by
  induction fuel with
  | zero=>intro _ _ _ r h; rw [g_r01_over_L1.eq_1] at h; cases h
  | succ fuel ih =>
    intro rest q i r h E hE
    rw [g_r01_over_L1.eq_2] at h
    refine Runs.sA 2 [.code (C_76 976),.code (C_76 977),.code (C_76 489),.inLoop (C_76 244),.inBlock 0,.code (C_76 31)] ?_
    refine Runs.sR hE ⟨[(0,(encL cI 0 a)),(1,(encL cI 0 b)),(6,(encL cI 0 rest)),(7,(.os 0 0 q.length)),(8,(aI i)),(19,(aB (decide (i ≥ 0))))],[(0,aO 1 cI 0 q)],33⟩ (C_76 976) [] [] (kp [0,1,6,7,8,19]) (kq [0]) 33 [] trivial ?_
    refine Runs.sC 19 (C_76 1954) (C_76 1955) (decide (i ≥ 0)) (fun hq2=>?_) (fun hq2=>?_)
    · have h:=condT h hq2
      refine Runs.sA 4 [.code (C_76 3912),.code (C_76 3913),.inBlock 1,.code (C_76 979),.inLoop (C_76 244),.inBlock 0,.code (C_76 31)] ?_
      obtain ⟨c2,h⟩:=ifSome h
      obtain ⟨c3,h⟩:=ifSome h
      obtain ⟨rtrim,hr,h⟩:=bindSome h
      refine Runs.sR hE ⟨[(0,(encL cI 0 a)),(1,(encL cI 0 b)),(6,(encL cI 0 rtrim)),(7,(.os 0 0 q.length)),(8,(aI i))],[(0,aO 1 cI 0 q)],177⟩ (C_76 3912) [(7,⟨[],true,(encL cI 0 rtrim),[],0,true,none⟩)] [] (kp [0,1,6,7,8]) (kq [0]) 177 [0≤i∧i < ((a.length:Nat):Int),1 = 1,(1+rest.length) * 8≤140737488355328,∀ zi,zi < rest.length→AV.oneL ((fun zi=>cI (rest.getD zi 0)) zi) = true,Sound Try.prog 139 [(.sl (1+rest.length) (fun zi=>((fun zm=>if zm < 1 then (fun zi=>([[(aI (a.getD ((i).toNat) 0))]]:List (List AV)).getD zi []) zm else (fun zi=>cI (rest.getD zi 0)) (zm - 1))) (addz 0 zi)))] [] 0 (encL cI 0 rtrim) [],0+(1+rest.length)≤1+rest.length] ⟨c2,rfl,c3,(fun _ _=>rfl),(Sound.conv (g_r01_trim_ok N (([(a.getD ((i).toNat) 0)]:List Int) ++ rest) rtrim hr) (.cons (Alike.sl (len_app_raw rfl rfl) (get_app_raw cI 0 ([(a.getD ((i).toNat) 0)]:List Int) rest rfl (fun zq hzq=>get_chunk cI 0 ([(a.getD ((i).toNat) 0)]:List Int) zq hzq) (fun _ _=>rfl))) .nil)),z0,trivial⟩ ?_
      refine Runs.sA 1 [.code (C_76 7826),.code (C_76 7827),.inBlock 1,.code (C_76 979),.inLoop (C_76 244),.inBlock 0,.code (C_76 31)] ?_
      refine Runs.sR hE ⟨[(0,(encL cI 0 a)),(1,(encL cI 0 b)),(6,(encL cI 0 rtrim)),(7,(.os 0 0 q.length)),(8,(aI i)),(9,(aI 0)),(10,(aI 65535))],[(0,aO 1 cI 0 q)],209⟩ (C_76 7826) [] [] (kp [0,1,6,7,8,9,10]) (kq [0]) 209 [] trivial ?_
      refine Runs.sA 3 [.code (C_76 62616),.inLoop (C_76 62616),.inBlock 2,.code (C_76 15655),.inBlock 1,.code (C_76 979),.inLoop (C_76 244),.inBlock 0,.code (C_76 31)] ?_
      exact Runs.sW hE _ [] (kp [0,1,6,7,8,9,10]) (kq [0]) 1 [] trivial (g_r01_over_L2_ok N a b q i rtrim (g_r01_over_L1 N a b fuel) ih N 0 65535 _ h E hE)
    · have h:=condF h hq2
      refine Runs.sA 2 [.code (C_76 62),.code (C_76 63)] ?_
      obtain ⟨rtrim2,hr6,h⟩:=bindSome h
      refine Runs.sR hE ⟨[(4,(encL cI 0 rtrim2)),(5,(encL cI 0 rest))],[],113⟩ (C_76 62) [(1,⟨[],true,(encL cI 0 rtrim2),[],0,true,none⟩)] [] (kp [4,5]) [] 113 [Sound Try.prog 139 [(encL cI 0 q)] [] 0 (encL cI 0 rtrim2) [],0+q.length≤q.length] ⟨(g_r01_trim_ok N q rtrim2 hr6),z0,trivial⟩ ?_
      obtain rfl:=Option.some.inj h
      refine Runs.sW hE ⟨[(4,(encL cI 0 rtrim2)),(5,(encL cI 0 rest))],[],113⟩ [] (kp [4,5]) [] 113 [] trivial ?_
      exact Runs.sT Try.f123 [] [] trivial
theorem g_r01_over_ok (N:Nat) (a:List Int) (b:List Int) (r:(List Int) × (List Int)) (h:g_r01_over N a b = some r):Sound Try.prog 123 [(encL cI 0 a),(encL cI 0 b)] [] 0 (.tup [(encL cI 0 r.1),(encL cI 0 r.2)]) []:=by
  unfold g_r01_over at h
  refine Sound.of_runs (fu:=Try.f123) (c:=C_76 1) (nt:=63) (by kernel_rfl) (by kernel_rfl) (by kernel_rfl) (by kernel_rfl) (fun hm=>rfl) ?_
  intro E hE
  refine Runs.sA 1 [.code (C_76 2),.code (C_76 3)] ?_
  refine Runs.sR hE ⟨[(0,(encL cI 0 a)),(1,(encL cI 0 b))],[],32⟩ (C_76 2) [] [] (kp [0,1]) [] 32 [] trivial ?_
  refine Runs.sA 1 [.code (C_76 6),.code (C_76 7)] ?_
  refine Runs.sR hE ⟨[(0,(encL cI 0 a)),(1,(encL cI 0 b)),(6,.nil)],[],48⟩ (C_76 6) [] [] (kp [0,1,6]) [] 48 [] trivial ?_
  refine Runs.sA 1 [.code (C_76 14),.code (C_76 15)] ?_
  obtain ⟨c,h⟩:=ifSome h
  refine Runs.sR hE ⟨[(0,(encL cI 0 a)),(1,(encL cI 0 b)),(6,.nil),(7,(.os 80 0 ((List.replicate a.length 0:List Int).length)))],[(80,aO 1 cI 0 (List.replicate a.length 0:List Int))],112⟩ (C_76 14) [] [] (kp [0,1,6] ++ [(7,.osl ((List.replicate a.length 0:List Int).length))]) [(80,.arr 80 ((List.replicate a.length 0:List Int).length) (fun zi=>cI ((List.replicate a.length 0:List Int).getD zi 0)))] 112 [0≤((a.length:Nat):Int),((a.length:Nat):Int)≤((a.length:Nat):Int),(8:Int) * ((a.length:Nat):Int)≤281474976710656,((a.length:Nat):Int)≤9223372036854775807,a.length = (List.replicate a.length 0:List Int).length,a.length = (List.replicate a.length 0:List Int).length,∀ zi,zi < (List.replicate a.length 0:List Int).length→(fun zi=>cI ((List.replicate a.length 0:List Int).getD zi 0)) zi = (fun _=>[(aI 0)]) zi] ⟨c.1,(Int.le_refl _),c.2.1,c.2.2,(List.length_replicate).symm,(List.length_replicate).symm,(fun zq hzq=>get_rep cI 0 0 a.length zq hzq),trivial⟩ ?_
  refine Runs.sA 2 [.code (C_76 60),.code (C_76 61),.code (C_76 31)] ?_
  refine Runs.sR hE ⟨[(0,(encL cI 0 a)),(1,(encL cI 0 b)),(6,.nil),(7,(.os 80 0 ((List.replicate a.length 0:List Int).length))),(8,(aI (w64 (((a.length:Nat):Int) - 1))))],[(80,aO 1 cI 0 (List.replicate a.length 0:List Int))],176⟩ (C_76 60) [] [] (kp [0,1,6,7,8]) (kq [80]) 176 [] trivial ?_
  refine Runs.sA 2 [.code (C_76 244),.inLoop (C_76 244),.inBlock 0,.code (C_76 31)] ?_
  exact Runs.sW hE _ [] (kp [0,1] ++ [(6,.sl (([]:List Int).length) (fun zi=>cI (([]:List Int).getD zi 0)))] ++ kp [7,8]) [(0,.keep 80)] 1 [([]:List Int).length = 0] ⟨rfl,trivial⟩ (g_r01_over_L1_ok N a b N ([]:List Int) (List.replicate a.length 0:List Int) (w64 (((a.length:Nat):Int) - 1)) _ h E hE)
noncomputable def C_75 (n:Nat):Code:=cat (bodyOf Try.f122) (pth n)
theorem g_r01_gcd_L1_ok (N:Nat) (fuel:Nat):∀ (a2:List Int) (b2:List Int) (r:(List Int)),g_r01_gcd_L1 N fuel a2 b2 = some r→∀ E,EnvOk E 0→Runs Try.prog E 122 19 (SPost E [] (encL cI 0 r)) [.code (C_75 24),.inLoop (C_75 24),.inBlock 0,.code (C_75 7)] ⟨[(0,(encL cI 0 a2)),(1,(encL cI 0 b2))],[],0⟩:=by
  induction fuel with
  | zero=>intro _ _ r h; rw [g_r01_gcd_L1.eq_1] at h; cases h
  | succ fuel ih =>
    intro a2 b2 r h E hE
    rw [g_r01_gcd_L1.eq_2] at h
    refine Runs.sA 2 [.code (C_75 96),.code (C_75 97),.code (C_75 49),.inLoop (C_75 24),.inBlock 0,.code (C_75 7)] ?_
    refine Runs.sR hE ⟨[(0,(encL cI 0 a2)),(1,(encL cI 0 b2)),(9,(aB (decide (((b2.length:Nat):Int) > 0))))],[],48⟩ (C_75 96) [] [] (kp [0,1,9]) [] 48 [] trivial ?_
    refine Runs.sC 9 (C_75 194) (C_75 195) (decide (((b2.length:Nat):Int) > 0)) (fun hq2=>?_) (fun hq2=>?_)
    · have h:=condT h hq2
      refine Runs.sA 3 [.code (C_75 196),.code (C_75 197),.inBlock 1,.inLoop (C_75 24),.inBlock 0,.code (C_75 7)] ?_
      obtain ⟨rover,hr,h⟩:=bindSome h
      refine Runs.sR hE ⟨[(1,(encL cI 0 b2)),(6,(encL cI 0 rover.2))],[],176⟩ (C_75 196) [(2,⟨[],true,(.tup [(encL cI 0 rover.1),(encL cI 0 rover.2)]),[],0,false,none⟩)] [] (kp [1,6]) [] 176 [Sound Try.prog 123 [(encL cI 0 a2),(encL cI 0 b2)] [] 0 (.tup [(encL cI 0 rover.1),(encL cI 0 rover.2)]) []] ⟨(g_r01_over_ok N a2 b2 rover hr),trivial⟩ ?_
      refine Runs.sR hE ⟨[(0,(encL cI 0 b2)),(1,(encL cI 0 rover.2))],[],240⟩ (C_75 197) [] [] (kp [0,1]) [] 240 [] trivial ?_
      refine Runs.sA 2 [.code (C_75 24),.inLoop (C_75 24),.inBlock 0,.code (C_75 7)] ?_
      exact Runs.sW hE _ [] (kp [0,1]) [] 0 [] trivial (ih b2 rover.2 _ h E hE)
    · have h:=condF h hq2
      refine Runs.sA 2 [.code (C_75 14),.code (C_75 15)] ?_
      refine Runs.sR hE ⟨[(4,(encL cI 0 a2))],[],80⟩ (C_75 14) [] [] (kp [4]) [] 80 [] trivial ?_
      obtain rfl:=Option.some.inj h
      refine Runs.sW hE ⟨[(4,(encL cI 0 a2))],[],80⟩ [] (kp [4]) [] 80 [] trivial ?_
      exact Runs.sT Try.f122 [] [] trivial
theorem g_r01_gcd_ok (N:Nat) (a:List Int) (b:List Int) (r:(List Int)) (h:g_r01_gcd N a b = some r):Sound Try.prog 122 [(encL cI 0 a),(encL cI 0 b)] [] 0 (encL cI 0 r) []:=by
  unfold g_r01_gcd at h
  refine Sound.of_runs (fu:=Try.f122) (c:=C_75 1) (nt:=19) (by kernel_rfl) (by kernel_rfl) (by kernel_rfl) (by kernel_rfl) (fun hm=>rfl) ?_
  intro E hE
  refine Runs.sA 1 [.code (C_75 2),.code (C_75 3)] ?_
  refine Runs.sR hE ⟨[(0,(encL cI 0 a)),(1,(encL cI 0 b))],[],16⟩ (C_75 2) [] [] (kp [0,1]) [] 16 [] trivial ?_
  refine Runs.sA 3 [.code (C_75 24),.inLoop (C_75 24),.inBlock 0,.code (C_75 7)] ?_
  exact Runs.sW hE _ [] (kp [0,1]) [] 0 [] trivial (g_r01_gcd_L1_ok N N a b _ h E hE)
noncomputable def C_72 (n:Nat):Code:=cat (bodyOf Try.f95) (pth n)
theorem g_r01_Over_ok (N:Nat) (a:TInt) (b:TInt) (r:TRat) (h:g_r01_Over N a b = some r):Sound Try.prog 95 [(.agg (TInt.cells a)),(.agg (TInt.cells b))] [] 0 (.agg (TRat.cells r)) []:=by
  unfold g_r01_Over at h
  refine Sound.of_runs (fu:=Try.f95) (c:=C_72 1) (nt:=52) (by kernel_rfl) (by kernel_rfl) (by kernel_rfl) (by kernel_rfl) (fun hm=>rfl) ?_
  intro E hE
  refine Runs.sA 1 [.code (C_72 2),.code (C_72 3)] ?_
  refine Runs.sR hE ⟨[(2,(.op 0 0 0)),(3,(.op 16 0 0)),(4,(.op 32 0 0))],[(0,vO 2 (TInt.cells a)),(16,vO 2 (TInt.cells b)),(32,vO 4 [(aB false),.nil,(aB false),.nil])],48⟩ (C_72 2) [] [] (kp [2,3,4]) (kq [0,16,32]) 48 [] trivial ?_
  refine Runs.sA 1 [.code (C_72 6),.code (C_72 7)] ?_
  obtain ⟨rread,hr,h⟩:=bindSome h
  obtain ⟨rread2,hr2,h⟩:=bindSome h
  refine Runs.sR hE ⟨[(2,(.op 0 0 0)),(3,(.op 16 0 0)),(4,(.op 32 0 0)),(5,(encL cI 0 rread)),(6,(encL cI 0 rread2))],[(0,vO 2 (TInt.cells a)),(16,vO 2 (TInt.cells b)),(32,vO 4 [(aB false),.nil,(aB false),.nil])],176⟩ (C_72 6) [(2,⟨[],true,(encL cI 0 rread),[],0,false,none⟩),(5,⟨[],true,(encL cI 0 rread2),[],0,false,none⟩)] [] (kp [2,3,4,5,6]) (kq [0,16,32]) 176 [0 < 1,Sound Try.prog 119 [(encL (cU .u16) 0 a.f_Limbs)] [] 0 (encL cI 0 rread) [],0 < 1,Sound Try.prog 119 [(encL (cU .u16) 0 b.f_Limbs)] [] 0 (encL cI 0 rread2) []] ⟨o1,(g_r01_read_ok N a.f_Limbs rread hr),o1,(g_r01_read_ok N b.f_Limbs rread2 hr2),trivial⟩ ?_
  refine Runs.sA 2 [.code (C_72 28),.code (C_72 29),.code (C_72 15)] ?_
  refine Runs.sR hE ⟨[(2,(.op 0 0 0)),(3,(.op 16 0 0)),(4,(.op 32 0 0)),(5,(encL cI 0 rread)),(6,(encL cI 0 rread2)),(20,(aB (((rread2.length:Nat):Int) == 0)))],[(0,vO 2 (TInt.cells a)),(16,vO 2 (TInt.cells b)),(32,vO 4 [(aB false),.nil,(aB false),.nil])],224⟩ (C_72 28) [] [] (kp [2,3,4,5,6,20]) (kq [0,16,32]) 224 [] trivial ?_
  refine Runs.sC 20 (C_72 58) (C_72 59) (((rread2.length:Nat):Int) == 0) (fun hq2=>?_) (fun hq2=>?_)
  · have h:=condT h hq2
    refine Runs.sA 1 [.code (C_72 116),.code (C_72 117),.code (C_72 15)] ?_
    obtain ⟨rmade,hr3,h⟩:=bindSome h
    obtain ⟨rOf,hr4,h⟩:=bindSome h
    refine Runs.sR hE ⟨[(4,(.op 32 0 0))],[(32,vO 4 [(aB rmade.f_Neg),(encL (cU .u16) 0 rmade.f_Limbs),(aB rOf.f_Neg),(encL (cU .u16) 0 rOf.f_Limbs)])],336⟩ (C_72 116) [(3,⟨[],true,(.agg (TInt.cells rmade)),[],0,false,none⟩),(4,⟨[],true,(.agg (TInt.cells rOf)),[],0,false,none⟩)] [] (kp [4]) (kq [32]) 336 [0 < 1,Sound Try.prog 121 [(aB a.f_Neg),(encL cI 0 rread)] [] 0 (.agg (TInt.cells rmade)) [],Sound Try.prog 92 [(aI 1)] [] 0 (.agg (TInt.cells rOf)) [],0 < 1] ⟨o1,(g_r01_made_ok N a.f_Neg rread rmade hr3),(g_r01_Of_ok N 1 rOf hr4),o1,trivial⟩ ?_
    obtain rfl:=Option.some.inj h
    refine Runs.sW hE ⟨[(4,(.op 16 0 0))],[(16,vO 4 [(aB rmade.f_Neg),(encL (cU .u16) 0 rmade.f_Limbs),(aB rOf.f_Neg),(encL (cU .u16) 0 rOf.f_Limbs)])],336⟩ [] (kp [4]) [(16,.keep 32)] 336 [] trivial ?_
    exact Runs.sT Try.f95 [16] [0 < 1] ⟨o1,trivial⟩
  · have h:=condF h hq2
    refine Runs.sA 2 [.code (C_72 30),.code (C_72 31)] ?_
    obtain ⟨rgcd,hr5,h⟩:=bindSome h
    refine Runs.sR hE ⟨[(2,(.op 0 0 0)),(3,(.op 16 0 0)),(4,(.op 32 0 0)),(5,(encL cI 0 rread)),(6,(encL cI 0 rread2)),(7,(encL cI 0 rgcd))],[(0,vO 2 (TInt.cells a)),(16,vO 2 (TInt.cells b)),(32,vO 4 [(aB false),.nil,(aB false),.nil])],288⟩ (C_72 30) [(2,⟨[],true,(encL cI 0 rgcd),[],0,false,none⟩)] [] (kp [2,3,4,5,6,7]) (kq [0,16,32]) 288 [Sound Try.prog 122 [(encL cI 0 rread),(encL cI 0 rread2)] [] 0 (encL cI 0 rgcd) []] ⟨(g_r01_gcd_ok N rread rread2 rgcd hr5),trivial⟩ ?_
    refine Runs.sA 1 [.code (C_72 62),.code (C_72 63)] ?_
    obtain ⟨rover,hr6,h⟩:=bindSome h
    refine Runs.sR hE ⟨[(2,(.op 0 0 0)),(3,(.op 16 0 0)),(4,(.op 32 0 0)),(6,(encL cI 0 rread2)),(7,(encL cI 0 rgcd)),(8,(encL cI 0 rover.1))],[(0,vO 2 (TInt.cells a)),(16,vO 2 (TInt.cells b)),(32,vO 4 [(aB false),.nil,(aB false),.nil])],416⟩ (C_72 62) [(2,⟨[],true,(.tup [(encL cI 0 rover.1),(encL cI 0 rover.2)]),[],0,false,none⟩)] [] (kp [2,3,4,6,7,8]) (kq [0,16,32]) 416 [Sound Try.prog 123 [(encL cI 0 rread),(encL cI 0 rgcd)] [] 0 (.tup [(encL cI 0 rover.1),(encL cI 0 rover.2)]) []] ⟨(g_r01_over_ok N rread rgcd rover hr6),trivial⟩ ?_
    refine Runs.sA 1 [.code (C_72 126),.code (C_72 127)] ?_
    obtain ⟨rover2,hr7,h⟩:=bindSome h
    refine Runs.sR hE ⟨[(2,(.op 0 0 0)),(3,(.op 16 0 0)),(4,(.op 32 0 0)),(8,(encL cI 0 rover.1)),(10,(encL cI 0 rover2.1))],[(0,vO 2 (TInt.cells a)),(16,vO 2 (TInt.cells b)),(32,vO 4 [(aB false),.nil,(aB false),.nil])],544⟩ (C_72 126) [(2,⟨[],true,(.tup [(encL cI 0 rover2.1),(encL cI 0 rover2.2)]),[],0,false,none⟩)] [] (kp [2,3,4,8,10]) (kq [0,16,32]) 544 [Sound Try.prog 123 [(encL cI 0 rread2),(encL cI 0 rgcd)] [] 0 (.tup [(encL cI 0 rover2.1),(encL cI 0 rover2.2)]) []] ⟨(g_r01_over_ok N rread2 rgcd rover2 hr7),trivial⟩ ?_
    refine Runs.sA 1 [.code (C_72 254),.code (C_72 255)] ?_
    obtain ⟨rmade2,hr8,h⟩:=bindSome h
    obtain ⟨rmade3,hr9,h⟩:=bindSome h
    refine Runs.sR hE ⟨[(4,(.op 32 0 0))],[(32,vO 4 [(aB rmade2.f_Neg),(encL (cU .u16) 0 rmade2.f_Limbs),(aB rmade3.f_Neg),(encL (cU .u16) 0 rmade3.f_Limbs)])],720⟩ (C_72 254) [(6,⟨[],true,(.agg (TInt.cells rmade2)),[],0,false,none⟩),(8,⟨[],true,(.agg (TInt.cells rmade3)),[],0,false,none⟩)] [] (kp [4]) (kq [32]) 720 [0 < 1,0 < 1,Sound Try.prog 121 [(aB (!(a.f_Neg == b.f_Neg))),(encL cI 0 rover.1)] [] 0 (.agg (TInt.cells rmade2)) [],Sound Try.prog 121 [(aB false),(encL cI 0 rover2.1)] [] 0 (.agg (TInt.cells rmade3)) [],0 < 1] ⟨o1,o1,(g_r01_made_ok N (!(a.f_Neg == b.f_Neg)) rover.1 rmade2 hr8),(g_r01_made_ok N false rover2.1 rmade3 hr9),o1,trivial⟩ ?_
    obtain rfl:=Option.some.inj h
    refine Runs.sW hE ⟨[(4,(.op 16 0 0))],[(16,vO 4 [(aB rmade2.f_Neg),(encL (cU .u16) 0 rmade2.f_Limbs),(aB rmade3.f_Neg),(encL (cU .u16) 0 rmade3.f_Limbs)])],720⟩ [] (kp [4]) [(16,.keep 32)] 720 [] trivial ?_
    exact Runs.sT Try.f95 [16] [0 < 1] ⟨o1,trivial⟩
noncomputable def C_71 (n:Nat):Code:=cat (bodyOf Try.f90) (pth n)
theorem g_r01_NormRat_ok (N:Nat) (x:TRat) (r:TRat) (h:g_r01_NormRat N x = some r):Sound Try.prog 90 [(.agg (TRat.cells x))] [] 0 (.agg (TRat.cells r)) []:=by
  unfold g_r01_NormRat at h
  refine Sound.of_runs (fu:=Try.f90) (c:=C_71 1) (nt:=8) (by kernel_rfl) (by kernel_rfl) (by kernel_rfl) (by kernel_rfl) (fun hm=>rfl) ?_
  intro E hE
  refine Runs.sA 1 [.code (C_71 2),.code (C_71 3)] ?_
  refine Runs.sR hE ⟨[(1,(.op 0 0 0)),(2,(.op 16 0 0))],[(0,vO 4 (TRat.cells x)),(16,vO 4 [(aB false),.nil,(aB false),.nil])],32⟩ (C_71 2) [] [] (kp [1,2]) (kq [0,16]) 32 [] trivial ?_
  refine Runs.sA 1 [.code (C_71 6),.code (C_71 7)] ?_
  obtain ⟨rOver,hr,h⟩:=bindSome h
  refine Runs.sR hE ⟨[(2,(.op 16 0 0))],[(16,vO 4 (TRat.cells rOver))],128⟩ (C_71 6) [(4,⟨[],true,(.agg (TRat.cells rOver)),[],0,false,none⟩)] [] (kp [2]) (kq [16]) 128 [0 < 1,0 < 1,Sound Try.prog 95 [(.agg (TInt.cells x.f_Num)),(.agg (TInt.cells x.f_Den))] [] 0 (.agg (TRat.cells rOver)) [],0 < 1] ⟨o1,o1,(g_r01_Over_ok N x.f_Num x.f_Den rOver hr),o1,trivial⟩ ?_
  obtain rfl:=Option.some.inj h
  refine Runs.sW hE ⟨[(2,(.op 16 0 0))],[(16,vO 4 (TRat.cells rOver))],128⟩ [] (kp [2]) (kq [16]) 128 [] trivial ?_
  exact Runs.sT Try.f90 [16] [0 < 1] ⟨o1,trivial⟩
noncomputable def C_81 (n:Nat):Code:=cat (bodyOf Try.f89) (pth n)
theorem g_r01_Sign_ok (N:Nat) (a:TInt) (r:Int) (h:g_r01_Sign N a = some r):Sound Try.prog 89 [(.agg (TInt.cells a))] [] 0 (aI r) []:=by
  unfold g_r01_Sign at h
  refine Sound.of_runs (fu:=Try.f89) (c:=C_81 1) (nt:=10) (by kernel_rfl) (by kernel_rfl) (by kernel_rfl) (by kernel_rfl) (fun hm=>rfl) ?_
  intro E hE
  refine Runs.sA 1 [.code (C_81 2),.code (C_81 3)] ?_
  refine Runs.sR hE ⟨[(1,(.op 0 0 0))],[(0,vO 2 (TInt.cells a))],32⟩ (C_81 2) [] [] (kp [1]) (kq [0]) 32 [] trivial ?_
  refine Runs.sA 2 [.code (C_81 12),.code (C_81 13),.code (C_81 7)] ?_
  obtain ⟨rread,hr,h⟩:=bindSome h
  refine Runs.sR hE ⟨[(1,(.op 0 0 0)),(7,(aB (((rread.length:Nat):Int) == 0)))],[(0,vO 2 (TInt.cells a))],112⟩ (C_81 12) [(2,⟨[],true,(encL cI 0 rread),[],0,false,none⟩)] [] (kp [1,7]) (kq [0]) 112 [0 < 1,Sound Try.prog 119 [(encL (cU .u16) 0 a.f_Limbs)] [] 0 (encL cI 0 rread) []] ⟨o1,(g_r01_read_ok N a.f_Limbs rread hr),trivial⟩ ?_
  refine Runs.sC 7 (C_81 26) (C_81 27) (((rread.length:Nat):Int) == 0) (fun hq2=>?_) (fun hq2=>?_)
  · have h:=condT h hq2
    refine Runs.sA 1 [.code (C_81 52),.code (C_81 53),.code (C_81 7)] ?_
    refine Runs.sR hE ⟨[(2,(aI 0))],[],128⟩ (C_81 52) [] [] (kp [2]) [] 128 [] trivial ?_
    obtain rfl:=Option.some.inj h
    refine Runs.sW hE ⟨[(2,(aI 0))],[],128⟩ [] (kp [2]) [] 128 [] trivial ?_
    exact Runs.sT Try.f89 [] [] trivial
  · have h:=condF h hq2
    refine Runs.sA 3 [.code (C_81 28),.code (C_81 29),.code (C_81 15)] ?_
    refine Runs.sR hE ⟨[(9,(aB a.f_Neg))],[],144⟩ (C_81 28) [] [] (kp [9]) [] 144 [0 < 1] ⟨o1,trivial⟩ ?_
    refine Runs.sC 9 (C_81 58) (C_81 59) a.f_Neg (fun hq3=>?_) (fun hq3=>?_)
    · have h:=condT h hq3
      refine Runs.sA 1 [.code (C_81 116),.code (C_81 117),.code (C_81 15)] ?_
      refine Runs.sR hE ⟨[(2,(aI (-1)))],[],160⟩ (C_81 116) [] [] (kp [2]) [] 160 [] trivial ?_
      obtain rfl:=Option.some.inj h
      refine Runs.sW hE ⟨[(2,(aI (-1)))],[],160⟩ [] (kp [2]) [] 160 [] trivial ?_
      exact Runs.sT Try.f89 [] [] trivial
    · have h:=condF h hq3
      refine Runs.sA 2 [.code (C_81 30),.code (C_81 31)] ?_
      refine Runs.sR hE ⟨[(2,(aI 1))],[],160⟩ (C_81 30) [] [] (kp [2]) [] 160 [] trivial ?_
      obtain rfl:=Option.some.inj h
      refine Runs.sW hE ⟨[(2,(aI 1))],[],160⟩ [] (kp [2]) [] 160 [] trivial ?_
      exact Runs.sT Try.f89 [] [] trivial
noncomputable def C_70 (n:Nat):Code:=cat (bodyOf Try.f55) (pth n)
theorem g_r01_SignRat_ok (N:Nat) (x:TRat) (r:Int) (h:g_r01_SignRat N x = some r):Sound Try.prog 55 [(.agg (TRat.cells x))] [] 0 (aI r) []:=by
  unfold g_r01_SignRat at h
  refine Sound.of_runs (fu:=Try.f55) (c:=C_70 1) (nt:=7) (by kernel_rfl) (by kernel_rfl) (by kernel_rfl) (by kernel_rfl) (fun hm=>rfl) ?_
  intro E hE
  refine Runs.sA 1 [.code (C_70 2),.code (C_70 3)] ?_
  refine Runs.sR hE ⟨[(1,(.op 0 0 0))],[(0,vO 4 (TRat.cells x))],32⟩ (C_70 2) [] [] (kp [1]) (kq [0]) 32 [] trivial ?_
  refine Runs.sA 1 [.code (C_70 6),.code (C_70 7)] ?_
  obtain ⟨rNormRat,hr,h⟩:=bindSome h
  obtain ⟨rSign,hr2,h⟩:=bindSome h
  refine Runs.sR hE ⟨[(2,(aI rSign))],[],112⟩ (C_70 6) [(1,⟨[],true,(.agg (TRat.cells rNormRat)),[],0,false,none⟩),(3,⟨[],true,(aI rSign),[],0,false,none⟩)] [] (kp [2]) [] 112 [0 < 1,Sound Try.prog 90 [(.agg (TRat.cells x))] [] 0 (.agg (TRat.cells rNormRat)) [],Sound Try.prog 89 [(.agg (TInt.cells rNormRat.f_Num))] [] 0 (aI rSign) []] ⟨o1,(g_r01_NormRat_ok N x rNormRat hr),(g_r01_Sign_ok N rNormRat.f_Num rSign hr2),trivial⟩ ?_
  obtain rfl:=Option.some.inj h
  refine Runs.sW hE ⟨[(2,(aI rSign))],[],112⟩ [] (kp [2]) [] 112 [] trivial ?_
  exact Runs.sT Try.f55 [] [] trivial
noncomputable def C_85 (n:Nat):Code:=cat (bodyOf Try.f140) (pth n)
theorem g_r01_Neg_ok (N:Nat) (a:TInt) (r:TInt) (h:g_r01_Neg N a = some r):Sound Try.prog 140 [(.agg (TInt.cells a))] [] 0 (.agg (TInt.cells r)) []:=by
  unfold g_r01_Neg at h
  refine Sound.of_runs (fu:=Try.f140) (c:=C_85 1) (nt:=10) (by kernel_rfl) (by kernel_rfl) (by kernel_rfl) (by kernel_rfl) (fun hm=>rfl) ?_
  intro E hE
  refine Runs.sA 1 [.code (C_85 2),.code (C_85 3)] ?_
  refine Runs.sR hE ⟨[(1,(.op 0 0 0)),(2,(.op 16 0 0))],[(0,vO 2 (TInt.cells a)),(16,vO 2 [(aB false),.nil])],32⟩ (C_85 2) [] [] (kp [1,2]) (kq [0,16]) 32 [] trivial ?_
  refine Runs.sA 1 [.code (C_85 6),.code (C_85 7)] ?_
  obtain ⟨rread,hr,h⟩:=bindSome h
  obtain ⟨rmade,hr2,h⟩:=bindSome h
  refine Runs.sR hE ⟨[(2,(.op 16 0 0))],[(16,vO 2 (TInt.cells rmade))],160⟩ (C_85 6) [(5,⟨[],true,(encL cI 0 rread),[],0,false,none⟩),(6,⟨[],true,(.agg (TInt.cells rmade)),[],0,false,none⟩)] [] (kp [2]) (kq [16]) 160 [0 < 1,0 < 1,Sound Try.prog 119 [(encL (cU .u16) 0 a.f_Limbs)] [] 0 (encL cI 0 rread) [],Sound Try.prog 121 [(aB (!a.f_Neg)),(encL cI 0 rread)] [] 0 (.agg (TInt.cells rmade)) [],0 < 1] ⟨o1,o1,(g_r01_read_ok N a.f_Limbs rread hr),(g_r01_made_ok N (!a.f_Neg) rread rmade hr2),o1,trivial⟩ ?_
  obtain rfl:=Option.some.inj h
  refine Runs.sW hE ⟨[(2,(.op 16 0 0))],[(16,vO 2 (TInt.cells rmade))],160⟩ [] (kp [2]) (kq [16]) 160 [] trivial ?_
  exact Runs.sT Try.f140 [16] [0 < 1] ⟨o1,trivial⟩
noncomputable def C_84 (n:Nat):Code:=cat (bodyOf Try.f120) (pth n)
theorem g_r01_NegRat_ok (N:Nat) (x:TRat) (r:TRat) (h:g_r01_NegRat N x = some r):Sound Try.prog 120 [(.agg (TRat.cells x))] [] 0 (.agg (TRat.cells r)) []:=by
  unfold g_r01_NegRat at h
  refine Sound.of_runs (fu:=Try.f120) (c:=C_84 1) (nt:=12) (by kernel_rfl) (by kernel_rfl) (by kernel_rfl) (by kernel_rfl) (fun hm=>rfl) ?_
  intro E hE
  refine Runs.sA 1 [.code (C_84 2),.code (C_84 3)] ?_
  refine Runs.sR hE ⟨[(1,(.op 0 0 0)),(2,(.op 16 0 0))],[(0,vO 4 (TRat.cells x)),(16,vO 4 [(aB false),.nil,(aB false),.nil])],32⟩ (C_84 2) [] [] (kp [1,2]) (kq [0,16]) 32 [] trivial ?_
  refine Runs.sA 1 [.code (C_84 6),.code (C_84 7)] ?_
  obtain ⟨rNormRat,hr,h⟩:=bindSome h
  refine Runs.sR hE ⟨[(2,(.op 16 0 0)),(3,(.op 64 0 0))],[(16,vO 4 [(aB false),.nil,(aB false),.nil]),(64,vO 4 (TRat.cells rNormRat))],96⟩ (C_84 6) [(1,⟨[],true,(.agg (TRat.cells rNormRat)),[],0,false,none⟩)] [] (kp [2,3]) (kq [16,64]) 96 [0 < 1,Sound Try.prog 90 [(.agg (TRat.cells x))] [] 0 (.agg (TRat.cells rNormRat)) [],0 < 1] ⟨o1,(g_r01_NormRat_ok N x rNormRat hr),o1,trivial⟩ ?_
  refine Runs.sA 1 [.code (C_84 14),.code (C_84 15)] ?_
  obtain ⟨rNeg,hr2,h⟩:=bindSome h
  refine Runs.sR hE ⟨[(2,(.op 16 0 0))],[(16,vO 4 [(aB rNeg.f_Neg),(encL (cU .u16) 0 rNeg.f_Limbs),(aB rNormRat.f_Den.f_Neg),(encL (cU .u16) 0 rNormRat.f_Den.f_Limbs)])],208⟩ (C_84 14) [(2,⟨[],true,(.agg (TInt.cells rNeg)),[],0,false,none⟩)] [] (kp [2]) (kq [16]) 208 [0 < 1,Sound Try.prog 140 [(.agg (TInt.cells rNormRat.f_Num))] [] 0 (.agg (TInt.cells rNeg)) [],0 < 1,0 < 1] ⟨o1,(g_r01_Neg_ok N rNormRat.f_Num rNeg hr2),o1,o1,trivial⟩ ?_
  obtain rfl:=Option.some.inj h
  refine Runs.sW hE ⟨[(2,(.op 16 0 0))],[(16,vO 4 [(aB rNeg.f_Neg),(encL (cU .u16) 0 rNeg.f_Limbs),(aB rNormRat.f_Den.f_Neg),(encL (cU .u16) 0 rNormRat.f_Den.f_Limbs)])],208⟩ [] (kp [2]) (kq [16]) 208 [] trivial ?_
  exact Runs.sT Try.f120 [16] [0 < 1] ⟨o1,trivial⟩
noncomputable def C_87 (n:Nat):Code:=cat (bodyOf Try.f97) (pth n)
theorem g_r01_Mul_ok (N:Nat) (a:TInt) (b:TInt) (r:TInt) (h:g_r01_Mul N a b = some r):Sound Try.prog 97 [(.agg (TInt.cells a)),(.agg (TInt.cells b))] [] 0 (.agg (TInt.cells r)) []:=by
  unfold g_r01_Mul at h
  refine Sound.of_runs (fu:=Try.f97) (c:=C_87 1) (nt:=18) (by kernel_rfl) (by kernel_rfl) (by kernel_rfl) (by kernel_rfl) (fun hm=>rfl) ?_
  intro E hE
  refine Runs.sA 1 [.code (C_87 2),.code (C_87 3)] ?_
  refine Runs.sR hE ⟨[(2,(.op 0 0 0)),(3,(.op 16 0 0)),(4,(.op 32 0 0))],[(0,vO 2 (TInt.cells a)),(16,vO 2 (TInt.cells b)),(32,vO 2 [(aB false),.nil])],48⟩ (C_87 2) [] [] (kp [2,3,4]) (kq [0,16,32]) 48 [] trivial ?_
  refine Runs.sA 1 [.code (C_87 6),.code (C_87 7)] ?_
  obtain ⟨rread,hr,h⟩:=bindSome h
  obtain ⟨rread2,hr2,h⟩:=bindSome h
  obtain ⟨rtimes,hr3,h⟩:=bindSome h
  obtain ⟨rmade,hr4,h⟩:=bindSome h
  refine Runs.sR hE ⟨[(4,(.op 32 0 0))],[(32,vO 2 (TInt.cells rmade))],272⟩ (C_87 6) [(7,⟨[],true,(encL cI 0 rread),[],0,false,none⟩),(10,⟨[],true,(encL cI 0 rread2),[],0,false,none⟩),(11,⟨[],true,(encL cI 0 rtimes),[],0,false,none⟩),(12,⟨[],true,(.agg (TInt.cells rmade)),[],0,false,none⟩)] [] (kp [4]) (kq [32]) 272 [0 < 1,0 < 1,0 < 1,Sound Try.prog 119 [(encL (cU .u16) 0 a.f_Limbs)] [] 0 (encL cI 0 rread) [],0 < 1,Sound Try.prog 119 [(encL (cU .u16) 0 b.f_Limbs)] [] 0 (encL cI 0 rread2) [],Sound Try.prog 127 [(encL cI 0 rread),(encL cI 0 rread2)] [] 0 (encL cI 0 rtimes) [],Sound Try.prog 121 [(aB (!(a.f_Neg == b.f_Neg))),(encL cI 0 rtimes)] [] 0 (.agg (TInt.cells rmade)) [],0 < 1] ⟨o1,o1,o1,(g_r01_read_ok N a.f_Limbs rread hr),o1,(g_r01_read_ok N b.f_Limbs rread2 hr2),(g_r01_times_ok N rread rread2 rtimes hr3),(g_r01_made_ok N (!(a.f_Neg == b.f_Neg)) rtimes rmade hr4),o1,trivial⟩ ?_
  obtain rfl:=Option.some.inj h
  refine Runs.sW hE ⟨[(4,(.op 16 0 0))],[(16,vO 2 (TInt.cells rmade))],272⟩ [] (kp [4]) [(16,.keep 32)] 272 [] trivial ?_
  exact Runs.sT Try.f97 [16] [0 < 1] ⟨o1,trivial⟩
noncomputable def C_89 (n:Nat):Code:=cat (bodyOf Try.f124) (pth n)
theorem g_r01_plus_L1_ok (N:Nat) (a:List Int) (b:List Int) (fuel:Nat):∀ (out:List Int) (carry:Int) (i:Int) (r:(List Int)),g_r01_plus_L1 N a b fuel out carry i = some r→∀ E,EnvOk E 0→Runs Try.prog E 124 43 (SPost E [] (encL cI 0 r)) [.code (C_89 244),.inLoop (C_89 244),.inBlock 0,.code (C_89 31)] ⟨[(0,(encL cI 0 a)),(1,(encL cI 0 b)),(5,(.os 0 0 out.length)),(6,(aI carry)),(7,(aI i))],[(0,aO 1 cI 0 out)],1⟩:=by
  induction fuel with
  | zero=>intro _ _ _ r h; rw [g_r01_plus_L1.eq_1] at h; cases h
  | succ fuel ih =>
    intro out carry i r h E hE
    rw [g_r01_plus_L1.eq_2] at h
    refine Runs.sA 2 [.code (C_89 976),.code (C_89 977),.code (C_89 489),.inLoop (C_89 244),.inBlock 0,.code (C_89 31)] ?_
    refine Runs.sR hE ⟨[(0,(encL cI 0 a)),(1,(encL cI 0 b)),(5,(.os 0 0 out.length)),(6,(aI carry)),(7,(aI i)),(22,(aB (cond (cond (decide (i < ((a.length:Nat):Int))) true (decide (i < ((b.length:Nat):Int)))) true (decide (carry > 0)))))],[(0,aO 1 cI 0 out)],225⟩ (C_89 976) [] [] (kp [0,1,5,6,7,22]) (kq [0]) 225 [(!(decide (i < ((a.length:Nat):Int)))) = true→AllP [(!(decide (i < ((a.length:Nat):Int)))) = true],(!(decide (i < ((a.length:Nat):Int)))) = true→AllP [(!(decide (i < ((a.length:Nat):Int)))) = true,(!(decide (i < ((a.length:Nat):Int)))) = true],(!(decide (i < ((a.length:Nat):Int)))) = true→AllP [(!(decide (i < ((a.length:Nat):Int)))) = true],(!(cond (decide (i < ((a.length:Nat):Int))) true (decide (i < ((b.length:Nat):Int))))) = true→AllP [(!(cond (decide (i < ((a.length:Nat):Int))) true (decide (i < ((b.length:Nat):Int))))) = true],(!(cond (decide (i < ((a.length:Nat):Int))) true (decide (i < ((b.length:Nat):Int))))) = true→AllP [(!(cond (decide (i < ((a.length:Nat):Int))) true (decide (i < ((b.length:Nat):Int))))) = true]] ⟨(fun hg=>⟨hg,trivial⟩),(fun hg=>⟨hg,hg,trivial⟩),(fun hq=>⟨hq,trivial⟩),(fun hg=>⟨hg,trivial⟩),(fun hq=>⟨hq,trivial⟩),trivial⟩ ?_
    refine Runs.sC 22 (C_89 1954) (C_89 1955) (cond (cond (decide (i < ((a.length:Nat):Int))) true (decide (i < ((b.length:Nat):Int)))) true (decide (carry > 0))) (fun hq2=>?_) (fun hq2=>?_)
    · have h:=condT h hq2
      refine Runs.sA 4 [.code (C_89 3912),.code (C_89 3913),.inBlock 1,.code (C_89 979),.inLoop (C_89 244),.inBlock 0,.code (C_89 31)] ?_
      obtain ⟨rdigit,hr,h⟩:=bindSome h
      obtain ⟨rdigit2,hr2,h⟩:=bindSome h
      refine Runs.sR hE ⟨[(0,(encL cI 0 a)),(1,(encL cI 0 b)),(5,(.os 0 0 out.length)),(7,(aI i)),(8,(aI (w64 ((w64 (rdigit+rdigit2))+carry))))],[(0,aO 1 cI 0 out)],385⟩ (C_89 3912) [(2,⟨[],true,(aI rdigit),[],0,false,none⟩),(5,⟨[],true,(aI rdigit2),[],0,false,none⟩)] [] (kp [0,1,5,7,8]) (kq [0]) 385 [Sound Try.prog 141 [(encL cI 0 a),(aI i)] [] 0 (aI rdigit) [],Sound Try.prog 141 [(encL cI 0 b),(aI i)] [] 0 (aI rdigit2) []] ⟨(g_r01_digit_ok N a i rdigit hr),(g_r01_digit_ok N b i rdigit2 hr2),trivial⟩ ?_
      refine Runs.sA 1 [.code (C_89 7826),.code (C_89 7827),.inBlock 1,.code (C_89 979),.inLoop (C_89 244),.inBlock 0,.code (C_89 31)] ?_
      obtain ⟨c,h⟩:=ifSome h
      refine Runs.sR hE ⟨[(0,(encL cI 0 a)),(1,(encL cI 0 b)),(5,(.os 449 0 ((out ++ ([((w64 ((w64 (rdigit+rdigit2))+carry)).tmod 65536)]:List Int)).length))),(7,(aI i)),(8,(aI (w64 ((w64 (rdigit+rdigit2))+carry))))],[(449,aO 1 cI 0 (out ++ ([((w64 ((w64 (rdigit+rdigit2))+carry)).tmod 65536)]:List Int)))],481⟩ (C_89 7826) [] [] (kp [0,1] ++ [(5,.osl ((out ++ ([((w64 ((w64 (rdigit+rdigit2))+carry)).tmod 65536)]:List Int)).length))] ++ kp [7,8]) [(449,.arr 449 ((out ++ ([((w64 ((w64 (rdigit+rdigit2))+carry)).tmod 65536)]:List Int)).length) (fun zi=>cI ((out ++ ([((w64 ((w64 (rdigit+rdigit2))+carry)).tmod 65536)]:List Int)).getD zi 0)))] 481 [(65536:Int) ≠ 0,out.length = out.length,(out.length+1) * 8≤140737488355328,0+1≤1,∀ zi,zi < 1→AV.oneL ((fun zi=>([[(aI ((w64 ((w64 (rdigit+rdigit2))+carry)).tmod 65536))]]:List (List AV)).getD zi []) (addz 0 zi)) = true,(out.length+1) = (out ++ ([((w64 ((w64 (rdigit+rdigit2))+carry)).tmod 65536)]:List Int)).length,out.length+1 = (out ++ ([((w64 ((w64 (rdigit+rdigit2))+carry)).tmod 65536)]:List Int)).length,∀ zi,zi < (out ++ ([((w64 ((w64 (rdigit+rdigit2))+carry)).tmod 65536)]:List Int)).length→(fun zi=>cI ((out ++ ([((w64 ((w64 (rdigit+rdigit2))+carry)).tmod 65536)]:List Int)).getD zi 0)) zi = ((fun zm=>if zm < out.length then (fun zi=>cI (out.getD zi 0)) zm else (fun zi=>([[(aI ((w64 ((w64 (rdigit+rdigit2))+carry)).tmod 65536))]]:List (List AV)).getD zi []) (zm - out.length))) zi] ⟨(by decide),rfl,c,z0,(oneN rfl),(len_app_raw rfl rfl),(len_app_raw rfl rfl),(get_app_raw cI 0 out ([((w64 ((w64 (rdigit+rdigit2))+carry)).tmod 65536)]:List Int) rfl (fun _ _=>rfl) (fun zq hzq=>get_chunk cI 0 ([((w64 ((w64 (rdigit+rdigit2))+carry)).tmod 65536)]:List Int) zq hzq)),trivial⟩ ?_
      refine Runs.sR hE ⟨[(0,(encL cI 0 a)),(1,(encL cI 0 b)),(5,(.os 449 0 ((out ++ ([((w64 ((w64 (rdigit+rdigit2))+carry)).tmod 65536)]:List Int)).length))),(6,(aI (w64 ((w64 ((w64 (rdigit+rdigit2))+carry)).tdiv 65536)))),(7,(aI i))],[(449,aO 1 cI 0 (out ++ ([((w64 ((w64 (rdigit+rdigit2))+carry)).tmod 65536)]:List Int)))],529⟩ (C_89 7827) [] [] (kp [0,1,5,6,7]) (kq [449]) 529 [(65536:Int) ≠ 0] ⟨(by decide),trivial⟩ ?_
      refine Runs.sA 1 [.code (C_89 979),.inLoop (C_89 244),.inBlock 0,.code (C_89 31)] ?_
      refine Runs.sR hE ⟨[(0,(encL cI 0 a)),(1,(encL cI 0 b)),(5,(.os 449 0 ((out ++ ([((w64 ((w64 (rdigit+rdigit2))+carry)).tmod 65536)]:List Int)).length))),(6,(aI (w64 ((w64 ((w64 (rdigit+rdigit2))+carry)).tdiv 65536)))),(7,(aI (w64 (i+1))))],[(449,aO 1 cI 0 (out ++ ([((w64 ((w64 (rdigit+rdigit2))+carry)).tmod 65536)]:List Int)))],577⟩ (C_89 979) [] [] (kp [0,1,5,6,7]) (kq [449]) 577 [] trivial ?_
      refine Runs.sA 1 [.code (C_89 244),.inLoop (C_89 244),.inBlock 0,.code (C_89 31)] ?_
      exact Runs.sW hE _ [] (kp [0,1,5,6,7]) [(0,.keep 449)] 1 [] trivial (ih (out ++ ([((w64 ((w64 (rdigit+rdigit2))+carry)).tmod 65536)]:List Int)) (w64 ((w64 ((w64 (rdigit+rdigit2))+carry)).tdiv 65536)) (w64 (i+1)) _ h E hE)
    · have h:=condF h hq2
      refine Runs.sA 2 [.code (C_89 62),.code (C_89 63)] ?_
      obtain ⟨rtrim,hr3,h⟩:=bindSome h
      refine Runs.sR hE ⟨[(4,(encL cI 0 rtrim))],[],273⟩ (C_89 62) [(1,⟨[],true,(encL cI 0 rtrim),[],0,true,none⟩)] [] (kp [4]) [] 273 [Sound Try.prog 139 [(encL cI 0 out)] [] 0 (encL cI 0 rtrim) [],0+out.length≤out.length] ⟨(g_r01_trim_ok N out rtrim hr3),z0,trivial⟩ ?_
      obtain rfl:=Option.some.inj h
      refine Runs.sW hE ⟨[(4,(encL cI 0 rtrim))],[],273⟩ [] (kp [4]) [] 273 [] trivial ?_
      exact Runs.sT Try.f124 [] [] trivial
theorem g_r01_plus_ok (N:Nat) (a:List Int) (b:List Int) (r:(List Int)) (h:g_r01_plus N a b = some r):Sound Try.prog 124 [(encL cI 0 a),(encL cI 0 b)] [] 0 (encL cI 0 r) []:=by
  unfold g_r01_plus at h
  refine Sound.of_runs (fu:=Try.f124) (c:=C_89 1) (nt:=43) (by kernel_rfl) (by kernel_rfl) (by kernel_rfl) (by kernel_rfl) (fun hm=>rfl) ?_
  intro E hE
  refine Runs.sA 1 [.code (C_89 2),.code (C_89 3)] ?_
  refine Runs.sR hE ⟨[(0,(encL cI 0 a)),(1,(encL cI 0 b))],[],16⟩ (C_89 2) [] [] (kp [0,1]) [] 16 [] trivial ?_
  refine Runs.sA 1 [.code (C_89 6),.code (C_89 7)] ?_
  refine Runs.sR hE ⟨[(0,(encL cI 0 a)),(1,(encL cI 0 b)),(5,.nil)],[],32⟩ (C_89 6) [] [] (kp [0,1,5]) [] 32 [] trivial ?_
  refine Runs.sA 1 [.code (C_89 14),.code (C_89 15)] ?_
  refine Runs.sR hE ⟨[(0,(encL cI 0 a)),(1,(encL cI 0 b)),(5,.nil),(6,(aI 0))],[],48⟩ (C_89 14) [] [] (kp [0,1,5,6]) [] 48 [] trivial ?_
  refine Runs.sA 2 [.code (C_89 60),.code (C_89 61),.code (C_89 31)] ?_
  refine Runs.sR hE ⟨[(0,(encL cI 0 a)),(1,(encL cI 0 b)),(5,.nil),(6,(aI 0)),(7,(aI 0))],[],64⟩ (C_89 60) [] [] (kp [0,1,5,6,7]) [] 64 [] trivial ?_
  refine Runs.sA 2 [.code (C_89 244),.inLoop (C_89 244),.inBlock 0,.code (C_89 31)] ?_
  exact Runs.sW hE _ [] (kp [0,1] ++ [(5,.nilos 0)] ++ kp [6,7]) [(0,.nil 1 (fun zi=>cI (([]:List Int).getD zi 0)))] 1 [] trivial (g_r01_plus_L1_ok N a b N ([]:List Int) 0 0 _ h E hE)
end Go.Den
