/- Each function of the program does what its Lean function computes (part 2). No conditions. -/
import Derived.Test.YtkejjbiabpdhjaaTopMeanOfMeansSa
import Derived.Test.YtkejjbiabpdhjaaProg
set_option linter.unusedVariables false
set_option maxRecDepth 100000
namespace Go.Den
open Go.Ab Go.Proofs
theorem g_e_times_L2_ok (N:Nat) (a:List Int) (b:List Int) (x:Int) (K_g_e_times_L1:(List Int)→Int→Option qzd15) (hK_g_e_times_L1:g_e_times_L1_H N a b K_g_e_times_L1) (fuel:Nat):g_e_times_L2_H N a b x (g_e_times_L2 N a b x K_g_e_times_L1 fuel):=by
 induction fuel with
 | zero=>intro _ _ _ r h;rw [g_e_times_L2.eq_1] at h;cases h
 | succ fuel ih =>
  intro out2 carry x2 r h E hE
  rw [g_e_times_L2.eq_2] at h
  refine rnZ hE 1 (kp [1,5,6,7,8,17,18,19,24,25,26,27]) (kq [0]) 17 <| Runs.nC 1 27 h (fun hq3 h=>?_) (fun hq3 h=>?_)
  ·obtain ⟨c3,h⟩:=ifSome h
   refine rnP hE 4 (kp [1,5,6,7,8,9,10,17,18,19,24,25,26]) (kq [0]) 97 (pc c3 pn) ?_
   obtain ⟨c4,h⟩:=ifSome h
   refine rnP hE 1 (kp [1,5,6,7,8,9,17,18,19,24,25,26]) (kq [0]) 353 (pc c4 (pc (ltOf c4) pn)) <| rnP hE 1 (kp [1] ++ [(5,.osl ((qzd12 out2 x x2 carry a b).length))] ++ kp [6,7,8,17,18,19,24,25,26]) [(0,arW 0 (cU .u16) 0 (qzd12 out2 x x2 carry a b))] 481 (pc c4 (pc (ltOf c4) (pc (len_set0 out2 ((w64 (x+x2)).toNat) (qzd49 carry a x b x2 out2)) (pc (len_set0 out2 ((w64 (x+x2)).toNat) (qzd49 carry a x b x2 out2)) (pc (get_set0 (cU .u16) 0 out2 ((w64 (x+x2)).toNat) (qzd49 carry a x b x2 out2)) pn))))) <| rnP hE 0 qzd112 (kq [0]) 529 (pc (show (0:Int)≤16 by decide) pn) <| rnZ hE 1 qzd112 (kq [0]) 561 <| rnV hE 1 qzd112 (kq [0]) 1 (ih _ _ _ _ h E hE)
  ·obtain ⟨c5,h⟩:=ifSome h
   refine rnP hE 1 (kp [1] ++ [(5,.osl ((out2.set (qzd21 x b) (qzd47 carry)).length))] ++ kp [17,18,19]) [(0,arW 0 (cU .u16) 0 (out2.set (qzd21 x b) (qzd47 carry)))] 161 (pc c5 (pc (ltOf c5) (pc (len_set0 out2 (qzd21 x b) (qzd47 carry)) (pc (len_set0 out2 (qzd21 x b) (qzd47 carry)) (pc (get_set0 (cU .u16) 0 out2 (qzd21 x b) (qzd47 carry)) pn))))) <| rnZ hE 1 qzd109 (kq [0]) 193 <| rnV hE 1 qzd109 (kq [0]) 1 (hK_g_e_times_L1 _ _ _ h E hE)
theorem g_e_times_L1_ok (N:Nat) (a:List Int) (b:List Int) (fuel:Nat):g_e_times_L1_H N a b (g_e_times_L1 N a b fuel):=by
 induction fuel with
 | zero=>intro _ _ r h;rw [g_e_times_L1.eq_1] at h;cases h
 | succ fuel ih =>
  intro out x r h E hE
  rw [g_e_times_L1.eq_2] at h
  refine rnZ hE 1 (kp [1,5,17,18,19,20]) (kq [0]) 17 <| Runs.nC 1 20 h (fun hq2 h=>?_) (fun hq2 h=>?_)
  ·obtain ⟨c2,h⟩:=ifSome h
   refine rnP hE 4 (kp [1,5,6,7,17,18,19]) (kq [0]) 97 (pc c2 pn) <| rnZ hE 1 (kp [1,5,6,7,8,17,18,19]) (kq [0]) 113 <| rnZ hE 2 qzd112 (kq [0]) 161 <| rnV hE 2 qzd112 (kq [0]) 1 (g_e_times_L2_ok N _ _ _ _ ih N _ _ _ _ h E hE)
  ·obtain ⟨rtrim,hr,h⟩:=bindSome h
   refine rnH hE 2 [(1,⟨[],true,(qzd69 rtrim),[],0,true,none⟩)] (kp [4]) [] 65 (pc (g_e_trim_ok _ _ _ hr) (pc (z1 out.length) pn)) ?_
   obtain rfl:=Option.some.inj h
   exact rnU hE 0 Try.f43 (kp [4]) [] 65
theorem g_e_times_ok (N:Nat) (a:List Int) (b:List Int) (r:(List Int)) (h:g_e_times N a b=some r):Sound Try.prog 43 [(qzd68 a),(qzd68 b)] [] 0 (qzd69 r) []:=by
 unfold g_e_times at h
 refine sO Try.f43 67 fun E hE=>?_
 refine rnZ hE 1 (kp [0,1]) [] 16 ?_
 obtain ⟨c,h⟩:=ifSome h
 refine rnP hE 1 (kp [0,1] ++ [(5,.osl ((qzd57 a b).length))]) [(96,arW 96 (cU .u16) 0 (qzd57 a b))] 128 (pc c.1 (pc (Int.le_refl (qzd182 a b)) (pc c.2.1 (pc c.2.2 (pc (lR (qzd22 a b) (0:Int)) (pc (lR (qzd22 a b) (0:Int)) (pc (get_rep (cU .u16) 0 0 (qzd22 a b)) pn))))))) <| rnZ hE 2 qzd109 (kq [96]) 176 <| rnV hE 2 qzd109 [(0,.keep 96)] 1 (g_e_times_L1_ok N _ _ N _ _ _ h E hE)
theorem g_e_Mul_ok (N:Nat) (a:TInt) (b:TInt) (r:TInt) (h:g_e_Mul N a b=some r):Sound Try.prog 24 [(qzd26 a),(qzd26 b)] [] 0 (qzd26 r) []:=by
 unfold g_e_Mul at h
 refine sO Try.f24 18 fun E hE=>?_
 refine rnZ hE 1 qzd116 qzd154 48 ?_
 obtain ⟨rtrim,hr,h⟩:=bindSome h
 obtain ⟨rtrim2,hr2,h⟩:=bindSome h
 obtain ⟨rtimes,hr3,h⟩:=bindSome h
 obtain ⟨rsigned,hr4,h⟩:=bindSome h
 refine rnH hE 1 [(7,⟨[],true,(qzd69 rtrim),[],0,false,none⟩),(10,⟨[],true,(qzd69 rtrim2),[],0,false,none⟩),(11,⟨[],true,(qzd69 rtimes),[],0,false,none⟩),(12,⟨[],true,(qzd26 rsigned),[],0,false,none⟩)] (kp [4]) (kq [32]) 272 (pc o1 (pc o1 (pc o1 (pc (g_e_trim_ok _ _ _ hr) (pc o1 (pc (g_e_trim_ok _ _ _ hr2) (pc (g_e_times_ok _ _ _ _ hr3) (pc (g_e_signed_ok _ _ _ _ hr4) (pc o1 pn))))))))) ?_
 obtain rfl:=Option.some.inj h
 exact Runs.nT hE 0 Try.f24 [] (kp [4]) [(16,.keep 32)] 272 pn [16] (pc o1 pn)
noncomputable abbrev C_103:=bt Try.f45
def g_e_plus_J1_H (N:Nat) (K:(List Int)→(List Int)→Option qzd15):Prop:=∀ (a2:List Int) (b2:List Int) (r:(List Int)),K a2 b2=some r→∀ E,EnvOk E 0→Runs Try.prog E 45 56 (SPost E [] (qzd69 r)) [.code (C_103 14),.code (C_103 15)] ⟨[(0,(qzd68 a2)),(1,(qzd68 b2))],[],0⟩
def g_e_plus_L2_H (N:Nat) (a2:List Int) (b2:List Int) (K:(List Int)→Int→Int→Option qzd15):Prop:=∀ (out:List Int) (carry:Int) (x:Int) (r:(List Int)),K out carry x=some r→∀ E,EnvOk E 0→Runs Try.prog E 45 56 (SPost E [] (qzd69 r)) [.code (C_103 500),.inLoop (C_103 500),.inBlock 0,.code (C_103 63)] ⟨[(1,(qzd68 b2)),(5,(qzd32 out)),(6,(qzd30 carry)),(20,(qzd68 a2)),(21,(qzd63 a2)),(22,(aI x))],[(0,aO 1 (cU .u16) 0 out)],1⟩
def g_e_plus_J3_H (N:Nat) (a2:List Int) (b2:List Int) (out:List Int) (x:Int) (K:Int→Option qzd15):Prop:=∀ (carry2:Int) (r:(List Int)),K carry2=some r→∀ E,EnvOk E 0→Runs Try.prog E 45 56 (SPost E [] (qzd69 r)) [.code (C_103 128206),.code (C_103 128207),.inBlock 1,.code (C_103 4007),.inLoop (C_103 500),.inBlock 0,.code (C_103 63)] ⟨[(1,(qzd68 b2)),(5,(qzd32 out)),(6,(qzd30 carry2)),(20,(qzd68 a2)),(21,(qzd63 a2)),(22,(aI x))],[(0,aO 1 (cU .u16) 0 out)],1⟩
theorem g_e_plus_J3_ok (N:Nat) (a2:List Int) (b2:List Int) (out:List Int) (x:Int) (K_g_e_plus_L2:(List Int)→Int→Int→Option qzd15) (hK_g_e_plus_L2:g_e_plus_L2_H N a2 b2 K_g_e_plus_L2):g_e_plus_J3_H N a2 b2 out x (g_e_plus_J3 N a2 b2 out x K_g_e_plus_L2):=by
 intro carry2 r h E hE
 unfold g_e_plus_J3 at h
 obtain ⟨c4,h⟩:=ifSome h
 refine rnP hE 0 (kp [1] ++ [(5,.osl ((qzd6 out carry2).length))] ++ kp [6,20,21,22]) [(65,arW 65 (cU .u16) 0 (qzd6 out carry2))] 97 (pc (Eq.refl out.length) (pc c4 (pc (z1 1) (pc (oN [[(qzd29 carry2)]]) (pc (len_app0 out (qzd60 carry2)) (pc (len_app0 out (qzd60 carry2)) (pc (gA1 (cU .u16) 0 out (qzd60 carry2)) pn))))))) <| rnP hE 0 qzd111 (kq [65]) 145 (pc (show (0:Int)≤16 by decide) pn) <| rnZ hE 1 qzd111 (kq [65]) 177 <| rnV hE 1 qzd111 [(0,.keep 65)] 1 (hK_g_e_plus_L2 _ _ _ _ h E hE)
theorem g_e_plus_L2_ok (N:Nat) (a2:List Int) (b2:List Int) (fuel:Nat):g_e_plus_L2_H N a2 b2 (g_e_plus_L2 N a2 b2 fuel):=by
 induction fuel with
 | zero=>intro _ _ _ r h;rw [g_e_plus_L2.eq_1] at h;cases h
 | succ fuel ih =>
  intro out carry x r h E hE
  rw [g_e_plus_L2.eq_2] at h
  refine rnZ hE 1 (kp [1,5,6,20,21,22,23]) (kq [0]) 17 <| Runs.nC 1 23 h (fun hq3 h=>?_) (fun hq3 h=>?_)
  ·obtain ⟨c2,h⟩:=ifSome h
   refine rnP hE 4 (kp [1,5,6,7,8,20,21,22]) (kq [0]) 97 (pc c2 pn) <| rnZ hE 1 (kp [1,5,6,7,20,21,22]) (kq [0]) 177 <| rnZ hE 2 (kp [1,5,6,7,20,21,22,34]) (kq [0]) 241 <| Runs.nC 0 34 h (fun hq4 h=>?_) (fun hq4 h=>?_)
   ·obtain ⟨c3,h⟩:=ifSome h
    refine rnP hE 0 qzd111 (kq [0]) 369 (pc c3 pn) <| rnV hE 1 qzd111 (kq [0]) 1 (g_e_plus_J3_ok N _ _ _ _ _ ih _ _ h E hE)
   ·exact rnV hE 2 qzd111 (kq [0]) 1 (g_e_plus_J3_ok N _ _ _ _ _ ih _ _ h E hE)
  ·obtain ⟨c5,h⟩:=ifSome h
   obtain ⟨rtrim,hr,h⟩:=bindSome h
   refine rnH hE 2 [(5,⟨[],true,(qzd69 rtrim),[],0,true,none⟩)] (kp [4]) [] 129 (pc (Eq.refl out.length) (pc c5 (pc (z1 1) (pc (oN [[(qzd29 carry)]]) (pc (show Sound Try.prog 39 [(.sl (out.length+1) (fun zi=>((fun zm=>if zm < out.length then (fun zi=>(cU .u16) (out.getD zi 0)) zm else (fun zi=>([[(qzd29 carry)]]:List (List AV)).getD zi []) (zm - out.length))) (addz 0 zi)))] [] 0 (qzd69 rtrim) [] from (Sound.conv (g_e_trim_ok _ _ _ hr) (.cons (Alike.sl (len_app_raw rfl rfl) (gA1 (cU .u16) 0 out (qzd60 carry))) .nil))) (pc (z1 (out.length+1)) pn)))))) ?_
   obtain rfl:=Option.some.inj h
   exact rnU hE 0 Try.f45 (kp [4]) [] 129
theorem g_e_plus_J1_ok (N:Nat):g_e_plus_J1_H N (g_e_plus_J1 N):=by
 intro a2 b2 r h E hE
 unfold g_e_plus_J1 at h
 obtain ⟨c,h⟩:=ifSome h
 refine rnP hE 0 (kp [0,1] ++ [(5,.osl ((List.replicate 0 0:List Int).length))]) [(48,arW 48 (cU .u16) 0 (List.replicate 0 0:List Int))] 80 (pc c.1 (pc c.2.2.2 (pc c.2.1 (pc c.2.2.1 (pc (lR 0 (0:Int)) (pc (lR 0 (0:Int)) (pc (get_rep (cU .u16) 0 0 0) pn))))))) <| rnZ hE 1 qzd84 (kq [48]) 96 <| rnZ hE 2 qzd111 (kq [48]) 144 <| rnV hE 2 qzd111 [(0,.keep 48)] 1 (g_e_plus_L2_ok N _ _ N _ _ _ _ h E hE)
theorem g_e_plus_ok (N:Nat) (a:List Int) (b:List Int) (r:(List Int)) (h:g_e_plus N a b=some r):Sound Try.prog 45 [(qzd68 a),(qzd68 b)] [] 0 (qzd69 r) []:=by
 unfold g_e_plus at h
 refine sO Try.f45 56 fun E hE=>?_
 refine rnZ hE 1 (kp [0,1]) [] 16 <| rnZ hE 2 (kp [0,1,13]) [] 96 <| Runs.nC 0 13 h (fun hq2 h=>?_) (fun hq2 h=>?_)
 ·refine rnZ hE 0 (kp [0,1]) [] 160 <| rnV hE 1 (kp [0,1]) [] 0 (g_e_plus_J1_ok N _ _ _ h E hE)
 ·exact rnV hE 2 (kp [0,1]) [] 0 (g_e_plus_J1_ok N _ _ _ h E hE)
noncomputable abbrev C_104:=bt Try.f47
def g_e_minus_L1_H (N:Nat) (a:List Int) (b:List Int) (K:(List Int)→Int→Int→Option qzd15):Prop:=∀ (out:List Int) (borrow:Int) (x:Int) (r:(List Int)),K out borrow x=some r→∀ E,EnvOk E 0→Runs Try.prog E 47 50 (SPost E [] (qzd69 r)) [.code (C_104 244),.inLoop (C_104 244),.inBlock 0,.code (C_104 31)] ⟨[(1,(qzd68 b)),(5,(qzd32 out)),(6,(qzd30 borrow)),(13,(qzd68 a)),(qzd42 a),(15,(aI x))],[(0,aO 1 (cU .u16) 0 out)],1⟩
def g_e_minus_J2_H (N:Nat) (a:List Int) (b:List Int) (out:List Int) (x:Int) (K:Int→Option qzd15):Prop:=∀ (y:Int) (r:(List Int)),K y=some r→∀ E,EnvOk E 0→Runs Try.prog E 47 50 (SPost E [] (qzd69 r)) [.code (C_104 62670),.code (C_104 62671),.inBlock 1,.code (C_104 1959),.inLoop (C_104 244),.inBlock 0,.code (C_104 31)] ⟨[(1,(qzd68 b)),(5,(qzd32 out)),(7,(aI x)),(8,(.atom (.int .u16 (a.getD ((x).toNat) 0)))),(9,(qzd30 y)),(13,(qzd68 a)),(qzd42 a),(15,(aI x))],[(0,aO 1 (cU .u16) 0 out)],1⟩
def g_e_minus_J3_H (N:Nat) (a:List Int) (b:List Int) (out:List Int) (x:Int) (y:Int) (K:Int→Option qzd15):Prop:=∀ (borrow2:Int) (r:(List Int)),K borrow2=some r→∀ E,EnvOk E 0→Runs Try.prog E 47 50 (SPost E [] (qzd69 r)) [.code (C_104 125343),.inBlock 1,.code (C_104 1959),.inLoop (C_104 244),.inBlock 0,.code (C_104 31)] ⟨[(1,(qzd68 b)),(5,(qzd32 out)),(6,(qzd30 borrow2)),(7,(aI x)),(8,(.atom (.int .u16 (a.getD ((x).toNat) 0)))),(9,(qzd30 y)),(13,(qzd68 a)),(qzd42 a),(15,(aI x))],[(0,aO 1 (cU .u16) 0 out)],1⟩
theorem g_e_minus_J3_ok (N:Nat) (a:List Int) (b:List Int) (out:List Int) (x:Int) (y:Int) (K_g_e_minus_L1:(List Int)→Int→Int→Option qzd15) (hK_g_e_minus_L1:g_e_minus_L1_H N a b K_g_e_minus_L1):g_e_minus_J3_H N a b out x y (g_e_minus_J3 N a b out x y K_g_e_minus_L1):=by
 intro borrow2 r h E hE
 unfold g_e_minus_J3 at h
 obtain ⟨c4,h⟩:=ifSome h
 refine rnP hE 0 (kp [1] ++ [(5,.osl ((qzd8 out x a borrow2 y).length))] ++ kp [6,13,14,15]) [(0,arW 0 (cU .u16) 0 (qzd8 out x a borrow2 y))] 193 (pc (show (0:Int)≤16 by decide) (pc c4 (pc (ltOf c4) (pc (len_set0 out ((x).toNat) (qzd50 a x borrow2 y)) (pc (len_set0 out ((x).toNat) (qzd50 a x borrow2 y)) (pc (get_set0 (cU .u16) 0 out ((x).toNat) (qzd50 a x borrow2 y)) pn)))))) <| rnZ hE 1 qzd110 (kq [0]) 225 <| rnV hE 1 qzd110 (kq [0]) 1 (hK_g_e_minus_L1 _ _ _ _ h E hE)
theorem g_e_minus_J2_ok (N:Nat) (a:List Int) (b:List Int) (out:List Int) (x:Int) (K_g_e_minus_L1:(List Int)→Int→Int→Option qzd15) (hK_g_e_minus_L1:g_e_minus_L1_H N a b K_g_e_minus_L1):g_e_minus_J2_H N a b out x (g_e_minus_J2 N a b out x K_g_e_minus_L1):=by
 intro y r h E hE
 unfold g_e_minus_J2 at h
 refine rnZ hE 0 qzd113 (kq [0]) 17 <| rnZ hE 2 (kp [1,5,6,7,8,9,13,14,15,35]) (kq [0]) 81 <| Runs.nC 0 35 h (fun hq4 h=>?_) (fun hq4 h=>?_)
 ·refine rnZ hE 0 qzd113 (kq [0]) 97 <| rnV hE 0 qzd113 (kq [0]) 1 (g_e_minus_J3_ok N _ _ _ _ _ _ hK_g_e_minus_L1 _ _ h E hE)
 ·exact rnV hE 1 qzd113 (kq [0]) 1 (g_e_minus_J3_ok N _ _ _ _ _ _ hK_g_e_minus_L1 _ _ h E hE)
theorem g_e_minus_L1_ok (N:Nat) (a:List Int) (b:List Int) (fuel:Nat):g_e_minus_L1_H N a b (g_e_minus_L1 N a b fuel):=by
 induction fuel with
 | zero=>intro _ _ _ r h;rw [g_e_minus_L1.eq_1] at h;cases h
 | succ fuel ih =>
  intro out borrow x r h E hE
  rw [g_e_minus_L1.eq_2] at h
  refine rnZ hE 1 (kp [1,5,6,13,14,15,16]) (kq [0]) 17 <| Runs.nC 1 16 h (fun hq2 h=>?_) (fun hq2 h=>?_)
  ·obtain ⟨c2,h⟩:=ifSome h
   refine rnP hE 4 (kp [1,5,6,7,8,13,14,15]) (kq [0]) 97 (pc c2 pn) <| rnZ hE 1 qzd114 (kq [0]) 129 <| rnZ hE 2 (kp [1,5,7,8,9,13,14,15,24]) (kq [0]) 193 <| Runs.nC 0 24 h (fun hq3 h=>?_) (fun hq3 h=>?_)
   ·obtain ⟨c3,h⟩:=ifSome h
    refine rnP hE 0 qzd114 (kq [0]) 321 (pc c3 pn) <| rnV hE 1 qzd114 (kq [0]) 1 (g_e_minus_J2_ok N _ _ _ _ _ ih _ _ h E hE)
   ·exact rnV hE 2 qzd114 (kq [0]) 1 (g_e_minus_J2_ok N _ _ _ _ _ ih _ _ h E hE)
  ·obtain ⟨rtrim,hr,h⟩:=bindSome h
   refine rnH hE 2 [(1,⟨[],true,(qzd69 rtrim),[],0,true,none⟩)] (kp [4]) [] 65 (pc (g_e_trim_ok _ _ _ hr) (pc (z1 out.length) pn)) ?_
   obtain rfl:=Option.some.inj h
   exact rnU hE 0 Try.f47 (kp [4]) [] 65
theorem g_e_minus_ok (N:Nat) (a:List Int) (b:List Int) (r:(List Int)) (h:g_e_minus N a b=some r):Sound Try.prog 47 [(qzd68 a),(qzd68 b)] [] 0 (qzd69 r) []:=by
 unfold g_e_minus at h
 refine sO Try.f47 50 fun E hE=>?_
 refine rnZ hE 1 (kp [0,1]) [] 16 ?_
 obtain ⟨c,h⟩:=ifSome h
 refine rnP hE 1 (kp [0,1] ++ [(5,.osl ((qzd56 a).length))]) [(48,arW 48 (cU .u16) 0 (qzd56 a))] 80 (pc c.1 (pc (Int.le_refl (qzd174 a)) (pc c.2.1 (pc c.2.2 (pc (lR a.length (0:Int)) (pc (lR a.length (0:Int)) (pc (get_rep (cU .u16) 0 0 a.length) pn))))))) <| rnZ hE 1 qzd84 (kq [48]) 96 <| rnZ hE 2 qzd110 (kq [48]) 144 <| rnV hE 2 qzd110 [(0,.keep 48)] 1 (g_e_minus_L1_ok N _ _ N _ _ _ _ h E hE)
theorem g_e_Add_ok (N:Nat) (a:TInt) (b:TInt) (r:TInt) (h:g_e_Add N a b=some r):Sound Try.prog 28 [(qzd26 a),(qzd26 b)] [] 0 (qzd26 r) []:=by
 unfold g_e_Add at h
 refine sO Try.f28 40 fun E hE=>?_
 refine rnZ hE 1 qzd116 qzd154 48 ?_
 obtain ⟨rtrim,hr,h⟩:=bindSome h
 obtain ⟨rtrim2,hr2,h⟩:=bindSome h
 refine rnH hE 1 [(2,⟨[],true,(qzd69 rtrim),[],0,false,none⟩),(5,⟨[],true,(qzd69 rtrim2),[],0,false,none⟩)] qzd115 qzd154 176 (pc o1 (pc (g_e_trim_ok _ _ _ hr) (pc o1 (pc (g_e_trim_ok _ _ _ hr2) pn)))) <| rnP hE 2 (kp [2,3,4,5,6,17]) qzd154 256 (pc o1 (pc o1 pn)) <| Runs.nC 0 17 h (fun hq2 h=>?_) (fun hq2 h=>?_)
 ·obtain ⟨rplus,hr3,h⟩:=bindSome h
  obtain ⟨rsigned,hr4,h⟩:=bindSome h
  refine rnH hE 1 [(4,⟨[],true,(qzd69 rplus),[],0,false,none⟩),(5,⟨[],true,(qzd26 rsigned),[],0,false,none⟩)] (kp [4]) (kq [32]) 368 (pc o1 (pc (g_e_plus_ok _ _ _ _ hr3) (pc (g_e_signed_ok _ _ _ _ hr4) (pc o1 pn)))) ?_
  obtain rfl:=Option.some.inj h
  exact Runs.nT hE 0 Try.f28 [] (kp [4]) [(16,.keep 32)] 368 pn [16] (pc o1 pn)
 ·obtain ⟨rcompare,hr5,h⟩:=bindSome h
  refine rnH hE 3 [(2,⟨[],true,(aI rcompare),[],0,false,none⟩)] (kp [2,3,4,5,6,27]) qzd154 320 (pc (g_e_compare_ok _ _ _ _ hr5) pn) <| Runs.nC 0 27 h (fun hq3 h=>?_) (fun hq3 h=>?_)
  ·obtain ⟨rminus,hr6,h⟩:=bindSome h
   obtain ⟨rsigned2,hr7,h⟩:=bindSome h
   refine rnH hE 1 [(4,⟨[],true,(qzd69 rminus),[],0,false,none⟩),(5,⟨[],true,(qzd26 rsigned2),[],0,false,none⟩)] (kp [4]) (kq [32]) 432 (pc o1 (pc (g_e_minus_ok _ _ _ _ hr6) (pc (g_e_signed_ok _ _ _ _ hr7) (pc o1 pn)))) ?_
   obtain rfl:=Option.some.inj h
   exact Runs.nT hE 0 Try.f28 [] (kp [4]) [(16,.keep 32)] 432 pn [16] (pc o1 pn)
  ·obtain ⟨rminus2,hr8,h⟩:=bindSome h
   obtain ⟨rsigned3,hr9,h⟩:=bindSome h
   refine rnH hE 2 [(4,⟨[],true,(qzd69 rminus2),[],0,false,none⟩),(5,⟨[],true,(qzd26 rsigned3),[],0,false,none⟩)] (kp [4]) (kq [32]) 432 (pc o1 (pc (g_e_minus_ok _ _ _ _ hr8) (pc (g_e_signed_ok _ _ _ _ hr9) (pc o1 pn)))) ?_
   obtain rfl:=Option.some.inj h
   exact Runs.nT hE 0 Try.f28 [] (kp [4]) [(16,.keep 32)] 432 pn [16] (pc o1 pn)
theorem g_e_AddRat_ok (N:Nat) (x:TRat) (y:TRat) (r:TRat) (h:g_e_AddRat N x y=some r):Sound Try.prog 14 [(qzd27 x),(qzd27 y)] [] 0 (qzd27 r) []:=by
 unfold g_e_AddRat at h
 refine sO Try.f14 32 fun E hE=>?_
 refine rnZ hE 1 qzd116 qzd154 48 ?_
 obtain ⟨risZero,hr,h⟩:=bindSome h
 refine rnH hE 2 [(1,⟨[],true,(aB risZero),[],0,false,none⟩)] (kp [2,3,4,8]) qzd154 80 (pc o1 (pc (g_e_isZero_ok _ _ _ hr) pn)) <| Runs.nC 0 8 h (fun hq2 h=>?_) (fun hq2 h=>?_)
 ·obtain ⟨rlowest,hr2,h⟩:=bindSome h
  refine rnH hE 1 [(1,⟨[],true,(qzd27 rlowest),[],0,false,none⟩)] (kp [4]) (kq [32]) 128 (pc o1 (pc (g_e_lowest_ok _ _ _ hr2) (pc o1 pn))) ?_
  obtain rfl:=Option.some.inj h
  exact Runs.nT hE 0 Try.f14 [] (kp [4]) [(16,.keep 32)] 128 pn [16] (pc o1 pn)
 ·obtain ⟨risZero2,hr3,h⟩:=bindSome h
  refine rnH hE 3 [(1,⟨[],true,(aB risZero2),[],0,false,none⟩)] (kp [2,3,4,12]) qzd154 112 (pc o1 (pc (g_e_isZero_ok _ _ _ hr3) pn)) <| Runs.nC 0 12 h (fun hq3 h=>?_) (fun hq3 h=>?_)
  ·obtain ⟨rlowest2,hr4,h⟩:=bindSome h
   refine rnH hE 1 [(1,⟨[],true,(qzd27 rlowest2),[],0,false,none⟩)] (kp [4]) (kq [32]) 160 (pc o1 (pc (g_e_lowest_ok _ _ _ hr4) (pc o1 pn))) ?_
   obtain rfl:=Option.some.inj h
   exact Runs.nT hE 0 Try.f14 [] (kp [4]) [(16,.keep 32)] 160 pn [16] (pc o1 pn)
  ·obtain ⟨rbelow,hr5,h⟩:=bindSome h
   obtain ⟨rbelow2,hr6,h⟩:=bindSome h
   refine rnH hE 2 [(1,⟨[],true,(qzd26 rbelow),[],0,false,none⟩),(3,⟨[],true,(qzd26 rbelow2),[],0,false,none⟩)] qzd115 (kq [0,16,32,176,192]) 240 (pc o1 (pc (g_e_below_ok _ _ _ hr5) (pc o1 (pc (g_e_below_ok _ _ _ hr6) (pc o1 (pc o1 pn)))))) ?_
   obtain ⟨rMul,hr7,h⟩:=bindSome h
   obtain ⟨rMul2,hr8,h⟩:=bindSome h
   obtain ⟨rAdd,hr9,h⟩:=bindSome h
   obtain ⟨rMul3,hr10,h⟩:=bindSome h
   obtain ⟨rfraction,hr11,h⟩:=bindSome h
   refine rnH hE 1 [(3,⟨[],true,(qzd26 rMul),[],0,false,none⟩),(7,⟨[],true,(qzd26 rMul2),[],0,false,none⟩),(8,⟨[],true,(qzd26 rAdd),[],0,false,none⟩),(11,⟨[],true,(qzd26 rMul3),[],0,false,none⟩),(12,⟨[],true,(qzd27 rfraction),[],0,false,none⟩)] (kp [4]) (kq [32]) 464 (pc o1 (pc o1 (pc (g_e_Mul_ok _ _ _ _ hr7) (pc o1 (pc o1 (pc (g_e_Mul_ok _ _ _ _ hr8) (pc (g_e_Add_ok _ _ _ _ hr9) (pc o1 (pc o1 (pc (g_e_Mul_ok _ _ _ _ hr10) (pc (g_e_fraction_ok _ _ _ _ hr11) (pc o1 pn)))))))))))) ?_
   obtain rfl:=Option.some.inj h
   exact Runs.nT hE 0 Try.f14 [] (kp [4]) [(16,.keep 32)] 464 pn [16] (pc o1 pn)
theorem g_e_MulRat_ok (N:Nat) (x:TRat) (y:TRat) (r:TRat) (h:g_e_MulRat N x y=some r):Sound Try.prog 13 [(qzd27 x),(qzd27 y)] [] 0 (qzd27 r) []:=by
 unfold g_e_MulRat at h
 refine sO Try.f13 16 fun E hE=>?_
 refine rnZ hE 1 qzd116 qzd154 48 ?_
 obtain ⟨rMul,hr,h⟩:=bindSome h
 obtain ⟨rbelow,hr2,h⟩:=bindSome h
 obtain ⟨rbelow2,hr3,h⟩:=bindSome h
 obtain ⟨rMul2,hr4,h⟩:=bindSome h
 obtain ⟨rfraction,hr5,h⟩:=bindSome h
 refine rnH hE 1 [(4,⟨[],true,(qzd26 rMul),[],0,false,none⟩),(6,⟨[],true,(qzd26 rbelow),[],0,false,none⟩),(8,⟨[],true,(qzd26 rbelow2),[],0,false,none⟩),(9,⟨[],true,(qzd26 rMul2),[],0,false,none⟩),(10,⟨[],true,(qzd27 rfraction),[],0,false,none⟩)] (kp [4]) (kq [32]) 240 (pc o1 (pc o1 (pc (g_e_Mul_ok _ _ _ _ hr) (pc o1 (pc (g_e_below_ok _ _ _ hr2) (pc o1 (pc (g_e_below_ok _ _ _ hr3) (pc (g_e_Mul_ok _ _ _ _ hr4) (pc (g_e_fraction_ok _ _ _ _ hr5) (pc o1 pn)))))))))) ?_
 obtain rfl:=Option.some.inj h
 exact Runs.nT hE 0 Try.f13 [] (kp [4]) [(16,.keep 32)] 240 pn [16] (pc o1 pn)
noncomputable abbrev C_71:=bt Try.f6
def g_survey_MeanOfMeans_L1_H (N:Nat) (cap0:List TRun) (rratio:TRat) (K:qzd55→Option (TRat×Int)):Prop:=∀ (v:List TRat) (r:TRat×Int),K v=some r→∀ E,EnvOk E 1→Runs Try.prog E 6 51 (SPost E [(qzd39 cap0)] (qzd34 r)) [.code (C_71 248),.inLoop (C_71 248),.inBlock 0,.code (C_71 63)] ⟨[(2,(.op 1 0 0)),(4,(.os 2 0 v.length)),(6,(.op 3 0 0))],[(qzd39 cap0),(1,vO 4 [(aB false),.nil,(aB false),.nil]),(qzd43 v),(3,vO 4 (TRat.cells rratio))],4⟩
def g_survey_MeanOfMeans_L2_H (N:Nat) (cap0:List TRun) (rratio:TRat) (v:List TRat) (K:qzd55→Int→Option (TRat×Int)):Prop:=∀ (v2:List TRat) (x:Int) (r:TRat×Int),K v2 x=some r→∀ E,EnvOk E 1→Runs Try.prog E 6 51 (SPost E [(qzd39 cap0)] (qzd34 r)) [.code (C_71 15908),.inLoop (C_71 15908),.inBlock 2,.inBlock 1,.code (C_71 995),.inLoop (C_71 248),.inBlock 0,.code (C_71 63)] ⟨[(2,(.op 1 0 0)),(4,(.os 2 0 v2.length)),(6,(.op 3 0 0)),(28,(aI (w64 (((v.length:Nat):Int) - 1)))),(29,(aI x))],[(qzd39 cap0),(1,vO 4 [(aB false),.nil,(aB false),.nil]),(qzd43 v2),(3,vO 4 (TRat.cells rratio))],4⟩
theorem g_survey_MeanOfMeans_L2_ok (N:Nat) (cap0:List TRun) (rratio:TRat) (v:List TRat) (K_g_survey_MeanOfMeans_L1:qzd55→Option (TRat×Int)) (hK_g_survey_MeanOfMeans_L1:g_survey_MeanOfMeans_L1_H N cap0 rratio K_g_survey_MeanOfMeans_L1) (fuel:Nat):g_survey_MeanOfMeans_L2_H N cap0 rratio v (g_survey_MeanOfMeans_L2 N cap0 rratio v K_g_survey_MeanOfMeans_L1 fuel):=by
 induction fuel with
 | zero=>intro _ _ r h;rw [g_survey_MeanOfMeans_L2.eq_1] at h;cases h
 | succ fuel ih =>
  intro v2 x r h E hE
  rw [g_survey_MeanOfMeans_L2.eq_2] at h
  refine rnZ hE 1 (kp [2,4,6,28,29,30]) qzd146 20 <| Runs.nC 1 30 h (fun hq4 h=>?_) (fun hq4 h=>?_)
  ·refine rnZ hE 4 (kp [2,4,6,7,28,29]) qzd146 52 ?_
   obtain ⟨c,h⟩:=ifSome h
   obtain ⟨c2,h⟩:=ifSome h
   obtain ⟨rAddRat,hr3,h⟩:=bindSome h
   obtain ⟨rMulRat,hr4,h⟩:=bindSome h
   refine rnH hE 0 [(12,⟨[],true,(qzd27 rAddRat),[],0,false,none⟩),(13,⟨[],true,(qzd27 rMulRat),[],0,false,none⟩)] (kp [2] ++ [(4,.osl ((v2.set ((x).toNat) rMulRat).length))] ++ kp [6,28,29]) (kq [0,1] ++ [(2,arW 2 TRat.cells TRat.d (v2.set ((x).toNat) rMulRat))] ++ kq [3]) 308 (pc o1 (pc c (pc (ltOf c) (pc c2 (pc (ltOf c2) (pc (g_e_AddRat_ok _ _ _ _ hr3) (pc (g_e_MulRat_ok _ _ _ _ hr4) (pc c (pc (ltOf c) (pc (len_set0 v2 ((x).toNat) rMulRat) (pc (len_set0 v2 ((x).toNat) rMulRat) (pc (get_set0 TRat.cells TRat.d v2 ((x).toNat) rMulRat) pn)))))))))))) <| rnZ hE 1 qzd121 qzd146 340 <| rnV hE 1 qzd121 qzd146 4 (ih _ _ _ h E hE)
  ·obtain ⟨c3,h⟩:=ifSome h
   obtain ⟨c4,h⟩:=ifSome h
   obtain ⟨c5,h⟩:=ifSome h
   refine rnP hE 2 (kp [2] ++ [(4,.osl ((qzd13 v2).length))] ++ kp [6]) (kq [0,1] ++ [(2,.arz 2 ((qzd13 v2).length) (qzd80 v2))] ++ kq [3]) 116 (pc c3 (pc c4 (pc (show ((w64 (((v2.length:Nat):Int) - 1)).toNat - 0)=(qzd13 v2).length from (len_tk1 c5)) (pc (show (qzd13 v2).length≤v2.length from (len_tk2 v2 (qzd175 v2))) (pc (show ∀ zi,zi < (qzd13 v2).length→UpL (TRat.cells (v2.getD zi TRat.d)) ((qzd80 v2) zi) from (fun zq hzq=>upE (Eq.symm (get_tk TRat.cells TRat.d v2 (qzd175 v2) zq hzq)))) pn))))) <| rnV hE 1 (kp [2,4,6]) qzd146 4 (hK_g_survey_MeanOfMeans_L1 _ _ h E hE)
theorem g_survey_MeanOfMeans_L1_ok (N:Nat) (cap0:List TRun) (rratio:TRat) (fuel:Nat):g_survey_MeanOfMeans_L1_H N cap0 rratio (g_survey_MeanOfMeans_L1 N cap0 rratio fuel):=by
 induction fuel with
 | zero=>intro _ r h;rw [g_survey_MeanOfMeans_L1.eq_1] at h;cases h
 | succ fuel ih =>
  intro v r h E hE
  rw [g_survey_MeanOfMeans_L1.eq_2] at h
  refine rnZ hE 2 (kp [2,4,6,20]) qzd146 52 <| Runs.nC 0 20 h (fun hq3 h=>?_) (fun hq3 h=>?_)
  ·refine rnZ hE 4 qzd121 qzd146 116 <| rnV hE 2 qzd121 qzd146 4 (g_survey_MeanOfMeans_L2_ok N _ _ _ _ ih N _ _ _ h E hE)
  ·obtain ⟨c6,h⟩:=ifSome h
   refine rnP hE 2 (kp [2,3]) (kq [0,1]) 132 (pc c6 (pc (ltOf c6) (pc o1 pn))) ?_
   cases h
   exact Runs.nT hE 0 Try.f6 [] (kp [2,3]) (kq [0] ++ [(17,.keep 1)]) 132 pn [17] (pc o1 pn)
theorem g_survey_MeanOfMeans_ok (N:Nat) (cap0:List TRun) (r:TRat×Int) (h:g_survey_MeanOfMeans N cap0=some r):Sound Try.prog 6 [(.os 0 0 cap0.length)] [(qzd39 cap0)] 1 (qzd34 r) [(qzd39 cap0)]:=by
 unfold g_survey_MeanOfMeans at h
 refine sO Try.f6 51 fun E hE=>?_
 refine rnZ hE 1 (kp [0,2]) (kq [0,1]) 33 ?_
 obtain ⟨rSpeeds,hr,h⟩:=bindSome h
 refine rnH hE 1 [(1,⟨[0],true,(qzd36 rSpeeds),[(qzd41 rSpeeds)],0,false,none⟩)] (kp [2,4,5]) (kq [0,1,49]) 145 (pc (g_survey_Speeds_ok _ _ _ hr) pn) <| rnZ hE 2 (kp [2,4,5,14]) (kq [0,1,49]) 177 <| Runs.nC 0 14 h (fun hq2 h=>?_) (fun hq2 h=>?_)
 ·refine rnP hE 1 (kp [2,3]) (kq [0,1]) 241 (pc o1 pn) ?_
  cases h
  exact Runs.nT hE 0 Try.f6 [] (kp [2,3]) (kq [0] ++ [(17,.var 1 [.keep,slW (cU .u16) 0 ([]:List Int),.keep,slW (cU .u16) 0 ([]:List Int)])]) 241 (pc (Eq.refl 0) (pc (Eq.refl 0) pn)) [17] (pc o1 pn)
 ·obtain ⟨rratio,hr2,h⟩:=bindSome h
  refine rnH hE 2 [(0,⟨[],true,(qzd27 rratio),[],0,false,none⟩)] (kp [2,4,6]) (kq [0,1,49,193]) 225 (pc (g_survey_ratio_ok _ _ _ _ hr2) (pc o1 pn)) <| rnV hE 3 (kp [2,4,6]) (kq [0,1] ++ [(2,.keep 49),(3,.keep 193)]) 4 (g_survey_MeanOfMeans_L1_ok N _ _ N _ _ h E hE)
theorem g_e_opposite_ok (N:Nat) (a:TInt) (r:TInt) (h:g_e_opposite N a=some r):Sound Try.prog 48 [(qzd26 a)] [] 0 (qzd26 r) []:=by
 unfold g_e_opposite at h
 refine sO Try.f48 9 fun E hE=>?_
 refine rnZ hE 1 (kp [1,2]) qzd166 32 <| rnP hE 1 (kp [2]) (kq [16]) 144 (pc o1 (pc o1 (pc o1 pn))) ?_
 cases h
 exact Runs.nT hE 0 Try.f48 [] (kp [2]) (kq [16]) 144 pn [16] (pc o1 pn)
theorem g_e_negative_ok (N:Nat) (x:TRat) (r:TRat) (h:g_e_negative N x=some r):Sound Try.prog 29 [(qzd27 x)] [] 0 (qzd27 r) []:=by
 unfold g_e_negative at h
 refine sO Try.f29 9 fun E hE=>?_
 refine rnZ hE 1 (kp [1,2]) qzd166 32 ?_
 obtain ⟨ropposite,hr,h⟩:=bindSome h
 obtain ⟨rbelow,hr2,h⟩:=bindSome h
 obtain ⟨rfraction,hr3,h⟩:=bindSome h
 refine rnH hE 1 [(2,⟨[],true,(qzd26 ropposite),[],0,false,none⟩),(4,⟨[],true,(qzd26 rbelow),[],0,false,none⟩),(5,⟨[],true,(qzd27 rfraction),[],0,false,none⟩)] (kp [2]) (kq [16]) 144 (pc o1 (pc (g_e_opposite_ok _ _ _ hr) (pc o1 (pc (g_e_below_ok _ _ _ hr2) (pc (g_e_fraction_ok _ _ _ _ hr3) (pc o1 pn)))))) ?_
 obtain rfl:=Option.some.inj h
 exact Runs.nT hE 0 Try.f29 [] (kp [2]) (kq [16]) 144 pn [16] (pc o1 pn)
theorem g_e_SubRat_ok (N:Nat) (x:TRat) (y:TRat) (r:TRat) (h:g_e_SubRat N x y=some r):Sound Try.prog 15 [(qzd27 x),(qzd27 y)] [] 0 (qzd27 r) []:=by
 unfold g_e_SubRat at h
 refine sO Try.f15 9 fun E hE=>?_
 refine rnZ hE 1 qzd116 qzd154 48 ?_
 obtain ⟨rnegative,hr,h⟩:=bindSome h
 obtain ⟨rAddRat,hr2,h⟩:=bindSome h
 refine rnH hE 1 [(2,⟨[],true,(qzd27 rnegative),[],0,false,none⟩),(3,⟨[],true,(qzd27 rAddRat),[],0,false,none⟩)] (kp [4]) (kq [32]) 128 (pc o1 (pc o1 (pc (g_e_negative_ok _ _ _ hr) (pc (g_e_AddRat_ok _ _ _ _ hr2) (pc o1 pn))))) ?_
 obtain rfl:=Option.some.inj h
 exact Runs.nT hE 0 Try.f15 [] (kp [4]) [(16,.keep 32)] 128 pn [16] (pc o1 pn)
noncomputable abbrev C_106:=bt Try.f7
def g_survey_Currents_L1_H (N:Nat) (cap0:List TRun) (rMeanOfMeans:TRat×Int) (rSpeeds:qzd55×Int) (K:qzd55→Int→Option qzd16):Prop:=∀ (v:List TRat) (x:Int) (r:qzd55×Int),K v x=some r→∀ E,EnvOk E 1→Runs Try.prog E 7 52 (SPost E [(qzd39 cap0),(qzd41 r)] (qzd36 r)) [.code (C_106 500),.inLoop (C_106 500),.inBlock 0,.code (C_106 63)] ⟨[(0,(.os 0 0 cap0.length)),(4,(.op 1 0 0)),(6,(.os 2 0 v.length)),(23,(aI ((rSpeeds.1.length:Nat):Int))),(24,(aI x))],[(qzd39 cap0),(1,vO 4 (TRat.cells rMeanOfMeans.1)),(qzd43 v)],3⟩
def g_survey_Currents_J2_H (N:Nat) (cap0:List TRun) (rMeanOfMeans:TRat×Int) (rSpeeds:qzd55×Int) (x:Int) (K:qzd55→Option qzd16):Prop:=∀ (v2:List TRat) (r:qzd55×Int),K v2=some r→∀ E,EnvOk E 1→Runs Try.prog E 7 52 (SPost E [(qzd39 cap0),(qzd41 r)] (qzd36 r)) [.code (C_106 4007),.inLoop (C_106 500),.inBlock 0,.code (C_106 63)] ⟨[(0,(.os 0 0 cap0.length)),(4,(.op 1 0 0)),(6,(.os 2 0 v2.length)),(23,(aI ((rSpeeds.1.length:Nat):Int))),(24,(aI x))],[(qzd39 cap0),(1,vO 4 (TRat.cells rMeanOfMeans.1)),(qzd43 v2)],3⟩
theorem g_survey_Currents_J2_ok (N:Nat) (cap0:List TRun) (rMeanOfMeans:TRat×Int) (rSpeeds:qzd55×Int) (x:Int) (K_g_survey_Currents_L1:qzd55→Int→Option qzd16) (hK_g_survey_Currents_L1:g_survey_Currents_L1_H N cap0 rMeanOfMeans rSpeeds K_g_survey_Currents_L1):g_survey_Currents_J2_H N cap0 rMeanOfMeans rSpeeds x (g_survey_Currents_J2 N cap0 rMeanOfMeans rSpeeds x K_g_survey_Currents_L1):=by
 intro v2 r h E hE
 unfold g_survey_Currents_J2 at h
 refine rnZ hE 0 qzd100 qzd153 35 <| rnV hE 1 qzd100 qzd153 3 (hK_g_survey_Currents_L1 _ _ _ h E hE)
theorem g_survey_Currents_L1_ok (N:Nat) (cap0:List TRun) (rMeanOfMeans:TRat×Int) (rSpeeds:qzd55×Int) (fuel:Nat):g_survey_Currents_L1_H N cap0 rMeanOfMeans rSpeeds (g_survey_Currents_L1 N cap0 rMeanOfMeans rSpeeds fuel):=by
 induction fuel with
 | zero=>intro _ _ r h;rw [g_survey_Currents_L1.eq_1] at h;cases h
 | succ fuel ih =>
  intro v x r h E hE
  rw [g_survey_Currents_L1.eq_2] at h
  refine rnZ hE 1 (kp [0,4,6,23,24,25]) qzd153 19 <| Runs.nC 1 25 h (fun hq3 h=>?_) (fun hq3 h=>?_)
  ·refine rnZ hE 4 (kp [0,4,6,8,23,24]) qzd153 51 ?_
   obtain ⟨c,h⟩:=ifSome h
   refine rnP hE 1 (kp [0,4,6,8,23,24,31]) qzd153 131 (pc c (pc (ltOf c) pn)) <| Runs.nC 0 31 h (fun hq4 h=>?_) (fun hq4 h=>?_)
   ·obtain ⟨c2,h⟩:=ifSome h
    obtain ⟨rSubRat,hr3,h⟩:=bindSome h
    refine rnH hE 0 [(7,⟨[],true,(qzd27 rSubRat),[],0,false,none⟩)] (kp [0,4] ++ [(6,.osl ((v.set ((x).toNat) rSubRat).length))] ++ kp [23,24]) (kq [0,1] ++ [(2,arW 2 TRat.cells TRat.d (v.set ((x).toNat) rSubRat))]) 291 (pc o1 (pc c2 (pc (ltOf c2) (pc (g_e_SubRat_ok _ _ _ _ hr3) (pc c2 (pc (ltOf c2) (pc (len_set0 v ((x).toNat) rSubRat) (pc (len_set0 v ((x).toNat) rSubRat) (pc (get_set0 TRat.cells TRat.d v ((x).toNat) rSubRat) pn))))))))) <| rnV hE 1 qzd100 qzd153 3 (g_survey_Currents_J2_ok N _ _ _ _ _ ih _ _ h E hE)
   ·obtain ⟨c3,h⟩:=ifSome h
    obtain ⟨rSubRat2,hr4,h⟩:=bindSome h
    refine rnH hE 0 [(7,⟨[],true,(qzd27 rSubRat2),[],0,false,none⟩)] (kp [0,4] ++ [(6,.osl ((v.set ((x).toNat) rSubRat2).length))] ++ kp [23,24]) (kq [0,1] ++ [(2,arW 2 TRat.cells TRat.d (v.set ((x).toNat) rSubRat2))]) 291 (pc c3 (pc (ltOf c3) (pc o1 (pc (g_e_SubRat_ok _ _ _ _ hr4) (pc c3 (pc (ltOf c3) (pc (len_set0 v ((x).toNat) rSubRat2) (pc (len_set0 v ((x).toNat) rSubRat2) (pc (get_set0 TRat.cells TRat.d v ((x).toNat) rSubRat2) pn))))))))) <| rnV hE 1 qzd100 qzd153 3 (g_survey_Currents_J2_ok N _ _ _ _ _ ih _ _ h E hE)
  ·refine rnZ hE 2 (kp [2,3]) (kq [0,2]) 67 ?_
   cases h
   exact rnU hE 0 Try.f7 (kp [2,3]) (kq [0] ++ [(1,.keep 2)]) 67
theorem g_survey_Currents_ok (N:Nat) (cap0:List TRun) (r:qzd55×Int) (h:g_survey_Currents N cap0=some r):Sound Try.prog 7 [(.os 0 0 cap0.length)] [(qzd39 cap0)] 1 (qzd36 r) [(qzd39 cap0),(qzd41 r)]:=by
 unfold g_survey_Currents at h
 refine sO Try.f7 52 fun E hE=>?_
 refine rnZ hE 1 (kp [0]) (kq [0]) 33 ?_
 obtain ⟨rMeanOfMeans,hr,h⟩:=bindSome h
 refine rnH hE 1 [(1,⟨[0],true,(qzd34 rMeanOfMeans),[],0,false,none⟩)] qzd98 (kq [0,113]) 161 (pc (g_survey_MeanOfMeans_ok _ _ _ hr) (pc o1 pn)) <| rnZ hE 2 (kp [0,4,5,15]) (kq [0,113]) 193 <| Runs.nC 0 15 h (fun hq2 h=>?_) (fun hq2 h=>?_)
 ·refine rnZ hE 1 (kp [2,3]) (kq [0]) 241 ?_
  cases h
  exact rnU hE 0 Try.f7 ([(2,.nilos 1)] ++ kp [3]) qzd168 241
 ·obtain ⟨rSpeeds,hr2,h⟩:=bindSome h
  refine rnH hE 2 [(1,⟨[0],true,(qzd36 rSpeeds),[(qzd41 rSpeeds)],0,false,none⟩)] (kp [0,4,6]) (kq [0,113,209]) 305 (pc (g_survey_Speeds_ok _ _ _ hr2) pn) <| rnZ hE 2 qzd100 (kq [0,113,209]) 353 <| rnV hE 2 qzd100 (kq [0] ++ [(1,.keep 113),(2,.keep 209)]) 3 (g_survey_Currents_L1_ok N _ _ _ N _ _ _ h E hE)
noncomputable abbrev C_112:=bt Try.f30
def g_b_limbs_L1_H (N:Nat) (K:Int→(List Int)→Option qzd15):Prop:=∀ (n2:Int) (out:List Int) (r:(List Int)),K n2 out=some r→∀ E,EnvOk E 0→Runs Try.prog E 30 15 (SPost E [] (qzd69 r)) [.code (C_112 56),.inLoop (C_112 56),.inBlock 0,.code (C_112 15)] ⟨[(0,(qzd31 n2)),(3,(qzd32 out))],[(0,aO 1 (cU .u16) 0 out)],1⟩
theorem g_b_limbs_L1_ok (N:Nat) (fuel:Nat):g_b_limbs_L1_H N (g_b_limbs_L1 N fuel):=by
 induction fuel with
 | zero=>intro _ _ r h;rw [g_b_limbs_L1.eq_1] at h;cases h
 | succ fuel ih =>
  intro n2 out r h E hE
  rw [g_b_limbs_L1.eq_2] at h
  refine rnZ hE 2 (kp [0,3,5]) (kq [0]) 33 <| Runs.nC 0 5 h (fun hq2 h=>?_) (fun hq2 h=>?_)
  ·obtain ⟨c,h⟩:=ifSome h
   refine rnP hE 3 (kp [0] ++ [(3,.osl ((out ++ (qzd61 n2)).length))]) [(113,arW 113 (cU .u16) 0 (out ++ (qzd61 n2)))] 145 (pc (Eq.refl out.length) (pc c (pc (z1 1) (pc (oN [[(.atom (.int .u16 (IntKind.u16.wrap ((andI .u64 n2 65535)))))]]) (pc (len_app0 out (qzd61 n2)) (pc (len_app0 out (qzd61 n2)) (pc (gA1 (cU .u16) 0 out (qzd61 n2)) pn))))))) <| rnP hE 1 (kp [0,3]) (kq [113]) 193 (pc (show (0:Int)≤16 by decide) pn) <| rnV hE 1 (kp [0,3]) [(0,.keep 113)] 1 (ih _ _ _ h E hE)
  ·refine rnZ hE 2 (kp [2]) (kq [0]) 65 ?_
   obtain rfl:=Option.some.inj h
   exact Runs.nT hE 0 Try.f30 [0] [(2,slW (cU .u16) 0 out)] [] 65 (pc (Eq.refl out.length) (pc (z1 out.length) (pc (eZ (cU .u16) 0 out) pn))) [] pn
theorem g_b_limbs_ok (N:Nat) (n:Int) (r:(List Int)) (h:g_b_limbs N n=some r):Sound Try.prog 30 [(qzd31 n)] [] 0 (qzd69 r) []:=by
 unfold g_b_limbs at h
 refine sO Try.f30 15 fun E hE=>?_
 refine rnZ hE 1 (kp [0]) [] 16 <| rnZ hE 1 (kp [0,3]) [] 32 <| rnV hE 3 (kp [0] ++ [(3,.nilos 0)]) [(0,.nil 1 (fun zi=>(cU .u16) (([]:List Int).getD zi 0)))] 1 (g_b_limbs_L1_ok N N _ _ _ h E hE)
theorem g_b_Z_ok (N:Nat) (n:Int) (r:TInt) (h:g_b_Z N n=some r):Sound Try.prog 17 [(aI n)] [] 0 (qzd26 r) []:=by
 unfold g_b_Z at h
 refine sO Try.f17 16 fun E hE=>?_
 refine rnZ hE 1 (kp [0,2]) (kq [0]) 16 <| rnZ hE 2 (kp [0,2,4]) (kq [0]) 48 <| Runs.nC 0 4 h (fun hq2 h=>?_) (fun hq2 h=>?_)
 ·obtain ⟨rlimbs,hr,h⟩:=bindSome h
  refine rnH hE 1 [(5,⟨[],true,(qzd69 rlimbs),[],0,false,none⟩)] (kp [2]) (kq [0]) 176 (pc (g_b_limbs_ok _ _ _ hr) (pc o1 pn)) ?_
  cases h
  exact Runs.nT hE 0 Try.f17 [] (kp [2]) [(16,.keep 0)] 176 pn [16] (pc o1 pn)
 ·obtain ⟨rlimbs2,hr2,h⟩:=bindSome h
  refine rnH hE 2 [(2,⟨[],true,(qzd69 rlimbs2),[],0,false,none⟩)] (kp [2]) (kq [0]) 128 (pc (g_b_limbs_ok _ _ _ hr2) (pc o1 pn)) ?_
  cases h
  exact Runs.nT hE 0 Try.f17 [] (kp [2]) [(16,.keep 0)] 128 pn [16] (pc o1 pn)
noncomputable abbrev C_110:=bt Try.f9
def g_b_Q_J1_H (N:Nat) (K:Int→Int→Option (TRat)):Prop:=∀ (a2:Int) (b2:Int) (r:TRat),K a2 b2=some r→∀ E,EnvOk E 0→Runs Try.prog E 9 34 (SPost E [] (qzd27 r)) [.code (C_110 14),.code (C_110 15)] ⟨[(0,(aI a2)),(1,(aI b2)),(4,(.op 0 0 0))],[(0,vO 4 [(aB false),.nil,(aB false),.nil])],1⟩
def g_b_Q_L2_H (N:Nat) (a2:Int) (b2:Int) (K:Int→Int→Option (TRat)):Prop:=∀ (x:Int) (y:Int) (r:TRat),K x y=some r→∀ E,EnvOk E 0→Runs Try.prog E 9 34 (SPost E [] (qzd27 r)) [.code (C_110 248),.inLoop (C_110 248),.inBlock 0,.code (C_110 63)] ⟨[(0,(aI a2)),(1,(aI b2)),(4,(.op 0 0 0)),(5,(aI x)),(6,(aI y))],[(0,vO 4 [(aB false),.nil,(aB false),.nil])],1⟩
theorem g_b_Q_L2_ok (N:Nat) (a2:Int) (b2:Int) (fuel:Nat):g_b_Q_L2_H N a2 b2 (g_b_Q_L2 N a2 b2 fuel):=by
 induction fuel with
 | zero=>intro _ _ r h;rw [g_b_Q_L2.eq_1] at h;cases h
 | succ fuel ih =>
  intro x y r h E hE
  rw [g_b_Q_L2.eq_2] at h
  refine rnZ hE 2 (kp [0,1,4,5,6,20]) (kq [0]) 33 <| Runs.nC 0 20 h (fun hq4 h=>?_) (fun hq4 h=>?_)
  ·obtain ⟨c,h⟩:=ifSome h
   refine rnP hE 2 qzd82 (kq [0]) 129 (pc c pn) <| rnV hE 2 qzd82 (kq [0]) 1 (ih _ _ _ h E hE)
  ·obtain ⟨c2,h⟩:=ifSome h
   obtain ⟨rZ,hr,h⟩:=bindSome h
   obtain ⟨rZ2,hr2,h⟩:=bindSome h
   refine rnH hE 2 [(3,⟨[],true,(qzd26 rZ),[],0,false,none⟩),(7,⟨[],true,(qzd26 rZ2),[],0,false,none⟩)] (kp [4]) (kq [0]) 193 (pc c2 (pc (g_b_Z_ok _ _ _ hr) (pc c2 (pc (g_b_Z_ok _ _ _ hr2) (pc o1 pn))))) ?_
   cases h
   exact Runs.nT hE 0 Try.f9 [] (kp [4]) [(16,.keep 0)] 193 pn [16] (pc o1 pn)
theorem g_b_Q_J1_ok (N:Nat):g_b_Q_J1_H N (g_b_Q_J1 N):=by
 intro a2 b2 r h E hE
 unfold g_b_Q_J1 at h
 refine rnZ hE 0 qzd82 (kq [0]) 65 <| rnZ hE 2 (kp [0,1,4,5,6,16]) (kq [0]) 97 <| Runs.nC 0 16 h (fun hq3 h=>?_) (fun hq3 h=>?_)
 ·refine rnZ hE 0 qzd82 (kq [0]) 145 <| rnV hE 3 qzd82 (kq [0]) 1 (g_b_Q_L2_ok N _ _ N _ _ _ h E hE)
 ·exact rnV hE 4 qzd82 (kq [0]) 1 (g_b_Q_L2_ok N _ _ N _ _ _ h E hE)
theorem g_b_Q_ok (N:Nat) (a:Int) (b:Int) (r:TRat) (h:g_b_Q N a b=some r):Sound Try.prog 9 [(aI a),(aI b)] [] 0 (qzd27 r) []:=by
 unfold g_b_Q at h
 refine sO Try.f9 34 fun E hE=>?_
 refine rnZ hE 1 qzd83 (kq [0]) 16 <| rnZ hE 2 (kp [0,1,4,8]) (kq [0]) 48 <| Runs.nC 0 8 h (fun hq2 h=>?_) (fun hq2 h=>?_)
 ·refine rnZ hE 0 qzd83 (kq [0]) 144 <| rnV hE 1 qzd83 (kq [0]) 1 (g_b_Q_J1_ok N _ _ _ h E hE)
 ·exact rnV hE 2 qzd83 (kq [0]) 1 (g_b_Q_J1_ok N _ _ _ h E hE)
noncomputable abbrev C_114:=bt Try.f16
def g_b_SameInt_L1_H (N:Nat) (a:TInt) (b:TInt) (K:Int→Option (Bool)):Prop:=∀ (i:Int) (r:Bool),K i=some r→∀ E,EnvOk E 0→Runs Try.prog E 16 38 (SPost E [] (aB r)) [.code (C_114 116),.inLoop (C_114 116),.inBlock 0,.code (C_114 15)] ⟨[(2,(.op 0 0 0)),(3,(.op 1 0 0)),(5,(aI i))],[(0,vO 2 (TInt.cells a)),(1,vO 2 (TInt.cells b))],2⟩
theorem g_b_SameInt_L1_ok (N:Nat) (a:TInt) (b:TInt) (fuel:Nat):g_b_SameInt_L1_H N a b (g_b_SameInt_L1 N a b fuel):=by
 induction fuel with
 | zero=>intro _ r h;rw [g_b_SameInt_L1.eq_1] at h;cases h
 | succ fuel ih =>
  intro i r h E hE
  rw [g_b_SameInt_L1.eq_2] at h
  refine rnP hE 2 (kp [2,3,5,24]) (kq [0,1]) 82 (pc o1 pn) <| Runs.nC 0 24 h (fun hq3 h=>?_) (fun hq3 h=>?_)
  ·obtain ⟨c,h⟩:=ifSome h
   obtain ⟨c2,h⟩:=ifSome h
   refine rnP hE 4 (kp [2,3,5,37]) (kq [0,1]) 258 (pc o1 (pc c (pc o1 (pc c2 pn)))) <| Runs.nC 0 37 h (fun hq4 h=>?_) (fun hq4 h=>?_)
   ·refine rnZ hE 1 (kp [4]) [] 274 ?_
    obtain rfl:=Option.some.inj h
    exact rnU hE 0 Try.f16 (kp [4]) [] 274
   ·refine rnZ hE 2 qzd117 (kq [0,1]) 306 <| rnV hE 1 qzd117 (kq [0,1]) 2 (ih _ _ h E hE)
  ·refine rnZ hE 2 (kp [4]) [] 98 ?_
   obtain rfl:=Option.some.inj h
   exact rnU hE 0 Try.f16 (kp [4]) [] 98
theorem g_b_SameInt_ok (N:Nat) (a:TInt) (b:TInt) (r:Bool) (h:g_b_SameInt N a b=some r):Sound Try.prog 16 [(qzd26 a),(qzd26 b)] [] 0 (aB r) []:=by
 unfold g_b_SameInt at h
 refine sO Try.f16 38 fun E hE=>?_
 refine rnZ hE 1 (kp [2,3]) qzd166 48 <| rnP hE 2 (kp [2,3,19]) qzd166 272 (pc o1 (pc o1 (pc (fun hg:(!(!(a.f_Neg == b.f_Neg)))=true=>(pc hg (pc o1 pn))) (pc (fun hg:(!(!(a.f_Neg == b.f_Neg)))=true=>(pc hg pn)) (pc (fun hg:(!(!(a.f_Neg == b.f_Neg)))=true=>(pc hg (pc o1 pn))) (pc (fun hg:(!(!(a.f_Neg == b.f_Neg)))=true=>(pc hg pn)) (pc (fun hg:(!(!(a.f_Neg == b.f_Neg)))=true=>(pc hg (pc hg pn))) (pc (fun hq:(!(!(a.f_Neg == b.f_Neg)))=true=>(pc hq pn)) pn)))))))) <| Runs.nC 0 19 h (fun hq2 h=>?_) (fun hq2 h=>?_)
 ·refine rnZ hE 1 (kp [4]) [] 288 ?_
  obtain rfl:=Option.some.inj h
  exact rnU hE 0 Try.f16 (kp [4]) [] 288
 ·refine rnZ hE 3 qzd117 qzd166 288 <| rnV hE 2 qzd117 (kq [0] ++ [(1,.keep 16)]) 2 (g_b_SameInt_L1_ok N _ _ N _ _ h E hE)
theorem g_b_SameRat_ok (N:Nat) (a:TRat) (b:TRat) (r:Bool) (h:g_b_SameRat N a b=some r):Sound Try.prog 8 [(qzd27 a),(qzd27 b)] [] 0 (aB r) []:=by
 unfold g_b_SameRat at h
 refine sO Try.f8 17 fun E hE=>?_
 refine rnZ hE 1 (kp [2,3]) qzd166 48 ?_
 obtain ⟨rSameInt,hr,h⟩:=bindSome h
 obtain ⟨rSameInt2,hr2,h⟩:=bindSome h
 refine rnH hE 1 [(4,⟨[],true,(aB rSameInt),[],0,false,none⟩),(10,⟨[],true,(aB rSameInt2),[],0,false,none⟩)] (kp [4]) [] 256 (pc o1 (pc o1 (pc (g_b_SameInt_ok _ _ _ _ hr) (pc (fun hg:rSameInt=true=>(pc hg (pc o1 pn))) (pc (fun hg:rSameInt=true=>(pc hg (pc o1 pn))) (pc (fun hg:rSameInt=true=>(pc (g_b_SameInt_ok _ _ _ _ (condT hr2 hg)) (pc hg (pc hg pn)))) (pc (fun hq:rSameInt=true=>(pc hq pn)) pn))))))) ?_
 cases h
 exact rnU hE 0 Try.f8 (kp [4]) [] 256
noncomputable abbrev C_0:=bt Try.f3
def g_keelblocktop_TopMeanOfMeans_L1_H (N:Nat) (d:Tkeelblocktop_Drift) (runs:Int) (back:Bool) (K:Int→Option (Bool)):Prop:=∀ (k:Int) (r:Bool),K k=some r→∀ E,EnvOk E 0→Runs Try.prog E 3 155 (SPost E [] (aB r)) [.code (C_0 500),.inLoop (C_0 500),.inBlock 0,.code (C_0 63)] ⟨[(2,(aB back)),(3,(.op 0 0 0)),(qzd45 runs),(8,(aI k))],[(qzd40 d)],1⟩
def g_keelblocktop_TopMeanOfMeans_L2_H (N:Nat) (d:Tkeelblocktop_Drift) (runs:Int) (back:Bool) (K:(List TRun)→Int→Option (Bool)):Prop:=∀ (l:List TRun) (i:Int) (r:Bool),K l i=some r→∀ E,EnvOk E 0→Runs Try.prog E 3 155 (SPost E [] (aB r)) [.code (C_0 2036),.inLoop (C_0 2036),.inBlock 2,.code (C_0 255)] ⟨[(2,(aB back)),(3,(.op 0 0 0)),(qzd45 runs),(9,(.os 1 0 l.length)),(10,(aI i))],[(qzd40 d),(1,aO 4 TRun.cells TRun.d l)],2⟩
def g_keelblocktop_TopMeanOfMeans_J3_H (N:Nat) (d:Tkeelblocktop_Drift) (runs:Int) (back:Bool) (l:List TRun) (i:Int) (K:Int→Option (Bool)):Prop:=∀ (c3:Int) (r:Bool),K c3=some r→∀ E,EnvOk E 0→Runs Try.prog E 3 155 (SPost E [] (aB r)) [.code (C_0 260684),.code (C_0 260685),.code (C_0 130343),.inBlock 3,.code (C_0 8147),.inLoop (C_0 2036),.inBlock 2,.code (C_0 255)] ⟨[(2,(aB back)),(3,(.op 0 0 0)),(qzd45 runs),(9,(.os 1 0 l.length)),(10,(aI i)),(11,(aI c3))],[(qzd40 d),(1,aO 4 TRun.cells TRun.d l)],2⟩
def g_keelblocktop_TopMeanOfMeans_J4_H (N:Nat) (d:Tkeelblocktop_Drift) (runs:Int) (back:Bool) (l:List TRun) (i:Int) (K:Int→Option (Bool)):Prop:=∀ (c4:Int) (r:Bool),K c4=some r→∀ E,EnvOk E 0→Runs Try.prog E 3 155 (SPost E [] (aB r)) [.code (C_0 521372),.code (C_0 521373),.code (C_0 260687),.inBlock 3,.code (C_0 8147),.inLoop (C_0 2036),.inBlock 2,.code (C_0 255)] ⟨[(2,(aB back)),(3,(.op 0 0 0)),(qzd45 runs),(9,(.os 1 0 l.length)),(10,(aI i)),(11,(aI c4))],[(qzd40 d),(1,aO 4 TRun.cells TRun.d l)],2⟩
theorem g_keelblocktop_TopMeanOfMeans_J4_ok (N:Nat) (d:Tkeelblocktop_Drift) (runs:Int) (back:Bool) (l:List TRun) (i:Int) (K_g_keelblocktop_TopMeanOfMeans_L2:(List TRun)→Int→Option (Bool)) (hK_g_keelblocktop_TopMeanOfMeans_L2:g_keelblocktop_TopMeanOfMeans_L2_H N d runs back K_g_keelblocktop_TopMeanOfMeans_L2):g_keelblocktop_TopMeanOfMeans_J4_H N d runs back l i (g_keelblocktop_TopMeanOfMeans_J4 N d runs back l i K_g_keelblocktop_TopMeanOfMeans_L2):=by
 intro c4 r h E hE
 unfold g_keelblocktop_TopMeanOfMeans_J4 at h
 refine rnP hE 0 (kp [2,3,7,9,10,11,86]) (kq [0,1]) 194 (pc o1 (pc (fun hg:(!(decide ((w64 (d.f_V+c4)) < 1)))=true=>(pc hg (pc o1 pn))) (pc (fun hg:(!(decide ((w64 (d.f_V+c4)) < 1)))=true=>(pc hg (pc hg pn))) (pc (fun hg:(!(decide ((w64 (d.f_V+c4)) < 1)))=true=>(pc hg pn)) (pc (fun hq:(!(decide ((w64 (d.f_V+c4)) < 1)))=true=>(pc hq pn)) pn))))) <| Runs.nC 0 86 h (fun hq9 h=>?_) (fun hq9 h=>?_)
 ·refine rnZ hE 1 (kp [6]) [] 210 ?_
  obtain rfl:=Option.some.inj h
  exact rnU hE 0 Try.f3 (kp [6]) [] 210
 ·obtain ⟨c5,h⟩:=ifSome h
  refine rnP hE 1 (kp [2,3,7] ++ [(9,.osl ((l ++ (qzd62 i d c4 back)).length))] ++ kp [10]) (kq [0] ++ [(450,arW 450 TRun.cells TRun.d (l ++ (qzd62 i d c4 back)))]) 482 (pc o1 (pc o1 (pc (show (2:Int)≠0 by decide) (pc (Eq.refl l.length) (pc c5 (pc (z1 1) (pc (oN [[(aI (w64 (2000 * i))),(aI d.f_D),(aI (w64 (d.f_V+c4))),(aB (!(back == ((i.tmod 2) == 1))))]]) (pc (len_app0 l (qzd62 i d c4 back)) (pc (len_app0 l (qzd62 i d c4 back)) (pc (gA1 TRun.cells TRun.d l (qzd62 i d c4 back)) pn)))))))))) <| rnZ hE 1 qzd120 (kq [0,450]) 530 <| rnV hE 1 qzd120 (kq [0] ++ [(1,.keep 450)]) 2 (hK_g_keelblocktop_TopMeanOfMeans_L2 _ _ _ h E hE)
theorem g_keelblocktop_TopMeanOfMeans_J3_ok (N:Nat) (d:Tkeelblocktop_Drift) (runs:Int) (back:Bool) (l:List TRun) (i:Int) (K_g_keelblocktop_TopMeanOfMeans_L2:(List TRun)→Int→Option (Bool)) (hK_g_keelblocktop_TopMeanOfMeans_L2:g_keelblocktop_TopMeanOfMeans_L2_H N d runs back K_g_keelblocktop_TopMeanOfMeans_L2):g_keelblocktop_TopMeanOfMeans_J3_H N d runs back l i (g_keelblocktop_TopMeanOfMeans_J3 N d runs back l i K_g_keelblocktop_TopMeanOfMeans_L2):=by
 intro c3 r h E hE
 unfold g_keelblocktop_TopMeanOfMeans_J3 at h
 refine rnZ hE 0 (kp [2,3,7,9,10,11,72]) (kq [0,1]) 18 <| Runs.nC 0 72 h (fun hq8 h=>?_) (fun hq8 h=>?_)
 ·refine rnZ hE 0 qzd119 (kq [0,1]) 66 <| rnV hE 2 qzd119 (kq [0,1]) 2 (g_keelblocktop_TopMeanOfMeans_J4_ok N _ _ _ _ _ _ hK_g_keelblocktop_TopMeanOfMeans_L2 _ _ h E hE)
 ·exact rnV hE 3 qzd119 (kq [0,1]) 2 (g_keelblocktop_TopMeanOfMeans_J4_ok N _ _ _ _ _ _ hK_g_keelblocktop_TopMeanOfMeans_L2 _ _ h E hE)
def g_keelblocktop_TopMeanOfMeans_L5_H (N:Nat) (d:Tkeelblocktop_Drift) (runs:Int) (rCurrents:qzd55×Int) (K:Int→Option (Bool)):Prop:=∀ (i2:Int) (r:Bool),K i2=some r→∀ E,EnvOk E 0→Runs Try.prog E 3 155 (SPost E [] (aB r)) [.code (C_0 32756),.inLoop (C_0 32756),.inBlock 4,.code (C_0 4095)] ⟨[(3,(.op 0 0 0)),(qzd45 runs),(14,(.os 1 0 rCurrents.1.length)),(16,(aI i2))],[(qzd40 d),(qzd41 rCurrents)],2⟩
theorem g_keelblocktop_TopMeanOfMeans_L5_ok (N:Nat) (d:Tkeelblocktop_Drift) (runs:Int) (rCurrents:qzd55×Int) (fuel:Nat):g_keelblocktop_TopMeanOfMeans_L5_H N d runs rCurrents (g_keelblocktop_TopMeanOfMeans_L5 N d runs rCurrents fuel):=by
 induction fuel with
 | zero=>intro _ r h;rw [g_keelblocktop_TopMeanOfMeans_L5.eq_1] at h;cases h
 | succ fuel ih =>
  intro i2 r h E hE
  rw [g_keelblocktop_TopMeanOfMeans_L5.eq_2] at h
  refine rnZ hE 2 (kp [3,7,14,16,138]) (kq [0,1]) 50 <| Runs.nC 0 138 h (fun hq11 h=>?_) (fun hq11 h=>?_)
  ·obtain ⟨c6,h⟩:=ifSome h
   obtain ⟨rvalue2,hr6,h⟩:=bindSome h
   obtain ⟨rQ2,hr7,h⟩:=bindSome h
   obtain ⟨rSameRat2,hr8,h⟩:=bindSome h
   refine rnH hE 4 [(8,⟨[],true,(aI rvalue2),[],0,false,none⟩),(11,⟨[],true,(qzd27 rQ2),[],0,false,none⟩),(12,⟨[],true,(aB rSameRat2),[],0,false,none⟩)] (kp [3,7,14,16,154]) (kq [0,1]) 274 (pc c6 (pc (ltOf c6) (pc o1 (pc (g_keelblocktop_Drift_value_ok _ _ _ _ _ hr6) (pc o1 (pc (g_b_Q_ok _ _ _ _ hr7) (pc (g_b_SameRat_ok _ _ _ _ hr8) pn))))))) <| Runs.nC 0 154 h (fun hq12 h=>?_) (fun hq12 h=>?_)
   ·refine rnZ hE 1 (kp [6]) [] 290 ?_
    obtain rfl:=Option.some.inj h
    exact rnU hE 0 Try.f3 (kp [6]) [] 290
   ·refine rnZ hE 2 qzd124 (kq [0,1]) 322 <| rnV hE 1 qzd124 (kq [0,1]) 2 (ih _ _ h E hE)
  ·refine rnZ hE 2 (kp [6]) [] 66 ?_
   obtain rfl:=Option.some.inj h
   exact rnU hE 0 Try.f3 (kp [6]) [] 66
theorem g_keelblocktop_TopMeanOfMeans_L2_ok (N:Nat) (d:Tkeelblocktop_Drift) (runs:Int) (back:Bool) (fuel:Nat):g_keelblocktop_TopMeanOfMeans_L2_H N d runs back (g_keelblocktop_TopMeanOfMeans_L2 N d runs back fuel):=by
 induction fuel with
 | zero=>intro _ _ r h;rw [g_keelblocktop_TopMeanOfMeans_L2.eq_1] at h;cases h
 | succ fuel ih =>
  intro l i r h E hE
  rw [g_keelblocktop_TopMeanOfMeans_L2.eq_2] at h
  refine rnZ hE 2 (kp [2,3,7,9,10,59]) (kq [0,1]) 50 <| Runs.nC 0 59 h (fun hq6 h=>?_) (fun hq6 h=>?_)
  ·obtain ⟨rvalue,hr,h⟩:=bindSome h
   refine rnH hE 4 [(4,⟨[],true,(aI rvalue),[],0,false,none⟩)] qzd119 (kq [0,1]) 146 (pc o1 (pc (g_keelblocktop_Drift_value_ok _ _ _ _ _ hr) pn)) <| rnP hE 2 (kp [2,3,7,9,10,11,69]) (kq [0,1]) 194 (pc (show (2:Int)≠0 by decide) pn) <| Runs.nC 0 69 h (fun hq7 h=>?_) (fun hq7 h=>?_)
   ·refine rnZ hE 0 qzd119 (kq [0,1]) 242 <| rnV hE 2 qzd119 (kq [0,1]) 2 (g_keelblocktop_TopMeanOfMeans_J3_ok N _ _ _ _ _ _ ih _ _ h E hE)
   ·exact rnV hE 3 qzd119 (kq [0,1]) 2 (g_keelblocktop_TopMeanOfMeans_J3_ok N _ _ _ _ _ _ ih _ _ h E hE)
  ·obtain ⟨rMeanOfMeans,hr2,h⟩:=bindSome h
   refine rnH hE 2 [(1,⟨[1],true,(qzd34 rMeanOfMeans),[],0,false,none⟩)] (kp [3,7,9,12,13]) (kq [0,1,130]) 178 (pc (g_survey_MeanOfMeans_ok _ _ _ hr2) (pc o1 pn)) ?_
   obtain ⟨rCurrents,hr3,h⟩:=bindSome h
   refine rnH hE 1 [(1,⟨[1],true,(qzd36 rCurrents),[(qzd41 rCurrents)],0,false,none⟩)] (kp [3,7,12,13,14,15]) (kq [0,130,194]) 290 (pc (g_survey_Currents_ok _ _ _ hr3) pn) ?_
   obtain ⟨rQ,hr4,h⟩:=bindSome h
   obtain ⟨rSameRat,hr5,h⟩:=bindSome h
   refine rnH hE 2 [(12,⟨[],true,(qzd27 rQ),[],0,false,none⟩),(13,⟨[],true,(aB rSameRat),[],0,false,none⟩)] (kp [3,7,14,135]) (kq [0,194]) 642 (pc (fun hg:(!(rMeanOfMeans.2 != 0))=true=>(pc hg pn)) (pc (fun hq:(!(rMeanOfMeans.2 != 0))=true=>(pc hq pn)) (pc (fun hg:(qzd1 rMeanOfMeans rCurrents)=true=>(pc o1 pn)) (pc (fun hg:(qzd1 rMeanOfMeans rCurrents)=true=>(pc hg (pc o1 pn))) (pc (fun hg:(qzd1 rMeanOfMeans rCurrents)=true=>(pc hg (pc o1 pn))) (pc (fun hg:(qzd1 rMeanOfMeans rCurrents)=true=>(pc (g_b_Q_ok _ _ _ _ (condT hr4 hg)) (pc hg (pc hg pn)))) (pc (fun hg:(qzd1 rMeanOfMeans rCurrents)=true=>(pc (g_b_SameRat_ok _ _ _ _ (condT hr5 hg)) (pc hg (pc hg pn)))) (pc (fun hg:(qzd1 rMeanOfMeans rCurrents)=true=>(pc hg pn)) (pc (fun hq:(qzd1 rMeanOfMeans rCurrents)=true=>(pc hq pn)) (pc (fun hg:(!(cond (cond (rMeanOfMeans.2 != 0) true (rCurrents.2 != 0)) true (!rSameRat)))=true=>(pc hg pn)) (pc (fun hg:(!(cond (cond (rMeanOfMeans.2 != 0) true (rCurrents.2 != 0)) true (!rSameRat)))=true=>(pc hg (pc hg pn))) (pc (fun hq:(!(cond (cond (rMeanOfMeans.2 != 0) true (rCurrents.2 != 0)) true (!rSameRat)))=true=>(pc hq pn)) pn)))))))))))) <| Runs.nC 0 135 h (fun hq10 h=>?_) (fun hq10 h=>?_)
   ·refine rnZ hE 1 (kp [6]) [] 658 ?_
    obtain rfl:=Option.some.inj h
    exact rnU hE 0 Try.f3 (kp [6]) [] 658
   ·refine rnZ hE 3 qzd124 (kq [0,194]) 658 <| rnV hE 2 qzd124 (kq [0] ++ [(1,.keep 194)]) 2 (g_keelblocktop_TopMeanOfMeans_L5_ok N _ _ _ N _ _ h E hE)
theorem g_keelblocktop_TopMeanOfMeans_L1_ok (N:Nat) (d:Tkeelblocktop_Drift) (runs:Int) (back:Bool) (fuel:Nat):g_keelblocktop_TopMeanOfMeans_L1_H N d runs back (g_keelblocktop_TopMeanOfMeans_L1 N d runs back fuel):=by
 induction fuel with
 | zero=>intro _ r h;rw [g_keelblocktop_TopMeanOfMeans_L1.eq_1] at h;cases h
 | succ fuel ih =>
  intro k r h E hE
  rw [g_keelblocktop_TopMeanOfMeans_L1.eq_2] at h
  refine rnZ hE 2 (kp [2,3,7,8,42]) (kq [0]) 33 <| Runs.nC 0 42 h (fun hq4 h=>?_) (fun hq4 h=>?_)
  ·obtain ⟨c,h⟩:=ifSome h
   obtain ⟨c2,h⟩:=ifSome h
   refine rnP hE 4 (kp [2,3,7,8,56]) (kq [0]) 225 (pc c (pc o1 (pc (fun hg:(qzd4 d k)=true=>(pc hg (pc hg (pc (c2 hg) pn)))) (pc (fun hg:(qzd4 d k)=true=>(pc hg (pc o1 pn))) (pc (fun hg:(qzd4 d k)=true=>(pc hg pn)) (pc (fun hq:(qzd4 d k)=true=>(pc hq pn)) pn)))))) <| Runs.nC 0 56 h (fun hq5 h=>?_) (fun hq5 h=>?_)
   ·refine rnZ hE 1 (kp [6]) [] 241 ?_
    obtain rfl:=Option.some.inj h
    exact rnU hE 0 Try.f3 (kp [6]) [] 241
   ·refine rnZ hE 2 qzd118 (kq [0]) 273 <| rnV hE 1 qzd118 (kq [0]) 1 (ih _ _ h E hE)
  ·refine rnZ hE 2 (kp [2,3,7,9]) (kq [0]) 49 <| rnZ hE 2 qzd120 (kq [0]) 65 <| rnV hE 2 (kp [2,3,7] ++ [(9,.nilos 1)] ++ kp [10]) (kq [0] ++ [(1,.nil 4 (fun zi=>TRun.cells (([]:List TRun).getD zi TRun.d)))]) 2 (g_keelblocktop_TopMeanOfMeans_L2_ok N _ _ _ N _ _ _ h E hE)
theorem g_keelblocktop_TopMeanOfMeans_ok (N:Nat) (d:Tkeelblocktop_Drift) (runs:Int) (back:Bool) (r:Bool) (h:g_keelblocktop_TopMeanOfMeans N d runs back=some r):Sound Try.prog 3 [(.agg (Tkeelblocktop_Drift.cells d)),(.atom (.int .u8 runs)),(aB back)] [] 0 (aB r) []:=by
 unfold g_keelblocktop_TopMeanOfMeans at h
 refine sO Try.f3 155 fun E hE=>?_
 refine rnZ hE 1 (kp [1,2,3]) (kq [0]) 32 <| rnH hE 2 [(0,⟨[],true,(aB true),[],0,false,none⟩)] (kp [1,2,3,18]) (kq [0]) 64 (pc (g_keelblocktop_halved_ok N () rfl) pn) <| Runs.nC 0 18 h (fun hq2 h=>?_) (fun hq2 h=>?_)
 ·refine rnZ hE 1 (kp [6]) [] 80 ?_
  obtain rfl:=Option.some.inj h
  exact rnU hE 0 Try.f3 (kp [6]) [] 80
 ·refine rnP hE 2 (kp [2,3,7]) (kq [0]) 144 (pc (show (5:Int)≠0 by decide) pn) <| rnP hE 2 (kp [2,3,7,40]) (kq [0]) 432 (pc o1 (pc (fun hg:(!(decide (d.f_D < 1)))=true=>(pc hg (pc o1 pn))) (pc (fun hg:(!(decide (d.f_D < 1)))=true=>(pc hg pn)) (pc (fun hq:(!(decide (d.f_D < 1)))=true=>(pc hq pn)) (pc (fun hg:(qzd3 d)=true=>(pc hg (pc o1 pn))) (pc (fun hg:(qzd3 d)=true=>(pc hg pn)) (pc (fun hq:(qzd3 d)=true=>(pc hq pn)) (pc (fun hg:(qzd2 d)=true=>(pc hg (pc o1 pn))) (pc (fun hg:(qzd2 d)=true=>(pc hg pn)) (pc (fun hq:(qzd2 d)=true=>(pc hq pn)) pn)))))))))) <| Runs.nC 0 40 h (fun hq3 h=>?_) (fun hq3 h=>?_)
  ·refine rnZ hE 1 (kp [6]) [] 448 ?_
   obtain rfl:=Option.some.inj h
   exact rnU hE 0 Try.f3 (kp [6]) [] 448
  ·refine rnZ hE 3 qzd118 (kq [0]) 448 <| rnV hE 2 qzd118 (kq [0]) 1 (g_keelblocktop_TopMeanOfMeans_L1_ok N _ _ _ N _ _ h E hE)
end Go.Den
