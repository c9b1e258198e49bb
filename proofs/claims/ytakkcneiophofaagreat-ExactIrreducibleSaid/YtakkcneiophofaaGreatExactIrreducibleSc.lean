/- Each function of the program does what its Lean function computes (part 3). No conditions. -/
import Derived.Test.YtakkcneiophofaaGreatExactIrreducibleSb
import Derived.Test.YtakkcneiophofaaGreatProg
set_option linter.unusedVariables false
set_option maxRecDepth 100000
namespace Go.Den
open Go.Ab Go.Proofs Go.Ab.Runs
noncomputable def C_80 (n:Nat):Code:=cat (bodyOf Tryz.f50) (pth n)
def g_r01_Combined_L1_H (N:Nat) (n:Int) (l:List TRow) (y:List TRat) (K:(List TRat)→Int→Option ((List TRat)×TRat)):Prop:=∀ (out:List TRat) (j:Int) (r:(List TRat)×TRat),K out j=some r→∀ E,EnvOk E 0→Runs Tryz.prog E 50 74 (SPost E [] (.tup [(encL TRc TRat.d r.1),(.agg (TRc r.2))])) [.code (C_80 116),.inLoop (C_80 116),.inBlock 0,.code (C_80 15)] ⟨[(0,(aI n)),(1,(encL TWc TRow.d l)),(2,(encL TRc TRat.d y)),(7,(.op 0 0 0)),(8,(.os 1 0 out.length)),(9,(aI j))],[(0,vO 4 [(aB false),.nil,(aB false),.nil]),(1,aO 4 TRc TRat.d out)],2⟩
def g_r01_Combined_L2_H (N:Nat) (n:Int) (l:List TRow) (y:List TRat) (out:List TRat) (j:Int) (K:TRat→Int→Option ((List TRat)×TRat)):Prop:=∀ (s:TRat) (i:Int) (r:(List TRat)×TRat),K s i=some r→∀ E,EnvOk E 0→Runs Tryz.prog E 50 74 (SPost E [] (.tup [(encL TRc TRat.d r.1),(.agg (TRc r.2))])) [.code (C_80 29844),.inLoop (C_80 29844),.inBlock 2,.code (C_80 3731),.inBlock 1,.code (C_80 467),.inLoop (C_80 116),.inBlock 0,.code (C_80 15)] ⟨[(0,(aI n)),(1,(encL TWc TRow.d l)),(2,(encL TRc TRat.d y)),(7,(.op 0 0 0)),(8,(.os 1 0 out.length)),(9,(aI j)),(10,(.op 2 0 0)),(11,(aI i))],[(0,vO 4 [(aB false),.nil,(aB false),.nil]),(1,aO 4 TRc TRat.d out),(2,vO 4 (TRc s))],3⟩
def g_r01_Combined_J3_H (N:Nat) (n:Int) (l:List TRow) (y:List TRat) (out:List TRat) (j:Int) (i:Int) (K:TRat→Option ((List TRat)×TRat)):Prop:=∀ (s2:TRat) (r:(List TRat)×TRat),K s2=some r→∀ E,EnvOk E 0→Runs Tryz.prog E 50 74 (SPost E [] (.tup [(encL TRc TRat.d r.1),(.agg (TRc r.2))])) [.code (C_80 119379),.inLoop (C_80 29844),.inBlock 2,.code (C_80 3731),.inBlock 1,.code (C_80 467),.inLoop (C_80 116),.inBlock 0,.code (C_80 15)] ⟨[(0,(aI n)),(1,(encL TWc TRow.d l)),(2,(encL TRc TRat.d y)),(7,(.op 0 0 0)),(8,(.os 1 0 out.length)),(9,(aI j)),(10,(.op 2 0 0)),(11,(aI i))],[(0,vO 4 [(aB false),.nil,(aB false),.nil]),(1,aO 4 TRc TRat.d out),(2,vO 4 (TRc s2))],3⟩
theorem g_r01_Combined_J3_ok (N:Nat) (n:Int) (l:List TRow) (y:List TRat) (out:List TRat) (j:Int) (i:Int) (K_g_r01_Combined_L2:TRat→Int→Option ((List TRat)×TRat)) (K_g_r01_Combined_L1:(List TRat)→Int→Option ((List TRat)×TRat)) (hK_g_r01_Combined_L2:g_r01_Combined_L2_H N n l y out j K_g_r01_Combined_L2) (hK_g_r01_Combined_L1:g_r01_Combined_L1_H N n l y K_g_r01_Combined_L1):g_r01_Combined_J3_H N n l y out j i (g_r01_Combined_J3 N n l y out j i K_g_r01_Combined_L2 K_g_r01_Combined_L1):=by
 intro s2 r h E hE
 unfold g_r01_Combined_J3 at h
 refine rnR hE 0 [] [] (kp [0,1,2,7,8,9,10,11]) (kq [0,1,2]) 51 pn ?_
 exact rnW hE 1 [] (kp [0,1,2,7,8,9,10,11]) (kq [0,1,2]) 3 pn (hK_g_r01_Combined_L2 _ _ _ h E hE)
theorem g_r01_Combined_L2_ok (N:Nat) (n:Int) (l:List TRow) (y:List TRat) (out:List TRat) (j:Int) (K_g_r01_Combined_L1:(List TRat)→Int→Option ((List TRat)×TRat)) (hK_g_r01_Combined_L1:g_r01_Combined_L1_H N n l y K_g_r01_Combined_L1) (fuel:Nat):g_r01_Combined_L2_H N n l y out j (g_r01_Combined_L2 N n l y out j K_g_r01_Combined_L1 fuel):=by
 induction fuel with
 | zero=>intro _ _ r h;rw [g_r01_Combined_L2.eq_1] at h;cases h
 | succ fuel ih =>
  intro s i r h E hE
  rw [g_r01_Combined_L2.eq_2] at h
  refine rnR hE 2 [] [] (kp [0,1,2,7,8,9,10,11,23]) (kq [0,1,2]) 67 pn ?_
  refine rnC 0 23 h (fun hq3 h=>?_) (fun hq3 h=>?_)
  ·obtain ⟨c,h⟩:=ifSome h
   refine rnR hE 4 [] [] (kp [0,1,2,7,8,9,10,11,33]) (kq [0,1,2]) 195 (pc c pn) ?_
   refine rnC 0 33 h (fun hq4 h=>?_) (fun hq4 h=>?_)
   ·obtain ⟨c2,h⟩:=ifSome h
    obtain ⟨c3,h⟩:=ifSome h
    obtain ⟨rMulRat,hr2,h⟩:=bsm h
    obtain ⟨rAddRat,hr3,h⟩:=bsm h
    refine rnR hE 0 [(13,⟨[],true,(.agg (TRc rMulRat)),[],0,false,none⟩),(14,⟨[],true,(.agg (TRc rAddRat)),[],0,false,none⟩)] [] (kp [0,1,2,7,8,9,10,11]) (kq [0,1,2]) 451 (pc o1 (pc c2 (pc c (pc c3 (pc (g_r01_MulRat_ok N (⟨((y.getD ((i).toNat) TRat.d).fN),((y.getD ((i).toNat) TRat.d).fD)⟩:TRat) (⟨((((l.getD ((i).toNat) TRow.d).f_Coefs).getD ((j).toNat) TRat.d).fN),((((l.getD ((i).toNat) TRow.d).f_Coefs).getD ((j).toNat) TRat.d).fD)⟩:TRat) rMulRat hr2) (pc (g_r01_AddRat_ok N s rMulRat rAddRat hr3) (pc o1 pn))))))) ?_
    exact rnW hE 1 [] (kp [0,1,2,7,8,9,10,11]) (kq [0,1,2]) 3 pn (g_r01_Combined_J3_ok N _ _ _ _ _ _ _ _ ih hK_g_r01_Combined_L1 _ _ h E hE)
   ·exact rnW hE 2 [] (kp [0,1,2,7,8,9,10,11]) (kq [0,1,2]) 3 pn (g_r01_Combined_J3_ok N _ _ _ _ _ _ _ _ ih hK_g_r01_Combined_L1 _ _ h E hE)
  ·obtain ⟨c4,h⟩:=ifSome h
   refine rnR hE 1 [] [] (kp [0,1,2,7] ++ [(8,.osl ((out ++ ([s]:List TRat)).length))] ++ kp [9]) (kq [0] ++ [(115,.arr 115 ((out ++ ([s]:List TRat)).length) (fun zi=>TRc ((out ++ ([s]:List TRat)).getD zi TRat.d)))]) 147 (pc o1 (pc (Eq.refl out.length) (pc c4 (pc (z1 1) (pc (show ∀ zi,zi < 1→AV.oneL ((fun zi=>([[(aB s.fN.fG),(eU s.fN.fL),(aB s.fD.fG),(eU s.fD.fL)]]:List (List AV)).getD zi []) (addz 0 zi))=true from (oneN rfl)) (pc (show (out.length+1)=(out ++ ([s]:List TRat)).length from (len_app_raw rfl rfl)) (pc (show out.length+1=(out ++ ([s]:List TRat)).length from (len_app_raw rfl rfl)) (pc (show ∀ zi,zi < (out ++ ([s]:List TRat)).length→(fun zi=>TRc ((out ++ ([s]:List TRat)).getD zi TRat.d)) zi=((fun zm=>if zm < out.length then (fun zi=>TRc (out.getD zi TRat.d)) zm else (fun zi=>([[(aB s.fN.fG),(eU s.fN.fL),(aB s.fD.fG),(eU s.fD.fL)]]:List (List AV)).getD zi []) (zm - out.length))) zi from (get_app_raw TRc TRat.d out ([s]:List TRat) rfl (fun _ _=>rfl) (fun zq hzq=>get_chunk TRc TRat.d ([s]:List TRat) zq hzq))) pn)))))))) ?_
   refine rnR hE 1 [] [] (kp [0,1,2,7,8,9]) (kq [0,115]) 195 pn ?_
   exact rnW hE 1 [] (kp [0,1,2,7,8,9]) (kq [0] ++ [(1,.keep 115)]) 2 pn (hK_g_r01_Combined_L1 _ _ _ h E hE)
def g_r01_Combined_L4_H (N:Nat) (l:List TRow) (y:List TRat) (out:List TRat) (K:TRat→Int→Option ((List TRat)×TRat)):Prop:=∀ (bound:TRat) (i2:Int) (r:(List TRat)×TRat),K bound i2=some r→∀ E,EnvOk E 0→Runs Tryz.prog E 50 74 (SPost E [] (.tup [(encL TRc TRat.d r.1),(.agg (TRc r.2))])) [.code (C_80 500),.inLoop (C_80 500),.inBlock 4,.code (C_80 63)] ⟨[(1,(encL TWc TRow.d l)),(2,(encL TRc TRat.d y)),(7,(.op 0 0 0)),(8,(.os 1 0 out.length)),(12,(.op 2 0 0)),(13,(aI i2))],[(0,vO 4 [(aB false),.nil,(aB false),.nil]),(1,aO 4 TRc TRat.d out),(2,vO 4 (TRc bound))],3⟩
theorem g_r01_Combined_L4_ok (N:Nat) (l:List TRow) (y:List TRat) (out:List TRat) (fuel:Nat):g_r01_Combined_L4_H N l y out (g_r01_Combined_L4 N l y out fuel):=by
 induction fuel with
 | zero=>intro _ _ r h;rw [g_r01_Combined_L4.eq_1] at h;cases h
 | succ fuel ih =>
  intro bound i2 r h E hE
  rw [g_r01_Combined_L4.eq_2] at h
  refine rnR hE 2 [] [] (kp [1,2,7,8,12,13,57]) (kq [0,1,2]) 67 pn ?_
  refine rnC 0 57 h (fun hq5 h=>?_) (fun hq5 h=>?_)
  ·obtain ⟨c5,h⟩:=ifSome h
   obtain ⟨c6,h⟩:=ifSome h
   obtain ⟨rMulRat2,hr5,h⟩:=bsm h
   obtain ⟨rAddRat2,hr6,h⟩:=bsm h
   refine rnR hE 3 [(10,⟨[],true,(.agg (TRc rMulRat2)),[],0,false,none⟩),(11,⟨[],true,(.agg (TRc rAddRat2)),[],0,false,none⟩)] [] (kp [1,2,7,8,12,13]) (kq [0,1,2]) 275 (pc o1 (pc c5 (pc c6 (pc (g_r01_MulRat_ok N (⟨((y.getD ((i2).toNat) TRat.d).fN),((y.getD ((i2).toNat) TRat.d).fD)⟩:TRat) (⟨(((l.getD ((i2).toNat) TRow.d).f_Bound).fN),(((l.getD ((i2).toNat) TRow.d).f_Bound).fD)⟩:TRat) rMulRat2 hr5) (pc (g_r01_AddRat_ok N bound rMulRat2 rAddRat2 hr6) (pc o1 pn)))))) ?_
   refine rnR hE 1 [] [] (kp [1,2,7,8,12,13]) (kq [0,1,2]) 323 pn ?_
   exact rnW hE 1 [] (kp [1,2,7,8,12,13]) (kq [0,1,2]) 3 pn (ih _ _ _ h E hE)
  ·refine rnR hE 2 [] [] (kp [6,7]) (kq [0,1]) 131 (pc o1 (pc o1 pn)) ?_
   obtain rfl:=osI h
   exact rnT hE 0 Tryz.f50 [1] ([(6,.sl (out.length) (fun zi=>TRc (out.getD zi TRat.d)))] ++ kp [7]) [(17,.keep 0)] 131 (pc (Eq.refl out.length) (pc (z1 out.length) (pc (show ∀ zi,zi < out.length→(fun zi=>TRc (out.getD zi TRat.d)) zi=(fun zi=>TRc (out.getD zi TRat.d)) (addz 0 zi) from (fun _ _=>rfl)) pn))) [17] (pc o1 pn)
theorem g_r01_Combined_L1_ok (N:Nat) (n:Int) (l:List TRow) (y:List TRat) (fuel:Nat):g_r01_Combined_L1_H N n l y (g_r01_Combined_L1 N n l y fuel):=by
 induction fuel with
 | zero=>intro _ _ r h;rw [g_r01_Combined_L1.eq_1] at h;cases h
 | succ fuel ih =>
  intro out j r h E hE
  rw [g_r01_Combined_L1.eq_2] at h
  refine rnR hE 2 [] [] (kp [0,1,2,7,8,9,16]) (kq [0,1]) 50 pn ?_
  refine rnC 0 16 h (fun hq2 h=>?_) (fun hq2 h=>?_)
  ·obtain ⟨rQ,hr,h⟩:=bsm h
   refine rnR hE 4 [(0,⟨[],true,(.agg (TRc rQ)),[],0,false,none⟩)] [] (kp [0,1,2,7,8,9,10]) (kq [0,1,66]) 98 (pc (g_r01_Q_ok N 0 rQ hr) (pc o1 pn)) ?_
   refine rnR hE 2 [] [] (kp [0,1,2,7,8,9,10,11]) (kq [0,1,66]) 114 pn ?_
   exact rnW hE 2 [] (kp [0,1,2,7,8,9,10,11]) (kq [0,1] ++ [(2,.keep 66)]) 3 pn (g_r01_Combined_L2_ok N _ _ _ _ _ _ ih N _ _ _ h E hE)
  ·obtain ⟨rQ2,hr4,h⟩:=bsm h
   refine rnR hE 2 [(0,⟨[],true,(.agg (TRc rQ2)),[],0,false,none⟩)] [] (kp [1,2,7,8,12]) (kq [0,1,66]) 98 (pc (g_r01_Q_ok N 0 rQ2 hr4) (pc o1 pn)) ?_
   refine rnR hE 2 [] [] (kp [1,2,7,8,12,13]) (kq [0,1,66]) 114 pn ?_
   exact rnW hE 2 [] (kp [1,2,7,8,12,13]) (kq [0,1] ++ [(2,.keep 66)]) 3 pn (g_r01_Combined_L4_ok N _ _ _ N _ _ _ h E hE)
theorem g_r01_Combined_ok (N:Nat) (n:Int) (l:List TRow) (y:List TRat) (r:(List TRat)×TRat) (h:g_r01_Combined N n l y=some r):Sd 50 [(aI n),(encL TWc TRow.d l),(encL TRc TRat.d y)] [] 0 (.tup [(encL TRc TRat.d r.1),(.agg (TRc r.2))]) []:=by
 unfold g_r01_Combined at h
 refine sor (fu:=Tryz.f50) (c:=C_80 1) (nt:=74) (by kernel_rfl) (by kernel_rfl) (by kernel_rfl) (by kernel_rfl) (fun hm=>rfl) ?_
 intro E hE
 refine rnR hE 1 [] [] (kp [0,1,2,7]) (kq [16]) 32 pn ?_
 refine rnR hE 1 [] [] (kp [0,1,2,7,8]) (kq [16]) 48 pn ?_
 refine rnR hE 2 [] [] (kp [0,1,2,7,8,9]) (kq [16]) 64 pn ?_
 exact rnW hE 2 [] (kp [0,1,2,7] ++ [(8,.nilos 1)] ++ kp [9]) [(0,.keep 16),(1,.nil 4 (fun zi=>TRc (([]:List TRat).getD zi TRat.d)))] 2 pn (g_r01_Combined_L1_ok N _ _ _ N _ _ _ h E hE)
noncomputable def C_100 (n:Nat):Code:=cat (bodyOf Tryz.f85) (pth n)
theorem g_r01_Sign_ok (N:Nat) (a:TInt) (r:Int) (h:g_r01_Sign N a=some r):Sd 85 [(.agg (TIc a))] [] 0 (aI r) []:=by
 unfold g_r01_Sign at h
 refine sor (fu:=Tryz.f85) (c:=C_100 1) (nt:=10) (by kernel_rfl) (by kernel_rfl) (by kernel_rfl) (by kernel_rfl) (fun hm=>rfl) ?_
 intro E hE
 refine rnR hE 1 [] [] (kp [1]) (kq [0]) 32 pn ?_
 obtain ⟨rread,hr,h⟩:=bsm h
 refine rnR hE 2 [(2,⟨[],true,(encL cI 0 rread),[],0,false,none⟩)] [] (kp [1,7]) (kq [0]) 112 (pc o1 (pc (g_r01_read_ok N a.fL rread hr) pn)) ?_
 refine rnC 0 7 h (fun hq2 h=>?_) (fun hq2 h=>?_)
 ·refine rnR hE 1 [] [] (kp [2]) [] 128 pn ?_
  obtain rfl:=osI h
  exact rnT hE 0 Tryz.f85 [] (kp [2]) [] 128 pn [] pn
 ·refine rnR hE 3 [] [] (kp [9]) [] 144 (pc o1 pn) ?_
  refine rnC 0 9 h (fun hq3 h=>?_) (fun hq3 h=>?_)
  ·refine rnR hE 1 [] [] (kp [2]) [] 160 pn ?_
   obtain rfl:=osI h
   exact rnT hE 0 Tryz.f85 [] (kp [2]) [] 160 pn [] pn
  ·refine rnR hE 2 [] [] (kp [2]) [] 160 pn ?_
   obtain rfl:=osI h
   exact rnT hE 0 Tryz.f85 [] (kp [2]) [] 160 pn [] pn
noncomputable def C_99 (n:Nat):Code:=cat (bodyOf Tryz.f51) (pth n)
theorem g_r01_SignRat_ok (N:Nat) (x:TRat) (r:Int) (h:g_r01_SignRat N x=some r):Sd 51 [(.agg (TRc x))] [] 0 (aI r) []:=by
 unfold g_r01_SignRat at h
 refine sor (fu:=Tryz.f51) (c:=C_99 1) (nt:=7) (by kernel_rfl) (by kernel_rfl) (by kernel_rfl) (by kernel_rfl) (fun hm=>rfl) ?_
 intro E hE
 refine rnR hE 1 [] [] (kp [1]) (kq [0]) 32 pn ?_
 obtain ⟨rNormRat,hr,h⟩:=bsm h
 obtain ⟨rSign,hr2,h⟩:=bsm h
 refine rnR hE 1 [(1,⟨[],true,(.agg (TRc rNormRat)),[],0,false,none⟩),(3,⟨[],true,(aI rSign),[],0,false,none⟩)] [] (kp [2]) [] 112 (pc o1 (pc (g_r01_NormRat_ok N x rNormRat hr) (pc (g_r01_Sign_ok N rNormRat.fN rSign hr2) pn))) ?_
 obtain rfl:=osI h
 exact rnT hE 0 Tryz.f51 [] (kp [2]) [] 112 pn [] pn
noncomputable def C_101 (n:Nat):Code:=cat (bodyOf Tryz.f52) (pth n)
def g_r01_NoneNegative_L1_H (N:Nat) (l:List TRat) (K:Int→Option (Bool)):Prop:=∀ (i:Int) (r:Bool),K i=some r→∀ E,EnvOk E 0→Runs Tryz.prog E 52 16 (SPost E [] (aB r)) [.code (C_101 52),.inLoop (C_101 52),.inBlock 0,.code (C_101 7)] ⟨[(0,(encL TRc TRat.d l)),(3,(aI i))],[],0⟩
theorem g_r01_NoneNegative_L1_ok (N:Nat) (l:List TRat) (fuel:Nat):g_r01_NoneNegative_L1_H N l (g_r01_NoneNegative_L1 N l fuel):=by
 induction fuel with
 | zero=>intro _ r h;rw [g_r01_NoneNegative_L1.eq_1] at h;cases h
 | succ fuel ih =>
  intro i r h E hE
  rw [g_r01_NoneNegative_L1.eq_2] at h
  refine rnR hE 2 [] [] (kp [0,3,7]) [] 64 pn ?_
  refine rnC 0 7 h (fun hq2 h=>?_) (fun hq2 h=>?_)
  ·obtain ⟨c,h⟩:=ifSome h
   obtain ⟨rSignRat,hr,h⟩:=bsm h
   refine rnR hE 4 [(4,⟨[],true,(aI rSignRat),[],0,false,none⟩)] [] (kp [0,3,15]) [] 160 (pc c (pc (g_r01_SignRat_ok N (⟨((l.getD ((i).toNat) TRat.d).fN),((l.getD ((i).toNat) TRat.d).fD)⟩:TRat) rSignRat hr) pn)) ?_
   refine rnC 0 15 h (fun hq3 h=>?_) (fun hq3 h=>?_)
   ·refine rnR hE 1 [] [] (kp [2]) [] 176 pn ?_
    obtain rfl:=osI h
    exact rnT hE 0 Tryz.f52 [] (kp [2]) [] 176 pn [] pn
   ·refine rnR hE 2 [] [] (kp [0,3]) [] 208 pn ?_
    exact rnW hE 1 [] (kp [0,3]) [] 0 pn (ih _ _ h E hE)
  ·refine rnR hE 2 [] [] (kp [2]) [] 80 pn ?_
   obtain rfl:=osI h
   exact rnT hE 0 Tryz.f52 [] (kp [2]) [] 80 pn [] pn
theorem g_r01_NoneNegative_ok (N:Nat) (l:List TRat) (r:Bool) (h:g_r01_NoneNegative N l=some r):Sd 52 [(encL TRc TRat.d l)] [] 0 (aB r) []:=by
 unfold g_r01_NoneNegative at h
 refine sor (fu:=Tryz.f52) (c:=C_101 1) (nt:=16) (by kernel_rfl) (by kernel_rfl) (by kernel_rfl) (by kernel_rfl) (fun hm=>rfl) ?_
 intro E hE
 refine rnR hE 1 [] [] (kp [0]) [] 16 pn ?_
 refine rnR hE 2 [] [] (kp [0,3]) [] 32 pn ?_
 exact rnW hE 2 [] (kp [0,3]) [] 0 pn (g_r01_NoneNegative_L1_ok N _ N _ _ h E hE)
noncomputable def C_79 (n:Nat):Code:=cat (bodyOf Tryz.f27) (pth n)
def g_r01_Contradicts_L1_H (N:Nat) (n:Int) (y:List TRat) (rCombined:(List TRat)×TRat) (K:Int→Option (Bool)):Prop:=∀ (j:Int) (r:Bool),K j=some r→∀ E,EnvOk E 0→Runs Tryz.prog E 27 35 (SPost E [] (aB r)) [.code (C_79 116),.inLoop (C_79 116),.inBlock 0,.code (C_79 15)] ⟨[(0,(aI n)),(2,(encL TRc TRat.d y)),(7,(encL TRc TRat.d rCombined.1)),(8,(.op 0 0 0)),(9,(aI j))],[(0,vO 4 (TRc rCombined.2))],1⟩
theorem g_r01_Contradicts_L1_ok (N:Nat) (n:Int) (y:List TRat) (rCombined:(List TRat)×TRat) (fuel:Nat):g_r01_Contradicts_L1_H N n y rCombined (g_r01_Contradicts_L1 N n y rCombined fuel):=by
 induction fuel with
 | zero=>intro _ r h;rw [g_r01_Contradicts_L1.eq_1] at h;cases h
 | succ fuel ih =>
  intro j r h E hE
  rw [g_r01_Contradicts_L1.eq_2] at h
  refine rnR hE 2 [] [] (kp [0,2,7,8,9,19]) (kq [0]) 49 pn ?_
  refine rnC 0 19 h (fun hq2 h=>?_) (fun hq2 h=>?_)
  ·obtain ⟨c,h⟩:=ifSome h
   obtain ⟨rSignRat,hr2,h⟩:=bsm h
   refine rnR hE 4 [(4,⟨[],true,(aI rSignRat),[],0,false,none⟩)] [] (kp [0,2,7,8,9,27]) (kq [0]) 145 (pc c (pc (g_r01_SignRat_ok N (⟨((rCombined.1.getD ((j).toNat) TRat.d).fN),((rCombined.1.getD ((j).toNat) TRat.d).fD)⟩:TRat) rSignRat hr2) pn)) ?_
   refine rnC 0 27 h (fun hq3 h=>?_) (fun hq3 h=>?_)
   ·refine rnR hE 1 [] [] (kp [6]) [] 161 pn ?_
    obtain rfl:=osI h
    exact rnT hE 0 Tryz.f27 [] (kp [6]) [] 161 pn [] pn
   ·refine rnR hE 2 [] [] (kp [0,2,7,8,9]) (kq [0]) 193 pn ?_
    exact rnW hE 1 [] (kp [0,2,7,8,9]) (kq [0]) 1 pn (ih _ _ h E hE)
  ·obtain ⟨rNoneNegative,hr3,h⟩:=bsm h
   obtain ⟨rSignRat2,hr4,h⟩:=bsm h
   refine rnR hE 2 [(1,⟨[],true,(aB rNoneNegative),[],0,false,none⟩),(4,⟨[],true,(aI rSignRat2),[],0,false,none⟩)] [] (kp [6]) [] 177 (pc (g_r01_NoneNegative_ok N y rNoneNegative hr3) (pc (fun hg:rNoneNegative=true=>(pc o1 pn)) (pc (fun hg:rNoneNegative=true=>(pc (g_r01_SignRat_ok N rCombined.2 rSignRat2 (condT hr4 hg)) (pc hg pn))) (pc (fun hg:rNoneNegative=true=>(pc hg pn)) (pc (fun hq:rNoneNegative=true=>(pc hq pn)) pn))))) ?_
   obtain rfl:=osI h
   exact rnT hE 0 Tryz.f27 [] (kp [6]) [] 177 pn [] pn
theorem g_r01_Contradicts_ok (N:Nat) (n:Int) (l:List TRow) (y:List TRat) (r:Bool) (h:g_r01_Contradicts N n l y=some r):Sd 27 [(aI n),(encL TWc TRow.d l),(encL TRc TRat.d y)] [] 0 (aB r) []:=by
 unfold g_r01_Contradicts at h
 refine sor (fu:=Tryz.f27) (c:=C_79 1) (nt:=35) (by kernel_rfl) (by kernel_rfl) (by kernel_rfl) (by kernel_rfl) (fun hm=>rfl) ?_
 intro E hE
 refine rnR hE 1 [] [] (kp [0,1,2]) [] 16 pn ?_
 obtain ⟨rCombined,hr,h⟩:=bsm h
 refine rnR hE 1 [(3,⟨[],true,(.tup [(encL TRc TRat.d rCombined.1),(.agg (TRc rCombined.2))]),[],0,false,none⟩)] [] (kp [0,2,7,8]) (kq [128]) 176 (pc (g_r01_Combined_ok N n l y rCombined hr) (pc o1 pn)) ?_
 refine rnR hE 2 [] [] (kp [0,2,7,8,9]) (kq [128]) 192 pn ?_
 exact rnW hE 2 [] (kp [0,2,7,8,9]) [(0,.keep 128)] 1 pn (g_r01_Contradicts_L1_ok N _ _ _ N _ _ h E hE)
noncomputable def C_103 (n:Nat):Code:=cat (bodyOf Tryz.f54) (pth n)
def g_r01_Product_L1_H (N:Nat) (a:List TRat) (b:List TRat) (K:TRat→Int→Option (TRat)):Prop:=∀ (out:TRat) (i:Int) (r:TRat),K out i=some r→∀ E,EnvOk E 0→Runs Tryz.prog E 54 32 (SPost E [] (.agg (TRc r))) [.code (C_103 116),.inLoop (C_103 116),.inBlock 0,.code (C_103 15)] ⟨[(0,(encL TRc TRat.d a)),(1,(encL TRc TRat.d b)),(4,(.op 0 0 0)),(5,(.op 1 0 0)),(6,(aI i))],[(0,vO 4 [(aB false),.nil,(aB false),.nil]),(1,vO 4 (TRc out))],2⟩
theorem g_r01_Product_L1_ok (N:Nat) (a:List TRat) (b:List TRat) (fuel:Nat):g_r01_Product_L1_H N a b (g_r01_Product_L1 N a b fuel):=by
 induction fuel with
 | zero=>intro _ _ r h;rw [g_r01_Product_L1.eq_1] at h;cases h
 | succ fuel ih =>
  intro out i r h E hE
  rw [g_r01_Product_L1.eq_2] at h
  refine rnR hE 2 [] [] (kp [0,1,4,5,6,17]) (kq [0,1]) 162 (pc (fun hg:(decide (i < ((a.length:Nat):Int)))=true=>(pc hg pn)) (pc (fun hg:(decide (i < ((a.length:Nat):Int)))=true=>(pc hg (pc hg pn))) (pc (fun hq:(decide (i < ((a.length:Nat):Int)))=true=>(pc hq pn)) pn))) ?_
  refine rnC 0 17 h (fun hq2 h=>?_) (fun hq2 h=>?_)
  ·obtain ⟨c,h⟩:=ifSome h
   obtain ⟨c2,h⟩:=ifSome h
   obtain ⟨rMulRat,hr2,h⟩:=bsm h
   obtain ⟨rAddRat,hr3,h⟩:=bsm h
   refine rnR hE 3 [(9,⟨[],true,(.agg (TRc rMulRat)),[],0,false,none⟩),(10,⟨[],true,(.agg (TRc rAddRat)),[],0,false,none⟩)] [] (kp [0,1,4,5,6]) (kq [0,1]) 354 (pc o1 (pc c (pc c2 (pc (g_r01_MulRat_ok N (⟨((a.getD ((i).toNat) TRat.d).fN),((a.getD ((i).toNat) TRat.d).fD)⟩:TRat) (⟨((b.getD ((i).toNat) TRat.d).fN),((b.getD ((i).toNat) TRat.d).fD)⟩:TRat) rMulRat hr2) (pc (g_r01_AddRat_ok N out rMulRat rAddRat hr3) (pc o1 pn)))))) ?_
   refine rnR hE 1 [] [] (kp [0,1,4,5,6]) (kq [0,1]) 402 pn ?_
   exact rnW hE 1 [] (kp [0,1,4,5,6]) (kq [0,1]) 2 pn (ih _ _ _ h E hE)
  ·refine rnR hE 2 [] [] (kp [4]) (kq [0]) 194 (pc o1 (pc o1 pn)) ?_
   obtain rfl:=osI h
   exact rnT hE 0 Tryz.f54 [] (kp [4]) [(16,.keep 0)] 194 pn [16] (pc o1 pn)
theorem g_r01_Product_ok (N:Nat) (a:List TRat) (b:List TRat) (r:TRat) (h:g_r01_Product N a b=some r):Sd 54 [(encL TRc TRat.d a),(encL TRc TRat.d b)] [] 0 (.agg (TRc r)) []:=by
 unfold g_r01_Product at h
 refine sor (fu:=Tryz.f54) (c:=C_103 1) (nt:=32) (by kernel_rfl) (by kernel_rfl) (by kernel_rfl) (by kernel_rfl) (fun hm=>rfl) ?_
 intro E hE
 refine rnR hE 1 [] [] (kp [0,1,4]) (kq [0]) 16 pn ?_
 obtain ⟨rQ,hr,h⟩:=bsm h
 refine rnR hE 1 [(0,⟨[],true,(.agg (TRc rQ)),[],0,false,none⟩)] [] (kp [0,1,4,5]) (kq [0,32]) 64 (pc (g_r01_Q_ok N 0 rQ hr) (pc o1 pn)) ?_
 refine rnR hE 2 [] [] (kp [0,1,4,5,6]) (kq [0,32]) 80 pn ?_
 exact rnW hE 2 [] (kp [0,1,4,5,6]) (kq [0] ++ [(1,.keep 32)]) 2 pn (g_r01_Product_L1_ok N _ _ N _ _ _ h E hE)
noncomputable def C_107 (n:Nat):Code:=cat (bodyOf Tryz.f111) (pth n)
theorem g_r01_Neg_ok (N:Nat) (a:TInt) (r:TInt) (h:g_r01_Neg N a=some r):Sd 111 [(.agg (TIc a))] [] 0 (.agg (TIc r)) []:=by
 unfold g_r01_Neg at h
 refine sor (fu:=Tryz.f111) (c:=C_107 1) (nt:=10) (by kernel_rfl) (by kernel_rfl) (by kernel_rfl) (by kernel_rfl) (fun hm=>rfl) ?_
 intro E hE
 refine rnR hE 1 [] [] (kp [1,2]) (kq [0,16]) 32 pn ?_
 obtain ⟨rread,hr,h⟩:=bsm h
 obtain ⟨rmade,hr2,h⟩:=bsm h
 refine rnR hE 1 [(5,⟨[],true,(encL cI 0 rread),[],0,false,none⟩),(6,⟨[],true,(.agg (TIc rmade)),[],0,false,none⟩)] [] (kp [2]) (kq [16]) 160 (pc o1 (pc o1 (pc (g_r01_read_ok N a.fL rread hr) (pc (g_r01_made_ok N (!a.fG) rread rmade hr2) (pc o1 pn))))) ?_
 obtain rfl:=osI h
 exact rnT hE 0 Tryz.f111 [] (kp [2]) (kq [16]) 160 pn [16] (pc o1 pn)
noncomputable def C_106 (n:Nat):Code:=cat (bodyOf Tryz.f102) (pth n)
theorem g_r01_NegRat_ok (N:Nat) (x:TRat) (r:TRat) (h:g_r01_NegRat N x=some r):Sd 102 [(.agg (TRc x))] [] 0 (.agg (TRc r)) []:=by
 unfold g_r01_NegRat at h
 refine sor (fu:=Tryz.f102) (c:=C_106 1) (nt:=12) (by kernel_rfl) (by kernel_rfl) (by kernel_rfl) (by kernel_rfl) (fun hm=>rfl) ?_
 intro E hE
 refine rnR hE 1 [] [] (kp [1,2]) (kq [0,16]) 32 pn ?_
 obtain ⟨rNormRat,hr,h⟩:=bsm h
 refine rnR hE 1 [(1,⟨[],true,(.agg (TRc rNormRat)),[],0,false,none⟩)] [] (kp [2,3]) (kq [16,64]) 96 (pc o1 (pc (g_r01_NormRat_ok N x rNormRat hr) (pc o1 pn))) ?_
 obtain ⟨rNeg,hr2,h⟩:=bsm h
 refine rnR hE 1 [(2,⟨[],true,(.agg (TIc rNeg)),[],0,false,none⟩)] [] (kp [2]) (kq [16]) 208 (pc o1 (pc (g_r01_Neg_ok N rNormRat.fN rNeg hr2) (pc o1 (pc o1 pn)))) ?_
 obtain rfl:=osI h
 exact rnT hE 0 Tryz.f102 [] (kp [2]) (kq [16]) 208 pn [16] (pc o1 pn)
noncomputable def C_105 (n:Nat):Code:=cat (bodyOf Tryz.f87) (pth n)
theorem g_r01_SubRat_ok (N:Nat) (x:TRat) (y:TRat) (r:TRat) (h:g_r01_SubRat N x y=some r):Sd 87 [(.agg (TRc x)),(.agg (TRc y))] [] 0 (.agg (TRc r)) []:=by
 unfold g_r01_SubRat at h
 refine sor (fu:=Tryz.f87) (c:=C_105 1) (nt:=9) (by kernel_rfl) (by kernel_rfl) (by kernel_rfl) (by kernel_rfl) (fun hm=>rfl) ?_
 intro E hE
 refine rnR hE 1 [] [] (kp [2,3,4]) (kq [0,16,32]) 48 pn ?_
 obtain ⟨rNegRat,hr,h⟩:=bsm h
 obtain ⟨rAddRat,hr2,h⟩:=bsm h
 refine rnR hE 1 [(2,⟨[],true,(.agg (TRc rNegRat)),[],0,false,none⟩),(3,⟨[],true,(.agg (TRc rAddRat)),[],0,false,none⟩)] [] (kp [4]) (kq [32]) 128 (pc o1 (pc o1 (pc (g_r01_NegRat_ok N y rNegRat hr) (pc (g_r01_AddRat_ok N x rNegRat rAddRat hr2) (pc o1 pn))))) ?_
 obtain rfl:=osI h
 exact rnT hE 0 Tryz.f87 [] (kp [4]) [(16,.keep 32)] 128 pn [16] (pc o1 pn)
noncomputable def C_104 (n:Nat):Code:=cat (bodyOf Tryz.f53) (pth n)
theorem g_r01_CmpRat_ok (N:Nat) (x:TRat) (y:TRat) (r:Int) (h:g_r01_CmpRat N x y=some r):Sd 53 [(.agg (TRc x)),(.agg (TRc y))] [] 0 (aI r) []:=by
 unfold g_r01_CmpRat at h
 refine sor (fu:=Tryz.f53) (c:=C_104 1) (nt:=9) (by kernel_rfl) (by kernel_rfl) (by kernel_rfl) (by kernel_rfl) (fun hm=>rfl) ?_
 intro E hE
 refine rnR hE 1 [] [] (kp [2,3]) (kq [0,16]) 48 pn ?_
 obtain ⟨rSubRat,hr,h⟩:=bsm h
 obtain ⟨rSignRat,hr2,h⟩:=bsm h
 refine rnR hE 1 [(2,⟨[],true,(.agg (TRc rSubRat)),[],0,false,none⟩),(3,⟨[],true,(aI rSignRat),[],0,false,none⟩)] [] (kp [4]) [] 128 (pc o1 (pc o1 (pc (g_r01_SubRat_ok N x y rSubRat hr) (pc (g_r01_SignRat_ok N rSubRat rSignRat hr2) pn)))) ?_
 obtain rfl:=osI h
 exact rnT hE 0 Tryz.f53 [] (kp [4]) [] 128 pn [] pn
noncomputable def C_102 (n:Nat):Code:=cat (bodyOf Tryz.f28) (pth n)
def g_r01_Holds_L1_H (N:Nat) (l:List TRow) (point:List TRat) (K:Int→Option (Bool)):Prop:=∀ (i:Int) (r:Bool),K i=some r→∀ E,EnvOk E 0→Runs Tryz.prog E 28 26 (SPost E [] (aB r)) [.code (C_102 52),.inLoop (C_102 52),.inBlock 0,.code (C_102 7)] ⟨[(0,(encL TWc TRow.d l)),(1,(encL TRc TRat.d point)),(5,(aI i))],[],0⟩
theorem g_r01_Holds_L1_ok (N:Nat) (l:List TRow) (point:List TRat) (fuel:Nat):g_r01_Holds_L1_H N l point (g_r01_Holds_L1 N l point fuel):=by
 induction fuel with
 | zero=>intro _ r h;rw [g_r01_Holds_L1.eq_1] at h;cases h
 | succ fuel ih =>
  intro i r h E hE
  rw [g_r01_Holds_L1.eq_2] at h
  refine rnR hE 2 [] [] (kp [0,1,5,9]) [] 64 pn ?_
  refine rnC 0 9 h (fun hq2 h=>?_) (fun hq2 h=>?_)
  ·obtain ⟨c,h⟩:=ifSome h
   obtain ⟨rProduct,hr,h⟩:=bsm h
   obtain ⟨rCmpRat,hr2,h⟩:=bsm h
   refine rnR hE 4 [(6,⟨[],true,(.agg (TRc rProduct)),[],0,false,none⟩),(12,⟨[],true,(aI rCmpRat),[],0,false,none⟩)] [] (kp [0,1,5,25]) [] 288 (pc c (pc (g_r01_Product_ok N ((l.getD ((i).toNat) TRow.d).f_Coefs) point rProduct hr) (pc c (pc (g_r01_CmpRat_ok N rProduct (⟨(((l.getD ((i).toNat) TRow.d).f_Bound).fN),(((l.getD ((i).toNat) TRow.d).f_Bound).fD)⟩:TRat) rCmpRat hr2) pn)))) ?_
   refine rnC 0 25 h (fun hq3 h=>?_) (fun hq3 h=>?_)
   ·refine rnR hE 1 [] [] (kp [4]) [] 304 pn ?_
    obtain rfl:=osI h
    exact rnT hE 0 Tryz.f28 [] (kp [4]) [] 304 pn [] pn
   ·refine rnR hE 2 [] [] (kp [0,1,5]) [] 336 pn ?_
    exact rnW hE 1 [] (kp [0,1,5]) [] 0 pn (ih _ _ h E hE)
  ·refine rnR hE 2 [] [] (kp [4]) [] 80 pn ?_
   obtain rfl:=osI h
   exact rnT hE 0 Tryz.f28 [] (kp [4]) [] 80 pn [] pn
theorem g_r01_Holds_ok (N:Nat) (l:List TRow) (point:List TRat) (r:Bool) (h:g_r01_Holds N l point=some r):Sd 28 [(encL TWc TRow.d l),(encL TRc TRat.d point)] [] 0 (aB r) []:=by
 unfold g_r01_Holds at h
 refine sor (fu:=Tryz.f28) (c:=C_102 1) (nt:=26) (by kernel_rfl) (by kernel_rfl) (by kernel_rfl) (by kernel_rfl) (fun hm=>rfl) ?_
 intro E hE
 refine rnR hE 1 [] [] (kp [0,1]) [] 16 pn ?_
 refine rnR hE 2 [] [] (kp [0,1,5]) [] 32 pn ?_
 exact rnW hE 2 [] (kp [0,1,5]) [] 0 pn (g_r01_Holds_L1_ok N _ _ N _ _ h E hE)
noncomputable def C_74 (n:Nat):Code:=cat (bodyOf Tryz.f9) (pth n)
theorem g_w01_contradictory_ok (N:Nat) (n:Int) (l:List TRow) (r:Bool×Bool) (h:g_w01_contradictory N n l=some r):Sd 9 [(aI n),(encL TWc TRow.d l)] [] 0 (.tup [(aB r.1),(aB r.2)]) []:=by
 unfold g_w01_contradictory at h
 refine sor (fu:=Tryz.f9) (c:=C_74 1) (nt:=42) (by kernel_rfl) (by kernel_rfl) (by kernel_rfl) (by kernel_rfl) (fun hm=>rfl) ?_
 intro E hE
 refine rnR hE 1 [] [] (kp [0,1]) [] 32 pn ?_
 obtain ⟨rFeasible,hr,h⟩:=bsm h
 refine rnR hE 1 [(2,⟨[],true,(.tup [(encL TRc TRat.d rFeasible.1),(encL TRc TRat.d rFeasible.2.1),(aI rFeasible.2.2)]),[],0,false,none⟩)] [] (kp [0,1,6,7,8]) [] 192 (pc (g_e_Feasible_ok N n l rFeasible hr) pn) ?_
 refine rnR hE 2 [] [] (kp [0,1,6,7,8,17]) [] 224 pn ?_
 refine rnC 0 17 h (fun hq2 h=>?_) (fun hq2 h=>?_)
 ·obtain ⟨rContradicts,hr2,h⟩:=bsm h
  refine rnR hE 1 [(9,⟨[],true,(aB rContradicts),[],0,false,none⟩)] [] (kp [4,5]) [] 432 (pc (fun hg:(((rFeasible.2.1.length:Nat):Int) == ((l.length:Nat):Int))=true=>(pc (g_r01_Contradicts_ok N n l rFeasible.2.1 rContradicts (condT hr2 hg)) (pc hg (pc hg (pc hg pn))))) (pc (fun hq:(((rFeasible.2.1.length:Nat):Int) == ((l.length:Nat):Int))=true=>(pc hq pn)) pn)) ?_
  obtain rfl:=osI h
  exact rnT hE 0 Tryz.f9 [] (kp [4,5]) [] 432 pn [] pn
 ·obtain ⟨rHolds,hr3,h⟩:=bsm h
  refine rnR hE 2 [(11,⟨[],true,(aB rHolds),[],0,false,none⟩)] [] (kp [4,5]) [] 464 (pc (fun hg:(rFeasible.2.2 == 0)=true=>(pc hg pn)) (pc (fun hg:(rFeasible.2.2 == 0)=true=>(pc hg (pc hg pn))) (pc (fun hq:(rFeasible.2.2 == 0)=true=>(pc hq pn)) (pc (fun hg:(cond (rFeasible.2.2 == 0) (((rFeasible.1.length:Nat):Int) == n) false)=true=>(pc (g_r01_Holds_ok N l rFeasible.1 rHolds (condT hr3 hg)) (pc hg (pc hg pn)))) (pc (fun hq:(cond (rFeasible.2.2 == 0) (((rFeasible.1.length:Nat):Int) == n) false)=true=>(pc hq pn)) pn))))) ?_
  obtain rfl:=osI h
  exact rnT hE 0 Tryz.f9 [] (kp [4,5]) [] 464 pn [] pn
noncomputable def C_108 (n:Nat):Code:=cat (bodyOf Tryz.f10) (pth n)
theorem g_w01_without_ok (N:Nat) (i:Int) (C0:List TRow) (r:(List TRow)) (h:g_w01_without N i C0=some r):Sd 10 [(.os 0 0 C0.length),(aI i)] [(0,aO 5 TWc TRow.d C0)] 1 (.os 1 0 r.length) [(0,aO 5 TWc TRow.d C0),(1,aO 5 TWc TRow.d r)]:=by
 unfold g_w01_without at h
 refine sor (fu:=Tryz.f10) (c:=C_108 1) (nt:=15) (by kernel_rfl) (by kernel_rfl) (by kernel_rfl) (by kernel_rfl) (fun hm=>absurd hm (by decide)) ?_
 intro E hE
 refine rnR hE 1 [] [] (kp [0,1]) (kq [0]) 17 pn ?_
 obtain ⟨c,h⟩:=ifSome h
 obtain ⟨c2,h⟩:=ifSome h
 obtain ⟨c3,h⟩:=ifSome h
 obtain ⟨c4,h⟩:=ifSome h
 obtain ⟨c5,h⟩:=ifSome h
 obtain ⟨c6,h⟩:=ifSome h
 refine rnR hE 1 [] [] [(4,.osl (((([]:List TRow) ++ ((C0.take ((i).toNat)).drop 0)) ++ ((C0.take C0.length).drop ((w64 (i+1)).toNat))).length))] (kq [0] ++ [(161,.arr 161 (((([]:List TRow) ++ ((C0.take ((i).toNat)).drop 0)) ++ ((C0.take C0.length).drop ((w64 (i+1)).toNat))).length) (fun zi=>TWc (((([]:List TRow) ++ ((C0.take ((i).toNat)).drop 0)) ++ ((C0.take C0.length).drop ((w64 (i+1)).toNat))).getD zi TRow.d)))]) 193 (pc c (pc c2 (pc (Eq.refl 0) (pc c3 (pc (show 0+((i).toNat - 0)≤C0.length by have h1:=c;omega) (pc (show ∀ zi,zi < ((i).toNat - 0)→AV.oneL ((fun zi=>TWc (C0.getD zi TRow.d)) (addz 0 zi))=true from (fun _ _=>rfl)) (pc c4 (pc c5 (pc (Eq.refl (0+((i).toNat - 0))) (pc c6 (pc (show (w64 (i+1)).toNat+(C0.length - (w64 (i+1)).toNat)≤C0.length by have h1:=c4;omega) (pc (show ∀ zi,zi < (C0.length - (w64 (i+1)).toNat)→AV.oneL ((fun zi=>TWc (C0.getD zi TRow.d)) (addz ((w64 (i+1)).toNat) zi))=true from (fun _ _=>rfl)) (pc (show ((0+((i).toNat - 0))+(C0.length - (w64 (i+1)).toNat))=((([]:List TRow) ++ ((C0.take ((i).toNat)).drop 0)) ++ ((C0.take C0.length).drop ((w64 (i+1)).toNat))).length from (len_app_raw (len_app_raw rfl (len_ext' C0 0 ((i).toNat) c)) (len_ext' C0 ((w64 (i+1)).toNat) C0.length c4))) (pc (show (0+((i).toNat - 0))+(C0.length - (w64 (i+1)).toNat)=((([]:List TRow) ++ ((C0.take ((i).toNat)).drop 0)) ++ ((C0.take C0.length).drop ((w64 (i+1)).toNat))).length from (len_app_raw (len_app_raw rfl (len_ext' C0 0 ((i).toNat) c)) (len_ext' C0 ((w64 (i+1)).toNat) C0.length c4))) (pc (show ∀ zi,zi < ((([]:List TRow) ++ ((C0.take ((i).toNat)).drop 0)) ++ ((C0.take C0.length).drop ((w64 (i+1)).toNat))).length→(fun zi=>TWc (((([]:List TRow) ++ ((C0.take ((i).toNat)).drop 0)) ++ ((C0.take C0.length).drop ((w64 (i+1)).toNat))).getD zi TRow.d)) zi=((fun zm=>if zm < (0+((i).toNat - 0)) then ((fun zm=>if zm < 0 then (fun _=>[]) zm else (fun zi=>(fun zi=>TWc (C0.getD zi TRow.d)) (addz 0 zi)) (zm - 0))) zm else (fun zi=>(fun zi=>TWc (C0.getD zi TRow.d)) (addz ((w64 (i+1)).toNat) zi)) (zm - (0+((i).toNat - 0))))) zi from (get_app_raw TWc TRow.d (([]:List TRow) ++ ((C0.take ((i).toNat)).drop 0)) ((C0.take C0.length).drop ((w64 (i+1)).toNat)) (len_app_raw rfl (len_ext' C0 0 ((i).toNat) c)) (get_app_raw TWc TRow.d ([]:List TRow) ((C0.take ((i).toNat)).drop 0) rfl (fun zq hzq=>absurd hzq (Nat.not_lt_zero _)) (fun zq hzq=>get_ext TWc TRow.d C0 0 ((i).toNat) zq hzq)) (fun zq hzq=>get_ext TWc TRow.d C0 ((w64 (i+1)).toNat) C0.length zq hzq))) pn))))))))))))))) ?_
 obtain rfl:=osI h
 exact rnT hE 0 Tryz.f10 [] (kp [4]) (kq [0] ++ [(1,.keep 161)]) 193 pn [] pn
noncomputable def C_0 (n:Nat):Code:=cat (bodyOf Tryz.f4) (pth n)
def g_w01_ExactIrreducible_L1_H (N:Nat) (p:Tw01_Problem) (rCore:(List Int)×Int) (K:(List TRow)→Int→Option (Bool)):Prop:=∀ (l:List TRow) (i:Int) (r:Bool),K l i=some r→∀ E,EnvOk E 0→Runs Tryz.prog E 4 121 (SPost E [] (aB r)) [.code (C_0 1012),.inLoop (C_0 1012),.inBlock 0,.code (C_0 127)] ⟨[(1,(.op 0 0 0)),(3,(encL cI 0 rCore.1)),(5,(.os 1 0 l.length)),(6,(aI i))],[(0,vO 2 (Tw01_Problem.cells p)),(1,aO 5 TWc TRow.d l)],2⟩
def g_w01_ExactIrreducible_L2_H (N:Nat) (p:Tw01_Problem) (l:List TRow) (K:Int→Option (Bool)):Prop:=∀ (i2:Int) (r:Bool),K i2=some r→∀ E,EnvOk E 0→Runs Tryz.prog E 4 121 (SPost E [] (aB r)) [.code (C_0 8180),.inLoop (C_0 8180),.inBlock 2,.code (C_0 1023)] ⟨[(1,(.op 0 0 0)),(5,(.os 1 0 l.length)),(9,(aI i2))],[(0,vO 2 (Tw01_Problem.cells p)),(1,aO 5 TWc TRow.d l)],2⟩
theorem g_w01_ExactIrreducible_L2_ok (N:Nat) (p:Tw01_Problem) (l:List TRow) (fuel:Nat):g_w01_ExactIrreducible_L2_H N p l (g_w01_ExactIrreducible_L2 N p l fuel):=by
 induction fuel with
 | zero=>intro _ r h;rw [g_w01_ExactIrreducible_L2.eq_1] at h;cases h
 | succ fuel ih =>
  intro i2 r h E hE
  rw [g_w01_ExactIrreducible_L2.eq_2] at h
  refine rnR hE 2 [] [] (kp [1,5,9,103]) (kq [0,1]) 66 pn ?_
  refine rnC 0 103 h (fun hq7 h=>?_) (fun hq7 h=>?_)
  ·obtain ⟨rwithout,hr7,h⟩:=bsm h
   obtain ⟨rcontradictor2,hr8,h⟩:=bsm h
   refine rnR hE 4 [(4,⟨[1],false,(.os 1 0 rwithout.length),[(0,aO 5 TWc TRow.d l),(1,aO 5 TWc TRow.d rwithout)],0,false,none⟩),(5,⟨[],true,(.tup [(aB rcontradictor2.1),(aB rcontradictor2.2)]),[],0,false,none⟩)] [] (kp [1,5,9,10,11]) (kq [0,1]) 242 (pc o1 (pc (g_w01_without_ok N i2 l rwithout hr7) (pc (g_w01_contradictory_ok N p.f_N rwithout rcontradictor2 hr8) (pc (z1 rwithout.length) pn)))) ?_
   refine rnR hE 1 [] [] (kp [1,5,9,119]) (kq [0,1]) 322 (pc (fun hg:(!rcontradictor2.1)=true=>(pc hg pn)) (pc (fun hq:(!rcontradictor2.1)=true=>(pc hq pn)) pn)) ?_
   refine rnC 0 119 h (fun hq8 h=>?_) (fun hq8 h=>?_)
   ·refine rnR hE 1 [] [] (kp [2]) [] 338 pn ?_
    obtain rfl:=osI h
    exact rnT hE 0 Tryz.f4 [] (kp [2]) [] 338 pn [] pn
   ·refine rnR hE 2 [] [] (kp [1,5,9]) (kq [0,1]) 370 pn ?_
    exact rnW hE 1 [] (kp [1,5,9]) (kq [0,1]) 2 pn (ih _ _ h E hE)
  ·obtain ⟨rawake3,hr9,h⟩:=bsm h
   refine rnR hE 2 [(0,⟨[],true,(aB rawake3),[],0,false,none⟩)] [] (kp [2]) [] 98 (pc (g_w01_awake_ok N rawake3 hr9) pn) ?_
   obtain rfl:=osI h
   exact rnT hE 0 Tryz.f4 [] (kp [2]) [] 98 pn [] pn
theorem g_w01_ExactIrreducible_L1_ok (N:Nat) (p:Tw01_Problem) (rCore:(List Int)×Int) (fuel:Nat):g_w01_ExactIrreducible_L1_H N p rCore (g_w01_ExactIrreducible_L1 N p rCore fuel):=by
 induction fuel with
 | zero=>intro _ _ r h;rw [g_w01_ExactIrreducible_L1.eq_1] at h;cases h
 | succ fuel ih =>
  intro l i r h E hE
  rw [g_w01_ExactIrreducible_L1.eq_2] at h
  refine rnR hE 2 [] [] (kp [1,3,5,6,42]) (kq [0,1]) 66 pn ?_
  refine rnC 0 42 h (fun hq4 h=>?_) (fun hq4 h=>?_)
  ·obtain ⟨c,h⟩:=ifSome h
   obtain ⟨c2,h⟩:=ifSome h
   obtain ⟨c3,h⟩:=ifSome h
   obtain ⟨c4,h⟩:=ifSome h
   refine rnR hE 5 [] [] (kp [1,3,5,6,75]) (kq [0,1]) 562 (pc c (pc (fun hg:(!(decide ((rCore.1.getD ((i).toNat) 0) < 0)))=true=>(pc hg (pc hg (pc (c2 hg) pn)))) (pc (fun hg:(!(decide ((rCore.1.getD ((i).toNat) 0) < 0)))=true=>(pc hg pn)) (pc (fun hg:(!(decide ((rCore.1.getD ((i).toNat) 0) < 0)))=true=>(pc hg (pc o1 pn))) (pc (fun hg:(!(decide ((rCore.1.getD ((i).toNat) 0) < 0)))=true=>(pc hg pn)) (pc (fun hg:(!(decide ((rCore.1.getD ((i).toNat) 0) < 0)))=true=>(pc hg (pc hg pn))) (pc (fun hq:(!(decide ((rCore.1.getD ((i).toNat) 0) < 0)))=true=>(pc hq pn)) (pc (fun hg:(!(cond (decide ((rCore.1.getD ((i).toNat) 0) < 0)) true (decide ((rCore.1.getD ((i).toNat) 0)≥((p.f_L.length:Nat):Int)))))=true=>(pc hg pn)) (pc (fun hg:((!(cond (decide ((rCore.1.getD ((i).toNat) 0) < 0)) true (decide ((rCore.1.getD ((i).toNat) 0)≥((p.f_L.length:Nat):Int))))) && ((!(cond (decide ((rCore.1.getD ((i).toNat) 0) < 0)) true (decide ((rCore.1.getD ((i).toNat) 0)≥((p.f_L.length:Nat):Int))))) && (decide (i > 0))))=true=>(pc hg (pc hg (pc (c3 hg) pn)))) (pc (fun hg:((!(cond (decide ((rCore.1.getD ((i).toNat) 0) < 0)) true (decide ((rCore.1.getD ((i).toNat) 0)≥((p.f_L.length:Nat):Int))))) && ((!(cond (decide ((rCore.1.getD ((i).toNat) 0) < 0)) true (decide ((rCore.1.getD ((i).toNat) 0)≥((p.f_L.length:Nat):Int))))) && (decide (i > 0))))=true=>(pc hg pn)) (pc (fun hg:((!(cond (decide ((rCore.1.getD ((i).toNat) 0) < 0)) true (decide ((rCore.1.getD ((i).toNat) 0)≥((p.f_L.length:Nat):Int))))) && ((!(cond (decide ((rCore.1.getD ((i).toNat) 0) < 0)) true (decide ((rCore.1.getD ((i).toNat) 0)≥((p.f_L.length:Nat):Int))))) && (decide (i > 0))))=true=>(pc hg pn)) (pc (fun hg:((!(cond (decide ((rCore.1.getD ((i).toNat) 0) < 0)) true (decide ((rCore.1.getD ((i).toNat) 0)≥((p.f_L.length:Nat):Int))))) && ((!(cond (decide ((rCore.1.getD ((i).toNat) 0) < 0)) true (decide ((rCore.1.getD ((i).toNat) 0)≥((p.f_L.length:Nat):Int))))) && (decide (i > 0))))=true=>(pc hg (pc hg (pc (c4 hg) pn)))) (pc (fun hg:((!(cond (decide ((rCore.1.getD ((i).toNat) 0) < 0)) true (decide ((rCore.1.getD ((i).toNat) 0)≥((p.f_L.length:Nat):Int))))) && ((!(cond (decide ((rCore.1.getD ((i).toNat) 0) < 0)) true (decide ((rCore.1.getD ((i).toNat) 0)≥((p.f_L.length:Nat):Int))))) && (decide (i > 0))))=true=>(pc hg pn)) (pc (fun hg:((!(cond (decide ((rCore.1.getD ((i).toNat) 0) < 0)) true (decide ((rCore.1.getD ((i).toNat) 0)≥((p.f_L.length:Nat):Int))))) && ((!(cond (decide ((rCore.1.getD ((i).toNat) 0) < 0)) true (decide ((rCore.1.getD ((i).toNat) 0)≥((p.f_L.length:Nat):Int))))) && (decide (i > 0))))=true=>(pc hg (pc hg pn))) (pc (fun hg:(!(cond (decide ((rCore.1.getD ((i).toNat) 0) < 0)) true (decide ((rCore.1.getD ((i).toNat) 0)≥((p.f_L.length:Nat):Int)))))=true=>(pc hg (pc hg (pc (fun hq:(decide (i > 0))=true=>(pc (show ((!(cond (decide ((rCore.1.getD ((i).toNat) 0) < 0)) true (decide ((rCore.1.getD ((i).toNat) 0)≥((p.f_L.length:Nat):Int))))) && ((!(cond (decide ((rCore.1.getD ((i).toNat) 0) < 0)) true (decide ((rCore.1.getD ((i).toNat) 0)≥((p.f_L.length:Nat):Int))))) && (decide (i > 0))))=true from (andI' hg (andI' hg hq))) pn)) pn)))) (pc (fun hq:(!(cond (decide ((rCore.1.getD ((i).toNat) 0) < 0)) true (decide ((rCore.1.getD ((i).toNat) 0)≥((p.f_L.length:Nat):Int)))))=true=>(pc hq pn)) pn)))))))))))))))) ?_
   refine rnC 0 75 h (fun hq5 h=>?_) (fun hq5 h=>?_)
   ·refine rnR hE 1 [] [] (kp [2]) [] 578 pn ?_
    obtain rfl:=osI h
    exact rnT hE 0 Tryz.f4 [] (kp [2]) [] 578 pn [] pn
   ·obtain ⟨c5,h⟩:=ifSome h
    obtain ⟨c6,h⟩:=ifSome h
    refine rnR hE 1 [] [] (kp [1,3] ++ [(5,.osl ((l ++ ([(p.f_L.getD ((rCore.1.getD ((i).toNat) 0).toNat) TRow.d)]:List TRow)).length))] ++ kp [6]) (kq [0] ++ [(722,.arr 722 ((l ++ ([(p.f_L.getD ((rCore.1.getD ((i).toNat) 0).toNat) TRow.d)]:List TRow)).length) (fun zi=>TWc ((l ++ ([(p.f_L.getD ((rCore.1.getD ((i).toNat) 0).toNat) TRow.d)]:List TRow)).getD zi TRow.d)))]) 754 (pc o1 (pc c (pc c5 (pc (Eq.refl l.length) (pc c6 (pc (z1 1) (pc (show ∀ zi,zi < 1→AV.oneL ((fun zi=>([[(encL TRc TRat.d ((p.f_L.getD ((rCore.1.getD ((i).toNat) 0).toNat) TRow.d).f_Coefs)),(aB ((((p.f_L.getD ((rCore.1.getD ((i).toNat) 0).toNat) TRow.d).f_Bound).fN).fG)),(eU ((((p.f_L.getD ((rCore.1.getD ((i).toNat) 0).toNat) TRow.d).f_Bound).fN).fL)),(aB ((((p.f_L.getD ((rCore.1.getD ((i).toNat) 0).toNat) TRow.d).f_Bound).fD).fG)),(eU ((((p.f_L.getD ((rCore.1.getD ((i).toNat) 0).toNat) TRow.d).f_Bound).fD).fL))]]:List (List AV)).getD zi []) (addz 0 zi))=true from (oneN rfl)) (pc (show (l.length+1)=(l ++ ([(p.f_L.getD ((rCore.1.getD ((i).toNat) 0).toNat) TRow.d)]:List TRow)).length from (len_app_raw rfl rfl)) (pc (show l.length+1=(l ++ ([(p.f_L.getD ((rCore.1.getD ((i).toNat) 0).toNat) TRow.d)]:List TRow)).length from (len_app_raw rfl rfl)) (pc (show ∀ zi,zi < (l ++ ([(p.f_L.getD ((rCore.1.getD ((i).toNat) 0).toNat) TRow.d)]:List TRow)).length→(fun zi=>TWc ((l ++ ([(p.f_L.getD ((rCore.1.getD ((i).toNat) 0).toNat) TRow.d)]:List TRow)).getD zi TRow.d)) zi=((fun zm=>if zm < l.length then (fun zi=>TWc (l.getD zi TRow.d)) zm else (fun zi=>([[(encL TRc TRat.d ((p.f_L.getD ((rCore.1.getD ((i).toNat) 0).toNat) TRow.d).f_Coefs)),(aB ((((p.f_L.getD ((rCore.1.getD ((i).toNat) 0).toNat) TRow.d).f_Bound).fN).fG)),(eU ((((p.f_L.getD ((rCore.1.getD ((i).toNat) 0).toNat) TRow.d).f_Bound).fN).fL)),(aB ((((p.f_L.getD ((rCore.1.getD ((i).toNat) 0).toNat) TRow.d).f_Bound).fD).fG)),(eU ((((p.f_L.getD ((rCore.1.getD ((i).toNat) 0).toNat) TRow.d).f_Bound).fD).fL))]]:List (List AV)).getD zi []) (zm - l.length))) zi from (get_app_raw TWc TRow.d l ([(p.f_L.getD ((rCore.1.getD ((i).toNat) 0).toNat) TRow.d)]:List TRow) rfl (fun _ _=>rfl) (fun zq hzq=>get_chunk TWc TRow.d ([(p.f_L.getD ((rCore.1.getD ((i).toNat) 0).toNat) TRow.d)]:List TRow) zq hzq))) pn)))))))))) ?_
    refine rnR hE 1 [] [] (kp [1,3,5,6]) (kq [0,722]) 802 pn ?_
    exact rnW hE 1 [] (kp [1,3,5,6]) (kq [0] ++ [(1,.keep 722)]) 2 pn (ih _ _ _ h E hE)
  ·obtain ⟨rcontradictor,hr6,h⟩:=bsm h
   refine rnR hE 2 [(3,⟨[],true,(.tup [(aB rcontradictor.1),(aB rcontradictor.2)]),[],0,false,none⟩)] [] (kp [1,5,7,8]) (kq [0,1]) 210 (pc o1 (pc (g_w01_contradictory_ok N p.f_N l rcontradictor hr6) (pc (z1 l.length) pn))) ?_
   refine rnR hE 2 [] [] (kp [1,5,99]) (kq [0,1]) 306 (pc (fun hg:(!(!rcontradictor.1))=true=>(pc hg pn)) (pc (fun hq:(!(!rcontradictor.1))=true=>(pc hq pn)) pn)) ?_
   refine rnC 0 99 h (fun hq6 h=>?_) (fun hq6 h=>?_)
   ·refine rnR hE 1 [] [] (kp [2]) [] 322 pn ?_
    obtain rfl:=osI h
    exact rnT hE 0 Tryz.f4 [] (kp [2]) [] 322 pn [] pn
   ·refine rnR hE 3 [] [] (kp [1,5,9]) (kq [0,1]) 322 pn ?_
    exact rnW hE 2 [] (kp [1,5,9]) (kq [0,1]) 2 pn (g_w01_ExactIrreducible_L2_ok N _ _ N _ _ h E hE)
theorem g_w01_ExactIrreducible_ok (N:Nat) (p:Tw01_Problem) (r:Bool) (h:g_w01_ExactIrreducible N p=some r):Sd 4 [(.agg (Tw01_Problem.cells p))] [] 0 (aB r) []:=by
 unfold g_w01_ExactIrreducible at h
 refine sor (fu:=Tryz.f4) (c:=C_0 1) (nt:=121) (by kernel_rfl) (by kernel_rfl) (by kernel_rfl) (by kernel_rfl) (fun hm=>rfl) ?_
 intro E hE
 refine rnR hE 1 [] [] (kp [1]) (kq [0]) 32 pn ?_
 obtain ⟨rmodest,hr,h⟩:=bsm h
 obtain ⟨rCheckRows,hr2,h⟩:=bsm h
 refine rnR hE 2 [(1,⟨[],true,(aB rmodest),[],0,false,none⟩),(8,⟨[],true,(aI rCheckRows),[],0,false,none⟩)] [] (kp [1,22]) (kq [0]) 208 (pc o1 (pc (g_w01_Problem_modest_ok N p rmodest hr) (pc (fun hg:(!(!rmodest))=true=>(pc hg (pc o1 pn))) (pc (fun hg:(!(!rmodest))=true=>(pc hg (pc o1 pn))) (pc (fun hg:(!(!rmodest))=true=>(pc (g_r01_CheckRows_ok N p.f_N p.f_L rCheckRows (condT hr2 hg)) (pc hg (pc hg pn)))) (pc (fun hg:(!(!rmodest))=true=>(pc hg pn)) (pc (fun hq:(!(!rmodest))=true=>(pc hq pn)) pn))))))) ?_
 refine rnC 0 22 h (fun hq2 h=>?_) (fun hq2 h=>?_)
 ·obtain ⟨rawake,hr3,h⟩:=bsm h
  refine rnR hE 1 [(0,⟨[],true,(aB rawake),[],0,false,none⟩)] [] (kp [2]) [] 240 (pc (g_w01_awake_ok N rawake hr3) pn) ?_
  obtain rfl:=osI h
  exact rnT hE 0 Tryz.f4 [] (kp [2]) [] 240 pn [] pn
 ·obtain ⟨rCore,hr4,h⟩:=bsm h
  refine rnR hE 2 [(4,⟨[],true,(.tup [(encL cI 0 rCore.1),(aI rCore.2)]),[],0,false,none⟩)] [] (kp [1,3,4]) (kq [0]) 368 (pc o1 (pc o1 (pc (g_e_Core_ok N p.f_N p.f_L rCore hr4) pn))) ?_
  refine rnR hE 2 [] [] (kp [1,3,4,33]) (kq [0]) 400 pn ?_
  refine rnC 0 33 h (fun hq3 h=>?_) (fun hq3 h=>?_)
  ·obtain ⟨rawake2,hr5,h⟩:=bsm h
   refine rnR hE 1 [(3,⟨[],true,(aB rawake2),[],0,false,none⟩)] [] (kp [2]) [] 496 (pc (fun hg:(rCore.2 == 29)=true=>(pc (g_w01_awake_ok N rawake2 (condT hr5 hg)) pn)) (pc (fun hq:(rCore.2 == 29)=true=>(pc hq pn)) pn)) ?_
   obtain rfl:=osI h
   exact rnT hE 0 Tryz.f4 [] (kp [2]) [] 496 pn [] pn
  ·refine rnR hE 2 [] [] (kp [1,3,5]) (kq [0]) 416 pn ?_
   refine rnR hE 2 [] [] (kp [1,3,5,6]) (kq [0]) 432 pn ?_
   exact rnW hE 2 [] (kp [1,3] ++ [(5,.nilos 1)] ++ kp [6]) (kq [0] ++ [(1,.nil 5 (fun zi=>TWc (([]:List TRow).getD zi TRow.d)))]) 2 pn (g_w01_ExactIrreducible_L1_ok N _ _ N _ _ _ h E hE)
end Go.Den
