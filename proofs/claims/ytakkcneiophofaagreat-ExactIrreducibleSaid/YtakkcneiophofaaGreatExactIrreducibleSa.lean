/- Each function of the program does what its Lean function computes (part 1). No conditions. -/
import Derived.Test.YtakkcneiophofaaGreatExactIrreducibleDen
import Derived.Test.YtakkcneiophofaaGreatProg
set_option linter.unusedVariables false
set_option maxRecDepth 100000
namespace Go.Den
open Go.Ab Go.Proofs Go.Ab.Runs
abbrev Sd:=Sound Tryz.prog
abbrev eU (a:List Int):AV:=encL (cU .u16) 0 a
abbrev aU (a:List Int):Ob:=aO 1 (cU .u16) 0 a
abbrev a64 (x:Int):AV:=.atom (.int .u64 x)
abbrev a32 (x:Int):AV:=.atom (.int .u32 x)
abbrev a16 (x:Int):AV:=.atom (.int .u16 x)
theorem osI {α:Type} {a b:α} (h:some a=some b):a=b:=Option.some.inj h
noncomputable def C_2 (n:Nat):Code:=cat (bodyOf Tryz.f8) (pth n)
def g_r01_CheckRows_L1_H (N:Nat) (n:Int) (l:List TRow) (K:Int→Option (Int)):Prop:=∀ (i:Int) (r:Int),K i=some r→∀ E,EnvOk E 0→Runs Tryz.prog E 8 29 (SPost E [] (aI r)) [.code (C_2 244),.inLoop (C_2 244),.inBlock 0,.code (C_2 31)] ⟨[(0,(aI n)),(1,(encL TWc TRow.d l)),(5,(aI i))],[],0⟩
theorem g_r01_CheckRows_L1_ok (N:Nat) (n:Int) (l:List TRow) (fuel:Nat):g_r01_CheckRows_L1_H N n l (g_r01_CheckRows_L1 N n l fuel):=by
 induction fuel with
 | zero=>intro _ r h;rw [g_r01_CheckRows_L1.eq_1] at h;cases h
 | succ fuel ih =>
  intro i r h E hE
  rw [g_r01_CheckRows_L1.eq_2] at h
  refine rnR hE 2 [] [] (kp [0,1,5,18]) [] 64 pn ?_
  refine rnC 0 18 h (fun hq4 h=>?_) (fun hq4 h=>?_)
  ·obtain ⟨c,h⟩:=ifSome h
   refine rnR hE 4 [] [] (kp [0,1,5,28]) [] 192 (pc c pn) ?_
   refine rnC 0 28 h (fun hq5 h=>?_) (fun hq5 h=>?_)
   ·refine rnR hE 1 [] [] (kp [4]) [] 208 pn ?_
    obtain rfl:=osI h
    exact rnT hE 0 Tryz.f8 [] (kp [4]) [] 208 pn [] pn
   ·refine rnR hE 2 [] [] (kp [0,1,5]) [] 240 pn ?_
    exact rnW hE 1 [] (kp [0,1,5]) [] 0 pn (ih _ _ h E hE)
  ·refine rnR hE 2 [] [] (kp [4]) [] 80 pn ?_
   obtain rfl:=osI h
   exact rnT hE 0 Tryz.f8 [] (kp [4]) [] 80 pn [] pn
theorem g_r01_CheckRows_ok (N:Nat) (n:Int) (l:List TRow) (r:Int) (h:g_r01_CheckRows N n l=some r):Sd 8 [(aI n),(encL TWc TRow.d l)] [] 0 (aI r) []:=by
 unfold g_r01_CheckRows at h
 refine sor (fu:=Tryz.f8) (c:=C_2 1) (nt:=29) (by kernel_rfl) (by kernel_rfl) (by kernel_rfl) (by kernel_rfl) (fun hm=>rfl) ?_
 intro E hE
 refine rnR hE 1 [] [] (kp [0,1]) [] 16 pn ?_
 refine rnR hE 2 [] [] (kp [0,1,11]) [] 112 (pc (fun hg:(!(decide (n < 0)))=true=>(pc hg pn)) (pc (fun hq:(!(decide (n < 0)))=true=>(pc hq pn)) pn)) ?_
 refine rnC 0 11 h (fun hq2 h=>?_) (fun hq2 h=>?_)
 ·refine rnR hE 1 [] [] (kp [4]) [] 128 pn ?_
  obtain rfl:=osI h
  exact rnT hE 0 Tryz.f8 [] (kp [4]) [] 128 pn [] pn
 ·refine rnR hE 3 [] [] (kp [0,1,14]) [] 160 pn ?_
  refine rnC 0 14 h (fun hq3 h=>?_) (fun hq3 h=>?_)
  ·refine rnR hE 1 [] [] (kp [4]) [] 176 pn ?_
   obtain rfl:=osI h
   exact rnT hE 0 Tryz.f8 [] (kp [4]) [] 176 pn [] pn
  ·refine rnR hE 3 [] [] (kp [0,1,5]) [] 176 pn ?_
   exact rnW hE 2 [] (kp [0,1,5]) [] 0 pn (g_r01_CheckRows_L1_ok N _ _ N _ _ h E hE)
noncomputable def C_1 (n:Nat):Code:=cat (bodyOf Tryz.f5) (pth n)
def g_w01_Problem_modest_L1_H (N:Nat) (p:Tw01_Problem) (K:Int→Option (Bool)):Prop:=∀ (i:Int) (r:Bool),K i=some r→∀ E,EnvOk E 0→Runs Tryz.prog E 5 104 (SPost E [] (aB r)) [.code (C_1 116),.inLoop (C_1 116),.inBlock 0,.code (C_1 15)] ⟨[(1,(.op 0 0 0)),(3,(aI i))],[(0,vO 2 (Tw01_Problem.cells p))],1⟩
def g_w01_Problem_modest_L2_H (N:Nat) (p:Tw01_Problem) (i:Int) (K:Int→Option (Bool)):Prop:=∀ (j:Int) (r:Bool),K j=some r→∀ E,EnvOk E 0→Runs Tryz.prog E 5 104 (SPost E [] (aB r)) [.code (C_1 14924),.inLoop (C_1 14924),.inBlock 2,.inBlock 1,.code (C_1 467),.inLoop (C_1 116),.inBlock 0,.code (C_1 15)] ⟨[(1,(.op 0 0 0)),(3,(aI i)),(4,(aI j))],[(0,vO 2 (Tw01_Problem.cells p))],1⟩
theorem g_w01_Problem_modest_L2_ok (N:Nat) (p:Tw01_Problem) (i:Int) (K_g_w01_Problem_modest_L1:Int→Option (Bool)) (hK_g_w01_Problem_modest_L1:g_w01_Problem_modest_L1_H N p K_g_w01_Problem_modest_L1) (fuel:Nat):g_w01_Problem_modest_L2_H N p i (g_w01_Problem_modest_L2 N p i K_g_w01_Problem_modest_L1 fuel):=by
 induction fuel with
 | zero=>intro _ r h;rw [g_w01_Problem_modest_L2.eq_1] at h;cases h
 | succ fuel ih =>
  intro j r h E hE
  rw [g_w01_Problem_modest_L2.eq_2] at h
  obtain ⟨c4,h⟩:=ifSome h
  refine rnR hE 2 [] [] (kp [1,3,4,56]) (kq [0]) 145 (pc o1 (pc c4 pn)) ?_
  refine rnC 0 56 h (fun hq5 h=>?_) (fun hq5 h=>?_)
  ·obtain ⟨c5,h⟩:=ifSome h
   obtain ⟨c6,h⟩:=ifSome h
   obtain ⟨c7,h⟩:=ifSome h
   refine rnR hE 4 [] [] (kp [1,3,4,86]) (kq [0]) 593 (pc o1 (pc c4 (pc c5 (pc (fun hg:(!(decide ((((((((p.f_L.getD ((i).toNat) TRow.d).f_Coefs).getD ((j).toNat) TRat.d).fN).fL).length:Nat):Int) > 2)))=true=>(pc hg (pc o1 pn))) (pc (fun hg:(!(decide ((((((((p.f_L.getD ((i).toNat) TRow.d).f_Coefs).getD ((j).toNat) TRat.d).fN).fL).length:Nat):Int) > 2)))=true=>(pc hg (pc hg (pc (c6 hg) pn)))) (pc (fun hg:(!(decide ((((((((p.f_L.getD ((i).toNat) TRow.d).f_Coefs).getD ((j).toNat) TRat.d).fN).fL).length:Nat):Int) > 2)))=true=>(pc hg pn)) (pc (fun hg:(!(decide ((((((((p.f_L.getD ((i).toNat) TRow.d).f_Coefs).getD ((j).toNat) TRat.d).fN).fL).length:Nat):Int) > 2)))=true=>(pc hg pn)) (pc (fun hg:(!(decide ((((((((p.f_L.getD ((i).toNat) TRow.d).f_Coefs).getD ((j).toNat) TRat.d).fN).fL).length:Nat):Int) > 2)))=true=>(pc hg (pc hg (pc (c7 hg) pn)))) (pc (fun hg:(!(decide ((((((((p.f_L.getD ((i).toNat) TRow.d).f_Coefs).getD ((j).toNat) TRat.d).fN).fL).length:Nat):Int) > 2)))=true=>(pc hg pn)) (pc (fun hg:(!(decide ((((((((p.f_L.getD ((i).toNat) TRow.d).f_Coefs).getD ((j).toNat) TRat.d).fN).fL).length:Nat):Int) > 2)))=true=>(pc hg pn)) (pc (fun hg:(!(decide ((((((((p.f_L.getD ((i).toNat) TRow.d).f_Coefs).getD ((j).toNat) TRat.d).fN).fL).length:Nat):Int) > 2)))=true=>(pc hg pn)) (pc (fun hg:(!(decide ((((((((p.f_L.getD ((i).toNat) TRow.d).f_Coefs).getD ((j).toNat) TRat.d).fN).fL).length:Nat):Int) > 2)))=true=>(pc hg pn)) (pc (fun hg:(!(decide ((((((((p.f_L.getD ((i).toNat) TRow.d).f_Coefs).getD ((j).toNat) TRat.d).fN).fL).length:Nat):Int) > 2)))=true=>(pc hg pn)) (pc (fun hq:(!(decide ((((((((p.f_L.getD ((i).toNat) TRow.d).f_Coefs).getD ((j).toNat) TRat.d).fN).fL).length:Nat):Int) > 2)))=true=>(pc hq pn)) pn)))))))))))))) ?_
   refine rnC 0 86 h (fun hq6 h=>?_) (fun hq6 h=>?_)
   ·refine rnR hE 1 [] [] (kp [2]) [] 609 pn ?_
    obtain rfl:=osI h
    exact rnT hE 0 Tryz.f5 [] (kp [2]) [] 609 pn [] pn
   ·refine rnR hE 2 [] [] (kp [1,3,4]) (kq [0]) 641 pn ?_
    exact rnW hE 1 [] (kp [1,3,4]) (kq [0]) 1 pn (ih _ _ h E hE)
  ·refine rnR hE 2 [] [] (kp [1,3]) (kq [0]) 193 pn ?_
   exact rnW hE 1 [] (kp [1,3]) (kq [0]) 1 pn (hK_g_w01_Problem_modest_L1 _ _ h E hE)
theorem g_w01_Problem_modest_L1_ok (N:Nat) (p:Tw01_Problem) (fuel:Nat):g_w01_Problem_modest_L1_H N p (g_w01_Problem_modest_L1 N p fuel):=by
 induction fuel with
 | zero=>intro _ r h;rw [g_w01_Problem_modest_L1.eq_1] at h;cases h
 | succ fuel ih =>
  intro i r h E hE
  rw [g_w01_Problem_modest_L1.eq_2] at h
  refine rnR hE 2 [] [] (kp [1,3,13]) (kq [0]) 81 (pc o1 pn) ?_
  refine rnC 0 13 h (fun hq3 h=>?_) (fun hq3 h=>?_)
  ·obtain ⟨c,h⟩:=ifSome h
   obtain ⟨c2,h⟩:=ifSome h
   obtain ⟨c3,h⟩:=ifSome h
   refine rnR hE 5 [] [] (kp [1,3,47]) (kq [0]) 593 (pc o1 (pc c (pc (fun hg:(!(decide (((((((p.f_L.getD ((i).toNat) TRow.d).f_Bound).fN).fL).length:Nat):Int) > 2)))=true=>(pc hg (pc o1 pn))) (pc (fun hg:(!(decide (((((((p.f_L.getD ((i).toNat) TRow.d).f_Bound).fN).fL).length:Nat):Int) > 2)))=true=>(pc hg (pc hg (pc (c2 hg) pn)))) (pc (fun hg:(!(decide (((((((p.f_L.getD ((i).toNat) TRow.d).f_Bound).fN).fL).length:Nat):Int) > 2)))=true=>(pc hg pn)) (pc (fun hg:(!(decide (((((((p.f_L.getD ((i).toNat) TRow.d).f_Bound).fN).fL).length:Nat):Int) > 2)))=true=>(pc hg pn)) (pc (fun hg:(!(decide (((((((p.f_L.getD ((i).toNat) TRow.d).f_Bound).fN).fL).length:Nat):Int) > 2)))=true=>(pc hg pn)) (pc (fun hg:(!(decide (((((((p.f_L.getD ((i).toNat) TRow.d).f_Bound).fN).fL).length:Nat):Int) > 2)))=true=>(pc hg pn)) (pc (fun hg:(!(decide (((((((p.f_L.getD ((i).toNat) TRow.d).f_Bound).fN).fL).length:Nat):Int) > 2)))=true=>(pc hg pn)) (pc (fun hg:(!(decide (((((((p.f_L.getD ((i).toNat) TRow.d).f_Bound).fN).fL).length:Nat):Int) > 2)))=true=>(pc hg pn)) (pc (fun hq:(!(decide (((((((p.f_L.getD ((i).toNat) TRow.d).f_Bound).fN).fL).length:Nat):Int) > 2)))=true=>(pc hq pn)) (pc (fun hg:(!(cond (decide (((((((p.f_L.getD ((i).toNat) TRow.d).f_Bound).fN).fL).length:Nat):Int) > 2)) true (decide (((((((p.f_L.getD ((i).toNat) TRow.d).f_Bound).fD).fL).length:Nat):Int) > 2))))=true=>(pc hg (pc o1 pn))) (pc (fun hg:(!(cond (decide (((((((p.f_L.getD ((i).toNat) TRow.d).f_Bound).fN).fL).length:Nat):Int) > 2)) true (decide (((((((p.f_L.getD ((i).toNat) TRow.d).f_Bound).fD).fL).length:Nat):Int) > 2))))=true=>(pc hg (pc hg (pc (c3 hg) pn)))) (pc (fun hg:(!(cond (decide (((((((p.f_L.getD ((i).toNat) TRow.d).f_Bound).fN).fL).length:Nat):Int) > 2)) true (decide (((((((p.f_L.getD ((i).toNat) TRow.d).f_Bound).fD).fL).length:Nat):Int) > 2))))=true=>(pc hg pn)) (pc (fun hg:(!(cond (decide (((((((p.f_L.getD ((i).toNat) TRow.d).f_Bound).fN).fL).length:Nat):Int) > 2)) true (decide (((((((p.f_L.getD ((i).toNat) TRow.d).f_Bound).fD).fL).length:Nat):Int) > 2))))=true=>(pc hg pn)) (pc (fun hg:(!(cond (decide (((((((p.f_L.getD ((i).toNat) TRow.d).f_Bound).fN).fL).length:Nat):Int) > 2)) true (decide (((((((p.f_L.getD ((i).toNat) TRow.d).f_Bound).fD).fL).length:Nat):Int) > 2))))=true=>(pc hg pn)) (pc (fun hg:(!(cond (decide (((((((p.f_L.getD ((i).toNat) TRow.d).f_Bound).fN).fL).length:Nat):Int) > 2)) true (decide (((((((p.f_L.getD ((i).toNat) TRow.d).f_Bound).fD).fL).length:Nat):Int) > 2))))=true=>(pc hg pn)) (pc (fun hq:(!(cond (decide (((((((p.f_L.getD ((i).toNat) TRow.d).f_Bound).fN).fL).length:Nat):Int) > 2)) true (decide (((((((p.f_L.getD ((i).toNat) TRow.d).f_Bound).fD).fL).length:Nat):Int) > 2))))=true=>(pc hq pn)) pn)))))))))))))))))) ?_
   refine rnC 0 47 h (fun hq4 h=>?_) (fun hq4 h=>?_)
   ·refine rnR hE 1 [] [] (kp [2]) [] 609 pn ?_
    obtain rfl:=osI h
    exact rnT hE 0 Tryz.f5 [] (kp [2]) [] 609 pn [] pn
   ·refine rnR hE 2 [] [] (kp [1,3,4]) (kq [0]) 609 pn ?_
    exact rnW hE 2 [] (kp [1,3,4]) (kq [0]) 1 pn (g_w01_Problem_modest_L2_ok N _ _ _ ih N _ _ h E hE)
  ·obtain ⟨rCheckRows,hr,h⟩:=bsm h
   refine rnR hE 2 [(4,⟨[],true,(aI rCheckRows),[],0,false,none⟩)] [] (kp [2]) [] 369 (pc o1 (pc o1 (pc (g_r01_CheckRows_ok N p.f_N p.f_L rCheckRows hr) (pc (fun hg:(!(rCheckRows != 0))=true=>(pc hg (pc o1 pn))) (pc (fun hg:(!(rCheckRows != 0))=true=>(pc hg pn)) (pc (fun hg:((!(rCheckRows != 0)) && ((!(rCheckRows != 0)) && (decide (p.f_N≤4))))=true=>(pc hg (pc o1 pn))) (pc (fun hg:((!(rCheckRows != 0)) && ((!(rCheckRows != 0)) && (decide (p.f_N≤4))))=true=>(pc hg pn)) (pc (fun hg:((!(rCheckRows != 0)) && ((!(rCheckRows != 0)) && (decide (p.f_N≤4))))=true=>(pc hg pn)) (pc (fun hg:(!(rCheckRows != 0))=true=>(pc hg (pc hg (pc (fun hq:(decide (p.f_N≤4))=true=>(pc (show ((!(rCheckRows != 0)) && ((!(rCheckRows != 0)) && (decide (p.f_N≤4))))=true from (andI' hg (andI' hg hq))) pn)) pn)))) (pc (fun hq:(!(rCheckRows != 0))=true=>(pc hq pn)) pn)))))))))) ?_
   obtain rfl:=osI h
   exact rnT hE 0 Tryz.f5 [] (kp [2]) [] 369 pn [] pn
theorem g_w01_Problem_modest_ok (N:Nat) (p:Tw01_Problem) (r:Bool) (h:g_w01_Problem_modest N p=some r):Sd 5 [(.agg (Tw01_Problem.cells p))] [] 0 (aB r) []:=by
 unfold g_w01_Problem_modest at h
 refine sor (fu:=Tryz.f5) (c:=C_1 1) (nt:=104) (by kernel_rfl) (by kernel_rfl) (by kernel_rfl) (by kernel_rfl) (fun hm=>rfl) ?_
 intro E hE
 refine rnR hE 1 [] [] (kp [1]) (kq [0]) 32 pn ?_
 refine rnR hE 2 [] [] (kp [1,8]) (kq [0]) 96 (pc o1 pn) ?_
 refine rnC 0 8 h (fun hq2 h=>?_) (fun hq2 h=>?_)
 ·refine rnR hE 1 [] [] (kp [2]) [] 112 pn ?_
  obtain rfl:=osI h
  exact rnT hE 0 Tryz.f5 [] (kp [2]) [] 112 pn [] pn
 ·refine rnR hE 3 [] [] (kp [1,3]) (kq [0]) 112 pn ?_
  exact rnW hE 2 [] (kp [1,3]) (kq [0]) 1 pn (g_w01_Problem_modest_L1_ok N _ N _ _ h E hE)
noncomputable def C_5 (n:Nat):Code:=cat (bodyOf Tryz.f34) (pth n)
def g_b_limbs_L1_H (N:Nat) (K:Int→(List Int)→Option ((List Int))):Prop:=∀ (n2:Int) (out:List Int) (r:(List Int)),K n2 out=some r→∀ E,EnvOk E 0→Runs Tryz.prog E 34 15 (SPost E [] (eU r)) [.code (C_5 56),.inLoop (C_5 56),.inBlock 0,.code (C_5 15)] ⟨[(0,(a64 n2)),(3,(.os 0 0 out.length))],[(0,aU out)],1⟩
theorem g_b_limbs_L1_ok (N:Nat) (fuel:Nat):g_b_limbs_L1_H N (g_b_limbs_L1 N fuel):=by
 induction fuel with
 | zero=>intro _ _ r h;rw [g_b_limbs_L1.eq_1] at h;cases h
 | succ fuel ih =>
  intro n2 out r h E hE
  rw [g_b_limbs_L1.eq_2] at h
  refine rnR hE 2 [] [] (kp [0,3,5]) (kq [0]) 33 pn ?_
  refine rnC 0 5 h (fun hq2 h=>?_) (fun hq2 h=>?_)
  ·obtain ⟨c,h⟩:=ifSome h
   refine rnR hE 3 [] [] (kp [0] ++ [(3,.osl ((out ++ ([(IntKind.u16.wrap ((andI .u64 n2 65535)))]:List Int)).length))]) [(113,.arr 113 ((out ++ ([(IntKind.u16.wrap ((andI .u64 n2 65535)))]:List Int)).length) (fun zi=>(cU .u16) ((out ++ ([(IntKind.u16.wrap ((andI .u64 n2 65535)))]:List Int)).getD zi 0)))] 145 (pc (Eq.refl out.length) (pc c (pc (z1 1) (pc (show ∀ zi,zi < 1→AV.oneL ((fun zi=>([[(a16 (IntKind.u16.wrap ((andI .u64 n2 65535))))]]:List (List AV)).getD zi []) (addz 0 zi))=true from (oneN rfl)) (pc (show (out.length+1)=(out ++ ([(IntKind.u16.wrap ((andI .u64 n2 65535)))]:List Int)).length from (len_app_raw rfl rfl)) (pc (show out.length+1=(out ++ ([(IntKind.u16.wrap ((andI .u64 n2 65535)))]:List Int)).length from (len_app_raw rfl rfl)) (pc (show ∀ zi,zi < (out ++ ([(IntKind.u16.wrap ((andI .u64 n2 65535)))]:List Int)).length→(fun zi=>(cU .u16) ((out ++ ([(IntKind.u16.wrap ((andI .u64 n2 65535)))]:List Int)).getD zi 0)) zi=((fun zm=>if zm < out.length then (fun zi=>(cU .u16) (out.getD zi 0)) zm else (fun zi=>([[(a16 (IntKind.u16.wrap ((andI .u64 n2 65535))))]]:List (List AV)).getD zi []) (zm - out.length))) zi from (get_app_raw (cU .u16) 0 out ([(IntKind.u16.wrap ((andI .u64 n2 65535)))]:List Int) rfl (fun _ _=>rfl) (fun zq hzq=>get_chunk (cU .u16) 0 ([(IntKind.u16.wrap ((andI .u64 n2 65535)))]:List Int) zq hzq))) pn))))))) ?_
   refine rnR hE 1 [] [] (kp [0,3]) (kq [113]) 193 (pc (show (0:Int)≤16 by decide) pn) ?_
   exact rnW hE 1 [] (kp [0,3]) [(0,.keep 113)] 1 pn (ih _ _ _ h E hE)
  ·refine rnR hE 2 [] [] (kp [2]) (kq [0]) 65 pn ?_
   obtain rfl:=osI h
   exact rnT hE 0 Tryz.f34 [0] [(2,.sl (out.length) (fun zi=>(cU .u16) (out.getD zi 0)))] [] 65 (pc (Eq.refl out.length) (pc (z1 out.length) (pc (show ∀ zi,zi < out.length→(fun zi=>(cU .u16) (out.getD zi 0)) zi=(fun zi=>(cU .u16) (out.getD zi 0)) (addz 0 zi) from (fun _ _=>rfl)) pn))) [] pn
theorem g_b_limbs_ok (N:Nat) (n:Int) (r:(List Int)) (h:g_b_limbs N n=some r):Sd 34 [(a64 n)] [] 0 (eU r) []:=by
 unfold g_b_limbs at h
 refine sor (fu:=Tryz.f34) (c:=C_5 1) (nt:=15) (by kernel_rfl) (by kernel_rfl) (by kernel_rfl) (by kernel_rfl) (fun hm=>rfl) ?_
 intro E hE
 refine rnR hE 1 [] [] (kp [0]) [] 16 pn ?_
 refine rnR hE 1 [] [] (kp [0,3]) [] 32 pn ?_
 exact rnW hE 3 [] (kp [0] ++ [(3,.nilos 0)]) [(0,.nil 1 (fun zi=>(cU .u16) (([]:List Int).getD zi 0)))] 1 pn (g_b_limbs_L1_ok N N _ _ _ h E hE)
noncomputable def C_4 (n:Nat):Code:=cat (bodyOf Tryz.f13) (pth n)
theorem g_b_Z_ok (N:Nat) (n:Int) (r:TInt) (h:g_b_Z N n=some r):Sd 13 [(aI n)] [] 0 (.agg (TIc r)) []:=by
 unfold g_b_Z at h
 refine sor (fu:=Tryz.f13) (c:=C_4 1) (nt:=16) (by kernel_rfl) (by kernel_rfl) (by kernel_rfl) (by kernel_rfl) (fun hm=>rfl) ?_
 intro E hE
 refine rnR hE 1 [] [] (kp [0,2]) (kq [0]) 16 pn ?_
 refine rnR hE 2 [] [] (kp [0,2,4]) (kq [0]) 48 pn ?_
 refine rnC 0 4 h (fun hq2 h=>?_) (fun hq2 h=>?_)
 ·obtain ⟨rlimbs,hr,h⟩:=bsm h
  refine rnR hE 1 [(5,⟨[],true,(eU rlimbs),[],0,false,none⟩)] [] (kp [2]) (kq [0]) 176 (pc (g_b_limbs_ok N (IntKind.u64.wrap ((IntKind.u64.wrap ((w64 (0 - (w64 (n+1))))))+1)) rlimbs hr) (pc o1 pn)) ?_
  obtain rfl:=osI h
  exact rnT hE 0 Tryz.f13 [] (kp [2]) [(16,.keep 0)] 176 pn [16] (pc o1 pn)
 ·obtain ⟨rlimbs2,hr2,h⟩:=bsm h
  refine rnR hE 2 [(2,⟨[],true,(eU rlimbs2),[],0,false,none⟩)] [] (kp [2]) (kq [0]) 128 (pc (g_b_limbs_ok N (IntKind.u64.wrap (n)) rlimbs2 hr2) (pc o1 pn)) ?_
  obtain rfl:=osI h
  exact rnT hE 0 Tryz.f13 [] (kp [2]) [(16,.keep 0)] 128 pn [16] (pc o1 pn)
noncomputable def C_7 (n:Nat):Code:=cat (bodyOf Tryz.f29) (pth n)
def g_e_trim_L1_H (N:Nat) (K:(List Int)→Option ((List Int))):Prop:=∀ (n2:List Int) (r:(List Int)),K n2=some r→∀ E,EnvOk E 0→Runs Tryz.prog E 29 21 (SPost E [] (eU r)) [.code (C_7 24),.inLoop (C_7 24),.inBlock 0,.code (C_7 7)] ⟨[(0,(eU n2))],[],0⟩
theorem g_e_trim_L1_ok (N:Nat) (fuel:Nat):g_e_trim_L1_H N (g_e_trim_L1 N fuel):=by
 induction fuel with
 | zero=>intro _ r h;rw [g_e_trim_L1.eq_1] at h;cases h
 | succ fuel ih =>
  intro n2 r h E hE
  rw [g_e_trim_L1.eq_2] at h
  obtain ⟨c,h⟩:=ifSome h
  refine rnR hE 2 [] [] (kp [0,14]) [] 192 (pc (fun hg:(decide (((n2.length:Nat):Int) > 0))=true=>(pc hg pn)) (pc (fun hg:(decide (((n2.length:Nat):Int) > 0))=true=>(pc hg pn)) (pc (fun hg:(decide (((n2.length:Nat):Int) > 0))=true=>(pc hg (pc hg (pc (c hg) pn)))) (pc (fun hg:(decide (((n2.length:Nat):Int) > 0))=true=>(pc hg pn)) (pc (fun hg:(decide (((n2.length:Nat):Int) > 0))=true=>(pc hg pn)) (pc (fun hq:(decide (((n2.length:Nat):Int) > 0))=true=>(pc hq pn)) pn)))))) ?_
  refine rnC 0 14 h (fun hq2 h=>?_) (fun hq2 h=>?_)
  ·obtain ⟨c2,h⟩:=ifSome h
   obtain ⟨c3,h⟩:=ifSome h
   refine rnR hE 2 [] [] [(0,.sl (((n2.take ((w64 (((n2.length:Nat):Int) - 1)).toNat)).drop 0).length) (fun zi=>(cU .u16) (((n2.take ((w64 (((n2.length:Nat):Int) - 1)).toNat)).drop 0).getD zi 0)))] [] 288 (pc c2 (pc c3 (pc (show (w64 (((n2.length:Nat):Int) - 1)).toNat - 0=((n2.take ((w64 (((n2.length:Nat):Int) - 1)).toNat)).drop 0).length from (len_ext' n2 0 ((w64 (((n2.length:Nat):Int) - 1)).toNat) c2)) (pc (show ∀ zi,zi < ((n2.take ((w64 (((n2.length:Nat):Int) - 1)).toNat)).drop 0).length→(fun zi=>(cU .u16) (((n2.take ((w64 (((n2.length:Nat):Int) - 1)).toNat)).drop 0).getD zi 0)) zi=(fun zi=>(cU .u16) (n2.getD (addz 0 zi) 0)) zi from (fun zq hzq=>get_ext (cU .u16) 0 n2 0 ((w64 (((n2.length:Nat):Int) - 1)).toNat) zq hzq)) pn)))) ?_
   exact rnW hE 2 [] (kp [0]) [] 0 pn (ih _ _ h E hE)
  ·refine rnR hE 2 [] [] (kp [2]) [] 224 pn ?_
   obtain rfl:=osI h
   exact rnT hE 0 Tryz.f29 [] (kp [2]) [] 224 pn [] pn
theorem g_e_trim_ok (N:Nat) (n:List Int) (r:(List Int)) (h:g_e_trim N n=some r):Sd 29 [(eU n)] [] 0 (eU r) []:=by
 unfold g_e_trim at h
 refine sor (fu:=Tryz.f29) (c:=C_7 1) (nt:=21) (by kernel_rfl) (by kernel_rfl) (by kernel_rfl) (by kernel_rfl) (fun hm=>rfl) ?_
 intro E hE
 refine rnR hE 1 [] [] (kp [0]) [] 16 pn ?_
 exact rnW hE 3 [] (kp [0]) [] 0 pn (g_e_trim_L1_ok N N _ _ h E hE)
noncomputable def C_9 (n:Nat):Code:=cat (bodyOf Tryz.f55) (pth n)
def g_e_compare_L1_H (N:Nat) (a:List Int) (b:List Int) (K:Int→Option (Int)):Prop:=∀ (i:Int) (r:Int),K i=some r→∀ E,EnvOk E 0→Runs Tryz.prog E 55 43 (SPost E [] (aI r)) [.code (C_9 116),.inLoop (C_9 116),.inBlock 0,.code (C_9 15)] ⟨[(0,(eU a)),(1,(eU b)),(5,(aI i))],[],0⟩
theorem g_e_compare_L1_ok (N:Nat) (a:List Int) (b:List Int) (fuel:Nat):g_e_compare_L1_H N a b (g_e_compare_L1 N a b fuel):=by
 induction fuel with
 | zero=>intro _ r h;rw [g_e_compare_L1.eq_1] at h;cases h
 | succ fuel ih =>
  intro i r h E hE
  rw [g_e_compare_L1.eq_2] at h
  refine rnR hE 2 [] [] (kp [0,1,5,20]) [] 32 pn ?_
  refine rnC 0 20 h (fun hq3 h=>?_) (fun hq3 h=>?_)
  ·obtain ⟨c,h⟩:=ifSome h
   obtain ⟨c2,h⟩:=ifSome h
   refine rnR hE 4 [] [] (kp [0,1,5,31]) [] 176 (pc c (pc c2 pn)) ?_
   refine rnC 0 31 h (fun hq4 h=>?_) (fun hq4 h=>?_)
   ·refine rnR hE 1 [] [] (kp [4]) [] 368 (pc c (pc c2 pn)) ?_
    obtain rfl:=osI h
    exact rnT hE 0 Tryz.f55 [] (kp [4]) [] 368 pn [] pn
   ·refine rnR hE 2 [] [] (kp [0,1,5]) [] 224 pn ?_
    exact rnW hE 1 [] (kp [0,1,5]) [] 0 pn (ih _ _ h E hE)
  ·refine rnR hE 2 [] [] (kp [4]) [] 48 pn ?_
   obtain rfl:=osI h
   exact rnT hE 0 Tryz.f55 [] (kp [4]) [] 48 pn [] pn
theorem g_e_compare_ok (N:Nat) (a:List Int) (b:List Int) (r:Int) (h:g_e_compare N a b=some r):Sd 55 [(eU a),(eU b)] [] 0 (aI r) []:=by
 unfold g_e_compare at h
 refine sor (fu:=Tryz.f55) (c:=C_9 1) (nt:=43) (by kernel_rfl) (by kernel_rfl) (by kernel_rfl) (by kernel_rfl) (fun hm=>rfl) ?_
 intro E hE
 refine rnR hE 1 [] [] (kp [0,1]) [] 16 pn ?_
 refine rnR hE 2 [] [] (kp [0,1,10]) [] 96 pn ?_
 refine rnC 0 10 h (fun hq2 h=>?_) (fun hq2 h=>?_)
 ·refine rnR hE 1 [] [] (kp [4]) [] 192 pn ?_
  obtain rfl:=osI h
  exact rnT hE 0 Tryz.f55 [] (kp [4]) [] 192 pn [] pn
 ·refine rnR hE 3 [] [] (kp [0,1,5]) [] 160 pn ?_
  exact rnW hE 2 [] (kp [0,1,5]) [] 0 pn (g_e_compare_L1_ok N _ _ N _ _ h E hE)
noncomputable def C_10 (n:Nat):Code:=cat (bodyOf Tryz.f56) (pth n)
theorem g_slices_Clone_uint16_uint16_ok (N:Nat) (s:List Int) (r:(List Int)) (h:g_slices_Clone_uint16_uint16 N s=some r):Sd 56 [(eU s)] [] 0 (eU r) []:=by
 unfold g_slices_Clone_uint16_uint16 at h
 refine sor (fu:=Tryz.f56) (c:=C_10 1) (nt:=8) (by kernel_rfl) (by kernel_rfl) (by kernel_rfl) (by kernel_rfl) (fun hm=>rfl) ?_
 intro E hE
 refine rnR hE 1 [] [] (kp [0]) [] 16 pn ?_
 refine rnR hE 2 [] [] (kp [0,4]) [] 48 pn ?_
 refine sA 0 [.code (C_10 13),.code (C_10 7)] ?_
 refine Runs.condBn (o:=.tmp 4) (x:=C_10 26) (y:=C_10 27) (n:=s.length) (by kernel_rfl) (by kernel_rfl) (fun hq2=>?_) ?_
 ·replace hq2:=List.length_eq_zero_iff.1 hq2
  replace h:(some ([]:List Int))=some r:=by rw [hq2] at h;simpa using h
  refine rnR hE 1 [] [] (kp [2]) [] 64 pn ?_
  obtain rfl:=osI h
  exact rnT hE 0 Tryz.f56 [] [(2,.sl (([]:List Int).length) (fun zi=>(cU .u16) (([]:List Int).getD zi 0)))] [] 64 (pc (Eq.refl 0) pn) [] pn
 ·obtain ⟨c,h⟩:=ifSome h
  refine rnR hE 2 [] [] [(2,.osl ((([]:List Int) ++ s).length))] [(80,.arr 80 ((([]:List Int) ++ s).length) (fun zi=>(cU .u16) ((([]:List Int) ++ s).getD zi 0)))] 112 (pc (Eq.refl 0) (pc c (pc (show ∀ zi,zi < s.length→AV.oneL ((fun zi=>(cU .u16) (s.getD zi 0)) zi)=true from (fun _ _=>rfl)) (pc (show (0+s.length)=(([]:List Int) ++ s).length from (len_app_raw rfl rfl)) (pc (show 0+s.length=(([]:List Int) ++ s).length from (len_app_raw rfl rfl)) (pc (show ∀ zi,zi < (([]:List Int) ++ s).length→(fun zi=>(cU .u16) ((([]:List Int) ++ s).getD zi 0)) zi=((fun zm=>if zm < 0 then (fun _=>[]) zm else (fun zi=>(cU .u16) (s.getD zi 0)) (zm - 0))) zi from (get_app_raw (cU .u16) 0 ([]:List Int) s rfl (fun zq hzq=>absurd hzq (Nat.not_lt_zero _)) (fun _ _=>rfl))) pn)))))) ?_
  obtain rfl:=osI h
  exact rnT hE 0 Tryz.f56 [80] [(2,.sl ((([]:List Int) ++ s).length) (fun zi=>(cU .u16) ((([]:List Int) ++ s).getD zi 0)))] [] 112 (pc (Eq.refl ((([]:List Int) ++ s).length)) (pc (z1 ((([]:List Int) ++ s).length)) (pc (show ∀ zi,zi < (([]:List Int) ++ s).length→(fun zi=>(cU .u16) ((([]:List Int) ++ s).getD zi 0)) zi=(fun zi=>(cU .u16) ((([]:List Int) ++ s).getD zi 0)) (addz 0 zi) from (fun _ _=>rfl)) pn))) [] pn
noncomputable def C_11 (n:Nat):Code:=cat (bodyOf Tryz.f57) (pth n)
def g_e_short_L1_H (N:Nat) (a:List Int) (b:Int) (K:(List Int)→Int→Int→Option ((List Int)×Int)):Prop:=∀ (q:List Int) (rest:Int) (i:Int) (r:(List Int)×Int),K q rest i=some r→∀ E,EnvOk E 0→Runs Tryz.prog E 57 43 (SPost E [] (.tup [(eU r.1),(a16 r.2)])) [.code (C_11 244),.inLoop (C_11 244),.inBlock 0,.code (C_11 31)] ⟨[(0,(eU a)),(1,(a16 b)),(6,(.os 0 0 q.length)),(7,(a32 rest)),(8,(aI i))],[(0,aU q)],1⟩
theorem g_e_short_L1_ok (N:Nat) (a:List Int) (b:Int) (fuel:Nat):g_e_short_L1_H N a b (g_e_short_L1 N a b fuel):=by
 induction fuel with
 | zero=>intro _ _ _ r h;rw [g_e_short_L1.eq_1] at h;cases h
 | succ fuel ih =>
  intro q rest i r h E hE
  rw [g_e_short_L1.eq_2] at h
  refine rnR hE 2 [] [] (kp [0,1,6,7,8,16]) (kq [0]) 33 pn ?_
  refine rnC 0 16 h (fun hq2 h=>?_) (fun hq2 h=>?_)
  ·obtain ⟨c2,h⟩:=ifSome h
   refine rnR hE 4 [] [] (kp [0,1,6,7,8]) (kq [0]) 177 (pc (show (0:Int)≤16 by decide) (pc c2 pn)) ?_
   obtain ⟨c3,h⟩:=ifSome h
   obtain ⟨c4,h⟩:=ifSome h
   refine rnR hE 1 [] [] (kp [0,1] ++ [(6,.osl ((q.set ((i).toNat) (IntKind.u16.wrap ((IntKind.u32.wrap ((orI .u32 (shlI .u32 rest 16) (IntKind.u32.wrap ((a.getD ((i).toNat) 0)))).tdiv (IntKind.u32.wrap (b))))))).length))] ++ kp [7,8]) [(0,.arr 0 ((q.set ((i).toNat) (IntKind.u16.wrap ((IntKind.u32.wrap ((orI .u32 (shlI .u32 rest 16) (IntKind.u32.wrap ((a.getD ((i).toNat) 0)))).tdiv (IntKind.u32.wrap (b))))))).length) (fun zi=>(cU .u16) ((q.set ((i).toNat) (IntKind.u16.wrap ((IntKind.u32.wrap ((orI .u32 (shlI .u32 rest 16) (IntKind.u32.wrap ((a.getD ((i).toNat) 0)))).tdiv (IntKind.u32.wrap (b))))))).getD zi 0)))] 321 (pc c3 (pc c4 (pc (ltOf c4) (pc (len_set0 q ((i).toNat) (IntKind.u16.wrap ((IntKind.u32.wrap ((orI .u32 (shlI .u32 rest 16) (IntKind.u32.wrap ((a.getD ((i).toNat) 0)))).tdiv (IntKind.u32.wrap (b))))))) (pc (len_set0 q ((i).toNat) (IntKind.u16.wrap ((IntKind.u32.wrap ((orI .u32 (shlI .u32 rest 16) (IntKind.u32.wrap ((a.getD ((i).toNat) 0)))).tdiv (IntKind.u32.wrap (b))))))) (pc (get_set0 (cU .u16) 0 q ((i).toNat) (IntKind.u16.wrap ((IntKind.u32.wrap ((orI .u32 (shlI .u32 rest 16) (IntKind.u32.wrap ((a.getD ((i).toNat) 0)))).tdiv (IntKind.u32.wrap (b))))))) pn)))))) ?_
   refine rnR hE 0 [] [] (kp [0,1,6,7,8]) (kq [0]) 401 (pc c3 pn) ?_
   refine rnR hE 1 [] [] (kp [0,1,6,7,8]) (kq [0]) 449 pn ?_
   exact rnW hE 1 [] (kp [0,1,6,7,8]) (kq [0]) 1 pn (ih _ _ _ _ h E hE)
  ·obtain ⟨rtrim,hr,h⟩:=bsm h
   refine rnR hE 2 [(1,⟨[],true,(eU rtrim),[],0,true,none⟩)] [] (kp [4,5]) [] 129 (pc (g_e_trim_ok N q rtrim hr) (pc (z1 q.length) pn)) ?_
   obtain rfl:=osI h
   exact rnT hE 0 Tryz.f57 [] (kp [4,5]) [] 129 pn [] pn
theorem g_e_short_ok (N:Nat) (a:List Int) (b:Int) (r:(List Int)×Int) (h:g_e_short N a b=some r):Sd 57 [(eU a),(a16 b)] [] 0 (.tup [(eU r.1),(a16 r.2)]) []:=by
 unfold g_e_short at h
 refine sor (fu:=Tryz.f57) (c:=C_11 1) (nt:=43) (by kernel_rfl) (by kernel_rfl) (by kernel_rfl) (by kernel_rfl) (fun hm=>rfl) ?_
 intro E hE
 refine rnR hE 1 [] [] (kp [0,1]) [] 32 pn ?_
 obtain ⟨c,h⟩:=ifSome h
 refine rnR hE 1 [] [] (kp [0,1] ++ [(6,.osl ((List.replicate a.length 0:List Int).length))]) [(64,.arr 64 ((List.replicate a.length 0:List Int).length) (fun zi=>(cU .u16) ((List.replicate a.length 0:List Int).getD zi 0)))] 96 (pc (show 0≤((a.length:Nat):Int) from c.1) (pc (show ((a.length:Nat):Int)≤((a.length:Nat):Int) from (Int.le_refl _)) (pc (show (2:Int) * ((a.length:Nat):Int)≤281474976710656 from c.2.1) (pc (show ((a.length:Nat):Int)≤9223372036854775807 from c.2.2) (pc (show a.length=(List.replicate a.length 0:List Int).length from (List.length_replicate).symm) (pc (show a.length=(List.replicate a.length 0:List Int).length from (List.length_replicate).symm) (pc (show ∀ zi,zi < (List.replicate a.length 0:List Int).length→(fun zi=>(cU .u16) ((List.replicate a.length 0:List Int).getD zi 0)) zi=(fun _=>[(a16 0)]) zi from (fun zq hzq=>get_rep (cU .u16) 0 0 a.length zq hzq)) pn))))))) ?_
 refine rnR hE 1 [] [] (kp [0,1,6,7]) (kq [64]) 112 pn ?_
 refine rnR hE 2 [] [] (kp [0,1,6,7,8]) (kq [64]) 176 pn ?_
 exact rnW hE 2 [] (kp [0,1,6,7,8]) [(0,.keep 64)] 1 pn (g_e_short_L1_ok N _ _ N _ _ _ _ h E hE)
noncomputable def C_13 (n:Nat):Code:=cat (bodyOf Tryz.f88) (pth n)
def g_math_bits_Len16_J1_H (N:Nat) (K:Int→Int→Option (Int)):Prop:=∀ (x2:Int) (n:Int) (r:Int),K x2 n=some r→∀ E,EnvOk E 0→Runs Tryz.prog E 88 13 (SPost E [] (aI r)) [.code (C_13 14),.code (C_13 15)] ⟨[(0,(a16 x2)),(2,(aI n))],[],0⟩
theorem g_math_bits_Len16_J1_ok (N:Nat):g_math_bits_Len16_J1_H N (g_math_bits_Len16_J1 N):=by
 intro x2 n r h E hE
 unfold g_math_bits_Len16_J1 at h
 obtain ⟨c,h⟩:=ifSome h
 refine rnR hE 0 [] [] (kp [2]) [] 112 (pc c pn) ?_
 obtain rfl:=osI h
 exact rnT hE 0 Tryz.f88 [] (kp [2]) [] 112 pn [] pn
theorem g_math_bits_Len16_ok (N:Nat) (x:Int) (r:Int) (h:g_math_bits_Len16 N x=some r):Sd 88 [(a16 x)] [] 0 (aI r) []:=by
 unfold g_math_bits_Len16 at h
 refine sor (fu:=Tryz.f88) (c:=C_13 1) (nt:=13) (by kernel_rfl) (by kernel_rfl) (by kernel_rfl) (by kernel_rfl) (fun hm=>rfl) ?_
 intro E hE
 refine rnR hE 1 [] [] (kp [0,2]) [] 16 pn ?_
 refine rnR hE 2 [] [] (kp [0,2,4]) [] 48 pn ?_
 refine rnC 0 4 h (fun hq2 h=>?_) (fun hq2 h=>?_)
 ·refine rnR hE 1 [] [] (kp [0]) [] 96 (pc (show (0:Int)≤8 by decide) pn) ?_
  refine rnR hE 0 [] [] (kp [0,2]) [] 112 pn ?_
  exact rnW hE 1 [] (kp [0,2]) [] 0 pn (g_math_bits_Len16_J1_ok N _ _ _ h E hE)
 ·exact rnW hE 2 [] (kp [0,2]) [] 0 pn (g_math_bits_Len16_J1_ok N _ _ _ h E hE)
noncomputable def C_12 (n:Nat):Code:=cat (bodyOf Tryz.f58) (pth n)
theorem g_math_bits_LeadingZeros16_ok (N:Nat) (x:Int) (r:Int) (h:g_math_bits_LeadingZeros16 N x=some r):Sd 58 [(a16 x)] [] 0 (aI r) []:=by
 unfold g_math_bits_LeadingZeros16 at h
 refine sor (fu:=Tryz.f58) (c:=C_12 1) (nt:=6) (by kernel_rfl) (by kernel_rfl) (by kernel_rfl) (by kernel_rfl) (fun hm=>rfl) ?_
 intro E hE
 refine rnR hE 1 [] [] (kp [0]) [] 16 pn ?_
 obtain ⟨rLen16,hr,h⟩:=bsm h
 refine rnR hE 1 [(1,⟨[],true,(aI rLen16),[],0,false,none⟩)] [] (kp [2]) [] 80 (pc (g_math_bits_Len16_ok N x rLen16 hr) pn) ?_
 obtain rfl:=osI h
 exact rnT hE 0 Tryz.f58 [] (kp [2]) [] 80 pn [] pn
noncomputable def C_14 (n:Nat):Code:=cat (bodyOf Tryz.f59) (pth n)
def g_e_shifted_L1_H (N:Nat) (a:List Int) (vby:Int) (K:(List Int)→Int→Option ((List Int))):Prop:=∀ (out:List Int) (x:Int) (r:(List Int)),K out x=some r→∀ E,EnvOk E 0→Runs Tryz.prog E 59 41 (SPost E [(0,aU r)] (.os 0 0 r.length)) [.code (C_14 116),.inLoop (C_14 116),.inBlock 0,.code (C_14 15)] ⟨[(1,(aI vby)),(5,(.os 0 0 out.length)),(13,(eU a)),(14,(aI ((a.length:Nat):Int))),(15,(aI x))],[(0,aU out)],1⟩
theorem g_e_shifted_L1_ok (N:Nat) (a:List Int) (vby:Int) (fuel:Nat):g_e_shifted_L1_H N a vby (g_e_shifted_L1 N a vby fuel):=by
 induction fuel with
 | zero=>intro _ _ r h;rw [g_e_shifted_L1.eq_1] at h;cases h
 | succ fuel ih =>
  intro out x r h E hE
  rw [g_e_shifted_L1.eq_2] at h
  refine rnR hE 1 [] [] (kp [1,5,13,14,15,16]) (kq [0]) 17 pn ?_
  refine rnC 1 16 h (fun hq2 h=>?_) (fun hq2 h=>?_)
  ·obtain ⟨c2,h⟩:=ifSome h
   refine rnR hE 4 [] [] (kp [1,5,6,7,13,14,15]) (kq [0]) 97 (pc c2 pn) ?_
   obtain ⟨c3,h⟩:=ifSome h
   refine rnR hE 1 [] [] (kp [1,5,6,8,13,14,15]) (kq [0]) 177 (pc c3 pn) ?_
   obtain ⟨c4,h⟩:=ifSome h
   refine rnR hE 1 [] [] (kp [1] ++ [(5,.osl ((out.set ((x).toNat) (orI .u16 (out.getD ((x).toNat) 0) (IntKind.u16.wrap ((shlI .u32 (IntKind.u32.wrap ((a.getD ((x).toNat) 0))) vby))))).length))] ++ kp [6,8,13,14,15]) [(0,.arr 0 ((out.set ((x).toNat) (orI .u16 (out.getD ((x).toNat) 0) (IntKind.u16.wrap ((shlI .u32 (IntKind.u32.wrap ((a.getD ((x).toNat) 0))) vby))))).length) (fun zi=>(cU .u16) ((out.set ((x).toNat) (orI .u16 (out.getD ((x).toNat) 0) (IntKind.u16.wrap ((shlI .u32 (IntKind.u32.wrap ((a.getD ((x).toNat) 0))) vby))))).getD zi 0)))] 321 (pc c4 (pc (ltOf c4) (pc c4 (pc (ltOf c4) (pc (len_set0 out ((x).toNat) (orI .u16 (out.getD ((x).toNat) 0) (IntKind.u16.wrap ((shlI .u32 (IntKind.u32.wrap ((a.getD ((x).toNat) 0))) vby))))) (pc (len_set0 out ((x).toNat) (orI .u16 (out.getD ((x).toNat) 0) (IntKind.u16.wrap ((shlI .u32 (IntKind.u32.wrap ((a.getD ((x).toNat) 0))) vby))))) (pc (get_set0 (cU .u16) 0 out ((x).toNat) (orI .u16 (out.getD ((x).toNat) 0) (IntKind.u16.wrap ((shlI .u32 (IntKind.u32.wrap ((a.getD ((x).toNat) 0))) vby))))) pn))))))) ?_
   obtain ⟨c5,h⟩:=ifSome h
   refine rnR hE 0 [] [] (kp [1] ++ [(5,.osl (((out.set ((x).toNat) (orI .u16 (out.getD ((x).toNat) 0) (IntKind.u16.wrap ((shlI .u32 (IntKind.u32.wrap ((a.getD ((x).toNat) 0))) vby))))).set ((w64 (x+1)).toNat) (IntKind.u16.wrap ((shrI .u32 (shlI .u32 (IntKind.u32.wrap ((a.getD ((x).toNat) 0))) vby) 16)))).length))] ++ kp [13,14,15]) [(0,.arr 0 (((out.set ((x).toNat) (orI .u16 (out.getD ((x).toNat) 0) (IntKind.u16.wrap ((shlI .u32 (IntKind.u32.wrap ((a.getD ((x).toNat) 0))) vby))))).set ((w64 (x+1)).toNat) (IntKind.u16.wrap ((shrI .u32 (shlI .u32 (IntKind.u32.wrap ((a.getD ((x).toNat) 0))) vby) 16)))).length) (fun zi=>(cU .u16) (((out.set ((x).toNat) (orI .u16 (out.getD ((x).toNat) 0) (IntKind.u16.wrap ((shlI .u32 (IntKind.u32.wrap ((a.getD ((x).toNat) 0))) vby))))).set ((w64 (x+1)).toNat) (IntKind.u16.wrap ((shrI .u32 (shlI .u32 (IntKind.u32.wrap ((a.getD ((x).toNat) 0))) vby) 16)))).getD zi 0)))] 449 (pc (show (0:Int)≤16 by decide) (pc c5 (pc (ltOf c5) (pc (len_set0 (out.set ((x).toNat) (orI .u16 (out.getD ((x).toNat) 0) (IntKind.u16.wrap ((shlI .u32 (IntKind.u32.wrap ((a.getD ((x).toNat) 0))) vby))))) ((w64 (x+1)).toNat) (IntKind.u16.wrap ((shrI .u32 (shlI .u32 (IntKind.u32.wrap ((a.getD ((x).toNat) 0))) vby) 16)))) (pc (len_set0 (out.set ((x).toNat) (orI .u16 (out.getD ((x).toNat) 0) (IntKind.u16.wrap ((shlI .u32 (IntKind.u32.wrap ((a.getD ((x).toNat) 0))) vby))))) ((w64 (x+1)).toNat) (IntKind.u16.wrap ((shrI .u32 (shlI .u32 (IntKind.u32.wrap ((a.getD ((x).toNat) 0))) vby) 16)))) (pc (get_set0 (cU .u16) 0 (out.set ((x).toNat) (orI .u16 (out.getD ((x).toNat) 0) (IntKind.u16.wrap ((shlI .u32 (IntKind.u32.wrap ((a.getD ((x).toNat) 0))) vby))))) ((w64 (x+1)).toNat) (IntKind.u16.wrap ((shrI .u32 (shlI .u32 (IntKind.u32.wrap ((a.getD ((x).toNat) 0))) vby) 16)))) pn)))))) ?_
   refine rnR hE 1 [] [] (kp [1,5,13,14,15]) (kq [0]) 481 pn ?_
   exact rnW hE 1 [] (kp [1,5,13,14,15]) (kq [0]) 1 pn (ih _ _ _ h E hE)
  ·refine rnR hE 2 [] [] (kp [4]) (kq [0]) 49 pn ?_
   obtain rfl:=osI h
   exact rnT hE 0 Tryz.f59 [] (kp [4]) (kq [0]) 49 pn [] pn
theorem g_e_shifted_ok (N:Nat) (a:List Int) (vby:Int) (r:(List Int)) (h:g_e_shifted N a vby=some r):Sd 59 [(eU a),(aI vby)] [] 0 (.os 0 0 r.length) [(0,aU r)]:=by
 unfold g_e_shifted at h
 refine sor (fu:=Tryz.f59) (c:=C_14 1) (nt:=41) (by kernel_rfl) (by kernel_rfl) (by kernel_rfl) (by kernel_rfl) (fun hm=>rfl) ?_
 intro E hE
 refine rnR hE 1 [] [] (kp [0,1]) [] 16 pn ?_
 obtain ⟨c,h⟩:=ifSome h
 refine rnR hE 1 [] [] (kp [0,1] ++ [(5,.osl ((List.replicate ((w64 (((a.length:Nat):Int)+1)).toNat) 0:List Int).length))]) [(64,.arr 64 ((List.replicate ((w64 (((a.length:Nat):Int)+1)).toNat) 0:List Int).length) (fun zi=>(cU .u16) ((List.replicate ((w64 (((a.length:Nat):Int)+1)).toNat) 0:List Int).getD zi 0)))] 96 (pc (show 0≤(w64 (((a.length:Nat):Int)+1)) from c.1) (pc (show (w64 (((a.length:Nat):Int)+1))≤(w64 (((a.length:Nat):Int)+1)) from (Int.le_refl _)) (pc (show (2:Int) * (w64 (((a.length:Nat):Int)+1))≤281474976710656 from c.2.1) (pc (show (w64 (((a.length:Nat):Int)+1))≤9223372036854775807 from c.2.2) (pc (show (w64 (((a.length:Nat):Int)+1)).toNat=(List.replicate ((w64 (((a.length:Nat):Int)+1)).toNat) 0:List Int).length from (List.length_replicate).symm) (pc (show (w64 (((a.length:Nat):Int)+1)).toNat=(List.replicate ((w64 (((a.length:Nat):Int)+1)).toNat) 0:List Int).length from (List.length_replicate).symm) (pc (show ∀ zi,zi < (List.replicate ((w64 (((a.length:Nat):Int)+1)).toNat) 0:List Int).length→(fun zi=>(cU .u16) ((List.replicate ((w64 (((a.length:Nat):Int)+1)).toNat) 0:List Int).getD zi 0)) zi=(fun _=>[(a16 0)]) zi from (fun zq hzq=>get_rep (cU .u16) 0 0 ((w64 (((a.length:Nat):Int)+1)).toNat) zq hzq)) pn))))))) ?_
 refine rnR hE 2 [] [] (kp [1,5,13,14,15]) (kq [64]) 144 pn ?_
 exact rnW hE 2 [] (kp [1,5,13,14,15]) [(0,.keep 64)] 1 pn (g_e_shifted_L1_ok N _ _ N _ _ _ h E hE)
noncomputable def C_15 (n:Nat):Code:=cat (bodyOf Tryz.f60) (pth n)
def g_e_digit_L1_H (N:Nat) (uo:Nat) (un:Nat) (v:List Int) (C0:List Int) (K:Int→Int→Option (Int×(List Int))):Prop:=∀ (q:Int) (rest:Int) (r:Int×(List Int)),K q rest=some r→∀ E,EnvOk E 1→Runs Tryz.prog E 60 161 (SPost E [(0,aU r.2)] (a16 r.1)) [.code (C_15 248),.inLoop (C_15 248),.inBlock 0,.code (C_15 63)] ⟨[(0,(.os 0 uo un)),(1,(eU v)),(5,(aI ((v.length:Nat):Int))),(7,(a64 q)),(8,(a64 rest))],[(0,aU C0)],1⟩
def g_e_digit_L2_H (N:Nat) (uo:Nat) (un:Nat) (v:List Int) (q:Int) (K:(List Int)→Int→Int→Int→Option (Int×(List Int))):Prop:=∀ (C02:List Int) (carry:Int) (borrow:Int) (x:Int) (r:Int×(List Int)),K C02 carry borrow x=some r→∀ E,EnvOk E 1→Runs Tryz.prog E 60 161 (SPost E [(0,aU r.2)] (a16 r.1)) [.code (C_15 2036),.inLoop (C_15 2036),.inBlock 2,.code (C_15 255)] ⟨[(0,(.os 0 uo un)),(1,(eU v)),(5,(aI ((v.length:Nat):Int))),(7,(a64 q)),(9,(a64 carry)),(10,(aI borrow)),(84,(aI (w64 (((v.length:Nat):Int)+1)))),(85,(aI x))],[(0,aU C02)],1⟩
def g_e_digit_J3_H (N:Nat) (uo:Nat) (un:Nat) (v:List Int) (q:Int) (C02:List Int) (borrow:Int) (x:Int) (K:Int→Option (Int×(List Int))):Prop:=∀ (x2:Int) (r:Int×(List Int)),K x2=some r→∀ E,EnvOk E 1→Runs Tryz.prog E 60 161 (SPost E [(0,aU r.2)] (a16 r.1)) [.code (C_15 521422),.code (C_15 521423),.inBlock 3,.code (C_15 16295),.inLoop (C_15 2036),.inBlock 2,.code (C_15 255)] ⟨[(0,(.os 0 uo un)),(1,(eU v)),(5,(aI ((v.length:Nat):Int))),(7,(a64 q)),(10,(aI borrow)),(11,(aI x)),(12,(a64 x2)),(84,(aI (w64 (((v.length:Nat):Int)+1)))),(85,(aI x))],[(0,aU C02)],1⟩
theorem g_e_digit_J3_ok (N:Nat) (uo:Nat) (un:Nat) (v:List Int) (q:Int) (C02:List Int) (borrow:Int) (x:Int) (K_g_e_digit_L2:(List Int)→Int→Int→Int→Option (Int×(List Int))) (hK_g_e_digit_L2:g_e_digit_L2_H N uo un v q K_g_e_digit_L2):g_e_digit_J3_H N uo un v q C02 borrow x (g_e_digit_J3 N uo un v q C02 borrow x K_g_e_digit_L2):=by
 intro x2 r h E hE
 unfold g_e_digit_J3 at h
 refine rnR hE 0 [] [] (kp [0,1,5,7,9,10,11,12,84,85]) (kq [0]) 49 (pc (show (0:Int)≤16 by decide) pn) ?_
 obtain ⟨c11,h⟩:=ifSome h
 obtain ⟨c12,h⟩:=ifSome h
 refine rnR hE 1 [] [] (kp [0,1,5,7,9,11,13,84,85]) (kq [0]) 241 (pc c11 (pc (show (addz uo (x).toNat) < C02.length by have h1:=c11;have h2:=c12;simp only [addz_eq];omega) pn)) ?_
 refine rnR hE 1 [] [] (kp [0,1,5,7,9,13,84,85]) [(0,.arr 0 ((C02.set (addz uo (x).toNat) (IntKind.u16.wrap ((w64 ((w64 ((w64 ((C02.getD (addz uo (x).toNat) 0))) - (w64 ((andI .u64 x2 65535)))))+borrow))))).length) (fun zi=>(cU .u16) ((C02.set (addz uo (x).toNat) (IntKind.u16.wrap ((w64 ((w64 ((w64 ((C02.getD (addz uo (x).toNat) 0))) - (w64 ((andI .u64 x2 65535)))))+borrow))))).getD zi 0)))] 337 (pc c11 (pc (show (addz uo (x).toNat) < C02.length by have h1:=c11;have h2:=c12;simp only [addz_eq];omega) (pc (len_set0 C02 (addz uo (x).toNat) (IntKind.u16.wrap ((w64 ((w64 ((w64 ((C02.getD (addz uo (x).toNat) 0))) - (w64 ((andI .u64 x2 65535)))))+borrow))))) (pc (get_set0 (cU .u16) 0 C02 (addz uo (x).toNat) (IntKind.u16.wrap ((w64 ((w64 ((w64 ((C02.getD (addz uo (x).toNat) 0))) - (w64 ((andI .u64 x2 65535)))))+borrow))))) pn)))) ?_
 refine rnR hE 0 [] [] (kp [0,1,5,7,9,10,84,85]) (kq [0]) 385 (pc (show (0:Int)≤16 by decide) pn) ?_
 refine rnR hE 1 [] [] (kp [0,1,5,7,9,10,84,85]) (kq [0]) 417 pn ?_
 exact rnW hE 1 [] (kp [0,1,5,7,9,10,84,85]) (kq [0]) 1 pn (hK_g_e_digit_L2 _ _ _ _ _ h E hE)
def g_e_digit_L4_H (N:Nat) (uo:Nat) (un:Nat) (v:List Int) (q:Int) (K:(List Int)→Int→Int→Option (Int×(List Int))):Prop:=∀ (C03:List Int) (carry2:Int) (x3:Int) (r:Int×(List Int)),K C03 carry2 x3=some r→∀ E,EnvOk E 1→Runs Tryz.prog E 60 161 (SPost E [(0,aU r.2)] (a16 r.1)) [.code (C_15 130740),.inLoop (C_15 130740),.inBlock 4,.code (C_15 16343),.code (C_15 511)] ⟨[(0,(.os 0 uo un)),(1,(eU v)),(5,(aI ((v.length:Nat):Int))),(7,(a64 (IntKind.u64.wrap (q - 1)))),(14,(a32 carry2)),(126,(aI ((v.length:Nat):Int))),(127,(aI x3))],[(0,aU C03)],1⟩
def g_e_digit_J5_H (N:Nat) (K:(List Int)→Int→Option (Int×(List Int))):Prop:=∀ (C04:List Int) (q2:Int) (r:Int×(List Int)),K C04 q2=some r→∀ E,EnvOk E 1→Runs Tryz.prog E 60 161 (SPost E [(0,aU r.2)] (a16 r.1)) [.code (C_15 1022),.code (C_15 1023)] ⟨[(7,(a64 q2))],[(0,aU C04)],1⟩
theorem g_e_digit_J5_ok (N:Nat):g_e_digit_J5_H N (g_e_digit_J5 N):=by
 intro C04 q2 r h E hE
 unfold g_e_digit_J5 at h
 refine rnR hE 0 [] [] (kp [4]) (kq [0]) 49 pn ?_
 obtain rfl:=osI h
 exact rnT hE 0 Tryz.f60 [] (kp [4]) (kq [0]) 49 pn [] pn
theorem g_e_digit_L4_ok (N:Nat) (uo:Nat) (un:Nat) (v:List Int) (q:Int) (fuel:Nat):g_e_digit_L4_H N uo un v q (g_e_digit_L4 N uo un v q fuel):=by
 induction fuel with
 | zero=>intro _ _ _ r h;rw [g_e_digit_L4.eq_1] at h;cases h
 | succ fuel ih =>
  intro C03 carry2 x3 r h E hE
  rw [g_e_digit_L4.eq_2] at h
  refine rnR hE 1 [] [] (kp [0,1,5,7,14,126,127,128]) (kq [0]) 17 pn ?_
  refine rnC 1 128 h (fun hq6 h=>?_) (fun hq6 h=>?_)
  ·refine rnR hE 4 [] [] (kp [0,1,5,7,14,15,126,127]) (kq [0]) 49 pn ?_
   obtain ⟨c13,h⟩:=ifSome h
   obtain ⟨c14,h⟩:=ifSome h
   obtain ⟨c15,h⟩:=ifSome h
   refine rnR hE 1 [] [] (kp [0,1,5,7,14,15,126,127]) (kq [0]) 273 (pc c13 (pc (show (addz uo (x3).toNat) < C03.length by have h1:=c13;have h2:=c14;simp only [addz_eq];omega) (pc c15 pn))) ?_
   refine rnR hE 1 [] [] (kp [0,1,5,7,14,126,127]) [(0,.arr 0 ((C03.set (addz uo (x3).toNat) (IntKind.u16.wrap ((IntKind.u32.wrap (carry2+(IntKind.u32.wrap ((IntKind.u32.wrap ((C03.getD (addz uo (x3).toNat) 0)))+(IntKind.u32.wrap ((v.getD ((x3).toNat) 0)))))))))).length) (fun zi=>(cU .u16) ((C03.set (addz uo (x3).toNat) (IntKind.u16.wrap ((IntKind.u32.wrap (carry2+(IntKind.u32.wrap ((IntKind.u32.wrap ((C03.getD (addz uo (x3).toNat) 0)))+(IntKind.u32.wrap ((v.getD ((x3).toNat) 0)))))))))).getD zi 0)))] 369 (pc c13 (pc (show (addz uo (x3).toNat) < C03.length by have h1:=c13;have h2:=c14;simp only [addz_eq];omega) (pc (len_set0 C03 (addz uo (x3).toNat) (IntKind.u16.wrap ((IntKind.u32.wrap (carry2+(IntKind.u32.wrap ((IntKind.u32.wrap ((C03.getD (addz uo (x3).toNat) 0)))+(IntKind.u32.wrap ((v.getD ((x3).toNat) 0)))))))))) (pc (get_set0 (cU .u16) 0 C03 (addz uo (x3).toNat) (IntKind.u16.wrap ((IntKind.u32.wrap (carry2+(IntKind.u32.wrap ((IntKind.u32.wrap ((C03.getD (addz uo (x3).toNat) 0)))+(IntKind.u32.wrap ((v.getD ((x3).toNat) 0)))))))))) pn)))) ?_
   refine rnR hE 0 [] [] (kp [0,1,5,7,14,126,127]) (kq [0]) 417 (pc (show (0:Int)≤16 by decide) pn) ?_
   refine rnR hE 1 [] [] (kp [0,1,5,7,14,126,127]) (kq [0]) 449 pn ?_
   exact rnW hE 1 [] (kp [0,1,5,7,14,126,127]) (kq [0]) 1 pn (ih _ _ _ _ h E hE)
  ·obtain ⟨c16,h⟩:=ifSome h
   obtain ⟨c17,h⟩:=ifSome h
   refine rnR hE 1 [] [] (kp [7]) [(0,.arr 0 ((C03.set (addz uo v.length) (IntKind.u16.wrap ((C03.getD (addz uo v.length) 0)+(IntKind.u16.wrap (carry2))))).length) (fun zi=>(cU .u16) ((C03.set (addz uo v.length) (IntKind.u16.wrap ((C03.getD (addz uo v.length) 0)+(IntKind.u16.wrap (carry2))))).getD zi 0)))] 161 (pc c16 (pc (show (addz uo v.length) < C03.length by have h1:=c16;have h2:=c17;simp only [addz_eq];omega) (pc c16 (pc (show (addz uo v.length) < C03.length by have h1:=c16;have h2:=c17;simp only [addz_eq];omega) (pc (len_set0 C03 (addz uo v.length) (IntKind.u16.wrap ((C03.getD (addz uo v.length) 0)+(IntKind.u16.wrap (carry2))))) (pc (get_set0 (cU .u16) 0 C03 (addz uo v.length) (IntKind.u16.wrap ((C03.getD (addz uo v.length) 0)+(IntKind.u16.wrap (carry2))))) pn)))))) ?_
   exact rnW hE 1 [] (kp [7]) (kq [0]) 1 pn (g_e_digit_J5_ok N _ _ _ h E hE)
theorem g_e_digit_L2_ok (N:Nat) (uo:Nat) (un:Nat) (v:List Int) (q:Int) (fuel:Nat):g_e_digit_L2_H N uo un v q (g_e_digit_L2 N uo un v q fuel):=by
 induction fuel with
 | zero=>intro _ _ _ _ r h;rw [g_e_digit_L2.eq_1] at h;cases h
 | succ fuel ih =>
  intro C02 carry borrow x r h E hE
  rw [g_e_digit_L2.eq_2] at h
  refine rnR hE 1 [] [] (kp [0,1,5,7,9,10,84,85,86]) (kq [0]) 17 pn ?_
  refine rnC 1 86 h (fun hq3 h=>?_) (fun hq3 h=>?_)
  ·refine rnR hE 4 [] [] (kp [0,1,5,7,9,10,11,84,85]) (kq [0]) 49 pn ?_
   refine rnR hE 1 [] [] (kp [0,1,5,7,10,11,12,84,85]) (kq [0]) 81 pn ?_
   refine rnR hE 2 [] [] (kp [0,1,5,7,10,11,12,84,85,91]) (kq [0]) 129 pn ?_
   refine rnC 0 91 h (fun hq4 h=>?_) (fun hq4 h=>?_)
   ·obtain ⟨c10,h⟩:=ifSome h
    refine rnR hE 0 [] [] (kp [0,1,5,7,10,11,12,84,85]) (kq [0]) 289 (pc c10 pn) ?_
    exact rnW hE 1 [] (kp [0,1,5,7,10,11,12,84,85]) (kq [0]) 1 pn (g_e_digit_J3_ok N _ _ _ _ _ _ _ _ ih _ _ h E hE)
   ·exact rnW hE 2 [] (kp [0,1,5,7,10,11,12,84,85]) (kq [0]) 1 pn (g_e_digit_J3_ok N _ _ _ _ _ _ _ _ ih _ _ h E hE)
  ·refine rnR hE 3 [] [] (kp [0,1,5,7,123]) (kq [0]) 49 pn ?_
   refine rnC 0 123 h (fun hq5 h=>?_) (fun hq5 h=>?_)
   ·refine rnR hE 1 [] [] (kp [0,1,5,7]) (kq [0]) 97 pn ?_
    refine rnR hE 1 [] [] (kp [0,1,5,7,14]) (kq [0]) 113 pn ?_
    refine rnR hE 2 [] [] (kp [0,1,5,7,14,126,127]) (kq [0]) 145 pn ?_
    exact rnW hE 2 [] (kp [0,1,5,7,14,126,127]) (kq [0]) 1 pn (g_e_digit_L4_ok N _ _ _ _ N _ _ _ _ h E hE)
   ·exact rnW hE 2 [] (kp [7]) (kq [0]) 1 pn (g_e_digit_J5_ok N _ _ _ h E hE)
theorem g_e_digit_L1_ok (N:Nat) (uo:Nat) (un:Nat) (v:List Int) (C0:List Int) (fuel:Nat):g_e_digit_L1_H N uo un v C0 (g_e_digit_L1 N uo un v C0 fuel):=by
 induction fuel with
 | zero=>intro _ _ r h;rw [g_e_digit_L1.eq_1] at h;cases h
 | succ fuel ih =>
  intro q rest r h E hE
  rw [g_e_digit_L1.eq_2] at h
  obtain ⟨c6,h⟩:=ifSome h
  obtain ⟨c7,h⟩:=ifSome h
  obtain ⟨c8,h⟩:=ifSome h
  refine rnR hE 2 [] [] (kp [0,1,5,7,8,72]) (kq [0]) 417 (pc (fun hg:(decide (rest < 65536))=true=>(pc hg pn)) (pc (fun hg:((decide (rest < 65536)) && ((decide (rest < 65536)) && (!(decide (q > 65535)))))=true=>(pc hg pn)) (pc (fun hg:((decide (rest < 65536)) && ((decide (rest < 65536)) && (!(decide (q > 65535)))))=true=>(pc hg (pc hg (pc (c6 hg) pn)))) (pc (fun hg:((decide (rest < 65536)) && ((decide (rest < 65536)) && (!(decide (q > 65535)))))=true=>(pc hg pn)) (pc (fun hg:((decide (rest < 65536)) && ((decide (rest < 65536)) && (!(decide (q > 65535)))))=true=>(pc hg pn)) (pc (fun hg:((decide (rest < 65536)) && ((decide (rest < 65536)) && (!(decide (q > 65535)))))=true=>(pc hg (pc hg pn))) (pc (fun hg:((decide (rest < 65536)) && ((decide (rest < 65536)) && (!(decide (q > 65535)))))=true=>(pc hg (pc (show (0:Int)≤16 by decide) pn))) (pc (fun hg:((decide (rest < 65536)) && ((decide (rest < 65536)) && (!(decide (q > 65535)))))=true=>(pc hg pn)) (pc (fun hg:((decide (rest < 65536)) && ((decide (rest < 65536)) && (!(decide (q > 65535)))))=true=>(pc hg (pc hg (pc (c7 hg) pn)))) (pc (fun hg:((decide (rest < 65536)) && ((decide (rest < 65536)) && (!(decide (q > 65535)))))=true=>(pc hg (pc (show (addz uo (w64 (((v.length:Nat):Int) - 2)).toNat) < C0.length by have h1:=(c7 hg);have h2:=(c8 hg);simp only [addz_eq];omega) pn))) (pc (fun hg:((decide (rest < 65536)) && ((decide (rest < 65536)) && (!(decide (q > 65535)))))=true=>(pc hg pn)) (pc (fun hg:((decide (rest < 65536)) && ((decide (rest < 65536)) && (!(decide (q > 65535)))))=true=>(pc hg (pc hg pn))) (pc (fun hg:((decide (rest < 65536)) && ((decide (rest < 65536)) && (!(decide (q > 65535)))))=true=>(pc hg (pc hg pn))) (pc (fun hg:(decide (rest < 65536))=true=>(pc hg (pc hg (pc (fun hq:(!(decide (q > 65535)))=true=>(pc (show ((decide (rest < 65536)) && ((decide (rest < 65536)) && (!(decide (q > 65535)))))=true from (andI' hg (andI' hg hq))) pn)) pn)))) (pc (fun hq:(decide (rest < 65536))=true=>(pc hq pn)) pn))))))))))))))) ?_
  refine rnC 0 72 h (fun hq2 h=>?_) (fun hq2 h=>?_)
  ·refine rnR hE 3 [] [] (kp [0,1,5,7,8]) (kq [0]) 465 pn ?_
   obtain ⟨c9,h⟩:=ifSome h
   refine rnR hE 0 [] [] (kp [0,1,5,7,8]) (kq [0]) 609 (pc c9 pn) ?_
   exact rnW hE 2 [] (kp [0,1,5,7,8]) (kq [0]) 1 pn (ih _ _ _ h E hE)
  ·refine rnR hE 2 [] [] (kp [0,1,5,7,9,10]) (kq [0]) 449 pn ?_
   refine rnR hE 2 [] [] (kp [0,1,5,7,9,10,84,85]) (kq [0]) 497 pn ?_
   exact rnW hE 2 [] (kp [0,1,5,7,9,10,84,85]) (kq [0]) 1 pn (g_e_digit_L2_ok N _ _ _ _ N _ _ _ _ _ h E hE)
theorem g_e_digit_ok (N:Nat) (uo:Nat) (un:Nat) (v:List Int) (C0:List Int) (r:Int×(List Int)) (h:g_e_digit N uo un v C0=some r):Sd 60 [(.os 0 uo un),(eU v)] [(0,aU C0)] 1 (a16 r.1) [(0,aU r.2)]:=by
 unfold g_e_digit at h
 refine sor (fu:=Tryz.f60) (c:=C_15 1) (nt:=161) (by kernel_rfl) (by kernel_rfl) (by kernel_rfl) (by kernel_rfl) (fun hm=>absurd hm (by decide)) ?_
 intro E hE
 refine rnR hE 1 [] [] (kp [0,1]) (kq [0]) 17 pn ?_
 refine rnR hE 1 [] [] (kp [0,1,5]) (kq [0]) 65 pn ?_
 obtain ⟨c,h⟩:=ifSome h
 obtain ⟨c2,h⟩:=ifSome h
 obtain ⟨c3,h⟩:=ifSome h
 refine rnR hE 1 [] [] (kp [0,1,5,6]) (kq [0]) 289 (pc c (pc (show (addz uo v.length) < C0.length by have h1:=c;have h2:=c2;simp only [addz_eq];omega) (pc (show (0:Int)≤16 by decide) (pc c3 (pc (show (addz uo (w64 (((v.length:Nat):Int) - 1)).toNat) < C0.length by have h1:=c3;have h2:=c2;simp only [addz_eq];omega) pn))))) ?_
 obtain ⟨c4,h⟩:=ifSome h
 obtain ⟨c5,h⟩:=ifSome h
 refine rnR hE 1 [] [] (kp [0,1,5,7,8]) (kq [0]) 577 (pc c4 (pc c5 (pc c4 (pc c5 pn)))) ?_
 exact rnW hE 3 [] (kp [0,1,5,7,8]) (kq [0]) 1 pn (g_e_digit_L1_ok N _ _ _ _ N _ _ _ h E hE)
noncomputable def C_8 (n:Nat):Code:=cat (bodyOf Tryz.f30) (pth n)
def g_e_divide_L1_H (N:Nat) (b:List Int) (rLeadingZeros:Int) (rshifted2:(List Int)) (K:(List Int)→(List Int)→Int→Option ((List Int)×(List Int))):Prop:=∀ (q:List Int) (u:List Int) (j:Int) (r:(List Int)×(List Int)),K q u j=some r→∀ E,EnvOk E 0→Runs Tryz.prog E 30 109 (SPost E [] (.tup [(eU r.1),(eU r.2)])) [.code (C_8 4084),.inLoop (C_8 4084),.inBlock 0,.code (C_8 511)] ⟨[(4,(.os 0 0 q.length)),(8,(aI rLeadingZeros)),(9,(.os 1 0 u.length)),(10,(.os 2 0 (b.length - 0))),(11,(aI (((b.length - 0):Nat):Int))),(12,(aI j))],[(0,aU q),(1,aU u),(2,aU rshifted2)],3⟩
def g_e_divide_L2_H (N:Nat) (b:List Int) (rLeadingZeros:Int) (q:List Int) (u:List Int) (K:(List Int)→Int→Option ((List Int)×(List Int))):Prop:=∀ (vr:List Int) (x:Int) (r:(List Int)×(List Int)),K vr x=some r→∀ E,EnvOk E 0→Runs Tryz.prog E 30 109 (SPost E [] (.tup [(eU r.1),(eU r.2)])) [.code (C_8 16372),.inLoop (C_8 16372),.inBlock 2,.code (C_8 2047)] ⟨[(4,(.os 0 0 q.length)),(5,(.os 1 0 vr.length)),(8,(aI rLeadingZeros)),(9,(.os 2 0 u.length)),(81,(aI (((b.length - 0):Nat):Int))),(82,(aI x))],[(0,aU q),(1,aU vr),(2,aU u)],3⟩
theorem g_e_divide_L2_ok (N:Nat) (b:List Int) (rLeadingZeros:Int) (q:List Int) (u:List Int) (fuel:Nat):g_e_divide_L2_H N b rLeadingZeros q u (g_e_divide_L2 N b rLeadingZeros q u fuel):=by
 induction fuel with
 | zero=>intro _ _ r h;rw [g_e_divide_L2.eq_1] at h;cases h
 | succ fuel ih =>
  intro vr x r h E hE
  rw [g_e_divide_L2.eq_2] at h
  refine rnR hE 1 [] [] (kp [4,5,8,9,81,82,83]) (kq [0,1,2]) 19 pn ?_
  refine rnC 1 83 h (fun hq5 h=>?_) (fun hq5 h=>?_)
  ·refine rnR hE 4 [] [] (kp [4,5,8,9,13,81,82]) (kq [0,1,2]) 51 pn ?_
   obtain ⟨c12,h⟩:=ifSome h
   obtain ⟨c13,h⟩:=ifSome h
   obtain ⟨c14,h⟩:=ifSome h
   obtain ⟨c15,h⟩:=ifSome h
   refine rnR hE 0 [] [] (kp [4] ++ [(5,.osl ((vr.set ((x).toNat) (IntKind.u16.wrap ((shrI .u32 (orI .u32 (IntKind.u32.wrap ((u.getD ((x).toNat) 0))) (shlI .u32 (IntKind.u32.wrap ((u.getD ((w64 (x+1)).toNat) 0))) 16)) rLeadingZeros)))).length))] ++ kp [8,9,81,82]) (kq [0] ++ [(1,.arr 1 ((vr.set ((x).toNat) (IntKind.u16.wrap ((shrI .u32 (orI .u32 (IntKind.u32.wrap ((u.getD ((x).toNat) 0))) (shlI .u32 (IntKind.u32.wrap ((u.getD ((w64 (x+1)).toNat) 0))) 16)) rLeadingZeros)))).length) (fun zi=>(cU .u16) ((vr.set ((x).toNat) (IntKind.u16.wrap ((shrI .u32 (orI .u32 (IntKind.u32.wrap ((u.getD ((x).toNat) 0))) (shlI .u32 (IntKind.u32.wrap ((u.getD ((w64 (x+1)).toNat) 0))) 16)) rLeadingZeros)))).getD zi 0)))] ++ kq [2]) 371 (pc c12 (pc (ltOf c12) (pc c13 (pc (ltOf c13) (pc (show (0:Int)≤16 by decide) (pc c14 (pc c15 (pc (ltOf c15) (pc (len_set0 vr ((x).toNat) (IntKind.u16.wrap ((shrI .u32 (orI .u32 (IntKind.u32.wrap ((u.getD ((x).toNat) 0))) (shlI .u32 (IntKind.u32.wrap ((u.getD ((w64 (x+1)).toNat) 0))) 16)) rLeadingZeros)))) (pc (len_set0 vr ((x).toNat) (IntKind.u16.wrap ((shrI .u32 (orI .u32 (IntKind.u32.wrap ((u.getD ((x).toNat) 0))) (shlI .u32 (IntKind.u32.wrap ((u.getD ((w64 (x+1)).toNat) 0))) 16)) rLeadingZeros)))) (pc (get_set0 (cU .u16) 0 vr ((x).toNat) (IntKind.u16.wrap ((shrI .u32 (orI .u32 (IntKind.u32.wrap ((u.getD ((x).toNat) 0))) (shlI .u32 (IntKind.u32.wrap ((u.getD ((w64 (x+1)).toNat) 0))) 16)) rLeadingZeros)))) pn))))))))))) ?_
   refine rnR hE 1 [] [] (kp [4,5,8,9,81,82]) (kq [0,1,2]) 403 pn ?_
   exact rnW hE 1 [] (kp [4,5,8,9,81,82]) (kq [0,1,2]) 3 pn (ih _ _ _ h E hE)
  ·obtain ⟨rtrim2,hr9,h⟩:=bsm h
   obtain ⟨rtrim3,hr10,h⟩:=bsm h
   refine rnR hE 2 [(1,⟨[],true,(eU rtrim2),[],0,true,none⟩),(3,⟨[],true,(eU rtrim3),[],0,true,none⟩)] [] (kp [4,5]) [] 115 (pc (g_e_trim_ok N q rtrim2 hr9) (pc (z1 q.length) (pc (g_e_trim_ok N vr rtrim3 hr10) (pc (z1 vr.length) pn)))) ?_
   obtain rfl:=osI h
   exact rnT hE 0 Tryz.f30 [] (kp [4,5]) [] 115 pn [] pn
theorem g_e_divide_L1_ok (N:Nat) (b:List Int) (rLeadingZeros:Int) (rshifted2:(List Int)) (fuel:Nat):g_e_divide_L1_H N b rLeadingZeros rshifted2 (g_e_divide_L1 N b rLeadingZeros rshifted2 fuel):=by
 induction fuel with
 | zero=>intro _ _ _ r h;rw [g_e_divide_L1.eq_1] at h;cases h
 | succ fuel ih =>
  intro q u j r h E hE
  rw [g_e_divide_L1.eq_2] at h
  refine rnR hE 2 [] [] (kp [4,8,9,10,11,12,64]) (kq [0,1,2]) 35 pn ?_
  refine rnC 0 64 h (fun hq4 h=>?_) (fun hq4 h=>?_)
  ·obtain ⟨c5,h⟩:=ifSome h
   obtain ⟨c6,h⟩:=ifSome h
   obtain ⟨c7,h⟩:=ifSome h
   obtain ⟨c8,h⟩:=ifSome h
   obtain ⟨rdigit,hr8,h⟩:=bsm h
   obtain ⟨c9,h⟩:=ifSome h
   obtain ⟨c10,h⟩:=ifSome h
   refine rnR hE 3 [(10,⟨[1],false,(a16 rdigit.1),[(0,aU rdigit.2)],0,false,none⟩)] [] ([(4,.osl ((q.set ((j).toNat) rdigit.1).length))] ++ kp [8] ++ [(9,.osl (rdigit.2.length))] ++ kp [10,11,12]) ([(0,.arr 0 ((q.set ((j).toNat) rdigit.1).length) (fun zi=>(cU .u16) ((q.set ((j).toNat) rdigit.1).getD zi 0)))] ++ kq [1,2]) 243 (pc c5 (pc c6 (pc c7 (pc (show Sd 60 [(.os 0 ((j).toNat) ((w64 ((w64 (j+(((b.length - 0):Nat):Int)))+1)).toNat - (j).toNat)),(.sl (b.length - 0) (fun zi=>(cU .u16) (rshifted2.getD (addz 0 zi) 0)))] [(0,aU u)] 1 (a16 rdigit.1) [(0,aU rdigit.2)] from (Sound.conv (g_e_digit_ok N ((j).toNat) ((w64 ((w64 (j+(((b.length - 0):Nat):Int)))+1)).toNat - (j).toNat) ((rshifted2.take b.length).drop 0) u rdigit hr8) (.cons (Alike.refl _) (.cons (Alike.sl (len_ext' rshifted2 0 b.length c8) (fun zq hzq=>get_ext (cU .u16) 0 rshifted2 0 b.length zq hzq)) .nil)))) (pc (show ∀ zi,zi < rdigit.2.length→AV.flatL ((cU .u16) (rdigit.2.getD zi 0))=true from (fun _ _=>rfl)) (pc (show 0+(b.length - 0)≤rshifted2.length by have:=c8;omega) (pc c10 (pc (ltOf c10) (pc (len_set0 q ((j).toNat) rdigit.1) (pc (show u.length=rdigit.2.length from (Eq.symm c9)) (pc (len_set0 q ((j).toNat) rdigit.1) (pc (get_set0 (cU .u16) 0 q ((j).toNat) rdigit.1) pn)))))))))))) ?_
   refine rnR hE 1 [] [] (kp [4,8,9,10,11,12]) (kq [0,1,2]) 291 pn ?_
   exact rnW hE 1 [] (kp [4,8,9,10,11,12]) (kq [0,1,2]) 3 pn (ih _ _ _ _ h E hE)
  ·obtain ⟨c11,h⟩:=ifSome h
   refine rnR hE 2 [] [] (kp [4] ++ [(5,.osl ((List.replicate (b.length - 0) 0:List Int).length))] ++ kp [8,9,11]) (kq [0,1] ++ [(51,.arr 51 ((List.replicate (b.length - 0) 0:List Int).length) (fun zi=>(cU .u16) ((List.replicate (b.length - 0) 0:List Int).getD zi 0)))]) 83 (pc (show 0≤(((b.length - 0):Nat):Int) from c11.1) (pc (show (((b.length - 0):Nat):Int)≤(((b.length - 0):Nat):Int) from (Int.le_refl _)) (pc (show (2:Int) * (((b.length - 0):Nat):Int)≤281474976710656 from c11.2.1) (pc (show (((b.length - 0):Nat):Int)≤9223372036854775807 from c11.2.2) (pc (show (b.length - 0)=(List.replicate (b.length - 0) 0:List Int).length from (List.length_replicate).symm) (pc (show (b.length - 0)=(List.replicate (b.length - 0) 0:List Int).length from (List.length_replicate).symm) (pc (show ∀ zi,zi < (List.replicate (b.length - 0) 0:List Int).length→(fun zi=>(cU .u16) ((List.replicate (b.length - 0) 0:List Int).getD zi 0)) zi=(fun _=>[(a16 0)]) zi from (fun zq hzq=>get_rep (cU .u16) 0 0 (b.length - 0) zq hzq)) pn))))))) ?_
   refine rnR hE 2 [] [] (kp [4,5,8,9,81,82]) (kq [0,1,51]) 115 pn ?_
   exact rnW hE 2 [] (kp [4,5,8,9,81,82]) (kq [0] ++ [(1,.keep 51),(2,.keep 1)]) 3 pn (g_e_divide_L2_ok N _ _ _ _ N _ _ _ h E hE)
theorem g_e_divide_ok (N:Nat) (a:List Int) (b:List Int) (r:(List Int)×(List Int)) (h:g_e_divide N a b=some r):Sd 30 [(eU a),(eU b)] [] 0 (.tup [(eU r.1),(eU r.2)]) []:=by
 unfold g_e_divide at h
 refine sor (fu:=Tryz.f30) (c:=C_8 1) (nt:=109) (by kernel_rfl) (by kernel_rfl) (by kernel_rfl) (by kernel_rfl) (fun hm=>rfl) ?_
 intro E hE
 refine rnR hE 1 [] [] (kp [0,1]) [] 32 pn ?_
 obtain ⟨rcompare,hr,h⟩:=bsm h
 refine rnR hE 2 [(2,⟨[],true,(aI rcompare),[],0,false,none⟩)] [] (kp [0,1,17]) [] 96 (pc (g_e_compare_ok N a b rcompare hr) pn) ?_
 refine rnC 0 17 h (fun hq2 h=>?_) (fun hq2 h=>?_)
 ·obtain ⟨rClone,hr2,h⟩:=bsm h
  refine rnR hE 1 [(1,⟨[],true,(eU rClone),[],0,false,none⟩)] [] (kp [4,5]) [] 160 (pc (g_slices_Clone_uint16_uint16_ok N a rClone hr2) pn) ?_
  obtain rfl:=osI h
  exact rnT hE 0 Tryz.f30 [] ([(4,.sl (([]:List Int).length) (fun zi=>(cU .u16) (([]:List Int).getD zi 0)))] ++ kp [5]) [] 160 (pc (Eq.refl 0) pn) [] pn
 ·refine rnR hE 3 [] [] (kp [0,1,22]) [] 144 pn ?_
  refine rnC 0 22 h (fun hq3 h=>?_) (fun hq3 h=>?_)
  ·obtain ⟨c,h⟩:=ifSome h
   obtain ⟨rshort,hr3,h⟩:=bsm h
   refine rnR hE 1 [(4,⟨[],true,(.tup [(eU rshort.1),(a16 rshort.2)]),[],0,false,none⟩)] [] (kp [6,7]) [] 304 (pc c (pc (g_e_short_ok N a (b.getD 0 0) rshort hr3) pn)) ?_
   obtain ⟨rtrim,hr4,h⟩:=bsm h
   refine rnR hE 1 [(3,⟨[],true,(eU rtrim),[],0,true,none⟩)] [] (kp [4,5]) [] 400 (pc (show Sd 29 [(.sl 1 (fun zi=>(fun zi=>([[(a16 rshort.2)]]:List (List AV)).getD zi []) (addz 0 zi)))] [] 0 (eU rtrim) [] from (Sound.conv (g_e_trim_ok N ([rshort.2]:List Int) rtrim hr4) (.cons (Alike.sl rfl (fun zq hzq=>get_chunk (cU .u16) 0 ([rshort.2]:List Int) zq hzq)) .nil))) (pc (z1 1) pn)) ?_
   obtain rfl:=osI h
   exact rnT hE 0 Tryz.f30 [] (kp [4,5]) [] 400 pn [] pn
  ·obtain ⟨c2,h⟩:=ifSome h
   obtain ⟨rLeadingZeros,hr5,h⟩:=bsm h
   refine rnR hE 2 [(6,⟨[],true,(aI rLeadingZeros),[],0,false,none⟩)] [] (kp [0,1,8]) [] 272 (pc c2 (pc (g_math_bits_LeadingZeros16_ok N (b.getD ((w64 (((b.length:Nat):Int) - 1)).toNat) 0) rLeadingZeros hr5) pn)) ?_
   obtain ⟨rshifted,hr6,h⟩:=bsm h
   obtain ⟨rshifted2,hr7,h⟩:=bsm h
   obtain ⟨c3,h⟩:=ifSome h
   refine rnR hE 1 [(2,⟨[],false,(.os 0 0 rshifted.length),[(0,aU rshifted)],0,false,none⟩),(5,⟨[],false,(.os 0 0 rshifted2.length),[(0,aU rshifted2)],0,false,none⟩)] [] (kp [8,9,10]) (kq [304,352]) 448 (pc (g_e_shifted_ok N a rLeadingZeros rshifted hr6) (pc (g_e_shifted_ok N b rLeadingZeros rshifted2 hr7) (pc c3 (pc (show 0≤((b.length:Nat):Int) from (Int.natCast_nonneg _)) pn)))) ?_
   refine rnR hE 1 [] [] (kp [8,9,10,11]) (kq [304,352]) 496 pn ?_
   obtain ⟨c4,h⟩:=ifSome h
   refine rnR hE 1 [] [] ([(4,.osl ((List.replicate ((w64 (((rshifted.length:Nat):Int) - (((b.length - 0):Nat):Int))).toNat) 0:List Int).length))] ++ kp [8,9,10,11]) (kq [304,352] ++ [(560,.arr 560 ((List.replicate ((w64 (((rshifted.length:Nat):Int) - (((b.length - 0):Nat):Int))).toNat) 0:List Int).length) (fun zi=>(cU .u16) ((List.replicate ((w64 (((rshifted.length:Nat):Int) - (((b.length - 0):Nat):Int))).toNat) 0:List Int).getD zi 0)))]) 592 (pc (show 0≤(w64 (((rshifted.length:Nat):Int) - (((b.length - 0):Nat):Int))) from c4.1) (pc (show (w64 (((rshifted.length:Nat):Int) - (((b.length - 0):Nat):Int)))≤(w64 (((rshifted.length:Nat):Int) - (((b.length - 0):Nat):Int))) from (Int.le_refl _)) (pc (show (2:Int) * (w64 (((rshifted.length:Nat):Int) - (((b.length - 0):Nat):Int)))≤281474976710656 from c4.2.1) (pc (show (w64 (((rshifted.length:Nat):Int) - (((b.length - 0):Nat):Int)))≤9223372036854775807 from c4.2.2) (pc (show (w64 (((rshifted.length:Nat):Int) - (((b.length - 0):Nat):Int))).toNat=(List.replicate ((w64 (((rshifted.length:Nat):Int) - (((b.length - 0):Nat):Int))).toNat) 0:List Int).length from (List.length_replicate).symm) (pc (show (w64 (((rshifted.length:Nat):Int) - (((b.length - 0):Nat):Int))).toNat=(List.replicate ((w64 (((rshifted.length:Nat):Int) - (((b.length - 0):Nat):Int))).toNat) 0:List Int).length from (List.length_replicate).symm) (pc (show ∀ zi,zi < (List.replicate ((w64 (((rshifted.length:Nat):Int) - (((b.length - 0):Nat):Int))).toNat) 0:List Int).length→(fun zi=>(cU .u16) ((List.replicate ((w64 (((rshifted.length:Nat):Int) - (((b.length - 0):Nat):Int))).toNat) 0:List Int).getD zi 0)) zi=(fun _=>[(a16 0)]) zi from (fun zq hzq=>get_rep (cU .u16) 0 0 ((w64 (((rshifted.length:Nat):Int) - (((b.length - 0):Nat):Int))).toNat) zq hzq)) pn))))))) ?_
   refine rnR hE 2 [] [] (kp [4,8,9,10,11,12]) (kq [304,352,560]) 688 pn ?_
   exact rnW hE 2 [] (kp [4,8,9,10,11,12]) [(0,.keep 560),(1,.keep 304),(2,.keep 352)] 3 pn (g_e_divide_L1_ok N _ _ _ N _ _ _ _ h E hE)
noncomputable def C_16 (n:Nat):Code:=cat (bodyOf Tryz.f31) (pth n)
def g_e_plus_J1_H (N:Nat) (K:(List Int)→(List Int)→Option ((List Int))):Prop:=∀ (a2:List Int) (b2:List Int) (r:(List Int)),K a2 b2=some r→∀ E,EnvOk E 0→Runs Tryz.prog E 31 56 (SPost E [] (eU r)) [.code (C_16 14),.code (C_16 15)] ⟨[(0,(eU a2)),(1,(eU b2))],[],0⟩
def g_e_plus_L2_H (N:Nat) (a2:List Int) (b2:List Int) (K:(List Int)→Int→Int→Option ((List Int))):Prop:=∀ (out:List Int) (carry:Int) (x:Int) (r:(List Int)),K out carry x=some r→∀ E,EnvOk E 0→Runs Tryz.prog E 31 56 (SPost E [] (eU r)) [.code (C_16 500),.inLoop (C_16 500),.inBlock 0,.code (C_16 63)] ⟨[(1,(eU b2)),(5,(.os 0 0 out.length)),(6,(a32 carry)),(20,(eU a2)),(21,(aI ((a2.length:Nat):Int))),(22,(aI x))],[(0,aU out)],1⟩
def g_e_plus_J3_H (N:Nat) (a2:List Int) (b2:List Int) (out:List Int) (x:Int) (K:Int→Option ((List Int))):Prop:=∀ (carry2:Int) (r:(List Int)),K carry2=some r→∀ E,EnvOk E 0→Runs Tryz.prog E 31 56 (SPost E [] (eU r)) [.code (C_16 128206),.code (C_16 128207),.inBlock 1,.code (C_16 4007),.inLoop (C_16 500),.inBlock 0,.code (C_16 63)] ⟨[(1,(eU b2)),(5,(.os 0 0 out.length)),(6,(a32 carry2)),(20,(eU a2)),(21,(aI ((a2.length:Nat):Int))),(22,(aI x))],[(0,aU out)],1⟩
theorem g_e_plus_J3_ok (N:Nat) (a2:List Int) (b2:List Int) (out:List Int) (x:Int) (K_g_e_plus_L2:(List Int)→Int→Int→Option ((List Int))) (hK_g_e_plus_L2:g_e_plus_L2_H N a2 b2 K_g_e_plus_L2):g_e_plus_J3_H N a2 b2 out x (g_e_plus_J3 N a2 b2 out x K_g_e_plus_L2):=by
 intro carry2 r h E hE
 unfold g_e_plus_J3 at h
 obtain ⟨c4,h⟩:=ifSome h
 refine rnR hE 0 [] [] (kp [1] ++ [(5,.osl ((out ++ ([(IntKind.u16.wrap (carry2))]:List Int)).length))] ++ kp [6,20,21,22]) [(65,.arr 65 ((out ++ ([(IntKind.u16.wrap (carry2))]:List Int)).length) (fun zi=>(cU .u16) ((out ++ ([(IntKind.u16.wrap (carry2))]:List Int)).getD zi 0)))] 97 (pc (Eq.refl out.length) (pc c4 (pc (z1 1) (pc (show ∀ zi,zi < 1→AV.oneL ((fun zi=>([[(a16 (IntKind.u16.wrap (carry2)))]]:List (List AV)).getD zi []) (addz 0 zi))=true from (oneN rfl)) (pc (show (out.length+1)=(out ++ ([(IntKind.u16.wrap (carry2))]:List Int)).length from (len_app_raw rfl rfl)) (pc (show out.length+1=(out ++ ([(IntKind.u16.wrap (carry2))]:List Int)).length from (len_app_raw rfl rfl)) (pc (show ∀ zi,zi < (out ++ ([(IntKind.u16.wrap (carry2))]:List Int)).length→(fun zi=>(cU .u16) ((out ++ ([(IntKind.u16.wrap (carry2))]:List Int)).getD zi 0)) zi=((fun zm=>if zm < out.length then (fun zi=>(cU .u16) (out.getD zi 0)) zm else (fun zi=>([[(a16 (IntKind.u16.wrap (carry2)))]]:List (List AV)).getD zi []) (zm - out.length))) zi from (get_app_raw (cU .u16) 0 out ([(IntKind.u16.wrap (carry2))]:List Int) rfl (fun _ _=>rfl) (fun zq hzq=>get_chunk (cU .u16) 0 ([(IntKind.u16.wrap (carry2))]:List Int) zq hzq))) pn))))))) ?_
 refine rnR hE 0 [] [] (kp [1,5,6,20,21,22]) (kq [65]) 145 (pc (show (0:Int)≤16 by decide) pn) ?_
 refine rnR hE 1 [] [] (kp [1,5,6,20,21,22]) (kq [65]) 177 pn ?_
 exact rnW hE 1 [] (kp [1,5,6,20,21,22]) [(0,.keep 65)] 1 pn (hK_g_e_plus_L2 _ _ _ _ h E hE)
theorem g_e_plus_L2_ok (N:Nat) (a2:List Int) (b2:List Int) (fuel:Nat):g_e_plus_L2_H N a2 b2 (g_e_plus_L2 N a2 b2 fuel):=by
 induction fuel with
 | zero=>intro _ _ _ r h;rw [g_e_plus_L2.eq_1] at h;cases h
 | succ fuel ih =>
  intro out carry x r h E hE
  rw [g_e_plus_L2.eq_2] at h
  refine rnR hE 1 [] [] (kp [1,5,6,20,21,22,23]) (kq [0]) 17 pn ?_
  refine rnC 1 23 h (fun hq3 h=>?_) (fun hq3 h=>?_)
  ·obtain ⟨c2,h⟩:=ifSome h
   refine rnR hE 4 [] [] (kp [1,5,6,7,8,20,21,22]) (kq [0]) 97 (pc c2 pn) ?_
   refine rnR hE 1 [] [] (kp [1,5,6,7,20,21,22]) (kq [0]) 177 pn ?_
   refine rnR hE 2 [] [] (kp [1,5,6,7,20,21,22,34]) (kq [0]) 241 pn ?_
   refine rnC 0 34 h (fun hq4 h=>?_) (fun hq4 h=>?_)
   ·obtain ⟨c3,h⟩:=ifSome h
    refine rnR hE 0 [] [] (kp [1,5,6,20,21,22]) (kq [0]) 369 (pc c3 pn) ?_
    exact rnW hE 1 [] (kp [1,5,6,20,21,22]) (kq [0]) 1 pn (g_e_plus_J3_ok N _ _ _ _ _ ih _ _ h E hE)
   ·exact rnW hE 2 [] (kp [1,5,6,20,21,22]) (kq [0]) 1 pn (g_e_plus_J3_ok N _ _ _ _ _ ih _ _ h E hE)
  ·obtain ⟨c5,h⟩:=ifSome h
   obtain ⟨rtrim,hr,h⟩:=bsm h
   refine rnR hE 2 [(5,⟨[],true,(eU rtrim),[],0,true,none⟩)] [] (kp [4]) [] 129 (pc (Eq.refl out.length) (pc c5 (pc (z1 1) (pc (show ∀ zi,zi < 1→AV.oneL ((fun zi=>([[(a16 (IntKind.u16.wrap (carry)))]]:List (List AV)).getD zi []) (addz 0 zi))=true from (oneN rfl)) (pc (show Sd 29 [(.sl (out.length+1) (fun zi=>((fun zm=>if zm < out.length then (fun zi=>(cU .u16) (out.getD zi 0)) zm else (fun zi=>([[(a16 (IntKind.u16.wrap (carry)))]]:List (List AV)).getD zi []) (zm - out.length))) (addz 0 zi)))] [] 0 (eU rtrim) [] from (Sound.conv (g_e_trim_ok N (out ++ ([(IntKind.u16.wrap (carry))]:List Int)) rtrim hr) (.cons (Alike.sl (len_app_raw rfl rfl) (get_app_raw (cU .u16) 0 out ([(IntKind.u16.wrap (carry))]:List Int) rfl (fun _ _=>rfl) (fun zq hzq=>get_chunk (cU .u16) 0 ([(IntKind.u16.wrap (carry))]:List Int) zq hzq))) .nil))) (pc (z1 (out.length+1)) pn)))))) ?_
   obtain rfl:=osI h
   exact rnT hE 0 Tryz.f31 [] (kp [4]) [] 129 pn [] pn
theorem g_e_plus_J1_ok (N:Nat):g_e_plus_J1_H N (g_e_plus_J1 N):=by
 intro a2 b2 r h E hE
 unfold g_e_plus_J1 at h
 obtain ⟨c,h⟩:=ifSome h
 refine rnR hE 0 [] [] (kp [0,1] ++ [(5,.osl ((List.replicate 0 0:List Int).length))]) [(48,.arr 48 ((List.replicate 0 0:List Int).length) (fun zi=>(cU .u16) ((List.replicate 0 0:List Int).getD zi 0)))] 80 (pc (show 0≤(0:Int) from c.1) (pc (show (0:Int)≤(w64 (((a2.length:Nat):Int)+1)) from c.2.2.2) (pc (show (2:Int) * (w64 (((a2.length:Nat):Int)+1))≤281474976710656 from c.2.1) (pc (show (w64 (((a2.length:Nat):Int)+1))≤9223372036854775807 from c.2.2.1) (pc (show 0=(List.replicate 0 0:List Int).length from (List.length_replicate).symm) (pc (show 0=(List.replicate 0 0:List Int).length from (List.length_replicate).symm) (pc (show ∀ zi,zi < (List.replicate 0 0:List Int).length→(fun zi=>(cU .u16) ((List.replicate 0 0:List Int).getD zi 0)) zi=(fun _=>[(a16 0)]) zi from (fun zq hzq=>get_rep (cU .u16) 0 0 0 zq hzq)) pn))))))) ?_
 refine rnR hE 1 [] [] (kp [0,1,5,6]) (kq [48]) 96 pn ?_
 refine rnR hE 2 [] [] (kp [1,5,6,20,21,22]) (kq [48]) 144 pn ?_
 exact rnW hE 2 [] (kp [1,5,6,20,21,22]) [(0,.keep 48)] 1 pn (g_e_plus_L2_ok N _ _ N _ _ _ _ h E hE)
theorem g_e_plus_ok (N:Nat) (a:List Int) (b:List Int) (r:(List Int)) (h:g_e_plus N a b=some r):Sd 31 [(eU a),(eU b)] [] 0 (eU r) []:=by
 unfold g_e_plus at h
 refine sor (fu:=Tryz.f31) (c:=C_16 1) (nt:=56) (by kernel_rfl) (by kernel_rfl) (by kernel_rfl) (by kernel_rfl) (fun hm=>rfl) ?_
 intro E hE
 refine rnR hE 1 [] [] (kp [0,1]) [] 16 pn ?_
 refine rnR hE 2 [] [] (kp [0,1,13]) [] 96 pn ?_
 refine rnC 0 13 h (fun hq2 h=>?_) (fun hq2 h=>?_)
 ·refine rnR hE 0 [] [] (kp [0,1]) [] 160 pn ?_
  exact rnW hE 1 [] (kp [0,1]) [] 0 pn (g_e_plus_J1_ok N _ _ _ h E hE)
 ·exact rnW hE 2 [] (kp [0,1]) [] 0 pn (g_e_plus_J1_ok N _ _ _ h E hE)
noncomputable def C_17 (n:Nat):Code:=cat (bodyOf Tryz.f32) (pth n)
def g_e_minus_L1_H (N:Nat) (a:List Int) (b:List Int) (K:(List Int)→Int→Int→Option ((List Int))):Prop:=∀ (out:List Int) (borrow:Int) (x:Int) (r:(List Int)),K out borrow x=some r→∀ E,EnvOk E 0→Runs Tryz.prog E 32 50 (SPost E [] (eU r)) [.code (C_17 244),.inLoop (C_17 244),.inBlock 0,.code (C_17 31)] ⟨[(1,(eU b)),(5,(.os 0 0 out.length)),(6,(a32 borrow)),(13,(eU a)),(14,(aI ((a.length:Nat):Int))),(15,(aI x))],[(0,aU out)],1⟩
def g_e_minus_J2_H (N:Nat) (a:List Int) (b:List Int) (out:List Int) (x:Int) (K:Int→Option ((List Int))):Prop:=∀ (y:Int) (r:(List Int)),K y=some r→∀ E,EnvOk E 0→Runs Tryz.prog E 32 50 (SPost E [] (eU r)) [.code (C_17 62670),.code (C_17 62671),.inBlock 1,.code (C_17 1959),.inLoop (C_17 244),.inBlock 0,.code (C_17 31)] ⟨[(1,(eU b)),(5,(.os 0 0 out.length)),(7,(aI x)),(8,(a16 (a.getD ((x).toNat) 0))),(9,(a32 y)),(13,(eU a)),(14,(aI ((a.length:Nat):Int))),(15,(aI x))],[(0,aU out)],1⟩
def g_e_minus_J3_H (N:Nat) (a:List Int) (b:List Int) (out:List Int) (x:Int) (y:Int) (K:Int→Option ((List Int))):Prop:=∀ (borrow2:Int) (r:(List Int)),K borrow2=some r→∀ E,EnvOk E 0→Runs Tryz.prog E 32 50 (SPost E [] (eU r)) [.code (C_17 125343),.inBlock 1,.code (C_17 1959),.inLoop (C_17 244),.inBlock 0,.code (C_17 31)] ⟨[(1,(eU b)),(5,(.os 0 0 out.length)),(6,(a32 borrow2)),(7,(aI x)),(8,(a16 (a.getD ((x).toNat) 0))),(9,(a32 y)),(13,(eU a)),(14,(aI ((a.length:Nat):Int))),(15,(aI x))],[(0,aU out)],1⟩
theorem g_e_minus_J3_ok (N:Nat) (a:List Int) (b:List Int) (out:List Int) (x:Int) (y:Int) (K_g_e_minus_L1:(List Int)→Int→Int→Option ((List Int))) (hK_g_e_minus_L1:g_e_minus_L1_H N a b K_g_e_minus_L1):g_e_minus_J3_H N a b out x y (g_e_minus_J3 N a b out x y K_g_e_minus_L1):=by
 intro borrow2 r h E hE
 unfold g_e_minus_J3 at h
 obtain ⟨c4,h⟩:=ifSome h
 refine rnR hE 0 [] [] (kp [1] ++ [(5,.osl ((out.set ((x).toNat) (IntKind.u16.wrap ((IntKind.u32.wrap ((IntKind.u32.wrap ((IntKind.u32.wrap ((a.getD ((x).toNat) 0)))+(shlI .u32 borrow2 16))) - y))))).length))] ++ kp [6,13,14,15]) [(0,.arr 0 ((out.set ((x).toNat) (IntKind.u16.wrap ((IntKind.u32.wrap ((IntKind.u32.wrap ((IntKind.u32.wrap ((a.getD ((x).toNat) 0)))+(shlI .u32 borrow2 16))) - y))))).length) (fun zi=>(cU .u16) ((out.set ((x).toNat) (IntKind.u16.wrap ((IntKind.u32.wrap ((IntKind.u32.wrap ((IntKind.u32.wrap ((a.getD ((x).toNat) 0)))+(shlI .u32 borrow2 16))) - y))))).getD zi 0)))] 193 (pc (show (0:Int)≤16 by decide) (pc c4 (pc (ltOf c4) (pc (len_set0 out ((x).toNat) (IntKind.u16.wrap ((IntKind.u32.wrap ((IntKind.u32.wrap ((IntKind.u32.wrap ((a.getD ((x).toNat) 0)))+(shlI .u32 borrow2 16))) - y))))) (pc (len_set0 out ((x).toNat) (IntKind.u16.wrap ((IntKind.u32.wrap ((IntKind.u32.wrap ((IntKind.u32.wrap ((a.getD ((x).toNat) 0)))+(shlI .u32 borrow2 16))) - y))))) (pc (get_set0 (cU .u16) 0 out ((x).toNat) (IntKind.u16.wrap ((IntKind.u32.wrap ((IntKind.u32.wrap ((IntKind.u32.wrap ((a.getD ((x).toNat) 0)))+(shlI .u32 borrow2 16))) - y))))) pn)))))) ?_
 refine rnR hE 1 [] [] (kp [1,5,6,13,14,15]) (kq [0]) 225 pn ?_
 exact rnW hE 1 [] (kp [1,5,6,13,14,15]) (kq [0]) 1 pn (hK_g_e_minus_L1 _ _ _ _ h E hE)
theorem g_e_minus_J2_ok (N:Nat) (a:List Int) (b:List Int) (out:List Int) (x:Int) (K_g_e_minus_L1:(List Int)→Int→Int→Option ((List Int))) (hK_g_e_minus_L1:g_e_minus_L1_H N a b K_g_e_minus_L1):g_e_minus_J2_H N a b out x (g_e_minus_J2 N a b out x K_g_e_minus_L1):=by
 intro y r h E hE
 unfold g_e_minus_J2 at h
 refine rnR hE 0 [] [] (kp [1,5,6,7,8,9,13,14,15]) (kq [0]) 17 pn ?_
 refine rnR hE 2 [] [] (kp [1,5,6,7,8,9,13,14,15,35]) (kq [0]) 81 pn ?_
 refine rnC 0 35 h (fun hq4 h=>?_) (fun hq4 h=>?_)
 ·refine rnR hE 0 [] [] (kp [1,5,6,7,8,9,13,14,15]) (kq [0]) 97 pn ?_
  exact rnW hE 0 [] (kp [1,5,6,7,8,9,13,14,15]) (kq [0]) 1 pn (g_e_minus_J3_ok N _ _ _ _ _ _ hK_g_e_minus_L1 _ _ h E hE)
 ·exact rnW hE 1 [] (kp [1,5,6,7,8,9,13,14,15]) (kq [0]) 1 pn (g_e_minus_J3_ok N _ _ _ _ _ _ hK_g_e_minus_L1 _ _ h E hE)
theorem g_e_minus_L1_ok (N:Nat) (a:List Int) (b:List Int) (fuel:Nat):g_e_minus_L1_H N a b (g_e_minus_L1 N a b fuel):=by
 induction fuel with
 | zero=>intro _ _ _ r h;rw [g_e_minus_L1.eq_1] at h;cases h
 | succ fuel ih =>
  intro out borrow x r h E hE
  rw [g_e_minus_L1.eq_2] at h
  refine rnR hE 1 [] [] (kp [1,5,6,13,14,15,16]) (kq [0]) 17 pn ?_
  refine rnC 1 16 h (fun hq2 h=>?_) (fun hq2 h=>?_)
  ·obtain ⟨c2,h⟩:=ifSome h
   refine rnR hE 4 [] [] (kp [1,5,6,7,8,13,14,15]) (kq [0]) 97 (pc c2 pn) ?_
   refine rnR hE 1 [] [] (kp [1,5,7,8,9,13,14,15]) (kq [0]) 129 pn ?_
   refine rnR hE 2 [] [] (kp [1,5,7,8,9,13,14,15,24]) (kq [0]) 193 pn ?_
   refine rnC 0 24 h (fun hq3 h=>?_) (fun hq3 h=>?_)
   ·obtain ⟨c3,h⟩:=ifSome h
    refine rnR hE 0 [] [] (kp [1,5,7,8,9,13,14,15]) (kq [0]) 321 (pc c3 pn) ?_
    exact rnW hE 1 [] (kp [1,5,7,8,9,13,14,15]) (kq [0]) 1 pn (g_e_minus_J2_ok N _ _ _ _ _ ih _ _ h E hE)
   ·exact rnW hE 2 [] (kp [1,5,7,8,9,13,14,15]) (kq [0]) 1 pn (g_e_minus_J2_ok N _ _ _ _ _ ih _ _ h E hE)
  ·obtain ⟨rtrim,hr,h⟩:=bsm h
   refine rnR hE 2 [(1,⟨[],true,(eU rtrim),[],0,true,none⟩)] [] (kp [4]) [] 65 (pc (g_e_trim_ok N out rtrim hr) (pc (z1 out.length) pn)) ?_
   obtain rfl:=osI h
   exact rnT hE 0 Tryz.f32 [] (kp [4]) [] 65 pn [] pn
theorem g_e_minus_ok (N:Nat) (a:List Int) (b:List Int) (r:(List Int)) (h:g_e_minus N a b=some r):Sd 32 [(eU a),(eU b)] [] 0 (eU r) []:=by
 unfold g_e_minus at h
 refine sor (fu:=Tryz.f32) (c:=C_17 1) (nt:=50) (by kernel_rfl) (by kernel_rfl) (by kernel_rfl) (by kernel_rfl) (fun hm=>rfl) ?_
 intro E hE
 refine rnR hE 1 [] [] (kp [0,1]) [] 16 pn ?_
 obtain ⟨c,h⟩:=ifSome h
 refine rnR hE 1 [] [] (kp [0,1] ++ [(5,.osl ((List.replicate a.length 0:List Int).length))]) [(48,.arr 48 ((List.replicate a.length 0:List Int).length) (fun zi=>(cU .u16) ((List.replicate a.length 0:List Int).getD zi 0)))] 80 (pc (show 0≤((a.length:Nat):Int) from c.1) (pc (show ((a.length:Nat):Int)≤((a.length:Nat):Int) from (Int.le_refl _)) (pc (show (2:Int) * ((a.length:Nat):Int)≤281474976710656 from c.2.1) (pc (show ((a.length:Nat):Int)≤9223372036854775807 from c.2.2) (pc (show a.length=(List.replicate a.length 0:List Int).length from (List.length_replicate).symm) (pc (show a.length=(List.replicate a.length 0:List Int).length from (List.length_replicate).symm) (pc (show ∀ zi,zi < (List.replicate a.length 0:List Int).length→(fun zi=>(cU .u16) ((List.replicate a.length 0:List Int).getD zi 0)) zi=(fun _=>[(a16 0)]) zi from (fun zq hzq=>get_rep (cU .u16) 0 0 a.length zq hzq)) pn))))))) ?_
 refine rnR hE 1 [] [] (kp [0,1,5,6]) (kq [48]) 96 pn ?_
 refine rnR hE 2 [] [] (kp [1,5,6,13,14,15]) (kq [48]) 144 pn ?_
 exact rnW hE 2 [] (kp [1,5,6,13,14,15]) [(0,.keep 48)] 1 pn (g_e_minus_L1_ok N _ _ N _ _ _ _ h E hE)
noncomputable def C_18 (n:Nat):Code:=cat (bodyOf Tryz.f33) (pth n)
theorem g_e_signed_ok (N:Nat) (neg:Bool) (n:List Int) (r:TInt) (h:g_e_signed N neg n=some r):Sd 33 [(aB neg),(eU n)] [] 0 (.agg (TIc r)) []:=by
 unfold g_e_signed at h
 refine sor (fu:=Tryz.f33) (c:=C_18 1) (nt:=15) (by kernel_rfl) (by kernel_rfl) (by kernel_rfl) (by kernel_rfl) (fun hm=>rfl) ?_
 intro E hE
 refine rnR hE 1 [] [] (kp [0,1,4]) (kq [0]) 16 pn ?_
 obtain ⟨rtrim,hr,h⟩:=bsm h
 refine rnR hE 1 [(1,⟨[],true,(eU rtrim),[],0,false,none⟩)] [] (kp [0,1,4]) (kq [0]) 64 (pc (g_e_trim_ok N n rtrim hr) pn) ?_
 refine rnR hE 2 [] [] (kp [0,1,4,9]) (kq [0]) 112 pn ?_
 refine rnC 0 9 h (fun hq2 h=>?_) (fun hq2 h=>?_)
 ·refine rnR hE 1 [] [] (kp [4]) (kq [0]) 144 (pc o1 pn) ?_
  obtain rfl:=osI h
  exact rnT hE 0 Tryz.f33 [] (kp [4]) [(16,.var 0 [.keep,.sl (([]:List Int).length) (fun zi=>(cU .u16) (([]:List Int).getD zi 0))])] 144 (pc (Eq.refl 0) pn) [16] (pc o1 pn)
 ·obtain ⟨rClone,hr2,h⟩:=bsm h
  refine rnR hE 2 [(2,⟨[],true,(eU rClone),[],0,false,none⟩)] [] (kp [4]) (kq [0]) 192 (pc (g_slices_Clone_uint16_uint16_ok N rtrim rClone hr2) (pc o1 pn)) ?_
  obtain rfl:=osI h
  exact rnT hE 0 Tryz.f33 [] (kp [4]) [(16,.keep 0)] 192 pn [16] (pc o1 pn)
noncomputable def C_6 (n:Nat):Code:=cat (bodyOf Tryz.f12) (pth n)
def g_e_DivMod_J1_H (N:Nat) (a:TInt) (b:TInt) (K:(List Int)→(List Int)→Option (TInt×TInt×Int)):Prop:=∀ (n:List Int) (rest:List Int) (r:TInt×TInt×Int),K n rest=some r→∀ E,EnvOk E 0→Runs Tryz.prog E 12 50 (SPost E [] (.tup [(.agg (TIc r.1)),(.agg (TIc r.2.1)),(aI r.2.2)])) [.code (C_6 126),.code (C_6 127)] ⟨[(2,(.op 0 0 0)),(3,(.op 1 0 0)),(4,(.op 2 0 0)),(5,(.op 3 0 0)),(9,(eU n)),(10,(eU rest))],[(0,vO 2 (TIc a)),(1,vO 2 (TIc b)),(2,vO 2 [(aB false),.nil]),(3,vO 2 [(aB false),.nil])],4⟩
theorem g_e_DivMod_J1_ok (N:Nat) (a:TInt) (b:TInt):g_e_DivMod_J1_H N a b (g_e_DivMod_J1 N a b):=by
 intro n rest r h E hE
 unfold g_e_DivMod_J1 at h
 obtain ⟨rSg,hr6,h⟩:=bsm h
 obtain ⟨rSg2,hr7,h⟩:=bsm h
 refine rnR hE 0 [(6,⟨[],true,(.agg (TIc rSg)),[],0,false,none⟩),(8,⟨[],true,(.agg (TIc rSg2)),[],0,false,none⟩)] [] (kp [4,5,6]) (kq [2,3]) 196 (pc o1 (pc o1 (pc (g_e_signed_ok N (!(a.fG == b.fG)) n rSg hr6) (pc (g_e_signed_ok N false rest rSg2 hr7) (pc o1 (pc o1 pn)))))) ?_
 obtain rfl:=osI h
 exact rnT hE 0 Tryz.f12 [] (kp [4,5,6]) [(16,.keep 2),(17,.keep 3)] 196 pn [16,17] (pc o1 (pc o1 pn))
theorem g_e_DivMod_ok (N:Nat) (a:TInt) (b:TInt) (r:TInt×TInt×Int) (h:g_e_DivMod N a b=some r):Sd 12 [(.agg (TIc a)),(.agg (TIc b))] [] 0 (.tup [(.agg (TIc r.1)),(.agg (TIc r.2.1)),(aI r.2.2)]) []:=by
 unfold g_e_DivMod at h
 refine sor (fu:=Tryz.f12) (c:=C_6 1) (nt:=50) (by kernel_rfl) (by kernel_rfl) (by kernel_rfl) (by kernel_rfl) (fun hm=>rfl) ?_
 intro E hE
 refine rnR hE 1 [] [] (kp [2,3,4,5]) (kq [0,16,32,48]) 80 pn ?_
 obtain ⟨rtrim,hr,h⟩:=bsm h
 obtain ⟨rtrim2,hr2,h⟩:=bsm h
 refine rnR hE 1 [(2,⟨[],true,(eU rtrim),[],0,false,none⟩),(5,⟨[],true,(eU rtrim2),[],0,false,none⟩)] [] (kp [2,3,4,5,7,8]) (kq [0,16,32,48]) 208 (pc o1 (pc (g_e_trim_ok N a.fL rtrim hr) (pc o1 (pc (g_e_trim_ok N b.fL rtrim2 hr2) pn)))) ?_
 refine rnR hE 2 [] [] (kp [2,3,4,5,7,8,19]) (kq [0,16,32,48]) 256 pn ?_
 refine rnC 0 19 h (fun hq2 h=>?_) (fun hq2 h=>?_)
 ·refine rnR hE 1 [] [] (kp [4,5,6]) (kq [32,48]) 336 (pc o1 (pc o1 pn)) ?_
  obtain rfl:=osI h
  exact rnT hE 0 Tryz.f12 [] (kp [4,5,6]) [(16,.var 32 [.keep,.sl (([]:List Int).length) (fun zi=>(cU .u16) (([]:List Int).getD zi 0))]),(17,.var 48 [.keep,.sl (([]:List Int).length) (fun zi=>(cU .u16) (([]:List Int).getD zi 0))])] 336 (pc (Eq.refl 0) (pc (Eq.refl 0) pn)) [16,17] (pc o1 (pc o1 pn))
 ·obtain ⟨rdivide,hr3,h⟩:=bsm h
  refine rnR hE 2 [(2,⟨[],true,(.tup [(eU rdivide.1),(eU rdivide.2)]),[],0,false,none⟩)] [] (kp [2,3,4,5,8,9,10]) (kq [0,16,32,48]) 384 (pc (g_e_divide_ok N rtrim rtrim2 rdivide hr3) pn) ?_
  refine rnR hE 2 [] [] (kp [2,3,4,5,8,9,10,34]) (kq [0,16,32,48]) 496 (pc o1 (pc (fun hg:a.fG=true=>(pc hg pn)) (pc (fun hg:a.fG=true=>(pc hg pn)) (pc (fun hq:a.fG=true=>(pc hq pn)) pn)))) ?_
  refine rnC 0 34 h (fun hq3 h=>?_) (fun hq3 h=>?_)
  ·obtain ⟨rplus,hr4,h⟩:=bsm h
   obtain ⟨rminus,hr5,h⟩:=bsm h
   refine rnR hE 0 [(2,⟨[],true,(eU rplus),[],0,true,none⟩),(5,⟨[],true,(eU rminus),[],0,false,none⟩)] [] (kp [2,3,4,5,9,10]) (kq [0,16,32,48]) 624 (pc (show Sd 31 [(eU rdivide.1),(.sl 1 (fun zi=>(fun zi=>([[(a16 1)]]:List (List AV)).getD zi []) (addz 0 zi)))] [] 0 (eU rplus) [] from (Sound.conv (g_e_plus_ok N rdivide.1 ([1]:List Int) rplus hr4) (.cons (Alike.refl _) (.cons (Alike.sl rfl (fun zq hzq=>get_chunk (cU .u16) 0 ([1]:List Int) zq hzq)) .nil)))) (pc (z1 1) (pc (g_e_minus_ok N rtrim2 rdivide.2 rminus hr5) pn))) ?_
   exact rnW hE 1 [] (kp [2,3,4,5,9,10]) (kq [0] ++ [(1,.keep 16),(2,.keep 32),(3,.keep 48)]) 4 pn (g_e_DivMod_J1_ok N _ _ _ _ _ h E hE)
  ·exact rnW hE 2 [] (kp [2,3,4,5,9,10]) (kq [0] ++ [(1,.keep 16),(2,.keep 32),(3,.keep 48)]) 4 pn (g_e_DivMod_J1_ok N _ _ _ _ _ h E hE)
noncomputable def C_21 (n:Nat):Code:=cat (bodyOf Tryz.f62) (pth n)
def g_e_natural_L1_H (N:Nat) (K:Int→(List Int)→Option ((List Int))):Prop:=∀ (n2:Int) (out:List Int) (r:(List Int)),K n2 out=some r→∀ E,EnvOk E 0→Runs Tryz.prog E 62 14 (SPost E [] (eU r)) [.code (C_21 56),.inLoop (C_21 56),.inBlock 0,.code (C_21 15)] ⟨[(0,(a64 n2)),(3,(.os 0 0 out.length))],[(0,aU out)],1⟩
theorem g_e_natural_L1_ok (N:Nat) (fuel:Nat):g_e_natural_L1_H N (g_e_natural_L1 N fuel):=by
 induction fuel with
 | zero=>intro _ _ r h;rw [g_e_natural_L1.eq_1] at h;cases h
 | succ fuel ih =>
  intro n2 out r h E hE
  rw [g_e_natural_L1.eq_2] at h
  refine rnR hE 2 [] [] (kp [0,3,5]) (kq [0]) 33 pn ?_
  refine rnC 0 5 h (fun hq2 h=>?_) (fun hq2 h=>?_)
  ·obtain ⟨c,h⟩:=ifSome h
   refine rnR hE 3 [] [] (kp [0] ++ [(3,.osl ((out ++ ([(IntKind.u16.wrap (n2))]:List Int)).length))]) [(97,.arr 97 ((out ++ ([(IntKind.u16.wrap (n2))]:List Int)).length) (fun zi=>(cU .u16) ((out ++ ([(IntKind.u16.wrap (n2))]:List Int)).getD zi 0)))] 129 (pc (Eq.refl out.length) (pc c (pc (z1 1) (pc (show ∀ zi,zi < 1→AV.oneL ((fun zi=>([[(a16 (IntKind.u16.wrap (n2)))]]:List (List AV)).getD zi []) (addz 0 zi))=true from (oneN rfl)) (pc (show (out.length+1)=(out ++ ([(IntKind.u16.wrap (n2))]:List Int)).length from (len_app_raw rfl rfl)) (pc (show out.length+1=(out ++ ([(IntKind.u16.wrap (n2))]:List Int)).length from (len_app_raw rfl rfl)) (pc (show ∀ zi,zi < (out ++ ([(IntKind.u16.wrap (n2))]:List Int)).length→(fun zi=>(cU .u16) ((out ++ ([(IntKind.u16.wrap (n2))]:List Int)).getD zi 0)) zi=((fun zm=>if zm < out.length then (fun zi=>(cU .u16) (out.getD zi 0)) zm else (fun zi=>([[(a16 (IntKind.u16.wrap (n2)))]]:List (List AV)).getD zi []) (zm - out.length))) zi from (get_app_raw (cU .u16) 0 out ([(IntKind.u16.wrap (n2))]:List Int) rfl (fun _ _=>rfl) (fun zq hzq=>get_chunk (cU .u16) 0 ([(IntKind.u16.wrap (n2))]:List Int) zq hzq))) pn))))))) ?_
   refine rnR hE 1 [] [] (kp [0,3]) (kq [97]) 177 (pc (show (0:Int)≤16 by decide) pn) ?_
   exact rnW hE 1 [] (kp [0,3]) [(0,.keep 97)] 1 pn (ih _ _ _ h E hE)
  ·refine rnR hE 2 [] [] (kp [2]) (kq [0]) 65 pn ?_
   obtain rfl:=osI h
   exact rnT hE 0 Tryz.f62 [0] [(2,.sl (out.length) (fun zi=>(cU .u16) (out.getD zi 0)))] [] 65 (pc (Eq.refl out.length) (pc (z1 out.length) (pc (show ∀ zi,zi < out.length→(fun zi=>(cU .u16) (out.getD zi 0)) zi=(fun zi=>(cU .u16) (out.getD zi 0)) (addz 0 zi) from (fun _ _=>rfl)) pn))) [] pn
theorem g_e_natural_ok (N:Nat) (n:Int) (r:(List Int)) (h:g_e_natural N n=some r):Sd 62 [(a64 n)] [] 0 (eU r) []:=by
 unfold g_e_natural at h
 refine sor (fu:=Tryz.f62) (c:=C_21 1) (nt:=14) (by kernel_rfl) (by kernel_rfl) (by kernel_rfl) (by kernel_rfl) (fun hm=>rfl) ?_
 intro E hE
 refine rnR hE 1 [] [] (kp [0]) [] 16 pn ?_
 refine rnR hE 1 [] [] (kp [0,3]) [] 32 pn ?_
 exact rnW hE 3 [] (kp [0] ++ [(3,.nilos 0)]) [(0,.nil 1 (fun zi=>(cU .u16) (([]:List Int).getD zi 0)))] 1 pn (g_e_natural_L1_ok N N _ _ _ h E hE)
noncomputable def C_20 (n:Nat):Code:=cat (bodyOf Tryz.f36) (pth n)
theorem g_e_Of_ok (N:Nat) (n:Int) (r:TInt) (h:g_e_Of N n=some r):Sd 36 [(aI n)] [] 0 (.agg (TIc r)) []:=by
 unfold g_e_Of at h
 refine sor (fu:=Tryz.f36) (c:=C_20 1) (nt:=14) (by kernel_rfl) (by kernel_rfl) (by kernel_rfl) (by kernel_rfl) (fun hm=>rfl) ?_
 intro E hE
 refine rnR hE 1 [] [] (kp [0,2]) (kq [0]) 16 pn ?_
 refine rnR hE 2 [] [] (kp [0,2,4]) (kq [0]) 48 pn ?_
 refine rnC 0 4 h (fun hq2 h=>?_) (fun hq2 h=>?_)
 ·obtain ⟨rnatural,hr,h⟩:=bsm h
  obtain ⟨rSg,hr2,h⟩:=bsm h
  refine rnR hE 1 [(3,⟨[],true,(eU rnatural),[],0,false,none⟩),(4,⟨[],true,(.agg (TIc rSg)),[],0,false,none⟩)] [] (kp [2]) (kq [0]) 144 (pc (g_e_natural_ok N (IntKind.u64.wrap (0 - (IntKind.u64.wrap (n)))) rnatural hr) (pc (g_e_signed_ok N true rnatural rSg hr2) (pc o1 pn))) ?_
  obtain rfl:=osI h
  exact rnT hE 0 Tryz.f36 [] (kp [2]) [(16,.keep 0)] 144 pn [16] (pc o1 pn)
 ·obtain ⟨rnatural2,hr3,h⟩:=bsm h
  obtain ⟨rSg2,hr4,h⟩:=bsm h
  refine rnR hE 2 [(2,⟨[],true,(eU rnatural2),[],0,false,none⟩),(3,⟨[],true,(.agg (TIc rSg2)),[],0,false,none⟩)] [] (kp [2]) (kq [0]) 128 (pc (g_e_natural_ok N (IntKind.u64.wrap (n)) rnatural2 hr3) (pc (g_e_signed_ok N false rnatural2 rSg2 hr4) (pc o1 pn))) ?_
  obtain rfl:=osI h
  exact rnT hE 0 Tryz.f36 [] (kp [2]) [(16,.keep 0)] 128 pn [16] (pc o1 pn)
noncomputable def C_24 (n:Nat):Code:=cat (bodyOf Tryz.f89) (pth n)
def g_e_word_L1_H (N:Nat) (n:List Int) (K:Int→Int→Option (Int×Bool)):Prop:=∀ (out:Int) (i:Int) (r:Int×Bool),K out i=some r→∀ E,EnvOk E 0→Runs Tryz.prog E 89 25 (SPost E [] (.tup [(a64 r.1),(aB r.2)])) [.code (C_24 244),.inLoop (C_24 244),.inBlock 0,.code (C_24 31)] ⟨[(0,(eU n)),(4,(a64 out)),(5,(aI i))],[],0⟩
theorem g_e_word_L1_ok (N:Nat) (n:List Int) (fuel:Nat):g_e_word_L1_H N n (g_e_word_L1 N n fuel):=by
 induction fuel with
 | zero=>intro _ _ r h;rw [g_e_word_L1.eq_1] at h;cases h
 | succ fuel ih =>
  intro out i r h E hE
  rw [g_e_word_L1.eq_2] at h
  refine rnR hE 2 [] [] (kp [0,4,5,13]) [] 32 pn ?_
  refine rnC 0 13 h (fun hq3 h=>?_) (fun hq3 h=>?_)
  ·obtain ⟨c,h⟩:=ifSome h
   refine rnR hE 3 [] [] (kp [0,4,5]) [] 176 (pc (show (0:Int)≤16 by decide) (pc c pn)) ?_
   refine rnR hE 1 [] [] (kp [0,4,5]) [] 224 pn ?_
   exact rnW hE 1 [] (kp [0,4,5]) [] 0 pn (ih _ _ _ h E hE)
  ·refine rnR hE 2 [] [] (kp [2,3]) [] 80 pn ?_
   obtain rfl:=osI h
   exact rnT hE 0 Tryz.f89 [] (kp [2,3]) [] 80 pn [] pn
theorem g_e_word_ok (N:Nat) (n:List Int) (r:Int×Bool) (h:g_e_word N n=some r):Sd 89 [(eU n)] [] 0 (.tup [(a64 r.1),(aB r.2)]) []:=by
 unfold g_e_word at h
 refine sor (fu:=Tryz.f89) (c:=C_24 1) (nt:=25) (by kernel_rfl) (by kernel_rfl) (by kernel_rfl) (by kernel_rfl) (fun hm=>rfl) ?_
 intro E hE
 refine rnR hE 1 [] [] (kp [0]) [] 32 pn ?_
 refine rnR hE 2 [] [] (kp [0,8]) [] 80 pn ?_
 refine rnC 0 8 h (fun hq2 h=>?_) (fun hq2 h=>?_)
 ·refine rnR hE 1 [] [] (kp [2,3]) [] 112 pn ?_
  obtain rfl:=osI h
  exact rnT hE 0 Tryz.f89 [] (kp [2,3]) [] 112 pn [] pn
 ·refine rnR hE 2 [] [] (kp [0,4]) [] 96 pn ?_
  refine rnR hE 2 [] [] (kp [0,4,5]) [] 160 pn ?_
  exact rnW hE 2 [] (kp [0,4,5]) [] 0 pn (g_e_word_L1_ok N _ N _ _ _ h E hE)
noncomputable def C_23 (n:Nat):Code:=cat (bodyOf Tryz.f61) (pth n)
def g_e_common_L1_H (N:Nat) (K:(List Int)→(List Int)→Option ((List Int))):Prop:=∀ (a2:List Int) (b2:List Int) (r:(List Int)),K a2 b2=some r→∀ E,EnvOk E 0→Runs Tryz.prog E 61 45 (SPost E [] (eU r)) [.code (C_23 24),.inLoop (C_23 24),.inBlock 0,.code (C_23 7)] ⟨[(0,(eU a2)),(1,(eU b2))],[],0⟩
def g_e_common_L2_H (N:Nat) (K:Int→Int→Option ((List Int))):Prop:=∀ (x:Int) (y:Int) (r:(List Int)),K x y=some r→∀ E,EnvOk E 0→Runs Tryz.prog E 61 45 (SPost E [] (eU r)) [.code (C_23 25296),.inLoop (C_23 25296),.inBlock 2,.code (C_23 6325),.code (C_23 791),.inBlock 1,.inLoop (C_23 24),.inBlock 0,.code (C_23 7)] ⟨[(5,(a64 x)),(7,(a64 y))],[],0⟩
theorem g_e_common_L2_ok (N:Nat) (K_g_e_common_L1:(List Int)→(List Int)→Option ((List Int))) (hK_g_e_common_L1:g_e_common_L1_H N K_g_e_common_L1) (fuel:Nat):g_e_common_L2_H N (g_e_common_L2 N K_g_e_common_L1 fuel):=by
 induction fuel with
 | zero=>intro _ _ r h;rw [g_e_common_L2.eq_1] at h;cases h
 | succ fuel ih =>
  intro x y r h E hE
  rw [g_e_common_L2.eq_2] at h
  refine rnR hE 2 [] [] (kp [5,7,29]) [] 32 pn ?_
  refine rnC 0 29 h (fun hq4 h=>?_) (fun hq4 h=>?_)
  ·obtain ⟨c,h⟩:=ifSome h
   refine rnR hE 2 [] [] (kp [5,7]) [] 128 (pc c pn) ?_
   exact rnW hE 2 [] (kp [5,7]) [] 0 pn (ih _ _ _ h E hE)
  ·obtain ⟨rnatural,hr3,h⟩:=bsm h
   refine rnR hE 2 [(1,⟨[],true,(eU rnatural),[],0,false,none⟩)] [] (kp [4]) [] 80 (pc (g_e_natural_ok N x rnatural hr3) pn) ?_
   obtain rfl:=osI h
   exact rnT hE 0 Tryz.f61 [] (kp [4]) [] 80 pn [] pn
theorem g_e_common_L1_ok (N:Nat) (fuel:Nat):g_e_common_L1_H N (g_e_common_L1 N fuel):=by
 induction fuel with
 | zero=>intro _ _ r h;rw [g_e_common_L1.eq_1] at h;cases h
 | succ fuel ih =>
  intro a2 b2 r h E hE
  rw [g_e_common_L1.eq_2] at h
  refine rnR hE 2 [] [] (kp [0,1,13]) [] 48 pn ?_
  refine rnC 0 13 h (fun hq2 h=>?_) (fun hq2 h=>?_)
  ·obtain ⟨rword,hr,h⟩:=bsm h
   refine rnR hE 3 [(1,⟨[],true,(.tup [(a64 rword.1),(aB rword.2)]),[],0,false,none⟩)] [] (kp [0,1,5,6]) [] 160 (pc (g_e_word_ok N a2 rword hr) pn) ?_
   obtain ⟨rword2,hr2,h⟩:=bsm h
   refine rnR hE 1 [(1,⟨[],true,(.tup [(a64 rword2.1),(aB rword2.2)]),[],0,false,none⟩)] [] (kp [0,1,5,6,7,8]) [] 272 (pc (g_e_word_ok N b2 rword2 hr2) pn) ?_
   refine rnR hE 2 [] [] (kp [0,1,5,7,27]) [] 336 (pc (fun hq:rword.2=true=>(pc hq pn)) pn) ?_
   refine rnC 0 27 h (fun hq3 h=>?_) (fun hq3 h=>?_)
   ·exact rnW hE 3 [] (kp [5,7]) [] 0 pn (g_e_common_L2_ok N _ ih N _ _ _ h E hE)
   ·obtain ⟨rdivide,hr4,h⟩:=bsm h
    refine rnR hE 2 [(2,⟨[],true,(.tup [(eU rdivide.1),(eU rdivide.2)]),[],0,false,none⟩)] [] (kp [1,10]) [] 464 (pc (g_e_divide_ok N a2 b2 rdivide hr4) pn) ?_
    refine rnR hE 0 [] [] (kp [0,1]) [] 528 pn ?_
    exact rnW hE 2 [] (kp [0,1]) [] 0 pn (ih _ _ _ h E hE)
  ·refine rnR hE 2 [] [] (kp [4]) [] 80 pn ?_
   obtain rfl:=osI h
   exact rnT hE 0 Tryz.f61 [] (kp [4]) [] 80 pn [] pn
theorem g_e_common_ok (N:Nat) (a:List Int) (b:List Int) (r:(List Int)) (h:g_e_common N a b=some r):Sd 61 [(eU a),(eU b)] [] 0 (eU r) []:=by
 unfold g_e_common at h
 refine sor (fu:=Tryz.f61) (c:=C_23 1) (nt:=45) (by kernel_rfl) (by kernel_rfl) (by kernel_rfl) (by kernel_rfl) (fun hm=>rfl) ?_
 intro E hE
 refine rnR hE 1 [] [] (kp [0,1]) [] 16 pn ?_
 exact rnW hE 3 [] (kp [0,1]) [] 0 pn (g_e_common_L1_ok N N _ _ _ h E hE)
noncomputable def C_22 (n:Nat):Code:=cat (bodyOf Tryz.f35) (pth n)
def g_e_fraction_J1_H (N:Nat) (a:TInt) (b:TInt) (K:(List Int)→(List Int)→Option (TRat)):Prop:=∀ (x:List Int) (y:List Int) (r:TRat),K x y=some r→∀ E,EnvOk E 0→Runs Tryz.prog E 35 48 (SPost E [] (.agg (TRc r))) [.code (C_22 62),.code (C_22 63)] ⟨[(2,(.op 0 0 0)),(3,(.op 1 0 0)),(4,(.op 2 0 0)),(5,(eU x)),(6,(eU y))],[(0,vO 2 (TIc a)),(1,vO 2 (TIc b)),(2,vO 4 [(aB false),.nil,(aB false),.nil])],3⟩
theorem g_e_fraction_J1_ok (N:Nat) (a:TInt) (b:TInt):g_e_fraction_J1_H N a b (g_e_fraction_J1 N a b):=by
 intro x y r h E hE
 unfold g_e_fraction_J1 at h
 obtain ⟨rSg,hr6,h⟩:=bsm h
 obtain ⟨rSg2,hr7,h⟩:=bsm h
 refine rnR hE 0 [(6,⟨[],true,(.agg (TIc rSg)),[],0,false,none⟩),(8,⟨[],true,(.agg (TIc rSg2)),[],0,false,none⟩)] [] (kp [4]) (kq [2]) 179 (pc o1 (pc o1 (pc (g_e_signed_ok N (!(a.fG == b.fG)) x rSg hr6) (pc (g_e_signed_ok N false y rSg2 hr7) (pc o1 pn))))) ?_
 obtain rfl:=osI h
 exact rnT hE 0 Tryz.f35 [] (kp [4]) [(16,.keep 2)] 179 pn [16] (pc o1 pn)
theorem g_e_fraction_ok (N:Nat) (a:TInt) (b:TInt) (r:TRat) (h:g_e_fraction N a b=some r):Sd 35 [(.agg (TIc a)),(.agg (TIc b))] [] 0 (.agg (TRc r)) []:=by
 unfold g_e_fraction at h
 refine sor (fu:=Tryz.f35) (c:=C_22 1) (nt:=48) (by kernel_rfl) (by kernel_rfl) (by kernel_rfl) (by kernel_rfl) (fun hm=>rfl) ?_
 intro E hE
 refine rnR hE 1 [] [] (kp [2,3,4]) (kq [0,16,32]) 48 pn ?_
 obtain ⟨rtrim,hr,h⟩:=bsm h
 obtain ⟨rtrim2,hr2,h⟩:=bsm h
 refine rnR hE 1 [(2,⟨[],true,(eU rtrim),[],0,false,none⟩),(5,⟨[],true,(eU rtrim2),[],0,false,none⟩)] [] (kp [2,3,4,5,6]) (kq [0,16,32]) 176 (pc o1 (pc (g_e_trim_ok N a.fL rtrim hr) (pc o1 (pc (g_e_trim_ok N b.fL rtrim2 hr2) pn)))) ?_
 obtain ⟨rcommon,hr3,h⟩:=bsm h
 refine rnR hE 1 [(2,⟨[],true,(eU rcommon),[],0,false,none⟩)] [] (kp [2,3,4,5,6,7]) (kq [0,16,32]) 240 (pc (g_e_common_ok N rtrim rtrim2 rcommon hr3) pn) ?_
 obtain ⟨c,h⟩:=ifSome h
 refine rnR hE 2 [] [] (kp [2,3,4,5,6,7,25]) (kq [0,16,32]) 384 (pc (fun hg:(!(((rcommon.length:Nat):Int) != 1))=true=>(pc hg (pc (c hg) pn))) (pc (fun hg:(!(((rcommon.length:Nat):Int) != 1))=true=>(pc hg pn)) (pc (fun hg:(!(((rcommon.length:Nat):Int) != 1))=true=>(pc hg pn)) (pc (fun hq:(!(((rcommon.length:Nat):Int) != 1))=true=>(pc hq pn)) pn)))) ?_
 refine rnC 0 25 h (fun hq2 h=>?_) (fun hq2 h=>?_)
 ·obtain ⟨rdivide,hr4,h⟩:=bsm h
  refine rnR hE 1 [(2,⟨[],true,(.tup [(eU rdivide.1),(eU rdivide.2)]),[],0,false,none⟩)] [] (kp [2,3,4,5,6,7]) (kq [0,16,32]) 496 (pc (g_e_divide_ok N rtrim rcommon rdivide hr4) pn) ?_
  obtain ⟨rdivide2,hr5,h⟩:=bsm h
  refine rnR hE 0 [(2,⟨[],true,(.tup [(eU rdivide2.1),(eU rdivide2.2)]),[],0,false,none⟩)] [] (kp [2,3,4,5,6]) (kq [0,16,32]) 608 (pc (g_e_divide_ok N rtrim2 rcommon rdivide2 hr5) pn) ?_
  exact rnW hE 1 [] (kp [2,3,4,5,6]) (kq [0] ++ [(1,.keep 16),(2,.keep 32)]) 3 pn (g_e_fraction_J1_ok N _ _ _ _ _ h E hE)
 ·exact rnW hE 2 [] (kp [2,3,4,5,6]) (kq [0] ++ [(1,.keep 16),(2,.keep 32)]) 3 pn (g_e_fraction_J1_ok N _ _ _ _ _ h E hE)
noncomputable def C_19 (n:Nat):Code:=cat (bodyOf Tryz.f14) (pth n)
theorem g_e_Ratio_ok (N:Nat) (a:Int) (b:Int) (r:TRat×Int) (h:g_e_Ratio N a b=some r):Sd 14 [(aI a),(aI b)] [] 0 (.tup [(.agg (TRc r.1)),(aI r.2)]) []:=by
 unfold g_e_Ratio at h
 refine sor (fu:=Tryz.f14) (c:=C_19 1) (nt:=14) (by kernel_rfl) (by kernel_rfl) (by kernel_rfl) (by kernel_rfl) (fun hm=>rfl) ?_
 intro E hE
 refine rnR hE 1 [] [] (kp [0,1,4]) (kq [0]) 32 pn ?_
 refine rnR hE 2 [] [] (kp [0,1,4,7]) (kq [0]) 64 pn ?_
 refine rnC 0 7 h (fun hq2 h=>?_) (fun hq2 h=>?_)
 ·refine rnR hE 1 [] [] (kp [4,5]) (kq [0]) 112 (pc o1 pn) ?_
  obtain rfl:=osI h
  exact rnT hE 0 Tryz.f14 [] (kp [4,5]) [(16,.var 0 [.keep,.sl (([]:List Int).length) (fun zi=>(cU .u16) (([]:List Int).getD zi 0)),.keep,.sl (([]:List Int).length) (fun zi=>(cU .u16) (([]:List Int).getD zi 0))])] 112 (pc (Eq.refl 0) (pc (Eq.refl 0) pn)) [16] (pc o1 pn)
 ·obtain ⟨rOf,hr,h⟩:=bsm h
  obtain ⟨rOf2,hr2,h⟩:=bsm h
  obtain ⟨rFr,hr3,h⟩:=bsm h
  refine rnR hE 2 [(1,⟨[],true,(.agg (TIc rOf)),[],0,false,none⟩),(3,⟨[],true,(.agg (TIc rOf2)),[],0,false,none⟩),(4,⟨[],true,(.agg (TRc rFr)),[],0,false,none⟩)] [] (kp [4,5]) (kq [0]) 176 (pc (g_e_Of_ok N a rOf hr) (pc (g_e_Of_ok N b rOf2 hr2) (pc (g_e_fraction_ok N rOf rOf2 rFr hr3) (pc o1 pn)))) ?_
  obtain rfl:=osI h
  exact rnT hE 0 Tryz.f14 [] (kp [4,5]) [(16,.keep 0)] 176 pn [16] (pc o1 pn)
noncomputable def C_26 (n:Nat):Code:=cat (bodyOf Tryz.f17) (pth n)
theorem g_b_W_ok (N:Nat) (n:Int) (r:TRat) (h:g_b_W N n=some r):Sd 17 [(aI n)] [] 0 (.agg (TRc r)) []:=by
 unfold g_b_W at h
 refine sor (fu:=Tryz.f17) (c:=C_26 1) (nt:=7) (by kernel_rfl) (by kernel_rfl) (by kernel_rfl) (by kernel_rfl) (fun hm=>rfl) ?_
 intro E hE
 refine rnR hE 1 [] [] (kp [0,2]) (kq [0]) 16 pn ?_
 obtain ⟨rZ,hr,h⟩:=bsm h
 obtain ⟨rZ2,hr2,h⟩:=bsm h
 refine rnR hE 1 [(1,⟨[],true,(.agg (TIc rZ)),[],0,false,none⟩),(2,⟨[],true,(.agg (TIc rZ2)),[],0,false,none⟩)] [] (kp [2]) (kq [0]) 96 (pc (g_b_Z_ok N n rZ hr) (pc (g_b_Z_ok N 1 rZ2 hr2) (pc o1 pn))) ?_
 obtain rfl:=osI h
 exact rnT hE 0 Tryz.f17 [] (kp [2]) [(16,.keep 0)] 96 pn [16] (pc o1 pn)
noncomputable def C_25 (n:Nat):Code:=cat (bodyOf Tryz.f15) (pth n)
def g_b_Ws_L1_H (N:Nat) (l:List Int) (K:(List TRat)→Int→Option ((List TRat))):Prop:=∀ (out:List TRat) (i:Int) (r:(List TRat)),K out i=some r→∀ E,EnvOk E 0→Runs Tryz.prog E 15 20 (SPost E [] (encL TRc TRat.d r)) [.code (C_25 116),.inLoop (C_25 116),.inBlock 0,.code (C_25 15)] ⟨[(0,(encL cI 0 l)),(3,(.os 0 0 out.length)),(4,(aI i))],[(0,aO 4 TRc TRat.d out)],1⟩
theorem g_b_Ws_L1_ok (N:Nat) (l:List Int) (fuel:Nat):g_b_Ws_L1_H N l (g_b_Ws_L1 N l fuel):=by
 induction fuel with
 | zero=>intro _ _ r h;rw [g_b_Ws_L1.eq_1] at h;cases h
 | succ fuel ih =>
  intro out i r h E hE
  rw [g_b_Ws_L1.eq_2] at h
  refine rnR hE 2 [] [] (kp [0,3,4,8]) (kq [0]) 65 pn ?_
  refine rnC 0 8 h (fun hq2 h=>?_) (fun hq2 h=>?_)
  ·obtain ⟨c,h⟩:=ifSome h
   obtain ⟨rW,hr,h⟩:=bsm h
   obtain ⟨c2,h⟩:=ifSome h
   refine rnR hE 3 [(5,⟨[],true,(.agg (TRc rW)),[],0,false,none⟩)] [] (kp [0] ++ [(3,.osl ((out ++ ([rW]:List TRat)).length))] ++ kp [4]) [(177,.arr 177 ((out ++ ([rW]:List TRat)).length) (fun zi=>TRc ((out ++ ([rW]:List TRat)).getD zi TRat.d)))] 209 (pc c (pc (g_b_W_ok N (l.getD ((i).toNat) 0) rW hr) (pc (Eq.refl out.length) (pc c2 (pc (z1 1) (pc (show ∀ zi,zi < 1→AV.oneL ((fun zi=>([[(aB rW.fN.fG),(eU rW.fN.fL),(aB rW.fD.fG),(eU rW.fD.fL)]]:List (List AV)).getD zi []) (addz 0 zi))=true from (oneN rfl)) (pc (show (out.length+1)=(out ++ ([rW]:List TRat)).length from (len_app_raw rfl rfl)) (pc (show out.length+1=(out ++ ([rW]:List TRat)).length from (len_app_raw rfl rfl)) (pc (show ∀ zi,zi < (out ++ ([rW]:List TRat)).length→(fun zi=>TRc ((out ++ ([rW]:List TRat)).getD zi TRat.d)) zi=((fun zm=>if zm < out.length then (fun zi=>TRc (out.getD zi TRat.d)) zm else (fun zi=>([[(aB rW.fN.fG),(eU rW.fN.fL),(aB rW.fD.fG),(eU rW.fD.fL)]]:List (List AV)).getD zi []) (zm - out.length))) zi from (get_app_raw TRc TRat.d out ([rW]:List TRat) rfl (fun _ _=>rfl) (fun zq hzq=>get_chunk TRc TRat.d ([rW]:List TRat) zq hzq))) pn))))))))) ?_
   refine rnR hE 1 [] [] (kp [0,3,4]) (kq [177]) 257 pn ?_
   exact rnW hE 1 [] (kp [0,3,4]) [(0,.keep 177)] 1 pn (ih _ _ _ h E hE)
  ·refine rnR hE 2 [] [] (kp [2]) (kq [0]) 97 pn ?_
   obtain rfl:=osI h
   exact rnT hE 0 Tryz.f15 [0] [(2,.sl (out.length) (fun zi=>TRc (out.getD zi TRat.d)))] [] 97 (pc (Eq.refl out.length) (pc (z1 out.length) (pc (show ∀ zi,zi < out.length→(fun zi=>TRc (out.getD zi TRat.d)) zi=(fun zi=>TRc (out.getD zi TRat.d)) (addz 0 zi) from (fun _ _=>rfl)) pn))) [] pn
theorem g_b_Ws_ok (N:Nat) (l:List Int) (r:(List TRat)) (h:g_b_Ws N l=some r):Sd 15 [(encL cI 0 l)] [] 0 (encL TRc TRat.d r) []:=by
 unfold g_b_Ws at h
 refine sor (fu:=Tryz.f15) (c:=C_25 1) (nt:=20) (by kernel_rfl) (by kernel_rfl) (by kernel_rfl) (by kernel_rfl) (fun hm=>rfl) ?_
 intro E hE
 refine rnR hE 1 [] [] (kp [0]) [] 16 pn ?_
 refine rnR hE 1 [] [] (kp [0,3]) [] 32 pn ?_
 refine rnR hE 2 [] [] (kp [0,3,4]) [] 48 pn ?_
 exact rnW hE 2 [] (kp [0] ++ [(3,.nilos 0)] ++ kp [4]) [(0,.nil 4 (fun zi=>TRc (([]:List TRat).getD zi TRat.d)))] 1 pn (g_b_Ws_L1_ok N _ N _ _ _ h E hE)
noncomputable def C_30 (n:Nat):Code:=cat (bodyOf Tryz.f90) (pth n)
theorem g_e_sign_ok (N:Nat) (a:TInt) (r:Int) (h:g_e_sign N a=some r):Sd 90 [(.agg (TIc a))] [] 0 (aI r) []:=by
 unfold g_e_sign at h
 refine sor (fu:=Tryz.f90) (c:=C_30 1) (nt:=12) (by kernel_rfl) (by kernel_rfl) (by kernel_rfl) (by kernel_rfl) (fun hm=>rfl) ?_
 intro E hE
 refine rnR hE 1 [] [] (kp [1]) (kq [0]) 32 pn ?_
 obtain ⟨rtrim,hr,h⟩:=bsm h
 refine rnR hE 3 [(2,⟨[],true,(eU rtrim),[],0,false,none⟩)] [] (kp [1,3]) (kq [0]) 128 (pc o1 (pc (g_e_trim_ok N a.fL rtrim hr) pn)) ?_
 refine rnC 0 3 h (fun hq2 h=>?_) (fun hq2 h=>?_)
 ·refine rnR hE 1 [] [] (kp [2]) [] 144 pn ?_
  obtain rfl:=osI h
  exact rnT hE 0 Tryz.f90 [] (kp [2]) [] 144 pn [] pn
 ·refine rnR hE 1 [] [] (kp [9]) [] 176 (pc o1 pn) ?_
  refine rnC 0 9 h (fun hq3 h=>?_) (fun hq3 h=>?_)
  ·refine rnR hE 1 [] [] (kp [2]) [] 192 pn ?_
   obtain rfl:=osI h
   exact rnT hE 0 Tryz.f90 [] (kp [2]) [] 192 pn [] pn
  ·refine rnR hE 3 [] [] (kp [2]) [] 192 pn ?_
   obtain rfl:=osI h
   exact rnT hE 0 Tryz.f90 [] (kp [2]) [] 192 pn [] pn
noncomputable def C_31 (n:Nat):Code:=cat (bodyOf Tryz.f69) (pth n)
theorem g_e_below_ok (N:Nat) (x:TRat) (r:TInt) (h:g_e_below N x=some r):Sd 69 [(.agg (TRc x))] [] 0 (.agg (TIc r)) []:=by
 unfold g_e_below at h
 refine sor (fu:=Tryz.f69) (c:=C_31 1) (nt:=11) (by kernel_rfl) (by kernel_rfl) (by kernel_rfl) (by kernel_rfl) (fun hm=>rfl) ?_
 intro E hE
 refine rnR hE 1 [] [] (kp [1,2]) (kq [0,16]) 32 pn ?_
 obtain ⟨rsign,hr,h⟩:=bsm h
 refine rnR hE 2 [(2,⟨[],true,(aI rsign),[],0,false,none⟩)] [] (kp [1,2,6]) (kq [0,16]) 96 (pc o1 (pc (g_e_sign_ok N x.fD rsign hr) pn)) ?_
 refine rnC 0 6 h (fun hq2 h=>?_) (fun hq2 h=>?_)
 ·refine rnR hE 1 [] [] (kp [2]) [(16,.var 16 [.keep,.osl (([1]:List Int).length)]),(96,.arr 96 (([1]:List Int).length) (fun zi=>(cU .u16) (([1]:List Int).getD zi 0)))] 144 (pc o1 (pc (Eq.refl 1) (pc (Eq.refl 1) (pc (show ∀ zi,zi < ([1]:List Int).length→(fun zi=>(cU .u16) (([1]:List Int).getD zi 0)) zi=(fun zi=>([[(a16 1)]]:List (List AV)).getD zi []) zi from (fun zq hzq=>get_chunk (cU .u16) 0 ([1]:List Int) zq hzq)) pn)))) ?_
  obtain rfl:=osI h
  exact rnT hE 0 Tryz.f69 [96] (kp [2]) [(16,.var 16 [.keep,.sl (([1]:List Int).length) (fun zi=>(cU .u16) (([1]:List Int).getD zi 0))])] 144 (pc (Eq.refl (([1]:List Int).length)) (pc (z1 (([1]:List Int).length)) (pc (show ∀ zi,zi < ([1]:List Int).length→(fun zi=>(cU .u16) (([1]:List Int).getD zi 0)) zi=(fun zi=>(cU .u16) (([1]:List Int).getD zi 0)) (addz 0 zi) from (fun _ _=>rfl)) pn))) [16] (pc o1 pn)
 ·refine rnR hE 2 [] [] (kp [2]) (kq [16]) 144 (pc o1 (pc o1 pn)) ?_
  obtain rfl:=osI h
  exact rnT hE 0 Tryz.f69 [] (kp [2]) (kq [16]) 144 pn [16] (pc o1 pn)
noncomputable def C_29 (n:Nat):Code:=cat (bodyOf Tryz.f63) (pth n)
theorem g_e_signOf_ok (N:Nat) (x:TRat) (r:Int) (h:g_e_signOf N x=some r):Sd 63 [(.agg (TRc x))] [] 0 (aI r) []:=by
 unfold g_e_signOf at h
 refine sor (fu:=Tryz.f63) (c:=C_29 1) (nt:=10) (by kernel_rfl) (by kernel_rfl) (by kernel_rfl) (by kernel_rfl) (fun hm=>rfl) ?_
 intro E hE
 refine rnR hE 1 [] [] (kp [1]) (kq [0]) 32 pn ?_
 obtain ⟨rsign,hr,h⟩:=bsm h
 obtain ⟨rbelow,hr2,h⟩:=bsm h
 obtain ⟨rsign2,hr3,h⟩:=bsm h
 refine rnR hE 1 [(2,⟨[],true,(aI rsign),[],0,false,none⟩),(4,⟨[],true,(.agg (TIc rbelow)),[],0,false,none⟩),(5,⟨[],true,(aI rsign2),[],0,false,none⟩)] [] (kp [2]) [] 160 (pc o1 (pc (g_e_sign_ok N x.fN rsign hr) (pc o1 (pc (g_e_below_ok N x rbelow hr2) (pc (g_e_sign_ok N rbelow rsign2 hr3) pn))))) ?_
 obtain rfl:=osI h
 exact rnT hE 0 Tryz.f63 [] (kp [2]) [] 160 pn [] pn
noncomputable def C_28 (n:Nat):Code:=cat (bodyOf Tryz.f37) (pth n)
def g_e_CheckCurve_L1_H (N:Nat) (c:TCurve) (K:Int→Option (Int)):Prop:=∀ (x:Int) (r:Int),K x=some r→∀ E,EnvOk E 0→Runs Tryz.prog E 37 52 (SPost E [] (aI r)) [.code (C_28 244),.inLoop (C_28 244),.inBlock 0,.code (C_28 31)] ⟨[(1,(.op 0 0 0)),(17,(encL cI 0 c.f_Starts)),(18,(aI ((c.f_Starts.length:Nat):Int))),(19,(aI x))],[(0,vO 2 (TCc c))],1⟩
theorem g_e_CheckCurve_L1_ok (N:Nat) (c:TCurve) (fuel:Nat):g_e_CheckCurve_L1_H N c (g_e_CheckCurve_L1 N c fuel):=by
 induction fuel with
 | zero=>intro _ r h;rw [g_e_CheckCurve_L1.eq_1] at h;cases h
 | succ fuel ih =>
  intro x r h E hE
  rw [g_e_CheckCurve_L1.eq_2] at h
  refine rnR hE 1 [] [] (kp [1,17,18,19,20]) (kq [0]) 17 pn ?_
  refine rnC 1 20 h (fun hq4 h=>?_) (fun hq4 h=>?_)
  ·obtain ⟨c2,h⟩:=ifSome h
   refine rnR hE 4 [] [] (kp [1,3,4,17,18,19]) (kq [0]) 97 (pc c2 pn) ?_
   obtain ⟨c3,h⟩:=ifSome h
   obtain ⟨rsignOf,hr,h⟩:=bsm h
   refine rnR hE 2 [(12,⟨[],true,(aI rsignOf),[],0,false,none⟩)] [] (kp [1,3,4,17,18,19,38]) (kq [0]) 337 (pc (fun hg:(!(decide ((c.f_Starts.getD ((x).toNat) 0) < (-10000000))))=true=>(pc hg pn)) (pc (fun hq:(!(decide ((c.f_Starts.getD ((x).toNat) 0) < (-10000000))))=true=>(pc hq pn)) (pc (fun hg:(!(cond (decide ((c.f_Starts.getD ((x).toNat) 0) < (-10000000))) true (decide ((c.f_Starts.getD ((x).toNat) 0) > 10000000))))=true=>(pc hg (pc o1 pn))) (pc (fun hg:(!(cond (decide ((c.f_Starts.getD ((x).toNat) 0) < (-10000000))) true (decide ((c.f_Starts.getD ((x).toNat) 0) > 10000000))))=true=>(pc hg (pc hg (pc (c3 hg) pn)))) (pc (fun hg:(!(cond (decide ((c.f_Starts.getD ((x).toNat) 0) < (-10000000))) true (decide ((c.f_Starts.getD ((x).toNat) 0) > 10000000))))=true=>(pc hg pn)) (pc (fun hg:(!(cond (decide ((c.f_Starts.getD ((x).toNat) 0) < (-10000000))) true (decide ((c.f_Starts.getD ((x).toNat) 0) > 10000000))))=true=>(pc (g_e_signOf_ok N (⟨((c.f_Slopes.getD ((x).toNat) TRat.d).fN),((c.f_Slopes.getD ((x).toNat) TRat.d).fD)⟩:TRat) rsignOf (condT hr hg)) (pc hg pn))) (pc (fun hg:(!(cond (decide ((c.f_Starts.getD ((x).toNat) 0) < (-10000000))) true (decide ((c.f_Starts.getD ((x).toNat) 0) > 10000000))))=true=>(pc hg pn)) (pc (fun hq:(!(cond (decide ((c.f_Starts.getD ((x).toNat) 0) < (-10000000))) true (decide ((c.f_Starts.getD ((x).toNat) 0) > 10000000))))=true=>(pc hq pn)) pn)))))))) ?_
   refine rnC 0 38 h (fun hq5 h=>?_) (fun hq5 h=>?_)
   ·refine rnR hE 1 [] [] (kp [2]) [] 353 pn ?_
    obtain rfl:=osI h
    exact rnT hE 0 Tryz.f37 [] (kp [2]) [] 353 pn [] pn
   ·obtain ⟨c4,h⟩:=ifSome h
    refine rnR hE 2 [] [] (kp [1,17,18,19,50]) (kq [0]) 529 (pc (fun hg:(decide (x > 0))=true=>(pc hg (pc o1 pn))) (pc (fun hg:(decide (x > 0))=true=>(pc hg pn)) (pc (fun hg:(decide (x > 0))=true=>(pc hg (pc hg (pc (c4 hg) pn)))) (pc (fun hg:(decide (x > 0))=true=>(pc hg pn)) (pc (fun hg:(decide (x > 0))=true=>(pc hg (pc hg pn))) (pc (fun hq:(decide (x > 0))=true=>(pc hq pn)) pn)))))) ?_
    refine rnC 0 50 h (fun hq6 h=>?_) (fun hq6 h=>?_)
    ·refine rnR hE 1 [] [] (kp [2]) [] 545 pn ?_
     obtain rfl:=osI h
     exact rnT hE 0 Tryz.f37 [] (kp [2]) [] 545 pn [] pn
    ·refine rnR hE 2 [] [] (kp [1,17,18,19]) (kq [0]) 561 pn ?_
     exact rnW hE 1 [] (kp [1,17,18,19]) (kq [0]) 1 pn (ih _ _ h E hE)
  ·refine rnR hE 2 [] [] (kp [2]) [] 33 pn ?_
   obtain rfl:=osI h
   exact rnT hE 0 Tryz.f37 [] (kp [2]) [] 48 pn [] pn
theorem g_e_CheckCurve_ok (N:Nat) (c:TCurve) (r:Int) (h:g_e_CheckCurve N c=some r):Sd 37 [(.agg (TCc c))] [] 0 (aI r) []:=by
 unfold g_e_CheckCurve at h
 refine sor (fu:=Tryz.f37) (c:=C_28 1) (nt:=52) (by kernel_rfl) (by kernel_rfl) (by kernel_rfl) (by kernel_rfl) (fun hm=>rfl) ?_
 intro E hE
 refine rnR hE 1 [] [] (kp [1]) (kq [0]) 32 pn ?_
 refine rnR hE 2 [] [] (kp [1,8]) (kq [0]) 96 (pc o1 pn) ?_
 refine rnC 0 8 h (fun hq2 h=>?_) (fun hq2 h=>?_)
 ·refine rnR hE 1 [] [] (kp [2]) [] 112 pn ?_
  obtain rfl:=osI h
  exact rnT hE 0 Tryz.f37 [] (kp [2]) [] 112 pn [] pn
 ·refine rnR hE 3 [] [] (kp [1,15]) (kq [0]) 208 (pc o1 (pc o1 pn)) ?_
  refine rnC 0 15 h (fun hq3 h=>?_) (fun hq3 h=>?_)
  ·refine rnR hE 1 [] [] (kp [2]) [] 224 pn ?_
   obtain rfl:=osI h
   exact rnT hE 0 Tryz.f37 [] (kp [2]) [] 224 pn [] pn
  ·refine rnR hE 3 [] [] (kp [1,17,18,19]) (kq [0]) 272 (pc o1 pn) ?_
   exact rnW hE 2 [] (kp [1,17,18,19]) (kq [0]) 1 pn (g_e_CheckCurve_L1_ok N _ N _ _ h E hE)
noncomputable def C_33 (n:Nat):Code:=cat (bodyOf Tryz.f64) (pth n)
theorem g_e_Whole_ok (N:Nat) (a:TInt) (r:TRat) (h:g_e_Whole N a=some r):Sd 64 [(.agg (TIc a))] [] 0 (.agg (TRc r)) []:=by
 unfold g_e_Whole at h
 refine sor (fu:=Tryz.f64) (c:=C_33 1) (nt:=7) (by kernel_rfl) (by kernel_rfl) (by kernel_rfl) (by kernel_rfl) (fun hm=>rfl) ?_
 intro E hE
 refine rnR hE 1 [] [] (kp [1,2]) (kq [0,16]) 32 pn ?_
 obtain ⟨rFr,hr,h⟩:=bsm h
 refine rnR hE 1 [(3,⟨[],true,(.agg (TRc rFr)),[],0,true,none⟩)] [] (kp [2]) (kq [16]) 112 (pc o1 (pc (show Sd 35 [(.agg (TIc a)),(.agg [(aB false),(.sl 1 (fun zi=>(fun zi=>([[(a16 1)]]:List (List AV)).getD zi []) (addz 0 zi)))])] [] 0 (.agg (TRc rFr)) [] from (Sound.conv (g_e_fraction_ok N a (⟨false,([1]:List Int)⟩:TInt) rFr hr) (.cons (Alike.refl _) (.cons (Alike.agg (.cons (Alike.refl _) (.cons (Alike.sl rfl (fun zq hzq=>get_chunk (cU .u16) 0 ([1]:List Int) zq hzq)) .nil))) .nil)))) (pc (z1 1) (pc o1 pn)))) ?_
 obtain rfl:=osI h
 exact rnT hE 0 Tryz.f64 [] (kp [2]) (kq [16]) 112 pn [16] (pc o1 pn)
noncomputable def C_32 (n:Nat):Code:=cat (bodyOf Tryz.f38) (pth n)
theorem g_e_number_ok (N:Nat) (n:Int) (r:TRat) (h:g_e_number N n=some r):Sd 38 [(aI n)] [] 0 (.agg (TRc r)) []:=by
 unfold g_e_number at h
 refine sor (fu:=Tryz.f38) (c:=C_32 1) (nt:=6) (by kernel_rfl) (by kernel_rfl) (by kernel_rfl) (by kernel_rfl) (fun hm=>rfl) ?_
 intro E hE
 refine rnR hE 1 [] [] (kp [0,2]) (kq [0]) 16 pn ?_
 obtain ⟨rOf,hr,h⟩:=bsm h
 obtain ⟨rWhole,hr2,h⟩:=bsm h
 refine rnR hE 1 [(1,⟨[],true,(.agg (TIc rOf)),[],0,false,none⟩),(2,⟨[],true,(.agg (TRc rWhole)),[],0,false,none⟩)] [] (kp [2]) (kq [0]) 80 (pc (g_e_Of_ok N n rOf hr) (pc (g_e_Whole_ok N rOf rWhole hr2) (pc o1 pn))) ?_
 obtain rfl:=osI h
 exact rnT hE 0 Tryz.f38 [] (kp [2]) [(16,.keep 0)] 80 pn [16] (pc o1 pn)
noncomputable def C_34 (n:Nat):Code:=cat (bodyOf Tryz.f39) (pth n)
theorem g_e_ramps_ok (N:Nat) (c:TCurve) (y:TRat) (r:TCurve×TRat) (h:g_e_ramps N c y=some r):Sd 39 [(.agg (TCc c)),(.agg (TRc y))] [] 0 (.fn (.func 65) [] [(.op 0 0 0),(.op 1 0 0)]) [(0,vO 2 (TCc r.1)),(1,vO 4 (TRc r.2))]:=by
 unfold g_e_ramps at h
 refine sor (fu:=Tryz.f39) (c:=C_34 1) (nt:=6) (by kernel_rfl) (by kernel_rfl) (by kernel_rfl) (by kernel_rfl) (fun hm=>rfl) ?_
 intro E hE
 refine rnR hE 1 [] [] (kp [2,3]) (kq [0,16]) 48 pn ?_
 refine rnR hE 1 [] [] (kp [4]) (kq [0,16]) 80 pn ?_
 obtain rfl:=osI h
 exact rnT hE 0 Tryz.f39 [] (kp [4]) (kq [0] ++ [(1,.keep 16)]) 80 pn [] pn
noncomputable def C_37 (n:Nat):Code:=cat (bodyOf Tryz.f91) (pth n)
def g_e_times_L1_H (N:Nat) (a:List Int) (b:List Int) (K:(List Int)→Int→Option ((List Int))):Prop:=∀ (out:List Int) (x:Int) (r:(List Int)),K out x=some r→∀ E,EnvOk E 0→Runs Tryz.prog E 91 67 (SPost E [] (eU r)) [.code (C_37 116),.inLoop (C_37 116),.inBlock 0,.code (C_37 15)] ⟨[(1,(eU b)),(5,(.os 0 0 out.length)),(17,(eU a)),(18,(aI ((a.length:Nat):Int))),(19,(aI x))],[(0,aU out)],1⟩
def g_e_times_L2_H (N:Nat) (a:List Int) (b:List Int) (x:Int) (K:(List Int)→Int→Int→Option ((List Int))):Prop:=∀ (out2:List Int) (carry:Int) (x2:Int) (r:(List Int)),K out2 carry x2=some r→∀ E,EnvOk E 0→Runs Tryz.prog E 91 67 (SPost E [] (eU r)) [.code (C_37 119604),.inLoop (C_37 119604),.inBlock 2,.code (C_37 14951),.inBlock 1,.code (C_37 935),.inLoop (C_37 116),.inBlock 0,.code (C_37 15)] ⟨[(1,(eU b)),(5,(.os 0 0 out2.length)),(6,(aI x)),(7,(a16 (a.getD ((x).toNat) 0))),(8,(a32 carry)),(17,(eU a)),(18,(aI ((a.length:Nat):Int))),(19,(aI x)),(24,(eU b)),(25,(aI ((b.length:Nat):Int))),(26,(aI x2))],[(0,aU out2)],1⟩
theorem g_e_times_L2_ok (N:Nat) (a:List Int) (b:List Int) (x:Int) (K_g_e_times_L1:(List Int)→Int→Option ((List Int))) (hK_g_e_times_L1:g_e_times_L1_H N a b K_g_e_times_L1) (fuel:Nat):g_e_times_L2_H N a b x (g_e_times_L2 N a b x K_g_e_times_L1 fuel):=by
 induction fuel with
 | zero=>intro _ _ _ r h;rw [g_e_times_L2.eq_1] at h;cases h
 | succ fuel ih =>
  intro out2 carry x2 r h E hE
  rw [g_e_times_L2.eq_2] at h
  refine rnR hE 1 [] [] (kp [1,5,6,7,8,17,18,19,24,25,26,27]) (kq [0]) 17 pn ?_
  refine rnC 1 27 h (fun hq3 h=>?_) (fun hq3 h=>?_)
  ·obtain ⟨c3,h⟩:=ifSome h
   refine rnR hE 4 [] [] (kp [1,5,6,7,8,9,10,17,18,19,24,25,26]) (kq [0]) 97 (pc c3 pn) ?_
   obtain ⟨c4,h⟩:=ifSome h
   refine rnR hE 1 [] [] (kp [1,5,6,7,8,9,17,18,19,24,25,26]) (kq [0]) 353 (pc c4 (pc (ltOf c4) pn)) ?_
   refine rnR hE 1 [] [] (kp [1] ++ [(5,.osl ((out2.set ((w64 (x+x2)).toNat) (IntKind.u16.wrap ((IntKind.u32.wrap (carry+(IntKind.u32.wrap ((IntKind.u32.wrap ((IntKind.u32.wrap ((a.getD ((x).toNat) 0))) * (IntKind.u32.wrap ((b.getD ((x2).toNat) 0)))))+(IntKind.u32.wrap ((out2.getD ((w64 (x+x2)).toNat) 0)))))))))).length))] ++ kp [6,7,8,17,18,19,24,25,26]) [(0,.arr 0 ((out2.set ((w64 (x+x2)).toNat) (IntKind.u16.wrap ((IntKind.u32.wrap (carry+(IntKind.u32.wrap ((IntKind.u32.wrap ((IntKind.u32.wrap ((a.getD ((x).toNat) 0))) * (IntKind.u32.wrap ((b.getD ((x2).toNat) 0)))))+(IntKind.u32.wrap ((out2.getD ((w64 (x+x2)).toNat) 0)))))))))).length) (fun zi=>(cU .u16) ((out2.set ((w64 (x+x2)).toNat) (IntKind.u16.wrap ((IntKind.u32.wrap (carry+(IntKind.u32.wrap ((IntKind.u32.wrap ((IntKind.u32.wrap ((a.getD ((x).toNat) 0))) * (IntKind.u32.wrap ((b.getD ((x2).toNat) 0)))))+(IntKind.u32.wrap ((out2.getD ((w64 (x+x2)).toNat) 0)))))))))).getD zi 0)))] 481 (pc c4 (pc (ltOf c4) (pc (len_set0 out2 ((w64 (x+x2)).toNat) (IntKind.u16.wrap ((IntKind.u32.wrap (carry+(IntKind.u32.wrap ((IntKind.u32.wrap ((IntKind.u32.wrap ((a.getD ((x).toNat) 0))) * (IntKind.u32.wrap ((b.getD ((x2).toNat) 0)))))+(IntKind.u32.wrap ((out2.getD ((w64 (x+x2)).toNat) 0)))))))))) (pc (len_set0 out2 ((w64 (x+x2)).toNat) (IntKind.u16.wrap ((IntKind.u32.wrap (carry+(IntKind.u32.wrap ((IntKind.u32.wrap ((IntKind.u32.wrap ((a.getD ((x).toNat) 0))) * (IntKind.u32.wrap ((b.getD ((x2).toNat) 0)))))+(IntKind.u32.wrap ((out2.getD ((w64 (x+x2)).toNat) 0)))))))))) (pc (get_set0 (cU .u16) 0 out2 ((w64 (x+x2)).toNat) (IntKind.u16.wrap ((IntKind.u32.wrap (carry+(IntKind.u32.wrap ((IntKind.u32.wrap ((IntKind.u32.wrap ((a.getD ((x).toNat) 0))) * (IntKind.u32.wrap ((b.getD ((x2).toNat) 0)))))+(IntKind.u32.wrap ((out2.getD ((w64 (x+x2)).toNat) 0)))))))))) pn))))) ?_
   refine rnR hE 0 [] [] (kp [1,5,6,7,8,17,18,19,24,25,26]) (kq [0]) 529 (pc (show (0:Int)≤16 by decide) pn) ?_
   refine rnR hE 1 [] [] (kp [1,5,6,7,8,17,18,19,24,25,26]) (kq [0]) 561 pn ?_
   exact rnW hE 1 [] (kp [1,5,6,7,8,17,18,19,24,25,26]) (kq [0]) 1 pn (ih _ _ _ _ h E hE)
  ·obtain ⟨c5,h⟩:=ifSome h
   refine rnR hE 1 [] [] (kp [1] ++ [(5,.osl ((out2.set ((w64 (x+((b.length:Nat):Int))).toNat) (IntKind.u16.wrap (carry))).length))] ++ kp [17,18,19]) [(0,.arr 0 ((out2.set ((w64 (x+((b.length:Nat):Int))).toNat) (IntKind.u16.wrap (carry))).length) (fun zi=>(cU .u16) ((out2.set ((w64 (x+((b.length:Nat):Int))).toNat) (IntKind.u16.wrap (carry))).getD zi 0)))] 161 (pc c5 (pc (ltOf c5) (pc (len_set0 out2 ((w64 (x+((b.length:Nat):Int))).toNat) (IntKind.u16.wrap (carry))) (pc (len_set0 out2 ((w64 (x+((b.length:Nat):Int))).toNat) (IntKind.u16.wrap (carry))) (pc (get_set0 (cU .u16) 0 out2 ((w64 (x+((b.length:Nat):Int))).toNat) (IntKind.u16.wrap (carry))) pn))))) ?_
   refine rnR hE 1 [] [] (kp [1,5,17,18,19]) (kq [0]) 193 pn ?_
   exact rnW hE 1 [] (kp [1,5,17,18,19]) (kq [0]) 1 pn (hK_g_e_times_L1 _ _ _ h E hE)
theorem g_e_times_L1_ok (N:Nat) (a:List Int) (b:List Int) (fuel:Nat):g_e_times_L1_H N a b (g_e_times_L1 N a b fuel):=by
 induction fuel with
 | zero=>intro _ _ r h;rw [g_e_times_L1.eq_1] at h;cases h
 | succ fuel ih =>
  intro out x r h E hE
  rw [g_e_times_L1.eq_2] at h
  refine rnR hE 1 [] [] (kp [1,5,17,18,19,20]) (kq [0]) 17 pn ?_
  refine rnC 1 20 h (fun hq2 h=>?_) (fun hq2 h=>?_)
  ·obtain ⟨c2,h⟩:=ifSome h
   refine rnR hE 4 [] [] (kp [1,5,6,7,17,18,19]) (kq [0]) 97 (pc c2 pn) ?_
   refine rnR hE 1 [] [] (kp [1,5,6,7,8,17,18,19]) (kq [0]) 113 pn ?_
   refine rnR hE 2 [] [] (kp [1,5,6,7,8,17,18,19,24,25,26]) (kq [0]) 161 pn ?_
   exact rnW hE 2 [] (kp [1,5,6,7,8,17,18,19,24,25,26]) (kq [0]) 1 pn (g_e_times_L2_ok N _ _ _ _ ih N _ _ _ _ h E hE)
  ·obtain ⟨rtrim,hr,h⟩:=bsm h
   refine rnR hE 2 [(1,⟨[],true,(eU rtrim),[],0,true,none⟩)] [] (kp [4]) [] 65 (pc (g_e_trim_ok N out rtrim hr) (pc (z1 out.length) pn)) ?_
   obtain rfl:=osI h
   exact rnT hE 0 Tryz.f91 [] (kp [4]) [] 65 pn [] pn
theorem g_e_times_ok (N:Nat) (a:List Int) (b:List Int) (r:(List Int)) (h:g_e_times N a b=some r):Sd 91 [(eU a),(eU b)] [] 0 (eU r) []:=by
 unfold g_e_times at h
 refine sor (fu:=Tryz.f91) (c:=C_37 1) (nt:=67) (by kernel_rfl) (by kernel_rfl) (by kernel_rfl) (by kernel_rfl) (fun hm=>rfl) ?_
 intro E hE
 refine rnR hE 1 [] [] (kp [0,1]) [] 16 pn ?_
 obtain ⟨c,h⟩:=ifSome h
 refine rnR hE 1 [] [] (kp [0,1] ++ [(5,.osl ((List.replicate ((w64 (((a.length:Nat):Int)+((b.length:Nat):Int))).toNat) 0:List Int).length))]) [(96,.arr 96 ((List.replicate ((w64 (((a.length:Nat):Int)+((b.length:Nat):Int))).toNat) 0:List Int).length) (fun zi=>(cU .u16) ((List.replicate ((w64 (((a.length:Nat):Int)+((b.length:Nat):Int))).toNat) 0:List Int).getD zi 0)))] 128 (pc (show 0≤(w64 (((a.length:Nat):Int)+((b.length:Nat):Int))) from c.1) (pc (show (w64 (((a.length:Nat):Int)+((b.length:Nat):Int)))≤(w64 (((a.length:Nat):Int)+((b.length:Nat):Int))) from (Int.le_refl _)) (pc (show (2:Int) * (w64 (((a.length:Nat):Int)+((b.length:Nat):Int)))≤281474976710656 from c.2.1) (pc (show (w64 (((a.length:Nat):Int)+((b.length:Nat):Int)))≤9223372036854775807 from c.2.2) (pc (show (w64 (((a.length:Nat):Int)+((b.length:Nat):Int))).toNat=(List.replicate ((w64 (((a.length:Nat):Int)+((b.length:Nat):Int))).toNat) 0:List Int).length from (List.length_replicate).symm) (pc (show (w64 (((a.length:Nat):Int)+((b.length:Nat):Int))).toNat=(List.replicate ((w64 (((a.length:Nat):Int)+((b.length:Nat):Int))).toNat) 0:List Int).length from (List.length_replicate).symm) (pc (show ∀ zi,zi < (List.replicate ((w64 (((a.length:Nat):Int)+((b.length:Nat):Int))).toNat) 0:List Int).length→(fun zi=>(cU .u16) ((List.replicate ((w64 (((a.length:Nat):Int)+((b.length:Nat):Int))).toNat) 0:List Int).getD zi 0)) zi=(fun _=>[(a16 0)]) zi from (fun zq hzq=>get_rep (cU .u16) 0 0 ((w64 (((a.length:Nat):Int)+((b.length:Nat):Int))).toNat) zq hzq)) pn))))))) ?_
 refine rnR hE 2 [] [] (kp [1,5,17,18,19]) (kq [96]) 176 pn ?_
 exact rnW hE 2 [] (kp [1,5,17,18,19]) [(0,.keep 96)] 1 pn (g_e_times_L1_ok N _ _ N _ _ _ h E hE)
noncomputable def C_36 (n:Nat):Code:=cat (bodyOf Tryz.f71) (pth n)
theorem g_e_Mul_ok (N:Nat) (a:TInt) (b:TInt) (r:TInt) (h:g_e_Mul N a b=some r):Sd 71 [(.agg (TIc a)),(.agg (TIc b))] [] 0 (.agg (TIc r)) []:=by
 unfold g_e_Mul at h
 refine sor (fu:=Tryz.f71) (c:=C_36 1) (nt:=18) (by kernel_rfl) (by kernel_rfl) (by kernel_rfl) (by kernel_rfl) (fun hm=>rfl) ?_
 intro E hE
 refine rnR hE 1 [] [] (kp [2,3,4]) (kq [0,16,32]) 48 pn ?_
 obtain ⟨rtrim,hr,h⟩:=bsm h
 obtain ⟨rtrim2,hr2,h⟩:=bsm h
 obtain ⟨rtimes,hr3,h⟩:=bsm h
 obtain ⟨rSg,hr4,h⟩:=bsm h
 refine rnR hE 1 [(7,⟨[],true,(eU rtrim),[],0,false,none⟩),(10,⟨[],true,(eU rtrim2),[],0,false,none⟩),(11,⟨[],true,(eU rtimes),[],0,false,none⟩),(12,⟨[],true,(.agg (TIc rSg)),[],0,false,none⟩)] [] (kp [4]) (kq [32]) 272 (pc o1 (pc o1 (pc o1 (pc (g_e_trim_ok N a.fL rtrim hr) (pc o1 (pc (g_e_trim_ok N b.fL rtrim2 hr2) (pc (g_e_times_ok N rtrim rtrim2 rtimes hr3) (pc (g_e_signed_ok N (!(a.fG == b.fG)) rtimes rSg hr4) (pc o1 pn))))))))) ?_
 obtain rfl:=osI h
 exact rnT hE 0 Tryz.f71 [] (kp [4]) [(16,.keep 32)] 272 pn [16] (pc o1 pn)
noncomputable def C_35 (n:Nat):Code:=cat (bodyOf Tryz.f41) (pth n)
theorem g_e_MulRat_ok (N:Nat) (x:TRat) (y:TRat) (r:TRat) (h:g_e_MulRat N x y=some r):Sd 41 [(.agg (TRc x)),(.agg (TRc y))] [] 0 (.agg (TRc r)) []:=by
 unfold g_e_MulRat at h
 refine sor (fu:=Tryz.f41) (c:=C_35 1) (nt:=16) (by kernel_rfl) (by kernel_rfl) (by kernel_rfl) (by kernel_rfl) (fun hm=>rfl) ?_
 intro E hE
 refine rnR hE 1 [] [] (kp [2,3,4]) (kq [0,16,32]) 48 pn ?_
 obtain ⟨rMul,hr,h⟩:=bsm h
 obtain ⟨rbelow,hr2,h⟩:=bsm h
 obtain ⟨rbelow2,hr3,h⟩:=bsm h
 obtain ⟨rMul2,hr4,h⟩:=bsm h
 obtain ⟨rFr,hr5,h⟩:=bsm h
 refine rnR hE 1 [(4,⟨[],true,(.agg (TIc rMul)),[],0,false,none⟩),(6,⟨[],true,(.agg (TIc rbelow)),[],0,false,none⟩),(8,⟨[],true,(.agg (TIc rbelow2)),[],0,false,none⟩),(9,⟨[],true,(.agg (TIc rMul2)),[],0,false,none⟩),(10,⟨[],true,(.agg (TRc rFr)),[],0,false,none⟩)] [] (kp [4]) (kq [32]) 240 (pc o1 (pc o1 (pc (g_e_Mul_ok N x.fN y.fN rMul hr) (pc o1 (pc (g_e_below_ok N x rbelow hr2) (pc o1 (pc (g_e_below_ok N y rbelow2 hr3) (pc (g_e_Mul_ok N rbelow rbelow2 rMul2 hr4) (pc (g_e_fraction_ok N rMul rMul2 rFr hr5) (pc o1 pn)))))))))) ?_
 obtain rfl:=osI h
 exact rnT hE 0 Tryz.f41 [] (kp [4]) [(16,.keep 32)] 240 pn [16] (pc o1 pn)
noncomputable def C_39 (n:Nat):Code:=cat (bodyOf Tryz.f67) (pth n)
theorem g_e_isZero_ok (N:Nat) (x:TRat) (r:Bool) (h:g_e_isZero N x=some r):Sd 67 [(.agg (TRc x))] [] 0 (aB r) []:=by
 unfold g_e_isZero at h
 refine sor (fu:=Tryz.f67) (c:=C_39 1) (nt:=7) (by kernel_rfl) (by kernel_rfl) (by kernel_rfl) (by kernel_rfl) (fun hm=>rfl) ?_
 intro E hE
 refine rnR hE 1 [] [] (kp [1]) (kq [0]) 32 pn ?_
 obtain ⟨rsign,hr,h⟩:=bsm h
 refine rnR hE 1 [(2,⟨[],true,(aI rsign),[],0,false,none⟩)] [] (kp [2]) [] 112 (pc o1 (pc (g_e_sign_ok N x.fN rsign hr) pn)) ?_
 obtain rfl:=osI h
 exact rnT hE 0 Tryz.f67 [] (kp [2]) [] 112 pn [] pn
noncomputable def C_40 (n:Nat):Code:=cat (bodyOf Tryz.f68) (pth n)
theorem g_e_lowest_ok (N:Nat) (x:TRat) (r:TRat) (h:g_e_lowest N x=some r):Sd 68 [(.agg (TRc x))] [] 0 (.agg (TRc r)) []:=by
 unfold g_e_lowest at h
 refine sor (fu:=Tryz.f68) (c:=C_40 1) (nt:=8) (by kernel_rfl) (by kernel_rfl) (by kernel_rfl) (by kernel_rfl) (fun hm=>rfl) ?_
 intro E hE
 refine rnR hE 1 [] [] (kp [1,2]) (kq [0,16]) 32 pn ?_
 obtain ⟨rbelow,hr,h⟩:=bsm h
 obtain ⟨rFr,hr2,h⟩:=bsm h
 refine rnR hE 1 [(3,⟨[],true,(.agg (TIc rbelow)),[],0,false,none⟩),(4,⟨[],true,(.agg (TRc rFr)),[],0,false,none⟩)] [] (kp [2]) (kq [16]) 128 (pc o1 (pc o1 (pc (g_e_below_ok N x rbelow hr) (pc (g_e_fraction_ok N x.fN rbelow rFr hr2) (pc o1 pn))))) ?_
 obtain rfl:=osI h
 exact rnT hE 0 Tryz.f68 [] (kp [2]) (kq [16]) 128 pn [16] (pc o1 pn)
noncomputable def C_41 (n:Nat):Code:=cat (bodyOf Tryz.f70) (pth n)
theorem g_e_Add_ok (N:Nat) (a:TInt) (b:TInt) (r:TInt) (h:g_e_Add N a b=some r):Sd 70 [(.agg (TIc a)),(.agg (TIc b))] [] 0 (.agg (TIc r)) []:=by
 unfold g_e_Add at h
 refine sor (fu:=Tryz.f70) (c:=C_41 1) (nt:=40) (by kernel_rfl) (by kernel_rfl) (by kernel_rfl) (by kernel_rfl) (fun hm=>rfl) ?_
 intro E hE
 refine rnR hE 1 [] [] (kp [2,3,4]) (kq [0,16,32]) 48 pn ?_
 obtain ⟨rtrim,hr,h⟩:=bsm h
 obtain ⟨rtrim2,hr2,h⟩:=bsm h
 refine rnR hE 1 [(2,⟨[],true,(eU rtrim),[],0,false,none⟩),(5,⟨[],true,(eU rtrim2),[],0,false,none⟩)] [] (kp [2,3,4,5,6]) (kq [0,16,32]) 176 (pc o1 (pc (g_e_trim_ok N a.fL rtrim hr) (pc o1 (pc (g_e_trim_ok N b.fL rtrim2 hr2) pn)))) ?_
 refine rnR hE 2 [] [] (kp [2,3,4,5,6,17]) (kq [0,16,32]) 256 (pc o1 (pc o1 pn)) ?_
 refine rnC 0 17 h (fun hq2 h=>?_) (fun hq2 h=>?_)
 ·obtain ⟨rplus,hr3,h⟩:=bsm h
  obtain ⟨rSg,hr4,h⟩:=bsm h
  refine rnR hE 1 [(4,⟨[],true,(eU rplus),[],0,false,none⟩),(5,⟨[],true,(.agg (TIc rSg)),[],0,false,none⟩)] [] (kp [4]) (kq [32]) 368 (pc o1 (pc (g_e_plus_ok N rtrim rtrim2 rplus hr3) (pc (g_e_signed_ok N a.fG rplus rSg hr4) (pc o1 pn)))) ?_
  obtain rfl:=osI h
  exact rnT hE 0 Tryz.f70 [] (kp [4]) [(16,.keep 32)] 368 pn [16] (pc o1 pn)
 ·obtain ⟨rcompare,hr5,h⟩:=bsm h
  refine rnR hE 3 [(2,⟨[],true,(aI rcompare),[],0,false,none⟩)] [] (kp [2,3,4,5,6,27]) (kq [0,16,32]) 320 (pc (g_e_compare_ok N rtrim rtrim2 rcompare hr5) pn) ?_
  refine rnC 0 27 h (fun hq3 h=>?_) (fun hq3 h=>?_)
  ·obtain ⟨rminus,hr6,h⟩:=bsm h
   obtain ⟨rSg2,hr7,h⟩:=bsm h
   refine rnR hE 1 [(4,⟨[],true,(eU rminus),[],0,false,none⟩),(5,⟨[],true,(.agg (TIc rSg2)),[],0,false,none⟩)] [] (kp [4]) (kq [32]) 432 (pc o1 (pc (g_e_minus_ok N rtrim rtrim2 rminus hr6) (pc (g_e_signed_ok N a.fG rminus rSg2 hr7) (pc o1 pn)))) ?_
   obtain rfl:=osI h
   exact rnT hE 0 Tryz.f70 [] (kp [4]) [(16,.keep 32)] 432 pn [16] (pc o1 pn)
  ·obtain ⟨rminus2,hr8,h⟩:=bsm h
   obtain ⟨rSg3,hr9,h⟩:=bsm h
   refine rnR hE 2 [(4,⟨[],true,(eU rminus2),[],0,false,none⟩),(5,⟨[],true,(.agg (TIc rSg3)),[],0,false,none⟩)] [] (kp [4]) (kq [32]) 432 (pc o1 (pc (g_e_minus_ok N rtrim2 rtrim rminus2 hr8) (pc (g_e_signed_ok N b.fG rminus2 rSg3 hr9) (pc o1 pn)))) ?_
   obtain rfl:=osI h
   exact rnT hE 0 Tryz.f70 [] (kp [4]) [(16,.keep 32)] 432 pn [16] (pc o1 pn)
noncomputable def C_38 (n:Nat):Code:=cat (bodyOf Tryz.f40) (pth n)
theorem g_e_AddRat_ok (N:Nat) (x:TRat) (y:TRat) (r:TRat) (h:g_e_AddRat N x y=some r):Sd 40 [(.agg (TRc x)),(.agg (TRc y))] [] 0 (.agg (TRc r)) []:=by
 unfold g_e_AddRat at h
 refine sor (fu:=Tryz.f40) (c:=C_38 1) (nt:=32) (by kernel_rfl) (by kernel_rfl) (by kernel_rfl) (by kernel_rfl) (fun hm=>rfl) ?_
 intro E hE
 refine rnR hE 1 [] [] (kp [2,3,4]) (kq [0,16,32]) 48 pn ?_
 obtain ⟨risZero,hr,h⟩:=bsm h
 refine rnR hE 2 [(1,⟨[],true,(aB risZero),[],0,false,none⟩)] [] (kp [2,3,4,8]) (kq [0,16,32]) 80 (pc o1 (pc (g_e_isZero_ok N x risZero hr) pn)) ?_
 refine rnC 0 8 h (fun hq2 h=>?_) (fun hq2 h=>?_)
 ·obtain ⟨rlowest,hr2,h⟩:=bsm h
  refine rnR hE 1 [(1,⟨[],true,(.agg (TRc rlowest)),[],0,false,none⟩)] [] (kp [4]) (kq [32]) 128 (pc o1 (pc (g_e_lowest_ok N y rlowest hr2) (pc o1 pn))) ?_
  obtain rfl:=osI h
  exact rnT hE 0 Tryz.f40 [] (kp [4]) [(16,.keep 32)] 128 pn [16] (pc o1 pn)
 ·obtain ⟨risZero2,hr3,h⟩:=bsm h
  refine rnR hE 3 [(1,⟨[],true,(aB risZero2),[],0,false,none⟩)] [] (kp [2,3,4,12]) (kq [0,16,32]) 112 (pc o1 (pc (g_e_isZero_ok N y risZero2 hr3) pn)) ?_
  refine rnC 0 12 h (fun hq3 h=>?_) (fun hq3 h=>?_)
  ·obtain ⟨rlowest2,hr4,h⟩:=bsm h
   refine rnR hE 1 [(1,⟨[],true,(.agg (TRc rlowest2)),[],0,false,none⟩)] [] (kp [4]) (kq [32]) 160 (pc o1 (pc (g_e_lowest_ok N x rlowest2 hr4) (pc o1 pn))) ?_
   obtain rfl:=osI h
   exact rnT hE 0 Tryz.f40 [] (kp [4]) [(16,.keep 32)] 160 pn [16] (pc o1 pn)
  ·obtain ⟨rbelow,hr5,h⟩:=bsm h
   obtain ⟨rbelow2,hr6,h⟩:=bsm h
   refine rnR hE 2 [(1,⟨[],true,(.agg (TIc rbelow)),[],0,false,none⟩),(3,⟨[],true,(.agg (TIc rbelow2)),[],0,false,none⟩)] [] (kp [2,3,4,5,6]) (kq [0,16,32,176,192]) 240 (pc o1 (pc (g_e_below_ok N x rbelow hr5) (pc o1 (pc (g_e_below_ok N y rbelow2 hr6) (pc o1 (pc o1 pn)))))) ?_
   obtain ⟨rMul,hr7,h⟩:=bsm h
   obtain ⟨rMul2,hr8,h⟩:=bsm h
   obtain ⟨rAdd,hr9,h⟩:=bsm h
   obtain ⟨rMul3,hr10,h⟩:=bsm h
   obtain ⟨rFr,hr11,h⟩:=bsm h
   refine rnR hE 1 [(3,⟨[],true,(.agg (TIc rMul)),[],0,false,none⟩),(7,⟨[],true,(.agg (TIc rMul2)),[],0,false,none⟩),(8,⟨[],true,(.agg (TIc rAdd)),[],0,false,none⟩),(11,⟨[],true,(.agg (TIc rMul3)),[],0,false,none⟩),(12,⟨[],true,(.agg (TRc rFr)),[],0,false,none⟩)] [] (kp [4]) (kq [32]) 464 (pc o1 (pc o1 (pc (g_e_Mul_ok N x.fN rbelow2 rMul hr7) (pc o1 (pc o1 (pc (g_e_Mul_ok N y.fN rbelow rMul2 hr8) (pc (g_e_Add_ok N rMul rMul2 rAdd hr9) (pc o1 (pc o1 (pc (g_e_Mul_ok N rbelow rbelow2 rMul3 hr10) (pc (g_e_fraction_ok N rAdd rMul3 rFr hr11) (pc o1 pn)))))))))))) ?_
   obtain rfl:=osI h
   exact rnT hE 0 Tryz.f40 [] (kp [4]) [(16,.keep 32)] 464 pn [16] (pc o1 pn)
noncomputable def C_45 (n:Nat):Code:=cat (bodyOf Tryz.f92) (pth n)
theorem g_e_opposite_ok (N:Nat) (a:TInt) (r:TInt) (h:g_e_opposite N a=some r):Sd 92 [(.agg (TIc a))] [] 0 (.agg (TIc r)) []:=by
 unfold g_e_opposite at h
 refine sor (fu:=Tryz.f92) (c:=C_45 1) (nt:=9) (by kernel_rfl) (by kernel_rfl) (by kernel_rfl) (by kernel_rfl) (fun hm=>rfl) ?_
 intro E hE
 refine rnR hE 1 [] [] (kp [1,2]) (kq [0,16]) 32 pn ?_
 refine rnR hE 1 [] [] (kp [2]) (kq [16]) 144 (pc o1 (pc o1 (pc o1 pn))) ?_
 obtain rfl:=osI h
 exact rnT hE 0 Tryz.f92 [] (kp [2]) (kq [16]) 144 pn [16] (pc o1 pn)
noncomputable def C_44 (n:Nat):Code:=cat (bodyOf Tryz.f73) (pth n)
theorem g_e_negative_ok (N:Nat) (x:TRat) (r:TRat) (h:g_e_negative N x=some r):Sd 73 [(.agg (TRc x))] [] 0 (.agg (TRc r)) []:=by
 unfold g_e_negative at h
 refine sor (fu:=Tryz.f73) (c:=C_44 1) (nt:=9) (by kernel_rfl) (by kernel_rfl) (by kernel_rfl) (by kernel_rfl) (fun hm=>rfl) ?_
 intro E hE
 refine rnR hE 1 [] [] (kp [1,2]) (kq [0,16]) 32 pn ?_
 obtain ⟨ropposite,hr,h⟩:=bsm h
 obtain ⟨rbelow,hr2,h⟩:=bsm h
 obtain ⟨rFr,hr3,h⟩:=bsm h
 refine rnR hE 1 [(2,⟨[],true,(.agg (TIc ropposite)),[],0,false,none⟩),(4,⟨[],true,(.agg (TIc rbelow)),[],0,false,none⟩),(5,⟨[],true,(.agg (TRc rFr)),[],0,false,none⟩)] [] (kp [2]) (kq [16]) 144 (pc o1 (pc (g_e_opposite_ok N x.fN ropposite hr) (pc o1 (pc (g_e_below_ok N x rbelow hr2) (pc (g_e_fraction_ok N ropposite rbelow rFr hr3) (pc o1 pn)))))) ?_
 obtain rfl:=osI h
 exact rnT hE 0 Tryz.f73 [] (kp [2]) (kq [16]) 144 pn [16] (pc o1 pn)
noncomputable def C_43 (n:Nat):Code:=cat (bodyOf Tryz.f66) (pth n)
theorem g_e_SubRat_ok (N:Nat) (x:TRat) (y:TRat) (r:TRat) (h:g_e_SubRat N x y=some r):Sd 66 [(.agg (TRc x)),(.agg (TRc y))] [] 0 (.agg (TRc r)) []:=by
 unfold g_e_SubRat at h
 refine sor (fu:=Tryz.f66) (c:=C_43 1) (nt:=9) (by kernel_rfl) (by kernel_rfl) (by kernel_rfl) (by kernel_rfl) (fun hm=>rfl) ?_
 intro E hE
 refine rnR hE 1 [] [] (kp [2,3,4]) (kq [0,16,32]) 48 pn ?_
 obtain ⟨rnegative,hr,h⟩:=bsm h
 obtain ⟨rAddRat,hr2,h⟩:=bsm h
 refine rnR hE 1 [(2,⟨[],true,(.agg (TRc rnegative)),[],0,false,none⟩),(3,⟨[],true,(.agg (TRc rAddRat)),[],0,false,none⟩)] [] (kp [4]) (kq [32]) 128 (pc o1 (pc o1 (pc (g_e_negative_ok N y rnegative hr) (pc (g_e_AddRat_ok N x rnegative rAddRat hr2) (pc o1 pn))))) ?_
 obtain rfl:=osI h
 exact rnT hE 0 Tryz.f66 [] (kp [4]) [(16,.keep 32)] 128 pn [16] (pc o1 pn)
noncomputable def C_42 (n:Nat):Code:=cat (bodyOf Tryz.f65) (pth n)
theorem g_e_ramps_1_L1_ok (N:Nat) (RD:TRat→TRat→TRat→Option TRat) (C1:TCurve) (C2:TRat) (fuel:Nat):∀ (C02:TRat) (before:TRat) (x:Int) (r:TRat),g_e_ramps_1_L1 N RD C1 C2 fuel C02 before x=some r→∀ E,EnvOk E 3→∀ lY,(∀ (ych:TRat) (yfr:TRat) (yx yr:TRat),RD ych yfr yx=some yr→YOK Tryz.prog E ⟨lY,[.agg (TRc ych),.agg (TRc yfr)],0,vO 4 (TRc yx),vO 4 (TRc yr)⟩)→Runs Tryz.prog E 65 43 (SPost E [(0,vO 4 (TRc r)),(1,vO 2 (TCc C1)),(2,vO 4 (TRc C2))] (.tup [])) [.code (C_42 28),.inLoop (C_42 28),.inBlock 0] ⟨[(0,(.atom (.func (.yield lY) #[] #[]))),(1,(.op 1 0 0)),(2,(.op 2 0 0)),(4,(.op 3 0 0)),(10,(encL cI 0 C1.f_Starts)),(11,(aI ((C1.f_Starts.length:Nat):Int))),(12,(aI x))],[(0,vO 4 (TRc C02)),(1,vO 2 (TCc C1)),(2,vO 4 (TRc C2)),(3,vO 4 (TRc before))],4⟩:=by
 induction fuel with
 | zero=>intro _ _ _ r h;rw [g_e_ramps_1_L1.eq_1] at h;cases h
 | succ fuel ih =>
  intro C02 before x r h E hE lY hY
  rw [g_e_ramps_1_L1.eq_2] at h
  refine sA 1 [.code (C_42 56),.code (C_42 57),.inLoop (C_42 28),.inBlock 0] ?_
  refine sR hE ⟨[(0,(.atom (.func (.yield lY) #[] #[]))),(1,(.op 1 0 0)),(2,(.op 2 0 0)),(4,(.op 3 0 0)),(10,(encL cI 0 C1.f_Starts)),(11,(aI ((C1.f_Starts.length:Nat):Int))),(12,(aI x)),(13,(aB (decide (x < ((C1.f_Starts.length:Nat):Int)))))],[(0,vO 4 (TRc C02)),(1,vO 2 (TCc C1)),(2,vO 4 (TRc C2)),(3,vO 4 (TRc before))],20⟩ (C_42 56) [] [] (kp [0,1,2,4,10,11,12,13]) (kq [0,1,2,3]) 20 [] trivial ?_
  refine sA 1 [.code (C_42 114),.code (C_42 115),.inLoop (C_42 28),.inBlock 0] ?_
  refine sC 13 (C_42 228) (C_42 229) (decide (x < ((C1.f_Starts.length:Nat):Int))) (fun hq2=>?_) (fun hq2=>?_)
  ·have h:=condT h hq2
   refine sA 4 [.code (C_42 920),.code (C_42 921),.inBlock 1,.code (C_42 231),.inLoop (C_42 28),.inBlock 0] ?_
   obtain ⟨c,h⟩:=ifSome h
   refine sR hE ⟨[(0,(.atom (.func (.yield lY) #[] #[]))),(1,(.op 1 0 0)),(2,(.op 2 0 0)),(4,(.op 3 0 0)),(5,(aI x)),(6,(aI (C1.f_Starts.getD ((x).toNat) 0))),(10,(encL cI 0 C1.f_Starts)),(11,(aI ((C1.f_Starts.length:Nat):Int))),(12,(aI x))],[(0,vO 4 (TRc C02)),(1,vO 2 (TCc C1)),(2,vO 4 (TRc C2)),(3,vO 4 (TRc before))],100⟩ (C_42 920) [] [] (kp [0,1,2,4,5,6,10,11,12]) (kq [0,1,2,3]) 100 [0≤x∧x < ((C1.f_Starts.length:Nat):Int)] ⟨c,trivial⟩ ?_
   refine sA 1 [.code (C_42 1842),.code (C_42 1843),.inBlock 1,.code (C_42 231),.inLoop (C_42 28),.inBlock 0] ?_
   obtain ⟨rnumber2,hr2,h⟩:=bsm h
   obtain ⟨rSubRat,hr3,h⟩:=bsm h
   refine sR hE ⟨[(0,(.atom (.func (.yield lY) #[] #[]))),(1,(.op 1 0 0)),(2,(.op 2 0 0)),(4,(.op 3 0 0)),(5,(aI x)),(7,(.op 164 0 0)),(10,(encL cI 0 C1.f_Starts)),(11,(aI ((C1.f_Starts.length:Nat):Int))),(12,(aI x))],[(0,vO 4 (TRc C02)),(1,vO 2 (TCc C1)),(2,vO 4 (TRc C2)),(3,vO 4 (TRc before)),(164,vO 4 (TRc rSubRat))],196⟩ (C_42 1842) [(2,⟨[],true,(.agg (TRc rnumber2)),[],0,false,none⟩),(3,⟨[],true,(.agg (TRc rSubRat)),[],0,false,none⟩)] [] (kp [0,1,2,4,5,7,10,11,12]) (kq [0,1,2,3,164]) 196 [0 < 1,Sd 38 [(aI (C1.f_Starts.getD ((x).toNat) 0))] [] 0 (.agg (TRc rnumber2)) [],Sd 66 [(.agg (TRc C2)),(.agg (TRc rnumber2))] [] 0 (.agg (TRc rSubRat)) [],0 < 1] ⟨o1,(g_e_number_ok N (C1.f_Starts.getD ((x).toNat) 0) rnumber2 hr2),(g_e_SubRat_ok N C2 rnumber2 rSubRat hr3),o1,trivial⟩ ?_
   refine sA 2 [.code (C_42 7372),.code (C_42 7373),.code (C_42 3687),.inBlock 1,.code (C_42 231),.inLoop (C_42 28),.inBlock 0] ?_
   obtain ⟨rsignOf,hr4,h⟩:=bsm h
   obtain ⟨c2,h⟩:=ifSome h
   obtain ⟨rSubRat2,hr5,h⟩:=bsm h
   rcases condSplit h with ⟨hG,h⟩ | ⟨hG,h⟩
   ·obtain ⟨ry,hry,h⟩:=bsm h
    refine sRY hE ⟨[(0,(.atom (.func (.yield lY) #[] #[]))),(1,(.op 1 0 0)),(2,(.op 2 0 0)),(4,(.op 3 0 0)),(5,(aI x)),(10,(encL cI 0 C1.f_Starts)),(11,(aI ((C1.f_Starts.length:Nat):Int))),(12,(aI x)),(36,(aB (cond (decide (rsignOf < 0)) true (!true))))],[(0,vO 4 (TRc ry)),(1,vO 2 (TCc C1)),(2,vO 4 (TRc C2)),(3,vO 4 (TRc before))],452⟩ (C_42 7372) [(1,⟨[],true,(aI rsignOf),[],0,false,none⟩),(11,⟨[],true,(.agg (TRc rSubRat2)),[],0,false,none⟩),(13,⟨[],true,.unk,[],1,false,some ⟨lY,[(.agg (TRc rSubRat2)),(.agg (TRc rSubRat))],0,vO 4 (TRc C02),vO 4 (TRc ry)⟩⟩),(14,⟨[],true,.unk,[],1,false,none⟩)] [] (kp [0,1,2,4,5,10,11,12,36]) (kq [0,1,2,3]) 452 [0 < 1,Sd 63 [(.agg (TRc rSubRat))] [] 0 (aI rsignOf) [],(!(decide (rsignOf < 0)))=true→AllP [(!(decide (rsignOf < 0)))=true,0 < 1],(!(decide (rsignOf < 0)))=true→AllP [(!(decide (rsignOf < 0)))=true,(!(decide (rsignOf < 0)))=true,0≤x∧x < ((C1.f_Slopes.length:Nat):Int)],(!(decide (rsignOf < 0)))=true→AllP [(!(decide (rsignOf < 0)))=true],(!(decide (rsignOf < 0)))=true→AllP [0 < 1],(!(decide (rsignOf < 0)))=true→AllP [Sd 66 [(.agg [(aB (((C1.f_Slopes.getD ((x).toNat) TRat.d).fN).fG)),(eU (((C1.f_Slopes.getD ((x).toNat) TRat.d).fN).fL)),(aB (((C1.f_Slopes.getD ((x).toNat) TRat.d).fD).fG)),(eU (((C1.f_Slopes.getD ((x).toNat) TRat.d).fD).fL))]),(.agg (TRc before))] [] 0 (.agg (TRc rSubRat2)) [],(!(decide (rsignOf < 0)))=true,(!(decide (rsignOf < 0)))=true],(!(decide (rsignOf < 0)))=true→AllP [0 < 1],(!(decide (rsignOf < 0)))=true,(lY=lY∧(#[]:Array Value)=#[]∧(#[]:Array Value)=#[]∧([(.agg (TRc rSubRat2)),(.agg (TRc rSubRat))]:List AV)=[(.agg (TRc rSubRat2)),(.agg (TRc rSubRat))]∧(vO 4 (TRc C02):Ob)=vO 4 (TRc C02)),(!(decide (rsignOf < 0)))=true,(!(decide (rsignOf < 0)))=true,(!(decide (rsignOf < 0)))=true,(!(decide (rsignOf < 0)))=true] ⟨o1,(g_e_signOf_ok N rSubRat rsignOf hr4),(fun hg=>⟨hg,o1,trivial⟩),(fun hg=>⟨hg,hg,(c2 hg),trivial⟩),(fun hg=>⟨hg,trivial⟩),(fun hg=>⟨o1,trivial⟩),(fun hg=>⟨(g_e_SubRat_ok N (⟨((C1.f_Slopes.getD ((x).toNat) TRat.d).fN),((C1.f_Slopes.getD ((x).toNat) TRat.d).fD)⟩:TRat) before rSubRat2 (condT hr5 hg)),hg,hg,trivial⟩),(fun hg=>⟨o1,trivial⟩),hG,⟨rfl,rfl,rfl,rfl,rfl⟩,hG,hG,hG,hG,trivial⟩ ⟨trivial,⟨trivial,⟨hY rSubRat2 rSubRat C02 ry hry,⟨trivial,trivial⟩⟩⟩⟩ ?_
    refine sC 36 (C_42 14746) (C_42 14747) (cond (decide (rsignOf < 0)) true (!true)) (fun hq3=>?_) (fun hq3=>?_)
    ·have h:=condT h hq3
     obtain rfl:=osI h
     refine sW hE ⟨[],[(0,vO 4 (TRc ry)),(1,vO 2 (TCc C1)),(2,vO 4 (TRc C2))],452⟩ [] [] (kq [0,1,2]) 452 [] trivial ?_
     exact sT Tryz.f65 [] [] trivial
    ·have h:=condF h hq3
     refine sA 1 [.code (C_42 3687),.inBlock 1,.code (C_42 231),.inLoop (C_42 28),.inBlock 0] ?_
     obtain ⟨c3,h⟩:=ifSome h
     refine sR hE ⟨[(0,(.atom (.func (.yield lY) #[] #[]))),(1,(.op 1 0 0)),(2,(.op 2 0 0)),(4,(.op 3 0 0)),(10,(encL cI 0 C1.f_Starts)),(11,(aI ((C1.f_Starts.length:Nat):Int))),(12,(aI x))],[(0,vO 4 (TRc ry)),(1,vO 2 (TCc C1)),(2,vO 4 (TRc C2)),(3,vO 4 [(aB (((C1.f_Slopes.getD ((x).toNat) TRat.d).fN).fG)),(eU (((C1.f_Slopes.getD ((x).toNat) TRat.d).fN).fL)),(aB (((C1.f_Slopes.getD ((x).toNat) TRat.d).fD).fG)),(eU (((C1.f_Slopes.getD ((x).toNat) TRat.d).fD).fL))])],548⟩ (C_42 3687) [] [] (kp [0,1,2,4,10,11,12]) (kq [0,1,2,3]) 548 [0 < 1,0≤x∧x < ((C1.f_Slopes.length:Nat):Int),0 < 1] ⟨o1,c3,o1,trivial⟩ ?_
     refine sA 1 [.code (C_42 231),.inLoop (C_42 28),.inBlock 0] ?_
     refine sR hE ⟨[(0,(.atom (.func (.yield lY) #[] #[]))),(1,(.op 1 0 0)),(2,(.op 2 0 0)),(4,(.op 3 0 0)),(10,(encL cI 0 C1.f_Starts)),(11,(aI ((C1.f_Starts.length:Nat):Int))),(12,(aI (w64 (x+1))))],[(0,vO 4 (TRc ry)),(1,vO 2 (TCc C1)),(2,vO 4 (TRc C2)),(3,vO 4 [(aB (((C1.f_Slopes.getD ((x).toNat) TRat.d).fN).fG)),(eU (((C1.f_Slopes.getD ((x).toNat) TRat.d).fN).fL)),(aB (((C1.f_Slopes.getD ((x).toNat) TRat.d).fD).fG)),(eU (((C1.f_Slopes.getD ((x).toNat) TRat.d).fD).fL))])],580⟩ (C_42 231) [] [] (kp [0,1,2,4,10,11,12]) (kq [0,1,2,3]) 580 [] trivial ?_
     refine sA 1 [.code (C_42 28),.inLoop (C_42 28),.inBlock 0] ?_
     exact sW hE _ [] (kp [0,1,2,4,10,11,12]) (kq [0,1,2,3]) 4 [] trivial (ih ry (⟨((C1.f_Slopes.getD ((x).toNat) TRat.d).fN),((C1.f_Slopes.getD ((x).toNat) TRat.d).fD)⟩:TRat) (w64 (x+1)) _ h E hE lY hY)
   ·refine sR hE ⟨[(0,(.atom (.func (.yield lY) #[] #[]))),(1,(.op 1 0 0)),(2,(.op 2 0 0)),(4,(.op 3 0 0)),(5,(aI x)),(10,(encL cI 0 C1.f_Starts)),(11,(aI ((C1.f_Starts.length:Nat):Int))),(12,(aI x)),(36,(aB (cond (decide (rsignOf < 0)) true false)))],[(0,vO 4 (TRc C02)),(1,vO 2 (TCc C1)),(2,vO 4 (TRc C2)),(3,vO 4 (TRc before))],452⟩ (C_42 7372) [(1,⟨[],true,(aI rsignOf),[],0,false,none⟩),(11,⟨[],true,(.agg (TRc rSubRat2)),[],0,false,none⟩),(13,⟨[],true,(aB false),[],2,false,none⟩),(14,⟨[],true,(aB false),[],2,false,none⟩)] [] (kp [0,1,2,4,5,10,11,12,36]) (kq [0,1,2,3]) 452 [0 < 1,Sd 63 [(.agg (TRc rSubRat))] [] 0 (aI rsignOf) [],(!(decide (rsignOf < 0)))=true→AllP [(!(decide (rsignOf < 0)))=true,0 < 1],(!(decide (rsignOf < 0)))=true→AllP [(!(decide (rsignOf < 0)))=true,(!(decide (rsignOf < 0)))=true,0≤x∧x < ((C1.f_Slopes.length:Nat):Int)],(!(decide (rsignOf < 0)))=true→AllP [(!(decide (rsignOf < 0)))=true],(!(decide (rsignOf < 0)))=true→AllP [0 < 1],(!(decide (rsignOf < 0)))=true→AllP [Sd 66 [(.agg [(aB (((C1.f_Slopes.getD ((x).toNat) TRat.d).fN).fG)),(eU (((C1.f_Slopes.getD ((x).toNat) TRat.d).fN).fL)),(aB (((C1.f_Slopes.getD ((x).toNat) TRat.d).fD).fG)),(eU (((C1.f_Slopes.getD ((x).toNat) TRat.d).fD).fL))]),(.agg (TRc before))] [] 0 (.agg (TRc rSubRat2)) [],(!(decide (rsignOf < 0)))=true,(!(decide (rsignOf < 0)))=true],(!(decide (rsignOf < 0)))=true→AllP [0 < 1],(!(decide (rsignOf < 0)))=false,(!(decide (rsignOf < 0)))=false,(!(decide (rsignOf < 0)))=true→AllP [(!(decide (rsignOf < 0)))=true]] ⟨o1,(g_e_signOf_ok N rSubRat rsignOf hr4),(fun hg=>⟨hg,o1,trivial⟩),(fun hg=>⟨hg,hg,(c2 hg),trivial⟩),(fun hg=>⟨hg,trivial⟩),(fun hg=>⟨o1,trivial⟩),(fun hg=>⟨(g_e_SubRat_ok N (⟨((C1.f_Slopes.getD ((x).toNat) TRat.d).fN),((C1.f_Slopes.getD ((x).toNat) TRat.d).fD)⟩:TRat) before rSubRat2 (condT hr5 hg)),hg,hg,trivial⟩),(fun hg=>⟨o1,trivial⟩),hG,hG,(fun hq=>⟨hq,trivial⟩),trivial⟩ ?_
    refine sC 36 (C_42 14746) (C_42 14747) (cond (decide (rsignOf < 0)) true false) (fun hq4=>?_) (fun hq4=>?_)
    ·have h:=condT h hq4
     obtain rfl:=osI h
     refine sW hE ⟨[],[(0,vO 4 (TRc C02)),(1,vO 2 (TCc C1)),(2,vO 4 (TRc C2))],452⟩ [] [] (kq [0,1,2]) 452 [] trivial ?_
     exact sT Tryz.f65 [] [] trivial
    ·have h:=condF h hq4
     refine sA 1 [.code (C_42 3687),.inBlock 1,.code (C_42 231),.inLoop (C_42 28),.inBlock 0] ?_
     obtain ⟨c4,h⟩:=ifSome h
     refine sR hE ⟨[(0,(.atom (.func (.yield lY) #[] #[]))),(1,(.op 1 0 0)),(2,(.op 2 0 0)),(4,(.op 3 0 0)),(10,(encL cI 0 C1.f_Starts)),(11,(aI ((C1.f_Starts.length:Nat):Int))),(12,(aI x))],[(0,vO 4 (TRc C02)),(1,vO 2 (TCc C1)),(2,vO 4 (TRc C2)),(3,vO 4 [(aB (((C1.f_Slopes.getD ((x).toNat) TRat.d).fN).fG)),(eU (((C1.f_Slopes.getD ((x).toNat) TRat.d).fN).fL)),(aB (((C1.f_Slopes.getD ((x).toNat) TRat.d).fD).fG)),(eU (((C1.f_Slopes.getD ((x).toNat) TRat.d).fD).fL))])],548⟩ (C_42 3687) [] [] (kp [0,1,2,4,10,11,12]) (kq [0,1,2,3]) 548 [0 < 1,0≤x∧x < ((C1.f_Slopes.length:Nat):Int),0 < 1] ⟨o1,c4,o1,trivial⟩ ?_
     refine sA 1 [.code (C_42 231),.inLoop (C_42 28),.inBlock 0] ?_
     refine sR hE ⟨[(0,(.atom (.func (.yield lY) #[] #[]))),(1,(.op 1 0 0)),(2,(.op 2 0 0)),(4,(.op 3 0 0)),(10,(encL cI 0 C1.f_Starts)),(11,(aI ((C1.f_Starts.length:Nat):Int))),(12,(aI (w64 (x+1))))],[(0,vO 4 (TRc C02)),(1,vO 2 (TCc C1)),(2,vO 4 (TRc C2)),(3,vO 4 [(aB (((C1.f_Slopes.getD ((x).toNat) TRat.d).fN).fG)),(eU (((C1.f_Slopes.getD ((x).toNat) TRat.d).fN).fL)),(aB (((C1.f_Slopes.getD ((x).toNat) TRat.d).fD).fG)),(eU (((C1.f_Slopes.getD ((x).toNat) TRat.d).fD).fL))])],580⟩ (C_42 231) [] [] (kp [0,1,2,4,10,11,12]) (kq [0,1,2,3]) 580 [] trivial ?_
     refine sA 1 [.code (C_42 28),.inLoop (C_42 28),.inBlock 0] ?_
     exact sW hE _ [] (kp [0,1,2,4,10,11,12]) (kq [0,1,2,3]) 4 [] trivial (ih C02 (⟨((C1.f_Slopes.getD ((x).toNat) TRat.d).fN),((C1.f_Slopes.getD ((x).toNat) TRat.d).fD)⟩:TRat) (w64 (x+1)) _ h E hE lY hY)
  ·have h:=condF h hq2
   refine sA 1 [] ?_
   obtain rfl:=osI h
   refine sW hE ⟨[],[(0,vO 4 (TRc C02)),(1,vO 2 (TCc C1)),(2,vO 4 (TRc C2))],51⟩ [] [] (kq [0,1,2]) 51 [] trivial ?_
   exact sF Tryz.f65 [] [] trivial
theorem g_e_ramps_1_ok (N:Nat) (RD:TRat→TRat→TRat→Option TRat) (C0:TRat) (C1:TCurve) (C2:TRat) (r:TRat) (h:g_e_ramps_1 N RD C0 C1 C2=some r):∀ E,EnvOk E 3→∀ lY,(∀ (ych:TRat) (yfr:TRat) (yx yr:TRat),RD ych yfr yx=some yr→YOK Tryz.prog E ⟨lY,[.agg (TRc ych),.agg (TRc yfr)],0,vO 4 (TRc yx),vO 4 (TRc yr)⟩)→Runs Tryz.prog E 65 43 (SPost E [(0,vO 4 (TRc r)),(1,vO 2 (TCc C1)),(2,vO 4 (TRc C2))] (.tup [])) [.code (C_42 1)] ⟨initTm [(.atom (.func (.yield lY) #[] #[])),(.op 1 0 0),(.op 2 0 0)] 0,[(0,vO 4 (TRc C0)),(1,vO 2 (TCc C1)),(2,vO 4 (TRc C2))],3⟩:=by
 intro E hE lY hY
 unfold g_e_ramps_1 at h
 refine sA 1 [.code (C_42 2),.code (C_42 3)] ?_
 obtain ⟨rnumber,hr,h⟩:=bsm h
 refine sR hE ⟨[(0,(.atom (.func (.yield lY) #[] #[]))),(1,(.op 1 0 0)),(2,(.op 2 0 0)),(4,(.op 19 0 0))],[(0,vO 4 (TRc C0)),(1,vO 2 (TCc C1)),(2,vO 4 (TRc C2)),(19,vO 4 (TRc rnumber))],51⟩ (C_42 2) [(0,⟨[],true,(.agg (TRc rnumber)),[],0,false,none⟩)] [] (kp [0,1,2,4]) (kq [0,1,2,19]) 51 [Sd 38 [(aI 0)] [] 0 (.agg (TRc rnumber)) [],0 < 1] ⟨(g_e_number_ok N 0 rnumber hr),o1,trivial⟩ ?_
 refine sA 1 [.code (C_42 6),.code (C_42 7)] ?_
 refine sR hE ⟨[(0,(.atom (.func (.yield lY) #[] #[]))),(1,(.op 1 0 0)),(2,(.op 2 0 0)),(4,(.op 19 0 0)),(10,(encL cI 0 C1.f_Starts)),(11,(aI ((C1.f_Starts.length:Nat):Int))),(12,(aI 0))],[(0,vO 4 (TRc C0)),(1,vO 2 (TCc C1)),(2,vO 4 (TRc C2)),(19,vO 4 (TRc rnumber))],115⟩ (C_42 6) [] [] (kp [0,1,2,4,10,11,12]) (kq [0,1,2,19]) 115 [0 < 1] ⟨o1,trivial⟩ ?_
 refine sA 2 [.code (C_42 28),.inLoop (C_42 28),.inBlock 0] ?_
 exact sW hE _ [] (kp [0,1,2,4,10,11,12]) (kq [0,1,2] ++ [(3,.keep 19)]) 4 [] trivial (g_e_ramps_1_L1_ok N RD C1 C2 N C0 rnumber 0 _ h E hE lY hY)
noncomputable def C_27 (n:Nat):Code:=cat (bodyOf Tryz.f16) (pth n)
theorem g_e_Value_R_ok (N:Nat) (change:TRat) (far:TRat) (sum:TRat) (r:TRat) (h:g_e_Value_R N change far sum=some r):∀ E,EnvOk E 1 →
  WI Tryz.prog E 28 (rfA (C_27 122)) ⟨[(7,(.op 0 0 0)),(20,(.agg (TRc change))),(21,(.agg (TRc far)))],[(0,vO 4 (TRc sum))],1⟩ ⟨[(7,(.op 0 0 0)),(8,(.op 1 0 0)),(9,(.op 33 0 0))],[(0,vO 4 (TRc sum)),(1,vO 4 (TRc change)),(33,vO 4 (TRc far))],65⟩∧WI Tryz.prog E 28 (rfB (C_27 122)) ⟨[(7,(.op 0 0 0)),(8,(.op 1 0 0)),(9,(.op 33 0 0))],[(0,vO 4 (TRc sum)),(1,vO 4 (TRc change)),(33,vO 4 (TRc far))],65⟩ ⟨[],[(0,vO 4 (TRc r))],161⟩:=by
 unfold g_e_Value_R at h
 obtain ⟨rMulRat,hr,h⟩:=bsm h
 obtain ⟨rAddRat,hr2,h⟩:=bsm h
 obtain rfl:=osI h
 exact fun E hE=>⟨(WI.sS (cat (rfA (C_27 122)) (pth 2)) (cat (rfA (C_27 122)) (pth 3)) (WI.sR hE ⟨[(7,(.op 0 0 0)),(20,(.agg (TRc change))),(21,(.agg (TRc far)))],[(0,vO 4 (TRc sum))],1⟩ ⟨[(7,(.op 0 0 0)),(8,(.op 1 0 0)),(21,(.agg (TRc far)))],[(0,vO 4 (TRc sum)),(1,vO 4 (TRc change))],33⟩ (cat (rfA (C_27 122)) (pth 2)) [] [] (kp [7,8,21]) (kq [0,1]) 33 [0 < 1] ⟨o1,trivial⟩) (WI.sR hE ⟨[(7,(.op 0 0 0)),(8,(.op 1 0 0)),(21,(.agg (TRc far)))],[(0,vO 4 (TRc sum)),(1,vO 4 (TRc change))],33⟩ ⟨[(7,(.op 0 0 0)),(8,(.op 1 0 0)),(9,(.op 33 0 0))],[(0,vO 4 (TRc sum)),(1,vO 4 (TRc change)),(33,vO 4 (TRc far))],65⟩ (cat (rfA (C_27 122)) (pth 3)) [] [] (kp [7,8,9]) (kq [0,1,33]) 65 [0 < 1] ⟨o1,trivial⟩)),(WI.sB 1 (cat (rfB (C_27 122)) (pth 2)) (WI.sR hE ⟨[(7,(.op 0 0 0)),(8,(.op 1 0 0)),(9,(.op 33 0 0))],[(0,vO 4 (TRc sum)),(1,vO 4 (TRc change)),(33,vO 4 (TRc far))],65⟩ ⟨[],[(0,vO 4 (TRc rAddRat))],161⟩ (cat (rfB (C_27 122)) (pth 2)) [(3,⟨[],true,(.agg (TRc rMulRat)),[],0,false,none⟩),(4,⟨[],true,(.agg (TRc rAddRat)),[],0,false,none⟩)] [] [] (kq [0]) 161 [0 < 1,0 < 1,0 < 1,Sd 41 [(.agg (TRc change)),(.agg (TRc far))] [] 0 (.agg (TRc rMulRat)) [],Sd 40 [(.agg (TRc sum)),(.agg (TRc rMulRat))] [] 0 (.agg (TRc rAddRat)) [],0 < 1] ⟨o1,o1,o1,(g_e_MulRat_ok N change far rMulRat hr),(g_e_AddRat_ok N sum rMulRat rAddRat hr2),o1,trivial⟩))⟩
theorem g_e_Value_ok (N:Nat) (c:TCurve) (y:TRat) (r:TRat×Int) (h:g_e_Value N c y=some r):Sd 16 [(.agg (TCc c)),(.agg (TRc y))] [] 0 (.tup [(.agg (TRc r.1)),(aI r.2)]) []:=by
 unfold g_e_Value at h
 refine sor (fu:=Tryz.f16) (c:=C_27 1) (nt:=28) (by kernel_rfl) (by kernel_rfl) (by kernel_rfl) (by kernel_rfl) (fun hm=>rfl) ?_
 intro E hE
 refine sA 1 [.code (C_27 2),.code (C_27 3)] ?_
 refine sR hE ⟨[(2,(.op 0 0 0)),(3,(.op 16 0 0)),(4,(.op 32 0 0))],[(0,vO 2 (TCc c)),(16,vO 4 (TRc y)),(32,vO 4 [(aB false),.nil,(aB false),.nil])],64⟩ (C_27 2) [] [] (kp [2,3,4]) (kq [0,16,32]) 64 [] trivial ?_
 refine sA 2 [.code (C_27 12),.code (C_27 13),.code (C_27 7)] ?_
 obtain ⟨rCheckCurve,hr,h⟩:=bsm h
 refine sR hE ⟨[(2,(.op 0 0 0)),(3,(.op 16 0 0)),(4,(.op 32 0 0)),(6,(aI rCheckCurve))],[(0,vO 2 (TCc c)),(16,vO 4 (TRc y)),(32,vO 4 [(aB false),.nil,(aB false),.nil])],112⟩ (C_27 12) [(1,⟨[],true,(aI rCheckCurve),[],0,false,none⟩)] [] (kp [2,3,4,6]) (kq [0,16,32]) 112 [0 < 1,Sd 37 [(.agg (TCc c))] [] 0 (aI rCheckCurve) []] ⟨o1,(g_e_CheckCurve_ok N c rCheckCurve hr),trivial⟩ ?_
 refine sA 1 [.code (C_27 26),.code (C_27 27),.code (C_27 7)] ?_
 refine sR hE ⟨[(2,(.op 0 0 0)),(3,(.op 16 0 0)),(4,(.op 32 0 0)),(6,(aI rCheckCurve)),(13,(aB (rCheckCurve != 0)))],[(0,vO 2 (TCc c)),(16,vO 4 (TRc y)),(32,vO 4 [(aB false),.nil,(aB false),.nil])],144⟩ (C_27 26) [] [] (kp [2,3,4,6,13]) (kq [0,16,32]) 144 [] trivial ?_
 refine sC 13 (C_27 54) (C_27 55) (rCheckCurve != 0) (fun hq2=>?_) (fun hq2=>?_)
 ·have h:=condT h hq2
  refine sA 1 [.code (C_27 108),.code (C_27 109),.code (C_27 7)] ?_
  refine sR hE ⟨[(4,(.op 32 0 0)),(5,(aI rCheckCurve))],[(32,vO 4 [(aB false),.nil,(aB false),.nil])],208⟩ (C_27 108) [] [] (kp [4,5]) (kq [32]) 208 [0 < 1] ⟨o1,trivial⟩ ?_
  obtain rfl:=osI h
  refine sW hE ⟨[(4,(.op 16 0 0)),(5,(aI rCheckCurve))],[(16,vO 4 [(aB false),(eU ([]:List Int)),(aB false),(eU ([]:List Int))])],208⟩ [] (kp [4,5]) [(16,.var 32 [.keep,.sl (([]:List Int).length) (fun zi=>(cU .u16) (([]:List Int).getD zi 0)),.keep,.sl (([]:List Int).length) (fun zi=>(cU .u16) (([]:List Int).getD zi 0))])] 208 [([]:List Int).length=0,([]:List Int).length=0] ⟨rfl,rfl,trivial⟩ ?_
  exact sT Tryz.f16 [16] [0 < 1] ⟨o1,trivial⟩
 ·have h:=condF h hq2
  refine sA 2 [.code (C_27 14),.code (C_27 15)] ?_
  obtain ⟨rnumber,hr2,h⟩:=bsm h
  refine sR hE ⟨[(2,(.op 0 0 0)),(3,(.op 16 0 0)),(4,(.op 32 0 0)),(7,(.op 160 0 0))],[(0,vO 2 (TCc c)),(16,vO 4 (TRc y)),(32,vO 4 [(aB false),.nil,(aB false),.nil]),(160,vO 4 (TRc rnumber))],192⟩ (C_27 14) [(0,⟨[],true,(.agg (TRc rnumber)),[],0,false,none⟩)] [] (kp [2,3,4,7]) (kq [0,16,32,160]) 192 [Sd 38 [(aI 0)] [] 0 (.agg (TRc rnumber)) [],0 < 1] ⟨(g_e_number_ok N 0 rnumber hr2),o1,trivial⟩ ?_
  refine sA 2 [.code (C_27 60),.code (C_27 61),.code (C_27 31)] ?_
  obtain ⟨rramps,hr3,h⟩:=bsm h
  refine sR hE ⟨[(4,(.op 32 0 0)),(7,(.op 160 0 0)),(19,(.fn (.func 65) [] [(.op 224 0 0),(.op 225 0 0)]))],[(32,vO 4 [(aB false),.nil,(aB false),.nil]),(160,vO 4 (TRc rnumber)),(224,vO 2 (TCc rramps.1)),(225,vO 4 (TRc rramps.2))],240⟩ (C_27 60) [(2,⟨[],false,(.fn (.func 65) [] [(.op 0 0 0),(.op 1 0 0)]),[(0,vO 2 (TCc rramps.1)),(1,vO 4 (TRc rramps.2))],0,false,none⟩)] [] (kp [4,7,19]) (kq [32,160,224,225]) 240 [0 < 1,0 < 1,Sd 39 [(.agg (TCc c)),(.agg (TRc y))] [] 0 (.fn (.func 65) [] [(.op 0 0 0),(.op 1 0 0)]) [(0,vO 2 (TCc rramps.1)),(1,vO 4 (TRc rramps.2))]] ⟨o1,o1,(g_e_ramps_ok N c y rramps hr3),trivial⟩ ?_
  refine sA 1 [.code (C_27 122),.inBlock 0,.code (C_27 31)] ?_
  obtain ⟨rr,hrr,h⟩:=bsm h
  refine Runs.range (m1:=3) (m9:=1) (nt1:=43) (orc:=⟨[160,224,225],false,.tup [],[(0,vO 4 (TRc rr)),(1,vO 2 (TCc rramps.1)),(2,vO 4 (TRc rramps.2))],0,false,none⟩) (avs:=fun l=>[.atom (.func (.yield l) #[] #[]),.op 1 0 0,.op 2 0 0]) (σc:=[(0,vO 4 (TRc rnumber)),(1,vO 2 (TCc rramps.1)),(2,vO 4 (TRc rramps.2))]) (σ':=[(0,vO 4 (TRc rr)),(1,vO 2 (TCc rramps.1)),(2,vO 4 (TRc rramps.2))]) (res:=.tup []) (x:=.tup []) (gid:=65) (fu:=Tryz.f65) (c1:=C_42 1) (rds:=[160,224,225]) (upd:=backU [160,224,225] 240 [(0,vO 4 (TRc rr)),(1,vO 2 (TCc rramps.1)),(2,vO 4 (TRc rramps.2))] 0 [160,224,225] ++ (newU [160,224,225] 240 [(0,vO 4 (TRc rr)),(1,vO 2 (TCc rramps.1)),(2,vO 4 (TRc rramps.2))] ++ [])) hE rfl rfl (by kernel_rfl) (by kernel_rfl) (by kernel_rfl) (fun _=>by kernel_rfl) (fun l=>by kernel_rfl) (fun E1 l rq hm hl hfp hst hpd hps has hbd hsz hsn=>?_) (by decide) (by decide) (by show (1:Nat)≤256;decide) (fun E9 D hE9 HB hmm hD hfp hDE=>?_)
  ·refine g_e_ramps_1_ok N (g_e_Value_R N) rnumber rramps.1 rramps.2 rr hrr E1 ⟨hm,fun h=>absurd h (by decide)⟩ l (fun ych yfr yx yr hy=>?_)
   have W:=g_e_Value_R_ok N ych yfr yx yr hy
   refine yok_of (nt:=28) hl hfp hst hpd (by rw [hm];decide) rfl rfl (by show (4:Nat)≠0;decide) rfl (by rw [hps];rfl) (st0:=⟨[(7,(.op 0 0 0)),(20,(.agg (TRc ych))),(21,(.agg (TRc yfr)))],[(0,vO 4 (TRc yx))],1⟩) rfl rfl ?_ ?_ (fun E' hE'=>by rw [has];exact (W E' hE').1) (fun E' hE'=>by rw [hbd];exact (W E' hE').2)
   ·rfl
   ·intro w S μ vs hrl hmu;exact round_in2 hps hsz (by decide) (by decide) (by decide) (by decide) (by decide) (hsn 7) hrl hmu
  ·refine RunsD.sA 2 [.code (C_27 62),.code (C_27 63)] ?_
   refine RunsD.sR hE9 ⟨[(4,(.op 32 0 0)),(5,(aI 0))],[(32,vO 4 (TRc rr))],304⟩ (C_27 62) [] [] (kp [4,5]) (kq [32]) 304 [0 < 1,0 < 1] ⟨o1,o1,trivial⟩ ?_
   obtain rfl:=osI h
   refine RunsD.sW hE9 ⟨[(4,(.op 16 0 0)),(5,(aI 0))],[(16,vO 4 (TRc rr))],304⟩ [] (kp [4,5]) [(16,.keep 32)] 304 [] trivial ?_
   exact RunsD.sT HB hmm hD hfp hDE Tryz.f16 [16] [0 < 1] ⟨o1,trivial⟩
noncomputable def C_46 (n:Nat):Code:=cat (bodyOf Tryz.f18) (pth n)
def g_b_SameInt_L1_H (N:Nat) (a:TInt) (b:TInt) (K:Int→Option (Bool)):Prop:=∀ (i:Int) (r:Bool),K i=some r→∀ E,EnvOk E 0→Runs Tryz.prog E 18 38 (SPost E [] (aB r)) [.code (C_46 116),.inLoop (C_46 116),.inBlock 0,.code (C_46 15)] ⟨[(2,(.op 0 0 0)),(3,(.op 1 0 0)),(5,(aI i))],[(0,vO 2 (TIc a)),(1,vO 2 (TIc b))],2⟩
theorem g_b_SameInt_L1_ok (N:Nat) (a:TInt) (b:TInt) (fuel:Nat):g_b_SameInt_L1_H N a b (g_b_SameInt_L1 N a b fuel):=by
 induction fuel with
 | zero=>intro _ r h;rw [g_b_SameInt_L1.eq_1] at h;cases h
 | succ fuel ih =>
  intro i r h E hE
  rw [g_b_SameInt_L1.eq_2] at h
  refine rnR hE 2 [] [] (kp [2,3,5,24]) (kq [0,1]) 82 (pc o1 pn) ?_
  refine rnC 0 24 h (fun hq3 h=>?_) (fun hq3 h=>?_)
  ·obtain ⟨c,h⟩:=ifSome h
   obtain ⟨c2,h⟩:=ifSome h
   refine rnR hE 4 [] [] (kp [2,3,5,37]) (kq [0,1]) 258 (pc o1 (pc c (pc o1 (pc c2 pn)))) ?_
   refine rnC 0 37 h (fun hq4 h=>?_) (fun hq4 h=>?_)
   ·refine rnR hE 1 [] [] (kp [4]) [] 274 pn ?_
    obtain rfl:=osI h
    exact rnT hE 0 Tryz.f18 [] (kp [4]) [] 274 pn [] pn
   ·refine rnR hE 2 [] [] (kp [2,3,5]) (kq [0,1]) 306 pn ?_
    exact rnW hE 1 [] (kp [2,3,5]) (kq [0,1]) 2 pn (ih _ _ h E hE)
  ·refine rnR hE 2 [] [] (kp [4]) [] 98 pn ?_
   obtain rfl:=osI h
   exact rnT hE 0 Tryz.f18 [] (kp [4]) [] 98 pn [] pn
theorem g_b_SameInt_ok (N:Nat) (a:TInt) (b:TInt) (r:Bool) (h:g_b_SameInt N a b=some r):Sd 18 [(.agg (TIc a)),(.agg (TIc b))] [] 0 (aB r) []:=by
 unfold g_b_SameInt at h
 refine sor (fu:=Tryz.f18) (c:=C_46 1) (nt:=38) (by kernel_rfl) (by kernel_rfl) (by kernel_rfl) (by kernel_rfl) (fun hm=>rfl) ?_
 intro E hE
 refine rnR hE 1 [] [] (kp [2,3]) (kq [0,16]) 48 pn ?_
 refine rnR hE 2 [] [] (kp [2,3,19]) (kq [0,16]) 272 (pc o1 (pc o1 (pc (fun hg:(!(!(a.fG == b.fG)))=true=>(pc hg (pc o1 pn))) (pc (fun hg:(!(!(a.fG == b.fG)))=true=>(pc hg pn)) (pc (fun hg:(!(!(a.fG == b.fG)))=true=>(pc hg (pc o1 pn))) (pc (fun hg:(!(!(a.fG == b.fG)))=true=>(pc hg pn)) (pc (fun hg:(!(!(a.fG == b.fG)))=true=>(pc hg (pc hg pn))) (pc (fun hq:(!(!(a.fG == b.fG)))=true=>(pc hq pn)) pn)))))))) ?_
 refine rnC 0 19 h (fun hq2 h=>?_) (fun hq2 h=>?_)
 ·refine rnR hE 1 [] [] (kp [4]) [] 288 pn ?_
  obtain rfl:=osI h
  exact rnT hE 0 Tryz.f18 [] (kp [4]) [] 288 pn [] pn
 ·refine rnR hE 3 [] [] (kp [2,3,5]) (kq [0,16]) 288 pn ?_
  exact rnW hE 2 [] (kp [2,3,5]) (kq [0] ++ [(1,.keep 16)]) 2 pn (g_b_SameInt_L1_ok N _ _ N _ _ h E hE)
noncomputable def C_47 (n:Nat):Code:=cat (bodyOf Tryz.f20) (pth n)
def g_b_Q_J1_H (N:Nat) (K:Int→Int→Option (TRat)):Prop:=∀ (a2:Int) (b2:Int) (r:TRat),K a2 b2=some r→∀ E,EnvOk E 0→Runs Tryz.prog E 20 34 (SPost E [] (.agg (TRc r))) [.code (C_47 14),.code (C_47 15)] ⟨[(0,(aI a2)),(1,(aI b2)),(4,(.op 0 0 0))],[(0,vO 4 [(aB false),.nil,(aB false),.nil])],1⟩
def g_b_Q_L2_H (N:Nat) (a2:Int) (b2:Int) (K:Int→Int→Option (TRat)):Prop:=∀ (x:Int) (y:Int) (r:TRat),K x y=some r→∀ E,EnvOk E 0→Runs Tryz.prog E 20 34 (SPost E [] (.agg (TRc r))) [.code (C_47 248),.inLoop (C_47 248),.inBlock 0,.code (C_47 63)] ⟨[(0,(aI a2)),(1,(aI b2)),(4,(.op 0 0 0)),(5,(aI x)),(6,(aI y))],[(0,vO 4 [(aB false),.nil,(aB false),.nil])],1⟩
theorem g_b_Q_L2_ok (N:Nat) (a2:Int) (b2:Int) (fuel:Nat):g_b_Q_L2_H N a2 b2 (g_b_Q_L2 N a2 b2 fuel):=by
 induction fuel with
 | zero=>intro _ _ r h;rw [g_b_Q_L2.eq_1] at h;cases h
 | succ fuel ih =>
  intro x y r h E hE
  rw [g_b_Q_L2.eq_2] at h
  refine rnR hE 2 [] [] (kp [0,1,4,5,6,20]) (kq [0]) 33 pn ?_
  refine rnC 0 20 h (fun hq4 h=>?_) (fun hq4 h=>?_)
  ·obtain ⟨c,h⟩:=ifSome h
   refine rnR hE 2 [] [] (kp [0,1,4,5,6]) (kq [0]) 129 (pc c pn) ?_
   exact rnW hE 2 [] (kp [0,1,4,5,6]) (kq [0]) 1 pn (ih _ _ _ h E hE)
  ·obtain ⟨c2,h⟩:=ifSome h
   obtain ⟨rZ,hr,h⟩:=bsm h
   obtain ⟨rZ2,hr2,h⟩:=bsm h
   refine rnR hE 2 [(3,⟨[],true,(.agg (TIc rZ)),[],0,false,none⟩),(7,⟨[],true,(.agg (TIc rZ2)),[],0,false,none⟩)] [] (kp [4]) (kq [0]) 193 (pc c2 (pc (g_b_Z_ok N (w64 (a2.tdiv x)) rZ hr) (pc c2 (pc (g_b_Z_ok N (w64 (b2.tdiv x)) rZ2 hr2) (pc o1 pn))))) ?_
   obtain rfl:=osI h
   exact rnT hE 0 Tryz.f20 [] (kp [4]) [(16,.keep 0)] 193 pn [16] (pc o1 pn)
theorem g_b_Q_J1_ok (N:Nat):g_b_Q_J1_H N (g_b_Q_J1 N):=by
 intro a2 b2 r h E hE
 unfold g_b_Q_J1 at h
 refine rnR hE 0 [] [] (kp [0,1,4,5,6]) (kq [0]) 65 pn ?_
 refine rnR hE 2 [] [] (kp [0,1,4,5,6,16]) (kq [0]) 97 pn ?_
 refine rnC 0 16 h (fun hq3 h=>?_) (fun hq3 h=>?_)
 ·refine rnR hE 0 [] [] (kp [0,1,4,5,6]) (kq [0]) 145 pn ?_
  exact rnW hE 3 [] (kp [0,1,4,5,6]) (kq [0]) 1 pn (g_b_Q_L2_ok N _ _ N _ _ _ h E hE)
 ·exact rnW hE 4 [] (kp [0,1,4,5,6]) (kq [0]) 1 pn (g_b_Q_L2_ok N _ _ N _ _ _ h E hE)
theorem g_b_Q_ok (N:Nat) (a:Int) (b:Int) (r:TRat) (h:g_b_Q N a b=some r):Sd 20 [(aI a),(aI b)] [] 0 (.agg (TRc r)) []:=by
 unfold g_b_Q at h
 refine sor (fu:=Tryz.f20) (c:=C_47 1) (nt:=34) (by kernel_rfl) (by kernel_rfl) (by kernel_rfl) (by kernel_rfl) (fun hm=>rfl) ?_
 intro E hE
 refine rnR hE 1 [] [] (kp [0,1,4]) (kq [0]) 16 pn ?_
 refine rnR hE 2 [] [] (kp [0,1,4,8]) (kq [0]) 48 pn ?_
 refine rnC 0 8 h (fun hq2 h=>?_) (fun hq2 h=>?_)
 ·refine rnR hE 0 [] [] (kp [0,1,4]) (kq [0]) 144 pn ?_
  exact rnW hE 1 [] (kp [0,1,4]) (kq [0]) 1 pn (g_b_Q_J1_ok N _ _ _ h E hE)
 ·exact rnW hE 2 [] (kp [0,1,4]) (kq [0]) 1 pn (g_b_Q_J1_ok N _ _ _ h E hE)
noncomputable def C_48 (n:Nat):Code:=cat (bodyOf Tryz.f19) (pth n)
theorem g_b_SameRat_ok (N:Nat) (a:TRat) (b:TRat) (r:Bool) (h:g_b_SameRat N a b=some r):Sd 19 [(.agg (TRc a)),(.agg (TRc b))] [] 0 (aB r) []:=by
 unfold g_b_SameRat at h
 refine sor (fu:=Tryz.f19) (c:=C_48 1) (nt:=17) (by kernel_rfl) (by kernel_rfl) (by kernel_rfl) (by kernel_rfl) (fun hm=>rfl) ?_
 intro E hE
 refine rnR hE 1 [] [] (kp [2,3]) (kq [0,16]) 48 pn ?_
 obtain ⟨rSameInt,hr,h⟩:=bsm h
 obtain ⟨rSameInt2,hr2,h⟩:=bsm h
 refine rnR hE 1 [(4,⟨[],true,(aB rSameInt),[],0,false,none⟩),(10,⟨[],true,(aB rSameInt2),[],0,false,none⟩)] [] (kp [4]) [] 256 (pc o1 (pc o1 (pc (g_b_SameInt_ok N a.fN b.fN rSameInt hr) (pc (fun hg:rSameInt=true=>(pc hg (pc o1 pn))) (pc (fun hg:rSameInt=true=>(pc hg (pc o1 pn))) (pc (fun hg:rSameInt=true=>(pc (g_b_SameInt_ok N a.fD b.fD rSameInt2 (condT hr2 hg)) (pc hg (pc hg pn)))) (pc (fun hq:rSameInt=true=>(pc hq pn)) pn))))))) ?_
 obtain rfl:=osI h
 exact rnT hE 0 Tryz.f19 [] (kp [4]) [] 256 pn [] pn
noncomputable def C_3 (n:Nat):Code:=cat (bodyOf Tryz.f6) (pth n)
theorem g_w01_awake_ok (N:Nat) (r:Bool) (h:g_w01_awake N=some r):Sd 6 [] [] 0 (aB r) []:=by
 unfold g_w01_awake at h
 refine sor (fu:=Tryz.f6) (c:=C_3 1) (nt:=60) (by kernel_rfl) (by kernel_rfl) (by kernel_rfl) (by kernel_rfl) (fun hm=>rfl) ?_
 intro E hE
 refine rnR hE 1 [] [] [] [] 16 pn ?_
 obtain ⟨rZ,hr,h⟩:=bsm h
 obtain ⟨rZ2,hr2,h⟩:=bsm h
 obtain ⟨rDivMod,hr3,h⟩:=bsm h
 refine rnR hE 1 [(0,⟨[],true,(.agg (TIc rZ)),[],0,false,none⟩),(1,⟨[],true,(.agg (TIc rZ2)),[],0,false,none⟩),(2,⟨[],true,(.tup [(.agg (TIc rDivMod.1)),(.agg (TIc rDivMod.2.1)),(aI rDivMod.2.2)]),[],0,false,none⟩)] [] (kp [1,2,3]) (kq [128,144]) 208 (pc (g_b_Z_ok N (-7) rZ hr) (pc (g_b_Z_ok N 2 rZ2 hr2) (pc (g_e_DivMod_ok N rZ rZ2 rDivMod hr3) (pc o1 (pc o1 pn))))) ?_
 obtain ⟨rRatio,hr4,h⟩:=bsm h
 refine rnR hE 1 [(0,⟨[],true,(.tup [(.agg (TRc rRatio.1)),(aI rRatio.2)]),[],0,false,none⟩)] [] (kp [1,2,3,4,5]) (kq [128,144,272]) 320 (pc (g_e_Ratio_ok N 6 (-4) rRatio hr4) (pc o1 pn)) ?_
 obtain ⟨rWs,hr5,h⟩:=bsm h
 refine rnR hE 1 [(2,⟨[],true,(encL TRc TRat.d rWs),[],0,true,none⟩)] [] (kp [1,2,3,4,5,6]) (kq [128,144,272] ++ [(320,.arr 320 (([0,10]:List Int).length) (fun zi=>cI (([0,10]:List Int).getD zi 0))),(384,.var 384 [.osl (([0,10]:List Int).length),.keep])]) 416 (pc (show Sd 15 [(.sl 2 (fun zi=>(fun zi=>([[(aI 2)],[(aI 0)]]:List (List AV)).getD zi []) (addz 0 zi)))] [] 0 (encL TRc TRat.d rWs) [] from (Sound.conv (g_b_Ws_ok N ([2,0]:List Int) rWs hr5) (.cons (Alike.sl rfl (fun zq hzq=>get_chunk cI 0 ([2,0]:List Int) zq hzq)) .nil))) (pc (z1 2) (pc o1 (pc (Eq.refl 2) (pc (show ∀ zi,zi < ([0,10]:List Int).length→(fun zi=>cI (([0,10]:List Int).getD zi 0)) zi=(fun zi=>([[(aI 0)],[(aI 10)]]:List (List AV)).getD zi []) zi from (fun zq hzq=>get_chunk cI 0 ([0,10]:List Int) zq hzq)) (pc (Eq.refl 2) pn)))))) ?_
 obtain ⟨rW,hr6,h⟩:=bsm h
 obtain ⟨rValue,hr7,h⟩:=bsm h
 refine rnR hE 1 [(1,⟨[],true,(.agg (TRc rW)),[],0,false,none⟩),(2,⟨[],true,(.tup [(.agg (TRc rValue.1)),(aI rValue.2)]),[],0,true,none⟩)] [] (kp [1,2,3,4,5,7,8]) (kq [128,144,272,512]) 560 (pc o1 (pc (g_b_W_ok N 5 rW hr6) (pc (g_e_Value_ok N (⟨([0,10]:List Int),rWs⟩:TCurve) rW rValue hr7) (pc (z1 (([0,10]:List Int).length)) (pc o1 pn))))) ?_
 obtain ⟨rZ3,hr8,h⟩:=bsm h
 obtain ⟨rSameInt,hr9,h⟩:=bsm h
 obtain ⟨rZ4,hr10,h⟩:=bsm h
 obtain ⟨rSameInt2,hr11,h⟩:=bsm h
 obtain ⟨rQ,hr12,h⟩:=bsm h
 obtain ⟨rSameRat,hr13,h⟩:=bsm h
 obtain ⟨rW2,hr14,h⟩:=bsm h
 obtain ⟨rSameRat2,hr15,h⟩:=bsm h
 refine rnR hE 1 [(4,⟨[],true,(.agg (TIc rZ3)),[],0,false,none⟩),(5,⟨[],true,(aB rSameInt),[],0,false,none⟩),(9,⟨[],true,(.agg (TIc rZ4)),[],0,false,none⟩),(10,⟨[],true,(aB rSameInt2),[],0,false,none⟩),(18,⟨[],true,(.agg (TRc rQ)),[],0,false,none⟩),(19,⟨[],true,(aB rSameRat),[],0,false,none⟩),(27,⟨[],true,(.agg (TRc rW2)),[],0,false,none⟩),(28,⟨[],true,(aB rSameRat2),[],0,false,none⟩)] [] (kp [0]) [] 1056 (pc (fun hg:(rDivMod.2.2 == 0)=true=>(pc o1 pn)) (pc (fun hg:(rDivMod.2.2 == 0)=true=>(pc (g_b_Z_ok N (-4) rZ3 (condT hr8 hg)) pn)) (pc (fun hg:(rDivMod.2.2 == 0)=true=>(pc (g_b_SameInt_ok N rDivMod.1 rZ3 rSameInt (condT hr9 hg)) (pc hg (pc hg pn)))) (pc (fun hq:(rDivMod.2.2 == 0)=true=>(pc hq pn)) (pc (fun hg:(cond (rDivMod.2.2 == 0) rSameInt false)=true=>(pc o1 pn)) (pc (fun hg:(cond (rDivMod.2.2 == 0) rSameInt false)=true=>(pc (g_b_Z_ok N 1 rZ4 (condT hr10 hg)) pn)) (pc (fun hg:(cond (rDivMod.2.2 == 0) rSameInt false)=true=>(pc (g_b_SameInt_ok N rDivMod.2.1 rZ4 rSameInt2 (condT hr11 hg)) (pc hg (pc hg pn)))) (pc (fun hq:(cond (rDivMod.2.2 == 0) rSameInt false)=true=>(pc hq pn)) (pc (fun hg:(cond (cond (rDivMod.2.2 == 0) rSameInt false) rSameInt2 false)=true=>(pc hg pn)) (pc (fun hq:(cond (cond (rDivMod.2.2 == 0) rSameInt false) rSameInt2 false)=true=>(pc hq pn)) (pc (fun hg:(cond (cond (cond (rDivMod.2.2 == 0) rSameInt false) rSameInt2 false) (rRatio.2 == 0) false)=true=>(pc o1 pn)) (pc (fun hg:(cond (cond (cond (rDivMod.2.2 == 0) rSameInt false) rSameInt2 false) (rRatio.2 == 0) false)=true=>(pc (g_b_Q_ok N (-3) 2 rQ (condT hr12 hg)) pn)) (pc (fun hg:(cond (cond (cond (rDivMod.2.2 == 0) rSameInt false) rSameInt2 false) (rRatio.2 == 0) false)=true=>(pc (g_b_SameRat_ok N rRatio.1 rQ rSameRat (condT hr13 hg)) (pc hg (pc hg pn)))) (pc (fun hq:(cond (cond (cond (rDivMod.2.2 == 0) rSameInt false) rSameInt2 false) (rRatio.2 == 0) false)=true=>(pc hq pn)) (pc (fun hg:(cond (cond (cond (cond (rDivMod.2.2 == 0) rSameInt false) rSameInt2 false) (rRatio.2 == 0) false) rSameRat false)=true=>(pc hg pn)) (pc (fun hq:(cond (cond (cond (cond (rDivMod.2.2 == 0) rSameInt false) rSameInt2 false) (rRatio.2 == 0) false) rSameRat false)=true=>(pc hq pn)) (pc (fun hg:(cond (cond (cond (cond (cond (rDivMod.2.2 == 0) rSameInt false) rSameInt2 false) (rRatio.2 == 0) false) rSameRat false) (rValue.2 == 0) false)=true=>(pc o1 pn)) (pc (fun hg:(cond (cond (cond (cond (cond (rDivMod.2.2 == 0) rSameInt false) rSameInt2 false) (rRatio.2 == 0) false) rSameRat false) (rValue.2 == 0) false)=true=>(pc (g_b_W_ok N 10 rW2 (condT hr14 hg)) pn)) (pc (fun hg:(cond (cond (cond (cond (cond (rDivMod.2.2 == 0) rSameInt false) rSameInt2 false) (rRatio.2 == 0) false) rSameRat false) (rValue.2 == 0) false)=true=>(pc (g_b_SameRat_ok N rValue.1 rW2 rSameRat2 (condT hr15 hg)) (pc hg (pc hg pn)))) (pc (fun hq:(cond (cond (cond (cond (cond (rDivMod.2.2 == 0) rSameInt false) rSameInt2 false) (rRatio.2 == 0) false) rSameRat false) (rValue.2 == 0) false)=true=>(pc hq pn)) pn)))))))))))))))))))) ?_
 obtain rfl:=osI h
 exact rnT hE 0 Tryz.f6 [] (kp [0]) [] 1056 pn [] pn
noncomputable def C_53 (n:Nat):Code:=cat (bodyOf Tryz.f43) (pth n)
theorem g_e_CheckRows_1_ok (N:Nat) (vr:TRow) (C0:Int) (r:Bool) (h:g_e_CheckRows_1 N vr C0=some r):Sd 43 [(.agg (TWc vr)),(.op 0 0 0)] [(0,vO 1 [(aI C0)])] 1 (aB r) [(0,vO 1 [(aI C0)])]:=by
 unfold g_e_CheckRows_1 at h
 refine sor (fu:=Tryz.f43) (c:=C_53 1) (nt:=9) (by kernel_rfl) (by kernel_rfl) (by kernel_rfl) (by kernel_rfl) (fun hm=>absurd hm (by decide)) ?_
 intro E hE
 refine rnR hE 1 [] [] (kp [1,2]) (kq [0,1]) 33 pn ?_
 refine rnR hE 1 [] [] (kp [3]) (kq [0]) 129 (pc o1 (pc o1 pn)) ?_
 obtain rfl:=osI h
 exact rnT hE 0 Tryz.f43 [] (kp [3]) (kq [0]) 129 pn [] pn
noncomputable def C_52 (n:Nat):Code:=cat (bodyOf Tryz.f72) (pth n)
def g_slices_IndexFunc_Row_L1_H (N:Nat) (s:List TRow) (C0:Int) (K:Int→Option (Int)):Prop:=∀ (x:Int) (r:Int),K x=some r→∀ E,EnvOk E 1→Runs Tryz.prog E 72 19 (SPost E [(0,vO 1 [(aI C0)])] (aI r)) [.code (C_52 52),.inLoop (C_52 52),.inBlock 0,.code (C_52 7)] ⟨[(0,(encL TWc TRow.d s)),(1,(.fn (.func 43) [] [(.op 0 0 0)])),(7,(aI ((s.length:Nat):Int))),(8,(aI x))],[(0,vO 1 [(aI C0)])],1⟩
theorem g_slices_IndexFunc_Row_L1_ok (N:Nat) (s:List TRow) (C0:Int) (fuel:Nat):g_slices_IndexFunc_Row_L1_H N s C0 (g_slices_IndexFunc_Row_L1 N s C0 fuel):=by
 induction fuel with
 | zero=>intro _ r h;rw [g_slices_IndexFunc_Row_L1.eq_1] at h;cases h
 | succ fuel ih =>
  intro x r h E hE
  rw [g_slices_IndexFunc_Row_L1.eq_2] at h
  refine rnR hE 1 [] [] (kp [0,1,7,8,9]) (kq [0]) 17 pn ?_
  refine rnC 1 9 h (fun hq2 h=>?_) (fun hq2 h=>?_)
  ·refine rnR hE 4 [] [] (kp [0,1,5,7,8]) (kq [0]) 49 pn ?_
   obtain ⟨c,h⟩:=ifSome h
   obtain ⟨rCheckRows1,hr,h⟩:=bsm h
   refine rnR hE 1 [(5,⟨[0],true,(aB rCheckRows1),[],0,false,none⟩)] [] (kp [0,1,5,7,8,16]) (kq [0]) 145 (pc c (pc (g_e_CheckRows_1_ok N (s.getD ((x).toNat) TRow.d) C0 rCheckRows1 hr) pn)) ?_
   refine rnC 0 16 h (fun hq3 h=>?_) (fun hq3 h=>?_)
   ·refine rnR hE 1 [] [] (kp [4]) (kq [0]) 177 pn ?_
    obtain rfl:=osI h
    exact rnT hE 0 Tryz.f72 [] (kp [4]) (kq [0]) 177 pn [] pn
   ·refine rnR hE 2 [] [] (kp [0,1,7,8]) (kq [0]) 177 pn ?_
    exact rnW hE 1 [] (kp [0,1,7,8]) (kq [0]) 1 pn (ih _ _ h E hE)
  ·refine rnR hE 2 [] [] (kp [4]) (kq [0]) 33 pn ?_
   obtain rfl:=osI h
   exact rnT hE 0 Tryz.f72 [] (kp [4]) (kq [0]) 49 pn [] pn
theorem g_slices_IndexFunc_Row_ok (N:Nat) (s:List TRow) (C0:Int) (r:Int) (h:g_slices_IndexFunc_Row N s C0=some r):Sd 72 [(encL TWc TRow.d s),(.fn (.func 43) [] [(.op 0 0 0)])] [(0,vO 1 [(aI C0)])] 1 (aI r) [(0,vO 1 [(aI C0)])]:=by
 unfold g_slices_IndexFunc_Row at h
 refine sor (fu:=Tryz.f72) (c:=C_52 1) (nt:=19) (by kernel_rfl) (by kernel_rfl) (by kernel_rfl) (by kernel_rfl) (fun hm=>absurd hm (by decide)) ?_
 intro E hE
 refine rnR hE 1 [] [] (kp [0,1]) (kq [0]) 17 pn ?_
 refine rnR hE 2 [] [] (kp [0,1,7,8]) (kq [0]) 65 pn ?_
 exact rnW hE 2 [] (kp [0,1,7,8]) (kq [0]) 1 pn (g_slices_IndexFunc_Row_L1_ok N _ _ N _ _ h E hE)
noncomputable def C_51 (n:Nat):Code:=cat (bodyOf Tryz.f42) (pth n)
theorem g_slices_ContainsFunc_Row_ok (N:Nat) (s:List TRow) (C0:Int) (r:Bool) (h:g_slices_ContainsFunc_Row N s C0=some r):Sd 42 [(encL TWc TRow.d s),(.fn (.func 43) [] [(.op 0 0 0)])] [(0,vO 1 [(aI C0)])] 1 (aB r) [(0,vO 1 [(aI C0)])]:=by
 unfold g_slices_ContainsFunc_Row at h
 refine sor (fu:=Tryz.f42) (c:=C_51 1) (nt:=9) (by kernel_rfl) (by kernel_rfl) (by kernel_rfl) (by kernel_rfl) (fun hm=>absurd hm (by decide)) ?_
 intro E hE
 refine rnR hE 1 [] [] (kp [0,1]) (kq [0]) 17 pn ?_
 obtain ⟨rRow,hr,h⟩:=bsm h
 refine rnR hE 1 [(2,⟨[0],true,(aI rRow),[],0,false,none⟩)] [] (kp [4]) (kq [0]) 97 (pc (g_slices_IndexFunc_Row_ok N s C0 rRow hr) pn) ?_
 obtain rfl:=osI h
 exact rnT hE 0 Tryz.f42 [] (kp [4]) (kq [0]) 97 pn [] pn
noncomputable def C_50 (n:Nat):Code:=cat (bodyOf Tryz.f21) (pth n)
theorem g_e_CheckRows_ok (N:Nat) (n:Int) (l:List TRow) (r:Int) (h:g_e_CheckRows N n l=some r):Sd 21 [(aI n),(encL TWc TRow.d l)] [] 0 (aI r) []:=by
 unfold g_e_CheckRows at h
 refine sor (fu:=Tryz.f21) (c:=C_50 1) (nt:=17) (by kernel_rfl) (by kernel_rfl) (by kernel_rfl) (by kernel_rfl) (fun hm=>rfl) ?_
 intro E hE
 refine rnR hE 1 [] [] (kp [1,2]) (kq [0]) 32 pn ?_
 refine rnR hE 2 [] [] (kp [1,2,10]) (kq [0]) 128 (pc o1 (pc (fun hg:(!(decide (n < 0)))=true=>(pc o1 pn)) (pc (fun hg:(!(decide (n < 0)))=true=>(pc hg pn)) (pc (fun hq:(!(decide (n < 0)))=true=>(pc hq pn)) pn)))) ?_
 refine rnC 0 10 h (fun hq2 h=>?_) (fun hq2 h=>?_)
 ·refine rnR hE 1 [] [] (kp [4]) [] 144 pn ?_
  obtain rfl:=osI h
  exact rnT hE 0 Tryz.f21 [] (kp [4]) [] 144 pn [] pn
 ·refine rnR hE 3 [] [] (kp [1,2,13]) (kq [0]) 176 pn ?_
  refine rnC 0 13 h (fun hq3 h=>?_) (fun hq3 h=>?_)
  ·refine rnR hE 1 [] [] (kp [4]) [] 192 pn ?_
   obtain rfl:=osI h
   exact rnT hE 0 Tryz.f21 [] (kp [4]) [] 192 pn [] pn
  ·obtain ⟨rRow,hr,h⟩:=bsm h
   refine rnR hE 3 [(2,⟨[0],true,(aB rRow),[],0,false,none⟩)] [] (kp [16]) [] 224 (pc (g_slices_ContainsFunc_Row_ok N l n rRow hr) pn) ?_
   refine rnC 0 16 h (fun hq4 h=>?_) (fun hq4 h=>?_)
   ·refine rnR hE 1 [] [] (kp [4]) [] 240 pn ?_
    obtain rfl:=osI h
    exact rnT hE 0 Tryz.f21 [] (kp [4]) [] 240 pn [] pn
   ·refine rnR hE 2 [] [] (kp [4]) [] 240 pn ?_
    obtain rfl:=osI h
    exact rnT hE 0 Tryz.f21 [] (kp [4]) [] 240 pn [] pn
noncomputable def C_55 (n:Nat):Code:=cat (bodyOf Tryz.f44) (pth n)
def g_e_begin_L1_H (N:Nat) (n:Int) (l:List TRow) (rnumber:TRat) (K:(List Int)→Int→Option (Ttb)):Prop:=∀ (t:List Int) (x:Int) (r:Ttb),K t x=some r→∀ E,EnvOk E 0→Runs Tryz.prog E 44 157 (SPost E [(0,vN 12 [(aI r.f_n),(aI r.f_m),(.os 1 0 r.f_basic.length),(.os 2 0 r.f_free.length),(.os 3 0 r.f_a.length),(.os 4 0 r.f_b.length),(.os 5 0 r.f_goal.length),(aB r.f_value.fN.fG),(eU r.f_value.fN.fL),(aB r.f_value.fD.fG),(eU r.f_value.fD.fL),(aI r.f_helper)]),(1,aO 1 cI 0 r.f_basic),(2,aO 1 cI 0 r.f_free),(3,aM 4 TRc TRat.d r.f_a),(4,aO 4 TRc TRat.d r.f_b),(5,aO 4 TRc TRat.d r.f_goal)] (.op 0 0 0)) [.code (C_55 116),.inLoop (C_55 116),.inBlock 0,.code (C_55 15)] ⟨[(0,(aI n)),(1,(encL TWc TRow.d l)),(5,(.op 0 0 0)),(25,(aI (w64 (2 * n)))),(26,(aI x))],[(0,vN 12 [(aI n),(aI ((l.length:Nat):Int)),.nil,(.os 1 0 t.length),.nil,.nil,.nil,(aB rnumber.fN.fG),(eU rnumber.fN.fL),(aB rnumber.fD.fG),(eU rnumber.fD.fL),(aI (w64 ((w64 (2 * n))+((l.length:Nat):Int))))]),(1,aO 1 cI 0 t)],2⟩
def g_e_begin_L2_H (N:Nat) (n:Int) (l:List TRow) (rnumber:TRat) (t:List Int) (K:(List Int)→(List (List TRat))→(List TRat)→Int→Option (Ttb)):Prop:=∀ (t2:List Int) (t3:List (List TRat)) (t4:List TRat) (x2:Int) (r:Ttb),K t2 t3 t4 x2=some r→∀ E,EnvOk E 0→Runs Tryz.prog E 44 157 (SPost E [(0,vN 12 [(aI r.f_n),(aI r.f_m),(.os 1 0 r.f_basic.length),(.os 2 0 r.f_free.length),(.os 3 0 r.f_a.length),(.os 4 0 r.f_b.length),(.os 5 0 r.f_goal.length),(aB r.f_value.fN.fG),(eU r.f_value.fN.fL),(aB r.f_value.fD.fG),(eU r.f_value.fD.fL),(aI r.f_helper)]),(1,aO 1 cI 0 r.f_basic),(2,aO 1 cI 0 r.f_free),(3,aM 4 TRc TRat.d r.f_a),(4,aO 4 TRc TRat.d r.f_b),(5,aO 4 TRc TRat.d r.f_goal)] (.op 0 0 0)) [.code (C_55 500),.inLoop (C_55 500),.inBlock 2,.code (C_55 63)] ⟨[(0,(aI n)),(5,(.op 0 0 0)),(53,(encL TWc TRow.d l)),(54,(aI ((l.length:Nat):Int))),(55,(aI x2))],[(0,vN 12 [(aI n),(aI ((l.length:Nat):Int)),(.os 1 0 t2.length),(.os 2 0 ((t ++ ([(w64 ((w64 (2 * n))+((l.length:Nat):Int)))]:List Int)).length)),(.os 3 0 t3.length),(.os 4 0 t4.length),.nil,(aB rnumber.fN.fG),(eU rnumber.fN.fL),(aB rnumber.fD.fG),(eU rnumber.fD.fL),(aI (w64 ((w64 (2 * n))+((l.length:Nat):Int))))]),(1,aO 1 cI 0 t2),(2,aO 1 cI 0 (t ++ ([(w64 ((w64 (2 * n))+((l.length:Nat):Int)))]:List Int))),(3,aM 4 TRc TRat.d t3),(4,aO 4 TRc TRat.d t4)],5⟩
def g_e_begin_L3_H (N:Nat) (n:Int) (l:List TRow) (rnumber:TRat) (t:List Int) (t2:List Int) (t3:List (List TRat)) (t4:List TRat) (x2:Int) (K:(List TRat)→Int→Option (Ttb)):Prop:=∀ (row:List TRat) (x3:Int) (r:Ttb),K row x3=some r→∀ E,EnvOk E 0→Runs Tryz.prog E 44 157 (SPost E [(0,vN 12 [(aI r.f_n),(aI r.f_m),(.os 1 0 r.f_basic.length),(.os 2 0 r.f_free.length),(.os 3 0 r.f_a.length),(.os 4 0 r.f_b.length),(.os 5 0 r.f_goal.length),(aB r.f_value.fN.fG),(eU r.f_value.fN.fL),(aB r.f_value.fD.fG),(eU r.f_value.fD.fL),(aI r.f_helper)]),(1,aO 1 cI 0 r.f_basic),(2,aO 1 cI 0 r.f_free),(3,aM 4 TRc TRat.d r.f_a),(4,aO 4 TRc TRat.d r.f_b),(5,aO 4 TRc TRat.d r.f_goal)] (.op 0 0 0)) [.code (C_55 1025652),.inLoop (C_55 1025652),.inBlock 4,.code (C_55 128207),.inBlock 3,.code (C_55 4007),.inLoop (C_55 500),.inBlock 2,.code (C_55 63)] ⟨[(0,(aI n)),(5,(.op 0 0 0)),(8,(.op 5 0 0)),(9,(.os 6 0 row.length)),(53,(encL TWc TRow.d l)),(54,(aI ((l.length:Nat):Int))),(55,(aI x2)),(77,(aI n)),(78,(aI x3))],[(0,vN 12 [(aI n),(aI ((l.length:Nat):Int)),(.os 1 0 ((t2 ++ ([(w64 ((w64 (2 * n))+x2))]:List Int)).length)),(.os 2 0 ((t ++ ([(w64 ((w64 (2 * n))+((l.length:Nat):Int)))]:List Int)).length)),(.os 3 0 t3.length),(.os 4 0 t4.length),.nil,(aB rnumber.fN.fG),(eU rnumber.fN.fL),(aB rnumber.fD.fG),(eU rnumber.fD.fL),(aI (w64 ((w64 (2 * n))+((l.length:Nat):Int))))]),(1,aO 1 cI 0 (t2 ++ ([(w64 ((w64 (2 * n))+x2))]:List Int))),(2,aO 1 cI 0 (t ++ ([(w64 ((w64 (2 * n))+((l.length:Nat):Int)))]:List Int))),(3,aM 4 TRc TRat.d t3),(4,aO 4 TRc TRat.d t4),(5,vO 5 (TWc (l.getD ((x2).toNat) TRow.d))),(6,aO 4 TRc TRat.d row)],7⟩
def g_e_begin_J4_H (N:Nat) (n:Int) (l:List TRow) (rnumber:TRat) (t:List Int) (t2:List Int) (t3:List (List TRat)) (t4:List TRat) (x2:Int) (row:List TRat) (x3:Int) (K:TRat→Option (Ttb)):Prop:=∀ (c7:TRat) (r:Ttb),K c7=some r→∀ E,EnvOk E 0→Runs Tryz.prog E 44 157 (SPost E [(0,vN 12 [(aI r.f_n),(aI r.f_m),(.os 1 0 r.f_basic.length),(.os 2 0 r.f_free.length),(.os 3 0 r.f_a.length),(.os 4 0 r.f_b.length),(.os 5 0 r.f_goal.length),(aB r.f_value.fN.fG),(eU r.f_value.fN.fL),(aB r.f_value.fD.fG),(eU r.f_value.fD.fL),(aI r.f_helper)]),(1,aO 1 cI 0 r.f_basic),(2,aO 1 cI 0 r.f_free),(3,aM 4 TRc TRat.d r.f_a),(4,aO 4 TRc TRat.d r.f_b),(5,aO 4 TRc TRat.d r.f_goal)] (.op 0 0 0)) [.code (C_55 131283559),.inBlock 5,.code (C_55 8205223),.inLoop (C_55 1025652),.inBlock 4,.code (C_55 128207),.inBlock 3,.code (C_55 4007),.inLoop (C_55 500),.inBlock 2,.code (C_55 63)] ⟨[(0,(aI n)),(5,(.op 0 0 0)),(8,(.op 5 0 0)),(9,(.os 6 0 row.length)),(10,(aI x3)),(11,(.op 7 0 0)),(53,(encL TWc TRow.d l)),(54,(aI ((l.length:Nat):Int))),(55,(aI x2)),(77,(aI n)),(78,(aI x3))],[(0,vN 12 [(aI n),(aI ((l.length:Nat):Int)),(.os 1 0 ((t2 ++ ([(w64 ((w64 (2 * n))+x2))]:List Int)).length)),(.os 2 0 ((t ++ ([(w64 ((w64 (2 * n))+((l.length:Nat):Int)))]:List Int)).length)),(.os 3 0 t3.length),(.os 4 0 t4.length),.nil,(aB rnumber.fN.fG),(eU rnumber.fN.fL),(aB rnumber.fD.fG),(eU rnumber.fD.fL),(aI (w64 ((w64 (2 * n))+((l.length:Nat):Int))))]),(1,aO 1 cI 0 (t2 ++ ([(w64 ((w64 (2 * n))+x2))]:List Int))),(2,aO 1 cI 0 (t ++ ([(w64 ((w64 (2 * n))+((l.length:Nat):Int)))]:List Int))),(3,aM 4 TRc TRat.d t3),(4,aO 4 TRc TRat.d t4),(5,vO 5 (TWc (l.getD ((x2).toNat) TRow.d))),(6,aO 4 TRc TRat.d row),(7,vO 4 (TRc c7))],8⟩
theorem g_e_begin_J4_ok (N:Nat) (n:Int) (l:List TRow) (rnumber:TRat) (t:List Int) (t2:List Int) (t3:List (List TRat)) (t4:List TRat) (x2:Int) (row:List TRat) (x3:Int) (K_g_e_begin_L3:(List TRat)→Int→Option (Ttb)) (K_g_e_begin_L2:(List Int)→(List (List TRat))→(List TRat)→Int→Option (Ttb)) (hK_g_e_begin_L3:g_e_begin_L3_H N n l rnumber t t2 t3 t4 x2 K_g_e_begin_L3) (hK_g_e_begin_L2:g_e_begin_L2_H N n l rnumber t K_g_e_begin_L2):g_e_begin_J4_H N n l rnumber t t2 t3 t4 x2 row x3 (g_e_begin_J4 N n l rnumber t t2 t3 t4 x2 row x3 K_g_e_begin_L3 K_g_e_begin_L2):=by
 intro c7 r h E hE
 unfold g_e_begin_J4 at h
 obtain ⟨rnegative,hr4,h⟩:=bsm h
 obtain ⟨c8,h⟩:=ifSome h
 obtain ⟨c9,h⟩:=ifSome h
 refine rnR hE 0 [(7,⟨[],true,(.agg (TRc rnegative)),[],0,false,none⟩)] [] (kp [0,5,8] ++ [(9,.osl (((row.set ((x3).toNat) rnegative).set ((w64 (n+x3)).toNat) c7).length))] ++ kp [53,54,55,77,78]) (kq [0,1,2,3,4,5] ++ [(6,.arr 6 (((row.set ((x3).toNat) rnegative).set ((w64 (n+x3)).toNat) c7).length) (fun zi=>TRc (((row.set ((x3).toNat) rnegative).set ((w64 (n+x3)).toNat) c7).getD zi TRat.d)))]) 216 (pc o1 (pc (g_e_negative_ok N c7 rnegative hr4) (pc o1 (pc c8 (pc (ltOf c8) (pc c9 (pc (ltOf c9) (pc (show row.length=((row.set ((x3).toNat) rnegative).set ((w64 (n+x3)).toNat) c7).length from (len_set_raw (len_set_raw rfl))) (pc (show row.length=((row.set ((x3).toNat) rnegative).set ((w64 (n+x3)).toNat) c7).length from (len_set_raw (len_set_raw rfl))) (pc (show ∀ zi,zi < ((row.set ((x3).toNat) rnegative).set ((w64 (n+x3)).toNat) c7).length→(fun zi=>TRc (((row.set ((x3).toNat) rnegative).set ((w64 (n+x3)).toNat) c7).getD zi TRat.d)) zi=((fun zm=>if zm=(w64 (n+x3)).toNat then [(aB c7.fN.fG),(eU c7.fN.fL),(aB c7.fD.fG),(eU c7.fD.fL)] else ((fun zm=>if zm=(x3).toNat then [(aB rnegative.fN.fG),(eU rnegative.fN.fL),(aB rnegative.fD.fG),(eU rnegative.fD.fL)] else (fun zi=>TRc (row.getD zi TRat.d)) zm)) zm)) zi from (get_set_raw TRc TRat.d (row.set ((x3).toNat) rnegative) ((w64 (n+x3)).toNat) c7 (get_set_raw TRc TRat.d row ((x3).toNat) rnegative (fun _ _=>rfl)))) pn)))))))))) ?_
 refine rnR hE 1 [] [] (kp [0,5,8,9,53,54,55,77,78]) (kq [0,1,2,3,4,5,6]) 248 pn ?_
 exact rnW hE 1 [] (kp [0,5,8,9,53,54,55,77,78]) (kq [0,1,2,3,4,5,6]) 7 pn (hK_g_e_begin_L3 _ _ _ h E hE)
theorem g_e_begin_L3_ok (N:Nat) (n:Int) (l:List TRow) (rnumber:TRat) (t:List Int) (t2:List Int) (t3:List (List TRat)) (t4:List TRat) (x2:Int) (K_g_e_begin_L2:(List Int)→(List (List TRat))→(List TRat)→Int→Option (Ttb)) (hK_g_e_begin_L2:g_e_begin_L2_H N n l rnumber t K_g_e_begin_L2) (fuel:Nat):g_e_begin_L3_H N n l rnumber t t2 t3 t4 x2 (g_e_begin_L3 N n l rnumber t t2 t3 t4 x2 K_g_e_begin_L2 fuel):=by
 induction fuel with
 | zero=>intro _ _ r h;rw [g_e_begin_L3.eq_1] at h;cases h
 | succ fuel ih =>
  intro row x3 r h E hE
  rw [g_e_begin_L3.eq_2] at h
  refine rnR hE 1 [] [] (kp [0,5,8,9,53,54,55,77,78,79]) (kq [0,1,2,3,4,5,6]) 23 pn ?_
  refine rnC 1 79 h (fun hq4 h=>?_) (fun hq4 h=>?_)
  ·refine rnR hE 4 [] [] (kp [0,5,8,9,10,53,54,55,77,78]) (kq [0,1,2,3,4,5,6]) 55 pn ?_
   obtain ⟨rnumber2,hr2,h⟩:=bsm h
   refine rnR hE 1 [(0,⟨[],true,(.agg (TRc rnumber2)),[],0,false,none⟩)] [] (kp [0,5,8,9,10,11,53,54,55,77,78]) (kq [0,1,2,3,4,5,6,71]) 103 (pc (g_e_number_ok N 0 rnumber2 hr2) (pc o1 pn)) ?_
   refine rnR hE 2 [] [] (kp [0,5,8,9,10,11,53,54,55,77,78,86]) (kq [0,1,2,3,4,5,6,71]) 183 (pc o1 pn) ?_
   refine rnC 0 86 h (fun hq5 h=>?_) (fun hq5 h=>?_)
   ·obtain ⟨c6,h⟩:=ifSome h
    obtain ⟨rlowest,hr3,h⟩:=bsm h
    refine rnR hE 0 [(5,⟨[],true,(.agg (TRc rlowest)),[],0,false,none⟩)] [] (kp [0,5,8,9,10,11,53,54,55,77,78]) (kq [0,1,2,3,4,5,6,71]) 295 (pc o1 (pc c6 (pc (g_e_lowest_ok N (⟨((((l.getD ((x2).toNat) TRow.d).f_Coefs).getD ((x3).toNat) TRat.d).fN),((((l.getD ((x2).toNat) TRow.d).f_Coefs).getD ((x3).toNat) TRat.d).fD)⟩:TRat) rlowest hr3) (pc o1 pn)))) ?_
    exact rnW hE 0 [] (kp [0,5,8,9,10,11,53,54,55,77,78]) (kq [0,1,2,3,4,5,6] ++ [(7,.keep 71)]) 8 pn (g_e_begin_J4_ok N _ _ _ _ _ _ _ _ _ _ _ _ ih hK_g_e_begin_L2 _ _ h E hE)
   ·exact rnW hE 1 [] (kp [0,5,8,9,10,11,53,54,55,77,78]) (kq [0,1,2,3,4,5,6] ++ [(7,.keep 71)]) 8 pn (g_e_begin_J4_ok N _ _ _ _ _ _ _ _ _ _ _ _ ih hK_g_e_begin_L2 _ _ h E hE)
  ·obtain ⟨rnumber3,hr5,h⟩:=bsm h
   obtain ⟨c10,h⟩:=ifSome h
   refine rnR hE 2 [(3,⟨[],true,(.agg (TRc rnumber3)),[],0,false,none⟩)] [] (kp [0,5,8] ++ [(9,.osl ((row.set ((w64 (2 * n)).toNat) rnumber3).length))] ++ kp [53,54,55]) (kq [0,1,2,3,4,5] ++ [(6,.arr 6 ((row.set ((w64 (2 * n)).toNat) rnumber3).length) (fun zi=>TRc ((row.set ((w64 (2 * n)).toNat) rnumber3).getD zi TRat.d)))]) 119 (pc (g_e_number_ok N 1 rnumber3 hr5) (pc c10 (pc (ltOf c10) (pc (len_set0 row ((w64 (2 * n)).toNat) rnumber3) (pc (len_set0 row ((w64 (2 * n)).toNat) rnumber3) (pc (get_set0 TRc TRat.d row ((w64 (2 * n)).toNat) rnumber3) pn)))))) ?_
   obtain ⟨c11,h⟩:=ifSome h
   refine rnR hE 1 [] [] (kp [0,5,8,53,54,55]) ([(0,.var 0 [.keep,.keep,.keep,.keep,.osl ((t3 ++ [(row.set ((w64 (2 * n)).toNat) rnumber3)]).length),.keep,.keep,.keep,.keep,.keep,.keep,.keep])] ++ kq [1,2,4,5,6] ++ [(231,.mat 231 ((t3 ++ [(row.set ((w64 (2 * n)).toNat) rnumber3)]).length) [(t3.length,6,(row.set ((w64 (2 * n)).toNat) rnumber3).length)] (fun zm=>mR 4 TRc TRat.d ((t3 ++ [(row.set ((w64 (2 * n)).toNat) rnumber3)]).getD zm [])))]) 295 (pc o1 (pc (Eq.refl t3.length) (pc c11 (pc (show 0+1≤1 from (Nat.le_refl _)) (pc (show ∀ zi,zi < 1→AV.oneL ((fun zi=>([[(.os 6 0 ((row.set ((w64 (2 * n)).toNat) rnumber3).length))]]:List (List AV)).getD zi []) (addz 0 zi))=true from (oneN rfl)) (pc o1 (pc (show (t3.length+1)=(t3 ++ [(row.set ((w64 (2 * n)).toNat) rnumber3)]).length from (len_app_raw rfl rfl)) (pc (show t3.length+1=(t3 ++ [(row.set ((w64 (2 * n)).toNat) rnumber3)]).length from (len_app_raw rfl rfl)) (pc (show ∀ zm,zm < (t3 ++ [(row.set ((w64 (2 * n)).toNat) rnumber3)]).length→matGet [(t3.length,6,(row.set ((w64 (2 * n)).toNat) rnumber3).length)] (fun zm=>mR 4 TRc TRat.d ((t3 ++ [(row.set ((w64 (2 * n)).toNat) rnumber3)]).getD zm [])) zm=if zm < t3.length then (fun zm=>mR 4 TRc TRat.d (t3.getD zm [])) zm else (fun zi=>([[(.os 6 0 ((row.set ((w64 (2 * n)).toNat) rnumber3).length))]]:List (List AV)).getD zi []) (zm - t3.length) from (mat_app (b:=fun zi=>([[(.os 6 0 ((row.set ((w64 (2 * n)).toNat) rnumber3).length))]]:List (List AV)).getD zi []) t3 (row.set ((w64 (2 * n)).toNat) rnumber3) rfl rfl)) (pc (show ∀ zm,zm < (t3 ++ [(row.set ((w64 (2 * n)).toNat) rnumber3)]).length→isMrL ((fun zm=>mR 4 TRc TRat.d ((t3 ++ [(row.set ((w64 (2 * n)).toNat) rnumber3)]).getD zm [])) zm)=true from (fun _ _=>rfl)) pn)))))))))) ?_
   refine rnL 231 6 t3.length (pc (lt_app t3 (row.set ((w64 (2 * n)).toNat) rnumber3)) (pc (show matGet [(t3.length,6,(row.set ((w64 (2 * n)).toNat) rnumber3).length)] (fun zm=>mR 4 TRc TRat.d ((t3 ++ [(row.set ((w64 (2 * n)).toNat) rnumber3)]).getD zm [])) t3.length=[.os 6 0 (row.set ((w64 (2 * n)).toNat) rnumber3).length] from if_pos rfl) (pc (show ∀ zj,zj < (row.set ((w64 (2 * n)).toNat) rnumber3).length→noMrL (TRc ((row.set ((w64 (2 * n)).toNat) rnumber3).getD zj TRat.d))=true from fun _ _=>rfl) pn))) ?_
   refine rnX hE [] (kp [0,5,8,53,54,55]) (kq [0,1,2,4,5] ++ [(231,.mat 231 ((t3 ++ [(row.set ((w64 (2 * n)).toNat) rnumber3)]).length) [] (fun zm=>mR 4 TRc TRat.d ((t3 ++ [(row.set ((w64 (2 * n)).toNat) rnumber3)]).getD zm [])))]) 295 (pc (Eq.refl ((t3 ++ [(row.set ((w64 (2 * n)).toNat) rnumber3)]).length)) (pc (mat_clsE (sz:=4) (c:=TRc) (d:=TRat.d) (t3 ++ [(row.set ((w64 (2 * n)).toNat) rnumber3)]) t3.length 6 ((row.set ((w64 (2 * n)).toNat) rnumber3).length) (row.set ((w64 (2 * n)).toNat) rnumber3) [] (getD_app t3 (row.set ((w64 (2 * n)).toNat) rnumber3)) nemL) (pc (show ∀ zm,zm < (t3 ++ [(row.set ((w64 (2 * n)).toNat) rnumber3)]).length→isMrL ((fun zm=>mR 4 TRc TRat.d ((t3 ++ [(row.set ((w64 (2 * n)).toNat) rnumber3)]).getD zm [])) zm)=true from fun _ _=>rfl) pn))) ?_
   obtain ⟨rlowest2,hr6,h⟩:=bsm h
   obtain ⟨c12,h⟩:=ifSome h
   refine rnR hE 0 [(7,⟨[],true,(.agg (TRc rlowest2)),[],0,false,none⟩)] [] (kp [0,5,53,54,55]) ([(0,.var 0 [.keep,.keep,.keep,.keep,.keep,.osl ((t4 ++ ([rlowest2]:List TRat)).length),.keep,.keep,.keep,.keep,.keep,.keep])] ++ kq [1,2,231] ++ [(439,.arr 439 ((t4 ++ ([rlowest2]:List TRat)).length) (fun zi=>TRc ((t4 ++ ([rlowest2]:List TRat)).getD zi TRat.d)))]) 503 (pc o1 (pc o1 (pc (g_e_lowest_ok N (⟨(((l.getD ((x2).toNat) TRow.d).f_Bound).fN),(((l.getD ((x2).toNat) TRow.d).f_Bound).fD)⟩:TRat) rlowest2 hr6) (pc (Eq.refl t4.length) (pc c12 (pc (z1 1) (pc (show ∀ zi,zi < 1→AV.oneL ((fun zi=>([[(aB rlowest2.fN.fG),(eU rlowest2.fN.fL),(aB rlowest2.fD.fG),(eU rlowest2.fD.fL)]]:List (List AV)).getD zi []) (addz 0 zi))=true from (oneN rfl)) (pc o1 (pc (show (t4.length+1)=(t4 ++ ([rlowest2]:List TRat)).length from (len_app_raw rfl rfl)) (pc (show t4.length+1=(t4 ++ ([rlowest2]:List TRat)).length from (len_app_raw rfl rfl)) (pc (show ∀ zi,zi < (t4 ++ ([rlowest2]:List TRat)).length→(fun zi=>TRc ((t4 ++ ([rlowest2]:List TRat)).getD zi TRat.d)) zi=((fun zm=>if zm < t4.length then (fun zi=>TRc (t4.getD zi TRat.d)) zm else (fun zi=>([[(aB rlowest2.fN.fG),(eU rlowest2.fN.fL),(aB rlowest2.fD.fG),(eU rlowest2.fD.fL)]]:List (List AV)).getD zi []) (zm - t4.length))) zi from (get_app_raw TRc TRat.d t4 ([rlowest2]:List TRat) rfl (fun _ _=>rfl) (fun zq hzq=>get_chunk TRc TRat.d ([rlowest2]:List TRat) zq hzq))) pn))))))))))) ?_
   refine rnR hE 1 [] [] (kp [0,5,53,54,55]) (kq [0,1,2,231,439]) 535 pn ?_
   exact rnW hE 1 [] (kp [0,5,53,54,55]) (kq [0,1,2] ++ [(3,.keep 231),(4,.keep 439)]) 5 pn (hK_g_e_begin_L2 _ _ _ _ _ h E hE)
def g_e_begin_L5_H (N:Nat) (n:Int) (l:List TRow) (rnumber:TRat) (t:List Int) (t2:List Int) (t3:List (List TRat)) (t4:List TRat) (K:(List TRat)→Int→Option (Ttb)):Prop:=∀ (t5:List TRat) (x4:Int) (r:Ttb),K t5 x4=some r→∀ E,EnvOk E 0→Runs Tryz.prog E 44 157 (SPost E [(0,vN 12 [(aI r.f_n),(aI r.f_m),(.os 1 0 r.f_basic.length),(.os 2 0 r.f_free.length),(.os 3 0 r.f_a.length),(.os 4 0 r.f_b.length),(.os 5 0 r.f_goal.length),(aB r.f_value.fN.fG),(eU r.f_value.fN.fL),(aB r.f_value.fD.fG),(eU r.f_value.fD.fL),(aI r.f_helper)]),(1,aO 1 cI 0 r.f_basic),(2,aO 1 cI 0 r.f_free),(3,aM 4 TRc TRat.d r.f_a),(4,aO 4 TRc TRat.d r.f_b),(5,aO 4 TRc TRat.d r.f_goal)] (.op 0 0 0)) [.code (C_55 2036),.inLoop (C_55 2036),.inBlock 6,.code (C_55 255)] ⟨[(5,(.op 0 0 0)),(144,(aI (((List.replicate ((w64 ((w64 (2 * n))+1)).toNat) TRat.d:List TRat).length:Nat):Int))),(145,(aI x4))],[(0,vN 12 [(aI n),(aI ((l.length:Nat):Int)),(.os 1 0 t2.length),(.os 2 0 ((t ++ ([(w64 ((w64 (2 * n))+((l.length:Nat):Int)))]:List Int)).length)),(.os 3 0 t3.length),(.os 4 0 t4.length),(.os 5 0 t5.length),(aB rnumber.fN.fG),(eU rnumber.fN.fL),(aB rnumber.fD.fG),(eU rnumber.fD.fL),(aI (w64 ((w64 (2 * n))+((l.length:Nat):Int))))]),(1,aO 1 cI 0 t2),(2,aO 1 cI 0 (t ++ ([(w64 ((w64 (2 * n))+((l.length:Nat):Int)))]:List Int))),(3,aM 4 TRc TRat.d t3),(4,aO 4 TRc TRat.d t4),(5,aO 4 TRc TRat.d t5)],6⟩
theorem g_e_begin_L5_ok (N:Nat) (n:Int) (l:List TRow) (rnumber:TRat) (t:List Int) (t2:List Int) (t3:List (List TRat)) (t4:List TRat) (fuel:Nat):g_e_begin_L5_H N n l rnumber t t2 t3 t4 (g_e_begin_L5 N n l rnumber t t2 t3 t4 fuel):=by
 induction fuel with
 | zero=>intro _ _ r h;rw [g_e_begin_L5.eq_1] at h;cases h
 | succ fuel ih =>
  intro t5 x4 r h E hE
  rw [g_e_begin_L5.eq_2] at h
  refine rnR hE 1 [] [] (kp [5,144,145,146]) (kq [0,1,2,3,4,5]) 22 pn ?_
  refine rnC 1 146 h (fun hq6 h=>?_) (fun hq6 h=>?_)
  ·refine rnR hE 4 [] [] (kp [5,12,144,145]) (kq [0,1,2,3,4,5]) 54 pn ?_
   obtain ⟨rnumber4,hr7,h⟩:=bsm h
   obtain ⟨c14,h⟩:=ifSome h
   refine rnR hE 0 [(5,⟨[],true,(.agg (TRc rnumber4)),[],0,false,none⟩)] [] (kp [5,144,145]) ([(0,.var 0 [.keep,.keep,.keep,.keep,.keep,.keep,.osl ((t5.set ((x4).toNat) rnumber4).length),.keep,.keep,.keep,.keep,.keep])] ++ kq [1,2,3,4] ++ [(5,.arr 5 ((t5.set ((x4).toNat) rnumber4).length) (fun zi=>TRc ((t5.set ((x4).toNat) rnumber4).getD zi TRat.d)))]) 182 (pc o1 (pc (g_e_number_ok N 0 rnumber4 hr7) (pc c14 (pc (ltOf c14) (pc (len_set0 t5 ((x4).toNat) rnumber4) (pc (len_set0 t5 ((x4).toNat) rnumber4) (pc (get_set0 TRc TRat.d t5 ((x4).toNat) rnumber4) pn))))))) ?_
   refine rnR hE 1 [] [] (kp [5,144,145]) (kq [0,1,2,3,4,5]) 214 pn ?_
   exact rnW hE 1 [] (kp [5,144,145]) (kq [0,1,2,3,4,5]) 6 pn (ih _ _ _ h E hE)
  ·refine rnR hE 2 [] [] (kp [4]) (kq [0,1,2,3,4,5]) 54 pn ?_
   obtain rfl:=osI h
   exact rnT hE 0 Tryz.f44 [] (kp [4]) (kq [0,1,2,3,4,5]) 54 pn [] pn
theorem g_e_begin_L2_ok (N:Nat) (n:Int) (l:List TRow) (rnumber:TRat) (t:List Int) (fuel:Nat):g_e_begin_L2_H N n l rnumber t (g_e_begin_L2 N n l rnumber t fuel):=by
 induction fuel with
 | zero=>intro _ _ _ _ r h;rw [g_e_begin_L2.eq_1] at h;cases h
 | succ fuel ih =>
  intro t2 t3 t4 x2 r h E hE
  rw [g_e_begin_L2.eq_2] at h
  refine rnR hE 1 [] [] (kp [0,5,53,54,55,56]) (kq [0,1,2,3,4]) 21 pn ?_
  refine rnC 1 56 h (fun hq3 h=>?_) (fun hq3 h=>?_)
  ·obtain ⟨c3,h⟩:=ifSome h
   refine rnR hE 4 [] [] (kp [0,5,7,8,53,54,55]) (kq [0,1,2,3,4,69]) 117 (pc c3 (pc o1 pn)) ?_
   obtain ⟨c4,h⟩:=ifSome h
   refine rnR hE 1 [] [] (kp [0,5,8,53,54,55]) ([(0,.var 0 [.keep,.keep,.osl ((t2 ++ ([(w64 ((w64 (2 * n))+x2))]:List Int)).length),.keep,.keep,.keep,.keep,.keep,.keep,.keep,.keep,.keep])] ++ kq [2,3,4,69] ++ [(277,.arr 277 ((t2 ++ ([(w64 ((w64 (2 * n))+x2))]:List Int)).length) (fun zi=>cI ((t2 ++ ([(w64 ((w64 (2 * n))+x2))]:List Int)).getD zi 0)))]) 341 (pc o1 (pc (Eq.refl t2.length) (pc c4 (pc (z1 1) (pc (show ∀ zi,zi < 1→AV.oneL ((fun zi=>([[(aI (w64 ((w64 (2 * n))+x2)))]]:List (List AV)).getD zi []) (addz 0 zi))=true from (oneN rfl)) (pc o1 (pc (show (t2.length+1)=(t2 ++ ([(w64 ((w64 (2 * n))+x2))]:List Int)).length from (len_app_raw rfl rfl)) (pc (show t2.length+1=(t2 ++ ([(w64 ((w64 (2 * n))+x2))]:List Int)).length from (len_app_raw rfl rfl)) (pc (show ∀ zi,zi < (t2 ++ ([(w64 ((w64 (2 * n))+x2))]:List Int)).length→(fun zi=>cI ((t2 ++ ([(w64 ((w64 (2 * n))+x2))]:List Int)).getD zi 0)) zi=((fun zm=>if zm < t2.length then (fun zi=>cI (t2.getD zi 0)) zm else (fun zi=>([[(aI (w64 ((w64 (2 * n))+x2)))]]:List (List AV)).getD zi []) (zm - t2.length))) zi from (get_app_raw cI 0 t2 ([(w64 ((w64 (2 * n))+x2))]:List Int) rfl (fun _ _=>rfl) (fun zq hzq=>get_chunk cI 0 ([(w64 ((w64 (2 * n))+x2))]:List Int) zq hzq))) pn))))))))) ?_
   obtain ⟨c5,h⟩:=ifSome h
   refine rnR hE 1 [] [] (kp [0,5,8] ++ [(9,.osl ((List.replicate ((w64 ((w64 (2 * n))+1)).toNat) TRat.d:List TRat).length))] ++ kp [53,54,55]) (kq [0,2,3,4,69,277] ++ [(389,.arz 389 ((List.replicate ((w64 ((w64 (2 * n))+1)).toNat) TRat.d:List TRat).length) (fun zi=>TRc ((List.replicate ((w64 ((w64 (2 * n))+1)).toNat) TRat.d:List TRat).getD zi TRat.d)))]) 421 (pc (show 0≤(w64 ((w64 (2 * n))+1)) from c5.1) (pc (show (w64 ((w64 (2 * n))+1))≤(w64 ((w64 (2 * n))+1)) from (Int.le_refl _)) (pc (show (64:Int) * (w64 ((w64 (2 * n))+1))≤281474976710656 from c5.2.1) (pc (show (w64 ((w64 (2 * n))+1))≤9223372036854775807 from c5.2.2) (pc (show (w64 ((w64 (2 * n))+1)).toNat=(List.replicate ((w64 ((w64 (2 * n))+1)).toNat) TRat.d:List TRat).length from (List.length_replicate).symm) (pc (show (w64 ((w64 (2 * n))+1)).toNat=(List.replicate ((w64 ((w64 (2 * n))+1)).toNat) TRat.d:List TRat).length from (List.length_replicate).symm) (pc (show ∀ zi,zi < (List.replicate ((w64 ((w64 (2 * n))+1)).toNat) TRat.d:List TRat).length→UpL ((fun _=>[(aB false),.nil,(aB false),.nil]) zi) ((fun zi=>TRc ((List.replicate ((w64 ((w64 (2 * n))+1)).toNat) TRat.d:List TRat).getD zi TRat.d)) zi) from (fun zq hzq=>get_rep_up TRc TRat.d TRat.d ((w64 ((w64 (2 * n))+1)).toNat) zq ⟨.inl rfl,.inr ⟨rfl,_,rfl⟩,.inl rfl,.inr ⟨rfl,_,rfl⟩,trivial⟩ hzq)) pn))))))) ?_
   refine rnR hE 2 [] [] (kp [0,5,8,9,53,54,55,77,78]) (kq [0,2,3,4,69,277,389]) 453 pn ?_
   exact rnW hE 2 [] (kp [0,5,8,9,53,54,55,77,78]) (kq [0] ++ [(1,.keep 277)] ++ kq [2,3,4] ++ [(5,.keep 69),(6,.keep 389)]) 7 pn (g_e_begin_L3_ok N _ _ _ _ _ _ _ _ _ ih N _ _ _ h E hE)
  ·obtain ⟨c13,h⟩:=ifSome h
   refine rnR hE 2 [] [] (kp [5]) ([(0,.var 0 [.keep,.keep,.keep,.keep,.keep,.keep,.osl ((List.replicate ((w64 ((w64 (2 * n))+1)).toNat) TRat.d:List TRat).length),.keep,.keep,.keep,.keep,.keep])] ++ kq [1,2,3,4] ++ [(85,.arz 85 ((List.replicate ((w64 ((w64 (2 * n))+1)).toNat) TRat.d:List TRat).length) (fun zi=>TRc ((List.replicate ((w64 ((w64 (2 * n))+1)).toNat) TRat.d:List TRat).getD zi TRat.d)))]) 149 (pc (show 0≤(w64 ((w64 (2 * n))+1)) from c13.1) (pc (show (w64 ((w64 (2 * n))+1))≤(w64 ((w64 (2 * n))+1)) from (Int.le_refl _)) (pc (show (64:Int) * (w64 ((w64 (2 * n))+1))≤281474976710656 from c13.2.1) (pc (show (w64 ((w64 (2 * n))+1))≤9223372036854775807 from c13.2.2) (pc o1 (pc (show (w64 ((w64 (2 * n))+1)).toNat=(List.replicate ((w64 ((w64 (2 * n))+1)).toNat) TRat.d:List TRat).length from (List.length_replicate).symm) (pc (show (w64 ((w64 (2 * n))+1)).toNat=(List.replicate ((w64 ((w64 (2 * n))+1)).toNat) TRat.d:List TRat).length from (List.length_replicate).symm) (pc (show ∀ zi,zi < (List.replicate ((w64 ((w64 (2 * n))+1)).toNat) TRat.d:List TRat).length→UpL ((fun _=>[(aB false),.nil,(aB false),.nil]) zi) ((fun zi=>TRc ((List.replicate ((w64 ((w64 (2 * n))+1)).toNat) TRat.d:List TRat).getD zi TRat.d)) zi) from (fun zq hzq=>get_rep_up TRc TRat.d TRat.d ((w64 ((w64 (2 * n))+1)).toNat) zq ⟨.inl rfl,.inr ⟨rfl,_,rfl⟩,.inl rfl,.inr ⟨rfl,_,rfl⟩,trivial⟩ hzq)) pn)))))))) ?_
   refine rnR hE 2 [] [] (kp [5,144,145]) (kq [0,1,2,3,4,85]) 245 (pc o1 pn) ?_
   exact rnW hE 2 [] (kp [5,144,145]) (kq [0,1,2,3,4] ++ [(5,.keep 85)]) 6 pn (g_e_begin_L5_ok N _ _ _ _ _ _ _ N _ _ _ h E hE)
theorem g_e_begin_L1_ok (N:Nat) (n:Int) (l:List TRow) (rnumber:TRat) (fuel:Nat):g_e_begin_L1_H N n l rnumber (g_e_begin_L1 N n l rnumber fuel):=by
 induction fuel with
 | zero=>intro _ _ r h;rw [g_e_begin_L1.eq_1] at h;cases h
 | succ fuel ih =>
  intro t x r h E hE
  rw [g_e_begin_L1.eq_2] at h
  refine rnR hE 1 [] [] (kp [0,1,5,25,26,27]) (kq [0,1]) 18 pn ?_
  refine rnC 1 27 h (fun hq2 h=>?_) (fun hq2 h=>?_)
  ·refine rnR hE 4 [] [] (kp [0,1,5,6,25,26]) (kq [0,1]) 50 pn ?_
   obtain ⟨c,h⟩:=ifSome h
   refine rnR hE 0 [] [] (kp [0,1,5,25,26]) [(0,.var 0 [.keep,.keep,.keep,.osl ((t ++ ([x]:List Int)).length),.keep,.keep,.keep,.keep,.keep,.keep,.keep,.keep]),(162,.arr 162 ((t ++ ([x]:List Int)).length) (fun zi=>cI ((t ++ ([x]:List Int)).getD zi 0)))] 226 (pc o1 (pc (Eq.refl t.length) (pc c (pc (z1 1) (pc (show ∀ zi,zi < 1→AV.oneL ((fun zi=>([[(aI x)]]:List (List AV)).getD zi []) (addz 0 zi))=true from (oneN rfl)) (pc o1 (pc (show (t.length+1)=(t ++ ([x]:List Int)).length from (len_app_raw rfl rfl)) (pc (show t.length+1=(t ++ ([x]:List Int)).length from (len_app_raw rfl rfl)) (pc (show ∀ zi,zi < (t ++ ([x]:List Int)).length→(fun zi=>cI ((t ++ ([x]:List Int)).getD zi 0)) zi=((fun zm=>if zm < t.length then (fun zi=>cI (t.getD zi 0)) zm else (fun zi=>([[(aI x)]]:List (List AV)).getD zi []) (zm - t.length))) zi from (get_app_raw cI 0 t ([x]:List Int) rfl (fun _ _=>rfl) (fun zq hzq=>get_chunk cI 0 ([x]:List Int) zq hzq))) pn))))))))) ?_
   refine rnR hE 1 [] [] (kp [0,1,5,25,26]) (kq [0,162]) 258 pn ?_
   exact rnW hE 1 [] (kp [0,1,5,25,26]) (kq [0] ++ [(1,.keep 162)]) 2 pn (ih _ _ _ h E hE)
  ·obtain ⟨c2,h⟩:=ifSome h
   refine rnR hE 2 [] [] (kp [0,1,5]) [(0,.var 0 [.keep,.keep,.keep,.osl ((t ++ ([(w64 ((w64 (2 * n))+((l.length:Nat):Int)))]:List Int)).length),.keep,.keep,.keep,.keep,.keep,.keep,.keep,.keep]),(178,.arr 178 ((t ++ ([(w64 ((w64 (2 * n))+((l.length:Nat):Int)))]:List Int)).length) (fun zi=>cI ((t ++ ([(w64 ((w64 (2 * n))+((l.length:Nat):Int)))]:List Int)).getD zi 0)))] 242 (pc o1 (pc o1 (pc (Eq.refl t.length) (pc c2 (pc (z1 1) (pc (show ∀ zi,zi < 1→AV.oneL ((fun zi=>([[(aI (w64 ((w64 (2 * n))+((l.length:Nat):Int))))]]:List (List AV)).getD zi []) (addz 0 zi))=true from (oneN rfl)) (pc o1 (pc (show (t.length+1)=(t ++ ([(w64 ((w64 (2 * n))+((l.length:Nat):Int)))]:List Int)).length from (len_app_raw rfl rfl)) (pc (show t.length+1=(t ++ ([(w64 ((w64 (2 * n))+((l.length:Nat):Int)))]:List Int)).length from (len_app_raw rfl rfl)) (pc (show ∀ zi,zi < (t ++ ([(w64 ((w64 (2 * n))+((l.length:Nat):Int)))]:List Int)).length→(fun zi=>cI ((t ++ ([(w64 ((w64 (2 * n))+((l.length:Nat):Int)))]:List Int)).getD zi 0)) zi=((fun zm=>if zm < t.length then (fun zi=>cI (t.getD zi 0)) zm else (fun zi=>([[(aI (w64 ((w64 (2 * n))+((l.length:Nat):Int))))]]:List (List AV)).getD zi []) (zm - t.length))) zi from (get_app_raw cI 0 t ([(w64 ((w64 (2 * n))+((l.length:Nat):Int)))]:List Int) rfl (fun _ _=>rfl) (fun zq hzq=>get_chunk cI 0 ([(w64 ((w64 (2 * n))+((l.length:Nat):Int)))]:List Int) zq hzq))) pn)))))))))) ?_
   refine rnR hE 2 [] [] (kp [0,5,53,54,55]) (kq [0,178]) 290 pn ?_
   exact rnW hE 2 [] (kp [0,5,53,54,55]) [(0,.var 0 [.keep,.keep,.nilos 1,.keep,.nilos 3,.nilos 4,.keep,.keep,.keep,.keep,.keep,.keep]),(1,.nil 1 (fun zi=>cI (([]:List Int).getD zi 0))),(2,.keep 178),(3,.nim (fun zm=>mR 4 TRc TRat.d (([]:List (List TRat)).getD zm []))),(4,.nil 4 (fun zi=>TRc (([]:List TRat).getD zi TRat.d)))] 5 pn (g_e_begin_L2_ok N _ _ _ _ N _ _ _ _ _ h E hE)
theorem g_e_begin_ok (N:Nat) (n:Int) (l:List TRow) (r:Ttb) (h:g_e_begin N n l=some r):Sd 44 [(aI n),(encL TWc TRow.d l)] [] 0 (.op 0 0 0) [(0,vN 12 [(aI r.f_n),(aI r.f_m),(.os 1 0 r.f_basic.length),(.os 2 0 r.f_free.length),(.os 3 0 r.f_a.length),(.os 4 0 r.f_b.length),(.os 5 0 r.f_goal.length),(aB r.f_value.fN.fG),(eU r.f_value.fN.fL),(aB r.f_value.fD.fG),(eU r.f_value.fD.fL),(aI r.f_helper)]),(1,aO 1 cI 0 r.f_basic),(2,aO 1 cI 0 r.f_free),(3,aM 4 TRc TRat.d r.f_a),(4,aO 4 TRc TRat.d r.f_b),(5,aO 4 TRc TRat.d r.f_goal)]:=by
 unfold g_e_begin at h
 refine sor (fu:=Tryz.f44) (c:=C_55 1) (nt:=157) (by kernel_rfl) (by kernel_rfl) (by kernel_rfl) (by kernel_rfl) (fun hm=>rfl) ?_
 intro E hE
 refine rnR hE 1 [] [] (kp [0,1]) [] 16 pn ?_
 obtain ⟨rnumber,hr,h⟩:=bsm h
 refine rnR hE 1 [(8,⟨[],true,(.agg (TRc rnumber)),[],0,false,none⟩)] [] (kp [0,1,5]) (kq [176]) 208 (pc (g_e_number_ok N 0 rnumber hr) pn) ?_
 refine rnR hE 2 [] [] (kp [0,1,5,25,26]) (kq [176]) 256 pn ?_
 exact rnW hE 2 [] (kp [0,1,5,25,26]) [(0,.var 176 [.keep,.keep,.keep,.nilos 1,.keep,.keep,.keep,.keep,.keep,.keep,.keep,.keep]),(1,.nil 1 (fun zi=>cI (([]:List Int).getD zi 0)))] 2 pn (g_e_begin_L1_ok N _ _ _ N _ _ _ h E hE)
noncomputable def C_57 (n:Nat):Code:=cat (bodyOf Tryz.f74) (pth n)
theorem g_e_CmpRat_ok (N:Nat) (x:TRat) (y:TRat) (r:Int) (h:g_e_CmpRat N x y=some r):Sd 74 [(.agg (TRc x)),(.agg (TRc y))] [] 0 (aI r) []:=by
 unfold g_e_CmpRat at h
 refine sor (fu:=Tryz.f74) (c:=C_57 1) (nt:=9) (by kernel_rfl) (by kernel_rfl) (by kernel_rfl) (by kernel_rfl) (fun hm=>rfl) ?_
 intro E hE
 refine rnR hE 1 [] [] (kp [2,3]) (kq [0,16]) 48 pn ?_
 obtain ⟨rSubRat,hr,h⟩:=bsm h
 obtain ⟨rsignOf,hr2,h⟩:=bsm h
 refine rnR hE 1 [(2,⟨[],true,(.agg (TRc rSubRat)),[],0,false,none⟩),(3,⟨[],true,(aI rsignOf),[],0,false,none⟩)] [] (kp [4]) [] 128 (pc o1 (pc o1 (pc (g_e_SubRat_ok N x y rSubRat hr) (pc (g_e_signOf_ok N rSubRat rsignOf hr2) pn)))) ?_
 obtain rfl:=osI h
 exact rnT hE 0 Tryz.f74 [] (kp [4]) [] 128 pn [] pn
noncomputable def C_59 (n:Nat):Code:=cat (bodyOf Tryz.f93) (pth n)
theorem g_e_over_ok (N:Nat) (x:TRat) (y:TRat) (r:TRat) (h:g_e_over N x y=some r):Sd 93 [(.agg (TRc x)),(.agg (TRc y))] [] 0 (.agg (TRc r)) []:=by
 unfold g_e_over at h
 refine sor (fu:=Tryz.f93) (c:=C_59 1) (nt:=16) (by kernel_rfl) (by kernel_rfl) (by kernel_rfl) (by kernel_rfl) (fun hm=>rfl) ?_
 intro E hE
 refine rnR hE 1 [] [] (kp [2,3,4]) (kq [0,16,32]) 48 pn ?_
 obtain ⟨rbelow,hr,h⟩:=bsm h
 obtain ⟨rMul,hr2,h⟩:=bsm h
 obtain ⟨rbelow2,hr3,h⟩:=bsm h
 obtain ⟨rMul2,hr4,h⟩:=bsm h
 obtain ⟨rFr,hr5,h⟩:=bsm h
 refine rnR hE 1 [(3,⟨[],true,(.agg (TIc rbelow)),[],0,false,none⟩),(4,⟨[],true,(.agg (TIc rMul)),[],0,false,none⟩),(6,⟨[],true,(.agg (TIc rbelow2)),[],0,false,none⟩),(9,⟨[],true,(.agg (TIc rMul2)),[],0,false,none⟩),(10,⟨[],true,(.agg (TRc rFr)),[],0,false,none⟩)] [] (kp [4]) (kq [32]) 240 (pc o1 (pc o1 (pc (g_e_below_ok N y rbelow hr) (pc (g_e_Mul_ok N x.fN rbelow rMul hr2) (pc o1 (pc (g_e_below_ok N x rbelow2 hr3) (pc o1 (pc (g_e_Mul_ok N rbelow2 y.fN rMul2 hr4) (pc (g_e_fraction_ok N rMul rMul2 rFr hr5) (pc o1 pn)))))))))) ?_
 obtain rfl:=osI h
 exact rnT hE 0 Tryz.f93 [] (kp [4]) [(16,.keep 32)] 240 pn [16] (pc o1 pn)
noncomputable def C_60 (n:Nat):Code:=cat (bodyOf Tryz.f94) (pth n)
def g_e_tableau_put_L1_H (N:Nat) (j:Int) (f:TRat) (C0:List TRat) (K:(List TRat)→Int→Option ((List TRat))):Prop:=∀ (C02:List TRat) (x:Int) (r:(List TRat)),K C02 x=some r→∀ E,EnvOk E 1→Runs Tryz.prog E 94 49 (SPost E [(0,aO 4 TRc TRat.d r)] (.tup [])) [.code (C_60 28),.inLoop (C_60 28),.inBlock 0] ⟨[(1,(.os 0 0 C02.length)),(2,(.os 0 0 C02.length)),(3,(aI j)),(9,(.op 1 0 0)),(12,(aI ((C0.length:Nat):Int))),(13,(aI x))],[(0,aO 4 TRc TRat.d C02),(1,vO 4 (TRc f))],2⟩
def g_e_tableau_put_J2_H (N:Nat) (j:Int) (f:TRat) (C0:List TRat) (x:Int) (K:(List TRat)→Option ((List TRat))):Prop:=∀ (C03:List TRat) (r:(List TRat)),K C03=some r→∀ E,EnvOk E 1→Runs Tryz.prog E 94 49 (SPost E [(0,aO 4 TRc TRat.d r)] (.tup [])) [.code (C_60 231),.inLoop (C_60 28),.inBlock 0] ⟨[(1,(.os 0 0 C03.length)),(2,(.os 0 0 C03.length)),(3,(aI j)),(9,(.op 1 0 0)),(12,(aI ((C0.length:Nat):Int))),(13,(aI x))],[(0,aO 4 TRc TRat.d C03),(1,vO 4 (TRc f))],2⟩
theorem g_e_tableau_put_J2_ok (N:Nat) (j:Int) (f:TRat) (C0:List TRat) (x:Int) (K_g_e_tableau_put_L1:(List TRat)→Int→Option ((List TRat))) (hK_g_e_tableau_put_L1:g_e_tableau_put_L1_H N j f C0 K_g_e_tableau_put_L1):g_e_tableau_put_J2_H N j f C0 x (g_e_tableau_put_J2 N j f C0 x K_g_e_tableau_put_L1):=by
 intro C03 r h E hE
 unfold g_e_tableau_put_J2 at h
 refine rnR hE 0 [] [] (kp [1,2,3,9,12,13]) (kq [0,1]) 34 pn ?_
 exact rnW hE 1 [] (kp [1,2,3,9,12,13]) (kq [0,1]) 2 pn (hK_g_e_tableau_put_L1 _ _ _ h E hE)
theorem g_e_tableau_put_L1_ok (N:Nat) (j:Int) (f:TRat) (C0:List TRat) (fuel:Nat):g_e_tableau_put_L1_H N j f C0 (g_e_tableau_put_L1 N j f C0 fuel):=by
 induction fuel with
 | zero=>intro _ _ r h;rw [g_e_tableau_put_L1.eq_1] at h;cases h
 | succ fuel ih =>
  intro C02 x r h E hE
  rw [g_e_tableau_put_L1.eq_2] at h
  refine rnR hE 1 [] [] (kp [1,2,3,9,12,13,14]) (kq [0,1]) 18 pn ?_
  refine rnC 1 14 h (fun hq2 h=>?_) (fun hq2 h=>?_)
  ·refine rnR hE 4 [] [] (kp [1,2,3,9,10,12,13]) (kq [0,1]) 50 pn ?_
   refine rnR hE 1 [] [] (kp [1,2,3,9,10,12,13,18]) (kq [0,1]) 98 pn ?_
   refine rnC 0 18 h (fun hq3 h=>?_) (fun hq3 h=>?_)
   ·obtain ⟨c,h⟩:=ifSome h
    obtain ⟨rMulRat,hr,h⟩:=bsm h
    refine rnR hE 0 [(7,⟨[],true,(.agg (TRc rMulRat)),[],0,false,none⟩)] [] ([(1,.osl ((C02.set ((x).toNat) rMulRat).length)),(2,.osl ((C02.set ((x).toNat) rMulRat).length))] ++ kp [3,9,12,13]) ([(0,.arr 0 ((C02.set ((x).toNat) rMulRat).length) (fun zi=>TRc ((C02.set ((x).toNat) rMulRat).getD zi TRat.d)))] ++ kq [1]) 258 (pc o1 (pc c (pc (ltOf c) (pc (g_e_MulRat_ok N f (⟨((C02.getD ((x).toNat) TRat.d).fN),((C02.getD ((x).toNat) TRat.d).fD)⟩:TRat) rMulRat hr) (pc c (pc (ltOf c) (pc (len_set0 C02 ((x).toNat) rMulRat) (pc (len_set0 C02 ((x).toNat) rMulRat) (pc (len_set0 C02 ((x).toNat) rMulRat) (pc (get_set0 TRc TRat.d C02 ((x).toNat) rMulRat) pn)))))))))) ?_
    exact rnW hE 1 [] (kp [1,2,3,9,12,13]) (kq [0,1]) 2 pn (g_e_tableau_put_J2_ok N _ _ _ _ _ ih _ _ h E hE)
   ·obtain ⟨c2,h⟩:=ifSome h
    obtain ⟨risZero,hr2,h⟩:=bsm h
    refine rnR hE 1 [(4,⟨[],true,(aB risZero),[],0,false,none⟩)] [] (kp [1,2,3,9,10,12,13,33]) (kq [0,1]) 194 (pc c2 (pc (ltOf c2) (pc (g_e_isZero_ok N (⟨((C02.getD ((x).toNat) TRat.d).fN),((C02.getD ((x).toNat) TRat.d).fD)⟩:TRat) risZero hr2) pn))) ?_
    refine rnC 0 33 h (fun hq4 h=>?_) (fun hq4 h=>?_)
    ·obtain ⟨rMulRat2,hr3,h⟩:=bsm h
     obtain ⟨rAddRat,hr4,h⟩:=bsm h
     refine rnR hE 0 [(11,⟨[],true,(.agg (TRc rMulRat2)),[],0,false,none⟩),(12,⟨[],true,(.agg (TRc rAddRat)),[],0,false,none⟩)] [] ([(1,.osl ((C02.set ((x).toNat) rAddRat).length)),(2,.osl ((C02.set ((x).toNat) rAddRat).length))] ++ kp [3,9,12,13]) ([(0,.arr 0 ((C02.set ((x).toNat) rAddRat).length) (fun zi=>TRc ((C02.set ((x).toNat) rAddRat).getD zi TRat.d)))] ++ kq [1]) 434 (pc c2 (pc (ltOf c2) (pc o1 (pc c2 (pc (ltOf c2) (pc (g_e_MulRat_ok N f (⟨((C02.getD ((x).toNat) TRat.d).fN),((C02.getD ((x).toNat) TRat.d).fD)⟩:TRat) rMulRat2 hr3) (pc (g_e_AddRat_ok N (⟨((C02.getD ((x).toNat) TRat.d).fN),((C02.getD ((x).toNat) TRat.d).fD)⟩:TRat) rMulRat2 rAddRat hr4) (pc c2 (pc (ltOf c2) (pc (len_set0 C02 ((x).toNat) rAddRat) (pc (len_set0 C02 ((x).toNat) rAddRat) (pc (len_set0 C02 ((x).toNat) rAddRat) (pc (get_set0 TRc TRat.d C02 ((x).toNat) rAddRat) pn))))))))))))) ?_
     exact rnW hE 1 [] (kp [1,2,3,9,12,13]) (kq [0,1]) 2 pn (g_e_tableau_put_J2_ok N _ _ _ _ _ ih _ _ h E hE)
    ·exact rnW hE 2 [] (kp [1,2,3,9,12,13]) (kq [0,1]) 2 pn (g_e_tableau_put_J2_ok N _ _ _ _ _ ih _ _ h E hE)
  ·obtain rfl:=osI h
   exact rnF hE 1 Tryz.f94 [] [] (kq [0]) 49 pn [] pn
theorem g_e_tableau_put_ok (N:Nat) (j:Int) (f:TRat) (C0:List TRat) (r:(List TRat)) (h:g_e_tableau_put N j f C0=some r):Sd 94 [.unk,(.os 0 0 C0.length),(.os 0 0 C0.length),(aI j),(.agg (TRc f))] [(0,aO 4 TRc TRat.d C0)] 1 (.tup []) [(0,aO 4 TRc TRat.d r)]:=by
 unfold g_e_tableau_put at h
 refine sor (fu:=Tryz.f94) (c:=C_60 1) (nt:=49) (by kernel_rfl) (by kernel_rfl) (by kernel_rfl) (by kernel_rfl) (fun hm=>absurd hm (by decide)) ?_
 intro E hE
 refine rnR hE 1 [] [] (kp [1,2,3,9]) (kq [0,1]) 17 pn ?_
 refine rnR hE 1 [] [] (kp [1,2,3,9,12,13]) (kq [0,1]) 65 pn ?_
 exact rnW hE 2 [] (kp [1,2,3,9,12,13]) (kq [0,1]) 2 pn (g_e_tableau_put_L1_ok N _ _ _ N _ _ _ h E hE)
noncomputable def C_61 (n:Nat):Code:=cat (bodyOf Tryz.f94) (pth n)
def g_e_tableau_put_v2_L1_H (N:Nat) (j:Int) (f:TRat) (C0:List TRat) (C1:List TRat) (K:(List TRat)→Int→Option ((List TRat))):Prop:=∀ (C02:List TRat) (x:Int) (r:(List TRat)),K C02 x=some r→∀ E,EnvOk E 2→Runs Tryz.prog E 94 49 (SPost E [(0,aO 4 TRc TRat.d r),(1,aO 4 TRc TRat.d C1)] (.tup [])) [.code (C_61 28),.inLoop (C_61 28),.inBlock 0] ⟨[(1,(.os 0 0 C02.length)),(2,(.os 1 0 C1.length)),(3,(aI j)),(9,(.op 2 0 0)),(12,(aI ((C0.length:Nat):Int))),(13,(aI x))],[(0,aO 4 TRc TRat.d C02),(1,aO 4 TRc TRat.d C1),(2,vO 4 (TRc f))],3⟩
def g_e_tableau_put_v2_J2_H (N:Nat) (j:Int) (f:TRat) (C0:List TRat) (C1:List TRat) (x:Int) (K:(List TRat)→Option ((List TRat))):Prop:=∀ (C03:List TRat) (r:(List TRat)),K C03=some r→∀ E,EnvOk E 2→Runs Tryz.prog E 94 49 (SPost E [(0,aO 4 TRc TRat.d r),(1,aO 4 TRc TRat.d C1)] (.tup [])) [.code (C_61 231),.inLoop (C_61 28),.inBlock 0] ⟨[(1,(.os 0 0 C03.length)),(2,(.os 1 0 C1.length)),(3,(aI j)),(9,(.op 2 0 0)),(12,(aI ((C0.length:Nat):Int))),(13,(aI x))],[(0,aO 4 TRc TRat.d C03),(1,aO 4 TRc TRat.d C1),(2,vO 4 (TRc f))],3⟩
theorem g_e_tableau_put_v2_J2_ok (N:Nat) (j:Int) (f:TRat) (C0:List TRat) (C1:List TRat) (x:Int) (K_g_e_tableau_put_v2_L1:(List TRat)→Int→Option ((List TRat))) (hK_g_e_tableau_put_v2_L1:g_e_tableau_put_v2_L1_H N j f C0 C1 K_g_e_tableau_put_v2_L1):g_e_tableau_put_v2_J2_H N j f C0 C1 x (g_e_tableau_put_v2_J2 N j f C0 C1 x K_g_e_tableau_put_v2_L1):=by
 intro C03 r h E hE
 unfold g_e_tableau_put_v2_J2 at h
 refine rnR hE 0 [] [] (kp [1,2,3,9,12,13]) (kq [0,1,2]) 35 pn ?_
 exact rnW hE 1 [] (kp [1,2,3,9,12,13]) (kq [0,1,2]) 3 pn (hK_g_e_tableau_put_v2_L1 _ _ _ h E hE)
theorem g_e_tableau_put_v2_L1_ok (N:Nat) (j:Int) (f:TRat) (C0:List TRat) (C1:List TRat) (fuel:Nat):g_e_tableau_put_v2_L1_H N j f C0 C1 (g_e_tableau_put_v2_L1 N j f C0 C1 fuel):=by
 induction fuel with
 | zero=>intro _ _ r h;rw [g_e_tableau_put_v2_L1.eq_1] at h;cases h
 | succ fuel ih =>
  intro C02 x r h E hE
  rw [g_e_tableau_put_v2_L1.eq_2] at h
  refine rnR hE 1 [] [] (kp [1,2,3,9,12,13,14]) (kq [0,1,2]) 19 pn ?_
  refine rnC 1 14 h (fun hq2 h=>?_) (fun hq2 h=>?_)
  ·refine rnR hE 4 [] [] (kp [1,2,3,9,10,12,13]) (kq [0,1,2]) 51 pn ?_
   refine rnR hE 1 [] [] (kp [1,2,3,9,10,12,13,18]) (kq [0,1,2]) 99 pn ?_
   refine rnC 0 18 h (fun hq3 h=>?_) (fun hq3 h=>?_)
   ·obtain ⟨c,h⟩:=ifSome h
    obtain ⟨rMulRat,hr,h⟩:=bsm h
    obtain ⟨c2,h⟩:=ifSome h
    refine rnR hE 0 [(7,⟨[],true,(.agg (TRc rMulRat)),[],0,false,none⟩)] [] ([(1,.osl ((C02.set ((x).toNat) rMulRat).length))] ++ kp [2,3,9,12,13]) ([(0,.arr 0 ((C02.set ((x).toNat) rMulRat).length) (fun zi=>TRc ((C02.set ((x).toNat) rMulRat).getD zi TRat.d)))] ++ kq [1,2]) 259 (pc o1 (pc c (pc (ltOf c) (pc (g_e_MulRat_ok N f (⟨((C1.getD ((x).toNat) TRat.d).fN),((C1.getD ((x).toNat) TRat.d).fD)⟩:TRat) rMulRat hr) (pc c2 (pc (ltOf c2) (pc (len_set0 C02 ((x).toNat) rMulRat) (pc (len_set0 C02 ((x).toNat) rMulRat) (pc (get_set0 TRc TRat.d C02 ((x).toNat) rMulRat) pn))))))))) ?_
    exact rnW hE 1 [] (kp [1,2,3,9,12,13]) (kq [0,1,2]) 3 pn (g_e_tableau_put_v2_J2_ok N _ _ _ _ _ _ ih _ _ h E hE)
   ·obtain ⟨c3,h⟩:=ifSome h
    obtain ⟨risZero,hr2,h⟩:=bsm h
    refine rnR hE 1 [(4,⟨[],true,(aB risZero),[],0,false,none⟩)] [] (kp [1,2,3,9,10,12,13,33]) (kq [0,1,2]) 195 (pc c3 (pc (ltOf c3) (pc (g_e_isZero_ok N (⟨((C1.getD ((x).toNat) TRat.d).fN),((C1.getD ((x).toNat) TRat.d).fD)⟩:TRat) risZero hr2) pn))) ?_
    refine rnC 0 33 h (fun hq4 h=>?_) (fun hq4 h=>?_)
    ·obtain ⟨c4,h⟩:=ifSome h
     obtain ⟨rMulRat2,hr3,h⟩:=bsm h
     obtain ⟨rAddRat,hr4,h⟩:=bsm h
     refine rnR hE 0 [(11,⟨[],true,(.agg (TRc rMulRat2)),[],0,false,none⟩),(12,⟨[],true,(.agg (TRc rAddRat)),[],0,false,none⟩)] [] ([(1,.osl ((C02.set ((x).toNat) rAddRat).length))] ++ kp [2,3,9,12,13]) ([(0,.arr 0 ((C02.set ((x).toNat) rAddRat).length) (fun zi=>TRc ((C02.set ((x).toNat) rAddRat).getD zi TRat.d)))] ++ kq [1,2]) 435 (pc c4 (pc (ltOf c4) (pc o1 (pc c3 (pc (ltOf c3) (pc (g_e_MulRat_ok N f (⟨((C1.getD ((x).toNat) TRat.d).fN),((C1.getD ((x).toNat) TRat.d).fD)⟩:TRat) rMulRat2 hr3) (pc (g_e_AddRat_ok N (⟨((C02.getD ((x).toNat) TRat.d).fN),((C02.getD ((x).toNat) TRat.d).fD)⟩:TRat) rMulRat2 rAddRat hr4) (pc c4 (pc (ltOf c4) (pc (len_set0 C02 ((x).toNat) rAddRat) (pc (len_set0 C02 ((x).toNat) rAddRat) (pc (get_set0 TRc TRat.d C02 ((x).toNat) rAddRat) pn)))))))))))) ?_
     exact rnW hE 1 [] (kp [1,2,3,9,12,13]) (kq [0,1,2]) 3 pn (g_e_tableau_put_v2_J2_ok N _ _ _ _ _ _ ih _ _ h E hE)
    ·exact rnW hE 2 [] (kp [1,2,3,9,12,13]) (kq [0,1,2]) 3 pn (g_e_tableau_put_v2_J2_ok N _ _ _ _ _ _ ih _ _ h E hE)
  ·obtain rfl:=osI h
   exact rnF hE 1 Tryz.f94 [] [] (kq [0,1]) 50 pn [] pn
theorem g_e_tableau_put_v2_ok (N:Nat) (j:Int) (f:TRat) (C0:List TRat) (C1:List TRat) (r:(List TRat)) (h:g_e_tableau_put_v2 N j f C0 C1=some r):Sd 94 [.unk,(.os 0 0 C0.length),(.os 1 0 C1.length),(aI j),(.agg (TRc f))] [(0,aO 4 TRc TRat.d C0),(1,aO 4 TRc TRat.d C1)] 2 (.tup []) [(0,aO 4 TRc TRat.d r),(1,aO 4 TRc TRat.d C1)]:=by
 unfold g_e_tableau_put_v2 at h
 refine sor (fu:=Tryz.f94) (c:=C_61 1) (nt:=49) (by kernel_rfl) (by kernel_rfl) (by kernel_rfl) (by kernel_rfl) (fun hm=>absurd hm (by decide)) ?_
 intro E hE
 refine rnR hE 1 [] [] (kp [1,2,3,9]) (kq [0,1,2]) 18 pn ?_
 refine rnR hE 1 [] [] (kp [1,2,3,9,12,13]) (kq [0,1,2]) 66 pn ?_
 exact rnW hE 2 [] (kp [1,2,3,9,12,13]) (kq [0,1,2]) 3 pn (g_e_tableau_put_v2_L1_ok N _ _ _ _ N _ _ _ h E hE)
end Go.Den
