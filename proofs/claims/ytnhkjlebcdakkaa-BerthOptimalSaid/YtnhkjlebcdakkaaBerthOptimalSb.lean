/- Each function of the program does what its Lean function computes (part 2). No conditions. -/
import Derived.Test.YtnhkjlebcdakkaaBerthOptimalSa
import Derived.Test.YtnhkjlebcdakkaaProg
set_option linter.unusedVariables false
set_option maxRecDepth 100000
namespace Go.Den
open Go.Ab Go.Proofs
noncomputable def C_76 (n:Nat):Code:=cat (bodyOf Try.f127) (pth n)
theorem g_w_Above_2_ok (N:Nat) (a:Int) (b:Int) (cap1:List TS__2_int) (r:(List TS__2_int)) (h:g_w_Above_2 N a b cap1=some r):Sound Try.prog 127 [(aI a),(aI b),(.op 0 0 0)] [(0,vN 1 [(.os 1 0 cap1.length)]),(1,aO 2 TS__2_int.cells TS__2_int.d cap1)] 2 (.tup []) [(0,vN 1 [(.os 2 0 r.length)]),(2,aO 2 TS__2_int.cells TS__2_int.d r)]:=by
 unfold g_w_Above_2 at h
 refine Sound.of_runs (fu:=Try.f127) (c:=C_76 1) (nt:=33) (by kernel_rfl) (by kernel_rfl) (by kernel_rfl) (by kernel_rfl) (fun hm=>absurd hm (by decide)) ?_
 intro E hE
 refine Runs.nR hE 2 [] [] (kp [0,1,2,5]) (kq [0,1]) 50 (pc o1 pn) ?_
 obtain ⟨c,h⟩:=ifSome h
 refine Runs.nR hE 1 [] [] (kp [0,1,2,5,20]) (kq [0,1]) 258 (pc (fun hg:(decide (((cap1.length:Nat):Int) > 0))=true=>(pc o1 pn)) (pc (fun hg:(decide (((cap1.length:Nat):Int) > 0))=true=>(pc hg pn)) (pc (fun hg:(decide (((cap1.length:Nat):Int) > 0))=true=>(pc hg (pc hg (pc (c hg) pn)))) (pc (fun hg:(decide (((cap1.length:Nat):Int) > 0))=true=>(pc hg (pc (show 0≤(1:Int)∧(1:Int) < ((2:Nat):Int) by decide) pn))) (pc (fun hg:(decide (((cap1.length:Nat):Int) > 0))=true=>(pc hg (pc (ltOf (c hg)) pn))) (pc (fun hg:(decide (((cap1.length:Nat):Int) > 0))=true=>(pc hg pn)) (pc (fun hg:(decide (((cap1.length:Nat):Int) > 0))=true=>(pc hg (pc hg pn))) (pc (fun hq:(decide (((cap1.length:Nat):Int) > 0))=true=>(pc hq pn)) pn)))))))) ?_
 refine Runs.nC 0 20 h (fun hq2 h=>?_) (fun hq2 h=>?_)
 ·obtain ⟨c2,h⟩:=ifSome h
  refine Runs.nR hE 1 [] [] [] [(0,.var 0 [.osl ((cap1.set ((w64 (((cap1.length:Nat):Int) - 1)).toNat) (⟨(cap1.getD ((w64 (((cap1.length:Nat):Int) - 1)).toNat) TS__2_int.d).e0,b⟩:TS__2_int)).length)]),(1,.arr 1 ((cap1.set ((w64 (((cap1.length:Nat):Int) - 1)).toNat) (⟨(cap1.getD ((w64 (((cap1.length:Nat):Int) - 1)).toNat) TS__2_int.d).e0,b⟩:TS__2_int)).length) (fun zi=>TS__2_int.cells ((cap1.set ((w64 (((cap1.length:Nat):Int) - 1)).toNat) (⟨(cap1.getD ((w64 (((cap1.length:Nat):Int) - 1)).toNat) TS__2_int.d).e0,b⟩:TS__2_int)).getD zi TS__2_int.d)))] 370 (pc o1 (pc c2 (pc (show 0≤(1:Int)∧(1:Int) < ((2:Nat):Int) by decide) (pc (ltOf c2) (pc (len_set0 cap1 ((w64 (((cap1.length:Nat):Int) - 1)).toNat) (⟨(cap1.getD ((w64 (((cap1.length:Nat):Int) - 1)).toNat) TS__2_int.d).e0,b⟩:TS__2_int)) (pc (len_set0 cap1 ((w64 (((cap1.length:Nat):Int) - 1)).toNat) (⟨(cap1.getD ((w64 (((cap1.length:Nat):Int) - 1)).toNat) TS__2_int.d).e0,b⟩:TS__2_int)) (pc (get_set0 TS__2_int.cells TS__2_int.d cap1 ((w64 (((cap1.length:Nat):Int) - 1)).toNat) (⟨(cap1.getD ((w64 (((cap1.length:Nat):Int) - 1)).toNat) TS__2_int.d).e0,b⟩:TS__2_int)) pn))))))) ?_
  obtain rfl:=Option.some.inj h
  exact Runs.nT hE 0 Try.f127 [] [] (kq [0] ++ [(2,.keep 1)]) 370 pn [] pn
 ·obtain ⟨c3,h⟩:=ifSome h
  refine Runs.nR hE 1 [] [] [] [(0,.var 0 [.osl ((cap1 ++ ([(⟨a,b⟩:TS__2_int)]:List TS__2_int)).length)]),(338,.arr 338 ((cap1 ++ ([(⟨a,b⟩:TS__2_int)]:List TS__2_int)).length) (fun zi=>TS__2_int.cells ((cap1 ++ ([(⟨a,b⟩:TS__2_int)]:List TS__2_int)).getD zi TS__2_int.d)))] 370 (pc o1 (pc (Eq.refl cap1.length) (pc c3 (pc (z1 1) (pc (show ∀ zi,zi < 1→AV.oneL ((fun zi=>([[(aI a),(aI b)]]:List (List AV)).getD zi []) (addz 0 zi))=true from (oneN rfl)) (pc o1 (pc (show (cap1.length+1)=(cap1 ++ ([(⟨a,b⟩:TS__2_int)]:List TS__2_int)).length from (len_app_raw rfl rfl)) (pc (show cap1.length+1=(cap1 ++ ([(⟨a,b⟩:TS__2_int)]:List TS__2_int)).length from (len_app_raw rfl rfl)) (pc (show ∀ zi,zi < (cap1 ++ ([(⟨a,b⟩:TS__2_int)]:List TS__2_int)).length→(fun zi=>TS__2_int.cells ((cap1 ++ ([(⟨a,b⟩:TS__2_int)]:List TS__2_int)).getD zi TS__2_int.d)) zi=((fun zm=>if zm < cap1.length then (fun zi=>TS__2_int.cells (cap1.getD zi TS__2_int.d)) zm else (fun zi=>([[(aI a),(aI b)]]:List (List AV)).getD zi []) (zm - cap1.length))) zi from (get_app_raw TS__2_int.cells TS__2_int.d cap1 ([(⟨a,b⟩:TS__2_int)]:List TS__2_int) rfl (fun _ _=>rfl) (fun zq hzq=>get_chunk TS__2_int.cells TS__2_int.d ([(⟨a,b⟩:TS__2_int)]:List TS__2_int) zq hzq))) pn))))))))) ?_
  obtain rfl:=Option.some.inj h
  exact Runs.nF hE 0 Try.f127 [] [] (kq [0] ++ [(2,.keep 338)]) 370 pn [] pn
noncomputable def C_78 (n:Nat):Code:=cat (bodyOf Try.f128) (pth n)
theorem g_w_Above_3_ok (N:Nat) (k:Int) (cap1:List TMark) (cap2:Int) (cap3:Int) (r:Bool) (h:g_w_Above_3 N k cap1 cap2 cap3=some r):Sound Try.prog 128 [(aI k),(.op 0 0 0),(.op 3 0 0)] [(0,vN 1 [(.fn (.func 126) [] [(.op 1 0 0),(.op 2 0 0)])]),(1,vO 1 [(encL TMark.cells TMark.d cap1)]),(2,vO 1 [(aI cap2)]),(3,vO 1 [(aI cap3)])] 4 (aB r) [(0,vN 1 [(.fn (.func 126) [] [(.op 1 0 0),(.op 2 0 0)])]),(1,vO 1 [(encL TMark.cells TMark.d cap1)]),(2,vO 1 [(aI cap2)]),(3,vO 1 [(aI cap3)])]:=by
 unfold g_w_Above_3 at h
 refine Sound.of_runs (fu:=Try.f128) (c:=C_78 1) (nt:=11) (by kernel_rfl) (by kernel_rfl) (by kernel_rfl) (by kernel_rfl) (fun hm=>absurd hm (by decide)) ?_
 intro E hE
 refine Runs.nR hE 1 [] [] (kp [0,1,2]) (kq [0,1,2,3]) 20 pn ?_
 obtain ⟨rAbove1,hr,h⟩:=bindSome h
 refine Runs.nR hE 1 [(4,⟨[1,2],true,(aB rAbove1),[],0,false,none⟩)] [] (kp [4]) (kq [0,1,2,3]) 132 (pc o1 (pc o1 (pc (g_w_Above_1_ok N (w64 (cap3+k)) cap1 cap2 rAbove1 hr) pn))) ?_
 obtain rfl:=Option.some.inj h
 exact Runs.nT hE 0 Try.f128 [] (kp [4]) (kq [0,1,2,3]) 132 pn [] pn
noncomputable def C_77 (n:Nat):Code:=cat (bodyOf Try.f107) (pth n)
def g_sort_Search_v2_L1_H (N:Nat) (cap1:List TMark) (cap2:Int) (cap3:Int) (K:Int→Int→Option (Int)):Prop:=∀ (i:Int) (j:Int) (r:Int),K i j=some r→∀ E,EnvOk E 4→Runs Try.prog E 107 26 (SPost E [(0,vN 1 [(.fn (.func 126) [] [(.op 1 0 0),(.op 2 0 0)])]),(1,vO 1 [(encL TMark.cells TMark.d cap1)]),(2,vO 1 [(aI cap2)]),(3,vO 1 [(aI cap3)])] (aI r)) [.code (C_77 56),.inLoop (C_77 56),.inBlock 0,.code (C_77 15)] ⟨[(1,(.fn (.func 128) [] [(.op 0 0 0),(.op 3 0 0)])),(5,(aI i)),(6,(aI j))],[(0,vN 1 [(.fn (.func 126) [] [(.op 1 0 0),(.op 2 0 0)])]),(1,vO 1 [(encL TMark.cells TMark.d cap1)]),(2,vO 1 [(aI cap2)]),(3,vO 1 [(aI cap3)])],4⟩
theorem g_sort_Search_v2_L1_ok (N:Nat) (cap1:List TMark) (cap2:Int) (cap3:Int) (fuel:Nat):g_sort_Search_v2_L1_H N cap1 cap2 cap3 (g_sort_Search_v2_L1 N cap1 cap2 cap3 fuel):=by
 induction fuel with
 | zero=>intro _ _ r h;rw [g_sort_Search_v2_L1.eq_1] at h;cases h
 | succ fuel ih =>
  intro i j r h E hE
  rw [g_sort_Search_v2_L1.eq_2] at h
  refine Runs.nR hE 2 [] [] (kp [1,5,6,11]) (kq [0,1,2,3]) 52 pn ?_
  refine Runs.nC 0 11 h (fun hq2 h=>?_) (fun hq2 h=>?_)
  ·refine Runs.nR hE 3 [] [] (kp [1,5,6,7]) (kq [0,1,2,3]) 164 (pc (show (0:Int)≤1 by decide) pn) ?_
   obtain ⟨rAbove3,hr,h⟩:=bindSome h
   refine Runs.nR hE 1 [(2,⟨[0,1,2,3],true,(aB rAbove3),[],0,false,none⟩)] [] (kp [1,5,6,7,21]) (kq [0,1,2,3]) 228 (pc (g_w_Above_3_ok N (w64 ((shrI .u64 (IntKind.u64.wrap ((w64 (i+j)))) 1))) cap1 cap2 cap3 rAbove3 hr) pn) ?_
   refine Runs.nC 0 21 h (fun hq3 h=>?_) (fun hq3 h=>?_)
   ·refine Runs.nR hE 0 [] [] (kp [1,5,6]) (kq [0,1,2,3]) 276 pn ?_
    exact Runs.nW hE 2 [] (kp [1,5,6]) (kq [0,1,2,3]) 4 pn (ih _ _ _ h E hE)
   ·refine Runs.nR hE 0 [] [] (kp [1,5,6]) (kq [0,1,2,3]) 260 pn ?_
    exact Runs.nW hE 2 [] (kp [1,5,6]) (kq [0,1,2,3]) 4 pn (ih _ _ _ h E hE)
  ·refine Runs.nR hE 2 [] [] (kp [4]) (kq [0,1,2,3]) 84 pn ?_
   obtain rfl:=Option.some.inj h
   exact Runs.nT hE 0 Try.f107 [] (kp [4]) (kq [0,1,2,3]) 84 pn [] pn
theorem g_sort_Search_v2_ok (N:Nat) (n:Int) (cap1:List TMark) (cap2:Int) (cap3:Int) (r:Int) (h:g_sort_Search_v2 N n cap1 cap2 cap3=some r):Sound Try.prog 107 [(aI n),(.fn (.func 128) [] [(.op 0 0 0),(.op 3 0 0)])] [(0,vN 1 [(.fn (.func 126) [] [(.op 1 0 0),(.op 2 0 0)])]),(1,vO 1 [(encL TMark.cells TMark.d cap1)]),(2,vO 1 [(aI cap2)]),(3,vO 1 [(aI cap3)])] 4 (aI r) [(0,vN 1 [(.fn (.func 126) [] [(.op 1 0 0),(.op 2 0 0)])]),(1,vO 1 [(encL TMark.cells TMark.d cap1)]),(2,vO 1 [(aI cap2)]),(3,vO 1 [(aI cap3)])]:=by
 unfold g_sort_Search_v2 at h
 refine Sound.of_runs (fu:=Try.f107) (c:=C_77 1) (nt:=26) (by kernel_rfl) (by kernel_rfl) (by kernel_rfl) (by kernel_rfl) (fun hm=>absurd hm (by decide)) ?_
 intro E hE
 refine Runs.nR hE 1 [] [] (kp [0,1]) (kq [0,1,2,3]) 20 pn ?_
 refine Runs.nR hE 1 [] [] (kp [1,5,6]) (kq [0,1,2,3]) 68 pn ?_
 exact Runs.nW hE 3 [] (kp [1,5,6]) (kq [0,1,2,3]) 4 pn (g_sort_Search_v2_L1_ok N _ _ _ N _ _ _ h E hE)
noncomputable def C_80 (n:Nat):Code:=cat (bodyOf Try.f129) (pth n)
theorem g_w_Above_4_ok (N:Nat) (k:Int) (cap1:List TMark) (cap2:Int) (cap3:Int) (r:Bool) (h:g_w_Above_4 N k cap1 cap2 cap3=some r):Sound Try.prog 129 [(aI k),(.op 0 0 0),(.op 3 0 0)] [(0,vN 1 [(.fn (.func 126) [] [(.op 1 0 0),(.op 2 0 0)])]),(1,vO 1 [(encL TMark.cells TMark.d cap1)]),(2,vO 1 [(aI cap2)]),(3,vO 1 [(aI cap3)])] 4 (aB r) [(0,vN 1 [(.fn (.func 126) [] [(.op 1 0 0),(.op 2 0 0)])]),(1,vO 1 [(encL TMark.cells TMark.d cap1)]),(2,vO 1 [(aI cap2)]),(3,vO 1 [(aI cap3)])]:=by
 unfold g_w_Above_4 at h
 refine Sound.of_runs (fu:=Try.f129) (c:=C_80 1) (nt:=10) (by kernel_rfl) (by kernel_rfl) (by kernel_rfl) (by kernel_rfl) (fun hm=>absurd hm (by decide)) ?_
 intro E hE
 refine Runs.nR hE 1 [] [] (kp [0,1,2]) (kq [0,1,2,3]) 20 pn ?_
 obtain ⟨rAbove1,hr,h⟩:=bindSome h
 refine Runs.nR hE 1 [(4,⟨[1,2],true,(aB rAbove1),[],0,false,none⟩)] [] (kp [4]) (kq [0,1,2,3]) 116 (pc o1 (pc o1 (pc (g_w_Above_1_ok N (w64 (cap3+k)) cap1 cap2 rAbove1 hr) pn))) ?_
 obtain rfl:=Option.some.inj h
 exact Runs.nT hE 0 Try.f129 [] (kp [4]) (kq [0,1,2,3]) 116 pn [] pn
noncomputable def C_79 (n:Nat):Code:=cat (bodyOf Try.f107) (pth n)
def g_sort_Search_v3_L1_H (N:Nat) (cap1:List TMark) (cap2:Int) (cap3:Int) (K:Int→Int→Option (Int)):Prop:=∀ (i:Int) (j:Int) (r:Int),K i j=some r→∀ E,EnvOk E 4→Runs Try.prog E 107 26 (SPost E [(0,vN 1 [(.fn (.func 126) [] [(.op 1 0 0),(.op 2 0 0)])]),(1,vO 1 [(encL TMark.cells TMark.d cap1)]),(2,vO 1 [(aI cap2)]),(3,vO 1 [(aI cap3)])] (aI r)) [.code (C_79 56),.inLoop (C_79 56),.inBlock 0,.code (C_79 15)] ⟨[(1,(.fn (.func 129) [] [(.op 0 0 0),(.op 3 0 0)])),(5,(aI i)),(6,(aI j))],[(0,vN 1 [(.fn (.func 126) [] [(.op 1 0 0),(.op 2 0 0)])]),(1,vO 1 [(encL TMark.cells TMark.d cap1)]),(2,vO 1 [(aI cap2)]),(3,vO 1 [(aI cap3)])],4⟩
theorem g_sort_Search_v3_L1_ok (N:Nat) (cap1:List TMark) (cap2:Int) (cap3:Int) (fuel:Nat):g_sort_Search_v3_L1_H N cap1 cap2 cap3 (g_sort_Search_v3_L1 N cap1 cap2 cap3 fuel):=by
 induction fuel with
 | zero=>intro _ _ r h;rw [g_sort_Search_v3_L1.eq_1] at h;cases h
 | succ fuel ih =>
  intro i j r h E hE
  rw [g_sort_Search_v3_L1.eq_2] at h
  refine Runs.nR hE 2 [] [] (kp [1,5,6,11]) (kq [0,1,2,3]) 52 pn ?_
  refine Runs.nC 0 11 h (fun hq2 h=>?_) (fun hq2 h=>?_)
  ·refine Runs.nR hE 3 [] [] (kp [1,5,6,7]) (kq [0,1,2,3]) 164 (pc (show (0:Int)≤1 by decide) pn) ?_
   obtain ⟨rAbove4,hr,h⟩:=bindSome h
   refine Runs.nR hE 1 [(2,⟨[0,1,2,3],true,(aB rAbove4),[],0,false,none⟩)] [] (kp [1,5,6,7,21]) (kq [0,1,2,3]) 228 (pc (g_w_Above_4_ok N (w64 ((shrI .u64 (IntKind.u64.wrap ((w64 (i+j)))) 1))) cap1 cap2 cap3 rAbove4 hr) pn) ?_
   refine Runs.nC 0 21 h (fun hq3 h=>?_) (fun hq3 h=>?_)
   ·refine Runs.nR hE 0 [] [] (kp [1,5,6]) (kq [0,1,2,3]) 276 pn ?_
    exact Runs.nW hE 2 [] (kp [1,5,6]) (kq [0,1,2,3]) 4 pn (ih _ _ _ h E hE)
   ·refine Runs.nR hE 0 [] [] (kp [1,5,6]) (kq [0,1,2,3]) 260 pn ?_
    exact Runs.nW hE 2 [] (kp [1,5,6]) (kq [0,1,2,3]) 4 pn (ih _ _ _ h E hE)
  ·refine Runs.nR hE 2 [] [] (kp [4]) (kq [0,1,2,3]) 84 pn ?_
   obtain rfl:=Option.some.inj h
   exact Runs.nT hE 0 Try.f107 [] (kp [4]) (kq [0,1,2,3]) 84 pn [] pn
theorem g_sort_Search_v3_ok (N:Nat) (n:Int) (cap1:List TMark) (cap2:Int) (cap3:Int) (r:Int) (h:g_sort_Search_v3 N n cap1 cap2 cap3=some r):Sound Try.prog 107 [(aI n),(.fn (.func 129) [] [(.op 0 0 0),(.op 3 0 0)])] [(0,vN 1 [(.fn (.func 126) [] [(.op 1 0 0),(.op 2 0 0)])]),(1,vO 1 [(encL TMark.cells TMark.d cap1)]),(2,vO 1 [(aI cap2)]),(3,vO 1 [(aI cap3)])] 4 (aI r) [(0,vN 1 [(.fn (.func 126) [] [(.op 1 0 0),(.op 2 0 0)])]),(1,vO 1 [(encL TMark.cells TMark.d cap1)]),(2,vO 1 [(aI cap2)]),(3,vO 1 [(aI cap3)])]:=by
 unfold g_sort_Search_v3 at h
 refine Sound.of_runs (fu:=Try.f107) (c:=C_79 1) (nt:=26) (by kernel_rfl) (by kernel_rfl) (by kernel_rfl) (by kernel_rfl) (fun hm=>absurd hm (by decide)) ?_
 intro E hE
 refine Runs.nR hE 1 [] [] (kp [0,1]) (kq [0,1,2,3]) 20 pn ?_
 refine Runs.nR hE 1 [] [] (kp [1,5,6]) (kq [0,1,2,3]) 68 pn ?_
 exact Runs.nW hE 3 [] (kp [1,5,6]) (kq [0,1,2,3]) 4 pn (g_sort_Search_v3_L1_ok N _ _ _ N _ _ _ h E hE)
noncomputable def C_51 (n:Nat):Code:=cat (bodyOf Try.f104) (pth n)
def g_w_Above_L1_H (N:Nat) (m:List TMark) (level:Int) (vfrom:Int) (vto:Int) (K:(List Int)→Int→Option ((List TS__2_int)×Int)):Prop:=∀ (corners:List Int) (x:Int) (r:(List TS__2_int)×Int),K corners x=some r→∀ E,EnvOk E 0→Runs Try.prog E 104 128 (SPost E [] (.tup [(encL TS__2_int.cells TS__2_int.d r.1),(aI r.2)])) [.code (C_51 1012),.inLoop (C_51 1012),.inBlock 1,.code (C_51 127)] ⟨[(2,(aI vfrom)),(3,(aI vto)),(11,(.op 0 0 0)),(12,(.os 3 0 corners.length)),(47,(encL TMark.cells TMark.d m)),(48,(aI ((m.length:Nat):Int))),(49,(aI x))],[(0,vN 1 [(.fn (.func 126) [] [(.op 1 0 0),(.op 2 0 0)])]),(1,vO 1 [(encL TMark.cells TMark.d m)]),(2,vO 1 [(aI level)]),(3,aO 1 cI 0 corners)],4⟩
def g_w_Above_J2_H (N:Nat) (m:List TMark) (level:Int) (vfrom:Int) (vto:Int) (x:Int) (K:(List Int)→Option ((List TS__2_int)×Int)):Prop:=∀ (corners2:List Int) (r:(List TS__2_int)×Int),K corners2=some r→∀ E,EnvOk E 0→Runs Try.prog E 104 128 (SPost E [] (.tup [(encL TS__2_int.cells TS__2_int.d r.1),(aI r.2)])) [.code (C_51 8103),.inLoop (C_51 1012),.inBlock 1,.code (C_51 127)] ⟨[(2,(aI vfrom)),(3,(aI vto)),(11,(.op 0 0 0)),(12,(.os 3 0 corners2.length)),(47,(encL TMark.cells TMark.d m)),(48,(aI ((m.length:Nat):Int))),(49,(aI x))],[(0,vN 1 [(.fn (.func 126) [] [(.op 1 0 0),(.op 2 0 0)])]),(1,vO 1 [(encL TMark.cells TMark.d m)]),(2,vO 1 [(aI level)]),(3,aO 1 cI 0 corners2)],4⟩
theorem g_w_Above_J2_ok (N:Nat) (m:List TMark) (level:Int) (vfrom:Int) (vto:Int) (x:Int) (K_g_w_Above_L1:(List Int)→Int→Option ((List TS__2_int)×Int)) (hK_g_w_Above_L1:g_w_Above_L1_H N m level vfrom vto K_g_w_Above_L1):g_w_Above_J2_H N m level vfrom vto x (g_w_Above_J2 N m level vfrom vto x K_g_w_Above_L1):=by
 intro corners2 r h E hE
 unfold g_w_Above_J2 at h
 refine Runs.nR hE 0 [] [] (kp [2,3,11,12,47,48,49]) (kq [0,1,2,3]) 36 pn ?_
 exact Runs.nW hE 1 [] (kp [2,3,11,12,47,48,49]) (kq [0,1,2,3]) 4 pn (hK_g_w_Above_L1 _ _ _ h E hE)
def g_w_Above_L3_H (N:Nat) (m:List TMark) (level:Int) (rSort:(List Int)) (K:(List TS__2_int)→Int→Option ((List TS__2_int)×Int)):Prop:=∀ (out:List TS__2_int) (x2:Int) (r:(List TS__2_int)×Int),K out x2=some r→∀ E,EnvOk E 0→Runs Try.prog E 104 128 (SPost E [] (.tup [(encL TS__2_int.cells TS__2_int.d r.1),(aI r.2)])) [.code (C_51 16372),.inLoop (C_51 16372),.inBlock 3,.code (C_51 2047)] ⟨[(11,(.op 0 0 0)),(12,(.os 3 0 rSort.length)),(15,(.op 4 0 0)),(16,(.fn (.func 127) [] [(.op 4 0 0)])),(73,(.os 3 1 (rSort.length - 1))),(74,(aI (((rSort.length - 1):Nat):Int))),(75,(aI x2))],[(0,vN 1 [(.fn (.func 126) [] [(.op 1 0 0),(.op 2 0 0)])]),(1,vO 1 [(encL TMark.cells TMark.d m)]),(2,vO 1 [(aI level)]),(3,aO 1 cI 0 rSort),(4,vN 1 [(.os 5 0 out.length)]),(5,aO 2 TS__2_int.cells TS__2_int.d out)],6⟩
def g_w_Above_J4_H (N:Nat) (m:List TMark) (level:Int) (rSort:(List Int)) (x2:Int) (K:(List TS__2_int)→Option ((List TS__2_int)×Int)):Prop:=∀ (out2:List TS__2_int) (r:(List TS__2_int)×Int),K out2=some r→∀ E,EnvOk E 0→Runs Try.prog E 104 128 (SPost E [] (.tup [(encL TS__2_int.cells TS__2_int.d r.1),(aI r.2)])) [.code (C_51 130983),.inLoop (C_51 16372),.inBlock 3,.code (C_51 2047)] ⟨[(11,(.op 0 0 0)),(12,(.os 3 0 rSort.length)),(15,(.op 4 0 0)),(16,(.fn (.func 127) [] [(.op 4 0 0)])),(73,(.os 3 1 (rSort.length - 1))),(74,(aI (((rSort.length - 1):Nat):Int))),(75,(aI x2))],[(0,vN 1 [(.fn (.func 126) [] [(.op 1 0 0),(.op 2 0 0)])]),(1,vO 1 [(encL TMark.cells TMark.d m)]),(2,vO 1 [(aI level)]),(3,aO 1 cI 0 rSort),(4,vN 1 [(.os 5 0 out2.length)]),(5,aO 2 TS__2_int.cells TS__2_int.d out2)],6⟩
theorem g_w_Above_J4_ok (N:Nat) (m:List TMark) (level:Int) (rSort:(List Int)) (x2:Int) (K_g_w_Above_L3:(List TS__2_int)→Int→Option ((List TS__2_int)×Int)) (hK_g_w_Above_L3:g_w_Above_L3_H N m level rSort K_g_w_Above_L3):g_w_Above_J4_H N m level rSort x2 (g_w_Above_J4 N m level rSort x2 K_g_w_Above_L3):=by
 intro out2 r h E hE
 unfold g_w_Above_J4 at h
 refine Runs.nR hE 0 [] [] (kp [11,12,15,16,73,74,75]) (kq [0,1,2,3,4,5]) 38 pn ?_
 exact Runs.nW hE 1 [] (kp [11,12,15,16,73,74,75]) (kq [0,1,2,3,4,5]) 6 pn (hK_g_w_Above_L3 _ _ _ h E hE)
theorem g_w_Above_L3_ok (N:Nat) (m:List TMark) (level:Int) (rSort:(List Int)) (fuel:Nat):g_w_Above_L3_H N m level rSort (g_w_Above_L3 N m level rSort fuel):=by
 induction fuel with
 | zero=>intro _ _ r h;rw [g_w_Above_L3.eq_1] at h;cases h
 | succ fuel ih =>
  intro out x2 r h E hE
  rw [g_w_Above_L3.eq_2] at h
  refine Runs.nR hE 1 [] [] (kp [11,12,15,16,73,74,75,76]) (kq [0,1,2,3,4,5]) 22 pn ?_
  refine Runs.nC 1 76 h (fun hq7 h=>?_) (fun hq7 h=>?_)
  ·obtain ⟨c5,h⟩:=ifSome h
   obtain ⟨c6,h⟩:=ifSome h
   refine Runs.nR hE 4 [] [] (kp [11,12,15,16,17,18,73,74,75]) (kq [0,1,2,3,4,5]) 102 (pc c5 (pc (show (addz 1 (x2).toNat) < rSort.length by have h1:=c5;have h2:=c6;simp only [addz_eq];omega) pn)) ?_
   obtain ⟨c7,h⟩:=ifSome h
   refine Runs.nR hE 1 [] [] (kp [11,12,15,16,18,19,73,74,75]) (kq [0,1,2,3,4,5,166]) 198 (pc c7 (pc (ltOf c7) (pc o1 pn))) ?_
   obtain ⟨rAbove1,hr5,h⟩:=bindSome h
   obtain ⟨rAbove12,hr6,h⟩:=bindSome h
   refine Runs.nR hE 2 [(2,⟨[1,2],true,(aB rAbove1),[],0,false,none⟩),(6,⟨[1,2],true,(aB rAbove12),[],0,false,none⟩)] [] (kp [11,12,15,16,18,19,73,74,75,84]) (kq [0,1,2,3,4,5,166]) 342 (pc o1 (pc o1 (pc (g_w_Above_1_ok N (rSort.getD ((x2).toNat) 0) m level rAbove1 hr5) (pc (fun hg:rAbove1=true=>(pc o1 pn)) (pc (fun hg:rAbove1=true=>(pc (g_w_Above_1_ok N (rSort.getD (addz 1 (x2).toNat) 0) m level rAbove12 (condT hr6 hg)) (pc hg (pc hg pn)))) (pc (fun hq:rAbove1=true=>(pc hq pn)) pn)))))) ?_
   refine Runs.nC 0 84 h (fun hq8 h=>?_) (fun hq8 h=>?_)
   ·obtain ⟨rAbove2,hr7,h⟩:=bindSome h
    refine Runs.nR hE 0 [(3,⟨[4,5],false,(.tup []),[(0,vN 1 [(.os 2 0 rAbove2.length)]),(2,aO 2 TS__2_int.cells TS__2_int.d rAbove2)],0,false,none⟩)] [] (kp [11,12,15,16,73,74,75]) (kq [0,1,2,3,4,390]) 406 (pc o1 (pc (g_w_Above_2_ok N (rSort.getD ((x2).toNat) 0) (rSort.getD (addz 1 (x2).toNat) 0) out rAbove2 hr7) pn)) ?_
    exact Runs.nW hE 2 [] (kp [11,12,15,16,73,74,75]) (kq [0,1,2,3,4] ++ [(5,.keep 390)]) 6 pn (g_w_Above_J4_ok N _ _ _ _ _ ih _ _ h E hE)
   ·obtain ⟨rAbove13,hr8,h⟩:=bindSome h
    refine Runs.nR hE 1 [(2,⟨[1,2],true,(aB rAbove13),[],0,false,none⟩)] [] (kp [11,12,15,16,18,19,73,74,75,97]) (kq [0,1,2,3,4,5,166]) 406 (pc o1 (pc o1 (pc (g_w_Above_1_ok N (rSort.getD ((x2).toNat) 0) m level rAbove13 hr8) pn))) ?_
    refine Runs.nC 0 97 h (fun hq9 h=>?_) (fun hq9 h=>?_)
    ·obtain ⟨rSearch,hr9,h⟩:=bindSome h
     obtain ⟨rAbove22,hr10,h⟩:=bindSome h
     refine Runs.nR hE 0 [(8,⟨[0,1,2,166],true,(aI rSearch),[],0,false,none⟩),(10,⟨[4,5],false,(.tup []),[(0,vN 1 [(.os 2 0 rAbove22.length)]),(2,aO 2 TS__2_int.cells TS__2_int.d rAbove22)],0,false,none⟩)] [] (kp [11,12,15,16,73,74,75]) (kq [0,1,2,3,4,566]) 582 (pc o1 (pc o1 (pc o1 (pc (g_sort_Search_v2_ok N (w64 ((rSort.getD (addz 1 (x2).toNat) 0) - (rSort.getD ((x2).toNat) 0))) m level (rSort.getD ((x2).toNat) 0) rSearch hr9) (pc (g_w_Above_2_ok N (rSort.getD ((x2).toNat) 0) (w64 ((w64 ((rSort.getD ((x2).toNat) 0) - 1))+rSearch)) out rAbove22 hr10) pn))))) ?_
     exact Runs.nW hE 2 [] (kp [11,12,15,16,73,74,75]) (kq [0,1,2,3,4] ++ [(5,.keep 566)]) 6 pn (g_w_Above_J4_ok N _ _ _ _ _ ih _ _ h E hE)
    ·obtain ⟨rAbove14,hr11,h⟩:=bindSome h
     refine Runs.nR hE 1 [(2,⟨[1,2],true,(aB rAbove14),[],0,false,none⟩)] [] (kp [11,12,15,16,18,19,73,74,75,112]) (kq [0,1,2,3,4,5,166]) 470 (pc o1 (pc (g_w_Above_1_ok N (rSort.getD (addz 1 (x2).toNat) 0) m level rAbove14 hr11) pn)) ?_
     refine Runs.nC 0 112 h (fun hq10 h=>?_) (fun hq10 h=>?_)
     ·obtain ⟨rSearch2,hr12,h⟩:=bindSome h
      obtain ⟨rAbove23,hr13,h⟩:=bindSome h
      refine Runs.nR hE 0 [(6,⟨[0,1,2,166],true,(aI rSearch2),[],0,false,none⟩),(9,⟨[4,5],false,(.tup []),[(0,vN 1 [(.os 2 0 rAbove23.length)]),(2,aO 2 TS__2_int.cells TS__2_int.d rAbove23)],0,false,none⟩)] [] (kp [11,12,15,16,73,74,75]) (kq [0,1,2,3,4,614]) 630 (pc o1 (pc o1 (pc (g_sort_Search_v3_ok N (w64 ((rSort.getD (addz 1 (x2).toNat) 0) - (rSort.getD ((x2).toNat) 0))) m level (rSort.getD ((x2).toNat) 0) rSearch2 hr12) (pc (g_w_Above_2_ok N (w64 ((rSort.getD ((x2).toNat) 0)+rSearch2)) (rSort.getD (addz 1 (x2).toNat) 0) out rAbove23 hr13) pn)))) ?_
      exact Runs.nW hE 2 [] (kp [11,12,15,16,73,74,75]) (kq [0,1,2,3,4] ++ [(5,.keep 614)]) 6 pn (g_w_Above_J4_ok N _ _ _ _ _ ih _ _ h E hE)
     ·exact Runs.nW hE 3 [] (kp [11,12,15,16,73,74,75]) (kq [0,1,2,3,4,5]) 6 pn (g_w_Above_J4_ok N _ _ _ _ _ ih _ _ h E hE)
  ·refine Runs.nR hE 2 [] [] (kp [8,9]) (kq [5]) 70 (pc o1 pn) ?_
   obtain rfl:=Option.some.inj h
   exact Runs.nT hE 0 Try.f104 [5] ([(8,.sl (out.length) (fun zi=>TS__2_int.cells (out.getD zi TS__2_int.d)))] ++ kp [9]) [] 70 (pc (Eq.refl out.length) (pc (z1 out.length) (pc (show ∀ zi,zi < out.length→(fun zi=>TS__2_int.cells (out.getD zi TS__2_int.d)) zi=(fun zi=>TS__2_int.cells (out.getD zi TS__2_int.d)) (addz 0 zi) from (fun _ _=>rfl)) pn))) [] pn
theorem g_w_Above_L1_ok (N:Nat) (m:List TMark) (level:Int) (vfrom:Int) (vto:Int) (fuel:Nat):g_w_Above_L1_H N m level vfrom vto (g_w_Above_L1 N m level vfrom vto fuel):=by
 induction fuel with
 | zero=>intro _ _ r h;rw [g_w_Above_L1.eq_1] at h;cases h
 | succ fuel ih =>
  intro corners x r h E hE
  rw [g_w_Above_L1.eq_2] at h
  refine Runs.nR hE 1 [] [] (kp [2,3,11,12,47,48,49,50]) (kq [0,1,2,3]) 20 pn ?_
  refine Runs.nC 1 50 h (fun hq5 h=>?_) (fun hq5 h=>?_)
  ·obtain ⟨c,h⟩:=ifSome h
   refine Runs.nR hE 4 [] [] (kp [2,3,11,12,14,47,48,49]) (kq [0,1,2,3,52]) 84 (pc c (pc o1 pn)) ?_
   refine Runs.nR hE 1 [] [] (kp [2,3,11,12,14,47,48,49,62]) (kq [0,1,2,3,52]) 244 (pc o1 (pc (fun hg:(decide ((m.getD ((x).toNat) TMark.d).f_Minute > vfrom))=true=>(pc hg (pc o1 pn))) (pc (fun hg:(decide ((m.getD ((x).toNat) TMark.d).f_Minute > vfrom))=true=>(pc hg (pc hg pn))) (pc (fun hq:(decide ((m.getD ((x).toNat) TMark.d).f_Minute > vfrom))=true=>(pc hq pn)) pn)))) ?_
   refine Runs.nC 0 62 h (fun hq6 h=>?_) (fun hq6 h=>?_)
   ·obtain ⟨c2,h⟩:=ifSome h
    refine Runs.nR hE 0 [] [] (kp [2,3,11] ++ [(12,.osl ((corners ++ ([(m.getD ((x).toNat) TMark.d).f_Minute]:List Int)).length))] ++ kp [47,48,49]) (kq [0,1,2] ++ [(308,.arr 308 ((corners ++ ([(m.getD ((x).toNat) TMark.d).f_Minute]:List Int)).length) (fun zi=>cI ((corners ++ ([(m.getD ((x).toNat) TMark.d).f_Minute]:List Int)).getD zi 0)))]) 340 (pc o1 (pc (Eq.refl corners.length) (pc c2 (pc (z1 1) (pc (show ∀ zi,zi < 1→AV.oneL ((fun zi=>([[(aI ((m.getD ((x).toNat) TMark.d).f_Minute))]]:List (List AV)).getD zi []) (addz 0 zi))=true from (oneN rfl)) (pc (show (corners.length+1)=(corners ++ ([(m.getD ((x).toNat) TMark.d).f_Minute]:List Int)).length from (len_app_raw rfl rfl)) (pc (show corners.length+1=(corners ++ ([(m.getD ((x).toNat) TMark.d).f_Minute]:List Int)).length from (len_app_raw rfl rfl)) (pc (show ∀ zi,zi < (corners ++ ([(m.getD ((x).toNat) TMark.d).f_Minute]:List Int)).length→(fun zi=>cI ((corners ++ ([(m.getD ((x).toNat) TMark.d).f_Minute]:List Int)).getD zi 0)) zi=((fun zm=>if zm < corners.length then (fun zi=>cI (corners.getD zi 0)) zm else (fun zi=>([[(aI ((m.getD ((x).toNat) TMark.d).f_Minute))]]:List (List AV)).getD zi []) (zm - corners.length))) zi from (get_app_raw cI 0 corners ([(m.getD ((x).toNat) TMark.d).f_Minute]:List Int) rfl (fun _ _=>rfl) (fun zq hzq=>get_chunk cI 0 ([(m.getD ((x).toNat) TMark.d).f_Minute]:List Int) zq hzq))) pn)))))))) ?_
    exact Runs.nW hE 1 [] (kp [2,3,11,12,47,48,49]) (kq [0,1,2] ++ [(3,.keep 308)]) 4 pn (g_w_Above_J2_ok N _ _ _ _ _ _ ih _ _ h E hE)
   ·exact Runs.nW hE 2 [] (kp [2,3,11,12,47,48,49]) (kq [0,1,2,3]) 4 pn (g_w_Above_J2_ok N _ _ _ _ _ _ ih _ _ h E hE)
  ·obtain ⟨rSort,hr4,h⟩:=bindSome h
   obtain ⟨c3,h⟩:=ifSome h
   refine Runs.nR hE 2 [(1,⟨[3],false,(.tup []),[(0,aO 1 cI 0 rSort)],0,false,none⟩)] [] (kp [11] ++ [(12,.osl (rSort.length))]) (kq [0,1,2,3]) 52 (pc (g_slices_Sort_int_int_ok N corners rSort hr4) (pc (show corners.length=rSort.length from (Eq.symm c3)) pn)) ?_
   refine Runs.nR hE 1 [] [] (kp [11,12,15]) (kq [0,1,2,3,52]) 68 pn ?_
   refine Runs.nR hE 1 [] [] (kp [11,12,15,16]) (kq [0,1,2,3,52]) 100 pn ?_
   obtain ⟨c4,h⟩:=ifSome h
   refine Runs.nR hE 2 [] [] (kp [11,12,15,16,73,74,75]) (kq [0,1,2,3,52]) 164 (pc c4 (pc (show 0≤(1:Int) by decide) pn)) ?_
   exact Runs.nW hE 2 [] (kp [11,12,15,16,73,74,75]) (kq [0,1,2,3] ++ [(4,.var 52 [.nilos 5]),(5,.nil 2 (fun zi=>TS__2_int.cells (([]:List TS__2_int).getD zi TS__2_int.d)))]) 6 pn (g_w_Above_L3_ok N _ _ _ N _ _ _ h E hE)
theorem g_w_Above_ok (N:Nat) (m:List TMark) (level:Int) (vfrom:Int) (vto:Int) (r:(List TS__2_int)×Int) (h:g_w_Above N m level vfrom vto=some r):Sound Try.prog 104 [(encL TMark.cells TMark.d m),(aI level),(aI vfrom),(aI vto)] [] 0 (.tup [(encL TS__2_int.cells TS__2_int.d r.1),(aI r.2)]) []:=by
 unfold g_w_Above at h
 refine Sound.of_runs (fu:=Try.f104) (c:=C_51 1) (nt:=128) (by kernel_rfl) (by kernel_rfl) (by kernel_rfl) (by kernel_rfl) (fun hm=>rfl) ?_
 intro E hE
 refine Runs.nR hE 1 [] [] (kp [2,3,4,5]) (kq [0,16]) 64 pn ?_
 obtain ⟨rCheckSea,hr,h⟩:=bindSome h
 refine Runs.nR hE 2 [(1,⟨[],true,(aI rCheckSea),[],0,false,none⟩)] [] (kp [2,3,4,5,10]) (kq [0,16]) 112 (pc o1 (pc (g_w_CheckSea_ok N m rCheckSea hr) pn)) ?_
 refine Runs.nR hE 1 [] [] (kp [2,3,4,5,10,23]) (kq [0,16]) 144 pn ?_
 refine Runs.nC 0 23 h (fun hq2 h=>?_) (fun hq2 h=>?_)
 ·refine Runs.nR hE 1 [] [] (kp [8,9]) [] 192 pn ?_
  obtain rfl:=Option.some.inj h
  exact Runs.nT hE 0 Try.f104 [] ([(8,.sl (([]:List TS__2_int).length) (fun zi=>TS__2_int.cells (([]:List TS__2_int).getD zi TS__2_int.d)))] ++ kp [9]) [] 192 (pc (Eq.refl 0) pn) [] pn
 ·obtain ⟨rBt,hr2,h⟩:=bindSome h
  obtain ⟨rBt2,hr3,h⟩:=bindSome h
  refine Runs.nR hE 4 [(1,⟨[],true,(aB rBt),[],0,false,none⟩),(6,⟨[],true,(aB rBt2),[],0,false,none⟩)] [] (kp [2,3,4,5,25]) (kq [0,16]) 368 (pc o1 (pc (g_w_between_ok N level (-1000000) 1000000 rBt hr2) (pc (fun hg:(!(!rBt))=true=>(pc (g_w_between_ok N vfrom 0 vto rBt2 (condT hr3 hg)) (pc hg (pc hg pn)))) (pc (fun hg:(!(!rBt))=true=>(pc hg pn)) (pc (fun hq:(!(!rBt))=true=>(pc hq pn)) (pc (fun hg:(!(cond (!rBt) true (!rBt2)))=true=>(pc hg pn)) (pc (fun hq:(!(cond (!rBt) true (!rBt2)))=true=>(pc hq pn)) pn))))))) ?_
  refine Runs.nC 0 25 h (fun hq3 h=>?_) (fun hq3 h=>?_)
  ·refine Runs.nR hE 1 [] [] (kp [8,9]) [] 400 pn ?_
   obtain rfl:=Option.some.inj h
   exact Runs.nT hE 0 Try.f104 [] ([(8,.sl (([]:List TS__2_int).length) (fun zi=>TS__2_int.cells (([]:List TS__2_int).getD zi TS__2_int.d)))] ++ kp [9]) [] 400 (pc (Eq.refl 0) pn) [] pn
  ·refine Runs.nR hE 1 [] [] (kp [2,3,4,5,39]) (kq [0,16]) 432 (pc o1 pn) ?_
   refine Runs.nC 0 39 h (fun hq4 h=>?_) (fun hq4 h=>?_)
   ·refine Runs.nR hE 1 [] [] (kp [8,9]) [] 464 pn ?_
    obtain rfl:=Option.some.inj h
    exact Runs.nT hE 0 Try.f104 [] ([(8,.sl (([]:List TS__2_int).length) (fun zi=>TS__2_int.cells (([]:List TS__2_int).getD zi TS__2_int.d)))] ++ kp [9]) [] 464 (pc (Eq.refl 0) pn) [] pn
   ·refine Runs.nR hE 3 [] [] (kp [2,3,4,11]) (kq [0,16,448]) 480 (pc o1 pn) ?_
    refine Runs.nR hE 1 [] [] (kp [2,3,4,11] ++ [(12,.osl (([vfrom,vto]:List Int).length))]) (kq [0,16,448] ++ [(512,.arr 512 (([vfrom,vto]:List Int).length) (fun zi=>cI (([vfrom,vto]:List Int).getD zi 0)))]) 544 (pc (Eq.refl 2) (pc (Eq.refl 2) (pc (show ∀ zi,zi < ([vfrom,vto]:List Int).length→(fun zi=>cI (([vfrom,vto]:List Int).getD zi 0)) zi=(fun zi=>([[(aI vfrom)],[(aI vto)]]:List (List AV)).getD zi []) zi from (fun zq hzq=>get_chunk cI 0 ([vfrom,vto]:List Int) zq hzq)) pn))) ?_
    refine Runs.nR hE 2 [] [] (kp [2,3,11,12,47,48,49]) (kq [0,16,448,512]) 592 (pc o1 pn) ?_
    exact Runs.nW hE 2 [] (kp [2,3,11,12,47,48,49]) [(0,.keep 448),(1,.keep 0),(2,.keep 16),(3,.keep 512)] 4 pn (g_w_Above_L1_ok N _ _ _ _ N _ _ _ h E hE)
noncomputable def C_50 (n:Nat):Code:=cat (bodyOf Try.f84) (pth n)
theorem g_berth_passages_ok (N:Nat) (d:TDock) (c:TCall) (sea:List TMark) (r:(List TS__2_int)) (h:g_berth_passages N d c sea=some r):Sound Try.prog 84 [(.agg (TDock.cells d)),(.agg (TCall.cells c)),(encL TMark.cells TMark.d sea)] [] 0 (encL TS__2_int.cells TS__2_int.d r) []:=by
 unfold g_berth_passages at h
 refine Sound.of_runs (fu:=Try.f84) (c:=C_50 1) (nt:=34) (by kernel_rfl) (by kernel_rfl) (by kernel_rfl) (by kernel_rfl) (fun hm=>rfl) ?_
 intro E hE
 refine Runs.nR hE 1 [] [] (kp [2,3,4]) (kq [0,16]) 48 pn ?_
 refine Runs.nR hE 1 [] [] (kp [2,7]) [] 192 (pc o1 (pc o1 (pc o1 pn))) ?_
 refine Runs.nR hE 2 [] [] (kp [2,7,19]) [] 224 pn ?_
 refine Runs.nC 0 19 h (fun hq2 h=>?_) (fun hq2 h=>?_)
 ·refine Runs.nR hE 1 [] [] (kp [6]) [] 240 pn ?_
  obtain rfl:=Option.some.inj h
  exact Runs.nT hE 0 Try.f84 [] [(6,.sl (([]:List TS__2_int).length) (fun zi=>TS__2_int.cells (([]:List TS__2_int).getD zi TS__2_int.d)))] [] 240 (pc (Eq.refl 0) pn) [] pn
 ·obtain ⟨c2,h⟩:=ifSome h
  obtain ⟨rAbove,hr,h⟩:=bindSome h
  refine Runs.nR hE 2 [(9,⟨[],true,(.tup [(encL TS__2_int.cells TS__2_int.d rAbove.1),(aI rAbove.2)]),[],0,false,none⟩)] [] (kp [8]) [] 464 (pc c2 (pc (g_w_Above_ok N sea (w64 ((w64 (d.f_Sill+c.f_Draught))+c.f_Under)) 0 ((sea.getD ((w64 (((sea.length:Nat):Int) - 1)).toNat) TMark.d).f_Minute) rAbove hr) pn)) ?_
  refine Runs.nR hE 1 [] [] (kp [6]) [] 496 pn ?_
  obtain rfl:=Option.some.inj h
  exact Runs.nT hE 0 Try.f84 [] (kp [6]) [] 496 pn [] pn
noncomputable def C_49 (n:Nat):Code:=cat (bodyOf Try.f54) (pth n)
def g_berth_days_L1_H (N:Nat) (rpassages:(List TS__2_int)) (K:(List Int)→Int→Option ((List Int))):Prop:=∀ (out:List Int) (x:Int) (r:(List Int)),K out x=some r→∀ E,EnvOk E 0→Runs Try.prog E 54 68 (SPost E [] (encL cI 0 r)) [.code (C_49 116),.inLoop (C_49 116),.inBlock 0,.code (C_49 15)] ⟨[(7,(.os 0 0 out.length)),(15,(encL TS__2_int.cells TS__2_int.d rpassages)),(16,(aI ((rpassages.length:Nat):Int))),(17,(aI x))],[(0,aO 1 cI 0 out)],1⟩
def g_berth_days_L2_H (N:Nat) (rpassages:(List TS__2_int)) (x:Int) (K:(List Int)→Int→Option ((List Int))):Prop:=∀ (out2:List Int) (k:Int) (r:(List Int)),K out2 k=some r→∀ E,EnvOk E 0→Runs Try.prog E 54 68 (SPost E [] (encL cI 0 r)) [.code (C_49 29900),.inLoop (C_49 29900),.inBlock 2,.inBlock 1,.code (C_49 935),.inLoop (C_49 116),.inBlock 0,.code (C_49 15)] ⟨[(7,(.os 0 0 out2.length)),(9,(.op 1 0 0)),(10,(aI k)),(15,(encL TS__2_int.cells TS__2_int.d rpassages)),(16,(aI ((rpassages.length:Nat):Int))),(17,(aI x))],[(0,aO 1 cI 0 out2),(1,vO 2 (TS__2_int.cells (rpassages.getD ((x).toNat) TS__2_int.d)))],2⟩
def g_berth_days_J3_H (N:Nat) (rpassages:(List TS__2_int)) (x:Int) (k:Int) (K:(List Int)→Option ((List Int))):Prop:=∀ (out3:List Int) (r:(List Int)),K out3=some r→∀ E,EnvOk E 0→Runs Try.prog E 54 68 (SPost E [] (encL cI 0 r)) [.code (C_49 119603),.inLoop (C_49 29900),.inBlock 2,.inBlock 1,.code (C_49 935),.inLoop (C_49 116),.inBlock 0,.code (C_49 15)] ⟨[(7,(.os 0 0 out3.length)),(9,(.op 1 0 0)),(10,(aI k)),(15,(encL TS__2_int.cells TS__2_int.d rpassages)),(16,(aI ((rpassages.length:Nat):Int))),(17,(aI x))],[(0,aO 1 cI 0 out3),(1,vO 2 (TS__2_int.cells (rpassages.getD ((x).toNat) TS__2_int.d)))],2⟩
theorem g_berth_days_J3_ok (N:Nat) (rpassages:(List TS__2_int)) (x:Int) (k:Int) (K_g_berth_days_L2:(List Int)→Int→Option ((List Int))) (K_g_berth_days_L1:(List Int)→Int→Option ((List Int))) (hK_g_berth_days_L2:g_berth_days_L2_H N rpassages x K_g_berth_days_L2) (hK_g_berth_days_L1:g_berth_days_L1_H N rpassages K_g_berth_days_L1):g_berth_days_J3_H N rpassages x k (g_berth_days_J3 N rpassages x k K_g_berth_days_L2 K_g_berth_days_L1):=by
 intro out3 r h E hE
 unfold g_berth_days_J3 at h
 refine Runs.nR hE 0 [] [] (kp [7,9,10,15,16,17]) (kq [0,1]) 50 pn ?_
 exact Runs.nW hE 1 [] (kp [7,9,10,15,16,17]) (kq [0,1]) 2 pn (hK_g_berth_days_L2 _ _ _ h E hE)
theorem g_berth_days_L2_ok (N:Nat) (rpassages:(List TS__2_int)) (x:Int) (K_g_berth_days_L1:(List Int)→Int→Option ((List Int))) (hK_g_berth_days_L1:g_berth_days_L1_H N rpassages K_g_berth_days_L1) (fuel:Nat):g_berth_days_L2_H N rpassages x (g_berth_days_L2 N rpassages x K_g_berth_days_L1 fuel):=by
 induction fuel with
 | zero=>intro _ _ r h;rw [g_berth_days_L2.eq_1] at h;cases h
 | succ fuel ih =>
  intro out2 k r h E hE
  rw [g_berth_days_L2.eq_2] at h
  refine Runs.nR hE 2 [] [] (kp [7,9,10,15,16,17,28]) (kq [0,1]) 82 (pc (show 0≤(1:Int)∧(1:Int) < ((2:Nat):Int) by decide) (pc o1 pn)) ?_
  refine Runs.nC 0 28 h (fun hq3 h=>?_) (fun hq3 h=>?_)
  ·refine Runs.nR hE 4 [] [] (kp [7,9,10,11,15,16,17]) (kq [0,1]) 322 (pc (show 0≤(1:Int)∧(1:Int) < ((2:Nat):Int) by decide) (pc o1 (pc (show 0≤(0:Int)∧(0:Int) < ((2:Nat):Int) by decide) (pc o1 pn)))) ?_
   obtain ⟨c3,h⟩:=ifSome h
   refine Runs.nR hE 1 [] [] (kp [7,9,10,15,16,17,61]) (kq [0,1]) 594 (pc (fun hg:(decide ((w64 ((w64 ((if (w64 ((w64 ((w64 (k * 1440))+1440)) - 1)) < (rpassages.getD ((x).toNat) TS__2_int.d).e1 then (w64 ((w64 ((w64 (k * 1440))+1440)) - 1)) else (rpassages.getD ((x).toNat) TS__2_int.d).e1) - (if (w64 (k * 1440)) > (rpassages.getD ((x).toNat) TS__2_int.d).e0 then (w64 (k * 1440)) else (rpassages.getD ((x).toNat) TS__2_int.d).e0)))+1))≥30))=true=>(pc hg pn)) (pc (fun hg:(decide ((w64 ((w64 ((if (w64 ((w64 ((w64 (k * 1440))+1440)) - 1)) < (rpassages.getD ((x).toNat) TS__2_int.d).e1 then (w64 ((w64 ((w64 (k * 1440))+1440)) - 1)) else (rpassages.getD ((x).toNat) TS__2_int.d).e1) - (if (w64 (k * 1440)) > (rpassages.getD ((x).toNat) TS__2_int.d).e0 then (w64 (k * 1440)) else (rpassages.getD ((x).toNat) TS__2_int.d).e0)))+1))≥30))=true=>(pc hg pn)) (pc (fun hg:((decide ((w64 ((w64 ((if (w64 ((w64 ((w64 (k * 1440))+1440)) - 1)) < (rpassages.getD ((x).toNat) TS__2_int.d).e1 then (w64 ((w64 ((w64 (k * 1440))+1440)) - 1)) else (rpassages.getD ((x).toNat) TS__2_int.d).e1) - (if (w64 (k * 1440)) > (rpassages.getD ((x).toNat) TS__2_int.d).e0 then (w64 (k * 1440)) else (rpassages.getD ((x).toNat) TS__2_int.d).e0)))+1))≥30)) && ((decide ((w64 ((w64 ((if (w64 ((w64 ((w64 (k * 1440))+1440)) - 1)) < (rpassages.getD ((x).toNat) TS__2_int.d).e1 then (w64 ((w64 ((w64 (k * 1440))+1440)) - 1)) else (rpassages.getD ((x).toNat) TS__2_int.d).e1) - (if (w64 (k * 1440)) > (rpassages.getD ((x).toNat) TS__2_int.d).e0 then (w64 (k * 1440)) else (rpassages.getD ((x).toNat) TS__2_int.d).e0)))+1))≥30)) && (!(((out2.length:Nat):Int) == 0))))=true=>(pc hg pn)) (pc (fun hg:((decide ((w64 ((w64 ((if (w64 ((w64 ((w64 (k * 1440))+1440)) - 1)) < (rpassages.getD ((x).toNat) TS__2_int.d).e1 then (w64 ((w64 ((w64 (k * 1440))+1440)) - 1)) else (rpassages.getD ((x).toNat) TS__2_int.d).e1) - (if (w64 (k * 1440)) > (rpassages.getD ((x).toNat) TS__2_int.d).e0 then (w64 (k * 1440)) else (rpassages.getD ((x).toNat) TS__2_int.d).e0)))+1))≥30)) && ((decide ((w64 ((w64 ((if (w64 ((w64 ((w64 (k * 1440))+1440)) - 1)) < (rpassages.getD ((x).toNat) TS__2_int.d).e1 then (w64 ((w64 ((w64 (k * 1440))+1440)) - 1)) else (rpassages.getD ((x).toNat) TS__2_int.d).e1) - (if (w64 (k * 1440)) > (rpassages.getD ((x).toNat) TS__2_int.d).e0 then (w64 (k * 1440)) else (rpassages.getD ((x).toNat) TS__2_int.d).e0)))+1))≥30)) && (!(((out2.length:Nat):Int) == 0))))=true=>(pc hg pn)) (pc (fun hg:((decide ((w64 ((w64 ((if (w64 ((w64 ((w64 (k * 1440))+1440)) - 1)) < (rpassages.getD ((x).toNat) TS__2_int.d).e1 then (w64 ((w64 ((w64 (k * 1440))+1440)) - 1)) else (rpassages.getD ((x).toNat) TS__2_int.d).e1) - (if (w64 (k * 1440)) > (rpassages.getD ((x).toNat) TS__2_int.d).e0 then (w64 (k * 1440)) else (rpassages.getD ((x).toNat) TS__2_int.d).e0)))+1))≥30)) && ((decide ((w64 ((w64 ((if (w64 ((w64 ((w64 (k * 1440))+1440)) - 1)) < (rpassages.getD ((x).toNat) TS__2_int.d).e1 then (w64 ((w64 ((w64 (k * 1440))+1440)) - 1)) else (rpassages.getD ((x).toNat) TS__2_int.d).e1) - (if (w64 (k * 1440)) > (rpassages.getD ((x).toNat) TS__2_int.d).e0 then (w64 (k * 1440)) else (rpassages.getD ((x).toNat) TS__2_int.d).e0)))+1))≥30)) && (!(((out2.length:Nat):Int) == 0))))=true=>(pc hg (pc hg (pc (c3 hg) pn)))) (pc (fun hg:((decide ((w64 ((w64 ((if (w64 ((w64 ((w64 (k * 1440))+1440)) - 1)) < (rpassages.getD ((x).toNat) TS__2_int.d).e1 then (w64 ((w64 ((w64 (k * 1440))+1440)) - 1)) else (rpassages.getD ((x).toNat) TS__2_int.d).e1) - (if (w64 (k * 1440)) > (rpassages.getD ((x).toNat) TS__2_int.d).e0 then (w64 (k * 1440)) else (rpassages.getD ((x).toNat) TS__2_int.d).e0)))+1))≥30)) && ((decide ((w64 ((w64 ((if (w64 ((w64 ((w64 (k * 1440))+1440)) - 1)) < (rpassages.getD ((x).toNat) TS__2_int.d).e1 then (w64 ((w64 ((w64 (k * 1440))+1440)) - 1)) else (rpassages.getD ((x).toNat) TS__2_int.d).e1) - (if (w64 (k * 1440)) > (rpassages.getD ((x).toNat) TS__2_int.d).e0 then (w64 (k * 1440)) else (rpassages.getD ((x).toNat) TS__2_int.d).e0)))+1))≥30)) && (!(((out2.length:Nat):Int) == 0))))=true=>(pc hg (pc (ltOf (c3 hg)) pn))) (pc (fun hg:((decide ((w64 ((w64 ((if (w64 ((w64 ((w64 (k * 1440))+1440)) - 1)) < (rpassages.getD ((x).toNat) TS__2_int.d).e1 then (w64 ((w64 ((w64 (k * 1440))+1440)) - 1)) else (rpassages.getD ((x).toNat) TS__2_int.d).e1) - (if (w64 (k * 1440)) > (rpassages.getD ((x).toNat) TS__2_int.d).e0 then (w64 (k * 1440)) else (rpassages.getD ((x).toNat) TS__2_int.d).e0)))+1))≥30)) && ((decide ((w64 ((w64 ((if (w64 ((w64 ((w64 (k * 1440))+1440)) - 1)) < (rpassages.getD ((x).toNat) TS__2_int.d).e1 then (w64 ((w64 ((w64 (k * 1440))+1440)) - 1)) else (rpassages.getD ((x).toNat) TS__2_int.d).e1) - (if (w64 (k * 1440)) > (rpassages.getD ((x).toNat) TS__2_int.d).e0 then (w64 (k * 1440)) else (rpassages.getD ((x).toNat) TS__2_int.d).e0)))+1))≥30)) && (!(((out2.length:Nat):Int) == 0))))=true=>(pc hg (pc hg pn))) (pc (fun hg:(decide ((w64 ((w64 ((if (w64 ((w64 ((w64 (k * 1440))+1440)) - 1)) < (rpassages.getD ((x).toNat) TS__2_int.d).e1 then (w64 ((w64 ((w64 (k * 1440))+1440)) - 1)) else (rpassages.getD ((x).toNat) TS__2_int.d).e1) - (if (w64 (k * 1440)) > (rpassages.getD ((x).toNat) TS__2_int.d).e0 then (w64 (k * 1440)) else (rpassages.getD ((x).toNat) TS__2_int.d).e0)))+1))≥30))=true=>(pc hg (pc hg (pc (fun hq:(!(((out2.length:Nat):Int) == 0))=true=>(pc (show ((decide ((w64 ((w64 ((if (w64 ((w64 ((w64 (k * 1440))+1440)) - 1)) < (rpassages.getD ((x).toNat) TS__2_int.d).e1 then (w64 ((w64 ((w64 (k * 1440))+1440)) - 1)) else (rpassages.getD ((x).toNat) TS__2_int.d).e1) - (if (w64 (k * 1440)) > (rpassages.getD ((x).toNat) TS__2_int.d).e0 then (w64 (k * 1440)) else (rpassages.getD ((x).toNat) TS__2_int.d).e0)))+1))≥30)) && ((decide ((w64 ((w64 ((if (w64 ((w64 ((w64 (k * 1440))+1440)) - 1)) < (rpassages.getD ((x).toNat) TS__2_int.d).e1 then (w64 ((w64 ((w64 (k * 1440))+1440)) - 1)) else (rpassages.getD ((x).toNat) TS__2_int.d).e1) - (if (w64 (k * 1440)) > (rpassages.getD ((x).toNat) TS__2_int.d).e0 then (w64 (k * 1440)) else (rpassages.getD ((x).toNat) TS__2_int.d).e0)))+1))≥30)) && (!(((out2.length:Nat):Int) == 0))))=true from (andI' hg (andI' hg hq))) pn)) pn)))) (pc (fun hq:(decide ((w64 ((w64 ((if (w64 ((w64 ((w64 (k * 1440))+1440)) - 1)) < (rpassages.getD ((x).toNat) TS__2_int.d).e1 then (w64 ((w64 ((w64 (k * 1440))+1440)) - 1)) else (rpassages.getD ((x).toNat) TS__2_int.d).e1) - (if (w64 (k * 1440)) > (rpassages.getD ((x).toNat) TS__2_int.d).e0 then (w64 (k * 1440)) else (rpassages.getD ((x).toNat) TS__2_int.d).e0)))+1))≥30))=true=>(pc hq pn)) pn))))))))) ?_
   refine Runs.nC 0 61 h (fun hq4 h=>?_) (fun hq4 h=>?_)
   ·obtain ⟨c4,h⟩:=ifSome h
    refine Runs.nR hE 0 [] [] ([(7,.osl ((out2 ++ ([k]:List Int)).length))] ++ kp [9,10,15,16,17]) (kq [1] ++ [(642,.arr 642 ((out2 ++ ([k]:List Int)).length) (fun zi=>cI ((out2 ++ ([k]:List Int)).getD zi 0)))]) 674 (pc (Eq.refl out2.length) (pc c4 (pc (z1 1) (pc (show ∀ zi,zi < 1→AV.oneL ((fun zi=>([[(aI k)]]:List (List AV)).getD zi []) (addz 0 zi))=true from (oneN rfl)) (pc (show (out2.length+1)=(out2 ++ ([k]:List Int)).length from (len_app_raw rfl rfl)) (pc (show out2.length+1=(out2 ++ ([k]:List Int)).length from (len_app_raw rfl rfl)) (pc (show ∀ zi,zi < (out2 ++ ([k]:List Int)).length→(fun zi=>cI ((out2 ++ ([k]:List Int)).getD zi 0)) zi=((fun zm=>if zm < out2.length then (fun zi=>cI (out2.getD zi 0)) zm else (fun zi=>([[(aI k)]]:List (List AV)).getD zi []) (zm - out2.length))) zi from (get_app_raw cI 0 out2 ([k]:List Int) rfl (fun _ _=>rfl) (fun zq hzq=>get_chunk cI 0 ([k]:List Int) zq hzq))) pn))))))) ?_
    exact Runs.nW hE 1 [] (kp [7,9,10,15,16,17]) ([(0,.keep 642)] ++ kq [1]) 2 pn (g_berth_days_J3_ok N _ _ _ _ _ ih hK_g_berth_days_L1 _ _ h E hE)
   ·exact Runs.nW hE 2 [] (kp [7,9,10,15,16,17]) (kq [0,1]) 2 pn (g_berth_days_J3_ok N _ _ _ _ _ ih hK_g_berth_days_L1 _ _ h E hE)
  ·refine Runs.nR hE 2 [] [] (kp [7,15,16,17]) (kq [0]) 114 pn ?_
   exact Runs.nW hE 1 [] (kp [7,15,16,17]) (kq [0]) 1 pn (hK_g_berth_days_L1 _ _ _ h E hE)
theorem g_berth_days_L1_ok (N:Nat) (rpassages:(List TS__2_int)) (fuel:Nat):g_berth_days_L1_H N rpassages (g_berth_days_L1 N rpassages fuel):=by
 induction fuel with
 | zero=>intro _ _ r h;rw [g_berth_days_L1.eq_1] at h;cases h
 | succ fuel ih =>
  intro out x r h E hE
  rw [g_berth_days_L1.eq_2] at h
  refine Runs.nR hE 1 [] [] (kp [7,15,16,17,18]) (kq [0]) 17 pn ?_
  refine Runs.nC 1 18 h (fun hq2 h=>?_) (fun hq2 h=>?_)
  ·obtain ⟨c2,h⟩:=ifSome h
   refine Runs.nR hE 4 [] [] (kp [7,9,15,16,17]) (kq [0,49]) 81 (pc c2 (pc o1 pn)) ?_
   refine Runs.nR hE 1 [] [] (kp [7,9,10,15,16,17]) (kq [0,49]) 145 (pc (show 0≤(0:Int)∧(0:Int) < ((2:Nat):Int) by decide) (pc o1 (pc (show (1440:Int)≠0 by decide) pn))) ?_
   exact Runs.nW hE 2 [] (kp [7,9,10,15,16,17]) (kq [0] ++ [(1,.keep 49)]) 2 pn (g_berth_days_L2_ok N _ _ _ ih N _ _ _ h E hE)
  ·refine Runs.nR hE 2 [] [] (kp [6]) (kq [0]) 49 pn ?_
   obtain rfl:=Option.some.inj h
   exact Runs.nT hE 0 Try.f54 [0] [(6,.sl (out.length) (fun zi=>cI (out.getD zi 0)))] [] 49 (pc (Eq.refl out.length) (pc (z1 out.length) (pc (show ∀ zi,zi < out.length→(fun zi=>cI (out.getD zi 0)) zi=(fun zi=>cI (out.getD zi 0)) (addz 0 zi) from (fun _ _=>rfl)) pn))) [] pn
theorem g_berth_days_ok (N:Nat) (d:TDock) (c:TCall) (sea:List TMark) (r:(List Int)) (h:g_berth_days N d c sea=some r):Sound Try.prog 54 [(.agg (TDock.cells d)),(.agg (TCall.cells c)),(encL TMark.cells TMark.d sea)] [] 0 (encL cI 0 r) []:=by
 unfold g_berth_days at h
 refine Sound.of_runs (fu:=Try.f54) (c:=C_49 1) (nt:=68) (by kernel_rfl) (by kernel_rfl) (by kernel_rfl) (by kernel_rfl) (fun hm=>rfl) ?_
 intro E hE
 refine Runs.nR hE 1 [] [] (kp [2,3,4]) (kq [0,16]) 48 pn ?_
 refine Runs.nR hE 1 [] [] (kp [2,3,4,7]) (kq [0,16]) 64 pn ?_
 obtain ⟨rpassages,hr,h⟩:=bindSome h
 refine Runs.nR hE 2 [(3,⟨[],true,(encL TS__2_int.cells TS__2_int.d rpassages),[],0,false,none⟩)] [] (kp [7,15,16,17]) [] 160 (pc o1 (pc o1 (pc (g_berth_passages_ok N d c sea rpassages hr) pn))) ?_
 exact Runs.nW hE 2 [] ([(7,.nilos 0)] ++ kp [15,16,17]) [(0,.nil 1 (fun zi=>cI (([]:List Int).getD zi 0)))] 1 pn (g_berth_days_L1_ok N _ N _ _ _ h E hE)
noncomputable def C_82 (n:Nat):Code:=cat (bodyOf Try.f85) (pth n)
def g_slices_Index_int_int_L1_H (N:Nat) (s:List Int) (v:Int) (K:Int→Option (Int)):Prop:=∀ (x:Int) (r:Int),K x=some r→∀ E,EnvOk E 0→Runs Try.prog E 85 19 (SPost E [] (aI r)) [.code (C_82 52),.inLoop (C_82 52),.inBlock 0,.code (C_82 7)] ⟨[(0,(encL cI 0 s)),(1,(aI v)),(7,(aI ((s.length:Nat):Int))),(8,(aI x))],[],0⟩
theorem g_slices_Index_int_int_L1_ok (N:Nat) (s:List Int) (v:Int) (fuel:Nat):g_slices_Index_int_int_L1_H N s v (g_slices_Index_int_int_L1 N s v fuel):=by
 induction fuel with
 | zero=>intro _ r h;rw [g_slices_Index_int_int_L1.eq_1] at h;cases h
 | succ fuel ih =>
  intro x r h E hE
  rw [g_slices_Index_int_int_L1.eq_2] at h
  refine Runs.nR hE 1 [] [] (kp [0,1,7,8,9]) [] 16 pn ?_
  refine Runs.nC 1 9 h (fun hq2 h=>?_) (fun hq2 h=>?_)
  ·refine Runs.nR hE 4 [] [] (kp [0,1,5,7,8]) [] 48 pn ?_
   obtain ⟨c,h⟩:=ifSome h
   refine Runs.nR hE 1 [] [] (kp [0,1,5,7,8,16]) [] 144 (pc c pn) ?_
   refine Runs.nC 0 16 h (fun hq3 h=>?_) (fun hq3 h=>?_)
   ·refine Runs.nR hE 1 [] [] (kp [4]) [] 176 pn ?_
    obtain rfl:=Option.some.inj h
    exact Runs.nT hE 0 Try.f85 [] (kp [4]) [] 176 pn [] pn
   ·refine Runs.nR hE 2 [] [] (kp [0,1,7,8]) [] 176 pn ?_
    exact Runs.nW hE 1 [] (kp [0,1,7,8]) [] 0 pn (ih _ _ h E hE)
  ·refine Runs.nR hE 2 [] [] (kp [4]) [] 32 pn ?_
   obtain rfl:=Option.some.inj h
   exact Runs.nT hE 0 Try.f85 [] (kp [4]) [] 48 pn [] pn
theorem g_slices_Index_int_int_ok (N:Nat) (s:List Int) (v:Int) (r:Int) (h:g_slices_Index_int_int N s v=some r):Sound Try.prog 85 [(encL cI 0 s),(aI v)] [] 0 (aI r) []:=by
 unfold g_slices_Index_int_int at h
 refine Sound.of_runs (fu:=Try.f85) (c:=C_82 1) (nt:=19) (by kernel_rfl) (by kernel_rfl) (by kernel_rfl) (by kernel_rfl) (fun hm=>rfl) ?_
 intro E hE
 refine Runs.nR hE 1 [] [] (kp [0,1]) [] 16 pn ?_
 refine Runs.nR hE 2 [] [] (kp [0,1,7,8]) [] 64 pn ?_
 exact Runs.nW hE 2 [] (kp [0,1,7,8]) [] 0 pn (g_slices_Index_int_int_L1_ok N _ _ N _ _ h E hE)
noncomputable def C_81 (n:Nat):Code:=cat (bodyOf Try.f55) (pth n)
theorem g_slices_Contains_int_int_ok (N:Nat) (s:List Int) (v:Int) (r:Bool) (h:g_slices_Contains_int_int N s v=some r):Sound Try.prog 55 [(encL cI 0 s),(aI v)] [] 0 (aB r) []:=by
 unfold g_slices_Contains_int_int at h
 refine Sound.of_runs (fu:=Try.f55) (c:=C_81 1) (nt:=9) (by kernel_rfl) (by kernel_rfl) (by kernel_rfl) (by kernel_rfl) (fun hm=>rfl) ?_
 intro E hE
 refine Runs.nR hE 1 [] [] (kp [0,1]) [] 16 pn ?_
 obtain ⟨rIndex,hr,h⟩:=bindSome h
 refine Runs.nR hE 1 [(2,⟨[],true,(aI rIndex),[],0,false,none⟩)] [] (kp [4]) [] 96 (pc (g_slices_Index_int_int_ok N s v rIndex hr) pn) ?_
 obtain rfl:=Option.some.inj h
 exact Runs.nT hE 0 Try.f55 [] (kp [4]) [] 96 pn [] pn
noncomputable def C_48 (n:Nat):Code:=cat (bodyOf Try.f44) (pth n)
def g_berth_possible_L1_H (N:Nat) (y:TYard) (c:TCall) (rdays:(List Int)) (K:(List Int)→Int→Option ((List Int))):Prop:=∀ (out:List Int) (x:Int) (r:(List Int)),K out x=some r→∀ E,EnvOk E 0→Runs Try.prog E 44 53 (SPost E [] (encL cI 0 r)) [.code (C_48 500),.inLoop (C_48 500),.inBlock 0,.code (C_48 63)] ⟨[(3,(.op 0 0 0)),(4,(.op 1 0 0)),(7,(encL cI 0 rdays)),(8,(.os 2 0 out.length)),(20,(encL cI 0 rdays)),(21,(aI ((rdays.length:Nat):Int))),(22,(aI x))],[(0,vO 4 (TYard.cells y)),(1,vO 9 (TCall.cells c)),(2,aO 1 cI 0 out)],3⟩
def g_berth_possible_J2_H (N:Nat) (y:TYard) (c:TCall) (rdays:(List Int)) (x:Int) (K:(List Int)→Option ((List Int))):Prop:=∀ (out2:List Int) (r:(List Int)),K out2=some r→∀ E,EnvOk E 0→Runs Try.prog E 44 53 (SPost E [] (encL cI 0 r)) [.code (C_48 4007),.inLoop (C_48 500),.inBlock 0,.code (C_48 63)] ⟨[(3,(.op 0 0 0)),(4,(.op 1 0 0)),(7,(encL cI 0 rdays)),(8,(.os 2 0 out2.length)),(20,(encL cI 0 rdays)),(21,(aI ((rdays.length:Nat):Int))),(22,(aI x))],[(0,vO 4 (TYard.cells y)),(1,vO 9 (TCall.cells c)),(2,aO 1 cI 0 out2)],3⟩
theorem g_berth_possible_J2_ok (N:Nat) (y:TYard) (c:TCall) (rdays:(List Int)) (x:Int) (K_g_berth_possible_L1:(List Int)→Int→Option ((List Int))) (hK_g_berth_possible_L1:g_berth_possible_L1_H N y c rdays K_g_berth_possible_L1):g_berth_possible_J2_H N y c rdays x (g_berth_possible_J2 N y c rdays x K_g_berth_possible_L1):=by
 intro out2 r h E hE
 unfold g_berth_possible_J2 at h
 refine Runs.nR hE 0 [] [] (kp [3,4,7,8,20,21,22]) (kq [0,1,2]) 35 pn ?_
 exact Runs.nW hE 1 [] (kp [3,4,7,8,20,21,22]) (kq [0,1,2]) 3 pn (hK_g_berth_possible_L1 _ _ _ h E hE)
theorem g_berth_possible_L1_ok (N:Nat) (y:TYard) (c:TCall) (rdays:(List Int)) (fuel:Nat):g_berth_possible_L1_H N y c rdays (g_berth_possible_L1 N y c rdays fuel):=by
 induction fuel with
 | zero=>intro _ _ r h;rw [g_berth_possible_L1.eq_1] at h;cases h
 | succ fuel ih =>
  intro out x r h E hE
  rw [g_berth_possible_L1.eq_2] at h
  refine Runs.nR hE 1 [] [] (kp [3,4,7,8,20,21,22,23]) (kq [0,1,2]) 19 pn ?_
  refine Runs.nC 1 23 h (fun hq3 h=>?_) (fun hq3 h=>?_)
  ·obtain ⟨c2,h⟩:=ifSome h
   refine Runs.nR hE 4 [] [] (kp [3,4,7,8,10,20,21,22]) (kq [0,1,2]) 67 (pc c2 pn) ?_
   obtain ⟨rContains,hr3,h⟩:=bindSome h
   refine Runs.nR hE 1 [(19,⟨[],true,(aB rContains),[],0,false,none⟩)] [] (kp [3,4,7,8,10,20,21,22,46]) (kq [0,1,2]) 403 (pc o1 (pc (fun hg:(decide ((rdays.getD ((x).toNat) 0)≥c.f_Arrive))=true=>(pc hg (pc o1 pn))) (pc (fun hg:(decide ((rdays.getD ((x).toNat) 0)≥c.f_Arrive))=true=>(pc hg (pc hg pn))) (pc (fun hg:(decide ((rdays.getD ((x).toNat) 0)≥c.f_Arrive))=true=>(pc hg (pc o1 pn))) (pc (fun hg:(decide ((rdays.getD ((x).toNat) 0)≥c.f_Arrive))=true=>(pc hg (pc hg pn))) (pc (fun hq:(decide ((rdays.getD ((x).toNat) 0)≥c.f_Arrive))=true=>(pc hq pn)) (pc (fun hg:(cond (decide ((rdays.getD ((x).toNat) 0)≥c.f_Arrive)) (decide ((w64 ((rdays.getD ((x).toNat) 0)+c.f_Work))≤y.f_Last)) false)=true=>(pc hg (pc o1 pn))) (pc (fun hg:(cond (decide ((rdays.getD ((x).toNat) 0)≥c.f_Arrive)) (decide ((w64 ((rdays.getD ((x).toNat) 0)+c.f_Work))≤y.f_Last)) false)=true=>(pc hg (pc hg pn))) (pc (fun hg:(cond (decide ((rdays.getD ((x).toNat) 0)≥c.f_Arrive)) (decide ((w64 ((rdays.getD ((x).toNat) 0)+c.f_Work))≤y.f_Last)) false)=true=>(pc (g_slices_Contains_int_int_ok N rdays (w64 ((rdays.getD ((x).toNat) 0)+c.f_Work)) rContains (condT hr3 hg)) (pc hg (pc hg pn)))) (pc (fun hq:(cond (decide ((rdays.getD ((x).toNat) 0)≥c.f_Arrive)) (decide ((w64 ((rdays.getD ((x).toNat) 0)+c.f_Work))≤y.f_Last)) false)=true=>(pc hq pn)) pn)))))))))) ?_
   refine Runs.nC 0 46 h (fun hq4 h=>?_) (fun hq4 h=>?_)
   ·obtain ⟨c3,h⟩:=ifSome h
    refine Runs.nR hE 0 [] [] (kp [3,4,7] ++ [(8,.osl ((out ++ ([(rdays.getD ((x).toNat) 0)]:List Int)).length))] ++ kp [20,21,22]) (kq [0,1] ++ [(451,.arr 451 ((out ++ ([(rdays.getD ((x).toNat) 0)]:List Int)).length) (fun zi=>cI ((out ++ ([(rdays.getD ((x).toNat) 0)]:List Int)).getD zi 0)))]) 483 (pc (Eq.refl out.length) (pc c3 (pc (z1 1) (pc (show ∀ zi,zi < 1→AV.oneL ((fun zi=>([[(aI (rdays.getD ((x).toNat) 0))]]:List (List AV)).getD zi []) (addz 0 zi))=true from (oneN rfl)) (pc (show (out.length+1)=(out ++ ([(rdays.getD ((x).toNat) 0)]:List Int)).length from (len_app_raw rfl rfl)) (pc (show out.length+1=(out ++ ([(rdays.getD ((x).toNat) 0)]:List Int)).length from (len_app_raw rfl rfl)) (pc (show ∀ zi,zi < (out ++ ([(rdays.getD ((x).toNat) 0)]:List Int)).length→(fun zi=>cI ((out ++ ([(rdays.getD ((x).toNat) 0)]:List Int)).getD zi 0)) zi=((fun zm=>if zm < out.length then (fun zi=>cI (out.getD zi 0)) zm else (fun zi=>([[(aI (rdays.getD ((x).toNat) 0))]]:List (List AV)).getD zi []) (zm - out.length))) zi from (get_app_raw cI 0 out ([(rdays.getD ((x).toNat) 0)]:List Int) rfl (fun _ _=>rfl) (fun zq hzq=>get_chunk cI 0 ([(rdays.getD ((x).toNat) 0)]:List Int) zq hzq))) pn))))))) ?_
    exact Runs.nW hE 1 [] (kp [3,4,7,8,20,21,22]) (kq [0,1] ++ [(2,.keep 451)]) 3 pn (g_berth_possible_J2_ok N _ _ _ _ _ ih _ _ h E hE)
   ·exact Runs.nW hE 2 [] (kp [3,4,7,8,20,21,22]) (kq [0,1,2]) 3 pn (g_berth_possible_J2_ok N _ _ _ _ _ ih _ _ h E hE)
  ·refine Runs.nR hE 2 [] [] (kp [6]) (kq [2]) 51 pn ?_
   obtain rfl:=Option.some.inj h
   exact Runs.nT hE 0 Try.f44 [2] [(6,.sl (out.length) (fun zi=>cI (out.getD zi 0)))] [] 51 (pc (Eq.refl out.length) (pc (z1 out.length) (pc (show ∀ zi,zi < out.length→(fun zi=>cI (out.getD zi 0)) zi=(fun zi=>cI (out.getD zi 0)) (addz 0 zi) from (fun _ _=>rfl)) pn))) [] pn
theorem g_berth_possible_ok (N:Nat) (y:TYard) (c:TCall) (d:TDock) (r:(List Int)) (h:g_berth_possible N y c d=some r):Sound Try.prog 44 [(.agg (TYard.cells y)),(.agg (TCall.cells c)),(.agg (TDock.cells d))] [] 0 (encL cI 0 r) []:=by
 unfold g_berth_possible at h
 refine Sound.of_runs (fu:=Try.f44) (c:=C_48 1) (nt:=53) (by kernel_rfl) (by kernel_rfl) (by kernel_rfl) (by kernel_rfl) (fun hm=>rfl) ?_
 intro E hE
 refine Runs.nR hE 1 [] [] (kp [3,4,5]) (kq [0,16,32]) 64 pn ?_
 obtain ⟨rfits,hr,h⟩:=bindSome h
 refine Runs.nR hE 2 [(2,⟨[],true,(aB rfits),[],0,false,none⟩)] [] (kp [3,4,5,14]) (kq [0,16,32]) 128 (pc o1 (pc o1 (pc (g_berth_fits_ok N d c rfits hr) pn))) ?_
 refine Runs.nC 0 14 h (fun hq2 h=>?_) (fun hq2 h=>?_)
 ·refine Runs.nR hE 1 [] [] (kp [6]) [] 144 pn ?_
  obtain rfl:=Option.some.inj h
  exact Runs.nT hE 0 Try.f44 [] [(6,.sl (([]:List Int).length) (fun zi=>cI (([]:List Int).getD zi 0)))] [] 144 (pc (Eq.refl 0) pn) [] pn
 ·obtain ⟨rdays,hr2,h⟩:=bindSome h
  refine Runs.nR hE 2 [(4,⟨[],true,(encL cI 0 rdays),[],0,false,none⟩)] [] (kp [3,4,7]) (kq [0,16]) 224 (pc o1 (pc o1 (pc o1 (pc (g_berth_days_ok N d c y.f_Sea rdays hr2) pn)))) ?_
  refine Runs.nR hE 1 [] [] (kp [3,4,7,8]) (kq [0,16]) 240 pn ?_
  refine Runs.nR hE 2 [] [] (kp [3,4,7,8,20,21,22]) (kq [0,16]) 288 pn ?_
  exact Runs.nW hE 2 [] (kp [3,4,7] ++ [(8,.nilos 2)] ++ kp [20,21,22]) (kq [0] ++ [(1,.keep 16),(2,.nil 1 (fun zi=>cI (([]:List Int).getD zi 0)))]) 3 pn (g_berth_possible_L1_ok N _ _ _ N _ _ _ h E hE)
noncomputable def C_83 (n:Nat):Code:=cat (bodyOf Try.f45) (pth n)
theorem g_berth_late_ok (N:Nat) (c:TCall) (day:Int) (r:Int) (h:g_berth_late N c day=some r):Sound Try.prog 45 [(.agg (TCall.cells c)),(aI day)] [] 0 (aI r) []:=by
 unfold g_berth_late at h
 refine Sound.of_runs (fu:=Try.f45) (c:=C_83 1) (nt:=16) (by kernel_rfl) (by kernel_rfl) (by kernel_rfl) (by kernel_rfl) (fun hm=>rfl) ?_
 intro E hE
 refine Runs.nR hE 1 [] [] (kp [1,2]) (kq [0]) 32 pn ?_
 refine Runs.nR hE 1 [] [] (kp [4]) [] 224 (pc o1 (pc o1 (pc o1 pn))) ?_
 obtain rfl:=Option.some.inj h
 exact Runs.nT hE 0 Try.f45 [] (kp [4]) [] 224 pn [] pn
noncomputable def C_85 (n:Nat):Code:=cat (bodyOf Try.f77) (pth n)
theorem g_slices_Clone_api_Stay_api_Stay_ok (N:Nat) (s:List TStay) (r:(List TStay)) (h:g_slices_Clone_api_Stay_api_Stay N s=some r):Sound Try.prog 77 [(encL TStay.cells TStay.d s)] [] 0 (.os 0 0 r.length) [(0,aO 3 TStay.cells TStay.d r)]:=by
 unfold g_slices_Clone_api_Stay_api_Stay at h
 refine Sound.of_runs (fu:=Try.f77) (c:=C_85 1) (nt:=8) (by kernel_rfl) (by kernel_rfl) (by kernel_rfl) (by kernel_rfl) (fun hm=>rfl) ?_
 intro E hE
 refine Runs.nR hE 1 [] [] (kp [0]) [] 16 pn ?_
 refine Runs.nR hE 2 [] [] (kp [0,4]) [] 48 pn ?_
 refine Runs.sA 0 [.code (C_85 13),.code (C_85 7)] ?_
 refine Runs.condBn (o:=.tmp 4) (x:=C_85 26) (y:=C_85 27) (n:=s.length) (by kernel_rfl) (by kernel_rfl) (fun hq2=>?_) ?_
 ·replace hq2:=List.length_eq_zero_iff.1 hq2
  replace h:(some ([]:List TStay))=some r:=by rw [hq2] at h;simpa using h
  refine Runs.nR hE 1 [] [] (kp [2]) [] 64 pn ?_
  obtain rfl:=Option.some.inj h
  exact Runs.nT hE 0 Try.f77 [] [(2,.nilos 0)] [(0,.nil 3 (fun zi=>TStay.cells (([]:List TStay).getD zi TStay.d)))] 64 pn [] pn
 ·obtain ⟨c,h⟩:=ifSome h
  refine Runs.nR hE 2 [] [] [(2,.osl ((([]:List TStay) ++ s).length))] [(80,.arr 80 ((([]:List TStay) ++ s).length) (fun zi=>TStay.cells ((([]:List TStay) ++ s).getD zi TStay.d)))] 112 (pc (Eq.refl 0) (pc c (pc (show ∀ zi,zi < s.length→AV.oneL ((fun zi=>TStay.cells (s.getD zi TStay.d)) zi)=true from (fun _ _=>rfl)) (pc (show (0+s.length)=(([]:List TStay) ++ s).length from (len_app_raw rfl rfl)) (pc (show 0+s.length=(([]:List TStay) ++ s).length from (len_app_raw rfl rfl)) (pc (show ∀ zi,zi < (([]:List TStay) ++ s).length→(fun zi=>TStay.cells ((([]:List TStay) ++ s).getD zi TStay.d)) zi=((fun zm=>if zm < 0 then (fun _=>[]) zm else (fun zi=>TStay.cells (s.getD zi TStay.d)) (zm - 0))) zi from (get_app_raw TStay.cells TStay.d ([]:List TStay) s rfl (fun zq hzq=>absurd hzq (Nat.not_lt_zero _)) (fun _ _=>rfl))) pn)))))) ?_
  obtain rfl:=Option.some.inj h
  exact Runs.nT hE 0 Try.f77 [] (kp [2]) [(0,.keep 80)] 112 pn [] pn
noncomputable def C_92 (n:Nat):Code:=cat (bodyOf Try.f82) (pth n)
theorem g_berth_called_1_ok (N:Nat) (x:TCall) (cap0:ByteArray) (r:Bool) (h:g_berth_called_1 N x cap0=some r):Sound Try.prog 82 [(.agg (TCall.cells x)),(.op 0 0 0)] [(0,vO 1 [(aS cap0)])] 1 (aB r) [(0,vO 1 [(aS cap0)])]:=by
 unfold g_berth_called_1 at h
 refine Sound.of_runs (fu:=Try.f82) (c:=C_92 1) (nt:=8) (by kernel_rfl) (by kernel_rfl) (by kernel_rfl) (by kernel_rfl) (fun hm=>absurd hm (by decide)) ?_
 intro E hE
 refine Runs.nR hE 1 [] [] (kp [1,2]) (kq [0,1]) 33 pn ?_
 refine Runs.nR hE 1 [] [] (kp [3]) (kq [0]) 113 (pc o1 (pc o1 pn)) ?_
 obtain rfl:=Option.some.inj h
 exact Runs.nT hE 0 Try.f82 [] (kp [3]) (kq [0]) 113 pn [] pn
noncomputable def C_91 (n:Nat):Code:=cat (bodyOf Try.f81) (pth n)
def g_slices_IndexFunc_api_Call_api_Call_v2_L1_H (N:Nat) (s:List TCall) (cap0:ByteArray) (K:Int→Option (Int)):Prop:=∀ (x:Int) (r:Int),K x=some r→∀ E,EnvOk E 1→Runs Try.prog E 81 19 (SPost E [(0,vO 1 [(aS cap0)])] (aI r)) [.code (C_91 52),.inLoop (C_91 52),.inBlock 0,.code (C_91 7)] ⟨[(0,(encL TCall.cells TCall.d s)),(1,(.fn (.func 82) [] [(.op 0 0 0)])),(7,(aI ((s.length:Nat):Int))),(8,(aI x))],[(0,vO 1 [(aS cap0)])],1⟩
theorem g_slices_IndexFunc_api_Call_api_Call_v2_L1_ok (N:Nat) (s:List TCall) (cap0:ByteArray) (fuel:Nat):g_slices_IndexFunc_api_Call_api_Call_v2_L1_H N s cap0 (g_slices_IndexFunc_api_Call_api_Call_v2_L1 N s cap0 fuel):=by
 induction fuel with
 | zero=>intro _ r h;rw [g_slices_IndexFunc_api_Call_api_Call_v2_L1.eq_1] at h;cases h
 | succ fuel ih =>
  intro x r h E hE
  rw [g_slices_IndexFunc_api_Call_api_Call_v2_L1.eq_2] at h
  refine Runs.nR hE 1 [] [] (kp [0,1,7,8,9]) (kq [0]) 17 pn ?_
  refine Runs.nC 1 9 h (fun hq2 h=>?_) (fun hq2 h=>?_)
  ·refine Runs.nR hE 4 [] [] (kp [0,1,5,7,8]) (kq [0]) 49 pn ?_
   obtain ⟨c,h⟩:=ifSome h
   obtain ⟨rcalled1,hr,h⟩:=bindSome h
   refine Runs.nR hE 1 [(5,⟨[0],true,(aB rcalled1),[],0,false,none⟩)] [] (kp [0,1,5,7,8,16]) (kq [0]) 145 (pc c (pc (g_berth_called_1_ok N (s.getD ((x).toNat) TCall.d) cap0 rcalled1 hr) pn)) ?_
   refine Runs.nC 0 16 h (fun hq3 h=>?_) (fun hq3 h=>?_)
   ·refine Runs.nR hE 1 [] [] (kp [4]) (kq [0]) 177 pn ?_
    obtain rfl:=Option.some.inj h
    exact Runs.nT hE 0 Try.f81 [] (kp [4]) (kq [0]) 177 pn [] pn
   ·refine Runs.nR hE 2 [] [] (kp [0,1,7,8]) (kq [0]) 177 pn ?_
    exact Runs.nW hE 1 [] (kp [0,1,7,8]) (kq [0]) 1 pn (ih _ _ h E hE)
  ·refine Runs.nR hE 2 [] [] (kp [4]) (kq [0]) 33 pn ?_
   obtain rfl:=Option.some.inj h
   exact Runs.nT hE 0 Try.f81 [] (kp [4]) (kq [0]) 49 pn [] pn
theorem g_slices_IndexFunc_api_Call_api_Call_v2_ok (N:Nat) (s:List TCall) (cap0:ByteArray) (r:Int) (h:g_slices_IndexFunc_api_Call_api_Call_v2 N s cap0=some r):Sound Try.prog 81 [(encL TCall.cells TCall.d s),(.fn (.func 82) [] [(.op 0 0 0)])] [(0,vO 1 [(aS cap0)])] 1 (aI r) [(0,vO 1 [(aS cap0)])]:=by
 unfold g_slices_IndexFunc_api_Call_api_Call_v2 at h
 refine Sound.of_runs (fu:=Try.f81) (c:=C_91 1) (nt:=19) (by kernel_rfl) (by kernel_rfl) (by kernel_rfl) (by kernel_rfl) (fun hm=>absurd hm (by decide)) ?_
 intro E hE
 refine Runs.nR hE 1 [] [] (kp [0,1]) (kq [0]) 17 pn ?_
 refine Runs.nR hE 2 [] [] (kp [0,1,7,8]) (kq [0]) 65 pn ?_
 exact Runs.nW hE 2 [] (kp [0,1,7,8]) (kq [0]) 1 pn (g_slices_IndexFunc_api_Call_api_Call_v2_L1_ok N _ _ N _ _ h E hE)
noncomputable def C_90 (n:Nat):Code:=cat (bodyOf Try.f48) (pth n)
theorem g_berth_called_ok (N:Nat) (c:List TCall) (name:ByteArray) (r:Int) (h:g_berth_called N c name=some r):Sound Try.prog 48 [(encL TCall.cells TCall.d c),(aS name)] [] 0 (aI r) []:=by
 unfold g_berth_called at h
 refine Sound.of_runs (fu:=Try.f48) (c:=C_90 1) (nt:=8) (by kernel_rfl) (by kernel_rfl) (by kernel_rfl) (by kernel_rfl) (fun hm=>rfl) ?_
 intro E hE
 refine Runs.nR hE 1 [] [] (kp [0,3]) (kq [0]) 32 pn ?_
 obtain ⟨rCall,hr,h⟩:=bindSome h
 refine Runs.nR hE 1 [(2,⟨[0],true,(aI rCall),[],0,false,none⟩)] [] (kp [4]) [] 96 (pc (g_slices_IndexFunc_api_Call_api_Call_v2_ok N c name rCall hr) pn) ?_
 obtain rfl:=Option.some.inj h
 exact Runs.nT hE 0 Try.f48 [] (kp [4]) [] 96 pn [] pn
noncomputable def C_89 (n:Nat):Code:=cat (bodyOf Try.f56) (pth n)
theorem g_berth_overlap_ok (N:Nat) (y:TYard) (a:TStay) (b:TStay) (r:Bool) (h:g_berth_overlap N y a b=some r):Sound Try.prog 56 [(.agg (TYard.cells y)),(.agg (TStay.cells a)),(.agg (TStay.cells b))] [] 0 (aB r) []:=by
 unfold g_berth_overlap at h
 refine Sound.of_runs (fu:=Try.f56) (c:=C_89 1) (nt:=48) (by kernel_rfl) (by kernel_rfl) (by kernel_rfl) (by kernel_rfl) (fun hm=>rfl) ?_
 intro E hE
 refine Runs.nR hE 1 [] [] (kp [3,4,5]) (kq [0,16,32]) 64 pn ?_
 obtain ⟨rcalled,hr,h⟩:=bindSome h
 obtain ⟨c,h⟩:=ifSome h
 obtain ⟨rcalled2,hr2,h⟩:=bindSome h
 obtain ⟨c2,h⟩:=ifSome h
 refine Runs.nR hE 1 [(16,⟨[],true,(aI rcalled),[],0,false,none⟩),(34,⟨[],true,(aI rcalled2),[],0,false,none⟩)] [] (kp [6]) [] 736 (pc o1 (pc o1 (pc (fun hg:(streq a.f_Dock b.f_Dock)=true=>(pc hg (pc o1 pn))) (pc (fun hg:(streq a.f_Dock b.f_Dock)=true=>(pc hg (pc o1 pn))) (pc (fun hg:(streq a.f_Dock b.f_Dock)=true=>(pc hg (pc o1 pn))) (pc (fun hg:(streq a.f_Dock b.f_Dock)=true=>(pc hg (pc o1 pn))) (pc (fun hg:(streq a.f_Dock b.f_Dock)=true=>(pc hg (pc o1 pn))) (pc (fun hg:(streq a.f_Dock b.f_Dock)=true=>(pc (g_berth_called_ok N y.f_Calls b.f_Call rcalled (condT hr hg)) (pc hg (pc hg pn)))) (pc (fun hg:(streq a.f_Dock b.f_Dock)=true=>(pc hg (pc hg (pc (c hg) pn)))) (pc (fun hg:(streq a.f_Dock b.f_Dock)=true=>(pc hg pn)) (pc (fun hg:(streq a.f_Dock b.f_Dock)=true=>(pc hg pn)) (pc (fun hg:(streq a.f_Dock b.f_Dock)=true=>(pc hg (pc hg pn))) (pc (fun hg:(streq a.f_Dock b.f_Dock)=true=>(pc hg (pc hg pn))) (pc (fun hq:(streq a.f_Dock b.f_Dock)=true=>(pc hq pn)) (pc (fun hg:(cond (streq a.f_Dock b.f_Dock) (decide (a.f_Day < (w64 (b.f_Day+(y.f_Calls.getD ((rcalled).toNat) TCall.d).f_Work)))) false)=true=>(pc hg (pc o1 pn))) (pc (fun hg:(cond (streq a.f_Dock b.f_Dock) (decide (a.f_Day < (w64 (b.f_Day+(y.f_Calls.getD ((rcalled).toNat) TCall.d).f_Work)))) false)=true=>(pc hg (pc o1 pn))) (pc (fun hg:(cond (streq a.f_Dock b.f_Dock) (decide (a.f_Day < (w64 (b.f_Day+(y.f_Calls.getD ((rcalled).toNat) TCall.d).f_Work)))) false)=true=>(pc hg (pc o1 pn))) (pc (fun hg:(cond (streq a.f_Dock b.f_Dock) (decide (a.f_Day < (w64 (b.f_Day+(y.f_Calls.getD ((rcalled).toNat) TCall.d).f_Work)))) false)=true=>(pc hg (pc o1 pn))) (pc (fun hg:(cond (streq a.f_Dock b.f_Dock) (decide (a.f_Day < (w64 (b.f_Day+(y.f_Calls.getD ((rcalled).toNat) TCall.d).f_Work)))) false)=true=>(pc hg (pc o1 pn))) (pc (fun hg:(cond (streq a.f_Dock b.f_Dock) (decide (a.f_Day < (w64 (b.f_Day+(y.f_Calls.getD ((rcalled).toNat) TCall.d).f_Work)))) false)=true=>(pc (g_berth_called_ok N y.f_Calls a.f_Call rcalled2 (condT hr2 hg)) (pc hg (pc hg pn)))) (pc (fun hg:(cond (streq a.f_Dock b.f_Dock) (decide (a.f_Day < (w64 (b.f_Day+(y.f_Calls.getD ((rcalled).toNat) TCall.d).f_Work)))) false)=true=>(pc hg (pc hg (pc (c2 hg) pn)))) (pc (fun hg:(cond (streq a.f_Dock b.f_Dock) (decide (a.f_Day < (w64 (b.f_Day+(y.f_Calls.getD ((rcalled).toNat) TCall.d).f_Work)))) false)=true=>(pc hg pn)) (pc (fun hg:(cond (streq a.f_Dock b.f_Dock) (decide (a.f_Day < (w64 (b.f_Day+(y.f_Calls.getD ((rcalled).toNat) TCall.d).f_Work)))) false)=true=>(pc hg pn)) (pc (fun hg:(cond (streq a.f_Dock b.f_Dock) (decide (a.f_Day < (w64 (b.f_Day+(y.f_Calls.getD ((rcalled).toNat) TCall.d).f_Work)))) false)=true=>(pc hg (pc hg pn))) (pc (fun hg:(cond (streq a.f_Dock b.f_Dock) (decide (a.f_Day < (w64 (b.f_Day+(y.f_Calls.getD ((rcalled).toNat) TCall.d).f_Work)))) false)=true=>(pc hg (pc hg pn))) (pc (fun hq:(cond (streq a.f_Dock b.f_Dock) (decide (a.f_Day < (w64 (b.f_Day+(y.f_Calls.getD ((rcalled).toNat) TCall.d).f_Work)))) false)=true=>(pc hq pn)) pn)))))))))))))))))))))))))) ?_
 obtain rfl:=Option.some.inj h
 exact Runs.nT hE 0 Try.f56 [] (kp [6]) [] 736 pn [] pn
noncomputable def C_88 (n:Nat):Code:=cat (bodyOf Try.f78) (pth n)
theorem g_berth_search_walk_1_ok (N:Nat) (z:TStay) (cap1:List TDock) (cap12:List TCall) (cap13:List TMark) (cap14:Int) (cap1f:Bool) (cap15:Int) (cap2:List (List (List Int))) (cap3:List Int) (cap4:List TStay) (cap5:List TStay) (cap6:TStay) (r:Bool) (h:g_berth_search_walk_1 N z cap1 cap12 cap13 cap14 cap1f cap15 cap2 cap3 cap4 cap5 cap6=some r):Sound Try.prog 78 [(.agg (TStay.cells z)),(.op 0 0 0),(.op 6 0 0)] [(0,vN 1 [(.op 1 0 0)]),(1,vN 9 [(encL TDock.cells TDock.d cap1),(encL TCall.cells TCall.d cap12),(encL TMark.cells TMark.d cap13),(aI cap14),(.os 2 0 cap2.length),(.os 3 0 cap3.length),(.os 4 0 cap4.length),(.nq (nqF cap1f) (.os 5 0 cap5.length)),(aI cap15)]),(2,aO 1 (fun x=>[encL (fun x=>[encL cI 0 x]) [] x]) [] cap2),(3,aO 1 cI 0 cap3),(4,aO 3 TStay.cells TStay.d cap4),(5,aO 3 TStay.cells TStay.d cap5),(6,vO 3 (TStay.cells cap6))] 7 (aB r) [(0,vN 1 [(.op 1 0 0)]),(1,vN 9 [(encL TDock.cells TDock.d cap1),(encL TCall.cells TCall.d cap12),(encL TMark.cells TMark.d cap13),(aI cap14),(.os 2 0 cap2.length),(.os 3 0 cap3.length),(.os 4 0 cap4.length),(.nq (nqF cap1f) (.os 5 0 cap5.length)),(aI cap15)]),(2,aO 1 (fun x=>[encL (fun x=>[encL cI 0 x]) [] x]) [] cap2),(3,aO 1 cI 0 cap3),(4,aO 3 TStay.cells TStay.d cap4),(5,aO 3 TStay.cells TStay.d cap5),(6,vO 3 (TStay.cells cap6))]:=by
 unfold g_berth_search_walk_1 at h
 refine Sound.of_runs (fu:=Try.f78) (c:=C_88 1) (nt:=12) (by kernel_rfl) (by kernel_rfl) (by kernel_rfl) (by kernel_rfl) (fun hm=>absurd hm (by decide)) ?_
 intro E hE
 refine Runs.nR hE 1 [] [] (kp [1,2,3]) (kq [0,1,2,3,4,5,6,7]) 39 pn ?_
 obtain ⟨roverlap,hr,h⟩:=bindSome h
 refine Runs.nR hE 1 [(6,⟨[],true,(aB roverlap),[],0,false,none⟩)] [] (kp [4]) (kq [0,1,2,3,4,5,6]) 167 (pc o1 (pc o1 (pc o1 (pc o1 (pc (g_berth_overlap_ok N (⟨cap1,cap12,cap13,cap14⟩:TYard) cap6 z roverlap hr) pn))))) ?_
 obtain rfl:=Option.some.inj h
 exact Runs.nT hE 0 Try.f78 [] (kp [4]) (kq [0,1,2,3,4,5,6]) 167 pn [] pn
noncomputable def C_87 (n:Nat):Code:=cat (bodyOf Try.f83) (pth n)
def g_slices_IndexFunc_api_Stay_api_Stay_L1_H (N:Nat) (cap1:List TDock) (cap12:List TCall) (cap13:List TMark) (cap14:Int) (cap1f:Bool) (cap15:Int) (cap2:List (List (List Int))) (cap3:List Int) (cap4:List TStay) (cap5:List TStay) (cap6:TStay) (K:Int→Option (Int)):Prop:=∀ (x:Int) (r:Int),K x=some r→∀ E,EnvOk E 7→Runs Try.prog E 83 19 (SPost E [(0,vN 1 [(.op 1 0 0)]),(1,vN 9 [(encL TDock.cells TDock.d cap1),(encL TCall.cells TCall.d cap12),(encL TMark.cells TMark.d cap13),(aI cap14),(.os 2 0 cap2.length),(.os 3 0 cap3.length),(.os 4 0 cap4.length),(.nq (nqF cap1f) (.os 5 0 cap5.length)),(aI cap15)]),(2,aO 1 (fun x=>[encL (fun x=>[encL cI 0 x]) [] x]) [] cap2),(3,aO 1 cI 0 cap3),(4,aO 3 TStay.cells TStay.d cap4),(5,aO 3 TStay.cells TStay.d cap5),(6,vO 3 (TStay.cells cap6))] (aI r)) [.code (C_87 52),.inLoop (C_87 52),.inBlock 0,.code (C_87 7)] ⟨[(0,(.os 4 0 cap4.length)),(1,(.fn (.func 78) [] [(.op 0 0 0),(.op 6 0 0)])),(7,(aI ((cap4.length:Nat):Int))),(8,(aI x))],[(0,vN 1 [(.op 1 0 0)]),(1,vN 9 [(encL TDock.cells TDock.d cap1),(encL TCall.cells TCall.d cap12),(encL TMark.cells TMark.d cap13),(aI cap14),(.os 2 0 cap2.length),(.os 3 0 cap3.length),(.os 4 0 cap4.length),(.nq (nqF cap1f) (.os 5 0 cap5.length)),(aI cap15)]),(2,aO 1 (fun x=>[encL (fun x=>[encL cI 0 x]) [] x]) [] cap2),(3,aO 1 cI 0 cap3),(4,aO 3 TStay.cells TStay.d cap4),(5,aO 3 TStay.cells TStay.d cap5),(6,vO 3 (TStay.cells cap6))],7⟩
theorem g_slices_IndexFunc_api_Stay_api_Stay_L1_ok (N:Nat) (cap1:List TDock) (cap12:List TCall) (cap13:List TMark) (cap14:Int) (cap1f:Bool) (cap15:Int) (cap2:List (List (List Int))) (cap3:List Int) (cap4:List TStay) (cap5:List TStay) (cap6:TStay) (fuel:Nat):g_slices_IndexFunc_api_Stay_api_Stay_L1_H N cap1 cap12 cap13 cap14 cap1f cap15 cap2 cap3 cap4 cap5 cap6 (g_slices_IndexFunc_api_Stay_api_Stay_L1 N cap1 cap12 cap13 cap14 cap1f cap15 cap2 cap3 cap4 cap5 cap6 fuel):=by
 induction fuel with
 | zero=>intro _ r h;rw [g_slices_IndexFunc_api_Stay_api_Stay_L1.eq_1] at h;cases h
 | succ fuel ih =>
  intro x r h E hE
  rw [g_slices_IndexFunc_api_Stay_api_Stay_L1.eq_2] at h
  refine Runs.nR hE 1 [] [] (kp [0,1,7,8,9]) (kq [0,1,2,3,4,5,6]) 23 pn ?_
  refine Runs.nC 1 9 h (fun hq2 h=>?_) (fun hq2 h=>?_)
  ·refine Runs.nR hE 4 [] [] (kp [0,1,5,7,8]) (kq [0,1,2,3,4,5,6]) 55 pn ?_
   obtain ⟨c,h⟩:=ifSome h
   obtain ⟨rwalk1,hr,h⟩:=bindSome h
   refine Runs.nR hE 1 [(5,⟨[0,1,2,3,4,5,6],true,(aB rwalk1),[],0,false,none⟩)] [] (kp [0,1,5,7,8,16]) (kq [0,1,2,3,4,5,6]) 151 (pc c (pc (ltOf c) (pc (g_berth_search_walk_1_ok N (cap4.getD ((x).toNat) TStay.d) cap1 cap12 cap13 cap14 cap1f cap15 cap2 cap3 cap4 cap5 cap6 rwalk1 hr) pn))) ?_
   refine Runs.nC 0 16 h (fun hq3 h=>?_) (fun hq3 h=>?_)
   ·refine Runs.nR hE 1 [] [] (kp [4]) (kq [0,1,2,3,4,5,6]) 183 pn ?_
    obtain rfl:=Option.some.inj h
    exact Runs.nT hE 0 Try.f83 [] (kp [4]) (kq [0,1,2,3,4,5,6]) 183 pn [] pn
   ·refine Runs.nR hE 2 [] [] (kp [0,1,7,8]) (kq [0,1,2,3,4,5,6]) 183 pn ?_
    exact Runs.nW hE 1 [] (kp [0,1,7,8]) (kq [0,1,2,3,4,5,6]) 7 pn (ih _ _ h E hE)
  ·refine Runs.nR hE 2 [] [] (kp [4]) (kq [0,1,2,3,4,5,6]) 39 pn ?_
   obtain rfl:=Option.some.inj h
   exact Runs.nT hE 0 Try.f83 [] (kp [4]) (kq [0,1,2,3,4,5,6]) 55 pn [] pn
theorem g_slices_IndexFunc_api_Stay_api_Stay_ok (N:Nat) (cap1:List TDock) (cap12:List TCall) (cap13:List TMark) (cap14:Int) (cap1f:Bool) (cap15:Int) (cap2:List (List (List Int))) (cap3:List Int) (cap4:List TStay) (cap5:List TStay) (cap6:TStay) (r:Int) (h:g_slices_IndexFunc_api_Stay_api_Stay N cap1 cap12 cap13 cap14 cap1f cap15 cap2 cap3 cap4 cap5 cap6=some r):Sound Try.prog 83 [(.os 4 0 cap4.length),(.fn (.func 78) [] [(.op 0 0 0),(.op 6 0 0)])] [(0,vN 1 [(.op 1 0 0)]),(1,vN 9 [(encL TDock.cells TDock.d cap1),(encL TCall.cells TCall.d cap12),(encL TMark.cells TMark.d cap13),(aI cap14),(.os 2 0 cap2.length),(.os 3 0 cap3.length),(.os 4 0 cap4.length),(.nq (nqF cap1f) (.os 5 0 cap5.length)),(aI cap15)]),(2,aO 1 (fun x=>[encL (fun x=>[encL cI 0 x]) [] x]) [] cap2),(3,aO 1 cI 0 cap3),(4,aO 3 TStay.cells TStay.d cap4),(5,aO 3 TStay.cells TStay.d cap5),(6,vO 3 (TStay.cells cap6))] 7 (aI r) [(0,vN 1 [(.op 1 0 0)]),(1,vN 9 [(encL TDock.cells TDock.d cap1),(encL TCall.cells TCall.d cap12),(encL TMark.cells TMark.d cap13),(aI cap14),(.os 2 0 cap2.length),(.os 3 0 cap3.length),(.os 4 0 cap4.length),(.nq (nqF cap1f) (.os 5 0 cap5.length)),(aI cap15)]),(2,aO 1 (fun x=>[encL (fun x=>[encL cI 0 x]) [] x]) [] cap2),(3,aO 1 cI 0 cap3),(4,aO 3 TStay.cells TStay.d cap4),(5,aO 3 TStay.cells TStay.d cap5),(6,vO 3 (TStay.cells cap6))]:=by
 unfold g_slices_IndexFunc_api_Stay_api_Stay at h
 refine Sound.of_runs (fu:=Try.f83) (c:=C_87 1) (nt:=19) (by kernel_rfl) (by kernel_rfl) (by kernel_rfl) (by kernel_rfl) (fun hm=>absurd hm (by decide)) ?_
 intro E hE
 refine Runs.nR hE 1 [] [] (kp [0,1]) (kq [0,1,2,3,4,5,6]) 23 pn ?_
 refine Runs.nR hE 2 [] [] (kp [0,1,7,8]) (kq [0,1,2,3,4,5,6]) 71 pn ?_
 exact Runs.nW hE 2 [] (kp [0,1,7,8]) (kq [0,1,2,3,4,5,6]) 7 pn (g_slices_IndexFunc_api_Stay_api_Stay_L1_ok N _ _ _ _ _ _ _ _ _ _ _ N _ _ h E hE)
noncomputable def C_86 (n:Nat):Code:=cat (bodyOf Try.f51) (pth n)
theorem g_slices_ContainsFunc_api_Stay_api_Stay_ok (N:Nat) (cap1:List TDock) (cap12:List TCall) (cap13:List TMark) (cap14:Int) (cap1f:Bool) (cap15:Int) (cap2:List (List (List Int))) (cap3:List Int) (cap4:List TStay) (cap5:List TStay) (cap6:TStay) (r:Bool) (h:g_slices_ContainsFunc_api_Stay_api_Stay N cap1 cap12 cap13 cap14 cap1f cap15 cap2 cap3 cap4 cap5 cap6=some r):Sound Try.prog 51 [(.os 4 0 cap4.length),(.fn (.func 78) [] [(.op 0 0 0),(.op 6 0 0)])] [(0,vN 1 [(.op 1 0 0)]),(1,vN 9 [(encL TDock.cells TDock.d cap1),(encL TCall.cells TCall.d cap12),(encL TMark.cells TMark.d cap13),(aI cap14),(.os 2 0 cap2.length),(.os 3 0 cap3.length),(.os 4 0 cap4.length),(.nq (nqF cap1f) (.os 5 0 cap5.length)),(aI cap15)]),(2,aO 1 (fun x=>[encL (fun x=>[encL cI 0 x]) [] x]) [] cap2),(3,aO 1 cI 0 cap3),(4,aO 3 TStay.cells TStay.d cap4),(5,aO 3 TStay.cells TStay.d cap5),(6,vO 3 (TStay.cells cap6))] 7 (aB r) [(0,vN 1 [(.op 1 0 0)]),(1,vN 9 [(encL TDock.cells TDock.d cap1),(encL TCall.cells TCall.d cap12),(encL TMark.cells TMark.d cap13),(aI cap14),(.os 2 0 cap2.length),(.os 3 0 cap3.length),(.os 4 0 cap4.length),(.nq (nqF cap1f) (.os 5 0 cap5.length)),(aI cap15)]),(2,aO 1 (fun x=>[encL (fun x=>[encL cI 0 x]) [] x]) [] cap2),(3,aO 1 cI 0 cap3),(4,aO 3 TStay.cells TStay.d cap4),(5,aO 3 TStay.cells TStay.d cap5),(6,vO 3 (TStay.cells cap6))]:=by
 unfold g_slices_ContainsFunc_api_Stay_api_Stay at h
 refine Sound.of_runs (fu:=Try.f51) (c:=C_86 1) (nt:=9) (by kernel_rfl) (by kernel_rfl) (by kernel_rfl) (by kernel_rfl) (fun hm=>absurd hm (by decide)) ?_
 intro E hE
 refine Runs.nR hE 1 [] [] (kp [0,1]) (kq [0,1,2,3,4,5,6]) 23 pn ?_
 obtain ⟨rStay,hr,h⟩:=bindSome h
 refine Runs.nR hE 1 [(2,⟨[0,1,2,3,4,5,6],true,(aI rStay),[],0,false,none⟩)] [] (kp [4]) (kq [0,1,2,3,4,5,6]) 103 (pc (g_slices_IndexFunc_api_Stay_api_Stay_ok N cap1 cap12 cap13 cap14 cap1f cap15 cap2 cap3 cap4 cap5 cap6 rStay hr) pn) ?_
 obtain rfl:=Option.some.inj h
 exact Runs.nT hE 0 Try.f51 [] (kp [4]) (kq [0,1,2,3,4,5,6]) 103 pn [] pn
noncomputable def C_84 (n:Nat):Code:=cat (bodyOf Try.f46) (pth n)
def g_berth_search_walk_L1_H (N:Nat) (i:Int) (sum:Int) (cap0:List TDock) (cap02:List TCall) (cap1:List (List (List Int))) (cap2:List Int) (K:(List TDock)→(List TCall)→(List TMark)→Int→(List TStay)→Bool→(List TStay)→Int→Int→Option (Tberth_search)):Prop:=∀ (cap06:List TDock) (cap07:List TCall) (cap08:List TMark) (cap09:Int) (cap010:List TStay) (cap011:Bool) (cap012:List TStay) (cap013:Int) (x:Int) (r:Tberth_search),K cap06 cap07 cap08 cap09 cap010 cap011 cap012 cap013 x=some r→∀ E,EnvOk E 5→Runs Try.prog E 46 132 (SPost E [(0,vN 9 [(encL TDock.cells TDock.d r.f_y.f_Docks),(encL TCall.cells TCall.d r.f_y.f_Calls),(encL TMark.cells TMark.d r.f_y.f_Sea),(aI r.f_y.f_Last),(.os 1 0 cap1.length),(.os 2 0 cap2.length),(.os 5 0 r.f_stays.length),(.nq (nqF r.f_best.1) (.os 6 0 r.f_best.2.length)),(aI r.f_cost)]),(1,aO 1 (fun x=>[encL (fun x=>[encL cI 0 x]) [] x]) [] cap1),(2,aO 1 cI 0 cap2),(5,aO 3 TStay.cells TStay.d r.f_stays),(6,aO 3 TStay.cells TStay.d r.f_best.2)] (.tup [])) [.code (C_84 444),.inLoop (C_84 444),.inBlock 0,.inScope (C_84 6)] ⟨[(1,(aI i)),(2,(aI sum)),(3,(.op 7 0 0)),(6,(.op 8 0 0)),(45,(encL TDock.cells TDock.d cap0)),(46,(aI ((cap0.length:Nat):Int))),(47,(aI x))],[(0,vN 9 [(encL TDock.cells TDock.d cap06),(encL TCall.cells TCall.d cap07),(encL TMark.cells TMark.d cap08),(aI cap09),(.os 1 0 cap1.length),(.os 2 0 cap2.length),(.os 5 0 cap010.length),(.nq (nqF cap011) (.os 6 0 cap012.length)),(aI cap013)]),(1,aO 1 (fun x=>[encL (fun x=>[encL cI 0 x]) [] x]) [] cap1),(2,aO 1 cI 0 cap2),(5,aO 3 TStay.cells TStay.d cap010),(6,aO 3 TStay.cells TStay.d cap012),(7,vN 1 [(.op 0 0 0)]),(8,vO 9 (TCall.cells (cap02.getD ((i).toNat) TCall.d)))],9⟩
def g_berth_search_walk_L2_H (N:Nat) (i:Int) (sum:Int) (cap0:List TDock) (cap02:List TCall) (cap1:List (List (List Int))) (cap2:List Int) (x:Int) (K:(List TDock)→(List TCall)→(List TMark)→Int→(List TStay)→Bool→(List TStay)→Int→Int→Option (Tberth_search)):Prop:=∀ (cap014:List TDock) (cap015:List TCall) (cap016:List TMark) (cap017:Int) (cap018:List TStay) (cap019:Bool) (cap020:List TStay) (cap021:Int) (x2:Int) (r:Tberth_search),K cap014 cap015 cap016 cap017 cap018 cap019 cap020 cap021 x2=some r→∀ E,EnvOk E 5→Runs Try.prog E 46 132 (SPost E [(0,vN 9 [(encL TDock.cells TDock.d r.f_y.f_Docks),(encL TCall.cells TCall.d r.f_y.f_Calls),(encL TMark.cells TMark.d r.f_y.f_Sea),(aI r.f_y.f_Last),(.os 1 0 cap1.length),(.os 2 0 cap2.length),(.os 5 0 r.f_stays.length),(.nq (nqF r.f_best.1) (.os 6 0 r.f_best.2.length)),(aI r.f_cost)]),(1,aO 1 (fun x=>[encL (fun x=>[encL cI 0 x]) [] x]) [] cap1),(2,aO 1 cI 0 cap2),(5,aO 3 TStay.cells TStay.d r.f_stays),(6,aO 3 TStay.cells TStay.d r.f_best.2)] (.tup [])) [.code (C_84 113868),.inLoop (C_84 113868),.inBlock 2,.inBlock 1,.code (C_84 3559),.inLoop (C_84 444),.inBlock 0,.inScope (C_84 6)] ⟨[(1,(aI i)),(2,(aI sum)),(3,(.op 7 0 0)),(6,(.op 8 0 0)),(8,(.op 9 0 0)),(45,(encL TDock.cells TDock.d cap0)),(46,(aI ((cap0.length:Nat):Int))),(47,(aI x)),(61,(encL cI 0 ((cap1.getD ((i).toNat) []).getD ((x).toNat) []))),(62,(aI ((((cap1.getD ((i).toNat) []).getD ((x).toNat) []).length:Nat):Int))),(63,(aI x2))],[(0,vN 9 [(encL TDock.cells TDock.d cap014),(encL TCall.cells TCall.d cap015),(encL TMark.cells TMark.d cap016),(aI cap017),(.os 1 0 cap1.length),(.os 2 0 cap2.length),(.os 5 0 cap018.length),(.nq (nqF cap019) (.os 6 0 cap020.length)),(aI cap021)]),(1,aO 1 (fun x=>[encL (fun x=>[encL cI 0 x]) [] x]) [] cap1),(2,aO 1 cI 0 cap2),(5,aO 3 TStay.cells TStay.d cap018),(6,aO 3 TStay.cells TStay.d cap020),(7,vN 1 [(.op 0 0 0)]),(8,vO 9 (TCall.cells (cap02.getD ((i).toNat) TCall.d))),(9,vO 6 (TDock.cells (cap0.getD ((x).toNat) TDock.d)))],10⟩
def g_berth_search_walk_J3_H (N:Nat) (i:Int) (sum:Int) (cap0:List TDock) (cap02:List TCall) (cap1:List (List (List Int))) (cap2:List Int) (x:Int) (cap014:List TDock) (cap015:List TCall) (cap016:List TMark) (cap017:Int) (cap018:List TStay) (cap019:Bool) (cap020:List TStay) (cap021:Int) (K:Option (Tberth_search)):Prop:=∀ (r:Tberth_search),K=some r→∀ E,EnvOk E 5→Runs Try.prog E 46 132 (SPost E [(0,vN 9 [(encL TDock.cells TDock.d r.f_y.f_Docks),(encL TCall.cells TCall.d r.f_y.f_Calls),(encL TMark.cells TMark.d r.f_y.f_Sea),(aI r.f_y.f_Last),(.os 1 0 cap1.length),(.os 2 0 cap2.length),(.os 5 0 r.f_stays.length),(.nq (nqF r.f_best.1) (.os 6 0 r.f_best.2.length)),(aI r.f_cost)]),(1,aO 1 (fun x=>[encL (fun x=>[encL cI 0 x]) [] x]) [] cap1),(2,aO 1 cI 0 cap2),(5,aO 3 TStay.cells TStay.d r.f_stays),(6,aO 3 TStay.cells TStay.d r.f_best.2)] (.tup [])) [.code (C_84 3559),.inLoop (C_84 444),.inBlock 0,.inScope (C_84 6)] ⟨[(1,(aI i)),(2,(aI sum)),(3,(.op 7 0 0)),(6,(.op 8 0 0)),(45,(encL TDock.cells TDock.d cap0)),(46,(aI ((cap0.length:Nat):Int))),(47,(aI x))],[(0,vN 9 [(encL TDock.cells TDock.d cap014),(encL TCall.cells TCall.d cap015),(encL TMark.cells TMark.d cap016),(aI cap017),(.os 1 0 cap1.length),(.os 2 0 cap2.length),(.os 5 0 cap018.length),(.nq (nqF cap019) (.os 6 0 cap020.length)),(aI cap021)]),(1,aO 1 (fun x=>[encL (fun x=>[encL cI 0 x]) [] x]) [] cap1),(2,aO 1 cI 0 cap2),(5,aO 3 TStay.cells TStay.d cap018),(6,aO 3 TStay.cells TStay.d cap020),(7,vN 1 [(.op 0 0 0)]),(8,vO 9 (TCall.cells (cap02.getD ((i).toNat) TCall.d)))],9⟩
theorem g_berth_search_walk_J3_ok (N:Nat) (i:Int) (sum:Int) (cap0:List TDock) (cap02:List TCall) (cap1:List (List (List Int))) (cap2:List Int) (x:Int) (cap014:List TDock) (cap015:List TCall) (cap016:List TMark) (cap017:Int) (cap018:List TStay) (cap019:Bool) (cap020:List TStay) (cap021:Int) (R_:Int→Int→(List TDock)→(List TCall)→(List TMark)→Int→Bool→Int→(List (List (List Int)))→(List Int)→(List TStay)→(List TStay)→Option (Tberth_search)) (K_g_berth_search_walk_L1:(List TDock)→(List TCall)→(List TMark)→Int→(List TStay)→Bool→(List TStay)→Int→Int→Option (Tberth_search))
  (hR_:∀ (i:Int) (sum:Int) (cap0:List TDock) (cap02:List TCall) (cap03:List TMark) (cap04:Int) (cap0f:Bool) (cap05:Int) (cap1:List (List (List Int))) (cap2:List Int) (cap3:List TStay) (cap4:List TStay) (r:Tberth_search),R_ i sum cap0 cap02 cap03 cap04 cap0f cap05 cap1 cap2 cap3 cap4=some r→Sound Try.prog 46 [(.op 0 0 0),(aI i),(aI sum)] [(0,vN 9 [(encL TDock.cells TDock.d cap0),(encL TCall.cells TCall.d cap02),(encL TMark.cells TMark.d cap03),(aI cap04),(.os 1 0 cap1.length),(.os 2 0 cap2.length),(.os 3 0 cap3.length),(.nq (nqF cap0f) (.os 4 0 cap4.length)),(aI cap05)]),(1,aO 1 (fun x=>[encL (fun x=>[encL cI 0 x]) [] x]) [] cap1),(2,aO 1 cI 0 cap2),(3,aO 3 TStay.cells TStay.d cap3),(4,aO 3 TStay.cells TStay.d cap4)] 5 (.tup []) [(0,vN 9 [(encL TDock.cells TDock.d r.f_y.f_Docks),(encL TCall.cells TCall.d r.f_y.f_Calls),(encL TMark.cells TMark.d r.f_y.f_Sea),(aI r.f_y.f_Last),(.os 1 0 cap1.length),(.os 2 0 cap2.length),(.os 5 0 r.f_stays.length),(.nq (nqF r.f_best.1) (.os 6 0 r.f_best.2.length)),(aI r.f_cost)]),(1,aO 1 (fun x=>[encL (fun x=>[encL cI 0 x]) [] x]) [] cap1),(2,aO 1 cI 0 cap2),(5,aO 3 TStay.cells TStay.d r.f_stays),(6,aO 3 TStay.cells TStay.d r.f_best.2)]) (hK_g_berth_search_walk_L1:g_berth_search_walk_L1_H N i sum cap0 cap02 cap1 cap2 K_g_berth_search_walk_L1):g_berth_search_walk_J3_H N i sum cap0 cap02 cap1 cap2 x cap014 cap015 cap016 cap017 cap018 cap019 cap020 cap021 (g_berth_search_walk_J3 N i sum cap0 cap02 cap1 cap2 x cap014 cap015 cap016 cap017 cap018 cap019 cap020 cap021 R_ K_g_berth_search_walk_L1):=by
 intro r h E hE
 unfold g_berth_search_walk_J3 at h
 refine Runs.nR hE 0 [] [] (kp [1,2,3,6,45,46,47]) (kq [0,1,2,5,6,7,8]) 41 pn ?_
 exact Runs.nW hE 1 [] (kp [1,2,3,6,45,46,47]) (kq [0,1,2,5,6,7,8]) 9 pn (hK_g_berth_search_walk_L1 _ _ _ _ _ _ _ _ _ _ h E hE)
def g_berth_search_walk_J4_H (N:Nat) (i:Int) (sum:Int) (cap0:List TDock) (cap02:List TCall) (cap1:List (List (List Int))) (cap2:List Int) (x:Int) (x2:Int) (K:(List TDock)→(List TCall)→(List TMark)→Int→(List TStay)→Bool→(List TStay)→Int→Option (Tberth_search)):Prop:=∀ (cap022:List TDock) (cap023:List TCall) (cap024:List TMark) (cap025:Int) (cap026:List TStay) (cap027:Bool) (cap028:List TStay) (cap029:Int) (r:Tberth_search),K cap022 cap023 cap024 cap025 cap026 cap027 cap028 cap029=some r→∀ E,EnvOk E 5→Runs Try.prog E 46 132 (SPost E [(0,vN 9 [(encL TDock.cells TDock.d r.f_y.f_Docks),(encL TCall.cells TCall.d r.f_y.f_Calls),(encL TMark.cells TMark.d r.f_y.f_Sea),(aI r.f_y.f_Last),(.os 1 0 cap1.length),(.os 2 0 cap2.length),(.os 5 0 r.f_stays.length),(.nq (nqF r.f_best.1) (.os 6 0 r.f_best.2.length)),(aI r.f_cost)]),(1,aO 1 (fun x=>[encL (fun x=>[encL cI 0 x]) [] x]) [] cap1),(2,aO 1 cI 0 cap2),(5,aO 3 TStay.cells TStay.d r.f_stays),(6,aO 3 TStay.cells TStay.d r.f_best.2)] (.tup [])) [.code (C_84 910951),.inLoop (C_84 113868),.inBlock 2,.inBlock 1,.code (C_84 3559),.inLoop (C_84 444),.inBlock 0,.inScope (C_84 6)] ⟨[(1,(aI i)),(2,(aI sum)),(3,(.op 7 0 0)),(6,(.op 8 0 0)),(8,(.op 9 0 0)),(45,(encL TDock.cells TDock.d cap0)),(46,(aI ((cap0.length:Nat):Int))),(47,(aI x)),(61,(encL cI 0 ((cap1.getD ((i).toNat) []).getD ((x).toNat) []))),(62,(aI ((((cap1.getD ((i).toNat) []).getD ((x).toNat) []).length:Nat):Int))),(63,(aI x2))],[(0,vN 9 [(encL TDock.cells TDock.d cap022),(encL TCall.cells TCall.d cap023),(encL TMark.cells TMark.d cap024),(aI cap025),(.os 1 0 cap1.length),(.os 2 0 cap2.length),(.os 5 0 cap026.length),(.nq (nqF cap027) (.os 6 0 cap028.length)),(aI cap029)]),(1,aO 1 (fun x=>[encL (fun x=>[encL cI 0 x]) [] x]) [] cap1),(2,aO 1 cI 0 cap2),(5,aO 3 TStay.cells TStay.d cap026),(6,aO 3 TStay.cells TStay.d cap028),(7,vN 1 [(.op 0 0 0)]),(8,vO 9 (TCall.cells (cap02.getD ((i).toNat) TCall.d))),(9,vO 6 (TDock.cells (cap0.getD ((x).toNat) TDock.d)))],10⟩
theorem g_berth_search_walk_J4_ok (N:Nat) (i:Int) (sum:Int) (cap0:List TDock) (cap02:List TCall) (cap1:List (List (List Int))) (cap2:List Int) (x:Int) (x2:Int) (R_:Int→Int→(List TDock)→(List TCall)→(List TMark)→Int→Bool→Int→(List (List (List Int)))→(List Int)→(List TStay)→(List TStay)→Option (Tberth_search)) (K_g_berth_search_walk_L2:(List TDock)→(List TCall)→(List TMark)→Int→(List TStay)→Bool→(List TStay)→Int→Int→Option (Tberth_search)) (K_g_berth_search_walk_L1:(List TDock)→(List TCall)→(List TMark)→Int→(List TStay)→Bool→(List TStay)→Int→Int→Option (Tberth_search))
  (hR_:∀ (i:Int) (sum:Int) (cap0:List TDock) (cap02:List TCall) (cap03:List TMark) (cap04:Int) (cap0f:Bool) (cap05:Int) (cap1:List (List (List Int))) (cap2:List Int) (cap3:List TStay) (cap4:List TStay) (r:Tberth_search),R_ i sum cap0 cap02 cap03 cap04 cap0f cap05 cap1 cap2 cap3 cap4=some r→Sound Try.prog 46 [(.op 0 0 0),(aI i),(aI sum)] [(0,vN 9 [(encL TDock.cells TDock.d cap0),(encL TCall.cells TCall.d cap02),(encL TMark.cells TMark.d cap03),(aI cap04),(.os 1 0 cap1.length),(.os 2 0 cap2.length),(.os 3 0 cap3.length),(.nq (nqF cap0f) (.os 4 0 cap4.length)),(aI cap05)]),(1,aO 1 (fun x=>[encL (fun x=>[encL cI 0 x]) [] x]) [] cap1),(2,aO 1 cI 0 cap2),(3,aO 3 TStay.cells TStay.d cap3),(4,aO 3 TStay.cells TStay.d cap4)] 5 (.tup []) [(0,vN 9 [(encL TDock.cells TDock.d r.f_y.f_Docks),(encL TCall.cells TCall.d r.f_y.f_Calls),(encL TMark.cells TMark.d r.f_y.f_Sea),(aI r.f_y.f_Last),(.os 1 0 cap1.length),(.os 2 0 cap2.length),(.os 5 0 r.f_stays.length),(.nq (nqF r.f_best.1) (.os 6 0 r.f_best.2.length)),(aI r.f_cost)]),(1,aO 1 (fun x=>[encL (fun x=>[encL cI 0 x]) [] x]) [] cap1),(2,aO 1 cI 0 cap2),(5,aO 3 TStay.cells TStay.d r.f_stays),(6,aO 3 TStay.cells TStay.d r.f_best.2)]) (hK_g_berth_search_walk_L2:g_berth_search_walk_L2_H N i sum cap0 cap02 cap1 cap2 x K_g_berth_search_walk_L2) (hK_g_berth_search_walk_L1:g_berth_search_walk_L1_H N i sum cap0 cap02 cap1 cap2 K_g_berth_search_walk_L1):g_berth_search_walk_J4_H N i sum cap0 cap02 cap1 cap2 x x2 (g_berth_search_walk_J4 N i sum cap0 cap02 cap1 cap2 x x2 R_ K_g_berth_search_walk_L2 K_g_berth_search_walk_L1):=by
 intro cap022 cap023 cap024 cap025 cap026 cap027 cap028 cap029 r h E hE
 unfold g_berth_search_walk_J4 at h
 refine Runs.nR hE 0 [] [] (kp [1,2,3,6,8,45,46,47,61,62,63]) (kq [0,1,2,5,6,7,8,9]) 42 pn ?_
 exact Runs.nW hE 1 [] (kp [1,2,3,6,8,45,46,47,61,62,63]) (kq [0,1,2,5,6,7,8,9]) 10 pn (hK_g_berth_search_walk_L2 _ _ _ _ _ _ _ _ _ _ h E hE)
theorem g_berth_search_walk_L2_ok (N:Nat) (i:Int) (sum:Int) (cap0:List TDock) (cap02:List TCall) (cap1:List (List (List Int))) (cap2:List Int) (x:Int) (R_:Int→Int→(List TDock)→(List TCall)→(List TMark)→Int→Bool→Int→(List (List (List Int)))→(List Int)→(List TStay)→(List TStay)→Option (Tberth_search)) (K_g_berth_search_walk_L1:(List TDock)→(List TCall)→(List TMark)→Int→(List TStay)→Bool→(List TStay)→Int→Int→Option (Tberth_search))
  (hR_:∀ (i:Int) (sum:Int) (cap0:List TDock) (cap02:List TCall) (cap03:List TMark) (cap04:Int) (cap0f:Bool) (cap05:Int) (cap1:List (List (List Int))) (cap2:List Int) (cap3:List TStay) (cap4:List TStay) (r:Tberth_search),R_ i sum cap0 cap02 cap03 cap04 cap0f cap05 cap1 cap2 cap3 cap4=some r→Sound Try.prog 46 [(.op 0 0 0),(aI i),(aI sum)] [(0,vN 9 [(encL TDock.cells TDock.d cap0),(encL TCall.cells TCall.d cap02),(encL TMark.cells TMark.d cap03),(aI cap04),(.os 1 0 cap1.length),(.os 2 0 cap2.length),(.os 3 0 cap3.length),(.nq (nqF cap0f) (.os 4 0 cap4.length)),(aI cap05)]),(1,aO 1 (fun x=>[encL (fun x=>[encL cI 0 x]) [] x]) [] cap1),(2,aO 1 cI 0 cap2),(3,aO 3 TStay.cells TStay.d cap3),(4,aO 3 TStay.cells TStay.d cap4)] 5 (.tup []) [(0,vN 9 [(encL TDock.cells TDock.d r.f_y.f_Docks),(encL TCall.cells TCall.d r.f_y.f_Calls),(encL TMark.cells TMark.d r.f_y.f_Sea),(aI r.f_y.f_Last),(.os 1 0 cap1.length),(.os 2 0 cap2.length),(.os 5 0 r.f_stays.length),(.nq (nqF r.f_best.1) (.os 6 0 r.f_best.2.length)),(aI r.f_cost)]),(1,aO 1 (fun x=>[encL (fun x=>[encL cI 0 x]) [] x]) [] cap1),(2,aO 1 cI 0 cap2),(5,aO 3 TStay.cells TStay.d r.f_stays),(6,aO 3 TStay.cells TStay.d r.f_best.2)]) (hK_g_berth_search_walk_L1:g_berth_search_walk_L1_H N i sum cap0 cap02 cap1 cap2 K_g_berth_search_walk_L1) (fuel:Nat):g_berth_search_walk_L2_H N i sum cap0 cap02 cap1 cap2 x (g_berth_search_walk_L2 N i sum cap0 cap02 cap1 cap2 x R_ K_g_berth_search_walk_L1 fuel):=by
 induction fuel with
 | zero=>intro _ _ _ _ _ _ _ _ _ r h;rw [g_berth_search_walk_L2.eq_1] at h;cases h
 | succ fuel ih =>
  intro cap014 cap015 cap016 cap017 cap018 cap019 cap020 cap021 x2 r h E hE
  rw [g_berth_search_walk_L2.eq_2] at h
  refine Runs.nR hE 1 [] [] (kp [1,2,3,6,8,45,46,47,61,62,63,64]) (kq [0,1,2,5,6,7,8,9]) 26 pn ?_
  refine Runs.nC 1 64 h (fun hq4 h=>?_) (fun hq4 h=>?_)
  ·obtain ⟨c5,h⟩:=ifSome h
   refine Runs.nR hE 4 [] [] (kp [1,2,3,6,8,10,45,46,47,61,62,63]) (kq [0,1,2,5,6,7,8,9]) 74 (pc c5 pn) ?_
   obtain ⟨rlate,hr2,h⟩:=bindSome h
   refine Runs.nR hE 1 [(3,⟨[],true,(aI rlate),[],0,false,none⟩)] [] (kp [1,2,3,6,8,10,11,45,46,47,61,62,63]) (kq [0,1,2,5,6,7,8,9]) 170 (pc o1 (pc (g_berth_late_ok N (cap02.getD ((i).toNat) TCall.d) (((cap1.getD ((i).toNat) []).getD ((x).toNat) []).getD ((x2).toNat) 0) rlate hr2) pn)) ?_
   obtain ⟨c6,h⟩:=ifSome h
   obtain ⟨c7,h⟩:=ifSome h
   refine Runs.nR hE 2 [] [] (kp [1,2,3,6,8,10,11,45,46,47,61,62,63,93]) (kq [0,1,2,5,6,7,8,9]) 522 (pc o1 (pc o1 (pc c6 (pc (fun hg:(!(nqB (nqF cap019)))=true=>(pc o1 pn)) (pc (fun hg:(!(nqB (nqF cap019)))=true=>(pc hg pn)) (pc (fun hg:(!(nqB (nqF cap019)))=true=>(pc hg pn)) (pc (fun hg:(!(nqB (nqF cap019)))=true=>(pc hg (pc o1 pn))) (pc (fun hg:(!(nqB (nqF cap019)))=true=>(pc hg pn)) (pc (fun hg:(!(nqB (nqF cap019)))=true=>(pc hg (pc hg (pc (c7 hg) pn)))) (pc (fun hg:(!(nqB (nqF cap019)))=true=>(pc hg (pc (ltOf (c7 hg)) pn))) (pc (fun hg:(!(nqB (nqF cap019)))=true=>(pc hg (pc hg pn))) (pc (fun hg:(!(nqB (nqF cap019)))=true=>(pc o1 pn)) (pc (fun hg:(!(nqB (nqF cap019)))=true=>(pc hg pn)) (pc (fun hg:(!(nqB (nqF cap019)))=true=>(pc hg pn)) (pc (fun hg:(!(nqB (nqF cap019)))=true=>(pc hg (pc o1 pn))) (pc (fun hg:(!(nqB (nqF cap019)))=true=>(pc hg (pc hg pn))) (pc (fun hq:(!(nqB (nqF cap019)))=true=>(pc hq pn)) pn))))))))))))))))) ?_
   refine Runs.nC 0 93 h (fun hq5 h=>?_) (fun hq5 h=>?_)
   ·exact Runs.nW hE 1 [] (kp [1,2,3,6,45,46,47]) (kq [0,1,2,5,6,7,8]) 9 pn (g_berth_search_walk_J3_ok N _ _ _ _ _ _ _ _ _ _ _ _ _ _ _ _ _ hR_ hK_g_berth_search_walk_L1 _ h E hE)
   ·refine Runs.nR hE 2 [] [] (kp [1,2,3,6,8,11,12,45,46,47,61,62,63]) (kq [0,1,2,5,6,7,8,9,618]) 650 (pc o1 (pc o1 (pc o1 pn))) ?_
    obtain ⟨rStay2,hr3,h⟩:=bindSome h
    refine Runs.nR hE 2 [(5,⟨[7,0,1,2,5,6,618],true,(aB rStay2),[],0,false,none⟩)] [] (kp [1,2,3,6,8,11,12,45,46,47,61,62,63,105]) (kq [0,1,2,5,6,7,8,9,618]) 746 (pc o1 (pc o1 (pc (g_slices_ContainsFunc_api_Stay_api_Stay_ok N cap014 cap015 cap016 cap017 cap019 cap021 cap1 cap2 cap018 cap020 (⟨(cap02.getD ((i).toNat) TCall.d).f_Name,(cap0.getD ((x).toNat) TDock.d).f_Name,(((cap1.getD ((i).toNat) []).getD ((x).toNat) []).getD ((x2).toNat) 0)⟩:TStay) rStay2 hr3) pn))) ?_
    refine Runs.nC 0 105 h (fun hq6 h=>?_) (fun hq6 h=>?_)
    ·exact Runs.nW hE 1 [] (kp [1,2,3,6,8,45,46,47,61,62,63]) (kq [0,1,2,5,6,7,8,9]) 10 pn (g_berth_search_walk_J4_ok N _ _ _ _ _ _ _ _ _ _ _ hR_ ih hK_g_berth_search_walk_L1 _ _ _ _ _ _ _ _ _ h E hE)
    ·obtain ⟨c8,h⟩:=ifSome h
     refine Runs.nR hE 2 [] [] (kp [1,2,3,6,8,11,45,46,47,61,62,63]) ([(0,.var 0 [.keep,.keep,.keep,.keep,.keep,.keep,.osl ((cap018 ++ ([(⟨(cap02.getD ((i).toNat) TCall.d).f_Name,(cap0.getD ((x).toNat) TDock.d).f_Name,(((cap1.getD ((i).toNat) []).getD ((x).toNat) []).getD ((x2).toNat) 0)⟩:TStay)]:List TStay)).length),.keep,.keep])] ++ kq [1,2,6,7,8,9] ++ [(858,.arr 858 ((cap018 ++ ([(⟨(cap02.getD ((i).toNat) TCall.d).f_Name,(cap0.getD ((x).toNat) TDock.d).f_Name,(((cap1.getD ((i).toNat) []).getD ((x).toNat) []).getD ((x2).toNat) 0)⟩:TStay)]:List TStay)).length) (fun zi=>TStay.cells ((cap018 ++ ([(⟨(cap02.getD ((i).toNat) TCall.d).f_Name,(cap0.getD ((x).toNat) TDock.d).f_Name,(((cap1.getD ((i).toNat) []).getD ((x).toNat) []).getD ((x2).toNat) 0)⟩:TStay)]:List TStay)).getD zi TStay.d)))]) 922 (pc o1 (pc o1 (pc o1 (pc o1 (pc (Eq.refl cap018.length) (pc c8 (pc (z1 1) (pc (show ∀ zi,zi < 1→AV.oneL ((fun zi=>([[(aS ((cap02.getD ((i).toNat) TCall.d).f_Name)),(aS ((cap0.getD ((x).toNat) TDock.d).f_Name)),(aI (((cap1.getD ((i).toNat) []).getD ((x).toNat) []).getD ((x2).toNat) 0))]]:List (List AV)).getD zi []) (addz 0 zi))=true from (oneN rfl)) (pc o1 (pc (show (cap018.length+1)=(cap018 ++ ([(⟨(cap02.getD ((i).toNat) TCall.d).f_Name,(cap0.getD ((x).toNat) TDock.d).f_Name,(((cap1.getD ((i).toNat) []).getD ((x).toNat) []).getD ((x2).toNat) 0)⟩:TStay)]:List TStay)).length from (len_app_raw rfl rfl)) (pc (show cap018.length+1=(cap018 ++ ([(⟨(cap02.getD ((i).toNat) TCall.d).f_Name,(cap0.getD ((x).toNat) TDock.d).f_Name,(((cap1.getD ((i).toNat) []).getD ((x).toNat) []).getD ((x2).toNat) 0)⟩:TStay)]:List TStay)).length from (len_app_raw rfl rfl)) (pc (show ∀ zi,zi < (cap018 ++ ([(⟨(cap02.getD ((i).toNat) TCall.d).f_Name,(cap0.getD ((x).toNat) TDock.d).f_Name,(((cap1.getD ((i).toNat) []).getD ((x).toNat) []).getD ((x2).toNat) 0)⟩:TStay)]:List TStay)).length→(fun zi=>TStay.cells ((cap018 ++ ([(⟨(cap02.getD ((i).toNat) TCall.d).f_Name,(cap0.getD ((x).toNat) TDock.d).f_Name,(((cap1.getD ((i).toNat) []).getD ((x).toNat) []).getD ((x2).toNat) 0)⟩:TStay)]:List TStay)).getD zi TStay.d)) zi=((fun zm=>if zm < cap018.length then (fun zi=>TStay.cells (cap018.getD zi TStay.d)) zm else (fun zi=>([[(aS ((cap02.getD ((i).toNat) TCall.d).f_Name)),(aS ((cap0.getD ((x).toNat) TDock.d).f_Name)),(aI (((cap1.getD ((i).toNat) []).getD ((x).toNat) []).getD ((x2).toNat) 0))]]:List (List AV)).getD zi []) (zm - cap018.length))) zi from (get_app_raw TStay.cells TStay.d cap018 ([(⟨(cap02.getD ((i).toNat) TCall.d).f_Name,(cap0.getD ((x).toNat) TDock.d).f_Name,(((cap1.getD ((i).toNat) []).getD ((x).toNat) []).getD ((x2).toNat) 0)⟩:TStay)]:List TStay) rfl (fun _ _=>rfl) (fun zq hzq=>get_chunk TStay.cells TStay.d ([(⟨(cap02.getD ((i).toNat) TCall.d).f_Name,(cap0.getD ((x).toNat) TDock.d).f_Name,(((cap1.getD ((i).toNat) []).getD ((x).toNat) []).getD ((x2).toNat) 0)⟩:TStay)]:List TStay) zq hzq))) pn)))))))))))) ?_
     obtain ⟨rwalk,hr4,h⟩:=bindSome h
     refine Runs.nR hE 1 [(4,⟨[0,1,2,858,6],false,(.tup []),[(0,vN 9 [(encL TDock.cells TDock.d rwalk.f_y.f_Docks),(encL TCall.cells TCall.d rwalk.f_y.f_Calls),(encL TMark.cells TMark.d rwalk.f_y.f_Sea),(aI rwalk.f_y.f_Last),(.os 1 0 cap1.length),(.os 2 0 cap2.length),(.os 5 0 rwalk.f_stays.length),(.nq (nqF rwalk.f_best.1) (.os 6 0 rwalk.f_best.2.length)),(aI rwalk.f_cost)]),(1,aO 1 (fun x=>[encL (fun x=>[encL cI 0 x]) [] x]) [] cap1),(2,aO 1 cI 0 cap2),(5,aO 3 TStay.cells TStay.d rwalk.f_stays),(6,aO 3 TStay.cells TStay.d rwalk.f_best.2)],0,false,none⟩)] [] (kp [1,2,3,6,8,45,46,47,61,62,63]) (kq [0,1,2,7,8,9,986,987]) 1002 (pc o1 (pc (show Sound Try.prog 46 [(.op 0 0 0),(aI (w64 (i+1))),(aI (w64 (sum+rlate)))] [(0,vN 9 [(encL TDock.cells TDock.d cap014),(encL TCall.cells TCall.d cap015),(encL TMark.cells TMark.d cap016),(aI cap017),(.os 1 0 cap1.length),(.os 2 0 cap2.length),(.os 3 0 ((cap018 ++ ([(⟨(cap02.getD ((i).toNat) TCall.d).f_Name,(cap0.getD ((x).toNat) TDock.d).f_Name,(((cap1.getD ((i).toNat) []).getD ((x).toNat) []).getD ((x2).toNat) 0)⟩:TStay)]:List TStay)).length)),(.nq (nqF cap019) (.os 4 0 cap020.length)),(aI cap021)]),(1,aO 1 (fun x=>[encL (fun x=>[encL cI 0 x]) [] x]) [] cap1),(2,aO 1 cI 0 cap2),(3,aO 3 TStay.cells TStay.d (cap018 ++ ([(⟨(cap02.getD ((i).toNat) TCall.d).f_Name,(cap0.getD ((x).toNat) TDock.d).f_Name,(((cap1.getD ((i).toNat) []).getD ((x).toNat) []).getD ((x2).toNat) 0)⟩:TStay)]:List TStay))),(4,aO 3 TStay.cells TStay.d cap020)] 5 (.tup []) [(0,vN 9 [(encL TDock.cells TDock.d rwalk.f_y.f_Docks),(encL TCall.cells TCall.d rwalk.f_y.f_Calls),(encL TMark.cells TMark.d rwalk.f_y.f_Sea),(aI rwalk.f_y.f_Last),(.os 1 0 cap1.length),(.os 2 0 cap2.length),(.os 5 0 rwalk.f_stays.length),(.nq (nqF rwalk.f_best.1) (.os 6 0 rwalk.f_best.2.length)),(aI rwalk.f_cost)]),(1,aO 1 (fun x=>[encL (fun x=>[encL cI 0 x]) [] x]) [] cap1),(2,aO 1 cI 0 cap2),(5,aO 3 TStay.cells TStay.d rwalk.f_stays),(6,aO 3 TStay.cells TStay.d rwalk.f_best.2)] from (hR_ (w64 (i+1)) (w64 (sum+rlate)) cap014 cap015 cap016 cap017 cap019 cap021 cap1 cap2 (cap018 ++ ([(⟨(cap02.getD ((i).toNat) TCall.d).f_Name,(cap0.getD ((x).toNat) TDock.d).f_Name,(((cap1.getD ((i).toNat) []).getD ((x).toNat) []).getD ((x2).toNat) 0)⟩:TStay)]:List TStay)) cap020 rwalk hr4)) pn)) ?_
     obtain ⟨c9,h⟩:=ifSome h
     obtain ⟨c10,h⟩:=ifSome h
     obtain ⟨c11,h⟩:=ifSome h
     refine Runs.nR hE 0 [] [] (kp [1,2,3,6,8,45,46,47,61,62,63]) ([(0,.var 0 [.keep,.keep,.keep,.keep,.keep,.keep,.osl ((rwalk.f_stays.take ((i).toNat)).length),.keep,.keep])] ++ kq [1,2,7,8,9] ++ [(986,.arz 986 ((rwalk.f_stays.take ((i).toNat)).length) (fun zi=>TStay.cells ((rwalk.f_stays.take ((i).toNat)).getD zi TStay.d)))] ++ kq [987]) 1162 (pc o1 (pc o1 (pc o1 (pc c9 (pc c10 (pc o1 (pc (show ((i).toNat - 0)=(rwalk.f_stays.take ((i).toNat)).length from (len_tk1 c11)) (pc (show (rwalk.f_stays.take ((i).toNat)).length≤rwalk.f_stays.length from (len_tk2 rwalk.f_stays ((i).toNat))) (pc (show ∀ zi,zi < (rwalk.f_stays.take ((i).toNat)).length→UpL (TStay.cells (rwalk.f_stays.getD zi TStay.d)) ((fun zi=>TStay.cells ((rwalk.f_stays.take ((i).toNat)).getD zi TStay.d)) zi) from (fun zq hzq=>upE (Eq.symm (get_tk TStay.cells TStay.d rwalk.f_stays ((i).toNat) zq hzq)))) pn))))))))) ?_
     exact Runs.nW hE 1 [] (kp [1,2,3,6,8,45,46,47,61,62,63]) (kq [0,1,2] ++ [(5,.keep 986),(6,.keep 987)] ++ kq [7,8,9]) 10 pn (g_berth_search_walk_J4_ok N _ _ _ _ _ _ _ _ _ _ _ hR_ ih hK_g_berth_search_walk_L1 _ _ _ _ _ _ _ _ _ h E hE)
  ·exact Runs.nW hE 2 [] (kp [1,2,3,6,45,46,47]) (kq [0,1,2,5,6,7,8]) 9 pn (g_berth_search_walk_J3_ok N _ _ _ _ _ _ _ _ _ _ _ _ _ _ _ _ _ hR_ hK_g_berth_search_walk_L1 _ h E hE)
theorem g_berth_search_walk_L1_ok (N:Nat) (i:Int) (sum:Int) (cap0:List TDock) (cap02:List TCall) (cap1:List (List (List Int))) (cap2:List Int) (R_:Int→Int→(List TDock)→(List TCall)→(List TMark)→Int→Bool→Int→(List (List (List Int)))→(List Int)→(List TStay)→(List TStay)→Option (Tberth_search))
  (hR_:∀ (i:Int) (sum:Int) (cap0:List TDock) (cap02:List TCall) (cap03:List TMark) (cap04:Int) (cap0f:Bool) (cap05:Int) (cap1:List (List (List Int))) (cap2:List Int) (cap3:List TStay) (cap4:List TStay) (r:Tberth_search),R_ i sum cap0 cap02 cap03 cap04 cap0f cap05 cap1 cap2 cap3 cap4=some r→Sound Try.prog 46 [(.op 0 0 0),(aI i),(aI sum)] [(0,vN 9 [(encL TDock.cells TDock.d cap0),(encL TCall.cells TCall.d cap02),(encL TMark.cells TMark.d cap03),(aI cap04),(.os 1 0 cap1.length),(.os 2 0 cap2.length),(.os 3 0 cap3.length),(.nq (nqF cap0f) (.os 4 0 cap4.length)),(aI cap05)]),(1,aO 1 (fun x=>[encL (fun x=>[encL cI 0 x]) [] x]) [] cap1),(2,aO 1 cI 0 cap2),(3,aO 3 TStay.cells TStay.d cap3),(4,aO 3 TStay.cells TStay.d cap4)] 5 (.tup []) [(0,vN 9 [(encL TDock.cells TDock.d r.f_y.f_Docks),(encL TCall.cells TCall.d r.f_y.f_Calls),(encL TMark.cells TMark.d r.f_y.f_Sea),(aI r.f_y.f_Last),(.os 1 0 cap1.length),(.os 2 0 cap2.length),(.os 5 0 r.f_stays.length),(.nq (nqF r.f_best.1) (.os 6 0 r.f_best.2.length)),(aI r.f_cost)]),(1,aO 1 (fun x=>[encL (fun x=>[encL cI 0 x]) [] x]) [] cap1),(2,aO 1 cI 0 cap2),(5,aO 3 TStay.cells TStay.d r.f_stays),(6,aO 3 TStay.cells TStay.d r.f_best.2)]) (fuel:Nat):g_berth_search_walk_L1_H N i sum cap0 cap02 cap1 cap2 (g_berth_search_walk_L1 N i sum cap0 cap02 cap1 cap2 R_ fuel):=by
 induction fuel with
 | zero=>intro _ _ _ _ _ _ _ _ _ r h;rw [g_berth_search_walk_L1.eq_1] at h;cases h
 | succ fuel ih =>
  intro cap06 cap07 cap08 cap09 cap010 cap011 cap012 cap013 x r h E hE
  rw [g_berth_search_walk_L1.eq_2] at h
  refine Runs.nR hE 1 [] [] (kp [1,2,3,6,45,46,47,48]) (kq [0,1,2,5,6,7,8]) 25 pn ?_
  refine Runs.nC 1 48 h (fun hq3 h=>?_) (fun hq3 h=>?_)
  ·obtain ⟨c2,h⟩:=ifSome h
   refine Runs.nR hE 4 [] [] (kp [1,2,3,6,7,8,45,46,47]) (kq [0,1,2,5,6,7,8,73]) 121 (pc c2 (pc o1 pn)) ?_
   obtain ⟨c3,h⟩:=ifSome h
   obtain ⟨c4,h⟩:=ifSome h
   refine Runs.nR hE 1 [] [] (kp [1,2,3,6,8,45,46,47,61,62,63]) (kq [0,1,2,5,6,7,8,73]) 313 (pc o1 (pc o1 (pc c3 (pc (ltOf c3) (pc c4 pn))))) ?_
   exact Runs.nW hE 2 [] (kp [1,2,3,6,8,45,46,47,61,62,63]) (kq [0,1,2,5,6,7,8] ++ [(9,.keep 73)]) 10 pn (g_berth_search_walk_L2_ok N _ _ _ _ _ _ _ _ _ hR_ ih N _ _ _ _ _ _ _ _ _ _ h E hE)
  ·obtain rfl:=Option.some.inj h
   exact Runs.nF hE 2 Try.f46 [] [] (kq [0,1,2,5,6]) 53 pn [] pn
theorem g_berth_search_walk_ok (N:Nat) (fuel:Nat):∀ (i:Int) (sum:Int) (cap0:List TDock) (cap02:List TCall) (cap03:List TMark) (cap04:Int) (cap0f:Bool) (cap05:Int) (cap1:List (List (List Int))) (cap2:List Int) (cap3:List TStay) (cap4:List TStay) (r:Tberth_search),g_berth_search_walk N fuel i sum cap0 cap02 cap03 cap04 cap0f cap05 cap1 cap2 cap3 cap4=some r→Sound Try.prog 46 [(.op 0 0 0),(aI i),(aI sum)] [(0,vN 9 [(encL TDock.cells TDock.d cap0),(encL TCall.cells TCall.d cap02),(encL TMark.cells TMark.d cap03),(aI cap04),(.os 1 0 cap1.length),(.os 2 0 cap2.length),(.os 3 0 cap3.length),(.nq (nqF cap0f) (.os 4 0 cap4.length)),(aI cap05)]),(1,aO 1 (fun x=>[encL (fun x=>[encL cI 0 x]) [] x]) [] cap1),(2,aO 1 cI 0 cap2),(3,aO 3 TStay.cells TStay.d cap3),(4,aO 3 TStay.cells TStay.d cap4)] 5 (.tup []) [(0,vN 9 [(encL TDock.cells TDock.d r.f_y.f_Docks),(encL TCall.cells TCall.d r.f_y.f_Calls),(encL TMark.cells TMark.d r.f_y.f_Sea),(aI r.f_y.f_Last),(.os 1 0 cap1.length),(.os 2 0 cap2.length),(.os 5 0 r.f_stays.length),(.nq (nqF r.f_best.1) (.os 6 0 r.f_best.2.length)),(aI r.f_cost)]),(1,aO 1 (fun x=>[encL (fun x=>[encL cI 0 x]) [] x]) [] cap1),(2,aO 1 cI 0 cap2),(5,aO 3 TStay.cells TStay.d r.f_stays),(6,aO 3 TStay.cells TStay.d r.f_best.2)]:=by
 induction fuel with
 | zero=>intro _ _ _ _ _ _ _ _ _ _ _ _ r h;rw [g_berth_search_walk.eq_1] at h;cases h
 | succ fuel ih =>
  intro i sum cap0 cap02 cap03 cap04 cap0f cap05 cap1 cap2 cap3 cap4 r h
  rw [g_berth_search_walk.eq_2] at h
  refine Sound.of_runs (fu:=Try.f46) (c:=C_84 1) (nt:=132) (by kernel_rfl) (by kernel_rfl) (by kernel_rfl) (by kernel_rfl) (fun hm=>absurd hm (by decide)) ?_
  intro E hE
  refine Runs.nR hE 1 [] [] (kp [1,2,3]) (kq [0,1,2,3,4,5]) 21 pn ?_
  refine Runs.nR hE 3 [] [] (kp [1,2,3,20]) (kq [0,1,2,3,4,5]) 149 (pc o1 (pc o1 pn)) ?_
  refine Runs.nC 0 20 h (fun hq2 h=>?_) (fun hq2 h=>?_)
  ·obtain ⟨rStay,hr,h⟩:=bindSome h
   refine Runs.nR hE 1 [(6,⟨[],false,(.os 0 0 rStay.length),[(0,aO 3 TStay.cells TStay.d rStay)],0,false,none⟩)] [] [] (kq [0,1,2,3,245]) 373 (pc o1 (pc o1 (pc o1 (pc o1 (pc (g_slices_Clone_api_Stay_api_Stay_ok N cap3 rStay hr) (pc (show ∀ zi,zi < rStay.length→AV.flatL (TStay.cells (rStay.getD zi TStay.d))=true from (fun _ _=>rfl)) (pc (z1 cap3.length) (pc o1 (pc o1 pn))))))))) ?_
   obtain rfl:=Option.some.inj h
   exact Runs.nT hE 0 Try.f46 [] [] ([(0,.var 0 [.keep,.keep,.keep,.keep,.keep,.keep,.keep,.nq (nqF true) .keep,.keep])] ++ kq [1,2] ++ [(5,.keep 3),(6,.keep 245)]) 373 (pc (show nqF true=none from (nqT)) pn) [] pn
  ·obtain ⟨c,h⟩:=ifSome h
   refine Runs.nR hE 2 [] [] (kp [1,2,3,6]) (kq [0,1,2,3,4,5,277]) 309 (pc o1 (pc o1 (pc c (pc o1 pn)))) ?_
   refine Runs.nR hE 3 [] [] (kp [1,2,3,6,45,46,47]) (kq [0,1,2,3,4,5,277]) 421 (pc o1 (pc o1 pn)) ?_
   exact Runs.nW hE 2 [] (kp [1,2,3,6,45,46,47]) (kq [0,1,2] ++ [(5,.keep 3),(6,.keep 4),(7,.keep 5),(8,.keep 277)]) 9 pn (g_berth_search_walk_L1_ok N _ _ _ _ _ _ _ ih N _ _ _ _ _ _ _ _ _ _ h E hE)
noncomputable def C_43 (n:Nat):Code:=cat (bodyOf Try.f17) (pth n)
def g_berth_Best_L1_H (N:Nat) (y:TYard) (K:(List (List (List Int)))→Int→Option ((List TStay)×Int×Int)):Prop:=∀ (s:List (List (List Int))) (x:Int) (r:(List TStay)×Int×Int),K s x=some r→∀ E,EnvOk E 0→Runs Try.prog E 17 165 (SPost E [] (.tup [(encL TStay.cells TStay.d r.1),(aI r.2.1),(aI r.2.2)])) [.code (C_43 500),.inLoop (C_43 500),.inBlock 0,.code (C_43 63)] ⟨[(1,(.op 0 0 0)),(6,(.op 1 0 0)),(40,(encL TCall.cells TCall.d y.f_Calls)),(41,(aI ((y.f_Calls.length:Nat):Int))),(42,(aI x))],[(0,vO 4 (TYard.cells y)),(1,vN 9 [(encL TDock.cells TDock.d y.f_Docks),(encL TCall.cells TCall.d y.f_Calls),(encL TMark.cells TMark.d y.f_Sea),(aI y.f_Last),(.os 2 0 s.length),(.os 3 0 ((List.replicate ((w64 (((y.f_Calls.length:Nat):Int)+1)).toNat) 0:List Int).length)),.nil,.nil,(aI 0)]),(2,aO 1 (fun x=>[encL (fun x=>[encL cI 0 x]) [] x]) [] s),(3,aO 1 cI 0 (List.replicate ((w64 (((y.f_Calls.length:Nat):Int)+1)).toNat) 0:List Int))],4⟩
def g_berth_Best_L2_H (N:Nat) (y:TYard) (s:List (List (List Int))) (x:Int) (K:(List (List Int))→Int→Option ((List TStay)×Int×Int)):Prop:=∀ (row:List (List Int)) (x2:Int) (r:(List TStay)×Int×Int),K row x2=some r→∀ E,EnvOk E 0→Runs Try.prog E 17 165 (SPost E [] (.tup [(encL TStay.cells TStay.d r.1),(aI r.2.1),(aI r.2.2)])) [.code (C_43 512820),.inLoop (C_43 512820),.inBlock 2,.code (C_43 64103),.inBlock 1,.code (C_43 4007),.inLoop (C_43 500),.inBlock 0,.code (C_43 63)] ⟨[(1,(.op 0 0 0)),(6,(.op 1 0 0)),(8,(.op 4 0 0)),(9,(.os 5 0 row.length)),(40,(encL TCall.cells TCall.d y.f_Calls)),(41,(aI ((y.f_Calls.length:Nat):Int))),(42,(aI x)),(47,(encL TDock.cells TDock.d y.f_Docks)),(48,(aI ((y.f_Docks.length:Nat):Int))),(49,(aI x2))],[(0,vO 4 (TYard.cells y)),(1,vN 9 [(encL TDock.cells TDock.d y.f_Docks),(encL TCall.cells TCall.d y.f_Calls),(encL TMark.cells TMark.d y.f_Sea),(aI y.f_Last),(.os 2 0 s.length),(.os 3 0 ((List.replicate ((w64 (((y.f_Calls.length:Nat):Int)+1)).toNat) 0:List Int).length)),.nil,.nil,(aI 0)]),(2,aO 1 (fun x=>[encL (fun x=>[encL cI 0 x]) [] x]) [] s),(3,aO 1 cI 0 (List.replicate ((w64 (((y.f_Calls.length:Nat):Int)+1)).toNat) 0:List Int)),(4,vO 9 (TCall.cells (y.f_Calls.getD ((x).toNat) TCall.d))),(5,aO 1 (fun x=>[encL cI 0 x]) [] row)],6⟩
theorem g_berth_Best_L2_ok (N:Nat) (y:TYard) (s:List (List (List Int))) (x:Int) (K_g_berth_Best_L1:(List (List (List Int)))→Int→Option ((List TStay)×Int×Int)) (hK_g_berth_Best_L1:g_berth_Best_L1_H N y K_g_berth_Best_L1) (fuel:Nat):g_berth_Best_L2_H N y s x (g_berth_Best_L2 N y s x K_g_berth_Best_L1 fuel):=by
 induction fuel with
 | zero=>intro _ _ r h;rw [g_berth_Best_L2.eq_1] at h;cases h
 | succ fuel ih =>
  intro row x2 r h E hE
  rw [g_berth_Best_L2.eq_2] at h
  refine Runs.nR hE 1 [] [] (kp [1,6,8,9,40,41,42,47,48,49,50]) (kq [0,1,2,3,4,5]) 22 pn ?_
  refine Runs.nC 1 50 h (fun hq5 h=>?_) (fun hq5 h=>?_)
  ·obtain ⟨c3,h⟩:=ifSome h
   refine Runs.nR hE 4 [] [] (kp [1,6,8,9,11,40,41,42,47,48,49]) (kq [0,1,2,3,4,5,54]) 86 (pc c3 (pc o1 pn)) ?_
   obtain ⟨rpossible,hr2,h⟩:=bindSome h
   obtain ⟨c4,h⟩:=ifSome h
   refine Runs.nR hE 0 [(4,⟨[],true,(encL cI 0 rpossible),[],0,false,none⟩)] [] (kp [1,6,8] ++ [(9,.osl ((row ++ ([rpossible]:List (List Int))).length))] ++ kp [40,41,42,47,48,49]) (kq [0,1,2,3,4] ++ [(182,.arr 182 ((row ++ ([rpossible]:List (List Int))).length) (fun zi=>(fun x=>[encL cI 0 x]) ((row ++ ([rpossible]:List (List Int))).getD zi [])))]) 214 (pc o1 (pc o1 (pc o1 (pc (g_berth_possible_ok N y (y.f_Calls.getD ((x).toNat) TCall.d) (y.f_Docks.getD ((x2).toNat) TDock.d) rpossible hr2) (pc (Eq.refl row.length) (pc c4 (pc (z1 1) (pc (show ∀ zi,zi < 1→AV.oneL ((fun zi=>([[(encL cI 0 rpossible)]]:List (List AV)).getD zi []) (addz 0 zi))=true from (oneN rfl)) (pc (show (row.length+1)=(row ++ ([rpossible]:List (List Int))).length from (len_app_raw rfl rfl)) (pc (show row.length+1=(row ++ ([rpossible]:List (List Int))).length from (len_app_raw rfl rfl)) (pc (show ∀ zi,zi < (row ++ ([rpossible]:List (List Int))).length→(fun zi=>(fun x=>[encL cI 0 x]) ((row ++ ([rpossible]:List (List Int))).getD zi [])) zi=((fun zm=>if zm < row.length then (fun zi=>(fun x=>[encL cI 0 x]) (row.getD zi [])) zm else (fun zi=>([[(encL cI 0 rpossible)]]:List (List AV)).getD zi []) (zm - row.length))) zi from (get_app_raw (fun x=>[encL cI 0 x]) [] row ([rpossible]:List (List Int)) rfl (fun _ _=>rfl) (fun zq hzq=>get_chunk (fun x=>[encL cI 0 x]) [] ([rpossible]:List (List Int)) zq hzq))) pn))))))))))) ?_
   refine Runs.nR hE 1 [] [] (kp [1,6,8,9,40,41,42,47,48,49]) (kq [0,1,2,3,4,182]) 246 pn ?_
   exact Runs.nW hE 1 [] (kp [1,6,8,9,40,41,42,47,48,49]) (kq [0,1,2,3,4] ++ [(5,.keep 182)]) 6 pn (ih _ _ _ h E hE)
  ·obtain ⟨c5,h⟩:=ifSome h
   refine Runs.nR hE 1 [(6,⟨[],true,.unk,[(5,aO 1 (fun x=>[encL cI 0 x]) [] row)],0,true,none⟩)] [] (kp [1,6,40,41,42]) (kq [0] ++ [(1,.var 1 [.keep,.keep,.keep,.keep,.osl ((s ++ ([row]:List (List (List Int)))).length),.keep,.keep,.keep,.keep])] ++ kq [3] ++ [(134,.arr 134 ((s ++ ([row]:List (List (List Int)))).length) (fun zi=>(fun x=>[encL (fun x=>[encL cI 0 x]) [] x]) ((s ++ ([row]:List (List (List Int)))).getD zi [])))]) 198 (pc o1 (pc (show row.length≤row.length from (Nat.le_refl _)) (pc (show ∀ zi,zi < row.length→(fun zi=>(fun x=>[encL cI 0 x]) (row.getD zi [])) zi=(fun zi=>(fun x=>[encL cI 0 x]) (row.getD zi [])) zi from (fun _ _=>rfl)) (pc (Eq.refl row.length) (pc (Eq.refl s.length) (pc c5 (pc (z1 1) (pc (show ∀ zi,zi < 1→AV.oneL ((fun zi=>([[(encL (fun x=>[encL cI 0 x]) [] row)]]:List (List AV)).getD zi []) (addz 0 zi))=true from (oneN rfl)) (pc o1 (pc (show (s.length+1)=(s ++ ([row]:List (List (List Int)))).length from (len_app_raw rfl rfl)) (pc (show s.length+1=(s ++ ([row]:List (List (List Int)))).length from (len_app_raw rfl rfl)) (pc (show ∀ zi,zi < (s ++ ([row]:List (List (List Int)))).length→(fun zi=>(fun x=>[encL (fun x=>[encL cI 0 x]) [] x]) ((s ++ ([row]:List (List (List Int)))).getD zi [])) zi=((fun zm=>if zm < s.length then (fun zi=>(fun x=>[encL (fun x=>[encL cI 0 x]) [] x]) (s.getD zi [])) zm else (fun zi=>([[(encL (fun x=>[encL cI 0 x]) [] row)]]:List (List AV)).getD zi []) (zm - s.length))) zi from (get_app_raw (fun x=>[encL (fun x=>[encL cI 0 x]) [] x]) [] s ([row]:List (List (List Int))) rfl (fun _ _=>rfl) (fun zq hzq=>get_chunk (fun x=>[encL (fun x=>[encL cI 0 x]) [] x]) [] ([row]:List (List (List Int))) zq hzq))) pn)))))))))))) ?_
   refine Runs.nR hE 1 [] [] (kp [1,6,40,41,42]) (kq [0,1,3,134]) 230 pn ?_
   exact Runs.nW hE 1 [] (kp [1,6,40,41,42]) (kq [0,1] ++ [(2,.keep 134)] ++ kq [3]) 4 pn (hK_g_berth_Best_L1 _ _ _ h E hE)
def g_berth_Best_L3_H (N:Nat) (y:TYard) (s:List (List (List Int))) (x:Int) (K:(List Int)→Int→Option ((List TStay)×Int×Int)):Prop:=∀ (s2:List Int) (i:Int) (r:(List TStay)×Int×Int),K s2 i=some r→∀ E,EnvOk E 0→Runs Try.prog E 17 165 (SPost E [] (.tup [(encL TStay.cells TStay.d r.1),(aI r.2.1),(aI r.2.2)])) [.code (C_43 1012),.inLoop (C_43 1012),.inBlock 4,.code (C_43 127)] ⟨[(1,(.op 0 0 0)),(6,(.op 1 0 0)),(12,(aI i))],[(0,vO 4 (TYard.cells y)),(1,vN 9 [(encL TDock.cells TDock.d y.f_Docks),(encL TCall.cells TCall.d y.f_Calls),(encL TMark.cells TMark.d y.f_Sea),(aI y.f_Last),(.os 2 0 s.length),(.os 3 0 s2.length),.nil,.nil,(aI 0)]),(2,aO 1 (fun x=>[encL (fun x=>[encL cI 0 x]) [] x]) [] s),(3,aO 1 cI 0 s2)],4⟩
def g_berth_Best_L4_H (N:Nat) (y:TYard) (s:List (List (List Int))) (x:Int) (s2:List Int) (i:Int) (K:Int→Bool→Int→Option ((List TStay)×Int×Int)):Prop:=∀ (least:Int) (any:Bool) (x3:Int) (r:(List TStay)×Int×Int),K least any x3=some r→∀ E,EnvOk E 0→Runs Try.prog E 17 165 (SPost E [] (.tup [(encL TStay.cells TStay.d r.1),(aI r.2.1),(aI r.2.2)])) [.code (C_43 259220),.inLoop (C_43 259220),.inBlock 6,.code (C_43 32403),.inBlock 5,.code (C_43 4051),.inLoop (C_43 1012),.inBlock 4,.code (C_43 127)] ⟨[(1,(.op 0 0 0)),(6,(.op 1 0 0)),(12,(aI i)),(13,(aI least)),(14,(aB any)),(86,(encL (fun x=>[encL cI 0 x]) [] (s.getD ((i).toNat) []))),(87,(aI (((s.getD ((i).toNat) []).length:Nat):Int))),(88,(aI x3))],[(0,vO 4 (TYard.cells y)),(1,vN 9 [(encL TDock.cells TDock.d y.f_Docks),(encL TCall.cells TCall.d y.f_Calls),(encL TMark.cells TMark.d y.f_Sea),(aI y.f_Last),(.os 2 0 s.length),(.os 3 0 s2.length),.nil,.nil,(aI 0)]),(2,aO 1 (fun x=>[encL (fun x=>[encL cI 0 x]) [] x]) [] s),(3,aO 1 cI 0 s2)],4⟩
def g_berth_Best_J5_H (N:Nat) (y:TYard) (s:List (List (List Int))) (x:Int) (s2:List Int) (i:Int) (x3:Int) (K:Int→Bool→Option ((List TStay)×Int×Int)):Prop:=∀ (least2:Int) (any2:Bool) (r:(List TStay)×Int×Int),K least2 any2=some r→∀ E,EnvOk E 0→Runs Try.prog E 17 165 (SPost E [] (.tup [(encL TStay.cells TStay.d r.1),(aI r.2.1),(aI r.2.2)])) [.code (C_43 2073767),.inLoop (C_43 259220),.inBlock 6,.code (C_43 32403),.inBlock 5,.code (C_43 4051),.inLoop (C_43 1012),.inBlock 4,.code (C_43 127)] ⟨[(1,(.op 0 0 0)),(6,(.op 1 0 0)),(12,(aI i)),(13,(aI least2)),(14,(aB any2)),(86,(encL (fun x=>[encL cI 0 x]) [] (s.getD ((i).toNat) []))),(87,(aI (((s.getD ((i).toNat) []).length:Nat):Int))),(88,(aI x3))],[(0,vO 4 (TYard.cells y)),(1,vN 9 [(encL TDock.cells TDock.d y.f_Docks),(encL TCall.cells TCall.d y.f_Calls),(encL TMark.cells TMark.d y.f_Sea),(aI y.f_Last),(.os 2 0 s.length),(.os 3 0 s2.length),.nil,.nil,(aI 0)]),(2,aO 1 (fun x=>[encL (fun x=>[encL cI 0 x]) [] x]) [] s),(3,aO 1 cI 0 s2)],4⟩
theorem g_berth_Best_J5_ok (N:Nat) (y:TYard) (s:List (List (List Int))) (x:Int) (s2:List Int) (i:Int) (x3:Int) (K_g_berth_Best_L4:Int→Bool→Int→Option ((List TStay)×Int×Int)) (K_g_berth_Best_L3:(List Int)→Int→Option ((List TStay)×Int×Int)) (hK_g_berth_Best_L4:g_berth_Best_L4_H N y s x s2 i K_g_berth_Best_L4) (hK_g_berth_Best_L3:g_berth_Best_L3_H N y s x K_g_berth_Best_L3):g_berth_Best_J5_H N y s x s2 i x3 (g_berth_Best_J5 N y s x s2 i x3 K_g_berth_Best_L4 K_g_berth_Best_L3):=by
 intro least2 any2 r h E hE
 unfold g_berth_Best_J5 at h
 refine Runs.nR hE 0 [] [] (kp [1,6,12,13,14,86,87,88]) (kq [0,1,2,3]) 36 pn ?_
 exact Runs.nW hE 1 [] (kp [1,6,12,13,14,86,87,88]) (kq [0,1,2,3]) 4 pn (hK_g_berth_Best_L4 _ _ _ _ h E hE)
theorem g_berth_Best_L4_ok (N:Nat) (y:TYard) (s:List (List (List Int))) (x:Int) (s2:List Int) (i:Int) (K_g_berth_Best_L3:(List Int)→Int→Option ((List TStay)×Int×Int)) (hK_g_berth_Best_L3:g_berth_Best_L3_H N y s x K_g_berth_Best_L3) (fuel:Nat):g_berth_Best_L4_H N y s x s2 i (g_berth_Best_L4 N y s x s2 i K_g_berth_Best_L3 fuel):=by
 induction fuel with
 | zero=>intro _ _ _ r h;rw [g_berth_Best_L4.eq_1] at h;cases h
 | succ fuel ih =>
  intro least any x3 r h E hE
  rw [g_berth_Best_L4.eq_2] at h
  refine Runs.nR hE 1 [] [] (kp [1,6,12,13,14,86,87,88,89]) (kq [0,1,2,3]) 20 pn ?_
  refine Runs.nC 1 89 h (fun hq7 h=>?_) (fun hq7 h=>?_)
  ·obtain ⟨c7,h⟩:=ifSome h
   refine Runs.nR hE 4 [] [] (kp [1,6,12,13,14,16,86,87,88]) (kq [0,1,2,3]) 68 (pc c7 pn) ?_
   obtain ⟨c8,h⟩:=ifSome h
   obtain ⟨c9,h⟩:=ifSome h
   obtain ⟨rlate,hr3,h⟩:=bindSome h
   refine Runs.nR hE 1 [(15,⟨[],true,(aI rlate),[],0,false,none⟩)] [] (kp [1,6,12,13,14,16,86,87,88,111]) (kq [0,1,2,3]) 388 (pc (fun hg:(decide (((((s.getD ((i).toNat) []).getD ((x3).toNat) []).length:Nat):Int) > 0))=true=>(pc hg pn)) (pc (fun hg:((decide (((((s.getD ((i).toNat) []).getD ((x3).toNat) []).length:Nat):Int) > 0)) && ((decide (((((s.getD ((i).toNat) []).getD ((x3).toNat) []).length:Nat):Int) > 0)) && (!(!any))))=true=>(pc hg (pc o1 pn))) (pc (fun hg:((decide (((((s.getD ((i).toNat) []).getD ((x3).toNat) []).length:Nat):Int) > 0)) && ((decide (((((s.getD ((i).toNat) []).getD ((x3).toNat) []).length:Nat):Int) > 0)) && (!(!any))))=true=>(pc hg (pc hg (pc (c8 hg) pn)))) (pc (fun hg:((decide (((((s.getD ((i).toNat) []).getD ((x3).toNat) []).length:Nat):Int) > 0)) && ((decide (((((s.getD ((i).toNat) []).getD ((x3).toNat) []).length:Nat):Int) > 0)) && (!(!any))))=true=>(pc hg pn)) (pc (fun hg:((decide (((((s.getD ((i).toNat) []).getD ((x3).toNat) []).length:Nat):Int) > 0)) && ((decide (((((s.getD ((i).toNat) []).getD ((x3).toNat) []).length:Nat):Int) > 0)) && (!(!any))))=true=>(pc hg (pc (c9 hg) pn))) (pc (fun hg:((decide (((((s.getD ((i).toNat) []).getD ((x3).toNat) []).length:Nat):Int) > 0)) && ((decide (((((s.getD ((i).toNat) []).getD ((x3).toNat) []).length:Nat):Int) > 0)) && (!(!any))))=true=>(pc hg pn)) (pc (fun hg:((decide (((((s.getD ((i).toNat) []).getD ((x3).toNat) []).length:Nat):Int) > 0)) && ((decide (((((s.getD ((i).toNat) []).getD ((x3).toNat) []).length:Nat):Int) > 0)) && (!(!any))))=true=>(pc (g_berth_late_ok N (y.f_Calls.getD ((i).toNat) TCall.d) (((s.getD ((i).toNat) []).getD ((x3).toNat) []).getD 0 0) rlate (condT hr3 hg)) (pc hg (pc hg pn)))) (pc (fun hg:((decide (((((s.getD ((i).toNat) []).getD ((x3).toNat) []).length:Nat):Int) > 0)) && ((decide (((((s.getD ((i).toNat) []).getD ((x3).toNat) []).length:Nat):Int) > 0)) && (!(!any))))=true=>(pc hg (pc hg pn))) (pc (fun hg:(decide (((((s.getD ((i).toNat) []).getD ((x3).toNat) []).length:Nat):Int) > 0))=true=>(pc hg (pc hg (pc (fun hq:(!(!any))=true=>(pc (show ((decide (((((s.getD ((i).toNat) []).getD ((x3).toNat) []).length:Nat):Int) > 0)) && ((decide (((((s.getD ((i).toNat) []).getD ((x3).toNat) []).length:Nat):Int) > 0)) && (!(!any))))=true from (andI' hg (andI' hg hq))) pn)) pn)))) (pc (fun hq:(decide (((((s.getD ((i).toNat) []).getD ((x3).toNat) []).length:Nat):Int) > 0))=true=>(pc hq pn)) pn)))))))))) ?_
   refine Runs.nC 0 111 h (fun hq8 h=>?_) (fun hq8 h=>?_)
   ·obtain ⟨c10,h⟩:=ifSome h
    obtain ⟨c11,h⟩:=ifSome h
    obtain ⟨rlate2,hr4,h⟩:=bindSome h
    refine Runs.nR hE 0 [(8,⟨[],true,(aI rlate2),[],0,false,none⟩)] [] (kp [1,6,12,13,14,86,87,88]) (kq [0,1,2,3]) 564 (pc o1 (pc c10 (pc c11 (pc (g_berth_late_ok N (y.f_Calls.getD ((i).toNat) TCall.d) (((s.getD ((i).toNat) []).getD ((x3).toNat) []).getD 0 0) rlate2 hr4) pn)))) ?_
    exact Runs.nW hE 1 [] (kp [1,6,12,13,14,86,87,88]) (kq [0,1,2,3]) 4 pn (g_berth_Best_J5_ok N _ _ _ _ _ _ _ _ ih hK_g_berth_Best_L3 _ _ _ h E hE)
   ·exact Runs.nW hE 2 [] (kp [1,6,12,13,14,86,87,88]) (kq [0,1,2,3]) 4 pn (g_berth_Best_J5_ok N _ _ _ _ _ _ _ _ ih hK_g_berth_Best_L3 _ _ _ h E hE)
  ·refine Runs.nR hE 3 [] [] (kp [1,6,12,13,123]) (kq [0,1,2,3]) 52 pn ?_
   refine Runs.nC 0 123 h (fun hq9 h=>?_) (fun hq9 h=>?_)
   ·refine Runs.nR hE 1 [] [] (kp [2,3,4]) [] 100 pn ?_
    obtain rfl:=Option.some.inj h
    exact Runs.nT hE 0 Try.f17 [] ([(2,.sl (([]:List TStay).length) (fun zi=>TStay.cells (([]:List TStay).getD zi TStay.d)))] ++ kp [3,4]) [] 100 (pc (Eq.refl 0) pn) [] pn
   ·obtain ⟨c12,h⟩:=ifSome h
    obtain ⟨c13,h⟩:=ifSome h
    refine Runs.nR hE 1 [] [] (kp [1,6,12]) (kq [0] ++ [(1,.var 1 [.keep,.keep,.keep,.keep,.keep,.osl ((s2.set ((i).toNat) (w64 ((s2.getD ((w64 (i+1)).toNat) 0)+least))).length),.keep,.keep,.keep])] ++ kq [2] ++ [(3,.arr 3 ((s2.set ((i).toNat) (w64 ((s2.getD ((w64 (i+1)).toNat) 0)+least))).length) (fun zi=>cI ((s2.set ((i).toNat) (w64 ((s2.getD ((w64 (i+1)).toNat) 0)+least))).getD zi 0)))]) 324 (pc o1 (pc o1 (pc c12 (pc (ltOf c12) (pc c13 (pc (ltOf c13) (pc (len_set0 s2 ((i).toNat) (w64 ((s2.getD ((w64 (i+1)).toNat) 0)+least))) (pc (len_set0 s2 ((i).toNat) (w64 ((s2.getD ((w64 (i+1)).toNat) 0)+least))) (pc (get_set0 cI 0 s2 ((i).toNat) (w64 ((s2.getD ((w64 (i+1)).toNat) 0)+least))) pn))))))))) ?_
    refine Runs.nR hE 1 [] [] (kp [1,6,12]) (kq [0,1,2,3]) 372 pn ?_
    exact Runs.nW hE 1 [] (kp [1,6,12]) (kq [0,1,2,3]) 4 pn (hK_g_berth_Best_L3 _ _ _ h E hE)
theorem g_berth_Best_L3_ok (N:Nat) (y:TYard) (s:List (List (List Int))) (x:Int) (fuel:Nat):g_berth_Best_L3_H N y s x (g_berth_Best_L3 N y s x fuel):=by
 induction fuel with
 | zero=>intro _ _ r h;rw [g_berth_Best_L3.eq_1] at h;cases h
 | succ fuel ih =>
  intro s2 i r h E hE
  rw [g_berth_Best_L3.eq_2] at h
  refine Runs.nR hE 2 [] [] (kp [1,6,12,77]) (kq [0,1,2,3]) 36 pn ?_
  refine Runs.nC 0 77 h (fun hq6 h=>?_) (fun hq6 h=>?_)
  ·refine Runs.nR hE 4 [] [] (kp [1,6,12,13,14]) (kq [0,1,2,3]) 68 pn ?_
   obtain ⟨c6,h⟩:=ifSome h
   refine Runs.nR hE 2 [] [] (kp [1,6,12,13,14,86,87,88]) (kq [0,1,2,3]) 212 (pc o1 (pc c6 (pc (ltOf c6) pn))) ?_
   exact Runs.nW hE 2 [] (kp [1,6,12,13,14,86,87,88]) (kq [0,1,2,3]) 4 pn (g_berth_Best_L4_ok N _ _ _ _ _ _ ih N _ _ _ _ h E hE)
  ·refine Runs.nR hE 2 [] [] (kp [1,6]) (kq [0] ++ [(1,.var 1 [.keep,.keep,.keep,.keep,.keep,.keep,.osl (([]:List TStay).length),.keep,.keep])] ++ kq [2,3] ++ [(52,.arr 52 (([]:List TStay).length) (fun zi=>TStay.cells (([]:List TStay).getD zi TStay.d)))]) 116 (pc o1 (pc (Eq.refl 0) (pc (Eq.refl 0) (pc (show ∀ zi,zi < ([]:List TStay).length→(fun zi=>TStay.cells (([]:List TStay).getD zi TStay.d)) zi=(fun _=>[]) zi from (fun zq hzq=>absurd hzq (Nat.not_lt_zero _))) pn)))) ?_
   refine Runs.nX hE [] (kp [1,6]) (kq [0] ++ [(1,.var 1 [.keep,.keep,.keep,.keep,.keep,.keep,.keep,.nq (nqF false) (.nilos 116),.keep])] ++ kq [2,3,52] ++ [(116,.nil 3 (fun zi=>TStay.cells (([]:List TStay).getD zi TStay.d)))]) 132 (pc (show nqF false≠some false by decide) pn) ?_
   obtain ⟨rwalk,hr5,h⟩:=bindSome h
   refine Runs.nR hE 1 [(1,⟨[1,2,3,52,116],false,(.tup []),[(0,vN 9 [(encL TDock.cells TDock.d rwalk.f_y.f_Docks),(encL TCall.cells TCall.d rwalk.f_y.f_Calls),(encL TMark.cells TMark.d rwalk.f_y.f_Sea),(aI rwalk.f_y.f_Last),(.os 1 0 s.length),(.os 2 0 s2.length),(.os 5 0 rwalk.f_stays.length),(.nq (nqF rwalk.f_best.1) (.os 6 0 rwalk.f_best.2.length)),(aI rwalk.f_cost)]),(1,aO 1 (fun x=>[encL (fun x=>[encL cI 0 x]) [] x]) [] s),(2,aO 1 cI 0 s2),(5,aO 3 TStay.cells TStay.d rwalk.f_stays),(6,aO 3 TStay.cells TStay.d rwalk.f_best.2)],0,false,none⟩)] [] (kp [1,6]) (kq [0,1,2,3,148,149]) 164 (pc (g_berth_search_walk_ok N N 0 0 y.f_Docks y.f_Calls y.f_Sea y.f_Last false 0 s s2 ([]:List TStay) ([]:List TStay) rwalk hr5) pn) ?_
   rcases condSplit h with ⟨hN,h⟩ | ⟨hN,h⟩
   ·obtain ⟨hD,h⟩:=ifSome h
    refine Runs.sA 2 [.code (C_43 2044),.code (C_43 2045),.code (C_43 1023)] ?_
    refine Runs.splitNil 1 7 149 0 rwalk.f_best.2.length (vN 9 [(encL TDock.cells TDock.d rwalk.f_y.f_Docks),(encL TCall.cells TCall.d rwalk.f_y.f_Calls),(encL TMark.cells TMark.d rwalk.f_y.f_Sea),(aI rwalk.f_y.f_Last),(.os 2 0 s.length),(.os 3 0 s2.length),(.os 148 0 rwalk.f_stays.length),(.nq (nqF rwalk.f_best.1) (.os 149 0 rwalk.f_best.2.length)),(aI rwalk.f_cost)]) (nqF rwalk.f_best.1) (by kernel_rfl) (by kernel_rfl) (by kernel_rfl) (nq_n hN) ?_ ?_
    ·replace h:((cond (cond true (decide (((y.f_Calls.length:Nat):Int) > 0)) false) (some (([]:List TStay),0,29)) (some (rwalk.f_best.2,rwalk.f_cost,0))))=some r:=by rw [hD];exact h
     refine Runs.nR hE 0 [] [] (kp [6,156]) (kq [1,2,3,148,149]) 340 (pc o1 (pc (show (some true)=none→0 < rwalk.f_best.2.length from (fun hz=>by cases hz)) (pc (fun hg:true=true=>(pc hg (pc o1 pn))) (pc (fun hg:true=true=>(pc hg pn)) (pc (fun hg:true=true=>(pc hg pn)) (pc (fun hq:true=true=>(pc hq pn)) pn)))))) ?_
     refine Runs.nC 0 156 h (fun hq11 h=>?_) (fun hq11 h=>?_)
     ·refine Runs.nR hE 1 [] [] (kp [2,3,4]) [] 388 pn ?_
      obtain rfl:=Option.some.inj h
      exact Runs.nT hE 0 Try.f17 [] ([(2,.sl (([]:List TStay).length) (fun zi=>TStay.cells (([]:List TStay).getD zi TStay.d)))] ++ kp [3,4]) [] 388 (pc (Eq.refl 0) pn) [] pn
     ·refine Runs.nR hE 2 [] [] (kp [2,3,4]) (kq [149]) 516 (pc o1 (pc o1 pn)) ?_
      obtain rfl:=Option.some.inj h
      exact Runs.nT hE 0 Try.f17 [149] ([(2,.unq (.sl (rwalk.f_best.2.length) (fun zi=>TStay.cells (rwalk.f_best.2.getD zi TStay.d))))] ++ kp [3,4]) [] 516 (pc (Eq.refl rwalk.f_best.2.length) (pc (z1 rwalk.f_best.2.length) (pc (show ∀ zi,zi < rwalk.f_best.2.length→(fun zi=>TStay.cells (rwalk.f_best.2.getD zi TStay.d)) zi=(fun zi=>TStay.cells (rwalk.f_best.2.getD zi TStay.d)) (addz 0 zi) from (fun _ _=>rfl)) pn))) [] pn
    ·refine Runs.nR hE 0 [] [] (kp [6,156]) (kq [1,2,3,148,149]) 340 (pc o1 (pc (show (some false)=none→0 < rwalk.f_best.2.length from (fun hz=>by cases hz)) (pc (fun hg:false=true=>(pc hg (pc o1 pn))) (pc (fun hg:false=true=>(pc hg pn)) (pc (fun hg:false=true=>(pc hg pn)) (pc (fun hq:false=true=>(pc hq pn)) pn)))))) ?_
     refine Runs.nC 0 156 h (fun hq12 h=>?_) (fun hq12 h=>?_)
     ·refine Runs.nR hE 1 [] [] (kp [2,3,4]) [] 388 pn ?_
      obtain rfl:=Option.some.inj h
      exact Runs.nT hE 0 Try.f17 [] ([(2,.sl (([]:List TStay).length) (fun zi=>TStay.cells (([]:List TStay).getD zi TStay.d)))] ++ kp [3,4]) [] 388 (pc (Eq.refl 0) pn) [] pn
     ·refine Runs.nR hE 2 [] [] (kp [2,3,4]) (kq [149]) 516 (pc o1 (pc o1 pn)) ?_
      obtain rfl:=Option.some.inj h
      exact Runs.nT hE 0 Try.f17 [149] ([(2,.unq (.sl (rwalk.f_best.2.length) (fun zi=>TStay.cells (rwalk.f_best.2.getD zi TStay.d))))] ++ kp [3,4]) [] 516 (pc (Eq.refl rwalk.f_best.2.length) (pc (z1 rwalk.f_best.2.length) (pc (show ∀ zi,zi < rwalk.f_best.2.length→(fun zi=>TStay.cells (rwalk.f_best.2.getD zi TStay.d)) zi=(fun zi=>TStay.cells (rwalk.f_best.2.getD zi TStay.d)) (addz 0 zi) from (fun _ _=>rfl)) pn))) [] pn
   ·refine Runs.nR hE 2 [] [] (kp [6,156]) (kq [1,2,3,148,149]) 340 (pc o1 (pc (show nqF rwalk.f_best.1=none→0 < rwalk.f_best.2.length from (nq_ok hN)) (pc (fun hg:(nqB (nqF rwalk.f_best.1))=true=>(pc hg (pc o1 pn))) (pc (fun hg:(nqB (nqF rwalk.f_best.1))=true=>(pc hg pn)) (pc (fun hg:(nqB (nqF rwalk.f_best.1))=true=>(pc hg pn)) (pc (fun hq:(nqB (nqF rwalk.f_best.1))=true=>(pc hq pn)) pn)))))) ?_
    refine Runs.nC 0 156 h (fun hq10 h=>?_) (fun hq10 h=>?_)
    ·refine Runs.nR hE 1 [] [] (kp [2,3,4]) [] 388 pn ?_
     obtain rfl:=Option.some.inj h
     exact Runs.nT hE 0 Try.f17 [] ([(2,.sl (([]:List TStay).length) (fun zi=>TStay.cells (([]:List TStay).getD zi TStay.d)))] ++ kp [3,4]) [] 388 (pc (Eq.refl 0) pn) [] pn
    ·refine Runs.nR hE 2 [] [] (kp [2,3,4]) (kq [149]) 516 (pc o1 (pc o1 pn)) ?_
     obtain rfl:=Option.some.inj h
     exact Runs.nT hE 0 Try.f17 [149] ([(2,.unq (.sl (rwalk.f_best.2.length) (fun zi=>TStay.cells (rwalk.f_best.2.getD zi TStay.d))))] ++ kp [3,4]) [] 516 (pc (Eq.refl rwalk.f_best.2.length) (pc (z1 rwalk.f_best.2.length) (pc (show ∀ zi,zi < rwalk.f_best.2.length→(fun zi=>TStay.cells (rwalk.f_best.2.getD zi TStay.d)) zi=(fun zi=>TStay.cells (rwalk.f_best.2.getD zi TStay.d)) (addz 0 zi) from (fun _ _=>rfl)) pn))) [] pn
theorem g_berth_Best_L1_ok (N:Nat) (y:TYard) (fuel:Nat):g_berth_Best_L1_H N y (g_berth_Best_L1 N y fuel):=by
 induction fuel with
 | zero=>intro _ _ r h;rw [g_berth_Best_L1.eq_1] at h;cases h
 | succ fuel ih =>
  intro s x r h E hE
  rw [g_berth_Best_L1.eq_2] at h
  refine Runs.nR hE 1 [] [] (kp [1,6,40,41,42,43]) (kq [0,1,2,3]) 20 pn ?_
  refine Runs.nC 1 43 h (fun hq4 h=>?_) (fun hq4 h=>?_)
  ·obtain ⟨c2,h⟩:=ifSome h
   refine Runs.nR hE 4 [] [] (kp [1,6,8,40,41,42]) (kq [0,1,2,3,52]) 84 (pc c2 (pc o1 pn)) ?_
   refine Runs.nR hE 1 [] [] (kp [1,6,8,9,40,41,42]) (kq [0,1,2,3,52]) 100 pn ?_
   refine Runs.nR hE 2 [] [] (kp [1,6,8,9,40,41,42,47,48,49]) (kq [0,1,2,3,52]) 164 (pc o1 pn) ?_
   exact Runs.nW hE 2 [] (kp [1,6,8] ++ [(9,.nilos 5)] ++ kp [40,41,42,47,48,49]) (kq [0,1,2,3] ++ [(4,.keep 52),(5,.nil 1 (fun zi=>(fun x=>[encL cI 0 x]) (([]:List (List Int)).getD zi [])))]) 6 pn (g_berth_Best_L2_ok N _ _ _ _ ih N _ _ _ h E hE)
  ·refine Runs.nR hE 3 [] [] (kp [1,6,12]) (kq [0,1,2,3]) 100 (pc o1 pn) ?_
   exact Runs.nW hE 2 [] (kp [1,6,12]) (kq [0,1,2,3]) 4 pn (g_berth_Best_L3_ok N _ _ _ N _ _ _ h E hE)
theorem g_berth_Best_ok (N:Nat) (y:TYard) (r:(List TStay)×Int×Int) (h:g_berth_Best N y=some r):Sound Try.prog 17 [(.agg (TYard.cells y))] [] 0 (.tup [(encL TStay.cells TStay.d r.1),(aI r.2.1),(aI r.2.2)]) []:=by
 unfold g_berth_Best at h
 refine Sound.of_runs (fu:=Try.f17) (c:=C_43 1) (nt:=165) (by kernel_rfl) (by kernel_rfl) (by kernel_rfl) (by kernel_rfl) (fun hm=>rfl) ?_
 intro E hE
 refine Runs.nR hE 1 [] [] (kp [1]) (kq [0]) 64 pn ?_
 obtain ⟨rcheckYard,hr,h⟩:=bindSome h
 refine Runs.nR hE 2 [(1,⟨[],true,(aI rcheckYard),[],0,false,none⟩)] [] (kp [1,5]) (kq [0]) 112 (pc o1 (pc (g_berth_checkYard_ok N y rcheckYard hr) pn)) ?_
 refine Runs.nR hE 1 [] [] (kp [1,5,20]) (kq [0]) 144 pn ?_
 refine Runs.nC 0 20 h (fun hq2 h=>?_) (fun hq2 h=>?_)
 ·refine Runs.nR hE 1 [] [] (kp [2,3,4]) [] 208 pn ?_
  obtain rfl:=Option.some.inj h
  exact Runs.nT hE 0 Try.f17 [] ([(2,.sl (([]:List TStay).length) (fun zi=>TStay.cells (([]:List TStay).getD zi TStay.d)))] ++ kp [3,4]) [] 208 (pc (Eq.refl 0) pn) [] pn
 ·refine Runs.nR hE 3 [] [] (kp [1,30]) (kq [0]) 288 (pc o1 (pc (fun hg:(!(decide (((y.f_Calls.length:Nat):Int) > 4)))=true=>(pc hg (pc o1 pn))) (pc (fun hg:(!(decide (((y.f_Calls.length:Nat):Int) > 4)))=true=>(pc hg pn)) (pc (fun hq:(!(decide (((y.f_Calls.length:Nat):Int) > 4)))=true=>(pc hq pn)) pn)))) ?_
  refine Runs.nC 0 30 h (fun hq3 h=>?_) (fun hq3 h=>?_)
  ·refine Runs.nR hE 1 [] [] (kp [2,3,4]) [] 336 pn ?_
   obtain rfl:=Option.some.inj h
   exact Runs.nT hE 0 Try.f17 [] ([(2,.sl (([]:List TStay).length) (fun zi=>TStay.cells (([]:List TStay).getD zi TStay.d)))] ++ kp [3,4]) [] 336 (pc (Eq.refl 0) pn) [] pn
  ·obtain ⟨c,h⟩:=ifSome h
   refine Runs.nR hE 2 [] [] (kp [1,6]) (kq [0] ++ [(368,.arr 368 ((List.replicate ((w64 (((y.f_Calls.length:Nat):Int)+1)).toNat) 0:List Int).length) (fun zi=>cI ((List.replicate ((w64 (((y.f_Calls.length:Nat):Int)+1)).toNat) 0:List Int).getD zi 0))),(400,.var 400 [.keep,.keep,.keep,.keep,.keep,.osl ((List.replicate ((w64 (((y.f_Calls.length:Nat):Int)+1)).toNat) 0:List Int).length),.keep,.keep,.keep])]) 432 (pc o1 (pc o1 (pc (show 0≤(w64 (((y.f_Calls.length:Nat):Int)+1)) from c.1) (pc (show (w64 (((y.f_Calls.length:Nat):Int)+1))≤(w64 (((y.f_Calls.length:Nat):Int)+1)) from (Int.le_refl _)) (pc (show (8:Int) * (w64 (((y.f_Calls.length:Nat):Int)+1))≤281474976710656 from c.2.1) (pc (show (w64 (((y.f_Calls.length:Nat):Int)+1))≤9223372036854775807 from c.2.2) (pc (show (w64 (((y.f_Calls.length:Nat):Int)+1)).toNat=(List.replicate ((w64 (((y.f_Calls.length:Nat):Int)+1)).toNat) 0:List Int).length from (List.length_replicate).symm) (pc (show ∀ zi,zi < (List.replicate ((w64 (((y.f_Calls.length:Nat):Int)+1)).toNat) 0:List Int).length→(fun zi=>cI ((List.replicate ((w64 (((y.f_Calls.length:Nat):Int)+1)).toNat) 0:List Int).getD zi 0)) zi=(fun _=>[(aI 0)]) zi from (fun zq hzq=>get_rep cI 0 0 ((w64 (((y.f_Calls.length:Nat):Int)+1)).toNat) zq hzq)) (pc (show (w64 (((y.f_Calls.length:Nat):Int)+1)).toNat=(List.replicate ((w64 (((y.f_Calls.length:Nat):Int)+1)).toNat) 0:List Int).length from (List.length_replicate).symm) pn))))))))) ?_
   refine Runs.nR hE 2 [] [] (kp [1,6,40,41,42]) (kq [0,368,400]) 496 (pc o1 pn) ?_
   exact Runs.nW hE 2 [] (kp [1,6,40,41,42]) (kq [0] ++ [(1,.var 400 [.keep,.keep,.keep,.keep,.nilos 2,.keep,.keep,.keep,.keep]),(2,.nil 1 (fun zi=>(fun x=>[encL (fun x=>[encL cI 0 x]) [] x]) (([]:List (List (List Int))).getD zi []))),(3,.keep 368)]) 4 pn (g_berth_Best_L1_ok N _ N _ _ _ h E hE)
noncomputable def C_100 (n:Nat):Code:=cat (bodyOf Try.f20) (pth n)
def g_w06_names_L1_H (N:Nat) (s:List TStay) (K:Int→Option (Bool)):Prop:=∀ (i:Int) (r:Bool),K i=some r→∀ E,EnvOk E 0→Runs Try.prog E 20 29 (SPost E [] (aB r)) [.code (C_100 52),.inLoop (C_100 52),.inBlock 0,.code (C_100 7)] ⟨[(0,(encL TStay.cells TStay.d s)),(3,(aI i))],[],0⟩
theorem g_w06_names_L1_ok (N:Nat) (s:List TStay) (fuel:Nat):g_w06_names_L1_H N s (g_w06_names_L1 N s fuel):=by
 induction fuel with
 | zero=>intro _ r h;rw [g_w06_names_L1.eq_1] at h;cases h
 | succ fuel ih =>
  intro i r h E hE
  rw [g_w06_names_L1.eq_2] at h
  refine Runs.nR hE 2 [] [] (kp [0,3,7]) [] 64 pn ?_
  refine Runs.nC 0 7 h (fun hq2 h=>?_) (fun hq2 h=>?_)
  ·obtain ⟨c,h⟩:=ifSome h
   obtain ⟨c2,h⟩:=ifSome h
   refine Runs.nR hE 4 [] [] (kp [0,3,25]) [] 320 (pc c (pc (fun hg:(!(decide (((((s.getD ((i).toNat) TStay.d).f_Call).size:Nat):Int) > 40)))=true=>(pc hg (pc hg (pc (c2 hg) pn)))) (pc (fun hg:(!(decide (((((s.getD ((i).toNat) TStay.d).f_Call).size:Nat):Int) > 40)))=true=>(pc hg pn)) (pc (fun hg:(!(decide (((((s.getD ((i).toNat) TStay.d).f_Call).size:Nat):Int) > 40)))=true=>(pc hg pn)) (pc (fun hg:(!(decide (((((s.getD ((i).toNat) TStay.d).f_Call).size:Nat):Int) > 40)))=true=>(pc hg pn)) (pc (fun hg:(!(decide (((((s.getD ((i).toNat) TStay.d).f_Call).size:Nat):Int) > 40)))=true=>(pc hg pn)) (pc (fun hq:(!(decide (((((s.getD ((i).toNat) TStay.d).f_Call).size:Nat):Int) > 40)))=true=>(pc hq pn)) pn))))))) ?_
   refine Runs.nC 0 25 h (fun hq3 h=>?_) (fun hq3 h=>?_)
   ·refine Runs.nR hE 1 [] [] (kp [2]) [] 336 pn ?_
    obtain rfl:=Option.some.inj h
    exact Runs.nT hE 0 Try.f20 [] (kp [2]) [] 336 pn [] pn
   ·refine Runs.nR hE 2 [] [] (kp [0,3]) [] 368 pn ?_
    exact Runs.nW hE 1 [] (kp [0,3]) [] 0 pn (ih _ _ h E hE)
  ·refine Runs.nR hE 2 [] [] (kp [2]) [] 128 pn ?_
   obtain rfl:=Option.some.inj h
   exact Runs.nT hE 0 Try.f20 [] (kp [2]) [] 128 pn [] pn
theorem g_w06_names_ok (N:Nat) (s:List TStay) (r:Bool) (h:g_w06_names N s=some r):Sound Try.prog 20 [(encL TStay.cells TStay.d s)] [] 0 (aB r) []:=by
 unfold g_w06_names at h
 refine Sound.of_runs (fu:=Try.f20) (c:=C_100 1) (nt:=29) (by kernel_rfl) (by kernel_rfl) (by kernel_rfl) (by kernel_rfl) (fun hm=>rfl) ?_
 intro E hE
 refine Runs.nR hE 1 [] [] (kp [0]) [] 16 pn ?_
 refine Runs.nR hE 2 [] [] (kp [0,3]) [] 32 pn ?_
 exact Runs.nW hE 2 [] (kp [0,3]) [] 0 pn (g_w06_names_L1_ok N _ N _ _ h E hE)
noncomputable def C_104 (n:Nat):Code:=cat (bodyOf Try.f50) (pth n)
theorem g_berth_CheckStays_1_ok (N:Nat) (d:TDock) (cap0:TStay) (r:Bool) (h:g_berth_CheckStays_1 N d cap0=some r):Sound Try.prog 50 [(.agg (TDock.cells d)),(.op 0 0 0)] [(0,vO 3 (TStay.cells cap0))] 1 (aB r) [(0,vO 3 (TStay.cells cap0))]:=by
 unfold g_berth_CheckStays_1 at h
 refine Sound.of_runs (fu:=Try.f50) (c:=C_104 1) (nt:=9) (by kernel_rfl) (by kernel_rfl) (by kernel_rfl) (by kernel_rfl) (fun hm=>absurd hm (by decide)) ?_
 intro E hE
 refine Runs.nR hE 1 [] [] (kp [1,2]) (kq [0,1]) 33 pn ?_
 refine Runs.nR hE 1 [] [] (kp [3]) (kq [0]) 129 (pc o1 (pc o1 pn)) ?_
 obtain rfl:=Option.some.inj h
 exact Runs.nT hE 0 Try.f50 [] (kp [3]) (kq [0]) 129 pn [] pn
noncomputable def C_103 (n:Nat):Code:=cat (bodyOf Try.f49) (pth n)
def g_slices_IndexFunc_api_Dock_api_Dock_v2_L1_H (N:Nat) (s:List TDock) (cap0:TStay) (K:Int→Option (Int)):Prop:=∀ (x:Int) (r:Int),K x=some r→∀ E,EnvOk E 1→Runs Try.prog E 49 19 (SPost E [(0,vO 3 (TStay.cells cap0))] (aI r)) [.code (C_103 52),.inLoop (C_103 52),.inBlock 0,.code (C_103 7)] ⟨[(0,(encL TDock.cells TDock.d s)),(1,(.fn (.func 50) [] [(.op 0 0 0)])),(7,(aI ((s.length:Nat):Int))),(8,(aI x))],[(0,vO 3 (TStay.cells cap0))],1⟩
theorem g_slices_IndexFunc_api_Dock_api_Dock_v2_L1_ok (N:Nat) (s:List TDock) (cap0:TStay) (fuel:Nat):g_slices_IndexFunc_api_Dock_api_Dock_v2_L1_H N s cap0 (g_slices_IndexFunc_api_Dock_api_Dock_v2_L1 N s cap0 fuel):=by
 induction fuel with
 | zero=>intro _ r h;rw [g_slices_IndexFunc_api_Dock_api_Dock_v2_L1.eq_1] at h;cases h
 | succ fuel ih =>
  intro x r h E hE
  rw [g_slices_IndexFunc_api_Dock_api_Dock_v2_L1.eq_2] at h
  refine Runs.nR hE 1 [] [] (kp [0,1,7,8,9]) (kq [0]) 17 pn ?_
  refine Runs.nC 1 9 h (fun hq2 h=>?_) (fun hq2 h=>?_)
  ·refine Runs.nR hE 4 [] [] (kp [0,1,5,7,8]) (kq [0]) 49 pn ?_
   obtain ⟨c,h⟩:=ifSome h
   obtain ⟨rCheckStays1,hr,h⟩:=bindSome h
   refine Runs.nR hE 1 [(5,⟨[0],true,(aB rCheckStays1),[],0,false,none⟩)] [] (kp [0,1,5,7,8,16]) (kq [0]) 145 (pc c (pc (g_berth_CheckStays_1_ok N (s.getD ((x).toNat) TDock.d) cap0 rCheckStays1 hr) pn)) ?_
   refine Runs.nC 0 16 h (fun hq3 h=>?_) (fun hq3 h=>?_)
   ·refine Runs.nR hE 1 [] [] (kp [4]) (kq [0]) 177 pn ?_
    obtain rfl:=Option.some.inj h
    exact Runs.nT hE 0 Try.f49 [] (kp [4]) (kq [0]) 177 pn [] pn
   ·refine Runs.nR hE 2 [] [] (kp [0,1,7,8]) (kq [0]) 177 pn ?_
    exact Runs.nW hE 1 [] (kp [0,1,7,8]) (kq [0]) 1 pn (ih _ _ h E hE)
  ·refine Runs.nR hE 2 [] [] (kp [4]) (kq [0]) 33 pn ?_
   obtain rfl:=Option.some.inj h
   exact Runs.nT hE 0 Try.f49 [] (kp [4]) (kq [0]) 49 pn [] pn
theorem g_slices_IndexFunc_api_Dock_api_Dock_v2_ok (N:Nat) (s:List TDock) (cap0:TStay) (r:Int) (h:g_slices_IndexFunc_api_Dock_api_Dock_v2 N s cap0=some r):Sound Try.prog 49 [(encL TDock.cells TDock.d s),(.fn (.func 50) [] [(.op 0 0 0)])] [(0,vO 3 (TStay.cells cap0))] 1 (aI r) [(0,vO 3 (TStay.cells cap0))]:=by
 unfold g_slices_IndexFunc_api_Dock_api_Dock_v2 at h
 refine Sound.of_runs (fu:=Try.f49) (c:=C_103 1) (nt:=19) (by kernel_rfl) (by kernel_rfl) (by kernel_rfl) (by kernel_rfl) (fun hm=>absurd hm (by decide)) ?_
 intro E hE
 refine Runs.nR hE 1 [] [] (kp [0,1]) (kq [0]) 17 pn ?_
 refine Runs.nR hE 2 [] [] (kp [0,1,7,8]) (kq [0]) 65 pn ?_
 exact Runs.nW hE 2 [] (kp [0,1,7,8]) (kq [0]) 1 pn (g_slices_IndexFunc_api_Dock_api_Dock_v2_L1_ok N _ _ N _ _ h E hE)
noncomputable def C_107 (n:Nat):Code:=cat (bodyOf Try.f52) (pth n)
theorem g_berth_CheckStays_2_ok (N:Nat) (z:TStay) (cap0:TStay) (r:Bool) (h:g_berth_CheckStays_2 N z cap0=some r):Sound Try.prog 52 [(.agg (TStay.cells z)),(.op 0 0 0)] [(0,vO 3 (TStay.cells cap0))] 1 (aB r) [(0,vO 3 (TStay.cells cap0))]:=by
 unfold g_berth_CheckStays_2 at h
 refine Sound.of_runs (fu:=Try.f52) (c:=C_107 1) (nt:=9) (by kernel_rfl) (by kernel_rfl) (by kernel_rfl) (by kernel_rfl) (fun hm=>absurd hm (by decide)) ?_
 intro E hE
 refine Runs.nR hE 1 [] [] (kp [1,2]) (kq [0,1]) 33 pn ?_
 refine Runs.nR hE 1 [] [] (kp [3]) (kq [0]) 129 (pc o1 (pc o1 pn)) ?_
 obtain rfl:=Option.some.inj h
 exact Runs.nT hE 0 Try.f52 [] (kp [3]) (kq [0]) 129 pn [] pn
noncomputable def C_106 (n:Nat):Code:=cat (bodyOf Try.f83) (pth n)
def g_slices_IndexFunc_api_Stay_api_Stay_v2_L1_H (N:Nat) (s:List TStay) (cap0:TStay) (K:Int→Option (Int)):Prop:=∀ (x:Int) (r:Int),K x=some r→∀ E,EnvOk E 1→Runs Try.prog E 83 19 (SPost E [(0,vO 3 (TStay.cells cap0))] (aI r)) [.code (C_106 52),.inLoop (C_106 52),.inBlock 0,.code (C_106 7)] ⟨[(0,(encL TStay.cells TStay.d s)),(1,(.fn (.func 52) [] [(.op 0 0 0)])),(7,(aI ((s.length:Nat):Int))),(8,(aI x))],[(0,vO 3 (TStay.cells cap0))],1⟩
theorem g_slices_IndexFunc_api_Stay_api_Stay_v2_L1_ok (N:Nat) (s:List TStay) (cap0:TStay) (fuel:Nat):g_slices_IndexFunc_api_Stay_api_Stay_v2_L1_H N s cap0 (g_slices_IndexFunc_api_Stay_api_Stay_v2_L1 N s cap0 fuel):=by
 induction fuel with
 | zero=>intro _ r h;rw [g_slices_IndexFunc_api_Stay_api_Stay_v2_L1.eq_1] at h;cases h
 | succ fuel ih =>
  intro x r h E hE
  rw [g_slices_IndexFunc_api_Stay_api_Stay_v2_L1.eq_2] at h
  refine Runs.nR hE 1 [] [] (kp [0,1,7,8,9]) (kq [0]) 17 pn ?_
  refine Runs.nC 1 9 h (fun hq2 h=>?_) (fun hq2 h=>?_)
  ·refine Runs.nR hE 4 [] [] (kp [0,1,5,7,8]) (kq [0]) 49 pn ?_
   obtain ⟨c,h⟩:=ifSome h
   obtain ⟨rCheckStays2,hr,h⟩:=bindSome h
   refine Runs.nR hE 1 [(5,⟨[0],true,(aB rCheckStays2),[],0,false,none⟩)] [] (kp [0,1,5,7,8,16]) (kq [0]) 145 (pc c (pc (g_berth_CheckStays_2_ok N (s.getD ((x).toNat) TStay.d) cap0 rCheckStays2 hr) pn)) ?_
   refine Runs.nC 0 16 h (fun hq3 h=>?_) (fun hq3 h=>?_)
   ·refine Runs.nR hE 1 [] [] (kp [4]) (kq [0]) 177 pn ?_
    obtain rfl:=Option.some.inj h
    exact Runs.nT hE 0 Try.f83 [] (kp [4]) (kq [0]) 177 pn [] pn
   ·refine Runs.nR hE 2 [] [] (kp [0,1,7,8]) (kq [0]) 177 pn ?_
    exact Runs.nW hE 1 [] (kp [0,1,7,8]) (kq [0]) 1 pn (ih _ _ h E hE)
  ·refine Runs.nR hE 2 [] [] (kp [4]) (kq [0]) 33 pn ?_
   obtain rfl:=Option.some.inj h
   exact Runs.nT hE 0 Try.f83 [] (kp [4]) (kq [0]) 49 pn [] pn
theorem g_slices_IndexFunc_api_Stay_api_Stay_v2_ok (N:Nat) (s:List TStay) (cap0:TStay) (r:Int) (h:g_slices_IndexFunc_api_Stay_api_Stay_v2 N s cap0=some r):Sound Try.prog 83 [(encL TStay.cells TStay.d s),(.fn (.func 52) [] [(.op 0 0 0)])] [(0,vO 3 (TStay.cells cap0))] 1 (aI r) [(0,vO 3 (TStay.cells cap0))]:=by
 unfold g_slices_IndexFunc_api_Stay_api_Stay_v2 at h
 refine Sound.of_runs (fu:=Try.f83) (c:=C_106 1) (nt:=19) (by kernel_rfl) (by kernel_rfl) (by kernel_rfl) (by kernel_rfl) (fun hm=>absurd hm (by decide)) ?_
 intro E hE
 refine Runs.nR hE 1 [] [] (kp [0,1]) (kq [0]) 17 pn ?_
 refine Runs.nR hE 2 [] [] (kp [0,1,7,8]) (kq [0]) 65 pn ?_
 exact Runs.nW hE 2 [] (kp [0,1,7,8]) (kq [0]) 1 pn (g_slices_IndexFunc_api_Stay_api_Stay_v2_L1_ok N _ _ N _ _ h E hE)
noncomputable def C_105 (n:Nat):Code:=cat (bodyOf Try.f51) (pth n)
theorem g_slices_ContainsFunc_api_Stay_api_Stay_v2_ok (N:Nat) (s:List TStay) (cap0:TStay) (r:Bool) (h:g_slices_ContainsFunc_api_Stay_api_Stay_v2 N s cap0=some r):Sound Try.prog 51 [(encL TStay.cells TStay.d s),(.fn (.func 52) [] [(.op 0 0 0)])] [(0,vO 3 (TStay.cells cap0))] 1 (aB r) [(0,vO 3 (TStay.cells cap0))]:=by
 unfold g_slices_ContainsFunc_api_Stay_api_Stay_v2 at h
 refine Sound.of_runs (fu:=Try.f51) (c:=C_105 1) (nt:=9) (by kernel_rfl) (by kernel_rfl) (by kernel_rfl) (by kernel_rfl) (fun hm=>absurd hm (by decide)) ?_
 intro E hE
 refine Runs.nR hE 1 [] [] (kp [0,1]) (kq [0]) 17 pn ?_
 obtain ⟨rStay,hr,h⟩:=bindSome h
 refine Runs.nR hE 1 [(2,⟨[0],true,(aI rStay),[],0,false,none⟩)] [] (kp [4]) (kq [0]) 97 (pc (g_slices_IndexFunc_api_Stay_api_Stay_v2_ok N s cap0 rStay hr) pn) ?_
 obtain rfl:=Option.some.inj h
 exact Runs.nT hE 0 Try.f51 [] (kp [4]) (kq [0]) 97 pn [] pn
noncomputable def C_102 (n:Nat):Code:=cat (bodyOf Try.f22) (pth n)
def g_berth_CheckStays_L1_H (N:Nat) (y:TYard) (s:List TStay) (K:Int→Option (Int)):Prop:=∀ (x:Int) (r:Int),K x=some r→∀ E,EnvOk E 0→Runs Try.prog E 22 135 (SPost E [] (aI r)) [.code (C_102 244),.inLoop (C_102 244),.inBlock 0,.code (C_102 31)] ⟨[(1,(encL TStay.cells TStay.d s)),(2,(.op 0 0 0)),(28,(encL TStay.cells TStay.d s)),(29,(aI ((s.length:Nat):Int))),(30,(aI x))],[(0,vO 4 (TYard.cells y))],1⟩
def g_berth_CheckStays_L2_H (N:Nat) (y:TYard) (s:List TStay) (K:Int→Option (Int)):Prop:=∀ (x2:Int) (r:Int),K x2=some r→∀ E,EnvOk E 0→Runs Try.prog E 22 135 (SPost E [] (aI r)) [.code (C_102 500),.inLoop (C_102 500),.inBlock 3,.code (C_102 63)] ⟨[(1,(encL TStay.cells TStay.d s)),(2,(.op 0 0 0)),(114,(encL TStay.cells TStay.d s)),(115,(aI ((s.length:Nat):Int))),(116,(aI x2))],[(0,vO 4 (TYard.cells y))],1⟩
def g_berth_CheckStays_L3_H (N:Nat) (y:TYard) (s:List TStay) (x2:Int) (K:Int→Option (Int)):Prop:=∀ (x3:Int) (r:Int),K x3=some r→∀ E,EnvOk E 0→Runs Try.prog E 22 135 (SPost E [] (aI r)) [.code (C_102 128204),.inLoop (C_102 128204),.inBlock 5,.inBlock 4,.code (C_102 4007),.inLoop (C_102 500),.inBlock 3,.code (C_102 63)] ⟨[(1,(encL TStay.cells TStay.d s)),(2,(.op 0 0 0)),(14,(.op 1 0 0)),(114,(encL TStay.cells TStay.d s)),(115,(aI ((s.length:Nat):Int))),(116,(aI x2)),(123,(encL TStay.cells TStay.d ((s.take ((x2).toNat)).drop 0))),(124,(aI (((x2).toNat - 0:Nat):Int))),(125,(aI x3))],[(0,vO 4 (TYard.cells y)),(1,vO 3 (TStay.cells (s.getD ((x2).toNat) TStay.d)))],2⟩
theorem g_berth_CheckStays_L3_ok (N:Nat) (y:TYard) (s:List TStay) (x2:Int) (K_g_berth_CheckStays_L2:Int→Option (Int)) (hK_g_berth_CheckStays_L2:g_berth_CheckStays_L2_H N y s K_g_berth_CheckStays_L2) (fuel:Nat):g_berth_CheckStays_L3_H N y s x2 (g_berth_CheckStays_L3 N y s x2 K_g_berth_CheckStays_L2 fuel):=by
 induction fuel with
 | zero=>intro _ r h;rw [g_berth_CheckStays_L3.eq_1] at h;cases h
 | succ fuel ih =>
  intro x3 r h E hE
  rw [g_berth_CheckStays_L3.eq_2] at h
  refine Runs.nR hE 1 [] [] (kp [1,2,14,114,115,116,123,124,125,126]) (kq [0,1]) 18 pn ?_
  refine Runs.nC 1 126 h (fun hq12 h=>?_) (fun hq12 h=>?_)
  ·obtain ⟨c9,h⟩:=ifSome h
   refine Runs.nR hE 4 [] [] (kp [1,2,14,16,114,115,116,123,124,125]) (kq [0,1,50]) 82 (pc c9 (pc o1 pn)) ?_
   obtain ⟨roverlap,hr9,h⟩:=bindSome h
   refine Runs.nR hE 1 [(3,⟨[],true,(aB roverlap),[],0,false,none⟩)] [] (kp [1,2,14,114,115,116,123,124,125,132]) (kq [0,1]) 146 (pc o1 (pc o1 (pc o1 (pc (g_berth_overlap_ok N y (s.getD ((x2).toNat) TStay.d) (((s.take ((x2).toNat)).drop 0).getD ((x3).toNat) TStay.d) roverlap hr9) pn)))) ?_
   refine Runs.nC 0 132 h (fun hq13 h=>?_) (fun hq13 h=>?_)
   ·refine Runs.nR hE 1 [] [] (kp [4]) [] 162 pn ?_
    obtain rfl:=Option.some.inj h
    exact Runs.nT hE 0 Try.f22 [] (kp [4]) [] 162 pn [] pn
   ·refine Runs.nR hE 2 [] [] (kp [1,2,14,114,115,116,123,124,125]) (kq [0,1]) 178 pn ?_
    exact Runs.nW hE 1 [] (kp [1,2,14,114,115,116,123,124,125]) (kq [0,1]) 2 pn (ih _ _ h E hE)
  ·refine Runs.nR hE 2 [] [] (kp [1,2,114,115,116]) (kq [0]) 50 pn ?_
   exact Runs.nW hE 1 [] (kp [1,2,114,115,116]) (kq [0]) 1 pn (hK_g_berth_CheckStays_L2 _ _ h E hE)
theorem g_berth_CheckStays_L2_ok (N:Nat) (y:TYard) (s:List TStay) (fuel:Nat):g_berth_CheckStays_L2_H N y s (g_berth_CheckStays_L2 N y s fuel):=by
 induction fuel with
 | zero=>intro _ r h;rw [g_berth_CheckStays_L2.eq_1] at h;cases h
 | succ fuel ih =>
  intro x2 r h E hE
  rw [g_berth_CheckStays_L2.eq_2] at h
  refine Runs.nR hE 1 [] [] (kp [1,2,114,115,116,117]) (kq [0]) 17 pn ?_
  refine Runs.nC 1 117 h (fun hq11 h=>?_) (fun hq11 h=>?_)
  ·obtain ⟨c6,h⟩:=ifSome h
   refine Runs.nR hE 4 [] [] (kp [1,2,13,14,114,115,116]) (kq [0,65]) 113 (pc c6 (pc o1 pn)) ?_
   obtain ⟨c7,h⟩:=ifSome h
   obtain ⟨c8,h⟩:=ifSome h
   refine Runs.nR hE 1 [] [] (kp [1,2,14,114,115,116] ++ [(123,.sl (((s.take ((x2).toNat)).drop 0).length) (fun zi=>TStay.cells (((s.take ((x2).toNat)).drop 0).getD zi TStay.d)))] ++ kp [124,125]) (kq [0,65]) 193 (pc c7 (pc c8 (pc (show (x2).toNat - 0=((s.take ((x2).toNat)).drop 0).length from (len_ext' s 0 ((x2).toNat) c7)) (pc (show ∀ zi,zi < ((s.take ((x2).toNat)).drop 0).length→(fun zi=>TStay.cells (((s.take ((x2).toNat)).drop 0).getD zi TStay.d)) zi=(fun zi=>TStay.cells (s.getD (addz 0 zi) TStay.d)) zi from (fun zq hzq=>get_ext TStay.cells TStay.d s 0 ((x2).toNat) zq hzq)) pn)))) ?_
   exact Runs.nW hE 2 [] (kp [1,2,14,114,115,116,123,124,125]) (kq [0] ++ [(1,.keep 65)]) 2 pn (g_berth_CheckStays_L3_ok N _ _ _ _ ih N _ _ h E hE)
  ·refine Runs.nR hE 2 [] [] (kp [4]) [] 33 pn ?_
   obtain rfl:=Option.some.inj h
   exact Runs.nT hE 0 Try.f22 [] (kp [4]) [] 48 pn [] pn
theorem g_berth_CheckStays_L1_ok (N:Nat) (y:TYard) (s:List TStay) (fuel:Nat):g_berth_CheckStays_L1_H N y s (g_berth_CheckStays_L1 N y s fuel):=by
 induction fuel with
 | zero=>intro _ r h;rw [g_berth_CheckStays_L1.eq_1] at h;cases h
 | succ fuel ih =>
  intro x r h E hE
  rw [g_berth_CheckStays_L1.eq_2] at h
  refine Runs.nR hE 1 [] [] (kp [1,2,28,29,30,31]) (kq [0]) 17 pn ?_
  refine Runs.nC 1 31 h (fun hq4 h=>?_) (fun hq4 h=>?_)
  ·obtain ⟨c,h⟩:=ifSome h
   refine Runs.nR hE 4 [] [] (kp [1,2,6,7,28,29,30]) (kq [0,65]) 113 (pc c (pc o1 pn)) ?_
   obtain ⟨rcalled,hr2,h⟩:=bindSome h
   refine Runs.nR hE 1 [(4,⟨[],true,(aI rcalled),[],0,false,none⟩)] [] (kp [1,2,6,7,8,28,29,30]) (kq [0,65]) 209 (pc o1 (pc o1 (pc (g_berth_called_ok N y.f_Calls ((s.getD ((x).toNat) TStay.d).f_Call) rcalled hr2) pn))) ?_
   obtain ⟨rDock,hr3,h⟩:=bindSome h
   refine Runs.nR hE 1 [(3,⟨[65],true,(aI rDock),[],0,false,none⟩)] [] (kp [1,2,6,7,8,9,28,29,30]) (kq [0,65]) 289 (pc o1 (pc (g_slices_IndexFunc_api_Dock_api_Dock_v2_ok N y.f_Docks (s.getD ((x).toNat) TStay.d) rDock hr3) pn)) ?_
   refine Runs.nR hE 2 [] [] (kp [1,2,6,7,8,9,28,29,30,49]) (kq [0,65]) 385 (pc (fun hg:(!(decide (rcalled < 0)))=true=>(pc hg pn)) (pc (fun hq:(!(decide (rcalled < 0)))=true=>(pc hq pn)) pn)) ?_
   refine Runs.nC 0 49 h (fun hq5 h=>?_) (fun hq5 h=>?_)
   ·refine Runs.nR hE 1 [] [] (kp [4]) [] 401 pn ?_
    obtain rfl:=Option.some.inj h
    exact Runs.nT hE 0 Try.f22 [] (kp [4]) [] 401 pn [] pn
   ·obtain ⟨c2,h⟩:=ifSome h
    obtain ⟨c3,h⟩:=ifSome h
    refine Runs.nR hE 2 [] [] (kp [1,2,6,7,10,11,28,29,30]) (kq [0,65,545,561]) 609 (pc o1 (pc c2 (pc o1 (pc c3 (pc o1 (pc o1 pn)))))) ?_
    obtain ⟨c4,h⟩:=ifSome h
    obtain ⟨c5,h⟩:=ifSome h
    obtain ⟨rStay,hr4,h⟩:=bindSome h
    refine Runs.nR hE 3 [(4,⟨[65],true,(aB rStay),[],0,false,none⟩)] [] (kp [1,2,7,10,11,28,29,30,60]) (kq [0,65,545,561]) 705 (pc c4 (pc c5 (pc (show Sound Try.prog 51 [(.sl ((x).toNat - 0) (fun zi=>TStay.cells (s.getD (addz 0 zi) TStay.d))),(.fn (.func 52) [] [(.op 0 0 0)])] [(0,vO 3 (TStay.cells (s.getD ((x).toNat) TStay.d)))] 1 (aB rStay) [(0,vO 3 (TStay.cells (s.getD ((x).toNat) TStay.d)))] from (Sound.conv (g_slices_ContainsFunc_api_Stay_api_Stay_v2_ok N ((s.take ((x).toNat)).drop 0) (s.getD ((x).toNat) TStay.d) rStay hr4) (.cons (Alike.sl (len_ext' s 0 ((x).toNat) c4) (fun zq hzq=>get_ext TStay.cells TStay.d s 0 ((x).toNat) zq hzq)) (.cons (Alike.refl _) .nil)))) pn))) ?_
    refine Runs.nC 0 60 h (fun hq6 h=>?_) (fun hq6 h=>?_)
    ·refine Runs.nR hE 1 [] [] (kp [4]) [] 721 pn ?_
     obtain rfl:=Option.some.inj h
     exact Runs.nT hE 0 Try.f22 [] (kp [4]) [] 721 pn [] pn
    ·obtain ⟨rfits,hr5,h⟩:=bindSome h
     refine Runs.nR hE 1 [(2,⟨[],true,(aB rfits),[],0,false,none⟩)] [] (kp [1,2,7,10,11,28,29,30,66]) (kq [0,65,545,561]) 785 (pc o1 (pc o1 (pc (g_berth_fits_ok N (y.f_Docks.getD ((rDock).toNat) TDock.d) (y.f_Calls.getD ((rcalled).toNat) TCall.d) rfits hr5) pn))) ?_
     refine Runs.nC 0 66 h (fun hq7 h=>?_) (fun hq7 h=>?_)
     ·refine Runs.nR hE 1 [] [] (kp [4]) [] 801 pn ?_
      obtain rfl:=Option.some.inj h
      exact Runs.nT hE 0 Try.f22 [] (kp [4]) [] 801 pn [] pn
     ·refine Runs.nR hE 1 [] [] (kp [1,2,7,10,11,28,29,30,71]) (kq [0,65,545,561]) 881 (pc o1 (pc o1 pn)) ?_
      refine Runs.nC 0 71 h (fun hq8 h=>?_) (fun hq8 h=>?_)
      ·refine Runs.nR hE 1 [] [] (kp [4]) [] 897 pn ?_
       obtain rfl:=Option.some.inj h
       exact Runs.nT hE 0 Try.f22 [] (kp [4]) [] 897 pn [] pn
      ·refine Runs.nR hE 1 [] [] (kp [1,2,7,10,11,28,29,30,77]) (kq [0,65,545,561]) 1137 (pc o1 (pc o1 (pc (fun hg:(!(decide ((s.getD ((x).toNat) TStay.d).f_Day > y.f_Last)))=true=>(pc hg (pc o1 pn))) (pc (fun hg:(!(decide ((s.getD ((x).toNat) TStay.d).f_Day > y.f_Last)))=true=>(pc hg (pc o1 pn))) (pc (fun hg:(!(decide ((s.getD ((x).toNat) TStay.d).f_Day > y.f_Last)))=true=>(pc hg (pc hg pn))) (pc (fun hg:(!(decide ((s.getD ((x).toNat) TStay.d).f_Day > y.f_Last)))=true=>(pc hg (pc o1 pn))) (pc (fun hg:(!(decide ((s.getD ((x).toNat) TStay.d).f_Day > y.f_Last)))=true=>(pc hg (pc hg pn))) (pc (fun hq:(!(decide ((s.getD ((x).toNat) TStay.d).f_Day > y.f_Last)))=true=>(pc hq pn)) pn)))))))) ?_
       refine Runs.nC 0 77 h (fun hq9 h=>?_) (fun hq9 h=>?_)
       ·refine Runs.nR hE 1 [] [] (kp [4]) [] 1153 pn ?_
        obtain rfl:=Option.some.inj h
        exact Runs.nT hE 0 Try.f22 [] (kp [4]) [] 1153 pn [] pn
       ·obtain ⟨rdays,hr6,h⟩:=bindSome h
        refine Runs.nR hE 3 [(4,⟨[],true,(encL cI 0 rdays),[],0,false,none⟩)] [] (kp [1,2,7,10,12,28,29,30]) (kq [0,65,545]) 1233 (pc o1 (pc o1 (pc o1 (pc (g_berth_days_ok N (y.f_Docks.getD ((rDock).toNat) TDock.d) (y.f_Calls.getD ((rcalled).toNat) TCall.d) y.f_Sea rdays hr6) pn)))) ?_
        obtain ⟨rContains,hr7,h⟩:=bindSome h
        obtain ⟨rContains2,hr8,h⟩:=bindSome h
        refine Runs.nR hE 1 [(3,⟨[],true,(aB rContains),[],0,false,none⟩),(12,⟨[],true,(aB rContains2),[],0,false,none⟩)] [] (kp [1,2,28,29,30,112]) (kq [0]) 1473 (pc o1 (pc (g_slices_Contains_int_int_ok N rdays ((s.getD ((x).toNat) TStay.d).f_Day) rContains hr7) (pc (fun hg:(!(!rContains))=true=>(pc hg (pc o1 pn))) (pc (fun hg:(!(!rContains))=true=>(pc hg (pc o1 pn))) (pc (fun hg:(!(!rContains))=true=>(pc hg (pc hg pn))) (pc (fun hg:(!(!rContains))=true=>(pc (g_slices_Contains_int_int_ok N rdays (w64 ((s.getD ((x).toNat) TStay.d).f_Day+(y.f_Calls.getD ((rcalled).toNat) TCall.d).f_Work)) rContains2 (condT hr8 hg)) (pc hg (pc hg pn)))) (pc (fun hg:(!(!rContains))=true=>(pc hg pn)) (pc (fun hq:(!(!rContains))=true=>(pc hq pn)) pn)))))))) ?_
        refine Runs.nC 0 112 h (fun hq10 h=>?_) (fun hq10 h=>?_)
        ·refine Runs.nR hE 1 [] [] (kp [4]) [] 1489 pn ?_
         obtain rfl:=Option.some.inj h
         exact Runs.nT hE 0 Try.f22 [] (kp [4]) [] 1489 pn [] pn
        ·refine Runs.nR hE 2 [] [] (kp [1,2,28,29,30]) (kq [0]) 1505 pn ?_
         exact Runs.nW hE 1 [] (kp [1,2,28,29,30]) (kq [0]) 1 pn (ih _ _ h E hE)
  ·refine Runs.nR hE 3 [] [] (kp [1,2,114,115,116]) (kq [0]) 65 pn ?_
   exact Runs.nW hE 2 [] (kp [1,2,114,115,116]) (kq [0]) 1 pn (g_berth_CheckStays_L2_ok N _ _ N _ _ h E hE)
theorem g_berth_CheckStays_ok (N:Nat) (y:TYard) (s:List TStay) (r:Int) (h:g_berth_CheckStays N y s=some r):Sound Try.prog 22 [(.agg (TYard.cells y)),(encL TStay.cells TStay.d s)] [] 0 (aI r) []:=by
 unfold g_berth_CheckStays at h
 refine Sound.of_runs (fu:=Try.f22) (c:=C_102 1) (nt:=135) (by kernel_rfl) (by kernel_rfl) (by kernel_rfl) (by kernel_rfl) (fun hm=>rfl) ?_
 intro E hE
 refine Runs.nR hE 1 [] [] (kp [1,2]) (kq [0]) 32 pn ?_
 obtain ⟨rcheckYard,hr,h⟩:=bindSome h
 refine Runs.nR hE 2 [(1,⟨[],true,(aI rcheckYard),[],0,false,none⟩)] [] (kp [1,2,5]) (kq [0]) 80 (pc o1 (pc (g_berth_checkYard_ok N y rcheckYard hr) pn)) ?_
 refine Runs.nR hE 1 [] [] (kp [1,2,5,20]) (kq [0]) 112 pn ?_
 refine Runs.nC 0 20 h (fun hq2 h=>?_) (fun hq2 h=>?_)
 ·refine Runs.nR hE 1 [] [] (kp [4]) [] 144 pn ?_
  obtain rfl:=Option.some.inj h
  exact Runs.nT hE 0 Try.f22 [] (kp [4]) [] 144 pn [] pn
 ·refine Runs.nR hE 3 [] [] (kp [1,2,27]) (kq [0]) 208 (pc o1 pn) ?_
  refine Runs.nC 0 27 h (fun hq3 h=>?_) (fun hq3 h=>?_)
  ·refine Runs.nR hE 1 [] [] (kp [4]) [] 224 pn ?_
   obtain rfl:=Option.some.inj h
   exact Runs.nT hE 0 Try.f22 [] (kp [4]) [] 224 pn [] pn
  ·refine Runs.nR hE 3 [] [] (kp [1,2,28,29,30]) (kq [0]) 256 pn ?_
   exact Runs.nW hE 2 [] (kp [1,2,28,29,30]) (kq [0]) 1 pn (g_berth_CheckStays_L1_ok N _ _ N _ _ h E hE)
noncomputable def C_101 (n:Nat):Code:=cat (bodyOf Try.f21) (pth n)
def g_berth_Cost_L1_H (N:Nat) (y:TYard) (s:List TStay) (K:Int→Int→Option (Int×Int)):Prop:=∀ (sum:Int) (x:Int) (r:Int×Int),K sum x=some r→∀ E,EnvOk E 0→Runs Try.prog E 21 38 (SPost E [] (.tup [(aI r.1),(aI r.2)])) [.code (C_101 244),.inLoop (C_101 244),.inBlock 0,.code (C_101 31)] ⟨[(2,(.op 0 0 0)),(7,(aI sum)),(16,(encL TStay.cells TStay.d s)),(17,(aI ((s.length:Nat):Int))),(18,(aI x))],[(0,vO 4 (TYard.cells y))],1⟩
theorem g_berth_Cost_L1_ok (N:Nat) (y:TYard) (s:List TStay) (fuel:Nat):g_berth_Cost_L1_H N y s (g_berth_Cost_L1 N y s fuel):=by
 induction fuel with
 | zero=>intro _ _ r h;rw [g_berth_Cost_L1.eq_1] at h;cases h
 | succ fuel ih =>
  intro sum x r h E hE
  rw [g_berth_Cost_L1.eq_2] at h
  refine Runs.nR hE 1 [] [] (kp [2,7,16,17,18,19]) (kq [0]) 17 pn ?_
  refine Runs.nC 1 19 h (fun hq3 h=>?_) (fun hq3 h=>?_)
  ·obtain ⟨c,h⟩:=ifSome h
   refine Runs.nR hE 4 [] [] (kp [2,7,9,16,17,18]) (kq [0,49]) 81 (pc c (pc o1 pn)) ?_
   obtain ⟨rcalled,hr2,h⟩:=bindSome h
   obtain ⟨c2,h⟩:=ifSome h
   obtain ⟨rlate,hr3,h⟩:=bindSome h
   refine Runs.nR hE 0 [(7,⟨[],true,(aI rcalled),[],0,false,none⟩),(12,⟨[],true,(aI rlate),[],0,false,none⟩)] [] (kp [2,7,16,17,18]) (kq [0]) 321 (pc o1 (pc o1 (pc o1 (pc (g_berth_called_ok N y.f_Calls ((s.getD ((x).toNat) TStay.d).f_Call) rcalled hr2) (pc c2 (pc o1 (pc (g_berth_late_ok N (y.f_Calls.getD ((rcalled).toNat) TCall.d) ((s.getD ((x).toNat) TStay.d).f_Day) rlate hr3) pn))))))) ?_
   refine Runs.nR hE 1 [] [] (kp [2,7,16,17,18]) (kq [0]) 353 pn ?_
   exact Runs.nW hE 1 [] (kp [2,7,16,17,18]) (kq [0]) 1 pn (ih _ _ _ h E hE)
  ·refine Runs.nR hE 2 [] [] (kp [4,5]) [] 65 pn ?_
   obtain rfl:=Option.some.inj h
   exact Runs.nT hE 0 Try.f21 [] (kp [4,5]) [] 65 pn [] pn
theorem g_berth_Cost_ok (N:Nat) (y:TYard) (s:List TStay) (r:Int×Int) (h:g_berth_Cost N y s=some r):Sound Try.prog 21 [(.agg (TYard.cells y)),(encL TStay.cells TStay.d s)] [] 0 (.tup [(aI r.1),(aI r.2)]) []:=by
 unfold g_berth_Cost at h
 refine Sound.of_runs (fu:=Try.f21) (c:=C_101 1) (nt:=38) (by kernel_rfl) (by kernel_rfl) (by kernel_rfl) (by kernel_rfl) (fun hm=>rfl) ?_
 intro E hE
 refine Runs.nR hE 1 [] [] (kp [1,2]) (kq [0]) 48 pn ?_
 obtain ⟨rCheckStays,hr,h⟩:=bindSome h
 refine Runs.nR hE 2 [(2,⟨[],true,(aI rCheckStays),[],0,false,none⟩)] [] (kp [1,2,6]) (kq [0]) 112 (pc o1 (pc (g_berth_CheckStays_ok N y s rCheckStays hr) pn)) ?_
 refine Runs.nR hE 1 [] [] (kp [1,2,6,14]) (kq [0]) 144 pn ?_
 refine Runs.nC 0 14 h (fun hq2 h=>?_) (fun hq2 h=>?_)
 ·refine Runs.nR hE 1 [] [] (kp [4,5]) [] 192 pn ?_
  obtain rfl:=Option.some.inj h
  exact Runs.nT hE 0 Try.f21 [] (kp [4,5]) [] 192 pn [] pn
 ·refine Runs.nR hE 2 [] [] (kp [1,2,7]) (kq [0]) 160 pn ?_
  refine Runs.nR hE 2 [] [] (kp [2,7,16,17,18]) (kq [0]) 208 pn ?_
  exact Runs.nW hE 2 [] (kp [2,7,16,17,18]) (kq [0]) 1 pn (g_berth_Cost_L1_ok N _ _ N _ _ _ h E hE)
noncomputable def C_99 (n:Nat):Code:=cat (bodyOf Try.f6) (pth n)
def g_w06_BerthOptimal_J1_H (N:Nat) (y:TYard) (s:List TStay) (rBest:(List TStay)×Int×Int) (K:Option (Bool)):Prop:=∀ (r:Bool),K=some r→∀ E,EnvOk E 0→Runs Try.prog E 6 82 (SPost E [] (aB r)) [.code (C_99 126),.code (C_99 127)] ⟨[(1,(encL TStay.cells TStay.d s)),(2,(.op 0 0 0)),(6,(aI rBest.2.1)),(7,(aI rBest.2.2))],[(0,vO 4 (TYard.cells y))],1⟩
theorem g_w06_BerthOptimal_J1_ok (N:Nat) (y:TYard) (s:List TStay) (rBest:(List TStay)×Int×Int):g_w06_BerthOptimal_J1_H N y s rBest (g_w06_BerthOptimal_J1 N y s rBest):=by
 intro r h E hE
 unfold g_w06_BerthOptimal_J1 at h
 obtain ⟨rCost2,hr8,h⟩:=bindSome h
 refine Runs.nR hE 0 [(2,⟨[],true,(.tup [(aI rCost2.1),(aI rCost2.2)]),[],0,false,none⟩)] [] (kp [6,7,10,11]) [] 129 (pc o1 (pc (g_berth_Cost_ok N y s rCost2 hr8) pn)) ?_
 refine Runs.nR hE 1 [] [] (kp [4]) [] 321 (pc (fun hg:(!(rCost2.2 != 0))=true=>(pc hg pn)) (pc (fun hg:((!(rCost2.2 != 0)) && ((!(rCost2.2 != 0)) && (rBest.2.2 == 0)))=true=>(pc hg (pc hg pn))) (pc (fun hg:(!(rCost2.2 != 0))=true=>(pc hg (pc hg (pc (fun hq:(rBest.2.2 == 0)=true=>(pc (show ((!(rCost2.2 != 0)) && ((!(rCost2.2 != 0)) && (rBest.2.2 == 0)))=true from (andI' hg (andI' hg hq))) pn)) pn)))) (pc (fun hq:(!(rCost2.2 != 0))=true=>(pc hq pn)) pn)))) ?_
 obtain rfl:=Option.some.inj h
 exact Runs.nT hE 0 Try.f6 [] (kp [4]) [] 321 pn [] pn
theorem g_w06_BerthOptimal_ok (N:Nat) (y:TYard) (s:List TStay) (r:Bool) (h:g_w06_BerthOptimal N y s=some r):Sound Try.prog 6 [(.agg (TYard.cells y)),(encL TStay.cells TStay.d s)] [] 0 (aB r) []:=by
 unfold g_w06_BerthOptimal at h
 refine Sound.of_runs (fu:=Try.f6) (c:=C_99 1) (nt:=82) (by kernel_rfl) (by kernel_rfl) (by kernel_rfl) (by kernel_rfl) (fun hm=>rfl) ?_
 intro E hE
 refine Runs.nR hE 1 [] [] (kp [1,2]) (kq [0]) 32 pn ?_
 obtain ⟨rawake,hr,h⟩:=bindSome h
 refine Runs.nR hE 2 [(0,⟨[],true,(aB rawake),[],0,false,none⟩)] [] (kp [1,2,13]) (kq [0]) 64 (pc (g_w06_awake_ok N rawake hr) pn) ?_
 refine Runs.nC 0 13 h (fun hq2 h=>?_) (fun hq2 h=>?_)
 ·refine Runs.nR hE 1 [] [] (kp [4]) [] 80 pn ?_
  obtain rfl:=Option.some.inj h
  exact Runs.nT hE 0 Try.f6 [] (kp [4]) [] 80 pn [] pn
 ·obtain ⟨rquiet,hr2,h⟩:=bindSome h
  obtain ⟨rnames,hr3,h⟩:=bindSome h
  obtain ⟨rfew,hr4,h⟩:=bindSome h
  refine Runs.nR hE 3 [(1,⟨[],true,(aB rquiet),[],0,false,none⟩),(5,⟨[],true,(aB rnames),[],0,false,none⟩),(10,⟨[],true,(aB rfew),[],0,false,none⟩)] [] (kp [1,2,37]) (kq [0]) 448 (pc o1 (pc (g_w06_quiet_ok N y rquiet hr2) (pc (fun hg:(!(!rquiet))=true=>(pc (g_w06_names_ok N s rnames (condT hr3 hg)) (pc hg pn))) (pc (fun hg:(!(!rquiet))=true=>(pc hg pn)) (pc (fun hq:(!(!rquiet))=true=>(pc hq pn)) (pc (fun hg:(!(cond (!rquiet) true (!rnames)))=true=>(pc o1 pn)) (pc (fun hg:(!(cond (!rquiet) true (!rnames)))=true=>(pc (g_w06_few_ok N y rfew (condT hr4 hg)) (pc hg pn))) (pc (fun hg:(!(cond (!rquiet) true (!rnames)))=true=>(pc hg pn)) (pc (fun hq:(!(cond (!rquiet) true (!rnames)))=true=>(pc hq pn)) (pc (fun hg:(!(cond (cond (!rquiet) true (!rnames)) true (!rfew)))=true=>(pc hg (pc o1 pn))) (pc (fun hg:(!(cond (cond (!rquiet) true (!rnames)) true (!rfew)))=true=>(pc hg pn)) (pc (fun hg:(!(cond (cond (!rquiet) true (!rnames)) true (!rfew)))=true=>(pc hg pn)) (pc (fun hq:(!(cond (cond (!rquiet) true (!rnames)) true (!rfew)))=true=>(pc hq pn)) (pc (fun hg:(!(cond (cond (cond (!rquiet) true (!rnames)) true (!rfew)) true (decide (((y.f_Calls.length:Nat):Int) > 4))))=true=>(pc hg (pc o1 pn))) (pc (fun hg:(!(cond (cond (cond (!rquiet) true (!rnames)) true (!rfew)) true (decide (((y.f_Calls.length:Nat):Int) > 4))))=true=>(pc hg pn)) (pc (fun hq:(!(cond (cond (cond (!rquiet) true (!rnames)) true (!rfew)) true (decide (((y.f_Calls.length:Nat):Int) > 4))))=true=>(pc hq pn)) pn)))))))))))))))) ?_
  refine Runs.nC 0 37 h (fun hq3 h=>?_) (fun hq3 h=>?_)
  ·refine Runs.nR hE 1 [] [] (kp [4]) [] 464 pn ?_
   obtain rfl:=Option.some.inj h
   exact Runs.nT hE 0 Try.f6 [] (kp [4]) [] 464 pn [] pn
  ·obtain ⟨rBest,hr5,h⟩:=bindSome h
   refine Runs.nR hE 2 [(1,⟨[],true,(.tup [(encL TStay.cells TStay.d rBest.1),(aI rBest.2.1),(aI rBest.2.2)]),[],0,false,none⟩)] [] (kp [1,2,5,6,7]) (kq [0]) 592 (pc o1 (pc (g_berth_Best_ok N y rBest hr5) pn)) ?_
   refine Runs.nR hE 2 [] [] (kp [1,2,5,6,7,45]) (kq [0]) 624 pn ?_
   refine Runs.nC 0 45 h (fun hq4 h=>?_) (fun hq4 h=>?_)
   ·obtain ⟨rCost,hr6,h⟩:=bindSome h
    refine Runs.nR hE 1 [(2,⟨[],true,(.tup [(aI rCost.1),(aI rCost.2)]),[],0,false,none⟩)] [] (kp [1,2,5,6,7,8,9]) (kq [0]) 752 (pc o1 (pc (g_berth_Cost_ok N y rBest.1 rCost hr6) pn)) ?_
    obtain ⟨rCheckStays,hr7,h⟩:=bindSome h
    refine Runs.nR hE 1 [(2,⟨[],true,(aI rCheckStays),[],0,false,none⟩)] [] (kp [1,2,6,7,64]) (kq [0]) 960 (pc o1 (pc (g_berth_CheckStays_ok N y rBest.1 rCheckStays hr7) (pc (fun hg:(!(rCheckStays != 0))=true=>(pc hg pn)) (pc (fun hq:(!(rCheckStays != 0))=true=>(pc hq pn)) (pc (fun hg:(!(cond (rCheckStays != 0) true (rCost.2 != 0)))=true=>(pc hg (pc hg pn))) (pc (fun hq:(!(cond (rCheckStays != 0) true (rCost.2 != 0)))=true=>(pc hq pn)) pn)))))) ?_
    refine Runs.nC 0 64 h (fun hq5 h=>?_) (fun hq5 h=>?_)
    ·refine Runs.nR hE 1 [] [] (kp [4]) [] 976 pn ?_
     obtain rfl:=Option.some.inj h
     exact Runs.nT hE 0 Try.f6 [] (kp [4]) [] 976 pn [] pn
    ·exact Runs.nW hE 2 [] (kp [1,2,6,7]) (kq [0]) 1 pn (g_w06_BerthOptimal_J1_ok N _ _ _ _ h E hE)
   ·exact Runs.nW hE 2 [] (kp [1,2,6,7]) (kq [0]) 1 pn (g_w06_BerthOptimal_J1_ok N _ _ _ _ h E hE)
end Go.Den
