/- Each function of the program does what its Lean function computes (part 4). No conditions. -/
import Derived.Test.YtkkolmlgedjmnaaGreatWaterConflictsSc
import Derived.Test.YtkkolmlgedjmnaaGreatProg
set_option linter.unusedVariables false
set_option maxRecDepth 100000
namespace Go.Den
open Go.Ab Go.Proofs Go.Ab.Runs
noncomputable def C_112 (n:Nat):Code:=cat (bodyOf Tryz.f11) (pth n)
theorem g_b_Texts_L1_ok (N:Nat) (a:List ByteArray) (b:List ByteArray) (fuel:Nat):∀ (i:Int) (r:Bool),g_b_Texts_L1 N a b fuel i=some r→∀ E,EnvOk E 0→Runs Tryz.prog E 11 26 (SPost E [] (aB r)) [.code (C_112 116),.inLoop (C_112 116),.inBlock 0,.code (C_112 15)] ⟨[(0,(encL cS ByteArray.empty a)),(1,(encL cS ByteArray.empty b)),(5,(aI i))],[],0⟩:=by
 induction fuel with
 | zero=>intro _ r h;rw [g_b_Texts_L1.eq_1] at h;cases h
 | succ fuel ih =>
  intro i r h E hE
  rw [g_b_Texts_L1.eq_2] at h
  refine sA 2 [.code (C_112 464),.code (C_112 465),.code (C_112 233),.inLoop (C_112 116),.inBlock 0,.code (C_112 15)] ?_
  refine sR hE ⟨[(0,(encL cS ByteArray.empty a)),(1,(encL cS ByteArray.empty b)),(5,(aI i)),(14,(aB (decide (i < ((a.length:Nat):Int)))))],[],64⟩ (C_112 464) [] [] (kp [0,1,5,14]) [] 64 [] trivial ?_
  refine sC 14 (C_112 930) (C_112 931) (decide (i < ((a.length:Nat):Int))) (fun hq3=>?_) (fun hq3=>?_)
  ·have h:=condT h hq3
   refine sA 4 [.code (C_112 1864),.code (C_112 1865),.inBlock 1,.code (C_112 467),.inLoop (C_112 116),.inBlock 0,.code (C_112 15)] ?_
   obtain ⟨c,h⟩:=ifSome h
   obtain ⟨c2,h⟩:=ifSome h
   refine sR hE ⟨[(0,(encL cS ByteArray.empty a)),(1,(encL cS ByteArray.empty b)),(5,(aI i)),(25,(aB (!(streq (a.getD ((i).toNat) ByteArray.empty) (b.getD ((i).toNat) ByteArray.empty)))))],[],208⟩ (C_112 1864) [] [] (kp [0,1,5,25]) [] 208 [0≤i∧i < ((a.length:Nat):Int),0≤i∧i < ((b.length:Nat):Int)] ⟨c,c2,trivial⟩ ?_
   refine sC 25 (C_112 3730) (C_112 3731) (!(streq (a.getD ((i).toNat) ByteArray.empty) (b.getD ((i).toNat) ByteArray.empty))) (fun hq4=>?_) (fun hq4=>?_)
   ·have h:=condT h hq4
    refine sA 1 [.code (C_112 7460),.code (C_112 7461),.inBlock 1,.code (C_112 467),.inLoop (C_112 116),.inBlock 0,.code (C_112 15)] ?_
    refine sR hE ⟨[(4,(aB false))],[],224⟩ (C_112 7460) [] [] (kp [4]) [] 224 [] trivial ?_
    obtain rfl:=Option.some.inj h
    refine sW hE ⟨[(4,(aB false))],[],224⟩ [] (kp [4]) [] 224 [] trivial ?_
    exact sT Tryz.f11 [] [] trivial
   ·have h:=condF h hq4
    refine sA 2 [.code (C_112 467),.inLoop (C_112 116),.inBlock 0,.code (C_112 15)] ?_
    refine sR hE ⟨[(0,(encL cS ByteArray.empty a)),(1,(encL cS ByteArray.empty b)),(5,(aI (w64 (i+1))))],[],256⟩ (C_112 467) [] [] (kp [0,1,5]) [] 256 [] trivial ?_
    refine sA 1 [.code (C_112 116),.inLoop (C_112 116),.inBlock 0,.code (C_112 15)] ?_
    exact sW hE _ [] (kp [0,1,5]) [] 0 [] trivial (ih (w64 (i+1)) _ h E hE)
  ·have h:=condF h hq3
   refine sA 2 [.code (C_112 30),.code (C_112 31)] ?_
   refine sR hE ⟨[(4,(aB true))],[],80⟩ (C_112 30) [] [] (kp [4]) [] 80 [] trivial ?_
   obtain rfl:=Option.some.inj h
   refine sW hE ⟨[(4,(aB true))],[],80⟩ [] (kp [4]) [] 80 [] trivial ?_
   exact sT Tryz.f11 [] [] trivial
theorem g_b_Texts_ok (N:Nat) (a:List ByteArray) (b:List ByteArray) (r:Bool) (h:g_b_Texts N a b=some r):Sd 11 [(encL cS ByteArray.empty a),(encL cS ByteArray.empty b)] [] 0 (aB r) []:=by
 unfold g_b_Texts at h
 refine Sound.of_runs (fu:=Tryz.f11) (c:=C_112 1) (nt:=26) (by kernel_rfl) (by kernel_rfl) (by kernel_rfl) (by kernel_rfl) (fun hm=>rfl) ?_
 intro E hE
 refine sA 1 [.code (C_112 2),.code (C_112 3)] ?_
 refine sR hE ⟨[(0,(encL cS ByteArray.empty a)),(1,(encL cS ByteArray.empty b))],[],16⟩ (C_112 2) [] [] (kp [0,1]) [] 16 [] trivial ?_
 refine sA 2 [.code (C_112 12),.code (C_112 13),.code (C_112 7)] ?_
 refine sR hE ⟨[(0,(encL cS ByteArray.empty a)),(1,(encL cS ByteArray.empty b)),(10,(aB (((a.length:Nat):Int) != ((b.length:Nat):Int))))],[],96⟩ (C_112 12) [] [] (kp [0,1,10]) [] 96 [] trivial ?_
 refine sC 10 (C_112 26) (C_112 27) (((a.length:Nat):Int) != ((b.length:Nat):Int)) (fun hq2=>?_) (fun hq2=>?_)
 ·have h:=condT h hq2
  refine sA 1 [.code (C_112 52),.code (C_112 53),.code (C_112 7)] ?_
  refine sR hE ⟨[(4,(aB false))],[],112⟩ (C_112 52) [] [] (kp [4]) [] 112 [] trivial ?_
  obtain rfl:=Option.some.inj h
  refine sW hE ⟨[(4,(aB false))],[],112⟩ [] (kp [4]) [] 112 [] trivial ?_
  exact sT Tryz.f11 [] [] trivial
 ·have h:=condF h hq2
  refine sA 3 [.code (C_112 28),.code (C_112 29),.code (C_112 15)] ?_
  refine sR hE ⟨[(0,(encL cS ByteArray.empty a)),(1,(encL cS ByteArray.empty b)),(5,(aI 0))],[],112⟩ (C_112 28) [] [] (kp [0,1,5]) [] 112 [] trivial ?_
  refine sA 2 [.code (C_112 116),.inLoop (C_112 116),.inBlock 0,.code (C_112 15)] ?_
  exact sW hE _ [] (kp [0,1,5]) [] 0 [] trivial (g_b_Texts_L1_ok N a b N 0 _ h E hE)
noncomputable def C_0 (n:Nat):Code:=cat (bodyOf Tryz.f3) (pth n)
theorem g_w05_WaterConflicts_L3_ok (N:Nat) (p:TPn) (l:TLimits) (rConflict:(List ByteArray)×Int) (fuel:Nat):∀ (i:Int) (r:Bool),g_w05_WaterConflicts_L3 N p l rConflict fuel i=some r→∀ E,EnvOk E 0→Runs Tryz.prog E 3 86 (SPost E [] (aB r)) [.code (C_0 65524),.inLoop (C_0 65524),.inBlock 0,.code (C_0 8191)] ⟨[(2,(.op 0 0 0)),(3,(.op 1 0 0)),(5,(encL cS ByteArray.empty rConflict.1)),(8,(aI i))],[(0,vO 5 (TPn.cells p)),(1,vO 5 (TLimits.cells l))],2⟩:=by
 induction fuel with
 | zero=>intro _ r h;rw [g_w05_WaterConflicts_L3.eq_1] at h;cases h
 | succ fuel ih =>
  intro i r h E hE
  rw [g_w05_WaterConflicts_L3.eq_2] at h
  refine sA 2 [.code (C_0 262096),.code (C_0 262097),.code (C_0 131049),.inLoop (C_0 65524),.inBlock 0,.code (C_0 8191)] ?_
  refine sR hE ⟨[(2,(.op 0 0 0)),(3,(.op 1 0 0)),(5,(encL cS ByteArray.empty rConflict.1)),(8,(aI i)),(68,(aB (decide (i < ((rConflict.1.length:Nat):Int)))))],[(0,vO 5 (TPn.cells p)),(1,vO 5 (TLimits.cells l))],66⟩ (C_0 262096) [] [] (kp [2,3,5,8,68]) (kq [0,1]) 66 [] trivial ?_
  refine sC 68 (C_0 524194) (C_0 524195) (decide (i < ((rConflict.1.length:Nat):Int))) (fun hq10=>?_) (fun hq10=>?_)
  ·have h:=condT h hq10
   refine sA 4 [.code (C_0 1048392),.code (C_0 1048393),.inBlock 1,.code (C_0 262099),.inLoop (C_0 65524),.inBlock 0,.code (C_0 8191)] ?_
   obtain ⟨c,h⟩:=ifSome h
   obtain ⟨c2,h⟩:=ifSome h
   obtain ⟨c3,h⟩:=ifSome h
   obtain ⟨c4,h⟩:=ifSome h
   obtain ⟨c5,h⟩:=ifSome h
   obtain ⟨c6,h⟩:=ifSome h
   refine sR hE ⟨[(2,(.op 0 0 0)),(3,(.op 1 0 0)),(5,(encL cS ByteArray.empty rConflict.1)),(8,(aI i)),(9,(.os 210 0 (((([]:List ByteArray) ++ ((rConflict.1.take ((i).toNat)).drop 0)) ++ ((rConflict.1.take rConflict.1.length).drop ((w64 (i+1)).toNat))).length)))],[(0,vO 5 (TPn.cells p)),(1,vO 5 (TLimits.cells l)),(210,aO 1 cS ByteArray.empty ((([]:List ByteArray) ++ ((rConflict.1.take ((i).toNat)).drop 0)) ++ ((rConflict.1.take rConflict.1.length).drop ((w64 (i+1)).toNat))))],242⟩ (C_0 1048392) [] [] (kp [2,3,5,8] ++ [(9,.osl (((([]:List ByteArray) ++ ((rConflict.1.take ((i).toNat)).drop 0)) ++ ((rConflict.1.take rConflict.1.length).drop ((w64 (i+1)).toNat))).length))]) (kq [0,1] ++ [(210,.arr 210 (((([]:List ByteArray) ++ ((rConflict.1.take ((i).toNat)).drop 0)) ++ ((rConflict.1.take rConflict.1.length).drop ((w64 (i+1)).toNat))).length) (fun zi=>cS (((([]:List ByteArray) ++ ((rConflict.1.take ((i).toNat)).drop 0)) ++ ((rConflict.1.take rConflict.1.length).drop ((w64 (i+1)).toNat))).getD zi ByteArray.empty)))]) 242 [0≤(i).toNat∧(i).toNat≤rConflict.1.length,0≤i,0=0,(0+((i).toNat - 0)) * 16≤140737488355328,∀ zi,zi < ((i).toNat - 0)→AV.oneL ((fun zi=>cS (rConflict.1.getD (addz 0 zi) ByteArray.empty)) zi)=true,(w64 (i+1)).toNat≤rConflict.1.length∧rConflict.1.length≤rConflict.1.length,0≤(w64 (i+1)),(0+((i).toNat - 0))=0+((i).toNat - 0),((0+((i).toNat - 0))+(rConflict.1.length - (w64 (i+1)).toNat)) * 16≤140737488355328,∀ zi,zi < (rConflict.1.length - (w64 (i+1)).toNat)→AV.oneL ((fun zi=>cS (rConflict.1.getD (addz ((w64 (i+1)).toNat) zi) ByteArray.empty)) zi)=true,((0+((i).toNat - 0))+(rConflict.1.length - (w64 (i+1)).toNat))=((([]:List ByteArray) ++ ((rConflict.1.take ((i).toNat)).drop 0)) ++ ((rConflict.1.take rConflict.1.length).drop ((w64 (i+1)).toNat))).length,(0+((i).toNat - 0))+(rConflict.1.length - (w64 (i+1)).toNat)=((([]:List ByteArray) ++ ((rConflict.1.take ((i).toNat)).drop 0)) ++ ((rConflict.1.take rConflict.1.length).drop ((w64 (i+1)).toNat))).length,∀ zi,zi < ((([]:List ByteArray) ++ ((rConflict.1.take ((i).toNat)).drop 0)) ++ ((rConflict.1.take rConflict.1.length).drop ((w64 (i+1)).toNat))).length→(fun zi=>cS (((([]:List ByteArray) ++ ((rConflict.1.take ((i).toNat)).drop 0)) ++ ((rConflict.1.take rConflict.1.length).drop ((w64 (i+1)).toNat))).getD zi ByteArray.empty)) zi=((fun zm=>if zm < (0+((i).toNat - 0)) then ((fun zm=>if zm < 0 then (fun _=>[]) zm else (fun zi=>cS (rConflict.1.getD (addz 0 zi) ByteArray.empty)) (zm - 0))) zm else (fun zi=>cS (rConflict.1.getD (addz ((w64 (i+1)).toNat) zi) ByteArray.empty)) (zm - (0+((i).toNat - 0))))) zi] ⟨c,c2,rfl,c3,(fun _ _=>rfl),c4,c5,rfl,c6,(fun _ _=>rfl),(len_app_raw (len_app_raw rfl (len_ext' rConflict.1 0 ((i).toNat) c)) (len_ext' rConflict.1 ((w64 (i+1)).toNat) rConflict.1.length c4)),(len_app_raw (len_app_raw rfl (len_ext' rConflict.1 0 ((i).toNat) c)) (len_ext' rConflict.1 ((w64 (i+1)).toNat) rConflict.1.length c4)),(get_app_raw cS ByteArray.empty (([]:List ByteArray) ++ ((rConflict.1.take ((i).toNat)).drop 0)) ((rConflict.1.take rConflict.1.length).drop ((w64 (i+1)).toNat)) (len_app_raw rfl (len_ext' rConflict.1 0 ((i).toNat) c)) (get_app_raw cS ByteArray.empty ([]:List ByteArray) ((rConflict.1.take ((i).toNat)).drop 0) rfl (fun zq hzq=>absurd hzq (Nat.not_lt_zero _)) (fun zq hzq=>get_ext cS ByteArray.empty rConflict.1 0 ((i).toNat) zq hzq)) (fun zq hzq=>get_ext cS ByteArray.empty rConflict.1 ((w64 (i+1)).toNat) rConflict.1.length zq hzq)),trivial⟩ ?_
   refine sA 1 [.code (C_0 2096786),.code (C_0 2096787),.inBlock 1,.code (C_0 262099),.inLoop (C_0 65524),.inBlock 0,.code (C_0 8191)] ?_
   obtain ⟨rKept3,hr11,h⟩:=bindSome h
   refine sR hE ⟨[(2,(.op 0 0 0)),(3,(.op 1 0 0)),(5,(encL cS ByteArray.empty rConflict.1)),(8,(aI i)),(85,(aB (!rKept3)))],[(0,vO 5 (TPn.cells p)),(1,vO 5 (TLimits.cells l))],322⟩ (C_0 2096786) [(3,⟨[],true,(aB rKept3),[],0,false,none⟩)] [] (kp [2,3,5,8,85]) (kq [0,1]) 322 [0 < 1,0 < 1,Sd 13 [(.agg (TPn.cells p)),(.agg (TLimits.cells l)),(encL cS ByteArray.empty ((([]:List ByteArray) ++ ((rConflict.1.take ((i).toNat)).drop 0)) ++ ((rConflict.1.take rConflict.1.length).drop ((w64 (i+1)).toNat))))] [] 0 (aB rKept3) [],0+((([]:List ByteArray) ++ ((rConflict.1.take ((i).toNat)).drop 0)) ++ ((rConflict.1.take rConflict.1.length).drop ((w64 (i+1)).toNat))).length≤((([]:List ByteArray) ++ ((rConflict.1.take ((i).toNat)).drop 0)) ++ ((rConflict.1.take rConflict.1.length).drop ((w64 (i+1)).toNat))).length] ⟨o1,o1,(g_r05_Kept_ok N p l ((([]:List ByteArray) ++ ((rConflict.1.take ((i).toNat)).drop 0)) ++ ((rConflict.1.take rConflict.1.length).drop ((w64 (i+1)).toNat))) rKept3 hr11),z0,trivial⟩ ?_
   refine sC 85 (C_0 4193574) (C_0 4193575) (!rKept3) (fun hq11=>?_) (fun hq11=>?_)
   ·have h:=condT h hq11
    refine sA 1 [.code (C_0 8387148),.code (C_0 8387149),.inBlock 1,.code (C_0 262099),.inLoop (C_0 65524),.inBlock 0,.code (C_0 8191)] ?_
    refine sR hE ⟨[(4,(aB false))],[],338⟩ (C_0 8387148) [] [] (kp [4]) [] 338 [] trivial ?_
    obtain rfl:=Option.some.inj h
    refine sW hE ⟨[(4,(aB false))],[],338⟩ [] (kp [4]) [] 338 [] trivial ?_
    exact sT Tryz.f3 [] [] trivial
   ·have h:=condF h hq11
    refine sA 2 [.code (C_0 262099),.inLoop (C_0 65524),.inBlock 0,.code (C_0 8191)] ?_
    refine sR hE ⟨[(2,(.op 0 0 0)),(3,(.op 1 0 0)),(5,(encL cS ByteArray.empty rConflict.1)),(8,(aI (w64 (i+1))))],[(0,vO 5 (TPn.cells p)),(1,vO 5 (TLimits.cells l))],370⟩ (C_0 262099) [] [] (kp [2,3,5,8]) (kq [0,1]) 370 [] trivial ?_
    refine sA 1 [.code (C_0 65524),.inLoop (C_0 65524),.inBlock 0,.code (C_0 8191)] ?_
    exact sW hE _ [] (kp [2,3,5,8]) (kq [0,1]) 2 [] trivial (ih (w64 (i+1)) _ h E hE)
  ·have h:=condF h hq10
   refine sA 2 [.code (C_0 16382),.code (C_0 16383)] ?_
   refine sR hE ⟨[(4,(aB true))],[],82⟩ (C_0 16382) [] [] (kp [4]) [] 82 [] trivial ?_
   obtain rfl:=Option.some.inj h
   refine sW hE ⟨[(4,(aB true))],[],82⟩ [] (kp [4]) [] 82 [] trivial ?_
   exact sT Tryz.f3 [] [] trivial
theorem g_w05_WaterConflicts_J2_ok (N:Nat) (p:TPn) (l:TLimits) (rConflict:(List ByteArray)×Int) (f2:Int) (r:Bool) (h:g_w05_WaterConflicts_J2 N p l rConflict f2=some r):∀ E,EnvOk E 0→Runs Tryz.prog E 3 86 (SPost E [] (aB r)) [.code (C_0 1020),.code (C_0 1021),.code (C_0 511)] ⟨[(2,(.op 0 0 0)),(3,(.op 1 0 0)),(5,(encL cS ByteArray.empty rConflict.1)),(6,(aI rConflict.2)),(7,(aI f2))],[(0,vO 5 (TPn.cells p)),(1,vO 5 (TLimits.cells l))],2⟩:=by
 intro E hE
 unfold g_w05_WaterConflicts_J2 at h
 refine sR hE ⟨[(2,(.op 0 0 0)),(3,(.op 1 0 0)),(5,(encL cS ByteArray.empty rConflict.1)),(6,(aI rConflict.2)),(7,(aI f2)),(35,(aB (f2 != 0)))],[(0,vO 5 (TPn.cells p)),(1,vO 5 (TLimits.cells l))],34⟩ (C_0 1020) [] [] (kp [2,3,5,6,7,35]) (kq [0,1]) 34 [] trivial ?_
 refine sC 35 (C_0 2042) (C_0 2043) (f2 != 0) (fun hq6=>?_) (fun hq6=>?_)
 ·have h:=condT h hq6
  refine sA 1 [.code (C_0 4084),.code (C_0 4085),.code (C_0 511)] ?_
  refine sR hE ⟨[(4,(aB (cond (rConflict.2 == f2) (((rConflict.1.length:Nat):Int) == 0) false)))],[],178⟩ (C_0 4084) [] [] (kp [4]) [] 178 [(rConflict.2 == f2)=true→AllP [(rConflict.2 == f2)=true],(rConflict.2 == f2)=true→AllP [(rConflict.2 == f2)=true],(rConflict.2 == f2)=true→AllP [(rConflict.2 == f2)=true]] ⟨(fun hg=>⟨hg,trivial⟩),(fun hg=>⟨hg,trivial⟩),(fun hq=>⟨hq,trivial⟩),trivial⟩ ?_
  obtain rfl:=Option.some.inj h
  refine sW hE ⟨[(4,(aB (cond (rConflict.2 == f2) (((rConflict.1.length:Nat):Int) == 0) false)))],[],178⟩ [] (kp [4]) [] 178 [] trivial ?_
  exact sT Tryz.f3 [] [] trivial
 ·have h:=condF h hq6
  refine sA 3 [.code (C_0 2044),.code (C_0 2045),.code (C_0 1023)] ?_
  obtain ⟨rConflict2,hr7,h⟩:=bindSome h
  obtain ⟨rTexts,hr8,h⟩:=bindSome h
  refine sR hE ⟨[(2,(.op 0 0 0)),(3,(.op 1 0 0)),(5,(encL cS ByteArray.empty rConflict.1)),(53,(aB (cond (rConflict.2 != 0) true (!rTexts))))],[(0,vO 5 (TPn.cells p)),(1,vO 5 (TLimits.cells l))],194⟩ (C_0 2044) [(6,⟨[],true,(encL cS ByteArray.empty rConflict2),[],0,false,none⟩),(7,⟨[],true,(aB rTexts),[],0,false,none⟩)] [] (kp [2,3,5,53]) (kq [0,1]) 194 [(!(rConflict.2 != 0))=true→AllP [0 < 1],(!(rConflict.2 != 0))=true→AllP [0 < 1],(!(rConflict.2 != 0))=true→AllP [Sd 12 [(.agg (TPn.cells p)),(.agg (TLimits.cells l))] [] 0 (encL cS ByteArray.empty rConflict2) [],(!(rConflict.2 != 0))=true,(!(rConflict.2 != 0))=true],(!(rConflict.2 != 0))=true→AllP [Sd 11 [(encL cS ByteArray.empty rConflict.1),(encL cS ByteArray.empty rConflict2)] [] 0 (aB rTexts) [],(!(rConflict.2 != 0))=true,(!(rConflict.2 != 0))=true],(!(rConflict.2 != 0))=true→AllP [(!(rConflict.2 != 0))=true],(!(rConflict.2 != 0))=true→AllP [(!(rConflict.2 != 0))=true]] ⟨(fun hg=>⟨o1,trivial⟩),(fun hg=>⟨o1,trivial⟩),(fun hg=>⟨(g_r05_Conflict_ok N p l rConflict2 (condT hr7 hg)),hg,hg,trivial⟩),(fun hg=>⟨(g_b_Texts_ok N rConflict.1 rConflict2 rTexts (condT hr8 hg)),hg,hg,trivial⟩),(fun hg=>⟨hg,trivial⟩),(fun hq=>⟨hq,trivial⟩),trivial⟩ ?_
  refine sC 53 (C_0 4090) (C_0 4091) (cond (rConflict.2 != 0) true (!rTexts)) (fun hq7=>?_) (fun hq7=>?_)
  ·have h:=condT h hq7
   refine sA 1 [.code (C_0 8180),.code (C_0 8181),.code (C_0 1023)] ?_
   refine sR hE ⟨[(4,(aB false))],[],210⟩ (C_0 8180) [] [] (kp [4]) [] 210 [] trivial ?_
   obtain rfl:=Option.some.inj h
   refine sW hE ⟨[(4,(aB false))],[],210⟩ [] (kp [4]) [] 210 [] trivial ?_
   exact sT Tryz.f3 [] [] trivial
  ·have h:=condF h hq7
   refine sA 3 [.code (C_0 4092),.code (C_0 4093),.code (C_0 2047)] ?_
   refine sR hE ⟨[(2,(.op 0 0 0)),(3,(.op 1 0 0)),(5,(encL cS ByteArray.empty rConflict.1)),(56,(aB (((rConflict.1.length:Nat):Int) == 0)))],[(0,vO 5 (TPn.cells p)),(1,vO 5 (TLimits.cells l))],242⟩ (C_0 4092) [] [] (kp [2,3,5,56]) (kq [0,1]) 242 [] trivial ?_
   refine sC 56 (C_0 8186) (C_0 8187) (((rConflict.1.length:Nat):Int) == 0) (fun hq8=>?_) (fun hq8=>?_)
   ·have h:=condT h hq8
    refine sA 1 [.code (C_0 16372),.code (C_0 16373),.code (C_0 2047)] ?_
    obtain ⟨rKept,hr9,h⟩:=bindSome h
    refine sR hE ⟨[(4,(aB rKept))],[],322⟩ (C_0 16372) [(3,⟨[],true,(aB rKept),[],0,false,none⟩)] [] (kp [4]) [] 322 [0 < 1,0 < 1,Sd 13 [(.agg (TPn.cells p)),(.agg (TLimits.cells l)),(.sl 4 (fun zi=>(fun zi=>([[(aS (⟨#[100,114,97,117,103,104,116]⟩:ByteArray))],[(aS (⟨#[116,114,105,109]⟩:ByteArray))],[(aS (⟨#[104,101,101,108]⟩:ByteArray))],[(aS (⟨#[104,111,103]⟩:ByteArray))]]:List (List AV)).getD zi []) (addz 0 zi)))] [] 0 (aB rKept) [],0+4≤4] ⟨o1,o1,(Sound.conv (g_r05_Kept_ok N p l ([(⟨#[100,114,97,117,103,104,116]⟩:ByteArray),(⟨#[116,114,105,109]⟩:ByteArray),(⟨#[104,101,101,108]⟩:ByteArray),(⟨#[104,111,103]⟩:ByteArray)]:List ByteArray) rKept hr9) (.cons (Alike.refl _) (.cons (Alike.refl _) (.cons (Alike.sl rfl (fun zq hzq=>get_chunk cS ByteArray.empty ([(⟨#[100,114,97,117,103,104,116]⟩:ByteArray),(⟨#[116,114,105,109]⟩:ByteArray),(⟨#[104,101,101,108]⟩:ByteArray),(⟨#[104,111,103]⟩:ByteArray)]:List ByteArray) zq hzq)) .nil)))),z0,trivial⟩ ?_
    obtain rfl:=Option.some.inj h
    refine sW hE ⟨[(4,(aB rKept))],[],322⟩ [] (kp [4]) [] 322 [] trivial ?_
    exact sT Tryz.f3 [] [] trivial
   ·have h:=condF h hq8
    refine sA 3 [.code (C_0 8188),.code (C_0 8189),.code (C_0 4095)] ?_
    obtain ⟨rKept2,hr10,h⟩:=bindSome h
    refine sR hE ⟨[(2,(.op 0 0 0)),(3,(.op 1 0 0)),(5,(encL cS ByteArray.empty rConflict.1)),(64,(aB rKept2))],[(0,vO 5 (TPn.cells p)),(1,vO 5 (TLimits.cells l))],306⟩ (C_0 8188) [(3,⟨[],true,(aB rKept2),[],0,false,none⟩)] [] (kp [2,3,5,64]) (kq [0,1]) 306 [0 < 1,0 < 1,Sd 13 [(.agg (TPn.cells p)),(.agg (TLimits.cells l)),(encL cS ByteArray.empty rConflict.1)] [] 0 (aB rKept2) []] ⟨o1,o1,(g_r05_Kept_ok N p l rConflict.1 rKept2 hr10),trivial⟩ ?_
    refine sC 64 (C_0 16378) (C_0 16379) rKept2 (fun hq9=>?_) (fun hq9=>?_)
    ·have h:=condT h hq9
     refine sA 1 [.code (C_0 32756),.code (C_0 32757),.code (C_0 4095)] ?_
     refine sR hE ⟨[(4,(aB false))],[],322⟩ (C_0 32756) [] [] (kp [4]) [] 322 [] trivial ?_
     obtain rfl:=Option.some.inj h
     refine sW hE ⟨[(4,(aB false))],[],322⟩ [] (kp [4]) [] 322 [] trivial ?_
     exact sT Tryz.f3 [] [] trivial
    ·have h:=condF h hq9
     refine sA 3 [.code (C_0 16380),.code (C_0 16381),.code (C_0 8191)] ?_
     refine sR hE ⟨[(2,(.op 0 0 0)),(3,(.op 1 0 0)),(5,(encL cS ByteArray.empty rConflict.1)),(8,(aI 0))],[(0,vO 5 (TPn.cells p)),(1,vO 5 (TLimits.cells l))],322⟩ (C_0 16380) [] [] (kp [2,3,5,8]) (kq [0,1]) 322 [] trivial ?_
     refine sA 2 [.code (C_0 65524),.inLoop (C_0 65524),.inBlock 0,.code (C_0 8191)] ?_
     exact sW hE _ [] (kp [2,3,5,8]) (kq [0,1]) 2 [] trivial (g_w05_WaterConflicts_L3_ok N p l rConflict N 0 _ h E hE)
theorem g_w05_WaterConflicts_J1_ok (N:Nat) (p:TPn) (l:TLimits) (rConflict:(List ByteArray)×Int) (f:Int) (r:Bool) (h:g_w05_WaterConflicts_J1 N p l rConflict f=some r):∀ E,EnvOk E 0→Runs Tryz.prog E 3 86 (SPost E [] (aB r)) [.code (C_0 508),.code (C_0 509),.code (C_0 255)] ⟨[(2,(.op 0 0 0)),(3,(.op 1 0 0)),(5,(encL cS ByteArray.empty rConflict.1)),(6,(aI rConflict.2)),(7,(aI f))],[(0,vO 5 (TPn.cells p)),(1,vO 5 (TLimits.cells l))],2⟩:=by
 intro E hE
 unfold g_w05_WaterConflicts_J1 at h
 obtain ⟨rStates,hr6,h⟩:=bindSome h
 refine sR hE ⟨[(2,(.op 0 0 0)),(3,(.op 1 0 0)),(5,(encL cS ByteArray.empty rConflict.1)),(6,(aI rConflict.2)),(7,(aI f)),(33,(aB (cond (f == 0) (decide (rStates > 20000)) false)))],[(0,vO 5 (TPn.cells p)),(1,vO 5 (TLimits.cells l))],114⟩ (C_0 508) [(4,⟨[],true,(aI rStates),[],0,false,none⟩)] [] (kp [2,3,5,6,7,33]) (kq [0,1]) 114 [(f == 0)=true→AllP [0 < 1],(f == 0)=true→AllP [Sd 10 [(.agg (TPn.cells p)),(aI 20000)] [] 0 (aI rStates) [],(f == 0)=true],(f == 0)=true→AllP [(f == 0)=true],(f == 0)=true→AllP [(f == 0)=true]] ⟨(fun hg=>⟨o1,trivial⟩),(fun hg=>⟨(g_r05_States_ok N p 20000 rStates (condT hr6 hg)),hg,trivial⟩),(fun hg=>⟨hg,trivial⟩),(fun hq=>⟨hq,trivial⟩),trivial⟩ ?_
 refine sC 33 (C_0 1018) (C_0 1019) (cond (f == 0) (decide (rStates > 20000)) false) (fun hq5=>?_) (fun hq5=>?_)
 ·have h:=condT h hq5
  refine sR hE ⟨[(2,(.op 0 0 0)),(3,(.op 1 0 0)),(5,(encL cS ByteArray.empty rConflict.1)),(6,(aI rConflict.2)),(7,(aI 8))],[(0,vO 5 (TPn.cells p)),(1,vO 5 (TLimits.cells l))],130⟩ (C_0 1018) [] [] (kp [2,3,5,6,7]) (kq [0,1]) 130 [] trivial ?_
  refine sA 2 [.code (C_0 1020),.code (C_0 1021),.code (C_0 511)] ?_
  exact sW hE _ [] (kp [2,3,5,6,7]) (kq [0,1]) 2 [] trivial (g_w05_WaterConflicts_J2_ok N p l rConflict 8 _ h E hE)
 ·have h:=condF h hq5
  refine sA 3 [.code (C_0 1020),.code (C_0 1021),.code (C_0 511)] ?_
  exact sW hE _ [] (kp [2,3,5,6,7]) (kq [0,1]) 2 [] trivial (g_w05_WaterConflicts_J2_ok N p l rConflict f _ h E hE)
theorem g_w05_WaterConflicts_ok (N:Nat) (p:TPn) (l:TLimits) (r:Bool) (h:g_w05_WaterConflicts N p l=some r):Sd 3 [(.agg (TPn.cells p)),(.agg (TLimits.cells l))] [] 0 (aB r) []:=by
 unfold g_w05_WaterConflicts at h
 refine Sound.of_runs (fu:=Tryz.f3) (c:=C_0 1) (nt:=86) (by kernel_rfl) (by kernel_rfl) (by kernel_rfl) (by kernel_rfl) (fun hm=>rfl) ?_
 intro E hE
 refine sA 1 [.code (C_0 2),.code (C_0 3)] ?_
 refine sR hE ⟨[(2,(.op 0 0 0)),(3,(.op 16 0 0))],[(0,vO 5 (TPn.cells p)),(16,vO 5 (TLimits.cells l))],48⟩ (C_0 2) [] [] (kp [2,3]) (kq [0,16]) 48 [] trivial ?_
 refine sA 2 [.code (C_0 12),.code (C_0 13),.code (C_0 7)] ?_
 obtain ⟨rafloat,hr,h⟩:=bindSome h
 refine sR hE ⟨[(2,(.op 0 0 0)),(3,(.op 16 0 0)),(11,(aB (!rafloat)))],[(0,vO 5 (TPn.cells p)),(16,vO 5 (TLimits.cells l))],80⟩ (C_0 12) [(0,⟨[],true,(aB rafloat),[],0,false,none⟩)] [] (kp [2,3,11]) (kq [0,16]) 80 [Sd 5 [] [] 0 (aB rafloat) []] ⟨(g_w05_afloat_ok N rafloat hr),trivial⟩ ?_
 refine sC 11 (C_0 26) (C_0 27) (!rafloat) (fun hq2=>?_) (fun hq2=>?_)
 ·have h:=condT h hq2
  refine sA 1 [.code (C_0 52),.code (C_0 53),.code (C_0 7)] ?_
  refine sR hE ⟨[(4,(aB false))],[],96⟩ (C_0 52) [] [] (kp [4]) [] 96 [] trivial ?_
  obtain rfl:=Option.some.inj h
  refine sW hE ⟨[(4,(aB false))],[],96⟩ [] (kp [4]) [] 96 [] trivial ?_
  exact sT Tryz.f3 [] [] trivial
 ·have h:=condF h hq2
  refine sA 3 [.code (C_0 28),.code (C_0 29),.code (C_0 15)] ?_
  obtain ⟨rlight,hr2,h⟩:=bindSome h
  refine sR hE ⟨[(2,(.op 0 0 0)),(3,(.op 16 0 0)),(14,(aB (!rlight)))],[(0,vO 5 (TPn.cells p)),(16,vO 5 (TLimits.cells l))],128⟩ (C_0 28) [(1,⟨[],true,(aB rlight),[],0,false,none⟩)] [] (kp [2,3,14]) (kq [0,16]) 128 [0 < 1,Sd 6 [(.agg (TPn.cells p))] [] 0 (aB rlight) []] ⟨o1,(g_w05_light_ok N p rlight hr2),trivial⟩ ?_
  refine sC 14 (C_0 58) (C_0 59) (!rlight) (fun hq3=>?_) (fun hq3=>?_)
  ·have h:=condT h hq3
   refine sA 1 [.code (C_0 116),.code (C_0 117),.code (C_0 15)] ?_
   refine sR hE ⟨[(4,(aB true))],[],144⟩ (C_0 116) [] [] (kp [4]) [] 144 [] trivial ?_
   obtain rfl:=Option.some.inj h
   refine sW hE ⟨[(4,(aB true))],[],144⟩ [] (kp [4]) [] 144 [] trivial ?_
   exact sT Tryz.f3 [] [] trivial
  ·have h:=condF h hq3
   refine sA 2 [.code (C_0 30),.code (C_0 31)] ?_
   obtain ⟨rConflict,hr3,h⟩:=bindSome h
   refine sR hE ⟨[(2,(.op 0 0 0)),(3,(.op 16 0 0)),(5,(encL cS ByteArray.empty rConflict.1)),(6,(aI rConflict.2))],[(0,vO 5 (TPn.cells p)),(16,vO 5 (TLimits.cells l))],256⟩ (C_0 30) [(2,⟨[],true,(.tup [(encL cS ByteArray.empty rConflict.1),(aI rConflict.2)]),[],0,false,none⟩)] [] (kp [2,3,5,6]) (kq [0,16]) 256 [0 < 1,0 < 1,Sd 7 [(.agg (TPn.cells p)),(.agg (TLimits.cells l))] [] 0 (.tup [(encL cS ByteArray.empty rConflict.1),(aI rConflict.2)]) []] ⟨o1,o1,(g_w_Conflict_ok N p l rConflict hr3),trivial⟩ ?_
   refine sA 1 [.code (C_0 62),.code (C_0 63)] ?_
   obtain ⟨rCP,hr4,h⟩:=bindSome h
   refine sR hE ⟨[(2,(.op 0 0 0)),(3,(.op 16 0 0)),(5,(encL cS ByteArray.empty rConflict.1)),(6,(aI rConflict.2)),(7,(aI rCP))],[(0,vO 5 (TPn.cells p)),(16,vO 5 (TLimits.cells l))],304⟩ (C_0 62) [(1,⟨[],true,(aI rCP),[],0,false,none⟩)] [] (kp [2,3,5,6,7]) (kq [0,16]) 304 [0 < 1,Sd 8 [(.agg (TPn.cells p))] [] 0 (aI rCP) []] ⟨o1,(g_r05_CheckPontoon_ok N p rCP hr4),trivial⟩ ?_
   refine sA 2 [.code (C_0 252),.code (C_0 253),.code (C_0 127)] ?_
   refine sR hE ⟨[(2,(.op 0 0 0)),(3,(.op 16 0 0)),(5,(encL cS ByteArray.empty rConflict.1)),(6,(aI rConflict.2)),(7,(aI rCP)),(24,(aB (rCP == 0)))],[(0,vO 5 (TPn.cells p)),(16,vO 5 (TLimits.cells l))],336⟩ (C_0 252) [] [] (kp [2,3,5,6,7,24]) (kq [0,16]) 336 [] trivial ?_
   refine sC 24 (C_0 506) (C_0 507) (rCP == 0) (fun hq4=>?_) (fun hq4=>?_)
   ·have h:=condT h hq4
    obtain ⟨rCheckLimits,hr5,h⟩:=bindSome h
    refine sR hE ⟨[(2,(.op 0 0 0)),(3,(.op 16 0 0)),(5,(encL cS ByteArray.empty rConflict.1)),(6,(aI rConflict.2)),(7,(aI rCheckLimits))],[(0,vO 5 (TPn.cells p)),(16,vO 5 (TLimits.cells l))],384⟩ (C_0 506) [(1,⟨[],true,(aI rCheckLimits),[],0,false,none⟩)] [] (kp [2,3,5,6,7]) (kq [0,16]) 384 [0 < 1,Sd 9 [(.agg (TLimits.cells l))] [] 0 (aI rCheckLimits) []] ⟨o1,(g_r05_CheckLimits_ok N l rCheckLimits hr5),trivial⟩ ?_
    refine sA 2 [.code (C_0 508),.code (C_0 509),.code (C_0 255)] ?_
    exact sW hE _ [] (kp [2,3,5,6,7]) (kq [0] ++ [(1,.keep 16)]) 2 [] trivial (g_w05_WaterConflicts_J1_ok N p l rConflict rCheckLimits _ h E hE)
   ·have h:=condF h hq4
    refine sA 3 [.code (C_0 508),.code (C_0 509),.code (C_0 255)] ?_
    exact sW hE _ [] (kp [2,3,5,6,7]) (kq [0] ++ [(1,.keep 16)]) 2 [] trivial (g_w05_WaterConflicts_J1_ok N p l rConflict rCP _ h E hE)
end Go.Den
